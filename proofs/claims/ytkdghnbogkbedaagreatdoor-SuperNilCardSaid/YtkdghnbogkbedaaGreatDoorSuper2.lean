/-
  The package super: find; of no log nothing comes. The law's example.
-/
import Derived.Test.YtkdghnbogkbedaaGreatDoorSuper
import Derived.Test.YtkdghnbogkbedaaGreatDoorXRef09
import Derived.Test.YtkdghnbogkbedaaGreatDoorXLaw18
namespace Go.Sh
open Go Go.RowKit

def findW (fs : List Freeze) (q : Int) : Option Nat := fs.findIdx? (fun f => decide (f.window = q))
end Go.Sh
namespace Go.Proofs.YtkdghnbogkbedaaGreatDoor
open Go Go.Sh Go.RowKit
set_option maxRecDepth 100000
set_option maxHeartbeats 1000000
set_option linter.unusedSimpArgs false
set_option linter.unusedVariables false

theorem find_is (f : Freeze) (q : Int) (gw : Nat) (w : World) (hb : Blk w gw 3 [.int .i64 q]) : Ret Tryz.prog 80 #[f.v, .pointer (some ⟨gw, 0, none⟩)] w (.bool (decide (f.window = q))) := by
  refine c80 ?_
  unfold s80
  refine SV_box (vs := f.cells) rfl fun g1 w1 hg1 b1 h1 => ?_
  (first | refine SV_p (by first | exact True.intro | omega | (simp only [List.length_append, List.length_cons, List.length_nil, List.length_replicate, List.length_map]; omega)) ?_ | refine HV_p (by first | exact True.intro | omega | (simp only [List.length_append, List.length_cons, List.length_nil, List.length_replicate, List.length_map]; omega)) ?_)
  refine SV_load b1 (Freeze.fld0 f) ?_
  refine SV_load (hb.no h1) rfl ?_
  (first | refine SV_p (by first | exact True.intro | omega | (simp only [List.length_append, List.length_cons, List.length_nil, List.length_replicate, List.length_map]; omega)) ?_ | refine HV_p (by first | exact True.intro | omega | (simp only [List.length_append, List.length_cons, List.length_nil, List.length_replicate, List.length_map]; omega)) ?_)
  exact ⟨rfl, h1⟩

theorem index_window {v : Value} {fs : List Freeze} {q : Int} {gw : Nat} {w : World} (hr : Rd w 31 34 v fs.length (frs fs)) (hb : Blk w gw 3 [.int .i64 q]) (hn : fs.length ≤ 1000000000) :
    Ret Tryz.prog 79 #[v, .func (.func 80) #[] #[.pointer (some ⟨gw, 0, none⟩)]] w (.int .i64 (match findW fs q with | some i => (i : Int) | none => -1)) := by
  obtain ⟨A, c, rfl, _⟩ := hr.form
  refine c79 ?_
  unfold s79
  (first | refine SV_p (by first | exact True.intro | omega | (simp only [List.length_append, List.length_cons, List.length_nil, List.length_replicate, List.length_map]; omega)) ?_ | refine HV_p (by first | exact True.intro | omega | (simp only [List.length_append, List.length_cons, List.length_nil, List.length_replicate, List.length_map]; omega)) ?_)
  refine LP_intro (fun us w' => ∃ i : Nat, us = [.int .i64 i] ∧ i ≤ fs.length ∧ (∀ j (hj : j < fs.length), j < i → fs[j].window ≠ q) ∧ Ch No w w') (fun us _ => match us with | [.int _ t] => (fs.length - t).toNat | _ => 0)
    ⟨0, rfl, by omega, fun j _ h => by omega, Ch.refl _⟩ ?_
  rintro us hus ζ w1 ⟨i, rfl, hi, hno, h1⟩
  unfold s79_l1
  simp only [List.getD_cons_zero, List.getD_cons_succ]
  (first | refine SV_p (by first | exact True.intro | omega | (simp only [List.length_append, List.length_cons, List.length_nil, List.length_replicate, List.length_map]; omega)) ?_ | refine HV_p (by first | exact True.intro | omega | (simp only [List.length_append, List.length_cons, List.length_nil, List.length_replicate, List.length_map]; omega)) ?_)
  refine CN_split (fun hlt => ?_) (fun hge => ?_)
  · have hi' : i < fs.length := by omega
    refine SV_idx (hr.no h1) (by omega) (by omega) fun p hp => ?_
    rw [Int.toNat_natCast, show (frs fs).drop (i * 34) = (fs.flatMap Freeze.cells).drop (i * 34) from rfl, flat_at Freeze.len hi'] at hp
    refine SV_ptrN hp (Freeze.len _) ?_
    refine SN_fn (n80 ((find_is fs[i] q gw w1 (hb.no h1)).use fun w2 h2 => ?_))
    refine CN_split (fun heq => ?_) (fun hne => ?_)
    · have hf : findW fs q = some i := by
        unfold findW
        rw [List.findIdx?_eq_some_iff_getElem]
        exact ⟨hi', by simpa using heq, fun j hj => by simpa using hno j (by omega) hj⟩
      rw [hf]
      exact ⟨rfl, h1.trans h2⟩
    · (first | refine SV_p (by first | exact True.intro | omega | (simp only [List.length_append, List.length_cons, List.length_nil, List.length_replicate, List.length_map]; omega)) ?_ | refine HV_p (by first | exact True.intro | omega | (simp only [List.length_append, List.length_cons, List.length_nil, List.length_replicate, List.length_map]; omega)) ?_)
      refine ⟨⟨i + 1, rfl, by omega, fun j hj hji => ?_, h1.trans h2⟩, ?_⟩
      · by_cases h : j = i
        · subst h; exact hne
        · exact hno j hj (by omega)
      · show ((fs.length : Int) - ((i : Int) + 1)).toNat < ((fs.length : Int) - (i : Int)).toNat
        omega
  · have hf : findW fs q = none := by
      unfold findW
      rw [List.findIdx?_eq_none_iff]
      intro x hx
      obtain ⟨j, hj, rfl⟩ := List.mem_iff_getElem.1 hx
      simpa using hno j hj (by omega)
    rw [hf]
    exact ⟨rfl, h1⟩

theorem super_find {g : Nat} {fv : Value} {fs : List Freeze} {q : Int} {w : World} (h : SuperAt w g fv fs) (hn : fs.length ≤ 1000000000) :
    Ret Tryz.prog 19 #[.pointer (some ⟨g, 0, none⟩), .int .i64 q] w (.tuple #[.int .i64 ((findW fs q).getD 0 : Nat), .bool (findW fs q).isSome]) := by
  obtain ⟨⟨va, vl, b, ha, hl⟩, _, _⟩ := h
  refine c19 ?_
  unfold s19
  refine SV_box (vs := [.int .i64 q]) rfl fun g1 w1 hg1 b1 h1 => ?_
  (first | refine SV_p (by first | exact True.intro | omega | (simp only [List.length_append, List.length_cons, List.length_nil, List.length_replicate, List.length_map]; omega)) ?_ | refine HV_p (by first | exact True.intro | omega | (simp only [List.length_append, List.length_cons, List.length_nil, List.length_replicate, List.length_map]; omega)) ?_)
  refine CN_ff ?_
  (first | refine SV_p (by first | exact True.intro | omega | (simp only [List.length_append, List.length_cons, List.length_nil, List.length_replicate, List.length_map]; omega)) ?_ | refine HV_p (by first | exact True.intro | omega | (simp only [List.length_append, List.length_cons, List.length_nil, List.length_replicate, List.length_map]; omega)) ?_)
  (first | refine SV_p (by first | exact True.intro | omega | (simp only [List.length_append, List.length_cons, List.length_nil, List.length_replicate, List.length_map]; omega)) ?_ | refine HV_p (by first | exact True.intro | omega | (simp only [List.length_append, List.length_cons, List.length_nil, List.length_replicate, List.length_map]; omega)) ?_)
  refine SV_load (b.no h1) (v := va) rfl ?_
  (first | refine SV_p (by first | exact True.intro | omega | (simp only [List.length_append, List.length_cons, List.length_nil, List.length_replicate, List.length_map]; omega)) ?_ | refine HV_p (by first | exact True.intro | omega | (simp only [List.length_append, List.length_cons, List.length_nil, List.length_replicate, List.length_map]; omega)) ?_)
  refine n79 ((index_window (ha.no h1) b1 hn).use fun w2 h2 => ?_)
  (first | refine SV_p (by first | exact True.intro | omega | (simp only [List.length_append, List.length_cons, List.length_nil, List.length_replicate, List.length_map]; omega)) ?_ | refine HV_p (by first | exact True.intro | omega | (simp only [List.length_append, List.length_cons, List.length_nil, List.length_replicate, List.length_map]; omega)) ?_)
  (first | refine SV_p (by first | exact True.intro | omega | (simp only [List.length_append, List.length_cons, List.length_nil, List.length_replicate, List.length_map]; omega)) ?_ | refine HV_p (by first | exact True.intro | omega | (simp only [List.length_append, List.length_cons, List.length_nil, List.length_replicate, List.length_map]; omega)) ?_)
  refine ⟨?_, h1.trans h2⟩
  cases hf : findW fs q with
  | none => rfl
  | some i =>
    simp only [Option.getD_some, Option.isSome_some]
    have e1 : max (i : Int) 0 = (i : Int) := by omega
    have e2 : decide (0 ≤ (i : Int)) = true := by simp
    rw [e1, e2]

/-! ## Of no log -/

section
variable {w : World}
theorem super_nil_anchor {f : Freeze} : Ret Tryz.prog 15 #[.pointer none, f.v] w (.tuple #[.int .i64 0, .int .i64 1]) := by
  refine c15 ?_
  unfold s15
  refine SV_box (vs := f.cells) rfl fun g3 w1 hg3 b3 h1 => ?_
  refine SV_loadB b3 f.len ?_
  refine n71 ((freeze_says f _).use fun w2 h2 => ?_)
  (first | refine SV_p (by first | exact True.intro | omega | (simp only [List.length_append, List.length_cons, List.length_nil, List.length_replicate, List.length_map]; omega)) ?_ | refine HV_p (by first | exact True.intro | omega | (simp only [List.length_append, List.length_cons, List.length_nil, List.length_replicate, List.length_map]; omega)) ?_)
  (first | refine SV_p (by first | exact True.intro | omega | (simp only [List.length_append, List.length_cons, List.length_nil, List.length_replicate, List.length_map]; omega)) ?_ | refine HV_p (by first | exact True.intro | omega | (simp only [List.length_append, List.length_cons, List.length_nil, List.length_replicate, List.length_map]; omega)) ?_)
  (first | refine SV_p (by first | exact True.intro | omega | (simp only [List.length_append, List.length_cons, List.length_nil, List.length_replicate, List.length_map]; omega)) ?_ | refine HV_p (by first | exact True.intro | omega | (simp only [List.length_append, List.length_cons, List.length_nil, List.length_replicate, List.length_map]; omega)) ?_)
  refine GD_tf ?_
  exact ⟨rfl, h1.trans h2⟩
theorem super_nil_at {i : Int} : Ret Tryz.prog 16 #[.pointer none, .int .i64 i] w (.tuple #[Freeze.zero.v, .int .i64 1]) := by
  refine c16 ?_
  unfold s16
  refine SV_alloc fun g1 w1 hg1 b1 h1 => ?_
  (first | refine SV_p (by first | exact True.intro | omega | (simp only [List.length_append, List.length_cons, List.length_nil, List.length_replicate, List.length_map]; omega)) ?_ | refine HV_p (by first | exact True.intro | omega | (simp only [List.length_append, List.length_cons, List.length_nil, List.length_replicate, List.length_map]; omega)) ?_)
  refine CN_tt ?_
  refine SV_pu (pu_build (FillOk.nil _)) ?_
  refine SU_storeB b1 (vs := Freeze.zero.cells) (Freeze.len _) (Freeze.len _) (Freeze.ones _) fun w2 b2 h2 => ?_
  refine CR_N b2 (Freeze.len _) ?_
  exact ⟨rfl, h1.own h2 hg1⟩
theorem super_nil_first {n : Int} : Ret Tryz.prog 75 #[.pointer none, .int .i64 n] w (.tuple #[.slice none 0 0, .int .i64 1]) := by
  refine c75 ?_
  unfold s75
  (first | refine SV_p (by first | exact True.intro | omega | (simp only [List.length_append, List.length_cons, List.length_nil, List.length_replicate, List.length_map]; omega)) ?_ | refine HV_p (by first | exact True.intro | omega | (simp only [List.length_append, List.length_cons, List.length_nil, List.length_replicate, List.length_map]; omega)) ?_)
  refine CN_tt ?_
  exact ⟨rfl, Ch.refl w⟩
theorem super_nil_path {i n : Int} : Ret Tryz.prog 17 #[.pointer none, .int .i64 i, .int .i64 n] w (.tuple #[.slice none 0 0, .int .i64 1]) := by
  refine c17 ?_
  unfold s17
  refine n75 (super_nil_first.use fun w1 h1 => ?_)
  (first | refine SV_p (by first | exact True.intro | omega | (simp only [List.length_append, List.length_cons, List.length_nil, List.length_replicate, List.length_map]; omega)) ?_ | refine HV_p (by first | exact True.intro | omega | (simp only [List.length_append, List.length_cons, List.length_nil, List.length_replicate, List.length_map]; omega)) ?_)
  (first | refine SV_p (by first | exact True.intro | omega | (simp only [List.length_append, List.length_cons, List.length_nil, List.length_replicate, List.length_map]; omega)) ?_ | refine HV_p (by first | exact True.intro | omega | (simp only [List.length_append, List.length_cons, List.length_nil, List.length_replicate, List.length_map]; omega)) ?_)
  (first | refine SV_p (by first | exact True.intro | omega | (simp only [List.length_append, List.length_cons, List.length_nil, List.length_replicate, List.length_map]; omega)) ?_ | refine HV_p (by first | exact True.intro | omega | (simp only [List.length_append, List.length_cons, List.length_nil, List.length_replicate, List.length_map]; omega)) ?_)
  refine CN_true (by decide) ?_
  exact ⟨rfl, h1⟩
theorem super_nil_links {i n : Int} : Ret Tryz.prog 18 #[.pointer none, .int .i64 i, .int .i64 n] w (.tuple #[.slice none 0 0, .int .i64 1]) := by
  refine c18 ?_
  unfold s18
  refine n75 (super_nil_first.use fun w1 h1 => ?_)
  (first | refine SV_p (by first | exact True.intro | omega | (simp only [List.length_append, List.length_cons, List.length_nil, List.length_replicate, List.length_map]; omega)) ?_ | refine HV_p (by first | exact True.intro | omega | (simp only [List.length_append, List.length_cons, List.length_nil, List.length_replicate, List.length_map]; omega)) ?_)
  (first | refine SV_p (by first | exact True.intro | omega | (simp only [List.length_append, List.length_cons, List.length_nil, List.length_replicate, List.length_map]; omega)) ?_ | refine HV_p (by first | exact True.intro | omega | (simp only [List.length_append, List.length_cons, List.length_nil, List.length_replicate, List.length_map]; omega)) ?_)
  (first | refine SV_p (by first | exact True.intro | omega | (simp only [List.length_append, List.length_cons, List.length_nil, List.length_replicate, List.length_map]; omega)) ?_ | refine HV_p (by first | exact True.intro | omega | (simp only [List.length_append, List.length_cons, List.length_nil, List.length_replicate, List.length_map]; omega)) ?_)
  refine CN_true (by decide) ?_
  exact ⟨rfl, h1⟩
theorem super_nil_find {q : Int} : Ret Tryz.prog 19 #[.pointer none, .int .i64 q] w (.tuple #[.int .i64 0, .bool false]) := by
  refine c19 ?_
  unfold s19
  refine SV_box (vs := [.int .i64 q]) rfl fun g1 w1 hg1 b1 h1 => ?_
  (first | refine SV_p (by first | exact True.intro | omega | (simp only [List.length_append, List.length_cons, List.length_nil, List.length_replicate, List.length_map]; omega)) ?_ | refine HV_p (by first | exact True.intro | omega | (simp only [List.length_append, List.length_cons, List.length_nil, List.length_replicate, List.length_map]; omega)) ?_)
  refine CN_tt ?_
  exact ⟨rfl, h1⟩
theorem super_nil_size : Ret Tryz.prog 22 #[.pointer none] w (.int .i64 0) := by
  refine c22 ?_
  unfold s22
  (first | refine SV_p (by first | exact True.intro | omega | (simp only [List.length_append, List.length_cons, List.length_nil, List.length_replicate, List.length_map]; omega)) ?_ | refine HV_p (by first | exact True.intro | omega | (simp only [List.length_append, List.length_cons, List.length_nil, List.length_replicate, List.length_map]; omega)) ?_)
  refine CN_tt ?_
  exact ⟨rfl, Ch.refl w⟩
theorem super_nil_all : Ret Tryz.prog 23 #[.pointer none] w (.slice none 0 0) := by
  refine c23 ?_
  unfold s23
  (first | refine SV_p (by first | exact True.intro | omega | (simp only [List.length_append, List.length_cons, List.length_nil, List.length_replicate, List.length_map]; omega)) ?_ | refine HV_p (by first | exact True.intro | omega | (simp only [List.length_append, List.length_cons, List.length_nil, List.length_replicate, List.length_map]; omega)) ?_)
  refine CN_tt ?_
  exact ⟨rfl, Ch.refl w⟩
theorem super_nil_root (hK : KeysAt w) (h1s : 1 < w.heap.size) : Ret Tryz.prog 24 #[.pointer none] w emptyOf.v := by
  refine c24 ?_
  unfold s24
  refine SV_alloc fun g1 w1 hg1 b1 h1 => ?_
  refine n22 (super_nil_size.use fun w2 h2 => ?_)
  (first | refine SV_p (by first | exact True.intro | omega | (simp only [List.length_append, List.length_cons, List.length_nil, List.length_replicate, List.length_map]; omega)) ?_ | refine HV_p (by first | exact True.intro | omega | (simp only [List.length_append, List.length_cons, List.length_nil, List.length_replicate, List.length_map]; omega)) ?_)
  refine CN_true (by decide) ?_
  have hc := h1.trans h2
  have z := hc.size
  refine n86 ((leaf_empty _ (hK.no hc) (by omega)).use fun w3 h3 => ?_)
  refine SU_storeB ((b1.no h2).no h3) (Sum.len _) Sum.zero.len (Sum.ones _) fun w4 b4 h4 => ?_
  refine CR_N b4 (Sum.len _) ?_
  exact ⟨rfl, (hc.trans h3).own h4 hg1⟩
theorem super_nil_copy : Ret Tryz.prog 25 #[.pointer none] w (.pointer none) := by
  refine c25 ?_
  unfold s25
  (first | refine SV_p (by first | exact True.intro | omega | (simp only [List.length_append, List.length_cons, List.length_nil, List.length_replicate, List.length_map]; omega)) ?_ | refine HV_p (by first | exact True.intro | omega | (simp only [List.length_append, List.length_cons, List.length_nil, List.length_replicate, List.length_map]; omega)) ?_)
  refine CN_tt ?_
  exact ⟨rfl, Ch.refl w⟩
theorem super_nil_head {key : List UInt8} {clock : Int} (hk : key.length ≤ 1000000000) (hK : KeysAt w) (h1s : 1 < w.heap.size) : Ret Tryz.prog 26 #[.pointer none, str key, .int .i64 clock] w (headOf key 0 emptyOf clock).v := by
  refine c26 ?_
  unfold s26
  refine SV_alloc fun g1 w1 hg1 b1 h1 => ?_
  refine n22 (super_nil_size.use fun w2 h2 => ?_)
  have hc2 := h1.trans h2
  have z2 := hc2.size
  refine n24 ((super_nil_root (hK.no hc2) (by omega)).use fun w3 h3 => ?_)
  have hc3 := hc2.trans h3
  have z3 := hc3.size
  refine n90 ((seal_head key hk 0 emptyOf clock _ (hK.no hc3) (by omega)).use fun w4 h4 => ?_)
  refine SU_storeB (((b1.no h2).no h3).no h4) (Head.len _) (Head.len _) (Head.ones _) fun w5 b5 h5 => ?_
  refine CR_N b5 (Head.len _) ?_
  exact ⟨rfl, (hc3.trans h4).own h5 hg1⟩
theorem ref_root_nil : Ret Tryz.prog 20 #[.slice none 0 0] w emptyOf.v := by
  refine c20 ?_
  unfold s20
  refine SV_alloc fun g1 w1 hg1 b1 h1 => ?_
  (first | refine SV_p (by first | exact True.intro | omega | (simp only [List.length_append, List.length_cons, List.length_nil, List.length_replicate, List.length_map]; omega)) ?_ | refine HV_p (by first | exact True.intro | omega | (simp only [List.length_append, List.length_cons, List.length_nil, List.length_replicate, List.length_map]; omega)) ?_)
  (first | refine SV_p (by first | exact True.intro | omega | (simp only [List.length_append, List.length_cons, List.length_nil, List.length_replicate, List.length_map]; omega)) ?_ | refine HV_p (by first | exact True.intro | omega | (simp only [List.length_append, List.length_cons, List.length_nil, List.length_replicate, List.length_map]; omega)) ?_)
  refine CN_true (by decide) ?_
  refine n81 ((ref_of [] _ (by simp)).use fun w2 h2 => ?_)
  refine SU_storeB (b1.no h2) (Sum.len _) Sum.zero.len (Sum.ones _) fun w3 b3 h3 => ?_
  refine CR_N b3 (Sum.len _) ?_
  exact ⟨rfl, (h1.trans h2).own h3 hg1⟩
end
end Go.Proofs.YtkdghnbogkbedaaGreatDoor
