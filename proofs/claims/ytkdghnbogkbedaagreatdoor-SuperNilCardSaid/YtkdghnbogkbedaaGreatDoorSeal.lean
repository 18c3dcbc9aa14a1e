/-
  The package seal's texts of freezes and heads; the reference's.
-/
import Derived.Test.YtkdghnbogkbedaaGreatDoorMac2
import Derived.Test.YtkdghnbogkbedaaGreatDoorXSeal
import Derived.Test.YtkdghnbogkbedaaGreatDoorXLeaf
import Derived.Test.YtkdghnbogkbedaaGreatDoorXRef16
namespace Go.Sh
open Go Go.RowKit

def numB (n : Int) : List UInt8 := putN n.toNat
def sumB (s : Sum) : List UInt8 := textN s.l
def Freeze.ok (f : Freeze) : Prop := (0 ≤ f.window ∧ f.window ≤ 1125899906842624) ∧ (1 ≤ f.count ∧ f.count ≤ 4000)
instance (f : Freeze) : Decidable f.ok := by unfold Freeze.ok; infer_instance
def Freeze.bytes (f : Freeze) : List UInt8 := [70] ++ numB f.window ++ numB f.count ++ sumB f.root
def headOk (size clock : Int) : Prop := (0 ≤ size ∧ size ≤ 1099511627776) ∧ (0 ≤ clock ∧ clock ≤ 1125899906842624)
instance (a b : Int) : Decidable (headOk a b) := by unfold headOk; infer_instance
def headBytes (size : Int) (root : Sum) (clock : Int) : List UInt8 := [72] ++ numB size ++ sumB root ++ numB clock
def headOf (key : List UInt8) (size : Int) (root : Sum) (clock : Int) : Head := ⟨size, root, clock, if headOk size clock then hmac key (headBytes size root clock) else Sum.zero⟩

theorem numB_len {n : Int} (h : n ≤ 1125899906842624) : (numB n).length ≤ 9 := putN_len (by omega)
theorem sumB_len (s : Sum) : (sumB s).length ≤ 41 := by
  have := putN_len (n := s.l.length) (by rw [s.h]; decide)
  unfold sumB textN
  rw [List.length_append, s.h]
  rw [s.h] at this
  omega

theorem join_nil (l : List (List UInt8)) : Lib.join l [] = l.flatten := by
  induction l with
  | nil => rfl
  | cons a l ih => cases l <;> simp_all [Lib.join]

section
variable {P : Program} {w : World}
/-- []string{..} -/
theorem SV_strs {ty e b n : Nat} [hT : SlT P ty e 1] [hI : Inf P e 1 b] (ls : List (List UInt8)) {parts : Array (Nat × Value)} {k : Value → World → Prop} (hp : parts.toList = ((ls.map str).zipIdx 0).map fun (v, i) => (i, v)) (hn : n = ls.length) (hl : ls.length ≤ 1000)
    (hk : ∀ v w', Ch No w w' → Rd w' e 1 v n (ls.map str) → k v w') : SV P (Instr.buildSlice ty n parts) w k := by
  have hf : (ls.map fun l => [str l]).flatten = ls.map str := by
    clear hp hn hl hk
    induction ls with
    | nil => rfl
    | cons a l ih => simp_all
  refine SV_lits (e := e) (sz := 1) (ls.map str) (ls.map fun l => [str l]) hp (fun i v hv => ?_) (by simp) (by simpa using hn) (by simp; omega) fun g3 w3 hg3 b3 h3 ho => ?_
  · rw [List.getElem?_map] at hv
    cases hi : ls[i]? with
    | none => rw [hi] at hv; cases hv
    | some l =>
      rw [hi] at hv
      simp only [Option.map_some, Option.some.injEq] at hv
      subst hv
      exact ⟨[str l], by simp [hi], rfl, rfl⟩
  · rw [hf] at ho
    exact hk _ _ h3 (Rd.of_own ho)
theorem pu_idw {s d : TypeId} [IsInt P s .i64] [IsInt P d .u64] {n : Int} (h0 : 0 ≤ n) (h1 : n ≤ 9223372036854775807) : Pu P (convert s d (.int .i64 n)) (.int .u64 n.toNat) := fun w => by
  rw [w64_conv h0 h1 w, Int.toNat_of_nonneg h0]
end
end Go.Sh
namespace Go.Proofs.YtkdghnbogkbedaaGreatDoor
open Go Go.Sh Go.RowKit
set_option maxRecDepth 100000
set_option maxHeartbeats 1000000
set_option linter.unusedSimpArgs false
set_option linter.unusedVariables false

theorem str_join {T n : Nat} {v : Value} {ls : List (List UInt8)} {w : World} (hr : Rd w T 1 v n (ls.map str)) (hn : 0 < n) (hb : ls.flatten.length ≤ 140737488355328) (hn2 : n ≤ 1000000) : Ret Tryz.prog 217 #[v, str []] w (str ls.flatten) := by
  have hl : ls.length = n := by have := hr.len; simpa using this
  obtain ⟨_, _, A, c, rfl, hc, h4⟩ := hr
  obtain ⟨b, o, C, fr, rfl, hbk, hx⟩ := h4 hn
  have hlt : b < w.heap.size := by
    rcases Nat.lt_or_ge b w.heap.size with h | h
    · exact h
    · rw [Array.getElem?_eq_none h] at hbk; cases hbk
  have hmap : ((ls.map fun l => (⟨l.toArray⟩ : ByteArray)).map (·.data.toList)) = ls := by
    rw [List.map_map]
    have : ((fun x : ByteArray => x.data.toList) ∘ fun l => (⟨l.toArray⟩ : ByteArray)) = id := by funext l; simp
    rw [this, List.map_id]
  have h := Tryz.strings_Join b o c (ls.map fun l => ⟨l.toArray⟩) ⟨#[]⟩ w (fun j x hj => by
    rw [cell_of_row w b _ C T fr hbk]
    refine hx j _ ?_
    rw [List.getElem?_map] at hj ⊢
    cases hi : ls[j]? with
    | none => rw [hi] at hj; cases hj
    | some l => rw [hi] at hj; simp only [Option.map_some, Option.some.injEq] at hj ⊢; subst hj; rfl) hlt (by simp; omega) (by simp; omega) (by rw [hmap]; show (Lib.join ls []).length ≤ _; rw [join_nil]; exact hb)
  rw [hmap] at h
  have e : Lib.join ls (ByteArray.mk #[]).data.toList = ls.flatten := join_nil ls
  rw [e, List.length_map, hl] at h
  exact Ret.of_below (v := str ls.flatten) h

theorem seal_within (n m : Int) (w : World) : Ret Tryz.prog 137 #[.int .i64 n, .int .i64 m] w (.bool (decide (0 ≤ n ∧ n ≤ m))) := by
  refine c137 ?_
  unfold s137
  (first | refine SV_p (by first | exact True.intro | omega | (simp only [List.length_append, List.length_cons, List.length_nil, List.length_replicate, List.length_map]; omega)) ?_ | refine HV_p (by first | exact True.intro | omega | (simp only [List.length_append, List.length_cons, List.length_nil, List.length_replicate, List.length_map]; omega)) ?_)
  refine GD_split (fun h => ?_) (fun h => ?_)
  · (first | refine SV_p (by first | exact True.intro | omega | (simp only [List.length_append, List.length_cons, List.length_nil, List.length_replicate, List.length_map]; omega)) ?_ | refine HV_p (by first | exact True.intro | omega | (simp only [List.length_append, List.length_cons, List.length_nil, List.length_replicate, List.length_map]; omega)) ?_)
    exact ⟨by congr 1; simp [h], Ch.refl w⟩
  · exact ⟨by congr 1; simp [h], Ch.refl w⟩

theorem seal_says {T n : Nat} {v : Value} {ls : List (List UInt8)} {w : World} (hr : Rd w T 1 v n (ls.map str)) (hn : 0 < n) (hb : ls.flatten.length ≤ 140737488355328) (hn2 : n ≤ 1000000) : Ret Tryz.prog 138 #[v] w (str ls.flatten) := by
  refine c138 ?_
  unfold s138
  refine n217 ((str_join hr hn hb hn2).use fun w1 h1 => ?_)
  exact ⟨rfl, h1⟩

theorem seal_number (n : Int) (h0 : 0 ≤ n) (h1 : n ≤ 1125899906842624) (w : World) : Ret Tryz.prog 139 #[.int .i64 n] w (str (numB n)) := by
  refine c139 ?_
  unfold s139
  refine SV_pu (pu_idw h0 (by omega)) ?_
  refine n218 ((oct_put _ (by omega) _).use fun w1 h1 => ?_)
  exact ⟨rfl, h1⟩

theorem seal_sum (s : Sum) (w : World) : Ret Tryz.prog 140 #[s.v] w (str (sumB s)) := by
  refine c140 ?_
  unfold s140
  refine SV_box (vs := s.cells) rfl fun g1 w1 hg1 b1 h1 => ?_
  refine SV_loadB b1 s.len ?_
  refine n163 ((sha_bytes s _).use fun w2 h2 => ?_)
  refine n219 ((oct_text _ (by rw [s.h]; decide) _).use fun w3 h3 => ?_)
  exact ⟨rfl, h1.trans (h2.trans h3)⟩

theorem Freeze.fld0 (f : Freeze) : f.cells[0]? = some (.int .i64 f.window) := rfl
theorem Freeze.fld1 (f : Freeze) : f.cells[1]? = some (.int .i64 f.count) := rfl
theorem Freeze.fld2 (f : Freeze) : (f.cells.drop 2).take 32 = f.root.cells := by
  show f.root.cells.take 32 = _
  exact List.take_of_length_le (by rw [f.root.len]; exact Nat.le_refl _)

theorem freeze_bytes (f : Freeze) (w : World) : Ret Tryz.prog 71 #[f.v] w (if f.ok then .tuple #[str f.bytes, .int .i64 0] else .tuple #[str [], .int .i64 1]) := by
  refine c71 ?_
  unfold s71
  refine SV_box (vs := f.cells) rfl fun g1 w1 hg1 b1 h1 => ?_
  (first | refine SV_p (by first | exact True.intro | omega | (simp only [List.length_append, List.length_cons, List.length_nil, List.length_replicate, List.length_map]; omega)) ?_ | refine HV_p (by first | exact True.intro | omega | (simp only [List.length_append, List.length_cons, List.length_nil, List.length_replicate, List.length_map]; omega)) ?_)
  refine SV_load b1 (Freeze.fld0 f) ?_
  refine n137 ((seal_within _ _ _).use fun w2 h2 => ?_)
  have b2 := b1.no h2
  (first | refine SV_p (by first | exact True.intro | omega | (simp only [List.length_append, List.length_cons, List.length_nil, List.length_replicate, List.length_map]; omega)) ?_ | refine HV_p (by first | exact True.intro | omega | (simp only [List.length_append, List.length_cons, List.length_nil, List.length_replicate, List.length_map]; omega)) ?_)
  refine GD_bool (fun hw => ?_) (fun hw => ?_)
  · have hw' : 0 ≤ f.window ∧ f.window ≤ 1125899906842624 := by simpa using hw
    (first | refine SV_p (by first | exact True.intro | omega | (simp only [List.length_append, List.length_cons, List.length_nil, List.length_replicate, List.length_map]; omega)) ?_ | refine HV_p (by first | exact True.intro | omega | (simp only [List.length_append, List.length_cons, List.length_nil, List.length_replicate, List.length_map]; omega)) ?_)
    refine SV_load b2 (Freeze.fld1 f) ?_
    (first | refine SV_p (by first | exact True.intro | omega | (simp only [List.length_append, List.length_cons, List.length_nil, List.length_replicate, List.length_map]; omega)) ?_ | refine HV_p (by first | exact True.intro | omega | (simp only [List.length_append, List.length_cons, List.length_nil, List.length_replicate, List.length_map]; omega)) ?_)
    refine GD_splitf (fun hc => ?_) (fun hc => ?_)
    · (first | refine SV_p (by first | exact True.intro | omega | (simp only [List.length_append, List.length_cons, List.length_nil, List.length_replicate, List.length_map]; omega)) ?_ | refine HV_p (by first | exact True.intro | omega | (simp only [List.length_append, List.length_cons, List.length_nil, List.length_replicate, List.length_map]; omega)) ?_)
      refine SV_load b2 (Freeze.fld1 f) ?_
      refine n137 ((seal_within _ _ _).use fun w3 h3 => ?_)
      have b3 := b2.no h3
      (first | refine SV_p (by first | exact True.intro | omega | (simp only [List.length_append, List.length_cons, List.length_nil, List.length_replicate, List.length_map]; omega)) ?_ | refine HV_p (by first | exact True.intro | omega | (simp only [List.length_append, List.length_cons, List.length_nil, List.length_replicate, List.length_map]; omega)) ?_)
      refine CN_bool (fun hw2 => ?_) (fun hw2 => ?_)
      · have hnot : ¬ f.ok := fun h => by
          have h2 := h.2
          simp at hw2
          omega
        rw [if_neg hnot]
        exact ⟨rfl, h1.trans (h2.trans h3)⟩
      · have hw2' : 0 ≤ f.count ∧ f.count ≤ 4000 := by simpa using hw2
        rw [if_pos (show f.ok from ⟨hw', by omega, hw2'.2⟩)]
        have hc3 := h1.trans (h2.trans h3)
        refine HR_kp No ?_
        (first | refine SV_p (by first | exact True.intro | omega | (simp only [List.length_append, List.length_cons, List.length_nil, List.length_replicate, List.length_map]; omega)) ?_ | refine HV_p (by first | exact True.intro | omega | (simp only [List.length_append, List.length_cons, List.length_nil, List.length_replicate, List.length_map]; omega)) ?_)
        refine HV_load b3 (fun h => h) (Freeze.fld0 f) ?_
        refine n139 ((seal_number _ hw'.1 hw'.2 _).use fun w4 h4 => ?_)
        have h4' : Ch No w3 w4 := (Ch.drew _).trans h4
        (first | refine RS_same (h4') ?_ | refine ⟨h4', ?_⟩)
        (first | refine SV_p (by first | exact True.intro | omega | (simp only [List.length_append, List.length_cons, List.length_nil, List.length_replicate, List.length_map]; omega)) ?_ | refine HV_p (by first | exact True.intro | omega | (simp only [List.length_append, List.length_cons, List.length_nil, List.length_replicate, List.length_map]; omega)) ?_)
        refine HV_load b3 (fun h => h) (Freeze.fld1 f) ?_
        refine n139 ((seal_number _ hw2'.1 (by omega) _).use fun w5 h5 => ?_)
        have h5' := h4'.trans h5
        (first | refine RS_same (h5') ?_ | refine ⟨h5', ?_⟩)
        (first | refine SV_p (by first | exact True.intro | omega | (simp only [List.length_append, List.length_cons, List.length_nil, List.length_replicate, List.length_map]; omega)) ?_ | refine HV_p (by first | exact True.intro | omega | (simp only [List.length_append, List.length_cons, List.length_nil, List.length_replicate, List.length_map]; omega)) ?_)
        refine HV_loadN b3 (fun h => h) (Freeze.fld2 f) f.root.len ?_
        refine n140 ((seal_sum f.root _).use fun w6 h6 => ?_)
        have h6' := h5'.trans h6
        (first | refine RS_same (h6') ?_ | refine ⟨h6', ?_⟩)
        refine SV_strs [[70], numB f.window, numB f.count, sumB f.root] rfl rfl (by simp) fun v w7 h7 hr => ?_
        have h7' := h6'.trans h7
        (first | refine RS_same (h7') ?_ | refine ⟨h7', ?_⟩)
        have l1 := numB_len hw'.2
        have l2 := numB_len (n := f.count) (by omega)
        have l3 := sumB_len f.root
        refine n138 ((seal_says hr (by decide) (by simp only [List.flatten_cons, List.flatten_nil, List.length_append, List.length_cons, List.length_nil]; omega) (by decide)).use fun w8 h8 => ?_)
        have h8' := h7'.trans h8
        (first | refine RS_same (h8') ?_ | refine ⟨h8', ?_⟩)
        refine ⟨?_, hc3.trans h8'⟩
        simp [Freeze.bytes]
    · have hnot : ¬ f.ok := fun h => by have := h.2; omega
      rw [if_neg hnot]
      exact ⟨rfl, h1.trans h2⟩
  · have hnot : ¬ f.ok := fun h => by
      have h2 := h.1
      simp at hw
      omega
    rw [if_neg hnot]
    exact ⟨rfl, h1.trans h2⟩
end Go.Proofs.YtkdghnbogkbedaaGreatDoor
