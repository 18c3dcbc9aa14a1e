/-
  ImageGoes: for every two lists of files, files that are changed by what Diff tells come from the ones to the others: the law answers true and its arguments read as they did. Conditions: the package-level tables hold what the program's text lays. (Part 4 of 8.)
-/
import Derived.Test.YtkdghnbogkbedaaGreatDoorProg
import Derived.Stop.BytesEq
import Derived.Laws.Cover3
import Derived.Test.YtkdghnbogkbedaaGreatDoorPG2
set_option linter.unusedSimpArgs false
set_option linter.unusedVariables false

namespace Go.Sh
open Go Go.RowKit

/-- A maker of the key k. -/
def MacAt (w : World) (g : Nat) (tm th : TypeId) (k : List UInt8) : Prop :=
  ∃ gi go, Blk w g tm [.pointer (some ⟨gi, 0, none⟩), .pointer (some ⟨go, 0, none⟩)] ∧ HashAt w gi th (xorAll 54 (key64 k)) ∧ HashAt w go th (xorAll 92 (key64 k))
theorem MacAt.no {w w' : World} {g tm th : Nat} {k : List UInt8} (h : MacAt w g tm th k) (hc : Ch No w w') : MacAt w' g tm th k := by
  obtain ⟨gi, go, h1, h2, h3⟩ := h
  exact ⟨gi, go, h1.no hc, h2.no hc, h3.no hc⟩
instance {P : Program} {f : FuncId} {x y : Array Value} : PuC P (Instr.makeFunc (.func f) x y) (.func (.func f) x y) True := ⟨fun _ => pu_fn⟩
theorem str_singleton_flat (l : List UInt8) : [l].flatten = l := by simp
/-- []string{s} -/
theorem SV_str1 {P : Program} {ty e b : Nat} [hT : SlT P ty e 1] [hI : Inf P e 1 b] {l : List UInt8} {w : World} {k : Value → World → Prop} (hk : ∀ v w', Ch No w w' → Rd w' e 1 v 1 [str l] → k v w') : SV P (Instr.buildSlice ty 1 #[(0, str l)]) w k := by
  refine SV_lits (e := e) (sz := 1) [str l] [[str l]] rfl (fun i v hv => ?_) rfl rfl (by simp) fun g3 w3 hg3 b3 h3 ho => ?_
  · match i, hv with
    | 0, hv => simp only [List.getElem?_cons_zero, Option.some.injEq] at hv; subst hv; exact ⟨[str l], rfl, rfl, rfl⟩
    | i + 1, hv => simp at hv
  exact hk _ _ h3 (Rd.of_own ho)
end Go.Sh
namespace Go.Proofs.YtkdghnbogkbedaaGreatDoor
open Go Go.Sh Go.RowKit
set_option maxRecDepth 100000
set_option maxHeartbeats 1000000
set_option linter.unusedSimpArgs false
set_option linter.unusedVariables false

theorem mac_pad (k : List UInt8) (hk : k.length ≤ 1000000000) (w : World) (hK : KeysAt w) (h1s : 1 < w.heap.size) : Ret Tryz.prog 292 #[str k] w (str (key64 k)) := by
  refine c292 ?_
  unfold s292
  have fin : ∀ (p : List UInt8) (w1 : World), p.length ≤ 64 → Ch No w w1 → p ++ List.replicate (64 - p.length) 0 = key64 k → s292_j1 Tryz.prog (fun v' w' => v' = str (key64 k) ∧ Ch No w w') (str p) w1 := by
    intro p w1 hp hc he
    unfold s292_j1
    (first | refine SV_p (by first | exact True.intro | omega | (simp only [List.length_append, List.length_cons, List.length_nil, List.length_replicate, List.length_map]; omega)) ?_ | refine HV_p (by first | exact True.intro | omega | (simp only [List.length_append, List.length_cons, List.length_nil, List.length_replicate, List.length_map]; omega)) ?_)
    (first | refine SV_p (by first | exact True.intro | omega | (simp only [List.length_append, List.length_cons, List.length_nil, List.length_replicate, List.length_map]; omega)) ?_ | refine HV_p (by first | exact True.intro | omega | (simp only [List.length_append, List.length_cons, List.length_nil, List.length_replicate, List.length_map]; omega)) ?_)
    have e : (64 : Int) - (p.length : Int) = ((64 - p.length : Nat) : Int) := by omega
    rw [e]
    refine n242 ((str_repeat0 _ _ (by omega)).use fun w2 h2 => ?_)
    (first | refine SV_p (by first | exact True.intro | omega | (simp only [List.length_append, List.length_cons, List.length_nil, List.length_replicate, List.length_map]; omega)) ?_ | refine HV_p (by first | exact True.intro | omega | (simp only [List.length_append, List.length_cons, List.length_nil, List.length_replicate, List.length_map]; omega)) ?_)
    exact ⟨by rw [he], hc.trans h2⟩
  refine JP_in ?_
  (first | refine SV_p (by first | exact True.intro | omega | (simp only [List.length_append, List.length_cons, List.length_nil, List.length_replicate, List.length_map]; omega)) ?_ | refine HV_p (by first | exact True.intro | omega | (simp only [List.length_append, List.length_cons, List.length_nil, List.length_replicate, List.length_map]; omega)) ?_)
  (first | refine SV_p (by first | exact True.intro | omega | (simp only [List.length_append, List.length_cons, List.length_nil, List.length_replicate, List.length_map]; omega)) ?_ | refine HV_p (by first | exact True.intro | omega | (simp only [List.length_append, List.length_cons, List.length_nil, List.length_replicate, List.length_map]; omega)) ?_)
  refine CN_split (fun hgt => ?_) (fun hle => ?_)
  · refine SV_str1 fun v w0 h0 hr => ?_
    have z0 := h0.size
    refine n151 ((sha_of_ (parts := [k]) (hK.no h0) (by omega) hr (by simp; omega)).use fun w1 h1 => ?_)
    rw [str_singleton_flat]
    refine n163 ((sha_bytes _ w1).use fun w2 h2 => ?_)
    refine ⟨rfl, fun _ => ?_⟩
    exact fin _ _ (by rw [(sha k).h]; omega) (h0.trans (h1.trans h2)) (by unfold key64; rw [if_pos (by omega)])
  · exact ⟨rfl, fun _ => fin _ _ (by omega) (Ch.refl _) (by unfold key64; rw [if_neg (by omega)])⟩

theorem mac_begun1 (l : List UInt8) (c : UInt8) (gp : Nat) (hl : l.length ≤ 1000000000) (w : World) (hK : KeysAt w) (h1s : 1 < w.heap.size) (hp : Blk w gp 9 [str l]) :
    Calls Tryz.prog 293 #[by_ c, .pointer (some ⟨gp, 0, none⟩)] w (retP fun v w' => ∃ g, v = .pointer (some ⟨g, 0, none⟩) ∧ w.heap.size ≤ g ∧ HashAt w' g 282 (xorAll c l) ∧ Ch No w w') := by
  refine c293 ?_
  unfold s293
  refine SV_load hp rfl ?_
  refine SV_sbytes fun g cp z w1 hg hcp b1 h1 => ?_
  (first | refine SV_p (by first | exact True.intro | omega | (simp only [List.length_append, List.length_cons, List.length_nil, List.length_replicate, List.length_map]; omega)) ?_ | refine HV_p (by first | exact True.intro | omega | (simp only [List.length_append, List.length_cons, List.length_nil, List.length_replicate, List.length_map]; omega)) ?_)
  have hxl : ((xorAll c l).map by_).length = l.length := by simp
  have hll : (l.map by_).length = l.length := by simp
  have z1 := h1.size
  refine LP_intro (fun us w' => ∃ i : Nat, us = [.int .i64 i] ∧ i ≤ l.length ∧ MBlk w' g 5 ((((xorAll c l).map by_).take i ++ (l.map by_).drop i) ++ z) ∧ Ch (· = g) w1 w') (fun us _ => match us with | [.int _ t] => (l.length - t).toNat | _ => 0)
    ⟨0, rfl, by omega, by rw [mix_zero]; exact b1, Ch.refl _⟩ ?_
  rintro us hus ζ w2 ⟨i, rfl, hi, b2, h2⟩
  unfold s293_l1
  simp only [List.getD_cons_zero, List.getD_cons_succ]
  have z2 := h2.size
  (first | refine SV_p (by first | exact True.intro | omega | (simp only [List.length_append, List.length_cons, List.length_nil, List.length_replicate, List.length_map]; omega)) ?_ | refine HV_p (by first | exact True.intro | omega | (simp only [List.length_append, List.length_cons, List.length_nil, List.length_replicate, List.length_map]; omega)) ?_)
  refine CN_split (fun hlt => ?_) (fun hge => ?_)
  · have hi' : i < l.length := by omega
    have hml := mix_len hll hxl hi
    (first | refine SV_p (by first | exact True.intro | omega | (simp only [List.length_append, List.length_cons, List.length_nil, List.length_replicate, List.length_map]; omega)) ?_ | refine HV_p (by first | exact True.intro | omega | (simp only [List.length_append, List.length_cons, List.length_nil, List.length_replicate, List.length_map]; omega)) ?_)
    have hat : ((((xorAll c l).map by_).take i ++ (l.map by_).drop i) ++ z)[i]? = some (by_ (l.getD i 0)) := by
      rw [List.getElem?_append_left (by omega), List.getElem?_append_right (by simp; omega)]
      simp [List.getD, hi', Nat.min_eq_left hi]
    refine SV_loadM b2 hat ?_
    (first | refine SV_p (by first | exact True.intro | omega | (simp only [List.length_append, List.length_cons, List.length_nil, List.length_replicate, List.length_map]; omega)) ?_ | refine HV_p (by first | exact True.intro | omega | (simp only [List.length_append, List.length_cons, List.length_nil, List.length_replicate, List.length_map]; omega)) ?_)
    (first | refine SV_p (by first | exact True.intro | omega | (simp only [List.length_append, List.length_cons, List.length_nil, List.length_replicate, List.length_map]; omega)) ?_ | refine HV_p (by first | exact True.intro | omega | (simp only [List.length_append, List.length_cons, List.length_nil, List.length_replicate, List.length_map]; omega)) ?_)
    refine SU_storeM b2 (by rw [List.length_append]; omega) rfl fun w3 b3 h3 => ?_
    (first | refine SV_p (by first | exact True.intro | omega | (simp only [List.length_append, List.length_cons, List.length_nil, List.length_replicate, List.length_map]; omega)) ?_ | refine HV_p (by first | exact True.intro | omega | (simp only [List.length_append, List.length_cons, List.length_nil, List.length_replicate, List.length_map]; omega)) ?_)
    rw [Int.toNat_natCast, List.set_append_left _ _ (by omega), set_mix (by rw [hll, hxl]) (by simp [xorAll, List.getD, hi'])] at b3
    refine ⟨⟨i + 1, rfl, by omega, b3, h2.trans h3⟩, ?_⟩
    show ((l.length : Int) - ((i : Int) + 1)).toNat < ((l.length : Int) - (i : Int)).toNat
    omega
  · have : i = l.length := by omega
    subst this
    rw [mix_all hll hxl] at b2
    have hc2 : Ch No w w2 := h1.own h2 hg
    refine n231 (Calls.ret_mono (sha_new w2) ?_)
    rintro _ w3 ⟨g3, rfl, hg3, hat, h3⟩
    have hne : g ≠ g3 := by
      obtain ⟨fr, hb, _⟩ := b2
      rcases Nat.lt_or_ge g w2.heap.size with hlt | hge
      · omega
      · rw [Array.getElem?_eq_none hge] at hb; cases hb
    refine SV_bstr (l := xorAll c l) (Rd.of_mblk (b2.ch h3 (fun h => h)) hxl hcp (by unfold maxLen; omega)) ?_
    refine n232 (Calls.ret_mono (sha_write (hK.no (hc2.trans h3)) (by omega) hat (by simp; omega)) ?_)
    rintro _ w4 ⟨hat4, h4⟩
    exact ⟨g3, rfl, by omega, hat4, (hc2.trans h3).own h4 (by omega)⟩

theorem mac_begun (k : List UInt8) (hk : k.length ≤ 1000000000) (w : World) (hK : KeysAt w) (h1s : 1 < w.heap.size) :
    Calls Tryz.prog 269 #[str k] w (retP fun v w' => ∃ gi go, v = .tuple #[.pointer (some ⟨gi, 0, none⟩), .pointer (some ⟨go, 0, none⟩)] ∧ w.heap.size ≤ gi ∧ w.heap.size ≤ go ∧ HashAt w' gi 282 (xorAll 54 (key64 k)) ∧ HashAt w' go 282 (xorAll 92 (key64 k)) ∧ Ch No w w') := by
  refine c269 ?_
  unfold s269
  have h64 := key64_len k
  refine n292 ((mac_pad k hk w hK h1s).use fun w1 h1 => ?_)
  refine SV_alloc fun g2 w2 hg2 b2 h2 => ?_
  refine SU_store b2 (by decide) rfl fun w3 b3 h3 => ?_
  (first | refine SV_p (by first | exact True.intro | omega | (simp only [List.length_append, List.length_cons, List.length_nil, List.length_replicate, List.length_map]; omega)) ?_ | refine HV_p (by first | exact True.intro | omega | (simp only [List.length_append, List.length_cons, List.length_nil, List.length_replicate, List.length_map]; omega)) ?_)
  have z1 := h1.size
  have z2 := h2.size
  have z3 := h3.size
  have hc3 : Ch No w w3 := (h1.trans h2).own h3 (by omega)
  have e54 : Value.int .u8 54 = by_ 54 := rfl
  have e92 : Value.int .u8 92 = by_ 92 := rfl
  rw [e54, e92]
  refine SN_fn (n293 (Calls.ret_mono (mac_begun1 (key64 k) 54 g2 (by omega) w3 (hK.no hc3) (by omega) b3) ?_))
  rintro _ w4 ⟨gi, rfl, hgi, hi, h4⟩
  have z4 := h4.size
  refine SN_fn (n293 (Calls.ret_mono (mac_begun1 (key64 k) 92 g2 (by omega) w4 (hK.no (hc3.trans h4)) (by omega) (b3.no h4)) ?_))
  rintro _ w5 ⟨go, rfl, hgo, ho, h5⟩
  exact ⟨gi, go, rfl, by omega, by omega, hi.no h5, ho, hc3.trans (h4.trans h5)⟩

theorem mac_new (k : List UInt8) (hk : k.length ≤ 1000000000) (w : World) (hK : KeysAt w) (h1s : 1 < w.heap.size) :
    Calls Tryz.prog 237 #[str k] w (retP fun v w' => ∃ g, v = .pointer (some ⟨g, 0, none⟩) ∧ w.heap.size ≤ g ∧ MacAt w' g 289 282 k ∧ Ch No w w') := by
  refine c237 ?_
  unfold s237
  refine n269 (Calls.ret_mono (mac_begun k hk w hK h1s) ?_)
  rintro _ w1 ⟨gi, go, rfl, hgi, hgo, hi, ho, h1⟩
  (first | refine SV_p (by first | exact True.intro | omega | (simp only [List.length_append, List.length_cons, List.length_nil, List.length_replicate, List.length_map]; omega)) ?_ | refine HV_p (by first | exact True.intro | omega | (simp only [List.length_append, List.length_cons, List.length_nil, List.length_replicate, List.length_map]; omega)) ?_)
  (first | refine SV_p (by first | exact True.intro | omega | (simp only [List.length_append, List.length_cons, List.length_nil, List.length_replicate, List.length_map]; omega)) ?_ | refine HV_p (by first | exact True.intro | omega | (simp only [List.length_append, List.length_cons, List.length_nil, List.length_replicate, List.length_map]; omega)) ?_)
  refine SV_pu (pu_build (FillOk.cons rfl rfl rfl (FillOk.cons rfl rfl rfl (FillOk.nil _)))) ?_
  refine SV_box (vs := [.pointer (some ⟨gi, 0, none⟩), .pointer (some ⟨go, 0, none⟩)]) rfl fun g w2 hg b2 h2 => ?_
  have z1 := h1.size
  exact ⟨g, rfl, by omega, ⟨gi, go, b2, hi.no h2, ho.no h2⟩, h1.trans h2⟩

theorem mac_sum {T n g : Nat} {v : Value} {k : List UInt8} {parts : List (List UInt8)} {w : World} (hK : KeysAt w) (h1s : 1 < w.heap.size) (hm : MacAt w g 289 282 k) (hr : Rd w T 1 v n (parts.map str)) (hb : parts.flatten.length ≤ 4611686018000000000) :
    Ret Tryz.prog 268 #[.pointer (some ⟨g, 0, none⟩), v] w (hmac k parts.flatten).v := by
  have hn : parts.length = n := by have := hr.len; simpa using this
  obtain ⟨A, c, rfl, _⟩ := hr.form
  refine c268 ?_
  unfold s268
  refine SV_alloc fun g1 w1 hg1 b1 h1 => ?_
  obtain ⟨gi, go, bm, hi, ho⟩ := hm.no h1
  (first | refine SV_p (by first | exact True.intro | omega | (simp only [List.length_append, List.length_cons, List.length_nil, List.length_replicate, List.length_map]; omega)) ?_ | refine HV_p (by first | exact True.intro | omega | (simp only [List.length_append, List.length_cons, List.length_nil, List.length_replicate, List.length_map]; omega)) ?_)
  refine CN_ff ?_
  refine HR_kp No ?_
  (first | refine SV_p (by first | exact True.intro | omega | (simp only [List.length_append, List.length_cons, List.length_nil, List.length_replicate, List.length_map]; omega)) ?_ | refine HV_p (by first | exact True.intro | omega | (simp only [List.length_append, List.length_cons, List.length_nil, List.length_replicate, List.length_map]; omega)) ?_)
  (first | refine SV_p (by first | exact True.intro | omega | (simp only [List.length_append, List.length_cons, List.length_nil, List.length_replicate, List.length_map]; omega)) ?_ | refine HV_p (by first | exact True.intro | omega | (simp only [List.length_append, List.length_cons, List.length_nil, List.length_replicate, List.length_map]; omega)) ?_)
  refine HV_load bm (fun h => h) (v := .pointer (some ⟨gi, 0, none⟩)) rfl ?_
  (first | refine SV_p (by first | exact True.intro | omega | (simp only [List.length_append, List.length_cons, List.length_nil, List.length_replicate, List.length_map]; omega)) ?_ | refine HV_p (by first | exact True.intro | omega | (simp only [List.length_append, List.length_cons, List.length_nil, List.length_replicate, List.length_map]; omega)) ?_)
  (first | refine SV_p (by first | exact True.intro | omega | (simp only [List.length_append, List.length_cons, List.length_nil, List.length_replicate, List.length_map]; omega)) ?_ | refine HV_p (by first | exact True.intro | omega | (simp only [List.length_append, List.length_cons, List.length_nil, List.length_replicate, List.length_map]; omega)) ?_)
  refine HV_load bm (fun h => h) (v := .pointer (some ⟨go, 0, none⟩)) rfl ?_
  refine JP_in ?_
  (first | refine SV_p (by first | exact True.intro | omega | (simp only [List.length_append, List.length_cons, List.length_nil, List.length_replicate, List.length_map]; omega)) ?_ | refine HV_p (by first | exact True.intro | omega | (simp only [List.length_append, List.length_cons, List.length_nil, List.length_replicate, List.length_map]; omega)) ?_)
  refine CN_ff ?_
  refine ⟨rfl, fun ζ => ?_⟩
  unfold s268_j1
  simp only [List.getD_cons_zero, List.getD_cons_succ]
  have hd : Ch No w1 w1.drew := Ch.drew _
  have z1 := h1.size
  have hx := key64_len k
  have hx1 := xorAll_len 54 (key64 k)
  have hx2 := xorAll_len 92 (key64 k)
  refine n291 (Calls.ret_mono (sha_copy (hi.no hd)) ?_)
  rintro _ w2 ⟨g2, rfl, hg2, hat, h2⟩
  have hc2 : Ch No w w2 := h1.trans (hd.trans h2)
  have hg2' : w1.heap.size ≤ g2 := hg2
  have l1 := b1.lt
  have lo := ho.lt
  have z2 := h2.size
  have z2' : w1.heap.size ≤ w2.heap.size := z2
  (first | refine SV_p (by first | exact True.intro | omega | (simp only [List.length_append, List.length_cons, List.length_nil, List.length_replicate, List.length_map]; omega)) ?_ | refine HV_p (by first | exact True.intro | omega | (simp only [List.length_append, List.length_cons, List.length_nil, List.length_replicate, List.length_map]; omega)) ?_)
  refine LP_intro (fun us w' => ∃ i : Nat, us = [.int .i64 i] ∧ i ≤ n ∧ HashAt w' g2 282 (xorAll 54 (key64 k) ++ (parts.take i).flatten) ∧ Ch (· = g2) w2 w') (fun us _ => match us with | [.int _ t] => (n - t).toNat | _ => 0)
    ⟨0, rfl, by omega, by simpa using hat, Ch.refl _⟩ ?_
  rintro us hus ζ w3 ⟨i, rfl, hin, hat, h3⟩
  unfold s268_l1
  simp only [List.getD_cons_zero, List.getD_cons_succ]
  have hmax := hr.2.1
  unfold maxLen at hmax
  have hc3 : Ch No w w3 := hc2.own h3 (by omega)
  have hki := hK.no hc3
  (first | refine SV_p (by first | exact True.intro | omega | (simp only [List.length_append, List.length_cons, List.length_nil, List.length_replicate, List.length_map]; omega)) ?_ | refine HV_p (by first | exact True.intro | omega | (simp only [List.length_append, List.length_cons, List.length_nil, List.length_replicate, List.length_map]; omega)) ?_)
  refine CN_split (fun hlt => ?_) (fun hge => ?_)
  · have hip : i < parts.length := by omega
    refine SV_idx (T := T) (hr.no hc3) (by omega) (by omega) fun p hp => ?_
    have hp' : Pt w3 p [str parts[i]] := by
      have : (((parts.map str).drop ((i : Int).toNat * 1)).take 1) = [str parts[i]] := by
        rw [Int.toNat_natCast, Nat.mul_one, List.drop_eq_getElem_cons (by simpa using hip)]; simp
      rw [← this]; exact hp
    refine SV_ptr1 hp' ?_
    have hfl : (parts.take i).flatten.length + parts[i].length ≤ 4611686018000000000 := by
      have := len_flat parts (i + 1)
      rw [flat_succ hip, List.length_append] at this
      omega
    refine n232 (Calls.ret_mono (sha_write hki (by omega) hat (by rw [List.length_append]; omega)) ?_)
    rintro _ w4 ⟨hat4, h4⟩
    (first | refine SV_p (by first | exact True.intro | omega | (simp only [List.length_append, List.length_cons, List.length_nil, List.length_replicate, List.length_map]; omega)) ?_ | refine HV_p (by first | exact True.intro | omega | (simp only [List.length_append, List.length_cons, List.length_nil, List.length_replicate, List.length_map]; omega)) ?_)
    rw [List.append_assoc, ← flat_succ hip] at hat4
    refine ⟨⟨i + 1, rfl, by omega, hat4, h3.trans h4⟩, ?_⟩
    show ((n : Int) - ((i : Int) + 1)).toNat < ((n : Int) - (i : Int)).toNat
    omega
  · have : i = parts.length := by omega
    subst this
    rw [List.take_length] at hat
    have z3 := h3.size
    have ho3 := ((ho.no (hd.trans h2)).ch h3 (by omega))
    refine n291 (Calls.ret_mono (sha_copy ho3) ?_)
    rintro _ w4 ⟨g4, rfl, hg4, hat4, h4⟩
    have z4 := h4.size
    have hlt2 := hat.lt
    refine n233 ((sha_sum (hki.no h4) (hat.no h4) (by rw [List.length_append]; omega)).use fun w5 h5 => ?_)
    refine n163 ((sha_bytes _ w5).use fun w6 h6 => ?_)
    have hsl := (sha (xorAll 54 (key64 k) ++ parts.flatten)).h
    have h46 : Ch No w3 w6 := h4.trans (h5.trans h6)
    refine n232 (Calls.ret_mono (sha_write (hki.no h46) (by omega) ((hat4.no h5).no h6) (by omega)) ?_)
    rintro _ w7 ⟨hat7, h7⟩
    have hc7 : Ch No w w7 := (hc3.trans h46).own h7 (by omega)
    refine n233 ((sha_sum (hK.no hc7) hat7 (by rw [List.length_append]; omega)).use fun w8 h8 => ?_)
    have b1' : Blk w8 g1 29 Sum.zero.cells := (((((b1.no (hd.trans h2)).ch h3 (by omega)).no h46).ch h7 (by omega)).no h8)
    refine SU_storeB b1' (Sum.len _) Sum.zero.len (Sum.ones _) fun w9 b9 h9 => ?_
    refine CR_N b9 (Sum.len _) ?_
    exact ⟨rfl, (hc7.trans h8).own h9 (by omega)⟩

theorem mac_of {T n : Nat} {v : Value} {k : List UInt8} {parts : List (List UInt8)} {w : World} (hk : k.length ≤ 1000000000) (hK : KeysAt w) (h1s : 1 < w.heap.size) (hr : Rd w T 1 v n (parts.map str)) (hb : parts.flatten.length ≤ 4611686018000000000) :
    Ret Tryz.prog 235 #[str k, v] w (hmac k parts.flatten).v := by
  refine c235 ?_
  unfold s235
  refine SV_alloc fun g1 w1 hg1 b1 h1 => ?_
  have z1 := h1.size
  refine n237 (Calls.ret_mono (mac_new k hk w1 (hK.no h1) (by omega)) ?_)
  rintro _ w2 ⟨g, rfl, hg, hat, h2⟩
  have z2 := h2.size
  have hc2 := h1.trans h2
  refine n268 ((mac_sum (hK.no hc2) (by omega) hat (hr.no hc2) hb).use fun w3 h3 => ?_)
  refine SU_storeB ((b1.no h2).no h3) (Sum.len _) Sum.zero.len (Sum.ones _) fun w9 b9 h9 => ?_
  refine CR_N b9 (Sum.len _) ?_
  exact ⟨rfl, (hc2.trans h3).own h9 (by omega)⟩
end Go.Proofs.YtkdghnbogkbedaaGreatDoor

namespace Go.Proofs.YtkdghnbogkbedaaGreatDoor
open Go Go.Sh
set_option maxRecDepth 100000


theorem mixedXSeal : Tryz.prog.follows .mixedOrders = true := by kernel_rfl

/-! ### 71: scrinium/seal.FreezeBytes -/

def s71 (P : Program) (k : Value → World → Prop) (a0_f : Value) (w : World) : Prop :=
  SV P (Instr.box 31 a0_f) w fun f1 w =>
  SV P (Instr.fieldAt 31 f1 0) w fun t4 w =>
  SV P (Instr.loadAt 3 t4) w fun t5 w =>
  SN P (callFunc 137 #[t5, (Value.int .i64 1125899906842624)]) w fun t6 w =>
  SV P (Op.unary .not t6) w fun t7 w =>
  GD t7 false
  (SV P (Instr.fieldAt 31 f1 1) w fun t9 w =>
  SV P (Instr.loadAt 3 t9) w fun t10 w =>
  SV P (eqS .eql 3 (.tmp 10) (.const (Value.int .i64 0)) t10 (Value.int .i64 0)) w fun t11 w =>
  GD t11 false
  (SV P (Instr.fieldAt 31 f1 1) w fun t14 w =>
  SV P (Instr.loadAt 3 t14) w fun t15 w =>
  SN P (callFunc 137 #[t15, (Value.int .i64 4000)]) w fun t16 w =>
  SV P (Op.unary .not t16) w fun t17 w =>
  CN t17
  (k (.tuple #[(str []), (Value.int .i64 1)]) w)
  (HR w fun C w =>
  HV P C (Instr.fieldAt 31 f1 0) fun t19 =>
  HV P C (Instr.loadAt 3 t19) fun t20 =>
  SN P (callFunc 139 #[t20]) w fun t21 w =>
  RS C w fun C =>
  HV P C (Instr.fieldAt 31 f1 1) fun t22 =>
  HV P C (Instr.loadAt 3 t22) fun t23 =>
  SN P (callFunc 139 #[t23]) w fun t24 w =>
  RS C w fun C =>
  HV P C (Instr.fieldAt 31 f1 2) fun t25 =>
  HV P C (Instr.loadAt 29 t25) fun t26 =>
  SN P (callFunc 140 #[t26]) w fun t27 w =>
  RS C w fun C =>
  SV P (Instr.buildSlice 249 4 #[(0, (str [70])), (1, t21), (2, t24), (3, t27)]) w fun t28 w =>
  RS C w fun C =>
  SN P (callFunc 138 #[t28]) w fun t29 w =>
  RS C w fun _ =>
  k (.tuple #[t29, (Value.int .i64 0)]) w))
  (k (.tuple #[(str []), (Value.int .i64 1)]) w))
  (k (.tuple #[(str []), (Value.int .i64 1)]) w)

theorem e71 (k : Value → World → Prop) (a0_f : Value) (w : World) : s71 Tryz.prog k a0_f w = vcF Tryz.prog Tryz.f71 [] [a0_f] k w := by kernel_rfl
theorem c71 {k : Value → World → Prop} {a0_f : Value} {w : World} (h : s71 Tryz.prog k a0_f w) : Calls Tryz.prog 71 #[a0_f] w (retP k) :=
  calls_of_vcF [] mixedXSeal Tryz.func71 (by kernel_rfl) (Eq.mp (e71 k a0_f w) h)
theorem n71 {args : Array Value} {w : World} {k : Value → World → Prop} (h : Calls Tryz.prog 71 args w (retP k)) : SN Tryz.prog (callFunc 71 args) w k := sn_call Tryz.func71 (by kernel_rfl) (by kernel_rfl) h

/-! ### 73: scrinium/seal.FreezeLeaf -/

def s73 (P : Program) (k : Value → World → Prop) (a0_f : Value) (w : World) : Prop :=
  SV P (Instr.box 31 a0_f) w fun f1 w =>
  SV P (Instr.alloc 29 true (.tuple #[])) w fun t2 w =>
  SV P (Instr.loadAt 31 f1) w fun t6 w =>
  SN P (callFunc 71 #[t6]) w fun t7 w =>
  SV P (Instr.extract t7 0) w fun t8 w =>
  SV P (Instr.extract t7 1) w fun _ w =>
  SN P (callFunc 141 #[t8]) w fun t11 w =>
  SU P (Instr.storeAt 29 t2 t11) w fun w =>
  CR P 29 t2 w fun t2_1 =>
  k t2_1 w

theorem e73 (k : Value → World → Prop) (a0_f : Value) (w : World) : s73 Tryz.prog k a0_f w = vcF Tryz.prog Tryz.f73 [] [a0_f] k w := by kernel_rfl
theorem c73 {k : Value → World → Prop} {a0_f : Value} {w : World} (h : s73 Tryz.prog k a0_f w) : Calls Tryz.prog 73 #[a0_f] w (retP k) :=
  calls_of_vcF [] mixedXSeal Tryz.func73 (by kernel_rfl) (Eq.mp (e73 k a0_f w) h)
theorem n73 {args : Array Value} {w : World} {k : Value → World → Prop} (h : Calls Tryz.prog 73 args w (retP k)) : SN Tryz.prog (callFunc 73 args) w k := sn_call Tryz.func73 (by kernel_rfl) (by kernel_rfl) h

/-! ### 90: scrinium/seal.Head -/

def s90 (P : Program) (k : Value → World → Prop) (a0_key : Value) (a1_size : Value) (a2_root : Value) (a3_clock : Value) (w : World) : Prop :=
  SV P (Instr.box 29 a2_root) w fun root6 w =>
  SV P (Instr.alloc 48 true (.tuple #[])) w fun t8 w =>
  SV P (Instr.loadAt 29 root6) w fun t13 w =>
  SV P (Instr.build 48 #[(0, a1_size), (1, t13), (2, a3_clock)]) w fun t15 w =>
  SV P (Instr.alloc 48 true (.tuple #[])) w fun h9 w =>
  SU P (Instr.storeAt 48 h9 t15) w fun w =>
  SV P (Instr.loadAt 48 h9) w fun t17 w =>
  SN P (callFunc 154 #[t17]) w fun t18 w =>
  SV P (Instr.extract t18 0) w fun t19 w =>
  SV P (Instr.extract t18 1) w fun t20 w =>
  SN P (callFunc 155 #[a0_key, t19, t20]) w fun t24 w =>
  SV P (Instr.fieldAt 48 h9 3) w fun t25 w =>
  SU P (Instr.storeAt 29 t25 t24) w fun w =>
  SV P (Instr.loadAt 48 h9) w fun t26 w =>
  SU P (Instr.storeAt 48 t8 t26) w fun w =>
  CR P 48 t8 w fun t8_1 =>
  k t8_1 w

theorem e90 (k : Value → World → Prop) (a0_key a1_size a2_root a3_clock : Value) (w : World) : s90 Tryz.prog k a0_key a1_size a2_root a3_clock w = vcF Tryz.prog Tryz.f90 [] [a0_key, a1_size, a2_root, a3_clock] k w := by kernel_rfl
theorem c90 {k : Value → World → Prop} {a0_key a1_size a2_root a3_clock : Value} {w : World} (h : s90 Tryz.prog k a0_key a1_size a2_root a3_clock w) : Calls Tryz.prog 90 #[a0_key, a1_size, a2_root, a3_clock] w (retP k) :=
  calls_of_vcF [] mixedXSeal Tryz.func90 (by kernel_rfl) (Eq.mp (e90 k a0_key a1_size a2_root a3_clock w) h)
theorem n90 {args : Array Value} {w : World} {k : Value → World → Prop} (h : Calls Tryz.prog 90 args w (retP k)) : SN Tryz.prog (callFunc 90 args) w k := sn_call Tryz.func90 (by kernel_rfl) (by kernel_rfl) h

/-! ### 137: scrinium/seal.within -/

def s137 (P : Program) (k : Value → World → Prop) (a0_n : Value) (a1_most : Value) (w : World) : Prop :=
  SV P (binOp .geq 3 a0_n (Value.int .i64 0)) w fun t6 w =>
  GD t6 true
  (SV P (binOp .leq 3 a0_n a1_most) w fun t10 w =>
  k t10 w)
  (k (Value.bool false) w)

theorem e137 (k : Value → World → Prop) (a0_n a1_most : Value) (w : World) : s137 Tryz.prog k a0_n a1_most w = vcF Tryz.prog Tryz.f137 [] [a0_n, a1_most] k w := by kernel_rfl
theorem c137 {k : Value → World → Prop} {a0_n a1_most : Value} {w : World} (h : s137 Tryz.prog k a0_n a1_most w) : Calls Tryz.prog 137 #[a0_n, a1_most] w (retP k) :=
  calls_of_vcF [] mixedXSeal Tryz.func137 (by kernel_rfl) (Eq.mp (e137 k a0_n a1_most w) h)
theorem n137 {args : Array Value} {w : World} {k : Value → World → Prop} (h : Calls Tryz.prog 137 args w (retP k)) : SN Tryz.prog (callFunc 137 args) w k := sn_call Tryz.func137 (by kernel_rfl) (by kernel_rfl) h

/-! ### 138: scrinium/seal.says -/

def s138 (P : Program) (k : Value → World → Prop) (a0_parts : Value) (w : World) : Prop :=
  SN P (callFunc 217 #[a0_parts, (str [])]) w fun t4 w =>
  k t4 w

theorem e138 (k : Value → World → Prop) (a0_parts : Value) (w : World) : s138 Tryz.prog k a0_parts w = vcF Tryz.prog Tryz.f138 [] [a0_parts] k w := by kernel_rfl
theorem c138 {k : Value → World → Prop} {a0_parts : Value} {w : World} (h : s138 Tryz.prog k a0_parts w) : Calls Tryz.prog 138 #[a0_parts] w (retP k) :=
  calls_of_vcF [] mixedXSeal Tryz.func138 (by kernel_rfl) (Eq.mp (e138 k a0_parts w) h)
theorem n138 {args : Array Value} {w : World} {k : Value → World → Prop} (h : Calls Tryz.prog 138 args w (retP k)) : SN Tryz.prog (callFunc 138 args) w k := sn_call Tryz.func138 (by kernel_rfl) (by kernel_rfl) h

/-! ### 139: scrinium/seal.number -/

def s139 (P : Program) (k : Value → World → Prop) (a0_n : Value) (w : World) : Prop :=
  SV P (convert 3 198 a0_n) w fun t4 w =>
  SN P (callFunc 218 #[t4]) w fun t5 w =>
  k t5 w

theorem e139 (k : Value → World → Prop) (a0_n : Value) (w : World) : s139 Tryz.prog k a0_n w = vcF Tryz.prog Tryz.f139 [] [a0_n] k w := by kernel_rfl
theorem c139 {k : Value → World → Prop} {a0_n : Value} {w : World} (h : s139 Tryz.prog k a0_n w) : Calls Tryz.prog 139 #[a0_n] w (retP k) :=
  calls_of_vcF [] mixedXSeal Tryz.func139 (by kernel_rfl) (Eq.mp (e139 k a0_n w) h)
theorem n139 {args : Array Value} {w : World} {k : Value → World → Prop} (h : Calls Tryz.prog 139 args w (retP k)) : SN Tryz.prog (callFunc 139 args) w k := sn_call Tryz.func139 (by kernel_rfl) (by kernel_rfl) h

/-! ### 140: scrinium/seal.sum -/

def s140 (P : Program) (k : Value → World → Prop) (a0_s : Value) (w : World) : Prop :=
  SV P (Instr.box 29 a0_s) w fun s1 w =>
  SV P (Instr.loadAt 29 s1) w fun t3 w =>
  SN P (callFunc 163 #[t3]) w fun t4 w =>
  SN P (callFunc 219 #[t4]) w fun t5 w =>
  k t5 w

theorem e140 (k : Value → World → Prop) (a0_s : Value) (w : World) : s140 Tryz.prog k a0_s w = vcF Tryz.prog Tryz.f140 [] [a0_s] k w := by kernel_rfl
theorem c140 {k : Value → World → Prop} {a0_s : Value} {w : World} (h : s140 Tryz.prog k a0_s w) : Calls Tryz.prog 140 #[a0_s] w (retP k) :=
  calls_of_vcF [] mixedXSeal Tryz.func140 (by kernel_rfl) (Eq.mp (e140 k a0_s w) h)
theorem n140 {args : Array Value} {w : World} {k : Value → World → Prop} (h : Calls Tryz.prog 140 args w (retP k)) : SN Tryz.prog (callFunc 140 args) w k := sn_call Tryz.func140 (by kernel_rfl) (by kernel_rfl) h

/-! ### 154: scrinium/seal.headSays -/

def s154 (P : Program) (k : Value → World → Prop) (a0_h : Value) (w : World) : Prop :=
  SV P (Instr.box 48 a0_h) w fun h1 w =>
  SV P (Instr.fieldAt 48 h1 0) w fun t4 w =>
  SV P (Instr.loadAt 3 t4) w fun t5 w =>
  SN P (callFunc 137 #[t5, (Value.int .i64 1099511627776)]) w fun t6 w =>
  SV P (Op.unary .not t6) w fun t7 w =>
  GD t7 false
  (SV P (Instr.fieldAt 48 h1 2) w fun t9 w =>
  SV P (Instr.loadAt 3 t9) w fun t10 w =>
  SN P (callFunc 137 #[t10, (Value.int .i64 1125899906842624)]) w fun t11 w =>
  SV P (Op.unary .not t11) w fun t12 w =>
  CN t12
  (k (.tuple #[(str []), (Value.int .i64 1)]) w)
  (HR w fun C w =>
  HV P C (Instr.fieldAt 48 h1 0) fun t14 =>
  HV P C (Instr.loadAt 3 t14) fun t15 =>
  SN P (callFunc 139 #[t15]) w fun t16 w =>
  RS C w fun C =>
  HV P C (Instr.fieldAt 48 h1 1) fun t17 =>
  HV P C (Instr.loadAt 29 t17) fun t18 =>
  SN P (callFunc 140 #[t18]) w fun t19 w =>
  RS C w fun C =>
  HV P C (Instr.fieldAt 48 h1 2) fun t20 =>
  HV P C (Instr.loadAt 3 t20) fun t21 =>
  SN P (callFunc 139 #[t21]) w fun t22 w =>
  RS C w fun C =>
  SV P (Instr.buildSlice 249 4 #[(0, (str [72])), (1, t16), (2, t19), (3, t22)]) w fun t23 w =>
  RS C w fun C =>
  SN P (callFunc 138 #[t23]) w fun t24 w =>
  RS C w fun _ =>
  k (.tuple #[t24, (Value.int .i64 0)]) w))
  (k (.tuple #[(str []), (Value.int .i64 1)]) w)

theorem e154 (k : Value → World → Prop) (a0_h : Value) (w : World) : s154 Tryz.prog k a0_h w = vcF Tryz.prog Tryz.f154 [] [a0_h] k w := by kernel_rfl
theorem c154 {k : Value → World → Prop} {a0_h : Value} {w : World} (h : s154 Tryz.prog k a0_h w) : Calls Tryz.prog 154 #[a0_h] w (retP k) :=
  calls_of_vcF [] mixedXSeal Tryz.func154 (by kernel_rfl) (Eq.mp (e154 k a0_h w) h)
theorem n154 {args : Array Value} {w : World} {k : Value → World → Prop} (h : Calls Tryz.prog 154 args w (retP k)) : SN Tryz.prog (callFunc 154 args) w k := sn_call Tryz.func154 (by kernel_rfl) (by kernel_rfl) h

/-! ### 155: scrinium/seal.signed -/

def s155 (P : Program) (k : Value → World → Prop) (a0_key : Value) (a1_s : Value) (a2_e : Value) (w : World) : Prop :=
  SV P (Instr.alloc 29 true (.tuple #[])) w fun t6 w =>
  SV P (eqS .neq 32 (.tmp 7) (.const (Value.int .i64 0)) a2_e (Value.int .i64 0)) w fun t8 w =>
  CN t8
  (SV P (Instr.build 29 #[]) w fun t9 w =>
  SU P (Instr.storeAt 29 t6 t9) w fun w =>
  CR P 29 t6 w fun t6_1 =>
  k t6_1 w)
  (SV P (Instr.buildSlice 249 1 #[(0, a1_s)]) w fun t12 w =>
  SN P (callFunc 235 #[a0_key, t12]) w fun t13 w =>
  SU P (Instr.storeAt 29 t6 t13) w fun w =>
  CR P 29 t6 w fun t6_1 =>
  k t6_1 w)

theorem e155 (k : Value → World → Prop) (a0_key a1_s a2_e : Value) (w : World) : s155 Tryz.prog k a0_key a1_s a2_e w = vcF Tryz.prog Tryz.f155 [] [a0_key, a1_s, a2_e] k w := by kernel_rfl
theorem c155 {k : Value → World → Prop} {a0_key a1_s a2_e : Value} {w : World} (h : s155 Tryz.prog k a0_key a1_s a2_e w) : Calls Tryz.prog 155 #[a0_key, a1_s, a2_e] w (retP k) :=
  calls_of_vcF [] mixedXSeal Tryz.func155 (by kernel_rfl) (Eq.mp (e155 k a0_key a1_s a2_e w) h)
theorem n155 {args : Array Value} {w : World} {k : Value → World → Prop} (h : Calls Tryz.prog 155 args w (retP k)) : SN Tryz.prog (callFunc 155 args) w k := sn_call Tryz.func155 (by kernel_rfl) (by kernel_rfl) h

end Go.Proofs.YtkdghnbogkbedaaGreatDoor

namespace Go.Proofs.YtkdghnbogkbedaaGreatDoor
open Go Go.Sh
set_option maxRecDepth 100000


theorem mixedXLeaf : Tryz.prog.follows .mixedOrders = true := by kernel_rfl

/-! ### 86: scrinium/leaf.Empty -/

def s86 (P : Program) (k : Value → World → Prop) (w : World) : Prop :=
  SV P (Instr.alloc 29 true (.tuple #[])) w fun t0 w =>
  SN P (callFunc 151 #[(Value.slice none 0 0)]) w fun t1 w =>
  SU P (Instr.storeAt 29 t0 t1) w fun w =>
  CR P 29 t0 w fun t0_1 =>
  k t0_1 w

theorem e86 (k : Value → World → Prop) (w : World) : s86 Tryz.prog k  w = vcF Tryz.prog Tryz.f86 [] [] k w := by kernel_rfl
theorem c86 {k : Value → World → Prop} {w : World} (h : s86 Tryz.prog k  w) : Calls Tryz.prog 86 #[] w (retP k) :=
  calls_of_vcF [] mixedXLeaf Tryz.func86 (by kernel_rfl) (Eq.mp (e86 k  w) h)
theorem n86 {args : Array Value} {w : World} {k : Value → World → Prop} (h : Calls Tryz.prog 86 args w (retP k)) : SN Tryz.prog (callFunc 86 args) w k := sn_call Tryz.func86 (by kernel_rfl) (by kernel_rfl) h

/-! ### 141: scrinium/leaf.Leaf -/

def s141 (P : Program) (k : Value → World → Prop) (a0_data : Value) (w : World) : Prop :=
  SV P (Instr.alloc 29 true (.tuple #[])) w fun t2 w =>
  SV P (Instr.buildSlice 249 2 #[(0, (str [0])), (1, a0_data)]) w fun t4 w =>
  SN P (callFunc 151 #[t4]) w fun t5 w =>
  SU P (Instr.storeAt 29 t2 t5) w fun w =>
  CR P 29 t2 w fun t2_1 =>
  k t2_1 w

theorem e141 (k : Value → World → Prop) (a0_data : Value) (w : World) : s141 Tryz.prog k a0_data w = vcF Tryz.prog Tryz.f141 [] [a0_data] k w := by kernel_rfl
theorem c141 {k : Value → World → Prop} {a0_data : Value} {w : World} (h : s141 Tryz.prog k a0_data w) : Calls Tryz.prog 141 #[a0_data] w (retP k) :=
  calls_of_vcF [] mixedXLeaf Tryz.func141 (by kernel_rfl) (Eq.mp (e141 k a0_data w) h)
theorem n141 {args : Array Value} {w : World} {k : Value → World → Prop} (h : Calls Tryz.prog 141 args w (retP k)) : SN Tryz.prog (callFunc 141 args) w k := sn_call Tryz.func141 (by kernel_rfl) (by kernel_rfl) h

/-! ### 142: scrinium/leaf.Node -/

def s142 (P : Program) (k : Value → World → Prop) (a0_a : Value) (a1_b : Value) (w : World) : Prop :=
  SV P (Instr.box 29 a0_a) w fun a2 w =>
  SV P (Instr.box 29 a1_b) w fun b3 w =>
  SV P (Instr.alloc 29 true (.tuple #[])) w fun t4 w =>
  SV P (Instr.loadAt 29 a2) w fun t5 w =>
  SV P (Instr.loadAt 29 b3) w fun t6 w =>
  SN P (callFunc 220 #[t5, t6]) w fun t7 w =>
  SV P (Instr.buildSlice 249 1 #[(0, t7)]) w fun t8 w =>
  SN P (callFunc 151 #[t8]) w fun t9 w =>
  SU P (Instr.storeAt 29 t4 t9) w fun w =>
  CR P 29 t4 w fun t4_1 =>
  k t4_1 w

theorem e142 (k : Value → World → Prop) (a0_a a1_b : Value) (w : World) : s142 Tryz.prog k a0_a a1_b w = vcF Tryz.prog Tryz.f142 [] [a0_a, a1_b] k w := by kernel_rfl
theorem c142 {k : Value → World → Prop} {a0_a a1_b : Value} {w : World} (h : s142 Tryz.prog k a0_a a1_b w) : Calls Tryz.prog 142 #[a0_a, a1_b] w (retP k) :=
  calls_of_vcF [] mixedXLeaf Tryz.func142 (by kernel_rfl) (Eq.mp (e142 k a0_a a1_b w) h)
theorem n142 {args : Array Value} {w : World} {k : Value → World → Prop} (h : Calls Tryz.prog 142 args w (retP k)) : SN Tryz.prog (callFunc 142 args) w k := sn_call Tryz.func142 (by kernel_rfl) (by kernel_rfl) h

/-! ### 220: scrinium/leaf.Preimage -/

def s220 (P : Program) (k : Value → World → Prop) (a0_a : Value) (a1_b : Value) (w : World) : Prop :=
  SV P (Instr.box 29 a0_a) w fun a2 w =>
  SV P (Instr.box 29 a1_b) w fun b3 w =>
  HR w fun C w =>
  HV P C (Instr.loadAt 29 a2) fun t5 =>
  SN P (callFunc 163 #[t5]) w fun t6 w =>
  RS C w fun C =>
  HV P C (binOp .add 9 (str [1]) t6) fun t7 =>
  HV P C (Instr.loadAt 29 b3) fun t8 =>
  SN P (callFunc 163 #[t8]) w fun t9 w =>
  C w ∧
  HV P C (binOp .add 9 t7 t9) fun t10 =>
  k t10 w

theorem e220 (k : Value → World → Prop) (a0_a a1_b : Value) (w : World) : s220 Tryz.prog k a0_a a1_b w = vcF Tryz.prog Tryz.f220 [] [a0_a, a1_b] k w := by kernel_rfl
theorem c220 {k : Value → World → Prop} {a0_a a1_b : Value} {w : World} (h : s220 Tryz.prog k a0_a a1_b w) : Calls Tryz.prog 220 #[a0_a, a1_b] w (retP k) :=
  calls_of_vcF [] mixedXLeaf Tryz.func220 (by kernel_rfl) (Eq.mp (e220 k a0_a a1_b w) h)
theorem n220 {args : Array Value} {w : World} {k : Value → World → Prop} (h : Calls Tryz.prog 220 args w (retP k)) : SN Tryz.prog (callFunc 220 args) w k := sn_call Tryz.func220 (by kernel_rfl) (by kernel_rfl) h

end Go.Proofs.YtkdghnbogkbedaaGreatDoor

namespace Go.Proofs.YtkdghnbogkbedaaGreatDoor
open Go Go.Sh
set_option maxRecDepth 100000


theorem mixedXRef16 : Tryz.prog.follows .mixedOrders = true := by kernel_rfl

/-! ### 27: scrinium/scriniumref16.Head -/

def s27_j1 (P : Program) (k : Value → World → Prop) (t8 : Value) (h9 : Value) (w : World) : Prop :=
  SV P (Instr.loadAt 48 h9) w fun t26 w =>
  SU P (Instr.storeAt 48 t8 t26) w fun w =>
  CR P 48 t8 w fun t8_1 =>
  k t8_1 w

def s27 (P : Program) (k : Value → World → Prop) (a0_key : Value) (a1_size : Value) (a2_root : Value) (a3_clock : Value) (w : World) : Prop :=
  SV P (Instr.box 29 a2_root) w fun root6 w =>
  SV P (Instr.alloc 48 true (.tuple #[])) w fun t8 w =>
  SV P (Instr.loadAt 29 root6) w fun t13 w =>
  SV P (Instr.build 48 #[(0, a1_size), (1, t13), (2, a3_clock)]) w fun t15 w =>
  SV P (Instr.alloc 48 true (.tuple #[])) w fun h9 w =>
  SU P (Instr.storeAt 48 h9 t15) w fun w =>
  SV P (Instr.loadAt 48 h9) w fun t17 w =>
  SN P (callFunc 91 #[t17]) w fun t18 w =>
  SV P (Instr.extract t18 0) w fun t19 w =>
  SV P (Instr.extract t18 1) w fun t20 w =>
  JP 0 (fun j =>
  CN t20
  (SN P (callFunc 92 #[a0_key, t19]) w fun t24 w =>
  SV P (Instr.fieldAt 48 h9 3) w fun t25 w =>
  SU P (Instr.storeAt 29 t25 t24) w fun w =>
  j [] w)
  (j [] w))
  (fun _ _ w => s27_j1 P k t8 h9 w)

theorem e27 (k : Value → World → Prop) (a0_key a1_size a2_root a3_clock : Value) (w : World) : s27 Tryz.prog k a0_key a1_size a2_root a3_clock w = vcF Tryz.prog Tryz.f27 [] [a0_key, a1_size, a2_root, a3_clock] k w := by kernel_rfl
theorem c27 {k : Value → World → Prop} {a0_key a1_size a2_root a3_clock : Value} {w : World} (h : s27 Tryz.prog k a0_key a1_size a2_root a3_clock w) : Calls Tryz.prog 27 #[a0_key, a1_size, a2_root, a3_clock] w (retP k) :=
  calls_of_vcF [] mixedXRef16 Tryz.func27 (by kernel_rfl) (Eq.mp (e27 k a0_key a1_size a2_root a3_clock w) h)
theorem n27 {args : Array Value} {w : World} {k : Value → World → Prop} (h : Calls Tryz.prog 27 args w (retP k)) : SN Tryz.prog (callFunc 27 args) w k := sn_call Tryz.func27 (by kernel_rfl) (by kernel_rfl) h

/-! ### 91: scrinium/scriniumref16.headSays -/

def s91 (P : Program) (k : Value → World → Prop) (a0_h : Value) (w : World) : Prop :=
  SV P (Instr.box 48 a0_h) w fun h1 w =>
  SV P (Instr.fieldAt 48 h1 0) w fun t4 w =>
  SV P (Instr.loadAt 3 t4) w fun t5 w =>
  SV P (binOp .lss 3 t5 (Value.int .i64 0)) w fun t6 w =>
  GD t6 false
  (SV P (Instr.fieldAt 48 h1 0) w fun t8 w =>
  SV P (Instr.loadAt 3 t8) w fun t9 w =>
  SV P (binOp .gtr 3 t9 (Value.int .i64 1099511627776)) w fun t10 w =>
  GD t10 false
  (SV P (Instr.fieldAt 48 h1 2) w fun t13 w =>
  SV P (Instr.loadAt 3 t13) w fun t14 w =>
  SV P (binOp .lss 3 t14 (Value.int .i64 0)) w fun t15 w =>
  GD t15 false
  (SV P (Instr.fieldAt 48 h1 2) w fun t18 w =>
  SV P (Instr.loadAt 3 t18) w fun t19 w =>
  SV P (binOp .gtr 3 t19 (Value.int .i64 1125899906842624)) w fun t20 w =>
  CN t20
  (k (.tuple #[(str []), (Value.bool false)]) w)
  (HR w fun C w =>
  HV P C (Instr.fieldAt 48 h1 0) fun t22 =>
  HV P C (Instr.loadAt 3 t22) fun t23 =>
  HV P C (convert 3 198 t23) fun t24 =>
  SN P (callFunc 156 #[t24]) w fun t25 w =>
  RS C w fun C =>
  HV P C (binOp .add 9 (str [72]) t25) fun t26 =>
  HV P C (Instr.fieldAt 48 h1 1) fun t27 =>
  HV P C (Instr.loadAt 29 t27) fun t28 =>
  SN P (callFunc 157 #[t28]) w fun t29 w =>
  C w ∧
  HV P C (binOp .add 9 t26 t29) fun t30 =>
  HV P C (Instr.fieldAt 48 h1 2) fun t31 =>
  HV P C (Instr.loadAt 3 t31) fun t32 =>
  HV P C (convert 3 198 t32) fun t33 =>
  SN P (callFunc 156 #[t33]) w fun t34 w =>
  C w ∧
  HV P C (binOp .add 9 t30 t34) fun t35 =>
  k (.tuple #[t35, (Value.bool true)]) w))
  (k (.tuple #[(str []), (Value.bool false)]) w))
  (k (.tuple #[(str []), (Value.bool false)]) w))
  (k (.tuple #[(str []), (Value.bool false)]) w)

theorem e91 (k : Value → World → Prop) (a0_h : Value) (w : World) : s91 Tryz.prog k a0_h w = vcF Tryz.prog Tryz.f91 [] [a0_h] k w := by kernel_rfl
theorem c91 {k : Value → World → Prop} {a0_h : Value} {w : World} (h : s91 Tryz.prog k a0_h w) : Calls Tryz.prog 91 #[a0_h] w (retP k) :=
  calls_of_vcF [] mixedXRef16 Tryz.func91 (by kernel_rfl) (Eq.mp (e91 k a0_h w) h)
theorem n91 {args : Array Value} {w : World} {k : Value → World → Prop} (h : Calls Tryz.prog 91 args w (retP k)) : SN Tryz.prog (callFunc 91 args) w k := sn_call Tryz.func91 (by kernel_rfl) (by kernel_rfl) h

/-! ### 157: scrinium/scriniumref16.sum -/

def s157 (P : Program) (k : Value → World → Prop) (a0_s : Value) (w : World) : Prop :=
  SV P (Instr.box 29 a0_s) w fun s1 w =>
  SV P (Instr.loadAt 29 s1) w fun t3 w =>
  SN P (callFunc 160 #[t3]) w fun t4 w =>
  SN P (callFunc 191 #[t4]) w fun t5 w =>
  k t5 w

theorem e157 (k : Value → World → Prop) (a0_s : Value) (w : World) : s157 Tryz.prog k a0_s w = vcF Tryz.prog Tryz.f157 [] [a0_s] k w := by kernel_rfl
theorem c157 {k : Value → World → Prop} {a0_s : Value} {w : World} (h : s157 Tryz.prog k a0_s w) : Calls Tryz.prog 157 #[a0_s] w (retP k) :=
  calls_of_vcF [] mixedXRef16 Tryz.func157 (by kernel_rfl) (Eq.mp (e157 k a0_s w) h)
theorem n157 {args : Array Value} {w : World} {k : Value → World → Prop} (h : Calls Tryz.prog 157 args w (retP k)) : SN Tryz.prog (callFunc 157 args) w k := sn_call Tryz.func157 (by kernel_rfl) (by kernel_rfl) h

end Go.Proofs.YtkdghnbogkbedaaGreatDoor

namespace Go.Sh
open Go Go.RowKit

def numB (n : Int) : List UInt8 := putN n.toNat
def sumB (s : Sum) : List UInt8 := textN s.l
def Freeze.ok (f : Freeze) : Prop := (0 ≤ f.window ∧ f.window ≤ 1125899906842624) ∧ (1 ≤ f.count ∧ f.count ≤ 4000)
instance (f : Freeze) : Decidable f.ok := by unfold Freeze.ok; infer_instance
def Freeze.bytes (f : Freeze) : List UInt8 := [70] ++ numB f.window ++ numB f.count ++ sumB f.root
def headOk (size clock : Int) : Prop := (0 ≤ size ∧ size ≤ 1099511627776) ∧ (0 ≤ clock ∧ clock ≤ 1125899906842624)
instance (a b : Int) : Decidable (headOk a b) := by unfold headOk; infer_instance
def headBytes (size : Int) (root : Sum) (clock : Int) : List UInt8 := [72] ++ numB size ++ sumB root ++ numB clock
def headOf (key : List UInt8) (size : Int) (root : Sum) (clock : Int) : Head := ⟨size, root, clock, if headOk size clock then hmac key (headBytes size root clock) else Sum.zero⟩

theorem numB_len {n : Int} (h : n ≤ 1125899906842624) : (numB n).length ≤ 9 := putN_len (by omega)
theorem sumB_len (s : Sum) : (sumB s).length ≤ 41 := by
  have := putN_len (n := s.l.length) (by rw [s.h]; decide)
  unfold sumB textN
  rw [List.length_append, s.h]
  rw [s.h] at this
  omega

theorem join_nil (l : List (List UInt8)) : Lib.join l [] = l.flatten := by
  induction l with
  | nil => rfl
  | cons a l ih => cases l <;> simp_all [Lib.join]

section
variable {P : Program} {w : World}
/-- []string{..} -/
theorem SV_strs {ty e b n : Nat} [hT : SlT P ty e 1] [hI : Inf P e 1 b] (ls : List (List UInt8)) {parts : Array (Nat × Value)} {k : Value → World → Prop} (hp : parts.toList = ((ls.map str).zipIdx 0).map fun (v, i) => (i, v)) (hn : n = ls.length) (hl : ls.length ≤ 1000)
    (hk : ∀ v w', Ch No w w' → Rd w' e 1 v n (ls.map str) → k v w') : SV P (Instr.buildSlice ty n parts) w k := by
  have hf : (ls.map fun l => [str l]).flatten = ls.map str := by
    clear hp hn hl hk
    induction ls with
    | nil => rfl
    | cons a l ih => simp_all
  refine SV_lits (e := e) (sz := 1) (ls.map str) (ls.map fun l => [str l]) hp (fun i v hv => ?_) (by simp) (by simpa using hn) (by simp; omega) fun g3 w3 hg3 b3 h3 ho => ?_
  · rw [List.getElem?_map] at hv
    cases hi : ls[i]? with
    | none => rw [hi] at hv; cases hv
    | some l =>
      rw [hi] at hv
      simp only [Option.map_some, Option.some.injEq] at hv
      subst hv
      exact ⟨[str l], by simp [hi], rfl, rfl⟩
  · rw [hf] at ho
    exact hk _ _ h3 (Rd.of_own ho)
theorem pu_idw {s d : TypeId} [IsInt P s .i64] [IsInt P d .u64] {n : Int} (h0 : 0 ≤ n) (h1 : n ≤ 9223372036854775807) : Pu P (convert s d (.int .i64 n)) (.int .u64 n.toNat) := fun w => by
  rw [w64_conv h0 h1 w, Int.toNat_of_nonneg h0]
end
end Go.Sh
namespace Go.Proofs.YtkdghnbogkbedaaGreatDoor
open Go Go.Sh Go.RowKit
set_option maxRecDepth 100000
set_option maxHeartbeats 1000000
set_option linter.unusedSimpArgs false
set_option linter.unusedVariables false

theorem str_join {T n : Nat} {v : Value} {ls : List (List UInt8)} {w : World} (hr : Rd w T 1 v n (ls.map str)) (hn : 0 < n) (hb : ls.flatten.length ≤ 140737488355328) (hn2 : n ≤ 1000000) : Ret Tryz.prog 217 #[v, str []] w (str ls.flatten) := by
  have hl : ls.length = n := by have := hr.len; simpa using this
  obtain ⟨_, _, A, c, rfl, hc, h4⟩ := hr
  obtain ⟨b, o, C, fr, rfl, hbk, hx⟩ := h4 hn
  have hlt : b < w.heap.size := by
    rcases Nat.lt_or_ge b w.heap.size with h | h
    · exact h
    · rw [Array.getElem?_eq_none h] at hbk; cases hbk
  have hmap : ((ls.map fun l => (⟨l.toArray⟩ : ByteArray)).map (·.data.toList)) = ls := by
    rw [List.map_map]
    have : ((fun x : ByteArray => x.data.toList) ∘ fun l => (⟨l.toArray⟩ : ByteArray)) = id := by funext l; simp
    rw [this, List.map_id]
  have h := Tryz.strings_Join b o c (ls.map fun l => ⟨l.toArray⟩) ⟨#[]⟩ w (fun j x hj => by
    rw [cell_of_row w b _ C T fr hbk]
    refine hx j _ ?_
    rw [List.getElem?_map] at hj ⊢
    cases hi : ls[j]? with
    | none => rw [hi] at hj; cases hj
    | some l => rw [hi] at hj; simp only [Option.map_some, Option.some.injEq] at hj ⊢; subst hj; rfl) hlt (by simp; omega) (by simp; omega) (by rw [hmap]; show (Lib.join ls []).length ≤ _; rw [join_nil]; exact hb)
  rw [hmap] at h
  have e : Lib.join ls (ByteArray.mk #[]).data.toList = ls.flatten := join_nil ls
  rw [e, List.length_map, hl] at h
  exact Ret.of_below (v := str ls.flatten) h

theorem seal_within (n m : Int) (w : World) : Ret Tryz.prog 137 #[.int .i64 n, .int .i64 m] w (.bool (decide (0 ≤ n ∧ n ≤ m))) := by
  refine c137 ?_
  unfold s137
  (first | refine SV_p (by first | exact True.intro | omega | (simp only [List.length_append, List.length_cons, List.length_nil, List.length_replicate, List.length_map]; omega)) ?_ | refine HV_p (by first | exact True.intro | omega | (simp only [List.length_append, List.length_cons, List.length_nil, List.length_replicate, List.length_map]; omega)) ?_)
  refine GD_split (fun h => ?_) (fun h => ?_)
  · (first | refine SV_p (by first | exact True.intro | omega | (simp only [List.length_append, List.length_cons, List.length_nil, List.length_replicate, List.length_map]; omega)) ?_ | refine HV_p (by first | exact True.intro | omega | (simp only [List.length_append, List.length_cons, List.length_nil, List.length_replicate, List.length_map]; omega)) ?_)
    exact ⟨by congr 1; simp [h], Ch.refl w⟩
  · exact ⟨by congr 1; simp [h], Ch.refl w⟩

theorem seal_says {T n : Nat} {v : Value} {ls : List (List UInt8)} {w : World} (hr : Rd w T 1 v n (ls.map str)) (hn : 0 < n) (hb : ls.flatten.length ≤ 140737488355328) (hn2 : n ≤ 1000000) : Ret Tryz.prog 138 #[v] w (str ls.flatten) := by
  refine c138 ?_
  unfold s138
  refine n217 ((str_join hr hn hb hn2).use fun w1 h1 => ?_)
  exact ⟨rfl, h1⟩

theorem seal_number (n : Int) (h0 : 0 ≤ n) (h1 : n ≤ 1125899906842624) (w : World) : Ret Tryz.prog 139 #[.int .i64 n] w (str (numB n)) := by
  refine c139 ?_
  unfold s139
  refine SV_pu (pu_idw h0 (by omega)) ?_
  refine n218 ((oct_put _ (by omega) _).use fun w1 h1 => ?_)
  exact ⟨rfl, h1⟩

theorem seal_sum (s : Sum) (w : World) : Ret Tryz.prog 140 #[s.v] w (str (sumB s)) := by
  refine c140 ?_
  unfold s140
  refine SV_box (vs := s.cells) rfl fun g1 w1 hg1 b1 h1 => ?_
  refine SV_loadB b1 s.len ?_
  refine n163 ((sha_bytes s _).use fun w2 h2 => ?_)
  refine n219 ((oct_text _ (by rw [s.h]; decide) _).use fun w3 h3 => ?_)
  exact ⟨rfl, h1.trans (h2.trans h3)⟩

theorem Freeze.fld0 (f : Freeze) : f.cells[0]? = some (.int .i64 f.window) := rfl
theorem Freeze.fld1 (f : Freeze) : f.cells[1]? = some (.int .i64 f.count) := rfl
theorem Freeze.fld2 (f : Freeze) : (f.cells.drop 2).take 32 = f.root.cells := by
  show f.root.cells.take 32 = _
  exact List.take_of_length_le (by rw [f.root.len]; exact Nat.le_refl _)

theorem freeze_bytes (f : Freeze) (w : World) : Ret Tryz.prog 71 #[f.v] w (if f.ok then .tuple #[str f.bytes, .int .i64 0] else .tuple #[str [], .int .i64 1]) := by
  refine c71 ?_
  unfold s71
  refine SV_box (vs := f.cells) rfl fun g1 w1 hg1 b1 h1 => ?_
  (first | refine SV_p (by first | exact True.intro | omega | (simp only [List.length_append, List.length_cons, List.length_nil, List.length_replicate, List.length_map]; omega)) ?_ | refine HV_p (by first | exact True.intro | omega | (simp only [List.length_append, List.length_cons, List.length_nil, List.length_replicate, List.length_map]; omega)) ?_)
  refine SV_load b1 (Freeze.fld0 f) ?_
  refine n137 ((seal_within _ _ _).use fun w2 h2 => ?_)
  have b2 := b1.no h2
  (first | refine SV_p (by first | exact True.intro | omega | (simp only [List.length_append, List.length_cons, List.length_nil, List.length_replicate, List.length_map]; omega)) ?_ | refine HV_p (by first | exact True.intro | omega | (simp only [List.length_append, List.length_cons, List.length_nil, List.length_replicate, List.length_map]; omega)) ?_)
  refine GD_bool (fun hw => ?_) (fun hw => ?_)
  · have hw' : 0 ≤ f.window ∧ f.window ≤ 1125899906842624 := by simpa using hw
    (first | refine SV_p (by first | exact True.intro | omega | (simp only [List.length_append, List.length_cons, List.length_nil, List.length_replicate, List.length_map]; omega)) ?_ | refine HV_p (by first | exact True.intro | omega | (simp only [List.length_append, List.length_cons, List.length_nil, List.length_replicate, List.length_map]; omega)) ?_)
    refine SV_load b2 (Freeze.fld1 f) ?_
    (first | refine SV_p (by first | exact True.intro | omega | (simp only [List.length_append, List.length_cons, List.length_nil, List.length_replicate, List.length_map]; omega)) ?_ | refine HV_p (by first | exact True.intro | omega | (simp only [List.length_append, List.length_cons, List.length_nil, List.length_replicate, List.length_map]; omega)) ?_)
    refine GD_splitf (fun hc => ?_) (fun hc => ?_)
    · (first | refine SV_p (by first | exact True.intro | omega | (simp only [List.length_append, List.length_cons, List.length_nil, List.length_replicate, List.length_map]; omega)) ?_ | refine HV_p (by first | exact True.intro | omega | (simp only [List.length_append, List.length_cons, List.length_nil, List.length_replicate, List.length_map]; omega)) ?_)
      refine SV_load b2 (Freeze.fld1 f) ?_
      refine n137 ((seal_within _ _ _).use fun w3 h3 => ?_)
      have b3 := b2.no h3
      (first | refine SV_p (by first | exact True.intro | omega | (simp only [List.length_append, List.length_cons, List.length_nil, List.length_replicate, List.length_map]; omega)) ?_ | refine HV_p (by first | exact True.intro | omega | (simp only [List.length_append, List.length_cons, List.length_nil, List.length_replicate, List.length_map]; omega)) ?_)
      refine CN_bool (fun hw2 => ?_) (fun hw2 => ?_)
      · have hnot : ¬ f.ok := fun h => by
          have h2 := h.2
          simp at hw2
          omega
        rw [if_neg hnot]
        exact ⟨rfl, h1.trans (h2.trans h3)⟩
      · have hw2' : 0 ≤ f.count ∧ f.count ≤ 4000 := by simpa using hw2
        rw [if_pos (show f.ok from ⟨hw', by omega, hw2'.2⟩)]
        have hc3 := h1.trans (h2.trans h3)
        refine HR_kp No ?_
        (first | refine SV_p (by first | exact True.intro | omega | (simp only [List.length_append, List.length_cons, List.length_nil, List.length_replicate, List.length_map]; omega)) ?_ | refine HV_p (by first | exact True.intro | omega | (simp only [List.length_append, List.length_cons, List.length_nil, List.length_replicate, List.length_map]; omega)) ?_)
        refine HV_load b3 (fun h => h) (Freeze.fld0 f) ?_
        refine n139 ((seal_number _ hw'.1 hw'.2 _).use fun w4 h4 => ?_)
        have h4' : Ch No w3 w4 := (Ch.drew _).trans h4
        (first | refine RS_same (h4') ?_ | refine ⟨h4', ?_⟩)
        (first | refine SV_p (by first | exact True.intro | omega | (simp only [List.length_append, List.length_cons, List.length_nil, List.length_replicate, List.length_map]; omega)) ?_ | refine HV_p (by first | exact True.intro | omega | (simp only [List.length_append, List.length_cons, List.length_nil, List.length_replicate, List.length_map]; omega)) ?_)
        refine HV_load b3 (fun h => h) (Freeze.fld1 f) ?_
        refine n139 ((seal_number _ hw2'.1 (by omega) _).use fun w5 h5 => ?_)
        have h5' := h4'.trans h5
        (first | refine RS_same (h5') ?_ | refine ⟨h5', ?_⟩)
        (first | refine SV_p (by first | exact True.intro | omega | (simp only [List.length_append, List.length_cons, List.length_nil, List.length_replicate, List.length_map]; omega)) ?_ | refine HV_p (by first | exact True.intro | omega | (simp only [List.length_append, List.length_cons, List.length_nil, List.length_replicate, List.length_map]; omega)) ?_)
        refine HV_loadN b3 (fun h => h) (Freeze.fld2 f) f.root.len ?_
        refine n140 ((seal_sum f.root _).use fun w6 h6 => ?_)
        have h6' := h5'.trans h6
        (first | refine RS_same (h6') ?_ | refine ⟨h6', ?_⟩)
        refine SV_strs [[70], numB f.window, numB f.count, sumB f.root] rfl rfl (by simp) fun v w7 h7 hr => ?_
        have h7' := h6'.trans h7
        (first | refine RS_same (h7') ?_ | refine ⟨h7', ?_⟩)
        have l1 := numB_len hw'.2
        have l2 := numB_len (n := f.count) (by omega)
        have l3 := sumB_len f.root
        refine n138 ((seal_says hr (by decide) (by simp only [List.flatten_cons, List.flatten_nil, List.length_append, List.length_cons, List.length_nil]; omega) (by decide)).use fun w8 h8 => ?_)
        have h8' := h7'.trans h8
        (first | refine RS_same (h8') ?_ | refine ⟨h8', ?_⟩)
        refine ⟨?_, hc3.trans h8'⟩
        simp [Freeze.bytes]
    · have hnot : ¬ f.ok := fun h => by have := h.2; omega
      rw [if_neg hnot]
      exact ⟨rfl, h1.trans h2⟩
  · have hnot : ¬ f.ok := fun h => by
      have h2 := h.1
      simp at hw
      omega
    rw [if_neg hnot]
    exact ⟨rfl, h1.trans h2⟩
end Go.Proofs.YtkdghnbogkbedaaGreatDoor

namespace Go.Sh
open Go Go.RowKit

def leafOf (l : List UInt8) : Sum := sha (0 :: l)
def nodeOf (a b : Sum) : Sum := sha ([1] ++ a.l ++ b.l)
def emptyOf : Sum := sha []
/-- The leaf of a freeze. -/
def Freeze.leaf (f : Freeze) : Sum := leafOf (if f.ok then f.bytes else [])
theorem Freeze.bytes_len {f : Freeze} (h : f.ok) : f.bytes.length ≤ 100 := by
  have l1 := numB_len h.1.2
  have l2 := numB_len (n := f.count) (by have := h.2; omega)
  have l3 := sumB_len f.root
  simp only [Freeze.bytes, List.length_append, List.length_cons, List.length_nil]
  omega
def Freeze.says (f : Freeze) : List UInt8 := if f.ok then f.bytes else []
def Freeze.err (f : Freeze) : Int := if f.ok then 0 else 1
theorem Freeze.says_len (f : Freeze) : f.says.length ≤ 100 := by
  unfold Freeze.says
  split
  · exact Freeze.bytes_len (by assumption)
  · simp
theorem headBytes_len {size clock : Int} {root : Sum} (h : headOk size clock) : (headBytes size root clock).length ≤ 100 := by
  have l1 := numB_len (n := size) (by have := h.1; omega)
  have l2 := numB_len (n := clock) h.2.2
  have l3 := sumB_len root
  simp only [headBytes, List.length_append, List.length_cons, List.length_nil]
  omega
end Go.Sh
namespace Go.Proofs.YtkdghnbogkbedaaGreatDoor
open Go Go.Sh Go.RowKit
set_option maxRecDepth 100000
set_option maxHeartbeats 1000000
set_option linter.unusedSimpArgs false
set_option linter.unusedVariables false

theorem leaf_leaf (l : List UInt8) (hl : l.length ≤ 4611686018000000000) (w : World) (hK : KeysAt w) (h1s : 1 < w.heap.size) : Ret Tryz.prog 141 #[str l] w (leafOf l).v := by
  refine c141 ?_
  unfold s141
  refine SV_alloc fun g1 w1 hg1 b1 h1 => ?_
  refine SV_strs [[0], l] rfl rfl (by simp) fun v w2 h2 hr => ?_
  have hc := h1.trans h2
  have z := hc.size
  refine n151 ((sha_of_ (hK.no hc) (by omega) hr (by simp; omega)).use fun w3 h3 => ?_)
  refine SU_storeB ((b1.no h2).no h3) (Sum.len _) Sum.zero.len (Sum.ones _) fun w4 b4 h4 => ?_
  refine CR_N b4 (Sum.len _) ?_
  refine ⟨?_, (hc.trans h3).own h4 hg1⟩
  simp [leafOf, Sum.v]

theorem leaf_preimage (a b : Sum) (w : World) : Ret Tryz.prog 220 #[a.v, b.v] w (str ([1] ++ a.l ++ b.l)) := by
  refine c220 ?_
  unfold s220
  refine SV_box (vs := a.cells) rfl fun g1 w1 hg1 b1 h1 => ?_
  refine SV_box (vs := b.cells) rfl fun g2 w2 hg2 b2 h2 => ?_
  refine HR_kp No ?_
  refine HV_loadB (b1.no h2) (fun h => h) a.len ?_
  refine n163 ((sha_bytes a _).use fun w3 h3 => ?_)
  have h3' : Ch No w2 w3 := (Ch.drew _).trans h3
  (first | refine RS_same (h3') ?_ | refine ⟨h3', ?_⟩)
  have la := a.h
  have lb := b.h
  (first | refine SV_p (by first | exact True.intro | omega | (simp only [List.length_append, List.length_cons, List.length_nil, List.length_replicate, List.length_map]; omega)) ?_ | refine HV_p (by first | exact True.intro | omega | (simp only [List.length_append, List.length_cons, List.length_nil, List.length_replicate, List.length_map]; omega)) ?_)
  refine HV_loadB b2 (fun h => h) b.len ?_
  refine n163 ((sha_bytes b _).use fun w4 h4 => ?_)
  (first | refine RS_same (h3'.trans h4) ?_ | refine ⟨h3'.trans h4, ?_⟩)
  (first | refine SV_p (by first | exact True.intro | omega | (simp only [List.length_append, List.length_cons, List.length_nil, List.length_replicate, List.length_map]; omega)) ?_ | refine HV_p (by first | exact True.intro | omega | (simp only [List.length_append, List.length_cons, List.length_nil, List.length_replicate, List.length_map]; omega)) ?_)
  exact ⟨rfl, h1.trans (h2.trans (h3'.trans h4))⟩

theorem leaf_node (a b : Sum) (w : World) (hK : KeysAt w) (h1s : 1 < w.heap.size) : Ret Tryz.prog 142 #[a.v, b.v] w (nodeOf a b).v := by
  refine c142 ?_
  unfold s142
  refine SV_box (vs := a.cells) rfl fun g1 w1 hg1 b1 h1 => ?_
  refine SV_box (vs := b.cells) rfl fun g2 w2 hg2 b2 h2 => ?_
  refine SV_alloc fun g3 w3 hg3 b3 h3 => ?_
  refine SV_loadB ((b1.no h2).no h3) a.len ?_
  refine SV_loadB (b2.no h3) b.len ?_
  refine n220 ((leaf_preimage a b _).use fun w4 h4 => ?_)
  refine SV_strs [[1] ++ a.l ++ b.l] rfl rfl (by simp) fun v w5 h5 hr => ?_
  have hc := h1.trans (h2.trans (h3.trans (h4.trans h5)))
  have z := hc.size
  have z1 := h1.size
  have z2 := h2.size
  have la := a.h
  have lb := b.h
  refine n151 ((sha_of_ (hK.no hc) (by omega) hr (by simp; omega)).use fun w6 h6 => ?_)
  refine SU_storeB (((b3.no h4).no h5).no h6) (Sum.len _) Sum.zero.len (Sum.ones _) fun w7 b7 h7 => ?_
  refine CR_N b7 (Sum.len _) ?_
  refine ⟨?_, (hc.trans h6).own h7 (by omega)⟩
  simp [nodeOf, Sum.v]

theorem leaf_empty (w : World) (hK : KeysAt w) (h1s : 1 < w.heap.size) : Ret Tryz.prog 86 #[] w emptyOf.v := by
  refine c86 ?_
  unfold s86
  refine SV_alloc fun g1 w1 hg1 b1 h1 => ?_
  have z := h1.size
  refine n151 ((sha_of_ (T := 9) (parts := []) (hK.no h1) (by omega) (Rd.zero none 0) (by simp)).use fun w3 h3 => ?_)
  refine SU_storeB (b1.no h3) (Sum.len _) Sum.zero.len (Sum.ones _) fun w4 b4 h4 => ?_
  refine CR_N b4 (Sum.len _) ?_
  exact ⟨rfl, (h1.trans h3).own h4 hg1⟩

theorem freeze_says (f : Freeze) (w : World) : Ret Tryz.prog 71 #[f.v] w (.tuple #[str f.says, .int .i64 f.err]) := by
  have h := freeze_bytes f w
  by_cases ho : f.ok
  · rw [if_pos ho] at h
    simp only [Freeze.says, Freeze.err, if_pos ho]
    exact h
  · rw [if_neg ho] at h
    simp only [Freeze.says, Freeze.err, if_neg ho]
    exact h

theorem freeze_leaf (f : Freeze) (w : World) (hK : KeysAt w) (h1s : 1 < w.heap.size) : Ret Tryz.prog 73 #[f.v] w f.leaf.v := by
  refine c73 ?_
  unfold s73
  refine SV_box (vs := f.cells) rfl fun g1 w1 hg1 b1 h1 => ?_
  refine SV_alloc fun g2 w2 hg2 b2 h2 => ?_
  refine SV_loadB (b1.no h2) f.len ?_
  refine n71 ((freeze_says f _).use fun w3 h3 => ?_)
  have hc := h1.trans (h2.trans h3)
  have z := hc.size
  have z1 := h1.size
  have hl := f.says_len
  (first | refine SV_p (by first | exact True.intro | omega | (simp only [List.length_append, List.length_cons, List.length_nil, List.length_replicate, List.length_map]; omega)) ?_ | refine HV_p (by first | exact True.intro | omega | (simp only [List.length_append, List.length_cons, List.length_nil, List.length_replicate, List.length_map]; omega)) ?_)
  (first | refine SV_p (by first | exact True.intro | omega | (simp only [List.length_append, List.length_cons, List.length_nil, List.length_replicate, List.length_map]; omega)) ?_ | refine HV_p (by first | exact True.intro | omega | (simp only [List.length_append, List.length_cons, List.length_nil, List.length_replicate, List.length_map]; omega)) ?_)
  refine n141 ((leaf_leaf _ (by omega) _ (hK.no hc) (by omega)).use fun w4 h4 => ?_)
  refine SU_storeB ((b2.no h3).no h4) (Sum.len _) Sum.zero.len (Sum.ones _) fun w5 b5 h5 => ?_
  refine CR_N b5 (Sum.len _) ?_
  exact ⟨rfl, (hc.trans h4).own h5 (by omega)⟩

theorem seal_headSays (h : Head) (w : World) : Ret Tryz.prog 154 #[h.v] w (if headOk h.size h.clock then .tuple #[str (headBytes h.size h.root h.clock), .int .i64 0] else .tuple #[str [], .int .i64 1]) := by
  refine c154 ?_
  unfold s154
  have f0 : h.cells[0]? = some (.int .i64 h.size) := rfl
  have f2 : h.cells[33]? = some (.int .i64 h.clock) := by
    have : h.cells[33]? = (h.root.cells ++ .int .i64 h.clock :: h.mac.cells)[32]? := rfl
    rw [this, List.getElem?_append_right (by rw [h.root.len]; exact Nat.le_refl _), h.root.len]
    rfl
  have f1 : (h.cells.drop 1).take 32 = h.root.cells := by
    show (h.root.cells ++ .int .i64 h.clock :: h.mac.cells).take 32 = _
    exact List.take_left' h.root.len
  refine SV_box (vs := h.cells) rfl fun g1 w1 hg1 b1 h1 => ?_
  (first | refine SV_p (by first | exact True.intro | omega | (simp only [List.length_append, List.length_cons, List.length_nil, List.length_replicate, List.length_map]; omega)) ?_ | refine HV_p (by first | exact True.intro | omega | (simp only [List.length_append, List.length_cons, List.length_nil, List.length_replicate, List.length_map]; omega)) ?_)
  refine SV_load b1 f0 ?_
  refine n137 ((seal_within _ _ _).use fun w2 h2 => ?_)
  have b2 := b1.no h2
  (first | refine SV_p (by first | exact True.intro | omega | (simp only [List.length_append, List.length_cons, List.length_nil, List.length_replicate, List.length_map]; omega)) ?_ | refine HV_p (by first | exact True.intro | omega | (simp only [List.length_append, List.length_cons, List.length_nil, List.length_replicate, List.length_map]; omega)) ?_)
  refine GD_bool (fun hw => ?_) (fun hw => ?_)
  · have hw' : 0 ≤ h.size ∧ h.size ≤ 1099511627776 := by simpa using hw
    (first | refine SV_p (by first | exact True.intro | omega | (simp only [List.length_append, List.length_cons, List.length_nil, List.length_replicate, List.length_map]; omega)) ?_ | refine HV_p (by first | exact True.intro | omega | (simp only [List.length_append, List.length_cons, List.length_nil, List.length_replicate, List.length_map]; omega)) ?_)
    refine SV_load b2 f2 ?_
    refine n137 ((seal_within _ _ _).use fun w3 h3 => ?_)
    have b3 := b2.no h3
    (first | refine SV_p (by first | exact True.intro | omega | (simp only [List.length_append, List.length_cons, List.length_nil, List.length_replicate, List.length_map]; omega)) ?_ | refine HV_p (by first | exact True.intro | omega | (simp only [List.length_append, List.length_cons, List.length_nil, List.length_replicate, List.length_map]; omega)) ?_)
    refine CN_bool (fun hw2 => ?_) (fun hw2 => ?_)
    · have hnot : ¬ headOk h.size h.clock := fun h => by
        have h2 := h.2
        simp at hw2
        omega
      rw [if_neg hnot]
      exact ⟨rfl, h1.trans (h2.trans h3)⟩
    · have hw2' : 0 ≤ h.clock ∧ h.clock ≤ 1125899906842624 := by simpa using hw2
      rw [if_pos (show headOk h.size h.clock from ⟨hw', hw2'⟩)]
      have hc3 := h1.trans (h2.trans h3)
      refine HR_kp No ?_
      (first | refine SV_p (by first | exact True.intro | omega | (simp only [List.length_append, List.length_cons, List.length_nil, List.length_replicate, List.length_map]; omega)) ?_ | refine HV_p (by first | exact True.intro | omega | (simp only [List.length_append, List.length_cons, List.length_nil, List.length_replicate, List.length_map]; omega)) ?_)
      refine HV_load b3 (fun h => h) f0 ?_
      refine n139 ((seal_number _ hw'.1 (by omega) _).use fun w4 h4 => ?_)
      have h4' : Ch No w3 w4 := (Ch.drew _).trans h4
      (first | refine RS_same (h4') ?_ | refine ⟨h4', ?_⟩)
      (first | refine SV_p (by first | exact True.intro | omega | (simp only [List.length_append, List.length_cons, List.length_nil, List.length_replicate, List.length_map]; omega)) ?_ | refine HV_p (by first | exact True.intro | omega | (simp only [List.length_append, List.length_cons, List.length_nil, List.length_replicate, List.length_map]; omega)) ?_)
      refine HV_loadN b3 (fun h => h) f1 h.root.len ?_
      refine n140 ((seal_sum h.root _).use fun w5 h5 => ?_)
      have h5' := h4'.trans h5
      (first | refine RS_same (h5') ?_ | refine ⟨h5', ?_⟩)
      (first | refine SV_p (by first | exact True.intro | omega | (simp only [List.length_append, List.length_cons, List.length_nil, List.length_replicate, List.length_map]; omega)) ?_ | refine HV_p (by first | exact True.intro | omega | (simp only [List.length_append, List.length_cons, List.length_nil, List.length_replicate, List.length_map]; omega)) ?_)
      refine HV_load b3 (fun h => h) f2 ?_
      refine n139 ((seal_number _ hw2'.1 hw2'.2 _).use fun w6 h6 => ?_)
      have h6' := h5'.trans h6
      (first | refine RS_same (h6') ?_ | refine ⟨h6', ?_⟩)
      refine SV_strs [[72], numB h.size, sumB h.root, numB h.clock] rfl rfl (by simp) fun v w7 h7 hr => ?_
      have h7' := h6'.trans h7
      (first | refine RS_same (h7') ?_ | refine ⟨h7', ?_⟩)
      have l1 := numB_len (n := h.size) (by omega)
      have l2 := numB_len (n := h.clock) (by omega)
      have l3 := sumB_len h.root
      refine n138 ((seal_says hr (by decide) (by simp only [List.flatten_cons, List.flatten_nil, List.length_append, List.length_cons, List.length_nil]; omega) (by decide)).use fun w8 h8 => ?_)
      have h8' := h7'.trans h8
      (first | refine RS_same (h8') ?_ | refine ⟨h8', ?_⟩)
      refine ⟨?_, hc3.trans h8'⟩
      simp [headBytes]
  · have hnot : ¬ headOk h.size h.clock := fun h => by
      have h2 := h.1
      simp at hw
      omega
    rw [if_neg hnot]
    exact ⟨rfl, h1.trans h2⟩

theorem Head.set_mac (h : Head) (m : Sum) : h.cells.take 34 ++ m.cells ++ h.cells.drop (34 + 32) = ({ h with mac := m } : Head).cells := by
  have e : ∀ m : Sum, ({ h with mac := m } : Head).cells = (.int .i64 h.size :: (h.root.cells ++ [.int .i64 h.clock])) ++ m.cells := fun m => by simp [Head.cells]
  have e1 := e h.mac
  have hl : (Value.int .i64 h.size :: (h.root.cells ++ [Value.int .i64 h.clock])).length = 34 := by simp
  rw [e m]
  have e2 : h.cells = (.int .i64 h.size :: (h.root.cells ++ [.int .i64 h.clock])) ++ h.mac.cells := e1
  rw [e2, List.take_left' hl, List.drop_eq_nil_of_le (by rw [List.length_append, hl, h.mac.len]; exact Nat.le_refl _), List.append_nil]

theorem seal_signed (key s : List UInt8) (e : Int) (hk : key.length ≤ 1000000000) (hs : s.length ≤ 1000000000) (w : World) (hK : KeysAt w) (h1s : 1 < w.heap.size) : Ret Tryz.prog 155 #[str key, str s, .int .i64 e] w (if e = 0 then hmac key s else Sum.zero).v := by
  refine c155 ?_
  unfold s155
  refine SV_alloc fun g1 w1 hg1 b1 h1 => ?_
  (first | refine SV_p (by first | exact True.intro | omega | (simp only [List.length_append, List.length_cons, List.length_nil, List.length_replicate, List.length_map]; omega)) ?_ | refine HV_p (by first | exact True.intro | omega | (simp only [List.length_append, List.length_cons, List.length_nil, List.length_replicate, List.length_map]; omega)) ?_)
  refine CN_split (fun hne => ?_) (fun heq => ?_)
  · rw [if_neg hne]
    refine SV_pu (pu_build (FillOk.nil _)) ?_
    refine SU_storeB b1 (vs := Sum.zero.cells) Sum.zero.len Sum.zero.len Sum.zero.ones fun w2 b2 h2 => ?_
    refine CR_N b2 Sum.zero.len ?_
    exact ⟨rfl, h1.own h2 hg1⟩
  · have he : e = 0 := by omega
    rw [if_pos he]
    refine SV_strs [s] rfl rfl (by simp) fun v w2 h2 hr => ?_
    have hc := h1.trans h2
    have z := hc.size
    refine n235 ((mac_of hk (hK.no hc) (by omega) hr (by simp; omega)).use fun w3 h3 => ?_)
    rw [str_singleton_flat]
    refine SU_storeB ((b1.no h2).no h3) (Sum.len _) Sum.zero.len (Sum.ones _) fun w4 b4 h4 => ?_
    refine CR_N b4 (Sum.len _) ?_
    exact ⟨rfl, (hc.trans h3).own h4 hg1⟩

theorem seal_head (key : List UInt8) (hk : key.length ≤ 1000000000) (size : Int) (root : Sum) (clock : Int) (w : World) (hK : KeysAt w) (h1s : 1 < w.heap.size) :
    Ret Tryz.prog 90 #[str key, .int .i64 size, root.v, .int .i64 clock] w (headOf key size root clock).v := by
  refine c90 ?_
  unfold s90
  refine SV_box (vs := root.cells) rfl fun g1 w1 hg1 b1 h1 => ?_
  refine SV_alloc fun g2 w2 hg2 b2 h2 => ?_
  refine SV_loadB (b1.no h2) root.len ?_
  refine SV_pu (pu_build (FillOk.cons rfl rfl rfl (FillOk.cons rfl rfl rfl (FillOk.cons rfl rfl rfl (FillOk.nil _))))) ?_
  have hcells : fillS Head.zero.cells 0 [(0, [Value.int .i64 size], 1), (1, root.cells, 32), (33, [Value.int .i64 clock], 1)] = (⟨size, root, clock, Sum.zero⟩ : Head).cells := rfl
  rw [hcells]
  refine SV_alloc fun g3 w3 hg3 b3 h3 => ?_
  refine SU_storeB b3 (Head.len _) (Head.len _) (Head.ones _) fun w4 b4 h4 => ?_
  refine SV_loadB b4 (Head.len _) ?_
  refine n154 ((seal_headSays ⟨size, root, clock, Sum.zero⟩ _).use fun w5 h5 => ?_)
  have z1 := h1.size
  have z2 := h2.size
  have z3 := h3.size
  have z4 := h4.size
  have z5 := h5.size
  have l2 := b2.lt
  have hc5 : Ch No w w5 := ((h1.trans (h2.trans h3)).own h4 (by omega)).trans h5
  have b2 := ((b2.no h3).ch h4 (by omega)).no h5
  have b4 := b4.no h5
  by_cases ho : headOk size clock
  · rw [if_pos ho]
    (first | refine SV_p (by first | exact True.intro | omega | (simp only [List.length_append, List.length_cons, List.length_nil, List.length_replicate, List.length_map]; omega)) ?_ | refine HV_p (by first | exact True.intro | omega | (simp only [List.length_append, List.length_cons, List.length_nil, List.length_replicate, List.length_map]; omega)) ?_)
    (first | refine SV_p (by first | exact True.intro | omega | (simp only [List.length_append, List.length_cons, List.length_nil, List.length_replicate, List.length_map]; omega)) ?_ | refine HV_p (by first | exact True.intro | omega | (simp only [List.length_append, List.length_cons, List.length_nil, List.length_replicate, List.length_map]; omega)) ?_)
    have hl := headBytes_len (root := root) ho
    refine n155 ((seal_signed _ _ 0 hk (by show (headBytes size root clock).length ≤ _; omega) _ (hK.no hc5) (by omega)).use fun w6 h6 => ?_)
    rw [if_pos rfl]
    (first | refine SV_p (by first | exact True.intro | omega | (simp only [List.length_append, List.length_cons, List.length_nil, List.length_replicate, List.length_map]; omega)) ?_ | refine HV_p (by first | exact True.intro | omega | (simp only [List.length_append, List.length_cons, List.length_nil, List.length_replicate, List.length_map]; omega)) ?_)
    refine SU_storeN (b4.no h6) (Sum.len _) (by rw [Head.len]; decide) (Sum.ones _) fun w7 b7 h7 => ?_
    rw [Head.set_mac] at b7
    refine SV_loadB b7 (Head.len _) ?_
    refine SU_storeB ((b2.no h6).ch h7 (by omega)) (Head.len _) (Head.len _) (Head.ones _) fun w8 b8 h8 => ?_
    refine CR_N b8 (Head.len _) ?_
    refine ⟨?_, ((hc5.trans h6).own h7 (by omega)).own h8 (by omega)⟩
    unfold headOf
    rw [if_pos ho]
    rfl
  · rw [if_neg ho]
    (first | refine SV_p (by first | exact True.intro | omega | (simp only [List.length_append, List.length_cons, List.length_nil, List.length_replicate, List.length_map]; omega)) ?_ | refine HV_p (by first | exact True.intro | omega | (simp only [List.length_append, List.length_cons, List.length_nil, List.length_replicate, List.length_map]; omega)) ?_)
    (first | refine SV_p (by first | exact True.intro | omega | (simp only [List.length_append, List.length_cons, List.length_nil, List.length_replicate, List.length_map]; omega)) ?_ | refine HV_p (by first | exact True.intro | omega | (simp only [List.length_append, List.length_cons, List.length_nil, List.length_replicate, List.length_map]; omega)) ?_)
    refine n155 ((seal_signed _ _ 1 hk (by simp) _ (hK.no hc5) (by omega)).use fun w6 h6 => ?_)
    rw [if_neg (by decide)]
    (first | refine SV_p (by first | exact True.intro | omega | (simp only [List.length_append, List.length_cons, List.length_nil, List.length_replicate, List.length_map]; omega)) ?_ | refine HV_p (by first | exact True.intro | omega | (simp only [List.length_append, List.length_cons, List.length_nil, List.length_replicate, List.length_map]; omega)) ?_)
    refine SU_storeN (b4.no h6) (Sum.len _) (by rw [Head.len]; decide) (Sum.ones _) fun w7 b7 h7 => ?_
    rw [Head.set_mac] at b7
    refine SV_loadB b7 (Head.len _) ?_
    refine SU_storeB ((b2.no h6).ch h7 (by omega)) (Head.len _) (Head.len _) (Head.ones _) fun w8 b8 h8 => ?_
    refine CR_N b8 (Head.len _) ?_
    refine ⟨?_, ((hc5.trans h6).own h7 (by omega)).own h8 (by omega)⟩
    unfold headOf
    rw [if_neg ho]
    rfl

/-! ## The reference's -/

theorem ref_sum (s : Sum) (w : World) : Ret Tryz.prog 157 #[s.v] w (str (sumB s)) := by
  refine c157 ?_
  unfold s157
  refine SV_box (vs := s.cells) rfl fun g1 w1 hg1 b1 h1 => ?_
  refine SV_loadB b1 s.len ?_
  refine n160 ((ref_bytes s _).use fun w2 h2 => ?_)
  refine n191 ((ref_text _ (by rw [s.h]; decide) _).use fun w3 h3 => ?_)
  exact ⟨rfl, h1.trans (h2.trans h3)⟩

theorem ref_headSays (h : Head) (w : World) : Ret Tryz.prog 91 #[h.v] w (if headOk h.size h.clock then .tuple #[str (headBytes h.size h.root h.clock), .bool true] else .tuple #[str [], .bool false]) := by
  refine c91 ?_
  unfold s91
  have f0 : h.cells[0]? = some (.int .i64 h.size) := rfl
  have f2 : h.cells[33]? = some (.int .i64 h.clock) := by
    have : h.cells[33]? = (h.root.cells ++ .int .i64 h.clock :: h.mac.cells)[32]? := rfl
    rw [this, List.getElem?_append_right (by rw [h.root.len]; exact Nat.le_refl _), h.root.len]
    rfl
  have f1 : (h.cells.drop 1).take 32 = h.root.cells := by
    show (h.root.cells ++ .int .i64 h.clock :: h.mac.cells).take 32 = _
    exact List.take_left' h.root.len
  have bad : ¬ headOk h.size h.clock → ∀ w1, Ch No w w1 → (fun v' w' => v' = (if headOk h.size h.clock then Value.tuple #[str (headBytes h.size h.root h.clock), .bool true] else .tuple #[str [], .bool false]) ∧ Ch No w w') (Value.tuple #[str [], .bool false]) w1 := fun hn w1 h1 => ⟨by rw [if_neg hn], h1⟩
  refine SV_box (vs := h.cells) rfl fun g1 w1 hg1 b1 h1 => ?_
  (first | refine SV_p (by first | exact True.intro | omega | (simp only [List.length_append, List.length_cons, List.length_nil, List.length_replicate, List.length_map]; omega)) ?_ | refine HV_p (by first | exact True.intro | omega | (simp only [List.length_append, List.length_cons, List.length_nil, List.length_replicate, List.length_map]; omega)) ?_)
  refine SV_load b1 f0 ?_
  (first | refine SV_p (by first | exact True.intro | omega | (simp only [List.length_append, List.length_cons, List.length_nil, List.length_replicate, List.length_map]; omega)) ?_ | refine HV_p (by first | exact True.intro | omega | (simp only [List.length_append, List.length_cons, List.length_nil, List.length_replicate, List.length_map]; omega)) ?_)
  refine GD_splitf (fun ha => ?_) (fun ha => bad (fun ho => by have := ho.1; omega) _ h1)
  (first | refine SV_p (by first | exact True.intro | omega | (simp only [List.length_append, List.length_cons, List.length_nil, List.length_replicate, List.length_map]; omega)) ?_ | refine HV_p (by first | exact True.intro | omega | (simp only [List.length_append, List.length_cons, List.length_nil, List.length_replicate, List.length_map]; omega)) ?_)
  refine SV_load b1 f0 ?_
  (first | refine SV_p (by first | exact True.intro | omega | (simp only [List.length_append, List.length_cons, List.length_nil, List.length_replicate, List.length_map]; omega)) ?_ | refine HV_p (by first | exact True.intro | omega | (simp only [List.length_append, List.length_cons, List.length_nil, List.length_replicate, List.length_map]; omega)) ?_)
  refine GD_splitf (fun hb => ?_) (fun hb => bad (fun ho => by have := ho.1; omega) _ h1)
  (first | refine SV_p (by first | exact True.intro | omega | (simp only [List.length_append, List.length_cons, List.length_nil, List.length_replicate, List.length_map]; omega)) ?_ | refine HV_p (by first | exact True.intro | omega | (simp only [List.length_append, List.length_cons, List.length_nil, List.length_replicate, List.length_map]; omega)) ?_)
  refine SV_load b1 f2 ?_
  (first | refine SV_p (by first | exact True.intro | omega | (simp only [List.length_append, List.length_cons, List.length_nil, List.length_replicate, List.length_map]; omega)) ?_ | refine HV_p (by first | exact True.intro | omega | (simp only [List.length_append, List.length_cons, List.length_nil, List.length_replicate, List.length_map]; omega)) ?_)
  refine GD_splitf (fun hc => ?_) (fun hc => bad (fun ho => by have := ho.2; omega) _ h1)
  (first | refine SV_p (by first | exact True.intro | omega | (simp only [List.length_append, List.length_cons, List.length_nil, List.length_replicate, List.length_map]; omega)) ?_ | refine HV_p (by first | exact True.intro | omega | (simp only [List.length_append, List.length_cons, List.length_nil, List.length_replicate, List.length_map]; omega)) ?_)
  refine SV_load b1 f2 ?_
  (first | refine SV_p (by first | exact True.intro | omega | (simp only [List.length_append, List.length_cons, List.length_nil, List.length_replicate, List.length_map]; omega)) ?_ | refine HV_p (by first | exact True.intro | omega | (simp only [List.length_append, List.length_cons, List.length_nil, List.length_replicate, List.length_map]; omega)) ?_)
  refine CN_split (fun hd => bad (fun ho => by have := ho.2; omega) _ h1) (fun hd => ?_)
  have ho : headOk h.size h.clock := ⟨⟨by omega, by omega⟩, ⟨by omega, by omega⟩⟩
  rw [if_pos ho]
  have l1 := numB_len (n := h.size) (by omega)
  have l2 := numB_len (n := h.clock) (by omega)
  have l3 := sumB_len h.root
  have p1 : putN h.size.toNat = numB h.size := rfl
  have p2 : putN h.clock.toNat = numB h.clock := rfl
  refine HR_kp No ?_
  (first | refine SV_p (by first | exact True.intro | omega | (simp only [List.length_append, List.length_cons, List.length_nil, List.length_replicate, List.length_map]; omega)) ?_ | refine HV_p (by first | exact True.intro | omega | (simp only [List.length_append, List.length_cons, List.length_nil, List.length_replicate, List.length_map]; omega)) ?_)
  refine HV_load b1 (fun h => h) f0 ?_
  refine HV_pu (pu_idw (by omega) (by omega)) ?_
  refine n156 ((ref_put _ (by omega) _).use fun w2 h2 => ?_)
  rw [p1]
  have h2' : Ch No w1 w2 := (Ch.drew _).trans h2
  (first | refine RS_same (h2') ?_ | refine ⟨h2', ?_⟩)
  (first | refine SV_p (by first | exact True.intro | omega | (simp only [List.length_append, List.length_cons, List.length_nil, List.length_replicate, List.length_map]; omega)) ?_ | refine HV_p (by first | exact True.intro | omega | (simp only [List.length_append, List.length_cons, List.length_nil, List.length_replicate, List.length_map]; omega)) ?_)
  (first | refine SV_p (by first | exact True.intro | omega | (simp only [List.length_append, List.length_cons, List.length_nil, List.length_replicate, List.length_map]; omega)) ?_ | refine HV_p (by first | exact True.intro | omega | (simp only [List.length_append, List.length_cons, List.length_nil, List.length_replicate, List.length_map]; omega)) ?_)
  refine HV_loadN b1 (fun h => h) f1 h.root.len ?_
  refine n157 ((ref_sum h.root _).use fun w3 h3 => ?_)
  (first | refine RS_same (h2'.trans h3) ?_ | refine ⟨h2'.trans h3, ?_⟩)
  (first | refine SV_p (by first | exact True.intro | omega | (simp only [List.length_append, List.length_cons, List.length_nil, List.length_replicate, List.length_map]; omega)) ?_ | refine HV_p (by first | exact True.intro | omega | (simp only [List.length_append, List.length_cons, List.length_nil, List.length_replicate, List.length_map]; omega)) ?_)
  (first | refine SV_p (by first | exact True.intro | omega | (simp only [List.length_append, List.length_cons, List.length_nil, List.length_replicate, List.length_map]; omega)) ?_ | refine HV_p (by first | exact True.intro | omega | (simp only [List.length_append, List.length_cons, List.length_nil, List.length_replicate, List.length_map]; omega)) ?_)
  refine HV_load b1 (fun h => h) f2 ?_
  refine HV_pu (pu_idw (by omega) (by omega)) ?_
  refine n156 ((ref_put _ (by omega) _).use fun w4 h4 => ?_)
  rw [p2]
  (first | refine RS_same (h2'.trans (h3.trans h4)) ?_ | refine ⟨h2'.trans (h3.trans h4), ?_⟩)
  (first | refine SV_p (by first | exact True.intro | omega | (simp only [List.length_append, List.length_cons, List.length_nil, List.length_replicate, List.length_map]; omega)) ?_ | refine HV_p (by first | exact True.intro | omega | (simp only [List.length_append, List.length_cons, List.length_nil, List.length_replicate, List.length_map]; omega)) ?_)
  exact ⟨rfl, h1.trans (h2'.trans (h3.trans h4))⟩

theorem ref_head (key : List UInt8) (hk : key.length ≤ 1000000000) (size : Int) (root : Sum) (clock : Int) (w : World) :
    Ret Tryz.prog 27 #[str key, .int .i64 size, root.v, .int .i64 clock] w (headOf key size root clock).v := by
  refine c27 ?_
  unfold s27
  refine SV_box (vs := root.cells) rfl fun g1 w1 hg1 b1 h1 => ?_
  refine SV_alloc fun g2 w2 hg2 b2 h2 => ?_
  refine SV_loadB (b1.no h2) root.len ?_
  refine SV_pu (pu_build (FillOk.cons rfl rfl rfl (FillOk.cons rfl rfl rfl (FillOk.cons rfl rfl rfl (FillOk.nil _))))) ?_
  have hcells : fillS Head.zero.cells 0 [(0, [Value.int .i64 size], 1), (1, root.cells, 32), (33, [Value.int .i64 clock], 1)] = (⟨size, root, clock, Sum.zero⟩ : Head).cells := rfl
  rw [hcells]
  refine SV_alloc fun g3 w3 hg3 b3 h3 => ?_
  refine SU_storeB b3 (Head.len _) (Head.len _) (Head.ones _) fun w4 b4 h4 => ?_
  refine SV_loadB b4 (Head.len _) ?_
  refine n91 ((ref_headSays ⟨size, root, clock, Sum.zero⟩ _).use fun w5 h5 => ?_)
  have z1 := h1.size
  have z2 := h2.size
  have z3 := h3.size
  have z4 := h4.size
  have z5 := h5.size
  have l2 := b2.lt
  have hc5 : Ch No w w5 := ((h1.trans (h2.trans h3)).own h4 (by omega)).trans h5
  have b2 := ((b2.no h3).ch h4 (by omega)).no h5
  have b4 := b4.no h5
  have fin : ∀ w6, Blk w6 g3 48 (headOf key size root clock).cells → Blk w6 g2 48 Head.zero.cells → Ch No w w6 → s27_j1 Tryz.prog (fun v' w' => v' = (headOf key size root clock).v ∧ Ch No w w') (.pointer (some ⟨g2, 0, none⟩)) (.pointer (some ⟨g3, 0, none⟩)) w6 := by
    intro w6 b3 b2 hc
    unfold s27_j1
    refine SV_loadB b3 (Head.len _) ?_
    refine SU_storeB b2 (Head.len _) (Head.len _) (Head.ones _) fun w8 b8 h8 => ?_
    refine CR_N b8 (Head.len _) ?_
    exact ⟨rfl, hc.own h8 (by omega)⟩
  by_cases ho : headOk size clock
  · rw [if_pos ho]
    (first | refine SV_p (by first | exact True.intro | omega | (simp only [List.length_append, List.length_cons, List.length_nil, List.length_replicate, List.length_map]; omega)) ?_ | refine HV_p (by first | exact True.intro | omega | (simp only [List.length_append, List.length_cons, List.length_nil, List.length_replicate, List.length_map]; omega)) ?_)
    (first | refine SV_p (by first | exact True.intro | omega | (simp only [List.length_append, List.length_cons, List.length_nil, List.length_replicate, List.length_map]; omega)) ?_ | refine HV_p (by first | exact True.intro | omega | (simp only [List.length_append, List.length_cons, List.length_nil, List.length_replicate, List.length_map]; omega)) ?_)
    refine JP_in ?_
    refine CN_tt ?_
    have hl := headBytes_len (root := root) ho
    refine n92 ((ref_mac _ _ hk (by show (headBytes size root clock).length ≤ _; omega) _).use fun w6 h6 => ?_)
    (first | refine SV_p (by first | exact True.intro | omega | (simp only [List.length_append, List.length_cons, List.length_nil, List.length_replicate, List.length_map]; omega)) ?_ | refine HV_p (by first | exact True.intro | omega | (simp only [List.length_append, List.length_cons, List.length_nil, List.length_replicate, List.length_map]; omega)) ?_)
    refine SU_storeN (b4.no h6) (Sum.len _) (by rw [Head.len]; decide) (Sum.ones _) fun w7 b7 h7 => ?_
    rw [Head.set_mac] at b7
    refine ⟨rfl, fun _ => fin w7 ?_ ((b2.no h6).ch h7 (by omega)) ((hc5.trans h6).own h7 (by omega))⟩
    unfold headOf
    rw [if_pos ho]
    exact b7
  · rw [if_neg ho]
    (first | refine SV_p (by first | exact True.intro | omega | (simp only [List.length_append, List.length_cons, List.length_nil, List.length_replicate, List.length_map]; omega)) ?_ | refine HV_p (by first | exact True.intro | omega | (simp only [List.length_append, List.length_cons, List.length_nil, List.length_replicate, List.length_map]; omega)) ?_)
    (first | refine SV_p (by first | exact True.intro | omega | (simp only [List.length_append, List.length_cons, List.length_nil, List.length_replicate, List.length_map]; omega)) ?_ | refine HV_p (by first | exact True.intro | omega | (simp only [List.length_append, List.length_cons, List.length_nil, List.length_replicate, List.length_map]; omega)) ?_)
    refine JP_in ?_
    refine CN_ff ?_
    refine ⟨rfl, fun _ => fin w5 ?_ b2 hc5⟩
    unfold headOf
    rw [if_neg ho]
    exact b4
end Go.Proofs.YtkdghnbogkbedaaGreatDoor

namespace Go.Sh
open Go Go.RowKit

/-- '==' at a type, to a depth that is enough. -/
def EqR (P : Program) (t : TypeId) (x y : Value) (b : Bool) : Prop := ∀ d w, (Op.equalIn (d + 10) t x y).run P w = .ok b w

class StT (P : Program) (t : TypeId) (l : outParam (List (Nat × Nat))) : Prop where
  und : P.underlying t = some (.struct (P.fieldsOf t))
  stood : P.stoodInHeld t = false
  names : (P.fieldsOf t).toList.all (fun f => f.name != "_") = true
  is : (P.fieldsOf t).toList.map (fun f => (f.type, f.offset)) = l
  guard : P.eqGuardType P.depth t = false

section
variable {P : Program}

theorem part_one {t : TypeId} [h : One P t] {l : List Value} {o : Nat} {v : Value} (hv : l[o]? = some v) (w : World) : (part t l.toArray o).run P w = .ok v w := by
  simp [part, h.agg, hv]
theorem part_many {t n : TypeId} [h : Many P t n] {l : List Value} {o : Nat} {vs : List Value} (hv : (l.drop o).take n = vs) (w : World) : (part t l.toArray o).run P w = .ok (ag vs) w := by
  subst hv
  simp [part, h.agg, h.size, ag]

def FEq (P : Program) (d : Nat) (xs ys : List Value) : List (Nat × Nat) → Bool → Prop
  | [], b => b = true
  | (t, o) :: l, b => ∃ u v r b', (∀ w, (part t xs.toArray o).run P w = .ok u w) ∧ (∀ w, (part t ys.toArray o).run P w = .ok v w) ∧ (∀ w, (Op.equalIn d t u v).run P w = .ok r w) ∧ FEq P d xs ys l b' ∧ b = (r && b')

theorem run_eqFields {d : Nat} {xs ys : List Value} : ∀ (fs : List Field) (b : Bool), fs.all (fun f => f.name != "_") = true → FEq P d xs ys (fs.map fun f => (f.type, f.offset)) b → ∀ w, (Op.eqFields d xs.toArray ys.toArray fs).run P w = .ok b w
  | [], b, _, h, w => by
    have : b = true := h
    subst this
    simp [Op.eqFields]
  | f :: fs, b, hn, h, w => by
    simp only [List.all_cons, Bool.and_eq_true] at hn
    obtain ⟨u, v, r, b', h1, h2, h3, h4, rfl⟩ := h
    have ih := run_eqFields fs b' hn.2 h4 w
    have hne : f.name ≠ "_" := by simpa using hn.1
    simp only [Op.eqFields, if_pos hne, Sem.run_bind, h1, h2, h3, Result.andThen_ok]
    cases r
    · simp
    · simpa using ih

theorem eqr_struct {t : TypeId} {l : List (Nat × Nat)} [h : StT P t l] {xs ys : List Value} {b : Bool} {d : Nat} (hf : FEq P d xs ys l b) (w : World) : (Op.equalIn (d + 1) t (ag xs) (ag ys)).run P w = .ok b w := by
  unfold ag
  rw [run_equalIn_struct w d t _ _ h.und h.stood]
  refine run_eqFields _ b h.names ?_ w
  rw [h.is]; exact hf

theorem eqr_int {t : TypeId} {k : IntKind} [h : IsInt P t k] {a b : Int} {k' : IntKind} (d : Nat) (w : World) : (Op.equalIn (d + 1) t (.int k' a) (.int k' b)).run P w = .ok (decide (a = b)) w := by
  rw [run_equalIn_int w d t k' k a b h.und, beq_dec]
theorem eqr_str {t : TypeId} [h : IsStr P t] {a b : List UInt8} (d : Nat) (w : World) : (Op.equalIn (d + 1) t (str a) (str b)).run P w = .ok (decide (a = b)) w := by
  unfold str
  rw [run_equalIn_string w d t _ _ h.und, toList_str, toList_str, beq_dec]
theorem eqr_sum {t e : TypeId} [h : ArT P t 32 e 1] [he : IsInt P e .u8] {a b : Sum} (d : Nat) (w : World) : (Op.equalIn (d + 2) t (ag a.cells) (ag b.cells)).run P w = .ok (decide (a = b)) w := by
  have := run_equalIn_bytes (P := P) w d t e 32 h.und he.und h.size a.l b.l a.h b.h
  have hc : ∀ s : Sum, s.cells = s.l.map Extern.Stop.cell := fun s => rfl
  unfold ag
  rw [hc a, hc b, this, beq_dec]
  congr 1
  simp only [decide_eq_decide]
  exact ⟨fun h => Sum.ext h, fun h => by rw [h]⟩

theorem eqS_agg {t : TypeId} {xs ys : List Value} {x y : Operand} {r : Bool} (hg : P.eqGuardType P.depth t = false) (h : ∀ w, (Op.equalIn (9997 + 3) t (ag xs) (ag ys)).run P w = .ok r w) : Pu P (eqS .eql t x y (ag xs) (ag ys)) (.bool r) := fun w => by
  unfold eqS
  rw [Sem.run_bind, show (eqGuard .eql t x y (ag xs) (ag ys)).run P w = .ok () w from run_eqGuard_agg w _ t x y _ _ hg, Result.andThen_ok]
  unfold ag at *
  rw [run_eql_struct, h w]
  rfl
theorem neS_agg {t : TypeId} {xs ys : List Value} {x y : Operand} {r : Bool} (hg : P.eqGuardType P.depth t = false) (h : ∀ w, (Op.equalIn (9997 + 3) t (ag xs) (ag ys)).run P w = .ok r w) : Pu P (eqS .neq t x y (ag xs) (ag ys)) (.bool (!r)) := fun w => by
  unfold eqS
  rw [Sem.run_bind, show (eqGuard .neq t x y (ag xs) (ag ys)).run P w = .ok () w from run_eqGuard_agg w _ t x y _ _ hg, Result.andThen_ok]
  unfold ag at *
  rw [run_neq_struct, h w]
  rfl

class NoG (P : Program) (t : TypeId) : Prop where
  is : P.eqGuardType P.depth t = false

theorem pu_eqlsum {t e : TypeId} [h : ArT P t 32 e 1] [he : IsInt P e .u8] [hg : NoG P t] {a b : Sum} {x y : Operand} : Pu P (eqS .eql t x y (ag a.cells) (ag b.cells)) (.bool (decide (a = b))) := eqS_agg hg.is fun w => eqr_sum 9998 w
theorem pu_neqsum {t e : TypeId} [h : ArT P t 32 e 1] [he : IsInt P e .u8] [hg : NoG P t] {a b : Sum} {x y : Operand} : Pu P (eqS .neq t x y (ag a.cells) (ag b.cells)) (.bool (!decide (a = b))) := neS_agg hg.is fun w => eqr_sum 9998 w
instance {t e : TypeId} [h : ArT P t 32 e 1] [he : IsInt P e .u8] [hg : NoG P t] {a b : Sum} {x y : Operand} : PuC P (eqS .eql t x y (ag a.cells) (ag b.cells)) (.bool (decide (a = b))) True := ⟨fun _ => pu_eqlsum⟩
instance {t e : TypeId} [h : ArT P t 32 e 1] [he : IsInt P e .u8] [hg : NoG P t] {a b : Sum} {x y : Operand} : PuC P (eqS .eql t x y a.v b.v) (.bool (decide (a = b))) True := ⟨fun _ => pu_eqlsum⟩
instance {t e : TypeId} [h : ArT P t 32 e 1] [he : IsInt P e .u8] [hg : NoG P t] {a b : Sum} {x y : Operand} : PuC P (eqS .eql t x y a.v (ag b.cells)) (.bool (decide (a = b))) True := ⟨fun _ => pu_eqlsum⟩
instance {t e : TypeId} [h : ArT P t 32 e 1] [he : IsInt P e .u8] [hg : NoG P t] {a b : Sum} {x y : Operand} : PuC P (eqS .eql t x y (ag a.cells) b.v) (.bool (decide (a = b))) True := ⟨fun _ => pu_eqlsum⟩
instance {t e : TypeId} [h : ArT P t 32 e 1] [he : IsInt P e .u8] [hg : NoG P t] {a b : Sum} {x y : Operand} : PuC P (eqS .neq t x y (ag a.cells) (ag b.cells)) (.bool (!decide (a = b))) True := ⟨fun _ => pu_neqsum⟩
instance {t e : TypeId} [h : ArT P t 32 e 1] [he : IsInt P e .u8] [hg : NoG P t] {a b : Sum} {x y : Operand} : PuC P (eqS .neq t x y a.v b.v) (.bool (!decide (a = b))) True := ⟨fun _ => pu_neqsum⟩
instance {t e : TypeId} [h : ArT P t 32 e 1] [he : IsInt P e .u8] [hg : NoG P t] {a b : Sum} {x y : Operand} : PuC P (eqS .neq t x y a.v (ag b.cells)) (.bool (!decide (a = b))) True := ⟨fun _ => pu_neqsum⟩
instance {t e : TypeId} [h : ArT P t 32 e 1] [he : IsInt P e .u8] [hg : NoG P t] {a b : Sum} {x y : Operand} : PuC P (eqS .neq t x y (ag a.cells) b.v) (.bool (!decide (a = b))) True := ⟨fun _ => pu_neqsum⟩

theorem pu_eqlslice {t e n : TypeId} [h : SlT P t e n] {a : Option Addr} {l c : Nat} {x y : Operand} : Pu P (eqS .eql t x y (.slice a l c) (.slice none 0 0)) (.bool a.isNone) := fun w => by
  simp only [eqS, eqGuard_at_slice]
  exact run_eql_by rfl fun d => run_equalIn_slice_nil w d t e a l c h.und
instance {t e n : TypeId} [h : SlT P t e n] {l c : Nat} {x y : Operand} : PuC P (eqS .eql t x y (.slice none l c) (.slice none 0 0)) (.bool true) True := ⟨fun _ => pu_eqlslice⟩
instance {t e n : TypeId} [h : SlT P t e n] {a : Addr} {l c : Nat} {x y : Operand} : PuC P (eqS .eql t x y (.slice (some a) l c) (.slice none 0 0)) (.bool false) True := ⟨fun _ => pu_eqlslice⟩
end
end Go.Sh
namespace Go.Proofs.YtkdghnbogkbedaaGreatDoor
open Go Go.Sh Go.RowKit
set_option maxRecDepth 100000
set_option maxHeartbeats 1000000
set_option linter.unusedSimpArgs false
set_option linter.unusedVariables false

instance : NoG Tryz.prog 29 := ⟨by kernel_rfl⟩
instance : StT Tryz.prog 48 [(3, 0), (29, 1), (3, 33), (29, 34)] := ⟨by kernel_rfl, by kernel_rfl, by kernel_rfl, by kernel_rfl, by kernel_rfl⟩
instance : StT Tryz.prog 31 [(3, 0), (3, 1), (29, 2)] := ⟨by kernel_rfl, by kernel_rfl, by kernel_rfl, by kernel_rfl, by kernel_rfl⟩
instance : StT Tryz.prog 79 [(3, 0), (3, 1), (3, 2), (9, 3)] := ⟨by kernel_rfl, by kernel_rfl, by kernel_rfl, by kernel_rfl, by kernel_rfl⟩
instance : StT Tryz.prog 81 [(31, 0), (3, 34), (29, 35)] := ⟨by kernel_rfl, by kernel_rfl, by kernel_rfl, by kernel_rfl, by kernel_rfl⟩

theorem head_f0 (h : Head) : h.cells[0]? = some (.int .i64 h.size) := rfl
theorem head_f1 (h : Head) : (h.cells.drop 1).take 32 = h.root.cells := by
  show (h.root.cells ++ .int .i64 h.clock :: h.mac.cells).take 32 = _
  exact List.take_left' h.root.len
theorem head_f2 (h : Head) : h.cells[33]? = some (.int .i64 h.clock) := by
  have : h.cells[33]? = (h.root.cells ++ .int .i64 h.clock :: h.mac.cells)[32]? := rfl
  rw [this, List.getElem?_append_right (by rw [h.root.len]; exact Nat.le_refl _), h.root.len]
  rfl
theorem head_f3 (h : Head) : (h.cells.drop 34).take 32 = h.mac.cells := by
  have e : h.cells = (.int .i64 h.size :: (h.root.cells ++ [.int .i64 h.clock])) ++ h.mac.cells := by simp [Head.cells]
  have hl : (Value.int .i64 h.size :: (h.root.cells ++ [Value.int .i64 h.clock])).length = 34 := by simp
  rw [e, List.drop_left' hl, List.take_of_length_le (by rw [h.mac.len]; exact Nat.le_refl _)]

theorem eq_head (a b : Head) (w : World) : (Op.equalIn (9997 + 3) 48 (ag a.cells) (ag b.cells)).run Tryz.prog w = .ok (decide (a = b)) w := by
  refine eqr_struct (d := 9999) ?_ w
  refine ⟨_, _, _, _, part_one (head_f0 a), part_one (head_f0 b), eqr_int 9998, ⟨_, _, _, _, part_many (head_f1 a), part_many (head_f1 b), eqr_sum 9997, ⟨_, _, _, _, part_one (head_f2 a), part_one (head_f2 b), eqr_int 9998,
    ⟨_, _, _, _, part_many (head_f3 a), part_many (head_f3 b), eqr_sum 9997, rfl, rfl⟩, rfl⟩, rfl⟩, ?_⟩
  cases a; cases b
  simp [Bool.decide_and, decide_eq_true_eq]
theorem pu_eqhead {a b : Head} {x y : Operand} : Pu Tryz.prog (eqS .eql 48 x y (ag a.cells) (ag b.cells)) (.bool (decide (a = b))) := eqS_agg (StT.guard (P := Tryz.prog) (t := 48)) fun w => eq_head a b w
end Go.Proofs.YtkdghnbogkbedaaGreatDoor

namespace Go.Sh
open Go Go.RowKit
set_option linter.unusedVariables false

section
variable {w0 w w' : World} {A F R X Y L : List Fact} {P : Program} {α : Type}

theorem St.nil (w : World) : St w [] w [] := St.start ⟨fun _ h => (by cases h), List.nodup_nil, fun _ h => (by cases h)⟩
theorem Mem.loc (h : Mem w L) (hb : ∀ b, (b ∈ fps L ∨ ros L b) → w'.heap[b]? = w.heap[b]?) : Mem w' L :=
  ⟨fun f hf => f.loc w w' (h.is f hf) fun b hb' => hb b (hb'.imp (fun h => mem_fps.2 ⟨f, hf, h⟩) fun h => ⟨f, hf, h⟩), h.nd, h.ap⟩

/-- Several facts as one. -/
def box (L : List Fact) : Fact where
  fp := fps L
  ro := ros L
  is := fun w => Mem w L
  lt := fun w h b hb => hb.elim h.is.fp_lt h.is.ro_lt
  loc := fun w w' h hb => h.loc hb

theorem fps_box : fps [box L] = fps L := fps_one _
theorem ros_box {b : Nat} : ros [box L] b ↔ ros L b := ros_one
theorem box_open (h : Mem w [box L]) : St w [box L] w L :=
  ⟨h.is _ List.mem_cons_self, Ch.refl w, fun b hb => .inl (by rw [fps_box]; exact hb), fun b hb => .inl (ros_box.2 hb)⟩
theorem box_shut (h : Mem w L) : St w L w [box L] :=
  ⟨⟨fun f hf => by cases List.mem_singleton.1 hf; exact h, by rw [fps_box]; exact h.nd, fun b hb hr => h.ap b (by rw [fps_box] at hb; exact hb) (ros_box.1 hr)⟩, Ch.refl w, fun b hb => .inl (by rw [fps_box] at hb; exact hb), fun b hb => .inl (ros_box.1 hb)⟩
theorem St.open (m : St w0 A w F) (hf : Frm F [box L] R) : St w0 A w (L ++ R) := m.fr hf (box_open (m.get hf))
theorem St.shut (m : St w0 A w F) (hf : Frm F L R) : St w0 A w (box L :: R) := m.fr hf (box_shut (m.get hf))
theorem Mem.open (h : Mem w (box L :: R)) : Mem w (L ++ R) := ((St.start h).open (.cons .here .nil)).mem

theorem box_of {L M : List Fact} (h1 : ∀ w, Mem w L → Mem w M) (h2 : ∀ b, b ∈ fps M → b ∈ fps L) (h3 : ∀ b, ros M b → ros L b) (h : Mem w L) : St w L w M :=
  ⟨h1 w h, Ch.refl w, fun b hb => .inl (h2 b hb), fun b hb => .inl (h3 b hb)⟩
/-- One of several. -/
theorem focus_st {a : Fact} {L1 L2 : List Fact} (h0 : Mem w [box (L1 ++ a :: L2)]) : St w [box (L1 ++ a :: L2)] w [a, box L1, box L2] := by
  have m : St w [box (L1 ++ a :: L2)] w (L1 ++ a :: L2) := box_open h0
  have m2 : St w [box (L1 ++ a :: L2)] w (a :: (L1 ++ L2)) := m.perm List.perm_middle
  have hn := m2.mem.nd
  rw [fps_cons, fps_append] at hn
  obtain ⟨n1, n2, n3⟩ := List.nodup_append.1 hn
  obtain ⟨n4, n5, n6⟩ := List.nodup_append.1 n2
  have ef : fps [a, box L1, box L2] = fps (a :: (L1 ++ L2)) := by simp [fps, box]
  have er : ∀ b, ros [a, box L1, box L2] b ↔ ros (a :: (L1 ++ L2)) b := fun b => by
    constructor
    · rintro ⟨f, hf, hro⟩
      simp only [List.mem_cons, List.not_mem_nil, or_false] at hf
      rcases hf with rfl | rfl | rfl
      · exact ⟨_, List.mem_cons_self, hro⟩
      · obtain ⟨g, hg, hro⟩ := hro; exact ⟨g, List.mem_cons_of_mem _ (List.mem_append_left _ hg), hro⟩
      · obtain ⟨g, hg, hro⟩ := hro; exact ⟨g, List.mem_cons_of_mem _ (List.mem_append_right _ hg), hro⟩
    · rintro ⟨f, hf, hro⟩
      rcases List.mem_cons.1 hf with rfl | hf
      · exact ⟨_, List.mem_cons_self, hro⟩
      · rcases List.mem_append.1 hf with hf | hf
        · exact ⟨box L1, by simp, f, hf, hro⟩
        · exact ⟨box L2, by simp, f, hf, hro⟩
  refine ⟨⟨fun f hf => ?_, by rw [ef]; exact m2.mem.nd, fun b hb hr => m2.mem.ap b (by rw [← ef]; exact hb) ((er b).1 hr)⟩, m2.ch, fun b hb => m2.fp b (by rw [← ef]; exact hb), fun b hb => m2.ro b ((er b).1 hb)⟩
  simp only [List.mem_cons, List.not_mem_nil, or_false] at hf
  rcases hf with rfl | rfl | rfl
  · exact m2.mem.is _ List.mem_cons_self
  · exact ⟨fun g hg => m2.mem.is g (List.mem_cons_of_mem _ (List.mem_append_left _ hg)), n4, fun b hb hr => m2.mem.ap b (by rw [fps_cons, fps_append]; exact List.mem_append_right _ (List.mem_append_left _ hb)) (by obtain ⟨g, hg, h⟩ := hr; exact ⟨g, List.mem_cons_of_mem _ (List.mem_append_left _ hg), h⟩)⟩
  · exact ⟨fun g hg => m2.mem.is g (List.mem_cons_of_mem _ (List.mem_append_right _ hg)), n5, fun b hb hr => m2.mem.ap b (by rw [fps_cons, fps_append]; exact List.mem_append_right _ (List.mem_append_right _ hb)) (by obtain ⟨g, hg, h⟩ := hr; exact ⟨g, List.mem_cons_of_mem _ (List.mem_append_right _ hg), h⟩)⟩
theorem unfocus_st {a : Fact} {L1 L2 : List Fact} (h : Mem w [a, box L1, box L2]) : St w [a, box L1, box L2] w [box (L1 ++ a :: L2)] := by
  have m := St.start h
  have m1 : St w [a, box L1, box L2] w (L1 ++ [a, box L2]) := m.open (.cons (.there .here) .nil)
  have m2 : St w [a, box L1, box L2] w (box L2 :: a :: L1) := m1.perm (List.perm_append_comm.trans (List.Perm.swap _ _ _))
  have m3 : St w [a, box L1, box L2] w (L2 ++ (a :: L1)) := m2.open (.cons .here .nil)
  have m4 : St w [a, box L1, box L2] w (L1 ++ a :: L2) := m3.perm (List.perm_append_comm.trans (by rw [List.cons_append]; exact List.perm_middle.symm))
  have x := box_shut m4.mem
  have := m4.core (X := L1 ++ a :: L2) (R := []) (fun _ h => h) (fun _ h => by cases h) (by simp [fps]) x
  simpa using this
theorem St.focus {a : Fact} {L1 L2 : List Fact} (m : St w0 A w F) (hf : Frm F [box (L1 ++ a :: L2)] R) : St w0 A w (a :: box L1 :: box L2 :: R) := m.fr hf (focus_st (m.get hf))
theorem St.unfocus {a : Fact} {L1 L2 : List Fact} (m : St w0 A w F) (hf : Frm F [a, box L1, box L2] R) : St w0 A w (box (L1 ++ a :: L2) :: R) := m.fr hf (unfocus_st (m.get hf))
theorem St.snoc {a : Fact} {L1 : List Fact} (m : St w0 A w F) (hf : Frm F [a, box L1] R) : St w0 A w (box (L1 ++ [a]) :: R) := by
  have m1 : St w0 A w (a :: box L1 :: R) := by
    have := m.core (X := [a, box L1]) (R := R) hf.mem.1 hf.mem.2.1 hf.mem.2.2 (St.start (m.get hf))
    simpa using this
  have m2 : St w0 A w (box [] :: a :: box L1 :: R) := m1.shut (L := []) .nil
  exact m2.unfocus (.cons (.there .here) (.cons (.there .here) (.cons .here .nil)))
theorem map_split {α β : Type} (f : α → β) {l : List α} {i : Nat} (h : i < l.length) : l.map f = (l.take i).map f ++ f l[i] :: (l.drop (i + 1)).map f := by
  have e : l = l.take i ++ l[i] :: l.drop (i + 1) := by rw [← List.drop_eq_getElem_cons h, List.take_append_drop]
  have := congrArg (List.map f) e
  rw [List.map_append, List.map_cons] at this
  exact this

/-- A fact that owns nothing may be asked again. -/
class Dup (f : Fact) : Prop where
  is : f.fp = []
instance {E : Elt α} {v : Value} {l : List α} : Dup (sl E v l) := ⟨rfl⟩
instance {p : Value} {cs : List Value} : Dup (pt p cs) := ⟨rfl⟩
instance {g t : Nat} {cs : List Value} : Dup (rk g t cs) := ⟨rfl⟩
theorem Rem.dup {f : Fact} [h : Dup f] : Rem (f :: F) f (f :: F) := .keep h.is

/-- The keys of the hash. -/
def keysF : Fact where
  fp := []
  ro := fun b => b = 1
  is := fun w => KeysAt w
  lt := fun w h b hb => by
    rcases hb with hb | rfl
    · cases hb
    · obtain ⟨a, ha, h⟩ := h
      injection ha with ha
      injection ha with ha
      subst ha
      have := World.block_lt_of_cell? w _ (h 0 _ rfl)
      simpa [Addr.add] using this
  loc := fun w w' h hb => by
    have hp := (pt (.pointer (some ⟨1, 0, none⟩)) (wv keys)).loc w w' h fun b hb' => by
      rcases hb' with hb' | hb'
      · cases hb'
      · exact hb b (.inr (by simpa [pBlk] using hb'.2.symm))
    exact hp
instance : Dup keysF := ⟨rfl⟩
theorem St.keys (m : St w0 A w F) [h : InF keysF F] : KeysAt w := m.mem.is _ h.mem
theorem St.one_lt (m : St w0 A w F) [h : InF keysF F] : 1 < w.heap.size := keysF.lt w (m.mem.is _ h.mem) 1 (.inr rfl)

/-- A fact about one block. -/
def blkF (g : Nat) (p : World → Prop) (hl : ∀ w, p w → g < w.heap.size) (hloc : ∀ w w', p w → w'.heap[g]? = w.heap[g]? → p w') : Fact where
  fp := [g]
  ro := fun _ => False
  is := p
  lt := fun w h b hb => by
    rcases hb with hb | hb
    · cases List.mem_singleton.1 hb; exact hl w h
    · exact hb.elim
  loc := fun w w' h hb => hloc w w' h (hb g (.inl (List.mem_singleton.2 rfl)))

theorem St.ret {f : FuncId} {args : Array Value} {v : Value} {k : Value → World → Prop} (m : St w0 A w F) (h : Ret P f args w v) (hk : ∀ w', St w0 A w' F → k v w') : Calls P f args w (retP k) :=
  h.use fun w' hc => hk w' (m.no hc)
theorem St.retOwn {f : FuncId} {args : Array Value} {E : Elt α} {l : List α} {k : Value → World → Prop} (m : St w0 A w F)
    (h : Calls P f args w (retP fun v' w' => w'.ownsRow w.heap.size E.e E.sz v' l.length (E.all l) ∧ Ch No w w')) (hk : ∀ v' w', IsSl v' → St w0 A w' (own E v' l :: F) → k v' w') : Calls P f args w (retP k) :=
  Calls.ret_mono h fun v' w' h => hk v' w' (Rd.of_own h.1).isSl (m.newOwn h.1 h.2)
/-- A call by its contract. -/
theorem St.call {f : FuncId} {args : Array Value} {Q : Value → World → Prop} {k : Value → World → Prop} (_ : St w0 A w F) (h : Calls P f args w (retP Q)) (hk : ∀ v w', Q v w' → k v w') : Calls P f args w (retP k) :=
  Calls.ret_mono h hk
end
end Go.Sh

namespace Go.Sh
open Go Go.RowKit

section
variable {P : Program} {w : World}

/-- xs[:h] of one's own row. -/
theorem own_sl_h {ty e sz base n : Nat} {v : Value} {xs : List Value} [hT : SlT P ty e sz] (ho : w.ownsRow base e sz v n xs) {h : Int} (h0 : 0 ≤ h) (h1 : h ≤ n) :
    ∃ v', Pu P (Instr.sliceAt ty v none (some (.int .i64 h)) none) v' ∧ w.ownsRow base e sz v' h.toNat (xs.take (h.toNat * sz)) ∧ v'.ownBlock = v.ownBlock := by
  have hrun : ∀ (A : Option Addr) (c : Nat), n ≤ c → Pu P (Instr.sliceAt ty (.slice A n c) none (some (.int .i64 h)) none) (.slice A h.toNat c) := fun A c hc w => by
    rw [run_sliceAt hT.und, run_slice_h w ty A n c (elem_of hT.und) .i64 h h0 (by omega), size_elem]
    simp [Result.andThen, sliced]
    intro hh
    cases A <;> simp [Addr.add]
  obtain ⟨hx, hcase⟩ := ho
  have hlen : (xs.take (h.toNat * sz)).length = h.toNat * sz := by
    rw [List.length_take, hx]
    exact Nat.min_eq_left (Nat.mul_le_mul_right _ (by omega))
  rcases hcase with ⟨rfl, rfl⟩ | ⟨g, cap, cur, rfl, hb, hg, hn, hm, hs, ht⟩
  · have : h = 0 := by omega
    subst this
    exact ⟨_, hrun none 0 (Nat.le_refl _), ⟨hlen, .inl ⟨rfl, rfl⟩⟩, rfl⟩
  · refine ⟨_, hrun _ cap hn, ⟨hlen, .inr ⟨g, cap, cur, rfl, hb, hg, by omega, hm, hs, ?_⟩⟩, rfl⟩
    rw [← ht, List.take_take, Nat.min_eq_left (Nat.mul_le_mul_right _ (by omega))]

theorem own_blkne {base e sz n : Nat} {v : Value} {xs : List Value} (ho : w.ownsRow base e sz v n xs) {g : Nat} (hg : g < base) : ∀ b, v.ownBlock = some b → ¬ b = g := fun b hb => by
  have := (ho.lt b hb).1
  omega

/-- slices.Clone -/
def cloneS (t : TypeId) (P : Program) (k : Value → World → Prop) (a0_s : Value) (w : World) : Prop :=
  SV P (eqS .eql t (.tmp 3) (.const (Value.slice none 0 0)) a0_s (Value.slice none 0 0)) w fun t4 w =>
  CN t4
  (k (Value.slice none 0 0) w)
  (SV P (Instr.buildSlice t 0 #[]) w fun t5 w =>
  SV P (Builtin.append_ #[t, t] t #[t5, a0_s]) w fun t7 w =>
  k t7 w)

theorem cloneS_ok {t e sz b T n : Nat} [hT : SlT P t e sz] [hI : Inf P e sz b] {v : Value} {xs : List Value} {k : Value → World → Prop} (hr : Rd w T sz v n xs) (h1 : Ones xs) (hb : n * b ≤ 140737488355328)
    (hk : ∀ v' w', w'.ownsRow w.heap.size e sz v' n xs → Ch No w w' → k v' w') : cloneS t P k v w := by
  obtain ⟨A, c, rfl, hc⟩ := hr.form
  unfold cloneS
  refine SV_pu pu_eqlslice ?_
  cases A with
  | none =>
    have hn : n = 0 := by
      rcases Nat.eq_zero_or_pos n with h | h
      · exact h
      · obtain ⟨_, _, A, _, hv, _, h4⟩ := hr
        injection hv with hA
        subst hA
        obtain ⟨_, _, _, _, h, _⟩ := h4 h
        cases h
    subst hn
    have hxs : xs = [] := hr.nil0
    subst hxs
    exact hk _ w (own_nil w _ e sz) (Ch.refl w)
  | some a =>
    refine SV_lits (e := e) (sz := sz) [] [] rfl (fun i v hv => by simp at hv) rfl rfl (by simp) fun g w1 hg b1 h1' ho => ?_
    have hmax := hr.2.1
    refine SV_append (base := w.heap.size) ho (hr.no h1') h1 (by simpa using hb) (by simpa using hmax) h1'.size fun v' w2 ho2 h2 => ?_
    refine hk v' w2 (by simpa using ho2) (h1'.trans' h2 fun i hi hib => ?_)
    have : g = i := by simpa [Value.ownBlock] using hib
    omega
end
end Go.Sh
namespace Go.Proofs.YtkdghnbogkbedaaGreatDoor
open Go Go.Sh Go.RowKit
set_option maxRecDepth 100000
set_option maxHeartbeats 1000000
set_option linter.unusedSimpArgs false
set_option linter.unusedVariables false

/-- A call that hands back a slice of its own. -/
def RetOwn (P : Program) (f : FuncId) (args : Array Value) (w : World) (e sz n : Nat) (xs : List Value) : Prop := Calls P f args w (retP fun v' w' => w'.ownsRow w.heap.size e sz v' n xs ∧ Ch No w w')
end Go.Proofs.YtkdghnbogkbedaaGreatDoor

namespace Go.Proofs.YtkdghnbogkbedaaGreatDoor
open Go Go.Sh
set_option maxRecDepth 100000


theorem mixedXFront : Tryz.prog.follows .mixedOrders = true := by kernel_rfl

/-! ### 72: scrinium/front.New -/

def s72 (P : Program) (k : Value → World → Prop) (w : World) : Prop :=
  SV P (Instr.build 190 #[]) w fun t1 w =>
  SV P (Instr.box 190 t1) w fun t2 w =>
  k t2 w

theorem e72 (k : Value → World → Prop) (w : World) : s72 Tryz.prog k  w = vcF Tryz.prog Tryz.f72 [] [] k w := by kernel_rfl
theorem c72 {k : Value → World → Prop} {w : World} (h : s72 Tryz.prog k  w) : Calls Tryz.prog 72 #[] w (retP k) :=
  calls_of_vcF [] mixedXFront Tryz.func72 (by kernel_rfl) (Eq.mp (e72 k  w) h)
theorem n72 {args : Array Value} {w : World} {k : Value → World → Prop} (h : Calls Tryz.prog 72 args w (retP k)) : SN Tryz.prog (callFunc 72 args) w k := sn_call Tryz.func72 (by kernel_rfl) (by kernel_rfl) h

/-! ### 74: (*scrinium/front.Front).Add -/

def s74_l1 (P : Program) (k : Value → World → Prop) (a0_f : Value) (x3 : Value) (peaks5 : Value) (k6 : Value) (next : List Value → World → Prop) (w : World) : Prop :=
  SV P (binOp .rem 3 k6 (Value.int .i64 2)) w fun t29 w =>
  SV P (eqS .eql 3 (.tmp 29) (.const (Value.int .i64 0)) t29 (Value.int .i64 0)) w fun t30 w =>
  CN t30
  (SV P (nilS a0_f) w fun t44 w =>
  SV P (Instr.fieldAt 190 t44 0) w fun t45 w =>
  SV P (Instr.loadAt 3 t45) w fun t46 w =>
  SV P (binOp .add 3 t46 (Value.int .i64 1)) w fun t47 w =>
  SV P (nilS a0_f) w fun t48 w =>
  SV P (Instr.fieldAt 190 t48 0) w fun t49 w =>
  SU P (Instr.storeAt 3 t49 t47) w fun w =>
  SV P (Instr.loadAt 29 x3) w fun t52 w =>
  SV P (Instr.buildSlice 24 1 #[(0, t52)]) w fun t53 w =>
  SV P (Builtin.append_ #[24, 24] 24 #[peaks5, t53]) w fun t54 w =>
  SV P (nilS a0_f) w fun t55 w =>
  SV P (Instr.fieldAt 190 t55 1) w fun t56 w =>
  SU P (Instr.storeAt 24 t56 t54) w fun w =>
  SV P (nilS a0_f) w fun t58 w =>
  SV P (Instr.fieldAt 190 t58 0) w fun t59 w =>
  SV P (Instr.loadAt 3 t59) w fun t60 w =>
  k t60 w)
  (SV P (Builtin.len_ #[24] 3 #[peaks5]) w fun t32 w =>
  SV P (binOp .sub 3 t32 (Value.int .i64 1)) w fun t33 w =>
  HR w fun C w =>
  HV P C (Instr.indexAt 24 peaks5 t33) fun t36 =>
  HV P C (Instr.loadAt 29 t36) fun t37 =>
  HV P C (Instr.loadAt 29 x3) fun t38 =>
  SN P (callFunc 142 #[t37, t38]) w fun t39 w =>
  SU P (Instr.storeAt 29 x3 t39) w fun w =>
  SV P (Instr.sliceAt 24 peaks5 none (some t33) none) w fun t42 w =>
  SV P (binOp .quo 3 k6 (Value.int .i64 2)) w fun t27 w =>
  next [t42, t27] w)

def s74 (P : Program) (k : Value → World → Prop) (a0_f : Value) (a1_x : Value) (w : World) : Prop :=
  SV P (Instr.box 29 a1_x) w fun x3 w =>
  SV P (eqS .eql 25 (.tmp 8) (.const (Value.pointer none)) a0_f (Value.pointer none)) w fun t9 w =>
  GD t9 false
  (SV P (nilS a0_f) w fun t12 w =>
  SV P (Instr.fieldAt 190 t12 0) w fun t13 w =>
  SV P (Instr.loadAt 3 t13) w fun t14 w =>
  SV P (binOp .geq 3 t14 (Value.int .i64 1099511627776)) w fun t15 w =>
  CN t15
  (k (Value.int .i64 0) w)
  (SV P (nilS a0_f) w fun t18 w =>
  SV P (Instr.fieldAt 190 t18 1) w fun t19 w =>
  SV P (Instr.loadAt 24 t19) w fun t20 w =>
  SN P (callFunc 88 #[t20]) w fun t21 w =>
  SV P (nilS a0_f) w fun t23 w =>
  SV P (Instr.fieldAt 190 t23 0) w fun t24 w =>
  SV P (Instr.loadAt 3 t24) w fun t25 w =>
  LP 2 [t21, t25] w (fun next _ us w => s74_l1 P k a0_f x3 (us.getD 0 undef) (us.getD 1 undef) next w)))
  (k (Value.int .i64 0) w)

theorem e74 (k : Value → World → Prop) (a0_f a1_x : Value) (w : World) : s74 Tryz.prog k a0_f a1_x w = vcF Tryz.prog Tryz.f74 [5, 6] [a0_f, a1_x] k w := by kernel_rfl
theorem c74 {k : Value → World → Prop} {a0_f a1_x : Value} {w : World} (h : s74 Tryz.prog k a0_f a1_x w) : Calls Tryz.prog 74 #[a0_f, a1_x] w (retP k) :=
  calls_of_vcF [5, 6] mixedXFront Tryz.func74 (by kernel_rfl) (Eq.mp (e74 k a0_f a1_x w) h)
theorem n74 {args : Array Value} {w : World} {k : Value → World → Prop} (h : Calls Tryz.prog 74 args w (retP k)) : SN Tryz.prog (callFunc 74 args) w k := sn_call Tryz.func74 (by kernel_rfl) (by kernel_rfl) h

/-! ### 89: (*scrinium/front.Front).Copy -/

def s89 (P : Program) (k : Value → World → Prop) (a0_f : Value) (w : World) : Prop :=
  SV P (eqS .eql 25 (.tmp 3) (.const (Value.pointer none)) a0_f (Value.pointer none)) w fun t4 w =>
  CN t4
  (k (Value.pointer none) w)
  (HR w fun C w =>
  HV P C (nilS a0_f) fun t6 =>
  HV P C (Instr.fieldAt 190 t6 0) fun t7 =>
  HV P C (Instr.loadAt 3 t7) fun t8 =>
  HV P C (nilS a0_f) fun t10 =>
  HV P C (Instr.fieldAt 190 t10 1) fun t11 =>
  HV P C (Instr.loadAt 24 t11) fun t12 =>
  SN P (callFunc 88 #[t12]) w fun t13 w =>
  C w ∧
  HV P C (Instr.build 190 #[(0, t8), (1, t13)]) fun t14 =>
  SV P (Instr.box 190 t14) w fun t15 w =>
  RS C w fun _ =>
  k t15 w)

theorem e89 (k : Value → World → Prop) (a0_f : Value) (w : World) : s89 Tryz.prog k a0_f w = vcF Tryz.prog Tryz.f89 [] [a0_f] k w := by kernel_rfl
theorem c89 {k : Value → World → Prop} {a0_f : Value} {w : World} (h : s89 Tryz.prog k a0_f w) : Calls Tryz.prog 89 #[a0_f] w (retP k) :=
  calls_of_vcF [] mixedXFront Tryz.func89 (by kernel_rfl) (Eq.mp (e89 k a0_f w) h)
theorem n89 {args : Array Value} {w : World} {k : Value → World → Prop} (h : Calls Tryz.prog 89 args w (retP k)) : SN Tryz.prog (callFunc 89 args) w k := sn_call Tryz.func89 (by kernel_rfl) (by kernel_rfl) h

end Go.Proofs.YtkdghnbogkbedaaGreatDoor

namespace Go.Proofs.YtkdghnbogkbedaaGreatDoor
open Go Go.Sh
set_option maxRecDepth 100000


theorem mixedXSlices : Tryz.prog.follows .mixedOrders = true := by kernel_rfl

/-! ### 85: slices.Clone[[]scrinium/api.Freeze,scrinium/api.Freeze] -/

def s85 (P : Program) (k : Value → World → Prop) (a0_s : Value) (w : World) : Prop :=
  SV P (eqS .eql 23 (.tmp 3) (.const (Value.slice none 0 0)) a0_s (Value.slice none 0 0)) w fun t4 w =>
  CN t4
  (k (Value.slice none 0 0) w)
  (SV P (Instr.buildSlice 23 0 #[]) w fun t5 w =>
  SV P (Builtin.append_ #[23, 23] 23 #[t5, a0_s]) w fun t7 w =>
  k t7 w)

theorem e85 (k : Value → World → Prop) (a0_s : Value) (w : World) : s85 Tryz.prog k a0_s w = vcF Tryz.prog Tryz.f85 [] [a0_s] k w := by kernel_rfl
theorem c85 {k : Value → World → Prop} {a0_s : Value} {w : World} (h : s85 Tryz.prog k a0_s w) : Calls Tryz.prog 85 #[a0_s] w (retP k) :=
  calls_of_vcF [] mixedXSlices Tryz.func85 (by kernel_rfl) (Eq.mp (e85 k a0_s w) h)
theorem n85 {args : Array Value} {w : World} {k : Value → World → Prop} (h : Calls Tryz.prog 85 args w (retP k)) : SN Tryz.prog (callFunc 85 args) w k := sn_call Tryz.func85 (by kernel_rfl) (by kernel_rfl) h

/-! ### 88: slices.Clone[[]scrinium/api.Sum,scrinium/api.Sum] -/

def s88 (P : Program) (k : Value → World → Prop) (a0_s : Value) (w : World) : Prop :=
  SV P (eqS .eql 24 (.tmp 3) (.const (Value.slice none 0 0)) a0_s (Value.slice none 0 0)) w fun t4 w =>
  CN t4
  (k (Value.slice none 0 0) w)
  (SV P (Instr.buildSlice 24 0 #[]) w fun t5 w =>
  SV P (Builtin.append_ #[24, 24] 24 #[t5, a0_s]) w fun t7 w =>
  k t7 w)

theorem e88 (k : Value → World → Prop) (a0_s : Value) (w : World) : s88 Tryz.prog k a0_s w = vcF Tryz.prog Tryz.f88 [] [a0_s] k w := by kernel_rfl
theorem c88 {k : Value → World → Prop} {a0_s : Value} {w : World} (h : s88 Tryz.prog k a0_s w) : Calls Tryz.prog 88 #[a0_s] w (retP k) :=
  calls_of_vcF [] mixedXSlices Tryz.func88 (by kernel_rfl) (Eq.mp (e88 k a0_s w) h)
theorem n88 {args : Array Value} {w : World} {k : Value → World → Prop} (h : Calls Tryz.prog 88 args w (retP k)) : SN Tryz.prog (callFunc 88 args) w k := sn_call Tryz.func88 (by kernel_rfl) (by kernel_rfl) h

/-! ### 122: slices.Clone[[]scrinium/api.Record,scrinium/api.Record] -/

def s122 (P : Program) (k : Value → World → Prop) (a0_s : Value) (w : World) : Prop :=
  SV P (eqS .eql 72 (.tmp 3) (.const (Value.slice none 0 0)) a0_s (Value.slice none 0 0)) w fun t4 w =>
  CN t4
  (k (Value.slice none 0 0) w)
  (SV P (Instr.buildSlice 72 0 #[]) w fun t5 w =>
  SV P (Builtin.append_ #[72, 72] 72 #[t5, a0_s]) w fun t7 w =>
  k t7 w)

theorem e122 (k : Value → World → Prop) (a0_s : Value) (w : World) : s122 Tryz.prog k a0_s w = vcF Tryz.prog Tryz.f122 [] [a0_s] k w := by kernel_rfl
theorem c122 {k : Value → World → Prop} {a0_s : Value} {w : World} (h : s122 Tryz.prog k a0_s w) : Calls Tryz.prog 122 #[a0_s] w (retP k) :=
  calls_of_vcF [] mixedXSlices Tryz.func122 (by kernel_rfl) (Eq.mp (e122 k a0_s w) h)
theorem n122 {args : Array Value} {w : World} {k : Value → World → Prop} (h : Calls Tryz.prog 122 args w (retP k)) : SN Tryz.prog (callFunc 122 args) w k := sn_call Tryz.func122 (by kernel_rfl) (by kernel_rfl) h

end Go.Proofs.YtkdghnbogkbedaaGreatDoor

namespace Go.Sh
open Go Go.RowKit

def sums (l : List Sum) : List Value := l.flatMap Sum.cells
theorem sums_len (l : List Sum) : (sums l).length = l.length * 32 := by
  induction l with
  | nil => rfl
  | cons a l ih => simp only [sums, List.flatMap_cons, List.length_append, Sum.len] at ih ⊢; rw [ih, List.length_cons, Nat.add_mul]; omega
theorem sums_ones (l : List Sum) : Ones (sums l) := Ones.flat Sum.ones l
theorem sums_append (l m : List Sum) : sums (l ++ m) = sums l ++ sums m := by simp [sums]
theorem sums_take (l : List Sum) (i : Nat) : (sums l).take (i * 32) = sums (l.take i) := by
  induction l generalizing i with
  | nil => simp [sums]
  | cons a l ih =>
    cases i with
    | zero => simp [sums]
    | succ i =>
      have : (i + 1) * 32 = a.cells.length + i * 32 := by rw [Sum.len]; omega
      rw [show sums (a :: l) = a.cells ++ sums l from rfl, this, List.take_length_add_append, ih i]
      rfl
theorem sums_drop (l : List Sum) (i : Nat) : (sums l).drop (i * 32) = sums (l.drop i) := by
  induction l generalizing i with
  | nil => simp [sums]
  | cons a l ih =>
    cases i with
    | zero => simp
    | succ i =>
      have : (i + 1) * 32 = a.cells.length + i * 32 := by rw [Sum.len]; omega
      rw [show sums (a :: l) = a.cells ++ sums l from rfl, this, List.drop_length_add_append, ih i]
      rfl
theorem sums_at {l : List Sum} {i : Nat} (h : i < l.length) : ((sums l).drop (i * 32)).take 32 = l[i].cells := by
  rw [sums_drop, List.drop_eq_getElem_cons h]
  exact List.take_left' (Sum.len _)

/-- How many ones a number has. -/
def popc (n : Nat) : Nat := if n = 0 then 0 else n % 2 + popc (n / 2)
termination_by n
decreasing_by omega
theorem popc_zero : popc 0 = 0 := by rw [popc]; rfl
theorem popc_pos {n : Nat} (h : n ≠ 0) : popc n = n % 2 + popc (n / 2) := by rw [popc, if_neg h]
theorem popc_odd {n : Nat} (h : n % 2 = 1) : popc n = 1 + popc (n / 2) := by rw [popc_pos (by omega), h]
theorem popc_even {n : Nat} (h : n % 2 = 0) : popc n = popc (n / 2) := by
  by_cases h0 : n = 0
  · subst h0; rfl
  · rw [popc_pos h0, h, Nat.zero_add]
theorem popc_le {n k : Nat} (h : n < 2 ^ k) : popc n ≤ k := by
  induction k generalizing n with
  | zero => have : n = 0 := by simpa using h
            subst this; rw [popc_zero]; exact Nat.le_refl _
  | succ k ih =>
    by_cases h0 : n = 0
    · subst h0; rw [popc_zero]; omega
    · rw [popc_pos h0]
      have := ih (n := n / 2) (by rw [Nat.pow_succ] at h; omega)
      omega

/-- The peaks behind one leaf more. -/
def pushPk (l : List Sum) (k : Nat) (x : Sum) : List Sum := if k % 2 = 1 then pushPk l.dropLast (k / 2) (nodeOf (l.getLastD Sum.zero) x) else l ++ [x]
termination_by k
decreasing_by omega
theorem pushPk_odd {l : List Sum} {k : Nat} {x : Sum} (h : k % 2 = 1) : pushPk l k x = pushPk l.dropLast (k / 2) (nodeOf (l.getLastD Sum.zero) x) := by rw [pushPk, if_pos h]
theorem pushPk_even {l : List Sum} {k : Nat} {x : Sum} (h : ¬ k % 2 = 1) : pushPk l k x = l ++ [x] := by rw [pushPk, if_neg h]
theorem pushPk_len {l : List Sum} {k : Nat} {x : Sum} (h : l.length = popc k) : (pushPk l k x).length = popc (k + 1) := by
  induction k using Nat.strongRecOn generalizing l x with
  | _ k ih =>
    by_cases h1 : k % 2 = 1
    · rw [pushPk_odd h1, ih (k / 2) (by omega) (by rw [List.length_dropLast, h, popc_odd h1]; omega), popc_even (n := k + 1) (by omega)]
      congr 1; omega
    · rw [pushPk_even h1, List.length_append, h, popc_odd (n := k + 1) (by omega), popc_even (n := k) (by omega), List.length_cons, List.length_nil]
      rw [show (k + 1) / 2 = k / 2 by omega]; omega
/-- The peaks of leaves. -/
def peaksOf (l : List Sum) : List Sum := (l.zipIdx).foldl (fun p (x, i) => pushPk p i x) []
theorem peaksOf_snoc (l : List Sum) (x : Sum) : peaksOf (l ++ [x]) = pushPk (peaksOf l) l.length x := by
  unfold peaksOf
  rw [List.zipIdx_append, List.foldl_append]
  simp
theorem snocInd {α : Type} {p : List α → Prop} (h0 : p []) (h1 : ∀ l x, p l → p (l ++ [x])) (l : List α) : p l := by
  rw [← List.reverse_reverse l]
  induction l.reverse with
  | nil => exact h0
  | cons a t ih => rw [List.reverse_cons]; exact h1 _ _ ih
theorem peaksOf_len (l : List Sum) : (peaksOf l).length = popc l.length :=
  snocInd (p := fun l => (peaksOf l).length = popc l.length) (by rw [List.length_nil, popc_zero]; rfl) (fun l x ih => by rw [peaksOf_snoc, pushPk_len ih, List.length_append]; rfl) l

/-- A front of these leaves. -/
def FrontAt (w : World) (g : Nat) (tf ts : TypeId) (l : List Sum) : Prop := ∃ v, Blk w g tf [.int .i64 l.length, v] ∧ Rd w ts 32 v (popc l.length) (sums (peaksOf l))
theorem FrontAt.no {w w' : World} {g tf ts : Nat} {l : List Sum} (h : FrontAt w g tf ts l) (hc : Ch No w w') : FrontAt w' g tf ts l := by
  obtain ⟨v, h1, h2⟩ := h
  exact ⟨v, h1.no hc, h2.no hc⟩

theorem getLastD_eq {l : List Sum} {d : Sum} (h : 0 < l.length) : l.getLastD d = l[l.length - 1] := by
  cases l with
  | nil => simp at h
  | cons a l => simp [List.getLastD, List.getLast_eq_getElem]
theorem take_pred {α : Type} (l : List α) : l.take (l.length - 1) = l.dropLast := (List.dropLast_eq_take).symm
end Go.Sh
namespace Go.Proofs.YtkdghnbogkbedaaGreatDoor
open Go Go.Sh Go.RowKit
set_option maxRecDepth 100000
set_option maxHeartbeats 1000000
set_option linter.unusedSimpArgs false
set_option linter.unusedVariables false

theorem clone_sums {T n : Nat} {v : Value} {xs : List Value} {w : World} (hr : Rd w T 32 v n xs) (h1 : Ones xs) (hb : n ≤ 4000000000) : RetOwn Tryz.prog 88 #[v] w 29 32 n xs := by
  refine c88 ?_
  have h : cloneS 24 Tryz.prog (fun v' w' => w'.ownsRow w.heap.size 29 32 v' n xs ∧ Ch No w w') v w := cloneS_ok (e := 29) (sz := 32) hr h1 (by omega) fun v' w' ho hc => ⟨ho, hc⟩
  exact h
theorem clone_freezes {T n : Nat} {v : Value} {xs : List Value} {w : World} (hr : Rd w T 34 v n xs) (h1 : Ones xs) (hb : n ≤ 1000000000) : RetOwn Tryz.prog 85 #[v] w 31 34 n xs := by
  refine c85 ?_
  have h : cloneS 23 Tryz.prog (fun v' w' => w'.ownsRow w.heap.size 31 34 v' n xs ∧ Ch No w w') v w := cloneS_ok (e := 31) (sz := 34) hr h1 (by omega) fun v' w' ho hc => ⟨ho, hc⟩
  exact h

theorem front_new (w : World) : Calls Tryz.prog 72 #[] w (retP fun v w' => ∃ g, v = .pointer (some ⟨g, 0, none⟩) ∧ w.heap.size ≤ g ∧ FrontAt w' g 190 29 [] ∧ Ch No w w') := by
  refine c72 ?_
  unfold s72
  refine SV_pu (pu_build (FillOk.nil _)) ?_
  refine SV_box (vs := [.int .i64 0, .slice none 0 0]) rfl fun g w1 hg b1 h1 => ?_
  refine ⟨g, rfl, hg, ⟨_, b1, ?_⟩, h1⟩
  rw [List.length_nil, popc_zero]
  exact Rd.zero none 0

theorem front_add {g : Nat} {l : List Sum} {x : Sum} {w : World} (hK : KeysAt w) (h1g : 1 < g) (hf : FrontAt w g 190 29 l) (hl : l.length < 1099511627776) :
    Calls Tryz.prog 74 #[.pointer (some ⟨g, 0, none⟩), x.v] w (retP fun v w' => v = .int .i64 (l.length + 1 : Nat) ∧ FrontAt w' g 190 29 (l ++ [x]) ∧ Ch (· = g) w w') := by
  obtain ⟨pv, bg, hp⟩ := hf
  refine c74 ?_
  unfold s74
  have lg := bg.lt
  refine SV_box (vs := x.cells) rfl fun g3 w1 hg3 b3 h1 => ?_
  have z1 := h1.size
  have l3 := b3.lt
  have hpop : popc l.length ≤ 40 := popc_le (by simpa using hl)
  (first | refine SV_p (by first | exact True.intro | omega | (simp only [List.length_append, List.length_cons, List.length_nil, List.length_replicate, List.length_map]; omega)) ?_ | refine HV_p (by first | exact True.intro | omega | (simp only [List.length_append, List.length_cons, List.length_nil, List.length_replicate, List.length_map]; omega)) ?_)
  refine GD_ff ?_
  have bg := bg.no h1
  (first | refine SV_p (by first | exact True.intro | omega | (simp only [List.length_append, List.length_cons, List.length_nil, List.length_replicate, List.length_map]; omega)) ?_ | refine HV_p (by first | exact True.intro | omega | (simp only [List.length_append, List.length_cons, List.length_nil, List.length_replicate, List.length_map]; omega)) ?_)
  (first | refine SV_p (by first | exact True.intro | omega | (simp only [List.length_append, List.length_cons, List.length_nil, List.length_replicate, List.length_map]; omega)) ?_ | refine HV_p (by first | exact True.intro | omega | (simp only [List.length_append, List.length_cons, List.length_nil, List.length_replicate, List.length_map]; omega)) ?_)
  refine SV_load bg rfl ?_
  (first | refine SV_p (by first | exact True.intro | omega | (simp only [List.length_append, List.length_cons, List.length_nil, List.length_replicate, List.length_map]; omega)) ?_ | refine HV_p (by first | exact True.intro | omega | (simp only [List.length_append, List.length_cons, List.length_nil, List.length_replicate, List.length_map]; omega)) ?_)
  refine CN_false (by omega) ?_
  (first | refine SV_p (by first | exact True.intro | omega | (simp only [List.length_append, List.length_cons, List.length_nil, List.length_replicate, List.length_map]; omega)) ?_ | refine HV_p (by first | exact True.intro | omega | (simp only [List.length_append, List.length_cons, List.length_nil, List.length_replicate, List.length_map]; omega)) ?_)
  (first | refine SV_p (by first | exact True.intro | omega | (simp only [List.length_append, List.length_cons, List.length_nil, List.length_replicate, List.length_map]; omega)) ?_ | refine HV_p (by first | exact True.intro | omega | (simp only [List.length_append, List.length_cons, List.length_nil, List.length_replicate, List.length_map]; omega)) ?_)
  refine SV_load bg (v := pv) rfl ?_
  refine n88 (Calls.ret_mono (clone_sums (hp.no h1) (sums_ones _) (by omega)) ?_)
  rintro v2 w2 ⟨ho, h2⟩
  have z2 := h2.size
  have bg := bg.no h2
  have b3 := b3.no h2
  (first | refine SV_p (by first | exact True.intro | omega | (simp only [List.length_append, List.length_cons, List.length_nil, List.length_replicate, List.length_map]; omega)) ?_ | refine HV_p (by first | exact True.intro | omega | (simp only [List.length_append, List.length_cons, List.length_nil, List.length_replicate, List.length_map]; omega)) ?_)
  (first | refine SV_p (by first | exact True.intro | omega | (simp only [List.length_append, List.length_cons, List.length_nil, List.length_replicate, List.length_map]; omega)) ?_ | refine HV_p (by first | exact True.intro | omega | (simp only [List.length_append, List.length_cons, List.length_nil, List.length_replicate, List.length_map]; omega)) ?_)
  refine SV_load bg (v := .int .i64 l.length) rfl ?_
  refine LP_intro (fun us w' => ∃ (v : Value) (k : Nat) (p : List Sum) (y : Sum), us = [v, .int .i64 k] ∧ k ≤ l.length ∧ p.length = popc k ∧ pushPk p k y = pushPk (peaksOf l) l.length x ∧ w'.ownsRow w1.heap.size 29 32 v p.length (sums p) ∧ Blk w' g3 29 y.cells ∧ Ch (· = g3) w2 w')
    (fun us _ => match us with | [_, .int _ t] => t.toNat | _ => 0)
    ⟨v2, l.length, peaksOf l, x, rfl, Nat.le_refl _, peaksOf_len l, rfl, by rw [peaksOf_len]; exact ho, b3, Ch.refl _⟩ ?_
  rintro us hus ζ w3 ⟨v, k, p, y, rfl, hk, hpl, heq, ho, b3, h3⟩
  unfold s74_l1
  simp only [List.getD_cons_zero, List.getD_cons_succ]
  have hpk : popc k ≤ 40 := popc_le (n := k) (k := 40) (by simp; omega)
  have z3 := h3.size
  have hcw3 : Ch No w w3 := (h1.trans h2).own h3 (by omega)
  (first | refine SV_p (by first | exact True.intro | omega | (simp only [List.length_append, List.length_cons, List.length_nil, List.length_replicate, List.length_map]; omega)) ?_ | refine HV_p (by first | exact True.intro | omega | (simp only [List.length_append, List.length_cons, List.length_nil, List.length_replicate, List.length_map]; omega)) ?_)
  (first | refine SV_p (by first | exact True.intro | omega | (simp only [List.length_append, List.length_cons, List.length_nil, List.length_replicate, List.length_map]; omega)) ?_ | refine HV_p (by first | exact True.intro | omega | (simp only [List.length_append, List.length_cons, List.length_nil, List.length_replicate, List.length_map]; omega)) ?_)
  refine CN_split (fun heven => ?_) (fun hodd => ?_)
  · have hk2 : ¬ k % 2 = 1 := by omega
    rw [pushPk_even hk2] at heq
    have bg := bg.ch h3 (by omega)
    (first | refine SV_p (by first | exact True.intro | omega | (simp only [List.length_append, List.length_cons, List.length_nil, List.length_replicate, List.length_map]; omega)) ?_ | refine HV_p (by first | exact True.intro | omega | (simp only [List.length_append, List.length_cons, List.length_nil, List.length_replicate, List.length_map]; omega)) ?_)
    (first | refine SV_p (by first | exact True.intro | omega | (simp only [List.length_append, List.length_cons, List.length_nil, List.length_replicate, List.length_map]; omega)) ?_ | refine HV_p (by first | exact True.intro | omega | (simp only [List.length_append, List.length_cons, List.length_nil, List.length_replicate, List.length_map]; omega)) ?_)
    refine SV_load bg (v := .int .i64 l.length) rfl ?_
    (first | refine SV_p (by first | exact True.intro | omega | (simp only [List.length_append, List.length_cons, List.length_nil, List.length_replicate, List.length_map]; omega)) ?_ | refine HV_p (by first | exact True.intro | omega | (simp only [List.length_append, List.length_cons, List.length_nil, List.length_replicate, List.length_map]; omega)) ?_)
    (first | refine SV_p (by first | exact True.intro | omega | (simp only [List.length_append, List.length_cons, List.length_nil, List.length_replicate, List.length_map]; omega)) ?_ | refine HV_p (by first | exact True.intro | omega | (simp only [List.length_append, List.length_cons, List.length_nil, List.length_replicate, List.length_map]; omega)) ?_)
    (first | refine SV_p (by first | exact True.intro | omega | (simp only [List.length_append, List.length_cons, List.length_nil, List.length_replicate, List.length_map]; omega)) ?_ | refine HV_p (by first | exact True.intro | omega | (simp only [List.length_append, List.length_cons, List.length_nil, List.length_replicate, List.length_map]; omega)) ?_)
    refine SU_store bg (by simp) rfl fun w4 bg h4 => ?_
    have hne3 : g ≠ g3 := by omega
    refine SV_loadB (b3.ch h4 hne3.symm) y.len ?_
    have ho := own_ch ho h4 (own_blkne ho (by omega))
    refine SV_lits (e := 29) (sz := 32) [ag y.cells] [y.cells] rfl (fun i v hv => ?_) rfl rfl (by simp) fun g5 w5 hg5 b5 h5 ho5 => ?_
    · match i, hv with
      | 0, hv => simp only [List.getElem?_cons_zero, Option.some.injEq] at hv; subst hv; exact ⟨y.cells, rfl, rfl, y.len⟩
      | i + 1, hv => simp at hv
    have z4 := h4.size
    have z5 := h5.size
    have hfl : [y.cells].flatten = sums [y] := by simp [sums]
    rw [hfl] at ho5
    refine SV_append (base := w1.heap.size) (own_no ho h5) (Rd.of_own ho5) (sums_ones _) (by omega) (by unfold maxLen; omega) (by omega) fun v6 w6 ho6 h6 => ?_
    have hob := own_blkne ho (g := g) (by omega)
    have bg := (bg.no h5).ch h6 (fun hb => hob g hb rfl)
    (first | refine SV_p (by first | exact True.intro | omega | (simp only [List.length_append, List.length_cons, List.length_nil, List.length_replicate, List.length_map]; omega)) ?_ | refine HV_p (by first | exact True.intro | omega | (simp only [List.length_append, List.length_cons, List.length_nil, List.length_replicate, List.length_map]; omega)) ?_)
    (first | refine SV_p (by first | exact True.intro | omega | (simp only [List.length_append, List.length_cons, List.length_nil, List.length_replicate, List.length_map]; omega)) ?_ | refine HV_p (by first | exact True.intro | omega | (simp only [List.length_append, List.length_cons, List.length_nil, List.length_replicate, List.length_map]; omega)) ?_)
    have h1v : v6.oneCell' = true := by
      obtain ⟨A, c, rfl, _⟩ := (Rd.of_own ho6).form
      rfl
    refine SU_store bg (by simp) h1v fun w7 bg h7 => ?_
    (first | refine SV_p (by first | exact True.intro | omega | (simp only [List.length_append, List.length_cons, List.length_nil, List.length_replicate, List.length_map]; omega)) ?_ | refine HV_p (by first | exact True.intro | omega | (simp only [List.length_append, List.length_cons, List.length_nil, List.length_replicate, List.length_map]; omega)) ?_)
    (first | refine SV_p (by first | exact True.intro | omega | (simp only [List.length_append, List.length_cons, List.length_nil, List.length_replicate, List.length_map]; omega)) ?_ | refine HV_p (by first | exact True.intro | omega | (simp only [List.length_append, List.length_cons, List.length_nil, List.length_replicate, List.length_map]; omega)) ?_)
    refine SV_load bg (v := .int .i64 ((l.length : Int) + 1)) rfl ?_
    have hlen : (l ++ [x]).length = l.length + 1 := by simp
    have hfin : sums p ++ sums [y] = sums (peaksOf (l ++ [x])) := by rw [← sums_append, heq, peaksOf_snoc]
    have hn : p.length + 1 = popc (l.length + 1) := by
      have := congrArg List.length heq
      rw [List.length_append, pushPk_len (peaksOf_len l)] at this
      exact this
    refine ⟨by congr 1, ⟨v6, ?_, ?_⟩, ?_⟩
    · rw [hlen]
      have e : ((l.length + 1 : Nat) : Int) = (l.length : Int) + 1 := by omega
      rw [e]
      exact bg
    · rw [hlen, ← hfin, ← hn]
      exact (Rd.of_own ho6).ch h7 (own_blkne ho6 (by omega))
    · exact ((((hcw3.no.trans h4).trans h5.no).trans' h6 fun i hi hib => by have := own_blkne ho (g := i) (by omega) i hib; exact absurd rfl this).trans h7)
  · have hk1 : k % 2 = 1 := by omega
    have hp1 : 0 < p.length := by rw [hpl, popc_odd hk1]; omega
    rw [pushPk_odd hk1] at heq
    obtain ⟨A, c, rfl, _⟩ := (Rd.of_own ho).form
    (first | refine SV_p (by first | exact True.intro | omega | (simp only [List.length_append, List.length_cons, List.length_nil, List.length_replicate, List.length_map]; omega)) ?_ | refine HV_p (by first | exact True.intro | omega | (simp only [List.length_append, List.length_cons, List.length_nil, List.length_replicate, List.length_map]; omega)) ?_)
    (first | refine SV_p (by first | exact True.intro | omega | (simp only [List.length_append, List.length_cons, List.length_nil, List.length_replicate, List.length_map]; omega)) ?_ | refine HV_p (by first | exact True.intro | omega | (simp only [List.length_append, List.length_cons, List.length_nil, List.length_replicate, List.length_map]; omega)) ?_)
    have hi : ((p.length : Int) - 1).toNat = p.length - 1 := by omega
    refine HR_kp No ?_
    refine HV_idx (Rd.of_own ho) (by omega) (by omega) fun q hqb hq => ?_
    rw [hi, sums_at (by omega), ← getLastD_eq (d := Sum.zero) hp1] at hq
    refine HV_ptrN hq (Sum.len _) (fun _ _ h => h) ?_
    refine HV_loadB b3 (fun h => h) y.len ?_
    refine n142 ((leaf_node _ y _ (hK.no (hcw3.trans (Ch.drew _))) (by show 1 < w3.heap.size; omega)).use fun w4 h4 => ?_)
    have h4' : Ch No w3 w4 := (Ch.drew _).trans h4
    have z4 := h4'.size
    refine SU_storeB (b3.no h4') (Sum.len _) y.len (Sum.ones _) fun w5 b5 h5 => ?_
    have ho5 := own_ch (own_no ho h4') h5 (own_blkne ho (by omega))
    obtain ⟨v6, hv6, ho6, _⟩ := own_sl_h (P := Tryz.prog) (ty := 24) ho5 (h := (p.length : Int) - 1) (by omega) (by omega)
    refine SV_pu hv6 ?_
    (first | refine SV_p (by first | exact True.intro | omega | (simp only [List.length_append, List.length_cons, List.length_nil, List.length_replicate, List.length_map]; omega)) ?_ | refine HV_p (by first | exact True.intro | omega | (simp only [List.length_append, List.length_cons, List.length_nil, List.length_replicate, List.length_map]; omega)) ?_)
    rw [hi, sums_take, take_pred] at ho6
    have hdl : p.dropLast.length = p.length - 1 := List.length_dropLast
    have hk2 : ((k : Int) / 2) = ((k / 2 : Nat) : Int) := by omega
    refine ⟨⟨v6, k / 2, p.dropLast, _, by rw [hk2], by omega, ?_, heq, by rw [hdl]; exact ho6, b5, (h3.trans h4'.no).trans h5⟩, ?_⟩
    · rw [hdl, hpl, popc_odd hk1]; omega
    · show ((k : Int) / 2).toNat < (k : Int).toNat
      omega
end Go.Proofs.YtkdghnbogkbedaaGreatDoor

namespace Go.Sh
open Go Go.RowKit
def eSum : Elt Sum := ⟨29, 32, Sum.cells, Sum.len, Sum.ones⟩
instance {x : Sum} : EC eSum x x.cells := ⟨rfl⟩
/-- A front at g, of the leaves l. -/
abbrev fr (g : Nat) (v : Value) (l : List Sum) : Fact := box [bk g 190 [.int .i64 l.length, v], sl eSum v (peaksOf l)]
end Go.Sh
namespace Go.Proofs.YtkdghnbogkbedaaGreatDoor
open Go Go.Sh Go.RowKit
set_option maxRecDepth 100000
set_option maxHeartbeats 1000000
set_option linter.unusedSimpArgs false
set_option linter.unusedVariables false

theorem clone_sum {v : Value} {l : List Sum} {w : World} (h : Mem w [sl eSum v l]) (hn : l.length ≤ 4000000000) : Calls Tryz.prog 88 #[v] w (retP fun v' w' => w'.ownsRow w.heap.size eSum.e eSum.sz v' l.length (eSum.all l) ∧ Ch No w w') :=
  (h.is (sl eSum v l) List.mem_cons_self).elim fun _ h => clone_sums h (eSum.all_ones l) hn

theorem fr_new (w : World) : Calls Tryz.prog 72 #[] w (retP fun v w' => ∃ g, v = .pointer (some ⟨g, 0, none⟩) ∧ St w [] w' [fr g (.slice none 0 0) []]) := by
  have m : St w [] w [] := St.start ⟨fun _ h => (by cases h), List.nodup_nil, fun _ h => (by cases h)⟩
  refine c72 ?_
  unfold s72
  (first | refine Sh.sv m ?_ | refine Sh.hv ?_ | (refine Sh.sw m ?_; clear m; intro g_ w m) | (refine Sh.su m ?_; clear m; intro w m) | (refine Sh.suN m ?_; clear m; intro w m) | (refine Sh.hr m ?_; clear m; intro m) | refine Sh.rsS m ?_ | refine Sh.hd m ?_ | refine Sh.rsK [] m ?_ | refine CN_tt ?_ | refine CN_ff ?_ | refine GD_tt ?_ | refine GD_ff ?_ | refine GD_tf ?_ | refine GD_ft ?_ | refine CN_true (by first | omega | (simp; done) | (simp; omega)) ?_ | refine CN_false (by first | omega | (simp; done) | (simp; omega)) ?_ | refine GD_true (by first | omega | (simp; done) | (simp; omega)) ?_ | refine GD_true' (by first | omega | (simp; done) | (simp; omega)) ?_ | refine GD_false (by first | omega | (simp; done) | (simp; omega)) ?_ | refine GD_false' (by first | omega | (simp; done) | (simp; omega)) ?_ | refine Sh.crN m ?_ | refine Sh.cr1 m ?_ | refine Sh.svI m (by first | omega | decide) (by first | omega | (simp; done) | (simp; omega)) fun q_ _ hp_ => ?_ | refine Sh.hvI m (by first | omega | decide) (by first | omega | (simp; done) | (simp; omega)) fun q_ _ hp_ => ?_ | refine Sh.svF m fun q_ _ hp_ => ?_ | refine Sh.hvF m fun q_ _ hp_ => ?_)
  refine Sh.sw m ?_; clear m; intro g w m
  have m := (m.nilSl eSum).shut (L := [bk g 190 [.int .i64 0, .slice none 0 0], sl eSum (.slice none 0 0) []]) (by repeat (first | exact Frm.nil | (with_reducible exact Rem.here) | apply Frm.cons | apply Rem.there))
  exact ⟨g, rfl, m⟩

theorem fr_add {g : Nat} {v : Value} {l : List Sum} {x : Sum} {w0 : World} (h : Mem w0 [keysF, fr g v l]) (hl : l.length < 1099511627776) :
    Calls Tryz.prog 74 #[.pointer (some ⟨g, 0, none⟩), x.v] w0 (retP fun r w' => ∃ v', r = .int .i64 (l.length + 1 : Nat) ∧ St w0 [keysF, fr g v l] w' [keysF, fr g v' (l ++ [x])]) := by
  have m := St.start h
  replace m := m.open (by repeat (first | exact Frm.nil | (with_reducible exact Rem.dup) | (with_reducible exact Rem.here) | apply Frm.cons | apply Rem.there)); simp only [List.cons_append, List.nil_append] at m
  refine c74 ?_
  unfold s74
  have hpop : popc l.length ≤ 40 := popc_le (by simpa using hl)
  refine Sh.sw m ?_; clear m; intro g3 w m
  (repeat (first | refine Sh.sv m ?_ | refine Sh.hv ?_ | (refine Sh.sw m ?_; clear m; intro g_ w m) | (refine Sh.su m ?_; clear m; intro w m) | (refine Sh.suN m ?_; clear m; intro w m) | (refine Sh.hr m ?_; clear m; intro m) | refine Sh.rsS m ?_ | refine Sh.hd m ?_ | refine Sh.rsK [] m ?_ | refine CN_tt ?_ | refine CN_ff ?_ | refine GD_tt ?_ | refine GD_ff ?_ | refine GD_tf ?_ | refine GD_ft ?_ | refine CN_true (by first | omega | (simp; done) | (simp; omega)) ?_ | refine CN_false (by first | omega | (simp; done) | (simp; omega)) ?_ | refine GD_true (by first | omega | (simp; done) | (simp; omega)) ?_ | refine GD_true' (by first | omega | (simp; done) | (simp; omega)) ?_ | refine GD_false (by first | omega | (simp; done) | (simp; omega)) ?_ | refine GD_false' (by first | omega | (simp; done) | (simp; omega)) ?_ | refine Sh.crN m ?_ | refine Sh.cr1 m ?_ | refine Sh.svI m (by first | omega | decide) (by first | omega | (simp; done) | (simp; omega)) fun q_ _ hp_ => ?_ | refine Sh.hvI m (by first | omega | decide) (by first | omega | (simp; done) | (simp; omega)) fun q_ _ hp_ => ?_ | refine Sh.svF m fun q_ _ hp_ => ?_ | refine Sh.hvF m fun q_ _ hp_ => ?_))
  refine n88 (m.retOwn (clone_sum (m.get (by repeat (first | exact Frm.nil | (with_reducible exact Rem.dup) | (with_reducible exact Rem.here) | apply Frm.cons | apply Rem.there))) (by rw [peaksOf_len]; omega)) ?_); clear m; intro v2 w _ m
  (repeat (first | refine Sh.sv m ?_ | refine Sh.hv ?_ | (refine Sh.sw m ?_; clear m; intro g_ w m) | (refine Sh.su m ?_; clear m; intro w m) | (refine Sh.suN m ?_; clear m; intro w m) | (refine Sh.hr m ?_; clear m; intro m) | refine Sh.rsS m ?_ | refine Sh.hd m ?_ | refine Sh.rsK [] m ?_ | refine CN_tt ?_ | refine CN_ff ?_ | refine GD_tt ?_ | refine GD_ff ?_ | refine GD_tf ?_ | refine GD_ft ?_ | refine CN_true (by first | omega | (simp; done) | (simp; omega)) ?_ | refine CN_false (by first | omega | (simp; done) | (simp; omega)) ?_ | refine GD_true (by first | omega | (simp; done) | (simp; omega)) ?_ | refine GD_true' (by first | omega | (simp; done) | (simp; omega)) ?_ | refine GD_false (by first | omega | (simp; done) | (simp; omega)) ?_ | refine GD_false' (by first | omega | (simp; done) | (simp; omega)) ?_ | refine Sh.crN m ?_ | refine Sh.cr1 m ?_ | refine Sh.svI m (by first | omega | decide) (by first | omega | (simp; done) | (simp; omega)) fun q_ _ hp_ => ?_ | refine Sh.hvI m (by first | omega | decide) (by first | omega | (simp; done) | (simp; omega)) fun q_ _ hp_ => ?_ | refine Sh.svF m fun q_ _ hp_ => ?_ | refine Sh.hvF m fun q_ _ hp_ => ?_))
  refine LP_intro (fun us w' => ∃ (u : Value) (k : Nat) (p : List Sum) (y : Sum), us = [u, .int .i64 k] ∧ k ≤ l.length ∧ p.length = popc k ∧ pushPk p k y = pushPk (peaksOf l) l.length x ∧
      St w0 [keysF, fr g v l] w' [own eSum u p, bk g3 29 y.cells, bk g 190 [.int .i64 l.length, v], sl eSum v (peaksOf l), keysF])
    (fun us _ => match us with | [_, .int _ t] => t.toNat | _ => 0) ⟨v2, l.length, peaksOf l, x, rfl, Nat.le_refl _, peaksOf_len l, rfl, m⟩ ?_
  clear m
  rintro us hus ζ w ⟨u, k, p, y, rfl, hk, hpl, heq, m⟩
  unfold s74_l1
  simp only [List.getD_cons_zero, List.getD_cons_succ]
  have hpk : popc k ≤ 40 := popc_le (n := k) (k := 40) (by simp; omega)
  (repeat (first | refine Sh.sv m ?_ | refine Sh.hv ?_ | (refine Sh.sw m ?_; clear m; intro g_ w m) | (refine Sh.su m ?_; clear m; intro w m) | (refine Sh.suN m ?_; clear m; intro w m) | (refine Sh.hr m ?_; clear m; intro m) | refine Sh.rsS m ?_ | refine Sh.hd m ?_ | refine Sh.rsK [] m ?_ | refine CN_tt ?_ | refine CN_ff ?_ | refine GD_tt ?_ | refine GD_ff ?_ | refine GD_tf ?_ | refine GD_ft ?_ | refine CN_true (by first | omega | (simp; done) | (simp; omega)) ?_ | refine CN_false (by first | omega | (simp; done) | (simp; omega)) ?_ | refine GD_true (by first | omega | (simp; done) | (simp; omega)) ?_ | refine GD_true' (by first | omega | (simp; done) | (simp; omega)) ?_ | refine GD_false (by first | omega | (simp; done) | (simp; omega)) ?_ | refine GD_false' (by first | omega | (simp; done) | (simp; omega)) ?_ | refine Sh.crN m ?_ | refine Sh.cr1 m ?_ | refine Sh.svI m (by first | omega | decide) (by first | omega | (simp; done) | (simp; omega)) fun q_ _ hp_ => ?_ | refine Sh.hvI m (by first | omega | decide) (by first | omega | (simp; done) | (simp; omega)) fun q_ _ hp_ => ?_ | refine Sh.svF m fun q_ _ hp_ => ?_ | refine Sh.hvF m fun q_ _ hp_ => ?_))
  refine CN_split (fun heven => ?_) (fun hodd => ?_)
  · rw [pushPk_even (by omega)] at heq
    (repeat (first | refine Sh.sv m ?_ | refine Sh.hv ?_ | (refine Sh.sw m ?_; clear m; intro g_ w m) | (refine Sh.su m ?_; clear m; intro w m) | (refine Sh.suN m ?_; clear m; intro w m) | (refine Sh.hr m ?_; clear m; intro m) | refine Sh.rsS m ?_ | refine Sh.hd m ?_ | refine Sh.rsK [] m ?_ | refine CN_tt ?_ | refine CN_ff ?_ | refine GD_tt ?_ | refine GD_ff ?_ | refine GD_tf ?_ | refine GD_ft ?_ | refine CN_true (by first | omega | (simp; done) | (simp; omega)) ?_ | refine CN_false (by first | omega | (simp; done) | (simp; omega)) ?_ | refine GD_true (by first | omega | (simp; done) | (simp; omega)) ?_ | refine GD_true' (by first | omega | (simp; done) | (simp; omega)) ?_ | refine GD_false (by first | omega | (simp; done) | (simp; omega)) ?_ | refine GD_false' (by first | omega | (simp; done) | (simp; omega)) ?_ | refine Sh.crN m ?_ | refine Sh.cr1 m ?_ | refine Sh.svI m (by first | omega | decide) (by first | omega | (simp; done) | (simp; omega)) fun q_ _ hp_ => ?_ | refine Sh.hvI m (by first | omega | decide) (by first | omega | (simp; done) | (simp; omega)) fun q_ _ hp_ => ?_ | refine Sh.svF m fun q_ _ hp_ => ?_ | refine Sh.hvF m fun q_ _ hp_ => ?_))
    refine lits eSum [y] m [ag y.cells] rfl rfl rfl (by simp) ?_; clear m; intro v5 w _ m
    refine ap m (by simp; omega) (by simp; unfold maxLen; omega) ?_; clear m; intro v6 w _ m
    (repeat (first | refine Sh.sv m ?_ | refine Sh.hv ?_ | (refine Sh.sw m ?_; clear m; intro g_ w m) | (refine Sh.su m ?_; clear m; intro w m) | (refine Sh.suN m ?_; clear m; intro w m) | (refine Sh.hr m ?_; clear m; intro m) | refine Sh.rsS m ?_ | refine Sh.hd m ?_ | refine Sh.rsK [] m ?_ | refine CN_tt ?_ | refine CN_ff ?_ | refine GD_tt ?_ | refine GD_ff ?_ | refine GD_tf ?_ | refine GD_ft ?_ | refine CN_true (by first | omega | (simp; done) | (simp; omega)) ?_ | refine CN_false (by first | omega | (simp; done) | (simp; omega)) ?_ | refine GD_true (by first | omega | (simp; done) | (simp; omega)) ?_ | refine GD_true' (by first | omega | (simp; done) | (simp; omega)) ?_ | refine GD_false (by first | omega | (simp; done) | (simp; omega)) ?_ | refine GD_false' (by first | omega | (simp; done) | (simp; omega)) ?_ | refine Sh.crN m ?_ | refine Sh.cr1 m ?_ | refine Sh.svI m (by first | omega | decide) (by first | omega | (simp; done) | (simp; omega)) fun q_ _ hp_ => ?_ | refine Sh.hvI m (by first | omega | decide) (by first | omega | (simp; done) | (simp; omega)) fun q_ _ hp_ => ?_ | refine Sh.svF m fun q_ _ hp_ => ?_ | refine Sh.hvF m fun q_ _ hp_ => ?_))
    have e : (l ++ [x]).length = l.length + 1 := by simp
    refine ⟨v6, by rw [show ((l.length : Int) + 1) = ((l.length + 1 : Nat) : Int) by omega], ?_⟩
    replace m := m.pub v6
    rw [heq, ← peaksOf_snoc] at m
    have m := m.shut (L := [bk g 190 [.int .i64 ((l.length : Int) + 1), v6], sl eSum v6 (peaksOf (l ++ [x]))]) (by repeat (first | exact Frm.nil | (with_reducible exact Rem.here) | apply Frm.cons | apply Rem.there))
    exact m.sub (X := [keysF, box [bk g 190 [.int .i64 ((l.length : Int) + 1), v6], sl eSum v6 (peaksOf (l ++ [x]))]]) (by repeat (first | exact Frm.nil | (with_reducible exact Rem.here) | apply Frm.cons | apply Rem.there)) |> fun h => by
      rw [show ((l.length : Int) + 1) = ((l ++ [x]).length : Int) by rw [e]; omega] at h
      exact h
  · have hk1 : k % 2 = 1 := by omega
    have hp1 : 0 < p.length := by rw [hpl, popc_odd hk1]; omega
    rw [pushPk_odd hk1] at heq
    (repeat (first | refine Sh.sv m ?_ | refine Sh.hv ?_ | (refine Sh.sw m ?_; clear m; intro g_ w m) | (refine Sh.su m ?_; clear m; intro w m) | (refine Sh.suN m ?_; clear m; intro w m) | (refine Sh.hr m ?_; clear m; intro m) | refine Sh.rsS m ?_ | refine Sh.hd m ?_ | refine Sh.rsK [] m ?_ | refine CN_tt ?_ | refine CN_ff ?_ | refine GD_tt ?_ | refine GD_ff ?_ | refine GD_tf ?_ | refine GD_ft ?_ | refine CN_true (by first | omega | (simp; done) | (simp; omega)) ?_ | refine CN_false (by first | omega | (simp; done) | (simp; omega)) ?_ | refine GD_true (by first | omega | (simp; done) | (simp; omega)) ?_ | refine GD_true' (by first | omega | (simp; done) | (simp; omega)) ?_ | refine GD_false (by first | omega | (simp; done) | (simp; omega)) ?_ | refine GD_false' (by first | omega | (simp; done) | (simp; omega)) ?_ | refine Sh.crN m ?_ | refine Sh.cr1 m ?_ | refine Sh.svI m (by first | omega | decide) (by first | omega | (simp; done) | (simp; omega)) fun q_ _ hp_ => ?_ | refine Sh.hvI m (by first | omega | decide) (by first | omega | (simp; done) | (simp; omega)) fun q_ _ hp_ => ?_ | refine Sh.svF m fun q_ _ hp_ => ?_ | refine Sh.hvF m fun q_ _ hp_ => ?_))
    have hi : ((p.length : Int) - 1).toNat = p.length - 1 := by omega
    refine n142 (m.ret (leaf_node _ y _ m.keys m.one_lt) ?_); clear m; intro w m
    (repeat (first | refine Sh.sv m ?_ | refine Sh.hv ?_ | (refine Sh.sw m ?_; clear m; intro g_ w m) | (refine Sh.su m ?_; clear m; intro w m) | (refine Sh.suN m ?_; clear m; intro w m) | (refine Sh.hr m ?_; clear m; intro m) | refine Sh.rsS m ?_ | refine Sh.hd m ?_ | refine Sh.rsK [] m ?_ | refine CN_tt ?_ | refine CN_ff ?_ | refine GD_tt ?_ | refine GD_ff ?_ | refine GD_tf ?_ | refine GD_ft ?_ | refine CN_true (by first | omega | (simp; done) | (simp; omega)) ?_ | refine CN_false (by first | omega | (simp; done) | (simp; omega)) ?_ | refine GD_true (by first | omega | (simp; done) | (simp; omega)) ?_ | refine GD_true' (by first | omega | (simp; done) | (simp; omega)) ?_ | refine GD_false (by first | omega | (simp; done) | (simp; omega)) ?_ | refine GD_false' (by first | omega | (simp; done) | (simp; omega)) ?_ | refine Sh.crN m ?_ | refine Sh.cr1 m ?_ | refine Sh.svI m (by first | omega | decide) (by first | omega | (simp; done) | (simp; omega)) fun q_ _ hp_ => ?_ | refine Sh.hvI m (by first | omega | decide) (by first | omega | (simp; done) | (simp; omega)) fun q_ _ hp_ => ?_ | refine Sh.svF m fun q_ _ hp_ => ?_ | refine Sh.hvF m fun q_ _ hp_ => ?_))
    refine owH m (by omega) (by omega) ?_; clear m; intro v6 _ m
    (repeat (first | refine Sh.sv m ?_ | refine Sh.hv ?_ | (refine Sh.sw m ?_; clear m; intro g_ w m) | (refine Sh.su m ?_; clear m; intro w m) | (refine Sh.suN m ?_; clear m; intro w m) | (refine Sh.hr m ?_; clear m; intro m) | refine Sh.rsS m ?_ | refine Sh.hd m ?_ | refine Sh.rsK [] m ?_ | refine CN_tt ?_ | refine CN_ff ?_ | refine GD_tt ?_ | refine GD_ff ?_ | refine GD_tf ?_ | refine GD_ft ?_ | refine CN_true (by first | omega | (simp; done) | (simp; omega)) ?_ | refine CN_false (by first | omega | (simp; done) | (simp; omega)) ?_ | refine GD_true (by first | omega | (simp; done) | (simp; omega)) ?_ | refine GD_true' (by first | omega | (simp; done) | (simp; omega)) ?_ | refine GD_false (by first | omega | (simp; done) | (simp; omega)) ?_ | refine GD_false' (by first | omega | (simp; done) | (simp; omega)) ?_ | refine Sh.crN m ?_ | refine Sh.cr1 m ?_ | refine Sh.svI m (by first | omega | decide) (by first | omega | (simp; done) | (simp; omega)) fun q_ _ hp_ => ?_ | refine Sh.hvI m (by first | omega | decide) (by first | omega | (simp; done) | (simp; omega)) fun q_ _ hp_ => ?_ | refine Sh.svF m fun q_ _ hp_ => ?_ | refine Sh.hvF m fun q_ _ hp_ => ?_))
    simp only [hi, take_pred] at m
    rw [← getLastD_eq (d := Sum.zero) hp1] at m
    have hdl : p.dropLast.length = p.length - 1 := List.length_dropLast
    refine ⟨⟨v6, k / 2, p.dropLast, _, by rw [show ((k : Int) / 2) = ((k / 2 : Nat) : Int) by omega], by omega, ?_, heq, m⟩, ?_⟩
    · rw [hdl, hpl, popc_odd hk1]; omega
    · show ((k : Int) / 2).toNat < (k : Int).toNat
      omega
end Go.Proofs.YtkdghnbogkbedaaGreatDoor

namespace Go.Proofs.YtkdghnbogkbedaaGreatDoor
open Go Go.Sh
set_option maxRecDepth 100000


theorem mixedXStringslite : Tryz.prog.follows .mixedOrders = true := by kernel_rfl

/-! ### 247: internal/stringslite.CutPrefix -/

def s247 (P : Program) (k : Value → World → Prop) (a0_s : Value) (a1_prefix : Value) (w : World) : Prop :=
  SN P (callFunc 248 #[a0_s, a1_prefix]) w fun t8 w =>
  SV P (Op.unary .not t8) w fun t9 w =>
  CN t9
  (k (.tuple #[a0_s, (Value.bool false)]) w)
  (SV P (Builtin.len_ #[9] 3 #[a1_prefix]) w fun t13 w =>
  SV P (Instr.sliceAt 9 a0_s (some t13) none none) w fun t14 w =>
  k (.tuple #[t14, (Value.bool true)]) w)

theorem e247 (k : Value → World → Prop) (a0_s a1_prefix : Value) (w : World) : s247 Tryz.prog k a0_s a1_prefix w = vcF Tryz.prog Tryz.f247 [] [a0_s, a1_prefix] k w := by kernel_rfl
theorem c247 {k : Value → World → Prop} {a0_s a1_prefix : Value} {w : World} (h : s247 Tryz.prog k a0_s a1_prefix w) : Calls Tryz.prog 247 #[a0_s, a1_prefix] w (retP k) :=
  calls_of_vcF [] mixedXStringslite Tryz.func247 (by kernel_rfl) (Eq.mp (e247 k a0_s a1_prefix w) h)
theorem n247 {args : Array Value} {w : World} {k : Value → World → Prop} (h : Calls Tryz.prog 247 args w (retP k)) : SN Tryz.prog (callFunc 247 args) w k := sn_call Tryz.func247 (by kernel_rfl) (by kernel_rfl) h

/-! ### 248: internal/stringslite.HasPrefix -/

def s248 (P : Program) (k : Value → World → Prop) (a0_s : Value) (a1_prefix : Value) (w : World) : Prop :=
  SV P (Builtin.len_ #[9] 3 #[a0_s]) w fun t6 w =>
  SV P (Builtin.len_ #[9] 3 #[a1_prefix]) w fun t8 w =>
  SV P (binOp .geq 3 t6 t8) w fun t9 w =>
  GD t9 true
  (SV P (Builtin.len_ #[9] 3 #[a1_prefix]) w fun t13 w =>
  SV P (Instr.sliceAt 9 a0_s none (some t13) none) w fun t14 w =>
  SV P (eqS .eql 9 (.tmp 14) (.tmp 15) t14 a1_prefix) w fun t16 w =>
  k t16 w)
  (k (Value.bool false) w)

theorem e248 (k : Value → World → Prop) (a0_s a1_prefix : Value) (w : World) : s248 Tryz.prog k a0_s a1_prefix w = vcF Tryz.prog Tryz.f248 [] [a0_s, a1_prefix] k w := by kernel_rfl
theorem c248 {k : Value → World → Prop} {a0_s a1_prefix : Value} {w : World} (h : s248 Tryz.prog k a0_s a1_prefix w) : Calls Tryz.prog 248 #[a0_s, a1_prefix] w (retP k) :=
  calls_of_vcF [] mixedXStringslite Tryz.func248 (by kernel_rfl) (Eq.mp (e248 k a0_s a1_prefix w) h)
theorem n248 {args : Array Value} {w : World} {k : Value → World → Prop} (h : Calls Tryz.prog 248 args w (retP k)) : SN Tryz.prog (callFunc 248 args) w k := sn_call Tryz.func248 (by kernel_rfl) (by kernel_rfl) h

end Go.Proofs.YtkdghnbogkbedaaGreatDoor

namespace Go.Proofs.YtkdghnbogkbedaaGreatDoor
open Go Go.Sh
set_option maxRecDepth 100000


theorem mixedXImage : Tryz.prog.follows .mixedOrders = true := by kernel_rfl

/-! ### 31: scrinium/image.Diff -/

def s31_l1 (P : Program) (k : Value → World → Prop) (out5 : Value) (old0 : Value) (now1 : Value) (next : List Value → World → Prop) (w : World) : Prop :=
  SV P (Builtin.len_ #[52] 3 #[old0]) w fun t7 w =>
  SV P (binOp .gtr 3 t7 (Value.int .i64 0)) w fun t8 w =>
  GD t8 false
  (SV P (Builtin.len_ #[52] 3 #[now1]) w fun t11 w =>
  SV P (binOp .gtr 3 t11 (Value.int .i64 0)) w fun t12 w =>
  CN t12
  (HR w fun C w =>
  HV P C (Builtin.len_ #[52] 3 #[now1]) fun t15 =>
  HV P C (eqS .eql 3 (.tmp 15) (.const (Value.int .i64 0)) t15 (Value.int .i64 0)) fun t16 =>
  GD t16 false
  (HV P C (Builtin.len_ #[52] 3 #[old0]) fun t19 =>
  HV P C (binOp .gtr 3 t19 (Value.int .i64 0)) fun t20 =>
  GD t20 true
  (HV P C (Instr.indexAt 52 old0 (Value.int .i64 0)) fun t23 =>
  HV P C (Instr.fieldAt 55 t23 0) fun t24 =>
  HV P C (Instr.loadAt 9 t24) fun t25 =>
  HV P C (Instr.indexAt 52 now1 (Value.int .i64 0)) fun t27 =>
  HV P C (Instr.fieldAt 55 t27 0) fun t28 =>
  HV P C (Instr.loadAt 9 t28) fun t29 =>
  HV P C (binOp .lss 9 t25 t29) fun t30 =>
  CN t30
  (HR w fun C w =>
  HV P C (Instr.indexAt 52 old0 (Value.int .i64 0)) fun t35 =>
  HV P C (Instr.fieldAt 55 t35 0) fun t36 =>
  HV P C (Instr.loadAt 9 t36) fun t37 =>
  HV P C (Instr.indexAt 52 old0 (Value.int .i64 0)) fun t39 =>
  HV P C (Instr.fieldAt 55 t39 1) fun t40 =>
  HV P C (Instr.loadAt 9 t40) fun t41 =>
  SN P (callFunc 96 #[t37, t41, (str []), (Value.bool true), (Value.bool false)]) w fun t42 w =>
  RS C w fun C =>
  SV P (Builtin.append_ #[57, 57] 57 #[out5, t42]) w fun t43 w =>
  RS C w fun _ =>
  SV P (Instr.sliceAt 52 old0 (some (Value.int .i64 1)) none none) w fun t45 w =>
  next [t43, t45, now1] w)
  (HR w fun C w =>
  HV P C (Builtin.len_ #[52] 3 #[old0]) fun t47 =>
  HV P C (eqS .eql 3 (.tmp 47) (.const (Value.int .i64 0)) t47 (Value.int .i64 0)) fun t48 =>
  GD t48 false
  (HV P C (Instr.indexAt 52 now1 (Value.int .i64 0)) fun t51 =>
  HV P C (Instr.fieldAt 55 t51 0) fun t52 =>
  HV P C (Instr.loadAt 9 t52) fun t53 =>
  HV P C (Instr.indexAt 52 old0 (Value.int .i64 0)) fun t55 =>
  HV P C (Instr.fieldAt 55 t55 0) fun t56 =>
  HV P C (Instr.loadAt 9 t56) fun t57 =>
  HV P C (binOp .lss 9 t53 t57) fun t58 =>
  CN t58
  (HR w fun C w =>
  HV P C (Instr.indexAt 52 now1 (Value.int .i64 0)) fun t62 =>
  HV P C (Instr.fieldAt 55 t62 0) fun t63 =>
  HV P C (Instr.loadAt 9 t63) fun t64 =>
  HV P C (Instr.indexAt 52 now1 (Value.int .i64 0)) fun t66 =>
  HV P C (Instr.fieldAt 55 t66 1) fun t67 =>
  HV P C (Instr.loadAt 9 t67) fun t68 =>
  SN P (callFunc 96 #[t64, (str []), t68, (Value.bool false), (Value.bool true)]) w fun t69 w =>
  RS C w fun C =>
  SV P (Builtin.append_ #[57, 57] 57 #[out5, t69]) w fun t70 w =>
  RS C w fun _ =>
  SV P (Instr.sliceAt 52 now1 (some (Value.int .i64 1)) none none) w fun t72 w =>
  next [t70, old0, t72] w)
  (HR w fun C w =>
  HV P C (Instr.indexAt 52 now1 (Value.int .i64 0)) fun t75 =>
  HV P C (Instr.fieldAt 55 t75 0) fun t76 =>
  HV P C (Instr.loadAt 9 t76) fun t77 =>
  HV P C (Instr.indexAt 52 old0 (Value.int .i64 0)) fun t79 =>
  HV P C (Instr.fieldAt 55 t79 1) fun t80 =>
  HV P C (Instr.loadAt 9 t80) fun t81 =>
  HV P C (Instr.indexAt 52 now1 (Value.int .i64 0)) fun t83 =>
  HV P C (Instr.fieldAt 55 t83 1) fun t84 =>
  HV P C (Instr.loadAt 9 t84) fun t85 =>
  SN P (callFunc 96 #[t77, t81, t85, (Value.bool true), (Value.bool true)]) w fun t86 w =>
  RS C w fun C =>
  SV P (Builtin.append_ #[57, 57] 57 #[out5, t86]) w fun t87 w =>
  RS C w fun C =>
  HR w fun C w =>
  HV P C (Instr.sliceAt 52 old0 (some (Value.int .i64 1)) none none) fun t89 =>
  HV P C (Instr.sliceAt 52 now1 (some (Value.int .i64 1)) none none) fun t91 =>
  next [t87, t89, t91] w))
  (HR w fun C w =>
  HV P C (Instr.indexAt 52 now1 (Value.int .i64 0)) fun t62 =>
  HV P C (Instr.fieldAt 55 t62 0) fun t63 =>
  HV P C (Instr.loadAt 9 t63) fun t64 =>
  HV P C (Instr.indexAt 52 now1 (Value.int .i64 0)) fun t66 =>
  HV P C (Instr.fieldAt 55 t66 1) fun t67 =>
  HV P C (Instr.loadAt 9 t67) fun t68 =>
  SN P (callFunc 96 #[t64, (str []), t68, (Value.bool false), (Value.bool true)]) w fun t69 w =>
  RS C w fun C =>
  SV P (Builtin.append_ #[57, 57] 57 #[out5, t69]) w fun t70 w =>
  RS C w fun _ =>
  SV P (Instr.sliceAt 52 now1 (some (Value.int .i64 1)) none none) w fun t72 w =>
  next [t70, old0, t72] w)))
  (HR w fun C w =>
  HV P C (Builtin.len_ #[52] 3 #[old0]) fun t47 =>
  HV P C (eqS .eql 3 (.tmp 47) (.const (Value.int .i64 0)) t47 (Value.int .i64 0)) fun t48 =>
  GD t48 false
  (HV P C (Instr.indexAt 52 now1 (Value.int .i64 0)) fun t51 =>
  HV P C (Instr.fieldAt 55 t51 0) fun t52 =>
  HV P C (Instr.loadAt 9 t52) fun t53 =>
  HV P C (Instr.indexAt 52 old0 (Value.int .i64 0)) fun t55 =>
  HV P C (Instr.fieldAt 55 t55 0) fun t56 =>
  HV P C (Instr.loadAt 9 t56) fun t57 =>
  HV P C (binOp .lss 9 t53 t57) fun t58 =>
  CN t58
  (HR w fun C w =>
  HV P C (Instr.indexAt 52 now1 (Value.int .i64 0)) fun t62 =>
  HV P C (Instr.fieldAt 55 t62 0) fun t63 =>
  HV P C (Instr.loadAt 9 t63) fun t64 =>
  HV P C (Instr.indexAt 52 now1 (Value.int .i64 0)) fun t66 =>
  HV P C (Instr.fieldAt 55 t66 1) fun t67 =>
  HV P C (Instr.loadAt 9 t67) fun t68 =>
  SN P (callFunc 96 #[t64, (str []), t68, (Value.bool false), (Value.bool true)]) w fun t69 w =>
  RS C w fun C =>
  SV P (Builtin.append_ #[57, 57] 57 #[out5, t69]) w fun t70 w =>
  RS C w fun _ =>
  SV P (Instr.sliceAt 52 now1 (some (Value.int .i64 1)) none none) w fun t72 w =>
  next [t70, old0, t72] w)
  (HR w fun C w =>
  HV P C (Instr.indexAt 52 now1 (Value.int .i64 0)) fun t75 =>
  HV P C (Instr.fieldAt 55 t75 0) fun t76 =>
  HV P C (Instr.loadAt 9 t76) fun t77 =>
  HV P C (Instr.indexAt 52 old0 (Value.int .i64 0)) fun t79 =>
  HV P C (Instr.fieldAt 55 t79 1) fun t80 =>
  HV P C (Instr.loadAt 9 t80) fun t81 =>
  HV P C (Instr.indexAt 52 now1 (Value.int .i64 0)) fun t83 =>
  HV P C (Instr.fieldAt 55 t83 1) fun t84 =>
  HV P C (Instr.loadAt 9 t84) fun t85 =>
  SN P (callFunc 96 #[t77, t81, t85, (Value.bool true), (Value.bool true)]) w fun t86 w =>
  RS C w fun C =>
  SV P (Builtin.append_ #[57, 57] 57 #[out5, t86]) w fun t87 w =>
  RS C w fun C =>
  HR w fun C w =>
  HV P C (Instr.sliceAt 52 old0 (some (Value.int .i64 1)) none none) fun t89 =>
  HV P C (Instr.sliceAt 52 now1 (some (Value.int .i64 1)) none none) fun t91 =>
  next [t87, t89, t91] w))
  (HR w fun C w =>
  HV P C (Instr.indexAt 52 now1 (Value.int .i64 0)) fun t62 =>
  HV P C (Instr.fieldAt 55 t62 0) fun t63 =>
  HV P C (Instr.loadAt 9 t63) fun t64 =>
  HV P C (Instr.indexAt 52 now1 (Value.int .i64 0)) fun t66 =>
  HV P C (Instr.fieldAt 55 t66 1) fun t67 =>
  HV P C (Instr.loadAt 9 t67) fun t68 =>
  SN P (callFunc 96 #[t64, (str []), t68, (Value.bool false), (Value.bool true)]) w fun t69 w =>
  RS C w fun C =>
  SV P (Builtin.append_ #[57, 57] 57 #[out5, t69]) w fun t70 w =>
  RS C w fun _ =>
  SV P (Instr.sliceAt 52 now1 (some (Value.int .i64 1)) none none) w fun t72 w =>
  next [t70, old0, t72] w)))
  (HR w fun C w =>
  HV P C (Instr.indexAt 52 old0 (Value.int .i64 0)) fun t35 =>
  HV P C (Instr.fieldAt 55 t35 0) fun t36 =>
  HV P C (Instr.loadAt 9 t36) fun t37 =>
  HV P C (Instr.indexAt 52 old0 (Value.int .i64 0)) fun t39 =>
  HV P C (Instr.fieldAt 55 t39 1) fun t40 =>
  HV P C (Instr.loadAt 9 t40) fun t41 =>
  SN P (callFunc 96 #[t37, t41, (str []), (Value.bool true), (Value.bool false)]) w fun t42 w =>
  RS C w fun C =>
  SV P (Builtin.append_ #[57, 57] 57 #[out5, t42]) w fun t43 w =>
  RS C w fun _ =>
  SV P (Instr.sliceAt 52 old0 (some (Value.int .i64 1)) none none) w fun t45 w =>
  next [t43, t45, now1] w))
  (k out5 w))
  (HR w fun C w =>
  HV P C (Builtin.len_ #[52] 3 #[now1]) fun t15 =>
  HV P C (eqS .eql 3 (.tmp 15) (.const (Value.int .i64 0)) t15 (Value.int .i64 0)) fun t16 =>
  GD t16 false
  (HV P C (Builtin.len_ #[52] 3 #[old0]) fun t19 =>
  HV P C (binOp .gtr 3 t19 (Value.int .i64 0)) fun t20 =>
  GD t20 true
  (HV P C (Instr.indexAt 52 old0 (Value.int .i64 0)) fun t23 =>
  HV P C (Instr.fieldAt 55 t23 0) fun t24 =>
  HV P C (Instr.loadAt 9 t24) fun t25 =>
  HV P C (Instr.indexAt 52 now1 (Value.int .i64 0)) fun t27 =>
  HV P C (Instr.fieldAt 55 t27 0) fun t28 =>
  HV P C (Instr.loadAt 9 t28) fun t29 =>
  HV P C (binOp .lss 9 t25 t29) fun t30 =>
  CN t30
  (HR w fun C w =>
  HV P C (Instr.indexAt 52 old0 (Value.int .i64 0)) fun t35 =>
  HV P C (Instr.fieldAt 55 t35 0) fun t36 =>
  HV P C (Instr.loadAt 9 t36) fun t37 =>
  HV P C (Instr.indexAt 52 old0 (Value.int .i64 0)) fun t39 =>
  HV P C (Instr.fieldAt 55 t39 1) fun t40 =>
  HV P C (Instr.loadAt 9 t40) fun t41 =>
  SN P (callFunc 96 #[t37, t41, (str []), (Value.bool true), (Value.bool false)]) w fun t42 w =>
  RS C w fun C =>
  SV P (Builtin.append_ #[57, 57] 57 #[out5, t42]) w fun t43 w =>
  RS C w fun _ =>
  SV P (Instr.sliceAt 52 old0 (some (Value.int .i64 1)) none none) w fun t45 w =>
  next [t43, t45, now1] w)
  (HR w fun C w =>
  HV P C (Builtin.len_ #[52] 3 #[old0]) fun t47 =>
  HV P C (eqS .eql 3 (.tmp 47) (.const (Value.int .i64 0)) t47 (Value.int .i64 0)) fun t48 =>
  GD t48 false
  (HV P C (Instr.indexAt 52 now1 (Value.int .i64 0)) fun t51 =>
  HV P C (Instr.fieldAt 55 t51 0) fun t52 =>
  HV P C (Instr.loadAt 9 t52) fun t53 =>
  HV P C (Instr.indexAt 52 old0 (Value.int .i64 0)) fun t55 =>
  HV P C (Instr.fieldAt 55 t55 0) fun t56 =>
  HV P C (Instr.loadAt 9 t56) fun t57 =>
  HV P C (binOp .lss 9 t53 t57) fun t58 =>
  CN t58
  (HR w fun C w =>
  HV P C (Instr.indexAt 52 now1 (Value.int .i64 0)) fun t62 =>
  HV P C (Instr.fieldAt 55 t62 0) fun t63 =>
  HV P C (Instr.loadAt 9 t63) fun t64 =>
  HV P C (Instr.indexAt 52 now1 (Value.int .i64 0)) fun t66 =>
  HV P C (Instr.fieldAt 55 t66 1) fun t67 =>
  HV P C (Instr.loadAt 9 t67) fun t68 =>
  SN P (callFunc 96 #[t64, (str []), t68, (Value.bool false), (Value.bool true)]) w fun t69 w =>
  RS C w fun C =>
  SV P (Builtin.append_ #[57, 57] 57 #[out5, t69]) w fun t70 w =>
  RS C w fun _ =>
  SV P (Instr.sliceAt 52 now1 (some (Value.int .i64 1)) none none) w fun t72 w =>
  next [t70, old0, t72] w)
  (HR w fun C w =>
  HV P C (Instr.indexAt 52 now1 (Value.int .i64 0)) fun t75 =>
  HV P C (Instr.fieldAt 55 t75 0) fun t76 =>
  HV P C (Instr.loadAt 9 t76) fun t77 =>
  HV P C (Instr.indexAt 52 old0 (Value.int .i64 0)) fun t79 =>
  HV P C (Instr.fieldAt 55 t79 1) fun t80 =>
  HV P C (Instr.loadAt 9 t80) fun t81 =>
  HV P C (Instr.indexAt 52 now1 (Value.int .i64 0)) fun t83 =>
  HV P C (Instr.fieldAt 55 t83 1) fun t84 =>
  HV P C (Instr.loadAt 9 t84) fun t85 =>
  SN P (callFunc 96 #[t77, t81, t85, (Value.bool true), (Value.bool true)]) w fun t86 w =>
  RS C w fun C =>
  SV P (Builtin.append_ #[57, 57] 57 #[out5, t86]) w fun t87 w =>
  RS C w fun C =>
  HR w fun C w =>
  HV P C (Instr.sliceAt 52 old0 (some (Value.int .i64 1)) none none) fun t89 =>
  HV P C (Instr.sliceAt 52 now1 (some (Value.int .i64 1)) none none) fun t91 =>
  next [t87, t89, t91] w))
  (HR w fun C w =>
  HV P C (Instr.indexAt 52 now1 (Value.int .i64 0)) fun t62 =>
  HV P C (Instr.fieldAt 55 t62 0) fun t63 =>
  HV P C (Instr.loadAt 9 t63) fun t64 =>
  HV P C (Instr.indexAt 52 now1 (Value.int .i64 0)) fun t66 =>
  HV P C (Instr.fieldAt 55 t66 1) fun t67 =>
  HV P C (Instr.loadAt 9 t67) fun t68 =>
  SN P (callFunc 96 #[t64, (str []), t68, (Value.bool false), (Value.bool true)]) w fun t69 w =>
  RS C w fun C =>
  SV P (Builtin.append_ #[57, 57] 57 #[out5, t69]) w fun t70 w =>
  RS C w fun _ =>
  SV P (Instr.sliceAt 52 now1 (some (Value.int .i64 1)) none none) w fun t72 w =>
  next [t70, old0, t72] w)))
  (HR w fun C w =>
  HV P C (Builtin.len_ #[52] 3 #[old0]) fun t47 =>
  HV P C (eqS .eql 3 (.tmp 47) (.const (Value.int .i64 0)) t47 (Value.int .i64 0)) fun t48 =>
  GD t48 false
  (HV P C (Instr.indexAt 52 now1 (Value.int .i64 0)) fun t51 =>
  HV P C (Instr.fieldAt 55 t51 0) fun t52 =>
  HV P C (Instr.loadAt 9 t52) fun t53 =>
  HV P C (Instr.indexAt 52 old0 (Value.int .i64 0)) fun t55 =>
  HV P C (Instr.fieldAt 55 t55 0) fun t56 =>
  HV P C (Instr.loadAt 9 t56) fun t57 =>
  HV P C (binOp .lss 9 t53 t57) fun t58 =>
  CN t58
  (HR w fun C w =>
  HV P C (Instr.indexAt 52 now1 (Value.int .i64 0)) fun t62 =>
  HV P C (Instr.fieldAt 55 t62 0) fun t63 =>
  HV P C (Instr.loadAt 9 t63) fun t64 =>
  HV P C (Instr.indexAt 52 now1 (Value.int .i64 0)) fun t66 =>
  HV P C (Instr.fieldAt 55 t66 1) fun t67 =>
  HV P C (Instr.loadAt 9 t67) fun t68 =>
  SN P (callFunc 96 #[t64, (str []), t68, (Value.bool false), (Value.bool true)]) w fun t69 w =>
  RS C w fun C =>
  SV P (Builtin.append_ #[57, 57] 57 #[out5, t69]) w fun t70 w =>
  RS C w fun _ =>
  SV P (Instr.sliceAt 52 now1 (some (Value.int .i64 1)) none none) w fun t72 w =>
  next [t70, old0, t72] w)
  (HR w fun C w =>
  HV P C (Instr.indexAt 52 now1 (Value.int .i64 0)) fun t75 =>
  HV P C (Instr.fieldAt 55 t75 0) fun t76 =>
  HV P C (Instr.loadAt 9 t76) fun t77 =>
  HV P C (Instr.indexAt 52 old0 (Value.int .i64 0)) fun t79 =>
  HV P C (Instr.fieldAt 55 t79 1) fun t80 =>
  HV P C (Instr.loadAt 9 t80) fun t81 =>
  HV P C (Instr.indexAt 52 now1 (Value.int .i64 0)) fun t83 =>
  HV P C (Instr.fieldAt 55 t83 1) fun t84 =>
  HV P C (Instr.loadAt 9 t84) fun t85 =>
  SN P (callFunc 96 #[t77, t81, t85, (Value.bool true), (Value.bool true)]) w fun t86 w =>
  RS C w fun C =>
  SV P (Builtin.append_ #[57, 57] 57 #[out5, t86]) w fun t87 w =>
  RS C w fun C =>
  HR w fun C w =>
  HV P C (Instr.sliceAt 52 old0 (some (Value.int .i64 1)) none none) fun t89 =>
  HV P C (Instr.sliceAt 52 now1 (some (Value.int .i64 1)) none none) fun t91 =>
  next [t87, t89, t91] w))
  (HR w fun C w =>
  HV P C (Instr.indexAt 52 now1 (Value.int .i64 0)) fun t62 =>
  HV P C (Instr.fieldAt 55 t62 0) fun t63 =>
  HV P C (Instr.loadAt 9 t63) fun t64 =>
  HV P C (Instr.indexAt 52 now1 (Value.int .i64 0)) fun t66 =>
  HV P C (Instr.fieldAt 55 t66 1) fun t67 =>
  HV P C (Instr.loadAt 9 t67) fun t68 =>
  SN P (callFunc 96 #[t64, (str []), t68, (Value.bool false), (Value.bool true)]) w fun t69 w =>
  RS C w fun C =>
  SV P (Builtin.append_ #[57, 57] 57 #[out5, t69]) w fun t70 w =>
  RS C w fun _ =>
  SV P (Instr.sliceAt 52 now1 (some (Value.int .i64 1)) none none) w fun t72 w =>
  next [t70, old0, t72] w)))
  (HR w fun C w =>
  HV P C (Instr.indexAt 52 old0 (Value.int .i64 0)) fun t35 =>
  HV P C (Instr.fieldAt 55 t35 0) fun t36 =>
  HV P C (Instr.loadAt 9 t36) fun t37 =>
  HV P C (Instr.indexAt 52 old0 (Value.int .i64 0)) fun t39 =>
  HV P C (Instr.fieldAt 55 t39 1) fun t40 =>
  HV P C (Instr.loadAt 9 t40) fun t41 =>
  SN P (callFunc 96 #[t37, t41, (str []), (Value.bool true), (Value.bool false)]) w fun t42 w =>
  RS C w fun C =>
  SV P (Builtin.append_ #[57, 57] 57 #[out5, t42]) w fun t43 w =>
  RS C w fun _ =>
  SV P (Instr.sliceAt 52 old0 (some (Value.int .i64 1)) none none) w fun t45 w =>
  next [t43, t45, now1] w))

def s31 (P : Program) (k : Value → World → Prop) (a0_old : Value) (a1_now : Value) (w : World) : Prop :=
  LP 3 [(Value.slice none 0 0), a0_old, a1_now] w (fun next _ us w => s31_l1 P k (us.getD 0 undef) (us.getD 1 undef) (us.getD 2 undef) next w)

theorem e31 (k : Value → World → Prop) (a0_old a1_now : Value) (w : World) : s31 Tryz.prog k a0_old a1_now w = vcF Tryz.prog Tryz.f31 [0, 1, 5] [a0_old, a1_now] k w := by kernel_rfl
theorem c31 {k : Value → World → Prop} {a0_old a1_now : Value} {w : World} (h : s31 Tryz.prog k a0_old a1_now w) : Calls Tryz.prog 31 #[a0_old, a1_now] w (retP k) :=
  calls_of_vcF [0, 1, 5] mixedXImage Tryz.func31 (by kernel_rfl) (Eq.mp (e31 k a0_old a1_now w) h)
theorem n31 {args : Array Value} {w : World} {k : Value → World → Prop} (h : Calls Tryz.prog 31 args w (retP k)) : SN Tryz.prog (callFunc 31 args) w k := sn_call Tryz.func31 (by kernel_rfl) (by kernel_rfl) h

/-! ### 93: scrinium/image.Files -/

def s93_l1 (P : Program) (_ : Value → World → Prop) (out3 : Value) (t18 : Value) (j : List Value → World → Prop) (t22 : Value) (b6 : Value) (t24 : Value) (t25 : Value) (t26_1 : Value) (next_1 : List Value → World → Prop) (w : World) : Prop :=
  SV P (binOp .lss 3 t26_1 t25) w fun t27 w =>
  CN t27
  (SV P (Instr.indexAt 24 t24 t26_1) w fun t28 w =>
  SV P (Instr.loadAt 29 t28) w fun t29 w =>
  SV P (Instr.alloc 29 true (.tuple #[])) w fun h8 w =>
  SU P (Instr.storeAt 29 h8 t29) w fun w =>
  SV P (Instr.loadAt 29 h8) w fun t30 w =>
  SN P (callFunc 163 #[t30]) w fun t31 w =>
  SN P (callFunc 162 #[b6, t31]) w fun _ w =>
  SV P (binOp .add 3 t26_1 (Value.int .i64 1)) w fun t33 w =>
  next_1 [t33] w)
  (SN P (callFunc 164 #[(str [108]), t18]) w fun t36 w =>
  SN P (callFunc 165 #[b6]) w fun t37 w =>
  SV P (Instr.build 55 #[(0, t36), (1, t37)]) w fun t38 w =>
  SV P (Instr.buildSlice 52 1 #[(0, t38)]) w fun t39 w =>
  SV P (Builtin.append_ #[52, 52] 52 #[out3, t39]) w fun t40 w =>
  SN P (callFunc 52 #[t22]) w fun t42 w =>
  SV P (binOp .gtr 3 t42 (Value.int .i64 0)) w fun t43 w =>
  CN t43
  (SN P (callFunc 164 #[(str [112]), t18]) w fun t46 w =>
  SN P (callFunc 62 #[t22]) w fun t48 w =>
  SN P (callFunc 166 #[t48]) w fun t49 w =>
  SV P (Instr.build 55 #[(0, t46), (1, t49)]) w fun t50 w =>
  SV P (Instr.buildSlice 52 1 #[(0, t50)]) w fun t51 w =>
  SV P (Builtin.append_ #[52, 52] 52 #[t40, t51]) w fun t52 w =>
  j [t26_1, t52] w)
  (j [t26_1, t40] w))

def s93_j1 (P : Program) (_ : Value → World → Prop) (t18 : Value) (next : List Value → World → Prop) (t26_1 : Value) (out3_1 : Value) (w : World) : Prop :=
  SV P (binOp .add 3 t18 (Value.int .i64 1)) w fun t53 w =>
  next [t26_1, out3_1, t53] w

def s93_l2 (P : Program) (k : Value → World → Prop) (t16 : Value) (t17 : Value) (out3 : Value) (t18 : Value) (next : List Value → World → Prop) (w : World) : Prop :=
  SV P (binOp .lss 3 t18 t17) w fun t19 w =>
  CN t19
  (JP 2 (fun j =>
  SV P (Instr.indexAt 95 t16 t18) w fun t21 w =>
  SV P (Instr.loadAt 97 t21) w fun t22 w =>
  SV P (Instr.alloc 217 true (.tuple #[])) w fun b6 w =>
  SN P (callFunc 46 #[t22]) w fun t24 w =>
  SV P (Builtin.len_ #[24] 3 #[t24]) w fun t25 w =>
  LP 1 [(Value.int .i64 0)] w (fun next_1 _ us w => s93_l1 P k out3 t18 j t22 b6 t24 t25 (us.getD 0 undef) next_1 w))
  (fun _ us w => s93_j1 P k t18 next (us.getD 0 undef) (us.getD 1 undef) w))
  (SN P (callFunc 167 #[out3, (Value.func (.func 168) #[] #[])]) w fun _ w =>
  k out3 w)

def s93 (P : Program) (k : Value → World → Prop) (a0_v : Value) (w : World) : Prop :=
  SV P (eqS .eql 70 (.tmp 9) (.const (Value.pointer none)) a0_v (Value.pointer none)) w fun t10 w =>
  CN t10
  (k (Value.slice none 0 0) w)
  (SN P (callFunc 161 #[a0_v]) w fun t12 w =>
  SV P (Instr.build 55 #[(0, (str [109, 101, 116, 97])), (1, t12)]) w fun t13 w =>
  SV P (Instr.buildSlice 52 1 #[(0, t13)]) w fun t14 w =>
  SN P (callFunc 45 #[a0_v]) w fun t16 w =>
  SV P (Builtin.len_ #[95] 3 #[t16]) w fun t17 w =>
  LP 3 [undef, t14, (Value.int .i64 0)] w (fun next _ us w => s93_l2 P k t16 t17 (us.getD 1 undef) (us.getD 2 undef) next w))

theorem e93 (k : Value → World → Prop) (a0_v : Value) (w : World) : s93 Tryz.prog k a0_v w = vcF Tryz.prog Tryz.f93 [3, 18, 26] [a0_v] k w := by kernel_rfl
theorem c93 {k : Value → World → Prop} {a0_v : Value} {w : World} (h : s93 Tryz.prog k a0_v w) : Calls Tryz.prog 93 #[a0_v] w (retP k) :=
  calls_of_vcF [3, 18, 26] mixedXImage Tryz.func93 (by kernel_rfl) (Eq.mp (e93 k a0_v w) h)
theorem n93 {args : Array Value} {w : World} {k : Value → World → Prop} (h : Calls Tryz.prog 93 args w (retP k)) : SN Tryz.prog (callFunc 93 args) w k := sn_call Tryz.func93 (by kernel_rfl) (by kernel_rfl) h

/-! ### 96: scrinium/image.change -/

def s96_j1 (_ : Program) (k : Value → World → Prop) (out11_1 : Value) (w : World) : Prop :=
  k out11_1 w

def s96_j2 (P : Program) (k : Value → World → Prop) (a0_name : Value) (a1_a : Value) (a2_b : Value) (a4_is : Value) (out11 : Value) (w : World) : Prop :=
  SN P (callFunc 170 #[a2_b, a1_a]) w fun t24 w =>
  SV P (Instr.extract t24 0) w fun t25 w =>
  SV P (Instr.extract t24 1) w fun t26 w =>
  JP 1 (fun j =>
  SV P (Op.unary .not a4_is) w fun t35 w =>
  GD t35 true
  (SV P (eqS .eql 9 (.tmp 37) (.const (str [])) a1_a (str [])) w fun t38 w =>
  CN t38
  (SV P (Instr.build 150 #[(0, (Value.int .i64 4)), (1, a0_name)]) w fun t42 w =>
  SV P (Instr.buildSlice 57 1 #[(0, t42)]) w fun t43 w =>
  SV P (Builtin.append_ #[57, 57] 57 #[out11, t43]) w fun t44 w =>
  j [t44] w)
  (SV P (Op.unary .not a4_is) w fun t47 w =>
  CN t47
  (SV P (Instr.build 150 #[(0, (Value.int .i64 3)), (1, a0_name)]) w fun t50 w =>
  SV P (Instr.build 150 #[(0, (Value.int .i64 4)), (1, a0_name)]) w fun t52 w =>
  SV P (Instr.buildSlice 57 2 #[(0, t50), (1, t52)]) w fun t53 w =>
  SV P (Builtin.append_ #[57, 57] 57 #[out11, t53]) w fun t54 w =>
  j [t54] w)
  (GD t26 true
  (SV P (eqS .eql 9 (.tmp 58) (.const (str [])) t25 (str [])) w fun t59 w =>
  CN t59
  (j [out11] w)
  (CN t26
  (SV P (Instr.build 150 #[(0, (Value.int .i64 2)), (1, a0_name), (2, t25)]) w fun t66 w =>
  SV P (Instr.buildSlice 57 1 #[(0, t66)]) w fun t67 w =>
  SV P (Builtin.append_ #[57, 57] 57 #[out11, t67]) w fun t68 w =>
  j [t68] w)
  (SN P (callFunc 171 #[a1_a, a2_b]) w fun t72 w =>
  CN t72
  (SV P (Builtin.len_ #[9] 3 #[a2_b]) w fun t76 w =>
  SV P (Instr.build 150 #[(0, (Value.int .i64 3)), (1, a0_name), (3, t76)]) w fun t77 w =>
  SV P (Instr.buildSlice 57 1 #[(0, t77)]) w fun t78 w =>
  SV P (Builtin.append_ #[57, 57] 57 #[out11, t78]) w fun t79 w =>
  j [t79] w)
  (SV P (Instr.build 150 #[(0, (Value.int .i64 5)), (1, a0_name), (2, a2_b)]) w fun t30 w =>
  SV P (Instr.buildSlice 57 1 #[(0, t30)]) w fun t31 w =>
  SV P (Builtin.append_ #[57, 57] 57 #[out11, t31]) w fun t32 w =>
  j [t32] w))))
  (CN t26
  (SV P (Instr.build 150 #[(0, (Value.int .i64 2)), (1, a0_name), (2, t25)]) w fun t66 w =>
  SV P (Instr.buildSlice 57 1 #[(0, t66)]) w fun t67 w =>
  SV P (Builtin.append_ #[57, 57] 57 #[out11, t67]) w fun t68 w =>
  j [t68] w)
  (SN P (callFunc 171 #[a1_a, a2_b]) w fun t72 w =>
  CN t72
  (SV P (Builtin.len_ #[9] 3 #[a2_b]) w fun t76 w =>
  SV P (Instr.build 150 #[(0, (Value.int .i64 3)), (1, a0_name), (3, t76)]) w fun t77 w =>
  SV P (Instr.buildSlice 57 1 #[(0, t77)]) w fun t78 w =>
  SV P (Builtin.append_ #[57, 57] 57 #[out11, t78]) w fun t79 w =>
  j [t79] w)
  (SV P (Instr.build 150 #[(0, (Value.int .i64 5)), (1, a0_name), (2, a2_b)]) w fun t30 w =>
  SV P (Instr.buildSlice 57 1 #[(0, t30)]) w fun t31 w =>
  SV P (Builtin.append_ #[57, 57] 57 #[out11, t31]) w fun t32 w =>
  j [t32] w))))))
  (SV P (Op.unary .not a4_is) w fun t47 w =>
  CN t47
  (SV P (Instr.build 150 #[(0, (Value.int .i64 3)), (1, a0_name)]) w fun t50 w =>
  SV P (Instr.build 150 #[(0, (Value.int .i64 4)), (1, a0_name)]) w fun t52 w =>
  SV P (Instr.buildSlice 57 2 #[(0, t50), (1, t52)]) w fun t53 w =>
  SV P (Builtin.append_ #[57, 57] 57 #[out11, t53]) w fun t54 w =>
  j [t54] w)
  (GD t26 true
  (SV P (eqS .eql 9 (.tmp 58) (.const (str [])) t25 (str [])) w fun t59 w =>
  CN t59
  (j [out11] w)
  (CN t26
  (SV P (Instr.build 150 #[(0, (Value.int .i64 2)), (1, a0_name), (2, t25)]) w fun t66 w =>
  SV P (Instr.buildSlice 57 1 #[(0, t66)]) w fun t67 w =>
  SV P (Builtin.append_ #[57, 57] 57 #[out11, t67]) w fun t68 w =>
  j [t68] w)
  (SN P (callFunc 171 #[a1_a, a2_b]) w fun t72 w =>
  CN t72
  (SV P (Builtin.len_ #[9] 3 #[a2_b]) w fun t76 w =>
  SV P (Instr.build 150 #[(0, (Value.int .i64 3)), (1, a0_name), (3, t76)]) w fun t77 w =>
  SV P (Instr.buildSlice 57 1 #[(0, t77)]) w fun t78 w =>
  SV P (Builtin.append_ #[57, 57] 57 #[out11, t78]) w fun t79 w =>
  j [t79] w)
  (SV P (Instr.build 150 #[(0, (Value.int .i64 5)), (1, a0_name), (2, a2_b)]) w fun t30 w =>
  SV P (Instr.buildSlice 57 1 #[(0, t30)]) w fun t31 w =>
  SV P (Builtin.append_ #[57, 57] 57 #[out11, t31]) w fun t32 w =>
  j [t32] w))))
  (CN t26
  (SV P (Instr.build 150 #[(0, (Value.int .i64 2)), (1, a0_name), (2, t25)]) w fun t66 w =>
  SV P (Instr.buildSlice 57 1 #[(0, t66)]) w fun t67 w =>
  SV P (Builtin.append_ #[57, 57] 57 #[out11, t67]) w fun t68 w =>
  j [t68] w)
  (SN P (callFunc 171 #[a1_a, a2_b]) w fun t72 w =>
  CN t72
  (SV P (Builtin.len_ #[9] 3 #[a2_b]) w fun t76 w =>
  SV P (Instr.build 150 #[(0, (Value.int .i64 3)), (1, a0_name), (3, t76)]) w fun t77 w =>
  SV P (Instr.buildSlice 57 1 #[(0, t77)]) w fun t78 w =>
  SV P (Builtin.append_ #[57, 57] 57 #[out11, t78]) w fun t79 w =>
  j [t79] w)
  (SV P (Instr.build 150 #[(0, (Value.int .i64 5)), (1, a0_name), (2, a2_b)]) w fun t30 w =>
  SV P (Instr.buildSlice 57 1 #[(0, t30)]) w fun t31 w =>
  SV P (Builtin.append_ #[57, 57] 57 #[out11, t31]) w fun t32 w =>
  j [t32] w))))))
  (fun _ us w => s96_j1 P k (us.getD 0 undef) w)

def s96 (P : Program) (k : Value → World → Prop) (a0_name : Value) (a1_a : Value) (a2_b : Value) (a3_was : Value) (a4_is : Value) (w : World) : Prop :=
  JP 1 (fun j =>
  SV P (Op.unary .not a3_was) w fun t15 w =>
  CN t15
  (SV P (Instr.build 150 #[(0, (Value.int .i64 1)), (1, a0_name)]) w fun t18 w =>
  SV P (Instr.buildSlice 57 1 #[(0, t18)]) w fun t19 w =>
  SV P (Builtin.append_ #[57, 57] 57 #[(Value.slice none 0 0), t19]) w fun t20 w =>
  j [t20] w)
  (j [(Value.slice none 0 0)] w))
  (fun _ us w => s96_j2 P k a0_name a1_a a2_b a4_is (us.getD 0 undef) w)

theorem e96 (k : Value → World → Prop) (a0_name a1_a a2_b a3_was a4_is : Value) (w : World) : s96 Tryz.prog k a0_name a1_a a2_b a3_was a4_is w = vcF Tryz.prog Tryz.f96 [11] [a0_name, a1_a, a2_b, a3_was, a4_is] k w := by kernel_rfl
theorem c96 {k : Value → World → Prop} {a0_name a1_a a2_b a3_was a4_is : Value} {w : World} (h : s96 Tryz.prog k a0_name a1_a a2_b a3_was a4_is w) : Calls Tryz.prog 96 #[a0_name, a1_a, a2_b, a3_was, a4_is] w (retP k) :=
  calls_of_vcF [11] mixedXImage Tryz.func96 (by kernel_rfl) (Eq.mp (e96 k a0_name a1_a a2_b a3_was a4_is w) h)
theorem n96 {args : Array Value} {w : World} {k : Value → World → Prop} (h : Calls Tryz.prog 96 args w (retP k)) : SN Tryz.prog (callFunc 96 args) w k := sn_call Tryz.func96 (by kernel_rfl) (by kernel_rfl) h

/-! ### 161: scrinium/image.Meta -/

def s161_j1 (P : Program) (_ : Value → World → Prop) (s6 : Value) (j : List Value → World → Prop) (t47 : Value) (stone9_1 : Value) (w : World) : Prop :=
  SN P (callFunc 47 #[t47]) w fun t62 w =>
  SN P (callV (Value.func (.func 236) #[] #[]) #[t62]) w fun t63 w =>
  SN P (callFunc 48 #[t47]) w fun t66 w =>
  SN P (callV (Value.func (.func 236) #[] #[]) #[t66]) w fun t67 w =>
  SV P (binOp .add 9 t63 t67) w fun t68 w =>
  SN P (callFunc 53 #[t47]) w fun t71 w =>
  SN P (callV (Value.func (.func 236) #[] #[]) #[t71]) w fun t72 w =>
  SV P (binOp .add 9 t68 t72) w fun t73 w =>
  SN P (callFunc 219 #[stone9_1]) w fun t75 w =>
  SV P (binOp .add 9 t73 t75) w fun t76 w =>
  SV P (binOp .add 9 s6 t76) w fun t77 w =>
  j [stone9_1, t77] w

def s161_j2 (P : Program) (_ : Value → World → Prop) (t44 : Value) (next : List Value → World → Prop) (stone9_1 : Value) (s6_1 : Value) (w : World) : Prop :=
  SV P (binOp .add 3 t44 (Value.int .i64 1)) w fun t78 w =>
  next [stone9_1, s6_1, t78] w

def s161_l1 (P : Program) (k : Value → World → Prop) (t13 : Value) (t43 : Value) (s6 : Value) (t44 : Value) (next : List Value → World → Prop) (w : World) : Prop :=
  SV P (binOp .lss 3 t44 t43) w fun t45 w =>
  CN t45
  (JP 2 (fun j =>
  SV P (Instr.indexAt 95 t13 t44) w fun t46 w =>
  SV P (Instr.loadAt 97 t46) w fun t47 w =>
  SN P (callFunc 181 #[t47]) w fun t50 w =>
  SV P (Instr.extract t50 0) w fun t51 w =>
  SV P (Instr.extract t50 1) w fun t52 w =>
  SV P (Instr.alloc 81 true (.tuple #[])) w fun t10 w =>
  SU P (Instr.storeAt 81 t10 t51) w fun w =>
  JP 1 (fun j_1 =>
  CN t52
  (SV P (Instr.loadAt 81 t10) w fun t55 w =>
  SN P (callFunc 239 #[t55]) w fun t56 w =>
  SV P (Instr.extract t56 0) w fun t57 w =>
  SV P (Instr.extract t56 1) w fun _ w =>
  j_1 [t57] w)
  (j_1 [(str [])] w))
  (fun _ us w => s161_j1 P k s6 j t47 (us.getD 0 undef) w))
  (fun _ us w => s161_j2 P k t44 next (us.getD 0 undef) (us.getD 1 undef) w))
  (k s6 w)

def s161 (P : Program) (k : Value → World → Prop) (a0_v : Value) (w : World) : Prop :=
  SN P (callFunc 45 #[a0_v]) w fun t13 w =>
  SN P (callFunc 70 #[a0_v]) w fun t15 w =>
  SN P (callFunc 237 #[t15]) w fun t16 w =>
  SN P (callFunc 238 #[t16]) w fun t17 w =>
  SV P (Instr.alloc 29 true (.tuple #[])) w fun name5 w =>
  SU P (Instr.storeAt 29 name5 t17) w fun w =>
  HR w fun C w =>
  SN P (callFunc 50 #[a0_v]) w fun t20 w =>
  RS C w fun C =>
  SN P (callV (Value.func (.func 236) #[] #[]) #[t20]) w fun t21 w =>
  RS C w fun C =>
  HV P C (binOp .add 9 (str [83, 67, 77]) t21) fun t22 =>
  SN P (callFunc 51 #[a0_v]) w fun t25 w =>
  C w ∧
  SN P (callV (Value.func (.func 236) #[] #[]) #[t25]) w fun t26 w =>
  C w ∧
  HV P C (binOp .add 9 t22 t26) fun t27 =>
  HV P C (Instr.loadAt 29 name5) fun t28 =>
  SN P (callFunc 163 #[t28]) w fun t29 w =>
  C w ∧
  SN P (callFunc 219 #[t29]) w fun t30 w =>
  C w ∧
  HV P C (binOp .add 9 t27 t30) fun t31 =>
  SN P (callFunc 37 #[a0_v]) w fun t34 w =>
  C w ∧
  SN P (callV (Value.func (.func 236) #[] #[]) #[t34]) w fun t35 w =>
  C w ∧
  HV P C (binOp .add 9 t31 t35) fun t36 =>
  HV P C (Builtin.len_ #[95] 3 #[t13]) fun t39 =>
  SN P (callV (Value.func (.func 236) #[] #[]) #[t39]) w fun t40 w =>
  C w ∧
  HV P C (binOp .add 9 t36 t40) fun t41 =>
  SV P (Builtin.len_ #[95] 3 #[t13]) w fun t43 w =>
  LP 3 [undef, t41, (Value.int .i64 0)] w (fun next _ us w => s161_l1 P k t13 t43 (us.getD 1 undef) (us.getD 2 undef) next w)

theorem e161 (k : Value → World → Prop) (a0_v : Value) (w : World) : s161 Tryz.prog k a0_v w = vcF Tryz.prog Tryz.f161 [6, 9, 44] [a0_v] k w := by kernel_rfl
theorem c161 {k : Value → World → Prop} {a0_v : Value} {w : World} (h : s161 Tryz.prog k a0_v w) : Calls Tryz.prog 161 #[a0_v] w (retP k) :=
  calls_of_vcF [6, 9, 44] mixedXImage Tryz.func161 (by kernel_rfl) (Eq.mp (e161 k a0_v w) h)
theorem n161 {args : Array Value} {w : World} {k : Value → World → Prop} (h : Calls Tryz.prog 161 args w (retP k)) : SN Tryz.prog (callFunc 161 args) w k := sn_call Tryz.func161 (by kernel_rfl) (by kernel_rfl) h

/-! ### 236: scrinium/image.Meta$1 -/

def s236 (P : Program) (k : Value → World → Prop) (a0_n : Value) (w : World) : Prop :=
  SV P (convert 3 198 a0_n) w fun t4 w =>
  SN P (callFunc 218 #[t4]) w fun t5 w =>
  k t5 w

theorem e236 (k : Value → World → Prop) (a0_n : Value) (w : World) : s236 Tryz.prog k a0_n w = vcF Tryz.prog Tryz.f236 [] [a0_n] k w := by kernel_rfl
theorem c236 {k : Value → World → Prop} {a0_n : Value} {w : World} (h : s236 Tryz.prog k a0_n w) : Calls Tryz.prog 236 #[a0_n] w (retP k) :=
  calls_of_vcF [] mixedXImage Tryz.func236 (by kernel_rfl) (Eq.mp (e236 k a0_n w) h)
theorem n236 {args : Array Value} {w : World} {k : Value → World → Prop} (h : Calls Tryz.prog 236 args w (retP k)) : SN Tryz.prog (callFunc 236 args) w k := sn_call Tryz.func236 (by kernel_rfl) (by kernel_rfl) h

end Go.Proofs.YtkdghnbogkbedaaGreatDoor
