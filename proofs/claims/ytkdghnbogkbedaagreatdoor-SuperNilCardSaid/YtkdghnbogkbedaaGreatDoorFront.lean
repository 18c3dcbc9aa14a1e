/-
  The package front: peaks.
-/
import Derived.Test.YtkdghnbogkbedaaGreatDoorRows1
import Derived.Test.YtkdghnbogkbedaaGreatDoorXFront
import Derived.Test.YtkdghnbogkbedaaGreatDoorXSlices
namespace Go.Sh
open Go Go.RowKit

def sums (l : List Sum) : List Value := l.flatMap Sum.cells
theorem sums_len (l : List Sum) : (sums l).length = l.length * 32 := by
  induction l with
  | nil => rfl
  | cons a l ih => simp only [sums, List.flatMap_cons, List.length_append, Sum.len] at ih ⊢; rw [ih, List.length_cons, Nat.add_mul]; omega
theorem sums_ones (l : List Sum) : Ones (sums l) := Ones.flat Sum.ones l
theorem sums_append (l m : List Sum) : sums (l ++ m) = sums l ++ sums m := by simp [sums]
theorem sums_take (l : List Sum) (i : Nat) : (sums l).take (i * 32) = sums (l.take i) := by
  induction l generalizing i with
  | nil => simp [sums]
  | cons a l ih =>
    cases i with
    | zero => simp [sums]
    | succ i =>
      have : (i + 1) * 32 = a.cells.length + i * 32 := by rw [Sum.len]; omega
      rw [show sums (a :: l) = a.cells ++ sums l from rfl, this, List.take_length_add_append, ih i]
      rfl
theorem sums_drop (l : List Sum) (i : Nat) : (sums l).drop (i * 32) = sums (l.drop i) := by
  induction l generalizing i with
  | nil => simp [sums]
  | cons a l ih =>
    cases i with
    | zero => simp
    | succ i =>
      have : (i + 1) * 32 = a.cells.length + i * 32 := by rw [Sum.len]; omega
      rw [show sums (a :: l) = a.cells ++ sums l from rfl, this, List.drop_length_add_append, ih i]
      rfl
theorem sums_at {l : List Sum} {i : Nat} (h : i < l.length) : ((sums l).drop (i * 32)).take 32 = l[i].cells := by
  rw [sums_drop, List.drop_eq_getElem_cons h]
  exact List.take_left' (Sum.len _)

/-- How many ones a number has. -/
def popc (n : Nat) : Nat := if n = 0 then 0 else n % 2 + popc (n / 2)
termination_by n
decreasing_by omega
theorem popc_zero : popc 0 = 0 := by rw [popc]; rfl
theorem popc_pos {n : Nat} (h : n ≠ 0) : popc n = n % 2 + popc (n / 2) := by rw [popc, if_neg h]
theorem popc_odd {n : Nat} (h : n % 2 = 1) : popc n = 1 + popc (n / 2) := by rw [popc_pos (by omega), h]
theorem popc_even {n : Nat} (h : n % 2 = 0) : popc n = popc (n / 2) := by
  by_cases h0 : n = 0
  · subst h0; rfl
  · rw [popc_pos h0, h, Nat.zero_add]
theorem popc_le {n k : Nat} (h : n < 2 ^ k) : popc n ≤ k := by
  induction k generalizing n with
  | zero => have : n = 0 := by simpa using h
            subst this; rw [popc_zero]; exact Nat.le_refl _
  | succ k ih =>
    by_cases h0 : n = 0
    · subst h0; rw [popc_zero]; omega
    · rw [popc_pos h0]
      have := ih (n := n / 2) (by rw [Nat.pow_succ] at h; omega)
      omega

/-- The peaks behind one leaf more. -/
def pushPk (l : List Sum) (k : Nat) (x : Sum) : List Sum := if k % 2 = 1 then pushPk l.dropLast (k / 2) (nodeOf (l.getLastD Sum.zero) x) else l ++ [x]
termination_by k
decreasing_by omega
theorem pushPk_odd {l : List Sum} {k : Nat} {x : Sum} (h : k % 2 = 1) : pushPk l k x = pushPk l.dropLast (k / 2) (nodeOf (l.getLastD Sum.zero) x) := by rw [pushPk, if_pos h]
theorem pushPk_even {l : List Sum} {k : Nat} {x : Sum} (h : ¬ k % 2 = 1) : pushPk l k x = l ++ [x] := by rw [pushPk, if_neg h]
theorem pushPk_len {l : List Sum} {k : Nat} {x : Sum} (h : l.length = popc k) : (pushPk l k x).length = popc (k + 1) := by
  induction k using Nat.strongRecOn generalizing l x with
  | _ k ih =>
    by_cases h1 : k % 2 = 1
    · rw [pushPk_odd h1, ih (k / 2) (by omega) (by rw [List.length_dropLast, h, popc_odd h1]; omega), popc_even (n := k + 1) (by omega)]
      congr 1; omega
    · rw [pushPk_even h1, List.length_append, h, popc_odd (n := k + 1) (by omega), popc_even (n := k) (by omega), List.length_cons, List.length_nil]
      rw [show (k + 1) / 2 = k / 2 by omega]; omega
/-- The peaks of leaves. -/
def peaksOf (l : List Sum) : List Sum := (l.zipIdx).foldl (fun p (x, i) => pushPk p i x) []
theorem peaksOf_snoc (l : List Sum) (x : Sum) : peaksOf (l ++ [x]) = pushPk (peaksOf l) l.length x := by
  unfold peaksOf
  rw [List.zipIdx_append, List.foldl_append]
  simp
theorem snocInd {α : Type} {p : List α → Prop} (h0 : p []) (h1 : ∀ l x, p l → p (l ++ [x])) (l : List α) : p l := by
  rw [← List.reverse_reverse l]
  induction l.reverse with
  | nil => exact h0
  | cons a t ih => rw [List.reverse_cons]; exact h1 _ _ ih
theorem peaksOf_len (l : List Sum) : (peaksOf l).length = popc l.length :=
  snocInd (p := fun l => (peaksOf l).length = popc l.length) (by rw [List.length_nil, popc_zero]; rfl) (fun l x ih => by rw [peaksOf_snoc, pushPk_len ih, List.length_append]; rfl) l

/-- A front of these leaves. -/
def FrontAt (w : World) (g : Nat) (tf ts : TypeId) (l : List Sum) : Prop := ∃ v, Blk w g tf [.int .i64 l.length, v] ∧ Rd w ts 32 v (popc l.length) (sums (peaksOf l))
theorem FrontAt.no {w w' : World} {g tf ts : Nat} {l : List Sum} (h : FrontAt w g tf ts l) (hc : Ch No w w') : FrontAt w' g tf ts l := by
  obtain ⟨v, h1, h2⟩ := h
  exact ⟨v, h1.no hc, h2.no hc⟩

theorem getLastD_eq {l : List Sum} {d : Sum} (h : 0 < l.length) : l.getLastD d = l[l.length - 1] := by
  cases l with
  | nil => simp at h
  | cons a l => simp [List.getLastD, List.getLast_eq_getElem]
theorem take_pred {α : Type} (l : List α) : l.take (l.length - 1) = l.dropLast := (List.dropLast_eq_take).symm
end Go.Sh
namespace Go.Proofs.YtkdghnbogkbedaaGreatDoor
open Go Go.Sh Go.RowKit
set_option maxRecDepth 100000
set_option maxHeartbeats 1000000
set_option linter.unusedSimpArgs false
set_option linter.unusedVariables false

theorem clone_sums {T n : Nat} {v : Value} {xs : List Value} {w : World} (hr : Rd w T 32 v n xs) (h1 : Ones xs) (hb : n ≤ 4000000000) : RetOwn Tryz.prog 88 #[v] w 29 32 n xs := by
  refine c88 ?_
  have h : cloneS 24 Tryz.prog (fun v' w' => w'.ownsRow w.heap.size 29 32 v' n xs ∧ Ch No w w') v w := cloneS_ok (e := 29) (sz := 32) hr h1 (by omega) fun v' w' ho hc => ⟨ho, hc⟩
  exact h
theorem clone_freezes {T n : Nat} {v : Value} {xs : List Value} {w : World} (hr : Rd w T 34 v n xs) (h1 : Ones xs) (hb : n ≤ 1000000000) : RetOwn Tryz.prog 85 #[v] w 31 34 n xs := by
  refine c85 ?_
  have h : cloneS 23 Tryz.prog (fun v' w' => w'.ownsRow w.heap.size 31 34 v' n xs ∧ Ch No w w') v w := cloneS_ok (e := 31) (sz := 34) hr h1 (by omega) fun v' w' ho hc => ⟨ho, hc⟩
  exact h

theorem front_new (w : World) : Calls Tryz.prog 72 #[] w (retP fun v w' => ∃ g, v = .pointer (some ⟨g, 0, none⟩) ∧ w.heap.size ≤ g ∧ FrontAt w' g 190 29 [] ∧ Ch No w w') := by
  refine c72 ?_
  unfold s72
  refine SV_pu (pu_build (FillOk.nil _)) ?_
  refine SV_box (vs := [.int .i64 0, .slice none 0 0]) rfl fun g w1 hg b1 h1 => ?_
  refine ⟨g, rfl, hg, ⟨_, b1, ?_⟩, h1⟩
  rw [List.length_nil, popc_zero]
  exact Rd.zero none 0

theorem front_add {g : Nat} {l : List Sum} {x : Sum} {w : World} (hK : KeysAt w) (h1g : 1 < g) (hf : FrontAt w g 190 29 l) (hl : l.length < 1099511627776) :
    Calls Tryz.prog 74 #[.pointer (some ⟨g, 0, none⟩), x.v] w (retP fun v w' => v = .int .i64 (l.length + 1 : Nat) ∧ FrontAt w' g 190 29 (l ++ [x]) ∧ Ch (· = g) w w') := by
  obtain ⟨pv, bg, hp⟩ := hf
  refine c74 ?_
  unfold s74
  have lg := bg.lt
  refine SV_box (vs := x.cells) rfl fun g3 w1 hg3 b3 h1 => ?_
  have z1 := h1.size
  have l3 := b3.lt
  have hpop : popc l.length ≤ 40 := popc_le (by simpa using hl)
  (first | refine SV_p (by first | exact True.intro | omega | (simp only [List.length_append, List.length_cons, List.length_nil, List.length_replicate, List.length_map]; omega)) ?_ | refine HV_p (by first | exact True.intro | omega | (simp only [List.length_append, List.length_cons, List.length_nil, List.length_replicate, List.length_map]; omega)) ?_)
  refine GD_ff ?_
  have bg := bg.no h1
  (first | refine SV_p (by first | exact True.intro | omega | (simp only [List.length_append, List.length_cons, List.length_nil, List.length_replicate, List.length_map]; omega)) ?_ | refine HV_p (by first | exact True.intro | omega | (simp only [List.length_append, List.length_cons, List.length_nil, List.length_replicate, List.length_map]; omega)) ?_)
  (first | refine SV_p (by first | exact True.intro | omega | (simp only [List.length_append, List.length_cons, List.length_nil, List.length_replicate, List.length_map]; omega)) ?_ | refine HV_p (by first | exact True.intro | omega | (simp only [List.length_append, List.length_cons, List.length_nil, List.length_replicate, List.length_map]; omega)) ?_)
  refine SV_load bg rfl ?_
  (first | refine SV_p (by first | exact True.intro | omega | (simp only [List.length_append, List.length_cons, List.length_nil, List.length_replicate, List.length_map]; omega)) ?_ | refine HV_p (by first | exact True.intro | omega | (simp only [List.length_append, List.length_cons, List.length_nil, List.length_replicate, List.length_map]; omega)) ?_)
  refine CN_false (by omega) ?_
  (first | refine SV_p (by first | exact True.intro | omega | (simp only [List.length_append, List.length_cons, List.length_nil, List.length_replicate, List.length_map]; omega)) ?_ | refine HV_p (by first | exact True.intro | omega | (simp only [List.length_append, List.length_cons, List.length_nil, List.length_replicate, List.length_map]; omega)) ?_)
  (first | refine SV_p (by first | exact True.intro | omega | (simp only [List.length_append, List.length_cons, List.length_nil, List.length_replicate, List.length_map]; omega)) ?_ | refine HV_p (by first | exact True.intro | omega | (simp only [List.length_append, List.length_cons, List.length_nil, List.length_replicate, List.length_map]; omega)) ?_)
  refine SV_load bg (v := pv) rfl ?_
  refine n88 (Calls.ret_mono (clone_sums (hp.no h1) (sums_ones _) (by omega)) ?_)
  rintro v2 w2 ⟨ho, h2⟩
  have z2 := h2.size
  have bg := bg.no h2
  have b3 := b3.no h2
  (first | refine SV_p (by first | exact True.intro | omega | (simp only [List.length_append, List.length_cons, List.length_nil, List.length_replicate, List.length_map]; omega)) ?_ | refine HV_p (by first | exact True.intro | omega | (simp only [List.length_append, List.length_cons, List.length_nil, List.length_replicate, List.length_map]; omega)) ?_)
  (first | refine SV_p (by first | exact True.intro | omega | (simp only [List.length_append, List.length_cons, List.length_nil, List.length_replicate, List.length_map]; omega)) ?_ | refine HV_p (by first | exact True.intro | omega | (simp only [List.length_append, List.length_cons, List.length_nil, List.length_replicate, List.length_map]; omega)) ?_)
  refine SV_load bg (v := .int .i64 l.length) rfl ?_
  refine LP_intro (fun us w' => ∃ (v : Value) (k : Nat) (p : List Sum) (y : Sum), us = [v, .int .i64 k] ∧ k ≤ l.length ∧ p.length = popc k ∧ pushPk p k y = pushPk (peaksOf l) l.length x ∧ w'.ownsRow w1.heap.size 29 32 v p.length (sums p) ∧ Blk w' g3 29 y.cells ∧ Ch (· = g3) w2 w')
    (fun us _ => match us with | [_, .int _ t] => t.toNat | _ => 0)
    ⟨v2, l.length, peaksOf l, x, rfl, Nat.le_refl _, peaksOf_len l, rfl, by rw [peaksOf_len]; exact ho, b3, Ch.refl _⟩ ?_
  rintro us hus ζ w3 ⟨v, k, p, y, rfl, hk, hpl, heq, ho, b3, h3⟩
  unfold s74_l1
  simp only [List.getD_cons_zero, List.getD_cons_succ]
  have hpk : popc k ≤ 40 := popc_le (n := k) (k := 40) (by simp; omega)
  have z3 := h3.size
  have hcw3 : Ch No w w3 := (h1.trans h2).own h3 (by omega)
  (first | refine SV_p (by first | exact True.intro | omega | (simp only [List.length_append, List.length_cons, List.length_nil, List.length_replicate, List.length_map]; omega)) ?_ | refine HV_p (by first | exact True.intro | omega | (simp only [List.length_append, List.length_cons, List.length_nil, List.length_replicate, List.length_map]; omega)) ?_)
  (first | refine SV_p (by first | exact True.intro | omega | (simp only [List.length_append, List.length_cons, List.length_nil, List.length_replicate, List.length_map]; omega)) ?_ | refine HV_p (by first | exact True.intro | omega | (simp only [List.length_append, List.length_cons, List.length_nil, List.length_replicate, List.length_map]; omega)) ?_)
  refine CN_split (fun heven => ?_) (fun hodd => ?_)
  · have hk2 : ¬ k % 2 = 1 := by omega
    rw [pushPk_even hk2] at heq
    have bg := bg.ch h3 (by omega)
    (first | refine SV_p (by first | exact True.intro | omega | (simp only [List.length_append, List.length_cons, List.length_nil, List.length_replicate, List.length_map]; omega)) ?_ | refine HV_p (by first | exact True.intro | omega | (simp only [List.length_append, List.length_cons, List.length_nil, List.length_replicate, List.length_map]; omega)) ?_)
    (first | refine SV_p (by first | exact True.intro | omega | (simp only [List.length_append, List.length_cons, List.length_nil, List.length_replicate, List.length_map]; omega)) ?_ | refine HV_p (by first | exact True.intro | omega | (simp only [List.length_append, List.length_cons, List.length_nil, List.length_replicate, List.length_map]; omega)) ?_)
    refine SV_load bg (v := .int .i64 l.length) rfl ?_
    (first | refine SV_p (by first | exact True.intro | omega | (simp only [List.length_append, List.length_cons, List.length_nil, List.length_replicate, List.length_map]; omega)) ?_ | refine HV_p (by first | exact True.intro | omega | (simp only [List.length_append, List.length_cons, List.length_nil, List.length_replicate, List.length_map]; omega)) ?_)
    (first | refine SV_p (by first | exact True.intro | omega | (simp only [List.length_append, List.length_cons, List.length_nil, List.length_replicate, List.length_map]; omega)) ?_ | refine HV_p (by first | exact True.intro | omega | (simp only [List.length_append, List.length_cons, List.length_nil, List.length_replicate, List.length_map]; omega)) ?_)
    (first | refine SV_p (by first | exact True.intro | omega | (simp only [List.length_append, List.length_cons, List.length_nil, List.length_replicate, List.length_map]; omega)) ?_ | refine HV_p (by first | exact True.intro | omega | (simp only [List.length_append, List.length_cons, List.length_nil, List.length_replicate, List.length_map]; omega)) ?_)
    refine SU_store bg (by simp) rfl fun w4 bg h4 => ?_
    have hne3 : g ≠ g3 := by omega
    refine SV_loadB (b3.ch h4 hne3.symm) y.len ?_
    have ho := own_ch ho h4 (own_blkne ho (by omega))
    refine SV_lits (e := 29) (sz := 32) [ag y.cells] [y.cells] rfl (fun i v hv => ?_) rfl rfl (by simp) fun g5 w5 hg5 b5 h5 ho5 => ?_
    · match i, hv with
      | 0, hv => simp only [List.getElem?_cons_zero, Option.some.injEq] at hv; subst hv; exact ⟨y.cells, rfl, rfl, y.len⟩
      | i + 1, hv => simp at hv
    have z4 := h4.size
    have z5 := h5.size
    have hfl : [y.cells].flatten = sums [y] := by simp [sums]
    rw [hfl] at ho5
    refine SV_append (base := w1.heap.size) (own_no ho h5) (Rd.of_own ho5) (sums_ones _) (by omega) (by unfold maxLen; omega) (by omega) fun v6 w6 ho6 h6 => ?_
    have hob := own_blkne ho (g := g) (by omega)
    have bg := (bg.no h5).ch h6 (fun hb => hob g hb rfl)
    (first | refine SV_p (by first | exact True.intro | omega | (simp only [List.length_append, List.length_cons, List.length_nil, List.length_replicate, List.length_map]; omega)) ?_ | refine HV_p (by first | exact True.intro | omega | (simp only [List.length_append, List.length_cons, List.length_nil, List.length_replicate, List.length_map]; omega)) ?_)
    (first | refine SV_p (by first | exact True.intro | omega | (simp only [List.length_append, List.length_cons, List.length_nil, List.length_replicate, List.length_map]; omega)) ?_ | refine HV_p (by first | exact True.intro | omega | (simp only [List.length_append, List.length_cons, List.length_nil, List.length_replicate, List.length_map]; omega)) ?_)
    have h1v : v6.oneCell' = true := by
      obtain ⟨A, c, rfl, _⟩ := (Rd.of_own ho6).form
      rfl
    refine SU_store bg (by simp) h1v fun w7 bg h7 => ?_
    (first | refine SV_p (by first | exact True.intro | omega | (simp only [List.length_append, List.length_cons, List.length_nil, List.length_replicate, List.length_map]; omega)) ?_ | refine HV_p (by first | exact True.intro | omega | (simp only [List.length_append, List.length_cons, List.length_nil, List.length_replicate, List.length_map]; omega)) ?_)
    (first | refine SV_p (by first | exact True.intro | omega | (simp only [List.length_append, List.length_cons, List.length_nil, List.length_replicate, List.length_map]; omega)) ?_ | refine HV_p (by first | exact True.intro | omega | (simp only [List.length_append, List.length_cons, List.length_nil, List.length_replicate, List.length_map]; omega)) ?_)
    refine SV_load bg (v := .int .i64 ((l.length : Int) + 1)) rfl ?_
    have hlen : (l ++ [x]).length = l.length + 1 := by simp
    have hfin : sums p ++ sums [y] = sums (peaksOf (l ++ [x])) := by rw [← sums_append, heq, peaksOf_snoc]
    have hn : p.length + 1 = popc (l.length + 1) := by
      have := congrArg List.length heq
      rw [List.length_append, pushPk_len (peaksOf_len l)] at this
      exact this
    refine ⟨by congr 1, ⟨v6, ?_, ?_⟩, ?_⟩
    · rw [hlen]
      have e : ((l.length + 1 : Nat) : Int) = (l.length : Int) + 1 := by omega
      rw [e]
      exact bg
    · rw [hlen, ← hfin, ← hn]
      exact (Rd.of_own ho6).ch h7 (own_blkne ho6 (by omega))
    · exact ((((hcw3.no.trans h4).trans h5.no).trans' h6 fun i hi hib => by have := own_blkne ho (g := i) (by omega) i hib; exact absurd rfl this).trans h7)
  · have hk1 : k % 2 = 1 := by omega
    have hp1 : 0 < p.length := by rw [hpl, popc_odd hk1]; omega
    rw [pushPk_odd hk1] at heq
    obtain ⟨A, c, rfl, _⟩ := (Rd.of_own ho).form
    (first | refine SV_p (by first | exact True.intro | omega | (simp only [List.length_append, List.length_cons, List.length_nil, List.length_replicate, List.length_map]; omega)) ?_ | refine HV_p (by first | exact True.intro | omega | (simp only [List.length_append, List.length_cons, List.length_nil, List.length_replicate, List.length_map]; omega)) ?_)
    (first | refine SV_p (by first | exact True.intro | omega | (simp only [List.length_append, List.length_cons, List.length_nil, List.length_replicate, List.length_map]; omega)) ?_ | refine HV_p (by first | exact True.intro | omega | (simp only [List.length_append, List.length_cons, List.length_nil, List.length_replicate, List.length_map]; omega)) ?_)
    have hi : ((p.length : Int) - 1).toNat = p.length - 1 := by omega
    refine HR_kp No ?_
    refine HV_idx (Rd.of_own ho) (by omega) (by omega) fun q hqb hq => ?_
    rw [hi, sums_at (by omega), ← getLastD_eq (d := Sum.zero) hp1] at hq
    refine HV_ptrN hq (Sum.len _) (fun _ _ h => h) ?_
    refine HV_loadB b3 (fun h => h) y.len ?_
    refine n142 ((leaf_node _ y _ (hK.no (hcw3.trans (Ch.drew _))) (by show 1 < w3.heap.size; omega)).use fun w4 h4 => ?_)
    have h4' : Ch No w3 w4 := (Ch.drew _).trans h4
    have z4 := h4'.size
    refine SU_storeB (b3.no h4') (Sum.len _) y.len (Sum.ones _) fun w5 b5 h5 => ?_
    have ho5 := own_ch (own_no ho h4') h5 (own_blkne ho (by omega))
    obtain ⟨v6, hv6, ho6, _⟩ := own_sl_h (P := Tryz.prog) (ty := 24) ho5 (h := (p.length : Int) - 1) (by omega) (by omega)
    refine SV_pu hv6 ?_
    (first | refine SV_p (by first | exact True.intro | omega | (simp only [List.length_append, List.length_cons, List.length_nil, List.length_replicate, List.length_map]; omega)) ?_ | refine HV_p (by first | exact True.intro | omega | (simp only [List.length_append, List.length_cons, List.length_nil, List.length_replicate, List.length_map]; omega)) ?_)
    rw [hi, sums_take, take_pred] at ho6
    have hdl : p.dropLast.length = p.length - 1 := List.length_dropLast
    have hk2 : ((k : Int) / 2) = ((k / 2 : Nat) : Int) := by omega
    refine ⟨⟨v6, k / 2, p.dropLast, _, by rw [hk2], by omega, ?_, heq, by rw [hdl]; exact ho6, b5, (h3.trans h4'.no).trans h5⟩, ?_⟩
    · rw [hdl, hpl, popc_odd hk1]; omega
    · show ((k : Int) / 2).toNat < (k : Int).toNat
      omega
end Go.Proofs.YtkdghnbogkbedaaGreatDoor
