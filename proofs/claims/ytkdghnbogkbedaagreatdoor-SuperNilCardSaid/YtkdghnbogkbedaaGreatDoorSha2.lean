/-
  The package sha: a block's schedule, a step.
-/
import Derived.Test.YtkdghnbogkbedaaGreatDoorSha1
import Derived.Test.YtkdghnbogkbedaaGreatDoorAuto
namespace Go.Sh
open Go Go.RowKit

def wv (l : List UInt32) : List Value := l.map w32
@[simp] theorem wv_len (l : List UInt32) : (wv l).length = l.length := by simp [wv]
theorem wv_ones (l : List UInt32) : Ones (wv l) := by
  intro x hx
  obtain ⟨b, _, rfl⟩ := List.mem_map.1 hx
  rfl
theorem wv_get {l : List UInt32} {i : Nat} (h : i < l.length) : (wv l)[i]? = some (w32 (wAt l i)) := by simp [wv, wAt, h]
theorem wv_set {l : List UInt32} {i : Nat} {x : UInt32} : (wv l).set i (w32 x) = wv (l.set i x) := by simp [wv, List.map_set]
theorem wv_append (l m : List UInt32) : wv (l ++ m) = wv l ++ wv m := by simp [wv]
theorem wv_zero (n : Nat) : List.replicate n (Value.int .u32 0) = wv (List.replicate n 0) := by unfold wv; rw [List.map_replicate]; rfl
theorem wAt_append {l m : List UInt32} {i : Nat} (h : i < l.length) : wAt (l ++ m) i = wAt l i := by simp [wAt, List.getD, List.getElem?_append_left h]

theorem schedGo_last (n : Nat) (w : List UInt32) : schedGo (n + 1) w = schedGo n w ++ [nextW (schedGo n w) (w.length + n)] := by
  induction n generalizing w with
  | zero => rfl
  | succ n ih =>
    rw [schedGo, ih]
    simp only [schedGo, List.length_append, List.length_cons, List.length_nil]
    rw [show w.length + (0 + 1) + n = w.length + (n + 1) by omega]

/-- A schedule's row, of which the first t words are there. -/
def wRow (blk : List UInt32) (t : Nat) : List UInt32 := schedGo (t - 16) blk ++ List.replicate (64 - t) 0

theorem wRow_len {blk : List UInt32} {t : Nat} (hb : blk.length = 16) (h : 16 ≤ t) (h' : t ≤ 64) : (wRow blk t).length = 64 := by simp [wRow, schedGo_len, hb]; omega
theorem wRow_at {blk : List UInt32} {t i : Nat} (hb : blk.length = 16) (h : 16 ≤ t) (hi : i < t) : wAt (wRow blk t) i = wAt (schedGo (t - 16) blk) i := wAt_append (by rw [schedGo_len, hb]; omega)
theorem wRow_next {blk : List UInt32} {t : Nat} (hb : blk.length = 16) (h : 16 ≤ t) (h' : t < 64) :
    (wRow blk t).set t (mix (wAt (wRow blk t) (t - 2)) 17 19 10 + wAt (wRow blk t) (t - 7) + mix (wAt (wRow blk t) (t - 15)) 7 18 3 + wAt (wRow blk t) (t - 16)) = wRow blk (t + 1) := by
  rw [wRow_at hb h (by omega), wRow_at hb h (by omega), wRow_at hb h (by omega), wRow_at hb h (by omega)]
  have hl : (schedGo (t - 16) blk).length = t := by rw [schedGo_len, hb]; omega
  unfold wRow
  rw [show t + 1 - 16 = (t - 16) + 1 by omega, schedGo_last, show 64 - t = (64 - (t + 1)) + 1 by omega, hb, show 16 + (t - 16) = t by omega, List.set_append_right _ _ (by omega), hl, Nat.sub_self, List.replicate_succ, List.set_cons_zero, List.append_assoc]
  rfl
theorem wRow_end {blk : List UInt32} : wRow blk 64 = sched blk := by simp [wRow, sched]
theorem wRow_start {blk : List UInt32} : wRow blk 16 = blk ++ List.replicate 48 0 := rfl

theorem round_l (s : S8) (k w : UInt32) : (round s k w).l = [one s k w + two s, s.a, s.b, s.c, s.d + one s k w, s.e, s.f, s.g] := rfl

/-- The keys, where the program has them. -/
def KeysAt (w : World) : Prop := Pt w (.pointer (some ⟨1, 0, none⟩)) (wv keys)
theorem KeysAt.ch {w w' : World} {S : Nat → Prop} (h : KeysAt w) (hc : Ch S w w') (hS : ¬ S 1) : KeysAt w' := Pt.ch h hc (by rintro b hb; cases hb; exact hS)
theorem KeysAt.no {w w' : World} (h : KeysAt w) (hc : Ch No w w') : KeysAt w' := h.ch hc fun h => h

theorem Pt.load {P : Program} {w : World} {ty n : TypeId} [Many P ty n] {p : Value} {us : List Value} {k : Value → World → Prop} (h : Pt w p us) (hl : us.length = n) (hk : k (ag us) w) : SV P (Instr.loadAt ty p) w k := SV_ptrN h hl hk
end Go.Sh
namespace Go.Proofs.YtkdghnbogkbedaaGreatDoor
open Go Go.Sh Go.RowKit
set_option maxRecDepth 100000

theorem sha_schedule (blk : List UInt32) (hb : blk.length = 16) (w : World) : Ret Tryz.prog 305 #[ag (wv blk)] w (ag (wv (sched blk))) := by
  refine c305 ?_
  unfold s305
  refine SV_box (vs := wv blk) rfl fun g1 w1 hg1 b1 h1 => ?_
  refine SV_alloc fun g2 w2 hg2 b2 h2 => ?_
  refine SV_alloc fun g3 w3 hg3 b3 h3 => ?_
  have hw3 : Ch No w w3 := h1.trans (h2.trans h3)
  refine HR_kp No ?_
  (first | refine SV_p (by first | exact True.intro | omega) ?_ | refine HV_p (by first | exact True.intro | omega) ?_)
  (first | refine SV_p (by first | exact True.intro | omega) ?_ | refine HV_p (by first | exact True.intro | omega) ?_)
  have b1' : Blk w3.drew g1 202 (wv blk) := ((b1.no h2).no h3).drew
  have b3' := b3.drew
  refine SV_copy (t := 258) (T := 202) (sz := 1) (m := 16) b3' (Rd.of_blk b1' (by simp [hb]) (by decide)) (by decide) (by simp) (wv_ones _) fun w4 b4 h4 => ?_
  have hne : g3 ≠ g2 := b3.ne' b2 hg3
  have b2' : Blk w4 g2 258 _ := ((b2.no h3).drew).ch h4 (fun h => hne h.symm)
  have hw4 : Ch No w w4 := (hw3.trans (Ch.drew _)).trans' h4 (fun i hi hi' => by subst hi'; have := h1.size; have := h2.size; omega)
  rw [wv_zero] at b4
  have e4 : wv blk ++ (wv (List.replicate 64 (0 : UInt32))).drop (16 * 1) = wv (wRow blk 16) := by
    rw [wRow_start, wv_append]
    simp [wv]
  rw [e4] at b4
  refine LP_intro (fun us w' => ∃ t : Nat, us = [.int .i64 t] ∧ 16 ≤ t ∧ t ≤ 64 ∧ Blk w' g3 258 (wv (wRow blk t)) ∧ Blk w' g2 258 (List.replicate 64 (.int .u32 0)) ∧ Ch No w w') (fun us _ => match us with | [.int _ t] => (64 - t).toNat | _ => 0)
    ⟨16, rfl, by decide, by decide, b4, b2', hw4⟩ ?_
  rintro us hus ζ w5 ⟨t, rfl, ht, ht', b5, b5', h5⟩
  unfold s305_l1
  simp only [List.getD_cons_zero, List.getD_cons_succ]
  (first | refine SV_p (by first | exact True.intro | omega) ?_ | refine HV_p (by first | exact True.intro | omega) ?_)
  refine CN_split (fun hlt => ?_) (fun hge => ?_)
  · have hl := wRow_len hb ht ht'
    refine HR_kp No ?_
    (first | refine SV_p (by first | exact True.intro | omega) ?_ | refine HV_p (by first | exact True.intro | omega) ?_)
    (first | refine SV_p (by first | exact True.intro | omega) ?_ | refine HV_p (by first | exact True.intro | omega) ?_)
    refine HV_load b5 (fun h => h) (wv_get (by omega)) ?_
    refine n312 ((sha_mix _ 17 19 10 (by decide) (by decide) (by decide) _).use fun w6 h6 => ?_)
    have h6' : Ch No w5 w6 := (Ch.drew _).trans h6
    (first | refine RS_same (h6') ?_ | refine ⟨h6', ?_⟩)
    (first | refine SV_p (by first | exact True.intro | omega) ?_ | refine HV_p (by first | exact True.intro | omega) ?_)
    (first | refine SV_p (by first | exact True.intro | omega) ?_ | refine HV_p (by first | exact True.intro | omega) ?_)
    refine HV_load b5 (fun h => h) (wv_get (by omega)) ?_
    (first | refine SV_p (by first | exact True.intro | omega) ?_ | refine HV_p (by first | exact True.intro | omega) ?_)
    (first | refine SV_p (by first | exact True.intro | omega) ?_ | refine HV_p (by first | exact True.intro | omega) ?_)
    (first | refine SV_p (by first | exact True.intro | omega) ?_ | refine HV_p (by first | exact True.intro | omega) ?_)
    refine HV_load b5 (fun h => h) (wv_get (by omega)) ?_
    refine n312 ((sha_mix _ 7 18 3 (by decide) (by decide) (by decide) _).use fun w7 h7 => ?_)
    have h7' : Ch No w5 w7 := h6'.trans h7
    (first | refine RS_same (h7') ?_ | refine ⟨h7', ?_⟩)
    (first | refine SV_p (by first | exact True.intro | omega) ?_ | refine HV_p (by first | exact True.intro | omega) ?_)
    (first | refine SV_p (by first | exact True.intro | omega) ?_ | refine HV_p (by first | exact True.intro | omega) ?_)
    (first | refine SV_p (by first | exact True.intro | omega) ?_ | refine HV_p (by first | exact True.intro | omega) ?_)
    refine HV_load b5 (fun h => h) (wv_get (by omega)) ?_
    (first | refine SV_p (by first | exact True.intro | omega) ?_ | refine HV_p (by first | exact True.intro | omega) ?_)
    (first | refine SV_p (by first | exact True.intro | omega) ?_ | refine HV_p (by first | exact True.intro | omega) ?_)
    have hlt' : t < 64 := by omega
    refine SU_store (b5.no h7') (by simp; omega) rfl fun w8 b8 h8 => ?_
    (first | refine SV_p (by first | exact True.intro | omega) ?_ | refine HV_p (by first | exact True.intro | omega) ?_)
    have e2 : ((t : Int) - 2).toNat = t - 2 := by omega
    have e7 : ((t : Int) - 7).toNat = t - 7 := by omega
    have e15 : ((t : Int) - 15).toNat = t - 15 := by omega
    have e16 : ((t : Int) - 16).toNat = t - 16 := by omega
    rw [e2, e7, e15, e16, Int.toNat_natCast, wv_set, wRow_next hb ht hlt'] at b8
    refine ⟨⟨t + 1, rfl, by omega, by omega, b8, (b5'.no h7').ch h8 (fun h => hne h.symm), ?_⟩, ?_⟩
    · exact (h5.trans h7').trans' h8 (fun i hi hi' => by subst hi'; have := h1.size; have := h2.size; omega)
    · show (64 - ((t : Int) + 1)).toNat < (64 - (t : Int)).toNat
      omega
  · have : t = 64 := by omega
    subst this
    rw [wRow_end] at b5
    have hl : (wv (sched blk)).length = 64 := by simp [sched, schedGo_len, hb]
    refine SV_loadB b5 hl ?_
    refine SU_storeB b5' hl (by simp) (wv_ones _) fun w6 b6 h6 => ?_
    refine CR_N b6 hl ?_
    exact ⟨rfl, h5.trans' h6 (fun i hi hi' => by subst hi'; have := h1.size; omega)⟩
end Go.Proofs.YtkdghnbogkbedaaGreatDoor
