/-
  The package sha: a step, the start, whole blocks.
-/
import Derived.Test.YtkdghnbogkbedaaGreatDoorSha2
namespace Go.Sh
open Go Go.RowKit

section
variable {P : Program}
instance {t : TypeId} [h : IsStr P t] {l : List UInt8} {k : IntKind} {i : Int} : PuC P (Instr.index t (str l) (.int k i)) (by_ (l.getD i.toNat 0)) (0 ≤ i ∧ i.toNat < l.length) :=
  ⟨fun h => pu_idxs h.1 (by simp [List.getD, List.getElem?_eq_getElem h.2])⟩
instance {ty len e : Nat} [h : ArT P ty len e 1] [h1 : One P e] {i : Int} {l : List UInt32} : PuC P (Instr.index ty (ag (wv l)) (.int .i64 i)) (w32 (wAt l i.toNat)) (0 ≤ i ∧ i < len ∧ i.toNat < l.length) :=
  ⟨fun h => pu_idxV h.1 h.2.1 (wv_get h.2.2)⟩
end

theorem wAt_mixed {x y : List UInt32} {i : Nat} (h : x.length = y.length) (hi : i < x.length) : wAt (y.take i ++ x.drop i) i = wAt x i := by
  have hl : (y.take i).length = i := by simp; omega
  simp only [wAt, List.getD]
  rw [List.getElem?_append_right (by omega), hl, Nat.sub_self, List.getElem?_drop]
  rfl
theorem set_mixed {x y : List UInt32} {i : Nat} (h : x.length = y.length) (hi : i < x.length) : (y.take i ++ x.drop i).set i (wAt y i) = y.take (i + 1) ++ x.drop (i + 1) := by
  have hl : (y.take i).length = i := by simp; omega
  rw [List.set_append_right _ _ (by omega), hl, Nat.sub_self]
  have hd : x.drop i = x[i] :: x.drop (i + 1) := List.drop_eq_getElem_cons hi
  rw [hd, List.set_cons_zero, List.take_succ_eq_append_getElem (by omega), List.append_assoc]
  simp [wAt, List.getD, List.getElem?_eq_getElem (show i < y.length by omega)]
theorem mixed_zero {x y : List UInt32} : y.take 0 ++ x.drop 0 = x := by simp
theorem mixed_all {x y : List UInt32} {n : Nat} (hx : x.length = n) (hy : y.length = n) : y.take n ++ x.drop n = y := by
  rw [List.take_of_length_le (by omega), List.drop_eq_nil_of_le (by omega), List.append_nil]
theorem S8.l_len (s : S8) : s.l.length = 8 := rfl
theorem S8.add_at (s r : S8) {i : Nat} (h : i < 8) : wAt (s.add r).l i = wAt s.l i + wAt r.l i := by
  match i, h with
  | 0, _ => rfl
  | 1, _ => rfl
  | 2, _ => rfl
  | 3, _ => rfl
  | 4, _ => rfl
  | 5, _ => rfl
  | 6, _ => rfl
  | 7, _ => rfl
  | n + 8, h => exact absurd h (by omega)
theorem rnd_succ (s : S8) (w : List UInt32) (t : Nat) : rounds s w (t + 1) = round (rounds s w t) (wAt keys t) (wAt w t) := rfl
theorem keys_len : keys.length = 64 := rfl
end Go.Sh
namespace Go.Proofs.YtkdghnbogkbedaaGreatDoor
open Go Go.Sh Go.RowKit
set_option maxRecDepth 100000

theorem sha_start (w : World) : Ret Tryz.prog 266 #[] w (ag (wv S8.start.l)) := by
  refine c266 ?_
  unfold s266
  refine SV_alloc fun g1 w1 hg1 b1 h1 => ?_
  refine SV_pu (pu_build (FillOk.cons rfl rfl rfl (FillOk.cons rfl rfl rfl (FillOk.cons rfl rfl rfl (FillOk.cons rfl rfl rfl (FillOk.cons rfl rfl rfl (FillOk.cons rfl rfl rfl (FillOk.cons rfl rfl rfl (FillOk.cons rfl rfl rfl (FillOk.nil _)))))))))) ?_
  refine SU_storeB b1 rfl rfl (wv_ones S8.start.l) fun w2 b2 h2 => ?_
  refine CR_N b2 rfl ?_
  exact ⟨rfl, h1.trans' h2 (fun i hi hi' => by subst hi'; omega)⟩

theorem sha_step (s : S8) (blk : List UInt32) (hb : blk.length = 16) (w : World) (hk : KeysAt w) : Ret Tryz.prog 290 #[ag (wv s.l), ag (wv blk)] w (ag (wv (sstep s blk).l)) := by
  refine c290 ?_
  unfold s290
  refine SV_box (vs := wv s.l) rfl fun g1 w1 hg1 b1 h1 => ?_
  refine SV_box (vs := wv blk) rfl fun g2 w2 hg2 b2 h2 => ?_
  refine SV_alloc fun g3 w3 hg3 b3 h3 => ?_
  refine SV_loadB (b2.no h3) (by simp [hb]) ?_
  refine n305 ((sha_schedule blk hb _).use fun w4 h4 => ?_)
  refine SV_alloc fun g5 w5 hg5 b5 h5 => ?_
  have hsl : (wv (sched blk)).length = 64 := by simp [sched, schedGo_len, hb]
  refine SU_storeB b5 hsl rfl (wv_ones _) fun w6 b6 h6 => ?_
  have hw3 : Ch No w w3 := h1.trans (h2.trans h3)
  have hw5 : Ch No w w5 := hw3.trans (h4.trans h5)
  have hw6 : Ch No w w6 := hw5.trans' h6 (fun i hi hi' => by subst hi'; have := h1.size; have := h2.size; have := h3.size; have := h4.size; omega)
  have b1' : Blk w5 g1 200 (wv s.l) := (((b1.no h2).no h3).no h4).no h5
  have n1 : g5 ≠ g1 := b5.ne' ((((b1.no h2).no h3).no h4)) hg5
  have b1'' := b1'.ch h6 (fun h => n1 h.symm)
  have b3' : Blk w5 g3 200 _ := (b3.no h4).no h5
  have n3 : g5 ≠ g3 := b5.ne' (b3.no h4) hg5
  have n13 : g3 ≠ g1 := b3.ne' (b1.no h2) hg3
  have b3'' := b3'.ch h6 (fun h => n3 h.symm)
  refine HR_kp No ?_
  (first | refine SV_p (by first | exact True.intro | omega) ?_ | refine HV_p (by first | exact True.intro | omega) ?_)
  refine HV_load b1'' (fun h => h) rfl ?_
  (first | refine SV_p (by first | exact True.intro | omega) ?_ | refine HV_p (by first | exact True.intro | omega) ?_)
  refine HV_load b1'' (fun h => h) rfl ?_
  (first | refine SV_p (by first | exact True.intro | omega) ?_ | refine HV_p (by first | exact True.intro | omega) ?_)
  refine HV_load b1'' (fun h => h) rfl ?_
  (first | refine SV_p (by first | exact True.intro | omega) ?_ | refine HV_p (by first | exact True.intro | omega) ?_)
  refine HV_load b1'' (fun h => h) rfl ?_
  refine HR_kp No ?_
  (first | refine SV_p (by first | exact True.intro | omega) ?_ | refine HV_p (by first | exact True.intro | omega) ?_)
  refine HV_load b1''.drew (fun h => h) rfl ?_
  (first | refine SV_p (by first | exact True.intro | omega) ?_ | refine HV_p (by first | exact True.intro | omega) ?_)
  refine HV_load b1''.drew (fun h => h) rfl ?_
  (first | refine SV_p (by first | exact True.intro | omega) ?_ | refine HV_p (by first | exact True.intro | omega) ?_)
  refine HV_load b1''.drew (fun h => h) rfl ?_
  (first | refine SV_p (by first | exact True.intro | omega) ?_ | refine HV_p (by first | exact True.intro | omega) ?_)
  refine HV_load b1''.drew (fun h => h) rfl ?_
  have hk6 : KeysAt w6.drew.drew := hk.no ((hw6.trans (Ch.drew _)).trans (Ch.drew _))
  refine SV_ptrN hk6 rfl ?_
  refine LP_intro (fun us w' => ∃ t : Nat, us = [w32 (rounds s (sched blk) t).a, w32 (rounds s (sched blk) t).b, w32 (rounds s (sched blk) t).c, w32 (rounds s (sched blk) t).d, w32 (rounds s (sched blk) t).e, w32 (rounds s (sched blk) t).f, w32 (rounds s (sched blk) t).g, w32 (rounds s (sched blk) t).h, .int .i64 t] ∧ t ≤ 64 ∧
      Ch No w6 w') (fun us _ => match us with | [_, _, _, _, _, _, _, _, .int _ t] => (64 - t).toNat | _ => 0)
    ⟨0, rfl, by decide, (Ch.drew _).trans (Ch.drew _)⟩ ?_
  rintro us hus ζ w7 ⟨t, rfl, ht, h7⟩
  unfold s290_l2
  simp only [List.getD_cons_zero, List.getD_cons_succ]
  (first | refine SV_p (by first | exact True.intro | omega) ?_ | refine HV_p (by first | exact True.intro | omega) ?_)
  refine CN_split (fun hlt => ?_) (fun hge => ?_)
  · have hkl := keys_len
    have b6' := b6.no h7
    (first | refine SV_p (by first | exact True.intro | omega) ?_ | refine HV_p (by first | exact True.intro | omega) ?_)
    refine HR_kp No ?_
    refine n306 ((sha_turn _ 6 11 25 (by decide) (by decide) (by decide) _).use fun w8 h8 => ?_)
    have h8' : Ch No w7 w8 := (Ch.drew _).trans h8
    (first | refine RS_same (h8') ?_ | refine ⟨h8', ?_⟩)
    (first | refine SV_p (by first | exact True.intro | omega) ?_ | refine HV_p (by first | exact True.intro | omega) ?_)
    (first | refine SV_p (by first | exact True.intro | omega) ?_ | refine HV_p (by first | exact True.intro | omega) ?_)
    (first | refine SV_p (by first | exact True.intro | omega) ?_ | refine HV_p (by first | exact True.intro | omega) ?_)
    (first | refine SV_p (by first | exact True.intro | omega) ?_ | refine HV_p (by first | exact True.intro | omega) ?_)
    (first | refine SV_p (by first | exact True.intro | omega) ?_ | refine HV_p (by first | exact True.intro | omega) ?_)
    (first | refine SV_p (by first | exact True.intro | omega) ?_ | refine HV_p (by first | exact True.intro | omega) ?_)
    (first | refine SV_p (by first | exact True.intro | omega) ?_ | refine HV_p (by first | exact True.intro | omega) ?_)
    (first | refine SV_p (by first | exact True.intro | omega) ?_ | refine HV_p (by first | exact True.intro | omega) ?_)
    refine HV_load b6' (fun h => h) (wv_get (by simp [sched, schedGo_len, hb]; omega)) ?_
    (first | refine SV_p (by first | exact True.intro | omega) ?_ | refine HV_p (by first | exact True.intro | omega) ?_)
    refine n306 ((sha_turn _ 2 13 22 (by decide) (by decide) (by decide) _).use fun w9 h9 => ?_)
    (first | refine SV_p (by first | exact True.intro | omega) ?_ | refine HV_p (by first | exact True.intro | omega) ?_)
    (first | refine SV_p (by first | exact True.intro | omega) ?_ | refine HV_p (by first | exact True.intro | omega) ?_)
    (first | refine SV_p (by first | exact True.intro | omega) ?_ | refine HV_p (by first | exact True.intro | omega) ?_)
    (first | refine SV_p (by first | exact True.intro | omega) ?_ | refine HV_p (by first | exact True.intro | omega) ?_)
    (first | refine SV_p (by first | exact True.intro | omega) ?_ | refine HV_p (by first | exact True.intro | omega) ?_)
    (first | refine SV_p (by first | exact True.intro | omega) ?_ | refine HV_p (by first | exact True.intro | omega) ?_)
    (first | refine SV_p (by first | exact True.intro | omega) ?_ | refine HV_p (by first | exact True.intro | omega) ?_)
    (first | refine SV_p (by first | exact True.intro | omega) ?_ | refine HV_p (by first | exact True.intro | omega) ?_)
    (first | refine SV_p (by first | exact True.intro | omega) ?_ | refine HV_p (by first | exact True.intro | omega) ?_)
    simp only [Int.toNat_natCast]
    refine ⟨⟨t + 1, ?_, by omega, h7.trans (h8'.trans h9)⟩, ?_⟩
    · rw [rnd_succ]
      generalize rounds s (sched blk) t = r
      generalize wAt keys t = kk
      generalize wAt (sched blk) t = ww
      rfl
    show (64 - ((t : Int) + 1)).toNat < (64 - (t : Int)).toNat
    omega
  · have : t = 64 := by omega
    subst this
    have c1 := b1''.no h7
    have c3 := b3''.no h7
    generalize hr : rounds s (sched blk) 64 = r
    refine SV_pu (pu_build (FillOk.cons rfl rfl rfl (FillOk.cons rfl rfl rfl (FillOk.cons rfl rfl rfl (FillOk.cons rfl rfl rfl (FillOk.cons rfl rfl rfl (FillOk.cons rfl rfl rfl (FillOk.cons rfl rfl rfl (FillOk.cons rfl rfl rfl (FillOk.nil _)))))))))) ?_
    show LP 1 _ _ fun next _ us w_1 => s290_l1 Tryz.prog _ _ _ (ag (wv r.l)) _ next w_1
    have hw7 := hw6.trans h7
    refine LP_intro (fun us w' => ∃ i : Nat, us = [.int .i64 i] ∧ i ≤ 8 ∧ Blk w' g1 200 (wv ((s.add r).l.take i ++ s.l.drop i)) ∧ Blk w' g3 200 (List.replicate 8 (.int .u32 0)) ∧ Ch No w w') (fun us _ => match us with | [.int _ t] => (8 - t).toNat | _ => 0)
      ⟨0, rfl, by decide, by rw [mixed_zero]; exact c1, c3, hw7⟩ ?_
    rintro us hus ζ w8 ⟨i, rfl, hi, d1, d3, h8⟩
    unfold s290_l1
    simp only [List.getD_cons_zero, List.getD_cons_succ]
    (first | refine SV_p (by first | exact True.intro | omega) ?_ | refine HV_p (by first | exact True.intro | omega) ?_)
    refine CN_split (fun hlt => ?_) (fun hge => ?_)
    · have hrl := S8.l_len r
      have hsl := S8.l_len s
      have hal := S8.l_len (s.add r)
      have hml : ((s.add r).l.take i ++ s.l.drop i).length = 8 := by simp [S8.l_len]; omega
      (first | refine SV_p (by first | exact True.intro | omega) ?_ | refine HV_p (by first | exact True.intro | omega) ?_)
      (first | refine SV_p (by first | exact True.intro | omega) ?_ | refine HV_p (by first | exact True.intro | omega) ?_)
      refine SV_load d1 (wv_get (by rw [hml]; omega)) ?_
      (first | refine SV_p (by first | exact True.intro | omega) ?_ | refine HV_p (by first | exact True.intro | omega) ?_)
      (first | refine SV_p (by first | exact True.intro | omega) ?_ | refine HV_p (by first | exact True.intro | omega) ?_)
      refine SU_store d1 (by rw [wv_len, hml]; omega) rfl fun w9 e1 h9 => ?_
      rw [Int.toNat_natCast, wv_set, wAt_mixed (by rw [hsl, hal]) (by omega), ← S8.add_at s r (by omega), set_mixed (by rw [hsl, hal]) (by omega)] at e1
      (first | refine SV_p (by first | exact True.intro | omega) ?_ | refine HV_p (by first | exact True.intro | omega) ?_)
      refine ⟨⟨i + 1, rfl, by omega, e1, d3.ch h9 n13, ?_⟩, ?_⟩
      · exact h8.trans' h9 (fun i hi hi' => by subst hi'; omega)
      · show (8 - ((i : Int) + 1)).toNat < (8 - (i : Int)).toNat
        omega
    · have : i = 8 := by omega
      subst this
      have e1 : Blk w8 g1 200 (wv (s.add r).l) := by rw [mixed_all (S8.l_len s) (S8.l_len _)] at d1; exact d1
      refine SV_loadB e1 (by rw [wv_len]; rfl) ?_
      refine SU_storeB d3 (by rw [wv_len]; rfl) rfl (wv_ones _) fun w9 e3 h9 => ?_
      refine CR_N e3 (by rw [wv_len]; rfl) ?_
      refine ⟨?_, h8.trans' h9 (fun i hi hi' => by subst hi'; have := h1.size; have := h2.size; omega)⟩
      unfold sstep
      rw [hr]
end Go.Proofs.YtkdghnbogkbedaaGreatDoor
