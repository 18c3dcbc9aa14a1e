/-
  The reference's SHA-256: a step.
-/
import Derived.Test.YtkdghnbogkbedaaGreatDoorRef02
namespace Go.Sh
open Go Go.RowKit
theorem zeros_len (n : Nat) : (List.replicate n (0 : UInt32)).length = n := by simp
end Go.Sh
namespace Go.Proofs.YtkdghnbogkbedaaGreatDoor
open Go Go.Sh Go.RowKit
set_option maxRecDepth 100000
set_option maxHeartbeats 1000000
set_option linter.unusedSimpArgs false
set_option linter.unusedVariables false

theorem ref_step (s : S8) (blk : List UInt32) (hb : blk.length = 16) (w : World) : Ret Tryz.prog 149 #[ag (wv s.l), ag (wv blk)] w (ag (wv (sstep s blk).l)) := by
  refine c149 ?_
  unfold s149
  refine SV_box (vs := wv s.l) rfl fun g1 w1 hg1 b1 h1 => ?_
  refine SV_box (vs := wv blk) rfl fun g2 w2 hg2 b2 h2 => ?_
  refine SV_alloc fun g3 w3 hg3 b3 h3 => ?_
  refine n229 ((ref_keys w3).use fun w4 h4 => ?_)
  refine SV_alloc fun g5 w5 hg5 b5 h5 => ?_
  refine SU_storeB b5 (by rw [wv_len]; rfl) rfl (wv_ones _) fun w6 b5 h6 => ?_
  refine SV_alloc fun g6 w7 hg6 b6 h7 => ?_
  have z1 := h1.size
  have z2 := h2.size
  have z3 := h3.size
  have z4 := h4.size
  have z5 := h5.size
  have z6 := h6.size
  have z7 := h7.size
  have l1 := b1.lt
  have l2 := b2.lt
  have l3 := b3.lt
  have l5 := b5.lt
  have hc5 : Ch No w w5 := h1.trans (h2.trans (h3.trans (h4.trans h5)))
  have hc7 : Ch No w w7 := (hc5.own h6 (by omega)).trans h7
  have b1 : Blk w7 g1 200 (wv s.l) := (((((b1.no h2).no h3).no h4).no h5).ch h6 (by omega)).no h7
  have b2 : Blk w7 g2 202 (wv blk) := ((((b2.no h3).no h4).no h5).ch h6 (by omega)).no h7
  have b3 := (((b3.no h4).no h5).ch h6 (by omega)).no h7
  have b5 := b5.no h7
  have hSl := sched_len hb
  have hZl := zeros_len 64
  rw [wv_zero] at b6
  refine LP_intro (fun us w' => ∃ t : Nat, us = [.int .i64 t] ∧ t ≤ 64 ∧ Blk w' g6 258 (wv ((sched blk).take t ++ (List.replicate 64 0).drop t)) ∧ Ch (· = g6) w7 w') (fun us _ => match us with | [.int _ t] => (64 - t).toNat | _ => 0)
    ⟨0, rfl, by decide, by rw [mixed_zero]; exact b6, Ch.refl _⟩ ?_
  rintro us hus ζ w8 ⟨t, rfl, ht, c6, h8⟩
  unfold s149_l3
  simp only [List.getD_cons_zero, List.getD_cons_succ]
  have hml := mixed_len hZl hSl ht
  (first | refine SV_p (by first | exact True.intro | omega | (simp only [List.length_append, List.length_cons, List.length_nil, List.length_replicate, List.length_map]; omega)) ?_ | refine HV_p (by first | exact True.intro | omega | (simp only [List.length_append, List.length_cons, List.length_nil, List.length_replicate, List.length_map]; omega)) ?_)
  refine CN_split (fun hlt => ?_) (fun hge => ?_)
  · refine JP_cut (fun _ w' => Blk w' g6 258 (wv ((sched blk).take (t + 1) ++ (List.replicate 64 0).drop (t + 1))) ∧ Ch (· = g6) w7 w') ?_ ?_
    · (first | refine SV_p (by first | exact True.intro | omega | (simp only [List.length_append, List.length_cons, List.length_nil, List.length_replicate, List.length_map]; omega)) ?_ | refine HV_p (by first | exact True.intro | omega | (simp only [List.length_append, List.length_cons, List.length_nil, List.length_replicate, List.length_map]; omega)) ?_)
      refine CN_split (fun h16 => ?_) (fun h16 => ?_)
      · (first | refine SV_p (by first | exact True.intro | omega | (simp only [List.length_append, List.length_cons, List.length_nil, List.length_replicate, List.length_map]; omega)) ?_ | refine HV_p (by first | exact True.intro | omega | (simp only [List.length_append, List.length_cons, List.length_nil, List.length_replicate, List.length_map]; omega)) ?_)
        refine SV_load (b2.ch h8 (by omega)) (wv_get (by omega)) ?_
        (first | refine SV_p (by first | exact True.intro | omega | (simp only [List.length_append, List.length_cons, List.length_nil, List.length_replicate, List.length_map]; omega)) ?_ | refine HV_p (by first | exact True.intro | omega | (simp only [List.length_append, List.length_cons, List.length_nil, List.length_replicate, List.length_map]; omega)) ?_)
        refine SU_store c6 (by rw [wv_len, hml]; omega) rfl fun w9 d6 h9 => ?_
        rw [Int.toNat_natCast, wv_set, ← sched_lo hb (by omega), set_mixed (by rw [hZl, hSl]) (by rw [hZl]; omega)] at d6
        exact ⟨d6, h8.trans h9⟩
      · have e2 : ((t : Int) - 2).toNat = t - 2 := by omega
        have e7 : ((t : Int) - 7).toNat = t - 7 := by omega
        have e15 : ((t : Int) - 15).toNat = t - 15 := by omega
        have e16 : ((t : Int) - 16).toNat = t - 16 := by omega
        (first | refine SV_p (by first | exact True.intro | omega | (simp only [List.length_append, List.length_cons, List.length_nil, List.length_replicate, List.length_map]; omega)) ?_ | refine HV_p (by first | exact True.intro | omega | (simp only [List.length_append, List.length_cons, List.length_nil, List.length_replicate, List.length_map]; omega)) ?_)
        (first | refine SV_p (by first | exact True.intro | omega | (simp only [List.length_append, List.length_cons, List.length_nil, List.length_replicate, List.length_map]; omega)) ?_ | refine HV_p (by first | exact True.intro | omega | (simp only [List.length_append, List.length_cons, List.length_nil, List.length_replicate, List.length_map]; omega)) ?_)
        refine SV_load c6 (wv_get (by rw [hml]; omega)) ?_
        (first | refine SV_p (by first | exact True.intro | omega | (simp only [List.length_append, List.length_cons, List.length_nil, List.length_replicate, List.length_map]; omega)) ?_ | refine HV_p (by first | exact True.intro | omega | (simp only [List.length_append, List.length_cons, List.length_nil, List.length_replicate, List.length_map]; omega)) ?_)
        (first | refine SV_p (by first | exact True.intro | omega | (simp only [List.length_append, List.length_cons, List.length_nil, List.length_replicate, List.length_map]; omega)) ?_ | refine HV_p (by first | exact True.intro | omega | (simp only [List.length_append, List.length_cons, List.length_nil, List.length_replicate, List.length_map]; omega)) ?_)
        refine SV_load c6 (wv_get (by rw [hml]; omega)) ?_
        rw [e2, e15, wAt_mixed' (by omega) (by omega), wAt_mixed' (by omega) (by omega)]
        refine n230 ((ref_rotr _ 17 (by omega) _).use fun wa ha => ?_)
        refine n230 ((ref_rotr _ 19 (by omega) _).use fun wb hb' => ?_)
        (first | refine SV_p (by first | exact True.intro | omega | (simp only [List.length_append, List.length_cons, List.length_nil, List.length_replicate, List.length_map]; omega)) ?_ | refine HV_p (by first | exact True.intro | omega | (simp only [List.length_append, List.length_cons, List.length_nil, List.length_replicate, List.length_map]; omega)) ?_)
        (first | refine SV_p (by first | exact True.intro | omega | (simp only [List.length_append, List.length_cons, List.length_nil, List.length_replicate, List.length_map]; omega)) ?_ | refine HV_p (by first | exact True.intro | omega | (simp only [List.length_append, List.length_cons, List.length_nil, List.length_replicate, List.length_map]; omega)) ?_)
        (first | refine SV_p (by first | exact True.intro | omega | (simp only [List.length_append, List.length_cons, List.length_nil, List.length_replicate, List.length_map]; omega)) ?_ | refine HV_p (by first | exact True.intro | omega | (simp only [List.length_append, List.length_cons, List.length_nil, List.length_replicate, List.length_map]; omega)) ?_)
        refine n230 ((ref_rotr _ 7 (by omega) _).use fun wc hc => ?_)
        refine n230 ((ref_rotr _ 18 (by omega) _).use fun wd hd => ?_)
        (first | refine SV_p (by first | exact True.intro | omega | (simp only [List.length_append, List.length_cons, List.length_nil, List.length_replicate, List.length_map]; omega)) ?_ | refine HV_p (by first | exact True.intro | omega | (simp only [List.length_append, List.length_cons, List.length_nil, List.length_replicate, List.length_map]; omega)) ?_)
        (first | refine SV_p (by first | exact True.intro | omega | (simp only [List.length_append, List.length_cons, List.length_nil, List.length_replicate, List.length_map]; omega)) ?_ | refine HV_p (by first | exact True.intro | omega | (simp only [List.length_append, List.length_cons, List.length_nil, List.length_replicate, List.length_map]; omega)) ?_)
        (first | refine SV_p (by first | exact True.intro | omega | (simp only [List.length_append, List.length_cons, List.length_nil, List.length_replicate, List.length_map]; omega)) ?_ | refine HV_p (by first | exact True.intro | omega | (simp only [List.length_append, List.length_cons, List.length_nil, List.length_replicate, List.length_map]; omega)) ?_)
        have hx := ha.trans (hb'.trans (hc.trans hd))
        have c6 := c6.no hx
        refine HR_kp No ?_
        (first | refine SV_p (by first | exact True.intro | omega | (simp only [List.length_append, List.length_cons, List.length_nil, List.length_replicate, List.length_map]; omega)) ?_ | refine HV_p (by first | exact True.intro | omega | (simp only [List.length_append, List.length_cons, List.length_nil, List.length_replicate, List.length_map]; omega)) ?_)
        (first | refine SV_p (by first | exact True.intro | omega | (simp only [List.length_append, List.length_cons, List.length_nil, List.length_replicate, List.length_map]; omega)) ?_ | refine HV_p (by first | exact True.intro | omega | (simp only [List.length_append, List.length_cons, List.length_nil, List.length_replicate, List.length_map]; omega)) ?_)
        refine HV_load c6 (fun h => h) (wv_get (by rw [hml]; omega)) ?_
        (first | refine SV_p (by first | exact True.intro | omega | (simp only [List.length_append, List.length_cons, List.length_nil, List.length_replicate, List.length_map]; omega)) ?_ | refine HV_p (by first | exact True.intro | omega | (simp only [List.length_append, List.length_cons, List.length_nil, List.length_replicate, List.length_map]; omega)) ?_)
        (first | refine SV_p (by first | exact True.intro | omega | (simp only [List.length_append, List.length_cons, List.length_nil, List.length_replicate, List.length_map]; omega)) ?_ | refine HV_p (by first | exact True.intro | omega | (simp only [List.length_append, List.length_cons, List.length_nil, List.length_replicate, List.length_map]; omega)) ?_)
        (first | refine SV_p (by first | exact True.intro | omega | (simp only [List.length_append, List.length_cons, List.length_nil, List.length_replicate, List.length_map]; omega)) ?_ | refine HV_p (by first | exact True.intro | omega | (simp only [List.length_append, List.length_cons, List.length_nil, List.length_replicate, List.length_map]; omega)) ?_)
        (first | refine SV_p (by first | exact True.intro | omega | (simp only [List.length_append, List.length_cons, List.length_nil, List.length_replicate, List.length_map]; omega)) ?_ | refine HV_p (by first | exact True.intro | omega | (simp only [List.length_append, List.length_cons, List.length_nil, List.length_replicate, List.length_map]; omega)) ?_)
        refine HV_load c6 (fun h => h) (wv_get (by rw [hml]; omega)) ?_
        (first | refine SV_p (by first | exact True.intro | omega | (simp only [List.length_append, List.length_cons, List.length_nil, List.length_replicate, List.length_map]; omega)) ?_ | refine HV_p (by first | exact True.intro | omega | (simp only [List.length_append, List.length_cons, List.length_nil, List.length_replicate, List.length_map]; omega)) ?_)
        (first | refine SV_p (by first | exact True.intro | omega | (simp only [List.length_append, List.length_cons, List.length_nil, List.length_replicate, List.length_map]; omega)) ?_ | refine HV_p (by first | exact True.intro | omega | (simp only [List.length_append, List.length_cons, List.length_nil, List.length_replicate, List.length_map]; omega)) ?_)
        rw [e7, e16, wAt_mixed' (by omega) (by omega), wAt_mixed' (by omega) (by omega)]
        refine SU_store c6.drew (by rw [wv_len, hml]; omega) rfl fun w9 d6 h9 => ?_
        have eq : (rotr (wAt (sched blk) (t - 2)) 17 ^^^ rotr (wAt (sched blk) (t - 2)) 19 ^^^ shr32 (wAt (sched blk) (t - 2)) (10 : Int).toNat) + wAt (sched blk) (t - 7) +
            (rotr (wAt (sched blk) (t - 15)) 7 ^^^ rotr (wAt (sched blk) (t - 15)) 18 ^^^ shr32 (wAt (sched blk) (t - 15)) (3 : Int).toNat) + wAt (sched blk) (t - 16) = wAt (sched blk) t := by
          rw [sched_hi (t := t) hb (by omega) (by omega)]
          unfold mix
          rfl
        rw [Int.toNat_natCast, wv_set, eq, set_mixed (by rw [hZl, hSl]) (by rw [hZl]; omega)] at d6
        exact ⟨d6, h8.trans (hx.no.trans ((Ch.drew _).trans h9))⟩
    · rintro us hus ζ w9 ⟨d6, h9⟩
      unfold s149_j1
      (first | refine SV_p (by first | exact True.intro | omega | (simp only [List.length_append, List.length_cons, List.length_nil, List.length_replicate, List.length_map]; omega)) ?_ | refine HV_p (by first | exact True.intro | omega | (simp only [List.length_append, List.length_cons, List.length_nil, List.length_replicate, List.length_map]; omega)) ?_)
      refine ⟨⟨t + 1, rfl, by omega, d6, h9⟩, ?_⟩
      show (64 - ((t : Int) + 1)).toNat < (64 - (t : Int)).toNat
      omega
  · have : t = 64 := by omega
    subst this
    rw [mixed_all hZl hSl] at c6
    have b1 := b1.ch h8 (by omega)
    have b3 := b3.ch h8 (by omega)
    have b5 := b5.ch h8 (by omega)
    have hc8 : Ch No w w8 := hc7.own h8 (by omega)
    have z8 := h8.size
    have l1 := b1.lt
    have l3 := b3.lt
    have l5 := b5.lt
    have l6 := c6.lt
    refine SV_loadB b1 (by rw [wv_len]; rfl) ?_
    refine SV_alloc fun g9 w9 hg9 b9 h9 => ?_
    refine SU_storeB b9 (by rw [wv_len]; rfl) rfl (wv_ones _) fun w10 b9 h10 => ?_
    have z9 := h9.size
    have z10 := h10.size
    have b1 := (b1.no h9).ch h10 (by omega)
    have b3 := (b3.no h9).ch h10 (by omega)
    have b5 := (b5.no h9).ch h10 (by omega)
    have b6 := (c6.no h9).ch h10 (by omega)
    have hc10 : Ch No w w10 := (hc8.trans h9).own h10 (by omega)
    generalize hS : sched blk = S at b6 hSl
    refine LP_intro (fun us w' => ∃ t : Nat, us = [.int .i64 t] ∧ t ≤ 64 ∧ Blk w' g9 200 (wv (rounds s S t).l) ∧ Ch (· = g9) w10 w') (fun us _ => match us with | [.int _ t] => (64 - t).toNat | _ => 0)
      ⟨0, rfl, by decide, b9, Ch.refl _⟩ ?_
    rintro us hus ζ w11 ⟨t, rfl, ht, c9, h11⟩
    unfold s149_l2
    simp only [List.getD_cons_zero, List.getD_cons_succ]
    (first | refine SV_p (by first | exact True.intro | omega | (simp only [List.length_append, List.length_cons, List.length_nil, List.length_replicate, List.length_map]; omega)) ?_ | refine HV_p (by first | exact True.intro | omega | (simp only [List.length_append, List.length_cons, List.length_nil, List.length_replicate, List.length_map]; omega)) ?_)
    refine CN_split (fun hlt => ?_) (fun hge => ?_)
    · have hKl := keys_len
      have b5 := b5.ch h11 (by omega)
      have b6 := b6.ch h11 (by omega)
      generalize hr : rounds s S t = r at c9
      (first | refine SV_p (by first | exact True.intro | omega | (simp only [List.length_append, List.length_cons, List.length_nil, List.length_replicate, List.length_map]; omega)) ?_ | refine HV_p (by first | exact True.intro | omega | (simp only [List.length_append, List.length_cons, List.length_nil, List.length_replicate, List.length_map]; omega)) ?_)
      refine SV_load c9 (v := w32 r.a) rfl ?_
      (first | refine SV_p (by first | exact True.intro | omega | (simp only [List.length_append, List.length_cons, List.length_nil, List.length_replicate, List.length_map]; omega)) ?_ | refine HV_p (by first | exact True.intro | omega | (simp only [List.length_append, List.length_cons, List.length_nil, List.length_replicate, List.length_map]; omega)) ?_)
      refine SV_load c9 (v := w32 r.e) rfl ?_
      refine HR_kp No ?_
      (first | refine SV_p (by first | exact True.intro | omega | (simp only [List.length_append, List.length_cons, List.length_nil, List.length_replicate, List.length_map]; omega)) ?_ | refine HV_p (by first | exact True.intro | omega | (simp only [List.length_append, List.length_cons, List.length_nil, List.length_replicate, List.length_map]; omega)) ?_)
      refine HV_load c9 (fun h => h) (v := w32 r.h) rfl ?_
      refine n230 ((ref_rotr _ 6 (by omega) _).use fun wa ha => ?_)
      have ha' : Ch No w11 wa := (Ch.drew _).trans ha
      (first | refine RS_same (ha') ?_ | refine ⟨ha', ?_⟩)
      refine n230 ((ref_rotr _ 11 (by omega) _).use fun wb hb' => ?_)
      (first | refine RS_same (ha'.trans hb') ?_ | refine ⟨ha'.trans hb', ?_⟩)
      (first | refine SV_p (by first | exact True.intro | omega | (simp only [List.length_append, List.length_cons, List.length_nil, List.length_replicate, List.length_map]; omega)) ?_ | refine HV_p (by first | exact True.intro | omega | (simp only [List.length_append, List.length_cons, List.length_nil, List.length_replicate, List.length_map]; omega)) ?_)
      refine n230 ((ref_rotr _ 25 (by omega) _).use fun wc hc => ?_)
      have hc' : Ch No w11 wc := ha'.trans (hb'.trans hc)
      (first | refine RS_same (hc') ?_ | refine ⟨hc', ?_⟩)
      (first | refine SV_p (by first | exact True.intro | omega | (simp only [List.length_append, List.length_cons, List.length_nil, List.length_replicate, List.length_map]; omega)) ?_ | refine HV_p (by first | exact True.intro | omega | (simp only [List.length_append, List.length_cons, List.length_nil, List.length_replicate, List.length_map]; omega)) ?_)
      (first | refine SV_p (by first | exact True.intro | omega | (simp only [List.length_append, List.length_cons, List.length_nil, List.length_replicate, List.length_map]; omega)) ?_ | refine HV_p (by first | exact True.intro | omega | (simp only [List.length_append, List.length_cons, List.length_nil, List.length_replicate, List.length_map]; omega)) ?_)
      (first | refine SV_p (by first | exact True.intro | omega | (simp only [List.length_append, List.length_cons, List.length_nil, List.length_replicate, List.length_map]; omega)) ?_ | refine HV_p (by first | exact True.intro | omega | (simp only [List.length_append, List.length_cons, List.length_nil, List.length_replicate, List.length_map]; omega)) ?_)
      refine HV_load c9 (fun h => h) (v := w32 r.f) rfl ?_
      (first | refine SV_p (by first | exact True.intro | omega | (simp only [List.length_append, List.length_cons, List.length_nil, List.length_replicate, List.length_map]; omega)) ?_ | refine HV_p (by first | exact True.intro | omega | (simp only [List.length_append, List.length_cons, List.length_nil, List.length_replicate, List.length_map]; omega)) ?_)
      (first | refine SV_p (by first | exact True.intro | omega | (simp only [List.length_append, List.length_cons, List.length_nil, List.length_replicate, List.length_map]; omega)) ?_ | refine HV_p (by first | exact True.intro | omega | (simp only [List.length_append, List.length_cons, List.length_nil, List.length_replicate, List.length_map]; omega)) ?_)
      (first | refine SV_p (by first | exact True.intro | omega | (simp only [List.length_append, List.length_cons, List.length_nil, List.length_replicate, List.length_map]; omega)) ?_ | refine HV_p (by first | exact True.intro | omega | (simp only [List.length_append, List.length_cons, List.length_nil, List.length_replicate, List.length_map]; omega)) ?_)
      refine HV_load c9 (fun h => h) (v := w32 r.g) rfl ?_
      (first | refine SV_p (by first | exact True.intro | omega | (simp only [List.length_append, List.length_cons, List.length_nil, List.length_replicate, List.length_map]; omega)) ?_ | refine HV_p (by first | exact True.intro | omega | (simp only [List.length_append, List.length_cons, List.length_nil, List.length_replicate, List.length_map]; omega)) ?_)
      (first | refine SV_p (by first | exact True.intro | omega | (simp only [List.length_append, List.length_cons, List.length_nil, List.length_replicate, List.length_map]; omega)) ?_ | refine HV_p (by first | exact True.intro | omega | (simp only [List.length_append, List.length_cons, List.length_nil, List.length_replicate, List.length_map]; omega)) ?_)
      (first | refine SV_p (by first | exact True.intro | omega | (simp only [List.length_append, List.length_cons, List.length_nil, List.length_replicate, List.length_map]; omega)) ?_ | refine HV_p (by first | exact True.intro | omega | (simp only [List.length_append, List.length_cons, List.length_nil, List.length_replicate, List.length_map]; omega)) ?_)
      (first | refine SV_p (by first | exact True.intro | omega | (simp only [List.length_append, List.length_cons, List.length_nil, List.length_replicate, List.length_map]; omega)) ?_ | refine HV_p (by first | exact True.intro | omega | (simp only [List.length_append, List.length_cons, List.length_nil, List.length_replicate, List.length_map]; omega)) ?_)
      refine HV_load b5 (fun h => h) (wv_get (by omega)) ?_
      (first | refine SV_p (by first | exact True.intro | omega | (simp only [List.length_append, List.length_cons, List.length_nil, List.length_replicate, List.length_map]; omega)) ?_ | refine HV_p (by first | exact True.intro | omega | (simp only [List.length_append, List.length_cons, List.length_nil, List.length_replicate, List.length_map]; omega)) ?_)
      (first | refine SV_p (by first | exact True.intro | omega | (simp only [List.length_append, List.length_cons, List.length_nil, List.length_replicate, List.length_map]; omega)) ?_ | refine HV_p (by first | exact True.intro | omega | (simp only [List.length_append, List.length_cons, List.length_nil, List.length_replicate, List.length_map]; omega)) ?_)
      refine HV_load b6 (fun h => h) (wv_get (by omega)) ?_
      (first | refine SV_p (by first | exact True.intro | omega | (simp only [List.length_append, List.length_cons, List.length_nil, List.length_replicate, List.length_map]; omega)) ?_ | refine HV_p (by first | exact True.intro | omega | (simp only [List.length_append, List.length_cons, List.length_nil, List.length_replicate, List.length_map]; omega)) ?_)
      have c9 := c9.no hc'
      refine HR_kp No ?_
      refine n230 ((ref_rotr _ 2 (by omega) _).use fun wa2 ha2 => ?_)
      have ha2' : Ch No wc wa2 := (Ch.drew _).trans ha2
      (first | refine RS_same (ha2') ?_ | refine ⟨ha2', ?_⟩)
      refine n230 ((ref_rotr _ 13 (by omega) _).use fun wb2 hb2 => ?_)
      (first | refine RS_same (ha2'.trans hb2) ?_ | refine ⟨ha2'.trans hb2, ?_⟩)
      (first | refine SV_p (by first | exact True.intro | omega | (simp only [List.length_append, List.length_cons, List.length_nil, List.length_replicate, List.length_map]; omega)) ?_ | refine HV_p (by first | exact True.intro | omega | (simp only [List.length_append, List.length_cons, List.length_nil, List.length_replicate, List.length_map]; omega)) ?_)
      refine n230 ((ref_rotr _ 22 (by omega) _).use fun wc2 hc2 => ?_)
      have hc2' : Ch No wc wc2 := ha2'.trans (hb2.trans hc2)
      (first | refine RS_same (hc2') ?_ | refine ⟨hc2', ?_⟩)
      (first | refine SV_p (by first | exact True.intro | omega | (simp only [List.length_append, List.length_cons, List.length_nil, List.length_replicate, List.length_map]; omega)) ?_ | refine HV_p (by first | exact True.intro | omega | (simp only [List.length_append, List.length_cons, List.length_nil, List.length_replicate, List.length_map]; omega)) ?_)
      (first | refine SV_p (by first | exact True.intro | omega | (simp only [List.length_append, List.length_cons, List.length_nil, List.length_replicate, List.length_map]; omega)) ?_ | refine HV_p (by first | exact True.intro | omega | (simp only [List.length_append, List.length_cons, List.length_nil, List.length_replicate, List.length_map]; omega)) ?_)
      refine HV_load c9 (fun h => h) (v := w32 r.b) rfl ?_
      (first | refine SV_p (by first | exact True.intro | omega | (simp only [List.length_append, List.length_cons, List.length_nil, List.length_replicate, List.length_map]; omega)) ?_ | refine HV_p (by first | exact True.intro | omega | (simp only [List.length_append, List.length_cons, List.length_nil, List.length_replicate, List.length_map]; omega)) ?_)
      (first | refine SV_p (by first | exact True.intro | omega | (simp only [List.length_append, List.length_cons, List.length_nil, List.length_replicate, List.length_map]; omega)) ?_ | refine HV_p (by first | exact True.intro | omega | (simp only [List.length_append, List.length_cons, List.length_nil, List.length_replicate, List.length_map]; omega)) ?_)
      refine HV_load c9 (fun h => h) (v := w32 r.c) rfl ?_
      (first | refine SV_p (by first | exact True.intro | omega | (simp only [List.length_append, List.length_cons, List.length_nil, List.length_replicate, List.length_map]; omega)) ?_ | refine HV_p (by first | exact True.intro | omega | (simp only [List.length_append, List.length_cons, List.length_nil, List.length_replicate, List.length_map]; omega)) ?_)
      (first | refine SV_p (by first | exact True.intro | omega | (simp only [List.length_append, List.length_cons, List.length_nil, List.length_replicate, List.length_map]; omega)) ?_ | refine HV_p (by first | exact True.intro | omega | (simp only [List.length_append, List.length_cons, List.length_nil, List.length_replicate, List.length_map]; omega)) ?_)
      (first | refine SV_p (by first | exact True.intro | omega | (simp only [List.length_append, List.length_cons, List.length_nil, List.length_replicate, List.length_map]; omega)) ?_ | refine HV_p (by first | exact True.intro | omega | (simp only [List.length_append, List.length_cons, List.length_nil, List.length_replicate, List.length_map]; omega)) ?_)
      refine HV_load c9 (fun h => h) (v := w32 r.b) rfl ?_
      (first | refine SV_p (by first | exact True.intro | omega | (simp only [List.length_append, List.length_cons, List.length_nil, List.length_replicate, List.length_map]; omega)) ?_ | refine HV_p (by first | exact True.intro | omega | (simp only [List.length_append, List.length_cons, List.length_nil, List.length_replicate, List.length_map]; omega)) ?_)
      refine HV_load c9 (fun h => h) (v := w32 r.c) rfl ?_
      (first | refine SV_p (by first | exact True.intro | omega | (simp only [List.length_append, List.length_cons, List.length_nil, List.length_replicate, List.length_map]; omega)) ?_ | refine HV_p (by first | exact True.intro | omega | (simp only [List.length_append, List.length_cons, List.length_nil, List.length_replicate, List.length_map]; omega)) ?_)
      (first | refine SV_p (by first | exact True.intro | omega | (simp only [List.length_append, List.length_cons, List.length_nil, List.length_replicate, List.length_map]; omega)) ?_ | refine HV_p (by first | exact True.intro | omega | (simp only [List.length_append, List.length_cons, List.length_nil, List.length_replicate, List.length_map]; omega)) ?_)
      (first | refine SV_p (by first | exact True.intro | omega | (simp only [List.length_append, List.length_cons, List.length_nil, List.length_replicate, List.length_map]; omega)) ?_ | refine HV_p (by first | exact True.intro | omega | (simp only [List.length_append, List.length_cons, List.length_nil, List.length_replicate, List.length_map]; omega)) ?_)
      have c9 := c9.no hc2'
      (first | refine SV_p (by first | exact True.intro | omega | (simp only [List.length_append, List.length_cons, List.length_nil, List.length_replicate, List.length_map]; omega)) ?_ | refine HV_p (by first | exact True.intro | omega | (simp only [List.length_append, List.length_cons, List.length_nil, List.length_replicate, List.length_map]; omega)) ?_)
      (first | refine SV_p (by first | exact True.intro | omega | (simp only [List.length_append, List.length_cons, List.length_nil, List.length_replicate, List.length_map]; omega)) ?_ | refine HV_p (by first | exact True.intro | omega | (simp only [List.length_append, List.length_cons, List.length_nil, List.length_replicate, List.length_map]; omega)) ?_)
      refine SV_load c9 (v := w32 r.a) rfl ?_
      (first | refine SV_p (by first | exact True.intro | omega | (simp only [List.length_append, List.length_cons, List.length_nil, List.length_replicate, List.length_map]; omega)) ?_ | refine HV_p (by first | exact True.intro | omega | (simp only [List.length_append, List.length_cons, List.length_nil, List.length_replicate, List.length_map]; omega)) ?_)
      refine SV_load c9 (v := w32 r.b) rfl ?_
      (first | refine SV_p (by first | exact True.intro | omega | (simp only [List.length_append, List.length_cons, List.length_nil, List.length_replicate, List.length_map]; omega)) ?_ | refine HV_p (by first | exact True.intro | omega | (simp only [List.length_append, List.length_cons, List.length_nil, List.length_replicate, List.length_map]; omega)) ?_)
      refine SV_load c9 (v := w32 r.c) rfl ?_
      (first | refine SV_p (by first | exact True.intro | omega | (simp only [List.length_append, List.length_cons, List.length_nil, List.length_replicate, List.length_map]; omega)) ?_ | refine HV_p (by first | exact True.intro | omega | (simp only [List.length_append, List.length_cons, List.length_nil, List.length_replicate, List.length_map]; omega)) ?_)
      refine SV_load c9 (v := w32 r.d) rfl ?_
      (first | refine SV_p (by first | exact True.intro | omega | (simp only [List.length_append, List.length_cons, List.length_nil, List.length_replicate, List.length_map]; omega)) ?_ | refine HV_p (by first | exact True.intro | omega | (simp only [List.length_append, List.length_cons, List.length_nil, List.length_replicate, List.length_map]; omega)) ?_)
      (first | refine SV_p (by first | exact True.intro | omega | (simp only [List.length_append, List.length_cons, List.length_nil, List.length_replicate, List.length_map]; omega)) ?_ | refine HV_p (by first | exact True.intro | omega | (simp only [List.length_append, List.length_cons, List.length_nil, List.length_replicate, List.length_map]; omega)) ?_)
      refine SV_load c9 (v := w32 r.e) rfl ?_
      (first | refine SV_p (by first | exact True.intro | omega | (simp only [List.length_append, List.length_cons, List.length_nil, List.length_replicate, List.length_map]; omega)) ?_ | refine HV_p (by first | exact True.intro | omega | (simp only [List.length_append, List.length_cons, List.length_nil, List.length_replicate, List.length_map]; omega)) ?_)
      refine SV_load c9 (v := w32 r.f) rfl ?_
      (first | refine SV_p (by first | exact True.intro | omega | (simp only [List.length_append, List.length_cons, List.length_nil, List.length_replicate, List.length_map]; omega)) ?_ | refine HV_p (by first | exact True.intro | omega | (simp only [List.length_append, List.length_cons, List.length_nil, List.length_replicate, List.length_map]; omega)) ?_)
      refine SV_load c9 (v := w32 r.g) rfl ?_
      simp only [Int.toNat_natCast]
      generalize hkk : wAt keys t = kk
      generalize hww : wAt S t = ww
      refine SV_pu (pu_build (FillOk.cons rfl rfl rfl (FillOk.cons rfl rfl rfl (FillOk.cons rfl rfl rfl (FillOk.cons rfl rfl rfl (FillOk.cons rfl rfl rfl (FillOk.cons rfl rfl rfl (FillOk.cons rfl rfl rfl (FillOk.cons rfl rfl rfl (FillOk.nil _)))))))))) ?_
      refine SU_storeB c9 (vs := wv (round r kk ww).l) (by rw [wv_len]; rfl) (by rw [wv_len]; rfl) (wv_ones _) fun w12 c9 h12 => ?_
      (first | refine SV_p (by first | exact True.intro | omega | (simp only [List.length_append, List.length_cons, List.length_nil, List.length_replicate, List.length_map]; omega)) ?_ | refine HV_p (by first | exact True.intro | omega | (simp only [List.length_append, List.length_cons, List.length_nil, List.length_replicate, List.length_map]; omega)) ?_)
      refine ⟨⟨t + 1, rfl, by omega, ?_, h11.trans (hc'.no.trans (hc2'.no.trans h12))⟩, ?_⟩
      · rw [rnd_succ, hr, hkk, hww]; exact c9
      · show (64 - ((t : Int) + 1)).toNat < (64 - (t : Int)).toNat
        omega
    · have : t = 64 := by omega
      subst this
      have b1 := b1.ch h11 (by omega)
      have b3 := b3.ch h11 (by omega)
      have hc11 : Ch No w w11 := hc10.own h11 (by omega)
      generalize hr : rounds s S 64 = r at c9
      have hrl := S8.l_len r
      have hsl := S8.l_len s
      have hal := S8.l_len (s.add r)
      refine LP_intro (fun us w' => ∃ i : Nat, us = [.int .i64 i] ∧ i ≤ 8 ∧ Blk w' g9 200 (wv ((s.add r).l.take i ++ r.l.drop i)) ∧ Ch (· = g9) w11 w') (fun us _ => match us with | [.int _ t] => (8 - t).toNat | _ => 0)
        ⟨0, rfl, by decide, by rw [mixed_zero]; exact c9, Ch.refl _⟩ ?_
      rintro us hus ζ w12 ⟨i, rfl, hi, d9, h12⟩
      unfold s149_l1
      simp only [List.getD_cons_zero, List.getD_cons_succ]
      have hml := mixed_len hrl hal hi
      have b1 := b1.ch h12 (by omega)
      (first | refine SV_p (by first | exact True.intro | omega | (simp only [List.length_append, List.length_cons, List.length_nil, List.length_replicate, List.length_map]; omega)) ?_ | refine HV_p (by first | exact True.intro | omega | (simp only [List.length_append, List.length_cons, List.length_nil, List.length_replicate, List.length_map]; omega)) ?_)
      refine CN_split (fun hlt => ?_) (fun hge => ?_)
      · refine HR_kp No ?_
        (first | refine SV_p (by first | exact True.intro | omega | (simp only [List.length_append, List.length_cons, List.length_nil, List.length_replicate, List.length_map]; omega)) ?_ | refine HV_p (by first | exact True.intro | omega | (simp only [List.length_append, List.length_cons, List.length_nil, List.length_replicate, List.length_map]; omega)) ?_)
        refine HV_load d9 (fun h => h) (wv_get (by rw [hml]; omega)) ?_
        (first | refine SV_p (by first | exact True.intro | omega | (simp only [List.length_append, List.length_cons, List.length_nil, List.length_replicate, List.length_map]; omega)) ?_ | refine HV_p (by first | exact True.intro | omega | (simp only [List.length_append, List.length_cons, List.length_nil, List.length_replicate, List.length_map]; omega)) ?_)
        refine HV_load b1 (fun h => h) (wv_get (by rw [hsl]; omega)) ?_
        (first | refine SV_p (by first | exact True.intro | omega | (simp only [List.length_append, List.length_cons, List.length_nil, List.length_replicate, List.length_map]; omega)) ?_ | refine HV_p (by first | exact True.intro | omega | (simp only [List.length_append, List.length_cons, List.length_nil, List.length_replicate, List.length_map]; omega)) ?_)
        (first | refine SV_p (by first | exact True.intro | omega | (simp only [List.length_append, List.length_cons, List.length_nil, List.length_replicate, List.length_map]; omega)) ?_ | refine HV_p (by first | exact True.intro | omega | (simp only [List.length_append, List.length_cons, List.length_nil, List.length_replicate, List.length_map]; omega)) ?_)
        refine SU_store d9.drew (by rw [wv_len, hml]; omega) rfl fun w13 e9 h13 => ?_
        rw [Int.toNat_natCast, wv_set, wAt_mixed (by rw [hrl, hal]) (by omega), UInt32.add_comm, ← S8.add_at s r (by omega), set_mixed (by rw [hrl, hal]) (by omega)] at e9
        (first | refine SV_p (by first | exact True.intro | omega | (simp only [List.length_append, List.length_cons, List.length_nil, List.length_replicate, List.length_map]; omega)) ?_ | refine HV_p (by first | exact True.intro | omega | (simp only [List.length_append, List.length_cons, List.length_nil, List.length_replicate, List.length_map]; omega)) ?_)
        refine ⟨⟨i + 1, rfl, by omega, e9, h12.trans ((Ch.drew _).trans h13)⟩, ?_⟩
        show (8 - ((i : Int) + 1)).toNat < (8 - (i : Int)).toNat
        omega
      · have : i = 8 := by omega
        subst this
        rw [mixed_all hrl hal] at d9
        refine SV_loadB d9 (by rw [wv_len]; rfl) ?_
        refine SU_storeB (b3.ch h12 (by omega)) (by rw [wv_len]; rfl) rfl (wv_ones _) fun w13 e3 h13 => ?_
        refine CR_N e3 (by rw [wv_len]; rfl) ?_
        refine ⟨?_, (hc11.own h12 (by omega)).own h13 (by omega)⟩
        unfold sstep
        rw [hS, hr]
end Go.Proofs.YtkdghnbogkbedaaGreatDoor
