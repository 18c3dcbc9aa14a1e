/-
  The reference's SHA-256 of a text.
-/
import Derived.Test.YtkdghnbogkbedaaGreatDoorRef02b
namespace Go.Sh
open Go Go.RowKit

theorem blocks_nil (s : S8) : blocks s [] = (s, []) := blocks_lt (by simp)
theorem lenBytes_take {n i : Nat} (h : i < 8) : (lenBytes n).take (i + 1) = (lenBytes n).take i ++ [UInt8.ofNat (n / 2 ^ (8 * (7 - i)))] := by
  have hl : (lenBytes n).length = 8 := by simp [lenBytes]
  rw [List.take_succ_eq_append_getElem (by omega)]
  simp [lenBytes]
theorem pad_len (n : Nat) : (n + (padOf n).length) % 64 = 0 := by
  simp only [padOf, List.length_cons, List.length_append, List.length_replicate, lenBytes, List.length_map, List.length_range]
  omega
theorem drop_getD {l : List UInt8} {a i : Nat} : (l.drop a).getD i 0 = l.getD (a + i) 0 := by simp [List.getD]
end Go.Sh
namespace Go.Proofs.YtkdghnbogkbedaaGreatDoor
open Go Go.Sh Go.RowKit
set_option maxRecDepth 100000
set_option maxHeartbeats 1000000
set_option linter.unusedSimpArgs false
set_option linter.unusedVariables false

theorem ref_of (m : List UInt8) (w : World) (hb : m.length ≤ 1000000000) : Ret Tryz.prog 81 #[str m] w (sha m).v := by
  refine c81 ?_
  unfold s81
  refine SV_alloc fun g2 w1 hg2 b2 h1 => ?_
  (first | refine SV_p (by first | exact True.intro | omega | (simp only [List.length_append, List.length_cons, List.length_nil, List.length_replicate, List.length_map]; omega)) ?_ | refine HV_p (by first | exact True.intro | omega | (simp only [List.length_append, List.length_cons, List.length_nil, List.length_replicate, List.length_map]; omega)) ?_)
  have z1 := h1.size
  have l2 := b2.lt
  -- the zeros
  refine LP_intro (fun us w' => ∃ j : Nat, us = [str (m ++ [128] ++ List.replicate j 0)] ∧ j ≤ (119 - m.length % 64) % 64 ∧ w1 = w') (fun us _ => match us with | [.string b] => m.length + 65 - b.size | _ => 0)
    ⟨0, by simp, Nat.zero_le _, rfl⟩ ?_
  rintro us hus ζ _ ⟨j, rfl, hj, rfl⟩
  unfold s81_l5
  simp only [List.getD_cons_zero, List.getD_cons_succ]
  have hlen : (m ++ [128] ++ List.replicate j (0 : UInt8)).length = m.length + 1 + j := by simp; omega
  (first | refine SV_p (by first | exact True.intro | omega | (simp only [List.length_append, List.length_cons, List.length_nil, List.length_replicate, List.length_map]; omega)) ?_ | refine HV_p (by first | exact True.intro | omega | (simp only [List.length_append, List.length_cons, List.length_nil, List.length_replicate, List.length_map]; omega)) ?_)
  (first | refine SV_p (by first | exact True.intro | omega | (simp only [List.length_append, List.length_cons, List.length_nil, List.length_replicate, List.length_map]; omega)) ?_ | refine HV_p (by first | exact True.intro | omega | (simp only [List.length_append, List.length_cons, List.length_nil, List.length_replicate, List.length_map]; omega)) ?_)
  (first | refine SV_p (by first | exact True.intro | omega | (simp only [List.length_append, List.length_cons, List.length_nil, List.length_replicate, List.length_map]; omega)) ?_ | refine HV_p (by first | exact True.intro | omega | (simp only [List.length_append, List.length_cons, List.length_nil, List.length_replicate, List.length_map]; omega)) ?_)
  rw [hlen]
  refine CN_split (fun hne => ?_) (fun heq => ?_)
  · (first | refine SV_p (by first | exact True.intro | omega | (simp only [List.length_append, List.length_cons, List.length_nil, List.length_replicate, List.length_map]; omega)) ?_ | refine HV_p (by first | exact True.intro | omega | (simp only [List.length_append, List.length_cons, List.length_nil, List.length_replicate, List.length_map]; omega)) ?_)
    refine ⟨⟨j + 1, ?_, by omega, rfl⟩, ?_⟩
    · rw [List.replicate_succ', List.append_assoc, List.append_assoc]
    · show m.length + 65 - (ByteArray.mk (m ++ [128] ++ List.replicate j 0 ++ [0]).toArray).size < m.length + 65 - (ByteArray.mk (m ++ [128] ++ List.replicate j 0).toArray).size
      rw [size_str, size_str, List.length_append, hlen]
      simp only [List.length_cons, List.length_nil]
      omega
  · have hj' : j = (119 - m.length % 64) % 64 := by omega
    have hq : m ++ [128] ++ List.replicate j 0 ++ lenBytes (8 * m.length % 18446744073709551616) = m ++ padOf m.length := by rw [hj']; simp [padOf]
    generalize hpre : m ++ [128] ++ List.replicate j 0 = pre at hq hlen ⊢
    (first | refine SV_p (by first | exact True.intro | omega | (simp only [List.length_append, List.length_cons, List.length_nil, List.length_replicate, List.length_map]; omega)) ?_ | refine HV_p (by first | exact True.intro | omega | (simp only [List.length_append, List.length_cons, List.length_nil, List.length_replicate, List.length_map]; omega)) ?_)
    refine SV_pu (w64_conv (by omega) (by omega)) ?_
    refine SV_pu (v := .int .u64 ((8 * m.length % 18446744073709551616 : Nat) : Int)) (fun w => by rw [pu_mul w, IntKind.wrap_u64]; congr 2; omega) ?_
    generalize hN : 8 * m.length % 18446744073709551616 = N at hq ⊢
    -- the length
    refine LP_intro (fun us w' => ∃ i : Nat, us = [str (pre ++ (lenBytes N).take i), .int .i64 (7 - (i : Int))] ∧ i ≤ 8 ∧ Ch No w1 w') (fun us _ => match us with | [_, .int _ t] => (t + 1).toNat | _ => 0)
      ⟨0, by simp, by decide, Ch.refl _⟩ ?_
    rintro us hus ζ w2 ⟨i, rfl, hi, h2⟩
    unfold s81_l4
    simp only [List.getD_cons_zero, List.getD_cons_succ]
    (first | refine SV_p (by first | exact True.intro | omega | (simp only [List.length_append, List.length_cons, List.length_nil, List.length_replicate, List.length_map]; omega)) ?_ | refine HV_p (by first | exact True.intro | omega | (simp only [List.length_append, List.length_cons, List.length_nil, List.length_replicate, List.length_map]; omega)) ?_)
    refine CN_split (fun hlt => ?_) (fun hge => ?_)
    · (first | refine SV_p (by first | exact True.intro | omega | (simp only [List.length_append, List.length_cons, List.length_nil, List.length_replicate, List.length_map]; omega)) ?_ | refine HV_p (by first | exact True.intro | omega | (simp only [List.length_append, List.length_cons, List.length_nil, List.length_replicate, List.length_map]; omega)) ?_)
      refine SV_pu (v := .int .u64 ((8 * (7 - i) : Nat) : Int)) (fun w => by rw [w64_conv (P := Tryz.prog) (by omega) (by omega) w]; congr 2; omega) ?_
      refine SV_pu (pu_w64shr (by omega) (by omega)) ?_
      refine SV_pu pu_648 ?_
      rw [Int.toNat_natCast]
      generalize hx : UInt8.ofNat (N / 2 ^ (8 * (7 - i))) = x
      refine SV_lits (e := 5) (sz := 1) [by_ x] [[by_ x]] rfl (fun i v hv => ?_) rfl rfl (by simp) fun g3 w3 hg3 b3 h3 ho => ?_
      · match i, hv with
        | 0, hv => simp only [List.getElem?_cons_zero, Option.some.injEq] at hv; subst hv; exact ⟨[by_ x], rfl, rfl, rfl⟩
        | i + 1, hv => simp at hv
      refine SV_bstr (l := [x]) (Rd.of_own ho) ?_
      have htl : ((lenBytes N).take i).length ≤ 8 := by simp [lenBytes]; omega
      refine SV_p (by simp only [List.length_append, List.length_cons, List.length_nil, hlen]; omega) ?_
      (first | refine SV_p (by first | exact True.intro | omega | (simp only [List.length_append, List.length_cons, List.length_nil, List.length_replicate, List.length_map]; omega)) ?_ | refine HV_p (by first | exact True.intro | omega | (simp only [List.length_append, List.length_cons, List.length_nil, List.length_replicate, List.length_map]; omega)) ?_)
      refine ⟨⟨i + 1, ?_, by omega, h2.trans h3⟩, ?_⟩
      · rw [lenBytes_take (by omega), hx, List.append_assoc]
        have : (7 : Int) - (i : Int) - 1 = 7 - ((i + 1 : Nat) : Int) := by omega
        rw [this]
      · show (7 - (i : Int) - 1 + 1).toNat < (7 - (i : Int) + 1).toNat
        omega
    · have : i = 8 := by omega
      subst this
      rw [show (lenBytes N).take 8 = lenBytes N from List.take_of_length_le (by simp [lenBytes]), hq]
      have hp64 := pad_len m.length
      generalize hp : m ++ padOf m.length = p
      have hpl : p.length % 64 = 0 := by rw [← hp, List.length_append]; exact hp64
      have hpm : p.length ≤ 2000000000 := by rw [← hp, List.length_append]; simp only [padOf, List.length_cons, List.length_append, List.length_replicate, lenBytes, List.length_map, List.length_range]; omega
      refine n148 ((ref_start w2).use fun w3 h3 => ?_)
      refine SV_alloc fun g6 w4 hg6 b6 h4 => ?_
      refine SU_storeB b6 (by rw [wv_len]; rfl) rfl (wv_ones _) fun w5 b6 h5 => ?_
      have z2 := h2.size
      have z3 := h3.size
      have z4 := h4.size
      have z5 := h5.size
      have l6 := b6.lt
      have b2 := ((((b2.no h2).no h3).no h4).ch h5 (by omega))
      have hc5 : Ch No w w5 := (h1.trans (h2.trans (h3.trans h4))).own h5 (by omega)
      refine LP_intro (fun us w' => ∃ (u : Value) (q : Nat) (st : S8), us = [u, .int .i64 (64 * q : Nat)] ∧ 64 * q ≤ p.length ∧ blocks st (p.drop (64 * q)) = blocks S8.start p ∧ Blk w' g6 200 (wv st.l) ∧ Ch (· = g6) w5 w') (fun us _ => match us with | [_, .int _ t] => (p.length - t).toNat | _ => 0)
        ⟨_, 0, S8.start, rfl, by omega, rfl, b6, Ch.refl _⟩ ?_
      rintro us hus ζ w6 ⟨u, q, st, rfl, hql, hst, b6, h6⟩
      unfold s81_l3
      simp only [List.getD_cons_zero, List.getD_cons_succ]
      have z6 := h6.size
      have l6 := b6.lt
      have l2' := b2.lt
      (first | refine SV_p (by first | exact True.intro | omega | (simp only [List.length_append, List.length_cons, List.length_nil, List.length_replicate, List.length_map]; omega)) ?_ | refine HV_p (by first | exact True.intro | omega | (simp only [List.length_append, List.length_cons, List.length_nil, List.length_replicate, List.length_map]; omega)) ?_)
      (first | refine SV_p (by first | exact True.intro | omega | (simp only [List.length_append, List.length_cons, List.length_nil, List.length_replicate, List.length_map]; omega)) ?_ | refine HV_p (by first | exact True.intro | omega | (simp only [List.length_append, List.length_cons, List.length_nil, List.length_replicate, List.length_map]; omega)) ?_)
      refine CN_split (fun hlt => ?_) (fun hge => ?_)
      · refine SV_alloc fun g8 w7 hg8 b8 h7 => ?_
        have z7 := h7.size
        refine LP_intro (fun us w' => ∃ i : Nat, us = [.int .i64 i] ∧ i ≤ 64 ∧ Blk w' g8 202 (wv (pRow (p.drop (64 * q)) i)) ∧ Ch (· = g8) w7 w') (fun us _ => match us with | [.int _ t] => (64 - t).toNat | _ => 0)
          ⟨0, rfl, by decide, by rw [pRow_zero, ← wv_zero]; exact b8, Ch.refl _⟩ ?_
        rintro us hus ζ w8 ⟨i, rfl, hi, c8, h8⟩
        unfold s81_l1
        simp only [List.getD_cons_zero, List.getD_cons_succ]
        have hr64 : 64 ≤ (p.drop (64 * q)).length := by simp; omega
        (first | refine SV_p (by first | exact True.intro | omega | (simp only [List.length_append, List.length_cons, List.length_nil, List.length_replicate, List.length_map]; omega)) ?_ | refine HV_p (by first | exact True.intro | omega | (simp only [List.length_append, List.length_cons, List.length_nil, List.length_replicate, List.length_map]; omega)) ?_)
        refine CN_split (fun hlt => ?_) (fun hge => ?_)
        · have hpl := pRow_len (p.drop (64 * q)) i
          refine HR_kp No ?_
          (first | refine SV_p (by first | exact True.intro | omega | (simp only [List.length_append, List.length_cons, List.length_nil, List.length_replicate, List.length_map]; omega)) ?_ | refine HV_p (by first | exact True.intro | omega | (simp only [List.length_append, List.length_cons, List.length_nil, List.length_replicate, List.length_map]; omega)) ?_)
          (first | refine SV_p (by first | exact True.intro | omega | (simp only [List.length_append, List.length_cons, List.length_nil, List.length_replicate, List.length_map]; omega)) ?_ | refine HV_p (by first | exact True.intro | omega | (simp only [List.length_append, List.length_cons, List.length_nil, List.length_replicate, List.length_map]; omega)) ?_)
          (first | refine SV_p (by first | exact True.intro | omega | (simp only [List.length_append, List.length_cons, List.length_nil, List.length_replicate, List.length_map]; omega)) ?_ | refine HV_p (by first | exact True.intro | omega | (simp only [List.length_append, List.length_cons, List.length_nil, List.length_replicate, List.length_map]; omega)) ?_)
          refine HV_load c8 (fun h => h) (wv_get (by omega)) ?_
          refine HV_pu pu_w32mul ?_
          (first | refine SV_p (by first | exact True.intro | omega | (simp only [List.length_append, List.length_cons, List.length_nil, List.length_replicate, List.length_map]; omega)) ?_ | refine HV_p (by first | exact True.intro | omega | (simp only [List.length_append, List.length_cons, List.length_nil, List.length_replicate, List.length_map]; omega)) ?_)
          (first | refine SV_p (by first | exact True.intro | omega | (simp only [List.length_append, List.length_cons, List.length_nil, List.length_replicate, List.length_map]; omega)) ?_ | refine HV_p (by first | exact True.intro | omega | (simp only [List.length_append, List.length_cons, List.length_nil, List.length_replicate, List.length_map]; omega)) ?_)
          (first | refine SV_p (by first | exact True.intro | omega | (simp only [List.length_append, List.length_cons, List.length_nil, List.length_replicate, List.length_map]; omega)) ?_ | refine HV_p (by first | exact True.intro | omega | (simp only [List.length_append, List.length_cons, List.length_nil, List.length_replicate, List.length_map]; omega)) ?_)
          (first | refine SV_p (by first | exact True.intro | omega | (simp only [List.length_append, List.length_cons, List.length_nil, List.length_replicate, List.length_map]; omega)) ?_ | refine HV_p (by first | exact True.intro | omega | (simp only [List.length_append, List.length_cons, List.length_nil, List.length_replicate, List.length_map]; omega)) ?_)
          (first | refine SV_p (by first | exact True.intro | omega | (simp only [List.length_append, List.length_cons, List.length_nil, List.length_replicate, List.length_map]; omega)) ?_ | refine HV_p (by first | exact True.intro | omega | (simp only [List.length_append, List.length_cons, List.length_nil, List.length_replicate, List.length_map]; omega)) ?_)
          refine SU_store c8.drew (by rw [wv_len]; omega) rfl fun w9 d8 h9 => ?_
          (first | refine SV_p (by first | exact True.intro | omega | (simp only [List.length_append, List.length_cons, List.length_nil, List.length_replicate, List.length_map]; omega)) ?_ | refine HV_p (by first | exact True.intro | omega | (simp only [List.length_append, List.length_cons, List.length_nil, List.length_replicate, List.length_map]; omega)) ?_)
          have e4 : ((i : Int) / 4).toNat = i / 4 := by omega
          have e5 : (((64 * q : Nat) : Int) + (i : Int)).toNat = 64 * q + i := by omega
          rw [e4, e5, wv_set, ← drop_getD, shl_add, pRow_next (by omega)] at d8
          refine ⟨⟨i + 1, rfl, by omega, d8, h8.trans ((Ch.drew _).trans h9)⟩, ?_⟩
          show (64 - ((i : Int) + 1)).toNat < (64 - (i : Int)).toNat
          omega
        · have : i = 64 := by omega
          subst this
          rw [pRow_end] at c8
          have b6 := (b6.no h7).ch h8 (by omega)
          refine SV_loadB b6 (by rw [wv_len]; rfl) ?_
          refine SV_loadB c8 (by rw [wv_len, blkOf_len]) ?_
          refine n149 ((ref_step st _ (blkOf_len _) _).use fun w9 h9 => ?_)
          refine SU_storeB (b6.no h9) (by rw [wv_len]; rfl) (by rw [wv_len]; rfl) (wv_ones _) fun w10 d6 h10 => ?_
          (first | refine SV_p (by first | exact True.intro | omega | (simp only [List.length_append, List.length_cons, List.length_nil, List.length_replicate, List.length_map]; omega)) ?_ | refine HV_p (by first | exact True.intro | omega | (simp only [List.length_append, List.length_cons, List.length_nil, List.length_replicate, List.length_map]; omega)) ?_)
          refine ⟨⟨.int .i64 ((64 : Nat) : Int), q + 1, sstep st (blkOf (p.drop (64 * q))), ?_, by omega, ?_, d6, ?_⟩, ?_⟩
          · have : ((64 * q : Nat) : Int) + 64 = ((64 * (q + 1) : Nat) : Int) := by omega
            rw [this]
          · rw [← hst, blocks_ge hr64, List.drop_drop]
            rfl
          · exact ((h6.trans h7.no).own h8 (by omega)).trans (h9.no.trans h10)
          · show ((p.length : Int) - (((64 * q : Nat) : Int) + 64)).toNat < ((p.length : Int) - ((64 * q : Nat) : Int)).toNat
            omega
      · have hq64 : 64 * q = p.length := by omega
        rw [hq64, List.drop_length, blocks_nil] at hst
        refine SV_alloc fun g10 w7 hg10 b10 h7 => ?_
        have z7 := h7.size
        have hol := outOf_len st
        refine LP_intro (fun us w' => ∃ i : Nat, us = [.int .i64 i] ∧ i ≤ 32 ∧ Blk w' g10 29 (((outOf st).map by_).take i ++ Sum.zero.cells.drop i) ∧ Ch (· = g10) w7 w')
          (fun us _ => match us with | [.int _ t] => (32 - t).toNat | _ => 0)
          ⟨0, rfl, by decide, by rw [mix_zero]; exact b10, Ch.refl _⟩ ?_
        rintro us hus ζ w8 ⟨i, rfl, hi, c10, h8⟩
        unfold s81_l2
        simp only [List.getD_cons_zero, List.getD_cons_succ]
        have b6 := (b6.no h7).ch h8 (by omega)
        (first | refine SV_p (by first | exact True.intro | omega | (simp only [List.length_append, List.length_cons, List.length_nil, List.length_replicate, List.length_map]; omega)) ?_ | refine HV_p (by first | exact True.intro | omega | (simp only [List.length_append, List.length_cons, List.length_nil, List.length_replicate, List.length_map]; omega)) ?_)
        refine CN_split (fun hlt => ?_) (fun hge => ?_)
        · (first | refine SV_p (by first | exact True.intro | omega | (simp only [List.length_append, List.length_cons, List.length_nil, List.length_replicate, List.length_map]; omega)) ?_ | refine HV_p (by first | exact True.intro | omega | (simp only [List.length_append, List.length_cons, List.length_nil, List.length_replicate, List.length_map]; omega)) ?_)
          (first | refine SV_p (by first | exact True.intro | omega | (simp only [List.length_append, List.length_cons, List.length_nil, List.length_replicate, List.length_map]; omega)) ?_ | refine HV_p (by first | exact True.intro | omega | (simp only [List.length_append, List.length_cons, List.length_nil, List.length_replicate, List.length_map]; omega)) ?_)
          refine SV_load b6 (wv_get (by rw [S8.l_len]; omega)) ?_
          (first | refine SV_p (by first | exact True.intro | omega | (simp only [List.length_append, List.length_cons, List.length_nil, List.length_replicate, List.length_map]; omega)) ?_ | refine HV_p (by first | exact True.intro | omega | (simp only [List.length_append, List.length_cons, List.length_nil, List.length_replicate, List.length_map]; omega)) ?_)
          (first | refine SV_p (by first | exact True.intro | omega | (simp only [List.length_append, List.length_cons, List.length_nil, List.length_replicate, List.length_map]; omega)) ?_ | refine HV_p (by first | exact True.intro | omega | (simp only [List.length_append, List.length_cons, List.length_nil, List.length_replicate, List.length_map]; omega)) ?_)
          (first | refine SV_p (by first | exact True.intro | omega | (simp only [List.length_append, List.length_cons, List.length_nil, List.length_replicate, List.length_map]; omega)) ?_ | refine HV_p (by first | exact True.intro | omega | (simp only [List.length_append, List.length_cons, List.length_nil, List.length_replicate, List.length_map]; omega)) ?_)
          refine SV_pu (w64_conv (by omega) (by omega)) ?_
          (first | refine SV_p (by first | exact True.intro | omega | (simp only [List.length_append, List.length_cons, List.length_nil, List.length_replicate, List.length_map]; omega)) ?_ | refine HV_p (by first | exact True.intro | omega | (simp only [List.length_append, List.length_cons, List.length_nil, List.length_replicate, List.length_map]; omega)) ?_)
          (first | refine SV_p (by first | exact True.intro | omega | (simp only [List.length_append, List.length_cons, List.length_nil, List.length_replicate, List.length_map]; omega)) ?_ | refine HV_p (by first | exact True.intro | omega | (simp only [List.length_append, List.length_cons, List.length_nil, List.length_replicate, List.length_map]; omega)) ?_)
          (first | refine SV_p (by first | exact True.intro | omega | (simp only [List.length_append, List.length_cons, List.length_nil, List.length_replicate, List.length_map]; omega)) ?_ | refine HV_p (by first | exact True.intro | omega | (simp only [List.length_append, List.length_cons, List.length_nil, List.length_replicate, List.length_map]; omega)) ?_)
          refine SU_store c10 (by rw [mix_len (n := 32) Sum.zero.len hol hi]; omega) rfl fun w9 d10 h9 => ?_
          (first | refine SV_p (by first | exact True.intro | omega | (simp only [List.length_append, List.length_cons, List.length_nil, List.length_replicate, List.length_map]; omega)) ?_ | refine HV_p (by first | exact True.intro | omega | (simp only [List.length_append, List.length_cons, List.length_nil, List.length_replicate, List.length_map]; omega)) ?_)
          have e1 : ((i : Int) / 4).toNat = i / 4 := by omega
          have e2 : ((24 : Int) - 8 * ((i : Int) % 4)).toNat = 24 - 8 * (i % 4) := by omega
          rw [e1, e2, Int.toNat_natCast, set_mix (by rw [hol]; exact Sum.zero.len) (outOf_at _ (by omega))] at d10
          refine ⟨⟨i + 1, rfl, by omega, d10, h8.trans h9⟩, ?_⟩
          show (32 - ((i : Int) + 1)).toNat < (32 - (i : Int)).toNat
          omega
        · have : i = 32 := by omega
          subst this
          rw [mix_all Sum.zero.len hol] at c10
          have b2 := ((b2.ch h6 (by omega)).no h7).ch h8 (by omega)
          refine SV_loadB c10 hol ?_
          refine SU_storeB b2 hol Sum.zero.len (Ones.bytes _) fun w9 d2 h9 => ?_
          refine CR_N d2 hol ?_
          refine ⟨?_, (((hc5.own h6 (by omega)).trans h7).own h8 (by omega)).own h9 (by omega)⟩
          have hs : (sha m).cells = (outOf st).map by_ := by
            unfold sha
            simp only [Sum.cells]
            rw [hp, ← hst]
          unfold Sum.v
          rw [hs]
end Go.Proofs.YtkdghnbogkbedaaGreatDoor
