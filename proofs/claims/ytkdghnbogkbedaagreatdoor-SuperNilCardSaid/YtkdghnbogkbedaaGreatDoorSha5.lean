/-
  The package sha: what a hash comes to.
-/
import Derived.Test.YtkdghnbogkbedaaGreatDoorSha4
import Derived.Test.YtkdghnbogkbedaaGreatDoorXStrings
namespace Go.Sh
open Go Go.RowKit

theorem set_mix {x y : List Value} {i : Nat} {v : Value} (h : x.length = y.length) (hv : y[i]? = some v) : (y.take i ++ x.drop i).set i v = y.take (i + 1) ++ x.drop (i + 1) := by
  obtain ⟨hi, rfl⟩ := List.getElem?_eq_some_iff.1 hv
  have hl : (y.take i).length = i := by simp; omega
  rw [List.set_append_right _ _ (by omega), hl, Nat.sub_self]
  have hd : x.drop i = x[i] :: x.drop (i + 1) := List.drop_eq_getElem_cons (by omega)
  rw [hd, List.set_cons_zero, List.take_succ_eq_append_getElem hi, List.append_assoc]
  rfl
theorem mix_zero {x y : List Value} : y.take 0 ++ x.drop 0 = x := by simp
theorem mix_all {x y : List Value} {n : Nat} (hx : x.length = n) (hy : y.length = n) : y.take n ++ x.drop n = y := by
  rw [List.take_of_length_le (by omega), List.drop_eq_nil_of_le (by omega), List.append_nil]
theorem mix_len {x y : List Value} {i n : Nat} (hx : x.length = n) (hy : y.length = n) (h : i ≤ n) : (y.take i ++ x.drop i).length = n := by simp; omega

theorem Ret.of_below {P : Program} {f : FuncId} {args : Array Value} {w : World} {v : Value} (h : Calls P f args w fun e w' => e = .returned v ∧ Below w.heap.size w w') : Ret P f args w v :=
  Calls.mono h fun e w' ⟨he, hb⟩ => by subst he; exact ⟨rfl, Ch.of_below hb⟩
theorem Ret.of_same {P : Program} {f : FuncId} {args : Array Value} {w : World} {v : Value} (h : Calls P f args w fun e w' => e = .returned v ∧ w' = w) : Ret P f args w v :=
  Calls.mono h fun e w' ⟨he, hb⟩ => by subst he; subst hb; exact ⟨rfl, Ch.refl _⟩

section
variable {P : Program}
theorem pu_w64shr {t : TypeId} {n : Nat} {k : IntKind} {s : Int} (h0 : 0 ≤ s) (h1 : s ≤ 64) : Pu P (binOp .shr t (.int .u64 n) (.int k s)) (.int .u64 ((n / 2 ^ s.toNat : Nat) : Int)) := fun w => by
  rw [binOp_shr]
  have hm : min s.toNat IntKind.u64.bits = s.toNat := by
    have : IntKind.u64.bits = 64 := rfl
    omega
  have hp : (0 : Int) < 2 ^ s.toNat := Int.pow_pos (by decide)
  have e : (n : Int).fdiv (2 ^ s.toNat) = ((n / 2 ^ s.toNat : Nat) : Int) := by
    rw [Int.fdiv_eq_ediv_of_nonneg _ (Int.le_of_lt hp)]
    simp
  simp only [Op.shift, show ¬ s < 0 by omega, if_false, hm, e]
  rfl
theorem pu_648 {s d : TypeId} [IsInt P s .u64] [IsInt P d .u8] {n : Nat} : Pu P (convert s d (.int .u64 n)) (by_ (UInt8.ofNat n)) := fun w => by
  have := pu_conv (P := P) (s := s) (d := d) (k := .u64) (n := n) w
  rw [IntKind.wrap_u8] at this
  unfold by_
  rw [this]
  congr 2
end

theorem outOf_len (s : S8) : ((outOf s).map by_).length = 32 := by simp [outOf]
theorem outOf_at (s : S8) {i : Nat} (h : i < 32) : ((outOf s).map by_)[i]? = some (by_ (UInt8.ofNat (shr32 (wAt s.l (i / 4)) (24 - 8 * (i % 4))).toNat)) := by simp [outOf, h]
theorem lenBytes_len (n : Nat) : ((lenBytes n).map by_).length = 8 := by simp [lenBytes]
theorem lenBytes_at (n : Nat) {i : Nat} (h : i < 8) : ((lenBytes n).map by_)[i]? = some (by_ (UInt8.ofNat (n / 2 ^ (8 * (7 - i))))) := by simp [lenBytes, h]
end Go.Sh
namespace Go.Proofs.YtkdghnbogkbedaaGreatDoor
open Go Go.Sh Go.RowKit
set_option maxRecDepth 100000
set_option linter.unusedSimpArgs false
set_option linter.unusedVariables false

theorem str_repeat0 (n : Nat) (w : World) (h : n ≤ 1000000) : Ret Tryz.prog 242 #[str [0], .int .i64 n] w (str (List.replicate n 0)) := by
  have := Tryz.strings_Repeat ⟨#[0]⟩ n w (by omega) (by show 1 * n ≤ _; omega)
  refine Ret.of_below (v := str (List.replicate n 0)) ?_
  have e : Lib.repeatL (ByteArray.mk #[0]).data.toList n = List.replicate n 0 := by
    show Lib.repeatL [0] n = _
    clear this h
    induction n with
    | zero => rfl
    | succ n ih => simp [Lib.repeatL, List.replicate_succ] at ih ⊢; try exact ih
  rw [e] at this
  exact this

theorem sha_sum {g : Nat} {m : List UInt8} {w : World} (hk : KeysAt w) (h : HashAt w g 282 m) (hb : m.length ≤ 4611686018427387904) : Ret Tryz.prog 233 #[.pointer (some ⟨g, 0, none⟩)] w (sha m).v := by
  obtain ⟨h0, b0, hi⟩ := h
  refine c233 ?_
  unfold s233
  refine SV_alloc fun g2 w1 hg2 b2 h1 => ?_
  refine n266 ((sha_start w1).use fun w2 h2 => ?_)
  refine SV_alloc fun g3 w3 hg3 b3 h3 => ?_
  refine SU_storeB b3 (by rw [wv_len]; rfl) rfl (wv_ones _) fun w4 b3 h4 => ?_
  have n30 : g3 ≠ g := by have := b0.lt; have := h1.size; have := h2.size; omega
  have n32 : g3 ≠ g2 := by have := b2.lt; have := h2.size; omega
  have s1 := h1.size
  have s2 := h2.size
  have s3 := h3.size
  have s4 := h4.size
  have hc3 := h1.trans (h2.trans h3)
  have hc4 : Ch No w w4 := (h1.trans (h2.trans h3)).own h4 (by omega)
  have b0 := b0.no hc4
  have b2 := (((b2.no h2).no h3).ch h4 n32.symm)
  refine JP_cut (fun us w' => ∃ (st : S8) (r : List UInt8), us = [str r, .int .u64 m.length] ∧ (st, r) = blocks S8.start m ∧ Blk w' g3 200 (wv st.l) ∧ Blk w' g2 29 Sum.zero.cells ∧ Ch No w w') ?_ ?_
  · (first | refine SV_p (by first | exact True.intro | omega | (simp only [List.length_append, List.length_cons, List.length_nil, List.length_replicate, List.length_map]; omega)) ?_ | refine HV_p (by first | exact True.intro | omega | (simp only [List.length_append, List.length_cons, List.length_nil, List.length_replicate, List.length_map]; omega)) ?_)
    refine GD_tt ?_
    (first | refine SV_p (by first | exact True.intro | omega | (simp only [List.length_append, List.length_cons, List.length_nil, List.length_replicate, List.length_map]; omega)) ?_ | refine HV_p (by first | exact True.intro | omega | (simp only [List.length_append, List.length_cons, List.length_nil, List.length_replicate, List.length_map]; omega)) ?_)
    (first | refine SV_p (by first | exact True.intro | omega | (simp only [List.length_append, List.length_cons, List.length_nil, List.length_replicate, List.length_map]; omega)) ?_ | refine HV_p (by first | exact True.intro | omega | (simp only [List.length_append, List.length_cons, List.length_nil, List.length_replicate, List.length_map]; omega)) ?_)
    refine SV_load b0 rfl ?_
    rcases hi with ⟨rfl, rfl⟩ | ⟨hbg, hst, hsz⟩
    · refine CN_ff ?_
      exact ⟨S8.start, [], rfl, by rw [blocks_lt (by simp)], b3, b2, hc4⟩
    · rw [hbg]
      refine CN_tt ?_
      refine HR_kp (· = g3) ?_
      (first | refine SV_p (by first | exact True.intro | omega | (simp only [List.length_append, List.length_cons, List.length_nil, List.length_replicate, List.length_map]; omega)) ?_ | refine HV_p (by first | exact True.intro | omega | (simp only [List.length_append, List.length_cons, List.length_nil, List.length_replicate, List.length_map]; omega)) ?_)
      (first | refine SV_p (by first | exact True.intro | omega | (simp only [List.length_append, List.length_cons, List.length_nil, List.length_replicate, List.length_map]; omega)) ?_ | refine HV_p (by first | exact True.intro | omega | (simp only [List.length_append, List.length_cons, List.length_nil, List.length_replicate, List.length_map]; omega)) ?_)
      refine HV_loadN b0 (fun h => n30 h.symm) (vs := wv h0.s.l) rfl (by rw [wv_len]; rfl) ?_
      (first | refine SV_p (by first | exact True.intro | omega | (simp only [List.length_append, List.length_cons, List.length_nil, List.length_replicate, List.length_map]; omega)) ?_ | refine HV_p (by first | exact True.intro | omega | (simp only [List.length_append, List.length_cons, List.length_nil, List.length_replicate, List.length_map]; omega)) ?_)
      (first | refine SV_p (by first | exact True.intro | omega | (simp only [List.length_append, List.length_cons, List.length_nil, List.length_replicate, List.length_map]; omega)) ?_ | refine HV_p (by first | exact True.intro | omega | (simp only [List.length_append, List.length_cons, List.length_nil, List.length_replicate, List.length_map]; omega)) ?_)
      refine HV_load b0 (fun h => n30 h.symm) (v := str h0.rest) rfl ?_
      (first | refine SV_p (by first | exact True.intro | omega | (simp only [List.length_append, List.length_cons, List.length_nil, List.length_replicate, List.length_map]; omega)) ?_ | refine HV_p (by first | exact True.intro | omega | (simp only [List.length_append, List.length_cons, List.length_nil, List.length_replicate, List.length_map]; omega)) ?_)
      (first | refine SV_p (by first | exact True.intro | omega | (simp only [List.length_append, List.length_cons, List.length_nil, List.length_replicate, List.length_map]; omega)) ?_ | refine HV_p (by first | exact True.intro | omega | (simp only [List.length_append, List.length_cons, List.length_nil, List.length_replicate, List.length_map]; omega)) ?_)
      refine HV_load b0 (fun h => n30 h.symm) (v := .int .i64 h0.size) rfl ?_
      rw [hsz]
      refine HV_pu (v := .int .u64 m.length) (w64_conv (by omega) (by omega)) ?_
      refine SU_storeB b3.drew (by rw [wv_len]; rfl) (by rw [wv_len]; rfl) (wv_ones _) fun w5 b3 h5 => ?_
      have h5' := (Ch.drew w4).trans h5
      (first | refine RS_same (h5') ?_ | refine ⟨h5', ?_⟩)
      exact ⟨h0.s, h0.rest, rfl, hst, b3, b2.ch h5' n32.symm, hc4.own h5' (by omega)⟩
  · rintro us hus ζ w5 ⟨st, r, rfl, hst, b3, b2, hc5⟩
    unfold s233_j1
    simp only [List.getD_cons_zero, List.getD_cons_succ]
    have hrl : r.length = m.length % 64 := by
      have := congrArg Prod.snd hst
      simp only at this
      rw [this, blocks_len]
    (first | refine SV_p (by first | exact True.intro | omega | (simp only [List.length_append, List.length_cons, List.length_nil, List.length_replicate, List.length_map]; omega)) ?_ | refine HV_p (by first | exact True.intro | omega | (simp only [List.length_append, List.length_cons, List.length_nil, List.length_replicate, List.length_map]; omega)) ?_)
    (first | refine SV_p (by first | exact True.intro | omega | (simp only [List.length_append, List.length_cons, List.length_nil, List.length_replicate, List.length_map]; omega)) ?_ | refine HV_p (by first | exact True.intro | omega | (simp only [List.length_append, List.length_cons, List.length_nil, List.length_replicate, List.length_map]; omega)) ?_)
    (first | refine SV_p (by first | exact True.intro | omega | (simp only [List.length_append, List.length_cons, List.length_nil, List.length_replicate, List.length_map]; omega)) ?_ | refine HV_p (by first | exact True.intro | omega | (simp only [List.length_append, List.length_cons, List.length_nil, List.length_replicate, List.length_map]; omega)) ?_)
    refine SV_alloc fun g7 w6 hg7 b7 h6 => ?_
    have n73 : g7 ≠ g3 := b7.ne' b3 hg7
    have n72 : g7 ≠ g2 := b7.ne' b2 hg7
    have hl8 := lenBytes_len (8 * m.length % 18446744073709551616)
    refine LP_intro (fun us w' => ∃ i : Nat, us = [.int .i64 i] ∧ i ≤ 8 ∧ Blk w' g7 285 (((lenBytes (8 * m.length % 18446744073709551616)).map by_).take i ++ (List.replicate 8 (Value.int .u8 0)).drop i) ∧ Ch (· = g7) w6 w')
      (fun us _ => match us with | [.int _ t] => (8 - t).toNat | _ => 0)
      ⟨0, rfl, by decide, by rw [mix_zero]; exact b7, Ch.refl _⟩ ?_
    rintro us hus ζ w7 ⟨i, rfl, hi, c7, hc7⟩
    unfold s233_l2
    simp only [List.getD_cons_zero, List.getD_cons_succ]
    (first | refine SV_p (by first | exact True.intro | omega | (simp only [List.length_append, List.length_cons, List.length_nil, List.length_replicate, List.length_map]; omega)) ?_ | refine HV_p (by first | exact True.intro | omega | (simp only [List.length_append, List.length_cons, List.length_nil, List.length_replicate, List.length_map]; omega)) ?_)
    refine CN_split (fun hlt => ?_) (fun hge => ?_)
    · refine SV_pu (v := .int .u64 ((8 * m.length % 18446744073709551616 : Nat) : Int)) (fun w => by rw [pu_mul w, IntKind.wrap_u64]; congr 2; omega) ?_
      (first | refine SV_p (by first | exact True.intro | omega | (simp only [List.length_append, List.length_cons, List.length_nil, List.length_replicate, List.length_map]; omega)) ?_ | refine HV_p (by first | exact True.intro | omega | (simp only [List.length_append, List.length_cons, List.length_nil, List.length_replicate, List.length_map]; omega)) ?_)
      (first | refine SV_p (by first | exact True.intro | omega | (simp only [List.length_append, List.length_cons, List.length_nil, List.length_replicate, List.length_map]; omega)) ?_ | refine HV_p (by first | exact True.intro | omega | (simp only [List.length_append, List.length_cons, List.length_nil, List.length_replicate, List.length_map]; omega)) ?_)
      refine SV_pu (pu_w64shr (by omega) (by omega)) ?_
      refine SV_pu pu_648 ?_
      (first | refine SV_p (by first | exact True.intro | omega | (simp only [List.length_append, List.length_cons, List.length_nil, List.length_replicate, List.length_map]; omega)) ?_ | refine HV_p (by first | exact True.intro | omega | (simp only [List.length_append, List.length_cons, List.length_nil, List.length_replicate, List.length_map]; omega)) ?_)
      refine SU_store c7 (by rw [mix_len (n := 8) (by simp) hl8 hi]; omega) rfl fun w8 d7 h8 => ?_
      (first | refine SV_p (by first | exact True.intro | omega | (simp only [List.length_append, List.length_cons, List.length_nil, List.length_replicate, List.length_map]; omega)) ?_ | refine HV_p (by first | exact True.intro | omega | (simp only [List.length_append, List.length_cons, List.length_nil, List.length_replicate, List.length_map]; omega)) ?_)
      have e1 : ((8 : Int) * (7 - (i : Int))).toNat = 8 * (7 - i) := by omega
      rw [e1, Int.toNat_natCast, set_mix (by rw [hl8]; simp) (lenBytes_at _ (by omega))] at d7
      refine ⟨⟨i + 1, rfl, by omega, d7, hc7.trans h8⟩, ?_⟩
      show (8 - ((i : Int) + 1)).toNat < (8 - (i : Int)).toNat
      omega
    · have : i = 8 := by omega
      subst this
      rw [mix_all (by simp) hl8] at c7
      have b3 := (b3.no h6).ch hc7 n73.symm
      have b2 := (b2.no h6).ch hc7 n72.symm
      have s5 := hc5.size
      have hc7' := (hc5.trans h6).own hc7 (by omega)
      refine HR_kp No ?_
      refine HV_loadB b3 (fun h => h) (by rw [wv_len]; rfl) ?_
      (first | refine SV_p (by first | exact True.intro | omega | (simp only [List.length_append, List.length_cons, List.length_nil, List.length_replicate, List.length_map]; omega)) ?_ | refine HV_p (by first | exact True.intro | omega | (simp only [List.length_append, List.length_cons, List.length_nil, List.length_replicate, List.length_map]; omega)) ?_)
      have e2 : ((119 - (r.length : Int)) % 64) = (((119 - m.length % 64) % 64 : Nat) : Int) := by rw [hrl]; omega
      rw [e2]
      refine n242 ((str_repeat0 _ _ (by omega)).use fun w8 h8 => ?_)
      have h8' : Ch No w7 w8 := (Ch.drew w7).trans h8
      (first | refine RS_same (h8') ?_ | refine ⟨h8', ?_⟩)
      refine HV_p (by simp only [List.length_append, List.length_replicate, List.length_cons, List.length_nil]; omega) ?_
      (first | refine SV_p (by first | exact True.intro | omega | (simp only [List.length_append, List.length_cons, List.length_nil, List.length_replicate, List.length_map]; omega)) ?_ | refine HV_p (by first | exact True.intro | omega | (simp only [List.length_append, List.length_cons, List.length_nil, List.length_replicate, List.length_map]; omega)) ?_)
      have hrd : Rd w7 285 1 (.slice (some ⟨g7, 0, none⟩) 8 8) 8 ((lenBytes (8 * m.length % 18446744073709551616)).map by_) := Rd.of_blk c7 (by rw [hl8]) (by decide)
      refine HV_bstr hrd (fun _ _ h => h) ?_
      refine HV_p (by simp only [List.length_append, List.length_replicate, List.length_cons, List.length_nil, lenBytes, List.length_map, List.length_range]; omega) ?_
      have hpad : (r ++ [128] ++ List.replicate ((119 - m.length % 64) % 64) 0) ++ lenBytes (8 * m.length % 18446744073709551616) = r ++ padOf m.length := by simp [padOf]
      rw [hpad]
      have hpl : (r ++ padOf m.length).length ≤ 9223372036854775807 := by
        simp only [padOf, List.length_append, List.length_cons, List.length_replicate, lenBytes, List.length_map, List.length_range]
        omega
      refine n267 ((sha_blocks st (r ++ padOf m.length) _ (hk.no (hc7'.trans h8')) hpl).use fun w9 h9 => ?_)
      have h9' : Ch No w7 w9 := h8'.trans h9
      refine ⟨Kp (· = g3) w7, fun _ h => Ch.no h, Ch.no h9', ?_⟩
      (first | refine SV_p (by first | exact True.intro | omega | (simp only [List.length_append, List.length_cons, List.length_nil, List.length_replicate, List.length_map]; omega)) ?_ | refine HV_p (by first | exact True.intro | omega | (simp only [List.length_append, List.length_cons, List.length_nil, List.length_replicate, List.length_map]; omega)) ?_)
      (first | refine SV_p (by first | exact True.intro | omega | (simp only [List.length_append, List.length_cons, List.length_nil, List.length_replicate, List.length_map]; omega)) ?_ | refine HV_p (by first | exact True.intro | omega | (simp only [List.length_append, List.length_cons, List.length_nil, List.length_replicate, List.length_map]; omega)) ?_)
      refine SU_storeB (b3.no h9') (by rw [wv_len]; rfl) (by rw [wv_len]; rfl) (wv_ones _) fun w10 b3 h10 => ?_
      (first | refine RS_same (h9'.no.trans h10) ?_ | refine ⟨h9'.no.trans h10, ?_⟩)
      have hc10 := (hc7'.trans h9').own h10 (by omega)
      have s10 := hc10.size
      have lt3 := b3.lt
      have lt2 := ((b2.no h9').ch h10 n32.symm).lt
      refine SV_alloc fun g9 w11 hg9 b9 h11 => ?_
      have b2 := ((b2.no h9').ch h10 n32.symm).no h11
      have b3 := b3.no h11
      have hc11 : Ch No w w11 := hc10.trans h11
      have n93 : g9 ≠ g3 := by omega
      have n92 : g9 ≠ g2 := by omega
      have hsz : w.heap.size ≤ w11.heap.size := hc11.size
      generalize hfin : (blocks st (r ++ padOf m.length)).1 = fin at b3 ⊢
      have hol := outOf_len fin
      refine LP_intro (fun us w' => ∃ i : Nat, us = [.int .i64 i] ∧ i ≤ 32 ∧ Blk w' g9 29 (((outOf fin).map by_).take i ++ Sum.zero.cells.drop i) ∧ Blk w' g3 200 (wv fin.l) ∧ Blk w' g2 29 Sum.zero.cells ∧ Ch No w w')
        (fun us _ => match us with | [.int _ t] => (32 - t).toNat | _ => 0)
        ⟨0, rfl, by decide, by rw [mix_zero]; exact b9, b3, b2, hc11⟩ ?_
      rintro us hus ζ w12 ⟨i, rfl, hi, c9, c3, c2, hc12⟩
      unfold s233_l1
      simp only [List.getD_cons_zero, List.getD_cons_succ]
      (first | refine SV_p (by first | exact True.intro | omega | (simp only [List.length_append, List.length_cons, List.length_nil, List.length_replicate, List.length_map]; omega)) ?_ | refine HV_p (by first | exact True.intro | omega | (simp only [List.length_append, List.length_cons, List.length_nil, List.length_replicate, List.length_map]; omega)) ?_)
      refine CN_split (fun hlt => ?_) (fun hge => ?_)
      · (first | refine SV_p (by first | exact True.intro | omega | (simp only [List.length_append, List.length_cons, List.length_nil, List.length_replicate, List.length_map]; omega)) ?_ | refine HV_p (by first | exact True.intro | omega | (simp only [List.length_append, List.length_cons, List.length_nil, List.length_replicate, List.length_map]; omega)) ?_)
        (first | refine SV_p (by first | exact True.intro | omega | (simp only [List.length_append, List.length_cons, List.length_nil, List.length_replicate, List.length_map]; omega)) ?_ | refine HV_p (by first | exact True.intro | omega | (simp only [List.length_append, List.length_cons, List.length_nil, List.length_replicate, List.length_map]; omega)) ?_)
        refine SV_load c3 (wv_get (by rw [S8.l_len]; omega)) ?_
        (first | refine SV_p (by first | exact True.intro | omega | (simp only [List.length_append, List.length_cons, List.length_nil, List.length_replicate, List.length_map]; omega)) ?_ | refine HV_p (by first | exact True.intro | omega | (simp only [List.length_append, List.length_cons, List.length_nil, List.length_replicate, List.length_map]; omega)) ?_)
        (first | refine SV_p (by first | exact True.intro | omega | (simp only [List.length_append, List.length_cons, List.length_nil, List.length_replicate, List.length_map]; omega)) ?_ | refine HV_p (by first | exact True.intro | omega | (simp only [List.length_append, List.length_cons, List.length_nil, List.length_replicate, List.length_map]; omega)) ?_)
        (first | refine SV_p (by first | exact True.intro | omega | (simp only [List.length_append, List.length_cons, List.length_nil, List.length_replicate, List.length_map]; omega)) ?_ | refine HV_p (by first | exact True.intro | omega | (simp only [List.length_append, List.length_cons, List.length_nil, List.length_replicate, List.length_map]; omega)) ?_)
        (first | refine SV_p (by first | exact True.intro | omega | (simp only [List.length_append, List.length_cons, List.length_nil, List.length_replicate, List.length_map]; omega)) ?_ | refine HV_p (by first | exact True.intro | omega | (simp only [List.length_append, List.length_cons, List.length_nil, List.length_replicate, List.length_map]; omega)) ?_)
        (first | refine SV_p (by first | exact True.intro | omega | (simp only [List.length_append, List.length_cons, List.length_nil, List.length_replicate, List.length_map]; omega)) ?_ | refine HV_p (by first | exact True.intro | omega | (simp only [List.length_append, List.length_cons, List.length_nil, List.length_replicate, List.length_map]; omega)) ?_)
        (first | refine SV_p (by first | exact True.intro | omega | (simp only [List.length_append, List.length_cons, List.length_nil, List.length_replicate, List.length_map]; omega)) ?_ | refine HV_p (by first | exact True.intro | omega | (simp only [List.length_append, List.length_cons, List.length_nil, List.length_replicate, List.length_map]; omega)) ?_)
        refine SU_store c9 (by rw [mix_len (n := 32) Sum.zero.len hol hi]; omega) rfl fun w13 d9 h13 => ?_
        (first | refine SV_p (by first | exact True.intro | omega | (simp only [List.length_append, List.length_cons, List.length_nil, List.length_replicate, List.length_map]; omega)) ?_ | refine HV_p (by first | exact True.intro | omega | (simp only [List.length_append, List.length_cons, List.length_nil, List.length_replicate, List.length_map]; omega)) ?_)
        have e1 : ((i : Int) / 4).toNat = i / 4 := by omega
        have e2 : ((24 : Int) - 8 * ((i : Int) % 4)).toNat = 24 - 8 * (i % 4) := by omega
        rw [e1, e2, Int.toNat_natCast, set_mix (by rw [hol]; exact Sum.zero.len) (outOf_at _ (by omega))] at d9
        refine ⟨⟨i + 1, rfl, by omega, d9, c3.ch h13 n93.symm, c2.ch h13 n92.symm, hc12.own h13 (by omega)⟩, ?_⟩
        show (32 - ((i : Int) + 1)).toNat < (32 - (i : Int)).toNat
        omega
      · have : i = 32 := by omega
        subst this
        rw [mix_all Sum.zero.len hol] at c9
        refine SV_loadB c9 hol ?_
        refine SU_storeB c2 hol Sum.zero.len (Ones.bytes _) fun w13 d2 h13 => ?_
        refine CR_N d2 hol ?_
        refine ⟨?_, hc12.own h13 (by omega)⟩
        have hs : (sha m).cells = (outOf fin).map by_ := by
          rw [sha_of, ← hst]
          simp only [Sum.cells]
          rw [hfin]
        unfold Sum.v
        rw [hs]
end Go.Proofs.YtkdghnbogkbedaaGreatDoor
