/-
  The reference's SHA-256: its step.
-/
import Derived.Test.YtkdghnbogkbedaaGreatDoorSha6
import Derived.Test.YtkdghnbogkbedaaGreatDoorXRef02
namespace Go.Sh
open Go Go.RowKit

theorem wAt_mixed' {x y : List UInt32} {i j : Nat} (h : i ≤ y.length) (hj : j < i) : wAt (y.take i ++ x.drop i) j = wAt y j := by
  have hl : (y.take i).length = i := by simp; omega
  rw [wAt_append (by omega)]
  simp [wAt, List.getD, List.getElem?_take, hj]
theorem mixed_len {x y : List UInt32} {i n : Nat} (hx : x.length = n) (hy : y.length = n) (h : i ≤ n) : (y.take i ++ x.drop i).length = n := by simp; omega

theorem schedGo_pre (n m : Nat) (w : List UInt32) {i : Nat} (h : i < w.length + n) : wAt (schedGo (n + m) w) i = wAt (schedGo n w) i := by
  induction m with
  | zero => rfl
  | succ m ih =>
    rw [← Nat.add_assoc, schedGo_last, wAt_append (by rw [schedGo_len]; omega), ih]
theorem sched_len {blk : List UInt32} (hb : blk.length = 16) : (sched blk).length = 64 := by simp [sched, schedGo_len, hb]
theorem sched_lo {blk : List UInt32} (hb : blk.length = 16) {t : Nat} (h : t < 16) : wAt (sched blk) t = wAt blk t := schedGo_pre 0 48 blk (by omega)
theorem sched_hi {blk : List UInt32} (hb : blk.length = 16) {t : Nat} (h : 16 ≤ t) (h' : t < 64) : wAt (sched blk) t =
    mix (wAt (sched blk) (t - 2)) 17 19 10 + wAt (sched blk) (t - 7) + mix (wAt (sched blk) (t - 15)) 7 18 3 + wAt (sched blk) (t - 16) := by
  have e : ∀ i, i < t → wAt (sched blk) i = wAt (schedGo (t - 16) blk) i := fun i hi => by
    have := schedGo_pre (t - 16) (48 - (t - 16)) blk (i := i) (by omega)
    rwa [show t - 16 + (48 - (t - 16)) = 48 by omega] at this
  have e1 : wAt (sched blk) t = wAt (schedGo (t - 16 + 1) blk) t := by
    have := schedGo_pre (t - 16 + 1) (48 - (t - 16 + 1)) blk (i := t) (by omega)
    rwa [show t - 16 + 1 + (48 - (t - 16 + 1)) = 48 by omega] at this
  rw [e1, schedGo_last, e _ (by omega), e _ (by omega), e _ (by omega), e _ (by omega)]
  have hl : (schedGo (t - 16) blk).length = t := by rw [schedGo_len, hb]; omega
  have h2 : wAt (schedGo (t - 16) blk ++ [nextW (schedGo (t - 16) blk) (blk.length + (t - 16))]) t = nextW (schedGo (t - 16) blk) (blk.length + (t - 16)) := by
    simp only [wAt, List.getD]
    rw [List.getElem?_append_right (by omega), hl, Nat.sub_self]
    rfl
  rw [h2, hb, show 16 + (t - 16) = t by omega]
  rfl
theorem shl_add (x : UInt32) (b : UInt8) : x * 256 + UInt32.ofNat b.toNat = shl32 x 8 ||| UInt32.ofNat b.toNat := by
  apply UInt32.toNat_inj.1
  have hb : b.toNat < 256 := b.toNat_lt
  have hx : x.toNat < 4294967296 := x.toNat_lt
  unfold shl32
  rw [UInt32.toNat_add, UInt32.toNat_mul, UInt32.toNat_or, w32_ofNat, w32_ofNat, Nat.mod_eq_of_lt (show b.toNat < 4294967296 by omega)]
  have h256 : (256 : UInt32).toNat = 256 := rfl
  rw [h256]
  have e : x.toNat * 2 ^ 8 % 4294967296 = (x.toNat % 16777216) <<< 8 := by rw [Nat.shiftLeft_eq]; omega
  rw [e, ← Nat.shiftLeft_add_eq_or_of_lt (by omega : b.toNat < 2 ^ 8), Nat.shiftLeft_eq]
  have hm : x.toNat % 16777216 < 16777216 := Nat.mod_lt _ (by decide)
  clear e h256
  simp only [Nat.reducePow]
  generalize x.toNat % 16777216 = y at hm ⊢
  generalize b.toNat = z at hb ⊢
  clear hx
  omega

section
variable {P : Program}
theorem pu_w32mul {t : TypeId} {x : UInt32} : Pu P (binOp .mul t (w32 x) (.int .u32 256)) (w32 (x * 256)) := fun w => by
  unfold w32
  rw [pu_mul w, IntKind.wrap_u32, UInt32.toNat_mul]
  congr 2
end
end Go.Sh
namespace Go.Proofs.YtkdghnbogkbedaaGreatDoor
open Go Go.Sh Go.RowKit
set_option maxRecDepth 100000
set_option linter.unusedSimpArgs false
set_option linter.unusedVariables false

theorem ref_rotr (x : UInt32) (n : Nat) (h1 : n ≤ 32) (w : World) : Ret Tryz.prog 230 #[.int .i64 n, w32 x] w (w32 (rotr x n)) := by
  refine c230 ?_
  unfold s230
  refine SV_pu (w64_conv (by omega) (by omega)) ?_
  (first | refine SV_p (by first | exact True.intro | omega | (simp only [List.length_append, List.length_cons, List.length_nil, List.length_replicate, List.length_map]; omega)) ?_ | refine HV_p (by first | exact True.intro | omega | (simp only [List.length_append, List.length_cons, List.length_nil, List.length_replicate, List.length_map]; omega)) ?_)
  (first | refine SV_p (by first | exact True.intro | omega | (simp only [List.length_append, List.length_cons, List.length_nil, List.length_replicate, List.length_map]; omega)) ?_ | refine HV_p (by first | exact True.intro | omega | (simp only [List.length_append, List.length_cons, List.length_nil, List.length_replicate, List.length_map]; omega)) ?_)
  refine SV_pu (w64_conv (by omega) (by omega)) ?_
  (first | refine SV_p (by first | exact True.intro | omega | (simp only [List.length_append, List.length_cons, List.length_nil, List.length_replicate, List.length_map]; omega)) ?_ | refine HV_p (by first | exact True.intro | omega | (simp only [List.length_append, List.length_cons, List.length_nil, List.length_replicate, List.length_map]; omega)) ?_)
  (first | refine SV_p (by first | exact True.intro | omega | (simp only [List.length_append, List.length_cons, List.length_nil, List.length_replicate, List.length_map]; omega)) ?_ | refine HV_p (by first | exact True.intro | omega | (simp only [List.length_append, List.length_cons, List.length_nil, List.length_replicate, List.length_map]; omega)) ?_)
  have e : ((32 : Int) - (n : Int)).toNat = 32 - n := by omega
  rw [e]
  exact ⟨rfl, Ch.refl w⟩

theorem ref_keys (w : World) : Ret Tryz.prog 229 #[] w (ag (wv keys)) := by
  refine c229 ?_
  unfold s229
  refine SV_alloc fun g1 w1 hg1 b1 h1 => ?_
  refine SV_pu (pu_build (FillOk.cons rfl rfl rfl (FillOk.cons rfl rfl rfl (FillOk.cons rfl rfl rfl (FillOk.cons rfl rfl rfl (FillOk.cons rfl rfl rfl (FillOk.cons rfl rfl rfl (FillOk.cons rfl rfl rfl (FillOk.cons rfl rfl rfl (FillOk.cons rfl rfl rfl (FillOk.cons rfl rfl rfl (FillOk.cons rfl rfl rfl (FillOk.cons rfl rfl rfl (FillOk.cons rfl rfl rfl (FillOk.cons rfl rfl rfl (FillOk.cons rfl rfl rfl (FillOk.cons rfl rfl rfl (FillOk.cons rfl rfl rfl (FillOk.cons rfl rfl rfl (FillOk.cons rfl rfl rfl (FillOk.cons rfl rfl rfl (FillOk.cons rfl rfl rfl (FillOk.cons rfl rfl rfl (FillOk.cons rfl rfl rfl (FillOk.cons rfl rfl rfl (FillOk.cons rfl rfl rfl (FillOk.cons rfl rfl rfl (FillOk.cons rfl rfl rfl (FillOk.cons rfl rfl rfl (FillOk.cons rfl rfl rfl (FillOk.cons rfl rfl rfl (FillOk.cons rfl rfl rfl (FillOk.cons rfl rfl rfl (FillOk.cons rfl rfl rfl (FillOk.cons rfl rfl rfl (FillOk.cons rfl rfl rfl (FillOk.cons rfl rfl rfl (FillOk.cons rfl rfl rfl (FillOk.cons rfl rfl rfl (FillOk.cons rfl rfl rfl (FillOk.cons rfl rfl rfl (FillOk.cons rfl rfl rfl (FillOk.cons rfl rfl rfl (FillOk.cons rfl rfl rfl (FillOk.cons rfl rfl rfl (FillOk.cons rfl rfl rfl (FillOk.cons rfl rfl rfl (FillOk.cons rfl rfl rfl (FillOk.cons rfl rfl rfl (FillOk.cons rfl rfl rfl (FillOk.cons rfl rfl rfl (FillOk.cons rfl rfl rfl (FillOk.cons rfl rfl rfl (FillOk.cons rfl rfl rfl (FillOk.cons rfl rfl rfl (FillOk.cons rfl rfl rfl (FillOk.cons rfl rfl rfl (FillOk.cons rfl rfl rfl (FillOk.cons rfl rfl rfl (FillOk.cons rfl rfl rfl (FillOk.cons rfl rfl rfl (FillOk.cons rfl rfl rfl (FillOk.cons rfl rfl rfl (FillOk.cons rfl rfl rfl (FillOk.cons rfl rfl rfl (FillOk.nil _)))))))))))))))))))))))))))))))))))))))))))))))))))))))))))))))))) ?_
  refine SU_storeB b1 rfl rfl (wv_ones keys) fun w2 b2 h2 => ?_
  refine CR_N b2 rfl ?_
  exact ⟨rfl, h1.own h2 hg1⟩

theorem ref_start (w : World) : Ret Tryz.prog 148 #[] w (ag (wv S8.start.l)) := by
  refine c148 ?_
  unfold s148
  refine SV_alloc fun g1 w1 hg1 b1 h1 => ?_
  refine SV_pu (pu_build (FillOk.cons rfl rfl rfl (FillOk.cons rfl rfl rfl (FillOk.cons rfl rfl rfl (FillOk.cons rfl rfl rfl (FillOk.cons rfl rfl rfl (FillOk.cons rfl rfl rfl (FillOk.cons rfl rfl rfl (FillOk.cons rfl rfl rfl (FillOk.nil _)))))))))) ?_
  refine SU_storeB b1 rfl rfl (wv_ones S8.start.l) fun w2 b2 h2 => ?_
  refine CR_N b2 rfl ?_
  exact ⟨rfl, h1.own h2 hg1⟩

theorem ref_bytes (s : Sum) (w : World) : Ret Tryz.prog 160 #[s.v] w (str s.l) := by
  refine c160 ?_
  unfold s160
  refine SV_box (vs := s.cells) rfl fun g1 w1 hg1 b1 h1 => ?_
  (first | refine SV_p (by first | exact True.intro | omega | (simp only [List.length_append, List.length_cons, List.length_nil, List.length_replicate, List.length_map]; omega)) ?_ | refine HV_p (by first | exact True.intro | omega | (simp only [List.length_append, List.length_cons, List.length_nil, List.length_replicate, List.length_map]; omega)) ?_)
  refine SV_bstr (Rd.of_blk b1 s.len (by decide)) ?_
  exact ⟨rfl, h1⟩
end Go.Proofs.YtkdghnbogkbedaaGreatDoor
