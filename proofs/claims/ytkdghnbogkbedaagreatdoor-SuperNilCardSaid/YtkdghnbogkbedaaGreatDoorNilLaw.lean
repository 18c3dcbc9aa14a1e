/-
  The law SuperNil: what its code answers.
-/
import Derived.Test.YtkdghnbogkbedaaGreatDoorSuper2
namespace Go.Sh
open Go Go.RowKit
theorem Ch.owns {a b c : World} {S : Nat → Prop} (h : Ch No a b) (k : Ch S b c) (hS : ∀ i, i < a.heap.size → ¬ S i) : Ch No a c := h.trans' k fun i hi hs => (hS i hi hs).elim
def frz (a b : Int) : Freeze := ⟨a, b, Sum.zero⟩
end Go.Sh
namespace Go.Proofs.YtkdghnbogkbedaaGreatDoor
open Go Go.Sh Go.RowKit
set_option maxRecDepth 100000
set_option maxHeartbeats 1000000
set_option linter.unusedSimpArgs false
set_option linter.unusedVariables false

theorem err1 : anchorErr [] (frz 2 1) = 0 := by decide
theorem err2 : anchorErr [frz 2 1] (frz 5 1) = 0 := by decide
theorem err3 : anchorErr [frz 2 1, frz 5 1] (frz 5 1) = 13 := by decide
theorem err4 : anchorErr [] (frz 1 1) = 0 := by decide

theorem law18_awake {w : World} (hK : KeysAt w) (h1s : 1 < w.heap.size) : Ret Tryz.prog 21 #[] w (.bool true) := by
  refine c21 ?_
  unfold s21
  refine n84 (Calls.ret_mono (super_new w) ?_)
  rintro _ w1 ⟨g, gf, rfl, hg, hgf, hs, h1⟩
  have hs := hs h1s
  (first | refine SV_p (by first | exact True.intro | omega | (simp only [List.length_append, List.length_cons, List.length_nil, List.length_replicate, List.length_map]; omega)) ?_ | refine HV_p (by first | exact True.intro | omega | (simp only [List.length_append, List.length_cons, List.length_nil, List.length_replicate, List.length_map]; omega)) ?_)
  refine CN_ff ?_
  refine SV_pu (pu_build (FillOk.cons rfl rfl rfl (FillOk.cons rfl rfl rfl (FillOk.nil _)))) ?_
  have e1 : fillS Freeze.zero.cells 0 [(0, [Value.int .i64 2], 1), (1, [Value.int .i64 1], 1)] = (frz 2 1).cells := rfl
  rw [e1]
  refine n15 (Calls.ret_mono (super_anchor (f := frz 2 1) (hK.no h1) hs (by simp)) ?_)
  rintro _ w2 ⟨fv2, rfl, hs2, hf2, h2⟩
  rw [err1] at hs2 ⊢
  simp only [if_true, List.nil_append] at hs2 ⊢
  have hc2 : Ch No w w2 := h1.owns h2 fun i hi hS => by
    rcases hS with h | h
    · omega
    · have h' : gf = i := Option.some.inj h; omega
  have hf2' : ∀ i, i < w.heap.size → ¬ pBlk fv2 = some i := fun i hi h => by
    rcases hf2 with rfl | ⟨gf2, rfl, hge⟩
    · have h' : gf = i := Option.some.inj h; omega
    · have h' : gf2 = i := Option.some.inj h; have := h1.size; omega
  (first | refine SV_p (by first | exact True.intro | omega | (simp only [List.length_append, List.length_cons, List.length_nil, List.length_replicate, List.length_map]; omega)) ?_ | refine HV_p (by first | exact True.intro | omega | (simp only [List.length_append, List.length_cons, List.length_nil, List.length_replicate, List.length_map]; omega)) ?_)
  (first | refine SV_p (by first | exact True.intro | omega | (simp only [List.length_append, List.length_cons, List.length_nil, List.length_replicate, List.length_map]; omega)) ?_ | refine HV_p (by first | exact True.intro | omega | (simp only [List.length_append, List.length_cons, List.length_nil, List.length_replicate, List.length_map]; omega)) ?_)
  refine SV_pu (pu_build (FillOk.cons rfl rfl rfl (FillOk.cons rfl rfl rfl (FillOk.nil _)))) ?_
  have e2 : fillS Freeze.zero.cells 0 [(0, [Value.int .i64 5], 1), (1, [Value.int .i64 1], 1)] = (frz 5 1).cells := rfl
  rw [e2]
  refine n15 (Calls.ret_mono (super_anchor (f := frz 5 1) (hK.no hc2) hs2 (by simp)) ?_)
  rintro _ w3 ⟨fv3, rfl, hs3, hf3, h3⟩
  rw [err2] at hs3 ⊢
  simp only [if_true, List.singleton_append] at hs3 ⊢
  have hc3 : Ch No w w3 := hc2.owns h3 fun i hi hS => by
    rcases hS with h | h
    · omega
    · exact hf2' i hi h
  have hf3' : ∀ i, i < w.heap.size → ¬ pBlk fv3 = some i := fun i hi h => by
    rcases hf3 with rfl | ⟨gf3, rfl, hge⟩
    · exact hf2' i hi h
    · have h' : gf3 = i := Option.some.inj h; have := hc2.size; omega
  (first | refine SV_p (by first | exact True.intro | omega | (simp only [List.length_append, List.length_cons, List.length_nil, List.length_replicate, List.length_map]; omega)) ?_ | refine HV_p (by first | exact True.intro | omega | (simp only [List.length_append, List.length_cons, List.length_nil, List.length_replicate, List.length_map]; omega)) ?_)
  (first | refine SV_p (by first | exact True.intro | omega | (simp only [List.length_append, List.length_cons, List.length_nil, List.length_replicate, List.length_map]; omega)) ?_ | refine HV_p (by first | exact True.intro | omega | (simp only [List.length_append, List.length_cons, List.length_nil, List.length_replicate, List.length_map]; omega)) ?_)
  refine SV_pu (pu_build (FillOk.cons rfl rfl rfl (FillOk.cons rfl rfl rfl (FillOk.nil _)))) ?_
  rw [e2]
  refine n15 (Calls.ret_mono (super_anchor (f := frz 5 1) (hK.no hc3) hs3 (by simp)) ?_)
  rintro _ w4 ⟨fv4, rfl, hs4, hf4, h4⟩
  rw [err3] at hs4 ⊢
  have hc4 : Ch No w w4 := hc3.owns h4 fun i hi hS => by
    rcases hS with h | h
    · omega
    · exact hf3' i hi h
  have hs4 : SuperAt w4 g fv4 [frz 2 1, frz 5 1] := hs4
  (first | refine SV_p (by first | exact True.intro | omega | (simp only [List.length_append, List.length_cons, List.length_nil, List.length_replicate, List.length_map]; omega)) ?_ | refine HV_p (by first | exact True.intro | omega | (simp only [List.length_append, List.length_cons, List.length_nil, List.length_replicate, List.length_map]; omega)) ?_)
  (first | refine SV_p (by first | exact True.intro | omega | (simp only [List.length_append, List.length_cons, List.length_nil, List.length_replicate, List.length_map]; omega)) ?_ | refine HV_p (by first | exact True.intro | omega | (simp only [List.length_append, List.length_cons, List.length_nil, List.length_replicate, List.length_map]; omega)) ?_)
  refine n19 ((super_find (q := 5) hs4 (by simp)).use fun w5 h5 => ?_)
  have f5 : findW [frz 2 1, frz 5 1] 5 = some 1 := by decide
  rw [f5]
  simp only [Option.getD_some, Option.isSome_some]
  (first | refine SV_p (by first | exact True.intro | omega | (simp only [List.length_append, List.length_cons, List.length_nil, List.length_replicate, List.length_map]; omega)) ?_ | refine HV_p (by first | exact True.intro | omega | (simp only [List.length_append, List.length_cons, List.length_nil, List.length_replicate, List.length_map]; omega)) ?_)
  (first | refine SV_p (by first | exact True.intro | omega | (simp only [List.length_append, List.length_cons, List.length_nil, List.length_replicate, List.length_map]; omega)) ?_ | refine HV_p (by first | exact True.intro | omega | (simp only [List.length_append, List.length_cons, List.length_nil, List.length_replicate, List.length_map]; omega)) ?_)
  refine n19 ((super_find (q := 3) (hs4.no h5) (by simp)).use fun w6 h6 => ?_)
  have f3 : findW [frz 2 1, frz 5 1] 3 = none := by decide
  rw [f3]
  simp only [Option.getD_none, Option.isSome_none]
  (first | refine SV_p (by first | exact True.intro | omega | (simp only [List.length_append, List.length_cons, List.length_nil, List.length_replicate, List.length_map]; omega)) ?_ | refine HV_p (by first | exact True.intro | omega | (simp only [List.length_append, List.length_cons, List.length_nil, List.length_replicate, List.length_map]; omega)) ?_)
  (first | refine SV_p (by first | exact True.intro | omega | (simp only [List.length_append, List.length_cons, List.length_nil, List.length_replicate, List.length_map]; omega)) ?_ | refine HV_p (by first | exact True.intro | omega | (simp only [List.length_append, List.length_cons, List.length_nil, List.length_replicate, List.length_map]; omega)) ?_)
  (first | refine SV_p (by first | exact True.intro | omega | (simp only [List.length_append, List.length_cons, List.length_nil, List.length_replicate, List.length_map]; omega)) ?_ | refine HV_p (by first | exact True.intro | omega | (simp only [List.length_append, List.length_cons, List.length_nil, List.length_replicate, List.length_map]; omega)) ?_)
  refine GD_true (by decide) ?_
  (first | refine SV_p (by first | exact True.intro | omega | (simp only [List.length_append, List.length_cons, List.length_nil, List.length_replicate, List.length_map]; omega)) ?_ | refine HV_p (by first | exact True.intro | omega | (simp only [List.length_append, List.length_cons, List.length_nil, List.length_replicate, List.length_map]; omega)) ?_)
  refine GD_true (by decide) ?_
  (first | refine SV_p (by first | exact True.intro | omega | (simp only [List.length_append, List.length_cons, List.length_nil, List.length_replicate, List.length_map]; omega)) ?_ | refine HV_p (by first | exact True.intro | omega | (simp only [List.length_append, List.length_cons, List.length_nil, List.length_replicate, List.length_map]; omega)) ?_)
  refine GD_true (by decide) ?_
  (first | refine SV_p (by first | exact True.intro | omega | (simp only [List.length_append, List.length_cons, List.length_nil, List.length_replicate, List.length_map]; omega)) ?_ | refine HV_p (by first | exact True.intro | omega | (simp only [List.length_append, List.length_cons, List.length_nil, List.length_replicate, List.length_map]; omega)) ?_)
  refine GD_true (by decide) ?_
  (first | refine SV_p (by first | exact True.intro | omega | (simp only [List.length_append, List.length_cons, List.length_nil, List.length_replicate, List.length_map]; omega)) ?_ | refine HV_p (by first | exact True.intro | omega | (simp only [List.length_append, List.length_cons, List.length_nil, List.length_replicate, List.length_map]; omega)) ?_)
  refine GD_true (by decide) ?_
  (first | refine SV_p (by first | exact True.intro | omega | (simp only [List.length_append, List.length_cons, List.length_nil, List.length_replicate, List.length_map]; omega)) ?_ | refine HV_p (by first | exact True.intro | omega | (simp only [List.length_append, List.length_cons, List.length_nil, List.length_replicate, List.length_map]; omega)) ?_)
  refine GD_true (by decide) ?_
  refine GD_tt ?_
  (first | refine SV_p (by first | exact True.intro | omega | (simp only [List.length_append, List.length_cons, List.length_nil, List.length_replicate, List.length_map]; omega)) ?_ | refine HV_p (by first | exact True.intro | omega | (simp only [List.length_append, List.length_cons, List.length_nil, List.length_replicate, List.length_map]; omega)) ?_)
  exact ⟨rfl, hc4.trans (h5.trans h6)⟩

theorem law18_nil {i : Int} {w : World} (hK : KeysAt w) (h1s : 1 < w.heap.size) : Ret Tryz.prog 3 #[.int .i64 i] w (.bool true) := by
  refine c3 ?_
  unfold s3
  refine SV_pu (pu_build (FillOk.nil _)) ?_
  refine SV_box (vs := [.slice none 0 0, .slice none 0 0, .pointer none]) rfl fun gz w1 hgz bz h1 => ?_
  have hz : SuperAt w1 gz (.pointer none) [] := ⟨⟨_, _, bz, Rd.zero none 0, Rd.zero none 0⟩, .inl ⟨rfl, rfl⟩, by omega⟩
  refine SV_pu (pu_build (FillOk.cons rfl rfl rfl (FillOk.cons rfl rfl rfl (FillOk.nil _)))) ?_
  have e1 : fillS Freeze.zero.cells 0 [(0, [Value.int .i64 1], 1), (1, [Value.int .i64 1], 1)] = (frz 1 1).cells := rfl
  rw [e1]
  refine SV_alloc fun gf w2 hgf bf h2 => ?_
  refine SU_storeB bf (Freeze.len _) (Freeze.len _) (Freeze.ones _) fun w3 bf h3 => ?_
  have z1 := h1.size
  have z2 := h2.size
  have z3 := h3.size
  have lz := bz.lt
  have hc3 : Ch No w w3 := (h1.trans h2).own h3 (by omega)
  have hz3 : SuperAt w3 gz (.pointer none) [] := ⟨⟨_, _, (bz.no h2).ch h3 (by omega), Rd.zero none 0, Rd.zero none 0⟩, .inl ⟨rfl, rfl⟩, by omega⟩
  refine SV_loadB bf (Freeze.len _) ?_
  refine n15 ((super_nil_anchor (f := frz 1 1)).use fun w4 h4 => ?_)
  (first | refine SV_p (by first | exact True.intro | omega | (simp only [List.length_append, List.length_cons, List.length_nil, List.length_replicate, List.length_map]; omega)) ?_ | refine HV_p (by first | exact True.intro | omega | (simp only [List.length_append, List.length_cons, List.length_nil, List.length_replicate, List.length_map]; omega)) ?_)
  (first | refine SV_p (by first | exact True.intro | omega | (simp only [List.length_append, List.length_cons, List.length_nil, List.length_replicate, List.length_map]; omega)) ?_ | refine HV_p (by first | exact True.intro | omega | (simp only [List.length_append, List.length_cons, List.length_nil, List.length_replicate, List.length_map]; omega)) ?_)
  refine n16 (super_nil_at.use fun w5 h5 => ?_)
  (first | refine SV_p (by first | exact True.intro | omega | (simp only [List.length_append, List.length_cons, List.length_nil, List.length_replicate, List.length_map]; omega)) ?_ | refine HV_p (by first | exact True.intro | omega | (simp only [List.length_append, List.length_cons, List.length_nil, List.length_replicate, List.length_map]; omega)) ?_)
  (first | refine SV_p (by first | exact True.intro | omega | (simp only [List.length_append, List.length_cons, List.length_nil, List.length_replicate, List.length_map]; omega)) ?_ | refine HV_p (by first | exact True.intro | omega | (simp only [List.length_append, List.length_cons, List.length_nil, List.length_replicate, List.length_map]; omega)) ?_)
  refine SV_alloc fun g8 w6 hg8 b8 h6 => ?_
  refine SU_storeB b8 (vs := Freeze.zero.cells) (Freeze.len _) (Freeze.len _) (Freeze.ones _) fun w7 b8 h7 => ?_
  have z4 := h4.size
  have z5 := h5.size
  have z6 := h6.size
  have z7 := h7.size
  have lf := bf.lt
  have hc36 : Ch No w3 w7 := (h4.trans (h5.trans h6)).own h7 (by omega)
  have bf := bf.no hc36
  have hz7 := hz3.no hc36
  refine n17 (super_nil_path.use fun w8 h8 => ?_)
  (first | refine SV_p (by first | exact True.intro | omega | (simp only [List.length_append, List.length_cons, List.length_nil, List.length_replicate, List.length_map]; omega)) ?_ | refine HV_p (by first | exact True.intro | omega | (simp only [List.length_append, List.length_cons, List.length_nil, List.length_replicate, List.length_map]; omega)) ?_)
  (first | refine SV_p (by first | exact True.intro | omega | (simp only [List.length_append, List.length_cons, List.length_nil, List.length_replicate, List.length_map]; omega)) ?_ | refine HV_p (by first | exact True.intro | omega | (simp only [List.length_append, List.length_cons, List.length_nil, List.length_replicate, List.length_map]; omega)) ?_)
  refine n18 (super_nil_links.use fun w9 h9 => ?_)
  (first | refine SV_p (by first | exact True.intro | omega | (simp only [List.length_append, List.length_cons, List.length_nil, List.length_replicate, List.length_map]; omega)) ?_ | refine HV_p (by first | exact True.intro | omega | (simp only [List.length_append, List.length_cons, List.length_nil, List.length_replicate, List.length_map]; omega)) ?_)
  (first | refine SV_p (by first | exact True.intro | omega | (simp only [List.length_append, List.length_cons, List.length_nil, List.length_replicate, List.length_map]; omega)) ?_ | refine HV_p (by first | exact True.intro | omega | (simp only [List.length_append, List.length_cons, List.length_nil, List.length_replicate, List.length_map]; omega)) ?_)
  refine n19 (super_nil_find.use fun wa ha => ?_)
  (first | refine SV_p (by first | exact True.intro | omega | (simp only [List.length_append, List.length_cons, List.length_nil, List.length_replicate, List.length_map]; omega)) ?_ | refine HV_p (by first | exact True.intro | omega | (simp only [List.length_append, List.length_cons, List.length_nil, List.length_replicate, List.length_map]; omega)) ?_)
  (first | refine SV_p (by first | exact True.intro | omega | (simp only [List.length_append, List.length_cons, List.length_nil, List.length_replicate, List.length_map]; omega)) ?_ | refine HV_p (by first | exact True.intro | omega | (simp only [List.length_append, List.length_cons, List.length_nil, List.length_replicate, List.length_map]; omega)) ?_)
  refine n20 (ref_root_nil.use fun wb hb => ?_)
  refine SV_alloc fun gc wc hgc bc hcc => ?_
  refine SU_storeB bc (Sum.len _) (Sum.len _) (Sum.ones _) fun wd bd hd => ?_
  have y8 := h8.size
  have y9 := h9.size
  have ya := ha.size
  have yb := hb.size
  have yc := hcc.size
  have yd := hd.size
  have h7c : Ch No w7 wc := h8.trans (h9.trans (ha.trans (hb.trans hcc)))
  have lf7 := bf.lt
  have hc7d : Ch No w7 wd := h7c.own hd (by omega)
  have bf := bf.no hc7d
  have hzd := hz7.no hc7d
  have hcd : Ch No w wd := hc3.trans (hc36.trans hc7d)
  refine SV_loadB bf (Freeze.len _) ?_
  refine n15 (Calls.ret_mono (super_anchor (f := frz 1 1) (hK.no hcd) hzd (by simp)) ?_)
  rintro _ we ⟨fve, rfl, hze, hfe, he⟩
  rw [err4] at hze ⊢
  simp only [if_true, List.nil_append] at hze ⊢
  have hne : gc ≠ gz := by omega
  have be : Blk we gc 29 emptyOf.cells := bd.ch he (by
    rintro (h | h)
    · exact hne h
    · cases h)
  have hce : Ch No w we := hcd.owns he fun i hi hS => by
    rcases hS with h | h
    · omega
    · cases h
  (first | refine SV_p (by first | exact True.intro | omega | (simp only [List.length_append, List.length_cons, List.length_nil, List.length_replicate, List.length_map]; omega)) ?_ | refine HV_p (by first | exact True.intro | omega | (simp only [List.length_append, List.length_cons, List.length_nil, List.length_replicate, List.length_map]; omega)) ?_)
  (first | refine SV_p (by first | exact True.intro | omega | (simp only [List.length_append, List.length_cons, List.length_nil, List.length_replicate, List.length_map]; omega)) ?_ | refine HV_p (by first | exact True.intro | omega | (simp only [List.length_append, List.length_cons, List.length_nil, List.length_replicate, List.length_map]; omega)) ?_)
  refine HR_kp No ?_
  have hr0 : Ch No we we.drew := Ch.drew _
  have ze : 1 < we.drew.heap.size := by have := hce.size; show 1 < we.heap.size; omega
  have hKe : KeysAt we := hK.no hce
  refine n21 ((law18_awake (hKe.no hr0) ze).use fun x1 i1 => ?_)
  have j1 := hr0.trans i1
  (first | refine RS_same (j1) ?_ | refine ⟨j1, ?_⟩)
  refine GD_tt ?_
  (first | refine SV_p (by first | exact True.intro | omega | (simp only [List.length_append, List.length_cons, List.length_nil, List.length_replicate, List.length_map]; omega)) ?_ | refine HV_p (by first | exact True.intro | omega | (simp only [List.length_append, List.length_cons, List.length_nil, List.length_replicate, List.length_map]; omega)) ?_)
  refine GD_true (by decide) ?_
  (first | refine SV_p (by first | exact True.intro | omega | (simp only [List.length_append, List.length_cons, List.length_nil, List.length_replicate, List.length_map]; omega)) ?_ | refine HV_p (by first | exact True.intro | omega | (simp only [List.length_append, List.length_cons, List.length_nil, List.length_replicate, List.length_map]; omega)) ?_)
  refine GD_true (by decide) ?_
  (first | refine SV_p (by first | exact True.intro | omega | (simp only [List.length_append, List.length_cons, List.length_nil, List.length_replicate, List.length_map]; omega)) ?_ | refine HV_p (by first | exact True.intro | omega | (simp only [List.length_append, List.length_cons, List.length_nil, List.length_replicate, List.length_map]; omega)) ?_)
  refine GD_true (by decide) ?_
  (first | refine SV_p (by first | exact True.intro | omega | (simp only [List.length_append, List.length_cons, List.length_nil, List.length_replicate, List.length_map]; omega)) ?_ | refine HV_p (by first | exact True.intro | omega | (simp only [List.length_append, List.length_cons, List.length_nil, List.length_replicate, List.length_map]; omega)) ?_)
  refine GD_true (by decide) ?_
  (first | refine SV_p (by first | exact True.intro | omega | (simp only [List.length_append, List.length_cons, List.length_nil, List.length_replicate, List.length_map]; omega)) ?_ | refine HV_p (by first | exact True.intro | omega | (simp only [List.length_append, List.length_cons, List.length_nil, List.length_replicate, List.length_map]; omega)) ?_)
  refine GD_tt ?_
  refine n22 (super_nil_size.use fun x2 i2 => ?_)
  have j2 := j1.trans i2
  (first | refine RS_same (j2) ?_ | refine ⟨j2, ?_⟩)
  refine n23 (super_nil_all.use fun x3 i3 => ?_)
  have j3 := j2.trans i3
  (first | refine RS_same (j3) ?_ | refine ⟨j3, ?_⟩)
  (first | refine SV_p (by first | exact True.intro | omega | (simp only [List.length_append, List.length_cons, List.length_nil, List.length_replicate, List.length_map]; omega)) ?_ | refine HV_p (by first | exact True.intro | omega | (simp only [List.length_append, List.length_cons, List.length_nil, List.length_replicate, List.length_map]; omega)) ?_)
  (first | refine SV_p (by first | exact True.intro | omega | (simp only [List.length_append, List.length_cons, List.length_nil, List.length_replicate, List.length_map]; omega)) ?_ | refine HV_p (by first | exact True.intro | omega | (simp only [List.length_append, List.length_cons, List.length_nil, List.length_replicate, List.length_map]; omega)) ?_)
  (first | refine SV_p (by first | exact True.intro | omega | (simp only [List.length_append, List.length_cons, List.length_nil, List.length_replicate, List.length_map]; omega)) ?_ | refine HV_p (by first | exact True.intro | omega | (simp only [List.length_append, List.length_cons, List.length_nil, List.length_replicate, List.length_map]; omega)) ?_)
  refine GD_true (by decide) ?_
  refine n24 ((super_nil_root (hKe.no j3) (by have := j3.size; have : we.drew.heap.size = we.heap.size := rfl; omega)).use fun x4 i4 => ?_)
  have j4 := j3.trans i4
  (first | refine RS_same (j4) ?_ | refine ⟨j4, ?_⟩)
  refine HV_loadB be (fun h => h) (Sum.len _) ?_
  (first | refine SV_p (by first | exact True.intro | omega | (simp only [List.length_append, List.length_cons, List.length_nil, List.length_replicate, List.length_map]; omega)) ?_ | refine HV_p (by first | exact True.intro | omega | (simp only [List.length_append, List.length_cons, List.length_nil, List.length_replicate, List.length_map]; omega)) ?_)
  refine GD_true rfl ?_
  refine n25 (super_nil_copy.use fun x5 i5 => ?_)
  have j5 := j4.trans i5
  (first | refine RS_same (j5) ?_ | refine ⟨j5, ?_⟩)
  (first | refine SV_p (by first | exact True.intro | omega | (simp only [List.length_append, List.length_cons, List.length_nil, List.length_replicate, List.length_map]; omega)) ?_ | refine HV_p (by first | exact True.intro | omega | (simp only [List.length_append, List.length_cons, List.length_nil, List.length_replicate, List.length_map]; omega)) ?_)
  refine GD_tt ?_
  refine n26 ((super_nil_head (by simp) (hKe.no j5) (by have := j5.size; have : we.drew.heap.size = we.heap.size := rfl; omega)).use fun x6 i6 => ?_)
  have j6 := j5.trans i6
  (first | refine RS_same (j6) ?_ | refine ⟨j6, ?_⟩)
  refine HV_loadB be (fun h => h) (Sum.len _) ?_
  refine n27 ((ref_head _ (by simp) 0 emptyOf 5 _).use fun x7 i7 => ?_)
  have j7 := j6.trans i7
  (first | refine RS_same (j7) ?_ | refine ⟨j7, ?_⟩)
  refine HV_pu pu_eqhead ?_
  refine GD_true rfl ?_
  (first | refine SV_p (by first | exact True.intro | omega | (simp only [List.length_append, List.length_cons, List.length_nil, List.length_replicate, List.length_map]; omega)) ?_ | refine HV_p (by first | exact True.intro | omega | (simp only [List.length_append, List.length_cons, List.length_nil, List.length_replicate, List.length_map]; omega)) ?_)
  refine GD_true (by decide) ?_
  (first | refine SV_p (by first | exact True.intro | omega | (simp only [List.length_append, List.length_cons, List.length_nil, List.length_replicate, List.length_map]; omega)) ?_ | refine HV_p (by first | exact True.intro | omega | (simp only [List.length_append, List.length_cons, List.length_nil, List.length_replicate, List.length_map]; omega)) ?_)
  refine GD_true (by decide) ?_
  refine n22 ((super_size (hze.no j7)).use fun x8 i8 => ?_)
  have j8 := j7.trans i8
  (first | refine RS_same (j8) ?_ | refine ⟨j8, ?_⟩)
  (first | refine SV_p (by first | exact True.intro | omega | (simp only [List.length_append, List.length_cons, List.length_nil, List.length_replicate, List.length_map]; omega)) ?_ | refine HV_p (by first | exact True.intro | omega | (simp only [List.length_append, List.length_cons, List.length_nil, List.length_replicate, List.length_map]; omega)) ?_)
  exact ⟨by simp, hce.trans j8⟩
end Go.Proofs.YtkdghnbogkbedaaGreatDoor
