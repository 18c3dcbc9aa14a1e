/-
  ImageGoes: for every two lists of files, files that are changed by what Diff tells come from the ones to the others: the law answers true and its arguments read as they did. Conditions: the package-level tables hold what the program's text lays. (Part 7 of 8.)
-/
import Derived.WalkKit
import Derived.ProofKit
import Derived.OpenShut
import Derived.Carry
import Derived.Deep.Slices
import Derived.Deep.DeepHandedRow
import Derived.Lib.LaidTab
import Derived.LaidSub
import Derived.Test.YtkdghnbogkbedaaGreatDoorRows
import Derived.Test.YtkdghnbogkbedaaGreatDoorPG5
set_option linter.unusedSimpArgs false
set_option linter.unusedVariables false

namespace Go.Sh
open Go Go.RowKit
/-- The bytes of a vault without shards. -/
def meta0 (width term : Int) (key : List UInt8) (clock : Int) : List UInt8 :=
  [83, 67, 77] ++ numB width ++ numB term ++ textN (hmac key [110, 97, 109, 101]).l ++ numB clock ++ putN 0
def metaN : List UInt8 := [109, 101, 116, 97]
end Go.Sh
namespace Go.Proofs.YtkdghnbogkbedaaGreatDoor
open Go Go.Sh Go.RowKit
set_option maxRecDepth 100000
set_option maxHeartbeats 1000000
set_option linter.unusedSimpArgs false
set_option linter.unusedVariables false

theorem image_put (n : Int) (h0 : 0 ≤ n) (h1 : n ≤ 9223372036854775807) (w0 : World) : Ret Tryz.prog 236 #[.int .i64 n] w0 (str (numB n)) := by
  refine c236 ?_
  unfold s236
  refine SV_pu (pu_idw h0 h1) ?_
  exact n218 ((oct_put _ (by omega) w0).use fun w h => ⟨rfl, h⟩)

theorem mac_name {g : Nat} {k : List UInt8} {w0 : World} (hK : KeysAt w0) (h1s : 1 < w0.heap.size) (hm : MacAt w0 g 289 282 k) : Ret Tryz.prog 238 #[.pointer (some ⟨g, 0, none⟩)] w0 (hmac k [110, 97, 109, 101]).v := by
  refine c238 ?_
  unfold s238
  refine SV_alloc fun g1 w1 hg1 b1 h1 => ?_
  refine SV_str1 fun v w2 h2 hr => ?_
  have z1 := h1.size
  have z2 := h2.size
  have hc := h1.trans h2
  refine n268 ((mac_sum (parts := [[110, 97, 109, 101]]) (hK.no hc) (by omega) (hm.no hc) hr (by simp)).use fun w3 h3 => ?_)
  refine SU_storeB ((b1.no h2).no h3) (Sum.len _) Sum.zero.len (Sum.ones _) fun w9 b9 h9 => ?_
  refine CR_N b9 (Sum.len _) ?_
  exact ⟨by simp; rfl, (hc.trans h3).own h9 (by omega)⟩

theorem sort1_ins {v c : Value} {f : File} {w0 : World} (h : Mem w0 [own eFile v [f]]) : Calls Tryz.prog 274 #[v, .int .i64 0, .int .i64 1, c] w0 (retP fun _ w' => St w0 [own eFile v [f]] w' [own eFile v [f]]) := by
  have m := St.start h
  refine c274 ?_
  unfold s274
  (repeat (first | refine Sh.sv m ?_ | refine Sh.hv ?_ | (refine Sh.sw m ?_; clear m; intro g_ w m) | (refine Sh.su m ?_; clear m; intro w m) | (refine Sh.suN m ?_; clear m; intro w m) | (refine Sh.hr m ?_; clear m; intro m) | refine Sh.rsS m ?_ | refine Sh.hd m ?_ | refine Sh.rsK [] m ?_ | refine CN_tt ?_ | refine CN_ff ?_ | refine GD_tt ?_ | refine GD_ff ?_ | refine GD_tf ?_ | refine GD_ft ?_ | refine CN_true (by first | omega | (simp; done) | (simp; omega)) ?_ | refine CN_false (by first | omega | (simp; done) | (simp; omega)) ?_ | refine GD_true (by first | omega | (simp; done) | (simp; omega)) ?_ | refine GD_true' (by first | omega | (simp; done) | (simp; omega)) ?_ | refine GD_false (by first | omega | (simp; done) | (simp; omega)) ?_ | refine GD_false' (by first | omega | (simp; done) | (simp; omega)) ?_ | refine Sh.crN m ?_ | refine Sh.cr1 m ?_ | refine Sh.svI m (by first | omega | decide) (by first | omega | (simp; done) | (simp; omega)) fun q_ _ hp_ => ?_ | refine Sh.hvI m (by first | omega | decide) (by first | omega | (simp; done) | (simp; omega)) fun q_ _ hp_ => ?_ | refine Sh.svF m fun q_ _ hp_ => ?_ | refine Sh.hvF m fun q_ _ hp_ => ?_))
  refine LP_intro (fun us w => ∃ u, us = [u, .int .i64 1] ∧ St w0 [own eFile v [f]] w [own eFile v [f]]) (fun _ _ => 0) ⟨undef, rfl, m⟩ ?_
  clear m
  rintro us hus ζ w ⟨u, rfl, m⟩
  unfold s274_l2
  simp only [List.getD_cons_zero, List.getD_cons_succ]
  (repeat (first | refine Sh.sv m ?_ | refine Sh.hv ?_ | (refine Sh.sw m ?_; clear m; intro g_ w m) | (refine Sh.su m ?_; clear m; intro w m) | (refine Sh.suN m ?_; clear m; intro w m) | (refine Sh.hr m ?_; clear m; intro m) | refine Sh.rsS m ?_ | refine Sh.hd m ?_ | refine Sh.rsK [] m ?_ | refine CN_tt ?_ | refine CN_ff ?_ | refine GD_tt ?_ | refine GD_ff ?_ | refine GD_tf ?_ | refine GD_ft ?_ | refine CN_true (by first | omega | (simp; done) | (simp; omega)) ?_ | refine CN_false (by first | omega | (simp; done) | (simp; omega)) ?_ | refine GD_true (by first | omega | (simp; done) | (simp; omega)) ?_ | refine GD_true' (by first | omega | (simp; done) | (simp; omega)) ?_ | refine GD_false (by first | omega | (simp; done) | (simp; omega)) ?_ | refine GD_false' (by first | omega | (simp; done) | (simp; omega)) ?_ | refine Sh.crN m ?_ | refine Sh.cr1 m ?_ | refine Sh.svI m (by first | omega | decide) (by first | omega | (simp; done) | (simp; omega)) fun q_ _ hp_ => ?_ | refine Sh.hvI m (by first | omega | decide) (by first | omega | (simp; done) | (simp; omega)) fun q_ _ hp_ => ?_ | refine Sh.svF m fun q_ _ hp_ => ?_ | refine Sh.hvF m fun q_ _ hp_ => ?_))
  exact m
theorem sort1_pdq {v c : Value} {f : File} {n : Int} {w0 : World} (h : Mem w0 [own eFile v [f]]) : Calls Tryz.prog 244 #[v, .int .i64 0, .int .i64 1, .int .i64 n, c] w0 (retP fun _ w' => St w0 [own eFile v [f]] w' [own eFile v [f]]) := by
  have m := St.start h
  refine c244 ?_
  unfold s244
  refine LP_intro (fun us w => us = [.int .i64 n, undef, undef, .bool true, .int .i64 0, .bool true, .int .i64 1] ∧ St w0 [own eFile v [f]] w [own eFile v [f]]) (fun _ _ => 0) ⟨rfl, m⟩ ?_
  clear m
  rintro us hus ζ w ⟨rfl, m⟩
  unfold s244_l1
  simp only [List.getD_cons_zero, List.getD_cons_succ]
  (repeat (first | refine Sh.sv m ?_ | refine Sh.hv ?_ | (refine Sh.sw m ?_; clear m; intro g_ w m) | (refine Sh.su m ?_; clear m; intro w m) | (refine Sh.suN m ?_; clear m; intro w m) | (refine Sh.hr m ?_; clear m; intro m) | refine Sh.rsS m ?_ | refine Sh.hd m ?_ | refine Sh.rsK [] m ?_ | refine CN_tt ?_ | refine CN_ff ?_ | refine GD_tt ?_ | refine GD_ff ?_ | refine GD_tf ?_ | refine GD_ft ?_ | refine CN_true (by first | omega | (simp; done) | (simp; omega)) ?_ | refine CN_false (by first | omega | (simp; done) | (simp; omega)) ?_ | refine GD_true (by first | omega | (simp; done) | (simp; omega)) ?_ | refine GD_true' (by first | omega | (simp; done) | (simp; omega)) ?_ | refine GD_false (by first | omega | (simp; done) | (simp; omega)) ?_ | refine GD_false' (by first | omega | (simp; done) | (simp; omega)) ?_ | refine Sh.crN m ?_ | refine Sh.cr1 m ?_ | refine Sh.svI m (by first | omega | decide) (by first | omega | (simp; done) | (simp; omega)) fun q_ _ hp_ => ?_ | refine Sh.hvI m (by first | omega | decide) (by first | omega | (simp; done) | (simp; omega)) fun q_ _ hp_ => ?_ | refine Sh.svF m fun q_ _ hp_ => ?_ | refine Sh.hvF m fun q_ _ hp_ => ?_))
  refine n274 (m.call (sort1_ins (m.get (by repeat (first | exact Frm.nil | (with_reducible exact Rem.dup) | (with_reducible exact Rem.here) | apply Frm.cons | apply Rem.there)))) ?_); rintro r_ w m1
  exact m.fr (by repeat (first | exact Frm.nil | (with_reducible exact Rem.here) | apply Frm.cons | apply Rem.there)) m1
theorem sort1 {v c : Value} {f : File} {w0 : World} (h : Mem w0 [own eFile v [f]]) : Calls Tryz.prog 167 #[v, c] w0 (retP fun _ w' => St w0 [own eFile v [f]] w' [own eFile v [f]]) := by
  have m := St.start h
  refine c167 ?_
  unfold s167
  (repeat (first | refine Sh.sv m ?_ | refine Sh.hv ?_ | (refine Sh.sw m ?_; clear m; intro g_ w m) | (refine Sh.su m ?_; clear m; intro w m) | (refine Sh.suN m ?_; clear m; intro w m) | (refine Sh.hr m ?_; clear m; intro m) | refine Sh.rsS m ?_ | refine Sh.hd m ?_ | refine Sh.rsK [] m ?_ | refine CN_tt ?_ | refine CN_ff ?_ | refine GD_tt ?_ | refine GD_ff ?_ | refine GD_tf ?_ | refine GD_ft ?_ | refine CN_true (by first | omega | (simp; done) | (simp; omega)) ?_ | refine CN_false (by first | omega | (simp; done) | (simp; omega)) ?_ | refine GD_true (by first | omega | (simp; done) | (simp; omega)) ?_ | refine GD_true' (by first | omega | (simp; done) | (simp; omega)) ?_ | refine GD_false (by first | omega | (simp; done) | (simp; omega)) ?_ | refine GD_false' (by first | omega | (simp; done) | (simp; omega)) ?_ | refine Sh.crN m ?_ | refine Sh.cr1 m ?_ | refine Sh.svI m (by first | omega | decide) (by first | omega | (simp; done) | (simp; omega)) fun q_ _ hp_ => ?_ | refine Sh.hvI m (by first | omega | decide) (by first | omega | (simp; done) | (simp; omega)) fun q_ _ hp_ => ?_ | refine Sh.svF m fun q_ _ hp_ => ?_ | refine Sh.hvF m fun q_ _ hp_ => ?_))
  refine n245 (m.ret ((Ret.of_same (Tryz.bits_Len 1 _ (by omega) (by omega)))) ?_); clear m; intro w m
  refine n244 (m.call (sort1_pdq (m.get (by repeat (first | exact Frm.nil | (with_reducible exact Rem.dup) | (with_reducible exact Rem.here) | apply Frm.cons | apply Rem.there)))) ?_); rintro r_ w m1
  exact m.fr (by repeat (first | exact Frm.nil | (with_reducible exact Rem.here) | apply Frm.cons | apply Rem.there)) m1

section
variable {x : VaultG} {w0 : World}
theorem image_meta0 (h : Mem w0 [keysF, vaultF x]) (hs : x.shards = []) (hk : x.key.length ≤ 64) (hw : 0 ≤ x.width ∧ x.width ≤ 1125899906842624) (ht : 0 ≤ x.term ∧ x.term ≤ 1125899906842624) (hc : 0 ≤ x.clock ∧ x.clock ≤ 1125899906842624) :
    Calls Tryz.prog 161 #[.pointer (some ⟨x.g, 0, none⟩)] w0 (retP fun v w' => v = str (meta0 x.width x.term x.key x.clock) ∧ St w0 [keysF, vaultF x] w' [keysF, vaultF x]) := by
  have m := St.start h
  refine c161 ?_
  unfold s161
  refine n45 (m.call (vault_shards (m.get (by repeat (first | exact Frm.nil | (with_reducible exact Rem.dup) | (with_reducible exact Rem.here) | apply Frm.cons | apply Rem.there))) (by rw [hs]; simp) (by rw [hs]; simp)) ?_); rintro r_ w ⟨l, hl, m1⟩
  have hl0 : l = [] := by rw [hs] at hl; simpa using hl
  subst hl0
  replace m := m.fr (by repeat (first | exact Frm.nil | (with_reducible exact Rem.dup) | (with_reducible exact Rem.here) | apply Frm.cons | apply Rem.there)) m1; simp only [List.cons_append, List.nil_append] at m
  refine n70 (m.ret (vault_key (m.get (by repeat (first | exact Frm.nil | (with_reducible exact Rem.dup) | (with_reducible exact Rem.here) | apply Frm.cons | apply Rem.there)))) ?_); clear m; intro w m
  refine n237 (m.call (mac_new x.key (by omega) _ m.keys m.one_lt) ?_); rintro r_ w ⟨gm, rfl, _, hmc, hcm⟩
  replace m := m.no hcm
  refine n238 ((mac_name m.keys m.one_lt hmc).use fun w1 h1 => ?_)
  replace m := m.no h1
  (repeat (first | refine Sh.sv m ?_ | refine Sh.hv ?_ | (refine Sh.sw m ?_; clear m; intro g_ w m) | (refine Sh.su m ?_; clear m; intro w m) | (refine Sh.suN m ?_; clear m; intro w m) | (refine Sh.hr m ?_; clear m; intro m) | refine Sh.rsS m ?_ | refine Sh.hd m ?_ | refine Sh.rsK [] m ?_ | refine CN_tt ?_ | refine CN_ff ?_ | refine GD_tt ?_ | refine GD_ff ?_ | refine GD_tf ?_ | refine GD_ft ?_ | refine CN_true (by first | omega | (simp; done) | (simp; omega)) ?_ | refine CN_false (by first | omega | (simp; done) | (simp; omega)) ?_ | refine GD_true (by first | omega | (simp; done) | (simp; omega)) ?_ | refine GD_true' (by first | omega | (simp; done) | (simp; omega)) ?_ | refine GD_false (by first | omega | (simp; done) | (simp; omega)) ?_ | refine GD_false' (by first | omega | (simp; done) | (simp; omega)) ?_ | refine Sh.crN m ?_ | refine Sh.cr1 m ?_ | refine Sh.svI m (by first | omega | decide) (by first | omega | (simp; done) | (simp; omega)) fun q_ _ hp_ => ?_ | refine Sh.hvI m (by first | omega | decide) (by first | omega | (simp; done) | (simp; omega)) fun q_ _ hp_ => ?_ | refine Sh.svF m fun q_ _ hp_ => ?_ | refine Sh.hvF m fun q_ _ hp_ => ?_))
  refine n50 (m.ret (vault_width (m.get (by repeat (first | exact Frm.nil | (with_reducible exact Rem.dup) | (with_reducible exact Rem.here) | apply Frm.cons | apply Rem.there)))) ?_); clear m; intro w m
  (repeat (first | refine Sh.sv m ?_ | refine Sh.hv ?_ | (refine Sh.sw m ?_; clear m; intro g_ w m) | (refine Sh.su m ?_; clear m; intro w m) | (refine Sh.suN m ?_; clear m; intro w m) | (refine Sh.hr m ?_; clear m; intro m) | refine Sh.rsS m ?_ | refine Sh.hd m ?_ | refine Sh.rsK [] m ?_ | refine CN_tt ?_ | refine CN_ff ?_ | refine GD_tt ?_ | refine GD_ff ?_ | refine GD_tf ?_ | refine GD_ft ?_ | refine CN_true (by first | omega | (simp; done) | (simp; omega)) ?_ | refine CN_false (by first | omega | (simp; done) | (simp; omega)) ?_ | refine GD_true (by first | omega | (simp; done) | (simp; omega)) ?_ | refine GD_true' (by first | omega | (simp; done) | (simp; omega)) ?_ | refine GD_false (by first | omega | (simp; done) | (simp; omega)) ?_ | refine GD_false' (by first | omega | (simp; done) | (simp; omega)) ?_ | refine Sh.crN m ?_ | refine Sh.cr1 m ?_ | refine Sh.svI m (by first | omega | decide) (by first | omega | (simp; done) | (simp; omega)) fun q_ _ hp_ => ?_ | refine Sh.hvI m (by first | omega | decide) (by first | omega | (simp; done) | (simp; omega)) fun q_ _ hp_ => ?_ | refine Sh.svF m fun q_ _ hp_ => ?_ | refine Sh.hvF m fun q_ _ hp_ => ?_))
  refine SN_fn (n236 (m.ret (image_put x.width hw.1 (by omega) _) ?_)); clear m; intro w m
  have lw := numB_len hw.2
  have lt := numB_len ht.2
  have lc := numB_len hc.2
  (repeat (first | refine Sh.sv m ?_ | refine Sh.hv ?_ | (refine Sh.sw m ?_; clear m; intro g_ w m) | (refine Sh.su m ?_; clear m; intro w m) | (refine Sh.suN m ?_; clear m; intro w m) | (refine Sh.hr m ?_; clear m; intro m) | refine Sh.rsS m ?_ | refine Sh.hd m ?_ | refine Sh.rsK [] m ?_ | refine CN_tt ?_ | refine CN_ff ?_ | refine GD_tt ?_ | refine GD_ff ?_ | refine GD_tf ?_ | refine GD_ft ?_ | refine CN_true (by first | omega | (simp; done) | (simp; omega)) ?_ | refine CN_false (by first | omega | (simp; done) | (simp; omega)) ?_ | refine GD_true (by first | omega | (simp; done) | (simp; omega)) ?_ | refine GD_true' (by first | omega | (simp; done) | (simp; omega)) ?_ | refine GD_false (by first | omega | (simp; done) | (simp; omega)) ?_ | refine GD_false' (by first | omega | (simp; done) | (simp; omega)) ?_ | refine Sh.crN m ?_ | refine Sh.cr1 m ?_ | refine Sh.svI m (by first | omega | decide) (by first | omega | (simp; done) | (simp; omega)) fun q_ _ hp_ => ?_ | refine Sh.hvI m (by first | omega | decide) (by first | omega | (simp; done) | (simp; omega)) fun q_ _ hp_ => ?_ | refine Sh.svF m fun q_ _ hp_ => ?_ | refine Sh.hvF m fun q_ _ hp_ => ?_))
  refine n51 (m.ret (vault_term (m.get (by repeat (first | exact Frm.nil | (with_reducible exact Rem.dup) | (with_reducible exact Rem.here) | apply Frm.cons | apply Rem.there)))) ?_); clear m; intro w m
  (repeat (first | refine Sh.sv m ?_ | refine Sh.hv ?_ | (refine Sh.sw m ?_; clear m; intro g_ w m) | (refine Sh.su m ?_; clear m; intro w m) | (refine Sh.suN m ?_; clear m; intro w m) | (refine Sh.hr m ?_; clear m; intro m) | refine Sh.rsS m ?_ | refine Sh.hd m ?_ | refine Sh.rsK [] m ?_ | refine CN_tt ?_ | refine CN_ff ?_ | refine GD_tt ?_ | refine GD_ff ?_ | refine GD_tf ?_ | refine GD_ft ?_ | refine CN_true (by first | omega | (simp; done) | (simp; omega)) ?_ | refine CN_false (by first | omega | (simp; done) | (simp; omega)) ?_ | refine GD_true (by first | omega | (simp; done) | (simp; omega)) ?_ | refine GD_true' (by first | omega | (simp; done) | (simp; omega)) ?_ | refine GD_false (by first | omega | (simp; done) | (simp; omega)) ?_ | refine GD_false' (by first | omega | (simp; done) | (simp; omega)) ?_ | refine Sh.crN m ?_ | refine Sh.cr1 m ?_ | refine Sh.svI m (by first | omega | decide) (by first | omega | (simp; done) | (simp; omega)) fun q_ _ hp_ => ?_ | refine Sh.hvI m (by first | omega | decide) (by first | omega | (simp; done) | (simp; omega)) fun q_ _ hp_ => ?_ | refine Sh.svF m fun q_ _ hp_ => ?_ | refine Sh.hvF m fun q_ _ hp_ => ?_))
  refine SN_fn (n236 (m.ret (image_put x.term ht.1 (by omega) _) ?_)); clear m; intro w m
  (repeat (first | refine Sh.sv m ?_ | refine Sh.hv ?_ | (refine Sh.sw m ?_; clear m; intro g_ w m) | (refine Sh.su m ?_; clear m; intro w m) | (refine Sh.suN m ?_; clear m; intro w m) | (refine Sh.hr m ?_; clear m; intro m) | refine Sh.rsS m ?_ | refine Sh.hd m ?_ | refine Sh.rsK [] m ?_ | refine CN_tt ?_ | refine CN_ff ?_ | refine GD_tt ?_ | refine GD_ff ?_ | refine GD_tf ?_ | refine GD_ft ?_ | refine CN_true (by first | omega | (simp; done) | (simp; omega)) ?_ | refine CN_false (by first | omega | (simp; done) | (simp; omega)) ?_ | refine GD_true (by first | omega | (simp; done) | (simp; omega)) ?_ | refine GD_true' (by first | omega | (simp; done) | (simp; omega)) ?_ | refine GD_false (by first | omega | (simp; done) | (simp; omega)) ?_ | refine GD_false' (by first | omega | (simp; done) | (simp; omega)) ?_ | refine Sh.crN m ?_ | refine Sh.cr1 m ?_ | refine Sh.svI m (by first | omega | decide) (by first | omega | (simp; done) | (simp; omega)) fun q_ _ hp_ => ?_ | refine Sh.hvI m (by first | omega | decide) (by first | omega | (simp; done) | (simp; omega)) fun q_ _ hp_ => ?_ | refine Sh.svF m fun q_ _ hp_ => ?_ | refine Sh.hvF m fun q_ _ hp_ => ?_))
  refine n163 (m.ret (sha_bytes (hmac x.key [110, 97, 109, 101]) _) ?_); clear m; intro w m
  (repeat (first | refine Sh.sv m ?_ | refine Sh.hv ?_ | (refine Sh.sw m ?_; clear m; intro g_ w m) | (refine Sh.su m ?_; clear m; intro w m) | (refine Sh.suN m ?_; clear m; intro w m) | (refine Sh.hr m ?_; clear m; intro m) | refine Sh.rsS m ?_ | refine Sh.hd m ?_ | refine Sh.rsK [] m ?_ | refine CN_tt ?_ | refine CN_ff ?_ | refine GD_tt ?_ | refine GD_ff ?_ | refine GD_tf ?_ | refine GD_ft ?_ | refine CN_true (by first | omega | (simp; done) | (simp; omega)) ?_ | refine CN_false (by first | omega | (simp; done) | (simp; omega)) ?_ | refine GD_true (by first | omega | (simp; done) | (simp; omega)) ?_ | refine GD_true' (by first | omega | (simp; done) | (simp; omega)) ?_ | refine GD_false (by first | omega | (simp; done) | (simp; omega)) ?_ | refine GD_false' (by first | omega | (simp; done) | (simp; omega)) ?_ | refine Sh.crN m ?_ | refine Sh.cr1 m ?_ | refine Sh.svI m (by first | omega | decide) (by first | omega | (simp; done) | (simp; omega)) fun q_ _ hp_ => ?_ | refine Sh.hvI m (by first | omega | decide) (by first | omega | (simp; done) | (simp; omega)) fun q_ _ hp_ => ?_ | refine Sh.svF m fun q_ _ hp_ => ?_ | refine Sh.hvF m fun q_ _ hp_ => ?_))
  have lm := (hmac x.key [110, 97, 109, 101]).h
  refine n219 (m.ret (oct_text (hmac x.key [110, 97, 109, 101]).l (by omega) _) ?_); clear m; intro w m
  have lx : (textN (hmac x.key [110, 97, 109, 101]).l).length ≤ 41 := sumB_len _
  (repeat (first | refine Sh.sv m ?_ | refine Sh.hv ?_ | (refine Sh.sw m ?_; clear m; intro g_ w m) | (refine Sh.su m ?_; clear m; intro w m) | (refine Sh.suN m ?_; clear m; intro w m) | (refine Sh.hr m ?_; clear m; intro m) | refine Sh.rsS m ?_ | refine Sh.hd m ?_ | refine Sh.rsK [] m ?_ | refine CN_tt ?_ | refine CN_ff ?_ | refine GD_tt ?_ | refine GD_ff ?_ | refine GD_tf ?_ | refine GD_ft ?_ | refine CN_true (by first | omega | (simp; done) | (simp; omega)) ?_ | refine CN_false (by first | omega | (simp; done) | (simp; omega)) ?_ | refine GD_true (by first | omega | (simp; done) | (simp; omega)) ?_ | refine GD_true' (by first | omega | (simp; done) | (simp; omega)) ?_ | refine GD_false (by first | omega | (simp; done) | (simp; omega)) ?_ | refine GD_false' (by first | omega | (simp; done) | (simp; omega)) ?_ | refine Sh.crN m ?_ | refine Sh.cr1 m ?_ | refine Sh.svI m (by first | omega | decide) (by first | omega | (simp; done) | (simp; omega)) fun q_ _ hp_ => ?_ | refine Sh.hvI m (by first | omega | decide) (by first | omega | (simp; done) | (simp; omega)) fun q_ _ hp_ => ?_ | refine Sh.svF m fun q_ _ hp_ => ?_ | refine Sh.hvF m fun q_ _ hp_ => ?_))
  refine n37 (m.ret (vault_clock (m.get (by repeat (first | exact Frm.nil | (with_reducible exact Rem.dup) | (with_reducible exact Rem.here) | apply Frm.cons | apply Rem.there)))) ?_); clear m; intro w m
  (repeat (first | refine Sh.sv m ?_ | refine Sh.hv ?_ | (refine Sh.sw m ?_; clear m; intro g_ w m) | (refine Sh.su m ?_; clear m; intro w m) | (refine Sh.suN m ?_; clear m; intro w m) | (refine Sh.hr m ?_; clear m; intro m) | refine Sh.rsS m ?_ | refine Sh.hd m ?_ | refine Sh.rsK [] m ?_ | refine CN_tt ?_ | refine CN_ff ?_ | refine GD_tt ?_ | refine GD_ff ?_ | refine GD_tf ?_ | refine GD_ft ?_ | refine CN_true (by first | omega | (simp; done) | (simp; omega)) ?_ | refine CN_false (by first | omega | (simp; done) | (simp; omega)) ?_ | refine GD_true (by first | omega | (simp; done) | (simp; omega)) ?_ | refine GD_true' (by first | omega | (simp; done) | (simp; omega)) ?_ | refine GD_false (by first | omega | (simp; done) | (simp; omega)) ?_ | refine GD_false' (by first | omega | (simp; done) | (simp; omega)) ?_ | refine Sh.crN m ?_ | refine Sh.cr1 m ?_ | refine Sh.svI m (by first | omega | decide) (by first | omega | (simp; done) | (simp; omega)) fun q_ _ hp_ => ?_ | refine Sh.hvI m (by first | omega | decide) (by first | omega | (simp; done) | (simp; omega)) fun q_ _ hp_ => ?_ | refine Sh.svF m fun q_ _ hp_ => ?_ | refine Sh.hvF m fun q_ _ hp_ => ?_))
  refine SN_fn (n236 (m.ret (image_put x.clock hc.1 (by omega) _) ?_)); clear m; intro w m
  (repeat (first | refine Sh.sv m ?_ | refine Sh.hv ?_ | (refine Sh.sw m ?_; clear m; intro g_ w m) | (refine Sh.su m ?_; clear m; intro w m) | (refine Sh.suN m ?_; clear m; intro w m) | (refine Sh.hr m ?_; clear m; intro m) | refine Sh.rsS m ?_ | refine Sh.hd m ?_ | refine Sh.rsK [] m ?_ | refine CN_tt ?_ | refine CN_ff ?_ | refine GD_tt ?_ | refine GD_ff ?_ | refine GD_tf ?_ | refine GD_ft ?_ | refine CN_true (by first | omega | (simp; done) | (simp; omega)) ?_ | refine CN_false (by first | omega | (simp; done) | (simp; omega)) ?_ | refine GD_true (by first | omega | (simp; done) | (simp; omega)) ?_ | refine GD_true' (by first | omega | (simp; done) | (simp; omega)) ?_ | refine GD_false (by first | omega | (simp; done) | (simp; omega)) ?_ | refine GD_false' (by first | omega | (simp; done) | (simp; omega)) ?_ | refine Sh.crN m ?_ | refine Sh.cr1 m ?_ | refine Sh.svI m (by first | omega | decide) (by first | omega | (simp; done) | (simp; omega)) fun q_ _ hp_ => ?_ | refine Sh.hvI m (by first | omega | decide) (by first | omega | (simp; done) | (simp; omega)) fun q_ _ hp_ => ?_ | refine Sh.svF m fun q_ _ hp_ => ?_ | refine Sh.hvF m fun q_ _ hp_ => ?_))
  refine SN_fn (n236 (m.ret (image_put 0 (by omega) (by omega) _) ?_)); clear m; intro w m
  have l0 : (numB 0).length ≤ 9 := numB_len (by omega)
  (repeat (first | refine Sh.sv m ?_ | refine Sh.hv ?_ | (refine Sh.sw m ?_; clear m; intro g_ w m) | (refine Sh.su m ?_; clear m; intro w m) | (refine Sh.suN m ?_; clear m; intro w m) | (refine Sh.hr m ?_; clear m; intro m) | refine Sh.rsS m ?_ | refine Sh.hd m ?_ | refine Sh.rsK [] m ?_ | refine CN_tt ?_ | refine CN_ff ?_ | refine GD_tt ?_ | refine GD_ff ?_ | refine GD_tf ?_ | refine GD_ft ?_ | refine CN_true (by first | omega | (simp; done) | (simp; omega)) ?_ | refine CN_false (by first | omega | (simp; done) | (simp; omega)) ?_ | refine GD_true (by first | omega | (simp; done) | (simp; omega)) ?_ | refine GD_true' (by first | omega | (simp; done) | (simp; omega)) ?_ | refine GD_false (by first | omega | (simp; done) | (simp; omega)) ?_ | refine GD_false' (by first | omega | (simp; done) | (simp; omega)) ?_ | refine Sh.crN m ?_ | refine Sh.cr1 m ?_ | refine Sh.svI m (by first | omega | decide) (by first | omega | (simp; done) | (simp; omega)) fun q_ _ hp_ => ?_ | refine Sh.hvI m (by first | omega | decide) (by first | omega | (simp; done) | (simp; omega)) fun q_ _ hp_ => ?_ | refine Sh.svF m fun q_ _ hp_ => ?_ | refine Sh.hvF m fun q_ _ hp_ => ?_))
  refine LP_intro (fun us w => ∃ u, us = [u, str (meta0 x.width x.term x.key x.clock), .int .i64 0] ∧ St w0 [keysF, vaultF x] w [own eShard r_ [], vaultF x, keysF]) (fun _ _ => 0) (by exact ⟨undef, rfl, m.sub (X := [own eShard r_ (List.map (fun s : ShardG => s.g) []), vaultF x, keysF]) (by repeat (first | exact Frm.nil | (with_reducible exact Rem.here) | apply Frm.cons | apply Rem.there))⟩) ?_
  clear m
  rintro us hus ζ w ⟨u, rfl, m⟩
  unfold s161_l1
  simp only [List.getD_cons_zero, List.getD_cons_succ]
  (repeat (first | refine Sh.sv m ?_ | refine Sh.hv ?_ | (refine Sh.sw m ?_; clear m; intro g_ w m) | (refine Sh.su m ?_; clear m; intro w m) | (refine Sh.suN m ?_; clear m; intro w m) | (refine Sh.hr m ?_; clear m; intro m) | refine Sh.rsS m ?_ | refine Sh.hd m ?_ | refine Sh.rsK [] m ?_ | refine CN_tt ?_ | refine CN_ff ?_ | refine GD_tt ?_ | refine GD_ff ?_ | refine GD_tf ?_ | refine GD_ft ?_ | refine CN_true (by first | omega | (simp; done) | (simp; omega)) ?_ | refine CN_false (by first | omega | (simp; done) | (simp; omega)) ?_ | refine GD_true (by first | omega | (simp; done) | (simp; omega)) ?_ | refine GD_true' (by first | omega | (simp; done) | (simp; omega)) ?_ | refine GD_false (by first | omega | (simp; done) | (simp; omega)) ?_ | refine GD_false' (by first | omega | (simp; done) | (simp; omega)) ?_ | refine Sh.crN m ?_ | refine Sh.cr1 m ?_ | refine Sh.svI m (by first | omega | decide) (by first | omega | (simp; done) | (simp; omega)) fun q_ _ hp_ => ?_ | refine Sh.hvI m (by first | omega | decide) (by first | omega | (simp; done) | (simp; omega)) fun q_ _ hp_ => ?_ | refine Sh.svF m fun q_ _ hp_ => ?_ | refine Sh.hvF m fun q_ _ hp_ => ?_))
  exact ⟨by trivial, m.sub (by repeat (first | exact Frm.nil | (with_reducible exact Rem.dup) | (with_reducible exact Rem.here) | apply Frm.cons | apply Rem.there))⟩

theorem image_files0 (h : Mem w0 [keysF, vaultF x]) (hs : x.shards = []) (hk : x.key.length ≤ 64) (hw : 0 ≤ x.width ∧ x.width ≤ 1125899906842624) (ht : 0 ≤ x.term ∧ x.term ≤ 1125899906842624) (hc : 0 ≤ x.clock ∧ x.clock ≤ 1125899906842624) :
    Calls Tryz.prog 93 #[.pointer (some ⟨x.g, 0, none⟩)] w0 (retP fun v w' => St w0 [keysF, vaultF x] w' [own eFile v [⟨metaN, meta0 x.width x.term x.key x.clock⟩], keysF, vaultF x]) := by
  have m := St.start h
  refine c93 ?_
  unfold s93
  (repeat (first | refine Sh.sv m ?_ | refine Sh.hv ?_ | (refine Sh.sw m ?_; clear m; intro g_ w m) | (refine Sh.su m ?_; clear m; intro w m) | (refine Sh.suN m ?_; clear m; intro w m) | (refine Sh.hr m ?_; clear m; intro m) | refine Sh.rsS m ?_ | refine Sh.hd m ?_ | refine Sh.rsK [] m ?_ | refine CN_tt ?_ | refine CN_ff ?_ | refine GD_tt ?_ | refine GD_ff ?_ | refine GD_tf ?_ | refine GD_ft ?_ | refine CN_true (by first | omega | (simp; done) | (simp; omega)) ?_ | refine CN_false (by first | omega | (simp; done) | (simp; omega)) ?_ | refine GD_true (by first | omega | (simp; done) | (simp; omega)) ?_ | refine GD_true' (by first | omega | (simp; done) | (simp; omega)) ?_ | refine GD_false (by first | omega | (simp; done) | (simp; omega)) ?_ | refine GD_false' (by first | omega | (simp; done) | (simp; omega)) ?_ | refine Sh.crN m ?_ | refine Sh.cr1 m ?_ | refine Sh.svI m (by first | omega | decide) (by first | omega | (simp; done) | (simp; omega)) fun q_ _ hp_ => ?_ | refine Sh.hvI m (by first | omega | decide) (by first | omega | (simp; done) | (simp; omega)) fun q_ _ hp_ => ?_ | refine Sh.svF m fun q_ _ hp_ => ?_ | refine Sh.hvF m fun q_ _ hp_ => ?_))
  refine n161 (m.call (image_meta0 (m.get (by repeat (first | exact Frm.nil | (with_reducible exact Rem.dup) | (with_reducible exact Rem.here) | apply Frm.cons | apply Rem.there))) hs hk hw ht hc) ?_); rintro r_ w ⟨rfl, m1⟩
  replace m := m.fr (by repeat (first | exact Frm.nil | (with_reducible exact Rem.dup) | (with_reducible exact Rem.here) | apply Frm.cons | apply Rem.there)) m1; simp only [List.cons_append, List.nil_append] at m
  (repeat (first | refine Sh.sv m ?_ | refine Sh.hv ?_ | (refine Sh.sw m ?_; clear m; intro g_ w m) | (refine Sh.su m ?_; clear m; intro w m) | (refine Sh.suN m ?_; clear m; intro w m) | (refine Sh.hr m ?_; clear m; intro m) | refine Sh.rsS m ?_ | refine Sh.hd m ?_ | refine Sh.rsK [] m ?_ | refine CN_tt ?_ | refine CN_ff ?_ | refine GD_tt ?_ | refine GD_ff ?_ | refine GD_tf ?_ | refine GD_ft ?_ | refine CN_true (by first | omega | (simp; done) | (simp; omega)) ?_ | refine CN_false (by first | omega | (simp; done) | (simp; omega)) ?_ | refine GD_true (by first | omega | (simp; done) | (simp; omega)) ?_ | refine GD_true' (by first | omega | (simp; done) | (simp; omega)) ?_ | refine GD_false (by first | omega | (simp; done) | (simp; omega)) ?_ | refine GD_false' (by first | omega | (simp; done) | (simp; omega)) ?_ | refine Sh.crN m ?_ | refine Sh.cr1 m ?_ | refine Sh.svI m (by first | omega | decide) (by first | omega | (simp; done) | (simp; omega)) fun q_ _ hp_ => ?_ | refine Sh.hvI m (by first | omega | decide) (by first | omega | (simp; done) | (simp; omega)) fun q_ _ hp_ => ?_ | refine Sh.svF m fun q_ _ hp_ => ?_ | refine Sh.hvF m fun q_ _ hp_ => ?_))
  refine lits eFile [⟨metaN, meta0 x.width x.term x.key x.clock⟩] m [_] rfl rfl rfl (by simp) ?_; clear m; intro v1 w _ m
  refine n45 (m.call (vault_shards (m.get (by repeat (first | exact Frm.nil | (with_reducible exact Rem.dup) | (with_reducible exact Rem.here) | apply Frm.cons | apply Rem.there))) (by rw [hs]; simp) (by rw [hs]; simp)) ?_); rintro r_ w ⟨l, hl, m1⟩
  have hl0 : l = [] := by rw [hs] at hl; simpa using hl
  subst hl0
  replace m := m.fr (by repeat (first | exact Frm.nil | (with_reducible exact Rem.dup) | (with_reducible exact Rem.here) | apply Frm.cons | apply Rem.there)) m1; simp only [List.cons_append, List.nil_append] at m
  (repeat (first | refine Sh.sv m ?_ | refine Sh.hv ?_ | (refine Sh.sw m ?_; clear m; intro g_ w m) | (refine Sh.su m ?_; clear m; intro w m) | (refine Sh.suN m ?_; clear m; intro w m) | (refine Sh.hr m ?_; clear m; intro m) | refine Sh.rsS m ?_ | refine Sh.hd m ?_ | refine Sh.rsK [] m ?_ | refine CN_tt ?_ | refine CN_ff ?_ | refine GD_tt ?_ | refine GD_ff ?_ | refine GD_tf ?_ | refine GD_ft ?_ | refine CN_true (by first | omega | (simp; done) | (simp; omega)) ?_ | refine CN_false (by first | omega | (simp; done) | (simp; omega)) ?_ | refine GD_true (by first | omega | (simp; done) | (simp; omega)) ?_ | refine GD_true' (by first | omega | (simp; done) | (simp; omega)) ?_ | refine GD_false (by first | omega | (simp; done) | (simp; omega)) ?_ | refine GD_false' (by first | omega | (simp; done) | (simp; omega)) ?_ | refine Sh.crN m ?_ | refine Sh.cr1 m ?_ | refine Sh.svI m (by first | omega | decide) (by first | omega | (simp; done) | (simp; omega)) fun q_ _ hp_ => ?_ | refine Sh.hvI m (by first | omega | decide) (by first | omega | (simp; done) | (simp; omega)) fun q_ _ hp_ => ?_ | refine Sh.svF m fun q_ _ hp_ => ?_ | refine Sh.hvF m fun q_ _ hp_ => ?_))
  refine LP_intro (fun us w => ∃ u, us = [u, v1, .int .i64 0] ∧ St w0 [keysF, vaultF x] w [own eFile v1 [⟨metaN, meta0 x.width x.term x.key x.clock⟩], keysF, vaultF x]) (fun _ _ => 0) (by exact ⟨undef, rfl, m.sub (by repeat (first | exact Frm.nil | (with_reducible exact Rem.here) | apply Frm.cons | apply Rem.there))⟩) ?_
  clear m
  rintro us hus ζ w ⟨u, rfl, m⟩
  unfold s93_l2
  simp only [List.getD_cons_zero, List.getD_cons_succ]
  (repeat (first | refine Sh.sv m ?_ | refine Sh.hv ?_ | (refine Sh.sw m ?_; clear m; intro g_ w m) | (refine Sh.su m ?_; clear m; intro w m) | (refine Sh.suN m ?_; clear m; intro w m) | (refine Sh.hr m ?_; clear m; intro m) | refine Sh.rsS m ?_ | refine Sh.hd m ?_ | refine Sh.rsK [] m ?_ | refine CN_tt ?_ | refine CN_ff ?_ | refine GD_tt ?_ | refine GD_ff ?_ | refine GD_tf ?_ | refine GD_ft ?_ | refine CN_true (by first | omega | (simp; done) | (simp; omega)) ?_ | refine CN_false (by first | omega | (simp; done) | (simp; omega)) ?_ | refine GD_true (by first | omega | (simp; done) | (simp; omega)) ?_ | refine GD_true' (by first | omega | (simp; done) | (simp; omega)) ?_ | refine GD_false (by first | omega | (simp; done) | (simp; omega)) ?_ | refine GD_false' (by first | omega | (simp; done) | (simp; omega)) ?_ | refine Sh.crN m ?_ | refine Sh.cr1 m ?_ | refine Sh.svI m (by first | omega | decide) (by first | omega | (simp; done) | (simp; omega)) fun q_ _ hp_ => ?_ | refine Sh.hvI m (by first | omega | decide) (by first | omega | (simp; done) | (simp; omega)) fun q_ _ hp_ => ?_ | refine Sh.svF m fun q_ _ hp_ => ?_ | refine Sh.hvF m fun q_ _ hp_ => ?_))
  refine n167 (m.call (sort1 (m.get (by repeat (first | exact Frm.nil | (with_reducible exact Rem.dup) | (with_reducible exact Rem.here) | apply Frm.cons | apply Rem.there)))) ?_); rintro r_ w m1
  replace m := m.fr (by repeat (first | exact Frm.nil | (with_reducible exact Rem.dup) | (with_reducible exact Rem.here) | apply Frm.cons | apply Rem.there)) m1; simp only [List.cons_append, List.nil_append] at m
  exact m.sub (by repeat (first | exact Frm.nil | (with_reducible exact Rem.here) | apply Frm.cons | apply Rem.there))
end
end Go.Proofs.YtkdghnbogkbedaaGreatDoor

namespace Go.Sh
open Go Go.RowKit
def nameAt (i : Nat) (f : File) : List UInt8 := [UInt8.ofNat (97 + i)] ++ (if f.name.length % 2 = 1 then [49] else [])
def fileAt (i : Nat) (f : File) : List File := if f.name.length % 5 = 4 then [] else [⟨nameAt i f, f.data.take 40⟩]
/-- The lists of files that the laws speak of, from the i-th on. -/
def filesFrom : Nat → List File → List File
  | _, [] => []
  | i, f :: l => if i < 8 then fileAt i f ++ filesFrom (i + 1) l else []
def filesOf (l : List File) : List File := filesFrom 0 l

theorem diff_a : diffOf [⟨[97], [120]⟩] [⟨[97], [120, 121]⟩] = [⟨2, [97], [121], 0⟩] := by simp [diffOf, changeOf, isPre, Op.bytesLess]
theorem diff_b : diffOf [⟨[97], [120, 121]⟩] [⟨[97], [120]⟩] = [⟨3, [97], [], 1⟩] := by simp [diffOf, changeOf, isPre, Op.bytesLess]
theorem diff_c : diffOf [⟨[97], [120]⟩] [⟨[97], [121]⟩] = [⟨5, [97], [121], 0⟩] := by simp [diffOf, changeOf, isPre, Op.bytesLess]
theorem fileAt_len (i : Nat) (f : File) : (fileAt i f).length ≤ 1 := by unfold fileAt; split <;> simp
theorem filesFrom_len : ∀ (l : List File) (i : Nat), (filesFrom i l).length ≤ 8 - i
  | [], i => by simp [filesFrom]
  | f :: l, i => by
    unfold filesFrom
    split
    · have := filesFrom_len l (i + 1)
      have := fileAt_len i f
      rw [List.length_append]; omega
    · simp
end Go.Sh
namespace Go.Proofs.YtkdghnbogkbedaaGreatDoor
open Go Go.Sh Go.RowKit
set_option maxRecDepth 100000
set_option maxHeartbeats 1000000
set_option linter.unusedSimpArgs false
set_option linter.unusedVariables false

theorem law_one (name data : List UInt8) (w0 : World) : Calls Tryz.prog 94 #[str name, str data] w0 (retP fun v w' => IsSl v ∧ St w0 [] w' [sl eFile v [⟨name, data⟩]]) := by
  have m := St.nil w0
  refine c94 ?_
  unfold s94
  (repeat (first | refine Sh.sv m ?_ | refine Sh.hv ?_ | (refine Sh.sw m ?_; clear m; intro g_ w m) | (refine Sh.su m ?_; clear m; intro w m) | (refine Sh.suN m ?_; clear m; intro w m) | (refine Sh.hr m ?_; clear m; intro m) | refine Sh.rsS m ?_ | refine Sh.hd m ?_ | refine Sh.rsK [] m ?_ | refine CN_tt ?_ | refine CN_ff ?_ | refine GD_tt ?_ | refine GD_ff ?_ | refine GD_tf ?_ | refine GD_ft ?_ | refine CN_true (by first | omega | (simp; done) | (simp; omega)) ?_ | refine CN_false (by first | omega | (simp; done) | (simp; omega)) ?_ | refine GD_true (by first | omega | (simp; done) | (simp; omega)) ?_ | refine GD_true' (by first | omega | (simp; done) | (simp; omega)) ?_ | refine GD_false (by first | omega | (simp; done) | (simp; omega)) ?_ | refine GD_false' (by first | omega | (simp; done) | (simp; omega)) ?_ | refine Sh.crN m ?_ | refine Sh.cr1 m ?_ | refine Sh.svI m (by first | omega | decide) (by first | omega | (simp; done) | (simp; omega)) fun q_ _ hp_ => ?_ | refine Sh.hvI m (by first | omega | decide) (by first | omega | (simp; done) | (simp; omega)) fun q_ _ hp_ => ?_ | refine Sh.svF m fun q_ _ hp_ => ?_ | refine Sh.hvF m fun q_ _ hp_ => ?_))
  refine lits eFile [⟨name, data⟩] m [_] rfl rfl rfl (by simp) ?_; clear m; intro v1 w _ m
  exact ⟨m.isl, m.pub v1⟩

theorem law21_awake {w0 : World} (h : Mem w0 [keysF]) : Ret Tryz.prog 28 #[] w0 (.bool true) := by
  have m := St.start h
  refine c28 ?_
  unfold s28
  refine n35 (m.call (vault_new 10 5 [107] _ (by simp) (by omega) (by omega)) ?_); rintro r_ w ⟨x, h1, h2, h3, h4, h5, h6, rfl, m1⟩
  replace m := m.fr Frm.nil m1; simp only [List.cons_append, List.nil_append] at m
  refine n93 (m.call (image_files0 (m.get (by repeat (first | exact Frm.nil | (with_reducible exact Rem.dup) | (with_reducible exact Rem.here) | apply Frm.cons | apply Rem.there))) h5 (by rw [h3]; simp) (by rw [h1]; omega) (by rw [h2]; omega) (by rw [h4]; omega)) ?_); rintro r_ w m1
  have i0 := m1.isl (v := r_)
  replace m := m.fr (by repeat (first | exact Frm.nil | (with_reducible exact Rem.dup) | (with_reducible exact Rem.here) | apply Frm.cons | apply Rem.there)) m1; simp only [List.cons_append, List.nil_append] at m
  refine n94 (m.call (law_one [97] [120] _) ?_); rintro r_ w ⟨ia, m1⟩
  replace m := m.fr Frm.nil m1; simp only [List.cons_append, List.nil_append] at m
  refine n94 (m.call (law_one [97] [120, 121] _) ?_); rintro r_ w ⟨ib, m1⟩
  replace m := m.fr Frm.nil m1; simp only [List.cons_append, List.nil_append] at m
  refine n31 (m.call (image_diff (m.get (by repeat (first | exact Frm.nil | (with_reducible exact Rem.dup) | (with_reducible exact Rem.here) | apply Frm.cons | apply Rem.there))) (by simp) (by simp) (by simp)) ?_); rintro r_ w m1
  rw [diff_a] at m1
  have i1 := m1.isl (v := r_)
  replace m := m.fr (by repeat (first | exact Frm.nil | (with_reducible exact Rem.dup) | (with_reducible exact Rem.here) | apply Frm.cons | apply Rem.there)) m1; simp only [List.cons_append, List.nil_append] at m
  refine n94 (m.call (law_one [97] [120, 121] _) ?_); rintro r_ w ⟨ic, m1⟩
  replace m := m.fr Frm.nil m1; simp only [List.cons_append, List.nil_append] at m
  refine n94 (m.call (law_one [97] [120] _) ?_); rintro r_ w ⟨id, m1⟩
  replace m := m.fr Frm.nil m1; simp only [List.cons_append, List.nil_append] at m
  refine n31 (m.call (image_diff (m.get (by repeat (first | exact Frm.nil | (with_reducible exact Rem.dup) | (with_reducible exact Rem.here) | apply Frm.cons | apply Rem.there))) (by simp) (by simp) (by simp)) ?_); rintro r_ w m1
  rw [diff_b] at m1
  have i2 := m1.isl (v := r_)
  replace m := m.fr (by repeat (first | exact Frm.nil | (with_reducible exact Rem.dup) | (with_reducible exact Rem.here) | apply Frm.cons | apply Rem.there)) m1; simp only [List.cons_append, List.nil_append] at m
  refine n94 (m.call (law_one [97] [120] _) ?_); rintro r_ w ⟨ie, m1⟩
  replace m := m.fr Frm.nil m1; simp only [List.cons_append, List.nil_append] at m
  refine n94 (m.call (law_one [97] [121] _) ?_); rintro r_ w ⟨if_, m1⟩
  replace m := m.fr Frm.nil m1; simp only [List.cons_append, List.nil_append] at m
  refine n31 (m.call (image_diff (m.get (by repeat (first | exact Frm.nil | (with_reducible exact Rem.dup) | (with_reducible exact Rem.here) | apply Frm.cons | apply Rem.there))) (by simp) (by simp) (by simp)) ?_); rintro r_ w m1
  rw [diff_c] at m1
  have i3 := m1.isl (v := r_)
  replace m := m.fr (by repeat (first | exact Frm.nil | (with_reducible exact Rem.dup) | (with_reducible exact Rem.here) | apply Frm.cons | apply Rem.there)) m1; simp only [List.cons_append, List.nil_append] at m
  (repeat (first | refine Sh.sv m ?_ | refine Sh.hv ?_ | (refine Sh.sw m ?_; clear m; intro g_ w m) | (refine Sh.su m ?_; clear m; intro w m) | (refine Sh.suN m ?_; clear m; intro w m) | (refine Sh.hr m ?_; clear m; intro m) | refine Sh.rsS m ?_ | refine Sh.hd m ?_ | refine Sh.rsK [] m ?_ | refine CN_tt ?_ | refine CN_ff ?_ | refine GD_tt ?_ | refine GD_ff ?_ | refine GD_tf ?_ | refine GD_ft ?_ | refine CN_true (by first | omega | (simp; done) | (simp; omega)) ?_ | refine CN_false (by first | omega | (simp; done) | (simp; omega)) ?_ | refine GD_true (by first | omega | (simp; done) | (simp; omega)) ?_ | refine GD_true' (by first | omega | (simp; done) | (simp; omega)) ?_ | refine GD_false (by first | omega | (simp; done) | (simp; omega)) ?_ | refine GD_false' (by first | omega | (simp; done) | (simp; omega)) ?_ | refine Sh.crN m ?_ | refine Sh.cr1 m ?_ | refine Sh.svI m (by first | omega | decide) (by first | omega | (simp; done) | (simp; omega)) fun q_ _ hp_ => ?_ | refine Sh.hvI m (by first | omega | decide) (by first | omega | (simp; done) | (simp; omega)) fun q_ _ hp_ => ?_ | refine Sh.svF m fun q_ _ hp_ => ?_ | refine Sh.hvF m fun q_ _ hp_ => ?_))
  (repeat (simp only [Int.toNat_zero, List.getElem_cons_zero]; (repeat (first | refine Sh.sv m ?_ | refine Sh.hv ?_ | (refine Sh.sw m ?_; clear m; intro g_ w m) | (refine Sh.su m ?_; clear m; intro w m) | (refine Sh.suN m ?_; clear m; intro w m) | (refine Sh.hr m ?_; clear m; intro m) | refine Sh.rsS m ?_ | refine Sh.hd m ?_ | refine Sh.rsK [] m ?_ | refine CN_tt ?_ | refine CN_ff ?_ | refine GD_tt ?_ | refine GD_ff ?_ | refine GD_tf ?_ | refine GD_ft ?_ | refine CN_true (by first | omega | (simp; done) | (simp; omega)) ?_ | refine CN_false (by first | omega | (simp; done) | (simp; omega)) ?_ | refine GD_true (by first | omega | (simp; done) | (simp; omega)) ?_ | refine GD_true' (by first | omega | (simp; done) | (simp; omega)) ?_ | refine GD_false (by first | omega | (simp; done) | (simp; omega)) ?_ | refine GD_false' (by first | omega | (simp; done) | (simp; omega)) ?_ | refine Sh.crN m ?_ | refine Sh.cr1 m ?_ | refine Sh.svI m (by first | omega | decide) (by first | omega | (simp; done) | (simp; omega)) fun q_ _ hp_ => ?_ | refine Sh.hvI m (by first | omega | decide) (by first | omega | (simp; done) | (simp; omega)) fun q_ _ hp_ => ?_ | refine Sh.svF m fun q_ _ hp_ => ?_ | refine Sh.hvF m fun q_ _ hp_ => ?_))))
  exact ⟨by simp, m.ch.mono fun _ _ h => by cases h⟩

theorem law21_short (s : List UInt8) (n : Nat) (w0 : World) : Ret Tryz.prog 95 #[str s, .int .i64 n] w0 (str (s.take n)) := by
  have m := St.nil w0
  refine c95 ?_
  unfold s95
  by_cases h : n < s.length
  · (repeat (first | refine Sh.sv m ?_ | refine Sh.hv ?_ | (refine Sh.sw m ?_; clear m; intro g_ w m) | (refine Sh.su m ?_; clear m; intro w m) | (refine Sh.suN m ?_; clear m; intro w m) | (refine Sh.hr m ?_; clear m; intro m) | refine Sh.rsS m ?_ | refine Sh.hd m ?_ | refine Sh.rsK [] m ?_ | refine CN_tt ?_ | refine CN_ff ?_ | refine GD_tt ?_ | refine GD_ff ?_ | refine GD_tf ?_ | refine GD_ft ?_ | refine CN_true (by first | omega | (simp; done) | (simp; omega)) ?_ | refine CN_false (by first | omega | (simp; done) | (simp; omega)) ?_ | refine GD_true (by first | omega | (simp; done) | (simp; omega)) ?_ | refine GD_true' (by first | omega | (simp; done) | (simp; omega)) ?_ | refine GD_false (by first | omega | (simp; done) | (simp; omega)) ?_ | refine GD_false' (by first | omega | (simp; done) | (simp; omega)) ?_ | refine Sh.crN m ?_ | refine Sh.cr1 m ?_ | refine Sh.svI m (by first | omega | decide) (by first | omega | (simp; done) | (simp; omega)) fun q_ _ hp_ => ?_ | refine Sh.hvI m (by first | omega | decide) (by first | omega | (simp; done) | (simp; omega)) fun q_ _ hp_ => ?_ | refine Sh.svF m fun q_ _ hp_ => ?_ | refine Sh.hvF m fun q_ _ hp_ => ?_))
    exact ⟨by simp, m.chNo⟩
  · (repeat (first | refine Sh.sv m ?_ | refine Sh.hv ?_ | (refine Sh.sw m ?_; clear m; intro g_ w m) | (refine Sh.su m ?_; clear m; intro w m) | (refine Sh.suN m ?_; clear m; intro w m) | (refine Sh.hr m ?_; clear m; intro m) | refine Sh.rsS m ?_ | refine Sh.hd m ?_ | refine Sh.rsK [] m ?_ | refine CN_tt ?_ | refine CN_ff ?_ | refine GD_tt ?_ | refine GD_ff ?_ | refine GD_tf ?_ | refine GD_ft ?_ | refine CN_true (by first | omega | (simp; done) | (simp; omega)) ?_ | refine CN_false (by first | omega | (simp; done) | (simp; omega)) ?_ | refine GD_true (by first | omega | (simp; done) | (simp; omega)) ?_ | refine GD_true' (by first | omega | (simp; done) | (simp; omega)) ?_ | refine GD_false (by first | omega | (simp; done) | (simp; omega)) ?_ | refine GD_false' (by first | omega | (simp; done) | (simp; omega)) ?_ | refine Sh.crN m ?_ | refine Sh.cr1 m ?_ | refine Sh.svI m (by first | omega | decide) (by first | omega | (simp; done) | (simp; omega)) fun q_ _ hp_ => ?_ | refine Sh.hvI m (by first | omega | decide) (by first | omega | (simp; done) | (simp; omega)) fun q_ _ hp_ => ?_ | refine Sh.svF m fun q_ _ hp_ => ?_ | refine Sh.hvF m fun q_ _ hp_ => ?_))
    exact ⟨by rw [List.take_of_length_le (by omega)], m.chNo⟩

theorem law21_files {v : Value} {l : List File} {w0 : World} (h : Mem w0 [sl eFile v l]) (hl : l.length ≤ 9223372036854775807) :
    Calls Tryz.prog 29 #[v] w0 (retP fun r w' => St w0 [sl eFile v l] w' [own eFile r (filesOf l), sl eFile v l]) := by
  have m := St.start h
  refine c29 ?_
  unfold s29
  refine LP_intro (fun us w => ∃ (u r : Value) (i : Nat) (acc : List File), us = [u, r, .int .i64 i] ∧ i ≤ l.length ∧ i ≤ 8 ∧ acc ++ filesFrom i (l.drop i) = filesOf l ∧ St w0 [sl eFile v l] w [own eFile r acc, sl eFile v l])
    (fun us _ => match us with | [_, _, .int _ t] => 8 - t.toNat | _ => 0) ⟨_, _, 0, [], rfl, Nat.zero_le _, by omega, rfl, m.nilOwn eFile⟩ ?_
  clear m
  rintro us hus ζ w ⟨u, r, i, acc, rfl, hi, hi8, hacc, m⟩
  have ir := m.isl (v := r)
  unfold s29_l1
  simp only [List.getD_cons_zero, List.getD_cons_succ]
  by_cases hlt : i < l.length
  · rw [List.drop_eq_getElem_cons hlt] at hacc
    by_cases h8 : i < 8
    · rw [filesFrom, if_pos h8, ← List.append_assoc] at hacc
      have hal : acc.length ≤ 8 := by
        have := congrArg List.length hacc
        have h3 := filesFrom_len l 0
        simp only [List.length_append, filesOf] at this
        omega
      (repeat (first | refine Sh.sv m ?_ | refine Sh.hv ?_ | (refine Sh.sw m ?_; clear m; intro g_ w m) | (refine Sh.su m ?_; clear m; intro w m) | (refine Sh.suN m ?_; clear m; intro w m) | (refine Sh.hr m ?_; clear m; intro m) | refine Sh.rsS m ?_ | refine Sh.hd m ?_ | refine Sh.rsK [] m ?_ | refine CN_tt ?_ | refine CN_ff ?_ | refine GD_tt ?_ | refine GD_ff ?_ | refine GD_tf ?_ | refine GD_ft ?_ | refine CN_true (by first | omega | (simp; done) | (simp; omega)) ?_ | refine CN_false (by first | omega | (simp; done) | (simp; omega)) ?_ | refine GD_true (by first | omega | (simp; done) | (simp; omega)) ?_ | refine GD_true' (by first | omega | (simp; done) | (simp; omega)) ?_ | refine GD_false (by first | omega | (simp; done) | (simp; omega)) ?_ | refine GD_false' (by first | omega | (simp; done) | (simp; omega)) ?_ | refine Sh.crN m ?_ | refine Sh.cr1 m ?_ | refine Sh.svI m (by first | omega | decide) (by first | omega | (simp; done) | (simp; omega)) fun q_ _ hp_ => ?_ | refine Sh.hvI m (by first | omega | decide) (by first | omega | (simp; done) | (simp; omega)) fun q_ _ hp_ => ?_ | refine Sh.svF m fun q_ _ hp_ => ?_ | refine Sh.hvF m fun q_ _ hp_ => ?_))
      refine JP_in ?_
      refine Sh.sv m ?_
      rw [show ((97 : Int) + (i : Int)) = ((97 + i : Nat) : Int) by omega]
      refine SV_pu pu_n8 ?_
      refine SV_byte fun w1 h1 => ?_
      replace m := m.no h1
      refine JP_cut (fun us w => us = [str (nameAt i l[i])] ∧ St w0 [sl eFile v l] w [own eFile r acc, sl eFile v l]) ?_ ?_
      · (repeat (first | refine Sh.sv m ?_ | refine Sh.hv ?_ | (refine Sh.sw m ?_; clear m; intro g_ w m) | (refine Sh.su m ?_; clear m; intro w m) | (refine Sh.suN m ?_; clear m; intro w m) | (refine Sh.hr m ?_; clear m; intro m) | refine Sh.rsS m ?_ | refine Sh.hd m ?_ | refine Sh.rsK [] m ?_ | refine CN_tt ?_ | refine CN_ff ?_ | refine GD_tt ?_ | refine GD_ff ?_ | refine GD_tf ?_ | refine GD_ft ?_ | refine CN_true (by first | omega | (simp; done) | (simp; omega)) ?_ | refine CN_false (by first | omega | (simp; done) | (simp; omega)) ?_ | refine GD_true (by first | omega | (simp; done) | (simp; omega)) ?_ | refine GD_true' (by first | omega | (simp; done) | (simp; omega)) ?_ | refine GD_false (by first | omega | (simp; done) | (simp; omega)) ?_ | refine GD_false' (by first | omega | (simp; done) | (simp; omega)) ?_ | refine Sh.crN m ?_ | refine Sh.cr1 m ?_ | refine Sh.svI m (by first | omega | decide) (by first | omega | (simp; done) | (simp; omega)) fun q_ _ hp_ => ?_ | refine Sh.hvI m (by first | omega | decide) (by first | omega | (simp; done) | (simp; omega)) fun q_ _ hp_ => ?_ | refine Sh.svF m fun q_ _ hp_ => ?_ | refine Sh.hvF m fun q_ _ hp_ => ?_))
        simp only [Int.toNat_natCast]
        refine CN_split (fun h2 => ?_) (fun h2 => ?_)
        · (repeat (first | refine Sh.sv m ?_ | refine Sh.hv ?_ | (refine Sh.sw m ?_; clear m; intro g_ w m) | (refine Sh.su m ?_; clear m; intro w m) | (refine Sh.suN m ?_; clear m; intro w m) | (refine Sh.hr m ?_; clear m; intro m) | refine Sh.rsS m ?_ | refine Sh.hd m ?_ | refine Sh.rsK [] m ?_ | refine CN_tt ?_ | refine CN_ff ?_ | refine GD_tt ?_ | refine GD_ff ?_ | refine GD_tf ?_ | refine GD_ft ?_ | refine CN_true (by first | omega | (simp; done) | (simp; omega)) ?_ | refine CN_false (by first | omega | (simp; done) | (simp; omega)) ?_ | refine GD_true (by first | omega | (simp; done) | (simp; omega)) ?_ | refine GD_true' (by first | omega | (simp; done) | (simp; omega)) ?_ | refine GD_false (by first | omega | (simp; done) | (simp; omega)) ?_ | refine GD_false' (by first | omega | (simp; done) | (simp; omega)) ?_ | refine Sh.crN m ?_ | refine Sh.cr1 m ?_ | refine Sh.svI m (by first | omega | decide) (by first | omega | (simp; done) | (simp; omega)) fun q_ _ hp_ => ?_ | refine Sh.hvI m (by first | omega | decide) (by first | omega | (simp; done) | (simp; omega)) fun q_ _ hp_ => ?_ | refine Sh.svF m fun q_ _ hp_ => ?_ | refine Sh.hvF m fun q_ _ hp_ => ?_))
          exact ⟨by rw [nameAt, if_pos (by omega)], m⟩
        · exact ⟨by rw [nameAt, if_neg (by omega)]; simp, m⟩
      clear m
      rintro us hus ζ w ⟨rfl, m⟩
      unfold s29_j1
      simp only [List.getD_cons_zero, List.getD_cons_succ]
      (repeat (first | refine Sh.sv m ?_ | refine Sh.hv ?_ | (refine Sh.sw m ?_; clear m; intro g_ w m) | (refine Sh.su m ?_; clear m; intro w m) | (refine Sh.suN m ?_; clear m; intro w m) | (refine Sh.hr m ?_; clear m; intro m) | refine Sh.rsS m ?_ | refine Sh.hd m ?_ | refine Sh.rsK [] m ?_ | refine CN_tt ?_ | refine CN_ff ?_ | refine GD_tt ?_ | refine GD_ff ?_ | refine GD_tf ?_ | refine GD_ft ?_ | refine CN_true (by first | omega | (simp; done) | (simp; omega)) ?_ | refine CN_false (by first | omega | (simp; done) | (simp; omega)) ?_ | refine GD_true (by first | omega | (simp; done) | (simp; omega)) ?_ | refine GD_true' (by first | omega | (simp; done) | (simp; omega)) ?_ | refine GD_false (by first | omega | (simp; done) | (simp; omega)) ?_ | refine GD_false' (by first | omega | (simp; done) | (simp; omega)) ?_ | refine Sh.crN m ?_ | refine Sh.cr1 m ?_ | refine Sh.svI m (by first | omega | decide) (by first | omega | (simp; done) | (simp; omega)) fun q_ _ hp_ => ?_ | refine Sh.hvI m (by first | omega | decide) (by first | omega | (simp; done) | (simp; omega)) fun q_ _ hp_ => ?_ | refine Sh.svF m fun q_ _ hp_ => ?_ | refine Sh.hvF m fun q_ _ hp_ => ?_))
      simp only [Int.toNat_natCast]
      refine CN_split (fun h2 => ?_) (fun h2 => ?_)
      · refine ⟨rfl, fun _ => ?_⟩
        unfold s29_j2
        simp only [List.getD_cons_zero, List.getD_cons_succ]
        (repeat (first | refine Sh.sv m ?_ | refine Sh.hv ?_ | (refine Sh.sw m ?_; clear m; intro g_ w m) | (refine Sh.su m ?_; clear m; intro w m) | (refine Sh.suN m ?_; clear m; intro w m) | (refine Sh.hr m ?_; clear m; intro m) | refine Sh.rsS m ?_ | refine Sh.hd m ?_ | refine Sh.rsK [] m ?_ | refine CN_tt ?_ | refine CN_ff ?_ | refine GD_tt ?_ | refine GD_ff ?_ | refine GD_tf ?_ | refine GD_ft ?_ | refine CN_true (by first | omega | (simp; done) | (simp; omega)) ?_ | refine CN_false (by first | omega | (simp; done) | (simp; omega)) ?_ | refine GD_true (by first | omega | (simp; done) | (simp; omega)) ?_ | refine GD_true' (by first | omega | (simp; done) | (simp; omega)) ?_ | refine GD_false (by first | omega | (simp; done) | (simp; omega)) ?_ | refine GD_false' (by first | omega | (simp; done) | (simp; omega)) ?_ | refine Sh.crN m ?_ | refine Sh.cr1 m ?_ | refine Sh.svI m (by first | omega | decide) (by first | omega | (simp; done) | (simp; omega)) fun q_ _ hp_ => ?_ | refine Sh.hvI m (by first | omega | decide) (by first | omega | (simp; done) | (simp; omega)) fun q_ _ hp_ => ?_ | refine Sh.svF m fun q_ _ hp_ => ?_ | refine Sh.hvF m fun q_ _ hp_ => ?_))
        refine ⟨⟨_, r, i + 1, acc, rfl, hlt, h8, ?_, m⟩, ?_⟩
        · rw [← hacc, fileAt, if_pos (by omega), List.append_nil]
        · show 8 - ((i : Int) + 1).toNat < 8 - (i : Int).toNat
          omega
      · (repeat (first | refine Sh.sv m ?_ | refine Sh.hv ?_ | (refine Sh.sw m ?_; clear m; intro g_ w m) | (refine Sh.su m ?_; clear m; intro w m) | (refine Sh.suN m ?_; clear m; intro w m) | (refine Sh.hr m ?_; clear m; intro m) | refine Sh.rsS m ?_ | refine Sh.hd m ?_ | refine Sh.rsK [] m ?_ | refine CN_tt ?_ | refine CN_ff ?_ | refine GD_tt ?_ | refine GD_ff ?_ | refine GD_tf ?_ | refine GD_ft ?_ | refine CN_true (by first | omega | (simp; done) | (simp; omega)) ?_ | refine CN_false (by first | omega | (simp; done) | (simp; omega)) ?_ | refine GD_true (by first | omega | (simp; done) | (simp; omega)) ?_ | refine GD_true' (by first | omega | (simp; done) | (simp; omega)) ?_ | refine GD_false (by first | omega | (simp; done) | (simp; omega)) ?_ | refine GD_false' (by first | omega | (simp; done) | (simp; omega)) ?_ | refine Sh.crN m ?_ | refine Sh.cr1 m ?_ | refine Sh.svI m (by first | omega | decide) (by first | omega | (simp; done) | (simp; omega)) fun q_ _ hp_ => ?_ | refine Sh.hvI m (by first | omega | decide) (by first | omega | (simp; done) | (simp; omega)) fun q_ _ hp_ => ?_ | refine Sh.svF m fun q_ _ hp_ => ?_ | refine Sh.hvF m fun q_ _ hp_ => ?_))
        simp only [Int.toNat_natCast]
        refine n95 (m.ret (law21_short l[i].data 40 _) ?_); clear m; intro w m
        (repeat (first | refine Sh.sv m ?_ | refine Sh.hv ?_ | (refine Sh.sw m ?_; clear m; intro g_ w m) | (refine Sh.su m ?_; clear m; intro w m) | (refine Sh.suN m ?_; clear m; intro w m) | (refine Sh.hr m ?_; clear m; intro m) | refine Sh.rsS m ?_ | refine Sh.hd m ?_ | refine Sh.rsK [] m ?_ | refine CN_tt ?_ | refine CN_ff ?_ | refine GD_tt ?_ | refine GD_ff ?_ | refine GD_tf ?_ | refine GD_ft ?_ | refine CN_true (by first | omega | (simp; done) | (simp; omega)) ?_ | refine CN_false (by first | omega | (simp; done) | (simp; omega)) ?_ | refine GD_true (by first | omega | (simp; done) | (simp; omega)) ?_ | refine GD_true' (by first | omega | (simp; done) | (simp; omega)) ?_ | refine GD_false (by first | omega | (simp; done) | (simp; omega)) ?_ | refine GD_false' (by first | omega | (simp; done) | (simp; omega)) ?_ | refine Sh.crN m ?_ | refine Sh.cr1 m ?_ | refine Sh.svI m (by first | omega | decide) (by first | omega | (simp; done) | (simp; omega)) fun q_ _ hp_ => ?_ | refine Sh.hvI m (by first | omega | decide) (by first | omega | (simp; done) | (simp; omega)) fun q_ _ hp_ => ?_ | refine Sh.svF m fun q_ _ hp_ => ?_ | refine Sh.hvF m fun q_ _ hp_ => ?_))
        refine lits eFile [⟨nameAt i l[i], l[i].data.take 40⟩] m [_] rfl rfl rfl (by simp) ?_; clear m; intro v5 w _ m
        refine ap m (by simp; omega) (by simp [maxLen]; omega) ?_; clear m; intro v6 w _ m
        (repeat (first | refine Sh.sv m ?_ | refine Sh.hv ?_ | (refine Sh.sw m ?_; clear m; intro g_ w m) | (refine Sh.su m ?_; clear m; intro w m) | (refine Sh.suN m ?_; clear m; intro w m) | (refine Sh.hr m ?_; clear m; intro m) | refine Sh.rsS m ?_ | refine Sh.hd m ?_ | refine Sh.rsK [] m ?_ | refine CN_tt ?_ | refine CN_ff ?_ | refine GD_tt ?_ | refine GD_ff ?_ | refine GD_tf ?_ | refine GD_ft ?_ | refine CN_true (by first | omega | (simp; done) | (simp; omega)) ?_ | refine CN_false (by first | omega | (simp; done) | (simp; omega)) ?_ | refine GD_true (by first | omega | (simp; done) | (simp; omega)) ?_ | refine GD_true' (by first | omega | (simp; done) | (simp; omega)) ?_ | refine GD_false (by first | omega | (simp; done) | (simp; omega)) ?_ | refine GD_false' (by first | omega | (simp; done) | (simp; omega)) ?_ | refine Sh.crN m ?_ | refine Sh.cr1 m ?_ | refine Sh.svI m (by first | omega | decide) (by first | omega | (simp; done) | (simp; omega)) fun q_ _ hp_ => ?_ | refine Sh.hvI m (by first | omega | decide) (by first | omega | (simp; done) | (simp; omega)) fun q_ _ hp_ => ?_ | refine Sh.svF m fun q_ _ hp_ => ?_ | refine Sh.hvF m fun q_ _ hp_ => ?_))
        refine ⟨rfl, fun _ => ?_⟩
        unfold s29_j2
        simp only [List.getD_cons_zero, List.getD_cons_succ]
        (repeat (first | refine Sh.sv m ?_ | refine Sh.hv ?_ | (refine Sh.sw m ?_; clear m; intro g_ w m) | (refine Sh.su m ?_; clear m; intro w m) | (refine Sh.suN m ?_; clear m; intro w m) | (refine Sh.hr m ?_; clear m; intro m) | refine Sh.rsS m ?_ | refine Sh.hd m ?_ | refine Sh.rsK [] m ?_ | refine CN_tt ?_ | refine CN_ff ?_ | refine GD_tt ?_ | refine GD_ff ?_ | refine GD_tf ?_ | refine GD_ft ?_ | refine CN_true (by first | omega | (simp; done) | (simp; omega)) ?_ | refine CN_false (by first | omega | (simp; done) | (simp; omega)) ?_ | refine GD_true (by first | omega | (simp; done) | (simp; omega)) ?_ | refine GD_true' (by first | omega | (simp; done) | (simp; omega)) ?_ | refine GD_false (by first | omega | (simp; done) | (simp; omega)) ?_ | refine GD_false' (by first | omega | (simp; done) | (simp; omega)) ?_ | refine Sh.crN m ?_ | refine Sh.cr1 m ?_ | refine Sh.svI m (by first | omega | decide) (by first | omega | (simp; done) | (simp; omega)) fun q_ _ hp_ => ?_ | refine Sh.hvI m (by first | omega | decide) (by first | omega | (simp; done) | (simp; omega)) fun q_ _ hp_ => ?_ | refine Sh.svF m fun q_ _ hp_ => ?_ | refine Sh.hvF m fun q_ _ hp_ => ?_))
        refine ⟨⟨_, v6, i + 1, _, rfl, hlt, h8, ?_, m.sub (by repeat (first | exact Frm.nil | (with_reducible exact Rem.dup) | (with_reducible exact Rem.here) | apply Frm.cons | apply Rem.there))⟩, ?_⟩
        · rw [← hacc, fileAt, if_neg (by omega)]
        · show 8 - ((i : Int) + 1).toNat < 8 - (i : Int).toNat
          omega
    · (repeat (first | refine Sh.sv m ?_ | refine Sh.hv ?_ | (refine Sh.sw m ?_; clear m; intro g_ w m) | (refine Sh.su m ?_; clear m; intro w m) | (refine Sh.suN m ?_; clear m; intro w m) | (refine Sh.hr m ?_; clear m; intro m) | refine Sh.rsS m ?_ | refine Sh.hd m ?_ | refine Sh.rsK [] m ?_ | refine CN_tt ?_ | refine CN_ff ?_ | refine GD_tt ?_ | refine GD_ff ?_ | refine GD_tf ?_ | refine GD_ft ?_ | refine CN_true (by first | omega | (simp; done) | (simp; omega)) ?_ | refine CN_false (by first | omega | (simp; done) | (simp; omega)) ?_ | refine GD_true (by first | omega | (simp; done) | (simp; omega)) ?_ | refine GD_true' (by first | omega | (simp; done) | (simp; omega)) ?_ | refine GD_false (by first | omega | (simp; done) | (simp; omega)) ?_ | refine GD_false' (by first | omega | (simp; done) | (simp; omega)) ?_ | refine Sh.crN m ?_ | refine Sh.cr1 m ?_ | refine Sh.svI m (by first | omega | decide) (by first | omega | (simp; done) | (simp; omega)) fun q_ _ hp_ => ?_ | refine Sh.hvI m (by first | omega | decide) (by first | omega | (simp; done) | (simp; omega)) fun q_ _ hp_ => ?_ | refine Sh.svF m fun q_ _ hp_ => ?_ | refine Sh.hvF m fun q_ _ hp_ => ?_))
      rw [filesFrom, if_neg h8, List.append_nil] at hacc
      rw [← hacc]
      exact m.sub (by repeat (first | exact Frm.nil | (with_reducible exact Rem.dup) | (with_reducible exact Rem.here) | apply Frm.cons | apply Rem.there))
  · (repeat (first | refine Sh.sv m ?_ | refine Sh.hv ?_ | (refine Sh.sw m ?_; clear m; intro g_ w m) | (refine Sh.su m ?_; clear m; intro w m) | (refine Sh.suN m ?_; clear m; intro w m) | (refine Sh.hr m ?_; clear m; intro m) | refine Sh.rsS m ?_ | refine Sh.hd m ?_ | refine Sh.rsK [] m ?_ | refine CN_tt ?_ | refine CN_ff ?_ | refine GD_tt ?_ | refine GD_ff ?_ | refine GD_tf ?_ | refine GD_ft ?_ | refine CN_true (by first | omega | (simp; done) | (simp; omega)) ?_ | refine CN_false (by first | omega | (simp; done) | (simp; omega)) ?_ | refine GD_true (by first | omega | (simp; done) | (simp; omega)) ?_ | refine GD_true' (by first | omega | (simp; done) | (simp; omega)) ?_ | refine GD_false (by first | omega | (simp; done) | (simp; omega)) ?_ | refine GD_false' (by first | omega | (simp; done) | (simp; omega)) ?_ | refine Sh.crN m ?_ | refine Sh.cr1 m ?_ | refine Sh.svI m (by first | omega | decide) (by first | omega | (simp; done) | (simp; omega)) fun q_ _ hp_ => ?_ | refine Sh.hvI m (by first | omega | decide) (by first | omega | (simp; done) | (simp; omega)) fun q_ _ hp_ => ?_ | refine Sh.svF m fun q_ _ hp_ => ?_ | refine Sh.hvF m fun q_ _ hp_ => ?_))
    rw [List.drop_eq_nil_of_le (by omega), filesFrom, List.append_nil] at hacc
    rw [← hacc]
    exact m.sub (by repeat (first | exact Frm.nil | (with_reducible exact Rem.dup) | (with_reducible exact Rem.here) | apply Frm.cons | apply Rem.there))
end Go.Proofs.YtkdghnbogkbedaaGreatDoor

namespace Go.Sh
open Go Go.RowKit
theorem filesFrom_data : ∀ (l : List File) (i : Nat), ∀ f ∈ filesFrom i l, f.data.length ≤ 40
  | [], i, f, h => by simp [filesFrom] at h
  | a :: l, i, f, h => by
    unfold filesFrom at h
    split at h
    · rcases List.mem_append.1 h with h | h
      · unfold fileAt at h
        split at h
        · cases h
        · cases List.mem_singleton.1 h; simp; omega
      · exact filesFrom_data l (i + 1) f h
    · cases h
theorem filesFrom_name : ∀ (l : List File) (i : Nat), ∀ f ∈ filesFrom i l, ∃ j r, i ≤ j ∧ j < 8 ∧ f.name = UInt8.ofNat (97 + j) :: r ∧ (r = [] ∨ r = [49])
  | [], i, f, h => by simp [filesFrom] at h
  | a :: l, i, f, h => by
    unfold filesFrom at h
    split at h
    · rename_i h8
      rcases List.mem_append.1 h with h | h
      · unfold fileAt at h
        split at h
        · cases h
        · cases List.mem_singleton.1 h
          refine ⟨i, _, Nat.le_refl _, h8, rfl, ?_⟩
          split
          · exact .inr rfl
          · exact .inl rfl
      · obtain ⟨j, r, h1, h2, h3⟩ := filesFrom_name l (i + 1) f h
        exact ⟨j, r, by omega, h2, h3⟩
    · cases h
theorem blt_head {i j : Nat} (hij : i < j) (hj : j < 8) (x y : List UInt8) : Op.bytesLess (UInt8.ofNat (97 + i) :: x) (UInt8.ofNat (97 + j) :: y) = true := by
  rw [blt_cons]
  left
  rw [UInt8.lt_iff_toNat_lt, UInt8.toNat_ofNat', UInt8.toNat_ofNat']
  omega
theorem filesFrom_rises : ∀ (l : List File) (i : Nat), Rises (filesFrom i l)
  | [], i => by simp [filesFrom, Rises]
  | a :: l, i => by
    unfold filesFrom
    split
    · rename_i h8
      unfold Rises
      rw [List.pairwise_append]
      refine ⟨?_, filesFrom_rises l (i + 1), fun x hx y hy => ?_⟩
      · unfold fileAt; split <;> simp
      · obtain ⟨j, r, h1, h2, h3, _⟩ := filesFrom_name l (i + 1) y hy
        unfold fileAt at hx
        split at hx
        · cases hx
        · cases List.mem_singleton.1 hx
          rw [h3]
          exact blt_head (by omega) h2 _ _
    · simp [Rises]
theorem diffOf_self : ∀ {l : List File}, diffOf l l = []
  | [] => by simp [diffOf]
  | a :: l => by
    rw [diffOf, if_neg (by simp [blt_irr]), if_neg (by simp [blt_irr]), diffOf_self]
    simp [changeOf, isPre]
theorem rises_snoc {l : List File} {a b : File} (h : Rises (l ++ [a])) (hab : Op.bytesLess a.name b.name = true) : Rises (l ++ [a] ++ [b]) := by
  unfold Rises at *
  rw [List.pairwise_append]
  refine ⟨h, by simp, fun x hx y hy => ?_⟩
  cases List.mem_singleton.1 hy
  rcases List.mem_append.1 hx with hx | hx
  · exact blt_trans ((List.pairwise_append.1 h).2.2 x hx a (by simp)) hab
  · cases List.mem_singleton.1 hx; exact hab
end Go.Sh
namespace Go.Proofs.YtkdghnbogkbedaaGreatDoor
open Go Go.Sh Go.RowKit
set_option maxRecDepth 100000
set_option maxHeartbeats 1000000
set_option linter.unusedSimpArgs false
set_option linter.unusedVariables false

theorem law21_diffs {av bv : Value} {a b : List File} {half : Bool} {w0 : World} (h : Mem w0 [keysF, sl eFile av a, sl eFile bv b]) (ha : a.length ≤ 9223372036854775807) (hb : b.length ≤ 9223372036854775807) :
    Ret Tryz.prog 4 #[av, bv, .bool half] w0 (.bool true) := by
  have m := St.start h
  refine c4 ?_
  unfold s4
  refine n28 (m.ret (law21_awake (m.get (by repeat (first | exact Frm.nil | (with_reducible exact Rem.dup) | (with_reducible exact Rem.here) | apply Frm.cons | apply Rem.there)))) ?_); clear m; intro w m
  refine n29 (m.call (law21_files (m.get (by repeat (first | exact Frm.nil | (with_reducible exact Rem.dup) | (with_reducible exact Rem.here) | apply Frm.cons | apply Rem.there))) ha) ?_); rintro lv w m1
  have il := m1.isl (v := lv)
  replace m := m.fr (by repeat (first | exact Frm.nil | (with_reducible exact Rem.dup) | (with_reducible exact Rem.here) | apply Frm.cons | apply Rem.there)) m1; simp only [List.cons_append, List.nil_append] at m
  replace m := m.pub lv
  refine n29 (m.call (law21_files (m.get (by repeat (first | exact Frm.nil | (with_reducible exact Rem.dup) | (with_reducible exact Rem.here) | apply Frm.cons | apply Rem.there))) hb) ?_); rintro mv w m1
  have im := m1.isl (v := mv)
  replace m := m.fr (by repeat (first | exact Frm.nil | (with_reducible exact Rem.dup) | (with_reducible exact Rem.here) | apply Frm.cons | apply Rem.there)) m1; simp only [List.cons_append, List.nil_append] at m
  have la : (filesOf a).length ≤ 8 := filesFrom_len a 0
  have lb : (filesOf b).length ≤ 8 := filesFrom_len b 0
  have da := filesFrom_data a 0
  have db := filesFrom_data b 0
  refine JP_cut (fun us w => ∃ l' : List File, l'.length ≤ 8 ∧ (∀ f ∈ l', f.data.length ≤ 1000) ∧ St w0 [keysF, sl eFile av a, sl eFile bv b] w [own eFile mv l', sl eFile lv (filesOf a), keysF]) ?_ ?_
  · cases half with
    | false =>
      (repeat (first | refine Sh.sv m ?_ | refine Sh.hv ?_ | (refine Sh.sw m ?_; clear m; intro g_ w m) | (refine Sh.su m ?_; clear m; intro w m) | (refine Sh.suN m ?_; clear m; intro w m) | (refine Sh.hr m ?_; clear m; intro m) | refine Sh.rsS m ?_ | refine Sh.hd m ?_ | refine Sh.rsK [] m ?_ | refine CN_tt ?_ | refine CN_ff ?_ | refine GD_tt ?_ | refine GD_ff ?_ | refine GD_tf ?_ | refine GD_ft ?_ | refine CN_true (by first | omega | (simp; done) | (simp; omega)) ?_ | refine CN_false (by first | omega | (simp; done) | (simp; omega)) ?_ | refine GD_true (by first | omega | (simp; done) | (simp; omega)) ?_ | refine GD_true' (by first | omega | (simp; done) | (simp; omega)) ?_ | refine GD_false (by first | omega | (simp; done) | (simp; omega)) ?_ | refine GD_false' (by first | omega | (simp; done) | (simp; omega)) ?_ | refine Sh.crN m ?_ | refine Sh.cr1 m ?_ | refine Sh.svI m (by first | omega | decide) (by first | omega | (simp; done) | (simp; omega)) fun q_ _ hp_ => ?_ | refine Sh.hvI m (by first | omega | decide) (by first | omega | (simp; done) | (simp; omega)) fun q_ _ hp_ => ?_ | refine Sh.svF m fun q_ _ hp_ => ?_ | refine Sh.hvF m fun q_ _ hp_ => ?_))
      exact ⟨filesOf b, lb, fun f hf => Nat.le_trans (db f hf) (by omega), m.sub (by repeat (first | exact Frm.nil | (with_reducible exact Rem.dup) | (with_reducible exact Rem.here) | apply Frm.cons | apply Rem.there))⟩
    | true =>
      (repeat (first | refine Sh.sv m ?_ | refine Sh.hv ?_ | (refine Sh.sw m ?_; clear m; intro g_ w m) | (refine Sh.su m ?_; clear m; intro w m) | (refine Sh.suN m ?_; clear m; intro w m) | (refine Sh.hr m ?_; clear m; intro m) | refine Sh.rsS m ?_ | refine Sh.hd m ?_ | refine Sh.rsK [] m ?_ | refine CN_tt ?_ | refine CN_ff ?_ | refine GD_tt ?_ | refine GD_ff ?_ | refine GD_tf ?_ | refine GD_ft ?_ | refine CN_true (by first | omega | (simp; done) | (simp; omega)) ?_ | refine CN_false (by first | omega | (simp; done) | (simp; omega)) ?_ | refine GD_true (by first | omega | (simp; done) | (simp; omega)) ?_ | refine GD_true' (by first | omega | (simp; done) | (simp; omega)) ?_ | refine GD_false (by first | omega | (simp; done) | (simp; omega)) ?_ | refine GD_false' (by first | omega | (simp; done) | (simp; omega)) ?_ | refine Sh.crN m ?_ | refine Sh.cr1 m ?_ | refine Sh.svI m (by first | omega | decide) (by first | omega | (simp; done) | (simp; omega)) fun q_ _ hp_ => ?_ | refine Sh.hvI m (by first | omega | decide) (by first | omega | (simp; done) | (simp; omega)) fun q_ _ hp_ => ?_ | refine Sh.svF m fun q_ _ hp_ => ?_ | refine Sh.hvF m fun q_ _ hp_ => ?_))
      refine LP_intro (fun us w => ∃ (i : Nat) (l' : List File), us = [.int .i64 i] ∧ i ≤ l'.length ∧ l'.length ≤ 8 ∧ (∀ f ∈ l', f.data.length ≤ 40 + 40 * i) ∧ St w0 [keysF, sl eFile av a, sl eFile bv b] w [own eFile mv l', sl eFile lv (filesOf a), keysF])
        (fun us _ => match us with | [.int _ t] => 8 - t.toNat | _ => 0) (by exact ⟨0, filesOf b, rfl, Nat.zero_le _, lb, db, m.sub (by repeat (first | exact Frm.nil | (with_reducible exact Rem.dup) | (with_reducible exact Rem.here) | apply Frm.cons | apply Rem.there))⟩) ?_
      clear m
      rintro us hus ζ w ⟨i, l', rfl, hi, hl', hd, m⟩
      unfold s4_l1
      simp only [List.getD_cons_zero, List.getD_cons_succ]
      have fin : ∀ f ∈ l', f.data.length ≤ 1000 := fun f hf => Nat.le_trans (hd f hf) (by omega)
      by_cases hlt : i < l'.length
      · by_cases hlt2 : i < (filesOf a).length
        · have go : ∀ (l2 : List File) (w : World), l2.length = l'.length → (∀ f ∈ l2, f.data.length ≤ 40 + 40 * (i + 1)) → St w0 [keysF, sl eFile av a, sl eFile bv b] w [own eFile mv l2, sl eFile lv (filesOf a), keysF] →
              s4_j1 Tryz.prog (fun v w' => v = .bool true ∧ Ch No w0 w') (.int .i64 i) (fun us'' w'' => (∃ (i : Nat) (l' : List File), us'' = [.int .i64 i] ∧ i ≤ l'.length ∧ l'.length ≤ 8 ∧ (∀ f ∈ l', f.data.length ≤ 40 + 40 * i) ∧ St w0 [keysF, sl eFile av a, sl eFile bv b] w'' [own eFile mv l', sl eFile lv (filesOf a), keysF]) ∧
                (match us'' with | [.int _ t] => 8 - t.toNat | _ => 0) < 8 - (i : Int).toNat) w := by
            intro l2 w h1 h2 m
            unfold s4_j1
            (repeat (first | refine Sh.sv m ?_ | refine Sh.hv ?_ | (refine Sh.sw m ?_; clear m; intro g_ w m) | (refine Sh.su m ?_; clear m; intro w m) | (refine Sh.suN m ?_; clear m; intro w m) | (refine Sh.hr m ?_; clear m; intro m) | refine Sh.rsS m ?_ | refine Sh.hd m ?_ | refine Sh.rsK [] m ?_ | refine CN_tt ?_ | refine CN_ff ?_ | refine GD_tt ?_ | refine GD_ff ?_ | refine GD_tf ?_ | refine GD_ft ?_ | refine CN_true (by first | omega | (simp; done) | (simp; omega)) ?_ | refine CN_false (by first | omega | (simp; done) | (simp; omega)) ?_ | refine GD_true (by first | omega | (simp; done) | (simp; omega)) ?_ | refine GD_true' (by first | omega | (simp; done) | (simp; omega)) ?_ | refine GD_false (by first | omega | (simp; done) | (simp; omega)) ?_ | refine GD_false' (by first | omega | (simp; done) | (simp; omega)) ?_ | refine Sh.crN m ?_ | refine Sh.cr1 m ?_ | refine Sh.svI m (by first | omega | decide) (by first | omega | (simp; done) | (simp; omega)) fun q_ _ hp_ => ?_ | refine Sh.hvI m (by first | omega | decide) (by first | omega | (simp; done) | (simp; omega)) fun q_ _ hp_ => ?_ | refine Sh.svF m fun q_ _ hp_ => ?_ | refine Sh.hvF m fun q_ _ hp_ => ?_))
            refine ⟨⟨i + 1, l2, rfl, by omega, by omega, h2, m⟩, ?_⟩
            show 8 - ((i : Int) + 1).toNat < 8 - (i : Int).toNat
            omega
          have hset : ∀ (x : File), x.data.length ≤ 40 + 40 * (i + 1) → ∀ f ∈ l'.set i x, f.data.length ≤ 40 + 40 * (i + 1) := fun x hx f hf => by
            rcases List.mem_or_eq_of_mem_set hf with hf | rfl
            · have := hd f hf; omega
            · exact hx
          have hai := da (filesOf a)[i] (List.getElem_mem hlt2)
          have hbi := hd l'[i] (List.getElem_mem hlt)
          (repeat (first | refine Sh.sv m ?_ | refine Sh.hv ?_ | (refine Sh.sw m ?_; clear m; intro g_ w m) | (refine Sh.su m ?_; clear m; intro w m) | (refine Sh.suN m ?_; clear m; intro w m) | (refine Sh.hr m ?_; clear m; intro m) | refine Sh.rsS m ?_ | refine Sh.hd m ?_ | refine Sh.rsK [] m ?_ | refine CN_tt ?_ | refine CN_ff ?_ | refine GD_tt ?_ | refine GD_ff ?_ | refine GD_tf ?_ | refine GD_ft ?_ | refine CN_true (by first | omega | (simp; done) | (simp; omega)) ?_ | refine CN_false (by first | omega | (simp; done) | (simp; omega)) ?_ | refine GD_true (by first | omega | (simp; done) | (simp; omega)) ?_ | refine GD_true' (by first | omega | (simp; done) | (simp; omega)) ?_ | refine GD_false (by first | omega | (simp; done) | (simp; omega)) ?_ | refine GD_false' (by first | omega | (simp; done) | (simp; omega)) ?_ | refine Sh.crN m ?_ | refine Sh.cr1 m ?_ | refine Sh.svI m (by first | omega | decide) (by first | omega | (simp; done) | (simp; omega)) fun q_ _ hp_ => ?_ | refine Sh.hvI m (by first | omega | decide) (by first | omega | (simp; done) | (simp; omega)) fun q_ _ hp_ => ?_ | refine Sh.svF m fun q_ _ hp_ => ?_ | refine Sh.hvF m fun q_ _ hp_ => ?_))
          refine JP_in ?_
          (repeat (first | refine Sh.sv m ?_ | refine Sh.hv ?_ | (refine Sh.sw m ?_; clear m; intro g_ w m) | (refine Sh.su m ?_; clear m; intro w m) | (refine Sh.suN m ?_; clear m; intro w m) | (refine Sh.hr m ?_; clear m; intro m) | refine Sh.rsS m ?_ | refine Sh.hd m ?_ | refine Sh.rsK [] m ?_ | refine CN_tt ?_ | refine CN_ff ?_ | refine GD_tt ?_ | refine GD_ff ?_ | refine GD_tf ?_ | refine GD_ft ?_ | refine CN_true (by first | omega | (simp; done) | (simp; omega)) ?_ | refine CN_false (by first | omega | (simp; done) | (simp; omega)) ?_ | refine GD_true (by first | omega | (simp; done) | (simp; omega)) ?_ | refine GD_true' (by first | omega | (simp; done) | (simp; omega)) ?_ | refine GD_false (by first | omega | (simp; done) | (simp; omega)) ?_ | refine GD_false' (by first | omega | (simp; done) | (simp; omega)) ?_ | refine Sh.crN m ?_ | refine Sh.cr1 m ?_ | refine Sh.svI m (by first | omega | decide) (by first | omega | (simp; done) | (simp; omega)) fun q_ _ hp_ => ?_ | refine Sh.hvI m (by first | omega | decide) (by first | omega | (simp; done) | (simp; omega)) fun q_ _ hp_ => ?_ | refine Sh.svF m fun q_ _ hp_ => ?_ | refine Sh.hvF m fun q_ _ hp_ => ?_))
          refine CN_split (fun h2 => ?_) (fun h2 => ?_)
          · (repeat (first | refine Sh.sv m ?_ | refine Sh.hv ?_ | (refine Sh.sw m ?_; clear m; intro g_ w m) | (refine Sh.su m ?_; clear m; intro w m) | (refine Sh.suN m ?_; clear m; intro w m) | (refine Sh.hr m ?_; clear m; intro m) | refine Sh.rsS m ?_ | refine Sh.hd m ?_ | refine Sh.rsK [] m ?_ | refine CN_tt ?_ | refine CN_ff ?_ | refine GD_tt ?_ | refine GD_ff ?_ | refine GD_tf ?_ | refine GD_ft ?_ | refine CN_true (by first | omega | (simp; done) | (simp; omega)) ?_ | refine CN_false (by first | omega | (simp; done) | (simp; omega)) ?_ | refine GD_true (by first | omega | (simp; done) | (simp; omega)) ?_ | refine GD_true' (by first | omega | (simp; done) | (simp; omega)) ?_ | refine GD_false (by first | omega | (simp; done) | (simp; omega)) ?_ | refine GD_false' (by first | omega | (simp; done) | (simp; omega)) ?_ | refine Sh.crN m ?_ | refine Sh.cr1 m ?_ | refine Sh.svI m (by first | omega | decide) (by first | omega | (simp; done) | (simp; omega)) fun q_ _ hp_ => ?_ | refine Sh.hvI m (by first | omega | decide) (by first | omega | (simp; done) | (simp; omega)) fun q_ _ hp_ => ?_ | refine Sh.svF m fun q_ _ hp_ => ?_ | refine Sh.hvF m fun q_ _ hp_ => ?_))
            simp only [Int.toNat_natCast]
            refine suON (E := eFile) (i := i) (off := 0) (x' := (filesOf a)[i]) m hlt (by simp) (by decide) (by simp [eFile, File.cells]) ?_
            clear m; intro w m
            exact ⟨rfl, fun _ => go _ _ (by simp) (hset _ (by omega)) m⟩
          · (repeat (first | refine Sh.sv m ?_ | refine Sh.hv ?_ | (refine Sh.sw m ?_; clear m; intro g_ w m) | (refine Sh.su m ?_; clear m; intro w m) | (refine Sh.suN m ?_; clear m; intro w m) | (refine Sh.hr m ?_; clear m; intro m) | refine Sh.rsS m ?_ | refine Sh.hd m ?_ | refine Sh.rsK [] m ?_ | refine CN_tt ?_ | refine CN_ff ?_ | refine GD_tt ?_ | refine GD_ff ?_ | refine GD_tf ?_ | refine GD_ft ?_ | refine CN_true (by first | omega | (simp; done) | (simp; omega)) ?_ | refine CN_false (by first | omega | (simp; done) | (simp; omega)) ?_ | refine GD_true (by first | omega | (simp; done) | (simp; omega)) ?_ | refine GD_true' (by first | omega | (simp; done) | (simp; omega)) ?_ | refine GD_false (by first | omega | (simp; done) | (simp; omega)) ?_ | refine GD_false' (by first | omega | (simp; done) | (simp; omega)) ?_ | refine Sh.crN m ?_ | refine Sh.cr1 m ?_ | refine Sh.svI m (by first | omega | decide) (by first | omega | (simp; done) | (simp; omega)) fun q_ _ hp_ => ?_ | refine Sh.hvI m (by first | omega | decide) (by first | omega | (simp; done) | (simp; omega)) fun q_ _ hp_ => ?_ | refine Sh.svF m fun q_ _ hp_ => ?_ | refine Sh.hvF m fun q_ _ hp_ => ?_))
            simp only [Int.toNat_natCast]
            refine CN_split (fun h3 => ?_) (fun h3 => ?_)
            · (repeat (first | refine Sh.sv m ?_ | refine Sh.hv ?_ | (refine Sh.sw m ?_; clear m; intro g_ w m) | (refine Sh.su m ?_; clear m; intro w m) | (refine Sh.suN m ?_; clear m; intro w m) | (refine Sh.hr m ?_; clear m; intro m) | refine Sh.rsS m ?_ | refine Sh.hd m ?_ | refine Sh.rsK [] m ?_ | refine CN_tt ?_ | refine CN_ff ?_ | refine GD_tt ?_ | refine GD_ff ?_ | refine GD_tf ?_ | refine GD_ft ?_ | refine CN_true (by first | omega | (simp; done) | (simp; omega)) ?_ | refine CN_false (by first | omega | (simp; done) | (simp; omega)) ?_ | refine GD_true (by first | omega | (simp; done) | (simp; omega)) ?_ | refine GD_true' (by first | omega | (simp; done) | (simp; omega)) ?_ | refine GD_false (by first | omega | (simp; done) | (simp; omega)) ?_ | refine GD_false' (by first | omega | (simp; done) | (simp; omega)) ?_ | refine Sh.crN m ?_ | refine Sh.cr1 m ?_ | refine Sh.svI m (by first | omega | decide) (by first | omega | (simp; done) | (simp; omega)) fun q_ _ hp_ => ?_ | refine Sh.hvI m (by first | omega | decide) (by first | omega | (simp; done) | (simp; omega)) fun q_ _ hp_ => ?_ | refine Sh.svF m fun q_ _ hp_ => ?_ | refine Sh.hvF m fun q_ _ hp_ => ?_))
              simp only [Int.toNat_natCast]
              (repeat (first | refine Sh.sv m ?_ | refine Sh.hv ?_ | (refine Sh.sw m ?_; clear m; intro g_ w m) | (refine Sh.su m ?_; clear m; intro w m) | (refine Sh.suN m ?_; clear m; intro w m) | (refine Sh.hr m ?_; clear m; intro m) | refine Sh.rsS m ?_ | refine Sh.hd m ?_ | refine Sh.rsK [] m ?_ | refine CN_tt ?_ | refine CN_ff ?_ | refine GD_tt ?_ | refine GD_ff ?_ | refine GD_tf ?_ | refine GD_ft ?_ | refine CN_true (by first | omega | (simp; done) | (simp; omega)) ?_ | refine CN_false (by first | omega | (simp; done) | (simp; omega)) ?_ | refine GD_true (by first | omega | (simp; done) | (simp; omega)) ?_ | refine GD_true' (by first | omega | (simp; done) | (simp; omega)) ?_ | refine GD_false (by first | omega | (simp; done) | (simp; omega)) ?_ | refine GD_false' (by first | omega | (simp; done) | (simp; omega)) ?_ | refine Sh.crN m ?_ | refine Sh.cr1 m ?_ | refine Sh.svI m (by first | omega | decide) (by first | omega | (simp; done) | (simp; omega)) fun q_ _ hp_ => ?_ | refine Sh.hvI m (by first | omega | decide) (by first | omega | (simp; done) | (simp; omega)) fun q_ _ hp_ => ?_ | refine Sh.svF m fun q_ _ hp_ => ?_ | refine Sh.hvF m fun q_ _ hp_ => ?_))
              have := hp_ mv _ inferInstance
              refine suO1 (E := eFile) (i := i) (off := 1) (x' := ⟨l'[i].name, (filesOf a)[i].data ++ l'[i].data⟩) m hlt (by simp [eFile]) (by decide) (by simp [eFile, File.cells]) ?_
              clear m; intro w m
              exact ⟨rfl, fun _ => go _ _ (by simp) (hset _ (by simp; omega)) m⟩
            · exact ⟨rfl, fun _ => go _ _ rfl (fun f hf => by have := hd f hf; omega) m⟩
        · (repeat (first | refine Sh.sv m ?_ | refine Sh.hv ?_ | (refine Sh.sw m ?_; clear m; intro g_ w m) | (refine Sh.su m ?_; clear m; intro w m) | (refine Sh.suN m ?_; clear m; intro w m) | (refine Sh.hr m ?_; clear m; intro m) | refine Sh.rsS m ?_ | refine Sh.hd m ?_ | refine Sh.rsK [] m ?_ | refine CN_tt ?_ | refine CN_ff ?_ | refine GD_tt ?_ | refine GD_ff ?_ | refine GD_tf ?_ | refine GD_ft ?_ | refine CN_true (by first | omega | (simp; done) | (simp; omega)) ?_ | refine CN_false (by first | omega | (simp; done) | (simp; omega)) ?_ | refine GD_true (by first | omega | (simp; done) | (simp; omega)) ?_ | refine GD_true' (by first | omega | (simp; done) | (simp; omega)) ?_ | refine GD_false (by first | omega | (simp; done) | (simp; omega)) ?_ | refine GD_false' (by first | omega | (simp; done) | (simp; omega)) ?_ | refine Sh.crN m ?_ | refine Sh.cr1 m ?_ | refine Sh.svI m (by first | omega | decide) (by first | omega | (simp; done) | (simp; omega)) fun q_ _ hp_ => ?_ | refine Sh.hvI m (by first | omega | decide) (by first | omega | (simp; done) | (simp; omega)) fun q_ _ hp_ => ?_ | refine Sh.svF m fun q_ _ hp_ => ?_ | refine Sh.hvF m fun q_ _ hp_ => ?_))
          exact ⟨l', hl', fin, m⟩
      · (repeat (first | refine Sh.sv m ?_ | refine Sh.hv ?_ | (refine Sh.sw m ?_; clear m; intro g_ w m) | (refine Sh.su m ?_; clear m; intro w m) | (refine Sh.suN m ?_; clear m; intro w m) | (refine Sh.hr m ?_; clear m; intro m) | refine Sh.rsS m ?_ | refine Sh.hd m ?_ | refine Sh.rsK [] m ?_ | refine CN_tt ?_ | refine CN_ff ?_ | refine GD_tt ?_ | refine GD_ff ?_ | refine GD_tf ?_ | refine GD_ft ?_ | refine CN_true (by first | omega | (simp; done) | (simp; omega)) ?_ | refine CN_false (by first | omega | (simp; done) | (simp; omega)) ?_ | refine GD_true (by first | omega | (simp; done) | (simp; omega)) ?_ | refine GD_true' (by first | omega | (simp; done) | (simp; omega)) ?_ | refine GD_false (by first | omega | (simp; done) | (simp; omega)) ?_ | refine GD_false' (by first | omega | (simp; done) | (simp; omega)) ?_ | refine Sh.crN m ?_ | refine Sh.cr1 m ?_ | refine Sh.svI m (by first | omega | decide) (by first | omega | (simp; done) | (simp; omega)) fun q_ _ hp_ => ?_ | refine Sh.hvI m (by first | omega | decide) (by first | omega | (simp; done) | (simp; omega)) fun q_ _ hp_ => ?_ | refine Sh.svF m fun q_ _ hp_ => ?_ | refine Sh.hvF m fun q_ _ hp_ => ?_))
        exact ⟨l', hl', fin, m⟩
  clear m
  rintro us hus ζ w ⟨l', hl', hd, m⟩
  unfold s4_j2
  refine LP_intro (fun us w => ∃ (r : Bool) (i : Nat), us = [.bool r, .int .i64 i] ∧ 1 ≤ i ∧ i ≤ 9 ∧ (r = true → Rises (l'.take i)) ∧ St w0 [keysF, sl eFile av a, sl eFile bv b] w [own eFile mv l', sl eFile lv (filesOf a), keysF])
    (fun us _ => match us with | [_, .int _ t] => 9 - t.toNat | _ => 0) (by refine ⟨true, 1, rfl, Nat.le_refl _, by omega, fun _ => ?_, m⟩; cases l' <;> simp [Rises]) ?_
  clear m
  rintro us hus ζ w ⟨r, i, rfl, hi1, hi9, hr, m⟩
  unfold s4_l2
  simp only [List.getD_cons_zero, List.getD_cons_succ]
  by_cases hlt : i < l'.length
  · (repeat (first | refine Sh.sv m ?_ | refine Sh.hv ?_ | (refine Sh.sw m ?_; clear m; intro g_ w m) | (refine Sh.su m ?_; clear m; intro w m) | (refine Sh.suN m ?_; clear m; intro w m) | (refine Sh.hr m ?_; clear m; intro m) | refine Sh.rsS m ?_ | refine Sh.hd m ?_ | refine Sh.rsK [] m ?_ | refine CN_tt ?_ | refine CN_ff ?_ | refine GD_tt ?_ | refine GD_ff ?_ | refine GD_tf ?_ | refine GD_ft ?_ | refine CN_true (by first | omega | (simp; done) | (simp; omega)) ?_ | refine CN_false (by first | omega | (simp; done) | (simp; omega)) ?_ | refine GD_true (by first | omega | (simp; done) | (simp; omega)) ?_ | refine GD_true' (by first | omega | (simp; done) | (simp; omega)) ?_ | refine GD_false (by first | omega | (simp; done) | (simp; omega)) ?_ | refine GD_false' (by first | omega | (simp; done) | (simp; omega)) ?_ | refine Sh.crN m ?_ | refine Sh.cr1 m ?_ | refine Sh.svI m (by first | omega | decide) (by first | omega | (simp; done) | (simp; omega)) fun q_ _ hp_ => ?_ | refine Sh.hvI m (by first | omega | decide) (by first | omega | (simp; done) | (simp; omega)) fun q_ _ hp_ => ?_ | refine Sh.svF m fun q_ _ hp_ => ?_ | refine Sh.hvF m fun q_ _ hp_ => ?_))
    cases r with
    | false =>
      (repeat (first | refine Sh.sv m ?_ | refine Sh.hv ?_ | (refine Sh.sw m ?_; clear m; intro g_ w m) | (refine Sh.su m ?_; clear m; intro w m) | (refine Sh.suN m ?_; clear m; intro w m) | (refine Sh.hr m ?_; clear m; intro m) | refine Sh.rsS m ?_ | refine Sh.hd m ?_ | refine Sh.rsK [] m ?_ | refine CN_tt ?_ | refine CN_ff ?_ | refine GD_tt ?_ | refine GD_ff ?_ | refine GD_tf ?_ | refine GD_ft ?_ | refine CN_true (by first | omega | (simp; done) | (simp; omega)) ?_ | refine CN_false (by first | omega | (simp; done) | (simp; omega)) ?_ | refine GD_true (by first | omega | (simp; done) | (simp; omega)) ?_ | refine GD_true' (by first | omega | (simp; done) | (simp; omega)) ?_ | refine GD_false (by first | omega | (simp; done) | (simp; omega)) ?_ | refine GD_false' (by first | omega | (simp; done) | (simp; omega)) ?_ | refine Sh.crN m ?_ | refine Sh.cr1 m ?_ | refine Sh.svI m (by first | omega | decide) (by first | omega | (simp; done) | (simp; omega)) fun q_ _ hp_ => ?_ | refine Sh.hvI m (by first | omega | decide) (by first | omega | (simp; done) | (simp; omega)) fun q_ _ hp_ => ?_ | refine Sh.svF m fun q_ _ hp_ => ?_ | refine Sh.hvF m fun q_ _ hp_ => ?_))
      refine ⟨⟨false, i + 1, rfl, by omega, by omega, fun h => (by cases h), m⟩, ?_⟩
      show 9 - ((i : Int) + 1).toNat < 9 - (i : Int).toNat
      omega
    | true =>
      (repeat (first | refine Sh.sv m ?_ | refine Sh.hv ?_ | (refine Sh.sw m ?_; clear m; intro g_ w m) | (refine Sh.su m ?_; clear m; intro w m) | (refine Sh.suN m ?_; clear m; intro w m) | (refine Sh.hr m ?_; clear m; intro m) | refine Sh.rsS m ?_ | refine Sh.hd m ?_ | refine Sh.rsK [] m ?_ | refine CN_tt ?_ | refine CN_ff ?_ | refine GD_tt ?_ | refine GD_ff ?_ | refine GD_tf ?_ | refine GD_ft ?_ | refine CN_true (by first | omega | (simp; done) | (simp; omega)) ?_ | refine CN_false (by first | omega | (simp; done) | (simp; omega)) ?_ | refine GD_true (by first | omega | (simp; done) | (simp; omega)) ?_ | refine GD_true' (by first | omega | (simp; done) | (simp; omega)) ?_ | refine GD_false (by first | omega | (simp; done) | (simp; omega)) ?_ | refine GD_false' (by first | omega | (simp; done) | (simp; omega)) ?_ | refine Sh.crN m ?_ | refine Sh.cr1 m ?_ | refine Sh.svI m (by first | omega | decide) (by first | omega | (simp; done) | (simp; omega)) fun q_ _ hp_ => ?_ | refine Sh.hvI m (by first | omega | decide) (by first | omega | (simp; done) | (simp; omega)) fun q_ _ hp_ => ?_ | refine Sh.svF m fun q_ _ hp_ => ?_ | refine Sh.hvF m fun q_ _ hp_ => ?_))
      have e : ((i : Int) - 1).toNat = i - 1 := by omega
      simp only [Int.toNat_natCast, e]
      refine ⟨⟨_, i + 1, rfl, by omega, by omega, fun h => ?_, m⟩, ?_⟩
      · have h1 := hr rfl
        have e1 : l'.take i = l'.take (i - 1) ++ [l'[i - 1]] := by
          have := List.take_succ_eq_append_getElem (l := l') (i := i - 1) (by omega)
          rw [show i - 1 + 1 = i by omega] at this
          exact this
        rw [List.take_succ_eq_append_getElem hlt, e1]
        rw [e1] at h1
        exact rises_snoc h1 h
      · show 9 - ((i : Int) + 1).toNat < 9 - (i : Int).toNat
        omega
  · (repeat (first | refine Sh.sv m ?_ | refine Sh.hv ?_ | (refine Sh.sw m ?_; clear m; intro g_ w m) | (refine Sh.su m ?_; clear m; intro w m) | (refine Sh.suN m ?_; clear m; intro w m) | (refine Sh.hr m ?_; clear m; intro m) | refine Sh.rsS m ?_ | refine Sh.hd m ?_ | refine Sh.rsK [] m ?_ | refine CN_tt ?_ | refine CN_ff ?_ | refine GD_tt ?_ | refine GD_ff ?_ | refine GD_tf ?_ | refine GD_ft ?_ | refine CN_true (by first | omega | (simp; done) | (simp; omega)) ?_ | refine CN_false (by first | omega | (simp; done) | (simp; omega)) ?_ | refine GD_true (by first | omega | (simp; done) | (simp; omega)) ?_ | refine GD_true' (by first | omega | (simp; done) | (simp; omega)) ?_ | refine GD_false (by first | omega | (simp; done) | (simp; omega)) ?_ | refine GD_false' (by first | omega | (simp; done) | (simp; omega)) ?_ | refine Sh.crN m ?_ | refine Sh.cr1 m ?_ | refine Sh.svI m (by first | omega | decide) (by first | omega | (simp; done) | (simp; omega)) fun q_ _ hp_ => ?_ | refine Sh.hvI m (by first | omega | decide) (by first | omega | (simp; done) | (simp; omega)) fun q_ _ hp_ => ?_ | refine Sh.svF m fun q_ _ hp_ => ?_ | refine Sh.hvF m fun q_ _ hp_ => ?_))
    cases r with
    | false =>
      (repeat (first | refine Sh.sv m ?_ | refine Sh.hv ?_ | (refine Sh.sw m ?_; clear m; intro g_ w m) | (refine Sh.su m ?_; clear m; intro w m) | (refine Sh.suN m ?_; clear m; intro w m) | (refine Sh.hr m ?_; clear m; intro m) | refine Sh.rsS m ?_ | refine Sh.hd m ?_ | refine Sh.rsK [] m ?_ | refine CN_tt ?_ | refine CN_ff ?_ | refine GD_tt ?_ | refine GD_ff ?_ | refine GD_tf ?_ | refine GD_ft ?_ | refine CN_true (by first | omega | (simp; done) | (simp; omega)) ?_ | refine CN_false (by first | omega | (simp; done) | (simp; omega)) ?_ | refine GD_true (by first | omega | (simp; done) | (simp; omega)) ?_ | refine GD_true' (by first | omega | (simp; done) | (simp; omega)) ?_ | refine GD_false (by first | omega | (simp; done) | (simp; omega)) ?_ | refine GD_false' (by first | omega | (simp; done) | (simp; omega)) ?_ | refine Sh.crN m ?_ | refine Sh.cr1 m ?_ | refine Sh.svI m (by first | omega | decide) (by first | omega | (simp; done) | (simp; omega)) fun q_ _ hp_ => ?_ | refine Sh.hvI m (by first | omega | decide) (by first | omega | (simp; done) | (simp; omega)) fun q_ _ hp_ => ?_ | refine Sh.svF m fun q_ _ hp_ => ?_ | refine Sh.hvF m fun q_ _ hp_ => ?_))
      exact ⟨by trivial, m.ch.mono fun _ _ h => by cases h⟩
    | true =>
      have hr := hr rfl
      rw [List.take_of_length_le (by omega)] at hr
      have ra := filesFrom_rises a 0
      replace m := m.pub mv
      have dl : ∀ f ∈ l', f.data.length ≤ 4611686018427387904 := fun f hf => Nat.le_trans (hd f hf) (by omega)
      have dl2 : ∀ f ∈ filesOf a, f.data.length ≤ 4611686018427387904 := fun f hf => Nat.le_trans (da f hf) (by omega)
      have n1 := diffOf_len (filesOf a) l'
      have n2 := diffOf_len l' (filesOf a)
      (repeat (first | refine Sh.sv m ?_ | refine Sh.hv ?_ | (refine Sh.sw m ?_; clear m; intro g_ w m) | (refine Sh.su m ?_; clear m; intro w m) | (refine Sh.suN m ?_; clear m; intro w m) | (refine Sh.hr m ?_; clear m; intro m) | refine Sh.rsS m ?_ | refine Sh.hd m ?_ | refine Sh.rsK [] m ?_ | refine CN_tt ?_ | refine CN_ff ?_ | refine GD_tt ?_ | refine GD_ff ?_ | refine GD_tf ?_ | refine GD_ft ?_ | refine CN_true (by first | omega | (simp; done) | (simp; omega)) ?_ | refine CN_false (by first | omega | (simp; done) | (simp; omega)) ?_ | refine GD_true (by first | omega | (simp; done) | (simp; omega)) ?_ | refine GD_true' (by first | omega | (simp; done) | (simp; omega)) ?_ | refine GD_false (by first | omega | (simp; done) | (simp; omega)) ?_ | refine GD_false' (by first | omega | (simp; done) | (simp; omega)) ?_ | refine Sh.crN m ?_ | refine Sh.cr1 m ?_ | refine Sh.svI m (by first | omega | decide) (by first | omega | (simp; done) | (simp; omega)) fun q_ _ hp_ => ?_ | refine Sh.hvI m (by first | omega | decide) (by first | omega | (simp; done) | (simp; omega)) fun q_ _ hp_ => ?_ | refine Sh.svF m fun q_ _ hp_ => ?_ | refine Sh.hvF m fun q_ _ hp_ => ?_))
      refine n31 (m.call (image_diff (old := filesOf a) (now := l') (m.get (by repeat (first | exact Frm.nil | (with_reducible exact Rem.dup) | (with_reducible exact Rem.here) | apply Frm.cons | apply Rem.there))) (by omega) (by omega) dl) ?_); rintro x1 w m1
      replace m := m.fr (by repeat (first | exact Frm.nil | (with_reducible exact Rem.dup) | (with_reducible exact Rem.here) | apply Frm.cons | apply Rem.there)) m1; simp only [List.cons_append, List.nil_append] at m
      replace m := m.pub x1
      refine n32 (m.call (ref_diff (old := filesOf a) (now := l') (m.get (by repeat (first | exact Frm.nil | (with_reducible exact Rem.dup) | (with_reducible exact Rem.here) | apply Frm.cons | apply Rem.there))) (by omega) (by omega) dl ra hr) ?_); rintro x2 w m1
      replace m := m.fr (by repeat (first | exact Frm.nil | (with_reducible exact Rem.dup) | (with_reducible exact Rem.here) | apply Frm.cons | apply Rem.there)) m1; simp only [List.cons_append, List.nil_append] at m
      replace m := m.pub x2
      refine n30 (m.ret (ref_sameOps (u := x1) (v := x2) (m.get (by repeat (first | exact Frm.nil | (with_reducible exact Rem.dup) | (with_reducible exact Rem.here) | apply Frm.cons | apply Rem.there))) (by omega)) ?_); clear m; intro w m
      refine n31 (m.call (image_diff (old := l') (now := filesOf a) (m.get (by repeat (first | exact Frm.nil | (with_reducible exact Rem.dup) | (with_reducible exact Rem.here) | apply Frm.cons | apply Rem.there))) (by omega) (by omega) dl2) ?_); rintro x3 w m1
      replace m := m.fr (by repeat (first | exact Frm.nil | (with_reducible exact Rem.dup) | (with_reducible exact Rem.here) | apply Frm.cons | apply Rem.there)) m1; simp only [List.cons_append, List.nil_append] at m
      replace m := m.pub x3
      refine n32 (m.call (ref_diff (old := l') (now := filesOf a) (m.get (by repeat (first | exact Frm.nil | (with_reducible exact Rem.dup) | (with_reducible exact Rem.here) | apply Frm.cons | apply Rem.there))) (by omega) (by omega) dl2 hr ra) ?_); rintro x4 w m1
      replace m := m.fr (by repeat (first | exact Frm.nil | (with_reducible exact Rem.dup) | (with_reducible exact Rem.here) | apply Frm.cons | apply Rem.there)) m1; simp only [List.cons_append, List.nil_append] at m
      replace m := m.pub x4
      refine n30 (m.ret (ref_sameOps (u := x3) (v := x4) (m.get (by repeat (first | exact Frm.nil | (with_reducible exact Rem.dup) | (with_reducible exact Rem.here) | apply Frm.cons | apply Rem.there))) (by omega)) ?_); clear m; intro w m
      rw [decide_eq_true rfl, decide_eq_true rfl]
      (repeat (first | refine Sh.sv m ?_ | refine Sh.hv ?_ | (refine Sh.sw m ?_; clear m; intro g_ w m) | (refine Sh.su m ?_; clear m; intro w m) | (refine Sh.suN m ?_; clear m; intro w m) | (refine Sh.hr m ?_; clear m; intro m) | refine Sh.rsS m ?_ | refine Sh.hd m ?_ | refine Sh.rsK [] m ?_ | refine CN_tt ?_ | refine CN_ff ?_ | refine GD_tt ?_ | refine GD_ff ?_ | refine GD_tf ?_ | refine GD_ft ?_ | refine CN_true (by first | omega | (simp; done) | (simp; omega)) ?_ | refine CN_false (by first | omega | (simp; done) | (simp; omega)) ?_ | refine GD_true (by first | omega | (simp; done) | (simp; omega)) ?_ | refine GD_true' (by first | omega | (simp; done) | (simp; omega)) ?_ | refine GD_false (by first | omega | (simp; done) | (simp; omega)) ?_ | refine GD_false' (by first | omega | (simp; done) | (simp; omega)) ?_ | refine Sh.crN m ?_ | refine Sh.cr1 m ?_ | refine Sh.svI m (by first | omega | decide) (by first | omega | (simp; done) | (simp; omega)) fun q_ _ hp_ => ?_ | refine Sh.hvI m (by first | omega | decide) (by first | omega | (simp; done) | (simp; omega)) fun q_ _ hp_ => ?_ | refine Sh.svF m fun q_ _ hp_ => ?_ | refine Sh.hvF m fun q_ _ hp_ => ?_))
      refine n31 (m.call (image_diff (old := filesOf a) (now := filesOf a) (m.get (by repeat (first | exact Frm.nil | (with_reducible exact Rem.dup) | (with_reducible exact Rem.here) | apply Frm.cons | apply Rem.there))) (by omega) (by omega) dl2) ?_); rintro x5 w m1
      rw [diffOf_self] at m1
      replace m := m.fr (by repeat (first | exact Frm.nil | (with_reducible exact Rem.dup) | (with_reducible exact Rem.here) | apply Frm.cons | apply Rem.there)) m1; simp only [List.cons_append, List.nil_append] at m
      (repeat (first | refine Sh.sv m ?_ | refine Sh.hv ?_ | (refine Sh.sw m ?_; clear m; intro g_ w m) | (refine Sh.su m ?_; clear m; intro w m) | (refine Sh.suN m ?_; clear m; intro w m) | (refine Sh.hr m ?_; clear m; intro m) | refine Sh.rsS m ?_ | refine Sh.hd m ?_ | refine Sh.rsK [] m ?_ | refine CN_tt ?_ | refine CN_ff ?_ | refine GD_tt ?_ | refine GD_ff ?_ | refine GD_tf ?_ | refine GD_ft ?_ | refine CN_true (by first | omega | (simp; done) | (simp; omega)) ?_ | refine CN_false (by first | omega | (simp; done) | (simp; omega)) ?_ | refine GD_true (by first | omega | (simp; done) | (simp; omega)) ?_ | refine GD_true' (by first | omega | (simp; done) | (simp; omega)) ?_ | refine GD_false (by first | omega | (simp; done) | (simp; omega)) ?_ | refine GD_false' (by first | omega | (simp; done) | (simp; omega)) ?_ | refine Sh.crN m ?_ | refine Sh.cr1 m ?_ | refine Sh.svI m (by first | omega | decide) (by first | omega | (simp; done) | (simp; omega)) fun q_ _ hp_ => ?_ | refine Sh.hvI m (by first | omega | decide) (by first | omega | (simp; done) | (simp; omega)) fun q_ _ hp_ => ?_ | refine Sh.svF m fun q_ _ hp_ => ?_ | refine Sh.hvF m fun q_ _ hp_ => ?_))
      exact ⟨by simp, m.ch.mono fun _ _ h => by cases h⟩
end Go.Proofs.YtkdghnbogkbedaaGreatDoor

namespace Go.Proofs.YtkdghnbogkbedaaGreatDoor
open Go Go.Sh Go.RowKit
set_option maxRecDepth 100000
set_option maxHeartbeats 1000000
set_option linter.unusedSimpArgs false
set_option linter.unusedVariables false

def Below (d : List File) (n : List UInt8) : Prop := ∀ f ∈ d, Op.bytesLess f.name n = true
def Above (n : List UInt8) (o : List File) : Prop := ∀ f ∈ o, Op.bytesLess n f.name = true
variable {d o : List File} {n : List UInt8}
theorem with_below (hd : Below d n) (data : List UInt8) (gone : Bool) (r : List File) : withGo n data gone false (d ++ r) = d ++ withGo n data gone false r := by
  induction d with
  | nil => rfl
  | cons f d ih =>
    have h1 := hd f List.mem_cons_self
    rw [List.cons_append, withGo, if_neg (by rw [h1]; simp), if_neg (blt_ne h1), ih fun g hg => hd g (List.mem_cons_of_mem _ hg)]
    rfl
theorem with_above (ho : Above n o) (data : List UInt8) (gone put : Bool) (hp : (put || gone) = true) : withGo n data gone put o = o := by
  induction o with
  | nil => simp [withGo, hp]
  | cons f o ih =>
    have h1 := ho f List.mem_cons_self
    have hc : ¬ (put = false ∧ gone = false ∧ Op.bytesLess f.name n = false) := by rintro ⟨rfl, rfl, _⟩; simp at hp
    rw [withGo, if_neg hc, if_neg fun h => blt_ne h1 h.symm, ih fun g hg => ho g (List.mem_cons_of_mem _ hg)]
    rfl
theorem with_new (ho : Above n o) (data : List UInt8) : withGo n data false false o = ⟨n, data⟩ :: o := by
  cases o with
  | nil => simp [withGo]
  | cons f o =>
    have h1 := ho f List.mem_cons_self
    rw [withGo, if_pos ⟨rfl, rfl, blt_asymm h1⟩, if_neg fun h => blt_ne h1 h.symm, with_above (fun g hg => ho g (List.mem_cons_of_mem _ hg)) _ _ _ rfl]
    rfl
theorem with_old (ho : Above n o) (a data : List UInt8) : withGo n data false false (⟨n, a⟩ :: o) = ⟨n, data⟩ :: o := by
  rw [withGo, if_pos ⟨rfl, rfl, blt_irr n⟩, if_pos rfl, with_above ho _ _ _ rfl]
  rfl
theorem with_gone (ho : Above n o) (a data : List UInt8) : withGo n data true false (⟨n, a⟩ :: o) = o := by
  rw [withGo, if_neg (by simp), if_pos rfl, with_above ho _ _ _ rfl]
  rfl
theorem find_not (hd : Below d n) (ho : Above n o) : findF (d ++ o) n = none :=
  findF_none fun f hf => by
    rcases List.mem_append.1 hf with hf | hf
    · exact blt_ne (hd f hf)
    · exact fun h => blt_ne (ho f hf) h.symm
theorem find_it (hd : Below d n) (a : List UInt8) : findF (d ++ ⟨n, a⟩ :: o) n = some a :=
  findF_at (a := ⟨n, a⟩) fun f hf => blt_ne (hd f hf)

def Few (fs : List File) : Prop := fs.length ≤ 20 ∧ ∀ f ∈ fs, f.data.length ≤ 40
theorem free_few {fs : List File} (h : Few fs) : 0 ≤ freeOf 500 fs := by
  obtain ⟨h1, h2⟩ := h
  have : ∀ (fs : List File) (r : Int), (∀ f ∈ fs, f.data.length ≤ 40) → r - fs.length ≤ freeOf r fs := by
    intro fs
    induction fs with
    | nil => intro r _; simp [freeOf]
    | cons f fs ih =>
      intro r hf
      have h1 := ih (r - needN f.data.length) fun g hg => hf g (List.mem_cons_of_mem _ hg)
      have h2 := hf f List.mem_cons_self
      have h3 : needN f.data.length ≤ 1 := by unfold needN; split <;> omega
      show _ ≤ freeOf (r - needN f.data.length) fs
      simp only [List.length_cons]
      omega
  have := this fs 500 h2
  omega
theorem few_mid {d o : List File} {n a : List UInt8} (h : Few (d ++ o)) (hl : (d ++ o).length ≤ 19) (ha : a.length ≤ 40) : Few (d ++ ⟨n, a⟩ :: o) := by
  obtain ⟨h1, h2⟩ := h
  refine ⟨by simp at *; omega, fun f hf => ?_⟩
  rcases List.mem_append.1 hf with hf | hf
  · exact h2 f (List.mem_append_left _ hf)
  · rcases List.mem_cons.1 hf with rfl | hf
    · exact ha
    · exact h2 f (List.mem_append_right _ hf)

theorem runs_step {x : FileOp} {ops : List FileOp} {fs fs2 fin : List File} {t k : Int} (hn : nameOk x.name) (hk : 1 ≤ x.kind ∧ x.kind ≤ 5) (hx : x.data.length ≤ 40) (h1 : Few fs) (h2 : Few fs2) (he : oneOf fs x = (fs2, k, 0)) (hk0 : 0 ≤ k) (ht : t + k ≤ 40) (hgo : Runs 500 ops fs2 (t + k) fin) : Runs 500 (x :: ops) fs t fin :=
  .cons hn hk (by omega) (by have := h1.1; omega) (fun f hf => Nat.le_trans (h1.2 f hf) (by omega)) (by have := h2.1; omega) (fun f hf => Nat.le_trans (h2.2 f hf) (by omega)) he (free_few h2) hk0 ht hgo

theorem runs_change {name a b : List UInt8} {was is : Bool} {ops : List FileOp} {d o fin : List File} {t : Int} (hd : Below d name) (ho : Above name o) (hn : nameOk name) (hw : was = false → a = []) (hi : is = false → b = []) (ha : a.length ≤ 40) (hb : b.length ≤ 40) (hf : Few (d ++ o)) (hl : (d ++ o).length ≤ 19) (ht : t + 1 ≤ 40)
    (hgo : ∀ t', t' ≤ t + 1 → Runs 500 ops (d ++ ((if is then [⟨name, b⟩] else []) ++ o)) t' fin) : Runs 500 (changeOf name a b was is ++ ops) (d ++ ((if was then [⟨name, a⟩] else []) ++ o)) t fin := by
  have made : ∀ (ops : List FileOp), Runs 500 ops (d ++ ([⟨name, a⟩] ++ o)) t fin → Runs 500 ((if was then [] else [⟨1, name, [], 0⟩]) ++ ops) (d ++ ((if was then [⟨name, a⟩] else []) ++ o)) t fin := by
    intro ops h
    cases was with
    | true => exact h
    | false =>
      obtain rfl := hw rfl
      refine runs_step (k := 0) hn (by dsimp only; omega) (Nat.zero_le _) hf (few_mid hf hl (Nat.zero_le _)) ?_ (by omega) (by omega) (by rw [Int.add_zero]; exact h)
      have hlen : ¬ 32 ≤ (d ++ o).length := by omega
      simp only [oneOf, Bool.false_eq_true, if_false, List.nil_append, find_not hd ho, if_pos, if_neg hlen, withF, with_below hd, with_new ho]
  have fa : Few (d ++ ⟨name, a⟩ :: o) := few_mid hf hl ha
  have fb : ∀ b : List UInt8, b.length ≤ 40 → Few (d ++ ⟨name, b⟩ :: o) := fun b hb => few_mid hf hl hb
  have w1 : ∀ b, withF name b false (d ++ ⟨name, a⟩ :: o) = d ++ ⟨name, b⟩ :: o := fun b => by rw [withF, with_below hd, with_old ho]
  have hneed : ∀ n : Nat, n ≤ 40 → needN n ≤ 1 := fun n hn => by unfold needN; split <;> omega
  rw [changeOf, List.append_assoc]
  refine made _ ?_
  have drop : ∀ t', t' ≤ t + 1 → is = false → Runs 500 (⟨4, name, [], 0⟩ :: ops) (d ++ ⟨name, []⟩ :: o) t' fin := fun t' ht' his => by
    refine runs_step (k := 0) hn (by dsimp only; omega) (by simp) (fb [] (by simp)) hf ?_ (by omega) (by omega) (by have := hgo t' ht'; rw [his] at this; simpa using this)
    simp only [oneOf, find_it hd, withF, with_below hd, with_gone ho]
    simp
  have trim : ∀ (n : Nat) (ops' : List FileOp), n ≤ a.length → (∀ t', t' ≤ t + 1 → Runs 500 ops' (d ++ ⟨name, a.take n⟩ :: o) t' fin) → Runs 500 (⟨3, name, [], n⟩ :: ops') (d ++ ⟨name, a⟩ :: o) t fin := fun n ops' hn' hgo' => by
    by_cases hna : n = a.length
    · subst hna
      rw [List.take_length] at hgo'
      refine runs_step (k := 0) hn (by dsimp only; omega) (by simp) fa fa ?_ (by omega) (by omega) (hgo' _ (by omega))
      simp only [oneOf, find_it hd]
      simp
    · have h1 := hneed a.length ha
      have h2 : 0 < needN a.length := by unfold needN; split <;> omega
      have h3 : n / 256 = 0 := by omega
      have c1 : ¬ ((n : Int) < 0 ∨ (a.length : Int) < n) := by omega
      have c2 : ¬ ((n : Int) = a.length) := by omega
      refine runs_step (k := needN a.length) hn (by dsimp only; omega) (by simp) fa (fb (a.take n) (by simp; omega)) ?_ (by omega) (by omega) (hgo' _ (by omega))
      simp only [oneOf, find_it hd, w1, if_neg c1, if_neg c2, Int.toNat_natCast, h3]
      simp
  cases is with
  | false =>
    obtain rfl := hi rfl
    simp only [Bool.false_eq_true, if_false]
    split
    · rename_i h0
      obtain rfl := h0
      exact drop t (by omega) rfl
    · refine trim 0 _ (Nat.zero_le _) fun t' ht' => ?_
      exact drop t' ht' rfl
  | true =>
    simp only [if_true]
    have hgo' : ∀ t', t' ≤ t + 1 → Runs 500 ops (d ++ ⟨name, b⟩ :: o) t' fin := fun t' ht' => by simpa using hgo t' ht'
    split
    · rename_i h1
      have hp : a ++ b.drop a.length = b := by
        simp only [isPre, decide_eq_true_eq] at h1
        conv => rhs; rw [← List.take_append_drop a.length b, h1.2]
      split
      · rename_i h2
        rw [h2, List.append_nil] at hp
        subst hp
        exact hgo' t (by omega)
      · rename_i h2
        have hlen : a.length + (b.drop a.length).length = b.length := by rw [← List.length_append, hp]
        have h3 := hneed b.length hb
        have h4 : a.length / 256 = 0 := by omega
        refine runs_step (k := needN b.length) hn (by dsimp only; omega) (by simp; omega) fa (fb b hb) ?_ (by omega) (by omega) (hgo' _ (by omega))
        simp only [oneOf, List.cons_append, List.nil_append, find_it hd, w1, if_neg h2, hp, h4, hlen]
        simp
    · split
      · rename_i h1
        simp only [isPre, decide_eq_true_eq] at h1
        refine trim b.length ops h1.1 fun t' ht' => ?_
        rw [h1.2]
        exact hgo' t' ht'
      · have h1 := hneed a.length ha
        have h2 := hneed b.length hb
        refine runs_step (k := (max (needN a.length) (needN b.length) : Nat)) hn (by dsimp only; omega) hb fa (fb b hb) ?_ (by omega) (by omega) (hgo' _ (by omega))
        simp only [oneOf, List.cons_append, List.nil_append, find_it hd, w1]
        simp

theorem runs_diff : ∀ (o n : List File) (d : List File) (t : Int), Rises (d ++ o) → Rises (d ++ n) → (∀ f ∈ d ++ o, f.data.length ≤ 40) → (∀ f ∈ d ++ n, f.data.length ≤ 40) → (∀ f ∈ o, nameOk f.name) → (∀ f ∈ n, nameOk f.name) → d.length + o.length + n.length ≤ 18 → t + o.length + n.length ≤ 40 →
    Runs 500 (diffOf o n) (d ++ o) t (d ++ n) := by
  intro o n
  fun_induction diffOf o n with
  | case1 => intros; exact .nil
  | case2 x os ih =>
    intro d t h1 h2 h3 h4 h5 h6 h7 h8
    have r1 := List.pairwise_append.1 h1
    have r2 := List.pairwise_cons.1 r1.2.1
    simp only [List.length_cons] at h7 h8
    have h1' : Rises (d ++ os) := h1.sublist (List.Sublist.append_left (List.sublist_cons_self _ _) _)
    have h3' : ∀ f ∈ d ++ os, f.data.length ≤ 40 := fun f hf => h3 f ((List.Sublist.append_left (List.sublist_cons_self _ _) _).mem hf)
    refine runs_change (d := d) (o := os) (was := true) (is := false) (fun f hf => r1.2.2 f hf x List.mem_cons_self) (fun f hf => r2.1 f hf) (h5 x List.mem_cons_self) (by simp) (by simp) (h3 x (by simp)) (by simp) ⟨by simp; omega, h3'⟩ (by simp; omega) (by omega) fun t' ht' => ?_
    exact ih d t' h1' h2 h3' h4 (fun f hf => h5 f (List.mem_cons_of_mem _ hf)) h6 (by omega) (by omega)
  | case3 y ns ih =>
    intro d t h1 h2 h3 h4 h5 h6 h7 h8
    have r1 := List.pairwise_append.1 h2
    have r2 := List.pairwise_cons.1 r1.2.1
    simp only [List.length_cons] at h7 h8
    have e : d ++ y :: ns = (d ++ [y]) ++ ns := by simp
    refine runs_change (d := d) (o := []) (was := false) (is := true) (fun f hf => r1.2.2 f hf y List.mem_cons_self) (fun f hf => by cases hf) (h6 y List.mem_cons_self) (by simp) (by simp) (by simp) (h4 y (by simp)) ⟨by simp; omega, by simpa using h3⟩ (by simp; omega) (by omega) fun t' ht' => ?_
    have := ih (d ++ [y]) t' (by have := h2.sublist (l₁ := d ++ [y]) (by rw [e]; exact List.sublist_append_left _ _); simpa [Rises] using this) (by rw [← e]; exact h2) (fun f hf => by have := h4 f (by rw [e]; exact List.mem_append_left _ (by simpa using hf)); exact this) (by rw [← e]; exact h4) (by simp) (fun f hf => h6 f (List.mem_cons_of_mem _ hf)) (by simp; omega) (by simp; omega)
    rw [e]
    simpa using this
  | case4 x os y ns hlt ih =>
    intro d t h1 h2 h3 h4 h5 h6 h7 h8
    have r1 := List.pairwise_append.1 h1
    have r2 := List.pairwise_cons.1 r1.2.1
    simp only [List.length_cons] at h7 h8
    have h1' : Rises (d ++ os) := h1.sublist (List.Sublist.append_left (List.sublist_cons_self _ _) _)
    have h3' : ∀ f ∈ d ++ os, f.data.length ≤ 40 := fun f hf => h3 f ((List.Sublist.append_left (List.sublist_cons_self _ _) _).mem hf)
    refine runs_change (d := d) (o := os) (was := true) (is := false) (fun f hf => r1.2.2 f hf x List.mem_cons_self) (fun f hf => r2.1 f hf) (h5 x List.mem_cons_self) (by simp) (by simp) (h3 x (by simp)) (by simp) ⟨by simp; omega, h3'⟩ (by simp; omega) (by omega) fun t' ht' => ?_
    exact ih d t' h1' h2 h3' h4 (fun f hf => h5 f (List.mem_cons_of_mem _ hf)) h6 (by simp; omega) (by simp; omega)
  | case5 x os y ns hlt hlt2 ih =>
    intro d t h1 h2 h3 h4 h5 h6 h7 h8
    have r1 := List.pairwise_append.1 h2
    have r2 := List.pairwise_cons.1 r1.2.1
    have q1 := List.pairwise_append.1 h1
    have q2 := List.pairwise_cons.1 q1.2.1
    simp only [List.length_cons] at h7 h8
    have e : d ++ y :: ns = (d ++ [y]) ++ ns := by simp
    have e2 : ∀ z : List File, (d ++ [y]) ++ z = d ++ ([y] ++ z) := fun z => by simp
    have ab : Above y.name (x :: os) := fun f hf => by
      rcases List.mem_cons.1 hf with rfl | hf
      · exact hlt2
      · exact blt_trans hlt2 (q2.1 f hf)
    refine runs_change (d := d) (o := x :: os) (was := false) (is := true) (fun f hf => r1.2.2 f hf y List.mem_cons_self) ab (h6 y List.mem_cons_self) (by simp) (by simp) (by simp) (h4 y (by simp)) ⟨by simp; omega, h3⟩ (by simp; omega) (by omega) fun t' ht' => ?_
    have := ih (d ++ [y]) t' ?_ (by rw [← e]; exact h2) ?_ (by rw [← e]; exact h4) h5 (fun f hf => h6 f (List.mem_cons_of_mem _ hf)) (by simp; omega) (by simp; omega)
    · rw [e2, e2] at this
      exact this
    · rw [e2]
      refine List.pairwise_append.2 ⟨q1.1, List.pairwise_cons.2 ⟨ab, q1.2.1⟩, fun f hf g hg => ?_⟩
      rcases List.mem_cons.1 hg with rfl | hg
      · exact r1.2.2 f hf _ List.mem_cons_self
      · exact q1.2.2 f hf g hg
    · intro f hf
      rw [e2] at hf
      rcases List.mem_append.1 hf with hf | hf
      · exact h3 f (List.mem_append_left _ hf)
      · rcases List.mem_cons.1 hf with rfl | hf
        · exact h4 f (by simp)
        · exact h3 f (List.mem_append_right _ hf)
  | case6 x os y ns hlt hlt2 ih =>
    intro d t h1 h2 h3 h4 h5 h6 h7 h8
    have r1 := List.pairwise_append.1 h2
    have r2 := List.pairwise_cons.1 r1.2.1
    have q1 := List.pairwise_append.1 h1
    have q2 := List.pairwise_cons.1 q1.2.1
    simp only [List.length_cons] at h7 h8
    have hxy : x.name = y.name := by
      rcases blt_tri x.name y.name with h | h | h
      · exact absurd h hlt
      · exact h
      · exact absurd h hlt2
    obtain ⟨xn, xd⟩ := x
    obtain rfl : xn = y.name := hxy
    have e : d ++ y :: ns = (d ++ [y]) ++ ns := by simp
    have e2 : ∀ z : List File, (d ++ [y]) ++ z = d ++ ([y] ++ z) := fun z => by simp
    have h3' : ∀ f ∈ d ++ os, f.data.length ≤ 40 := fun f hf => h3 f ((List.Sublist.append_left (List.sublist_cons_self _ _) _).mem hf)
    refine runs_change (d := d) (o := os) (was := true) (is := true) (fun f hf => r1.2.2 f hf y List.mem_cons_self) (fun f hf => q2.1 f hf) (h6 y List.mem_cons_self) (by simp) (by simp) (h3 ⟨y.name, xd⟩ (by simp)) (h4 y (by simp)) ⟨by simp; omega, h3'⟩ (by simp; omega) (by omega) fun t' ht' => ?_
    have := ih (d ++ [y]) t' ?_ (by rw [← e]; exact h2) ?_ (by rw [← e]; exact h4) (fun f hf => h5 f (List.mem_cons_of_mem _ hf)) (fun f hf => h6 f (List.mem_cons_of_mem _ hf)) (by simp; omega) (by omega)
    · rw [e2, e2] at this
      exact this
    · rw [e2]
      refine List.pairwise_append.2 ⟨q1.1, List.pairwise_cons.2 ⟨q2.1, q2.2⟩, fun f hf g hg => ?_⟩
      rcases List.mem_cons.1 hg with rfl | hg
      · exact r1.2.2 f hf _ List.mem_cons_self
      · exact q1.2.2 f hf g (List.mem_cons_of_mem _ hg)
    · intro f hf
      rw [e2] at hf
      rcases List.mem_append.1 hf with hf | hf
      · exact h3 f (List.mem_append_left _ hf)
      · rcases List.mem_cons.1 hf with rfl | hf
        · exact h4 f (by simp)
        · exact h3' f (List.mem_append_right _ hf)

theorem filesOf_ok (l : List File) : ∀ f ∈ filesOf l, nameOk f.name := fun f hf => by
  obtain ⟨j, r, _, h2, h3, h4⟩ := filesFrom_name l 0 f hf
  have hj : (UInt8.ofNat (97 + j)).toNat = 97 + j := by rw [UInt8.toNat_ofNat']; omega
  rw [h3]
  refine ⟨by simp, by rcases h4 with rfl | rfl <;> simp, fun c hc => ?_⟩
  rcases List.mem_cons.1 hc with rfl | hc
  · exact .inl (by omega)
  · rcases h4 with rfl | rfl
    · cases hc
    · rw [List.mem_singleton.1 hc]; exact .inr (.inl (by decide))
theorem runs_files (a b : List File) : Runs 500 (diffOf (filesOf a) (filesOf b)) (filesOf a) 0 (filesOf b) := by
  have la : (filesOf a).length ≤ 8 := filesFrom_len a 0
  have lb : (filesOf b).length ≤ 8 := filesFrom_len b 0
  exact runs_diff (filesOf a) (filesOf b) [] 0 (filesFrom_rises a 0) (filesFrom_rises b 0) (filesFrom_data a 0) (filesFrom_data b 0) (filesOf_ok a) (filesOf_ok b) (by show 0 + _ + _ ≤ 18; omega) (by omega)
end Go.Proofs.YtkdghnbogkbedaaGreatDoor

namespace Go.Proofs.YtkdghnbogkbedaaGreatDoor
open Go Go.Sh Go.RowKit
set_option maxRecDepth 100000
set_option maxHeartbeats 1000000
set_option linter.unusedSimpArgs false
set_option linter.unusedVariables false

theorem law21_goes {av bv : Value} {a b : List File} {w0 : World} (h : Mem w0 [keysF, sl eFile av a, sl eFile bv b]) (ha : a.length ≤ 9223372036854775807) (hb : b.length ≤ 9223372036854775807) :
    Ret Tryz.prog 5 #[av, bv] w0 (.bool true) := by
  have m := St.start h
  refine c5 ?_
  unfold s5
  refine n28 (m.ret (law21_awake (m.get (by repeat (first | exact Frm.nil | (with_reducible exact Rem.dup) | (with_reducible exact Rem.here) | apply Frm.cons | apply Rem.there)))) ?_); clear m; intro w m
  refine n29 (m.call (law21_files (m.get (by repeat (first | exact Frm.nil | (with_reducible exact Rem.dup) | (with_reducible exact Rem.here) | apply Frm.cons | apply Rem.there))) ha) ?_); rintro lv w m1
  have il := m1.isl (v := lv)
  replace m := m.fr (by repeat (first | exact Frm.nil | (with_reducible exact Rem.dup) | (with_reducible exact Rem.here) | apply Frm.cons | apply Rem.there)) m1; simp only [List.cons_append, List.nil_append] at m
  replace m := m.pub lv
  refine n29 (m.call (law21_files (m.get (by repeat (first | exact Frm.nil | (with_reducible exact Rem.dup) | (with_reducible exact Rem.here) | apply Frm.cons | apply Rem.there))) hb) ?_); rintro mv w m1
  have im := m1.isl (v := mv)
  replace m := m.fr (by repeat (first | exact Frm.nil | (with_reducible exact Rem.dup) | (with_reducible exact Rem.here) | apply Frm.cons | apply Rem.there)) m1; simp only [List.cons_append, List.nil_append] at m
  replace m := m.pub mv
  have la : (filesOf a).length ≤ 8 := filesFrom_len a 0
  have lb : (filesOf b).length ≤ 8 := filesFrom_len b 0
  have db := filesFrom_data b 0
  (repeat (first | refine Sh.sv m ?_ | refine Sh.hv ?_ | (refine Sh.sw m ?_; clear m; intro g_ w m) | (refine Sh.su m ?_; clear m; intro w m) | (refine Sh.suN m ?_; clear m; intro w m) | (refine Sh.hr m ?_; clear m; intro m) | refine Sh.rsS m ?_ | refine Sh.hd m ?_ | refine Sh.rsK [] m ?_ | refine CN_tt ?_ | refine CN_ff ?_ | refine GD_tt ?_ | refine GD_ff ?_ | refine GD_tf ?_ | refine GD_ft ?_ | refine CN_true (by first | omega | (simp; done) | (simp; omega)) ?_ | refine CN_false (by first | omega | (simp; done) | (simp; omega)) ?_ | refine GD_true (by first | omega | (simp; done) | (simp; omega)) ?_ | refine GD_true' (by first | omega | (simp; done) | (simp; omega)) ?_ | refine GD_false (by first | omega | (simp; done) | (simp; omega)) ?_ | refine GD_false' (by first | omega | (simp; done) | (simp; omega)) ?_ | refine Sh.crN m ?_ | refine Sh.cr1 m ?_ | refine Sh.svI m (by first | omega | decide) (by first | omega | (simp; done) | (simp; omega)) fun q_ _ hp_ => ?_ | refine Sh.hvI m (by first | omega | decide) (by first | omega | (simp; done) | (simp; omega)) fun q_ _ hp_ => ?_ | refine Sh.svF m fun q_ _ hp_ => ?_ | refine Sh.hvF m fun q_ _ hp_ => ?_))
  replace m := m.nilOwn eRF
  refine LP_intro (fun us w => ∃ (u : Value) (i : Nat), us = [.int .i64 i] ∧ i ≤ (filesOf a).length ∧ St w0 [keysF, sl eFile av a, sl eFile bv b] w [own eRF u ((filesOf a).take i), bk g_ 63 [.int .i64 500, u], sl eFile mv (filesOf b), sl eFile lv (filesOf a), keysF])
    (fun us _ => match us with | [.int _ t] => 9 - t.toNat | _ => 0) (by refine ⟨.slice none 0 0, 0, rfl, Nat.zero_le _, ?_⟩; rw [List.take_zero]; exact m.sub (by repeat (first | exact Frm.nil | (with_reducible exact Rem.dup) | (with_reducible exact Rem.here) | apply Frm.cons | apply Rem.there))) ?_
  clear m
  rintro us hus ζ w ⟨u, i, rfl, hi, m⟩
  have iu := m.isl (v := u)
  unfold s5_l2
  simp only [List.getD_cons_zero, List.getD_cons_succ]
  by_cases hlt : i < (filesOf a).length
  · (repeat (first | refine Sh.sv m ?_ | refine Sh.hv ?_ | (refine Sh.sw m ?_; clear m; intro g_ w m) | (refine Sh.su m ?_; clear m; intro w m) | (refine Sh.suN m ?_; clear m; intro w m) | (refine Sh.hr m ?_; clear m; intro m) | refine Sh.rsS m ?_ | refine Sh.hd m ?_ | refine Sh.rsK [] m ?_ | refine CN_tt ?_ | refine CN_ff ?_ | refine GD_tt ?_ | refine GD_ff ?_ | refine GD_tf ?_ | refine GD_ft ?_ | refine CN_true (by first | omega | (simp; done) | (simp; omega)) ?_ | refine CN_false (by first | omega | (simp; done) | (simp; omega)) ?_ | refine GD_true (by first | omega | (simp; done) | (simp; omega)) ?_ | refine GD_true' (by first | omega | (simp; done) | (simp; omega)) ?_ | refine GD_false (by first | omega | (simp; done) | (simp; omega)) ?_ | refine GD_false' (by first | omega | (simp; done) | (simp; omega)) ?_ | refine Sh.crN m ?_ | refine Sh.cr1 m ?_ | refine Sh.svI m (by first | omega | decide) (by first | omega | (simp; done) | (simp; omega)) fun q_ _ hp_ => ?_ | refine Sh.hvI m (by first | omega | decide) (by first | omega | (simp; done) | (simp; omega)) fun q_ _ hp_ => ?_ | refine Sh.svF m fun q_ _ hp_ => ?_ | refine Sh.hvF m fun q_ _ hp_ => ?_))
    simp only [Int.toNat_natCast]
    refine lits eRF [(filesOf a)[i]] m [_] rfl rfl rfl (by simp) ?_; clear m; intro x1 w _ m
    (repeat (first | refine Sh.sv m ?_ | refine Sh.hv ?_ | (refine Sh.sw m ?_; clear m; intro g_ w m) | (refine Sh.su m ?_; clear m; intro w m) | (refine Sh.suN m ?_; clear m; intro w m) | (refine Sh.hr m ?_; clear m; intro m) | refine Sh.rsS m ?_ | refine Sh.hd m ?_ | refine Sh.rsK [] m ?_ | refine CN_tt ?_ | refine CN_ff ?_ | refine GD_tt ?_ | refine GD_ff ?_ | refine GD_tf ?_ | refine GD_ft ?_ | refine CN_true (by first | omega | (simp; done) | (simp; omega)) ?_ | refine CN_false (by first | omega | (simp; done) | (simp; omega)) ?_ | refine GD_true (by first | omega | (simp; done) | (simp; omega)) ?_ | refine GD_true' (by first | omega | (simp; done) | (simp; omega)) ?_ | refine GD_false (by first | omega | (simp; done) | (simp; omega)) ?_ | refine GD_false' (by first | omega | (simp; done) | (simp; omega)) ?_ | refine Sh.crN m ?_ | refine Sh.cr1 m ?_ | refine Sh.svI m (by first | omega | decide) (by first | omega | (simp; done) | (simp; omega)) fun q_ _ hp_ => ?_ | refine Sh.hvI m (by first | omega | decide) (by first | omega | (simp; done) | (simp; omega)) fun q_ _ hp_ => ?_ | refine Sh.svF m fun q_ _ hp_ => ?_ | refine Sh.hvF m fun q_ _ hp_ => ?_))
    refine ap m (by simp; omega) (by simp [maxLen]; omega) ?_; clear m; intro x2 w _ m
    (repeat (first | refine Sh.sv m ?_ | refine Sh.hv ?_ | (refine Sh.sw m ?_; clear m; intro g_ w m) | (refine Sh.su m ?_; clear m; intro w m) | (refine Sh.suN m ?_; clear m; intro w m) | (refine Sh.hr m ?_; clear m; intro m) | refine Sh.rsS m ?_ | refine Sh.hd m ?_ | refine Sh.rsK [] m ?_ | refine CN_tt ?_ | refine CN_ff ?_ | refine GD_tt ?_ | refine GD_ff ?_ | refine GD_tf ?_ | refine GD_ft ?_ | refine CN_true (by first | omega | (simp; done) | (simp; omega)) ?_ | refine CN_false (by first | omega | (simp; done) | (simp; omega)) ?_ | refine GD_true (by first | omega | (simp; done) | (simp; omega)) ?_ | refine GD_true' (by first | omega | (simp; done) | (simp; omega)) ?_ | refine GD_false (by first | omega | (simp; done) | (simp; omega)) ?_ | refine GD_false' (by first | omega | (simp; done) | (simp; omega)) ?_ | refine Sh.crN m ?_ | refine Sh.cr1 m ?_ | refine Sh.svI m (by first | omega | decide) (by first | omega | (simp; done) | (simp; omega)) fun q_ _ hp_ => ?_ | refine Sh.hvI m (by first | omega | decide) (by first | omega | (simp; done) | (simp; omega)) fun q_ _ hp_ => ?_ | refine Sh.svF m fun q_ _ hp_ => ?_ | refine Sh.hvF m fun q_ _ hp_ => ?_))
    refine ⟨⟨x2, i + 1, rfl, hlt, ?_⟩, ?_⟩
    · rw [List.take_succ_eq_append_getElem hlt]
      exact m.sub (by repeat (first | exact Frm.nil | (with_reducible exact Rem.dup) | (with_reducible exact Rem.here) | apply Frm.cons | apply Rem.there))
    · show 9 - ((i : Int) + 1).toNat < 9 - (i : Int).toNat
      omega
  · rw [List.take_of_length_le (by omega)] at m
    replace m := m.pub u
    replace m := m.pubB g_
    have dl : ∀ f ∈ filesOf b, f.data.length ≤ 4611686018427387904 := fun f hf => Nat.le_trans (db f hf) (by omega)
    have n1 := diffOf_len (filesOf a) (filesOf b)
    (repeat (first | refine Sh.sv m ?_ | refine Sh.hv ?_ | (refine Sh.sw m ?_; clear m; intro g_ w m) | (refine Sh.su m ?_; clear m; intro w m) | (refine Sh.suN m ?_; clear m; intro w m) | (refine Sh.hr m ?_; clear m; intro m) | refine Sh.rsS m ?_ | refine Sh.hd m ?_ | refine Sh.rsK [] m ?_ | refine CN_tt ?_ | refine CN_ff ?_ | refine GD_tt ?_ | refine GD_ff ?_ | refine GD_tf ?_ | refine GD_ft ?_ | refine CN_true (by first | omega | (simp; done) | (simp; omega)) ?_ | refine CN_false (by first | omega | (simp; done) | (simp; omega)) ?_ | refine GD_true (by first | omega | (simp; done) | (simp; omega)) ?_ | refine GD_true' (by first | omega | (simp; done) | (simp; omega)) ?_ | refine GD_false (by first | omega | (simp; done) | (simp; omega)) ?_ | refine GD_false' (by first | omega | (simp; done) | (simp; omega)) ?_ | refine Sh.crN m ?_ | refine Sh.cr1 m ?_ | refine Sh.svI m (by first | omega | decide) (by first | omega | (simp; done) | (simp; omega)) fun q_ _ hp_ => ?_ | refine Sh.hvI m (by first | omega | decide) (by first | omega | (simp; done) | (simp; omega)) fun q_ _ hp_ => ?_ | refine Sh.svF m fun q_ _ hp_ => ?_ | refine Sh.hvF m fun q_ _ hp_ => ?_))
    refine n31 (m.call (image_diff (old := filesOf a) (now := filesOf b) (m.get (by repeat (first | exact Frm.nil | (with_reducible exact Rem.dup) | (with_reducible exact Rem.here) | apply Frm.cons | apply Rem.there))) (by omega) (by omega) dl) ?_); rintro x1 w m1
    replace m := m.fr (by repeat (first | exact Frm.nil | (with_reducible exact Rem.dup) | (with_reducible exact Rem.here) | apply Frm.cons | apply Rem.there)) m1; simp only [List.cons_append, List.nil_append] at m
    replace m := m.pub x1
    refine n33 (m.call (ref_do (room := 500) (fs := filesOf a) (ops := diffOf (filesOf a) (filesOf b)) (m.get (by repeat (first | exact Frm.nil | (with_reducible exact Rem.dup) | (with_reducible exact Rem.here) | apply Frm.cons | apply Rem.there))) (by omega) (by omega) (runs_files a b)) ?_); rintro r_ w ⟨g2, v2, rfl, m1⟩
    replace m := m.fr (by repeat (first | exact Frm.nil | (with_reducible exact Rem.dup) | (with_reducible exact Rem.here) | apply Frm.cons | apply Rem.there)) m1; simp only [List.cons_append, List.nil_append] at m
    (repeat (first | refine Sh.sv m ?_ | refine Sh.hv ?_ | (refine Sh.sw m ?_; clear m; intro g_ w m) | (refine Sh.su m ?_; clear m; intro w m) | (refine Sh.suN m ?_; clear m; intro w m) | (refine Sh.hr m ?_; clear m; intro m) | refine Sh.rsS m ?_ | refine Sh.hd m ?_ | refine Sh.rsK [] m ?_ | refine CN_tt ?_ | refine CN_ff ?_ | refine GD_tt ?_ | refine GD_ff ?_ | refine GD_tf ?_ | refine GD_ft ?_ | refine CN_true (by first | omega | (simp; done) | (simp; omega)) ?_ | refine CN_false (by first | omega | (simp; done) | (simp; omega)) ?_ | refine GD_true (by first | omega | (simp; done) | (simp; omega)) ?_ | refine GD_true' (by first | omega | (simp; done) | (simp; omega)) ?_ | refine GD_false (by first | omega | (simp; done) | (simp; omega)) ?_ | refine GD_false' (by first | omega | (simp; done) | (simp; omega)) ?_ | refine Sh.crN m ?_ | refine Sh.cr1 m ?_ | refine Sh.svI m (by first | omega | decide) (by first | omega | (simp; done) | (simp; omega)) fun q_ _ hp_ => ?_ | refine Sh.hvI m (by first | omega | decide) (by first | omega | (simp; done) | (simp; omega)) fun q_ _ hp_ => ?_ | refine Sh.svF m fun q_ _ hp_ => ?_ | refine Sh.hvF m fun q_ _ hp_ => ?_))
    refine LP_intro (fun us w => ∃ i : Nat, us = [.int .i64 i] ∧ i ≤ (filesOf b).length ∧ St w0 [keysF, sl eFile av a, sl eFile bv b] w [rk g2 63 [.int .i64 500, v2], sl eRF v2 (filesOf b), sl eFile mv (filesOf b)])
      (fun us _ => match us with | [.int _ t] => 9 - t.toNat | _ => 0) (by exact ⟨0, rfl, Nat.zero_le _, m.sub (by repeat (first | exact Frm.nil | (with_reducible exact Rem.dup) | (with_reducible exact Rem.here) | apply Frm.cons | apply Rem.there))⟩) ?_
    clear m
    rintro us hus ζ w ⟨i, rfl, hi, m⟩
    unfold s5_l1
    simp only [List.getD_cons_zero, List.getD_cons_succ]
    by_cases hlt : i < (filesOf b).length
    · (repeat (first | refine Sh.sv m ?_ | refine Sh.hv ?_ | (refine Sh.sw m ?_; clear m; intro g_ w m) | (refine Sh.su m ?_; clear m; intro w m) | (refine Sh.suN m ?_; clear m; intro w m) | (refine Sh.hr m ?_; clear m; intro m) | refine Sh.rsS m ?_ | refine Sh.hd m ?_ | refine Sh.rsK [] m ?_ | refine CN_tt ?_ | refine CN_ff ?_ | refine GD_tt ?_ | refine GD_ff ?_ | refine GD_tf ?_ | refine GD_ft ?_ | refine CN_true (by first | omega | (simp; done) | (simp; omega)) ?_ | refine CN_false (by first | omega | (simp; done) | (simp; omega)) ?_ | refine GD_true (by first | omega | (simp; done) | (simp; omega)) ?_ | refine GD_true' (by first | omega | (simp; done) | (simp; omega)) ?_ | refine GD_false (by first | omega | (simp; done) | (simp; omega)) ?_ | refine GD_false' (by first | omega | (simp; done) | (simp; omega)) ?_ | refine Sh.crN m ?_ | refine Sh.cr1 m ?_ | refine Sh.svI m (by first | omega | decide) (by first | omega | (simp; done) | (simp; omega)) fun q_ _ hp_ => ?_ | refine Sh.hvI m (by first | omega | decide) (by first | omega | (simp; done) | (simp; omega)) fun q_ _ hp_ => ?_ | refine Sh.svF m fun q_ _ hp_ => ?_ | refine Sh.hvF m fun q_ _ hp_ => ?_))
      refine ⟨⟨i + 1, rfl, hlt, m⟩, ?_⟩
      show 9 - ((i : Int) + 1).toNat < 9 - (i : Int).toNat
      omega
    · (repeat (first | refine Sh.sv m ?_ | refine Sh.hv ?_ | (refine Sh.sw m ?_; clear m; intro g_ w m) | (refine Sh.su m ?_; clear m; intro w m) | (refine Sh.suN m ?_; clear m; intro w m) | (refine Sh.hr m ?_; clear m; intro m) | refine Sh.rsS m ?_ | refine Sh.hd m ?_ | refine Sh.rsK [] m ?_ | refine CN_tt ?_ | refine CN_ff ?_ | refine GD_tt ?_ | refine GD_ff ?_ | refine GD_tf ?_ | refine GD_ft ?_ | refine CN_true (by first | omega | (simp; done) | (simp; omega)) ?_ | refine CN_false (by first | omega | (simp; done) | (simp; omega)) ?_ | refine GD_true (by first | omega | (simp; done) | (simp; omega)) ?_ | refine GD_true' (by first | omega | (simp; done) | (simp; omega)) ?_ | refine GD_false (by first | omega | (simp; done) | (simp; omega)) ?_ | refine GD_false' (by first | omega | (simp; done) | (simp; omega)) ?_ | refine Sh.crN m ?_ | refine Sh.cr1 m ?_ | refine Sh.svI m (by first | omega | decide) (by first | omega | (simp; done) | (simp; omega)) fun q_ _ hp_ => ?_ | refine Sh.hvI m (by first | omega | decide) (by first | omega | (simp; done) | (simp; omega)) fun q_ _ hp_ => ?_ | refine Sh.svF m fun q_ _ hp_ => ?_ | refine Sh.hvF m fun q_ _ hp_ => ?_))
      exact ⟨by trivial, m.ch.mono fun _ _ h => by cases h⟩
end Go.Proofs.YtkdghnbogkbedaaGreatDoor

namespace Go.Sh
open Go Go.ChangeShapes Go.WideShapes Go.ChangeAt Go.RowKit

section
variable {H : Type} {enc : TypeId × Value → H} {P : Program} {W W' w : World} {base : Nat} {spare : Nat → Bool} {held : Bool} {α : Type}

theorem spot_none {a : Addr} {v : Value} (h : w.cell? a = some v) : a = ⟨a.block, a.off, none⟩ ∧ ∃ C T fr, w.heap[a.block]? = some (.cells C T fr) := by
  obtain ⟨b, o, s⟩ := a
  unfold World.cell? at h
  split at h
  · rename_i c T fr hc
    split at h
    · cases h
    · rename_i hs
      cases s with
      | none => exact ⟨rfl, _, _, _, hc⟩
      | some s => simp at hs
  · cases h

/-- Cells at an address, as a slice that reads. -/
theorem Rd.of_cells {a : Addr} {n c sz : Nat} {xs : List Value} (hl : xs.length = n * sz) (hn : n ≤ maxLen) (hc : n ≤ c) (hsz : 0 < sz) (h : ∀ (j : Nat) u, xs[j]? = some u → w.cell? (a.add j) = some u) : ∃ T, Rd w T sz (.slice (some a) n c) n xs := by
  rcases Nat.eq_zero_or_pos n with h0 | hp
  · subst h0
    exact ⟨0, hl, hn, _, c, rfl, hc, fun h => absurd h (by omega)⟩
  · have hpos : 0 < xs.length := by rw [hl]; exact Nat.mul_pos hp hsz
    have h1 := h 0 xs[0] (by simp [hpos])
    rw [Addr.add_zero'] at h1
    obtain ⟨ha, C, T, fr, hb⟩ := spot_none h1
    generalize a.block = b at ha hb
    generalize a.off = o at ha
    subst ha
    refine ⟨T, hl, hn, _, c, rfl, hc, fun _ => ⟨b, o, C, fr, rfl, hb, fun j u hj => ?_⟩⟩
    have := h j u hj
    rw [Addr.add_lit, cell_of_row w b _ C T fr hb] at this
    exact this

/-- A slice that reads as data, as a list. -/
theorem open_list {base' : Nat} {E : Elt α} {R : α → Prop} {t e : TypeId} {v : Value} {d : DataW H} {ps : List MemPlace} (ht : P.underlying t = some (.slice e)) (hsz : P.cellsOf e = E.sz) (hpos : 0 < E.sz)
    (hE : ∀ n cs x, DataW.trod enc P w base spare held n e cs = some x → ∃ y : α, cs = E.c y ∧ R y) (hv : Value.okWide P w .any base' t v) (h : DataW.Trod enc P w base spare held t v d ps) :
    ∃ l : List α, (∀ y ∈ l, R y) ∧ l.length ≤ 9223372036854775807 ∧ ∃ T, Rd w T E.sz v l.length (E.all l) := by
  obtain ⟨fuel, h⟩ := h
  have hcell : v.cells = #[v] ∨ ∃ cs, v = .agg cs := by cases v <;> first | exact .inl rfl | exact .inr ⟨_, rfl⟩
  have hnag : ¬ ∃ cs, v = .agg cs := by
    rintro ⟨cs, rfl⟩
    unfold Value.okWide at hv
    rw [ht] at hv
    simp [Cell.okWide, Cell.ok, ht] at hv
  have hc := hcell.resolve_right hnag
  rw [hc] at h
  rcases Go.Deep.open_slice ht h with ⟨h1, _⟩ | ⟨a, len, cap, m, n, D, Pl, h1, _, hlc, hcm, hm, _, hx⟩
  · have : v = .slice none 0 0 := by simpa using h1
    subst this
    exact ⟨[], by simp, by simp, 0, Rd.zero none 0⟩
  · have hvv : v = .slice (some a) len cap := by simpa using h1
    subst hvv
    have hlm : len ≤ m := by rw [hm]; split <;> omega
    have key : ∀ i, i < len → ∃ y : α, R y ∧ w.cells? base (a.add (i * E.sz)) E.sz = some (E.c y) := fun i hi => by
      obtain ⟨cs', h2, h3⟩ := hx i (by omega)
      obtain ⟨y, rfl, hy⟩ := hE _ _ _ h3
      rw [hsz] at h2
      exact ⟨y, hy, h2⟩
    have build : ∀ k, k ≤ len → ∃ l : List α, l.length = k ∧ (∀ y ∈ l, R y) ∧ ∀ i y, l[i]? = some y → w.cells? base (a.add (i * E.sz)) E.sz = some (E.c y) := by
      intro k
      induction k with
      | zero => intro _; exact ⟨[], rfl, by simp, by simp⟩
      | succ k ih =>
        intro hk
        obtain ⟨l, h1, h2, h3⟩ := ih (by omega)
        obtain ⟨y, hy, hc⟩ := key k (by omega)
        refine ⟨l ++ [y], by simp [h1], fun z hz => ?_, fun i z hz => ?_⟩
        · rcases List.mem_append.1 hz with hz | hz
          · exact h2 z hz
          · cases List.mem_singleton.1 hz; exact hy
        · rcases Nat.lt_or_ge i l.length with hi | hi
          · rw [List.getElem?_append_left hi] at hz; exact h3 i z hz
          · rw [List.getElem?_append_right hi] at hz
            have : i = l.length := by
              rcases Nat.lt_or_ge i (l.length + 1) with h | h
              · omega
              · rw [List.getElem?_eq_none (by simp; omega)] at hz; cases hz
            subst this
            simp at hz
            subst hz
            rw [h1]; exact hc
    obtain ⟨l, h1, h2, h3⟩ := build len (Nat.le_refl _)
    have hml : maxLen = 9223372036854775807 := rfl
    refine ⟨l, h2, by omega, ?_⟩
    rw [h1]
    refine Rd.of_cells (by rw [E.all_len, h1]) (by omega) hlc hpos fun j u hj => ?_
    -- cell j lies in element j / sz
    have hjl : j < l.length * E.sz := by
      rw [← E.all_len]
      rcases Nat.lt_or_ge j (E.all l).length with h | h
      · exact h
      · rw [List.getElem?_eq_none h] at hj; cases hj
    have hi : j / E.sz < l.length := by rw [Nat.div_lt_iff_lt_mul hpos]; exact hjl
    obtain ⟨_, _, h4⟩ := World.cells?_some (h3 (j / E.sz) l[j / E.sz] (by simp [hi]))
    have h5 := h4 (j % E.sz) (Nat.mod_lt _ hpos)
    have e1 : j / E.sz * E.sz + j % E.sz = j := by rw [Nat.mul_comm]; exact Nat.div_add_mod j E.sz
    have hadd : ∀ m n, (a.add m).add n = a.add (m + n) := fun m n => by
      unfold Addr.add
      by_cases hm : m = 0
      · subst hm; simp
      · by_cases hn : n = 0
        · subst hn; simp [hm]
        · simp [hm, hn, Nat.add_assoc]
    rw [hadd, e1] at h5
    rw [h5]
    have h6 := E.all_at (l := l) hi
    have h7 := congrArg (fun x => x[j % E.sz]?) h6
    simp only [List.getElem?_take, List.getElem?_drop, Nat.mod_lt _ hpos, if_true, e1] at h7
    rw [← h7]; exact hj

theorem hold_nil : Hold [] w := fun _ h => by cases h
theorem hold_cons {f : Fact} {F : List Fact} (h : f.is w) (hF : Hold F w) : Hold (f :: F) w := fun g hg => by
  rcases List.mem_cons.1 hg with rfl | hg
  · exact h
  · exact hF g hg
theorem mem_ro {F : List Fact} (h : Hold F w) (hf : fps F = []) : Mem w F := ⟨h, by rw [hf]; exact List.nodup_nil, fun b hb => by rw [hf] at hb; cases hb⟩

theorem trodAll_stays (hl : laidOutB P = true) {sp' : Nat → Bool} : ∀ {ts : List TypeId} {vs : List Value} {ds : List (DataW H)} {ps : List MemPlace}, (ts.all fun t => P.readableRec t && decide (t < P.types.size)) = true →
    DataW.TrodAll enc P W base (fun _ => true) true ts vs ds ps → (∀ p ∈ ps, W.sameAt W' p) → (∀ p ∈ ps, sp' p.block = true) → DataW.TrodAll enc P W' base sp' true ts vs ds ps
  | [], [], [], _, _, h, _, _ => h
  | t :: ts, v :: vs, d :: ds, ps, ht, h, hs, hp => by
    obtain ⟨p, q, h1, h2, rfl⟩ := h
    simp only [List.all_cons, Bool.and_eq_true, decide_eq_true_eq] at ht
    exact ⟨p, q, WideElems.Trod_stays hl ht.1.1 ht.1.2 h1 (fun x hx => hs x (List.mem_append_left _ hx)) (fun x hx => hp x (List.mem_append_left _ hx)),
      trodAll_stays hl ht.2 h2 (fun x hx => hs x (List.mem_append_right _ hx)) (fun x hx => hp x (List.mem_append_right _ hx)), rfl⟩

end
/-- The law's answer, where nothing that was there has turned. -/
theorem law_below {H : Type} {enc : TypeId × Value → H} {P : Program} {f : Func} {s : ChangeSpec} {apart fresh handsOn again : Bool} {W W' : World} {args : Array Value} {v : Value} {ds gs : List (DataW H)} {before pa pv : List MemPlace}
    (hW : DataW.Whole enc P f.params.toList s.vars apart W args.toList ds gs before)
    (hres : ∀ (b : Nat) (sp : Nat → Bool) (hd : Bool), DataW.TrodAll enc P W' b sp hd f.resultTypes.toList (v.resultList f.resultTypes.size) (s.fn H (ds ++ gs)).results [])
    (hargs : ∀ sp : Nat → Bool, (∀ p ∈ before, sp p.block = true) → DataW.TrodAll enc P W' 0 sp true f.params.toList args.toList (s.fn H (ds ++ gs)).args pa)
    (hvars : ∀ sp : Nat → Bool, (∀ p ∈ before, sp p.block = true) → DataW.TrodVars enc P W' sp s.vars (s.fn H (ds ++ gs)).vars pv)
    (hps : before = pa ++ pv) (hb : Below W.heap.size W W')
    (hok : ∀ (j : Nat) (t : TypeId) (r : Value), f.resultTypes[j]? = some t → (v.resultList f.resultTypes.size)[j]? = some r → Value.okWide P W' .any 0 t r) :
    s.post enc P f apart fresh handsOn again W args v W' := by
  have hold : ∀ p ∈ before, (fun b => decide (b < W.heap.size)) p.block = true := fun p hp => by simpa using hW.lt p hp
  have hlt := hW.lt
  refine ⟨ds, gs, before, [], pa, pv, hW, hres _ _ _, hargs _ hold, hvars _ hold, World.keptBut_mono (fun p hp => ⟨hp, ?_⟩) (hb.frame (· ∈ before)), fun _ => ?_⟩
  · rw [hps, List.mem_append] at hp
    exact Or.inr hp
  · obtain ⟨_, _, _, _, _, hz, hn⟩ := hW
    refine ⟨hok, _, _, ([] ++ pa) ++ pv, ⟨[] ++ pa, pv, trodAll_append (hargs _ (fun _ _ => rfl)) (hres _ _ _), hvars _ (fun _ _ => rfl), rfl, ?_, ?_⟩, ?_⟩
    · intro b off hp
      have hp' : MemPlace.cell b off ∈ before := by rw [hps]; simpa using hp
      rw [hb.frozen (p := ⟨b, off, none⟩) (hlt _ hp')]
      exact hz b off hp'
    · intro ha
      have := hn ha
      rw [hps] at this
      simpa using this
    · intro p hp _
      rw [hps]
      simpa using hp
section
variable {H : Type} {enc : TypeId × Value → H} {P : Program} {W W' w : World} {base : Nat} {spare : Nat → Bool} {held : Bool} {α : Type}
/-- A law's answer: true; the arguments read as they did. -/
theorem law_post {f : Func} {s : ChangeSpec} {apart fresh handsOn again : Bool} {args : Array Value} {v : Value} {ds gs : List (DataW H)} {before : List MemPlace}
    (hl : laidOutB P = true) (hts : (f.params.toList.all fun t => P.readableRec t && decide (t < P.types.size)) = true)
    (hW : DataW.Whole enc P f.params.toList s.vars apart W args.toList ds gs before) (hvs : s.vars = [])
    (hfn : s.fn H (ds ++ gs) = { results := [.lit (.bool true)], args := ds }) {tb : TypeId} (hrt : f.resultTypes = #[tb]) (htb : P.underlying tb = some .bool)
    (hv : v = .bool true) (hb : Below W.heap.size W W') : s.post enc P f apart fresh handsOn again W args v W' := by
  have hold : ∀ p ∈ before, (fun b => decide (b < W.heap.size)) p.block = true := fun p hp => by simpa using hW.lt p hp
  have hlt := hW.lt
  have hW0 := hW
  obtain ⟨pa, pv, hA, hV, hps, hz, hn⟩ := hW0
  subst hv
  have hvn : s.vars = [] := hvs
  rw [hvn] at hV
  obtain ⟨rfl, rfl⟩ := trodVars_none hV
  simp only [List.append_nil] at hps
  subst hps
  have hsame : ∀ p ∈ before, W.sameAt W' p := fun p hp => hb.same (hlt p hp)
  have hres : ∀ (b : Nat) (sp : Nat → Bool) (hd : Bool), DataW.TrodAll enc P W' b sp hd f.resultTypes.toList ((Value.bool true).resultList f.resultTypes.size) (s.fn H (ds ++ [])).results [] := fun b sp hd => by
    rw [hfn, hrt]
    exact trodAll_cons_mk (shut_bool htb _) trodAll_mk0
  have hargs : ∀ sp : Nat → Bool, (∀ p ∈ before, sp p.block = true) → DataW.TrodAll enc P W' 0 sp true f.params.toList args.toList (s.fn H (ds ++ [])).args before := fun sp hsp => by
    rw [hfn]
    exact trodAll_stays hl hts hA hsame hsp
  have hvars : ∀ sp : Nat → Bool, DataW.TrodVars enc P W' sp s.vars (s.fn H (ds ++ [])).vars [] := fun sp => by rw [hfn, hvn]; rfl
  refine law_below (pa := before) (pv := []) hW hres hargs (fun sp _ => hvars sp) (by simp) hb ?_
  intro j t r ht hr
  rw [hrt] at ht hr
  match j, ht with
  | 0, ht =>
    simp only [List.getElem?_toArray, List.getElem?_cons_zero, Option.some.injEq] at ht
    subst ht
    have : r = .bool true := by
      have h2 : ((Value.bool true).resultList 1)[0]? = some (.bool true) := rfl
      have hr' : ((Value.bool true).resultList 1)[0]? = some r := hr
      rw [h2] at hr'
      exact (Option.some.inj hr').symm
    subst this
    exact okWide_bool_mk htb _
  | j + 1, ht => simp at ht
end
end Go.Sh

namespace Go.Proofs.YtkdghnbogkbedaaGreatDoor
open Go Go.Sh Go.ChangeShapes Go.WideShapes Go.ChangeAt Go.RowKit
set_option maxRecDepth 100000
set_option maxHeartbeats 1000000
set_option linter.unusedSimpArgs false
set_option linter.unusedVariables false

def intsOf : DataW Unit → List Int
  | .agg l => l.map fun | .lit (.int _ n) => n | _ => 0
  | _ => []
def zs : List Int := intsOf Rows.laid_scrinium_sha_keys
theorem ownK : ownKnob Tryz.prog.godebug = none := by kernel_rfl
theorem gTab : Tryz.prog.globalNamed "scrinium/sha.keys" = some 1 := by kernel_rfl
theorem gTabType : (Tryz.prog.globals[1]?).map (·.type) = some 258 := by kernel_rfl
theorem cells258 : Tryz.prog.cellsOf 258 = 64 := by kernel_rfl
theorem cells199 : Tryz.prog.cellsOf 199 = 1 := by kernel_rfl
theorem keys_zs' : keys.map (fun x => (x.toNat : Int)) = zs := by decide +kernel
theorem keys_zs : wv keys = zs.map (Value.int .u32) := by
  rw [← keys_zs', List.map_map]; rfl
theorem keysAt_of {W : World} (h : laidMetH Tryz.prog [("scrinium/sha.keys", Rows.laid_scrinium_sha_keys)] W) : KeysAt W := by
  have ht : Lib.TabIs Tryz.prog W "scrinium/sha.keys" .u32 zs := Lib.tabIs_of_head (rest := []) gTab gTabType Tryz.underlying258 Tryz.underlying199 cells199 cells258 h
  refine ⟨_, rfl, fun j u hj => ?_⟩
  rw [Addr.add_lit, Nat.zero_add]
  rw [keys_zs, List.getElem?_map] at hj
  have hlt : j < zs.length := by
    rcases Nat.lt_or_ge j zs.length with h | h
    · exact h
    · rw [List.getElem?_eq_none h] at hj; cases hj
  rw [ht.cell gTab j hlt]
  rw [List.getElem?_eq_getElem hlt] at hj
  simp only [Option.map_some, Option.some.injEq] at hj
  rw [← hj]
  simp [List.getD, List.getElem?_eq_getElem hlt]
/-- A world for the witnesses: the settled one, with the tables. -/
def tabs : List (Nat × List Value) := [(1, zs.map (Value.int .u32)), (2, (intsOf Rows.laid_internal_strconv_uint64pow10).map (Value.int .u64)), (3, (intsOf Rows.laid_math_bits_deBruijn32tab).map (Value.int .u8)), (4, (intsOf Rows.laid_math_bits_deBruijn64tab).map (Value.int .u8))]
def layTab (h : Array Obj) (p : Nat × List Value) : Array Obj := h.modify p.1 fun
  | .cells _ t frozen => .cells p.2.toArray t frozen
  | o => o
noncomputable def laidWorld (os : Os) : World :=
  { World.holding Tryz.prog os ⟨#[], #[], []⟩ with heap := tabs.foldl layTab (World.holding Tryz.prog os ⟨#[], #[], []⟩).heap }
end Go.Proofs.YtkdghnbogkbedaaGreatDoor

namespace Go.Proofs.YtkdghnbogkbedaaGreatDoor
open Go Go.Sh Go.ChangeShapes Go.WideShapes Go.ChangeAt Go.RowKit
set_option maxRecDepth 100000
set_option maxHeartbeats 1000000
set_option linter.unusedSimpArgs false
set_option linter.unusedVariables false
theorem len2 {l : List Value} (h : l.length = 2) : ∃ a b, l = [a, b] := by
  match l, h with
  | [a, b], _ => exact ⟨a, b, rfl⟩
theorem str_of {s : ByteArray} : (Value.string s) = str s.toList := by
  unfold str
  congr 1
  apply ByteArray.ext
  simp [ByteArray.toList_eq]
section
variable {H : Type} {enc : TypeId × Value → H} {W : World} {base : Nat} {spare : Nat → Bool} {held : Bool}
theorem openFile (n : Nat) (cs : List Value) (x : DataW H × List MemPlace) (h : DataW.trod enc Tryz.prog W base spare held n 55 cs = some x) : ∃ y : File, cs = eFile.c y ∧ True := by
  obtain ⟨xs, n', _, _, hl, hxl, hf⟩ := DataW.trod_struct Tryz.underlying55 h
  obtain ⟨u0, u1, rfl⟩ := len2 (hl.trans (show Tryz.prog.cellsOf 55 = 2 by kernel_rfl))
  have h0 := hf 0 _ rfl
  have h1 := hf 1 _ rfl
  obtain ⟨y0, hy0⟩ : ∃ y, xs[0]? = some y := ⟨xs[0]'(by rw [hxl]; decide), List.getElem?_eq_getElem _⟩
  obtain ⟨y1, hy1⟩ : ∃ y, xs[1]? = some y := ⟨xs[1]'(by rw [hxl]; decide), List.getElem?_eq_getElem _⟩
  rw [hy0] at h0
  rw [hy1] at h1
  obtain ⟨s0, e0, _⟩ := DataW.trod_string Tryz.underlying9 h0
  obtain ⟨s1, e1, _⟩ := DataW.trod_string Tryz.underlying9 h1
  have c9 : Tryz.prog.cellsOf 9 = 1 := by kernel_rfl
  have e0' : [u0] = [Value.string s0] := e0
  have e1' : [u1] = [Value.string s1] := e1
  obtain rfl : u0 = .string s0 := by simpa using e0'
  obtain rfl : u1 = .string s1 := by simpa using e1'
  exact ⟨⟨s0.toList, s1.toList⟩, by rw [str_of, str_of]; rfl, trivial⟩
end
end Go.Proofs.YtkdghnbogkbedaaGreatDoor
