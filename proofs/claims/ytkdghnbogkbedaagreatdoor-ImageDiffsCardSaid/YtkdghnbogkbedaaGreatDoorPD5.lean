/-
  ImageDiffs: for every input the law answers true, and its arguments read as they did. Conditions: the package-level tables hold what the program's text lays (the row's list, tied by the card). (Part 6 of 7.)
-/
import Derived.Test.YtkdghnbogkbedaaGreatDoorProg
import Derived.WalkKit
import Derived.ProofKit
import Derived.OpenShut
import Derived.Carry
import Derived.Deep.Slices
import Derived.Deep.DeepHandedRow
import Derived.Lib.LaidTab
import Derived.LaidSub
import Derived.Test.YtkdghnbogkbedaaGreatDoorRows
import Derived.Test.YtkdghnbogkbedaaGreatDoorPD4
set_option linter.unusedSimpArgs false
set_option linter.unusedVariables false

namespace Go.Proofs.YtkdghnbogkbedaaGreatDoor
open Go Go.Sh
set_option maxRecDepth 100000


theorem mixedXSort : Tryz.prog.follows .mixedOrders = true := by kernel_rfl

/-! ### 167: slices.SortFunc[[]scrinium/api.File,scrinium/api.File] -/

def s167 (P : Program) (k : Value → World → Prop) (a0_x : Value) (a1_cmp : Value) (w : World) : Prop :=
  SV P (Builtin.len_ #[52] 3 #[a0_x]) w fun t6 w =>
  SV P (convert 3 121 t6) w fun t10 w =>
  SN P (callFunc 245 #[t10]) w fun t11 w =>
  SN P (callFunc 244 #[a0_x, (Value.int .i64 0), t6, t11, a1_cmp]) w fun _ w =>
  k (.tuple #[]) w

theorem e167 (k : Value → World → Prop) (a0_x a1_cmp : Value) (w : World) : s167 Tryz.prog k a0_x a1_cmp w = vcF Tryz.prog Tryz.f167 [] [a0_x, a1_cmp] k w := by kernel_rfl
theorem c167 {k : Value → World → Prop} {a0_x a1_cmp : Value} {w : World} (h : s167 Tryz.prog k a0_x a1_cmp w) : Calls Tryz.prog 167 #[a0_x, a1_cmp] w (retP k) :=
  calls_of_vcF [] mixedXSort Tryz.func167 (by kernel_rfl) (Eq.mp (e167 k a0_x a1_cmp w) h)
theorem n167 {args : Array Value} {w : World} {k : Value → World → Prop} (h : Calls Tryz.prog 167 args w (retP k)) : SN Tryz.prog (callFunc 167 args) w k := sn_call Tryz.func167 (by kernel_rfl) (by kernel_rfl) h

/-! ### 244: slices.pdqsortCmpFunc[scrinium/api.File] -/

def s244_j1 (P : Program) (_ : Value → World → Prop) (a0_data : Value) (a4_cmp : Value) (wasPartitioned11 : Value) (a1 : Value) (wasBalanced10 : Value) (b2 : Value) (next : List Value → World → Prop) (t23 : Value) (limit3_1 : Value) (pivot13_1 : Value) (hint14_1 : Value) (w : World) : Prop :=
  HR w fun C w =>
  HV P C (binOp .gtr 3 a1 (Value.int .i64 0)) fun t82 =>
  GD t82 true
  (HV P C (binOp .sub 3 a1 (Value.int .i64 1)) fun t87 =>
  HV P C (Instr.indexAt 52 a0_data t87) fun t88 =>
  HV P C (Instr.loadAt 55 t88) fun t89 =>
  HV P C (Instr.indexAt 52 a0_data pivot13_1) fun t92 =>
  HV P C (Instr.loadAt 55 t92) fun t93 =>
  SN P (callV a4_cmp #[t89, t93]) w fun t94 w =>
  RS C w fun C =>
  HV P C (binOp .lss 3 t94 (Value.int .i64 0)) fun t95 =>
  HV P C (Op.unary .not t95) fun t96 =>
  CN t96
  (SN P (callFunc 280 #[a0_data, a1, b2, pivot13_1, a4_cmp]) w fun t103 w =>
  next [limit3_1, pivot13_1, hint14_1, wasPartitioned11, t103, wasBalanced10, b2] w)
  (SN P (callFunc 281 #[a0_data, a1, b2, pivot13_1, a4_cmp]) w fun t111 w =>
  SV P (Instr.extract t111 0) w fun t112 w =>
  SV P (Instr.extract t111 1) w fun t113 w =>
  SV P (binOp .sub 3 t112 a1) w fun t117 w =>
  SV P (binOp .sub 3 b2 t112) w fun t120 w =>
  SV P (binOp .quo 3 t23 (Value.int .i64 8)) w fun t122 w =>
  SV P (binOp .lss 3 t117 t120) w fun t125 w =>
  CN t125
  (SV P (binOp .geq 3 t117 t122) w fun t128 w =>
  SN P (callFunc 244 #[a0_data, a1, t112, limit3_1, a4_cmp]) w fun _ w =>
  SV P (binOp .add 3 t112 (Value.int .i64 1)) w fun t136 w =>
  next [limit3_1, pivot13_1, hint14_1, t113, t136, t128, b2] w)
  (SV P (binOp .geq 3 t120 t122) w fun t139 w =>
  SV P (binOp .add 3 t112 (Value.int .i64 1)) w fun t142 w =>
  SN P (callFunc 244 #[a0_data, t142, b2, limit3_1, a4_cmp]) w fun _ w =>
  next [limit3_1, pivot13_1, hint14_1, t113, a1, t139, t112] w)))
  (SN P (callFunc 281 #[a0_data, a1, b2, pivot13_1, a4_cmp]) w fun t111 w =>
  SV P (Instr.extract t111 0) w fun t112 w =>
  SV P (Instr.extract t111 1) w fun t113 w =>
  SV P (binOp .sub 3 t112 a1) w fun t117 w =>
  SV P (binOp .sub 3 b2 t112) w fun t120 w =>
  SV P (binOp .quo 3 t23 (Value.int .i64 8)) w fun t122 w =>
  SV P (binOp .lss 3 t117 t120) w fun t125 w =>
  CN t125
  (SV P (binOp .geq 3 t117 t122) w fun t128 w =>
  SN P (callFunc 244 #[a0_data, a1, t112, limit3_1, a4_cmp]) w fun _ w =>
  SV P (binOp .add 3 t112 (Value.int .i64 1)) w fun t136 w =>
  next [limit3_1, pivot13_1, hint14_1, t113, t136, t128, b2] w)
  (SV P (binOp .geq 3 t120 t122) w fun t139 w =>
  SV P (binOp .add 3 t112 (Value.int .i64 1)) w fun t142 w =>
  SN P (callFunc 244 #[a0_data, t142, b2, limit3_1, a4_cmp]) w fun _ w =>
  next [limit3_1, pivot13_1, hint14_1, t113, a1, t139, t112] w))

def s244_j2 (P : Program) (k : Value → World → Prop) (a0_data : Value) (a4_cmp : Value) (wasPartitioned11 : Value) (a1 : Value) (wasBalanced10 : Value) (b2 : Value) (next : List Value → World → Prop) (t23 : Value) (limit3_1 : Value) (pivot13_1 : Value) (hint14_1 : Value) (w : World) : Prop :=
  JP 0 (fun j =>
  GD wasBalanced10 true
  (GD wasPartitioned11 true
  (SV P (eqS .eql 295 (.tmp 73) (.const (Value.int .i64 1)) hint14_1 (Value.int .i64 1)) w fun t74 w =>
  CN t74
  (SN P (callFunc 279 #[a0_data, a1, b2, a4_cmp]) w fun t80 w =>
  CN t80
  (k (.tuple #[]) w)
  (j [] w))
  (j [] w))
  (j [] w))
  (j [] w))
  (fun _ _ w => s244_j1 P k a0_data a4_cmp wasPartitioned11 a1 wasBalanced10 b2 next t23 limit3_1 pivot13_1 hint14_1 w)

def s244_j3 (P : Program) (k : Value → World → Prop) (a0_data : Value) (a4_cmp : Value) (wasPartitioned11 : Value) (a1 : Value) (wasBalanced10 : Value) (b2 : Value) (next : List Value → World → Prop) (t23 : Value) (limit3_1 : Value) (w : World) : Prop :=
  SN P (callFunc 277 #[a0_data, a1, b2, a4_cmp]) w fun t52 w =>
  SV P (Instr.extract t52 0) w fun t53 w =>
  SV P (Instr.extract t52 1) w fun t54 w =>
  JP 2 (fun j =>
  SV P (eqS .eql 295 (.tmp 55) (.const (Value.int .i64 2)) t54 (Value.int .i64 2)) w fun t56 w =>
  CN t56
  (SN P (callFunc 278 #[a0_data, a1, b2, a4_cmp]) w fun _ w =>
  SV P (binOp .sub 3 b2 (Value.int .i64 1)) w fun t63 w =>
  SV P (binOp .sub 3 t53 a1) w fun t66 w =>
  SV P (binOp .sub 3 t63 t66) w fun t67 w =>
  j [t67, (Value.int .i64 1)] w)
  (j [t53, t54] w))
  (fun _ us w => s244_j2 P k a0_data a4_cmp wasPartitioned11 a1 wasBalanced10 b2 next t23 limit3_1 (us.getD 0 undef) (us.getD 1 undef) w)

def s244_l1 (P : Program) (k : Value → World → Prop) (a0_data : Value) (a4_cmp : Value) (limit3 : Value) (wasPartitioned11 : Value) (a1 : Value) (wasBalanced10 : Value) (b2 : Value) (next : List Value → World → Prop) (w : World) : Prop :=
  SV P (binOp .sub 3 b2 a1) w fun t23 w =>
  SV P (binOp .leq 3 t23 (Value.int .i64 12)) w fun t25 w =>
  CN t25
  (SN P (callFunc 274 #[a0_data, a1, b2, a4_cmp]) w fun _ w =>
  k (.tuple #[]) w)
  (SV P (eqS .eql 3 (.tmp 31) (.const (Value.int .i64 0)) limit3 (Value.int .i64 0)) w fun t32 w =>
  CN t32
  (SN P (callFunc 275 #[a0_data, a1, b2, a4_cmp]) w fun _ w =>
  k (.tuple #[]) w)
  (JP 1 (fun j =>
  SV P (Op.unary .not wasBalanced10) w fun t39 w =>
  CN t39
  (SN P (callFunc 276 #[a0_data, a1, b2, a4_cmp]) w fun _ w =>
  SV P (binOp .sub 3 limit3 (Value.int .i64 1)) w fun t46 w =>
  j [t46] w)
  (j [limit3] w))
  (fun _ us w => s244_j3 P k a0_data a4_cmp wasPartitioned11 a1 wasBalanced10 b2 next t23 (us.getD 0 undef) w)))

def s244 (P : Program) (k : Value → World → Prop) (a0_data : Value) (a1_a : Value) (a2_b : Value) (a3_limit : Value) (a4_cmp : Value) (w : World) : Prop :=
  LP 7 [a3_limit, undef, undef, (Value.bool true), a1_a, (Value.bool true), a2_b] w (fun next _ us w => s244_l1 P k a0_data a4_cmp (us.getD 0 undef) (us.getD 3 undef) (us.getD 4 undef) (us.getD 5 undef) (us.getD 6 undef) next w)

theorem e244 (k : Value → World → Prop) (a0_data a1_a a2_b a3_limit a4_cmp : Value) (w : World) : s244 Tryz.prog k a0_data a1_a a2_b a3_limit a4_cmp w = vcF Tryz.prog Tryz.f244 [1, 2, 3, 10, 11, 13, 14] [a0_data, a1_a, a2_b, a3_limit, a4_cmp] k w := by kernel_rfl
theorem c244 {k : Value → World → Prop} {a0_data a1_a a2_b a3_limit a4_cmp : Value} {w : World} (h : s244 Tryz.prog k a0_data a1_a a2_b a3_limit a4_cmp w) : Calls Tryz.prog 244 #[a0_data, a1_a, a2_b, a3_limit, a4_cmp] w (retP k) :=
  calls_of_vcF [1, 2, 3, 10, 11, 13, 14] mixedXSort Tryz.func244 (by kernel_rfl) (Eq.mp (e244 k a0_data a1_a a2_b a3_limit a4_cmp w) h)
theorem n244 {args : Array Value} {w : World} {k : Value → World → Prop} (h : Calls Tryz.prog 244 args w (retP k)) : SN Tryz.prog (callFunc 244 args) w k := sn_call Tryz.func244 (by kernel_rfl) (by kernel_rfl) h

/-! ### 274: slices.insertionSortCmpFunc[scrinium/api.File] -/

def s274_l1 (P : Program) (_ : Value → World → Prop) (a0_data : Value) (a1_a : Value) (a3_cmp : Value) (i8 : Value) (next : List Value → World → Prop) (j9_1 : Value) (next_1 : List Value → World → Prop) (w : World) : Prop :=
  HR w fun C w =>
  HV P C (binOp .gtr 3 j9_1 a1_a) fun t20 =>
  GD t20 true
  (HV P C (Instr.indexAt 52 a0_data j9_1) fun t25 =>
  HV P C (Instr.loadAt 55 t25) fun t26 =>
  HV P C (binOp .sub 3 j9_1 (Value.int .i64 1)) fun t29 =>
  HV P C (Instr.indexAt 52 a0_data t29) fun t30 =>
  HV P C (Instr.loadAt 55 t30) fun t31 =>
  SN P (callV a3_cmp #[t26, t31]) w fun t32 w =>
  RS C w fun C =>
  HV P C (binOp .lss 3 t32 (Value.int .i64 0)) fun t33 =>
  CN t33
  (HR w fun C w =>
  HV P C (binOp .sub 3 j9_1 (Value.int .i64 1)) fun t41 =>
  HV P C (binOp .sub 3 j9_1 (Value.int .i64 1)) fun t44 =>
  HV P C (Instr.indexAt 52 a0_data t44) fun t45 =>
  HV P C (Instr.loadAt 55 t45) fun t46 =>
  HV P C (Instr.indexAt 52 a0_data j9_1) fun t49 =>
  HV P C (Instr.loadAt 55 t49) fun t50 =>
  HV P C (Instr.indexAt 52 a0_data j9_1) fun t51 =>
  SU P (Instr.storeAt 55 t51 t46) w fun w =>
  C w ∧
  HV P C (Instr.indexAt 52 a0_data t41) fun t52 =>
  SU P (Instr.storeAt 55 t52 t50) w fun w =>
  SV P (binOp .sub 3 j9_1 (Value.int .i64 1)) w fun t36 w =>
  next_1 [t36] w)
  (SV P (binOp .add 3 i8 (Value.int .i64 1)) w fun t16 w =>
  next [j9_1, t16] w))
  (SV P (binOp .add 3 i8 (Value.int .i64 1)) w fun t16 w =>
  next [j9_1, t16] w)

def s274_l2 (P : Program) (k : Value → World → Prop) (a0_data : Value) (a1_a : Value) (a2_b : Value) (a3_cmp : Value) (i8 : Value) (next : List Value → World → Prop) (w : World) : Prop :=
  SV P (binOp .lss 3 i8 a2_b) w fun t14 w =>
  CN t14
  (LP 1 [i8] w (fun next_1 _ us w => s274_l1 P k a0_data a1_a a3_cmp i8 next (us.getD 0 undef) next_1 w))
  (k (.tuple #[]) w)

def s274 (P : Program) (k : Value → World → Prop) (a0_data : Value) (a1_a : Value) (a2_b : Value) (a3_cmp : Value) (w : World) : Prop :=
  SV P (binOp .add 3 a1_a (Value.int .i64 1)) w fun t11 w =>
  LP 2 [undef, t11] w (fun next _ us w => s274_l2 P k a0_data a1_a a2_b a3_cmp (us.getD 1 undef) next w)

theorem e274 (k : Value → World → Prop) (a0_data a1_a a2_b a3_cmp : Value) (w : World) : s274 Tryz.prog k a0_data a1_a a2_b a3_cmp w = vcF Tryz.prog Tryz.f274 [8, 9] [a0_data, a1_a, a2_b, a3_cmp] k w := by kernel_rfl
theorem c274 {k : Value → World → Prop} {a0_data a1_a a2_b a3_cmp : Value} {w : World} (h : s274 Tryz.prog k a0_data a1_a a2_b a3_cmp w) : Calls Tryz.prog 274 #[a0_data, a1_a, a2_b, a3_cmp] w (retP k) :=
  calls_of_vcF [8, 9] mixedXSort Tryz.func274 (by kernel_rfl) (Eq.mp (e274 k a0_data a1_a a2_b a3_cmp w) h)
theorem n274 {args : Array Value} {w : World} {k : Value → World → Prop} (h : Calls Tryz.prog 274 args w (retP k)) : SN Tryz.prog (callFunc 274 args) w k := sn_call Tryz.func274 (by kernel_rfl) (by kernel_rfl) h

end Go.Proofs.YtkdghnbogkbedaaGreatDoor

namespace Go.Proofs.YtkdghnbogkbedaaGreatDoor
open Go Go.Sh
set_option maxRecDepth 100000


theorem mixedXLaw21 : Tryz.prog.follows .mixedOrders = true := by kernel_rfl

/-! ### 4: scrinium/scriniumlaw21.ImageDiffs -/

def s4_j1 (P : Program) (_ : Value → World → Prop) (i10 : Value) (next : List Value → World → Prop) (w : World) : Prop :=
  SV P (binOp .add 3 i10 (Value.int .i64 1)) w fun t32 w =>
  next [t32] w

def s4_l1 (P : Program) (k : Value → World → Prop) (t17 : Value) (t19 : Value) (j : List Value → World → Prop) (i10 : Value) (next : List Value → World → Prop) (w : World) : Prop :=
  SV P (Builtin.len_ #[52] 3 #[t19]) w fun t23 w =>
  SV P (binOp .lss 3 i10 t23) w fun t24 w =>
  GD t24 true
  (SV P (Builtin.len_ #[52] 3 #[t17]) w fun t28 w =>
  SV P (binOp .lss 3 i10 t28) w fun t29 w =>
  CN t29
  (JP 0 (fun j_1 =>
  SV P (binOp .rem 3 i10 (Value.int .i64 2)) w fun t34 w =>
  SV P (eqS .eql 3 (.tmp 34) (.const (Value.int .i64 0)) t34 (Value.int .i64 0)) w fun t35 w =>
  CN t35
  (SV P (Instr.indexAt 52 t17 i10) w fun t40 w =>
  SV P (Instr.loadAt 55 t40) w fun t41 w =>
  SV P (Instr.indexAt 52 t19 i10) w fun t42 w =>
  SU P (Instr.storeAt 55 t42 t41) w fun w =>
  j_1 [] w)
  (HR w fun C w =>
  HV P C (Instr.indexAt 52 t19 i10) fun t45 =>
  HV P C (Instr.fieldAt 55 t45 0) fun t46 =>
  HV P C (Instr.loadAt 9 t46) fun t47 =>
  HV P C (Instr.indexAt 52 t17 i10) fun t50 =>
  HV P C (Instr.fieldAt 55 t50 0) fun t51 =>
  HV P C (Instr.loadAt 9 t51) fun t52 =>
  HV P C (eqS .eql 9 (.tmp 47) (.tmp 52) t47 t52) fun t53 =>
  CN t53
  (HR w fun C w =>
  HV P C (Instr.indexAt 52 t17 i10) fun t58 =>
  HV P C (Instr.fieldAt 55 t58 1) fun t59 =>
  HV P C (Instr.loadAt 9 t59) fun t60 =>
  HV P C (Instr.indexAt 52 t19 i10) fun t63 =>
  HV P C (Instr.fieldAt 55 t63 1) fun t64 =>
  HV P C (Instr.loadAt 9 t64) fun t65 =>
  HV P C (binOp .add 9 t60 t65) fun t66 =>
  HV P C (Instr.indexAt 52 t19 i10) fun t67 =>
  HV P C (Instr.fieldAt 55 t67 1) fun t68 =>
  SU P (Instr.storeAt 9 t68 t66) w fun w =>
  j_1 [] w)
  (j_1 [] w)))
  (fun _ _ w => s4_j1 P k i10 next w))
  (j [i10] w))
  (j [i10] w)

def s4_l2 (P : Program) (k : Value → World → Prop) (t15 : Value) (t17 : Value) (t19 : Value) (rises11 : Value) (i12 : Value) (next : List Value → World → Prop) (w : World) : Prop :=
  SV P (Builtin.len_ #[52] 3 #[t19]) w fun t71 w =>
  SV P (binOp .lss 3 i12 t71) w fun t72 w =>
  CN t72
  (HR w fun C w =>
  GD rises11 true
  (HV P C (binOp .sub 3 i12 (Value.int .i64 1)) fun t79 =>
  HV P C (Instr.indexAt 52 t19 t79) fun t80 =>
  HV P C (Instr.fieldAt 55 t80 0) fun t81 =>
  HV P C (Instr.loadAt 9 t81) fun t82 =>
  HV P C (Instr.indexAt 52 t19 i12) fun t85 =>
  HV P C (Instr.fieldAt 55 t85 0) fun t86 =>
  HV P C (Instr.loadAt 9 t86) fun t87 =>
  HV P C (binOp .lss 9 t82 t87) fun t88 =>
  SV P (binOp .add 3 i12 (Value.int .i64 1)) w fun t74 w =>
  next [t88, t74] w)
  (SV P (binOp .add 3 i12 (Value.int .i64 1)) w fun t74 w =>
  next [(Value.bool false), t74] w))
  (SV P (Op.unary .not rises11) w fun t91 w =>
  CN t91
  (k t15 w)
  (SN P (callFunc 31 #[t17, t19]) w fun t95 w =>
  SN P (callFunc 32 #[t17, t19]) w fun t98 w =>
  SN P (callFunc 30 #[t95, t98]) w fun t99 w =>
  SN P (callFunc 31 #[t19, t17]) w fun t102 w =>
  SN P (callFunc 32 #[t19, t17]) w fun t105 w =>
  SN P (callFunc 30 #[t102, t105]) w fun t106 w =>
  GD t15 true
  (GD t99 true
  (GD t106 true
  (SN P (callFunc 31 #[t17, t17]) w fun t117 w =>
  SV P (Builtin.len_ #[57] 3 #[t117]) w fun t118 w =>
  SV P (eqS .eql 3 (.tmp 118) (.const (Value.int .i64 0)) t118 (Value.int .i64 0)) w fun t119 w =>
  k t119 w)
  (k (Value.bool false) w))
  (k (Value.bool false) w))
  (k (Value.bool false) w)))

def s4_j2 (P : Program) (k : Value → World → Prop) (t15 : Value) (t17 : Value) (t19 : Value) (w : World) : Prop :=
  LP 2 [(Value.bool true), (Value.int .i64 1)] w (fun next _ us w => s4_l2 P k t15 t17 t19 (us.getD 0 undef) (us.getD 1 undef) next w)

def s4 (P : Program) (k : Value → World → Prop) (a0_a : Value) (a1_b : Value) (a2_half : Value) (w : World) : Prop :=
  SN P (callFunc 28 #[]) w fun t15 w =>
  SN P (callFunc 29 #[a0_a]) w fun t17 w =>
  SN P (callFunc 29 #[a1_b]) w fun t19 w =>
  JP 1 (fun j =>
  CN a2_half
  (LP 1 [(Value.int .i64 0)] w (fun next _ us w => s4_l1 P k t17 t19 j (us.getD 0 undef) next w))
  (j [undef] w))
  (fun _ _ w => s4_j2 P k t15 t17 t19 w)

theorem e4 (k : Value → World → Prop) (a0_a a1_b a2_half : Value) (w : World) : s4 Tryz.prog k a0_a a1_b a2_half w = vcF Tryz.prog Tryz.f4 [10, 11, 12] [a0_a, a1_b, a2_half] k w := by kernel_rfl
theorem c4 {k : Value → World → Prop} {a0_a a1_b a2_half : Value} {w : World} (h : s4 Tryz.prog k a0_a a1_b a2_half w) : Calls Tryz.prog 4 #[a0_a, a1_b, a2_half] w (retP k) :=
  calls_of_vcF [10, 11, 12] mixedXLaw21 Tryz.func4 (by kernel_rfl) (Eq.mp (e4 k a0_a a1_b a2_half w) h)
theorem n4 {args : Array Value} {w : World} {k : Value → World → Prop} (h : Calls Tryz.prog 4 args w (retP k)) : SN Tryz.prog (callFunc 4 args) w k := sn_call Tryz.func4 (by kernel_rfl) (by kernel_rfl) h

/-! ### 5: scrinium/scriniumlaw21.ImageGoes -/

def s5_l1 (P : Program) (k : Value → World → Prop) (t13 : Value) (t17 : Value) (t52 : Value) (i12 : Value) (next_1 : List Value → World → Prop) (w : World) : Prop :=
  SV P (Builtin.len_ #[52] 3 #[t17]) w fun t68 w =>
  SV P (binOp .lss 3 i12 t68) w fun t69 w =>
  CN t69
  (HR w fun C w =>
  HV P C (nilS t52) fun t73 =>
  HV P C (Instr.fieldAt 63 t73 1) fun t74 =>
  HV P C (Instr.loadAt 61 t74) fun t75 =>
  HV P C (Instr.indexAt 61 t75 i12) fun t77 =>
  HV P C (Instr.fieldAt 64 t77 0) fun t78 =>
  HV P C (Instr.loadAt 9 t78) fun t79 =>
  HV P C (Instr.indexAt 52 t17 i12) fun t82 =>
  HV P C (Instr.fieldAt 55 t82 0) fun t83 =>
  HV P C (Instr.loadAt 9 t83) fun t84 =>
  HV P C (eqS .neq 9 (.tmp 79) (.tmp 84) t79 t84) fun t85 =>
  GD t85 false
  (HV P C (nilS t52) fun t88 =>
  HV P C (Instr.fieldAt 63 t88 1) fun t89 =>
  HV P C (Instr.loadAt 61 t89) fun t90 =>
  HV P C (Instr.indexAt 61 t90 i12) fun t92 =>
  HV P C (Instr.fieldAt 64 t92 1) fun t93 =>
  HV P C (Instr.loadAt 9 t93) fun t94 =>
  HV P C (Instr.indexAt 52 t17 i12) fun t97 =>
  HV P C (Instr.fieldAt 55 t97 1) fun t98 =>
  HV P C (Instr.loadAt 9 t98) fun t99 =>
  HV P C (eqS .neq 9 (.tmp 94) (.tmp 99) t94 t99) fun t100 =>
  CN t100
  (k (Value.bool false) w)
  (SV P (binOp .add 3 i12 (Value.int .i64 1)) w fun t71 w =>
  next_1 [t71] w))
  (k (Value.bool false) w))
  (k t13 w)

def s5_l2 (P : Program) (k : Value → World → Prop) (t13 : Value) (t15 : Value) (t17 : Value) (t19 : Value) (i9 : Value) (next : List Value → World → Prop) (w : World) : Prop :=
  SV P (Builtin.len_ #[52] 3 #[t15]) w fun t22 w =>
  SV P (binOp .lss 3 i9 t22) w fun t23 w =>
  CN t23
  (HR w fun C w =>
  HV P C (nilS t19) fun t28 =>
  HV P C (Instr.fieldAt 63 t28 1) fun t29 =>
  HV P C (Instr.loadAt 61 t29) fun t30 =>
  HV P C (Instr.indexAt 52 t15 i9) fun t33 =>
  HV P C (Instr.fieldAt 55 t33 0) fun t34 =>
  HV P C (Instr.loadAt 9 t34) fun t35 =>
  HV P C (Instr.indexAt 52 t15 i9) fun t38 =>
  HV P C (Instr.fieldAt 55 t38 1) fun t39 =>
  HV P C (Instr.loadAt 9 t39) fun t40 =>
  HV P C (Instr.build 64 #[(0, t35), (1, t40)]) fun t41 =>
  SV P (Instr.buildSlice 61 1 #[(0, t41)]) w fun t42 w =>
  C w ∧
  SV P (Builtin.append_ #[61, 61] 61 #[t30, t42]) w fun t43 w =>
  RS C w fun C =>
  HV P C (nilS t19) fun t44 =>
  HV P C (Instr.fieldAt 63 t44 1) fun t45 =>
  SU P (Instr.storeAt 61 t45 t43) w fun w =>
  SV P (binOp .add 3 i9 (Value.int .i64 1)) w fun t25 w =>
  next [t25] w)
  (SN P (callFunc 31 #[t15, t17]) w fun t50 w =>
  SN P (callFunc 33 #[t19, t50]) w fun t51 w =>
  SV P (Instr.extract t51 0) w fun t52 w =>
  SV P (Instr.extract t51 1) w fun t53 w =>
  SV P (eqS .neq 32 (.tmp 54) (.const (Value.int .i64 0)) t53 (Value.int .i64 0)) w fun t55 w =>
  GD t55 false
  (SV P (nilS t52) w fun t58 w =>
  SV P (Instr.fieldAt 63 t58 1) w fun t59 w =>
  SV P (Instr.loadAt 61 t59) w fun t60 w =>
  SV P (Builtin.len_ #[61] 3 #[t60]) w fun t61 w =>
  SV P (Builtin.len_ #[52] 3 #[t17]) w fun t63 w =>
  SV P (eqS .neq 3 (.tmp 61) (.tmp 63) t61 t63) w fun t64 w =>
  CN t64
  (k (Value.bool false) w)
  (LP 1 [(Value.int .i64 0)] w (fun next_1 _ us w => s5_l1 P k t13 t17 t52 (us.getD 0 undef) next_1 w)))
  (k (Value.bool false) w))

def s5 (P : Program) (k : Value → World → Prop) (a0_a : Value) (a1_b : Value) (w : World) : Prop :=
  SN P (callFunc 28 #[]) w fun t13 w =>
  SN P (callFunc 29 #[a0_a]) w fun t15 w =>
  SN P (callFunc 29 #[a1_b]) w fun t17 w =>
  SV P (Instr.build 63 #[(0, (Value.int .i64 500))]) w fun t18 w =>
  SV P (Instr.box 63 t18) w fun t19 w =>
  LP 1 [(Value.int .i64 0)] w (fun next _ us w => s5_l2 P k t13 t15 t17 t19 (us.getD 0 undef) next w)

theorem e5 (k : Value → World → Prop) (a0_a a1_b : Value) (w : World) : s5 Tryz.prog k a0_a a1_b w = vcF Tryz.prog Tryz.f5 [9, 12] [a0_a, a1_b] k w := by kernel_rfl
theorem c5 {k : Value → World → Prop} {a0_a a1_b : Value} {w : World} (h : s5 Tryz.prog k a0_a a1_b w) : Calls Tryz.prog 5 #[a0_a, a1_b] w (retP k) :=
  calls_of_vcF [9, 12] mixedXLaw21 Tryz.func5 (by kernel_rfl) (Eq.mp (e5 k a0_a a1_b w) h)
theorem n5 {args : Array Value} {w : World} {k : Value → World → Prop} (h : Calls Tryz.prog 5 args w (retP k)) : SN Tryz.prog (callFunc 5 args) w k := sn_call Tryz.func5 (by kernel_rfl) (by kernel_rfl) h

/-! ### 28: scrinium/scriniumlaw21.awake -/

def s28 (P : Program) (k : Value → World → Prop) (w : World) : Prop :=
  SN P (callFunc 35 #[(Value.int .i64 10), (Value.int .i64 5), (str [107])]) w fun t6 w =>
  SN P (callFunc 93 #[t6]) w fun t8 w =>
  SN P (callFunc 94 #[(str [97]), (str [120])]) w fun t9 w =>
  SN P (callFunc 94 #[(str [97]), (str [120, 121])]) w fun t10 w =>
  SN P (callFunc 31 #[t9, t10]) w fun t11 w =>
  SN P (callFunc 94 #[(str [97]), (str [120, 121])]) w fun t12 w =>
  SN P (callFunc 94 #[(str [97]), (str [120])]) w fun t13 w =>
  SN P (callFunc 31 #[t12, t13]) w fun t14 w =>
  SN P (callFunc 94 #[(str [97]), (str [120])]) w fun t15 w =>
  SN P (callFunc 94 #[(str [97]), (str [121])]) w fun t16 w =>
  SN P (callFunc 31 #[t15, t16]) w fun t17 w =>
  SV P (Builtin.len_ #[52] 3 #[t8]) w fun t19 w =>
  SV P (eqS .eql 3 (.tmp 19) (.const (Value.int .i64 1)) t19 (Value.int .i64 1)) w fun t20 w =>
  GD t20 true
  (SV P (Instr.indexAt 52 t8 (Value.int .i64 0)) w fun t23 w =>
  SV P (Instr.fieldAt 55 t23 0) w fun t24 w =>
  SV P (Instr.loadAt 9 t24) w fun t25 w =>
  SV P (eqS .eql 9 (.tmp 25) (.const (str [109, 101, 116, 97])) t25 (str [109, 101, 116, 97])) w fun t26 w =>
  GD t26 true
  (SV P (Builtin.len_ #[57] 3 #[t11]) w fun t30 w =>
  SV P (eqS .eql 3 (.tmp 30) (.const (Value.int .i64 1)) t30 (Value.int .i64 1)) w fun t31 w =>
  GD t31 true
  (SV P (Instr.indexAt 57 t11 (Value.int .i64 0)) w fun t35 w =>
  SV P (Instr.fieldAt 150 t35 0) w fun t36 w =>
  SV P (Instr.loadAt 3 t36) w fun t37 w =>
  SV P (eqS .eql 3 (.tmp 37) (.const (Value.int .i64 2)) t37 (Value.int .i64 2)) w fun t38 w =>
  GD t38 true
  (SV P (Instr.indexAt 57 t11 (Value.int .i64 0)) w fun t42 w =>
  SV P (Instr.fieldAt 150 t42 2) w fun t43 w =>
  SV P (Instr.loadAt 9 t43) w fun t44 w =>
  SV P (eqS .eql 9 (.tmp 44) (.const (str [121])) t44 (str [121])) w fun t45 w =>
  GD t45 true
  (SV P (Builtin.len_ #[57] 3 #[t14]) w fun t49 w =>
  SV P (eqS .eql 3 (.tmp 49) (.const (Value.int .i64 1)) t49 (Value.int .i64 1)) w fun t50 w =>
  GD t50 true
  (SV P (Instr.indexAt 57 t14 (Value.int .i64 0)) w fun t54 w =>
  SV P (Instr.fieldAt 150 t54 0) w fun t55 w =>
  SV P (Instr.loadAt 3 t55) w fun t56 w =>
  SV P (eqS .eql 3 (.tmp 56) (.const (Value.int .i64 3)) t56 (Value.int .i64 3)) w fun t57 w =>
  GD t57 true
  (SV P (Instr.indexAt 57 t14 (Value.int .i64 0)) w fun t61 w =>
  SV P (Instr.fieldAt 150 t61 3) w fun t62 w =>
  SV P (Instr.loadAt 3 t62) w fun t63 w =>
  SV P (eqS .eql 3 (.tmp 63) (.const (Value.int .i64 1)) t63 (Value.int .i64 1)) w fun t64 w =>
  GD t64 true
  (SV P (Builtin.len_ #[57] 3 #[t17]) w fun t68 w =>
  SV P (eqS .eql 3 (.tmp 68) (.const (Value.int .i64 1)) t68 (Value.int .i64 1)) w fun t69 w =>
  GD t69 true
  (SV P (Instr.indexAt 57 t17 (Value.int .i64 0)) w fun t73 w =>
  SV P (Instr.fieldAt 150 t73 0) w fun t74 w =>
  SV P (Instr.loadAt 3 t74) w fun t75 w =>
  SV P (eqS .eql 3 (.tmp 75) (.const (Value.int .i64 5)) t75 (Value.int .i64 5)) w fun t76 w =>
  GD t76 true
  (SV P (Instr.indexAt 57 t17 (Value.int .i64 0)) w fun t80 w =>
  SV P (Instr.fieldAt 150 t80 2) w fun t81 w =>
  SV P (Instr.loadAt 9 t81) w fun t82 w =>
  SV P (eqS .eql 9 (.tmp 82) (.const (str [121])) t82 (str [121])) w fun t83 w =>
  k t83 w)
  (k (Value.bool false) w))
  (k (Value.bool false) w))
  (k (Value.bool false) w))
  (k (Value.bool false) w))
  (k (Value.bool false) w))
  (k (Value.bool false) w))
  (k (Value.bool false) w))
  (k (Value.bool false) w))
  (k (Value.bool false) w))
  (k (Value.bool false) w)

theorem e28 (k : Value → World → Prop) (w : World) : s28 Tryz.prog k  w = vcF Tryz.prog Tryz.f28 [] [] k w := by kernel_rfl
theorem c28 {k : Value → World → Prop} {w : World} (h : s28 Tryz.prog k  w) : Calls Tryz.prog 28 #[] w (retP k) :=
  calls_of_vcF [] mixedXLaw21 Tryz.func28 (by kernel_rfl) (Eq.mp (e28 k  w) h)
theorem n28 {args : Array Value} {w : World} {k : Value → World → Prop} (h : Calls Tryz.prog 28 args w (retP k)) : SN Tryz.prog (callFunc 28 args) w k := sn_call Tryz.func28 (by kernel_rfl) (by kernel_rfl) h

/-! ### 29: scrinium/scriniumlaw21.files -/

def s29_j1 (P : Program) (_ : Value → World → Prop) (a0_l : Value) (out3 : Value) (i4 : Value) (j : List Value → World → Prop) (name5_1 : Value) (w : World) : Prop :=
  SV P (Instr.indexAt 52 a0_l i4) w fun t33 w =>
  SV P (Instr.fieldAt 55 t33 0) w fun t34 w =>
  SV P (Instr.loadAt 9 t34) w fun t35 w =>
  SV P (Builtin.len_ #[9] 3 #[t35]) w fun t36 w =>
  SV P (binOp .rem 3 t36 (Value.int .i64 5)) w fun t37 w =>
  SV P (eqS .eql 3 (.tmp 37) (.const (Value.int .i64 4)) t37 (Value.int .i64 4)) w fun t38 w =>
  CN t38
  (j [name5_1, out3] w)
  (SV P (Instr.indexAt 52 a0_l i4) w fun t43 w =>
  SV P (Instr.fieldAt 55 t43 1) w fun t44 w =>
  SV P (Instr.loadAt 9 t44) w fun t45 w =>
  SN P (callFunc 95 #[t45, (Value.int .i64 40)]) w fun t46 w =>
  SV P (Instr.build 55 #[(0, name5_1), (1, t46)]) w fun t47 w =>
  SV P (Instr.buildSlice 52 1 #[(0, t47)]) w fun t48 w =>
  SV P (Builtin.append_ #[52, 52] 52 #[out3, t48]) w fun t49 w =>
  j [name5_1, t49] w)

def s29_j2 (P : Program) (_ : Value → World → Prop) (i4 : Value) (next : List Value → World → Prop) (name5_1 : Value) (out3_1 : Value) (w : World) : Prop :=
  SV P (binOp .add 3 i4 (Value.int .i64 1)) w fun t15 w =>
  next [name5_1, out3_1, t15] w

def s29_l1 (P : Program) (k : Value → World → Prop) (a0_l : Value) (out3 : Value) (i4 : Value) (next : List Value → World → Prop) (w : World) : Prop :=
  SV P (Builtin.len_ #[52] 3 #[a0_l]) w fun t8 w =>
  SV P (binOp .lss 3 i4 t8) w fun t9 w =>
  GD t9 true
  (SV P (binOp .lss 3 i4 (Value.int .i64 8)) w fun t12 w =>
  CN t12
  (JP 2 (fun j =>
  SV P (binOp .add 3 (Value.int .i64 97) i4) w fun t17 w =>
  SV P (convert 3 5 t17) w fun t18 w =>
  SV P (Instr.buildSlice 151 1 #[(0, t18)]) w fun t19 w =>
  SV P (convert 151 9 t19) w fun t20 w =>
  JP 1 (fun j_1 =>
  SV P (Instr.indexAt 52 a0_l i4) w fun t23 w =>
  SV P (Instr.fieldAt 55 t23 0) w fun t24 w =>
  SV P (Instr.loadAt 9 t24) w fun t25 w =>
  SV P (Builtin.len_ #[9] 3 #[t25]) w fun t26 w =>
  SV P (binOp .rem 3 t26 (Value.int .i64 2)) w fun t27 w =>
  SV P (eqS .eql 3 (.tmp 27) (.const (Value.int .i64 1)) t27 (Value.int .i64 1)) w fun t28 w =>
  CN t28
  (SV P (binOp .add 9 t20 (str [49])) w fun t30 w =>
  j_1 [t30] w)
  (j_1 [t20] w))
  (fun _ us w => s29_j1 P k a0_l out3 i4 j (us.getD 0 undef) w))
  (fun _ us w => s29_j2 P k i4 next (us.getD 0 undef) (us.getD 1 undef) w))
  (k out3 w))
  (k out3 w)

def s29 (P : Program) (k : Value → World → Prop) (a0_l : Value) (w : World) : Prop :=
  LP 3 [undef, (Value.slice none 0 0), (Value.int .i64 0)] w (fun next _ us w => s29_l1 P k a0_l (us.getD 1 undef) (us.getD 2 undef) next w)

theorem e29 (k : Value → World → Prop) (a0_l : Value) (w : World) : s29 Tryz.prog k a0_l w = vcF Tryz.prog Tryz.f29 [3, 4, 5] [a0_l] k w := by kernel_rfl
theorem c29 {k : Value → World → Prop} {a0_l : Value} {w : World} (h : s29 Tryz.prog k a0_l w) : Calls Tryz.prog 29 #[a0_l] w (retP k) :=
  calls_of_vcF [3, 4, 5] mixedXLaw21 Tryz.func29 (by kernel_rfl) (Eq.mp (e29 k a0_l w) h)
theorem n29 {args : Array Value} {w : World} {k : Value → World → Prop} (h : Calls Tryz.prog 29 args w (retP k)) : SN Tryz.prog (callFunc 29 args) w k := sn_call Tryz.func29 (by kernel_rfl) (by kernel_rfl) h

/-! ### 94: scrinium/scriniumlaw21.one -/

def s94 (P : Program) (k : Value → World → Prop) (a0_name : Value) (a1_data : Value) (w : World) : Prop :=
  SV P (Instr.build 55 #[(0, a0_name), (1, a1_data)]) w fun t7 w =>
  SV P (Instr.buildSlice 52 1 #[(0, t7)]) w fun t8 w =>
  k t8 w

theorem e94 (k : Value → World → Prop) (a0_name a1_data : Value) (w : World) : s94 Tryz.prog k a0_name a1_data w = vcF Tryz.prog Tryz.f94 [] [a0_name, a1_data] k w := by kernel_rfl
theorem c94 {k : Value → World → Prop} {a0_name a1_data : Value} {w : World} (h : s94 Tryz.prog k a0_name a1_data w) : Calls Tryz.prog 94 #[a0_name, a1_data] w (retP k) :=
  calls_of_vcF [] mixedXLaw21 Tryz.func94 (by kernel_rfl) (Eq.mp (e94 k a0_name a1_data w) h)
theorem n94 {args : Array Value} {w : World} {k : Value → World → Prop} (h : Calls Tryz.prog 94 args w (retP k)) : SN Tryz.prog (callFunc 94 args) w k := sn_call Tryz.func94 (by kernel_rfl) (by kernel_rfl) h

/-! ### 95: scrinium/scriniumlaw21.short -/

def s95 (P : Program) (k : Value → World → Prop) (a0_s : Value) (a1_n : Value) (w : World) : Prop :=
  SV P (Builtin.len_ #[9] 3 #[a0_s]) w fun t6 w =>
  SV P (binOp .gtr 3 t6 a1_n) w fun t8 w =>
  CN t8
  (SV P (Instr.sliceAt 9 a0_s none (some a1_n) none) w fun t11 w =>
  k t11 w)
  (k a0_s w)

theorem e95 (k : Value → World → Prop) (a0_s a1_n : Value) (w : World) : s95 Tryz.prog k a0_s a1_n w = vcF Tryz.prog Tryz.f95 [] [a0_s, a1_n] k w := by kernel_rfl
theorem c95 {k : Value → World → Prop} {a0_s a1_n : Value} {w : World} (h : s95 Tryz.prog k a0_s a1_n w) : Calls Tryz.prog 95 #[a0_s, a1_n] w (retP k) :=
  calls_of_vcF [] mixedXLaw21 Tryz.func95 (by kernel_rfl) (Eq.mp (e95 k a0_s a1_n w) h)
theorem n95 {args : Array Value} {w : World} {k : Value → World → Prop} (h : Calls Tryz.prog 95 args w (retP k)) : SN Tryz.prog (callFunc 95 args) w k := sn_call Tryz.func95 (by kernel_rfl) (by kernel_rfl) h

end Go.Proofs.YtkdghnbogkbedaaGreatDoor

namespace Go.Sh
open Go Go.RowKit
/-- The bytes of a vault without shards. -/
def meta0 (width term : Int) (key : List UInt8) (clock : Int) : List UInt8 :=
  [83, 67, 77] ++ numB width ++ numB term ++ textN (hmac key [110, 97, 109, 101]).l ++ numB clock ++ putN 0
def metaN : List UInt8 := [109, 101, 116, 97]
end Go.Sh
namespace Go.Proofs.YtkdghnbogkbedaaGreatDoor
open Go Go.Sh Go.RowKit
set_option maxRecDepth 100000
set_option maxHeartbeats 1000000
set_option linter.unusedSimpArgs false
set_option linter.unusedVariables false

theorem image_put (n : Int) (h0 : 0 ≤ n) (h1 : n ≤ 9223372036854775807) (w0 : World) : Ret Tryz.prog 236 #[.int .i64 n] w0 (str (numB n)) := by
  refine c236 ?_
  unfold s236
  refine SV_pu (pu_idw h0 h1) ?_
  exact n218 ((oct_put _ (by omega) w0).use fun w h => ⟨rfl, h⟩)

theorem mac_name {g : Nat} {k : List UInt8} {w0 : World} (hK : KeysAt w0) (h1s : 1 < w0.heap.size) (hm : MacAt w0 g 289 282 k) : Ret Tryz.prog 238 #[.pointer (some ⟨g, 0, none⟩)] w0 (hmac k [110, 97, 109, 101]).v := by
  refine c238 ?_
  unfold s238
  refine SV_alloc fun g1 w1 hg1 b1 h1 => ?_
  refine SV_str1 fun v w2 h2 hr => ?_
  have z1 := h1.size
  have z2 := h2.size
  have hc := h1.trans h2
  refine n268 ((mac_sum (parts := [[110, 97, 109, 101]]) (hK.no hc) (by omega) (hm.no hc) hr (by simp)).use fun w3 h3 => ?_)
  refine SU_storeB ((b1.no h2).no h3) (Sum.len _) Sum.zero.len (Sum.ones _) fun w9 b9 h9 => ?_
  refine CR_N b9 (Sum.len _) ?_
  exact ⟨by simp; rfl, (hc.trans h3).own h9 (by omega)⟩

theorem sort1_ins {v c : Value} {f : File} {w0 : World} (h : Mem w0 [own eFile v [f]]) : Calls Tryz.prog 274 #[v, .int .i64 0, .int .i64 1, c] w0 (retP fun _ w' => St w0 [own eFile v [f]] w' [own eFile v [f]]) := by
  have m := St.start h
  refine c274 ?_
  unfold s274
  (repeat (first | refine Sh.sv m ?_ | refine Sh.hv ?_ | (refine Sh.sw m ?_; clear m; intro g_ w m) | (refine Sh.su m ?_; clear m; intro w m) | (refine Sh.suN m ?_; clear m; intro w m) | (refine Sh.hr m ?_; clear m; intro m) | refine Sh.rsS m ?_ | refine Sh.hd m ?_ | refine Sh.rsK [] m ?_ | refine CN_tt ?_ | refine CN_ff ?_ | refine GD_tt ?_ | refine GD_ff ?_ | refine GD_tf ?_ | refine GD_ft ?_ | refine CN_true (by first | omega | (simp; done) | (simp; omega)) ?_ | refine CN_false (by first | omega | (simp; done) | (simp; omega)) ?_ | refine GD_true (by first | omega | (simp; done) | (simp; omega)) ?_ | refine GD_true' (by first | omega | (simp; done) | (simp; omega)) ?_ | refine GD_false (by first | omega | (simp; done) | (simp; omega)) ?_ | refine GD_false' (by first | omega | (simp; done) | (simp; omega)) ?_ | refine Sh.crN m ?_ | refine Sh.cr1 m ?_ | refine Sh.svI m (by first | omega | decide) (by first | omega | (simp; done) | (simp; omega)) fun q_ _ hp_ => ?_ | refine Sh.hvI m (by first | omega | decide) (by first | omega | (simp; done) | (simp; omega)) fun q_ _ hp_ => ?_ | refine Sh.svF m fun q_ _ hp_ => ?_ | refine Sh.hvF m fun q_ _ hp_ => ?_))
  refine LP_intro (fun us w => ∃ u, us = [u, .int .i64 1] ∧ St w0 [own eFile v [f]] w [own eFile v [f]]) (fun _ _ => 0) ⟨undef, rfl, m⟩ ?_
  clear m
  rintro us hus ζ w ⟨u, rfl, m⟩
  unfold s274_l2
  simp only [List.getD_cons_zero, List.getD_cons_succ]
  (repeat (first | refine Sh.sv m ?_ | refine Sh.hv ?_ | (refine Sh.sw m ?_; clear m; intro g_ w m) | (refine Sh.su m ?_; clear m; intro w m) | (refine Sh.suN m ?_; clear m; intro w m) | (refine Sh.hr m ?_; clear m; intro m) | refine Sh.rsS m ?_ | refine Sh.hd m ?_ | refine Sh.rsK [] m ?_ | refine CN_tt ?_ | refine CN_ff ?_ | refine GD_tt ?_ | refine GD_ff ?_ | refine GD_tf ?_ | refine GD_ft ?_ | refine CN_true (by first | omega | (simp; done) | (simp; omega)) ?_ | refine CN_false (by first | omega | (simp; done) | (simp; omega)) ?_ | refine GD_true (by first | omega | (simp; done) | (simp; omega)) ?_ | refine GD_true' (by first | omega | (simp; done) | (simp; omega)) ?_ | refine GD_false (by first | omega | (simp; done) | (simp; omega)) ?_ | refine GD_false' (by first | omega | (simp; done) | (simp; omega)) ?_ | refine Sh.crN m ?_ | refine Sh.cr1 m ?_ | refine Sh.svI m (by first | omega | decide) (by first | omega | (simp; done) | (simp; omega)) fun q_ _ hp_ => ?_ | refine Sh.hvI m (by first | omega | decide) (by first | omega | (simp; done) | (simp; omega)) fun q_ _ hp_ => ?_ | refine Sh.svF m fun q_ _ hp_ => ?_ | refine Sh.hvF m fun q_ _ hp_ => ?_))
  exact m
theorem sort1_pdq {v c : Value} {f : File} {n : Int} {w0 : World} (h : Mem w0 [own eFile v [f]]) : Calls Tryz.prog 244 #[v, .int .i64 0, .int .i64 1, .int .i64 n, c] w0 (retP fun _ w' => St w0 [own eFile v [f]] w' [own eFile v [f]]) := by
  have m := St.start h
  refine c244 ?_
  unfold s244
  refine LP_intro (fun us w => us = [.int .i64 n, undef, undef, .bool true, .int .i64 0, .bool true, .int .i64 1] ∧ St w0 [own eFile v [f]] w [own eFile v [f]]) (fun _ _ => 0) ⟨rfl, m⟩ ?_
  clear m
  rintro us hus ζ w ⟨rfl, m⟩
  unfold s244_l1
  simp only [List.getD_cons_zero, List.getD_cons_succ]
  (repeat (first | refine Sh.sv m ?_ | refine Sh.hv ?_ | (refine Sh.sw m ?_; clear m; intro g_ w m) | (refine Sh.su m ?_; clear m; intro w m) | (refine Sh.suN m ?_; clear m; intro w m) | (refine Sh.hr m ?_; clear m; intro m) | refine Sh.rsS m ?_ | refine Sh.hd m ?_ | refine Sh.rsK [] m ?_ | refine CN_tt ?_ | refine CN_ff ?_ | refine GD_tt ?_ | refine GD_ff ?_ | refine GD_tf ?_ | refine GD_ft ?_ | refine CN_true (by first | omega | (simp; done) | (simp; omega)) ?_ | refine CN_false (by first | omega | (simp; done) | (simp; omega)) ?_ | refine GD_true (by first | omega | (simp; done) | (simp; omega)) ?_ | refine GD_true' (by first | omega | (simp; done) | (simp; omega)) ?_ | refine GD_false (by first | omega | (simp; done) | (simp; omega)) ?_ | refine GD_false' (by first | omega | (simp; done) | (simp; omega)) ?_ | refine Sh.crN m ?_ | refine Sh.cr1 m ?_ | refine Sh.svI m (by first | omega | decide) (by first | omega | (simp; done) | (simp; omega)) fun q_ _ hp_ => ?_ | refine Sh.hvI m (by first | omega | decide) (by first | omega | (simp; done) | (simp; omega)) fun q_ _ hp_ => ?_ | refine Sh.svF m fun q_ _ hp_ => ?_ | refine Sh.hvF m fun q_ _ hp_ => ?_))
  refine n274 (m.call (sort1_ins (m.get (by repeat (first | exact Frm.nil | (with_reducible exact Rem.dup) | (with_reducible exact Rem.here) | apply Frm.cons | apply Rem.there)))) ?_); rintro r_ w m1
  exact m.fr (by repeat (first | exact Frm.nil | (with_reducible exact Rem.here) | apply Frm.cons | apply Rem.there)) m1
theorem sort1 {v c : Value} {f : File} {w0 : World} (h : Mem w0 [own eFile v [f]]) : Calls Tryz.prog 167 #[v, c] w0 (retP fun _ w' => St w0 [own eFile v [f]] w' [own eFile v [f]]) := by
  have m := St.start h
  refine c167 ?_
  unfold s167
  (repeat (first | refine Sh.sv m ?_ | refine Sh.hv ?_ | (refine Sh.sw m ?_; clear m; intro g_ w m) | (refine Sh.su m ?_; clear m; intro w m) | (refine Sh.suN m ?_; clear m; intro w m) | (refine Sh.hr m ?_; clear m; intro m) | refine Sh.rsS m ?_ | refine Sh.hd m ?_ | refine Sh.rsK [] m ?_ | refine CN_tt ?_ | refine CN_ff ?_ | refine GD_tt ?_ | refine GD_ff ?_ | refine GD_tf ?_ | refine GD_ft ?_ | refine CN_true (by first | omega | (simp; done) | (simp; omega)) ?_ | refine CN_false (by first | omega | (simp; done) | (simp; omega)) ?_ | refine GD_true (by first | omega | (simp; done) | (simp; omega)) ?_ | refine GD_true' (by first | omega | (simp; done) | (simp; omega)) ?_ | refine GD_false (by first | omega | (simp; done) | (simp; omega)) ?_ | refine GD_false' (by first | omega | (simp; done) | (simp; omega)) ?_ | refine Sh.crN m ?_ | refine Sh.cr1 m ?_ | refine Sh.svI m (by first | omega | decide) (by first | omega | (simp; done) | (simp; omega)) fun q_ _ hp_ => ?_ | refine Sh.hvI m (by first | omega | decide) (by first | omega | (simp; done) | (simp; omega)) fun q_ _ hp_ => ?_ | refine Sh.svF m fun q_ _ hp_ => ?_ | refine Sh.hvF m fun q_ _ hp_ => ?_))
  refine n245 (m.ret ((Ret.of_same (Tryz.bits_Len 1 _ (by omega) (by omega)))) ?_); clear m; intro w m
  refine n244 (m.call (sort1_pdq (m.get (by repeat (first | exact Frm.nil | (with_reducible exact Rem.dup) | (with_reducible exact Rem.here) | apply Frm.cons | apply Rem.there)))) ?_); rintro r_ w m1
  exact m.fr (by repeat (first | exact Frm.nil | (with_reducible exact Rem.here) | apply Frm.cons | apply Rem.there)) m1

section
variable {x : VaultG} {w0 : World}
theorem image_meta0 (h : Mem w0 [keysF, vaultF x]) (hs : x.shards = []) (hk : x.key.length ≤ 64) (hw : 0 ≤ x.width ∧ x.width ≤ 1125899906842624) (ht : 0 ≤ x.term ∧ x.term ≤ 1125899906842624) (hc : 0 ≤ x.clock ∧ x.clock ≤ 1125899906842624) :
    Calls Tryz.prog 161 #[.pointer (some ⟨x.g, 0, none⟩)] w0 (retP fun v w' => v = str (meta0 x.width x.term x.key x.clock) ∧ St w0 [keysF, vaultF x] w' [keysF, vaultF x]) := by
  have m := St.start h
  refine c161 ?_
  unfold s161
  refine n45 (m.call (vault_shards (m.get (by repeat (first | exact Frm.nil | (with_reducible exact Rem.dup) | (with_reducible exact Rem.here) | apply Frm.cons | apply Rem.there))) (by rw [hs]; simp) (by rw [hs]; simp)) ?_); rintro r_ w ⟨l, hl, m1⟩
  have hl0 : l = [] := by rw [hs] at hl; simpa using hl
  subst hl0
  replace m := m.fr (by repeat (first | exact Frm.nil | (with_reducible exact Rem.dup) | (with_reducible exact Rem.here) | apply Frm.cons | apply Rem.there)) m1; simp only [List.cons_append, List.nil_append] at m
  refine n70 (m.ret (vault_key (m.get (by repeat (first | exact Frm.nil | (with_reducible exact Rem.dup) | (with_reducible exact Rem.here) | apply Frm.cons | apply Rem.there)))) ?_); clear m; intro w m
  refine n237 (m.call (mac_new x.key (by omega) _ m.keys m.one_lt) ?_); rintro r_ w ⟨gm, rfl, _, hmc, hcm⟩
  replace m := m.no hcm
  refine n238 ((mac_name m.keys m.one_lt hmc).use fun w1 h1 => ?_)
  replace m := m.no h1
  (repeat (first | refine Sh.sv m ?_ | refine Sh.hv ?_ | (refine Sh.sw m ?_; clear m; intro g_ w m) | (refine Sh.su m ?_; clear m; intro w m) | (refine Sh.suN m ?_; clear m; intro w m) | (refine Sh.hr m ?_; clear m; intro m) | refine Sh.rsS m ?_ | refine Sh.hd m ?_ | refine Sh.rsK [] m ?_ | refine CN_tt ?_ | refine CN_ff ?_ | refine GD_tt ?_ | refine GD_ff ?_ | refine GD_tf ?_ | refine GD_ft ?_ | refine CN_true (by first | omega | (simp; done) | (simp; omega)) ?_ | refine CN_false (by first | omega | (simp; done) | (simp; omega)) ?_ | refine GD_true (by first | omega | (simp; done) | (simp; omega)) ?_ | refine GD_true' (by first | omega | (simp; done) | (simp; omega)) ?_ | refine GD_false (by first | omega | (simp; done) | (simp; omega)) ?_ | refine GD_false' (by first | omega | (simp; done) | (simp; omega)) ?_ | refine Sh.crN m ?_ | refine Sh.cr1 m ?_ | refine Sh.svI m (by first | omega | decide) (by first | omega | (simp; done) | (simp; omega)) fun q_ _ hp_ => ?_ | refine Sh.hvI m (by first | omega | decide) (by first | omega | (simp; done) | (simp; omega)) fun q_ _ hp_ => ?_ | refine Sh.svF m fun q_ _ hp_ => ?_ | refine Sh.hvF m fun q_ _ hp_ => ?_))
  refine n50 (m.ret (vault_width (m.get (by repeat (first | exact Frm.nil | (with_reducible exact Rem.dup) | (with_reducible exact Rem.here) | apply Frm.cons | apply Rem.there)))) ?_); clear m; intro w m
  (repeat (first | refine Sh.sv m ?_ | refine Sh.hv ?_ | (refine Sh.sw m ?_; clear m; intro g_ w m) | (refine Sh.su m ?_; clear m; intro w m) | (refine Sh.suN m ?_; clear m; intro w m) | (refine Sh.hr m ?_; clear m; intro m) | refine Sh.rsS m ?_ | refine Sh.hd m ?_ | refine Sh.rsK [] m ?_ | refine CN_tt ?_ | refine CN_ff ?_ | refine GD_tt ?_ | refine GD_ff ?_ | refine GD_tf ?_ | refine GD_ft ?_ | refine CN_true (by first | omega | (simp; done) | (simp; omega)) ?_ | refine CN_false (by first | omega | (simp; done) | (simp; omega)) ?_ | refine GD_true (by first | omega | (simp; done) | (simp; omega)) ?_ | refine GD_true' (by first | omega | (simp; done) | (simp; omega)) ?_ | refine GD_false (by first | omega | (simp; done) | (simp; omega)) ?_ | refine GD_false' (by first | omega | (simp; done) | (simp; omega)) ?_ | refine Sh.crN m ?_ | refine Sh.cr1 m ?_ | refine Sh.svI m (by first | omega | decide) (by first | omega | (simp; done) | (simp; omega)) fun q_ _ hp_ => ?_ | refine Sh.hvI m (by first | omega | decide) (by first | omega | (simp; done) | (simp; omega)) fun q_ _ hp_ => ?_ | refine Sh.svF m fun q_ _ hp_ => ?_ | refine Sh.hvF m fun q_ _ hp_ => ?_))
  refine SN_fn (n236 (m.ret (image_put x.width hw.1 (by omega) _) ?_)); clear m; intro w m
  have lw := numB_len hw.2
  have lt := numB_len ht.2
  have lc := numB_len hc.2
  (repeat (first | refine Sh.sv m ?_ | refine Sh.hv ?_ | (refine Sh.sw m ?_; clear m; intro g_ w m) | (refine Sh.su m ?_; clear m; intro w m) | (refine Sh.suN m ?_; clear m; intro w m) | (refine Sh.hr m ?_; clear m; intro m) | refine Sh.rsS m ?_ | refine Sh.hd m ?_ | refine Sh.rsK [] m ?_ | refine CN_tt ?_ | refine CN_ff ?_ | refine GD_tt ?_ | refine GD_ff ?_ | refine GD_tf ?_ | refine GD_ft ?_ | refine CN_true (by first | omega | (simp; done) | (simp; omega)) ?_ | refine CN_false (by first | omega | (simp; done) | (simp; omega)) ?_ | refine GD_true (by first | omega | (simp; done) | (simp; omega)) ?_ | refine GD_true' (by first | omega | (simp; done) | (simp; omega)) ?_ | refine GD_false (by first | omega | (simp; done) | (simp; omega)) ?_ | refine GD_false' (by first | omega | (simp; done) | (simp; omega)) ?_ | refine Sh.crN m ?_ | refine Sh.cr1 m ?_ | refine Sh.svI m (by first | omega | decide) (by first | omega | (simp; done) | (simp; omega)) fun q_ _ hp_ => ?_ | refine Sh.hvI m (by first | omega | decide) (by first | omega | (simp; done) | (simp; omega)) fun q_ _ hp_ => ?_ | refine Sh.svF m fun q_ _ hp_ => ?_ | refine Sh.hvF m fun q_ _ hp_ => ?_))
  refine n51 (m.ret (vault_term (m.get (by repeat (first | exact Frm.nil | (with_reducible exact Rem.dup) | (with_reducible exact Rem.here) | apply Frm.cons | apply Rem.there)))) ?_); clear m; intro w m
  (repeat (first | refine Sh.sv m ?_ | refine Sh.hv ?_ | (refine Sh.sw m ?_; clear m; intro g_ w m) | (refine Sh.su m ?_; clear m; intro w m) | (refine Sh.suN m ?_; clear m; intro w m) | (refine Sh.hr m ?_; clear m; intro m) | refine Sh.rsS m ?_ | refine Sh.hd m ?_ | refine Sh.rsK [] m ?_ | refine CN_tt ?_ | refine CN_ff ?_ | refine GD_tt ?_ | refine GD_ff ?_ | refine GD_tf ?_ | refine GD_ft ?_ | refine CN_true (by first | omega | (simp; done) | (simp; omega)) ?_ | refine CN_false (by first | omega | (simp; done) | (simp; omega)) ?_ | refine GD_true (by first | omega | (simp; done) | (simp; omega)) ?_ | refine GD_true' (by first | omega | (simp; done) | (simp; omega)) ?_ | refine GD_false (by first | omega | (simp; done) | (simp; omega)) ?_ | refine GD_false' (by first | omega | (simp; done) | (simp; omega)) ?_ | refine Sh.crN m ?_ | refine Sh.cr1 m ?_ | refine Sh.svI m (by first | omega | decide) (by first | omega | (simp; done) | (simp; omega)) fun q_ _ hp_ => ?_ | refine Sh.hvI m (by first | omega | decide) (by first | omega | (simp; done) | (simp; omega)) fun q_ _ hp_ => ?_ | refine Sh.svF m fun q_ _ hp_ => ?_ | refine Sh.hvF m fun q_ _ hp_ => ?_))
  refine SN_fn (n236 (m.ret (image_put x.term ht.1 (by omega) _) ?_)); clear m; intro w m
  (repeat (first | refine Sh.sv m ?_ | refine Sh.hv ?_ | (refine Sh.sw m ?_; clear m; intro g_ w m) | (refine Sh.su m ?_; clear m; intro w m) | (refine Sh.suN m ?_; clear m; intro w m) | (refine Sh.hr m ?_; clear m; intro m) | refine Sh.rsS m ?_ | refine Sh.hd m ?_ | refine Sh.rsK [] m ?_ | refine CN_tt ?_ | refine CN_ff ?_ | refine GD_tt ?_ | refine GD_ff ?_ | refine GD_tf ?_ | refine GD_ft ?_ | refine CN_true (by first | omega | (simp; done) | (simp; omega)) ?_ | refine CN_false (by first | omega | (simp; done) | (simp; omega)) ?_ | refine GD_true (by first | omega | (simp; done) | (simp; omega)) ?_ | refine GD_true' (by first | omega | (simp; done) | (simp; omega)) ?_ | refine GD_false (by first | omega | (simp; done) | (simp; omega)) ?_ | refine GD_false' (by first | omega | (simp; done) | (simp; omega)) ?_ | refine Sh.crN m ?_ | refine Sh.cr1 m ?_ | refine Sh.svI m (by first | omega | decide) (by first | omega | (simp; done) | (simp; omega)) fun q_ _ hp_ => ?_ | refine Sh.hvI m (by first | omega | decide) (by first | omega | (simp; done) | (simp; omega)) fun q_ _ hp_ => ?_ | refine Sh.svF m fun q_ _ hp_ => ?_ | refine Sh.hvF m fun q_ _ hp_ => ?_))
  refine n163 (m.ret (sha_bytes (hmac x.key [110, 97, 109, 101]) _) ?_); clear m; intro w m
  (repeat (first | refine Sh.sv m ?_ | refine Sh.hv ?_ | (refine Sh.sw m ?_; clear m; intro g_ w m) | (refine Sh.su m ?_; clear m; intro w m) | (refine Sh.suN m ?_; clear m; intro w m) | (refine Sh.hr m ?_; clear m; intro m) | refine Sh.rsS m ?_ | refine Sh.hd m ?_ | refine Sh.rsK [] m ?_ | refine CN_tt ?_ | refine CN_ff ?_ | refine GD_tt ?_ | refine GD_ff ?_ | refine GD_tf ?_ | refine GD_ft ?_ | refine CN_true (by first | omega | (simp; done) | (simp; omega)) ?_ | refine CN_false (by first | omega | (simp; done) | (simp; omega)) ?_ | refine GD_true (by first | omega | (simp; done) | (simp; omega)) ?_ | refine GD_true' (by first | omega | (simp; done) | (simp; omega)) ?_ | refine GD_false (by first | omega | (simp; done) | (simp; omega)) ?_ | refine GD_false' (by first | omega | (simp; done) | (simp; omega)) ?_ | refine Sh.crN m ?_ | refine Sh.cr1 m ?_ | refine Sh.svI m (by first | omega | decide) (by first | omega | (simp; done) | (simp; omega)) fun q_ _ hp_ => ?_ | refine Sh.hvI m (by first | omega | decide) (by first | omega | (simp; done) | (simp; omega)) fun q_ _ hp_ => ?_ | refine Sh.svF m fun q_ _ hp_ => ?_ | refine Sh.hvF m fun q_ _ hp_ => ?_))
  have lm := (hmac x.key [110, 97, 109, 101]).h
  refine n219 (m.ret (oct_text (hmac x.key [110, 97, 109, 101]).l (by omega) _) ?_); clear m; intro w m
  have lx : (textN (hmac x.key [110, 97, 109, 101]).l).length ≤ 41 := sumB_len _
  (repeat (first | refine Sh.sv m ?_ | refine Sh.hv ?_ | (refine Sh.sw m ?_; clear m; intro g_ w m) | (refine Sh.su m ?_; clear m; intro w m) | (refine Sh.suN m ?_; clear m; intro w m) | (refine Sh.hr m ?_; clear m; intro m) | refine Sh.rsS m ?_ | refine Sh.hd m ?_ | refine Sh.rsK [] m ?_ | refine CN_tt ?_ | refine CN_ff ?_ | refine GD_tt ?_ | refine GD_ff ?_ | refine GD_tf ?_ | refine GD_ft ?_ | refine CN_true (by first | omega | (simp; done) | (simp; omega)) ?_ | refine CN_false (by first | omega | (simp; done) | (simp; omega)) ?_ | refine GD_true (by first | omega | (simp; done) | (simp; omega)) ?_ | refine GD_true' (by first | omega | (simp; done) | (simp; omega)) ?_ | refine GD_false (by first | omega | (simp; done) | (simp; omega)) ?_ | refine GD_false' (by first | omega | (simp; done) | (simp; omega)) ?_ | refine Sh.crN m ?_ | refine Sh.cr1 m ?_ | refine Sh.svI m (by first | omega | decide) (by first | omega | (simp; done) | (simp; omega)) fun q_ _ hp_ => ?_ | refine Sh.hvI m (by first | omega | decide) (by first | omega | (simp; done) | (simp; omega)) fun q_ _ hp_ => ?_ | refine Sh.svF m fun q_ _ hp_ => ?_ | refine Sh.hvF m fun q_ _ hp_ => ?_))
  refine n37 (m.ret (vault_clock (m.get (by repeat (first | exact Frm.nil | (with_reducible exact Rem.dup) | (with_reducible exact Rem.here) | apply Frm.cons | apply Rem.there)))) ?_); clear m; intro w m
  (repeat (first | refine Sh.sv m ?_ | refine Sh.hv ?_ | (refine Sh.sw m ?_; clear m; intro g_ w m) | (refine Sh.su m ?_; clear m; intro w m) | (refine Sh.suN m ?_; clear m; intro w m) | (refine Sh.hr m ?_; clear m; intro m) | refine Sh.rsS m ?_ | refine Sh.hd m ?_ | refine Sh.rsK [] m ?_ | refine CN_tt ?_ | refine CN_ff ?_ | refine GD_tt ?_ | refine GD_ff ?_ | refine GD_tf ?_ | refine GD_ft ?_ | refine CN_true (by first | omega | (simp; done) | (simp; omega)) ?_ | refine CN_false (by first | omega | (simp; done) | (simp; omega)) ?_ | refine GD_true (by first | omega | (simp; done) | (simp; omega)) ?_ | refine GD_true' (by first | omega | (simp; done) | (simp; omega)) ?_ | refine GD_false (by first | omega | (simp; done) | (simp; omega)) ?_ | refine GD_false' (by first | omega | (simp; done) | (simp; omega)) ?_ | refine Sh.crN m ?_ | refine Sh.cr1 m ?_ | refine Sh.svI m (by first | omega | decide) (by first | omega | (simp; done) | (simp; omega)) fun q_ _ hp_ => ?_ | refine Sh.hvI m (by first | omega | decide) (by first | omega | (simp; done) | (simp; omega)) fun q_ _ hp_ => ?_ | refine Sh.svF m fun q_ _ hp_ => ?_ | refine Sh.hvF m fun q_ _ hp_ => ?_))
  refine SN_fn (n236 (m.ret (image_put x.clock hc.1 (by omega) _) ?_)); clear m; intro w m
  (repeat (first | refine Sh.sv m ?_ | refine Sh.hv ?_ | (refine Sh.sw m ?_; clear m; intro g_ w m) | (refine Sh.su m ?_; clear m; intro w m) | (refine Sh.suN m ?_; clear m; intro w m) | (refine Sh.hr m ?_; clear m; intro m) | refine Sh.rsS m ?_ | refine Sh.hd m ?_ | refine Sh.rsK [] m ?_ | refine CN_tt ?_ | refine CN_ff ?_ | refine GD_tt ?_ | refine GD_ff ?_ | refine GD_tf ?_ | refine GD_ft ?_ | refine CN_true (by first | omega | (simp; done) | (simp; omega)) ?_ | refine CN_false (by first | omega | (simp; done) | (simp; omega)) ?_ | refine GD_true (by first | omega | (simp; done) | (simp; omega)) ?_ | refine GD_true' (by first | omega | (simp; done) | (simp; omega)) ?_ | refine GD_false (by first | omega | (simp; done) | (simp; omega)) ?_ | refine GD_false' (by first | omega | (simp; done) | (simp; omega)) ?_ | refine Sh.crN m ?_ | refine Sh.cr1 m ?_ | refine Sh.svI m (by first | omega | decide) (by first | omega | (simp; done) | (simp; omega)) fun q_ _ hp_ => ?_ | refine Sh.hvI m (by first | omega | decide) (by first | omega | (simp; done) | (simp; omega)) fun q_ _ hp_ => ?_ | refine Sh.svF m fun q_ _ hp_ => ?_ | refine Sh.hvF m fun q_ _ hp_ => ?_))
  refine SN_fn (n236 (m.ret (image_put 0 (by omega) (by omega) _) ?_)); clear m; intro w m
  have l0 : (numB 0).length ≤ 9 := numB_len (by omega)
  (repeat (first | refine Sh.sv m ?_ | refine Sh.hv ?_ | (refine Sh.sw m ?_; clear m; intro g_ w m) | (refine Sh.su m ?_; clear m; intro w m) | (refine Sh.suN m ?_; clear m; intro w m) | (refine Sh.hr m ?_; clear m; intro m) | refine Sh.rsS m ?_ | refine Sh.hd m ?_ | refine Sh.rsK [] m ?_ | refine CN_tt ?_ | refine CN_ff ?_ | refine GD_tt ?_ | refine GD_ff ?_ | refine GD_tf ?_ | refine GD_ft ?_ | refine CN_true (by first | omega | (simp; done) | (simp; omega)) ?_ | refine CN_false (by first | omega | (simp; done) | (simp; omega)) ?_ | refine GD_true (by first | omega | (simp; done) | (simp; omega)) ?_ | refine GD_true' (by first | omega | (simp; done) | (simp; omega)) ?_ | refine GD_false (by first | omega | (simp; done) | (simp; omega)) ?_ | refine GD_false' (by first | omega | (simp; done) | (simp; omega)) ?_ | refine Sh.crN m ?_ | refine Sh.cr1 m ?_ | refine Sh.svI m (by first | omega | decide) (by first | omega | (simp; done) | (simp; omega)) fun q_ _ hp_ => ?_ | refine Sh.hvI m (by first | omega | decide) (by first | omega | (simp; done) | (simp; omega)) fun q_ _ hp_ => ?_ | refine Sh.svF m fun q_ _ hp_ => ?_ | refine Sh.hvF m fun q_ _ hp_ => ?_))
  refine LP_intro (fun us w => ∃ u, us = [u, str (meta0 x.width x.term x.key x.clock), .int .i64 0] ∧ St w0 [keysF, vaultF x] w [own eShard r_ [], vaultF x, keysF]) (fun _ _ => 0) (by exact ⟨undef, rfl, m.sub (X := [own eShard r_ (List.map (fun s : ShardG => s.g) []), vaultF x, keysF]) (by repeat (first | exact Frm.nil | (with_reducible exact Rem.here) | apply Frm.cons | apply Rem.there))⟩) ?_
  clear m
  rintro us hus ζ w ⟨u, rfl, m⟩
  unfold s161_l1
  simp only [List.getD_cons_zero, List.getD_cons_succ]
  (repeat (first | refine Sh.sv m ?_ | refine Sh.hv ?_ | (refine Sh.sw m ?_; clear m; intro g_ w m) | (refine Sh.su m ?_; clear m; intro w m) | (refine Sh.suN m ?_; clear m; intro w m) | (refine Sh.hr m ?_; clear m; intro m) | refine Sh.rsS m ?_ | refine Sh.hd m ?_ | refine Sh.rsK [] m ?_ | refine CN_tt ?_ | refine CN_ff ?_ | refine GD_tt ?_ | refine GD_ff ?_ | refine GD_tf ?_ | refine GD_ft ?_ | refine CN_true (by first | omega | (simp; done) | (simp; omega)) ?_ | refine CN_false (by first | omega | (simp; done) | (simp; omega)) ?_ | refine GD_true (by first | omega | (simp; done) | (simp; omega)) ?_ | refine GD_true' (by first | omega | (simp; done) | (simp; omega)) ?_ | refine GD_false (by first | omega | (simp; done) | (simp; omega)) ?_ | refine GD_false' (by first | omega | (simp; done) | (simp; omega)) ?_ | refine Sh.crN m ?_ | refine Sh.cr1 m ?_ | refine Sh.svI m (by first | omega | decide) (by first | omega | (simp; done) | (simp; omega)) fun q_ _ hp_ => ?_ | refine Sh.hvI m (by first | omega | decide) (by first | omega | (simp; done) | (simp; omega)) fun q_ _ hp_ => ?_ | refine Sh.svF m fun q_ _ hp_ => ?_ | refine Sh.hvF m fun q_ _ hp_ => ?_))
  exact ⟨by trivial, m.sub (by repeat (first | exact Frm.nil | (with_reducible exact Rem.dup) | (with_reducible exact Rem.here) | apply Frm.cons | apply Rem.there))⟩

theorem image_files0 (h : Mem w0 [keysF, vaultF x]) (hs : x.shards = []) (hk : x.key.length ≤ 64) (hw : 0 ≤ x.width ∧ x.width ≤ 1125899906842624) (ht : 0 ≤ x.term ∧ x.term ≤ 1125899906842624) (hc : 0 ≤ x.clock ∧ x.clock ≤ 1125899906842624) :
    Calls Tryz.prog 93 #[.pointer (some ⟨x.g, 0, none⟩)] w0 (retP fun v w' => St w0 [keysF, vaultF x] w' [own eFile v [⟨metaN, meta0 x.width x.term x.key x.clock⟩], keysF, vaultF x]) := by
  have m := St.start h
  refine c93 ?_
  unfold s93
  (repeat (first | refine Sh.sv m ?_ | refine Sh.hv ?_ | (refine Sh.sw m ?_; clear m; intro g_ w m) | (refine Sh.su m ?_; clear m; intro w m) | (refine Sh.suN m ?_; clear m; intro w m) | (refine Sh.hr m ?_; clear m; intro m) | refine Sh.rsS m ?_ | refine Sh.hd m ?_ | refine Sh.rsK [] m ?_ | refine CN_tt ?_ | refine CN_ff ?_ | refine GD_tt ?_ | refine GD_ff ?_ | refine GD_tf ?_ | refine GD_ft ?_ | refine CN_true (by first | omega | (simp; done) | (simp; omega)) ?_ | refine CN_false (by first | omega | (simp; done) | (simp; omega)) ?_ | refine GD_true (by first | omega | (simp; done) | (simp; omega)) ?_ | refine GD_true' (by first | omega | (simp; done) | (simp; omega)) ?_ | refine GD_false (by first | omega | (simp; done) | (simp; omega)) ?_ | refine GD_false' (by first | omega | (simp; done) | (simp; omega)) ?_ | refine Sh.crN m ?_ | refine Sh.cr1 m ?_ | refine Sh.svI m (by first | omega | decide) (by first | omega | (simp; done) | (simp; omega)) fun q_ _ hp_ => ?_ | refine Sh.hvI m (by first | omega | decide) (by first | omega | (simp; done) | (simp; omega)) fun q_ _ hp_ => ?_ | refine Sh.svF m fun q_ _ hp_ => ?_ | refine Sh.hvF m fun q_ _ hp_ => ?_))
  refine n161 (m.call (image_meta0 (m.get (by repeat (first | exact Frm.nil | (with_reducible exact Rem.dup) | (with_reducible exact Rem.here) | apply Frm.cons | apply Rem.there))) hs hk hw ht hc) ?_); rintro r_ w ⟨rfl, m1⟩
  replace m := m.fr (by repeat (first | exact Frm.nil | (with_reducible exact Rem.dup) | (with_reducible exact Rem.here) | apply Frm.cons | apply Rem.there)) m1; simp only [List.cons_append, List.nil_append] at m
  (repeat (first | refine Sh.sv m ?_ | refine Sh.hv ?_ | (refine Sh.sw m ?_; clear m; intro g_ w m) | (refine Sh.su m ?_; clear m; intro w m) | (refine Sh.suN m ?_; clear m; intro w m) | (refine Sh.hr m ?_; clear m; intro m) | refine Sh.rsS m ?_ | refine Sh.hd m ?_ | refine Sh.rsK [] m ?_ | refine CN_tt ?_ | refine CN_ff ?_ | refine GD_tt ?_ | refine GD_ff ?_ | refine GD_tf ?_ | refine GD_ft ?_ | refine CN_true (by first | omega | (simp; done) | (simp; omega)) ?_ | refine CN_false (by first | omega | (simp; done) | (simp; omega)) ?_ | refine GD_true (by first | omega | (simp; done) | (simp; omega)) ?_ | refine GD_true' (by first | omega | (simp; done) | (simp; omega)) ?_ | refine GD_false (by first | omega | (simp; done) | (simp; omega)) ?_ | refine GD_false' (by first | omega | (simp; done) | (simp; omega)) ?_ | refine Sh.crN m ?_ | refine Sh.cr1 m ?_ | refine Sh.svI m (by first | omega | decide) (by first | omega | (simp; done) | (simp; omega)) fun q_ _ hp_ => ?_ | refine Sh.hvI m (by first | omega | decide) (by first | omega | (simp; done) | (simp; omega)) fun q_ _ hp_ => ?_ | refine Sh.svF m fun q_ _ hp_ => ?_ | refine Sh.hvF m fun q_ _ hp_ => ?_))
  refine lits eFile [⟨metaN, meta0 x.width x.term x.key x.clock⟩] m [_] rfl rfl rfl (by simp) ?_; clear m; intro v1 w _ m
  refine n45 (m.call (vault_shards (m.get (by repeat (first | exact Frm.nil | (with_reducible exact Rem.dup) | (with_reducible exact Rem.here) | apply Frm.cons | apply Rem.there))) (by rw [hs]; simp) (by rw [hs]; simp)) ?_); rintro r_ w ⟨l, hl, m1⟩
  have hl0 : l = [] := by rw [hs] at hl; simpa using hl
  subst hl0
  replace m := m.fr (by repeat (first | exact Frm.nil | (with_reducible exact Rem.dup) | (with_reducible exact Rem.here) | apply Frm.cons | apply Rem.there)) m1; simp only [List.cons_append, List.nil_append] at m
  (repeat (first | refine Sh.sv m ?_ | refine Sh.hv ?_ | (refine Sh.sw m ?_; clear m; intro g_ w m) | (refine Sh.su m ?_; clear m; intro w m) | (refine Sh.suN m ?_; clear m; intro w m) | (refine Sh.hr m ?_; clear m; intro m) | refine Sh.rsS m ?_ | refine Sh.hd m ?_ | refine Sh.rsK [] m ?_ | refine CN_tt ?_ | refine CN_ff ?_ | refine GD_tt ?_ | refine GD_ff ?_ | refine GD_tf ?_ | refine GD_ft ?_ | refine CN_true (by first | omega | (simp; done) | (simp; omega)) ?_ | refine CN_false (by first | omega | (simp; done) | (simp; omega)) ?_ | refine GD_true (by first | omega | (simp; done) | (simp; omega)) ?_ | refine GD_true' (by first | omega | (simp; done) | (simp; omega)) ?_ | refine GD_false (by first | omega | (simp; done) | (simp; omega)) ?_ | refine GD_false' (by first | omega | (simp; done) | (simp; omega)) ?_ | refine Sh.crN m ?_ | refine Sh.cr1 m ?_ | refine Sh.svI m (by first | omega | decide) (by first | omega | (simp; done) | (simp; omega)) fun q_ _ hp_ => ?_ | refine Sh.hvI m (by first | omega | decide) (by first | omega | (simp; done) | (simp; omega)) fun q_ _ hp_ => ?_ | refine Sh.svF m fun q_ _ hp_ => ?_ | refine Sh.hvF m fun q_ _ hp_ => ?_))
  refine LP_intro (fun us w => ∃ u, us = [u, v1, .int .i64 0] ∧ St w0 [keysF, vaultF x] w [own eFile v1 [⟨metaN, meta0 x.width x.term x.key x.clock⟩], keysF, vaultF x]) (fun _ _ => 0) (by exact ⟨undef, rfl, m.sub (by repeat (first | exact Frm.nil | (with_reducible exact Rem.here) | apply Frm.cons | apply Rem.there))⟩) ?_
  clear m
  rintro us hus ζ w ⟨u, rfl, m⟩
  unfold s93_l2
  simp only [List.getD_cons_zero, List.getD_cons_succ]
  (repeat (first | refine Sh.sv m ?_ | refine Sh.hv ?_ | (refine Sh.sw m ?_; clear m; intro g_ w m) | (refine Sh.su m ?_; clear m; intro w m) | (refine Sh.suN m ?_; clear m; intro w m) | (refine Sh.hr m ?_; clear m; intro m) | refine Sh.rsS m ?_ | refine Sh.hd m ?_ | refine Sh.rsK [] m ?_ | refine CN_tt ?_ | refine CN_ff ?_ | refine GD_tt ?_ | refine GD_ff ?_ | refine GD_tf ?_ | refine GD_ft ?_ | refine CN_true (by first | omega | (simp; done) | (simp; omega)) ?_ | refine CN_false (by first | omega | (simp; done) | (simp; omega)) ?_ | refine GD_true (by first | omega | (simp; done) | (simp; omega)) ?_ | refine GD_true' (by first | omega | (simp; done) | (simp; omega)) ?_ | refine GD_false (by first | omega | (simp; done) | (simp; omega)) ?_ | refine GD_false' (by first | omega | (simp; done) | (simp; omega)) ?_ | refine Sh.crN m ?_ | refine Sh.cr1 m ?_ | refine Sh.svI m (by first | omega | decide) (by first | omega | (simp; done) | (simp; omega)) fun q_ _ hp_ => ?_ | refine Sh.hvI m (by first | omega | decide) (by first | omega | (simp; done) | (simp; omega)) fun q_ _ hp_ => ?_ | refine Sh.svF m fun q_ _ hp_ => ?_ | refine Sh.hvF m fun q_ _ hp_ => ?_))
  refine n167 (m.call (sort1 (m.get (by repeat (first | exact Frm.nil | (with_reducible exact Rem.dup) | (with_reducible exact Rem.here) | apply Frm.cons | apply Rem.there)))) ?_); rintro r_ w m1
  replace m := m.fr (by repeat (first | exact Frm.nil | (with_reducible exact Rem.dup) | (with_reducible exact Rem.here) | apply Frm.cons | apply Rem.there)) m1; simp only [List.cons_append, List.nil_append] at m
  exact m.sub (by repeat (first | exact Frm.nil | (with_reducible exact Rem.here) | apply Frm.cons | apply Rem.there))
end
end Go.Proofs.YtkdghnbogkbedaaGreatDoor

namespace Go.Sh
open Go Go.RowKit
def nameAt (i : Nat) (f : File) : List UInt8 := [UInt8.ofNat (97 + i)] ++ (if f.name.length % 2 = 1 then [49] else [])
def fileAt (i : Nat) (f : File) : List File := if f.name.length % 5 = 4 then [] else [⟨nameAt i f, f.data.take 40⟩]
/-- The lists of files that the laws speak of, from the i-th on. -/
def filesFrom : Nat → List File → List File
  | _, [] => []
  | i, f :: l => if i < 8 then fileAt i f ++ filesFrom (i + 1) l else []
def filesOf (l : List File) : List File := filesFrom 0 l

theorem diff_a : diffOf [⟨[97], [120]⟩] [⟨[97], [120, 121]⟩] = [⟨2, [97], [121], 0⟩] := by simp [diffOf, changeOf, isPre, Op.bytesLess]
theorem diff_b : diffOf [⟨[97], [120, 121]⟩] [⟨[97], [120]⟩] = [⟨3, [97], [], 1⟩] := by simp [diffOf, changeOf, isPre, Op.bytesLess]
theorem diff_c : diffOf [⟨[97], [120]⟩] [⟨[97], [121]⟩] = [⟨5, [97], [121], 0⟩] := by simp [diffOf, changeOf, isPre, Op.bytesLess]
theorem fileAt_len (i : Nat) (f : File) : (fileAt i f).length ≤ 1 := by unfold fileAt; split <;> simp
theorem filesFrom_len : ∀ (l : List File) (i : Nat), (filesFrom i l).length ≤ 8 - i
  | [], i => by simp [filesFrom]
  | f :: l, i => by
    unfold filesFrom
    split
    · have := filesFrom_len l (i + 1)
      have := fileAt_len i f
      rw [List.length_append]; omega
    · simp
end Go.Sh
namespace Go.Proofs.YtkdghnbogkbedaaGreatDoor
open Go Go.Sh Go.RowKit
set_option maxRecDepth 100000
set_option maxHeartbeats 1000000
set_option linter.unusedSimpArgs false
set_option linter.unusedVariables false

theorem law_one (name data : List UInt8) (w0 : World) : Calls Tryz.prog 94 #[str name, str data] w0 (retP fun v w' => IsSl v ∧ St w0 [] w' [sl eFile v [⟨name, data⟩]]) := by
  have m := St.nil w0
  refine c94 ?_
  unfold s94
  (repeat (first | refine Sh.sv m ?_ | refine Sh.hv ?_ | (refine Sh.sw m ?_; clear m; intro g_ w m) | (refine Sh.su m ?_; clear m; intro w m) | (refine Sh.suN m ?_; clear m; intro w m) | (refine Sh.hr m ?_; clear m; intro m) | refine Sh.rsS m ?_ | refine Sh.hd m ?_ | refine Sh.rsK [] m ?_ | refine CN_tt ?_ | refine CN_ff ?_ | refine GD_tt ?_ | refine GD_ff ?_ | refine GD_tf ?_ | refine GD_ft ?_ | refine CN_true (by first | omega | (simp; done) | (simp; omega)) ?_ | refine CN_false (by first | omega | (simp; done) | (simp; omega)) ?_ | refine GD_true (by first | omega | (simp; done) | (simp; omega)) ?_ | refine GD_true' (by first | omega | (simp; done) | (simp; omega)) ?_ | refine GD_false (by first | omega | (simp; done) | (simp; omega)) ?_ | refine GD_false' (by first | omega | (simp; done) | (simp; omega)) ?_ | refine Sh.crN m ?_ | refine Sh.cr1 m ?_ | refine Sh.svI m (by first | omega | decide) (by first | omega | (simp; done) | (simp; omega)) fun q_ _ hp_ => ?_ | refine Sh.hvI m (by first | omega | decide) (by first | omega | (simp; done) | (simp; omega)) fun q_ _ hp_ => ?_ | refine Sh.svF m fun q_ _ hp_ => ?_ | refine Sh.hvF m fun q_ _ hp_ => ?_))
  refine lits eFile [⟨name, data⟩] m [_] rfl rfl rfl (by simp) ?_; clear m; intro v1 w _ m
  exact ⟨m.isl, m.pub v1⟩

theorem law21_awake {w0 : World} (h : Mem w0 [keysF]) : Ret Tryz.prog 28 #[] w0 (.bool true) := by
  have m := St.start h
  refine c28 ?_
  unfold s28
  refine n35 (m.call (vault_new 10 5 [107] _ (by simp) (by omega) (by omega)) ?_); rintro r_ w ⟨x, h1, h2, h3, h4, h5, h6, rfl, m1⟩
  replace m := m.fr Frm.nil m1; simp only [List.cons_append, List.nil_append] at m
  refine n93 (m.call (image_files0 (m.get (by repeat (first | exact Frm.nil | (with_reducible exact Rem.dup) | (with_reducible exact Rem.here) | apply Frm.cons | apply Rem.there))) h5 (by rw [h3]; simp) (by rw [h1]; omega) (by rw [h2]; omega) (by rw [h4]; omega)) ?_); rintro r_ w m1
  have i0 := m1.isl (v := r_)
  replace m := m.fr (by repeat (first | exact Frm.nil | (with_reducible exact Rem.dup) | (with_reducible exact Rem.here) | apply Frm.cons | apply Rem.there)) m1; simp only [List.cons_append, List.nil_append] at m
  refine n94 (m.call (law_one [97] [120] _) ?_); rintro r_ w ⟨ia, m1⟩
  replace m := m.fr Frm.nil m1; simp only [List.cons_append, List.nil_append] at m
  refine n94 (m.call (law_one [97] [120, 121] _) ?_); rintro r_ w ⟨ib, m1⟩
  replace m := m.fr Frm.nil m1; simp only [List.cons_append, List.nil_append] at m
  refine n31 (m.call (image_diff (m.get (by repeat (first | exact Frm.nil | (with_reducible exact Rem.dup) | (with_reducible exact Rem.here) | apply Frm.cons | apply Rem.there))) (by simp) (by simp) (by simp)) ?_); rintro r_ w m1
  rw [diff_a] at m1
  have i1 := m1.isl (v := r_)
  replace m := m.fr (by repeat (first | exact Frm.nil | (with_reducible exact Rem.dup) | (with_reducible exact Rem.here) | apply Frm.cons | apply Rem.there)) m1; simp only [List.cons_append, List.nil_append] at m
  refine n94 (m.call (law_one [97] [120, 121] _) ?_); rintro r_ w ⟨ic, m1⟩
  replace m := m.fr Frm.nil m1; simp only [List.cons_append, List.nil_append] at m
  refine n94 (m.call (law_one [97] [120] _) ?_); rintro r_ w ⟨id, m1⟩
  replace m := m.fr Frm.nil m1; simp only [List.cons_append, List.nil_append] at m
  refine n31 (m.call (image_diff (m.get (by repeat (first | exact Frm.nil | (with_reducible exact Rem.dup) | (with_reducible exact Rem.here) | apply Frm.cons | apply Rem.there))) (by simp) (by simp) (by simp)) ?_); rintro r_ w m1
  rw [diff_b] at m1
  have i2 := m1.isl (v := r_)
  replace m := m.fr (by repeat (first | exact Frm.nil | (with_reducible exact Rem.dup) | (with_reducible exact Rem.here) | apply Frm.cons | apply Rem.there)) m1; simp only [List.cons_append, List.nil_append] at m
  refine n94 (m.call (law_one [97] [120] _) ?_); rintro r_ w ⟨ie, m1⟩
  replace m := m.fr Frm.nil m1; simp only [List.cons_append, List.nil_append] at m
  refine n94 (m.call (law_one [97] [121] _) ?_); rintro r_ w ⟨if_, m1⟩
  replace m := m.fr Frm.nil m1; simp only [List.cons_append, List.nil_append] at m
  refine n31 (m.call (image_diff (m.get (by repeat (first | exact Frm.nil | (with_reducible exact Rem.dup) | (with_reducible exact Rem.here) | apply Frm.cons | apply Rem.there))) (by simp) (by simp) (by simp)) ?_); rintro r_ w m1
  rw [diff_c] at m1
  have i3 := m1.isl (v := r_)
  replace m := m.fr (by repeat (first | exact Frm.nil | (with_reducible exact Rem.dup) | (with_reducible exact Rem.here) | apply Frm.cons | apply Rem.there)) m1; simp only [List.cons_append, List.nil_append] at m
  (repeat (first | refine Sh.sv m ?_ | refine Sh.hv ?_ | (refine Sh.sw m ?_; clear m; intro g_ w m) | (refine Sh.su m ?_; clear m; intro w m) | (refine Sh.suN m ?_; clear m; intro w m) | (refine Sh.hr m ?_; clear m; intro m) | refine Sh.rsS m ?_ | refine Sh.hd m ?_ | refine Sh.rsK [] m ?_ | refine CN_tt ?_ | refine CN_ff ?_ | refine GD_tt ?_ | refine GD_ff ?_ | refine GD_tf ?_ | refine GD_ft ?_ | refine CN_true (by first | omega | (simp; done) | (simp; omega)) ?_ | refine CN_false (by first | omega | (simp; done) | (simp; omega)) ?_ | refine GD_true (by first | omega | (simp; done) | (simp; omega)) ?_ | refine GD_true' (by first | omega | (simp; done) | (simp; omega)) ?_ | refine GD_false (by first | omega | (simp; done) | (simp; omega)) ?_ | refine GD_false' (by first | omega | (simp; done) | (simp; omega)) ?_ | refine Sh.crN m ?_ | refine Sh.cr1 m ?_ | refine Sh.svI m (by first | omega | decide) (by first | omega | (simp; done) | (simp; omega)) fun q_ _ hp_ => ?_ | refine Sh.hvI m (by first | omega | decide) (by first | omega | (simp; done) | (simp; omega)) fun q_ _ hp_ => ?_ | refine Sh.svF m fun q_ _ hp_ => ?_ | refine Sh.hvF m fun q_ _ hp_ => ?_))
  (repeat (simp only [Int.toNat_zero, List.getElem_cons_zero]; (repeat (first | refine Sh.sv m ?_ | refine Sh.hv ?_ | (refine Sh.sw m ?_; clear m; intro g_ w m) | (refine Sh.su m ?_; clear m; intro w m) | (refine Sh.suN m ?_; clear m; intro w m) | (refine Sh.hr m ?_; clear m; intro m) | refine Sh.rsS m ?_ | refine Sh.hd m ?_ | refine Sh.rsK [] m ?_ | refine CN_tt ?_ | refine CN_ff ?_ | refine GD_tt ?_ | refine GD_ff ?_ | refine GD_tf ?_ | refine GD_ft ?_ | refine CN_true (by first | omega | (simp; done) | (simp; omega)) ?_ | refine CN_false (by first | omega | (simp; done) | (simp; omega)) ?_ | refine GD_true (by first | omega | (simp; done) | (simp; omega)) ?_ | refine GD_true' (by first | omega | (simp; done) | (simp; omega)) ?_ | refine GD_false (by first | omega | (simp; done) | (simp; omega)) ?_ | refine GD_false' (by first | omega | (simp; done) | (simp; omega)) ?_ | refine Sh.crN m ?_ | refine Sh.cr1 m ?_ | refine Sh.svI m (by first | omega | decide) (by first | omega | (simp; done) | (simp; omega)) fun q_ _ hp_ => ?_ | refine Sh.hvI m (by first | omega | decide) (by first | omega | (simp; done) | (simp; omega)) fun q_ _ hp_ => ?_ | refine Sh.svF m fun q_ _ hp_ => ?_ | refine Sh.hvF m fun q_ _ hp_ => ?_))))
  exact ⟨by simp, m.ch.mono fun _ _ h => by cases h⟩

theorem law21_short (s : List UInt8) (n : Nat) (w0 : World) : Ret Tryz.prog 95 #[str s, .int .i64 n] w0 (str (s.take n)) := by
  have m := St.nil w0
  refine c95 ?_
  unfold s95
  by_cases h : n < s.length
  · (repeat (first | refine Sh.sv m ?_ | refine Sh.hv ?_ | (refine Sh.sw m ?_; clear m; intro g_ w m) | (refine Sh.su m ?_; clear m; intro w m) | (refine Sh.suN m ?_; clear m; intro w m) | (refine Sh.hr m ?_; clear m; intro m) | refine Sh.rsS m ?_ | refine Sh.hd m ?_ | refine Sh.rsK [] m ?_ | refine CN_tt ?_ | refine CN_ff ?_ | refine GD_tt ?_ | refine GD_ff ?_ | refine GD_tf ?_ | refine GD_ft ?_ | refine CN_true (by first | omega | (simp; done) | (simp; omega)) ?_ | refine CN_false (by first | omega | (simp; done) | (simp; omega)) ?_ | refine GD_true (by first | omega | (simp; done) | (simp; omega)) ?_ | refine GD_true' (by first | omega | (simp; done) | (simp; omega)) ?_ | refine GD_false (by first | omega | (simp; done) | (simp; omega)) ?_ | refine GD_false' (by first | omega | (simp; done) | (simp; omega)) ?_ | refine Sh.crN m ?_ | refine Sh.cr1 m ?_ | refine Sh.svI m (by first | omega | decide) (by first | omega | (simp; done) | (simp; omega)) fun q_ _ hp_ => ?_ | refine Sh.hvI m (by first | omega | decide) (by first | omega | (simp; done) | (simp; omega)) fun q_ _ hp_ => ?_ | refine Sh.svF m fun q_ _ hp_ => ?_ | refine Sh.hvF m fun q_ _ hp_ => ?_))
    exact ⟨by simp, m.chNo⟩
  · (repeat (first | refine Sh.sv m ?_ | refine Sh.hv ?_ | (refine Sh.sw m ?_; clear m; intro g_ w m) | (refine Sh.su m ?_; clear m; intro w m) | (refine Sh.suN m ?_; clear m; intro w m) | (refine Sh.hr m ?_; clear m; intro m) | refine Sh.rsS m ?_ | refine Sh.hd m ?_ | refine Sh.rsK [] m ?_ | refine CN_tt ?_ | refine CN_ff ?_ | refine GD_tt ?_ | refine GD_ff ?_ | refine GD_tf ?_ | refine GD_ft ?_ | refine CN_true (by first | omega | (simp; done) | (simp; omega)) ?_ | refine CN_false (by first | omega | (simp; done) | (simp; omega)) ?_ | refine GD_true (by first | omega | (simp; done) | (simp; omega)) ?_ | refine GD_true' (by first | omega | (simp; done) | (simp; omega)) ?_ | refine GD_false (by first | omega | (simp; done) | (simp; omega)) ?_ | refine GD_false' (by first | omega | (simp; done) | (simp; omega)) ?_ | refine Sh.crN m ?_ | refine Sh.cr1 m ?_ | refine Sh.svI m (by first | omega | decide) (by first | omega | (simp; done) | (simp; omega)) fun q_ _ hp_ => ?_ | refine Sh.hvI m (by first | omega | decide) (by first | omega | (simp; done) | (simp; omega)) fun q_ _ hp_ => ?_ | refine Sh.svF m fun q_ _ hp_ => ?_ | refine Sh.hvF m fun q_ _ hp_ => ?_))
    exact ⟨by rw [List.take_of_length_le (by omega)], m.chNo⟩

theorem law21_files {v : Value} {l : List File} {w0 : World} (h : Mem w0 [sl eFile v l]) (hl : l.length ≤ 9223372036854775807) :
    Calls Tryz.prog 29 #[v] w0 (retP fun r w' => St w0 [sl eFile v l] w' [own eFile r (filesOf l), sl eFile v l]) := by
  have m := St.start h
  refine c29 ?_
  unfold s29
  refine LP_intro (fun us w => ∃ (u r : Value) (i : Nat) (acc : List File), us = [u, r, .int .i64 i] ∧ i ≤ l.length ∧ i ≤ 8 ∧ acc ++ filesFrom i (l.drop i) = filesOf l ∧ St w0 [sl eFile v l] w [own eFile r acc, sl eFile v l])
    (fun us _ => match us with | [_, _, .int _ t] => 8 - t.toNat | _ => 0) ⟨_, _, 0, [], rfl, Nat.zero_le _, by omega, rfl, m.nilOwn eFile⟩ ?_
  clear m
  rintro us hus ζ w ⟨u, r, i, acc, rfl, hi, hi8, hacc, m⟩
  have ir := m.isl (v := r)
  unfold s29_l1
  simp only [List.getD_cons_zero, List.getD_cons_succ]
  by_cases hlt : i < l.length
  · rw [List.drop_eq_getElem_cons hlt] at hacc
    by_cases h8 : i < 8
    · rw [filesFrom, if_pos h8, ← List.append_assoc] at hacc
      have hal : acc.length ≤ 8 := by
        have := congrArg List.length hacc
        have h3 := filesFrom_len l 0
        simp only [List.length_append, filesOf] at this
        omega
      (repeat (first | refine Sh.sv m ?_ | refine Sh.hv ?_ | (refine Sh.sw m ?_; clear m; intro g_ w m) | (refine Sh.su m ?_; clear m; intro w m) | (refine Sh.suN m ?_; clear m; intro w m) | (refine Sh.hr m ?_; clear m; intro m) | refine Sh.rsS m ?_ | refine Sh.hd m ?_ | refine Sh.rsK [] m ?_ | refine CN_tt ?_ | refine CN_ff ?_ | refine GD_tt ?_ | refine GD_ff ?_ | refine GD_tf ?_ | refine GD_ft ?_ | refine CN_true (by first | omega | (simp; done) | (simp; omega)) ?_ | refine CN_false (by first | omega | (simp; done) | (simp; omega)) ?_ | refine GD_true (by first | omega | (simp; done) | (simp; omega)) ?_ | refine GD_true' (by first | omega | (simp; done) | (simp; omega)) ?_ | refine GD_false (by first | omega | (simp; done) | (simp; omega)) ?_ | refine GD_false' (by first | omega | (simp; done) | (simp; omega)) ?_ | refine Sh.crN m ?_ | refine Sh.cr1 m ?_ | refine Sh.svI m (by first | omega | decide) (by first | omega | (simp; done) | (simp; omega)) fun q_ _ hp_ => ?_ | refine Sh.hvI m (by first | omega | decide) (by first | omega | (simp; done) | (simp; omega)) fun q_ _ hp_ => ?_ | refine Sh.svF m fun q_ _ hp_ => ?_ | refine Sh.hvF m fun q_ _ hp_ => ?_))
      refine JP_in ?_
      refine Sh.sv m ?_
      rw [show ((97 : Int) + (i : Int)) = ((97 + i : Nat) : Int) by omega]
      refine SV_pu pu_n8 ?_
      refine SV_byte fun w1 h1 => ?_
      replace m := m.no h1
      refine JP_cut (fun us w => us = [str (nameAt i l[i])] ∧ St w0 [sl eFile v l] w [own eFile r acc, sl eFile v l]) ?_ ?_
      · (repeat (first | refine Sh.sv m ?_ | refine Sh.hv ?_ | (refine Sh.sw m ?_; clear m; intro g_ w m) | (refine Sh.su m ?_; clear m; intro w m) | (refine Sh.suN m ?_; clear m; intro w m) | (refine Sh.hr m ?_; clear m; intro m) | refine Sh.rsS m ?_ | refine Sh.hd m ?_ | refine Sh.rsK [] m ?_ | refine CN_tt ?_ | refine CN_ff ?_ | refine GD_tt ?_ | refine GD_ff ?_ | refine GD_tf ?_ | refine GD_ft ?_ | refine CN_true (by first | omega | (simp; done) | (simp; omega)) ?_ | refine CN_false (by first | omega | (simp; done) | (simp; omega)) ?_ | refine GD_true (by first | omega | (simp; done) | (simp; omega)) ?_ | refine GD_true' (by first | omega | (simp; done) | (simp; omega)) ?_ | refine GD_false (by first | omega | (simp; done) | (simp; omega)) ?_ | refine GD_false' (by first | omega | (simp; done) | (simp; omega)) ?_ | refine Sh.crN m ?_ | refine Sh.cr1 m ?_ | refine Sh.svI m (by first | omega | decide) (by first | omega | (simp; done) | (simp; omega)) fun q_ _ hp_ => ?_ | refine Sh.hvI m (by first | omega | decide) (by first | omega | (simp; done) | (simp; omega)) fun q_ _ hp_ => ?_ | refine Sh.svF m fun q_ _ hp_ => ?_ | refine Sh.hvF m fun q_ _ hp_ => ?_))
        simp only [Int.toNat_natCast]
        refine CN_split (fun h2 => ?_) (fun h2 => ?_)
        · (repeat (first | refine Sh.sv m ?_ | refine Sh.hv ?_ | (refine Sh.sw m ?_; clear m; intro g_ w m) | (refine Sh.su m ?_; clear m; intro w m) | (refine Sh.suN m ?_; clear m; intro w m) | (refine Sh.hr m ?_; clear m; intro m) | refine Sh.rsS m ?_ | refine Sh.hd m ?_ | refine Sh.rsK [] m ?_ | refine CN_tt ?_ | refine CN_ff ?_ | refine GD_tt ?_ | refine GD_ff ?_ | refine GD_tf ?_ | refine GD_ft ?_ | refine CN_true (by first | omega | (simp; done) | (simp; omega)) ?_ | refine CN_false (by first | omega | (simp; done) | (simp; omega)) ?_ | refine GD_true (by first | omega | (simp; done) | (simp; omega)) ?_ | refine GD_true' (by first | omega | (simp; done) | (simp; omega)) ?_ | refine GD_false (by first | omega | (simp; done) | (simp; omega)) ?_ | refine GD_false' (by first | omega | (simp; done) | (simp; omega)) ?_ | refine Sh.crN m ?_ | refine Sh.cr1 m ?_ | refine Sh.svI m (by first | omega | decide) (by first | omega | (simp; done) | (simp; omega)) fun q_ _ hp_ => ?_ | refine Sh.hvI m (by first | omega | decide) (by first | omega | (simp; done) | (simp; omega)) fun q_ _ hp_ => ?_ | refine Sh.svF m fun q_ _ hp_ => ?_ | refine Sh.hvF m fun q_ _ hp_ => ?_))
          exact ⟨by rw [nameAt, if_pos (by omega)], m⟩
        · exact ⟨by rw [nameAt, if_neg (by omega)]; simp, m⟩
      clear m
      rintro us hus ζ w ⟨rfl, m⟩
      unfold s29_j1
      simp only [List.getD_cons_zero, List.getD_cons_succ]
      (repeat (first | refine Sh.sv m ?_ | refine Sh.hv ?_ | (refine Sh.sw m ?_; clear m; intro g_ w m) | (refine Sh.su m ?_; clear m; intro w m) | (refine Sh.suN m ?_; clear m; intro w m) | (refine Sh.hr m ?_; clear m; intro m) | refine Sh.rsS m ?_ | refine Sh.hd m ?_ | refine Sh.rsK [] m ?_ | refine CN_tt ?_ | refine CN_ff ?_ | refine GD_tt ?_ | refine GD_ff ?_ | refine GD_tf ?_ | refine GD_ft ?_ | refine CN_true (by first | omega | (simp; done) | (simp; omega)) ?_ | refine CN_false (by first | omega | (simp; done) | (simp; omega)) ?_ | refine GD_true (by first | omega | (simp; done) | (simp; omega)) ?_ | refine GD_true' (by first | omega | (simp; done) | (simp; omega)) ?_ | refine GD_false (by first | omega | (simp; done) | (simp; omega)) ?_ | refine GD_false' (by first | omega | (simp; done) | (simp; omega)) ?_ | refine Sh.crN m ?_ | refine Sh.cr1 m ?_ | refine Sh.svI m (by first | omega | decide) (by first | omega | (simp; done) | (simp; omega)) fun q_ _ hp_ => ?_ | refine Sh.hvI m (by first | omega | decide) (by first | omega | (simp; done) | (simp; omega)) fun q_ _ hp_ => ?_ | refine Sh.svF m fun q_ _ hp_ => ?_ | refine Sh.hvF m fun q_ _ hp_ => ?_))
      simp only [Int.toNat_natCast]
      refine CN_split (fun h2 => ?_) (fun h2 => ?_)
      · refine ⟨rfl, fun _ => ?_⟩
        unfold s29_j2
        simp only [List.getD_cons_zero, List.getD_cons_succ]
        (repeat (first | refine Sh.sv m ?_ | refine Sh.hv ?_ | (refine Sh.sw m ?_; clear m; intro g_ w m) | (refine Sh.su m ?_; clear m; intro w m) | (refine Sh.suN m ?_; clear m; intro w m) | (refine Sh.hr m ?_; clear m; intro m) | refine Sh.rsS m ?_ | refine Sh.hd m ?_ | refine Sh.rsK [] m ?_ | refine CN_tt ?_ | refine CN_ff ?_ | refine GD_tt ?_ | refine GD_ff ?_ | refine GD_tf ?_ | refine GD_ft ?_ | refine CN_true (by first | omega | (simp; done) | (simp; omega)) ?_ | refine CN_false (by first | omega | (simp; done) | (simp; omega)) ?_ | refine GD_true (by first | omega | (simp; done) | (simp; omega)) ?_ | refine GD_true' (by first | omega | (simp; done) | (simp; omega)) ?_ | refine GD_false (by first | omega | (simp; done) | (simp; omega)) ?_ | refine GD_false' (by first | omega | (simp; done) | (simp; omega)) ?_ | refine Sh.crN m ?_ | refine Sh.cr1 m ?_ | refine Sh.svI m (by first | omega | decide) (by first | omega | (simp; done) | (simp; omega)) fun q_ _ hp_ => ?_ | refine Sh.hvI m (by first | omega | decide) (by first | omega | (simp; done) | (simp; omega)) fun q_ _ hp_ => ?_ | refine Sh.svF m fun q_ _ hp_ => ?_ | refine Sh.hvF m fun q_ _ hp_ => ?_))
        refine ⟨⟨_, r, i + 1, acc, rfl, hlt, h8, ?_, m⟩, ?_⟩
        · rw [← hacc, fileAt, if_pos (by omega), List.append_nil]
        · show 8 - ((i : Int) + 1).toNat < 8 - (i : Int).toNat
          omega
      · (repeat (first | refine Sh.sv m ?_ | refine Sh.hv ?_ | (refine Sh.sw m ?_; clear m; intro g_ w m) | (refine Sh.su m ?_; clear m; intro w m) | (refine Sh.suN m ?_; clear m; intro w m) | (refine Sh.hr m ?_; clear m; intro m) | refine Sh.rsS m ?_ | refine Sh.hd m ?_ | refine Sh.rsK [] m ?_ | refine CN_tt ?_ | refine CN_ff ?_ | refine GD_tt ?_ | refine GD_ff ?_ | refine GD_tf ?_ | refine GD_ft ?_ | refine CN_true (by first | omega | (simp; done) | (simp; omega)) ?_ | refine CN_false (by first | omega | (simp; done) | (simp; omega)) ?_ | refine GD_true (by first | omega | (simp; done) | (simp; omega)) ?_ | refine GD_true' (by first | omega | (simp; done) | (simp; omega)) ?_ | refine GD_false (by first | omega | (simp; done) | (simp; omega)) ?_ | refine GD_false' (by first | omega | (simp; done) | (simp; omega)) ?_ | refine Sh.crN m ?_ | refine Sh.cr1 m ?_ | refine Sh.svI m (by first | omega | decide) (by first | omega | (simp; done) | (simp; omega)) fun q_ _ hp_ => ?_ | refine Sh.hvI m (by first | omega | decide) (by first | omega | (simp; done) | (simp; omega)) fun q_ _ hp_ => ?_ | refine Sh.svF m fun q_ _ hp_ => ?_ | refine Sh.hvF m fun q_ _ hp_ => ?_))
        simp only [Int.toNat_natCast]
        refine n95 (m.ret (law21_short l[i].data 40 _) ?_); clear m; intro w m
        (repeat (first | refine Sh.sv m ?_ | refine Sh.hv ?_ | (refine Sh.sw m ?_; clear m; intro g_ w m) | (refine Sh.su m ?_; clear m; intro w m) | (refine Sh.suN m ?_; clear m; intro w m) | (refine Sh.hr m ?_; clear m; intro m) | refine Sh.rsS m ?_ | refine Sh.hd m ?_ | refine Sh.rsK [] m ?_ | refine CN_tt ?_ | refine CN_ff ?_ | refine GD_tt ?_ | refine GD_ff ?_ | refine GD_tf ?_ | refine GD_ft ?_ | refine CN_true (by first | omega | (simp; done) | (simp; omega)) ?_ | refine CN_false (by first | omega | (simp; done) | (simp; omega)) ?_ | refine GD_true (by first | omega | (simp; done) | (simp; omega)) ?_ | refine GD_true' (by first | omega | (simp; done) | (simp; omega)) ?_ | refine GD_false (by first | omega | (simp; done) | (simp; omega)) ?_ | refine GD_false' (by first | omega | (simp; done) | (simp; omega)) ?_ | refine Sh.crN m ?_ | refine Sh.cr1 m ?_ | refine Sh.svI m (by first | omega | decide) (by first | omega | (simp; done) | (simp; omega)) fun q_ _ hp_ => ?_ | refine Sh.hvI m (by first | omega | decide) (by first | omega | (simp; done) | (simp; omega)) fun q_ _ hp_ => ?_ | refine Sh.svF m fun q_ _ hp_ => ?_ | refine Sh.hvF m fun q_ _ hp_ => ?_))
        refine lits eFile [⟨nameAt i l[i], l[i].data.take 40⟩] m [_] rfl rfl rfl (by simp) ?_; clear m; intro v5 w _ m
        refine ap m (by simp; omega) (by simp [maxLen]; omega) ?_; clear m; intro v6 w _ m
        (repeat (first | refine Sh.sv m ?_ | refine Sh.hv ?_ | (refine Sh.sw m ?_; clear m; intro g_ w m) | (refine Sh.su m ?_; clear m; intro w m) | (refine Sh.suN m ?_; clear m; intro w m) | (refine Sh.hr m ?_; clear m; intro m) | refine Sh.rsS m ?_ | refine Sh.hd m ?_ | refine Sh.rsK [] m ?_ | refine CN_tt ?_ | refine CN_ff ?_ | refine GD_tt ?_ | refine GD_ff ?_ | refine GD_tf ?_ | refine GD_ft ?_ | refine CN_true (by first | omega | (simp; done) | (simp; omega)) ?_ | refine CN_false (by first | omega | (simp; done) | (simp; omega)) ?_ | refine GD_true (by first | omega | (simp; done) | (simp; omega)) ?_ | refine GD_true' (by first | omega | (simp; done) | (simp; omega)) ?_ | refine GD_false (by first | omega | (simp; done) | (simp; omega)) ?_ | refine GD_false' (by first | omega | (simp; done) | (simp; omega)) ?_ | refine Sh.crN m ?_ | refine Sh.cr1 m ?_ | refine Sh.svI m (by first | omega | decide) (by first | omega | (simp; done) | (simp; omega)) fun q_ _ hp_ => ?_ | refine Sh.hvI m (by first | omega | decide) (by first | omega | (simp; done) | (simp; omega)) fun q_ _ hp_ => ?_ | refine Sh.svF m fun q_ _ hp_ => ?_ | refine Sh.hvF m fun q_ _ hp_ => ?_))
        refine ⟨rfl, fun _ => ?_⟩
        unfold s29_j2
        simp only [List.getD_cons_zero, List.getD_cons_succ]
        (repeat (first | refine Sh.sv m ?_ | refine Sh.hv ?_ | (refine Sh.sw m ?_; clear m; intro g_ w m) | (refine Sh.su m ?_; clear m; intro w m) | (refine Sh.suN m ?_; clear m; intro w m) | (refine Sh.hr m ?_; clear m; intro m) | refine Sh.rsS m ?_ | refine Sh.hd m ?_ | refine Sh.rsK [] m ?_ | refine CN_tt ?_ | refine CN_ff ?_ | refine GD_tt ?_ | refine GD_ff ?_ | refine GD_tf ?_ | refine GD_ft ?_ | refine CN_true (by first | omega | (simp; done) | (simp; omega)) ?_ | refine CN_false (by first | omega | (simp; done) | (simp; omega)) ?_ | refine GD_true (by first | omega | (simp; done) | (simp; omega)) ?_ | refine GD_true' (by first | omega | (simp; done) | (simp; omega)) ?_ | refine GD_false (by first | omega | (simp; done) | (simp; omega)) ?_ | refine GD_false' (by first | omega | (simp; done) | (simp; omega)) ?_ | refine Sh.crN m ?_ | refine Sh.cr1 m ?_ | refine Sh.svI m (by first | omega | decide) (by first | omega | (simp; done) | (simp; omega)) fun q_ _ hp_ => ?_ | refine Sh.hvI m (by first | omega | decide) (by first | omega | (simp; done) | (simp; omega)) fun q_ _ hp_ => ?_ | refine Sh.svF m fun q_ _ hp_ => ?_ | refine Sh.hvF m fun q_ _ hp_ => ?_))
        refine ⟨⟨_, v6, i + 1, _, rfl, hlt, h8, ?_, m.sub (by repeat (first | exact Frm.nil | (with_reducible exact Rem.dup) | (with_reducible exact Rem.here) | apply Frm.cons | apply Rem.there))⟩, ?_⟩
        · rw [← hacc, fileAt, if_neg (by omega)]
        · show 8 - ((i : Int) + 1).toNat < 8 - (i : Int).toNat
          omega
    · (repeat (first | refine Sh.sv m ?_ | refine Sh.hv ?_ | (refine Sh.sw m ?_; clear m; intro g_ w m) | (refine Sh.su m ?_; clear m; intro w m) | (refine Sh.suN m ?_; clear m; intro w m) | (refine Sh.hr m ?_; clear m; intro m) | refine Sh.rsS m ?_ | refine Sh.hd m ?_ | refine Sh.rsK [] m ?_ | refine CN_tt ?_ | refine CN_ff ?_ | refine GD_tt ?_ | refine GD_ff ?_ | refine GD_tf ?_ | refine GD_ft ?_ | refine CN_true (by first | omega | (simp; done) | (simp; omega)) ?_ | refine CN_false (by first | omega | (simp; done) | (simp; omega)) ?_ | refine GD_true (by first | omega | (simp; done) | (simp; omega)) ?_ | refine GD_true' (by first | omega | (simp; done) | (simp; omega)) ?_ | refine GD_false (by first | omega | (simp; done) | (simp; omega)) ?_ | refine GD_false' (by first | omega | (simp; done) | (simp; omega)) ?_ | refine Sh.crN m ?_ | refine Sh.cr1 m ?_ | refine Sh.svI m (by first | omega | decide) (by first | omega | (simp; done) | (simp; omega)) fun q_ _ hp_ => ?_ | refine Sh.hvI m (by first | omega | decide) (by first | omega | (simp; done) | (simp; omega)) fun q_ _ hp_ => ?_ | refine Sh.svF m fun q_ _ hp_ => ?_ | refine Sh.hvF m fun q_ _ hp_ => ?_))
      rw [filesFrom, if_neg h8, List.append_nil] at hacc
      rw [← hacc]
      exact m.sub (by repeat (first | exact Frm.nil | (with_reducible exact Rem.dup) | (with_reducible exact Rem.here) | apply Frm.cons | apply Rem.there))
  · (repeat (first | refine Sh.sv m ?_ | refine Sh.hv ?_ | (refine Sh.sw m ?_; clear m; intro g_ w m) | (refine Sh.su m ?_; clear m; intro w m) | (refine Sh.suN m ?_; clear m; intro w m) | (refine Sh.hr m ?_; clear m; intro m) | refine Sh.rsS m ?_ | refine Sh.hd m ?_ | refine Sh.rsK [] m ?_ | refine CN_tt ?_ | refine CN_ff ?_ | refine GD_tt ?_ | refine GD_ff ?_ | refine GD_tf ?_ | refine GD_ft ?_ | refine CN_true (by first | omega | (simp; done) | (simp; omega)) ?_ | refine CN_false (by first | omega | (simp; done) | (simp; omega)) ?_ | refine GD_true (by first | omega | (simp; done) | (simp; omega)) ?_ | refine GD_true' (by first | omega | (simp; done) | (simp; omega)) ?_ | refine GD_false (by first | omega | (simp; done) | (simp; omega)) ?_ | refine GD_false' (by first | omega | (simp; done) | (simp; omega)) ?_ | refine Sh.crN m ?_ | refine Sh.cr1 m ?_ | refine Sh.svI m (by first | omega | decide) (by first | omega | (simp; done) | (simp; omega)) fun q_ _ hp_ => ?_ | refine Sh.hvI m (by first | omega | decide) (by first | omega | (simp; done) | (simp; omega)) fun q_ _ hp_ => ?_ | refine Sh.svF m fun q_ _ hp_ => ?_ | refine Sh.hvF m fun q_ _ hp_ => ?_))
    rw [List.drop_eq_nil_of_le (by omega), filesFrom, List.append_nil] at hacc
    rw [← hacc]
    exact m.sub (by repeat (first | exact Frm.nil | (with_reducible exact Rem.dup) | (with_reducible exact Rem.here) | apply Frm.cons | apply Rem.there))
end Go.Proofs.YtkdghnbogkbedaaGreatDoor

namespace Go.Sh
open Go Go.RowKit
theorem filesFrom_data : ∀ (l : List File) (i : Nat), ∀ f ∈ filesFrom i l, f.data.length ≤ 40
  | [], i, f, h => by simp [filesFrom] at h
  | a :: l, i, f, h => by
    unfold filesFrom at h
    split at h
    · rcases List.mem_append.1 h with h | h
      · unfold fileAt at h
        split at h
        · cases h
        · cases List.mem_singleton.1 h; simp; omega
      · exact filesFrom_data l (i + 1) f h
    · cases h
theorem filesFrom_name : ∀ (l : List File) (i : Nat), ∀ f ∈ filesFrom i l, ∃ j r, i ≤ j ∧ j < 8 ∧ f.name = UInt8.ofNat (97 + j) :: r ∧ (r = [] ∨ r = [49])
  | [], i, f, h => by simp [filesFrom] at h
  | a :: l, i, f, h => by
    unfold filesFrom at h
    split at h
    · rename_i h8
      rcases List.mem_append.1 h with h | h
      · unfold fileAt at h
        split at h
        · cases h
        · cases List.mem_singleton.1 h
          refine ⟨i, _, Nat.le_refl _, h8, rfl, ?_⟩
          split
          · exact .inr rfl
          · exact .inl rfl
      · obtain ⟨j, r, h1, h2, h3⟩ := filesFrom_name l (i + 1) f h
        exact ⟨j, r, by omega, h2, h3⟩
    · cases h
theorem blt_head {i j : Nat} (hij : i < j) (hj : j < 8) (x y : List UInt8) : Op.bytesLess (UInt8.ofNat (97 + i) :: x) (UInt8.ofNat (97 + j) :: y) = true := by
  rw [blt_cons]
  left
  rw [UInt8.lt_iff_toNat_lt, UInt8.toNat_ofNat', UInt8.toNat_ofNat']
  omega
theorem filesFrom_rises : ∀ (l : List File) (i : Nat), Rises (filesFrom i l)
  | [], i => by simp [filesFrom, Rises]
  | a :: l, i => by
    unfold filesFrom
    split
    · rename_i h8
      unfold Rises
      rw [List.pairwise_append]
      refine ⟨?_, filesFrom_rises l (i + 1), fun x hx y hy => ?_⟩
      · unfold fileAt; split <;> simp
      · obtain ⟨j, r, h1, h2, h3, _⟩ := filesFrom_name l (i + 1) y hy
        unfold fileAt at hx
        split at hx
        · cases hx
        · cases List.mem_singleton.1 hx
          rw [h3]
          exact blt_head (by omega) h2 _ _
    · simp [Rises]
theorem diffOf_self : ∀ {l : List File}, diffOf l l = []
  | [] => by simp [diffOf]
  | a :: l => by
    rw [diffOf, if_neg (by simp [blt_irr]), if_neg (by simp [blt_irr]), diffOf_self]
    simp [changeOf, isPre]
theorem rises_snoc {l : List File} {a b : File} (h : Rises (l ++ [a])) (hab : Op.bytesLess a.name b.name = true) : Rises (l ++ [a] ++ [b]) := by
  unfold Rises at *
  rw [List.pairwise_append]
  refine ⟨h, by simp, fun x hx y hy => ?_⟩
  cases List.mem_singleton.1 hy
  rcases List.mem_append.1 hx with hx | hx
  · exact blt_trans ((List.pairwise_append.1 h).2.2 x hx a (by simp)) hab
  · cases List.mem_singleton.1 hx; exact hab
end Go.Sh
namespace Go.Proofs.YtkdghnbogkbedaaGreatDoor
open Go Go.Sh Go.RowKit
set_option maxRecDepth 100000
set_option maxHeartbeats 1000000
set_option linter.unusedSimpArgs false
set_option linter.unusedVariables false

theorem law21_diffs {av bv : Value} {a b : List File} {half : Bool} {w0 : World} (h : Mem w0 [keysF, sl eFile av a, sl eFile bv b]) (ha : a.length ≤ 9223372036854775807) (hb : b.length ≤ 9223372036854775807) :
    Ret Tryz.prog 4 #[av, bv, .bool half] w0 (.bool true) := by
  have m := St.start h
  refine c4 ?_
  unfold s4
  refine n28 (m.ret (law21_awake (m.get (by repeat (first | exact Frm.nil | (with_reducible exact Rem.dup) | (with_reducible exact Rem.here) | apply Frm.cons | apply Rem.there)))) ?_); clear m; intro w m
  refine n29 (m.call (law21_files (m.get (by repeat (first | exact Frm.nil | (with_reducible exact Rem.dup) | (with_reducible exact Rem.here) | apply Frm.cons | apply Rem.there))) ha) ?_); rintro lv w m1
  have il := m1.isl (v := lv)
  replace m := m.fr (by repeat (first | exact Frm.nil | (with_reducible exact Rem.dup) | (with_reducible exact Rem.here) | apply Frm.cons | apply Rem.there)) m1; simp only [List.cons_append, List.nil_append] at m
  replace m := m.pub lv
  refine n29 (m.call (law21_files (m.get (by repeat (first | exact Frm.nil | (with_reducible exact Rem.dup) | (with_reducible exact Rem.here) | apply Frm.cons | apply Rem.there))) hb) ?_); rintro mv w m1
  have im := m1.isl (v := mv)
  replace m := m.fr (by repeat (first | exact Frm.nil | (with_reducible exact Rem.dup) | (with_reducible exact Rem.here) | apply Frm.cons | apply Rem.there)) m1; simp only [List.cons_append, List.nil_append] at m
  have la : (filesOf a).length ≤ 8 := filesFrom_len a 0
  have lb : (filesOf b).length ≤ 8 := filesFrom_len b 0
  have da := filesFrom_data a 0
  have db := filesFrom_data b 0
  refine JP_cut (fun us w => ∃ l' : List File, l'.length ≤ 8 ∧ (∀ f ∈ l', f.data.length ≤ 1000) ∧ St w0 [keysF, sl eFile av a, sl eFile bv b] w [own eFile mv l', sl eFile lv (filesOf a), keysF]) ?_ ?_
  · cases half with
    | false =>
      (repeat (first | refine Sh.sv m ?_ | refine Sh.hv ?_ | (refine Sh.sw m ?_; clear m; intro g_ w m) | (refine Sh.su m ?_; clear m; intro w m) | (refine Sh.suN m ?_; clear m; intro w m) | (refine Sh.hr m ?_; clear m; intro m) | refine Sh.rsS m ?_ | refine Sh.hd m ?_ | refine Sh.rsK [] m ?_ | refine CN_tt ?_ | refine CN_ff ?_ | refine GD_tt ?_ | refine GD_ff ?_ | refine GD_tf ?_ | refine GD_ft ?_ | refine CN_true (by first | omega | (simp; done) | (simp; omega)) ?_ | refine CN_false (by first | omega | (simp; done) | (simp; omega)) ?_ | refine GD_true (by first | omega | (simp; done) | (simp; omega)) ?_ | refine GD_true' (by first | omega | (simp; done) | (simp; omega)) ?_ | refine GD_false (by first | omega | (simp; done) | (simp; omega)) ?_ | refine GD_false' (by first | omega | (simp; done) | (simp; omega)) ?_ | refine Sh.crN m ?_ | refine Sh.cr1 m ?_ | refine Sh.svI m (by first | omega | decide) (by first | omega | (simp; done) | (simp; omega)) fun q_ _ hp_ => ?_ | refine Sh.hvI m (by first | omega | decide) (by first | omega | (simp; done) | (simp; omega)) fun q_ _ hp_ => ?_ | refine Sh.svF m fun q_ _ hp_ => ?_ | refine Sh.hvF m fun q_ _ hp_ => ?_))
      exact ⟨filesOf b, lb, fun f hf => Nat.le_trans (db f hf) (by omega), m.sub (by repeat (first | exact Frm.nil | (with_reducible exact Rem.dup) | (with_reducible exact Rem.here) | apply Frm.cons | apply Rem.there))⟩
    | true =>
      (repeat (first | refine Sh.sv m ?_ | refine Sh.hv ?_ | (refine Sh.sw m ?_; clear m; intro g_ w m) | (refine Sh.su m ?_; clear m; intro w m) | (refine Sh.suN m ?_; clear m; intro w m) | (refine Sh.hr m ?_; clear m; intro m) | refine Sh.rsS m ?_ | refine Sh.hd m ?_ | refine Sh.rsK [] m ?_ | refine CN_tt ?_ | refine CN_ff ?_ | refine GD_tt ?_ | refine GD_ff ?_ | refine GD_tf ?_ | refine GD_ft ?_ | refine CN_true (by first | omega | (simp; done) | (simp; omega)) ?_ | refine CN_false (by first | omega | (simp; done) | (simp; omega)) ?_ | refine GD_true (by first | omega | (simp; done) | (simp; omega)) ?_ | refine GD_true' (by first | omega | (simp; done) | (simp; omega)) ?_ | refine GD_false (by first | omega | (simp; done) | (simp; omega)) ?_ | refine GD_false' (by first | omega | (simp; done) | (simp; omega)) ?_ | refine Sh.crN m ?_ | refine Sh.cr1 m ?_ | refine Sh.svI m (by first | omega | decide) (by first | omega | (simp; done) | (simp; omega)) fun q_ _ hp_ => ?_ | refine Sh.hvI m (by first | omega | decide) (by first | omega | (simp; done) | (simp; omega)) fun q_ _ hp_ => ?_ | refine Sh.svF m fun q_ _ hp_ => ?_ | refine Sh.hvF m fun q_ _ hp_ => ?_))
      refine LP_intro (fun us w => ∃ (i : Nat) (l' : List File), us = [.int .i64 i] ∧ i ≤ l'.length ∧ l'.length ≤ 8 ∧ (∀ f ∈ l', f.data.length ≤ 40 + 40 * i) ∧ St w0 [keysF, sl eFile av a, sl eFile bv b] w [own eFile mv l', sl eFile lv (filesOf a), keysF])
        (fun us _ => match us with | [.int _ t] => 8 - t.toNat | _ => 0) (by exact ⟨0, filesOf b, rfl, Nat.zero_le _, lb, db, m.sub (by repeat (first | exact Frm.nil | (with_reducible exact Rem.dup) | (with_reducible exact Rem.here) | apply Frm.cons | apply Rem.there))⟩) ?_
      clear m
      rintro us hus ζ w ⟨i, l', rfl, hi, hl', hd, m⟩
      unfold s4_l1
      simp only [List.getD_cons_zero, List.getD_cons_succ]
      have fin : ∀ f ∈ l', f.data.length ≤ 1000 := fun f hf => Nat.le_trans (hd f hf) (by omega)
      by_cases hlt : i < l'.length
      · by_cases hlt2 : i < (filesOf a).length
        · have go : ∀ (l2 : List File) (w : World), l2.length = l'.length → (∀ f ∈ l2, f.data.length ≤ 40 + 40 * (i + 1)) → St w0 [keysF, sl eFile av a, sl eFile bv b] w [own eFile mv l2, sl eFile lv (filesOf a), keysF] →
              s4_j1 Tryz.prog (fun v w' => v = .bool true ∧ Ch No w0 w') (.int .i64 i) (fun us'' w'' => (∃ (i : Nat) (l' : List File), us'' = [.int .i64 i] ∧ i ≤ l'.length ∧ l'.length ≤ 8 ∧ (∀ f ∈ l', f.data.length ≤ 40 + 40 * i) ∧ St w0 [keysF, sl eFile av a, sl eFile bv b] w'' [own eFile mv l', sl eFile lv (filesOf a), keysF]) ∧
                (match us'' with | [.int _ t] => 8 - t.toNat | _ => 0) < 8 - (i : Int).toNat) w := by
            intro l2 w h1 h2 m
            unfold s4_j1
            (repeat (first | refine Sh.sv m ?_ | refine Sh.hv ?_ | (refine Sh.sw m ?_; clear m; intro g_ w m) | (refine Sh.su m ?_; clear m; intro w m) | (refine Sh.suN m ?_; clear m; intro w m) | (refine Sh.hr m ?_; clear m; intro m) | refine Sh.rsS m ?_ | refine Sh.hd m ?_ | refine Sh.rsK [] m ?_ | refine CN_tt ?_ | refine CN_ff ?_ | refine GD_tt ?_ | refine GD_ff ?_ | refine GD_tf ?_ | refine GD_ft ?_ | refine CN_true (by first | omega | (simp; done) | (simp; omega)) ?_ | refine CN_false (by first | omega | (simp; done) | (simp; omega)) ?_ | refine GD_true (by first | omega | (simp; done) | (simp; omega)) ?_ | refine GD_true' (by first | omega | (simp; done) | (simp; omega)) ?_ | refine GD_false (by first | omega | (simp; done) | (simp; omega)) ?_ | refine GD_false' (by first | omega | (simp; done) | (simp; omega)) ?_ | refine Sh.crN m ?_ | refine Sh.cr1 m ?_ | refine Sh.svI m (by first | omega | decide) (by first | omega | (simp; done) | (simp; omega)) fun q_ _ hp_ => ?_ | refine Sh.hvI m (by first | omega | decide) (by first | omega | (simp; done) | (simp; omega)) fun q_ _ hp_ => ?_ | refine Sh.svF m fun q_ _ hp_ => ?_ | refine Sh.hvF m fun q_ _ hp_ => ?_))
            refine ⟨⟨i + 1, l2, rfl, by omega, by omega, h2, m⟩, ?_⟩
            show 8 - ((i : Int) + 1).toNat < 8 - (i : Int).toNat
            omega
          have hset : ∀ (x : File), x.data.length ≤ 40 + 40 * (i + 1) → ∀ f ∈ l'.set i x, f.data.length ≤ 40 + 40 * (i + 1) := fun x hx f hf => by
            rcases List.mem_or_eq_of_mem_set hf with hf | rfl
            · have := hd f hf; omega
            · exact hx
          have hai := da (filesOf a)[i] (List.getElem_mem hlt2)
          have hbi := hd l'[i] (List.getElem_mem hlt)
          (repeat (first | refine Sh.sv m ?_ | refine Sh.hv ?_ | (refine Sh.sw m ?_; clear m; intro g_ w m) | (refine Sh.su m ?_; clear m; intro w m) | (refine Sh.suN m ?_; clear m; intro w m) | (refine Sh.hr m ?_; clear m; intro m) | refine Sh.rsS m ?_ | refine Sh.hd m ?_ | refine Sh.rsK [] m ?_ | refine CN_tt ?_ | refine CN_ff ?_ | refine GD_tt ?_ | refine GD_ff ?_ | refine GD_tf ?_ | refine GD_ft ?_ | refine CN_true (by first | omega | (simp; done) | (simp; omega)) ?_ | refine CN_false (by first | omega | (simp; done) | (simp; omega)) ?_ | refine GD_true (by first | omega | (simp; done) | (simp; omega)) ?_ | refine GD_true' (by first | omega | (simp; done) | (simp; omega)) ?_ | refine GD_false (by first | omega | (simp; done) | (simp; omega)) ?_ | refine GD_false' (by first | omega | (simp; done) | (simp; omega)) ?_ | refine Sh.crN m ?_ | refine Sh.cr1 m ?_ | refine Sh.svI m (by first | omega | decide) (by first | omega | (simp; done) | (simp; omega)) fun q_ _ hp_ => ?_ | refine Sh.hvI m (by first | omega | decide) (by first | omega | (simp; done) | (simp; omega)) fun q_ _ hp_ => ?_ | refine Sh.svF m fun q_ _ hp_ => ?_ | refine Sh.hvF m fun q_ _ hp_ => ?_))
          refine JP_in ?_
          (repeat (first | refine Sh.sv m ?_ | refine Sh.hv ?_ | (refine Sh.sw m ?_; clear m; intro g_ w m) | (refine Sh.su m ?_; clear m; intro w m) | (refine Sh.suN m ?_; clear m; intro w m) | (refine Sh.hr m ?_; clear m; intro m) | refine Sh.rsS m ?_ | refine Sh.hd m ?_ | refine Sh.rsK [] m ?_ | refine CN_tt ?_ | refine CN_ff ?_ | refine GD_tt ?_ | refine GD_ff ?_ | refine GD_tf ?_ | refine GD_ft ?_ | refine CN_true (by first | omega | (simp; done) | (simp; omega)) ?_ | refine CN_false (by first | omega | (simp; done) | (simp; omega)) ?_ | refine GD_true (by first | omega | (simp; done) | (simp; omega)) ?_ | refine GD_true' (by first | omega | (simp; done) | (simp; omega)) ?_ | refine GD_false (by first | omega | (simp; done) | (simp; omega)) ?_ | refine GD_false' (by first | omega | (simp; done) | (simp; omega)) ?_ | refine Sh.crN m ?_ | refine Sh.cr1 m ?_ | refine Sh.svI m (by first | omega | decide) (by first | omega | (simp; done) | (simp; omega)) fun q_ _ hp_ => ?_ | refine Sh.hvI m (by first | omega | decide) (by first | omega | (simp; done) | (simp; omega)) fun q_ _ hp_ => ?_ | refine Sh.svF m fun q_ _ hp_ => ?_ | refine Sh.hvF m fun q_ _ hp_ => ?_))
          refine CN_split (fun h2 => ?_) (fun h2 => ?_)
          · (repeat (first | refine Sh.sv m ?_ | refine Sh.hv ?_ | (refine Sh.sw m ?_; clear m; intro g_ w m) | (refine Sh.su m ?_; clear m; intro w m) | (refine Sh.suN m ?_; clear m; intro w m) | (refine Sh.hr m ?_; clear m; intro m) | refine Sh.rsS m ?_ | refine Sh.hd m ?_ | refine Sh.rsK [] m ?_ | refine CN_tt ?_ | refine CN_ff ?_ | refine GD_tt ?_ | refine GD_ff ?_ | refine GD_tf ?_ | refine GD_ft ?_ | refine CN_true (by first | omega | (simp; done) | (simp; omega)) ?_ | refine CN_false (by first | omega | (simp; done) | (simp; omega)) ?_ | refine GD_true (by first | omega | (simp; done) | (simp; omega)) ?_ | refine GD_true' (by first | omega | (simp; done) | (simp; omega)) ?_ | refine GD_false (by first | omega | (simp; done) | (simp; omega)) ?_ | refine GD_false' (by first | omega | (simp; done) | (simp; omega)) ?_ | refine Sh.crN m ?_ | refine Sh.cr1 m ?_ | refine Sh.svI m (by first | omega | decide) (by first | omega | (simp; done) | (simp; omega)) fun q_ _ hp_ => ?_ | refine Sh.hvI m (by first | omega | decide) (by first | omega | (simp; done) | (simp; omega)) fun q_ _ hp_ => ?_ | refine Sh.svF m fun q_ _ hp_ => ?_ | refine Sh.hvF m fun q_ _ hp_ => ?_))
            simp only [Int.toNat_natCast]
            refine suON (E := eFile) (i := i) (off := 0) (x' := (filesOf a)[i]) m hlt (by simp) (by decide) (by simp [eFile, File.cells]) ?_
            clear m; intro w m
            exact ⟨rfl, fun _ => go _ _ (by simp) (hset _ (by omega)) m⟩
          · (repeat (first | refine Sh.sv m ?_ | refine Sh.hv ?_ | (refine Sh.sw m ?_; clear m; intro g_ w m) | (refine Sh.su m ?_; clear m; intro w m) | (refine Sh.suN m ?_; clear m; intro w m) | (refine Sh.hr m ?_; clear m; intro m) | refine Sh.rsS m ?_ | refine Sh.hd m ?_ | refine Sh.rsK [] m ?_ | refine CN_tt ?_ | refine CN_ff ?_ | refine GD_tt ?_ | refine GD_ff ?_ | refine GD_tf ?_ | refine GD_ft ?_ | refine CN_true (by first | omega | (simp; done) | (simp; omega)) ?_ | refine CN_false (by first | omega | (simp; done) | (simp; omega)) ?_ | refine GD_true (by first | omega | (simp; done) | (simp; omega)) ?_ | refine GD_true' (by first | omega | (simp; done) | (simp; omega)) ?_ | refine GD_false (by first | omega | (simp; done) | (simp; omega)) ?_ | refine GD_false' (by first | omega | (simp; done) | (simp; omega)) ?_ | refine Sh.crN m ?_ | refine Sh.cr1 m ?_ | refine Sh.svI m (by first | omega | decide) (by first | omega | (simp; done) | (simp; omega)) fun q_ _ hp_ => ?_ | refine Sh.hvI m (by first | omega | decide) (by first | omega | (simp; done) | (simp; omega)) fun q_ _ hp_ => ?_ | refine Sh.svF m fun q_ _ hp_ => ?_ | refine Sh.hvF m fun q_ _ hp_ => ?_))
            simp only [Int.toNat_natCast]
            refine CN_split (fun h3 => ?_) (fun h3 => ?_)
            · (repeat (first | refine Sh.sv m ?_ | refine Sh.hv ?_ | (refine Sh.sw m ?_; clear m; intro g_ w m) | (refine Sh.su m ?_; clear m; intro w m) | (refine Sh.suN m ?_; clear m; intro w m) | (refine Sh.hr m ?_; clear m; intro m) | refine Sh.rsS m ?_ | refine Sh.hd m ?_ | refine Sh.rsK [] m ?_ | refine CN_tt ?_ | refine CN_ff ?_ | refine GD_tt ?_ | refine GD_ff ?_ | refine GD_tf ?_ | refine GD_ft ?_ | refine CN_true (by first | omega | (simp; done) | (simp; omega)) ?_ | refine CN_false (by first | omega | (simp; done) | (simp; omega)) ?_ | refine GD_true (by first | omega | (simp; done) | (simp; omega)) ?_ | refine GD_true' (by first | omega | (simp; done) | (simp; omega)) ?_ | refine GD_false (by first | omega | (simp; done) | (simp; omega)) ?_ | refine GD_false' (by first | omega | (simp; done) | (simp; omega)) ?_ | refine Sh.crN m ?_ | refine Sh.cr1 m ?_ | refine Sh.svI m (by first | omega | decide) (by first | omega | (simp; done) | (simp; omega)) fun q_ _ hp_ => ?_ | refine Sh.hvI m (by first | omega | decide) (by first | omega | (simp; done) | (simp; omega)) fun q_ _ hp_ => ?_ | refine Sh.svF m fun q_ _ hp_ => ?_ | refine Sh.hvF m fun q_ _ hp_ => ?_))
              simp only [Int.toNat_natCast]
              (repeat (first | refine Sh.sv m ?_ | refine Sh.hv ?_ | (refine Sh.sw m ?_; clear m; intro g_ w m) | (refine Sh.su m ?_; clear m; intro w m) | (refine Sh.suN m ?_; clear m; intro w m) | (refine Sh.hr m ?_; clear m; intro m) | refine Sh.rsS m ?_ | refine Sh.hd m ?_ | refine Sh.rsK [] m ?_ | refine CN_tt ?_ | refine CN_ff ?_ | refine GD_tt ?_ | refine GD_ff ?_ | refine GD_tf ?_ | refine GD_ft ?_ | refine CN_true (by first | omega | (simp; done) | (simp; omega)) ?_ | refine CN_false (by first | omega | (simp; done) | (simp; omega)) ?_ | refine GD_true (by first | omega | (simp; done) | (simp; omega)) ?_ | refine GD_true' (by first | omega | (simp; done) | (simp; omega)) ?_ | refine GD_false (by first | omega | (simp; done) | (simp; omega)) ?_ | refine GD_false' (by first | omega | (simp; done) | (simp; omega)) ?_ | refine Sh.crN m ?_ | refine Sh.cr1 m ?_ | refine Sh.svI m (by first | omega | decide) (by first | omega | (simp; done) | (simp; omega)) fun q_ _ hp_ => ?_ | refine Sh.hvI m (by first | omega | decide) (by first | omega | (simp; done) | (simp; omega)) fun q_ _ hp_ => ?_ | refine Sh.svF m fun q_ _ hp_ => ?_ | refine Sh.hvF m fun q_ _ hp_ => ?_))
              have := hp_ mv _ inferInstance
              refine suO1 (E := eFile) (i := i) (off := 1) (x' := ⟨l'[i].name, (filesOf a)[i].data ++ l'[i].data⟩) m hlt (by simp [eFile]) (by decide) (by simp [eFile, File.cells]) ?_
              clear m; intro w m
              exact ⟨rfl, fun _ => go _ _ (by simp) (hset _ (by simp; omega)) m⟩
            · exact ⟨rfl, fun _ => go _ _ rfl (fun f hf => by have := hd f hf; omega) m⟩
        · (repeat (first | refine Sh.sv m ?_ | refine Sh.hv ?_ | (refine Sh.sw m ?_; clear m; intro g_ w m) | (refine Sh.su m ?_; clear m; intro w m) | (refine Sh.suN m ?_; clear m; intro w m) | (refine Sh.hr m ?_; clear m; intro m) | refine Sh.rsS m ?_ | refine Sh.hd m ?_ | refine Sh.rsK [] m ?_ | refine CN_tt ?_ | refine CN_ff ?_ | refine GD_tt ?_ | refine GD_ff ?_ | refine GD_tf ?_ | refine GD_ft ?_ | refine CN_true (by first | omega | (simp; done) | (simp; omega)) ?_ | refine CN_false (by first | omega | (simp; done) | (simp; omega)) ?_ | refine GD_true (by first | omega | (simp; done) | (simp; omega)) ?_ | refine GD_true' (by first | omega | (simp; done) | (simp; omega)) ?_ | refine GD_false (by first | omega | (simp; done) | (simp; omega)) ?_ | refine GD_false' (by first | omega | (simp; done) | (simp; omega)) ?_ | refine Sh.crN m ?_ | refine Sh.cr1 m ?_ | refine Sh.svI m (by first | omega | decide) (by first | omega | (simp; done) | (simp; omega)) fun q_ _ hp_ => ?_ | refine Sh.hvI m (by first | omega | decide) (by first | omega | (simp; done) | (simp; omega)) fun q_ _ hp_ => ?_ | refine Sh.svF m fun q_ _ hp_ => ?_ | refine Sh.hvF m fun q_ _ hp_ => ?_))
          exact ⟨l', hl', fin, m⟩
      · (repeat (first | refine Sh.sv m ?_ | refine Sh.hv ?_ | (refine Sh.sw m ?_; clear m; intro g_ w m) | (refine Sh.su m ?_; clear m; intro w m) | (refine Sh.suN m ?_; clear m; intro w m) | (refine Sh.hr m ?_; clear m; intro m) | refine Sh.rsS m ?_ | refine Sh.hd m ?_ | refine Sh.rsK [] m ?_ | refine CN_tt ?_ | refine CN_ff ?_ | refine GD_tt ?_ | refine GD_ff ?_ | refine GD_tf ?_ | refine GD_ft ?_ | refine CN_true (by first | omega | (simp; done) | (simp; omega)) ?_ | refine CN_false (by first | omega | (simp; done) | (simp; omega)) ?_ | refine GD_true (by first | omega | (simp; done) | (simp; omega)) ?_ | refine GD_true' (by first | omega | (simp; done) | (simp; omega)) ?_ | refine GD_false (by first | omega | (simp; done) | (simp; omega)) ?_ | refine GD_false' (by first | omega | (simp; done) | (simp; omega)) ?_ | refine Sh.crN m ?_ | refine Sh.cr1 m ?_ | refine Sh.svI m (by first | omega | decide) (by first | omega | (simp; done) | (simp; omega)) fun q_ _ hp_ => ?_ | refine Sh.hvI m (by first | omega | decide) (by first | omega | (simp; done) | (simp; omega)) fun q_ _ hp_ => ?_ | refine Sh.svF m fun q_ _ hp_ => ?_ | refine Sh.hvF m fun q_ _ hp_ => ?_))
        exact ⟨l', hl', fin, m⟩
  clear m
  rintro us hus ζ w ⟨l', hl', hd, m⟩
  unfold s4_j2
  refine LP_intro (fun us w => ∃ (r : Bool) (i : Nat), us = [.bool r, .int .i64 i] ∧ 1 ≤ i ∧ i ≤ 9 ∧ (r = true → Rises (l'.take i)) ∧ St w0 [keysF, sl eFile av a, sl eFile bv b] w [own eFile mv l', sl eFile lv (filesOf a), keysF])
    (fun us _ => match us with | [_, .int _ t] => 9 - t.toNat | _ => 0) (by refine ⟨true, 1, rfl, Nat.le_refl _, by omega, fun _ => ?_, m⟩; cases l' <;> simp [Rises]) ?_
  clear m
  rintro us hus ζ w ⟨r, i, rfl, hi1, hi9, hr, m⟩
  unfold s4_l2
  simp only [List.getD_cons_zero, List.getD_cons_succ]
  by_cases hlt : i < l'.length
  · (repeat (first | refine Sh.sv m ?_ | refine Sh.hv ?_ | (refine Sh.sw m ?_; clear m; intro g_ w m) | (refine Sh.su m ?_; clear m; intro w m) | (refine Sh.suN m ?_; clear m; intro w m) | (refine Sh.hr m ?_; clear m; intro m) | refine Sh.rsS m ?_ | refine Sh.hd m ?_ | refine Sh.rsK [] m ?_ | refine CN_tt ?_ | refine CN_ff ?_ | refine GD_tt ?_ | refine GD_ff ?_ | refine GD_tf ?_ | refine GD_ft ?_ | refine CN_true (by first | omega | (simp; done) | (simp; omega)) ?_ | refine CN_false (by first | omega | (simp; done) | (simp; omega)) ?_ | refine GD_true (by first | omega | (simp; done) | (simp; omega)) ?_ | refine GD_true' (by first | omega | (simp; done) | (simp; omega)) ?_ | refine GD_false (by first | omega | (simp; done) | (simp; omega)) ?_ | refine GD_false' (by first | omega | (simp; done) | (simp; omega)) ?_ | refine Sh.crN m ?_ | refine Sh.cr1 m ?_ | refine Sh.svI m (by first | omega | decide) (by first | omega | (simp; done) | (simp; omega)) fun q_ _ hp_ => ?_ | refine Sh.hvI m (by first | omega | decide) (by first | omega | (simp; done) | (simp; omega)) fun q_ _ hp_ => ?_ | refine Sh.svF m fun q_ _ hp_ => ?_ | refine Sh.hvF m fun q_ _ hp_ => ?_))
    cases r with
    | false =>
      (repeat (first | refine Sh.sv m ?_ | refine Sh.hv ?_ | (refine Sh.sw m ?_; clear m; intro g_ w m) | (refine Sh.su m ?_; clear m; intro w m) | (refine Sh.suN m ?_; clear m; intro w m) | (refine Sh.hr m ?_; clear m; intro m) | refine Sh.rsS m ?_ | refine Sh.hd m ?_ | refine Sh.rsK [] m ?_ | refine CN_tt ?_ | refine CN_ff ?_ | refine GD_tt ?_ | refine GD_ff ?_ | refine GD_tf ?_ | refine GD_ft ?_ | refine CN_true (by first | omega | (simp; done) | (simp; omega)) ?_ | refine CN_false (by first | omega | (simp; done) | (simp; omega)) ?_ | refine GD_true (by first | omega | (simp; done) | (simp; omega)) ?_ | refine GD_true' (by first | omega | (simp; done) | (simp; omega)) ?_ | refine GD_false (by first | omega | (simp; done) | (simp; omega)) ?_ | refine GD_false' (by first | omega | (simp; done) | (simp; omega)) ?_ | refine Sh.crN m ?_ | refine Sh.cr1 m ?_ | refine Sh.svI m (by first | omega | decide) (by first | omega | (simp; done) | (simp; omega)) fun q_ _ hp_ => ?_ | refine Sh.hvI m (by first | omega | decide) (by first | omega | (simp; done) | (simp; omega)) fun q_ _ hp_ => ?_ | refine Sh.svF m fun q_ _ hp_ => ?_ | refine Sh.hvF m fun q_ _ hp_ => ?_))
      refine ⟨⟨false, i + 1, rfl, by omega, by omega, fun h => (by cases h), m⟩, ?_⟩
      show 9 - ((i : Int) + 1).toNat < 9 - (i : Int).toNat
      omega
    | true =>
      (repeat (first | refine Sh.sv m ?_ | refine Sh.hv ?_ | (refine Sh.sw m ?_; clear m; intro g_ w m) | (refine Sh.su m ?_; clear m; intro w m) | (refine Sh.suN m ?_; clear m; intro w m) | (refine Sh.hr m ?_; clear m; intro m) | refine Sh.rsS m ?_ | refine Sh.hd m ?_ | refine Sh.rsK [] m ?_ | refine CN_tt ?_ | refine CN_ff ?_ | refine GD_tt ?_ | refine GD_ff ?_ | refine GD_tf ?_ | refine GD_ft ?_ | refine CN_true (by first | omega | (simp; done) | (simp; omega)) ?_ | refine CN_false (by first | omega | (simp; done) | (simp; omega)) ?_ | refine GD_true (by first | omega | (simp; done) | (simp; omega)) ?_ | refine GD_true' (by first | omega | (simp; done) | (simp; omega)) ?_ | refine GD_false (by first | omega | (simp; done) | (simp; omega)) ?_ | refine GD_false' (by first | omega | (simp; done) | (simp; omega)) ?_ | refine Sh.crN m ?_ | refine Sh.cr1 m ?_ | refine Sh.svI m (by first | omega | decide) (by first | omega | (simp; done) | (simp; omega)) fun q_ _ hp_ => ?_ | refine Sh.hvI m (by first | omega | decide) (by first | omega | (simp; done) | (simp; omega)) fun q_ _ hp_ => ?_ | refine Sh.svF m fun q_ _ hp_ => ?_ | refine Sh.hvF m fun q_ _ hp_ => ?_))
      have e : ((i : Int) - 1).toNat = i - 1 := by omega
      simp only [Int.toNat_natCast, e]
      refine ⟨⟨_, i + 1, rfl, by omega, by omega, fun h => ?_, m⟩, ?_⟩
      · have h1 := hr rfl
        have e1 : l'.take i = l'.take (i - 1) ++ [l'[i - 1]] := by
          have := List.take_succ_eq_append_getElem (l := l') (i := i - 1) (by omega)
          rw [show i - 1 + 1 = i by omega] at this
          exact this
        rw [List.take_succ_eq_append_getElem hlt, e1]
        rw [e1] at h1
        exact rises_snoc h1 h
      · show 9 - ((i : Int) + 1).toNat < 9 - (i : Int).toNat
        omega
  · (repeat (first | refine Sh.sv m ?_ | refine Sh.hv ?_ | (refine Sh.sw m ?_; clear m; intro g_ w m) | (refine Sh.su m ?_; clear m; intro w m) | (refine Sh.suN m ?_; clear m; intro w m) | (refine Sh.hr m ?_; clear m; intro m) | refine Sh.rsS m ?_ | refine Sh.hd m ?_ | refine Sh.rsK [] m ?_ | refine CN_tt ?_ | refine CN_ff ?_ | refine GD_tt ?_ | refine GD_ff ?_ | refine GD_tf ?_ | refine GD_ft ?_ | refine CN_true (by first | omega | (simp; done) | (simp; omega)) ?_ | refine CN_false (by first | omega | (simp; done) | (simp; omega)) ?_ | refine GD_true (by first | omega | (simp; done) | (simp; omega)) ?_ | refine GD_true' (by first | omega | (simp; done) | (simp; omega)) ?_ | refine GD_false (by first | omega | (simp; done) | (simp; omega)) ?_ | refine GD_false' (by first | omega | (simp; done) | (simp; omega)) ?_ | refine Sh.crN m ?_ | refine Sh.cr1 m ?_ | refine Sh.svI m (by first | omega | decide) (by first | omega | (simp; done) | (simp; omega)) fun q_ _ hp_ => ?_ | refine Sh.hvI m (by first | omega | decide) (by first | omega | (simp; done) | (simp; omega)) fun q_ _ hp_ => ?_ | refine Sh.svF m fun q_ _ hp_ => ?_ | refine Sh.hvF m fun q_ _ hp_ => ?_))
    cases r with
    | false =>
      (repeat (first | refine Sh.sv m ?_ | refine Sh.hv ?_ | (refine Sh.sw m ?_; clear m; intro g_ w m) | (refine Sh.su m ?_; clear m; intro w m) | (refine Sh.suN m ?_; clear m; intro w m) | (refine Sh.hr m ?_; clear m; intro m) | refine Sh.rsS m ?_ | refine Sh.hd m ?_ | refine Sh.rsK [] m ?_ | refine CN_tt ?_ | refine CN_ff ?_ | refine GD_tt ?_ | refine GD_ff ?_ | refine GD_tf ?_ | refine GD_ft ?_ | refine CN_true (by first | omega | (simp; done) | (simp; omega)) ?_ | refine CN_false (by first | omega | (simp; done) | (simp; omega)) ?_ | refine GD_true (by first | omega | (simp; done) | (simp; omega)) ?_ | refine GD_true' (by first | omega | (simp; done) | (simp; omega)) ?_ | refine GD_false (by first | omega | (simp; done) | (simp; omega)) ?_ | refine GD_false' (by first | omega | (simp; done) | (simp; omega)) ?_ | refine Sh.crN m ?_ | refine Sh.cr1 m ?_ | refine Sh.svI m (by first | omega | decide) (by first | omega | (simp; done) | (simp; omega)) fun q_ _ hp_ => ?_ | refine Sh.hvI m (by first | omega | decide) (by first | omega | (simp; done) | (simp; omega)) fun q_ _ hp_ => ?_ | refine Sh.svF m fun q_ _ hp_ => ?_ | refine Sh.hvF m fun q_ _ hp_ => ?_))
      exact ⟨by trivial, m.ch.mono fun _ _ h => by cases h⟩
    | true =>
      have hr := hr rfl
      rw [List.take_of_length_le (by omega)] at hr
      have ra := filesFrom_rises a 0
      replace m := m.pub mv
      have dl : ∀ f ∈ l', f.data.length ≤ 4611686018427387904 := fun f hf => Nat.le_trans (hd f hf) (by omega)
      have dl2 : ∀ f ∈ filesOf a, f.data.length ≤ 4611686018427387904 := fun f hf => Nat.le_trans (da f hf) (by omega)
      have n1 := diffOf_len (filesOf a) l'
      have n2 := diffOf_len l' (filesOf a)
      (repeat (first | refine Sh.sv m ?_ | refine Sh.hv ?_ | (refine Sh.sw m ?_; clear m; intro g_ w m) | (refine Sh.su m ?_; clear m; intro w m) | (refine Sh.suN m ?_; clear m; intro w m) | (refine Sh.hr m ?_; clear m; intro m) | refine Sh.rsS m ?_ | refine Sh.hd m ?_ | refine Sh.rsK [] m ?_ | refine CN_tt ?_ | refine CN_ff ?_ | refine GD_tt ?_ | refine GD_ff ?_ | refine GD_tf ?_ | refine GD_ft ?_ | refine CN_true (by first | omega | (simp; done) | (simp; omega)) ?_ | refine CN_false (by first | omega | (simp; done) | (simp; omega)) ?_ | refine GD_true (by first | omega | (simp; done) | (simp; omega)) ?_ | refine GD_true' (by first | omega | (simp; done) | (simp; omega)) ?_ | refine GD_false (by first | omega | (simp; done) | (simp; omega)) ?_ | refine GD_false' (by first | omega | (simp; done) | (simp; omega)) ?_ | refine Sh.crN m ?_ | refine Sh.cr1 m ?_ | refine Sh.svI m (by first | omega | decide) (by first | omega | (simp; done) | (simp; omega)) fun q_ _ hp_ => ?_ | refine Sh.hvI m (by first | omega | decide) (by first | omega | (simp; done) | (simp; omega)) fun q_ _ hp_ => ?_ | refine Sh.svF m fun q_ _ hp_ => ?_ | refine Sh.hvF m fun q_ _ hp_ => ?_))
      refine n31 (m.call (image_diff (old := filesOf a) (now := l') (m.get (by repeat (first | exact Frm.nil | (with_reducible exact Rem.dup) | (with_reducible exact Rem.here) | apply Frm.cons | apply Rem.there))) (by omega) (by omega) dl) ?_); rintro x1 w m1
      replace m := m.fr (by repeat (first | exact Frm.nil | (with_reducible exact Rem.dup) | (with_reducible exact Rem.here) | apply Frm.cons | apply Rem.there)) m1; simp only [List.cons_append, List.nil_append] at m
      replace m := m.pub x1
      refine n32 (m.call (ref_diff (old := filesOf a) (now := l') (m.get (by repeat (first | exact Frm.nil | (with_reducible exact Rem.dup) | (with_reducible exact Rem.here) | apply Frm.cons | apply Rem.there))) (by omega) (by omega) dl ra hr) ?_); rintro x2 w m1
      replace m := m.fr (by repeat (first | exact Frm.nil | (with_reducible exact Rem.dup) | (with_reducible exact Rem.here) | apply Frm.cons | apply Rem.there)) m1; simp only [List.cons_append, List.nil_append] at m
      replace m := m.pub x2
      refine n30 (m.ret (ref_sameOps (u := x1) (v := x2) (m.get (by repeat (first | exact Frm.nil | (with_reducible exact Rem.dup) | (with_reducible exact Rem.here) | apply Frm.cons | apply Rem.there))) (by omega)) ?_); clear m; intro w m
      refine n31 (m.call (image_diff (old := l') (now := filesOf a) (m.get (by repeat (first | exact Frm.nil | (with_reducible exact Rem.dup) | (with_reducible exact Rem.here) | apply Frm.cons | apply Rem.there))) (by omega) (by omega) dl2) ?_); rintro x3 w m1
      replace m := m.fr (by repeat (first | exact Frm.nil | (with_reducible exact Rem.dup) | (with_reducible exact Rem.here) | apply Frm.cons | apply Rem.there)) m1; simp only [List.cons_append, List.nil_append] at m
      replace m := m.pub x3
      refine n32 (m.call (ref_diff (old := l') (now := filesOf a) (m.get (by repeat (first | exact Frm.nil | (with_reducible exact Rem.dup) | (with_reducible exact Rem.here) | apply Frm.cons | apply Rem.there))) (by omega) (by omega) dl2 hr ra) ?_); rintro x4 w m1
      replace m := m.fr (by repeat (first | exact Frm.nil | (with_reducible exact Rem.dup) | (with_reducible exact Rem.here) | apply Frm.cons | apply Rem.there)) m1; simp only [List.cons_append, List.nil_append] at m
      replace m := m.pub x4
      refine n30 (m.ret (ref_sameOps (u := x3) (v := x4) (m.get (by repeat (first | exact Frm.nil | (with_reducible exact Rem.dup) | (with_reducible exact Rem.here) | apply Frm.cons | apply Rem.there))) (by omega)) ?_); clear m; intro w m
      rw [decide_eq_true rfl, decide_eq_true rfl]
      (repeat (first | refine Sh.sv m ?_ | refine Sh.hv ?_ | (refine Sh.sw m ?_; clear m; intro g_ w m) | (refine Sh.su m ?_; clear m; intro w m) | (refine Sh.suN m ?_; clear m; intro w m) | (refine Sh.hr m ?_; clear m; intro m) | refine Sh.rsS m ?_ | refine Sh.hd m ?_ | refine Sh.rsK [] m ?_ | refine CN_tt ?_ | refine CN_ff ?_ | refine GD_tt ?_ | refine GD_ff ?_ | refine GD_tf ?_ | refine GD_ft ?_ | refine CN_true (by first | omega | (simp; done) | (simp; omega)) ?_ | refine CN_false (by first | omega | (simp; done) | (simp; omega)) ?_ | refine GD_true (by first | omega | (simp; done) | (simp; omega)) ?_ | refine GD_true' (by first | omega | (simp; done) | (simp; omega)) ?_ | refine GD_false (by first | omega | (simp; done) | (simp; omega)) ?_ | refine GD_false' (by first | omega | (simp; done) | (simp; omega)) ?_ | refine Sh.crN m ?_ | refine Sh.cr1 m ?_ | refine Sh.svI m (by first | omega | decide) (by first | omega | (simp; done) | (simp; omega)) fun q_ _ hp_ => ?_ | refine Sh.hvI m (by first | omega | decide) (by first | omega | (simp; done) | (simp; omega)) fun q_ _ hp_ => ?_ | refine Sh.svF m fun q_ _ hp_ => ?_ | refine Sh.hvF m fun q_ _ hp_ => ?_))
      refine n31 (m.call (image_diff (old := filesOf a) (now := filesOf a) (m.get (by repeat (first | exact Frm.nil | (with_reducible exact Rem.dup) | (with_reducible exact Rem.here) | apply Frm.cons | apply Rem.there))) (by omega) (by omega) dl2) ?_); rintro x5 w m1
      rw [diffOf_self] at m1
      replace m := m.fr (by repeat (first | exact Frm.nil | (with_reducible exact Rem.dup) | (with_reducible exact Rem.here) | apply Frm.cons | apply Rem.there)) m1; simp only [List.cons_append, List.nil_append] at m
      (repeat (first | refine Sh.sv m ?_ | refine Sh.hv ?_ | (refine Sh.sw m ?_; clear m; intro g_ w m) | (refine Sh.su m ?_; clear m; intro w m) | (refine Sh.suN m ?_; clear m; intro w m) | (refine Sh.hr m ?_; clear m; intro m) | refine Sh.rsS m ?_ | refine Sh.hd m ?_ | refine Sh.rsK [] m ?_ | refine CN_tt ?_ | refine CN_ff ?_ | refine GD_tt ?_ | refine GD_ff ?_ | refine GD_tf ?_ | refine GD_ft ?_ | refine CN_true (by first | omega | (simp; done) | (simp; omega)) ?_ | refine CN_false (by first | omega | (simp; done) | (simp; omega)) ?_ | refine GD_true (by first | omega | (simp; done) | (simp; omega)) ?_ | refine GD_true' (by first | omega | (simp; done) | (simp; omega)) ?_ | refine GD_false (by first | omega | (simp; done) | (simp; omega)) ?_ | refine GD_false' (by first | omega | (simp; done) | (simp; omega)) ?_ | refine Sh.crN m ?_ | refine Sh.cr1 m ?_ | refine Sh.svI m (by first | omega | decide) (by first | omega | (simp; done) | (simp; omega)) fun q_ _ hp_ => ?_ | refine Sh.hvI m (by first | omega | decide) (by first | omega | (simp; done) | (simp; omega)) fun q_ _ hp_ => ?_ | refine Sh.svF m fun q_ _ hp_ => ?_ | refine Sh.hvF m fun q_ _ hp_ => ?_))
      exact ⟨by simp, m.ch.mono fun _ _ h => by cases h⟩
end Go.Proofs.YtkdghnbogkbedaaGreatDoor

namespace Go.Sh
open Go Go.ChangeShapes Go.WideShapes Go.ChangeAt Go.RowKit

section
variable {H : Type} {enc : TypeId × Value → H} {P : Program} {W W' w : World} {base : Nat} {spare : Nat → Bool} {held : Bool} {α : Type}

theorem spot_none {a : Addr} {v : Value} (h : w.cell? a = some v) : a = ⟨a.block, a.off, none⟩ ∧ ∃ C T fr, w.heap[a.block]? = some (.cells C T fr) := by
  obtain ⟨b, o, s⟩ := a
  unfold World.cell? at h
  split at h
  · rename_i c T fr hc
    split at h
    · cases h
    · rename_i hs
      cases s with
      | none => exact ⟨rfl, _, _, _, hc⟩
      | some s => simp at hs
  · cases h

/-- Cells at an address, as a slice that reads. -/
theorem Rd.of_cells {a : Addr} {n c sz : Nat} {xs : List Value} (hl : xs.length = n * sz) (hn : n ≤ maxLen) (hc : n ≤ c) (hsz : 0 < sz) (h : ∀ (j : Nat) u, xs[j]? = some u → w.cell? (a.add j) = some u) : ∃ T, Rd w T sz (.slice (some a) n c) n xs := by
  rcases Nat.eq_zero_or_pos n with h0 | hp
  · subst h0
    exact ⟨0, hl, hn, _, c, rfl, hc, fun h => absurd h (by omega)⟩
  · have hpos : 0 < xs.length := by rw [hl]; exact Nat.mul_pos hp hsz
    have h1 := h 0 xs[0] (by simp [hpos])
    rw [Addr.add_zero'] at h1
    obtain ⟨ha, C, T, fr, hb⟩ := spot_none h1
    generalize a.block = b at ha hb
    generalize a.off = o at ha
    subst ha
    refine ⟨T, hl, hn, _, c, rfl, hc, fun _ => ⟨b, o, C, fr, rfl, hb, fun j u hj => ?_⟩⟩
    have := h j u hj
    rw [Addr.add_lit, cell_of_row w b _ C T fr hb] at this
    exact this

/-- A slice that reads as data, as a list. -/
theorem open_list {base' : Nat} {E : Elt α} {R : α → Prop} {t e : TypeId} {v : Value} {d : DataW H} {ps : List MemPlace} (ht : P.underlying t = some (.slice e)) (hsz : P.cellsOf e = E.sz) (hpos : 0 < E.sz)
    (hE : ∀ n cs x, DataW.trod enc P w base spare held n e cs = some x → ∃ y : α, cs = E.c y ∧ R y) (hv : Value.okWide P w .any base' t v) (h : DataW.Trod enc P w base spare held t v d ps) :
    ∃ l : List α, (∀ y ∈ l, R y) ∧ l.length ≤ 9223372036854775807 ∧ ∃ T, Rd w T E.sz v l.length (E.all l) := by
  obtain ⟨fuel, h⟩ := h
  have hcell : v.cells = #[v] ∨ ∃ cs, v = .agg cs := by cases v <;> first | exact .inl rfl | exact .inr ⟨_, rfl⟩
  have hnag : ¬ ∃ cs, v = .agg cs := by
    rintro ⟨cs, rfl⟩
    unfold Value.okWide at hv
    rw [ht] at hv
    simp [Cell.okWide, Cell.ok, ht] at hv
  have hc := hcell.resolve_right hnag
  rw [hc] at h
  rcases Go.Deep.open_slice ht h with ⟨h1, _⟩ | ⟨a, len, cap, m, n, D, Pl, h1, _, hlc, hcm, hm, _, hx⟩
  · have : v = .slice none 0 0 := by simpa using h1
    subst this
    exact ⟨[], by simp, by simp, 0, Rd.zero none 0⟩
  · have hvv : v = .slice (some a) len cap := by simpa using h1
    subst hvv
    have hlm : len ≤ m := by rw [hm]; split <;> omega
    have key : ∀ i, i < len → ∃ y : α, R y ∧ w.cells? base (a.add (i * E.sz)) E.sz = some (E.c y) := fun i hi => by
      obtain ⟨cs', h2, h3⟩ := hx i (by omega)
      obtain ⟨y, rfl, hy⟩ := hE _ _ _ h3
      rw [hsz] at h2
      exact ⟨y, hy, h2⟩
    have build : ∀ k, k ≤ len → ∃ l : List α, l.length = k ∧ (∀ y ∈ l, R y) ∧ ∀ i y, l[i]? = some y → w.cells? base (a.add (i * E.sz)) E.sz = some (E.c y) := by
      intro k
      induction k with
      | zero => intro _; exact ⟨[], rfl, by simp, by simp⟩
      | succ k ih =>
        intro hk
        obtain ⟨l, h1, h2, h3⟩ := ih (by omega)
        obtain ⟨y, hy, hc⟩ := key k (by omega)
        refine ⟨l ++ [y], by simp [h1], fun z hz => ?_, fun i z hz => ?_⟩
        · rcases List.mem_append.1 hz with hz | hz
          · exact h2 z hz
          · cases List.mem_singleton.1 hz; exact hy
        · rcases Nat.lt_or_ge i l.length with hi | hi
          · rw [List.getElem?_append_left hi] at hz; exact h3 i z hz
          · rw [List.getElem?_append_right hi] at hz
            have : i = l.length := by
              rcases Nat.lt_or_ge i (l.length + 1) with h | h
              · omega
              · rw [List.getElem?_eq_none (by simp; omega)] at hz; cases hz
            subst this
            simp at hz
            subst hz
            rw [h1]; exact hc
    obtain ⟨l, h1, h2, h3⟩ := build len (Nat.le_refl _)
    have hml : maxLen = 9223372036854775807 := rfl
    refine ⟨l, h2, by omega, ?_⟩
    rw [h1]
    refine Rd.of_cells (by rw [E.all_len, h1]) (by omega) hlc hpos fun j u hj => ?_
    -- cell j lies in element j / sz
    have hjl : j < l.length * E.sz := by
      rw [← E.all_len]
      rcases Nat.lt_or_ge j (E.all l).length with h | h
      · exact h
      · rw [List.getElem?_eq_none h] at hj; cases hj
    have hi : j / E.sz < l.length := by rw [Nat.div_lt_iff_lt_mul hpos]; exact hjl
    obtain ⟨_, _, h4⟩ := World.cells?_some (h3 (j / E.sz) l[j / E.sz] (by simp [hi]))
    have h5 := h4 (j % E.sz) (Nat.mod_lt _ hpos)
    have e1 : j / E.sz * E.sz + j % E.sz = j := by rw [Nat.mul_comm]; exact Nat.div_add_mod j E.sz
    have hadd : ∀ m n, (a.add m).add n = a.add (m + n) := fun m n => by
      unfold Addr.add
      by_cases hm : m = 0
      · subst hm; simp
      · by_cases hn : n = 0
        · subst hn; simp [hm]
        · simp [hm, hn, Nat.add_assoc]
    rw [hadd, e1] at h5
    rw [h5]
    have h6 := E.all_at (l := l) hi
    have h7 := congrArg (fun x => x[j % E.sz]?) h6
    simp only [List.getElem?_take, List.getElem?_drop, Nat.mod_lt _ hpos, if_true, e1] at h7
    rw [← h7]; exact hj

theorem hold_nil : Hold [] w := fun _ h => by cases h
theorem hold_cons {f : Fact} {F : List Fact} (h : f.is w) (hF : Hold F w) : Hold (f :: F) w := fun g hg => by
  rcases List.mem_cons.1 hg with rfl | hg
  · exact h
  · exact hF g hg
theorem mem_ro {F : List Fact} (h : Hold F w) (hf : fps F = []) : Mem w F := ⟨h, by rw [hf]; exact List.nodup_nil, fun b hb => by rw [hf] at hb; cases hb⟩

theorem trodAll_stays (hl : laidOutB P = true) {sp' : Nat → Bool} : ∀ {ts : List TypeId} {vs : List Value} {ds : List (DataW H)} {ps : List MemPlace}, (ts.all fun t => P.readableRec t && decide (t < P.types.size)) = true →
    DataW.TrodAll enc P W base (fun _ => true) true ts vs ds ps → (∀ p ∈ ps, W.sameAt W' p) → (∀ p ∈ ps, sp' p.block = true) → DataW.TrodAll enc P W' base sp' true ts vs ds ps
  | [], [], [], _, _, h, _, _ => h
  | t :: ts, v :: vs, d :: ds, ps, ht, h, hs, hp => by
    obtain ⟨p, q, h1, h2, rfl⟩ := h
    simp only [List.all_cons, Bool.and_eq_true, decide_eq_true_eq] at ht
    exact ⟨p, q, WideElems.Trod_stays hl ht.1.1 ht.1.2 h1 (fun x hx => hs x (List.mem_append_left _ hx)) (fun x hx => hp x (List.mem_append_left _ hx)),
      trodAll_stays hl ht.2 h2 (fun x hx => hs x (List.mem_append_right _ hx)) (fun x hx => hp x (List.mem_append_right _ hx)), rfl⟩

end
/-- The law's answer, where nothing that was there has turned. -/
theorem law_below {H : Type} {enc : TypeId × Value → H} {P : Program} {f : Func} {s : ChangeSpec} {apart fresh handsOn again : Bool} {W W' : World} {args : Array Value} {v : Value} {ds gs : List (DataW H)} {before pa pv : List MemPlace}
    (hW : DataW.Whole enc P f.params.toList s.vars apart W args.toList ds gs before)
    (hres : ∀ (b : Nat) (sp : Nat → Bool) (hd : Bool), DataW.TrodAll enc P W' b sp hd f.resultTypes.toList (v.resultList f.resultTypes.size) (s.fn H (ds ++ gs)).results [])
    (hargs : ∀ sp : Nat → Bool, (∀ p ∈ before, sp p.block = true) → DataW.TrodAll enc P W' 0 sp true f.params.toList args.toList (s.fn H (ds ++ gs)).args pa)
    (hvars : ∀ sp : Nat → Bool, (∀ p ∈ before, sp p.block = true) → DataW.TrodVars enc P W' sp s.vars (s.fn H (ds ++ gs)).vars pv)
    (hps : before = pa ++ pv) (hb : Below W.heap.size W W')
    (hok : ∀ (j : Nat) (t : TypeId) (r : Value), f.resultTypes[j]? = some t → (v.resultList f.resultTypes.size)[j]? = some r → Value.okWide P W' .any 0 t r) :
    s.post enc P f apart fresh handsOn again W args v W' := by
  have hold : ∀ p ∈ before, (fun b => decide (b < W.heap.size)) p.block = true := fun p hp => by simpa using hW.lt p hp
  have hlt := hW.lt
  refine ⟨ds, gs, before, [], pa, pv, hW, hres _ _ _, hargs _ hold, hvars _ hold, World.keptBut_mono (fun p hp => ⟨hp, ?_⟩) (hb.frame (· ∈ before)), fun _ => ?_⟩
  · rw [hps, List.mem_append] at hp
    exact Or.inr hp
  · obtain ⟨_, _, _, _, _, hz, hn⟩ := hW
    refine ⟨hok, _, _, ([] ++ pa) ++ pv, ⟨[] ++ pa, pv, trodAll_append (hargs _ (fun _ _ => rfl)) (hres _ _ _), hvars _ (fun _ _ => rfl), rfl, ?_, ?_⟩, ?_⟩
    · intro b off hp
      have hp' : MemPlace.cell b off ∈ before := by rw [hps]; simpa using hp
      rw [hb.frozen (p := ⟨b, off, none⟩) (hlt _ hp')]
      exact hz b off hp'
    · intro ha
      have := hn ha
      rw [hps] at this
      simpa using this
    · intro p hp _
      rw [hps]
      simpa using hp
section
variable {H : Type} {enc : TypeId × Value → H} {P : Program} {W W' w : World} {base : Nat} {spare : Nat → Bool} {held : Bool} {α : Type}
/-- A law's answer: true; the arguments read as they did. -/
theorem law_post {f : Func} {s : ChangeSpec} {apart fresh handsOn again : Bool} {args : Array Value} {v : Value} {ds gs : List (DataW H)} {before : List MemPlace}
    (hl : laidOutB P = true) (hts : (f.params.toList.all fun t => P.readableRec t && decide (t < P.types.size)) = true)
    (hW : DataW.Whole enc P f.params.toList s.vars apart W args.toList ds gs before) (hvs : s.vars = [])
    (hfn : s.fn H (ds ++ gs) = { results := [.lit (.bool true)], args := ds }) {tb : TypeId} (hrt : f.resultTypes = #[tb]) (htb : P.underlying tb = some .bool)
    (hv : v = .bool true) (hb : Below W.heap.size W W') : s.post enc P f apart fresh handsOn again W args v W' := by
  have hold : ∀ p ∈ before, (fun b => decide (b < W.heap.size)) p.block = true := fun p hp => by simpa using hW.lt p hp
  have hlt := hW.lt
  have hW0 := hW
  obtain ⟨pa, pv, hA, hV, hps, hz, hn⟩ := hW0
  subst hv
  have hvn : s.vars = [] := hvs
  rw [hvn] at hV
  obtain ⟨rfl, rfl⟩ := trodVars_none hV
  simp only [List.append_nil] at hps
  subst hps
  have hsame : ∀ p ∈ before, W.sameAt W' p := fun p hp => hb.same (hlt p hp)
  have hres : ∀ (b : Nat) (sp : Nat → Bool) (hd : Bool), DataW.TrodAll enc P W' b sp hd f.resultTypes.toList ((Value.bool true).resultList f.resultTypes.size) (s.fn H (ds ++ [])).results [] := fun b sp hd => by
    rw [hfn, hrt]
    exact trodAll_cons_mk (shut_bool htb _) trodAll_mk0
  have hargs : ∀ sp : Nat → Bool, (∀ p ∈ before, sp p.block = true) → DataW.TrodAll enc P W' 0 sp true f.params.toList args.toList (s.fn H (ds ++ [])).args before := fun sp hsp => by
    rw [hfn]
    exact trodAll_stays hl hts hA hsame hsp
  have hvars : ∀ sp : Nat → Bool, DataW.TrodVars enc P W' sp s.vars (s.fn H (ds ++ [])).vars [] := fun sp => by rw [hfn, hvn]; rfl
  refine law_below (pa := before) (pv := []) hW hres hargs (fun sp _ => hvars sp) (by simp) hb ?_
  intro j t r ht hr
  rw [hrt] at ht hr
  match j, ht with
  | 0, ht =>
    simp only [List.getElem?_toArray, List.getElem?_cons_zero, Option.some.injEq] at ht
    subst ht
    have : r = .bool true := by
      have h2 : ((Value.bool true).resultList 1)[0]? = some (.bool true) := rfl
      have hr' : ((Value.bool true).resultList 1)[0]? = some r := hr
      rw [h2] at hr'
      exact (Option.some.inj hr').symm
    subst this
    exact okWide_bool_mk htb _
  | j + 1, ht => simp at ht
end
end Go.Sh

namespace Go.Proofs.YtkdghnbogkbedaaGreatDoor
open Go Go.Sh Go.ChangeShapes Go.WideShapes Go.ChangeAt Go.RowKit
set_option maxRecDepth 100000
set_option maxHeartbeats 1000000
set_option linter.unusedSimpArgs false
set_option linter.unusedVariables false

def intsOf : DataW Unit → List Int
  | .agg l => l.map fun | .lit (.int _ n) => n | _ => 0
  | _ => []
def zs : List Int := intsOf Rows.laid_scrinium_sha_keys
theorem ownK : ownKnob Tryz.prog.godebug = none := by kernel_rfl
theorem gTab : Tryz.prog.globalNamed "scrinium/sha.keys" = some 1 := by kernel_rfl
theorem gTabType : (Tryz.prog.globals[1]?).map (·.type) = some 258 := by kernel_rfl
theorem cells258 : Tryz.prog.cellsOf 258 = 64 := by kernel_rfl
theorem cells199 : Tryz.prog.cellsOf 199 = 1 := by kernel_rfl
theorem keys_zs' : keys.map (fun x => (x.toNat : Int)) = zs := by decide +kernel
theorem keys_zs : wv keys = zs.map (Value.int .u32) := by
  rw [← keys_zs', List.map_map]; rfl
theorem keysAt_of {W : World} (h : laidMetH Tryz.prog [("scrinium/sha.keys", Rows.laid_scrinium_sha_keys)] W) : KeysAt W := by
  have ht : Lib.TabIs Tryz.prog W "scrinium/sha.keys" .u32 zs := Lib.tabIs_of_head (rest := []) gTab gTabType Tryz.underlying258 Tryz.underlying199 cells199 cells258 h
  refine ⟨_, rfl, fun j u hj => ?_⟩
  rw [Addr.add_lit, Nat.zero_add]
  rw [keys_zs, List.getElem?_map] at hj
  have hlt : j < zs.length := by
    rcases Nat.lt_or_ge j zs.length with h | h
    · exact h
    · rw [List.getElem?_eq_none h] at hj; cases hj
  rw [ht.cell gTab j hlt]
  rw [List.getElem?_eq_getElem hlt] at hj
  simp only [Option.map_some, Option.some.injEq] at hj
  rw [← hj]
  simp [List.getD, List.getElem?_eq_getElem hlt]
/-- A world for the witnesses: the settled one, with the tables. -/
def tabs : List (Nat × List Value) := [(1, zs.map (Value.int .u32)), (2, (intsOf Rows.laid_internal_strconv_uint64pow10).map (Value.int .u64)), (3, (intsOf Rows.laid_math_bits_deBruijn32tab).map (Value.int .u8)), (4, (intsOf Rows.laid_math_bits_deBruijn64tab).map (Value.int .u8))]
def layTab (h : Array Obj) (p : Nat × List Value) : Array Obj := h.modify p.1 fun
  | .cells _ t frozen => .cells p.2.toArray t frozen
  | o => o
noncomputable def laidWorld (os : Os) : World :=
  { World.holding Tryz.prog os ⟨#[], #[], []⟩ with heap := tabs.foldl layTab (World.holding Tryz.prog os ⟨#[], #[], []⟩).heap }
end Go.Proofs.YtkdghnbogkbedaaGreatDoor

namespace Go.Proofs.YtkdghnbogkbedaaGreatDoor
open Go Go.Sh Go.ChangeShapes Go.WideShapes Go.ChangeAt Go.RowKit
set_option maxRecDepth 100000
set_option maxHeartbeats 1000000
set_option linter.unusedSimpArgs false
set_option linter.unusedVariables false
theorem len2 {l : List Value} (h : l.length = 2) : ∃ a b, l = [a, b] := by
  match l, h with
  | [a, b], _ => exact ⟨a, b, rfl⟩
theorem str_of {s : ByteArray} : (Value.string s) = str s.toList := by
  unfold str
  congr 1
  apply ByteArray.ext
  simp [ByteArray.toList_eq]
section
variable {H : Type} {enc : TypeId × Value → H} {W : World} {base : Nat} {spare : Nat → Bool} {held : Bool}
theorem openFile (n : Nat) (cs : List Value) (x : DataW H × List MemPlace) (h : DataW.trod enc Tryz.prog W base spare held n 55 cs = some x) : ∃ y : File, cs = eFile.c y ∧ True := by
  obtain ⟨xs, n', _, _, hl, hxl, hf⟩ := DataW.trod_struct Tryz.underlying55 h
  obtain ⟨u0, u1, rfl⟩ := len2 (hl.trans (show Tryz.prog.cellsOf 55 = 2 by kernel_rfl))
  have h0 := hf 0 _ rfl
  have h1 := hf 1 _ rfl
  obtain ⟨y0, hy0⟩ : ∃ y, xs[0]? = some y := ⟨xs[0]'(by rw [hxl]; decide), List.getElem?_eq_getElem _⟩
  obtain ⟨y1, hy1⟩ : ∃ y, xs[1]? = some y := ⟨xs[1]'(by rw [hxl]; decide), List.getElem?_eq_getElem _⟩
  rw [hy0] at h0
  rw [hy1] at h1
  obtain ⟨s0, e0, _⟩ := DataW.trod_string Tryz.underlying9 h0
  obtain ⟨s1, e1, _⟩ := DataW.trod_string Tryz.underlying9 h1
  have c9 : Tryz.prog.cellsOf 9 = 1 := by kernel_rfl
  have e0' : [u0] = [Value.string s0] := e0
  have e1' : [u1] = [Value.string s1] := e1
  obtain rfl : u0 = .string s0 := by simpa using e0'
  obtain rfl : u1 = .string s1 := by simpa using e1'
  exact ⟨⟨s0.toList, s1.toList⟩, by rw [str_of, str_of]; rfl, trivial⟩
end
end Go.Proofs.YtkdghnbogkbedaaGreatDoor
