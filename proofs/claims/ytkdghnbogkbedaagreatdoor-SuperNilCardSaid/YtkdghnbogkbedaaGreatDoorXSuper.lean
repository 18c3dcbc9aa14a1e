/-
  For each function: the condition that its code comes to, and that it is enough. Printed by sh.py (a program of this work).
-/
import Derived.Test.YtkdghnbogkbedaaGreatDoorProg
import Derived.Test.YtkdghnbogkbedaaGreatDoorTypes
namespace Go.Proofs.YtkdghnbogkbedaaGreatDoor
open Go Go.Sh
set_option maxRecDepth 100000


theorem mixedXSuper : Tryz.prog.follows .mixedOrders = true := by kernel_rfl

/-! ### 15: (*scrinium/super.Super).Anchor -/

def s15_j1 (P : Program) (k : Value → World → Prop) (a0_s : Value) (f3 : Value) (w : World) : Prop :=
  SV P (Instr.loadAt 31 f3) w fun t55 w =>
  SN P (callFunc 73 #[t55]) w fun t56 w =>
  SV P (Instr.alloc 29 true (.tuple #[])) w fun x8 w =>
  SU P (Instr.storeAt 29 x8 t56) w fun w =>
  HR w fun C w =>
  HV P C (nilS a0_s) fun t59 =>
  HV P C (Instr.fieldAt 27 t59 0) fun t60 =>
  HV P C (Instr.loadAt 23 t60) fun t61 =>
  HV P C (nilS a0_s) fun t63 =>
  HV P C (Instr.fieldAt 27 t63 0) fun t64 =>
  HV P C (Instr.loadAt 23 t64) fun t65 =>
  HV P C (Builtin.len_ #[23] 3 #[t65]) fun t66 =>
  HV P C (nilS a0_s) fun t68 =>
  HV P C (Instr.fieldAt 27 t68 0) fun t69 =>
  HV P C (Instr.loadAt 23 t69) fun t70 =>
  HV P C (Builtin.len_ #[23] 3 #[t70]) fun t71 =>
  HV P C (Instr.sliceAt 23 t61 none (some t66) (some t71)) fun t72 =>
  HV P C (Instr.loadAt 31 f3) fun t73 =>
  SV P (Instr.buildSlice 23 1 #[(0, t73)]) w fun t74 w =>
  C w ∧
  SV P (Builtin.append_ #[23, 23] 23 #[t72, t74]) w fun t75 w =>
  RS C w fun C =>
  HV P C (nilS a0_s) fun t76 =>
  HV P C (Instr.fieldAt 27 t76 0) fun t77 =>
  SU P (Instr.storeAt 23 t77 t75) w fun w =>
  HR w fun C w =>
  HV P C (nilS a0_s) fun t80 =>
  HV P C (Instr.fieldAt 27 t80 1) fun t81 =>
  HV P C (Instr.loadAt 24 t81) fun t82 =>
  HV P C (nilS a0_s) fun t84 =>
  HV P C (Instr.fieldAt 27 t84 1) fun t85 =>
  HV P C (Instr.loadAt 24 t85) fun t86 =>
  HV P C (Builtin.len_ #[24] 3 #[t86]) fun t87 =>
  HV P C (nilS a0_s) fun t89 =>
  HV P C (Instr.fieldAt 27 t89 1) fun t90 =>
  HV P C (Instr.loadAt 24 t90) fun t91 =>
  HV P C (Builtin.len_ #[24] 3 #[t91]) fun t92 =>
  HV P C (Instr.sliceAt 24 t82 none (some t87) (some t92)) fun t93 =>
  HV P C (Instr.loadAt 29 x8) fun t94 =>
  SV P (Instr.buildSlice 24 1 #[(0, t94)]) w fun t95 w =>
  C w ∧
  SV P (Builtin.append_ #[24, 24] 24 #[t93, t95]) w fun t96 w =>
  RS C w fun C =>
  HV P C (nilS a0_s) fun t97 =>
  HV P C (Instr.fieldAt 27 t97 1) fun t98 =>
  SU P (Instr.storeAt 24 t98 t96) w fun w =>
  HR w fun C w =>
  HV P C (nilS a0_s) fun t100 =>
  HV P C (Instr.fieldAt 27 t100 2) fun t101 =>
  HV P C (Instr.loadAt 25 t101) fun t102 =>
  HV P C (Instr.loadAt 29 x8) fun t103 =>
  SN P (callFunc 74 #[t102, t103]) w fun t104 w =>
  RS C w fun C =>
  HV P C (binOp .sub 3 t104 (Value.int .i64 1)) fun t105 =>
  k (.tuple #[t105, (Value.int .i64 0)]) w

def s15 (P : Program) (k : Value → World → Prop) (a0_s : Value) (a1_f : Value) (w : World) : Prop :=
  SV P (Instr.box 31 a1_f) w fun f3 w =>
  SV P (Instr.loadAt 31 f3) w fun t10 w =>
  SN P (callFunc 71 #[t10]) w fun t11 w =>
  SV P (Instr.extract t11 0) w fun _ w =>
  SV P (Instr.extract t11 1) w fun t13 w =>
  SV P (eqS .eql 22 (.tmp 15) (.const (Value.pointer none)) a0_s (Value.pointer none)) w fun t16 w =>
  GD t16 false
  (SV P (eqS .neq 32 (.tmp 18) (.const (Value.int .i64 0)) t13 (Value.int .i64 0)) w fun t19 w =>
  CN t19
  (k (.tuple #[(Value.int .i64 0), (Value.int .i64 1)]) w)
  (HR w fun C w =>
  HV P C (nilS a0_s) fun t23 =>
  HV P C (Instr.fieldAt 27 t23 0) fun t24 =>
  HV P C (Instr.loadAt 23 t24) fun t25 =>
  HV P C (Builtin.len_ #[23] 3 #[t25]) fun t26 =>
  HV P C (binOp .gtr 3 t26 (Value.int .i64 0)) fun t27 =>
  GD t27 true
  (HV P C (Instr.fieldAt 31 f3 0) fun t29 =>
  HV P C (Instr.loadAt 3 t29) fun t30 =>
  HV P C (nilS a0_s) fun t32 =>
  HV P C (Instr.fieldAt 27 t32 0) fun t33 =>
  HV P C (Instr.loadAt 23 t33) fun t34 =>
  HV P C (nilS a0_s) fun t36 =>
  HV P C (Instr.fieldAt 27 t36 0) fun t37 =>
  HV P C (Instr.loadAt 23 t37) fun t38 =>
  HV P C (Builtin.len_ #[23] 3 #[t38]) fun t39 =>
  HV P C (binOp .sub 3 t39 (Value.int .i64 1)) fun t40 =>
  HV P C (Instr.indexAt 23 t34 t40) fun t41 =>
  HV P C (Instr.fieldAt 31 t41 0) fun t42 =>
  HV P C (Instr.loadAt 3 t42) fun t43 =>
  HV P C (binOp .leq 3 t30 t43) fun t44 =>
  CN t44
  (k (.tuple #[(Value.int .i64 0), (Value.int .i64 13)]) w)
  (JP 0 (fun j =>
  SV P (nilS a0_s) w fun t47 w =>
  SV P (Instr.fieldAt 27 t47 2) w fun t48 w =>
  SV P (Instr.loadAt 25 t48) w fun t49 w =>
  SV P (eqS .eql 25 (.tmp 49) (.const (Value.pointer none)) t49 (Value.pointer none)) w fun t50 w =>
  CN t50
  (SN P (callFunc 72 #[]) w fun t52 w =>
  SV P (nilS a0_s) w fun t53 w =>
  SV P (Instr.fieldAt 27 t53 2) w fun t54 w =>
  SU P (Instr.storeAt 25 t54 t52) w fun w =>
  j [] w)
  (j [] w))
  (fun _ _ w => s15_j1 P k a0_s f3 w)))
  (JP 0 (fun j =>
  SV P (nilS a0_s) w fun t47 w =>
  SV P (Instr.fieldAt 27 t47 2) w fun t48 w =>
  SV P (Instr.loadAt 25 t48) w fun t49 w =>
  SV P (eqS .eql 25 (.tmp 49) (.const (Value.pointer none)) t49 (Value.pointer none)) w fun t50 w =>
  CN t50
  (SN P (callFunc 72 #[]) w fun t52 w =>
  SV P (nilS a0_s) w fun t53 w =>
  SV P (Instr.fieldAt 27 t53 2) w fun t54 w =>
  SU P (Instr.storeAt 25 t54 t52) w fun w =>
  j [] w)
  (j [] w))
  (fun _ _ w => s15_j1 P k a0_s f3 w))))
  (k (.tuple #[(Value.int .i64 0), (Value.int .i64 1)]) w)

theorem e15 (k : Value → World → Prop) (a0_s a1_f : Value) (w : World) : s15 Tryz.prog k a0_s a1_f w = vcF Tryz.prog Tryz.f15 [] [a0_s, a1_f] k w := by kernel_rfl
theorem c15 {k : Value → World → Prop} {a0_s a1_f : Value} {w : World} (h : s15 Tryz.prog k a0_s a1_f w) : Calls Tryz.prog 15 #[a0_s, a1_f] w (retP k) :=
  calls_of_vcF [] mixedXSuper Tryz.func15 (by kernel_rfl) (Eq.mp (e15 k a0_s a1_f w) h)
theorem n15 {args : Array Value} {w : World} {k : Value → World → Prop} (h : Calls Tryz.prog 15 args w (retP k)) : SN Tryz.prog (callFunc 15 args) w k := sn_call Tryz.func15 (by kernel_rfl) (by kernel_rfl) h

/-! ### 16: (*scrinium/super.Super).At -/

def s16 (P : Program) (k : Value → World → Prop) (a0_s : Value) (a1_i : Value) (w : World) : Prop :=
  SV P (Instr.alloc 31 true (.tuple #[])) w fun t4 w =>
  SV P (eqS .eql 22 (.tmp 7) (.const (Value.pointer none)) a0_s (Value.pointer none)) w fun t8 w =>
  CN t8
  (SV P (Instr.build 31 #[]) w fun t9 w =>
  SU P (Instr.storeAt 31 t4 t9) w fun w =>
  CR P 31 t4 w fun t4_1 =>
  k (.tuple #[t4_1, (Value.int .i64 1)]) w)
  (SV P (binOp .lss 3 a1_i (Value.int .i64 0)) w fun t12 w =>
  GD t12 false
  (SV P (nilS a0_s) w fun t16 w =>
  SV P (Instr.fieldAt 27 t16 0) w fun t17 w =>
  SV P (Instr.loadAt 23 t17) w fun t18 w =>
  SV P (Builtin.len_ #[23] 3 #[t18]) w fun t19 w =>
  SV P (binOp .geq 3 a1_i t19) w fun t20 w =>
  CN t20
  (SV P (Instr.build 31 #[]) w fun t22 w =>
  SU P (Instr.storeAt 31 t4 t22) w fun w =>
  CR P 31 t4 w fun t4_1 =>
  k (.tuple #[t4_1, (Value.int .i64 19)]) w)
  (SV P (nilS a0_s) w fun t24 w =>
  SV P (Instr.fieldAt 27 t24 0) w fun t25 w =>
  SV P (Instr.loadAt 23 t25) w fun t26 w =>
  SV P (Instr.indexAt 23 t26 a1_i) w fun t28 w =>
  SV P (Instr.loadAt 31 t28) w fun t29 w =>
  SU P (Instr.storeAt 31 t4 t29) w fun w =>
  CR P 31 t4 w fun t4_1 =>
  k (.tuple #[t4_1, (Value.int .i64 0)]) w))
  (SV P (Instr.build 31 #[]) w fun t22 w =>
  SU P (Instr.storeAt 31 t4 t22) w fun w =>
  CR P 31 t4 w fun t4_1 =>
  k (.tuple #[t4_1, (Value.int .i64 19)]) w))

theorem e16 (k : Value → World → Prop) (a0_s a1_i : Value) (w : World) : s16 Tryz.prog k a0_s a1_i w = vcF Tryz.prog Tryz.f16 [] [a0_s, a1_i] k w := by kernel_rfl
theorem c16 {k : Value → World → Prop} {a0_s a1_i : Value} {w : World} (h : s16 Tryz.prog k a0_s a1_i w) : Calls Tryz.prog 16 #[a0_s, a1_i] w (retP k) :=
  calls_of_vcF [] mixedXSuper Tryz.func16 (by kernel_rfl) (Eq.mp (e16 k a0_s a1_i w) h)
theorem n16 {args : Array Value} {w : World} {k : Value → World → Prop} (h : Calls Tryz.prog 16 args w (retP k)) : SN Tryz.prog (callFunc 16 args) w k := sn_call Tryz.func16 (by kernel_rfl) (by kernel_rfl) h

/-! ### 17: (*scrinium/super.Super).Path -/

def s17 (P : Program) (k : Value → World → Prop) (a0_s : Value) (a1_i : Value) (a2_n : Value) (w : World) : Prop :=
  SN P (callFunc 75 #[a0_s, a2_n]) w fun t13 w =>
  SV P (Instr.extract t13 0) w fun t14 w =>
  SV P (Instr.extract t13 1) w fun t15 w =>
  SV P (eqS .neq 32 (.tmp 16) (.const (Value.int .i64 0)) t15 (Value.int .i64 0)) w fun t17 w =>
  CN t17
  (k (.tuple #[(Value.slice none 0 0), t15]) w)
  (SN P (callFunc 77 #[t14, a1_i]) w fun t21 w =>
  SV P (Instr.extract t21 0) w fun t22 w =>
  SV P (Instr.extract t21 1) w fun t23 w =>
  SN P (callFunc 76 #[t22, t23]) w fun t24 w =>
  SV P (Instr.extract t24 0) w fun t25 w =>
  SV P (Instr.extract t24 1) w fun t26 w =>
  k (.tuple #[t25, t26]) w)

theorem e17 (k : Value → World → Prop) (a0_s a1_i a2_n : Value) (w : World) : s17 Tryz.prog k a0_s a1_i a2_n w = vcF Tryz.prog Tryz.f17 [] [a0_s, a1_i, a2_n] k w := by kernel_rfl
theorem c17 {k : Value → World → Prop} {a0_s a1_i a2_n : Value} {w : World} (h : s17 Tryz.prog k a0_s a1_i a2_n w) : Calls Tryz.prog 17 #[a0_s, a1_i, a2_n] w (retP k) :=
  calls_of_vcF [] mixedXSuper Tryz.func17 (by kernel_rfl) (Eq.mp (e17 k a0_s a1_i a2_n w) h)
theorem n17 {args : Array Value} {w : World} {k : Value → World → Prop} (h : Calls Tryz.prog 17 args w (retP k)) : SN Tryz.prog (callFunc 17 args) w k := sn_call Tryz.func17 (by kernel_rfl) (by kernel_rfl) h

/-! ### 18: (*scrinium/super.Super).Links -/

def s18 (P : Program) (k : Value → World → Prop) (a0_s : Value) (a1_m : Value) (a2_n : Value) (w : World) : Prop :=
  SN P (callFunc 75 #[a0_s, a2_n]) w fun t13 w =>
  SV P (Instr.extract t13 0) w fun t14 w =>
  SV P (Instr.extract t13 1) w fun t15 w =>
  SV P (eqS .neq 32 (.tmp 16) (.const (Value.int .i64 0)) t15 (Value.int .i64 0)) w fun t17 w =>
  CN t17
  (k (.tuple #[(Value.slice none 0 0), t15]) w)
  (SN P (callFunc 78 #[t14, a1_m]) w fun t21 w =>
  SV P (Instr.extract t21 0) w fun t22 w =>
  SV P (Instr.extract t21 1) w fun t23 w =>
  SN P (callFunc 76 #[t22, t23]) w fun t24 w =>
  SV P (Instr.extract t24 0) w fun t25 w =>
  SV P (Instr.extract t24 1) w fun t26 w =>
  k (.tuple #[t25, t26]) w)

theorem e18 (k : Value → World → Prop) (a0_s a1_m a2_n : Value) (w : World) : s18 Tryz.prog k a0_s a1_m a2_n w = vcF Tryz.prog Tryz.f18 [] [a0_s, a1_m, a2_n] k w := by kernel_rfl
theorem c18 {k : Value → World → Prop} {a0_s a1_m a2_n : Value} {w : World} (h : s18 Tryz.prog k a0_s a1_m a2_n w) : Calls Tryz.prog 18 #[a0_s, a1_m, a2_n] w (retP k) :=
  calls_of_vcF [] mixedXSuper Tryz.func18 (by kernel_rfl) (Eq.mp (e18 k a0_s a1_m a2_n w) h)
theorem n18 {args : Array Value} {w : World} {k : Value → World → Prop} (h : Calls Tryz.prog 18 args w (retP k)) : SN Tryz.prog (callFunc 18 args) w k := sn_call Tryz.func18 (by kernel_rfl) (by kernel_rfl) h

/-! ### 19: (*scrinium/super.Super).Find -/

def s19 (P : Program) (k : Value → World → Prop) (a0_s : Value) (a1_window : Value) (w : World) : Prop :=
  SV P (Instr.box 3 a1_window) w fun window3 w =>
  SV P (eqS .eql 22 (.tmp 7) (.const (Value.pointer none)) a0_s (Value.pointer none)) w fun t8 w =>
  CN t8
  (k (.tuple #[(Value.int .i64 0), (Value.bool false)]) w)
  (SV P (nilS a0_s) w fun t10 w =>
  SV P (Instr.fieldAt 27 t10 0) w fun t11 w =>
  SV P (Instr.loadAt 23 t11) w fun t12 w =>
  SV P (Instr.makeFunc (.func 80) #[] #[window3]) w fun t13 w =>
  SN P (callFunc 79 #[t12, t13]) w fun t14 w =>
  SV P (Builtin.max_ #[3, 3] 3 #[t14, (Value.int .i64 0)]) w fun t16 w =>
  SV P (binOp .geq 3 t14 (Value.int .i64 0)) w fun t18 w =>
  k (.tuple #[t16, t18]) w)

theorem e19 (k : Value → World → Prop) (a0_s a1_window : Value) (w : World) : s19 Tryz.prog k a0_s a1_window w = vcF Tryz.prog Tryz.f19 [] [a0_s, a1_window] k w := by kernel_rfl
theorem c19 {k : Value → World → Prop} {a0_s a1_window : Value} {w : World} (h : s19 Tryz.prog k a0_s a1_window w) : Calls Tryz.prog 19 #[a0_s, a1_window] w (retP k) :=
  calls_of_vcF [] mixedXSuper Tryz.func19 (by kernel_rfl) (Eq.mp (e19 k a0_s a1_window w) h)
theorem n19 {args : Array Value} {w : World} {k : Value → World → Prop} (h : Calls Tryz.prog 19 args w (retP k)) : SN Tryz.prog (callFunc 19 args) w k := sn_call Tryz.func19 (by kernel_rfl) (by kernel_rfl) h

/-! ### 22: (*scrinium/super.Super).Size -/

def s22 (P : Program) (k : Value → World → Prop) (a0_s : Value) (w : World) : Prop :=
  SV P (eqS .eql 22 (.tmp 3) (.const (Value.pointer none)) a0_s (Value.pointer none)) w fun t4 w =>
  CN t4
  (k (Value.int .i64 0) w)
  (SV P (nilS a0_s) w fun t6 w =>
  SV P (Instr.fieldAt 27 t6 0) w fun t7 w =>
  SV P (Instr.loadAt 23 t7) w fun t8 w =>
  SV P (Builtin.len_ #[23] 3 #[t8]) w fun t9 w =>
  k t9 w)

theorem e22 (k : Value → World → Prop) (a0_s : Value) (w : World) : s22 Tryz.prog k a0_s w = vcF Tryz.prog Tryz.f22 [] [a0_s] k w := by kernel_rfl
theorem c22 {k : Value → World → Prop} {a0_s : Value} {w : World} (h : s22 Tryz.prog k a0_s w) : Calls Tryz.prog 22 #[a0_s] w (retP k) :=
  calls_of_vcF [] mixedXSuper Tryz.func22 (by kernel_rfl) (Eq.mp (e22 k a0_s w) h)
theorem n22 {args : Array Value} {w : World} {k : Value → World → Prop} (h : Calls Tryz.prog 22 args w (retP k)) : SN Tryz.prog (callFunc 22 args) w k := sn_call Tryz.func22 (by kernel_rfl) (by kernel_rfl) h

/-! ### 23: (*scrinium/super.Super).All -/

def s23 (P : Program) (k : Value → World → Prop) (a0_s : Value) (w : World) : Prop :=
  SV P (eqS .eql 22 (.tmp 3) (.const (Value.pointer none)) a0_s (Value.pointer none)) w fun t4 w =>
  CN t4
  (k (Value.slice none 0 0) w)
  (SV P (nilS a0_s) w fun t6 w =>
  SV P (Instr.fieldAt 27 t6 0) w fun t7 w =>
  SV P (Instr.loadAt 23 t7) w fun t8 w =>
  SN P (callFunc 85 #[t8]) w fun t9 w =>
  k t9 w)

theorem e23 (k : Value → World → Prop) (a0_s : Value) (w : World) : s23 Tryz.prog k a0_s w = vcF Tryz.prog Tryz.f23 [] [a0_s] k w := by kernel_rfl
theorem c23 {k : Value → World → Prop} {a0_s : Value} {w : World} (h : s23 Tryz.prog k a0_s w) : Calls Tryz.prog 23 #[a0_s] w (retP k) :=
  calls_of_vcF [] mixedXSuper Tryz.func23 (by kernel_rfl) (Eq.mp (e23 k a0_s w) h)
theorem n23 {args : Array Value} {w : World} {k : Value → World → Prop} (h : Calls Tryz.prog 23 args w (retP k)) : SN Tryz.prog (callFunc 23 args) w k := sn_call Tryz.func23 (by kernel_rfl) (by kernel_rfl) h

/-! ### 24: (*scrinium/super.Super).Root -/

def s24 (P : Program) (k : Value → World → Prop) (a0_s : Value) (w : World) : Prop :=
  SV P (Instr.alloc 29 true (.tuple #[])) w fun t2 w =>
  SN P (callFunc 22 #[a0_s]) w fun t4 w =>
  SV P (eqS .eql 3 (.tmp 4) (.const (Value.int .i64 0)) t4 (Value.int .i64 0)) w fun t5 w =>
  CN t5
  (SN P (callFunc 86 #[]) w fun t6 w =>
  SU P (Instr.storeAt 29 t2 t6) w fun w =>
  CR P 29 t2 w fun t2_1 =>
  k t2_1 w)
  (SV P (nilS a0_s) w fun t8 w =>
  SV P (Instr.fieldAt 27 t8 2) w fun t9 w =>
  SV P (Instr.loadAt 25 t9) w fun t10 w =>
  SN P (callFunc 87 #[t10]) w fun t11 w =>
  SU P (Instr.storeAt 29 t2 t11) w fun w =>
  CR P 29 t2 w fun t2_1 =>
  k t2_1 w)

theorem e24 (k : Value → World → Prop) (a0_s : Value) (w : World) : s24 Tryz.prog k a0_s w = vcF Tryz.prog Tryz.f24 [] [a0_s] k w := by kernel_rfl
theorem c24 {k : Value → World → Prop} {a0_s : Value} {w : World} (h : s24 Tryz.prog k a0_s w) : Calls Tryz.prog 24 #[a0_s] w (retP k) :=
  calls_of_vcF [] mixedXSuper Tryz.func24 (by kernel_rfl) (Eq.mp (e24 k a0_s w) h)
theorem n24 {args : Array Value} {w : World} {k : Value → World → Prop} (h : Calls Tryz.prog 24 args w (retP k)) : SN Tryz.prog (callFunc 24 args) w k := sn_call Tryz.func24 (by kernel_rfl) (by kernel_rfl) h

/-! ### 25: (*scrinium/super.Super).Copy -/

def s25 (P : Program) (k : Value → World → Prop) (a0_s : Value) (w : World) : Prop :=
  SV P (eqS .eql 22 (.tmp 3) (.const (Value.pointer none)) a0_s (Value.pointer none)) w fun t4 w =>
  CN t4
  (k (Value.pointer none) w)
  (HR w fun C w =>
  HV P C (nilS a0_s) fun t6 =>
  HV P C (Instr.fieldAt 27 t6 0) fun t7 =>
  HV P C (Instr.loadAt 23 t7) fun t8 =>
  SN P (callFunc 85 #[t8]) w fun t9 w =>
  RS C w fun C =>
  HV P C (nilS a0_s) fun t11 =>
  HV P C (Instr.fieldAt 27 t11 1) fun t12 =>
  HV P C (Instr.loadAt 24 t12) fun t13 =>
  SN P (callFunc 88 #[t13]) w fun t14 w =>
  RS C w fun C =>
  HV P C (nilS a0_s) fun t16 =>
  HV P C (Instr.fieldAt 27 t16 2) fun t17 =>
  HV P C (Instr.loadAt 25 t17) fun t18 =>
  SN P (callFunc 89 #[t18]) w fun t19 w =>
  RS C w fun C =>
  HV P C (Instr.build 27 #[(0, t9), (1, t14), (2, t19)]) fun t20 =>
  SV P (Instr.box 27 t20) w fun t21 w =>
  RS C w fun _ =>
  k t21 w)

theorem e25 (k : Value → World → Prop) (a0_s : Value) (w : World) : s25 Tryz.prog k a0_s w = vcF Tryz.prog Tryz.f25 [] [a0_s] k w := by kernel_rfl
theorem c25 {k : Value → World → Prop} {a0_s : Value} {w : World} (h : s25 Tryz.prog k a0_s w) : Calls Tryz.prog 25 #[a0_s] w (retP k) :=
  calls_of_vcF [] mixedXSuper Tryz.func25 (by kernel_rfl) (Eq.mp (e25 k a0_s w) h)
theorem n25 {args : Array Value} {w : World} {k : Value → World → Prop} (h : Calls Tryz.prog 25 args w (retP k)) : SN Tryz.prog (callFunc 25 args) w k := sn_call Tryz.func25 (by kernel_rfl) (by kernel_rfl) h

/-! ### 26: (*scrinium/super.Super).Head -/

def s26 (P : Program) (k : Value → World → Prop) (a0_s : Value) (a1_key : Value) (a2_clock : Value) (w : World) : Prop :=
  SV P (Instr.alloc 48 true (.tuple #[])) w fun t6 w =>
  SN P (callFunc 22 #[a0_s]) w fun t9 w =>
  SN P (callFunc 24 #[a0_s]) w fun t11 w =>
  SN P (callFunc 90 #[a1_key, t9, t11, a2_clock]) w fun t13 w =>
  SU P (Instr.storeAt 48 t6 t13) w fun w =>
  CR P 48 t6 w fun t6_1 =>
  k t6_1 w

theorem e26 (k : Value → World → Prop) (a0_s a1_key a2_clock : Value) (w : World) : s26 Tryz.prog k a0_s a1_key a2_clock w = vcF Tryz.prog Tryz.f26 [] [a0_s, a1_key, a2_clock] k w := by kernel_rfl
theorem c26 {k : Value → World → Prop} {a0_s a1_key a2_clock : Value} {w : World} (h : s26 Tryz.prog k a0_s a1_key a2_clock w) : Calls Tryz.prog 26 #[a0_s, a1_key, a2_clock] w (retP k) :=
  calls_of_vcF [] mixedXSuper Tryz.func26 (by kernel_rfl) (Eq.mp (e26 k a0_s a1_key a2_clock w) h)
theorem n26 {args : Array Value} {w : World} {k : Value → World → Prop} (h : Calls Tryz.prog 26 args w (retP k)) : SN Tryz.prog (callFunc 26 args) w k := sn_call Tryz.func26 (by kernel_rfl) (by kernel_rfl) h

/-! ### 75: (*scrinium/super.Super).first -/

def s75 (P : Program) (k : Value → World → Prop) (a0_s : Value) (a1_n : Value) (w : World) : Prop :=
  SV P (eqS .eql 22 (.tmp 7) (.const (Value.pointer none)) a0_s (Value.pointer none)) w fun t8 w =>
  CN t8
  (k (.tuple #[(Value.slice none 0 0), (Value.int .i64 1)]) w)
  (SV P (binOp .lss 3 a1_n (Value.int .i64 1)) w fun t11 w =>
  GD t11 false
  (SV P (nilS a0_s) w fun t15 w =>
  SV P (Instr.fieldAt 27 t15 1) w fun t16 w =>
  SV P (Instr.loadAt 24 t16) w fun t17 w =>
  SV P (Builtin.len_ #[24] 3 #[t17]) w fun t18 w =>
  SV P (binOp .gtr 3 a1_n t18) w fun t19 w =>
  CN t19
  (k (.tuple #[(Value.slice none 0 0), (Value.int .i64 19)]) w)
  (SV P (nilS a0_s) w fun t22 w =>
  SV P (Instr.fieldAt 27 t22 1) w fun t23 w =>
  SV P (Instr.loadAt 24 t23) w fun t24 w =>
  SV P (Instr.sliceAt 24 t24 none (some a1_n) (some a1_n)) w fun t27 w =>
  k (.tuple #[t27, (Value.int .i64 0)]) w))
  (k (.tuple #[(Value.slice none 0 0), (Value.int .i64 19)]) w))

theorem e75 (k : Value → World → Prop) (a0_s a1_n : Value) (w : World) : s75 Tryz.prog k a0_s a1_n w = vcF Tryz.prog Tryz.f75 [] [a0_s, a1_n] k w := by kernel_rfl
theorem c75 {k : Value → World → Prop} {a0_s a1_n : Value} {w : World} (h : s75 Tryz.prog k a0_s a1_n w) : Calls Tryz.prog 75 #[a0_s, a1_n] w (retP k) :=
  calls_of_vcF [] mixedXSuper Tryz.func75 (by kernel_rfl) (Eq.mp (e75 k a0_s a1_n w) h)
theorem n75 {args : Array Value} {w : World} {k : Value → World → Prop} (h : Calls Tryz.prog 75 args w (retP k)) : SN Tryz.prog (callFunc 75 args) w k := sn_call Tryz.func75 (by kernel_rfl) (by kernel_rfl) h

/-! ### 76: scrinium/super.told -/

def s76 (P : Program) (k : Value → World → Prop) (a0_l : Value) (a1_is : Value) (w : World) : Prop :=
  SV P (Op.unary .not a1_is) w fun t7 w =>
  CN t7
  (k (.tuple #[(Value.slice none 0 0), (Value.int .i64 19)]) w)
  (k (.tuple #[a0_l, (Value.int .i64 0)]) w)

theorem e76 (k : Value → World → Prop) (a0_l a1_is : Value) (w : World) : s76 Tryz.prog k a0_l a1_is w = vcF Tryz.prog Tryz.f76 [] [a0_l, a1_is] k w := by kernel_rfl
theorem c76 {k : Value → World → Prop} {a0_l a1_is : Value} {w : World} (h : s76 Tryz.prog k a0_l a1_is w) : Calls Tryz.prog 76 #[a0_l, a1_is] w (retP k) :=
  calls_of_vcF [] mixedXSuper Tryz.func76 (by kernel_rfl) (Eq.mp (e76 k a0_l a1_is w) h)
theorem n76 {args : Array Value} {w : World} {k : Value → World → Prop} (h : Calls Tryz.prog 76 args w (retP k)) : SN Tryz.prog (callFunc 76 args) w k := sn_call Tryz.func76 (by kernel_rfl) (by kernel_rfl) h

/-! ### 80: (*scrinium/super.Super).Find$1 -/

def s80 (P : Program) (k : Value → World → Prop) (a0_f : Value) (a1 : Value) (w : World) : Prop :=
  SV P (Instr.box 31 a0_f) w fun f2 w =>
  SV P (Instr.fieldAt 31 f2 0) w fun t4 w =>
  SV P (Instr.loadAt 3 t4) w fun t5 w =>
  SV P (Instr.loadAt 3 a1) w fun t6 w =>
  SV P (eqS .eql 3 (.tmp 5) (.tmp 6) t5 t6) w fun t7 w =>
  k t7 w

theorem e80 (k : Value → World → Prop) (a0_f a1 : Value) (w : World) : s80 Tryz.prog k a0_f a1 w = vcF Tryz.prog Tryz.f80 [] [a0_f, a1] k w := by kernel_rfl
theorem c80 {k : Value → World → Prop} {a0_f a1 : Value} {w : World} (h : s80 Tryz.prog k a0_f a1 w) : Calls Tryz.prog 80 #[a0_f, a1] w (retP k) :=
  calls_of_vcF [] mixedXSuper Tryz.func80 (by kernel_rfl) (Eq.mp (e80 k a0_f a1 w) h)
theorem n80 {args : Array Value} {w : World} {k : Value → World → Prop} (h : Calls Tryz.prog 80 args w (retP k)) : SN Tryz.prog (callFunc 80 args) w k := sn_call Tryz.func80 (by kernel_rfl) (by kernel_rfl) h

/-! ### 84: scrinium/super.New -/

def s84 (P : Program) (k : Value → World → Prop) (w : World) : Prop :=
  SN P (callFunc 72 #[]) w fun t1 w =>
  SV P (Instr.build 27 #[(2, t1)]) w fun t2 w =>
  SV P (Instr.box 27 t2) w fun t3 w =>
  k t3 w

theorem e84 (k : Value → World → Prop) (w : World) : s84 Tryz.prog k  w = vcF Tryz.prog Tryz.f84 [] [] k w := by kernel_rfl
theorem c84 {k : Value → World → Prop} {w : World} (h : s84 Tryz.prog k  w) : Calls Tryz.prog 84 #[] w (retP k) :=
  calls_of_vcF [] mixedXSuper Tryz.func84 (by kernel_rfl) (Eq.mp (e84 k  w) h)
theorem n84 {args : Array Value} {w : World} {k : Value → World → Prop} (h : Calls Tryz.prog 84 args w (retP k)) : SN Tryz.prog (callFunc 84 args) w k := sn_call Tryz.func84 (by kernel_rfl) (by kernel_rfl) h

end Go.Proofs.YtkdghnbogkbedaaGreatDoor
