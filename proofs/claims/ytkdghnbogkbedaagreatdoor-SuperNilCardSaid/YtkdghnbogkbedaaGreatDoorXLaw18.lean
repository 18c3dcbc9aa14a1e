/-
  For each function: the condition that its code comes to, and that it is enough. Printed by sh.py (a program of this work).
-/
import Derived.Test.YtkdghnbogkbedaaGreatDoorProg
import Derived.Test.YtkdghnbogkbedaaGreatDoorTypes
namespace Go.Proofs.YtkdghnbogkbedaaGreatDoor
open Go Go.Sh
set_option maxRecDepth 100000


theorem mixedXLaw18 : Tryz.prog.follows .mixedOrders = true := by kernel_rfl

/-! ### 3: scrinium/scriniumlaw18.SuperNil -/

def s3 (P : Program) (k : Value → World → Prop) (a0_i : Value) (w : World) : Prop :=
  SV P (Instr.build 27 #[]) w fun t19 w =>
  SV P (Instr.box 27 t19) w fun t20 w =>
  SV P (Instr.build 31 #[(0, (Value.int .i64 1)), (1, (Value.int .i64 1))]) w fun t21 w =>
  SV P (Instr.alloc 31 true (.tuple #[])) w fun f5 w =>
  SU P (Instr.storeAt 31 f5 t21) w fun w =>
  SV P (Instr.loadAt 31 f5) w fun t24 w =>
  SN P (callFunc 15 #[(Value.pointer none), t24]) w fun t25 w =>
  SV P (Instr.extract t25 0) w fun _ w =>
  SV P (Instr.extract t25 1) w fun t27 w =>
  SN P (callFunc 16 #[(Value.pointer none), a0_i]) w fun t31 w =>
  SV P (Instr.extract t31 0) w fun t32 w =>
  SV P (Instr.extract t31 1) w fun t33 w =>
  SV P (Instr.alloc 31 true (.tuple #[])) w fun t8 w =>
  SU P (Instr.storeAt 31 t8 t32) w fun w =>
  SN P (callFunc 17 #[(Value.pointer none), a0_i, (Value.int .i64 1)]) w fun t37 w =>
  SV P (Instr.extract t37 0) w fun _ w =>
  SV P (Instr.extract t37 1) w fun t39 w =>
  SN P (callFunc 18 #[(Value.pointer none), a0_i, (Value.int .i64 1)]) w fun t43 w =>
  SV P (Instr.extract t43 0) w fun _ w =>
  SV P (Instr.extract t43 1) w fun t45 w =>
  SN P (callFunc 19 #[(Value.pointer none), a0_i]) w fun t49 w =>
  SV P (Instr.extract t49 0) w fun _ w =>
  SV P (Instr.extract t49 1) w fun t51 w =>
  SN P (callFunc 20 #[(Value.slice none 0 0)]) w fun t52 w =>
  SV P (Instr.alloc 29 true (.tuple #[])) w fun empty16 w =>
  SU P (Instr.storeAt 29 empty16 t52) w fun w =>
  SV P (Instr.loadAt 31 f5) w fun t55 w =>
  SN P (callFunc 15 #[t20, t55]) w fun t56 w =>
  SV P (Instr.extract t56 0) w fun t57 w =>
  SV P (Instr.extract t56 1) w fun t58 w =>
  HR w fun C w =>
  SN P (callFunc 21 #[]) w fun t59 w =>
  RS C w fun C =>
  GD t59 true
  (HV P C (eqS .eql 32 (.tmp 61) (.const (Value.int .i64 1)) t27 (Value.int .i64 1)) fun t62 =>
  GD t62 true
  (HV P C (eqS .eql 32 (.tmp 65) (.const (Value.int .i64 1)) t33 (Value.int .i64 1)) fun t66 =>
  GD t66 true
  (HV P C (eqS .eql 32 (.tmp 69) (.const (Value.int .i64 1)) t39 (Value.int .i64 1)) fun t70 =>
  GD t70 true
  (HV P C (eqS .eql 32 (.tmp 73) (.const (Value.int .i64 1)) t45 (Value.int .i64 1)) fun t74 =>
  GD t74 true
  (HV P C (Op.unary .not t51) fun t78 =>
  GD t78 true
  (SN P (callFunc 22 #[(Value.pointer none)]) w fun t82 w =>
  RS C w fun C =>
  SN P (callFunc 23 #[(Value.pointer none)]) w fun t84 w =>
  RS C w fun C =>
  HV P C (Builtin.len_ #[23] 3 #[t84]) fun t85 =>
  HV P C (binOp .add 3 t82 t85) fun t86 =>
  HV P C (eqS .eql 3 (.tmp 86) (.const (Value.int .i64 0)) t86 (Value.int .i64 0)) fun t87 =>
  GD t87 true
  (SN P (callFunc 24 #[(Value.pointer none)]) w fun t91 w =>
  RS C w fun C =>
  HV P C (Instr.loadAt 29 empty16) fun t92 =>
  HV P C (eqS .eql 29 (.tmp 91) (.tmp 92) t91 t92) fun t93 =>
  GD t93 true
  (SN P (callFunc 25 #[(Value.pointer none)]) w fun t97 w =>
  RS C w fun C =>
  HV P C (eqS .eql 22 (.tmp 97) (.const (Value.pointer none)) t97 (Value.pointer none)) fun t98 =>
  GD t98 true
  (SN P (callFunc 26 #[(Value.pointer none), (str [107]), (Value.int .i64 5)]) w fun t102 w =>
  RS C w fun C =>
  HV P C (Instr.loadAt 29 empty16) fun t103 =>
  SN P (callFunc 27 #[(str [107]), (Value.int .i64 0), t103, (Value.int .i64 5)]) w fun t104 w =>
  RS C w fun C =>
  HV P C (eqS .eql 48 (.tmp 102) (.tmp 104) t102 t104) fun t105 =>
  GD t105 true
  (HV P C (eqS .eql 3 (.tmp 108) (.const (Value.int .i64 0)) t57 (Value.int .i64 0)) fun t109 =>
  GD t109 true
  (HV P C (eqS .eql 32 (.tmp 112) (.const (Value.int .i64 0)) t58 (Value.int .i64 0)) fun t113 =>
  GD t113 true
  (SN P (callFunc 22 #[t20]) w fun t117 w =>
  RS C w fun C =>
  HV P C (eqS .eql 3 (.tmp 117) (.const (Value.int .i64 1)) t117 (Value.int .i64 1)) fun t118 =>
  k t118 w)
  (k (Value.bool false) w))
  (k (Value.bool false) w))
  (k (Value.bool false) w))
  (k (Value.bool false) w))
  (k (Value.bool false) w))
  (k (Value.bool false) w))
  (k (Value.bool false) w))
  (k (Value.bool false) w))
  (k (Value.bool false) w))
  (k (Value.bool false) w))
  (k (Value.bool false) w))
  (k (Value.bool false) w)

theorem e3 (k : Value → World → Prop) (a0_i : Value) (w : World) : s3 Tryz.prog k a0_i w = vcF Tryz.prog Tryz.f3 [] [a0_i] k w := by kernel_rfl
theorem c3 {k : Value → World → Prop} {a0_i : Value} {w : World} (h : s3 Tryz.prog k a0_i w) : Calls Tryz.prog 3 #[a0_i] w (retP k) :=
  calls_of_vcF [] mixedXLaw18 Tryz.func3 (by kernel_rfl) (Eq.mp (e3 k a0_i w) h)
theorem n3 {args : Array Value} {w : World} {k : Value → World → Prop} (h : Calls Tryz.prog 3 args w (retP k)) : SN Tryz.prog (callFunc 3 args) w k := sn_call Tryz.func3 (by kernel_rfl) (by kernel_rfl) h

/-! ### 21: scrinium/scriniumlaw18.awake -/

def s21 (P : Program) (k : Value → World → Prop) (w : World) : Prop :=
  SN P (callFunc 84 #[]) w fun t12 w =>
  SV P (eqS .eql 22 (.tmp 13) (.const (Value.pointer none)) t12 (Value.pointer none)) w fun t14 w =>
  CN t14
  (k (Value.bool false) w)
  (SV P (Instr.build 31 #[(0, (Value.int .i64 2)), (1, (Value.int .i64 1))]) w fun t17 w =>
  SN P (callFunc 15 #[t12, t17]) w fun t18 w =>
  SV P (Instr.extract t18 0) w fun t19 w =>
  SV P (Instr.extract t18 1) w fun t20 w =>
  SV P (Instr.build 31 #[(0, (Value.int .i64 5)), (1, (Value.int .i64 1))]) w fun t23 w =>
  SN P (callFunc 15 #[t12, t23]) w fun t24 w =>
  SV P (Instr.extract t24 0) w fun t25 w =>
  SV P (Instr.extract t24 1) w fun t26 w =>
  SV P (Instr.build 31 #[(0, (Value.int .i64 5)), (1, (Value.int .i64 1))]) w fun t29 w =>
  SN P (callFunc 15 #[t12, t29]) w fun t30 w =>
  SV P (Instr.extract t30 0) w fun _ w =>
  SV P (Instr.extract t30 1) w fun t32 w =>
  SN P (callFunc 19 #[t12, (Value.int .i64 5)]) w fun t35 w =>
  SV P (Instr.extract t35 0) w fun t36 w =>
  SV P (Instr.extract t35 1) w fun t37 w =>
  SN P (callFunc 19 #[t12, (Value.int .i64 3)]) w fun t40 w =>
  SV P (Instr.extract t40 0) w fun _ w =>
  SV P (Instr.extract t40 1) w fun t42 w =>
  SV P (eqS .eql 3 (.tmp 43) (.const (Value.int .i64 0)) t19 (Value.int .i64 0)) w fun t44 w =>
  GD t44 true
  (SV P (eqS .eql 32 (.tmp 46) (.const (Value.int .i64 0)) t20 (Value.int .i64 0)) w fun t47 w =>
  GD t47 true
  (SV P (eqS .eql 3 (.tmp 50) (.const (Value.int .i64 1)) t25 (Value.int .i64 1)) w fun t51 w =>
  GD t51 true
  (SV P (eqS .eql 32 (.tmp 54) (.const (Value.int .i64 0)) t26 (Value.int .i64 0)) w fun t55 w =>
  GD t55 true
  (SV P (eqS .eql 32 (.tmp 58) (.const (Value.int .i64 13)) t32 (Value.int .i64 13)) w fun t59 w =>
  GD t59 true
  (SV P (eqS .eql 3 (.tmp 62) (.const (Value.int .i64 1)) t36 (Value.int .i64 1)) w fun t63 w =>
  GD t63 true
  (GD t37 true
  (SV P (Op.unary .not t42) w fun t70 w =>
  k t70 w)
  (k (Value.bool false) w))
  (k (Value.bool false) w))
  (k (Value.bool false) w))
  (k (Value.bool false) w))
  (k (Value.bool false) w))
  (k (Value.bool false) w))
  (k (Value.bool false) w))

theorem e21 (k : Value → World → Prop) (w : World) : s21 Tryz.prog k  w = vcF Tryz.prog Tryz.f21 [] [] k w := by kernel_rfl
theorem c21 {k : Value → World → Prop} {w : World} (h : s21 Tryz.prog k  w) : Calls Tryz.prog 21 #[] w (retP k) :=
  calls_of_vcF [] mixedXLaw18 Tryz.func21 (by kernel_rfl) (Eq.mp (e21 k  w) h)
theorem n21 {args : Array Value} {w : World} {k : Value → World → Prop} (h : Calls Tryz.prog 21 args w (retP k)) : SN Tryz.prog (callFunc 21 args) w k := sn_call Tryz.func21 (by kernel_rfl) (by kernel_rfl) h

end Go.Proofs.YtkdghnbogkbedaaGreatDoor
