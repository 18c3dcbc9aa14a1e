/-
  For each function: the condition that its code comes to, and that it is enough. Printed by sh.py (a program of this work).
-/
import Derived.Test.YtkdghnbogkbedaaGreatDoorProg
import Derived.Test.YtkdghnbogkbedaaGreatDoorTypes
namespace Go.Proofs.YtkdghnbogkbedaaGreatDoor
open Go Go.Sh
set_option maxRecDepth 100000


theorem mixedXFront : Tryz.prog.follows .mixedOrders = true := by kernel_rfl

/-! ### 72: scrinium/front.New -/

def s72 (P : Program) (k : Value → World → Prop) (w : World) : Prop :=
  SV P (Instr.build 190 #[]) w fun t1 w =>
  SV P (Instr.box 190 t1) w fun t2 w =>
  k t2 w

theorem e72 (k : Value → World → Prop) (w : World) : s72 Tryz.prog k  w = vcF Tryz.prog Tryz.f72 [] [] k w := by kernel_rfl
theorem c72 {k : Value → World → Prop} {w : World} (h : s72 Tryz.prog k  w) : Calls Tryz.prog 72 #[] w (retP k) :=
  calls_of_vcF [] mixedXFront Tryz.func72 (by kernel_rfl) (Eq.mp (e72 k  w) h)
theorem n72 {args : Array Value} {w : World} {k : Value → World → Prop} (h : Calls Tryz.prog 72 args w (retP k)) : SN Tryz.prog (callFunc 72 args) w k := sn_call Tryz.func72 (by kernel_rfl) (by kernel_rfl) h

/-! ### 74: (*scrinium/front.Front).Add -/

def s74_l1 (P : Program) (k : Value → World → Prop) (a0_f : Value) (x3 : Value) (peaks5 : Value) (k6 : Value) (next : List Value → World → Prop) (w : World) : Prop :=
  SV P (binOp .rem 3 k6 (Value.int .i64 2)) w fun t29 w =>
  SV P (eqS .eql 3 (.tmp 29) (.const (Value.int .i64 0)) t29 (Value.int .i64 0)) w fun t30 w =>
  CN t30
  (SV P (nilS a0_f) w fun t44 w =>
  SV P (Instr.fieldAt 190 t44 0) w fun t45 w =>
  SV P (Instr.loadAt 3 t45) w fun t46 w =>
  SV P (binOp .add 3 t46 (Value.int .i64 1)) w fun t47 w =>
  SV P (nilS a0_f) w fun t48 w =>
  SV P (Instr.fieldAt 190 t48 0) w fun t49 w =>
  SU P (Instr.storeAt 3 t49 t47) w fun w =>
  SV P (Instr.loadAt 29 x3) w fun t52 w =>
  SV P (Instr.buildSlice 24 1 #[(0, t52)]) w fun t53 w =>
  SV P (Builtin.append_ #[24, 24] 24 #[peaks5, t53]) w fun t54 w =>
  SV P (nilS a0_f) w fun t55 w =>
  SV P (Instr.fieldAt 190 t55 1) w fun t56 w =>
  SU P (Instr.storeAt 24 t56 t54) w fun w =>
  SV P (nilS a0_f) w fun t58 w =>
  SV P (Instr.fieldAt 190 t58 0) w fun t59 w =>
  SV P (Instr.loadAt 3 t59) w fun t60 w =>
  k t60 w)
  (SV P (Builtin.len_ #[24] 3 #[peaks5]) w fun t32 w =>
  SV P (binOp .sub 3 t32 (Value.int .i64 1)) w fun t33 w =>
  HR w fun C w =>
  HV P C (Instr.indexAt 24 peaks5 t33) fun t36 =>
  HV P C (Instr.loadAt 29 t36) fun t37 =>
  HV P C (Instr.loadAt 29 x3) fun t38 =>
  SN P (callFunc 142 #[t37, t38]) w fun t39 w =>
  SU P (Instr.storeAt 29 x3 t39) w fun w =>
  SV P (Instr.sliceAt 24 peaks5 none (some t33) none) w fun t42 w =>
  SV P (binOp .quo 3 k6 (Value.int .i64 2)) w fun t27 w =>
  next [t42, t27] w)

def s74 (P : Program) (k : Value → World → Prop) (a0_f : Value) (a1_x : Value) (w : World) : Prop :=
  SV P (Instr.box 29 a1_x) w fun x3 w =>
  SV P (eqS .eql 25 (.tmp 8) (.const (Value.pointer none)) a0_f (Value.pointer none)) w fun t9 w =>
  GD t9 false
  (SV P (nilS a0_f) w fun t12 w =>
  SV P (Instr.fieldAt 190 t12 0) w fun t13 w =>
  SV P (Instr.loadAt 3 t13) w fun t14 w =>
  SV P (binOp .geq 3 t14 (Value.int .i64 1099511627776)) w fun t15 w =>
  CN t15
  (k (Value.int .i64 0) w)
  (SV P (nilS a0_f) w fun t18 w =>
  SV P (Instr.fieldAt 190 t18 1) w fun t19 w =>
  SV P (Instr.loadAt 24 t19) w fun t20 w =>
  SN P (callFunc 88 #[t20]) w fun t21 w =>
  SV P (nilS a0_f) w fun t23 w =>
  SV P (Instr.fieldAt 190 t23 0) w fun t24 w =>
  SV P (Instr.loadAt 3 t24) w fun t25 w =>
  LP 2 [t21, t25] w (fun next _ us w => s74_l1 P k a0_f x3 (us.getD 0 undef) (us.getD 1 undef) next w)))
  (k (Value.int .i64 0) w)

theorem e74 (k : Value → World → Prop) (a0_f a1_x : Value) (w : World) : s74 Tryz.prog k a0_f a1_x w = vcF Tryz.prog Tryz.f74 [5, 6] [a0_f, a1_x] k w := by kernel_rfl
theorem c74 {k : Value → World → Prop} {a0_f a1_x : Value} {w : World} (h : s74 Tryz.prog k a0_f a1_x w) : Calls Tryz.prog 74 #[a0_f, a1_x] w (retP k) :=
  calls_of_vcF [5, 6] mixedXFront Tryz.func74 (by kernel_rfl) (Eq.mp (e74 k a0_f a1_x w) h)
theorem n74 {args : Array Value} {w : World} {k : Value → World → Prop} (h : Calls Tryz.prog 74 args w (retP k)) : SN Tryz.prog (callFunc 74 args) w k := sn_call Tryz.func74 (by kernel_rfl) (by kernel_rfl) h

/-! ### 89: (*scrinium/front.Front).Copy -/

def s89 (P : Program) (k : Value → World → Prop) (a0_f : Value) (w : World) : Prop :=
  SV P (eqS .eql 25 (.tmp 3) (.const (Value.pointer none)) a0_f (Value.pointer none)) w fun t4 w =>
  CN t4
  (k (Value.pointer none) w)
  (HR w fun C w =>
  HV P C (nilS a0_f) fun t6 =>
  HV P C (Instr.fieldAt 190 t6 0) fun t7 =>
  HV P C (Instr.loadAt 3 t7) fun t8 =>
  HV P C (nilS a0_f) fun t10 =>
  HV P C (Instr.fieldAt 190 t10 1) fun t11 =>
  HV P C (Instr.loadAt 24 t11) fun t12 =>
  SN P (callFunc 88 #[t12]) w fun t13 w =>
  C w ∧
  HV P C (Instr.build 190 #[(0, t8), (1, t13)]) fun t14 =>
  SV P (Instr.box 190 t14) w fun t15 w =>
  RS C w fun _ =>
  k t15 w)

theorem e89 (k : Value → World → Prop) (a0_f : Value) (w : World) : s89 Tryz.prog k a0_f w = vcF Tryz.prog Tryz.f89 [] [a0_f] k w := by kernel_rfl
theorem c89 {k : Value → World → Prop} {a0_f : Value} {w : World} (h : s89 Tryz.prog k a0_f w) : Calls Tryz.prog 89 #[a0_f] w (retP k) :=
  calls_of_vcF [] mixedXFront Tryz.func89 (by kernel_rfl) (Eq.mp (e89 k a0_f w) h)
theorem n89 {args : Array Value} {w : World} {k : Value → World → Prop} (h : Calls Tryz.prog 89 args w (retP k)) : SN Tryz.prog (callFunc 89 args) w k := sn_call Tryz.func89 (by kernel_rfl) (by kernel_rfl) h

/-! ### 152: (*scrinium/front.Front).Size -/

def s152 (P : Program) (k : Value → World → Prop) (a0_f : Value) (w : World) : Prop :=
  SV P (eqS .eql 25 (.tmp 3) (.const (Value.pointer none)) a0_f (Value.pointer none)) w fun t4 w =>
  CN t4
  (k (Value.int .i64 0) w)
  (SV P (nilS a0_f) w fun t6 w =>
  SV P (Instr.fieldAt 190 t6 0) w fun t7 w =>
  SV P (Instr.loadAt 3 t7) w fun t8 w =>
  k t8 w)

theorem e152 (k : Value → World → Prop) (a0_f : Value) (w : World) : s152 Tryz.prog k a0_f w = vcF Tryz.prog Tryz.f152 [] [a0_f] k w := by kernel_rfl
theorem c152 {k : Value → World → Prop} {a0_f : Value} {w : World} (h : s152 Tryz.prog k a0_f w) : Calls Tryz.prog 152 #[a0_f] w (retP k) :=
  calls_of_vcF [] mixedXFront Tryz.func152 (by kernel_rfl) (Eq.mp (e152 k a0_f w) h)
theorem n152 {args : Array Value} {w : World} {k : Value → World → Prop} (h : Calls Tryz.prog 152 args w (retP k)) : SN Tryz.prog (callFunc 152 args) w k := sn_call Tryz.func152 (by kernel_rfl) (by kernel_rfl) h

end Go.Proofs.YtkdghnbogkbedaaGreatDoor
