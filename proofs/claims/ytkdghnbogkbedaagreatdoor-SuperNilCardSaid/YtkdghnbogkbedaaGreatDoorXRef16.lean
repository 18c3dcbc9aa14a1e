/-
  For each function: the condition that its code comes to, and that it is enough. Printed by sh.py (a program of this work).
-/
import Derived.Test.YtkdghnbogkbedaaGreatDoorProg
import Derived.Test.YtkdghnbogkbedaaGreatDoorTypes
namespace Go.Proofs.YtkdghnbogkbedaaGreatDoor
open Go Go.Sh
set_option maxRecDepth 100000


theorem mixedXRef16 : Tryz.prog.follows .mixedOrders = true := by kernel_rfl

/-! ### 27: scrinium/scriniumref16.Head -/

def s27_j1 (P : Program) (k : Value → World → Prop) (t8 : Value) (h9 : Value) (w : World) : Prop :=
  SV P (Instr.loadAt 48 h9) w fun t26 w =>
  SU P (Instr.storeAt 48 t8 t26) w fun w =>
  CR P 48 t8 w fun t8_1 =>
  k t8_1 w

def s27 (P : Program) (k : Value → World → Prop) (a0_key : Value) (a1_size : Value) (a2_root : Value) (a3_clock : Value) (w : World) : Prop :=
  SV P (Instr.box 29 a2_root) w fun root6 w =>
  SV P (Instr.alloc 48 true (.tuple #[])) w fun t8 w =>
  SV P (Instr.loadAt 29 root6) w fun t13 w =>
  SV P (Instr.build 48 #[(0, a1_size), (1, t13), (2, a3_clock)]) w fun t15 w =>
  SV P (Instr.alloc 48 true (.tuple #[])) w fun h9 w =>
  SU P (Instr.storeAt 48 h9 t15) w fun w =>
  SV P (Instr.loadAt 48 h9) w fun t17 w =>
  SN P (callFunc 91 #[t17]) w fun t18 w =>
  SV P (Instr.extract t18 0) w fun t19 w =>
  SV P (Instr.extract t18 1) w fun t20 w =>
  JP 0 (fun j =>
  CN t20
  (SN P (callFunc 92 #[a0_key, t19]) w fun t24 w =>
  SV P (Instr.fieldAt 48 h9 3) w fun t25 w =>
  SU P (Instr.storeAt 29 t25 t24) w fun w =>
  j [] w)
  (j [] w))
  (fun _ _ w => s27_j1 P k t8 h9 w)

theorem e27 (k : Value → World → Prop) (a0_key a1_size a2_root a3_clock : Value) (w : World) : s27 Tryz.prog k a0_key a1_size a2_root a3_clock w = vcF Tryz.prog Tryz.f27 [] [a0_key, a1_size, a2_root, a3_clock] k w := by kernel_rfl
theorem c27 {k : Value → World → Prop} {a0_key a1_size a2_root a3_clock : Value} {w : World} (h : s27 Tryz.prog k a0_key a1_size a2_root a3_clock w) : Calls Tryz.prog 27 #[a0_key, a1_size, a2_root, a3_clock] w (retP k) :=
  calls_of_vcF [] mixedXRef16 Tryz.func27 (by kernel_rfl) (Eq.mp (e27 k a0_key a1_size a2_root a3_clock w) h)
theorem n27 {args : Array Value} {w : World} {k : Value → World → Prop} (h : Calls Tryz.prog 27 args w (retP k)) : SN Tryz.prog (callFunc 27 args) w k := sn_call Tryz.func27 (by kernel_rfl) (by kernel_rfl) h

/-! ### 40: scrinium/scriniumref16.StoneRight -/

def s40 (P : Program) (k : Value → World → Prop) (a0_key : Value) (a1_t : Value) (w : World) : Prop :=
  SV P (Instr.box 81 a1_t) w fun t3 w =>
  SV P (Instr.loadAt 81 t3) w fun t8 w =>
  SN P (callFunc 113 #[t8]) w fun t9 w =>
  SV P (Instr.extract t9 0) w fun t10 w =>
  SV P (Instr.extract t9 1) w fun t11 w =>
  HR w fun C w =>
  GD t11 true
  (HV P C (Instr.fieldAt 81 t3 2) fun t14 =>
  HV P C (Instr.loadAt 29 t14) fun t15 =>
  SN P (callFunc 92 #[a0_key, t10]) w fun t18 w =>
  C w ∧
  HV P C (eqS .eql 29 (.tmp 15) (.tmp 18) t15 t18) fun t19 =>
  k t19 w)
  (k (Value.bool false) w)

theorem e40 (k : Value → World → Prop) (a0_key a1_t : Value) (w : World) : s40 Tryz.prog k a0_key a1_t w = vcF Tryz.prog Tryz.f40 [] [a0_key, a1_t] k w := by kernel_rfl
theorem c40 {k : Value → World → Prop} {a0_key a1_t : Value} {w : World} (h : s40 Tryz.prog k a0_key a1_t w) : Calls Tryz.prog 40 #[a0_key, a1_t] w (retP k) :=
  calls_of_vcF [] mixedXRef16 Tryz.func40 (by kernel_rfl) (Eq.mp (e40 k a0_key a1_t w) h)
theorem n40 {args : Array Value} {w : World} {k : Value → World → Prop} (h : Calls Tryz.prog 40 args w (retP k)) : SN Tryz.prog (callFunc 40 args) w k := sn_call Tryz.func40 (by kernel_rfl) (by kernel_rfl) h

/-! ### 43: scrinium/scriniumref16.HeadRight -/

def s43 (P : Program) (k : Value → World → Prop) (a0_key : Value) (a1_h : Value) (w : World) : Prop :=
  SV P (Instr.box 48 a1_h) w fun h3 w =>
  SV P (Instr.loadAt 48 h3) w fun t8 w =>
  SN P (callFunc 91 #[t8]) w fun t9 w =>
  SV P (Instr.extract t9 0) w fun t10 w =>
  SV P (Instr.extract t9 1) w fun t11 w =>
  HR w fun C w =>
  GD t11 true
  (HV P C (Instr.fieldAt 48 h3 3) fun t14 =>
  HV P C (Instr.loadAt 29 t14) fun t15 =>
  SN P (callFunc 92 #[a0_key, t10]) w fun t18 w =>
  C w ∧
  HV P C (eqS .eql 29 (.tmp 15) (.tmp 18) t15 t18) fun t19 =>
  k t19 w)
  (k (Value.bool false) w)

theorem e43 (k : Value → World → Prop) (a0_key a1_h : Value) (w : World) : s43 Tryz.prog k a0_key a1_h w = vcF Tryz.prog Tryz.f43 [] [a0_key, a1_h] k w := by kernel_rfl
theorem c43 {k : Value → World → Prop} {a0_key a1_h : Value} {w : World} (h : s43 Tryz.prog k a0_key a1_h w) : Calls Tryz.prog 43 #[a0_key, a1_h] w (retP k) :=
  calls_of_vcF [] mixedXRef16 Tryz.func43 (by kernel_rfl) (Eq.mp (e43 k a0_key a1_h w) h)
theorem n43 {args : Array Value} {w : World} {k : Value → World → Prop} (h : Calls Tryz.prog 43 args w (retP k)) : SN Tryz.prog (callFunc 43 args) w k := sn_call Tryz.func43 (by kernel_rfl) (by kernel_rfl) h

/-! ### 91: scrinium/scriniumref16.headSays -/

def s91 (P : Program) (k : Value → World → Prop) (a0_h : Value) (w : World) : Prop :=
  SV P (Instr.box 48 a0_h) w fun h1 w =>
  SV P (Instr.fieldAt 48 h1 0) w fun t4 w =>
  SV P (Instr.loadAt 3 t4) w fun t5 w =>
  SV P (binOp .lss 3 t5 (Value.int .i64 0)) w fun t6 w =>
  GD t6 false
  (SV P (Instr.fieldAt 48 h1 0) w fun t8 w =>
  SV P (Instr.loadAt 3 t8) w fun t9 w =>
  SV P (binOp .gtr 3 t9 (Value.int .i64 1099511627776)) w fun t10 w =>
  GD t10 false
  (SV P (Instr.fieldAt 48 h1 2) w fun t13 w =>
  SV P (Instr.loadAt 3 t13) w fun t14 w =>
  SV P (binOp .lss 3 t14 (Value.int .i64 0)) w fun t15 w =>
  GD t15 false
  (SV P (Instr.fieldAt 48 h1 2) w fun t18 w =>
  SV P (Instr.loadAt 3 t18) w fun t19 w =>
  SV P (binOp .gtr 3 t19 (Value.int .i64 1125899906842624)) w fun t20 w =>
  CN t20
  (k (.tuple #[(str []), (Value.bool false)]) w)
  (HR w fun C w =>
  HV P C (Instr.fieldAt 48 h1 0) fun t22 =>
  HV P C (Instr.loadAt 3 t22) fun t23 =>
  HV P C (convert 3 198 t23) fun t24 =>
  SN P (callFunc 156 #[t24]) w fun t25 w =>
  RS C w fun C =>
  HV P C (binOp .add 9 (str [72]) t25) fun t26 =>
  HV P C (Instr.fieldAt 48 h1 1) fun t27 =>
  HV P C (Instr.loadAt 29 t27) fun t28 =>
  SN P (callFunc 157 #[t28]) w fun t29 w =>
  C w ∧
  HV P C (binOp .add 9 t26 t29) fun t30 =>
  HV P C (Instr.fieldAt 48 h1 2) fun t31 =>
  HV P C (Instr.loadAt 3 t31) fun t32 =>
  HV P C (convert 3 198 t32) fun t33 =>
  SN P (callFunc 156 #[t33]) w fun t34 w =>
  C w ∧
  HV P C (binOp .add 9 t30 t34) fun t35 =>
  k (.tuple #[t35, (Value.bool true)]) w))
  (k (.tuple #[(str []), (Value.bool false)]) w))
  (k (.tuple #[(str []), (Value.bool false)]) w))
  (k (.tuple #[(str []), (Value.bool false)]) w)

theorem e91 (k : Value → World → Prop) (a0_h : Value) (w : World) : s91 Tryz.prog k a0_h w = vcF Tryz.prog Tryz.f91 [] [a0_h] k w := by kernel_rfl
theorem c91 {k : Value → World → Prop} {a0_h : Value} {w : World} (h : s91 Tryz.prog k a0_h w) : Calls Tryz.prog 91 #[a0_h] w (retP k) :=
  calls_of_vcF [] mixedXRef16 Tryz.func91 (by kernel_rfl) (Eq.mp (e91 k a0_h w) h)
theorem n91 {args : Array Value} {w : World} {k : Value → World → Prop} (h : Calls Tryz.prog 91 args w (retP k)) : SN Tryz.prog (callFunc 91 args) w k := sn_call Tryz.func91 (by kernel_rfl) (by kernel_rfl) h

/-! ### 113: scrinium/scriniumref16.stoneSays -/

def s113 (P : Program) (k : Value → World → Prop) (a0_s : Value) (w : World) : Prop :=
  SV P (Instr.box 81 a0_s) w fun s1 w =>
  SV P (Instr.fieldAt 81 s1 0) w fun t7 w =>
  SV P (Instr.loadAt 31 t7) w fun t8 w =>
  SN P (callFunc 118 #[t8]) w fun t9 w =>
  SV P (Instr.extract t9 0) w fun t10 w =>
  SV P (Instr.extract t9 1) w fun t11 w =>
  SV P (eqS .neq 32 (.tmp 12) (.const (Value.int .i64 0)) t11 (Value.int .i64 0)) w fun t13 w =>
  GD t13 false
  (SV P (Instr.fieldAt 81 s1 1) w fun t15 w =>
  SV P (Instr.loadAt 3 t15) w fun t16 w =>
  SV P (binOp .lss 3 t16 (Value.int .i64 0)) w fun t17 w =>
  GD t17 false
  (SV P (Instr.fieldAt 81 s1 1) w fun t20 w =>
  SV P (Instr.loadAt 3 t20) w fun t21 w =>
  SV P (binOp .gtr 3 t21 (Value.int .i64 1125899906842624)) w fun t22 w =>
  CN t22
  (k (.tuple #[(str []), (Value.bool false)]) w)
  (HR w fun C w =>
  SN P (callFunc 191 #[t10]) w fun t25 w =>
  RS C w fun C =>
  HV P C (binOp .add 9 (str [84]) t25) fun t26 =>
  HV P C (Instr.fieldAt 81 s1 1) fun t27 =>
  HV P C (Instr.loadAt 3 t27) fun t28 =>
  HV P C (convert 3 198 t28) fun t29 =>
  SN P (callFunc 156 #[t29]) w fun t30 w =>
  C w ∧
  HV P C (binOp .add 9 t26 t30) fun t31 =>
  k (.tuple #[t31, (Value.bool true)]) w))
  (k (.tuple #[(str []), (Value.bool false)]) w))
  (k (.tuple #[(str []), (Value.bool false)]) w)

theorem e113 (k : Value → World → Prop) (a0_s : Value) (w : World) : s113 Tryz.prog k a0_s w = vcF Tryz.prog Tryz.f113 [] [a0_s] k w := by kernel_rfl
theorem c113 {k : Value → World → Prop} {a0_s : Value} {w : World} (h : s113 Tryz.prog k a0_s w) : Calls Tryz.prog 113 #[a0_s] w (retP k) :=
  calls_of_vcF [] mixedXRef16 Tryz.func113 (by kernel_rfl) (Eq.mp (e113 k a0_s w) h)
theorem n113 {args : Array Value} {w : World} {k : Value → World → Prop} (h : Calls Tryz.prog 113 args w (retP k)) : SN Tryz.prog (callFunc 113 args) w k := sn_call Tryz.func113 (by kernel_rfl) (by kernel_rfl) h

/-! ### 118: scrinium/scriniumref16.FreezeBytes -/

def s118 (P : Program) (k : Value → World → Prop) (a0_f : Value) (w : World) : Prop :=
  SV P (Instr.box 31 a0_f) w fun f1 w =>
  SV P (Instr.fieldAt 31 f1 0) w fun t4 w =>
  SV P (Instr.loadAt 3 t4) w fun t5 w =>
  SV P (binOp .lss 3 t5 (Value.int .i64 0)) w fun t6 w =>
  GD t6 false
  (SV P (Instr.fieldAt 31 f1 0) w fun t8 w =>
  SV P (Instr.loadAt 3 t8) w fun t9 w =>
  SV P (binOp .gtr 3 t9 (Value.int .i64 1125899906842624)) w fun t10 w =>
  GD t10 false
  (SV P (Instr.fieldAt 31 f1 1) w fun t13 w =>
  SV P (Instr.loadAt 3 t13) w fun t14 w =>
  SV P (binOp .lss 3 t14 (Value.int .i64 1)) w fun t15 w =>
  GD t15 false
  (SV P (Instr.fieldAt 31 f1 1) w fun t18 w =>
  SV P (Instr.loadAt 3 t18) w fun t19 w =>
  SV P (binOp .gtr 3 t19 (Value.int .i64 4000)) w fun t20 w =>
  CN t20
  (k (.tuple #[(str []), (Value.int .i64 1)]) w)
  (HR w fun C w =>
  HV P C (Instr.fieldAt 31 f1 0) fun t22 =>
  HV P C (Instr.loadAt 3 t22) fun t23 =>
  HV P C (convert 3 198 t23) fun t24 =>
  SN P (callFunc 156 #[t24]) w fun t25 w =>
  RS C w fun C =>
  HV P C (binOp .add 9 (str [70]) t25) fun t26 =>
  HV P C (Instr.fieldAt 31 f1 1) fun t27 =>
  HV P C (Instr.loadAt 3 t27) fun t28 =>
  HV P C (convert 3 198 t28) fun t29 =>
  SN P (callFunc 156 #[t29]) w fun t30 w =>
  C w ∧
  HV P C (binOp .add 9 t26 t30) fun t31 =>
  HV P C (Instr.fieldAt 31 f1 2) fun t32 =>
  HV P C (Instr.loadAt 29 t32) fun t33 =>
  SN P (callFunc 157 #[t33]) w fun t34 w =>
  C w ∧
  HV P C (binOp .add 9 t31 t34) fun t35 =>
  k (.tuple #[t35, (Value.int .i64 0)]) w))
  (k (.tuple #[(str []), (Value.int .i64 1)]) w))
  (k (.tuple #[(str []), (Value.int .i64 1)]) w))
  (k (.tuple #[(str []), (Value.int .i64 1)]) w)

theorem e118 (k : Value → World → Prop) (a0_f : Value) (w : World) : s118 Tryz.prog k a0_f w = vcF Tryz.prog Tryz.f118 [] [a0_f] k w := by kernel_rfl
theorem c118 {k : Value → World → Prop} {a0_f : Value} {w : World} (h : s118 Tryz.prog k a0_f w) : Calls Tryz.prog 118 #[a0_f] w (retP k) :=
  calls_of_vcF [] mixedXRef16 Tryz.func118 (by kernel_rfl) (Eq.mp (e118 k a0_f w) h)
theorem n118 {args : Array Value} {w : World} {k : Value → World → Prop} (h : Calls Tryz.prog 118 args w (retP k)) : SN Tryz.prog (callFunc 118 args) w k := sn_call Tryz.func118 (by kernel_rfl) (by kernel_rfl) h

/-! ### 119: scrinium/scriniumref16.FreezeLeaf -/

def s119 (P : Program) (k : Value → World → Prop) (a0_f : Value) (w : World) : Prop :=
  SV P (Instr.box 31 a0_f) w fun f1 w =>
  SV P (Instr.alloc 29 true (.tuple #[])) w fun t2 w =>
  SV P (Instr.loadAt 31 f1) w fun t6 w =>
  SN P (callFunc 118 #[t6]) w fun t7 w =>
  SV P (Instr.extract t7 0) w fun t8 w =>
  SV P (Instr.extract t7 1) w fun _ w =>
  SN P (callFunc 193 #[t8]) w fun t11 w =>
  SU P (Instr.storeAt 29 t2 t11) w fun w =>
  CR P 29 t2 w fun t2_1 =>
  k t2_1 w

theorem e119 (k : Value → World → Prop) (a0_f : Value) (w : World) : s119 Tryz.prog k a0_f w = vcF Tryz.prog Tryz.f119 [] [a0_f] k w := by kernel_rfl
theorem c119 {k : Value → World → Prop} {a0_f : Value} {w : World} (h : s119 Tryz.prog k a0_f w) : Calls Tryz.prog 119 #[a0_f] w (retP k) :=
  calls_of_vcF [] mixedXRef16 Tryz.func119 (by kernel_rfl) (Eq.mp (e119 k a0_f w) h)
theorem n119 {args : Array Value} {w : World} {k : Value → World → Prop} (h : Calls Tryz.prog 119 args w (retP k)) : SN Tryz.prog (callFunc 119 args) w k := sn_call Tryz.func119 (by kernel_rfl) (by kernel_rfl) h

/-! ### 157: scrinium/scriniumref16.sum -/

def s157 (P : Program) (k : Value → World → Prop) (a0_s : Value) (w : World) : Prop :=
  SV P (Instr.box 29 a0_s) w fun s1 w =>
  SV P (Instr.loadAt 29 s1) w fun t3 w =>
  SN P (callFunc 160 #[t3]) w fun t4 w =>
  SN P (callFunc 191 #[t4]) w fun t5 w =>
  k t5 w

theorem e157 (k : Value → World → Prop) (a0_s : Value) (w : World) : s157 Tryz.prog k a0_s w = vcF Tryz.prog Tryz.f157 [] [a0_s] k w := by kernel_rfl
theorem c157 {k : Value → World → Prop} {a0_s : Value} {w : World} (h : s157 Tryz.prog k a0_s w) : Calls Tryz.prog 157 #[a0_s] w (retP k) :=
  calls_of_vcF [] mixedXRef16 Tryz.func157 (by kernel_rfl) (Eq.mp (e157 k a0_s w) h)
theorem n157 {args : Array Value} {w : World} {k : Value → World → Prop} (h : Calls Tryz.prog 157 args w (retP k)) : SN Tryz.prog (callFunc 157 args) w k := sn_call Tryz.func157 (by kernel_rfl) (by kernel_rfl) h

/-! ### 209: scrinium/scriniumref16.Stone -/

def s209_j1 (P : Program) (k : Value → World → Prop) (t6 : Value) (t7 : Value) (w : World) : Prop :=
  SV P (Instr.loadAt 81 t7) w fun t23 w =>
  SU P (Instr.storeAt 81 t6 t23) w fun w =>
  CR P 81 t6 w fun t6_1 =>
  k t6_1 w

def s209 (P : Program) (k : Value → World → Prop) (a0_key : Value) (a1_f : Value) (a2_at : Value) (w : World) : Prop :=
  SV P (Instr.box 31 a1_f) w fun f4 w =>
  SV P (Instr.alloc 81 true (.tuple #[])) w fun t6 w =>
  SV P (Instr.loadAt 31 f4) w fun t10 w =>
  SV P (Instr.build 81 #[(0, t10), (1, a2_at)]) w fun t12 w =>
  SV P (Instr.alloc 81 true (.tuple #[])) w fun t7 w =>
  SU P (Instr.storeAt 81 t7 t12) w fun w =>
  SV P (Instr.loadAt 81 t7) w fun t14 w =>
  SN P (callFunc 113 #[t14]) w fun t15 w =>
  SV P (Instr.extract t15 0) w fun t16 w =>
  SV P (Instr.extract t15 1) w fun t17 w =>
  JP 0 (fun j =>
  CN t17
  (SN P (callFunc 92 #[a0_key, t16]) w fun t21 w =>
  SV P (Instr.fieldAt 81 t7 2) w fun t22 w =>
  SU P (Instr.storeAt 29 t22 t21) w fun w =>
  j [] w)
  (j [] w))
  (fun _ _ w => s209_j1 P k t6 t7 w)

theorem e209 (k : Value → World → Prop) (a0_key a1_f a2_at : Value) (w : World) : s209 Tryz.prog k a0_key a1_f a2_at w = vcF Tryz.prog Tryz.f209 [] [a0_key, a1_f, a2_at] k w := by kernel_rfl
theorem c209 {k : Value → World → Prop} {a0_key a1_f a2_at : Value} {w : World} (h : s209 Tryz.prog k a0_key a1_f a2_at w) : Calls Tryz.prog 209 #[a0_key, a1_f, a2_at] w (retP k) :=
  calls_of_vcF [] mixedXRef16 Tryz.func209 (by kernel_rfl) (Eq.mp (e209 k a0_key a1_f a2_at w) h)
theorem n209 {args : Array Value} {w : World} {k : Value → World → Prop} (h : Calls Tryz.prog 209 args w (retP k)) : SN Tryz.prog (callFunc 209 args) w k := sn_call Tryz.func209 (by kernel_rfl) (by kernel_rfl) h

/-! ### 259: scrinium/scriniumref16.StoneBytes -/

def s259 (P : Program) (k : Value → World → Prop) (a0_t : Value) (w : World) : Prop :=
  SV P (Instr.box 81 a0_t) w fun t1 w =>
  SV P (Instr.loadAt 81 t1) w fun t7 w =>
  SN P (callFunc 113 #[t7]) w fun t8 w =>
  SV P (Instr.extract t8 0) w fun t9 w =>
  SV P (Instr.extract t8 1) w fun t10 w =>
  SV P (Op.unary .not t10) w fun t12 w =>
  CN t12
  (k (.tuple #[(str []), (Value.int .i64 1)]) w)
  (SV P (Instr.fieldAt 81 t1 2) w fun t14 w =>
  SV P (Instr.loadAt 29 t14) w fun t15 w =>
  SN P (callFunc 157 #[t15]) w fun t16 w =>
  SV P (binOp .add 9 t9 t16) w fun t17 w =>
  k (.tuple #[t17, (Value.int .i64 0)]) w)

theorem e259 (k : Value → World → Prop) (a0_t : Value) (w : World) : s259 Tryz.prog k a0_t w = vcF Tryz.prog Tryz.f259 [] [a0_t] k w := by kernel_rfl
theorem c259 {k : Value → World → Prop} {a0_t : Value} {w : World} (h : s259 Tryz.prog k a0_t w) : Calls Tryz.prog 259 #[a0_t] w (retP k) :=
  calls_of_vcF [] mixedXRef16 Tryz.func259 (by kernel_rfl) (Eq.mp (e259 k a0_t w) h)
theorem n259 {args : Array Value} {w : World} {k : Value → World → Prop} (h : Calls Tryz.prog 259 args w (retP k)) : SN Tryz.prog (callFunc 259 args) w k := sn_call Tryz.func259 (by kernel_rfl) (by kernel_rfl) h

end Go.Proofs.YtkdghnbogkbedaaGreatDoor
