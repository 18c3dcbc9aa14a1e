/-
  For each function: the condition that its code comes to, and that it is enough. Printed by sh.py (a program of this work).
-/
import Derived.Test.YtkdghnbogkbedaaGreatDoorProg
import Derived.Test.YtkdghnbogkbedaaGreatDoorTypes
namespace Go.Proofs.YtkdghnbogkbedaaGreatDoor
open Go Go.Sh
set_option maxRecDepth 100000


theorem mixedXSeal : Tryz.prog.follows .mixedOrders = true := by kernel_rfl

/-! ### 71: scrinium/seal.FreezeBytes -/

def s71 (P : Program) (k : Value → World → Prop) (a0_f : Value) (w : World) : Prop :=
  SV P (Instr.box 31 a0_f) w fun f1 w =>
  SV P (Instr.fieldAt 31 f1 0) w fun t4 w =>
  SV P (Instr.loadAt 3 t4) w fun t5 w =>
  SN P (callFunc 137 #[t5, (Value.int .i64 1125899906842624)]) w fun t6 w =>
  SV P (Op.unary .not t6) w fun t7 w =>
  GD t7 false
  (SV P (Instr.fieldAt 31 f1 1) w fun t9 w =>
  SV P (Instr.loadAt 3 t9) w fun t10 w =>
  SV P (eqS .eql 3 (.tmp 10) (.const (Value.int .i64 0)) t10 (Value.int .i64 0)) w fun t11 w =>
  GD t11 false
  (SV P (Instr.fieldAt 31 f1 1) w fun t14 w =>
  SV P (Instr.loadAt 3 t14) w fun t15 w =>
  SN P (callFunc 137 #[t15, (Value.int .i64 4000)]) w fun t16 w =>
  SV P (Op.unary .not t16) w fun t17 w =>
  CN t17
  (k (.tuple #[(str []), (Value.int .i64 1)]) w)
  (HR w fun C w =>
  HV P C (Instr.fieldAt 31 f1 0) fun t19 =>
  HV P C (Instr.loadAt 3 t19) fun t20 =>
  SN P (callFunc 139 #[t20]) w fun t21 w =>
  RS C w fun C =>
  HV P C (Instr.fieldAt 31 f1 1) fun t22 =>
  HV P C (Instr.loadAt 3 t22) fun t23 =>
  SN P (callFunc 139 #[t23]) w fun t24 w =>
  RS C w fun C =>
  HV P C (Instr.fieldAt 31 f1 2) fun t25 =>
  HV P C (Instr.loadAt 29 t25) fun t26 =>
  SN P (callFunc 140 #[t26]) w fun t27 w =>
  RS C w fun C =>
  SV P (Instr.buildSlice 249 4 #[(0, (str [70])), (1, t21), (2, t24), (3, t27)]) w fun t28 w =>
  RS C w fun C =>
  SN P (callFunc 138 #[t28]) w fun t29 w =>
  RS C w fun _ =>
  k (.tuple #[t29, (Value.int .i64 0)]) w))
  (k (.tuple #[(str []), (Value.int .i64 1)]) w))
  (k (.tuple #[(str []), (Value.int .i64 1)]) w)

theorem e71 (k : Value → World → Prop) (a0_f : Value) (w : World) : s71 Tryz.prog k a0_f w = vcF Tryz.prog Tryz.f71 [] [a0_f] k w := by kernel_rfl
theorem c71 {k : Value → World → Prop} {a0_f : Value} {w : World} (h : s71 Tryz.prog k a0_f w) : Calls Tryz.prog 71 #[a0_f] w (retP k) :=
  calls_of_vcF [] mixedXSeal Tryz.func71 (by kernel_rfl) (Eq.mp (e71 k a0_f w) h)
theorem n71 {args : Array Value} {w : World} {k : Value → World → Prop} (h : Calls Tryz.prog 71 args w (retP k)) : SN Tryz.prog (callFunc 71 args) w k := sn_call Tryz.func71 (by kernel_rfl) (by kernel_rfl) h

/-! ### 73: scrinium/seal.FreezeLeaf -/

def s73 (P : Program) (k : Value → World → Prop) (a0_f : Value) (w : World) : Prop :=
  SV P (Instr.box 31 a0_f) w fun f1 w =>
  SV P (Instr.alloc 29 true (.tuple #[])) w fun t2 w =>
  SV P (Instr.loadAt 31 f1) w fun t6 w =>
  SN P (callFunc 71 #[t6]) w fun t7 w =>
  SV P (Instr.extract t7 0) w fun t8 w =>
  SV P (Instr.extract t7 1) w fun _ w =>
  SN P (callFunc 141 #[t8]) w fun t11 w =>
  SU P (Instr.storeAt 29 t2 t11) w fun w =>
  CR P 29 t2 w fun t2_1 =>
  k t2_1 w

theorem e73 (k : Value → World → Prop) (a0_f : Value) (w : World) : s73 Tryz.prog k a0_f w = vcF Tryz.prog Tryz.f73 [] [a0_f] k w := by kernel_rfl
theorem c73 {k : Value → World → Prop} {a0_f : Value} {w : World} (h : s73 Tryz.prog k a0_f w) : Calls Tryz.prog 73 #[a0_f] w (retP k) :=
  calls_of_vcF [] mixedXSeal Tryz.func73 (by kernel_rfl) (Eq.mp (e73 k a0_f w) h)
theorem n73 {args : Array Value} {w : World} {k : Value → World → Prop} (h : Calls Tryz.prog 73 args w (retP k)) : SN Tryz.prog (callFunc 73 args) w k := sn_call Tryz.func73 (by kernel_rfl) (by kernel_rfl) h

/-! ### 90: scrinium/seal.Head -/

def s90 (P : Program) (k : Value → World → Prop) (a0_key : Value) (a1_size : Value) (a2_root : Value) (a3_clock : Value) (w : World) : Prop :=
  SV P (Instr.box 29 a2_root) w fun root6 w =>
  SV P (Instr.alloc 48 true (.tuple #[])) w fun t8 w =>
  SV P (Instr.loadAt 29 root6) w fun t13 w =>
  SV P (Instr.build 48 #[(0, a1_size), (1, t13), (2, a3_clock)]) w fun t15 w =>
  SV P (Instr.alloc 48 true (.tuple #[])) w fun h9 w =>
  SU P (Instr.storeAt 48 h9 t15) w fun w =>
  SV P (Instr.loadAt 48 h9) w fun t17 w =>
  SN P (callFunc 154 #[t17]) w fun t18 w =>
  SV P (Instr.extract t18 0) w fun t19 w =>
  SV P (Instr.extract t18 1) w fun t20 w =>
  SN P (callFunc 155 #[a0_key, t19, t20]) w fun t24 w =>
  SV P (Instr.fieldAt 48 h9 3) w fun t25 w =>
  SU P (Instr.storeAt 29 t25 t24) w fun w =>
  SV P (Instr.loadAt 48 h9) w fun t26 w =>
  SU P (Instr.storeAt 48 t8 t26) w fun w =>
  CR P 48 t8 w fun t8_1 =>
  k t8_1 w

theorem e90 (k : Value → World → Prop) (a0_key a1_size a2_root a3_clock : Value) (w : World) : s90 Tryz.prog k a0_key a1_size a2_root a3_clock w = vcF Tryz.prog Tryz.f90 [] [a0_key, a1_size, a2_root, a3_clock] k w := by kernel_rfl
theorem c90 {k : Value → World → Prop} {a0_key a1_size a2_root a3_clock : Value} {w : World} (h : s90 Tryz.prog k a0_key a1_size a2_root a3_clock w) : Calls Tryz.prog 90 #[a0_key, a1_size, a2_root, a3_clock] w (retP k) :=
  calls_of_vcF [] mixedXSeal Tryz.func90 (by kernel_rfl) (Eq.mp (e90 k a0_key a1_size a2_root a3_clock w) h)
theorem n90 {args : Array Value} {w : World} {k : Value → World → Prop} (h : Calls Tryz.prog 90 args w (retP k)) : SN Tryz.prog (callFunc 90 args) w k := sn_call Tryz.func90 (by kernel_rfl) (by kernel_rfl) h

/-! ### 137: scrinium/seal.within -/

def s137 (P : Program) (k : Value → World → Prop) (a0_n : Value) (a1_most : Value) (w : World) : Prop :=
  SV P (binOp .geq 3 a0_n (Value.int .i64 0)) w fun t6 w =>
  GD t6 true
  (SV P (binOp .leq 3 a0_n a1_most) w fun t10 w =>
  k t10 w)
  (k (Value.bool false) w)

theorem e137 (k : Value → World → Prop) (a0_n a1_most : Value) (w : World) : s137 Tryz.prog k a0_n a1_most w = vcF Tryz.prog Tryz.f137 [] [a0_n, a1_most] k w := by kernel_rfl
theorem c137 {k : Value → World → Prop} {a0_n a1_most : Value} {w : World} (h : s137 Tryz.prog k a0_n a1_most w) : Calls Tryz.prog 137 #[a0_n, a1_most] w (retP k) :=
  calls_of_vcF [] mixedXSeal Tryz.func137 (by kernel_rfl) (Eq.mp (e137 k a0_n a1_most w) h)
theorem n137 {args : Array Value} {w : World} {k : Value → World → Prop} (h : Calls Tryz.prog 137 args w (retP k)) : SN Tryz.prog (callFunc 137 args) w k := sn_call Tryz.func137 (by kernel_rfl) (by kernel_rfl) h

/-! ### 138: scrinium/seal.says -/

def s138 (P : Program) (k : Value → World → Prop) (a0_parts : Value) (w : World) : Prop :=
  SN P (callFunc 217 #[a0_parts, (str [])]) w fun t4 w =>
  k t4 w

theorem e138 (k : Value → World → Prop) (a0_parts : Value) (w : World) : s138 Tryz.prog k a0_parts w = vcF Tryz.prog Tryz.f138 [] [a0_parts] k w := by kernel_rfl
theorem c138 {k : Value → World → Prop} {a0_parts : Value} {w : World} (h : s138 Tryz.prog k a0_parts w) : Calls Tryz.prog 138 #[a0_parts] w (retP k) :=
  calls_of_vcF [] mixedXSeal Tryz.func138 (by kernel_rfl) (Eq.mp (e138 k a0_parts w) h)
theorem n138 {args : Array Value} {w : World} {k : Value → World → Prop} (h : Calls Tryz.prog 138 args w (retP k)) : SN Tryz.prog (callFunc 138 args) w k := sn_call Tryz.func138 (by kernel_rfl) (by kernel_rfl) h

/-! ### 139: scrinium/seal.number -/

def s139 (P : Program) (k : Value → World → Prop) (a0_n : Value) (w : World) : Prop :=
  SV P (convert 3 198 a0_n) w fun t4 w =>
  SN P (callFunc 218 #[t4]) w fun t5 w =>
  k t5 w

theorem e139 (k : Value → World → Prop) (a0_n : Value) (w : World) : s139 Tryz.prog k a0_n w = vcF Tryz.prog Tryz.f139 [] [a0_n] k w := by kernel_rfl
theorem c139 {k : Value → World → Prop} {a0_n : Value} {w : World} (h : s139 Tryz.prog k a0_n w) : Calls Tryz.prog 139 #[a0_n] w (retP k) :=
  calls_of_vcF [] mixedXSeal Tryz.func139 (by kernel_rfl) (Eq.mp (e139 k a0_n w) h)
theorem n139 {args : Array Value} {w : World} {k : Value → World → Prop} (h : Calls Tryz.prog 139 args w (retP k)) : SN Tryz.prog (callFunc 139 args) w k := sn_call Tryz.func139 (by kernel_rfl) (by kernel_rfl) h

/-! ### 140: scrinium/seal.sum -/

def s140 (P : Program) (k : Value → World → Prop) (a0_s : Value) (w : World) : Prop :=
  SV P (Instr.box 29 a0_s) w fun s1 w =>
  SV P (Instr.loadAt 29 s1) w fun t3 w =>
  SN P (callFunc 163 #[t3]) w fun t4 w =>
  SN P (callFunc 219 #[t4]) w fun t5 w =>
  k t5 w

theorem e140 (k : Value → World → Prop) (a0_s : Value) (w : World) : s140 Tryz.prog k a0_s w = vcF Tryz.prog Tryz.f140 [] [a0_s] k w := by kernel_rfl
theorem c140 {k : Value → World → Prop} {a0_s : Value} {w : World} (h : s140 Tryz.prog k a0_s w) : Calls Tryz.prog 140 #[a0_s] w (retP k) :=
  calls_of_vcF [] mixedXSeal Tryz.func140 (by kernel_rfl) (Eq.mp (e140 k a0_s w) h)
theorem n140 {args : Array Value} {w : World} {k : Value → World → Prop} (h : Calls Tryz.prog 140 args w (retP k)) : SN Tryz.prog (callFunc 140 args) w k := sn_call Tryz.func140 (by kernel_rfl) (by kernel_rfl) h

/-! ### 154: scrinium/seal.headSays -/

def s154 (P : Program) (k : Value → World → Prop) (a0_h : Value) (w : World) : Prop :=
  SV P (Instr.box 48 a0_h) w fun h1 w =>
  SV P (Instr.fieldAt 48 h1 0) w fun t4 w =>
  SV P (Instr.loadAt 3 t4) w fun t5 w =>
  SN P (callFunc 137 #[t5, (Value.int .i64 1099511627776)]) w fun t6 w =>
  SV P (Op.unary .not t6) w fun t7 w =>
  GD t7 false
  (SV P (Instr.fieldAt 48 h1 2) w fun t9 w =>
  SV P (Instr.loadAt 3 t9) w fun t10 w =>
  SN P (callFunc 137 #[t10, (Value.int .i64 1125899906842624)]) w fun t11 w =>
  SV P (Op.unary .not t11) w fun t12 w =>
  CN t12
  (k (.tuple #[(str []), (Value.int .i64 1)]) w)
  (HR w fun C w =>
  HV P C (Instr.fieldAt 48 h1 0) fun t14 =>
  HV P C (Instr.loadAt 3 t14) fun t15 =>
  SN P (callFunc 139 #[t15]) w fun t16 w =>
  RS C w fun C =>
  HV P C (Instr.fieldAt 48 h1 1) fun t17 =>
  HV P C (Instr.loadAt 29 t17) fun t18 =>
  SN P (callFunc 140 #[t18]) w fun t19 w =>
  RS C w fun C =>
  HV P C (Instr.fieldAt 48 h1 2) fun t20 =>
  HV P C (Instr.loadAt 3 t20) fun t21 =>
  SN P (callFunc 139 #[t21]) w fun t22 w =>
  RS C w fun C =>
  SV P (Instr.buildSlice 249 4 #[(0, (str [72])), (1, t16), (2, t19), (3, t22)]) w fun t23 w =>
  RS C w fun C =>
  SN P (callFunc 138 #[t23]) w fun t24 w =>
  RS C w fun _ =>
  k (.tuple #[t24, (Value.int .i64 0)]) w))
  (k (.tuple #[(str []), (Value.int .i64 1)]) w)

theorem e154 (k : Value → World → Prop) (a0_h : Value) (w : World) : s154 Tryz.prog k a0_h w = vcF Tryz.prog Tryz.f154 [] [a0_h] k w := by kernel_rfl
theorem c154 {k : Value → World → Prop} {a0_h : Value} {w : World} (h : s154 Tryz.prog k a0_h w) : Calls Tryz.prog 154 #[a0_h] w (retP k) :=
  calls_of_vcF [] mixedXSeal Tryz.func154 (by kernel_rfl) (Eq.mp (e154 k a0_h w) h)
theorem n154 {args : Array Value} {w : World} {k : Value → World → Prop} (h : Calls Tryz.prog 154 args w (retP k)) : SN Tryz.prog (callFunc 154 args) w k := sn_call Tryz.func154 (by kernel_rfl) (by kernel_rfl) h

/-! ### 155: scrinium/seal.signed -/

def s155 (P : Program) (k : Value → World → Prop) (a0_key : Value) (a1_s : Value) (a2_e : Value) (w : World) : Prop :=
  SV P (Instr.alloc 29 true (.tuple #[])) w fun t6 w =>
  SV P (eqS .neq 32 (.tmp 7) (.const (Value.int .i64 0)) a2_e (Value.int .i64 0)) w fun t8 w =>
  CN t8
  (SV P (Instr.build 29 #[]) w fun t9 w =>
  SU P (Instr.storeAt 29 t6 t9) w fun w =>
  CR P 29 t6 w fun t6_1 =>
  k t6_1 w)
  (SV P (Instr.buildSlice 249 1 #[(0, a1_s)]) w fun t12 w =>
  SN P (callFunc 235 #[a0_key, t12]) w fun t13 w =>
  SU P (Instr.storeAt 29 t6 t13) w fun w =>
  CR P 29 t6 w fun t6_1 =>
  k t6_1 w)

theorem e155 (k : Value → World → Prop) (a0_key a1_s a2_e : Value) (w : World) : s155 Tryz.prog k a0_key a1_s a2_e w = vcF Tryz.prog Tryz.f155 [] [a0_key, a1_s, a2_e] k w := by kernel_rfl
theorem c155 {k : Value → World → Prop} {a0_key a1_s a2_e : Value} {w : World} (h : s155 Tryz.prog k a0_key a1_s a2_e w) : Calls Tryz.prog 155 #[a0_key, a1_s, a2_e] w (retP k) :=
  calls_of_vcF [] mixedXSeal Tryz.func155 (by kernel_rfl) (Eq.mp (e155 k a0_key a1_s a2_e w) h)
theorem n155 {args : Array Value} {w : World} {k : Value → World → Prop} (h : Calls Tryz.prog 155 args w (retP k)) : SN Tryz.prog (callFunc 155 args) w k := sn_call Tryz.func155 (by kernel_rfl) (by kernel_rfl) h

/-! ### 189: scrinium/seal.Stone -/

def s189 (P : Program) (k : Value → World → Prop) (a0_key : Value) (a1_f : Value) (a2_at : Value) (w : World) : Prop :=
  SV P (Instr.box 31 a1_f) w fun f4 w =>
  SV P (Instr.alloc 81 true (.tuple #[])) w fun t6 w =>
  SV P (Instr.loadAt 31 f4) w fun t10 w =>
  SV P (Instr.build 81 #[(0, t10), (1, a2_at)]) w fun t12 w =>
  SV P (Instr.alloc 81 true (.tuple #[])) w fun t7 w =>
  SU P (Instr.storeAt 81 t7 t12) w fun w =>
  SV P (Instr.loadAt 81 t7) w fun t14 w =>
  SN P (callFunc 257 #[t14]) w fun t15 w =>
  SV P (Instr.extract t15 0) w fun t16 w =>
  SV P (Instr.extract t15 1) w fun t17 w =>
  SN P (callFunc 155 #[a0_key, t16, t17]) w fun t21 w =>
  SV P (Instr.fieldAt 81 t7 2) w fun t22 w =>
  SU P (Instr.storeAt 29 t22 t21) w fun w =>
  SV P (Instr.loadAt 81 t7) w fun t23 w =>
  SU P (Instr.storeAt 81 t6 t23) w fun w =>
  CR P 81 t6 w fun t6_1 =>
  k t6_1 w

theorem e189 (k : Value → World → Prop) (a0_key a1_f a2_at : Value) (w : World) : s189 Tryz.prog k a0_key a1_f a2_at w = vcF Tryz.prog Tryz.f189 [] [a0_key, a1_f, a2_at] k w := by kernel_rfl
theorem c189 {k : Value → World → Prop} {a0_key a1_f a2_at : Value} {w : World} (h : s189 Tryz.prog k a0_key a1_f a2_at w) : Calls Tryz.prog 189 #[a0_key, a1_f, a2_at] w (retP k) :=
  calls_of_vcF [] mixedXSeal Tryz.func189 (by kernel_rfl) (Eq.mp (e189 k a0_key a1_f a2_at w) h)
theorem n189 {args : Array Value} {w : World} {k : Value → World → Prop} (h : Calls Tryz.prog 189 args w (retP k)) : SN Tryz.prog (callFunc 189 args) w k := sn_call Tryz.func189 (by kernel_rfl) (by kernel_rfl) h

/-! ### 239: scrinium/seal.StoneBytes -/

def s239 (P : Program) (k : Value → World → Prop) (a0_t : Value) (w : World) : Prop :=
  SV P (Instr.box 81 a0_t) w fun t1 w =>
  SV P (Instr.loadAt 81 t1) w fun t7 w =>
  SN P (callFunc 257 #[t7]) w fun t8 w =>
  SV P (Instr.extract t8 0) w fun t9 w =>
  SV P (Instr.extract t8 1) w fun t10 w =>
  SV P (eqS .neq 32 (.tmp 11) (.const (Value.int .i64 0)) t10 (Value.int .i64 0)) w fun t12 w =>
  CN t12
  (k (.tuple #[(str []), t10]) w)
  (SV P (Instr.fieldAt 81 t1 2) w fun t15 w =>
  SV P (Instr.loadAt 29 t15) w fun t16 w =>
  SN P (callFunc 140 #[t16]) w fun t17 w =>
  SV P (Instr.buildSlice 249 2 #[(0, t9), (1, t17)]) w fun t18 w =>
  SN P (callFunc 138 #[t18]) w fun t19 w =>
  k (.tuple #[t19, (Value.int .i64 0)]) w)

theorem e239 (k : Value → World → Prop) (a0_t : Value) (w : World) : s239 Tryz.prog k a0_t w = vcF Tryz.prog Tryz.f239 [] [a0_t] k w := by kernel_rfl
theorem c239 {k : Value → World → Prop} {a0_t : Value} {w : World} (h : s239 Tryz.prog k a0_t w) : Calls Tryz.prog 239 #[a0_t] w (retP k) :=
  calls_of_vcF [] mixedXSeal Tryz.func239 (by kernel_rfl) (Eq.mp (e239 k a0_t w) h)
theorem n239 {args : Array Value} {w : World} {k : Value → World → Prop} (h : Calls Tryz.prog 239 args w (retP k)) : SN Tryz.prog (callFunc 239 args) w k := sn_call Tryz.func239 (by kernel_rfl) (by kernel_rfl) h

/-! ### 257: scrinium/seal.stoneSays -/

def s257 (P : Program) (k : Value → World → Prop) (a0_t : Value) (w : World) : Prop :=
  SV P (Instr.box 81 a0_t) w fun t1 w =>
  SV P (Instr.fieldAt 81 t1 0) w fun t7 w =>
  SV P (Instr.loadAt 31 t7) w fun t8 w =>
  SN P (callFunc 71 #[t8]) w fun t9 w =>
  SV P (Instr.extract t9 0) w fun t10 w =>
  SV P (Instr.extract t9 1) w fun t11 w =>
  SV P (eqS .neq 32 (.tmp 12) (.const (Value.int .i64 0)) t11 (Value.int .i64 0)) w fun t13 w =>
  GD t13 false
  (SV P (Instr.fieldAt 81 t1 1) w fun t15 w =>
  SV P (Instr.loadAt 3 t15) w fun t16 w =>
  SN P (callFunc 137 #[t16, (Value.int .i64 1125899906842624)]) w fun t17 w =>
  SV P (Op.unary .not t17) w fun t18 w =>
  CN t18
  (k (.tuple #[(str []), (Value.int .i64 1)]) w)
  (HR w fun C w =>
  SN P (callFunc 219 #[t10]) w fun t21 w =>
  RS C w fun C =>
  HV P C (Instr.fieldAt 81 t1 1) fun t22 =>
  HV P C (Instr.loadAt 3 t22) fun t23 =>
  SN P (callFunc 139 #[t23]) w fun t24 w =>
  RS C w fun C =>
  SV P (Instr.buildSlice 249 3 #[(0, (str [84])), (1, t21), (2, t24)]) w fun t25 w =>
  RS C w fun C =>
  SN P (callFunc 138 #[t25]) w fun t26 w =>
  RS C w fun _ =>
  k (.tuple #[t26, (Value.int .i64 0)]) w))
  (k (.tuple #[(str []), (Value.int .i64 1)]) w)

theorem e257 (k : Value → World → Prop) (a0_t : Value) (w : World) : s257 Tryz.prog k a0_t w = vcF Tryz.prog Tryz.f257 [] [a0_t] k w := by kernel_rfl
theorem c257 {k : Value → World → Prop} {a0_t : Value} {w : World} (h : s257 Tryz.prog k a0_t w) : Calls Tryz.prog 257 #[a0_t] w (retP k) :=
  calls_of_vcF [] mixedXSeal Tryz.func257 (by kernel_rfl) (Eq.mp (e257 k a0_t w) h)
theorem n257 {args : Array Value} {w : World} {k : Value → World → Prop} (h : Calls Tryz.prog 257 args w (retP k)) : SN Tryz.prog (callFunc 257 args) w k := sn_call Tryz.func257 (by kernel_rfl) (by kernel_rfl) h

end Go.Proofs.YtkdghnbogkbedaaGreatDoor
