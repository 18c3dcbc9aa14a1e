/-
  For each function: the condition that its code comes to, and that it is enough. Printed by sh.py (a program of this work).
-/
import Derived.Test.YtkdghnbogkbedaaGreatDoorProg
import Derived.Test.YtkdghnbogkbedaaGreatDoorTypes
namespace Go.Proofs.YtkdghnbogkbedaaGreatDoor
open Go Go.Sh
set_option maxRecDepth 100000


theorem mixedXMac : Tryz.prog.follows .mixedOrders = true := by kernel_rfl

/-! ### 235: scrinium/mac.Of -/

def s235 (P : Program) (k : Value → World → Prop) (a0_key : Value) (a1_parts : Value) (w : World) : Prop :=
  SV P (Instr.alloc 29 true (.tuple #[])) w fun t4 w =>
  SN P (callFunc 237 #[a0_key]) w fun t6 w =>
  SN P (callFunc 268 #[t6, a1_parts]) w fun t8 w =>
  SU P (Instr.storeAt 29 t4 t8) w fun w =>
  CR P 29 t4 w fun t4_1 =>
  k t4_1 w

theorem e235 (k : Value → World → Prop) (a0_key a1_parts : Value) (w : World) : s235 Tryz.prog k a0_key a1_parts w = vcF Tryz.prog Tryz.f235 [] [a0_key, a1_parts] k w := by kernel_rfl
theorem c235 {k : Value → World → Prop} {a0_key a1_parts : Value} {w : World} (h : s235 Tryz.prog k a0_key a1_parts w) : Calls Tryz.prog 235 #[a0_key, a1_parts] w (retP k) :=
  calls_of_vcF [] mixedXMac Tryz.func235 (by kernel_rfl) (Eq.mp (e235 k a0_key a1_parts w) h)
theorem n235 {args : Array Value} {w : World} {k : Value → World → Prop} (h : Calls Tryz.prog 235 args w (retP k)) : SN Tryz.prog (callFunc 235 args) w k := sn_call Tryz.func235 (by kernel_rfl) (by kernel_rfl) h

/-! ### 237: scrinium/mac.New -/

def s237 (P : Program) (k : Value → World → Prop) (a0_key : Value) (w : World) : Prop :=
  SN P (callFunc 269 #[a0_key]) w fun t7 w =>
  SV P (Instr.extract t7 0) w fun t8 w =>
  SV P (Instr.extract t7 1) w fun t9 w =>
  SV P (Instr.build 289 #[(0, t8), (1, t9)]) w fun t12 w =>
  SV P (Instr.box 289 t12) w fun t13 w =>
  k t13 w

theorem e237 (k : Value → World → Prop) (a0_key : Value) (w : World) : s237 Tryz.prog k a0_key w = vcF Tryz.prog Tryz.f237 [] [a0_key] k w := by kernel_rfl
theorem c237 {k : Value → World → Prop} {a0_key : Value} {w : World} (h : s237 Tryz.prog k a0_key w) : Calls Tryz.prog 237 #[a0_key] w (retP k) :=
  calls_of_vcF [] mixedXMac Tryz.func237 (by kernel_rfl) (Eq.mp (e237 k a0_key w) h)
theorem n237 {args : Array Value} {w : World} {k : Value → World → Prop} (h : Calls Tryz.prog 237 args w (retP k)) : SN Tryz.prog (callFunc 237 args) w k := sn_call Tryz.func237 (by kernel_rfl) (by kernel_rfl) h

/-! ### 238: (*scrinium/mac.Maker).Name -/

def s238 (P : Program) (k : Value → World → Prop) (a0_m : Value) (w : World) : Prop :=
  SV P (Instr.alloc 29 true (.tuple #[])) w fun t2 w =>
  SV P (Instr.buildSlice 249 1 #[(0, (str [110, 97, 109, 101]))]) w fun t4 w =>
  SN P (callFunc 268 #[a0_m, t4]) w fun t5 w =>
  SU P (Instr.storeAt 29 t2 t5) w fun w =>
  CR P 29 t2 w fun t2_1 =>
  k t2_1 w

theorem e238 (k : Value → World → Prop) (a0_m : Value) (w : World) : s238 Tryz.prog k a0_m w = vcF Tryz.prog Tryz.f238 [] [a0_m] k w := by kernel_rfl
theorem c238 {k : Value → World → Prop} {a0_m : Value} {w : World} (h : s238 Tryz.prog k a0_m w) : Calls Tryz.prog 238 #[a0_m] w (retP k) :=
  calls_of_vcF [] mixedXMac Tryz.func238 (by kernel_rfl) (Eq.mp (e238 k a0_m w) h)
theorem n238 {args : Array Value} {w : World} {k : Value → World → Prop} (h : Calls Tryz.prog 238 args w (retP k)) : SN Tryz.prog (callFunc 238 args) w k := sn_call Tryz.func238 (by kernel_rfl) (by kernel_rfl) h

/-! ### 268: (*scrinium/mac.Maker).Sum -/

def s268_l1 (P : Program) (k : Value → World → Prop) (a1_parts : Value) (t4 : Value) (outer6 : Value) (t29 : Value) (t31 : Value) (t32 : Value) (next : List Value → World → Prop) (w : World) : Prop :=
  SV P (binOp .lss 3 t32 t31) w fun t33 w =>
  CN t33
  (SV P (Instr.indexAt 249 a1_parts t32) w fun t34 w =>
  SV P (Instr.loadAt 9 t34) w fun t35 w =>
  SN P (callFunc 232 #[t29, t35]) w fun _ w =>
  SV P (binOp .add 3 t32 (Value.int .i64 1)) w fun t39 w =>
  next [t39] w)
  (SN P (callFunc 291 #[outer6]) w fun t41 w =>
  SN P (callFunc 233 #[t29]) w fun t44 w =>
  SN P (callFunc 163 #[t44]) w fun t45 w =>
  SN P (callFunc 232 #[t41, t45]) w fun _ w =>
  SN P (callFunc 233 #[t41]) w fun t48 w =>
  SU P (Instr.storeAt 29 t4 t48) w fun w =>
  CR P 29 t4 w fun t4_1 =>
  k t4_1 w)

def s268_j1 (P : Program) (k : Value → World → Prop) (a1_parts : Value) (t4 : Value) (inner5 : Value) (outer6 : Value) (w : World) : Prop :=
  SN P (callFunc 291 #[inner5]) w fun t29 w =>
  SV P (Builtin.len_ #[249] 3 #[a1_parts]) w fun t31 w =>
  LP 1 [(Value.int .i64 0)] w (fun next _ us w => s268_l1 P k a1_parts t4 outer6 t29 t31 (us.getD 0 undef) next w)

def s268 (P : Program) (k : Value → World → Prop) (a0_m : Value) (a1_parts : Value) (w : World) : Prop :=
  SV P (Instr.alloc 29 true (.tuple #[])) w fun t4 w =>
  SV P (eqS .eql 265 (.tmp 11) (.const (Value.pointer none)) a0_m (Value.pointer none)) w fun t12 w =>
  CN t12
  (SV P (Instr.build 29 #[]) w fun t13 w =>
  SU P (Instr.storeAt 29 t4 t13) w fun w =>
  CR P 29 t4 w fun t4_1 =>
  k t4_1 w)
  (HR w fun C w =>
  HV P C (nilS a0_m) fun t15 =>
  HV P C (Instr.fieldAt 289 t15 0) fun t16 =>
  HV P C (Instr.loadAt 261 t16) fun t17 =>
  HV P C (nilS a0_m) fun t19 =>
  HV P C (Instr.fieldAt 289 t19 1) fun t20 =>
  HV P C (Instr.loadAt 261 t20) fun t21 =>
  JP 2 (fun j =>
  SV P (eqS .eql 261 (.tmp 22) (.const (Value.pointer none)) t17 (Value.pointer none)) w fun t23 w =>
  CN t23
  (SN P (callFunc 269 #[(str [])]) w fun t25 w =>
  SV P (Instr.extract t25 0) w fun t26 w =>
  SV P (Instr.extract t25 1) w fun t27 w =>
  j [t26, t27] w)
  (j [t17, t21] w))
  (fun _ us w => s268_j1 P k a1_parts t4 (us.getD 0 undef) (us.getD 1 undef) w))

theorem e268 (k : Value → World → Prop) (a0_m a1_parts : Value) (w : World) : s268 Tryz.prog k a0_m a1_parts w = vcF Tryz.prog Tryz.f268 [5, 6, 32] [a0_m, a1_parts] k w := by kernel_rfl
theorem c268 {k : Value → World → Prop} {a0_m a1_parts : Value} {w : World} (h : s268 Tryz.prog k a0_m a1_parts w) : Calls Tryz.prog 268 #[a0_m, a1_parts] w (retP k) :=
  calls_of_vcF [5, 6, 32] mixedXMac Tryz.func268 (by kernel_rfl) (Eq.mp (e268 k a0_m a1_parts w) h)
theorem n268 {args : Array Value} {w : World} {k : Value → World → Prop} (h : Calls Tryz.prog 268 args w (retP k)) : SN Tryz.prog (callFunc 268 args) w k := sn_call Tryz.func268 (by kernel_rfl) (by kernel_rfl) h

/-! ### 269: scrinium/mac.begun -/

def s269 (P : Program) (k : Value → World → Prop) (a0_key : Value) (w : World) : Prop :=
  SN P (callFunc 292 #[a0_key]) w fun t7 w =>
  SV P (Instr.alloc 9 true (.tuple #[])) w fun pad4 w =>
  SU P (Instr.storeAt 9 pad4 t7) w fun w =>
  SV P (Instr.makeFunc (.func 293) #[] #[pad4]) w fun t8 w =>
  SN P (callV t8 #[(Value.int .u8 54)]) w fun t10 w =>
  SN P (callV t8 #[(Value.int .u8 92)]) w fun t12 w =>
  k (.tuple #[t10, t12]) w

theorem e269 (k : Value → World → Prop) (a0_key : Value) (w : World) : s269 Tryz.prog k a0_key w = vcF Tryz.prog Tryz.f269 [] [a0_key] k w := by kernel_rfl
theorem c269 {k : Value → World → Prop} {a0_key : Value} {w : World} (h : s269 Tryz.prog k a0_key w) : Calls Tryz.prog 269 #[a0_key] w (retP k) :=
  calls_of_vcF [] mixedXMac Tryz.func269 (by kernel_rfl) (Eq.mp (e269 k a0_key w) h)
theorem n269 {args : Array Value} {w : World} {k : Value → World → Prop} (h : Calls Tryz.prog 269 args w (retP k)) : SN Tryz.prog (callFunc 269 args) w k := sn_call Tryz.func269 (by kernel_rfl) (by kernel_rfl) h

/-! ### 292: scrinium/mac.Pad -/

def s292_j1 (P : Program) (k : Value → World → Prop) (key0 : Value) (w : World) : Prop :=
  SV P (Builtin.len_ #[9] 3 #[key0]) w fun t12 w =>
  SV P (binOp .sub 3 (Value.int .i64 64) t12) w fun t13 w =>
  SN P (callFunc 242 #[(str [0]), t13]) w fun t14 w =>
  SV P (binOp .add 9 key0 t14) w fun t15 w =>
  k t15 w

def s292 (P : Program) (k : Value → World → Prop) (a0_key : Value) (w : World) : Prop :=
  JP 1 (fun j =>
  SV P (Builtin.len_ #[9] 3 #[a0_key]) w fun t4 w =>
  SV P (binOp .gtr 3 t4 (Value.int .i64 64)) w fun t5 w =>
  CN t5
  (SV P (Instr.buildSlice 249 1 #[(0, a0_key)]) w fun t7 w =>
  SN P (callFunc 151 #[t7]) w fun t8 w =>
  SN P (callFunc 163 #[t8]) w fun t9 w =>
  j [t9] w)
  (j [a0_key] w))
  (fun _ us w => s292_j1 P k (us.getD 0 undef) w)

theorem e292 (k : Value → World → Prop) (a0_key : Value) (w : World) : s292 Tryz.prog k a0_key w = vcF Tryz.prog Tryz.f292 [0] [a0_key] k w := by kernel_rfl
theorem c292 {k : Value → World → Prop} {a0_key : Value} {w : World} (h : s292 Tryz.prog k a0_key w) : Calls Tryz.prog 292 #[a0_key] w (retP k) :=
  calls_of_vcF [0] mixedXMac Tryz.func292 (by kernel_rfl) (Eq.mp (e292 k a0_key w) h)
theorem n292 {args : Array Value} {w : World} {k : Value → World → Prop} (h : Calls Tryz.prog 292 args w (retP k)) : SN Tryz.prog (callFunc 292 args) w k := sn_call Tryz.func292 (by kernel_rfl) (by kernel_rfl) h

/-! ### 293: scrinium/mac.begun$1 -/

def s293_l1 (P : Program) (k : Value → World → Prop) (a0_c : Value) (t8 : Value) (t10 : Value) (t11 : Value) (next : List Value → World → Prop) (w : World) : Prop :=
  SV P (binOp .lss 3 t11 t10) w fun t12 w =>
  CN t12
  (SV P (Instr.indexAt 151 t8 t11) w fun t16 w =>
  SV P (Instr.loadAt 5 t16) w fun t17 w =>
  SV P (binOp .xor 5 t17 a0_c) w fun t19 w =>
  SV P (Instr.indexAt 151 t8 t11) w fun t20 w =>
  SU P (Instr.storeAt 5 t20 t19) w fun w =>
  SV P (binOp .add 3 t11 (Value.int .i64 1)) w fun t21 w =>
  next [t21] w)
  (SN P (callFunc 231 #[]) w fun t22 w =>
  SV P (convert 151 9 t8) w fun t25 w =>
  SN P (callFunc 232 #[t22, t25]) w fun _ w =>
  k t22 w)

def s293 (P : Program) (k : Value → World → Prop) (a0_c : Value) (a1 : Value) (w : World) : Prop :=
  SV P (Instr.loadAt 9 a1) w fun t7 w =>
  SV P (convert 9 151 t7) w fun t8 w =>
  SV P (Builtin.len_ #[151] 3 #[t8]) w fun t10 w =>
  LP 1 [(Value.int .i64 0)] w (fun next _ us w => s293_l1 P k a0_c t8 t10 (us.getD 0 undef) next w)

theorem e293 (k : Value → World → Prop) (a0_c a1 : Value) (w : World) : s293 Tryz.prog k a0_c a1 w = vcF Tryz.prog Tryz.f293 [11] [a0_c, a1] k w := by kernel_rfl
theorem c293 {k : Value → World → Prop} {a0_c a1 : Value} {w : World} (h : s293 Tryz.prog k a0_c a1 w) : Calls Tryz.prog 293 #[a0_c, a1] w (retP k) :=
  calls_of_vcF [11] mixedXMac Tryz.func293 (by kernel_rfl) (Eq.mp (e293 k a0_c a1 w) h)
theorem n293 {args : Array Value} {w : World} {k : Value → World → Prop} (h : Calls Tryz.prog 293 args w (retP k)) : SN Tryz.prog (callFunc 293 args) w k := sn_call Tryz.func293 (by kernel_rfl) (by kernel_rfl) h

end Go.Proofs.YtkdghnbogkbedaaGreatDoor
