/-
  For each function: the condition that its code comes to, and that it is enough. Printed by sh.py (a program of this work).
-/
import Derived.Test.YtkdghnbogkbedaaGreatDoorProg
import Derived.Test.YtkdghnbogkbedaaGreatDoorTypes
namespace Go.Proofs.YtkdghnbogkbedaaGreatDoor
open Go Go.Sh
set_option maxRecDepth 100000


theorem mixedXRef03 : Tryz.prog.follows .mixedOrders = true := by kernel_rfl

/-! ### 92: scrinium/scriniumref03.Of -/

def s92 (P : Program) (k : Value → World → Prop) (a0_key : Value) (a1_s : Value) (w : World) : Prop :=
  SV P (Instr.alloc 29 true (.tuple #[])) w fun t4 w =>
  SN P (callFunc 158 #[a0_key]) w fun t8 w =>
  SN P (callFunc 159 #[t8, (Value.int .u8 54)]) w fun t10 w =>
  SV P (binOp .add 9 t10 a1_s) w fun t12 w =>
  SN P (callFunc 81 #[t12]) w fun t13 w =>
  SV P (Instr.alloc 29 true (.tuple #[])) w fun inner6 w =>
  SU P (Instr.storeAt 29 inner6 t13) w fun w =>
  HR w fun C w =>
  SN P (callFunc 159 #[t8, (Value.int .u8 92)]) w fun t15 w =>
  RS C w fun C =>
  HV P C (Instr.loadAt 29 inner6) fun t16 =>
  SN P (callFunc 160 #[t16]) w fun t17 w =>
  RS C w fun C =>
  HV P C (binOp .add 9 t15 t17) fun t18 =>
  SN P (callFunc 81 #[t18]) w fun t19 w =>
  SU P (Instr.storeAt 29 t4 t19) w fun w =>
  CR P 29 t4 w fun t4_1 =>
  k t4_1 w

theorem e92 (k : Value → World → Prop) (a0_key a1_s : Value) (w : World) : s92 Tryz.prog k a0_key a1_s w = vcF Tryz.prog Tryz.f92 [] [a0_key, a1_s] k w := by kernel_rfl
theorem c92 {k : Value → World → Prop} {a0_key a1_s : Value} {w : World} (h : s92 Tryz.prog k a0_key a1_s w) : Calls Tryz.prog 92 #[a0_key, a1_s] w (retP k) :=
  calls_of_vcF [] mixedXRef03 Tryz.func92 (by kernel_rfl) (Eq.mp (e92 k a0_key a1_s w) h)
theorem n92 {args : Array Value} {w : World} {k : Value → World → Prop} (h : Calls Tryz.prog 92 args w (retP k)) : SN Tryz.prog (callFunc 92 args) w k := sn_call Tryz.func92 (by kernel_rfl) (by kernel_rfl) h

/-! ### 158: scrinium/scriniumref03.Pad -/

def s158_l1 (P : Program) (k : Value → World → Prop) (key0_1 : Value) (next : List Value → World → Prop) (w : World) : Prop :=
  SV P (Builtin.len_ #[9] 3 #[key0_1]) w fun t10 w =>
  SV P (binOp .lss 3 t10 (Value.int .i64 64)) w fun t11 w =>
  CN t11
  (SV P (binOp .add 9 key0_1 (str [0])) w fun t13 w =>
  next [t13] w)
  (k key0_1 w)

def s158_j1 (P : Program) (k : Value → World → Prop) (key0 : Value) (w : World) : Prop :=
  LP 1 [key0] w (fun next _ us w => s158_l1 P k (us.getD 0 undef) next w)

def s158 (P : Program) (k : Value → World → Prop) (a0_key : Value) (w : World) : Prop :=
  JP 1 (fun j =>
  SV P (Builtin.len_ #[9] 3 #[a0_key]) w fun t4 w =>
  SV P (binOp .gtr 3 t4 (Value.int .i64 64)) w fun t5 w =>
  CN t5
  (SN P (callFunc 81 #[a0_key]) w fun t7 w =>
  SN P (callFunc 160 #[t7]) w fun t8 w =>
  j [t8] w)
  (j [a0_key] w))
  (fun _ us w => s158_j1 P k (us.getD 0 undef) w)

theorem e158 (k : Value → World → Prop) (a0_key : Value) (w : World) : s158 Tryz.prog k a0_key w = vcF Tryz.prog Tryz.f158 [0] [a0_key] k w := by kernel_rfl
theorem c158 {k : Value → World → Prop} {a0_key : Value} {w : World} (h : s158 Tryz.prog k a0_key w) : Calls Tryz.prog 158 #[a0_key] w (retP k) :=
  calls_of_vcF [0] mixedXRef03 Tryz.func158 (by kernel_rfl) (Eq.mp (e158 k a0_key w) h)
theorem n158 {args : Array Value} {w : World} {k : Value → World → Prop} (h : Calls Tryz.prog 158 args w (retP k)) : SN Tryz.prog (callFunc 158 args) w k := sn_call Tryz.func158 (by kernel_rfl) (by kernel_rfl) h

/-! ### 159: scrinium/scriniumref03.xor -/

def s159_l1 (P : Program) (k : Value → World → Prop) (a0_s : Value) (a1_c : Value) (t9 : Value) (i6 : Value) (next : List Value → World → Prop) (w : World) : Prop :=
  SV P (Builtin.len_ #[9] 3 #[a0_s]) w fun t12 w =>
  SV P (binOp .lss 3 i6 t12) w fun t13 w =>
  CN t13
  (SV P (Instr.index 9 a0_s i6) w fun t20 w =>
  SV P (binOp .xor 5 t20 a1_c) w fun t22 w =>
  SV P (Instr.indexAt 151 t9 i6) w fun t23 w =>
  SU P (Instr.storeAt 5 t23 t22) w fun w =>
  SV P (binOp .add 3 i6 (Value.int .i64 1)) w fun t15 w =>
  next [t15] w)
  (SV P (convert 151 9 t9) w fun t25 w =>
  k t25 w)

def s159 (P : Program) (k : Value → World → Prop) (a0_s : Value) (a1_c : Value) (w : World) : Prop :=
  SV P (Builtin.len_ #[9] 3 #[a0_s]) w fun t8 w =>
  SV P (Instr.makeSlice 151 t8 t8) w fun t9 w =>
  LP 1 [(Value.int .i64 0)] w (fun next _ us w => s159_l1 P k a0_s a1_c t9 (us.getD 0 undef) next w)

theorem e159 (k : Value → World → Prop) (a0_s a1_c : Value) (w : World) : s159 Tryz.prog k a0_s a1_c w = vcF Tryz.prog Tryz.f159 [6] [a0_s, a1_c] k w := by kernel_rfl
theorem c159 {k : Value → World → Prop} {a0_s a1_c : Value} {w : World} (h : s159 Tryz.prog k a0_s a1_c w) : Calls Tryz.prog 159 #[a0_s, a1_c] w (retP k) :=
  calls_of_vcF [6] mixedXRef03 Tryz.func159 (by kernel_rfl) (Eq.mp (e159 k a0_s a1_c w) h)
theorem n159 {args : Array Value} {w : World} {k : Value → World → Prop} (h : Calls Tryz.prog 159 args w (retP k)) : SN Tryz.prog (callFunc 159 args) w k := sn_call Tryz.func159 (by kernel_rfl) (by kernel_rfl) h

end Go.Proofs.YtkdghnbogkbedaaGreatDoor
