/-
  For each function: the condition that its code comes to, and that it is enough. Printed by sh.py (a program of this work).
-/
import Derived.Test.YtkdghnbogkbedaaGreatDoorProg
import Derived.Test.YtkdghnbogkbedaaGreatDoorTypes
namespace Go.Proofs.YtkdghnbogkbedaaGreatDoor
open Go Go.Sh
set_option maxRecDepth 100000


theorem mixedXOctet : Tryz.prog.follows .mixedOrders = true := by kernel_rfl

/-! ### 218: scrinium/octet.Put -/

def s218_l1 (P : Program) (k : Value → World → Prop) (a0_n : Value) (t7 : Value) (t10 : Value) (t16 : Value) (next : List Value → World → Prop) (w : World) : Prop :=
  SV P (binOp .lss 3 t16 t7) w fun t17 w =>
  CN t17
  (SV P (binOp .sub 3 t7 t16) w fun t22 w =>
  SV P (binOp .mul 3 (Value.int .i64 8) t16) w fun t25 w =>
  SV P (binOp .shr 198 a0_n t25) w fun t26 w =>
  SV P (convert 198 5 t26) w fun t27 w =>
  SV P (Instr.indexAt 151 t10 t22) w fun t28 w =>
  SU P (Instr.storeAt 5 t28 t27) w fun w =>
  SV P (binOp .add 3 t16 (Value.int .i64 1)) w fun t29 w =>
  next [t29] w)
  (SV P (convert 151 9 t10) w fun t31 w =>
  k t31 w)

def s218 (P : Program) (k : Value → World → Prop) (a0_n : Value) (w : World) : Prop :=
  SN P (callFunc 262 #[a0_n]) w fun t7 w =>
  SV P (binOp .add 3 (Value.int .i64 1) t7) w fun t9 w =>
  SV P (Instr.makeSlice 151 t9 t9) w fun t10 w =>
  SV P (convert 3 5 t7) w fun t13 w =>
  SV P (Instr.indexAt 151 t10 (Value.int .i64 0)) w fun t14 w =>
  SU P (Instr.storeAt 5 t14 t13) w fun w =>
  LP 1 [(Value.int .i64 0)] w (fun next _ us w => s218_l1 P k a0_n t7 t10 (us.getD 0 undef) next w)

theorem e218 (k : Value → World → Prop) (a0_n : Value) (w : World) : s218 Tryz.prog k a0_n w = vcF Tryz.prog Tryz.f218 [16] [a0_n] k w := by kernel_rfl
theorem c218 {k : Value → World → Prop} {a0_n : Value} {w : World} (h : s218 Tryz.prog k a0_n w) : Calls Tryz.prog 218 #[a0_n] w (retP k) :=
  calls_of_vcF [16] mixedXOctet Tryz.func218 (by kernel_rfl) (Eq.mp (e218 k a0_n w) h)
theorem n218 {args : Array Value} {w : World} {k : Value → World → Prop} (h : Calls Tryz.prog 218 args w (retP k)) : SN Tryz.prog (callFunc 218 args) w k := sn_call Tryz.func218 (by kernel_rfl) (by kernel_rfl) h

/-! ### 219: scrinium/octet.Text -/

def s219 (P : Program) (k : Value → World → Prop) (a0_s : Value) (w : World) : Prop :=
  SV P (Builtin.len_ #[9] 3 #[a0_s]) w fun t4 w =>
  SV P (convert 3 198 t4) w fun t5 w =>
  SN P (callFunc 218 #[t5]) w fun t6 w =>
  SV P (binOp .add 9 t6 a0_s) w fun t8 w =>
  k t8 w

theorem e219 (k : Value → World → Prop) (a0_s : Value) (w : World) : s219 Tryz.prog k a0_s w = vcF Tryz.prog Tryz.f219 [] [a0_s] k w := by kernel_rfl
theorem c219 {k : Value → World → Prop} {a0_s : Value} {w : World} (h : s219 Tryz.prog k a0_s w) : Calls Tryz.prog 219 #[a0_s] w (retP k) :=
  calls_of_vcF [] mixedXOctet Tryz.func219 (by kernel_rfl) (Eq.mp (e219 k a0_s w) h)
theorem n219 {args : Array Value} {w : World} {k : Value → World → Prop} (h : Calls Tryz.prog 219 args w (retP k)) : SN Tryz.prog (callFunc 219 args) w k := sn_call Tryz.func219 (by kernel_rfl) (by kernel_rfl) h

/-! ### 262: scrinium/octet.need -/

def s262 (P : Program) (k : Value → World → Prop) (a0_n : Value) (w : World) : Prop :=
  SN P (callFunc 283 #[a0_n]) w fun t4 w =>
  SV P (binOp .add 3 t4 (Value.int .i64 8)) w fun t5 w =>
  SV P (binOp .sub 3 t5 (Value.int .i64 1)) w fun t6 w =>
  SV P (binOp .quo 3 t6 (Value.int .i64 8)) w fun t7 w =>
  k t7 w

theorem e262 (k : Value → World → Prop) (a0_n : Value) (w : World) : s262 Tryz.prog k a0_n w = vcF Tryz.prog Tryz.f262 [] [a0_n] k w := by kernel_rfl
theorem c262 {k : Value → World → Prop} {a0_n : Value} {w : World} (h : s262 Tryz.prog k a0_n w) : Calls Tryz.prog 262 #[a0_n] w (retP k) :=
  calls_of_vcF [] mixedXOctet Tryz.func262 (by kernel_rfl) (Eq.mp (e262 k a0_n w) h)
theorem n262 {args : Array Value} {w : World} {k : Value → World → Prop} (h : Calls Tryz.prog 262 args w (retP k)) : SN Tryz.prog (callFunc 262 args) w k := sn_call Tryz.func262 (by kernel_rfl) (by kernel_rfl) h

end Go.Proofs.YtkdghnbogkbedaaGreatDoor
