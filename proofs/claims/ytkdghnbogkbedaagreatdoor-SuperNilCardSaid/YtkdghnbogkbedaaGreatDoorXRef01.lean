/-
  For each function: the condition that its code comes to, and that it is enough. Printed by sh.py (a program of this work).
-/
import Derived.Test.YtkdghnbogkbedaaGreatDoorProg
import Derived.Test.YtkdghnbogkbedaaGreatDoorTypes
namespace Go.Proofs.YtkdghnbogkbedaaGreatDoor
open Go Go.Sh
set_option maxRecDepth 100000


theorem mixedXRef01 : Tryz.prog.follows .mixedOrders = true := by kernel_rfl

/-! ### 156: scrinium/scriniumref01.Put -/

def s156_l1 (P : Program) (k : Value → World → Prop) (s3 : Value) (n0 : Value) (next : List Value → World → Prop) (w : World) : Prop :=
  SV P (binOp .gtr 198 n0 (Value.int .u64 0)) w fun t5 w =>
  CN t5
  (SV P (binOp .rem 198 n0 (Value.int .u64 256)) w fun t7 w =>
  SV P (convert 198 5 t7) w fun t8 w =>
  SV P (Instr.buildSlice 151 1 #[(0, t8)]) w fun t9 w =>
  SV P (convert 151 9 t9) w fun t10 w =>
  SV P (binOp .add 9 t10 s3) w fun t12 w =>
  SV P (binOp .quo 198 n0 (Value.int .u64 256)) w fun t14 w =>
  next [t12, t14] w)
  (SV P (Builtin.len_ #[9] 3 #[s3]) w fun t16 w =>
  SV P (convert 3 5 t16) w fun t17 w =>
  SV P (Instr.buildSlice 151 1 #[(0, t17)]) w fun t18 w =>
  SV P (convert 151 9 t18) w fun t19 w =>
  SV P (binOp .add 9 t19 s3) w fun t21 w =>
  k t21 w)

def s156 (P : Program) (k : Value → World → Prop) (a0_n : Value) (w : World) : Prop :=
  LP 2 [(str []), a0_n] w (fun next _ us w => s156_l1 P k (us.getD 0 undef) (us.getD 1 undef) next w)

theorem e156 (k : Value → World → Prop) (a0_n : Value) (w : World) : s156 Tryz.prog k a0_n w = vcF Tryz.prog Tryz.f156 [0, 3] [a0_n] k w := by kernel_rfl
theorem c156 {k : Value → World → Prop} {a0_n : Value} {w : World} (h : s156 Tryz.prog k a0_n w) : Calls Tryz.prog 156 #[a0_n] w (retP k) :=
  calls_of_vcF [0, 3] mixedXRef01 Tryz.func156 (by kernel_rfl) (Eq.mp (e156 k a0_n w) h)
theorem n156 {args : Array Value} {w : World} {k : Value → World → Prop} (h : Calls Tryz.prog 156 args w (retP k)) : SN Tryz.prog (callFunc 156 args) w k := sn_call Tryz.func156 (by kernel_rfl) (by kernel_rfl) h

/-! ### 191: scrinium/scriniumref01.Text -/

def s191 (P : Program) (k : Value → World → Prop) (a0_s : Value) (w : World) : Prop :=
  SV P (Builtin.len_ #[9] 3 #[a0_s]) w fun t4 w =>
  SV P (convert 3 198 t4) w fun t5 w =>
  SN P (callFunc 156 #[t5]) w fun t6 w =>
  SV P (binOp .add 9 t6 a0_s) w fun t8 w =>
  k t8 w

theorem e191 (k : Value → World → Prop) (a0_s : Value) (w : World) : s191 Tryz.prog k a0_s w = vcF Tryz.prog Tryz.f191 [] [a0_s] k w := by kernel_rfl
theorem c191 {k : Value → World → Prop} {a0_s : Value} {w : World} (h : s191 Tryz.prog k a0_s w) : Calls Tryz.prog 191 #[a0_s] w (retP k) :=
  calls_of_vcF [] mixedXRef01 Tryz.func191 (by kernel_rfl) (Eq.mp (e191 k a0_s w) h)
theorem n191 {args : Array Value} {w : World} {k : Value → World → Prop} (h : Calls Tryz.prog 191 args w (retP k)) : SN Tryz.prog (callFunc 191 args) w k := sn_call Tryz.func191 (by kernel_rfl) (by kernel_rfl) h

end Go.Proofs.YtkdghnbogkbedaaGreatDoor
