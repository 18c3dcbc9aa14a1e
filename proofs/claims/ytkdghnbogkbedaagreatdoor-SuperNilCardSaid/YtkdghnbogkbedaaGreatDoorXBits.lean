/-
  For each function: the condition that its code comes to, and that it is enough. Printed by sh.py (a program of this work).
-/
import Derived.Test.YtkdghnbogkbedaaGreatDoorProg
import Derived.Test.YtkdghnbogkbedaaGreatDoorTypes
namespace Go.Proofs.YtkdghnbogkbedaaGreatDoor
open Go Go.Sh
set_option maxRecDepth 100000


theorem mixedXBits : Tryz.prog.follows .mixedOrders = true := by kernel_rfl

/-! ### 245: math/bits.Len -/

def s245 (P : Program) (k : Value → World → Prop) (a0_x : Value) (w : World) : Prop :=
  SN P (callFunc 283 #[a0_x]) w fun t7 w =>
  k t7 w

theorem e245 (k : Value → World → Prop) (a0_x : Value) (w : World) : s245 Tryz.prog k a0_x w = vcF Tryz.prog Tryz.f245 [] [a0_x] k w := by kernel_rfl
theorem c245 {k : Value → World → Prop} {a0_x : Value} {w : World} (h : s245 Tryz.prog k a0_x w) : Calls Tryz.prog 245 #[a0_x] w (retP k) :=
  calls_of_vcF [] mixedXBits Tryz.func245 (by kernel_rfl) (Eq.mp (e245 k a0_x w) h)
theorem n245 {args : Array Value} {w : World} {k : Value → World → Prop} (h : Calls Tryz.prog 245 args w (retP k)) : SN Tryz.prog (callFunc 245 args) w k := sn_call Tryz.func245 (by kernel_rfl) (by kernel_rfl) h

/-! ### 272: math/bits.Mul -/

def s272 (P : Program) (k : Value → World → Prop) (a0_x : Value) (a1_y : Value) (w : World) : Prop :=
  SN P (callFunc 296 #[a0_x, a1_y]) w fun t25 w =>
  SV P (Instr.extract t25 0) w fun t26 w =>
  SV P (Instr.extract t25 1) w fun t27 w =>
  k (.tuple #[t26, t27]) w

theorem e272 (k : Value → World → Prop) (a0_x a1_y : Value) (w : World) : s272 Tryz.prog k a0_x a1_y w = vcF Tryz.prog Tryz.f272 [] [a0_x, a1_y] k w := by kernel_rfl
theorem c272 {k : Value → World → Prop} {a0_x a1_y : Value} {w : World} (h : s272 Tryz.prog k a0_x a1_y w) : Calls Tryz.prog 272 #[a0_x, a1_y] w (retP k) :=
  calls_of_vcF [] mixedXBits Tryz.func272 (by kernel_rfl) (Eq.mp (e272 k a0_x a1_y w) h)
theorem n272 {args : Array Value} {w : World} {k : Value → World → Prop} (h : Calls Tryz.prog 272 args w (retP k)) : SN Tryz.prog (callFunc 272 args) w k := sn_call Tryz.func272 (by kernel_rfl) (by kernel_rfl) h

/-! ### 282: math/bits.Len32 -/

def s282_j1 (P : Program) (k : Value → World → Prop) (x0_1 : Value) (n2_1 : Value) (w : World) : Prop :=
  SV P (convert 199 5 x0_1) w fun t15 w =>
  SV P (Instr.index 9 (str [0, 1, 2, 2, 3, 3, 3, 3, 4, 4, 4, 4, 4, 4, 4, 4, 5, 5, 5, 5, 5, 5, 5, 5, 5, 5, 5, 5, 5, 5, 5, 5, 6, 6, 6, 6, 6, 6, 6, 6, 6, 6, 6, 6, 6, 6, 6, 6, 6, 6, 6, 6, 6, 6, 6, 6, 6, 6, 6, 6, 6, 6, 6, 6, 7, 7, 7, 7, 7, 7, 7, 7, 7, 7, 7, 7, 7, 7, 7, 7, 7, 7, 7, 7, 7, 7, 7, 7, 7, 7, 7, 7, 7, 7, 7, 7, 7, 7, 7, 7, 7, 7, 7, 7, 7, 7, 7, 7, 7, 7, 7, 7, 7, 7, 7, 7, 7, 7, 7, 7, 7, 7, 7, 7, 7, 7, 7, 7, 8, 8, 8, 8, 8, 8, 8, 8, 8, 8, 8, 8, 8, 8, 8, 8, 8, 8, 8, 8, 8, 8, 8, 8, 8, 8, 8, 8, 8, 8, 8, 8, 8, 8, 8, 8, 8, 8, 8, 8, 8, 8, 8, 8, 8, 8, 8, 8, 8, 8, 8, 8, 8, 8, 8, 8, 8, 8, 8, 8, 8, 8, 8, 8, 8, 8, 8, 8, 8, 8, 8, 8, 8, 8, 8, 8, 8, 8, 8, 8, 8, 8, 8, 8, 8, 8, 8, 8, 8, 8, 8, 8, 8, 8, 8, 8, 8, 8, 8, 8, 8, 8, 8, 8, 8, 8, 8, 8, 8, 8, 8, 8, 8, 8, 8, 8, 8, 8, 8, 8, 8, 8, 8, 8, 8, 8, 8, 8]) t15) w fun t16 w =>
  SV P (convert 5 3 t16) w fun t17 w =>
  SV P (binOp .add 3 n2_1 t17) w fun t18 w =>
  k t18 w

def s282_j2 (P : Program) (k : Value → World → Prop) (x0 : Value) (n2 : Value) (w : World) : Prop :=
  JP 2 (fun j =>
  SV P (binOp .geq 199 x0 (Value.int .u32 256)) w fun t8 w =>
  CN t8
  (SV P (binOp .shr 199 x0 (Value.int .u64 8)) w fun t10 w =>
  SV P (binOp .add 3 n2 (Value.int .i64 8)) w fun t12 w =>
  j [t10, t12] w)
  (j [x0, n2] w))
  (fun _ us w => s282_j1 P k (us.getD 0 undef) (us.getD 1 undef) w)

def s282 (P : Program) (k : Value → World → Prop) (a0_x : Value) (w : World) : Prop :=
  JP 2 (fun j =>
  SV P (binOp .geq 199 a0_x (Value.int .u32 65536)) w fun t4 w =>
  CN t4
  (SV P (binOp .shr 199 a0_x (Value.int .u64 16)) w fun t6 w =>
  j [t6, (Value.int .i64 16)] w)
  (j [a0_x, (Value.int .i64 0)] w))
  (fun _ us w => s282_j2 P k (us.getD 0 undef) (us.getD 1 undef) w)

theorem e282 (k : Value → World → Prop) (a0_x : Value) (w : World) : s282 Tryz.prog k a0_x w = vcF Tryz.prog Tryz.f282 [0, 2] [a0_x] k w := by kernel_rfl
theorem c282 {k : Value → World → Prop} {a0_x : Value} {w : World} (h : s282 Tryz.prog k a0_x w) : Calls Tryz.prog 282 #[a0_x] w (retP k) :=
  calls_of_vcF [0, 2] mixedXBits Tryz.func282 (by kernel_rfl) (Eq.mp (e282 k a0_x w) h)
theorem n282 {args : Array Value} {w : World} {k : Value → World → Prop} (h : Calls Tryz.prog 282 args w (retP k)) : SN Tryz.prog (callFunc 282 args) w k := sn_call Tryz.func282 (by kernel_rfl) (by kernel_rfl) h

/-! ### 283: math/bits.Len64 -/

def s283_j1 (P : Program) (k : Value → World → Prop) (x0_2 : Value) (n2_2 : Value) (w : World) : Prop :=
  SV P (convert 198 5 x0_2) w fun t21 w =>
  SV P (Instr.index 9 (str [0, 1, 2, 2, 3, 3, 3, 3, 4, 4, 4, 4, 4, 4, 4, 4, 5, 5, 5, 5, 5, 5, 5, 5, 5, 5, 5, 5, 5, 5, 5, 5, 6, 6, 6, 6, 6, 6, 6, 6, 6, 6, 6, 6, 6, 6, 6, 6, 6, 6, 6, 6, 6, 6, 6, 6, 6, 6, 6, 6, 6, 6, 6, 6, 7, 7, 7, 7, 7, 7, 7, 7, 7, 7, 7, 7, 7, 7, 7, 7, 7, 7, 7, 7, 7, 7, 7, 7, 7, 7, 7, 7, 7, 7, 7, 7, 7, 7, 7, 7, 7, 7, 7, 7, 7, 7, 7, 7, 7, 7, 7, 7, 7, 7, 7, 7, 7, 7, 7, 7, 7, 7, 7, 7, 7, 7, 7, 7, 8, 8, 8, 8, 8, 8, 8, 8, 8, 8, 8, 8, 8, 8, 8, 8, 8, 8, 8, 8, 8, 8, 8, 8, 8, 8, 8, 8, 8, 8, 8, 8, 8, 8, 8, 8, 8, 8, 8, 8, 8, 8, 8, 8, 8, 8, 8, 8, 8, 8, 8, 8, 8, 8, 8, 8, 8, 8, 8, 8, 8, 8, 8, 8, 8, 8, 8, 8, 8, 8, 8, 8, 8, 8, 8, 8, 8, 8, 8, 8, 8, 8, 8, 8, 8, 8, 8, 8, 8, 8, 8, 8, 8, 8, 8, 8, 8, 8, 8, 8, 8, 8, 8, 8, 8, 8, 8, 8, 8, 8, 8, 8, 8, 8, 8, 8, 8, 8, 8, 8, 8, 8, 8, 8, 8, 8, 8, 8]) t21) w fun t22 w =>
  SV P (convert 5 3 t22) w fun t23 w =>
  SV P (binOp .add 3 n2_2 t23) w fun t24 w =>
  k t24 w

def s283_j2 (P : Program) (k : Value → World → Prop) (x0_1 : Value) (n2_1 : Value) (w : World) : Prop :=
  JP 2 (fun j =>
  SV P (binOp .geq 198 x0_1 (Value.int .u64 256)) w fun t14 w =>
  CN t14
  (SV P (binOp .shr 198 x0_1 (Value.int .u64 8)) w fun t16 w =>
  SV P (binOp .add 3 n2_1 (Value.int .i64 8)) w fun t18 w =>
  j [t16, t18] w)
  (j [x0_1, n2_1] w))
  (fun _ us w => s283_j1 P k (us.getD 0 undef) (us.getD 1 undef) w)

def s283_j3 (P : Program) (k : Value → World → Prop) (x0 : Value) (n2 : Value) (w : World) : Prop :=
  JP 2 (fun j =>
  SV P (binOp .geq 198 x0 (Value.int .u64 65536)) w fun t8 w =>
  CN t8
  (SV P (binOp .shr 198 x0 (Value.int .u64 16)) w fun t10 w =>
  SV P (binOp .add 3 n2 (Value.int .i64 16)) w fun t12 w =>
  j [t10, t12] w)
  (j [x0, n2] w))
  (fun _ us w => s283_j2 P k (us.getD 0 undef) (us.getD 1 undef) w)

def s283 (P : Program) (k : Value → World → Prop) (a0_x : Value) (w : World) : Prop :=
  JP 2 (fun j =>
  SV P (binOp .geq 198 a0_x (Value.int .u64 4294967296)) w fun t4 w =>
  CN t4
  (SV P (binOp .shr 198 a0_x (Value.int .u64 32)) w fun t6 w =>
  j [t6, (Value.int .i64 32)] w)
  (j [a0_x, (Value.int .i64 0)] w))
  (fun _ us w => s283_j3 P k (us.getD 0 undef) (us.getD 1 undef) w)

theorem e283 (k : Value → World → Prop) (a0_x : Value) (w : World) : s283 Tryz.prog k a0_x w = vcF Tryz.prog Tryz.f283 [0, 2] [a0_x] k w := by kernel_rfl
theorem c283 {k : Value → World → Prop} {a0_x : Value} {w : World} (h : s283 Tryz.prog k a0_x w) : Calls Tryz.prog 283 #[a0_x] w (retP k) :=
  calls_of_vcF [0, 2] mixedXBits Tryz.func283 (by kernel_rfl) (Eq.mp (e283 k a0_x w) h)
theorem n283 {args : Array Value} {w : World} {k : Value → World → Prop} (h : Calls Tryz.prog 283 args w (retP k)) : SN Tryz.prog (callFunc 283 args) w k := sn_call Tryz.func283 (by kernel_rfl) (by kernel_rfl) h

/-! ### 295: math/bits.Mul32 -/

def s295 (P : Program) (k : Value → World → Prop) (a0_x : Value) (a1_y : Value) (w : World) : Prop :=
  SV P (convert 199 198 a0_x) w fun t8 w =>
  SV P (convert 199 198 a1_y) w fun t10 w =>
  SV P (binOp .mul 198 t8 t10) w fun t11 w =>
  SV P (binOp .shr 198 t11 (Value.int .u64 32)) w fun t13 w =>
  SV P (convert 198 199 t13) w fun t14 w =>
  SV P (convert 198 199 t11) w fun t16 w =>
  k (.tuple #[t14, t16]) w

theorem e295 (k : Value → World → Prop) (a0_x a1_y : Value) (w : World) : s295 Tryz.prog k a0_x a1_y w = vcF Tryz.prog Tryz.f295 [] [a0_x, a1_y] k w := by kernel_rfl
theorem c295 {k : Value → World → Prop} {a0_x a1_y : Value} {w : World} (h : s295 Tryz.prog k a0_x a1_y w) : Calls Tryz.prog 295 #[a0_x, a1_y] w (retP k) :=
  calls_of_vcF [] mixedXBits Tryz.func295 (by kernel_rfl) (Eq.mp (e295 k a0_x a1_y w) h)
theorem n295 {args : Array Value} {w : World} {k : Value → World → Prop} (h : Calls Tryz.prog 295 args w (retP k)) : SN Tryz.prog (callFunc 295 args) w k := sn_call Tryz.func295 (by kernel_rfl) (by kernel_rfl) h

/-! ### 296: math/bits.Mul64 -/

def s296 (P : Program) (k : Value → World → Prop) (a0_x : Value) (a1_y : Value) (w : World) : Prop :=
  SV P (binOp .and 198 a0_x (Value.int .u64 4294967295)) w fun t15 w =>
  SV P (binOp .shr 198 a0_x (Value.int .u64 32)) w fun t17 w =>
  SV P (binOp .and 198 a1_y (Value.int .u64 4294967295)) w fun t19 w =>
  SV P (binOp .shr 198 a1_y (Value.int .u64 32)) w fun t21 w =>
  SV P (binOp .mul 198 t15 t19) w fun t24 w =>
  SV P (binOp .mul 198 t17 t19) w fun t27 w =>
  SV P (binOp .shr 198 t24 (Value.int .u64 32)) w fun t29 w =>
  SV P (binOp .add 198 t27 t29) w fun t30 w =>
  SV P (binOp .and 198 t30 (Value.int .u64 4294967295)) w fun t32 w =>
  SV P (binOp .shr 198 t30 (Value.int .u64 32)) w fun t34 w =>
  SV P (binOp .mul 198 t15 t21) w fun t38 w =>
  SV P (binOp .add 198 t32 t38) w fun t39 w =>
  SV P (binOp .mul 198 t17 t21) w fun t42 w =>
  SV P (binOp .add 198 t42 t34) w fun t44 w =>
  SV P (binOp .shr 198 t39 (Value.int .u64 32)) w fun t46 w =>
  SV P (binOp .add 198 t44 t46) w fun t47 w =>
  SV P (binOp .mul 198 a0_x a1_y) w fun t50 w =>
  k (.tuple #[t47, t50]) w

theorem e296 (k : Value → World → Prop) (a0_x a1_y : Value) (w : World) : s296 Tryz.prog k a0_x a1_y w = vcF Tryz.prog Tryz.f296 [] [a0_x, a1_y] k w := by kernel_rfl
theorem c296 {k : Value → World → Prop} {a0_x a1_y : Value} {w : World} (h : s296 Tryz.prog k a0_x a1_y w) : Calls Tryz.prog 296 #[a0_x, a1_y] w (retP k) :=
  calls_of_vcF [] mixedXBits Tryz.func296 (by kernel_rfl) (Eq.mp (e296 k a0_x a1_y w) h)
theorem n296 {args : Array Value} {w : World} {k : Value → World → Prop} (h : Calls Tryz.prog 296 args w (retP k)) : SN Tryz.prog (callFunc 296 args) w k := sn_call Tryz.func296 (by kernel_rfl) (by kernel_rfl) h

/-! ### 313: math/bits.RotateLeft32 -/

def s313 (P : Program) (k : Value → World → Prop) (a0_x : Value) (a1_k : Value) (w : World) : Prop :=
  SV P (convert 3 121 a1_k) w fun t7 w =>
  SV P (binOp .and 121 t7 (Value.int .u64 31)) w fun t8 w =>
  SV P (binOp .shl 199 a0_x t8) w fun t11 w =>
  SV P (binOp .sub 121 (Value.int .u64 32) t8) w fun t14 w =>
  SV P (binOp .shr 199 a0_x t14) w fun t15 w =>
  SV P (binOp .or 199 t11 t15) w fun t16 w =>
  k t16 w

theorem e313 (k : Value → World → Prop) (a0_x a1_k : Value) (w : World) : s313 Tryz.prog k a0_x a1_k w = vcF Tryz.prog Tryz.f313 [] [a0_x, a1_k] k w := by kernel_rfl
theorem c313 {k : Value → World → Prop} {a0_x a1_k : Value} {w : World} (h : s313 Tryz.prog k a0_x a1_k w) : Calls Tryz.prog 313 #[a0_x, a1_k] w (retP k) :=
  calls_of_vcF [] mixedXBits Tryz.func313 (by kernel_rfl) (Eq.mp (e313 k a0_x a1_k w) h)
theorem n313 {args : Array Value} {w : World} {k : Value → World → Prop} (h : Calls Tryz.prog 313 args w (retP k)) : SN Tryz.prog (callFunc 313 args) w k := sn_call Tryz.func313 (by kernel_rfl) (by kernel_rfl) h

/-! ### 317: math/bits.TrailingZeros -/

def s317 (P : Program) (k : Value → World → Prop) (a0_x : Value) (w : World) : Prop :=
  SN P (callFunc 319 #[a0_x]) w fun t7 w =>
  k t7 w

theorem e317 (k : Value → World → Prop) (a0_x : Value) (w : World) : s317 Tryz.prog k a0_x w = vcF Tryz.prog Tryz.f317 [] [a0_x] k w := by kernel_rfl
theorem c317 {k : Value → World → Prop} {a0_x : Value} {w : World} (h : s317 Tryz.prog k a0_x w) : Calls Tryz.prog 317 #[a0_x] w (retP k) :=
  calls_of_vcF [] mixedXBits Tryz.func317 (by kernel_rfl) (Eq.mp (e317 k a0_x w) h)
theorem n317 {args : Array Value} {w : World} {k : Value → World → Prop} (h : Calls Tryz.prog 317 args w (retP k)) : SN Tryz.prog (callFunc 317 args) w k := sn_call Tryz.func317 (by kernel_rfl) (by kernel_rfl) h

/-! ### 318: math/bits.TrailingZeros32 -/

def s318 (P : Program) (k : Value → World → Prop) (a0_x : Value) (w : World) : Prop :=
  SV P (eqS .eql 199 (.tmp 3) (.const (Value.int .u32 0)) a0_x (Value.int .u32 0)) w fun t4 w =>
  CN t4
  (k (Value.int .i64 32) w)
  (SV P (Op.unary .neg a0_x) w fun t7 w =>
  SV P (binOp .and 199 a0_x t7) w fun t8 w =>
  SV P (binOp .mul 199 t8 (Value.int .u32 125613361)) w fun t9 w =>
  SV P (binOp .shr 199 t9 (Value.int .u64 27)) w fun t10 w =>
  SV P (Instr.indexAt 28 (Value.pointer (some ⟨3, 0, none⟩)) t10) w fun t11 w =>
  SV P (Instr.loadAt 5 t11) w fun t12 w =>
  SV P (convert 5 3 t12) w fun t13 w =>
  k t13 w)

theorem e318 (k : Value → World → Prop) (a0_x : Value) (w : World) : s318 Tryz.prog k a0_x w = vcF Tryz.prog Tryz.f318 [] [a0_x] k w := by kernel_rfl
theorem c318 {k : Value → World → Prop} {a0_x : Value} {w : World} (h : s318 Tryz.prog k a0_x w) : Calls Tryz.prog 318 #[a0_x] w (retP k) :=
  calls_of_vcF [] mixedXBits Tryz.func318 (by kernel_rfl) (Eq.mp (e318 k a0_x w) h)
theorem n318 {args : Array Value} {w : World} {k : Value → World → Prop} (h : Calls Tryz.prog 318 args w (retP k)) : SN Tryz.prog (callFunc 318 args) w k := sn_call Tryz.func318 (by kernel_rfl) (by kernel_rfl) h

/-! ### 319: math/bits.TrailingZeros64 -/

def s319 (P : Program) (k : Value → World → Prop) (a0_x : Value) (w : World) : Prop :=
  SV P (eqS .eql 198 (.tmp 3) (.const (Value.int .u64 0)) a0_x (Value.int .u64 0)) w fun t4 w =>
  CN t4
  (k (Value.int .i64 64) w)
  (SV P (Op.unary .neg a0_x) w fun t7 w =>
  SV P (binOp .and 198 a0_x t7) w fun t8 w =>
  SV P (binOp .mul 198 t8 (Value.int .u64 285870213051353865)) w fun t9 w =>
  SV P (binOp .shr 198 t9 (Value.int .u64 58)) w fun t10 w =>
  SV P (Instr.indexAt 331 (Value.pointer (some ⟨4, 0, none⟩)) t10) w fun t11 w =>
  SV P (Instr.loadAt 5 t11) w fun t12 w =>
  SV P (convert 5 3 t12) w fun t13 w =>
  k t13 w)

theorem e319 (k : Value → World → Prop) (a0_x : Value) (w : World) : s319 Tryz.prog k a0_x w = vcF Tryz.prog Tryz.f319 [] [a0_x] k w := by kernel_rfl
theorem c319 {k : Value → World → Prop} {a0_x : Value} {w : World} (h : s319 Tryz.prog k a0_x w) : Calls Tryz.prog 319 #[a0_x] w (retP k) :=
  calls_of_vcF [] mixedXBits Tryz.func319 (by kernel_rfl) (Eq.mp (e319 k a0_x w) h)
theorem n319 {args : Array Value} {w : World} {k : Value → World → Prop} (h : Calls Tryz.prog 319 args w (retP k)) : SN Tryz.prog (callFunc 319 args) w k := sn_call Tryz.func319 (by kernel_rfl) (by kernel_rfl) h

end Go.Proofs.YtkdghnbogkbedaaGreatDoor
