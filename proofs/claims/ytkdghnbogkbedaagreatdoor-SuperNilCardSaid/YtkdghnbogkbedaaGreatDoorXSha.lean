/-
  For each function: the condition that its code comes to, and that it is enough. Printed by sh.py (a program of this work).
-/
import Derived.Test.YtkdghnbogkbedaaGreatDoorProg
import Derived.Test.YtkdghnbogkbedaaGreatDoorTypes
namespace Go.Proofs.YtkdghnbogkbedaaGreatDoor
open Go Go.Sh
set_option maxRecDepth 100000


theorem mixedXSha : Tryz.prog.follows .mixedOrders = true := by kernel_rfl

/-! ### 151: scrinium/sha.Of -/

def s151_l1 (P : Program) (k : Value → World → Prop) (a0_parts : Value) (t2 : Value) (t6 : Value) (t8 : Value) (t9 : Value) (next : List Value → World → Prop) (w : World) : Prop :=
  SV P (binOp .lss 3 t9 t8) w fun t10 w =>
  CN t10
  (SV P (Instr.indexAt 249 a0_parts t9) w fun t11 w =>
  SV P (Instr.loadAt 9 t11) w fun t12 w =>
  SN P (callFunc 232 #[t6, t12]) w fun _ w =>
  SV P (binOp .add 3 t9 (Value.int .i64 1)) w fun t16 w =>
  next [t16] w)
  (SN P (callFunc 233 #[t6]) w fun t18 w =>
  SU P (Instr.storeAt 29 t2 t18) w fun w =>
  CR P 29 t2 w fun t2_1 =>
  k t2_1 w)

def s151 (P : Program) (k : Value → World → Prop) (a0_parts : Value) (w : World) : Prop :=
  SV P (Instr.alloc 29 true (.tuple #[])) w fun t2 w =>
  SN P (callFunc 231 #[]) w fun t6 w =>
  SV P (Builtin.len_ #[249] 3 #[a0_parts]) w fun t8 w =>
  LP 1 [(Value.int .i64 0)] w (fun next _ us w => s151_l1 P k a0_parts t2 t6 t8 (us.getD 0 undef) next w)

theorem e151 (k : Value → World → Prop) (a0_parts : Value) (w : World) : s151 Tryz.prog k a0_parts w = vcF Tryz.prog Tryz.f151 [9] [a0_parts] k w := by kernel_rfl
theorem c151 {k : Value → World → Prop} {a0_parts : Value} {w : World} (h : s151 Tryz.prog k a0_parts w) : Calls Tryz.prog 151 #[a0_parts] w (retP k) :=
  calls_of_vcF [9] mixedXSha Tryz.func151 (by kernel_rfl) (Eq.mp (e151 k a0_parts w) h)
theorem n151 {args : Array Value} {w : World} {k : Value → World → Prop} (h : Calls Tryz.prog 151 args w (retP k)) : SN Tryz.prog (callFunc 151 args) w k := sn_call Tryz.func151 (by kernel_rfl) (by kernel_rfl) h

/-! ### 163: scrinium/sha.Bytes -/

def s163 (P : Program) (k : Value → World → Prop) (a0_s : Value) (w : World) : Prop :=
  SV P (Instr.box 29 a0_s) w fun s1 w =>
  SV P (Instr.sliceAt 29 s1 none none none) w fun t3 w =>
  SV P (convert 151 9 t3) w fun t4 w =>
  k t4 w

theorem e163 (k : Value → World → Prop) (a0_s : Value) (w : World) : s163 Tryz.prog k a0_s w = vcF Tryz.prog Tryz.f163 [] [a0_s] k w := by kernel_rfl
theorem c163 {k : Value → World → Prop} {a0_s : Value} {w : World} (h : s163 Tryz.prog k a0_s w) : Calls Tryz.prog 163 #[a0_s] w (retP k) :=
  calls_of_vcF [] mixedXSha Tryz.func163 (by kernel_rfl) (Eq.mp (e163 k a0_s w) h)
theorem n163 {args : Array Value} {w : World} {k : Value → World → Prop} (h : Calls Tryz.prog 163 args w (retP k)) : SN Tryz.prog (callFunc 163 args) w k := sn_call Tryz.func163 (by kernel_rfl) (by kernel_rfl) h

/-! ### 231: scrinium/sha.New -/

def s231 (P : Program) (k : Value → World → Prop) (w : World) : Prop :=
  SV P (Instr.build 282 #[]) w fun t1 w =>
  SV P (Instr.box 282 t1) w fun t2 w =>
  k t2 w

theorem e231 (k : Value → World → Prop) (w : World) : s231 Tryz.prog k  w = vcF Tryz.prog Tryz.f231 [] [] k w := by kernel_rfl
theorem c231 {k : Value → World → Prop} {w : World} (h : s231 Tryz.prog k  w) : Calls Tryz.prog 231 #[] w (retP k) :=
  calls_of_vcF [] mixedXSha Tryz.func231 (by kernel_rfl) (Eq.mp (e231 k  w) h)
theorem n231 {args : Array Value} {w : World} {k : Value → World → Prop} (h : Calls Tryz.prog 231 args w (retP k)) : SN Tryz.prog (callFunc 231 args) w k := sn_call Tryz.func231 (by kernel_rfl) (by kernel_rfl) h

/-! ### 232: (*scrinium/sha.Hash).Write -/

def s232_j1 (P : Program) (k : Value → World → Prop) (a0_h : Value) (a1_s : Value) (w : World) : Prop :=
  SV P (nilS a0_h) w fun t20 w =>
  SV P (Instr.fieldAt 282 t20 3) w fun t21 w =>
  SV P (Instr.loadAt 3 t21) w fun t22 w =>
  SV P (Builtin.len_ #[9] 3 #[a1_s]) w fun t24 w =>
  SV P (binOp .add 3 t22 t24) w fun t25 w =>
  SV P (nilS a0_h) w fun t26 w =>
  SV P (Instr.fieldAt 282 t26 3) w fun t27 w =>
  SU P (Instr.storeAt 3 t27 t25) w fun w =>
  HR w fun C w =>
  HV P C (nilS a0_h) fun t32 =>
  HV P C (Instr.fieldAt 282 t32 1) fun t33 =>
  HV P C (Instr.loadAt 200 t33) fun t34 =>
  HV P C (nilS a0_h) fun t36 =>
  HV P C (Instr.fieldAt 282 t36 2) fun t37 =>
  HV P C (Instr.loadAt 9 t37) fun t38 =>
  HV P C (binOp .add 9 t38 a1_s) fun t40 =>
  SN P (callFunc 267 #[t34, t40]) w fun t41 w =>
  RS C w fun C =>
  HV P C (Instr.extract t41 0) fun t42 =>
  HV P C (Instr.extract t41 1) fun t43 =>
  HV P C (nilS a0_h) fun t44 =>
  HV P C (Instr.fieldAt 282 t44 1) fun t45 =>
  SU P (Instr.storeAt 200 t45 t42) w fun w =>
  C w ∧
  HV P C (nilS a0_h) fun t46 =>
  HV P C (Instr.fieldAt 282 t46 2) fun t47 =>
  SU P (Instr.storeAt 9 t47 t43) w fun w =>
  SV P (Builtin.len_ #[9] 3 #[a1_s]) w fun t49 w =>
  k t49 w

def s232 (P : Program) (k : Value → World → Prop) (a0_h : Value) (a1_s : Value) (w : World) : Prop :=
  SV P (eqS .eql 261 (.tmp 5) (.const (Value.pointer none)) a0_h (Value.pointer none)) w fun t6 w =>
  CN t6
  (k (Value.int .i64 0) w)
  (JP 0 (fun j =>
  SV P (nilS a0_h) w fun t8 w =>
  SV P (Instr.fieldAt 282 t8 0) w fun t9 w =>
  SV P (Instr.loadAt 4 t9) w fun t10 w =>
  SV P (Op.unary .not t10) w fun t11 w =>
  CN t11
  (SN P (callFunc 266 #[]) w fun t14 w =>
  SV P (nilS a0_h) w fun t15 w =>
  SV P (Instr.fieldAt 282 t15 0) w fun t16 w =>
  SU P (Instr.storeAt 4 t16 (Value.bool true)) w fun w =>
  SV P (nilS a0_h) w fun t17 w =>
  SV P (Instr.fieldAt 282 t17 1) w fun t18 w =>
  SU P (Instr.storeAt 200 t18 t14) w fun w =>
  j [] w)
  (j [] w))
  (fun _ _ w => s232_j1 P k a0_h a1_s w))

theorem e232 (k : Value → World → Prop) (a0_h a1_s : Value) (w : World) : s232 Tryz.prog k a0_h a1_s w = vcF Tryz.prog Tryz.f232 [] [a0_h, a1_s] k w := by kernel_rfl
theorem c232 {k : Value → World → Prop} {a0_h a1_s : Value} {w : World} (h : s232 Tryz.prog k a0_h a1_s w) : Calls Tryz.prog 232 #[a0_h, a1_s] w (retP k) :=
  calls_of_vcF [] mixedXSha Tryz.func232 (by kernel_rfl) (Eq.mp (e232 k a0_h a1_s w) h)
theorem n232 {args : Array Value} {w : World} {k : Value → World → Prop} (h : Calls Tryz.prog 232 args w (retP k)) : SN Tryz.prog (callFunc 232 args) w k := sn_call Tryz.func232 (by kernel_rfl) (by kernel_rfl) h

/-! ### 233: (*scrinium/sha.Hash).Sum -/

def s233_l1 (P : Program) (k : Value → World → Prop) (t2 : Value) (state3 : Value) (out9 : Value) (t63 : Value) (next_1 : List Value → World → Prop) (w : World) : Prop :=
  SV P (binOp .lss 3 t63 (Value.int .i64 32)) w fun t64 w =>
  CN t64
  (SV P (binOp .quo 3 t63 (Value.int .i64 4)) w fun t68 w =>
  SV P (Instr.indexAt 200 state3 t68) w fun t69 w =>
  SV P (Instr.loadAt 199 t69) w fun t70 w =>
  SV P (binOp .rem 3 t63 (Value.int .i64 4)) w fun t72 w =>
  SV P (binOp .mul 3 (Value.int .i64 8) t72) w fun t73 w =>
  SV P (binOp .sub 3 (Value.int .i64 24) t73) w fun t74 w =>
  SV P (binOp .shr 199 t70 t74) w fun t75 w =>
  SV P (convert 199 5 t75) w fun t76 w =>
  SV P (Instr.indexAt 29 out9 t63) w fun t77 w =>
  SU P (Instr.storeAt 5 t77 t76) w fun w =>
  SV P (binOp .add 3 t63 (Value.int .i64 1)) w fun t78 w =>
  next_1 [t78] w)
  (SV P (Instr.loadAt 29 out9) w fun t79 w =>
  SU P (Instr.storeAt 29 t2 t79) w fun w =>
  CR P 29 t2 w fun t2_1 =>
  k t2_1 w)

def s233_l2 (P : Program) (k : Value → World → Prop) (t2 : Value) (state3 : Value) (rest4 : Value) (size5 : Value) (t36 : Value) (n7 : Value) (t37 : Value) (next : List Value → World → Prop) (w : World) : Prop :=
  SV P (binOp .lss 3 t37 (Value.int .i64 8)) w fun t38 w =>
  CN t38
  (SV P (binOp .mul 198 size5 (Value.int .u64 8)) w fun t42 w =>
  SV P (binOp .sub 3 (Value.int .i64 7) t37) w fun t44 w =>
  SV P (binOp .mul 3 (Value.int .i64 8) t44) w fun t45 w =>
  SV P (binOp .shr 198 t42 t45) w fun t46 w =>
  SV P (convert 198 5 t46) w fun t47 w =>
  SV P (Instr.indexAt 285 n7 t37) w fun t48 w =>
  SU P (Instr.storeAt 5 t48 t47) w fun w =>
  SV P (binOp .add 3 t37 (Value.int .i64 1)) w fun t49 w =>
  next [t49] w)
  (HR w fun C w =>
  HV P C (Instr.loadAt 200 state3) fun t51 =>
  HV P C (binOp .add 9 rest4 (str [128])) fun t53 =>
  SN P (callFunc 242 #[(str [0]), t36]) w fun t55 w =>
  C w ∧
  HV P C (binOp .add 9 t53 t55) fun t56 =>
  HV P C (Instr.sliceAt 285 n7 none none none) fun t57 =>
  HV P C (convert 151 9 t57) fun t58 =>
  HV P C (binOp .add 9 t56 t58) fun t59 =>
  SN P (callFunc 267 #[t51, t59]) w fun t60 w =>
  RS C w fun C =>
  HV P C (Instr.extract t60 0) fun t61 =>
  HV P C (Instr.extract t60 1) fun _ =>
  SU P (Instr.storeAt 200 state3 t61) w fun w =>
  C w ∧
  SV P (Instr.alloc 29 true (.tuple #[])) w fun out9 w =>
  LP 1 [(Value.int .i64 0)] w (fun next_1 _ us w => s233_l1 P k t2 state3 out9 (us.getD 0 undef) next_1 w))

def s233_j1 (P : Program) (k : Value → World → Prop) (t2 : Value) (state3 : Value) (rest4 : Value) (size5 : Value) (w : World) : Prop :=
  SV P (Builtin.len_ #[9] 3 #[rest4]) w fun t34 w =>
  SV P (binOp .sub 3 (Value.int .i64 119) t34) w fun t35 w =>
  SV P (binOp .rem 3 t35 (Value.int .i64 64)) w fun t36 w =>
  SV P (Instr.alloc 285 true (.tuple #[])) w fun n7 w =>
  LP 1 [(Value.int .i64 0)] w (fun next _ us w => s233_l2 P k t2 state3 rest4 size5 t36 n7 (us.getD 0 undef) next w)

def s233 (P : Program) (k : Value → World → Prop) (a0_h : Value) (w : World) : Prop :=
  SV P (Instr.alloc 29 true (.tuple #[])) w fun t2 w =>
  SN P (callFunc 266 #[]) w fun t11 w =>
  SV P (Instr.alloc 200 true (.tuple #[])) w fun state3 w =>
  SU P (Instr.storeAt 200 state3 t11) w fun w =>
  JP 2 (fun j =>
  SV P (eqS .neq 261 (.tmp 12) (.const (Value.pointer none)) a0_h (Value.pointer none)) w fun t13 w =>
  GD t13 true
  (SV P (nilS a0_h) w fun t16 w =>
  SV P (Instr.fieldAt 282 t16 0) w fun t17 w =>
  SV P (Instr.loadAt 4 t17) w fun t18 w =>
  CN t18
  (HR w fun C w =>
  HV P C (nilS a0_h) fun t21 =>
  HV P C (Instr.fieldAt 282 t21 1) fun t22 =>
  HV P C (Instr.loadAt 200 t22) fun t23 =>
  HV P C (nilS a0_h) fun t25 =>
  HV P C (Instr.fieldAt 282 t25 2) fun t26 =>
  HV P C (Instr.loadAt 9 t26) fun t27 =>
  HV P C (nilS a0_h) fun t29 =>
  HV P C (Instr.fieldAt 282 t29 3) fun t30 =>
  HV P C (Instr.loadAt 3 t30) fun t31 =>
  HV P C (convert 3 198 t31) fun t32 =>
  SU P (Instr.storeAt 200 state3 t23) w fun w =>
  C w ∧
  j [t27, t32] w)
  (j [(str []), (Value.int .u64 0)] w))
  (j [(str []), (Value.int .u64 0)] w))
  (fun _ us w => s233_j1 P k t2 state3 (us.getD 0 undef) (us.getD 1 undef) w)

theorem e233 (k : Value → World → Prop) (a0_h : Value) (w : World) : s233 Tryz.prog k a0_h w = vcF Tryz.prog Tryz.f233 [4, 5, 37, 63] [a0_h] k w := by kernel_rfl
theorem c233 {k : Value → World → Prop} {a0_h : Value} {w : World} (h : s233 Tryz.prog k a0_h w) : Calls Tryz.prog 233 #[a0_h] w (retP k) :=
  calls_of_vcF [4, 5, 37, 63] mixedXSha Tryz.func233 (by kernel_rfl) (Eq.mp (e233 k a0_h w) h)
theorem n233 {args : Array Value} {w : World} {k : Value → World → Prop} (h : Calls Tryz.prog 233 args w (retP k)) : SN Tryz.prog (callFunc 233 args) w k := sn_call Tryz.func233 (by kernel_rfl) (by kernel_rfl) h

/-! ### 266: scrinium/sha.Start -/

def s266 (P : Program) (k : Value → World → Prop) (w : World) : Prop :=
  SV P (Instr.alloc 200 true (.tuple #[])) w fun t0 w =>
  SV P (Instr.build 200 #[(0, (Value.int .u32 1779033703)), (1, (Value.int .u32 3144134277)), (2, (Value.int .u32 1013904242)), (3, (Value.int .u32 2773480762)), (4, (Value.int .u32 1359893119)), (5, (Value.int .u32 2600822924)), (6, (Value.int .u32 528734635)), (7, (Value.int .u32 1541459225))]) w fun t1 w =>
  SU P (Instr.storeAt 200 t0 t1) w fun w =>
  CR P 200 t0 w fun t0_1 =>
  k t0_1 w

theorem e266 (k : Value → World → Prop) (w : World) : s266 Tryz.prog k  w = vcF Tryz.prog Tryz.f266 [] [] k w := by kernel_rfl
theorem c266 {k : Value → World → Prop} {w : World} (h : s266 Tryz.prog k  w) : Calls Tryz.prog 266 #[] w (retP k) :=
  calls_of_vcF [] mixedXSha Tryz.func266 (by kernel_rfl) (Eq.mp (e266 k  w) h)
theorem n266 {args : Array Value} {w : World} {k : Value → World → Prop} (h : Calls Tryz.prog 266 args w (retP k)) : SN Tryz.prog (callFunc 266 args) w k := sn_call Tryz.func266 (by kernel_rfl) (by kernel_rfl) h

/-! ### 267: scrinium/sha.blocks -/

def s267_l1 (P : Program) (_ : Value → World → Prop) (state2 : Value) (s1 : Value) (next : List Value → World → Prop) (b6 : Value) (t11_1 : Value) (next_1 : List Value → World → Prop) (w : World) : Prop :=
  SV P (binOp .lss 3 t11_1 (Value.int .i64 64)) w fun t12 w =>
  CN t12
  (HR w fun C w =>
  HV P C (binOp .quo 3 t11_1 (Value.int .i64 4)) fun t15 =>
  HV P C (binOp .quo 3 t11_1 (Value.int .i64 4)) fun t17 =>
  HV P C (Instr.indexAt 202 b6 t17) fun t18 =>
  HV P C (Instr.loadAt 199 t18) fun t19 =>
  HV P C (binOp .shl 199 t19 (Value.int .u64 8)) fun t20 =>
  HV P C (Instr.index 9 s1 t11_1) fun t23 =>
  HV P C (convert 5 199 t23) fun t24 =>
  HV P C (binOp .or 199 t20 t24) fun t25 =>
  HV P C (Instr.indexAt 202 b6 t15) fun t26 =>
  SU P (Instr.storeAt 199 t26 t25) w fun w =>
  SV P (binOp .add 3 t11_1 (Value.int .i64 1)) w fun t27 w =>
  next_1 [t27] w)
  (SV P (Instr.loadAt 200 state2) w fun t28 w =>
  SV P (Instr.loadAt 202 b6) w fun t29 w =>
  SN P (callFunc 290 #[t28, t29]) w fun t30 w =>
  SU P (Instr.storeAt 200 state2 t30) w fun w =>
  SV P (Instr.sliceAt 9 s1 (some (Value.int .i64 64)) none none) w fun t32 w =>
  next [t11_1, t32] w)

def s267_l2 (P : Program) (k : Value → World → Prop) (state2 : Value) (t4 : Value) (s1 : Value) (next : List Value → World → Prop) (w : World) : Prop :=
  SV P (Builtin.len_ #[9] 3 #[s1]) w fun t9 w =>
  SV P (binOp .geq 3 t9 (Value.int .i64 64)) w fun t10 w =>
  CN t10
  (SV P (Instr.alloc 202 true (.tuple #[])) w fun b6 w =>
  LP 1 [(Value.int .i64 0)] w (fun next_1 _ us w => s267_l1 P k state2 s1 next b6 (us.getD 0 undef) next_1 w))
  (SV P (Instr.loadAt 200 state2) w fun t33 w =>
  SU P (Instr.storeAt 200 t4 t33) w fun w =>
  CR P 200 t4 w fun t4_1 =>
  k (.tuple #[t4_1, s1]) w)

def s267 (P : Program) (k : Value → World → Prop) (a0_state : Value) (a1_s : Value) (w : World) : Prop :=
  SV P (Instr.box 200 a0_state) w fun state2 w =>
  SV P (Instr.alloc 200 true (.tuple #[])) w fun t4 w =>
  LP 2 [undef, a1_s] w (fun next _ us w => s267_l2 P k state2 t4 (us.getD 1 undef) next w)

theorem e267 (k : Value → World → Prop) (a0_state a1_s : Value) (w : World) : s267 Tryz.prog k a0_state a1_s w = vcF Tryz.prog Tryz.f267 [1, 11] [a0_state, a1_s] k w := by kernel_rfl
theorem c267 {k : Value → World → Prop} {a0_state a1_s : Value} {w : World} (h : s267 Tryz.prog k a0_state a1_s w) : Calls Tryz.prog 267 #[a0_state, a1_s] w (retP k) :=
  calls_of_vcF [1, 11] mixedXSha Tryz.func267 (by kernel_rfl) (Eq.mp (e267 k a0_state a1_s w) h)
theorem n267 {args : Array Value} {w : World} {k : Value → World → Prop} (h : Calls Tryz.prog 267 args w (retP k)) : SN Tryz.prog (callFunc 267 args) w k := sn_call Tryz.func267 (by kernel_rfl) (by kernel_rfl) h

/-! ### 290: scrinium/sha.Step -/

def s290_l1 (P : Program) (k : Value → World → Prop) (state2 : Value) (t4 : Value) (t97 : Value) (t98 : Value) (next_1 : List Value → World → Prop) (w : World) : Prop :=
  SV P (binOp .lss 3 t98 (Value.int .i64 8)) w fun t99 w =>
  CN t99
  (SV P (Instr.index 200 t97 t98) w fun t101 w =>
  SV P (Instr.indexAt 200 state2 t98) w fun t103 w =>
  SV P (Instr.loadAt 199 t103) w fun t104 w =>
  SV P (binOp .add 199 t104 t101) w fun t106 w =>
  SV P (Instr.indexAt 200 state2 t98) w fun t107 w =>
  SU P (Instr.storeAt 199 t107 t106) w fun w =>
  SV P (binOp .add 3 t98 (Value.int .i64 1)) w fun t108 w =>
  next_1 [t108] w)
  (SV P (Instr.loadAt 200 state2) w fun t109 w =>
  SU P (Instr.storeAt 200 t4 t109) w fun w =>
  CR P 200 t4 w fun t4_1 =>
  k t4_1 w)

def s290_l2 (P : Program) (k : Value → World → Prop) (state2 : Value) (t4 : Value) (w5 : Value) (t38 : Value) (a6 : Value) (b7 : Value) (c8 : Value) (d9 : Value) (e10 : Value) (f11 : Value) (g12 : Value) (h13 : Value) (t39 : Value) (next : List Value → World → Prop) (w : World) : Prop :=
  SV P (binOp .lss 3 t39 (Value.int .i64 64)) w fun t40 w =>
  CN t40
  (SV P (Instr.index 258 t38 t39) w fun t42 w =>
  HR w fun C w =>
  SN P (callFunc 306 #[e10, (Value.int .i64 6), (Value.int .i64 11), (Value.int .i64 25)]) w fun t45 w =>
  RS C w fun C =>
  HV P C (binOp .add 199 h13 t45) fun t46 =>
  HV P C (binOp .and 199 e10 f11) fun t49 =>
  HV P C (Op.unary .xor e10) fun t51 =>
  HV P C (binOp .and 199 t51 g12) fun t53 =>
  HV P C (binOp .xor 199 t49 t53) fun t54 =>
  HV P C (binOp .add 199 t46 t54) fun t55 =>
  HV P C (binOp .add 199 t55 t42) fun t57 =>
  HV P C (Instr.indexAt 258 w5 t39) fun t59 =>
  HV P C (Instr.loadAt 199 t59) fun t60 =>
  HV P C (binOp .add 199 t57 t60) fun t61 =>
  SN P (callFunc 306 #[a6, (Value.int .i64 2), (Value.int .i64 13), (Value.int .i64 22)]) w fun t63 w =>
  SV P (binOp .and 199 a6 b7) w fun t66 w =>
  SV P (binOp .and 199 a6 c8) w fun t69 w =>
  SV P (binOp .xor 199 t66 t69) w fun t70 w =>
  SV P (binOp .and 199 b7 c8) w fun t73 w =>
  SV P (binOp .xor 199 t70 t73) w fun t74 w =>
  SV P (binOp .add 199 t63 t74) w fun t75 w =>
  SV P (binOp .add 199 t61 t75) w fun t78 w =>
  SV P (binOp .add 199 d9 t61) w fun t84 w =>
  SV P (binOp .add 3 t39 (Value.int .i64 1)) w fun t88 w =>
  next [t78, a6, b7, c8, t84, e10, f11, g12, t88] w)
  (SV P (Instr.build 200 #[(0, a6), (1, b7), (2, c8), (3, d9), (4, e10), (5, f11), (6, g12), (7, h13)]) w fun t97 w =>
  LP 1 [(Value.int .i64 0)] w (fun next_1 _ us w => s290_l1 P k state2 t4 t97 (us.getD 0 undef) next_1 w))

def s290 (P : Program) (k : Value → World → Prop) (a0_state : Value) (a1_block : Value) (w : World) : Prop :=
  SV P (Instr.box 200 a0_state) w fun state2 w =>
  SV P (Instr.box 202 a1_block) w fun block3 w =>
  SV P (Instr.alloc 200 true (.tuple #[])) w fun t4 w =>
  SV P (Instr.loadAt 202 block3) w fun t20 w =>
  SN P (callFunc 305 #[t20]) w fun t21 w =>
  SV P (Instr.alloc 258 true (.tuple #[])) w fun w5 w =>
  SU P (Instr.storeAt 258 w5 t21) w fun w =>
  HR w fun C w =>
  HV P C (Instr.indexAt 200 state2 (Value.int .i64 0)) fun t22 =>
  HV P C (Instr.loadAt 199 t22) fun t23 =>
  HV P C (Instr.indexAt 200 state2 (Value.int .i64 1)) fun t24 =>
  HV P C (Instr.loadAt 199 t24) fun t25 =>
  HV P C (Instr.indexAt 200 state2 (Value.int .i64 2)) fun t26 =>
  HV P C (Instr.loadAt 199 t26) fun t27 =>
  HV P C (Instr.indexAt 200 state2 (Value.int .i64 3)) fun t28 =>
  HV P C (Instr.loadAt 199 t28) fun t29 =>
  HR w fun C w =>
  HV P C (Instr.indexAt 200 state2 (Value.int .i64 4)) fun t30 =>
  HV P C (Instr.loadAt 199 t30) fun t31 =>
  HV P C (Instr.indexAt 200 state2 (Value.int .i64 5)) fun t32 =>
  HV P C (Instr.loadAt 199 t32) fun t33 =>
  HV P C (Instr.indexAt 200 state2 (Value.int .i64 6)) fun t34 =>
  HV P C (Instr.loadAt 199 t34) fun t35 =>
  HV P C (Instr.indexAt 200 state2 (Value.int .i64 7)) fun t36 =>
  HV P C (Instr.loadAt 199 t36) fun t37 =>
  SV P (Instr.loadAt 258 (Value.pointer (some ⟨1, 0, none⟩))) w fun t38 w =>
  LP 9 [t23, t25, t27, t29, t31, t33, t35, t37, (Value.int .i64 0)] w (fun next _ us w => s290_l2 P k state2 t4 w5 t38 (us.getD 0 undef) (us.getD 1 undef) (us.getD 2 undef) (us.getD 3 undef) (us.getD 4 undef) (us.getD 5 undef) (us.getD 6 undef) (us.getD 7 undef) (us.getD 8 undef) next w)

theorem e290 (k : Value → World → Prop) (a0_state a1_block : Value) (w : World) : s290 Tryz.prog k a0_state a1_block w = vcF Tryz.prog Tryz.f290 [6, 7, 8, 9, 10, 11, 12, 13, 39, 98] [a0_state, a1_block] k w := by kernel_rfl
theorem c290 {k : Value → World → Prop} {a0_state a1_block : Value} {w : World} (h : s290 Tryz.prog k a0_state a1_block w) : Calls Tryz.prog 290 #[a0_state, a1_block] w (retP k) :=
  calls_of_vcF [6, 7, 8, 9, 10, 11, 12, 13, 39, 98] mixedXSha Tryz.func290 (by kernel_rfl) (Eq.mp (e290 k a0_state a1_block w) h)
theorem n290 {args : Array Value} {w : World} {k : Value → World → Prop} (h : Calls Tryz.prog 290 args w (retP k)) : SN Tryz.prog (callFunc 290 args) w k := sn_call Tryz.func290 (by kernel_rfl) (by kernel_rfl) h

/-! ### 291: (*scrinium/sha.Hash).Copy -/

def s291 (P : Program) (k : Value → World → Prop) (a0_h : Value) (w : World) : Prop :=
  SV P (eqS .eql 261 (.tmp 4) (.const (Value.pointer none)) a0_h (Value.pointer none)) w fun t5 w =>
  CN t5
  (k (Value.pointer none) w)
  (SV P (nilS a0_h) w fun t7 w =>
  SV P (Instr.loadAt 282 t7) w fun t8 w =>
  SV P (Instr.alloc 282 true (.tuple #[])) w fun c3 w =>
  SU P (Instr.storeAt 282 c3 t8) w fun w =>
  k c3 w)

theorem e291 (k : Value → World → Prop) (a0_h : Value) (w : World) : s291 Tryz.prog k a0_h w = vcF Tryz.prog Tryz.f291 [] [a0_h] k w := by kernel_rfl
theorem c291 {k : Value → World → Prop} {a0_h : Value} {w : World} (h : s291 Tryz.prog k a0_h w) : Calls Tryz.prog 291 #[a0_h] w (retP k) :=
  calls_of_vcF [] mixedXSha Tryz.func291 (by kernel_rfl) (Eq.mp (e291 k a0_h w) h)
theorem n291 {args : Array Value} {w : World} {k : Value → World → Prop} (h : Calls Tryz.prog 291 args w (retP k)) : SN Tryz.prog (callFunc 291 args) w k := sn_call Tryz.func291 (by kernel_rfl) (by kernel_rfl) h

/-! ### 305: scrinium/sha.schedule -/

def s305_l1 (P : Program) (k : Value → World → Prop) (t2 : Value) (w3 : Value) (t5 : Value) (next : List Value → World → Prop) (w : World) : Prop :=
  SV P (binOp .lss 3 t5 (Value.int .i64 64)) w fun t10 w =>
  CN t10
  (HR w fun C w =>
  HV P C (binOp .sub 3 t5 (Value.int .i64 2)) fun t16 =>
  HV P C (Instr.indexAt 258 w3 t16) fun t17 =>
  HV P C (Instr.loadAt 199 t17) fun t18 =>
  SN P (callV (Value.func (.func 312) #[] #[]) #[t18, (Value.int .i64 17), (Value.int .i64 19), (Value.int .i64 10)]) w fun t19 w =>
  RS C w fun C =>
  HV P C (binOp .sub 3 t5 (Value.int .i64 7)) fun t21 =>
  HV P C (Instr.indexAt 258 w3 t21) fun t22 =>
  HV P C (Instr.loadAt 199 t22) fun t23 =>
  HV P C (binOp .add 199 t19 t23) fun t24 =>
  HV P C (binOp .sub 3 t5 (Value.int .i64 15)) fun t27 =>
  HV P C (Instr.indexAt 258 w3 t27) fun t28 =>
  HV P C (Instr.loadAt 199 t28) fun t29 =>
  SN P (callV (Value.func (.func 312) #[] #[]) #[t29, (Value.int .i64 7), (Value.int .i64 18), (Value.int .i64 3)]) w fun t30 w =>
  C w ∧
  HV P C (binOp .add 199 t24 t30) fun t31 =>
  HV P C (binOp .sub 3 t5 (Value.int .i64 16)) fun t33 =>
  HV P C (Instr.indexAt 258 w3 t33) fun t34 =>
  HV P C (Instr.loadAt 199 t34) fun t35 =>
  HV P C (binOp .add 199 t31 t35) fun t36 =>
  HV P C (Instr.indexAt 258 w3 t5) fun t37 =>
  SU P (Instr.storeAt 199 t37 t36) w fun w =>
  SV P (binOp .add 3 t5 (Value.int .i64 1)) w fun t12 w =>
  next [t12] w)
  (SV P (Instr.loadAt 258 w3) w fun t38 w =>
  SU P (Instr.storeAt 258 t2 t38) w fun w =>
  CR P 258 t2 w fun t2_1 =>
  k t2_1 w)

def s305 (P : Program) (k : Value → World → Prop) (a0_block : Value) (w : World) : Prop :=
  SV P (Instr.box 202 a0_block) w fun block1 w =>
  SV P (Instr.alloc 258 true (.tuple #[])) w fun t2 w =>
  SV P (Instr.alloc 258 true (.tuple #[])) w fun w3 w =>
  HR w fun C w =>
  HV P C (Instr.sliceAt 258 w3 none none none) fun t6 =>
  HV P C (Instr.sliceAt 202 block1 none none none) fun t7 =>
  SV P (Builtin.copy_ #[326, 326] 3 #[t6, t7]) w fun _ w =>
  LP 1 [(Value.int .i64 16)] w (fun next _ us w => s305_l1 P k t2 w3 (us.getD 0 undef) next w)

theorem e305 (k : Value → World → Prop) (a0_block : Value) (w : World) : s305 Tryz.prog k a0_block w = vcF Tryz.prog Tryz.f305 [5] [a0_block] k w := by kernel_rfl
theorem c305 {k : Value → World → Prop} {a0_block : Value} {w : World} (h : s305 Tryz.prog k a0_block w) : Calls Tryz.prog 305 #[a0_block] w (retP k) :=
  calls_of_vcF [5] mixedXSha Tryz.func305 (by kernel_rfl) (Eq.mp (e305 k a0_block w) h)
theorem n305 {args : Array Value} {w : World} {k : Value → World → Prop} (h : Calls Tryz.prog 305 args w (retP k)) : SN Tryz.prog (callFunc 305 args) w k := sn_call Tryz.func305 (by kernel_rfl) (by kernel_rfl) h

/-! ### 306: scrinium/sha.turn -/

def s306 (P : Program) (k : Value → World → Prop) (a0_x : Value) (a1_a : Value) (a2_b : Value) (a3_c : Value) (w : World) : Prop :=
  SV P (Op.unary .neg a1_a) w fun t11 w =>
  SN P (callFunc 313 #[a0_x, t11]) w fun t12 w =>
  SV P (Op.unary .neg a2_b) w fun t15 w =>
  SN P (callFunc 313 #[a0_x, t15]) w fun t16 w =>
  SV P (binOp .xor 199 t12 t16) w fun t17 w =>
  SV P (Op.unary .neg a3_c) w fun t20 w =>
  SN P (callFunc 313 #[a0_x, t20]) w fun t21 w =>
  SV P (binOp .xor 199 t17 t21) w fun t22 w =>
  k t22 w

theorem e306 (k : Value → World → Prop) (a0_x a1_a a2_b a3_c : Value) (w : World) : s306 Tryz.prog k a0_x a1_a a2_b a3_c w = vcF Tryz.prog Tryz.f306 [] [a0_x, a1_a, a2_b, a3_c] k w := by kernel_rfl
theorem c306 {k : Value → World → Prop} {a0_x a1_a a2_b a3_c : Value} {w : World} (h : s306 Tryz.prog k a0_x a1_a a2_b a3_c w) : Calls Tryz.prog 306 #[a0_x, a1_a, a2_b, a3_c] w (retP k) :=
  calls_of_vcF [] mixedXSha Tryz.func306 (by kernel_rfl) (Eq.mp (e306 k a0_x a1_a a2_b a3_c w) h)
theorem n306 {args : Array Value} {w : World} {k : Value → World → Prop} (h : Calls Tryz.prog 306 args w (retP k)) : SN Tryz.prog (callFunc 306 args) w k := sn_call Tryz.func306 (by kernel_rfl) (by kernel_rfl) h

/-! ### 312: scrinium/sha.schedule$1 -/

def s312 (P : Program) (k : Value → World → Prop) (a0_x : Value) (a1_a : Value) (a2_b : Value) (a3_c : Value) (w : World) : Prop :=
  HR w fun C w =>
  HV P C (Op.unary .neg a1_a) fun t11 =>
  SN P (callFunc 313 #[a0_x, t11]) w fun t12 w =>
  RS C w fun C =>
  HV P C (Op.unary .neg a2_b) fun t15 =>
  SN P (callFunc 313 #[a0_x, t15]) w fun t16 w =>
  RS C w fun C =>
  HV P C (binOp .xor 199 t12 t16) fun t17 =>
  HV P C (binOp .shr 199 a0_x a3_c) fun t20 =>
  HV P C (binOp .xor 199 t17 t20) fun t21 =>
  k t21 w

theorem e312 (k : Value → World → Prop) (a0_x a1_a a2_b a3_c : Value) (w : World) : s312 Tryz.prog k a0_x a1_a a2_b a3_c w = vcF Tryz.prog Tryz.f312 [] [a0_x, a1_a, a2_b, a3_c] k w := by kernel_rfl
theorem c312 {k : Value → World → Prop} {a0_x a1_a a2_b a3_c : Value} {w : World} (h : s312 Tryz.prog k a0_x a1_a a2_b a3_c w) : Calls Tryz.prog 312 #[a0_x, a1_a, a2_b, a3_c] w (retP k) :=
  calls_of_vcF [] mixedXSha Tryz.func312 (by kernel_rfl) (Eq.mp (e312 k a0_x a1_a a2_b a3_c w) h)
theorem n312 {args : Array Value} {w : World} {k : Value → World → Prop} (h : Calls Tryz.prog 312 args w (retP k)) : SN Tryz.prog (callFunc 312 args) w k := sn_call Tryz.func312 (by kernel_rfl) (by kernel_rfl) h

end Go.Proofs.YtkdghnbogkbedaaGreatDoor
