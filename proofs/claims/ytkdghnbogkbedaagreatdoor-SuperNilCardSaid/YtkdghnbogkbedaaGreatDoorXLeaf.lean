/-
  For each function: the condition that its code comes to, and that it is enough. Printed by sh.py (a program of this work).
-/
import Derived.Test.YtkdghnbogkbedaaGreatDoorProg
import Derived.Test.YtkdghnbogkbedaaGreatDoorTypes
namespace Go.Proofs.YtkdghnbogkbedaaGreatDoor
open Go Go.Sh
set_option maxRecDepth 100000


theorem mixedXLeaf : Tryz.prog.follows .mixedOrders = true := by kernel_rfl

/-! ### 86: scrinium/leaf.Empty -/

def s86 (P : Program) (k : Value → World → Prop) (w : World) : Prop :=
  SV P (Instr.alloc 29 true (.tuple #[])) w fun t0 w =>
  SN P (callFunc 151 #[(Value.slice none 0 0)]) w fun t1 w =>
  SU P (Instr.storeAt 29 t0 t1) w fun w =>
  CR P 29 t0 w fun t0_1 =>
  k t0_1 w

theorem e86 (k : Value → World → Prop) (w : World) : s86 Tryz.prog k  w = vcF Tryz.prog Tryz.f86 [] [] k w := by kernel_rfl
theorem c86 {k : Value → World → Prop} {w : World} (h : s86 Tryz.prog k  w) : Calls Tryz.prog 86 #[] w (retP k) :=
  calls_of_vcF [] mixedXLeaf Tryz.func86 (by kernel_rfl) (Eq.mp (e86 k  w) h)
theorem n86 {args : Array Value} {w : World} {k : Value → World → Prop} (h : Calls Tryz.prog 86 args w (retP k)) : SN Tryz.prog (callFunc 86 args) w k := sn_call Tryz.func86 (by kernel_rfl) (by kernel_rfl) h

/-! ### 141: scrinium/leaf.Leaf -/

def s141 (P : Program) (k : Value → World → Prop) (a0_data : Value) (w : World) : Prop :=
  SV P (Instr.alloc 29 true (.tuple #[])) w fun t2 w =>
  SV P (Instr.buildSlice 249 2 #[(0, (str [0])), (1, a0_data)]) w fun t4 w =>
  SN P (callFunc 151 #[t4]) w fun t5 w =>
  SU P (Instr.storeAt 29 t2 t5) w fun w =>
  CR P 29 t2 w fun t2_1 =>
  k t2_1 w

theorem e141 (k : Value → World → Prop) (a0_data : Value) (w : World) : s141 Tryz.prog k a0_data w = vcF Tryz.prog Tryz.f141 [] [a0_data] k w := by kernel_rfl
theorem c141 {k : Value → World → Prop} {a0_data : Value} {w : World} (h : s141 Tryz.prog k a0_data w) : Calls Tryz.prog 141 #[a0_data] w (retP k) :=
  calls_of_vcF [] mixedXLeaf Tryz.func141 (by kernel_rfl) (Eq.mp (e141 k a0_data w) h)
theorem n141 {args : Array Value} {w : World} {k : Value → World → Prop} (h : Calls Tryz.prog 141 args w (retP k)) : SN Tryz.prog (callFunc 141 args) w k := sn_call Tryz.func141 (by kernel_rfl) (by kernel_rfl) h

/-! ### 142: scrinium/leaf.Node -/

def s142 (P : Program) (k : Value → World → Prop) (a0_a : Value) (a1_b : Value) (w : World) : Prop :=
  SV P (Instr.box 29 a0_a) w fun a2 w =>
  SV P (Instr.box 29 a1_b) w fun b3 w =>
  SV P (Instr.alloc 29 true (.tuple #[])) w fun t4 w =>
  SV P (Instr.loadAt 29 a2) w fun t5 w =>
  SV P (Instr.loadAt 29 b3) w fun t6 w =>
  SN P (callFunc 220 #[t5, t6]) w fun t7 w =>
  SV P (Instr.buildSlice 249 1 #[(0, t7)]) w fun t8 w =>
  SN P (callFunc 151 #[t8]) w fun t9 w =>
  SU P (Instr.storeAt 29 t4 t9) w fun w =>
  CR P 29 t4 w fun t4_1 =>
  k t4_1 w

theorem e142 (k : Value → World → Prop) (a0_a a1_b : Value) (w : World) : s142 Tryz.prog k a0_a a1_b w = vcF Tryz.prog Tryz.f142 [] [a0_a, a1_b] k w := by kernel_rfl
theorem c142 {k : Value → World → Prop} {a0_a a1_b : Value} {w : World} (h : s142 Tryz.prog k a0_a a1_b w) : Calls Tryz.prog 142 #[a0_a, a1_b] w (retP k) :=
  calls_of_vcF [] mixedXLeaf Tryz.func142 (by kernel_rfl) (Eq.mp (e142 k a0_a a1_b w) h)
theorem n142 {args : Array Value} {w : World} {k : Value → World → Prop} (h : Calls Tryz.prog 142 args w (retP k)) : SN Tryz.prog (callFunc 142 args) w k := sn_call Tryz.func142 (by kernel_rfl) (by kernel_rfl) h

/-! ### 147: scrinium/leaf.Root -/

def s147 (P : Program) (k : Value → World → Prop) (a0_l : Value) (w : World) : Prop :=
  SV P (Instr.alloc 29 true (.tuple #[])) w fun t2 w =>
  SV P (Builtin.len_ #[24] 3 #[a0_l]) w fun t5 w =>
  SV P (eqS .eql 3 (.tmp 5) (.const (Value.int .i64 0)) t5 (Value.int .i64 0)) w fun t6 w =>
  CN t6
  (SN P (callFunc 86 #[]) w fun t7 w =>
  SU P (Instr.storeAt 29 t2 t7) w fun w =>
  CR P 29 t2 w fun t2_1 =>
  k t2_1 w)
  (SN P (callFunc 228 #[a0_l]) w fun t9 w =>
  SV P (Builtin.len_ #[256] 3 #[t9]) w fun t12 w =>
  SV P (binOp .sub 3 t12 (Value.int .i64 1)) w fun t13 w =>
  SV P (Instr.indexAt 256 t9 t13) w fun t14 w =>
  SV P (Instr.loadAt 24 t14) w fun t15 w =>
  SV P (Instr.indexAt 24 t15 (Value.int .i64 0)) w fun t16 w =>
  SV P (Instr.loadAt 29 t16) w fun t17 w =>
  SU P (Instr.storeAt 29 t2 t17) w fun w =>
  CR P 29 t2 w fun t2_1 =>
  k t2_1 w)

theorem e147 (k : Value → World → Prop) (a0_l : Value) (w : World) : s147 Tryz.prog k a0_l w = vcF Tryz.prog Tryz.f147 [] [a0_l] k w := by kernel_rfl
theorem c147 {k : Value → World → Prop} {a0_l : Value} {w : World} (h : s147 Tryz.prog k a0_l w) : Calls Tryz.prog 147 #[a0_l] w (retP k) :=
  calls_of_vcF [] mixedXLeaf Tryz.func147 (by kernel_rfl) (Eq.mp (e147 k a0_l w) h)
theorem n147 {args : Array Value} {w : World} {k : Value → World → Prop} (h : Calls Tryz.prog 147 args w (retP k)) : SN Tryz.prog (callFunc 147 args) w k := sn_call Tryz.func147 (by kernel_rfl) (by kernel_rfl) h

/-! ### 220: scrinium/leaf.Preimage -/

def s220 (P : Program) (k : Value → World → Prop) (a0_a : Value) (a1_b : Value) (w : World) : Prop :=
  SV P (Instr.box 29 a0_a) w fun a2 w =>
  SV P (Instr.box 29 a1_b) w fun b3 w =>
  HR w fun C w =>
  HV P C (Instr.loadAt 29 a2) fun t5 =>
  SN P (callFunc 163 #[t5]) w fun t6 w =>
  RS C w fun C =>
  HV P C (binOp .add 9 (str [1]) t6) fun t7 =>
  HV P C (Instr.loadAt 29 b3) fun t8 =>
  SN P (callFunc 163 #[t8]) w fun t9 w =>
  C w ∧
  HV P C (binOp .add 9 t7 t9) fun t10 =>
  k t10 w

theorem e220 (k : Value → World → Prop) (a0_a a1_b : Value) (w : World) : s220 Tryz.prog k a0_a a1_b w = vcF Tryz.prog Tryz.f220 [] [a0_a, a1_b] k w := by kernel_rfl
theorem c220 {k : Value → World → Prop} {a0_a a1_b : Value} {w : World} (h : s220 Tryz.prog k a0_a a1_b w) : Calls Tryz.prog 220 #[a0_a, a1_b] w (retP k) :=
  calls_of_vcF [] mixedXLeaf Tryz.func220 (by kernel_rfl) (Eq.mp (e220 k a0_a a1_b w) h)
theorem n220 {args : Array Value} {w : World} {k : Value → World → Prop} (h : Calls Tryz.prog 220 args w (retP k)) : SN Tryz.prog (callFunc 220 args) w k := sn_call Tryz.func220 (by kernel_rfl) (by kernel_rfl) h

/-! ### 223: scrinium/leaf.Split -/

def s223 (P : Program) (k : Value → World → Prop) (a0_n : Value) (w : World) : Prop :=
  SV P (binOp .lss 3 a0_n (Value.int .i64 2)) w fun t4 w =>
  CN t4
  (k (Value.int .i64 0) w)
  (SV P (binOp .sub 3 a0_n (Value.int .i64 1)) w fun t6 w =>
  SV P (convert 3 121 t6) w fun t7 w =>
  SN P (callFunc 245 #[t7]) w fun t8 w =>
  SV P (binOp .sub 3 t8 (Value.int .i64 1)) w fun t9 w =>
  SV P (binOp .shl 3 (Value.int .i64 1) t9) w fun t10 w =>
  k t10 w)

theorem e223 (k : Value → World → Prop) (a0_n : Value) (w : World) : s223 Tryz.prog k a0_n w = vcF Tryz.prog Tryz.f223 [] [a0_n] k w := by kernel_rfl
theorem c223 {k : Value → World → Prop} {a0_n : Value} {w : World} (h : s223 Tryz.prog k a0_n w) : Calls Tryz.prog 223 #[a0_n] w (retP k) :=
  calls_of_vcF [] mixedXLeaf Tryz.func223 (by kernel_rfl) (Eq.mp (e223 k a0_n w) h)
theorem n223 {args : Array Value} {w : World} {k : Value → World → Prop} (h : Calls Tryz.prog 223 args w (retP k)) : SN Tryz.prog (callFunc 223 args) w k := sn_call Tryz.func223 (by kernel_rfl) (by kernel_rfl) h

/-! ### 228: scrinium/leaf.Levels -/

def s228_l1 (P : Program) (k : Value → World → Prop) (row3 : Value) (out4 : Value) (next : List Value → World → Prop) (w : World) : Prop :=
  SV P (Builtin.len_ #[24] 3 #[row3]) w fun t10 w =>
  SV P (binOp .lss 3 t10 (Value.int .i64 2)) w fun t11 w =>
  CN t11
  (k out4 w)
  (SN P (callFunc 265 #[row3]) w fun t13 w =>
  SV P (Instr.buildSlice 256 1 #[(0, t13)]) w fun t16 w =>
  SV P (Builtin.append_ #[256, 256] 256 #[out4, t16]) w fun t17 w =>
  next [t13, t17] w)

def s228 (P : Program) (k : Value → World → Prop) (a0_l : Value) (w : World) : Prop :=
  SN P (callFunc 88 #[a0_l]) w fun t6 w =>
  SV P (Instr.buildSlice 256 1 #[(0, t6)]) w fun t8 w =>
  LP 2 [t6, t8] w (fun next _ us w => s228_l1 P k (us.getD 0 undef) (us.getD 1 undef) next w)

theorem e228 (k : Value → World → Prop) (a0_l : Value) (w : World) : s228 Tryz.prog k a0_l w = vcF Tryz.prog Tryz.f228 [3, 4] [a0_l] k w := by kernel_rfl
theorem c228 {k : Value → World → Prop} {a0_l : Value} {w : World} (h : s228 Tryz.prog k a0_l w) : Calls Tryz.prog 228 #[a0_l] w (retP k) :=
  calls_of_vcF [3, 4] mixedXLeaf Tryz.func228 (by kernel_rfl) (Eq.mp (e228 k a0_l w) h)
theorem n228 {args : Array Value} {w : World} {k : Value → World → Prop} (h : Calls Tryz.prog 228 args w (retP k)) : SN Tryz.prog (callFunc 228 args) w k := sn_call Tryz.func228 (by kernel_rfl) (by kernel_rfl) h

/-! ### 265: scrinium/leaf.above -/

def s265_j1 (P : Program) (k : Value → World → Prop) (up3 : Value) (w : World) : Prop :=
  SV P (Instr.loadAt 24 up3) w fun t40 w =>
  k t40 w

def s265_l1 (P : Program) (k : Value → World → Prop) (a0_row : Value) (up3 : Value) (t6 : Value) (t9 : Value) (t10 : Value) (next : List Value → World → Prop) (w : World) : Prop :=
  SV P (binOp .lss 3 t10 t9) w fun t11 w =>
  CN t11
  (HR w fun C w =>
  HV P C (binOp .mul 3 (Value.int .i64 2) t10) fun t16 =>
  HV P C (Instr.indexAt 24 a0_row t16) fun t17 =>
  HV P C (Instr.loadAt 29 t17) fun t18 =>
  HV P C (binOp .mul 3 (Value.int .i64 2) t10) fun t21 =>
  HV P C (binOp .add 3 t21 (Value.int .i64 1)) fun t22 =>
  HV P C (Instr.indexAt 24 a0_row t22) fun t23 =>
  HV P C (Instr.loadAt 29 t23) fun t24 =>
  SN P (callFunc 142 #[t18, t24]) w fun t25 w =>
  RS C w fun _ =>
  SN P (callV t6 #[t25]) w fun _ w =>
  SV P (binOp .add 3 t10 (Value.int .i64 1)) w fun t27 w =>
  next [t27] w)
  (JP 0 (fun j =>
  SV P (Builtin.len_ #[24] 3 #[a0_row]) w fun t29 w =>
  SV P (binOp .rem 3 t29 (Value.int .i64 2)) w fun t30 w =>
  SV P (eqS .eql 3 (.tmp 30) (.const (Value.int .i64 1)) t30 (Value.int .i64 1)) w fun t31 w =>
  CN t31
  (SV P (Builtin.len_ #[24] 3 #[a0_row]) w fun t35 w =>
  SV P (binOp .sub 3 t35 (Value.int .i64 1)) w fun t36 w =>
  SV P (Instr.indexAt 24 a0_row t36) w fun t37 w =>
  SV P (Instr.loadAt 29 t37) w fun t38 w =>
  SN P (callV t6 #[t38]) w fun _ w =>
  j [] w)
  (j [] w))
  (fun _ _ w => s265_j1 P k up3 w))

def s265 (P : Program) (k : Value → World → Prop) (a0_row : Value) (w : World) : Prop :=
  SV P (Instr.alloc 24 true (.tuple #[])) w fun up3 w =>
  SV P (Instr.makeFunc (.func 289) #[] #[up3]) w fun t6 w =>
  SV P (Builtin.len_ #[24] 3 #[a0_row]) w fun t8 w =>
  SV P (binOp .quo 3 t8 (Value.int .i64 2)) w fun t9 w =>
  LP 1 [(Value.int .i64 0)] w (fun next _ us w => s265_l1 P k a0_row up3 t6 t9 (us.getD 0 undef) next w)

theorem e265 (k : Value → World → Prop) (a0_row : Value) (w : World) : s265 Tryz.prog k a0_row w = vcF Tryz.prog Tryz.f265 [10] [a0_row] k w := by kernel_rfl
theorem c265 {k : Value → World → Prop} {a0_row : Value} {w : World} (h : s265 Tryz.prog k a0_row w) : Calls Tryz.prog 265 #[a0_row] w (retP k) :=
  calls_of_vcF [10] mixedXLeaf Tryz.func265 (by kernel_rfl) (Eq.mp (e265 k a0_row w) h)
theorem n265 {args : Array Value} {w : World} {k : Value → World → Prop} (h : Calls Tryz.prog 265 args w (retP k)) : SN Tryz.prog (callFunc 265 args) w k := sn_call Tryz.func265 (by kernel_rfl) (by kernel_rfl) h

/-! ### 289: scrinium/leaf.above$1 -/

def s289 (P : Program) (k : Value → World → Prop) (a0_s : Value) (a1 : Value) (w : World) : Prop :=
  SV P (Instr.box 29 a0_s) w fun s2 w =>
  SV P (Instr.loadAt 24 a1) w fun t3 w =>
  SV P (Instr.loadAt 29 s2) w fun t4 w =>
  SV P (Instr.buildSlice 24 1 #[(0, t4)]) w fun t5 w =>
  SV P (Builtin.append_ #[24, 24] 24 #[t3, t5]) w fun t6 w =>
  SU P (Instr.storeAt 24 a1 t6) w fun w =>
  k (.tuple #[]) w

theorem e289 (k : Value → World → Prop) (a0_s a1 : Value) (w : World) : s289 Tryz.prog k a0_s a1 w = vcF Tryz.prog Tryz.f289 [] [a0_s, a1] k w := by kernel_rfl
theorem c289 {k : Value → World → Prop} {a0_s a1 : Value} {w : World} (h : s289 Tryz.prog k a0_s a1 w) : Calls Tryz.prog 289 #[a0_s, a1] w (retP k) :=
  calls_of_vcF [] mixedXLeaf Tryz.func289 (by kernel_rfl) (Eq.mp (e289 k a0_s a1 w) h)
theorem n289 {args : Array Value} {w : World} {k : Value → World → Prop} (h : Calls Tryz.prog 289 args w (retP k)) : SN Tryz.prog (callFunc 289 args) w k := sn_call Tryz.func289 (by kernel_rfl) (by kernel_rfl) h

end Go.Proofs.YtkdghnbogkbedaaGreatDoor
