/-
  For each function: the condition that its code comes to, and that it is enough. Printed by sh.py (a program of this work).
-/
import Derived.Test.YtkdghnbogkbedaaGreatDoorProg
import Derived.Test.YtkdghnbogkbedaaGreatDoorTypes
namespace Go.Proofs.YtkdghnbogkbedaaGreatDoor
open Go Go.Sh
set_option maxRecDepth 100000


theorem mixedXRef09 : Tryz.prog.follows .mixedOrders = true := by kernel_rfl

/-! ### 20: scrinium/scriniumref09.Root -/

def s20 (P : Program) (k : Value → World → Prop) (a0_l : Value) (w : World) : Prop :=
  SV P (Instr.alloc 29 true (.tuple #[])) w fun t2 w =>
  SV P (Builtin.len_ #[24] 3 #[a0_l]) w fun t5 w =>
  SV P (eqS .eql 3 (.tmp 5) (.const (Value.int .i64 0)) t5 (Value.int .i64 0)) w fun t6 w =>
  CN t6
  (SN P (callFunc 81 #[(str [])]) w fun t7 w =>
  SU P (Instr.storeAt 29 t2 t7) w fun w =>
  CR P 29 t2 w fun t2_1 =>
  k t2_1 w)
  (SV P (Builtin.len_ #[24] 3 #[a0_l]) w fun t9 w =>
  SV P (eqS .eql 3 (.tmp 9) (.const (Value.int .i64 1)) t9 (Value.int .i64 1)) w fun t10 w =>
  CN t10
  (SV P (Instr.indexAt 24 a0_l (Value.int .i64 0)) w fun t12 w =>
  SV P (Instr.loadAt 29 t12) w fun t13 w =>
  SU P (Instr.storeAt 29 t2 t13) w fun w =>
  CR P 29 t2 w fun t2_1 =>
  k t2_1 w)
  (SV P (Builtin.len_ #[24] 3 #[a0_l]) w fun t15 w =>
  SN P (callFunc 82 #[t15]) w fun t16 w =>
  HR w fun C w =>
  HV P C (Instr.sliceAt 24 a0_l none (some t16) none) fun t19 =>
  SN P (callFunc 20 #[t19]) w fun t20 w =>
  RS C w fun C =>
  HV P C (Instr.sliceAt 24 a0_l (some t16) none none) fun t23 =>
  SN P (callFunc 20 #[t23]) w fun t24 w =>
  SN P (callFunc 83 #[t20, t24]) w fun t25 w =>
  SU P (Instr.storeAt 29 t2 t25) w fun w =>
  CR P 29 t2 w fun t2_1 =>
  k t2_1 w))

theorem e20 (k : Value → World → Prop) (a0_l : Value) (w : World) : s20 Tryz.prog k a0_l w = vcF Tryz.prog Tryz.f20 [] [a0_l] k w := by kernel_rfl
theorem c20 {k : Value → World → Prop} {a0_l : Value} {w : World} (h : s20 Tryz.prog k a0_l w) : Calls Tryz.prog 20 #[a0_l] w (retP k) :=
  calls_of_vcF [] mixedXRef09 Tryz.func20 (by kernel_rfl) (Eq.mp (e20 k a0_l w) h)
theorem n20 {args : Array Value} {w : World} {k : Value → World → Prop} (h : Calls Tryz.prog 20 args w (retP k)) : SN Tryz.prog (callFunc 20 args) w k := sn_call Tryz.func20 (by kernel_rfl) (by kernel_rfl) h

/-! ### 60: scrinium/scriniumref09.Same -/

def s60_l1 (P : Program) (k : Value → World → Prop) (a0_a : Value) (a1_b : Value) (i5 : Value) (next : List Value → World → Prop) (w : World) : Prop :=
  SV P (Builtin.len_ #[24] 3 #[a0_a]) w fun t13 w =>
  SV P (binOp .lss 3 i5 t13) w fun t14 w =>
  CN t14
  (HR w fun C w =>
  HV P C (Instr.indexAt 24 a0_a i5) fun t19 =>
  HV P C (Instr.loadAt 29 t19) fun t20 =>
  HV P C (Instr.indexAt 24 a1_b i5) fun t23 =>
  HV P C (Instr.loadAt 29 t23) fun t24 =>
  HV P C (eqS .neq 29 (.tmp 20) (.tmp 24) t20 t24) fun t25 =>
  CN t25
  (k (Value.bool false) w)
  (SV P (binOp .add 3 i5 (Value.int .i64 1)) w fun t16 w =>
  next [t16] w))
  (k (Value.bool true) w)

def s60 (P : Program) (k : Value → World → Prop) (a0_a : Value) (a1_b : Value) (w : World) : Prop :=
  SV P (Builtin.len_ #[24] 3 #[a0_a]) w fun t7 w =>
  SV P (Builtin.len_ #[24] 3 #[a1_b]) w fun t9 w =>
  SV P (eqS .neq 3 (.tmp 7) (.tmp 9) t7 t9) w fun t10 w =>
  CN t10
  (k (Value.bool false) w)
  (LP 1 [(Value.int .i64 0)] w (fun next _ us w => s60_l1 P k a0_a a1_b (us.getD 0 undef) next w))

theorem e60 (k : Value → World → Prop) (a0_a a1_b : Value) (w : World) : s60 Tryz.prog k a0_a a1_b w = vcF Tryz.prog Tryz.f60 [5] [a0_a, a1_b] k w := by kernel_rfl
theorem c60 {k : Value → World → Prop} {a0_a a1_b : Value} {w : World} (h : s60 Tryz.prog k a0_a a1_b w) : Calls Tryz.prog 60 #[a0_a, a1_b] w (retP k) :=
  calls_of_vcF [5] mixedXRef09 Tryz.func60 (by kernel_rfl) (Eq.mp (e60 k a0_a a1_b w) h)
theorem n60 {args : Array Value} {w : World} {k : Value → World → Prop} (h : Calls Tryz.prog 60 args w (retP k)) : SN Tryz.prog (callFunc 60 args) w k := sn_call Tryz.func60 (by kernel_rfl) (by kernel_rfl) h

/-! ### 82: scrinium/scriniumref09.Split -/

def s82_l1 (P : Program) (k : Value → World → Prop) (a0_n : Value) (k3 : Value) (next : List Value → World → Prop) (w : World) : Prop :=
  SV P (binOp .sub 3 a0_n (Value.int .i64 1)) w fun t8 w =>
  SV P (binOp .quo 3 t8 (Value.int .i64 2)) w fun t9 w =>
  SV P (binOp .leq 3 k3 t9) w fun t10 w =>
  CN t10
  (SV P (binOp .mul 3 (Value.int .i64 2) k3) w fun t12 w =>
  next [t12] w)
  (k k3 w)

def s82 (P : Program) (k : Value → World → Prop) (a0_n : Value) (w : World) : Prop :=
  SV P (binOp .lss 3 a0_n (Value.int .i64 2)) w fun t5 w =>
  CN t5
  (k (Value.int .i64 0) w)
  (LP 1 [(Value.int .i64 1)] w (fun next _ us w => s82_l1 P k a0_n (us.getD 0 undef) next w))

theorem e82 (k : Value → World → Prop) (a0_n : Value) (w : World) : s82 Tryz.prog k a0_n w = vcF Tryz.prog Tryz.f82 [3] [a0_n] k w := by kernel_rfl
theorem c82 {k : Value → World → Prop} {a0_n : Value} {w : World} (h : s82 Tryz.prog k a0_n w) : Calls Tryz.prog 82 #[a0_n] w (retP k) :=
  calls_of_vcF [3] mixedXRef09 Tryz.func82 (by kernel_rfl) (Eq.mp (e82 k a0_n w) h)
theorem n82 {args : Array Value} {w : World} {k : Value → World → Prop} (h : Calls Tryz.prog 82 args w (retP k)) : SN Tryz.prog (callFunc 82 args) w k := sn_call Tryz.func82 (by kernel_rfl) (by kernel_rfl) h

/-! ### 83: scrinium/scriniumref09.Node -/

def s83 (P : Program) (k : Value → World → Prop) (a0_a : Value) (a1_b : Value) (w : World) : Prop :=
  SV P (Instr.box 29 a0_a) w fun a2 w =>
  SV P (Instr.box 29 a1_b) w fun b3 w =>
  SV P (Instr.alloc 29 true (.tuple #[])) w fun t4 w =>
  SV P (Instr.loadAt 29 a2) w fun t5 w =>
  SV P (Instr.loadAt 29 b3) w fun t6 w =>
  SN P (callFunc 150 #[t5, t6]) w fun t7 w =>
  SN P (callFunc 81 #[t7]) w fun t8 w =>
  SU P (Instr.storeAt 29 t4 t8) w fun w =>
  CR P 29 t4 w fun t4_1 =>
  k t4_1 w

theorem e83 (k : Value → World → Prop) (a0_a a1_b : Value) (w : World) : s83 Tryz.prog k a0_a a1_b w = vcF Tryz.prog Tryz.f83 [] [a0_a, a1_b] k w := by kernel_rfl
theorem c83 {k : Value → World → Prop} {a0_a a1_b : Value} {w : World} (h : s83 Tryz.prog k a0_a a1_b w) : Calls Tryz.prog 83 #[a0_a, a1_b] w (retP k) :=
  calls_of_vcF [] mixedXRef09 Tryz.func83 (by kernel_rfl) (Eq.mp (e83 k a0_a a1_b w) h)
theorem n83 {args : Array Value} {w : World} {k : Value → World → Prop} (h : Calls Tryz.prog 83 args w (retP k)) : SN Tryz.prog (callFunc 83 args) w k := sn_call Tryz.func83 (by kernel_rfl) (by kernel_rfl) h

/-! ### 150: scrinium/scriniumref09.Preimage -/

def s150 (P : Program) (k : Value → World → Prop) (a0_a : Value) (a1_b : Value) (w : World) : Prop :=
  SV P (Instr.box 29 a0_a) w fun a2 w =>
  SV P (Instr.box 29 a1_b) w fun b3 w =>
  HR w fun C w =>
  HV P C (Instr.loadAt 29 a2) fun t5 =>
  SN P (callFunc 160 #[t5]) w fun t6 w =>
  RS C w fun C =>
  HV P C (binOp .add 9 (str [1]) t6) fun t7 =>
  HV P C (Instr.loadAt 29 b3) fun t8 =>
  SN P (callFunc 160 #[t8]) w fun t9 w =>
  C w ∧
  HV P C (binOp .add 9 t7 t9) fun t10 =>
  k t10 w

theorem e150 (k : Value → World → Prop) (a0_a a1_b : Value) (w : World) : s150 Tryz.prog k a0_a a1_b w = vcF Tryz.prog Tryz.f150 [] [a0_a, a1_b] k w := by kernel_rfl
theorem c150 {k : Value → World → Prop} {a0_a a1_b : Value} {w : World} (h : s150 Tryz.prog k a0_a a1_b w) : Calls Tryz.prog 150 #[a0_a, a1_b] w (retP k) :=
  calls_of_vcF [] mixedXRef09 Tryz.func150 (by kernel_rfl) (Eq.mp (e150 k a0_a a1_b w) h)
theorem n150 {args : Array Value} {w : World} {k : Value → World → Prop} (h : Calls Tryz.prog 150 args w (retP k)) : SN Tryz.prog (callFunc 150 args) w k := sn_call Tryz.func150 (by kernel_rfl) (by kernel_rfl) h

/-! ### 193: scrinium/scriniumref09.Leaf -/

def s193 (P : Program) (k : Value → World → Prop) (a0_data : Value) (w : World) : Prop :=
  SV P (Instr.alloc 29 true (.tuple #[])) w fun t2 w =>
  SV P (binOp .add 9 (str [0]) a0_data) w fun t4 w =>
  SN P (callFunc 81 #[t4]) w fun t5 w =>
  SU P (Instr.storeAt 29 t2 t5) w fun w =>
  CR P 29 t2 w fun t2_1 =>
  k t2_1 w

theorem e193 (k : Value → World → Prop) (a0_data : Value) (w : World) : s193 Tryz.prog k a0_data w = vcF Tryz.prog Tryz.f193 [] [a0_data] k w := by kernel_rfl
theorem c193 {k : Value → World → Prop} {a0_data : Value} {w : World} (h : s193 Tryz.prog k a0_data w) : Calls Tryz.prog 193 #[a0_data] w (retP k) :=
  calls_of_vcF [] mixedXRef09 Tryz.func193 (by kernel_rfl) (Eq.mp (e193 k a0_data w) h)
theorem n193 {args : Array Value} {w : World} {k : Value → World → Prop} (h : Calls Tryz.prog 193 args w (retP k)) : SN Tryz.prog (callFunc 193 args) w k := sn_call Tryz.func193 (by kernel_rfl) (by kernel_rfl) h

end Go.Proofs.YtkdghnbogkbedaaGreatDoor
