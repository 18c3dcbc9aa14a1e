/-
  For each function: the condition that its code comes to, and that it is enough. Printed by sh.py (a program of this work).
-/
import Derived.Test.YtkdghnbogkbedaaGreatDoorProg
import Derived.Test.YtkdghnbogkbedaaGreatDoorTypes
namespace Go.Proofs.YtkdghnbogkbedaaGreatDoor
open Go Go.Sh
set_option maxRecDepth 100000


theorem mixedXStrings : Tryz.prog.follows .mixedOrders = true := by kernel_rfl

/-! ### 162: (*strings.Builder).WriteString -/

def s162 (P : Program) (k : Value → World → Prop) (a0_b : Value) (a1_s : Value) (w : World) : Prop :=
  SN P (callFunc 240 #[a0_b]) w fun _ w =>
  SV P (nilS a0_b) w fun t10 w =>
  SV P (Instr.fieldAt 217 t10 1) w fun t11 w =>
  SV P (Instr.loadAt 151 t11) w fun t12 w =>
  SV P (Builtin.append_ #[151, 9] 151 #[t12, a1_s]) w fun t14 w =>
  SV P (nilS a0_b) w fun t15 w =>
  SV P (Instr.fieldAt 217 t15 1) w fun t16 w =>
  SU P (Instr.storeAt 151 t16 t14) w fun w =>
  SV P (Builtin.len_ #[9] 3 #[a1_s]) w fun t18 w =>
  k (.tuple #[t18, Value.nilIface]) w

theorem e162 (k : Value → World → Prop) (a0_b a1_s : Value) (w : World) : s162 Tryz.prog k a0_b a1_s w = vcF Tryz.prog Tryz.f162 [] [a0_b, a1_s] k w := by kernel_rfl
theorem c162 {k : Value → World → Prop} {a0_b a1_s : Value} {w : World} (h : s162 Tryz.prog k a0_b a1_s w) : Calls Tryz.prog 162 #[a0_b, a1_s] w (retP k) :=
  calls_of_vcF [] mixedXStrings Tryz.func162 (by kernel_rfl) (Eq.mp (e162 k a0_b a1_s w) h)
theorem n162 {args : Array Value} {w : World} {k : Value → World → Prop} (h : Calls Tryz.prog 162 args w (retP k)) : SN Tryz.prog (callFunc 162 args) w k := sn_call Tryz.func162 (by kernel_rfl) (by kernel_rfl) h

/-! ### 165: (*strings.Builder).String -/

def s165 (P : Program) (k : Value → World → Prop) (a0_b : Value) (w : World) : Prop :=
  HR w fun C w =>
  HV P C (nilS a0_b) fun t4 =>
  HV P C (Instr.fieldAt 217 t4 1) fun t5 =>
  HV P C (Instr.loadAt 151 t5) fun t6 =>
  SN P (builtin .unsafeSliceData #[151] 268 #[false] #[t6]) w fun t7 w =>
  RS C w fun C =>
  HV P C (nilS a0_b) fun t9 =>
  HV P C (Instr.fieldAt 217 t9 1) fun t10 =>
  HV P C (Instr.loadAt 151 t10) fun t11 =>
  HV P C (Builtin.len_ #[151] 3 #[t11]) fun t12 =>
  SN P (builtin .unsafeString #[268, 3] 9 #[false, false] #[t7, t12]) w fun t13 w =>
  RS C w fun _ =>
  k t13 w

theorem e165 (k : Value → World → Prop) (a0_b : Value) (w : World) : s165 Tryz.prog k a0_b w = vcF Tryz.prog Tryz.f165 [] [a0_b] k w := by kernel_rfl
theorem c165 {k : Value → World → Prop} {a0_b : Value} {w : World} (h : s165 Tryz.prog k a0_b w) : Calls Tryz.prog 165 #[a0_b] w (retP k) :=
  calls_of_vcF [] mixedXStrings Tryz.func165 (by kernel_rfl) (Eq.mp (e165 k a0_b w) h)
theorem n165 {args : Array Value} {w : World} {k : Value → World → Prop} (h : Calls Tryz.prog 165 args w (retP k)) : SN Tryz.prog (callFunc 165 args) w k := sn_call Tryz.func165 (by kernel_rfl) (by kernel_rfl) h

/-! ### 169: strings.Compare -/

def s169 (P : Program) (k : Value → World → Prop) (a0_a : Value) (a1_b : Value) (w : World) : Prop :=
  SN P (callFunc 246 #[a0_a, a1_b]) w fun t7 w =>
  k t7 w

theorem e169 (k : Value → World → Prop) (a0_a a1_b : Value) (w : World) : s169 Tryz.prog k a0_a a1_b w = vcF Tryz.prog Tryz.f169 [] [a0_a, a1_b] k w := by kernel_rfl
theorem c169 {k : Value → World → Prop} {a0_a a1_b : Value} {w : World} (h : s169 Tryz.prog k a0_a a1_b w) : Calls Tryz.prog 169 #[a0_a, a1_b] w (retP k) :=
  calls_of_vcF [] mixedXStrings Tryz.func169 (by kernel_rfl) (Eq.mp (e169 k a0_a a1_b w) h)
theorem n169 {args : Array Value} {w : World} {k : Value → World → Prop} (h : Calls Tryz.prog 169 args w (retP k)) : SN Tryz.prog (callFunc 169 args) w k := sn_call Tryz.func169 (by kernel_rfl) (by kernel_rfl) h

/-! ### 170: strings.CutPrefix -/

def s170 (P : Program) (k : Value → World → Prop) (a0_s : Value) (a1_prefix : Value) (w : World) : Prop :=
  SN P (callFunc 247 #[a0_s, a1_prefix]) w fun t8 w =>
  SV P (Instr.extract t8 0) w fun t9 w =>
  SV P (Instr.extract t8 1) w fun t10 w =>
  k (.tuple #[t9, t10]) w

theorem e170 (k : Value → World → Prop) (a0_s a1_prefix : Value) (w : World) : s170 Tryz.prog k a0_s a1_prefix w = vcF Tryz.prog Tryz.f170 [] [a0_s, a1_prefix] k w := by kernel_rfl
theorem c170 {k : Value → World → Prop} {a0_s a1_prefix : Value} {w : World} (h : s170 Tryz.prog k a0_s a1_prefix w) : Calls Tryz.prog 170 #[a0_s, a1_prefix] w (retP k) :=
  calls_of_vcF [] mixedXStrings Tryz.func170 (by kernel_rfl) (Eq.mp (e170 k a0_s a1_prefix w) h)
theorem n170 {args : Array Value} {w : World} {k : Value → World → Prop} (h : Calls Tryz.prog 170 args w (retP k)) : SN Tryz.prog (callFunc 170 args) w k := sn_call Tryz.func170 (by kernel_rfl) (by kernel_rfl) h

/-! ### 171: strings.HasPrefix -/

def s171 (P : Program) (k : Value → World → Prop) (a0_s : Value) (a1_prefix : Value) (w : World) : Prop :=
  SN P (callFunc 248 #[a0_s, a1_prefix]) w fun t7 w =>
  k t7 w

theorem e171 (k : Value → World → Prop) (a0_s a1_prefix : Value) (w : World) : s171 Tryz.prog k a0_s a1_prefix w = vcF Tryz.prog Tryz.f171 [] [a0_s, a1_prefix] k w := by kernel_rfl
theorem c171 {k : Value → World → Prop} {a0_s a1_prefix : Value} {w : World} (h : s171 Tryz.prog k a0_s a1_prefix w) : Calls Tryz.prog 171 #[a0_s, a1_prefix] w (retP k) :=
  calls_of_vcF [] mixedXStrings Tryz.func171 (by kernel_rfl) (Eq.mp (e171 k a0_s a1_prefix w) h)
theorem n171 {args : Array Value} {w : World} {k : Value → World → Prop} (h : Calls Tryz.prog 171 args w (retP k)) : SN Tryz.prog (callFunc 171 args) w k := sn_call Tryz.func171 (by kernel_rfl) (by kernel_rfl) h

/-! ### 217: strings.Join -/

def s217_j1 (P : Program) (_ : Value → World → Prop) (a0_elems : Value) (a1_sep : Value) (j : List Value → World → Prop) (w : World) : Prop :=
  SV P (Builtin.len_ #[9] 3 #[a1_sep]) w fun t33 w =>
  SV P (Builtin.len_ #[249] 3 #[a0_elems]) w fun t35 w =>
  SV P (binOp .sub 3 t35 (Value.int .i64 1)) w fun t36 w =>
  SV P (binOp .mul 3 t33 t36) w fun t37 w =>
  SV P (binOp .add 3 (Value.int .i64 0) t37) w fun t38 w =>
  j [t38] w

def s217_j2 (P : Program) (_ : Value → World → Prop) (n5_1 : Value) (j : List Value → World → Prop) (t44 : Value) (w : World) : Prop :=
  SV P (Builtin.len_ #[9] 3 #[t44]) w fun t53 w =>
  SV P (binOp .add 3 n5_1 t53) w fun t54 w =>
  j [t54] w

def s217_j3 (P : Program) (_ : Value → World → Prop) (t41 : Value) (next : List Value → World → Prop) (n5_2 : Value) (w : World) : Prop :=
  SV P (binOp .add 3 t41 (Value.int .i64 1)) w fun t55 w =>
  next [n5_2, t55] w

def s217_l1 (P : Program) (k : Value → World → Prop) (a1_sep : Value) (b8 : Value) (t63 : Value) (t64 : Value) (t65 : Value) (next_1 : List Value → World → Prop) (w : World) : Prop :=
  SV P (binOp .lss 3 t65 t64) w fun t66 w =>
  CN t66
  (SV P (Instr.indexAt 249 t63 t65) w fun t67 w =>
  SV P (Instr.loadAt 9 t67) w fun t68 w =>
  SN P (callFunc 162 #[b8, a1_sep]) w fun _ w =>
  SN P (callFunc 162 #[b8, t68]) w fun _ w =>
  SV P (binOp .add 3 t65 (Value.int .i64 1)) w fun t73 w =>
  next_1 [t73] w)
  (SN P (callFunc 165 #[b8]) w fun t74 w =>
  k t74 w)

def s217_l2 (P : Program) (k : Value → World → Prop) (a0_elems : Value) (a1_sep : Value) (t40 : Value) (n5_1 : Value) (t41 : Value) (next : List Value → World → Prop) (w : World) : Prop :=
  SV P (binOp .lss 3 t41 t40) w fun t42 w =>
  CN t42
  (JP 1 (fun j =>
  SV P (Instr.indexAt 249 a0_elems t41) w fun t43 w =>
  SV P (Instr.loadAt 9 t43) w fun t44 w =>
  JP 0 (fun j_1 =>
  SV P (Builtin.len_ #[9] 3 #[t44]) w fun t46 w =>
  SV P (binOp .sub 3 (Value.int .i64 9223372036854775807) n5_1) w fun t48 w =>
  SV P (binOp .gtr 3 t46 t48) w fun t49 w =>
  CN t49
  (SV P (Instr.makeInterface 9 (str [115, 116, 114, 105, 110, 103, 115, 58, 32, 74, 111, 105, 110, 32, 111, 117, 116, 112, 117, 116, 32, 108, 101, 110, 103, 116, 104, 32, 111, 118, 101, 114, 102, 108, 111, 119])) w fun _ w =>
  False)
  (j_1 [] w))
  (fun _ _ w => s217_j2 P k n5_1 j t44 w))
  (fun _ us w => s217_j3 P k t41 next (us.getD 0 undef) w))
  (SV P (Instr.alloc 217 true (.tuple #[])) w fun b8 w =>
  SN P (callFunc 261 #[b8, n5_1]) w fun _ w =>
  SV P (Instr.indexAt 249 a0_elems (Value.int .i64 0)) w fun t59 w =>
  SV P (Instr.loadAt 9 t59) w fun t60 w =>
  SN P (callFunc 162 #[b8, t60]) w fun _ w =>
  SV P (Instr.sliceAt 249 a0_elems (some (Value.int .i64 1)) none none) w fun t63 w =>
  SV P (Builtin.len_ #[249] 3 #[t63]) w fun t64 w =>
  LP 1 [(Value.int .i64 0)] w (fun next_1 _ us w => s217_l1 P k a1_sep b8 t63 t64 (us.getD 0 undef) next_1 w))

def s217_j4 (P : Program) (k : Value → World → Prop) (a0_elems : Value) (a1_sep : Value) (n5 : Value) (w : World) : Prop :=
  SV P (Builtin.len_ #[249] 3 #[a0_elems]) w fun t40 w =>
  LP 2 [n5, (Value.int .i64 0)] w (fun next _ us w => s217_l2 P k a0_elems a1_sep t40 (us.getD 0 undef) (us.getD 1 undef) next w)

def s217 (P : Program) (k : Value → World → Prop) (a0_elems : Value) (a1_sep : Value) (w : World) : Prop :=
  SV P (Builtin.len_ #[249] 3 #[a0_elems]) w fun t12 w =>
  SV P (eqS .eql 3 (.tmp 12) (.const (Value.int .i64 0)) t12 (Value.int .i64 0)) w fun t14 w =>
  CN t14
  (k (str []) w)
  (SV P (eqS .eql 3 (.tmp 12) (.const (Value.int .i64 1)) t12 (Value.int .i64 1)) w fun t16 w =>
  CN t16
  (SV P (Instr.indexAt 249 a0_elems (Value.int .i64 0)) w fun t18 w =>
  SV P (Instr.loadAt 9 t18) w fun t19 w =>
  k t19 w)
  (JP 1 (fun j =>
  SV P (Builtin.len_ #[9] 3 #[a1_sep]) w fun t21 w =>
  SV P (binOp .gtr 3 t21 (Value.int .i64 0)) w fun t22 w =>
  CN t22
  (JP 0 (fun j_1 =>
  SV P (Builtin.len_ #[9] 3 #[a1_sep]) w fun t24 w =>
  SV P (Builtin.len_ #[249] 3 #[a0_elems]) w fun t26 w =>
  SV P (binOp .sub 3 t26 (Value.int .i64 1)) w fun t27 w =>
  SV P (binOp .quo 3 (Value.int .i64 9223372036854775807) t27) w fun t28 w =>
  SV P (binOp .geq 3 t24 t28) w fun t29 w =>
  CN t29
  (SV P (Instr.makeInterface 9 (str [115, 116, 114, 105, 110, 103, 115, 58, 32, 74, 111, 105, 110, 32, 111, 117, 116, 112, 117, 116, 32, 108, 101, 110, 103, 116, 104, 32, 111, 118, 101, 114, 102, 108, 111, 119])) w fun _ w =>
  False)
  (j_1 [] w))
  (fun _ _ w => s217_j1 P k a0_elems a1_sep j w))
  (j [(Value.int .i64 0)] w))
  (fun _ us w => s217_j4 P k a0_elems a1_sep (us.getD 0 undef) w)))

theorem e217 (k : Value → World → Prop) (a0_elems a1_sep : Value) (w : World) : s217 Tryz.prog k a0_elems a1_sep w = vcF Tryz.prog Tryz.f217 [5, 41, 65] [a0_elems, a1_sep] k w := by kernel_rfl
theorem c217 {k : Value → World → Prop} {a0_elems a1_sep : Value} {w : World} (h : s217 Tryz.prog k a0_elems a1_sep w) : Calls Tryz.prog 217 #[a0_elems, a1_sep] w (retP k) :=
  calls_of_vcF [5, 41, 65] mixedXStrings Tryz.func217 (by kernel_rfl) (Eq.mp (e217 k a0_elems a1_sep w) h)
theorem n217 {args : Array Value} {w : World} {k : Value → World → Prop} (h : Calls Tryz.prog 217 args w (retP k)) : SN Tryz.prog (callFunc 217 args) w k := sn_call Tryz.func217 (by kernel_rfl) (by kernel_rfl) h

/-! ### 242: strings.Repeat -/

def s242_j1 (P : Program) (k : Value → World → Prop) (a0_s : Value) (t37 : Value) (j : List Value → World → Prop) (t43 : Value) (w : World) : Prop :=
  CN t43
  (SV P (binOp .leq 3 t37 (Value.int .i64 128)) w fun t51 w =>
  GD t51 true
  (SN P (callFunc 171 #[(str [32, 32, 32, 32, 32, 32, 32, 32, 32, 32, 32, 32, 32, 32, 32, 32, 32, 32, 32, 32, 32, 32, 32, 32, 32, 32, 32, 32, 32, 32, 32, 32, 32, 32, 32, 32, 32, 32, 32, 32, 32, 32, 32, 32, 32, 32, 32, 32, 32, 32, 32, 32, 32, 32, 32, 32, 32, 32, 32, 32, 32, 32, 32, 32, 32, 32, 32, 32, 32, 32, 32, 32, 32, 32, 32, 32, 32, 32, 32, 32, 32, 32, 32, 32, 32, 32, 32, 32, 32, 32, 32, 32, 32, 32, 32, 32, 32, 32, 32, 32, 32, 32, 32, 32, 32, 32, 32, 32, 32, 32, 32, 32, 32, 32, 32, 32, 32, 32, 32, 32, 32, 32, 32, 32, 32, 32, 32, 32]), a0_s]) w fun t54 w =>
  CN t54
  (SV P (Instr.sliceAt 9 (str [32, 32, 32, 32, 32, 32, 32, 32, 32, 32, 32, 32, 32, 32, 32, 32, 32, 32, 32, 32, 32, 32, 32, 32, 32, 32, 32, 32, 32, 32, 32, 32, 32, 32, 32, 32, 32, 32, 32, 32, 32, 32, 32, 32, 32, 32, 32, 32, 32, 32, 32, 32, 32, 32, 32, 32, 32, 32, 32, 32, 32, 32, 32, 32, 32, 32, 32, 32, 32, 32, 32, 32, 32, 32, 32, 32, 32, 32, 32, 32, 32, 32, 32, 32, 32, 32, 32, 32, 32, 32, 32, 32, 32, 32, 32, 32, 32, 32, 32, 32, 32, 32, 32, 32, 32, 32, 32, 32, 32, 32, 32, 32, 32, 32, 32, 32, 32, 32, 32, 32, 32, 32, 32, 32, 32, 32, 32, 32]) none (some t37) none) w fun t57 w =>
  k t57 w)
  (SV P (binOp .leq 3 t37 (Value.int .i64 128)) w fun t60 w =>
  GD t60 true
  (SN P (callFunc 171 #[(str [45, 45, 45, 45, 45, 45, 45, 45, 45, 45, 45, 45, 45, 45, 45, 45, 45, 45, 45, 45, 45, 45, 45, 45, 45, 45, 45, 45, 45, 45, 45, 45, 45, 45, 45, 45, 45, 45, 45, 45, 45, 45, 45, 45, 45, 45, 45, 45, 45, 45, 45, 45, 45, 45, 45, 45, 45, 45, 45, 45, 45, 45, 45, 45, 45, 45, 45, 45, 45, 45, 45, 45, 45, 45, 45, 45, 45, 45, 45, 45, 45, 45, 45, 45, 45, 45, 45, 45, 45, 45, 45, 45, 45, 45, 45, 45, 45, 45, 45, 45, 45, 45, 45, 45, 45, 45, 45, 45, 45, 45, 45, 45, 45, 45, 45, 45, 45, 45, 45, 45, 45, 45, 45, 45, 45, 45, 45, 45]), a0_s]) w fun t63 w =>
  CN t63
  (SV P (Instr.sliceAt 9 (str [45, 45, 45, 45, 45, 45, 45, 45, 45, 45, 45, 45, 45, 45, 45, 45, 45, 45, 45, 45, 45, 45, 45, 45, 45, 45, 45, 45, 45, 45, 45, 45, 45, 45, 45, 45, 45, 45, 45, 45, 45, 45, 45, 45, 45, 45, 45, 45, 45, 45, 45, 45, 45, 45, 45, 45, 45, 45, 45, 45, 45, 45, 45, 45, 45, 45, 45, 45, 45, 45, 45, 45, 45, 45, 45, 45, 45, 45, 45, 45, 45, 45, 45, 45, 45, 45, 45, 45, 45, 45, 45, 45, 45, 45, 45, 45, 45, 45, 45, 45, 45, 45, 45, 45, 45, 45, 45, 45, 45, 45, 45, 45, 45, 45, 45, 45, 45, 45, 45, 45, 45, 45, 45, 45, 45, 45, 45, 45]) none (some t37) none) w fun t66 w =>
  k t66 w)
  (SV P (binOp .leq 3 t37 (Value.int .i64 64)) w fun t69 w =>
  GD t69 true
  (SN P (callFunc 171 #[(str [48, 48, 48, 48, 48, 48, 48, 48, 48, 48, 48, 48, 48, 48, 48, 48, 48, 48, 48, 48, 48, 48, 48, 48, 48, 48, 48, 48, 48, 48, 48, 48, 48, 48, 48, 48, 48, 48, 48, 48, 48, 48, 48, 48, 48, 48, 48, 48, 48, 48, 48, 48, 48, 48, 48, 48, 48, 48, 48, 48, 48, 48, 48, 48]), a0_s]) w fun t72 w =>
  CN t72
  (SV P (Instr.sliceAt 9 (str [48, 48, 48, 48, 48, 48, 48, 48, 48, 48, 48, 48, 48, 48, 48, 48, 48, 48, 48, 48, 48, 48, 48, 48, 48, 48, 48, 48, 48, 48, 48, 48, 48, 48, 48, 48, 48, 48, 48, 48, 48, 48, 48, 48, 48, 48, 48, 48, 48, 48, 48, 48, 48, 48, 48, 48, 48, 48, 48, 48, 48, 48, 48, 48]) none (some t37) none) w fun t75 w =>
  k t75 w)
  (SV P (binOp .leq 3 t37 (Value.int .i64 128)) w fun t78 w =>
  GD t78 true
  (SN P (callFunc 171 #[(str [61, 61, 61, 61, 61, 61, 61, 61, 61, 61, 61, 61, 61, 61, 61, 61, 61, 61, 61, 61, 61, 61, 61, 61, 61, 61, 61, 61, 61, 61, 61, 61, 61, 61, 61, 61, 61, 61, 61, 61, 61, 61, 61, 61, 61, 61, 61, 61, 61, 61, 61, 61, 61, 61, 61, 61, 61, 61, 61, 61, 61, 61, 61, 61, 61, 61, 61, 61, 61, 61, 61, 61, 61, 61, 61, 61, 61, 61, 61, 61, 61, 61, 61, 61, 61, 61, 61, 61, 61, 61, 61, 61, 61, 61, 61, 61, 61, 61, 61, 61, 61, 61, 61, 61, 61, 61, 61, 61, 61, 61, 61, 61, 61, 61, 61, 61, 61, 61, 61, 61, 61, 61, 61, 61, 61, 61, 61, 61]), a0_s]) w fun t81 w =>
  CN t81
  (SV P (Instr.sliceAt 9 (str [61, 61, 61, 61, 61, 61, 61, 61, 61, 61, 61, 61, 61, 61, 61, 61, 61, 61, 61, 61, 61, 61, 61, 61, 61, 61, 61, 61, 61, 61, 61, 61, 61, 61, 61, 61, 61, 61, 61, 61, 61, 61, 61, 61, 61, 61, 61, 61, 61, 61, 61, 61, 61, 61, 61, 61, 61, 61, 61, 61, 61, 61, 61, 61, 61, 61, 61, 61, 61, 61, 61, 61, 61, 61, 61, 61, 61, 61, 61, 61, 61, 61, 61, 61, 61, 61, 61, 61, 61, 61, 61, 61, 61, 61, 61, 61, 61, 61, 61, 61, 61, 61, 61, 61, 61, 61, 61, 61, 61, 61, 61, 61, 61, 61, 61, 61, 61, 61, 61, 61, 61, 61, 61, 61, 61, 61, 61, 61]) none (some t37) none) w fun t84 w =>
  k t84 w)
  (SV P (binOp .leq 3 t37 (Value.int .i64 64)) w fun t87 w =>
  GD t87 true
  (SN P (callFunc 171 #[(str [9, 9, 9, 9, 9, 9, 9, 9, 9, 9, 9, 9, 9, 9, 9, 9, 9, 9, 9, 9, 9, 9, 9, 9, 9, 9, 9, 9, 9, 9, 9, 9, 9, 9, 9, 9, 9, 9, 9, 9, 9, 9, 9, 9, 9, 9, 9, 9, 9, 9, 9, 9, 9, 9, 9, 9, 9, 9, 9, 9, 9, 9, 9, 9]), a0_s]) w fun t90 w =>
  CN t90
  (SV P (Instr.sliceAt 9 (str [9, 9, 9, 9, 9, 9, 9, 9, 9, 9, 9, 9, 9, 9, 9, 9, 9, 9, 9, 9, 9, 9, 9, 9, 9, 9, 9, 9, 9, 9, 9, 9, 9, 9, 9, 9, 9, 9, 9, 9, 9, 9, 9, 9, 9, 9, 9, 9, 9, 9, 9, 9, 9, 9, 9, 9, 9, 9, 9, 9, 9, 9, 9, 9]) none (some t37) none) w fun t93 w =>
  k t93 w)
  (j [t43] w))
  (j [t43] w)))
  (SV P (binOp .leq 3 t37 (Value.int .i64 64)) w fun t87 w =>
  GD t87 true
  (SN P (callFunc 171 #[(str [9, 9, 9, 9, 9, 9, 9, 9, 9, 9, 9, 9, 9, 9, 9, 9, 9, 9, 9, 9, 9, 9, 9, 9, 9, 9, 9, 9, 9, 9, 9, 9, 9, 9, 9, 9, 9, 9, 9, 9, 9, 9, 9, 9, 9, 9, 9, 9, 9, 9, 9, 9, 9, 9, 9, 9, 9, 9, 9, 9, 9, 9, 9, 9]), a0_s]) w fun t90 w =>
  CN t90
  (SV P (Instr.sliceAt 9 (str [9, 9, 9, 9, 9, 9, 9, 9, 9, 9, 9, 9, 9, 9, 9, 9, 9, 9, 9, 9, 9, 9, 9, 9, 9, 9, 9, 9, 9, 9, 9, 9, 9, 9, 9, 9, 9, 9, 9, 9, 9, 9, 9, 9, 9, 9, 9, 9, 9, 9, 9, 9, 9, 9, 9, 9, 9, 9, 9, 9, 9, 9, 9, 9]) none (some t37) none) w fun t93 w =>
  k t93 w)
  (j [t43] w))
  (j [t43] w))))
  (SV P (binOp .leq 3 t37 (Value.int .i64 128)) w fun t78 w =>
  GD t78 true
  (SN P (callFunc 171 #[(str [61, 61, 61, 61, 61, 61, 61, 61, 61, 61, 61, 61, 61, 61, 61, 61, 61, 61, 61, 61, 61, 61, 61, 61, 61, 61, 61, 61, 61, 61, 61, 61, 61, 61, 61, 61, 61, 61, 61, 61, 61, 61, 61, 61, 61, 61, 61, 61, 61, 61, 61, 61, 61, 61, 61, 61, 61, 61, 61, 61, 61, 61, 61, 61, 61, 61, 61, 61, 61, 61, 61, 61, 61, 61, 61, 61, 61, 61, 61, 61, 61, 61, 61, 61, 61, 61, 61, 61, 61, 61, 61, 61, 61, 61, 61, 61, 61, 61, 61, 61, 61, 61, 61, 61, 61, 61, 61, 61, 61, 61, 61, 61, 61, 61, 61, 61, 61, 61, 61, 61, 61, 61, 61, 61, 61, 61, 61, 61]), a0_s]) w fun t81 w =>
  CN t81
  (SV P (Instr.sliceAt 9 (str [61, 61, 61, 61, 61, 61, 61, 61, 61, 61, 61, 61, 61, 61, 61, 61, 61, 61, 61, 61, 61, 61, 61, 61, 61, 61, 61, 61, 61, 61, 61, 61, 61, 61, 61, 61, 61, 61, 61, 61, 61, 61, 61, 61, 61, 61, 61, 61, 61, 61, 61, 61, 61, 61, 61, 61, 61, 61, 61, 61, 61, 61, 61, 61, 61, 61, 61, 61, 61, 61, 61, 61, 61, 61, 61, 61, 61, 61, 61, 61, 61, 61, 61, 61, 61, 61, 61, 61, 61, 61, 61, 61, 61, 61, 61, 61, 61, 61, 61, 61, 61, 61, 61, 61, 61, 61, 61, 61, 61, 61, 61, 61, 61, 61, 61, 61, 61, 61, 61, 61, 61, 61, 61, 61, 61, 61, 61, 61]) none (some t37) none) w fun t84 w =>
  k t84 w)
  (SV P (binOp .leq 3 t37 (Value.int .i64 64)) w fun t87 w =>
  GD t87 true
  (SN P (callFunc 171 #[(str [9, 9, 9, 9, 9, 9, 9, 9, 9, 9, 9, 9, 9, 9, 9, 9, 9, 9, 9, 9, 9, 9, 9, 9, 9, 9, 9, 9, 9, 9, 9, 9, 9, 9, 9, 9, 9, 9, 9, 9, 9, 9, 9, 9, 9, 9, 9, 9, 9, 9, 9, 9, 9, 9, 9, 9, 9, 9, 9, 9, 9, 9, 9, 9]), a0_s]) w fun t90 w =>
  CN t90
  (SV P (Instr.sliceAt 9 (str [9, 9, 9, 9, 9, 9, 9, 9, 9, 9, 9, 9, 9, 9, 9, 9, 9, 9, 9, 9, 9, 9, 9, 9, 9, 9, 9, 9, 9, 9, 9, 9, 9, 9, 9, 9, 9, 9, 9, 9, 9, 9, 9, 9, 9, 9, 9, 9, 9, 9, 9, 9, 9, 9, 9, 9, 9, 9, 9, 9, 9, 9, 9, 9]) none (some t37) none) w fun t93 w =>
  k t93 w)
  (j [t43] w))
  (j [t43] w)))
  (SV P (binOp .leq 3 t37 (Value.int .i64 64)) w fun t87 w =>
  GD t87 true
  (SN P (callFunc 171 #[(str [9, 9, 9, 9, 9, 9, 9, 9, 9, 9, 9, 9, 9, 9, 9, 9, 9, 9, 9, 9, 9, 9, 9, 9, 9, 9, 9, 9, 9, 9, 9, 9, 9, 9, 9, 9, 9, 9, 9, 9, 9, 9, 9, 9, 9, 9, 9, 9, 9, 9, 9, 9, 9, 9, 9, 9, 9, 9, 9, 9, 9, 9, 9, 9]), a0_s]) w fun t90 w =>
  CN t90
  (SV P (Instr.sliceAt 9 (str [9, 9, 9, 9, 9, 9, 9, 9, 9, 9, 9, 9, 9, 9, 9, 9, 9, 9, 9, 9, 9, 9, 9, 9, 9, 9, 9, 9, 9, 9, 9, 9, 9, 9, 9, 9, 9, 9, 9, 9, 9, 9, 9, 9, 9, 9, 9, 9, 9, 9, 9, 9, 9, 9, 9, 9, 9, 9, 9, 9, 9, 9, 9, 9]) none (some t37) none) w fun t93 w =>
  k t93 w)
  (j [t43] w))
  (j [t43] w)))))
  (SV P (binOp .leq 3 t37 (Value.int .i64 64)) w fun t69 w =>
  GD t69 true
  (SN P (callFunc 171 #[(str [48, 48, 48, 48, 48, 48, 48, 48, 48, 48, 48, 48, 48, 48, 48, 48, 48, 48, 48, 48, 48, 48, 48, 48, 48, 48, 48, 48, 48, 48, 48, 48, 48, 48, 48, 48, 48, 48, 48, 48, 48, 48, 48, 48, 48, 48, 48, 48, 48, 48, 48, 48, 48, 48, 48, 48, 48, 48, 48, 48, 48, 48, 48, 48]), a0_s]) w fun t72 w =>
  CN t72
  (SV P (Instr.sliceAt 9 (str [48, 48, 48, 48, 48, 48, 48, 48, 48, 48, 48, 48, 48, 48, 48, 48, 48, 48, 48, 48, 48, 48, 48, 48, 48, 48, 48, 48, 48, 48, 48, 48, 48, 48, 48, 48, 48, 48, 48, 48, 48, 48, 48, 48, 48, 48, 48, 48, 48, 48, 48, 48, 48, 48, 48, 48, 48, 48, 48, 48, 48, 48, 48, 48]) none (some t37) none) w fun t75 w =>
  k t75 w)
  (SV P (binOp .leq 3 t37 (Value.int .i64 128)) w fun t78 w =>
  GD t78 true
  (SN P (callFunc 171 #[(str [61, 61, 61, 61, 61, 61, 61, 61, 61, 61, 61, 61, 61, 61, 61, 61, 61, 61, 61, 61, 61, 61, 61, 61, 61, 61, 61, 61, 61, 61, 61, 61, 61, 61, 61, 61, 61, 61, 61, 61, 61, 61, 61, 61, 61, 61, 61, 61, 61, 61, 61, 61, 61, 61, 61, 61, 61, 61, 61, 61, 61, 61, 61, 61, 61, 61, 61, 61, 61, 61, 61, 61, 61, 61, 61, 61, 61, 61, 61, 61, 61, 61, 61, 61, 61, 61, 61, 61, 61, 61, 61, 61, 61, 61, 61, 61, 61, 61, 61, 61, 61, 61, 61, 61, 61, 61, 61, 61, 61, 61, 61, 61, 61, 61, 61, 61, 61, 61, 61, 61, 61, 61, 61, 61, 61, 61, 61, 61]), a0_s]) w fun t81 w =>
  CN t81
  (SV P (Instr.sliceAt 9 (str [61, 61, 61, 61, 61, 61, 61, 61, 61, 61, 61, 61, 61, 61, 61, 61, 61, 61, 61, 61, 61, 61, 61, 61, 61, 61, 61, 61, 61, 61, 61, 61, 61, 61, 61, 61, 61, 61, 61, 61, 61, 61, 61, 61, 61, 61, 61, 61, 61, 61, 61, 61, 61, 61, 61, 61, 61, 61, 61, 61, 61, 61, 61, 61, 61, 61, 61, 61, 61, 61, 61, 61, 61, 61, 61, 61, 61, 61, 61, 61, 61, 61, 61, 61, 61, 61, 61, 61, 61, 61, 61, 61, 61, 61, 61, 61, 61, 61, 61, 61, 61, 61, 61, 61, 61, 61, 61, 61, 61, 61, 61, 61, 61, 61, 61, 61, 61, 61, 61, 61, 61, 61, 61, 61, 61, 61, 61, 61]) none (some t37) none) w fun t84 w =>
  k t84 w)
  (SV P (binOp .leq 3 t37 (Value.int .i64 64)) w fun t87 w =>
  GD t87 true
  (SN P (callFunc 171 #[(str [9, 9, 9, 9, 9, 9, 9, 9, 9, 9, 9, 9, 9, 9, 9, 9, 9, 9, 9, 9, 9, 9, 9, 9, 9, 9, 9, 9, 9, 9, 9, 9, 9, 9, 9, 9, 9, 9, 9, 9, 9, 9, 9, 9, 9, 9, 9, 9, 9, 9, 9, 9, 9, 9, 9, 9, 9, 9, 9, 9, 9, 9, 9, 9]), a0_s]) w fun t90 w =>
  CN t90
  (SV P (Instr.sliceAt 9 (str [9, 9, 9, 9, 9, 9, 9, 9, 9, 9, 9, 9, 9, 9, 9, 9, 9, 9, 9, 9, 9, 9, 9, 9, 9, 9, 9, 9, 9, 9, 9, 9, 9, 9, 9, 9, 9, 9, 9, 9, 9, 9, 9, 9, 9, 9, 9, 9, 9, 9, 9, 9, 9, 9, 9, 9, 9, 9, 9, 9, 9, 9, 9, 9]) none (some t37) none) w fun t93 w =>
  k t93 w)
  (j [t43] w))
  (j [t43] w)))
  (SV P (binOp .leq 3 t37 (Value.int .i64 64)) w fun t87 w =>
  GD t87 true
  (SN P (callFunc 171 #[(str [9, 9, 9, 9, 9, 9, 9, 9, 9, 9, 9, 9, 9, 9, 9, 9, 9, 9, 9, 9, 9, 9, 9, 9, 9, 9, 9, 9, 9, 9, 9, 9, 9, 9, 9, 9, 9, 9, 9, 9, 9, 9, 9, 9, 9, 9, 9, 9, 9, 9, 9, 9, 9, 9, 9, 9, 9, 9, 9, 9, 9, 9, 9, 9]), a0_s]) w fun t90 w =>
  CN t90
  (SV P (Instr.sliceAt 9 (str [9, 9, 9, 9, 9, 9, 9, 9, 9, 9, 9, 9, 9, 9, 9, 9, 9, 9, 9, 9, 9, 9, 9, 9, 9, 9, 9, 9, 9, 9, 9, 9, 9, 9, 9, 9, 9, 9, 9, 9, 9, 9, 9, 9, 9, 9, 9, 9, 9, 9, 9, 9, 9, 9, 9, 9, 9, 9, 9, 9, 9, 9, 9, 9]) none (some t37) none) w fun t93 w =>
  k t93 w)
  (j [t43] w))
  (j [t43] w))))
  (SV P (binOp .leq 3 t37 (Value.int .i64 128)) w fun t78 w =>
  GD t78 true
  (SN P (callFunc 171 #[(str [61, 61, 61, 61, 61, 61, 61, 61, 61, 61, 61, 61, 61, 61, 61, 61, 61, 61, 61, 61, 61, 61, 61, 61, 61, 61, 61, 61, 61, 61, 61, 61, 61, 61, 61, 61, 61, 61, 61, 61, 61, 61, 61, 61, 61, 61, 61, 61, 61, 61, 61, 61, 61, 61, 61, 61, 61, 61, 61, 61, 61, 61, 61, 61, 61, 61, 61, 61, 61, 61, 61, 61, 61, 61, 61, 61, 61, 61, 61, 61, 61, 61, 61, 61, 61, 61, 61, 61, 61, 61, 61, 61, 61, 61, 61, 61, 61, 61, 61, 61, 61, 61, 61, 61, 61, 61, 61, 61, 61, 61, 61, 61, 61, 61, 61, 61, 61, 61, 61, 61, 61, 61, 61, 61, 61, 61, 61, 61]), a0_s]) w fun t81 w =>
  CN t81
  (SV P (Instr.sliceAt 9 (str [61, 61, 61, 61, 61, 61, 61, 61, 61, 61, 61, 61, 61, 61, 61, 61, 61, 61, 61, 61, 61, 61, 61, 61, 61, 61, 61, 61, 61, 61, 61, 61, 61, 61, 61, 61, 61, 61, 61, 61, 61, 61, 61, 61, 61, 61, 61, 61, 61, 61, 61, 61, 61, 61, 61, 61, 61, 61, 61, 61, 61, 61, 61, 61, 61, 61, 61, 61, 61, 61, 61, 61, 61, 61, 61, 61, 61, 61, 61, 61, 61, 61, 61, 61, 61, 61, 61, 61, 61, 61, 61, 61, 61, 61, 61, 61, 61, 61, 61, 61, 61, 61, 61, 61, 61, 61, 61, 61, 61, 61, 61, 61, 61, 61, 61, 61, 61, 61, 61, 61, 61, 61, 61, 61, 61, 61, 61, 61]) none (some t37) none) w fun t84 w =>
  k t84 w)
  (SV P (binOp .leq 3 t37 (Value.int .i64 64)) w fun t87 w =>
  GD t87 true
  (SN P (callFunc 171 #[(str [9, 9, 9, 9, 9, 9, 9, 9, 9, 9, 9, 9, 9, 9, 9, 9, 9, 9, 9, 9, 9, 9, 9, 9, 9, 9, 9, 9, 9, 9, 9, 9, 9, 9, 9, 9, 9, 9, 9, 9, 9, 9, 9, 9, 9, 9, 9, 9, 9, 9, 9, 9, 9, 9, 9, 9, 9, 9, 9, 9, 9, 9, 9, 9]), a0_s]) w fun t90 w =>
  CN t90
  (SV P (Instr.sliceAt 9 (str [9, 9, 9, 9, 9, 9, 9, 9, 9, 9, 9, 9, 9, 9, 9, 9, 9, 9, 9, 9, 9, 9, 9, 9, 9, 9, 9, 9, 9, 9, 9, 9, 9, 9, 9, 9, 9, 9, 9, 9, 9, 9, 9, 9, 9, 9, 9, 9, 9, 9, 9, 9, 9, 9, 9, 9, 9, 9, 9, 9, 9, 9, 9, 9]) none (some t37) none) w fun t93 w =>
  k t93 w)
  (j [t43] w))
  (j [t43] w)))
  (SV P (binOp .leq 3 t37 (Value.int .i64 64)) w fun t87 w =>
  GD t87 true
  (SN P (callFunc 171 #[(str [9, 9, 9, 9, 9, 9, 9, 9, 9, 9, 9, 9, 9, 9, 9, 9, 9, 9, 9, 9, 9, 9, 9, 9, 9, 9, 9, 9, 9, 9, 9, 9, 9, 9, 9, 9, 9, 9, 9, 9, 9, 9, 9, 9, 9, 9, 9, 9, 9, 9, 9, 9, 9, 9, 9, 9, 9, 9, 9, 9, 9, 9, 9, 9]), a0_s]) w fun t90 w =>
  CN t90
  (SV P (Instr.sliceAt 9 (str [9, 9, 9, 9, 9, 9, 9, 9, 9, 9, 9, 9, 9, 9, 9, 9, 9, 9, 9, 9, 9, 9, 9, 9, 9, 9, 9, 9, 9, 9, 9, 9, 9, 9, 9, 9, 9, 9, 9, 9, 9, 9, 9, 9, 9, 9, 9, 9, 9, 9, 9, 9, 9, 9, 9, 9, 9, 9, 9, 9, 9, 9, 9, 9]) none (some t37) none) w fun t93 w =>
  k t93 w)
  (j [t43] w))
  (j [t43] w))))))
  (SV P (binOp .leq 3 t37 (Value.int .i64 128)) w fun t60 w =>
  GD t60 true
  (SN P (callFunc 171 #[(str [45, 45, 45, 45, 45, 45, 45, 45, 45, 45, 45, 45, 45, 45, 45, 45, 45, 45, 45, 45, 45, 45, 45, 45, 45, 45, 45, 45, 45, 45, 45, 45, 45, 45, 45, 45, 45, 45, 45, 45, 45, 45, 45, 45, 45, 45, 45, 45, 45, 45, 45, 45, 45, 45, 45, 45, 45, 45, 45, 45, 45, 45, 45, 45, 45, 45, 45, 45, 45, 45, 45, 45, 45, 45, 45, 45, 45, 45, 45, 45, 45, 45, 45, 45, 45, 45, 45, 45, 45, 45, 45, 45, 45, 45, 45, 45, 45, 45, 45, 45, 45, 45, 45, 45, 45, 45, 45, 45, 45, 45, 45, 45, 45, 45, 45, 45, 45, 45, 45, 45, 45, 45, 45, 45, 45, 45, 45, 45]), a0_s]) w fun t63 w =>
  CN t63
  (SV P (Instr.sliceAt 9 (str [45, 45, 45, 45, 45, 45, 45, 45, 45, 45, 45, 45, 45, 45, 45, 45, 45, 45, 45, 45, 45, 45, 45, 45, 45, 45, 45, 45, 45, 45, 45, 45, 45, 45, 45, 45, 45, 45, 45, 45, 45, 45, 45, 45, 45, 45, 45, 45, 45, 45, 45, 45, 45, 45, 45, 45, 45, 45, 45, 45, 45, 45, 45, 45, 45, 45, 45, 45, 45, 45, 45, 45, 45, 45, 45, 45, 45, 45, 45, 45, 45, 45, 45, 45, 45, 45, 45, 45, 45, 45, 45, 45, 45, 45, 45, 45, 45, 45, 45, 45, 45, 45, 45, 45, 45, 45, 45, 45, 45, 45, 45, 45, 45, 45, 45, 45, 45, 45, 45, 45, 45, 45, 45, 45, 45, 45, 45, 45]) none (some t37) none) w fun t66 w =>
  k t66 w)
  (SV P (binOp .leq 3 t37 (Value.int .i64 64)) w fun t69 w =>
  GD t69 true
  (SN P (callFunc 171 #[(str [48, 48, 48, 48, 48, 48, 48, 48, 48, 48, 48, 48, 48, 48, 48, 48, 48, 48, 48, 48, 48, 48, 48, 48, 48, 48, 48, 48, 48, 48, 48, 48, 48, 48, 48, 48, 48, 48, 48, 48, 48, 48, 48, 48, 48, 48, 48, 48, 48, 48, 48, 48, 48, 48, 48, 48, 48, 48, 48, 48, 48, 48, 48, 48]), a0_s]) w fun t72 w =>
  CN t72
  (SV P (Instr.sliceAt 9 (str [48, 48, 48, 48, 48, 48, 48, 48, 48, 48, 48, 48, 48, 48, 48, 48, 48, 48, 48, 48, 48, 48, 48, 48, 48, 48, 48, 48, 48, 48, 48, 48, 48, 48, 48, 48, 48, 48, 48, 48, 48, 48, 48, 48, 48, 48, 48, 48, 48, 48, 48, 48, 48, 48, 48, 48, 48, 48, 48, 48, 48, 48, 48, 48]) none (some t37) none) w fun t75 w =>
  k t75 w)
  (SV P (binOp .leq 3 t37 (Value.int .i64 128)) w fun t78 w =>
  GD t78 true
  (SN P (callFunc 171 #[(str [61, 61, 61, 61, 61, 61, 61, 61, 61, 61, 61, 61, 61, 61, 61, 61, 61, 61, 61, 61, 61, 61, 61, 61, 61, 61, 61, 61, 61, 61, 61, 61, 61, 61, 61, 61, 61, 61, 61, 61, 61, 61, 61, 61, 61, 61, 61, 61, 61, 61, 61, 61, 61, 61, 61, 61, 61, 61, 61, 61, 61, 61, 61, 61, 61, 61, 61, 61, 61, 61, 61, 61, 61, 61, 61, 61, 61, 61, 61, 61, 61, 61, 61, 61, 61, 61, 61, 61, 61, 61, 61, 61, 61, 61, 61, 61, 61, 61, 61, 61, 61, 61, 61, 61, 61, 61, 61, 61, 61, 61, 61, 61, 61, 61, 61, 61, 61, 61, 61, 61, 61, 61, 61, 61, 61, 61, 61, 61]), a0_s]) w fun t81 w =>
  CN t81
  (SV P (Instr.sliceAt 9 (str [61, 61, 61, 61, 61, 61, 61, 61, 61, 61, 61, 61, 61, 61, 61, 61, 61, 61, 61, 61, 61, 61, 61, 61, 61, 61, 61, 61, 61, 61, 61, 61, 61, 61, 61, 61, 61, 61, 61, 61, 61, 61, 61, 61, 61, 61, 61, 61, 61, 61, 61, 61, 61, 61, 61, 61, 61, 61, 61, 61, 61, 61, 61, 61, 61, 61, 61, 61, 61, 61, 61, 61, 61, 61, 61, 61, 61, 61, 61, 61, 61, 61, 61, 61, 61, 61, 61, 61, 61, 61, 61, 61, 61, 61, 61, 61, 61, 61, 61, 61, 61, 61, 61, 61, 61, 61, 61, 61, 61, 61, 61, 61, 61, 61, 61, 61, 61, 61, 61, 61, 61, 61, 61, 61, 61, 61, 61, 61]) none (some t37) none) w fun t84 w =>
  k t84 w)
  (SV P (binOp .leq 3 t37 (Value.int .i64 64)) w fun t87 w =>
  GD t87 true
  (SN P (callFunc 171 #[(str [9, 9, 9, 9, 9, 9, 9, 9, 9, 9, 9, 9, 9, 9, 9, 9, 9, 9, 9, 9, 9, 9, 9, 9, 9, 9, 9, 9, 9, 9, 9, 9, 9, 9, 9, 9, 9, 9, 9, 9, 9, 9, 9, 9, 9, 9, 9, 9, 9, 9, 9, 9, 9, 9, 9, 9, 9, 9, 9, 9, 9, 9, 9, 9]), a0_s]) w fun t90 w =>
  CN t90
  (SV P (Instr.sliceAt 9 (str [9, 9, 9, 9, 9, 9, 9, 9, 9, 9, 9, 9, 9, 9, 9, 9, 9, 9, 9, 9, 9, 9, 9, 9, 9, 9, 9, 9, 9, 9, 9, 9, 9, 9, 9, 9, 9, 9, 9, 9, 9, 9, 9, 9, 9, 9, 9, 9, 9, 9, 9, 9, 9, 9, 9, 9, 9, 9, 9, 9, 9, 9, 9, 9]) none (some t37) none) w fun t93 w =>
  k t93 w)
  (j [t43] w))
  (j [t43] w)))
  (SV P (binOp .leq 3 t37 (Value.int .i64 64)) w fun t87 w =>
  GD t87 true
  (SN P (callFunc 171 #[(str [9, 9, 9, 9, 9, 9, 9, 9, 9, 9, 9, 9, 9, 9, 9, 9, 9, 9, 9, 9, 9, 9, 9, 9, 9, 9, 9, 9, 9, 9, 9, 9, 9, 9, 9, 9, 9, 9, 9, 9, 9, 9, 9, 9, 9, 9, 9, 9, 9, 9, 9, 9, 9, 9, 9, 9, 9, 9, 9, 9, 9, 9, 9, 9]), a0_s]) w fun t90 w =>
  CN t90
  (SV P (Instr.sliceAt 9 (str [9, 9, 9, 9, 9, 9, 9, 9, 9, 9, 9, 9, 9, 9, 9, 9, 9, 9, 9, 9, 9, 9, 9, 9, 9, 9, 9, 9, 9, 9, 9, 9, 9, 9, 9, 9, 9, 9, 9, 9, 9, 9, 9, 9, 9, 9, 9, 9, 9, 9, 9, 9, 9, 9, 9, 9, 9, 9, 9, 9, 9, 9, 9, 9]) none (some t37) none) w fun t93 w =>
  k t93 w)
  (j [t43] w))
  (j [t43] w))))
  (SV P (binOp .leq 3 t37 (Value.int .i64 128)) w fun t78 w =>
  GD t78 true
  (SN P (callFunc 171 #[(str [61, 61, 61, 61, 61, 61, 61, 61, 61, 61, 61, 61, 61, 61, 61, 61, 61, 61, 61, 61, 61, 61, 61, 61, 61, 61, 61, 61, 61, 61, 61, 61, 61, 61, 61, 61, 61, 61, 61, 61, 61, 61, 61, 61, 61, 61, 61, 61, 61, 61, 61, 61, 61, 61, 61, 61, 61, 61, 61, 61, 61, 61, 61, 61, 61, 61, 61, 61, 61, 61, 61, 61, 61, 61, 61, 61, 61, 61, 61, 61, 61, 61, 61, 61, 61, 61, 61, 61, 61, 61, 61, 61, 61, 61, 61, 61, 61, 61, 61, 61, 61, 61, 61, 61, 61, 61, 61, 61, 61, 61, 61, 61, 61, 61, 61, 61, 61, 61, 61, 61, 61, 61, 61, 61, 61, 61, 61, 61]), a0_s]) w fun t81 w =>
  CN t81
  (SV P (Instr.sliceAt 9 (str [61, 61, 61, 61, 61, 61, 61, 61, 61, 61, 61, 61, 61, 61, 61, 61, 61, 61, 61, 61, 61, 61, 61, 61, 61, 61, 61, 61, 61, 61, 61, 61, 61, 61, 61, 61, 61, 61, 61, 61, 61, 61, 61, 61, 61, 61, 61, 61, 61, 61, 61, 61, 61, 61, 61, 61, 61, 61, 61, 61, 61, 61, 61, 61, 61, 61, 61, 61, 61, 61, 61, 61, 61, 61, 61, 61, 61, 61, 61, 61, 61, 61, 61, 61, 61, 61, 61, 61, 61, 61, 61, 61, 61, 61, 61, 61, 61, 61, 61, 61, 61, 61, 61, 61, 61, 61, 61, 61, 61, 61, 61, 61, 61, 61, 61, 61, 61, 61, 61, 61, 61, 61, 61, 61, 61, 61, 61, 61]) none (some t37) none) w fun t84 w =>
  k t84 w)
  (SV P (binOp .leq 3 t37 (Value.int .i64 64)) w fun t87 w =>
  GD t87 true
  (SN P (callFunc 171 #[(str [9, 9, 9, 9, 9, 9, 9, 9, 9, 9, 9, 9, 9, 9, 9, 9, 9, 9, 9, 9, 9, 9, 9, 9, 9, 9, 9, 9, 9, 9, 9, 9, 9, 9, 9, 9, 9, 9, 9, 9, 9, 9, 9, 9, 9, 9, 9, 9, 9, 9, 9, 9, 9, 9, 9, 9, 9, 9, 9, 9, 9, 9, 9, 9]), a0_s]) w fun t90 w =>
  CN t90
  (SV P (Instr.sliceAt 9 (str [9, 9, 9, 9, 9, 9, 9, 9, 9, 9, 9, 9, 9, 9, 9, 9, 9, 9, 9, 9, 9, 9, 9, 9, 9, 9, 9, 9, 9, 9, 9, 9, 9, 9, 9, 9, 9, 9, 9, 9, 9, 9, 9, 9, 9, 9, 9, 9, 9, 9, 9, 9, 9, 9, 9, 9, 9, 9, 9, 9, 9, 9, 9, 9]) none (some t37) none) w fun t93 w =>
  k t93 w)
  (j [t43] w))
  (j [t43] w)))
  (SV P (binOp .leq 3 t37 (Value.int .i64 64)) w fun t87 w =>
  GD t87 true
  (SN P (callFunc 171 #[(str [9, 9, 9, 9, 9, 9, 9, 9, 9, 9, 9, 9, 9, 9, 9, 9, 9, 9, 9, 9, 9, 9, 9, 9, 9, 9, 9, 9, 9, 9, 9, 9, 9, 9, 9, 9, 9, 9, 9, 9, 9, 9, 9, 9, 9, 9, 9, 9, 9, 9, 9, 9, 9, 9, 9, 9, 9, 9, 9, 9, 9, 9, 9, 9]), a0_s]) w fun t90 w =>
  CN t90
  (SV P (Instr.sliceAt 9 (str [9, 9, 9, 9, 9, 9, 9, 9, 9, 9, 9, 9, 9, 9, 9, 9, 9, 9, 9, 9, 9, 9, 9, 9, 9, 9, 9, 9, 9, 9, 9, 9, 9, 9, 9, 9, 9, 9, 9, 9, 9, 9, 9, 9, 9, 9, 9, 9, 9, 9, 9, 9, 9, 9, 9, 9, 9, 9, 9, 9, 9, 9, 9, 9]) none (some t37) none) w fun t93 w =>
  k t93 w)
  (j [t43] w))
  (j [t43] w)))))
  (SV P (binOp .leq 3 t37 (Value.int .i64 64)) w fun t69 w =>
  GD t69 true
  (SN P (callFunc 171 #[(str [48, 48, 48, 48, 48, 48, 48, 48, 48, 48, 48, 48, 48, 48, 48, 48, 48, 48, 48, 48, 48, 48, 48, 48, 48, 48, 48, 48, 48, 48, 48, 48, 48, 48, 48, 48, 48, 48, 48, 48, 48, 48, 48, 48, 48, 48, 48, 48, 48, 48, 48, 48, 48, 48, 48, 48, 48, 48, 48, 48, 48, 48, 48, 48]), a0_s]) w fun t72 w =>
  CN t72
  (SV P (Instr.sliceAt 9 (str [48, 48, 48, 48, 48, 48, 48, 48, 48, 48, 48, 48, 48, 48, 48, 48, 48, 48, 48, 48, 48, 48, 48, 48, 48, 48, 48, 48, 48, 48, 48, 48, 48, 48, 48, 48, 48, 48, 48, 48, 48, 48, 48, 48, 48, 48, 48, 48, 48, 48, 48, 48, 48, 48, 48, 48, 48, 48, 48, 48, 48, 48, 48, 48]) none (some t37) none) w fun t75 w =>
  k t75 w)
  (SV P (binOp .leq 3 t37 (Value.int .i64 128)) w fun t78 w =>
  GD t78 true
  (SN P (callFunc 171 #[(str [61, 61, 61, 61, 61, 61, 61, 61, 61, 61, 61, 61, 61, 61, 61, 61, 61, 61, 61, 61, 61, 61, 61, 61, 61, 61, 61, 61, 61, 61, 61, 61, 61, 61, 61, 61, 61, 61, 61, 61, 61, 61, 61, 61, 61, 61, 61, 61, 61, 61, 61, 61, 61, 61, 61, 61, 61, 61, 61, 61, 61, 61, 61, 61, 61, 61, 61, 61, 61, 61, 61, 61, 61, 61, 61, 61, 61, 61, 61, 61, 61, 61, 61, 61, 61, 61, 61, 61, 61, 61, 61, 61, 61, 61, 61, 61, 61, 61, 61, 61, 61, 61, 61, 61, 61, 61, 61, 61, 61, 61, 61, 61, 61, 61, 61, 61, 61, 61, 61, 61, 61, 61, 61, 61, 61, 61, 61, 61]), a0_s]) w fun t81 w =>
  CN t81
  (SV P (Instr.sliceAt 9 (str [61, 61, 61, 61, 61, 61, 61, 61, 61, 61, 61, 61, 61, 61, 61, 61, 61, 61, 61, 61, 61, 61, 61, 61, 61, 61, 61, 61, 61, 61, 61, 61, 61, 61, 61, 61, 61, 61, 61, 61, 61, 61, 61, 61, 61, 61, 61, 61, 61, 61, 61, 61, 61, 61, 61, 61, 61, 61, 61, 61, 61, 61, 61, 61, 61, 61, 61, 61, 61, 61, 61, 61, 61, 61, 61, 61, 61, 61, 61, 61, 61, 61, 61, 61, 61, 61, 61, 61, 61, 61, 61, 61, 61, 61, 61, 61, 61, 61, 61, 61, 61, 61, 61, 61, 61, 61, 61, 61, 61, 61, 61, 61, 61, 61, 61, 61, 61, 61, 61, 61, 61, 61, 61, 61, 61, 61, 61, 61]) none (some t37) none) w fun t84 w =>
  k t84 w)
  (SV P (binOp .leq 3 t37 (Value.int .i64 64)) w fun t87 w =>
  GD t87 true
  (SN P (callFunc 171 #[(str [9, 9, 9, 9, 9, 9, 9, 9, 9, 9, 9, 9, 9, 9, 9, 9, 9, 9, 9, 9, 9, 9, 9, 9, 9, 9, 9, 9, 9, 9, 9, 9, 9, 9, 9, 9, 9, 9, 9, 9, 9, 9, 9, 9, 9, 9, 9, 9, 9, 9, 9, 9, 9, 9, 9, 9, 9, 9, 9, 9, 9, 9, 9, 9]), a0_s]) w fun t90 w =>
  CN t90
  (SV P (Instr.sliceAt 9 (str [9, 9, 9, 9, 9, 9, 9, 9, 9, 9, 9, 9, 9, 9, 9, 9, 9, 9, 9, 9, 9, 9, 9, 9, 9, 9, 9, 9, 9, 9, 9, 9, 9, 9, 9, 9, 9, 9, 9, 9, 9, 9, 9, 9, 9, 9, 9, 9, 9, 9, 9, 9, 9, 9, 9, 9, 9, 9, 9, 9, 9, 9, 9, 9]) none (some t37) none) w fun t93 w =>
  k t93 w)
  (j [t43] w))
  (j [t43] w)))
  (SV P (binOp .leq 3 t37 (Value.int .i64 64)) w fun t87 w =>
  GD t87 true
  (SN P (callFunc 171 #[(str [9, 9, 9, 9, 9, 9, 9, 9, 9, 9, 9, 9, 9, 9, 9, 9, 9, 9, 9, 9, 9, 9, 9, 9, 9, 9, 9, 9, 9, 9, 9, 9, 9, 9, 9, 9, 9, 9, 9, 9, 9, 9, 9, 9, 9, 9, 9, 9, 9, 9, 9, 9, 9, 9, 9, 9, 9, 9, 9, 9, 9, 9, 9, 9]), a0_s]) w fun t90 w =>
  CN t90
  (SV P (Instr.sliceAt 9 (str [9, 9, 9, 9, 9, 9, 9, 9, 9, 9, 9, 9, 9, 9, 9, 9, 9, 9, 9, 9, 9, 9, 9, 9, 9, 9, 9, 9, 9, 9, 9, 9, 9, 9, 9, 9, 9, 9, 9, 9, 9, 9, 9, 9, 9, 9, 9, 9, 9, 9, 9, 9, 9, 9, 9, 9, 9, 9, 9, 9, 9, 9, 9, 9]) none (some t37) none) w fun t93 w =>
  k t93 w)
  (j [t43] w))
  (j [t43] w))))
  (SV P (binOp .leq 3 t37 (Value.int .i64 128)) w fun t78 w =>
  GD t78 true
  (SN P (callFunc 171 #[(str [61, 61, 61, 61, 61, 61, 61, 61, 61, 61, 61, 61, 61, 61, 61, 61, 61, 61, 61, 61, 61, 61, 61, 61, 61, 61, 61, 61, 61, 61, 61, 61, 61, 61, 61, 61, 61, 61, 61, 61, 61, 61, 61, 61, 61, 61, 61, 61, 61, 61, 61, 61, 61, 61, 61, 61, 61, 61, 61, 61, 61, 61, 61, 61, 61, 61, 61, 61, 61, 61, 61, 61, 61, 61, 61, 61, 61, 61, 61, 61, 61, 61, 61, 61, 61, 61, 61, 61, 61, 61, 61, 61, 61, 61, 61, 61, 61, 61, 61, 61, 61, 61, 61, 61, 61, 61, 61, 61, 61, 61, 61, 61, 61, 61, 61, 61, 61, 61, 61, 61, 61, 61, 61, 61, 61, 61, 61, 61]), a0_s]) w fun t81 w =>
  CN t81
  (SV P (Instr.sliceAt 9 (str [61, 61, 61, 61, 61, 61, 61, 61, 61, 61, 61, 61, 61, 61, 61, 61, 61, 61, 61, 61, 61, 61, 61, 61, 61, 61, 61, 61, 61, 61, 61, 61, 61, 61, 61, 61, 61, 61, 61, 61, 61, 61, 61, 61, 61, 61, 61, 61, 61, 61, 61, 61, 61, 61, 61, 61, 61, 61, 61, 61, 61, 61, 61, 61, 61, 61, 61, 61, 61, 61, 61, 61, 61, 61, 61, 61, 61, 61, 61, 61, 61, 61, 61, 61, 61, 61, 61, 61, 61, 61, 61, 61, 61, 61, 61, 61, 61, 61, 61, 61, 61, 61, 61, 61, 61, 61, 61, 61, 61, 61, 61, 61, 61, 61, 61, 61, 61, 61, 61, 61, 61, 61, 61, 61, 61, 61, 61, 61]) none (some t37) none) w fun t84 w =>
  k t84 w)
  (SV P (binOp .leq 3 t37 (Value.int .i64 64)) w fun t87 w =>
  GD t87 true
  (SN P (callFunc 171 #[(str [9, 9, 9, 9, 9, 9, 9, 9, 9, 9, 9, 9, 9, 9, 9, 9, 9, 9, 9, 9, 9, 9, 9, 9, 9, 9, 9, 9, 9, 9, 9, 9, 9, 9, 9, 9, 9, 9, 9, 9, 9, 9, 9, 9, 9, 9, 9, 9, 9, 9, 9, 9, 9, 9, 9, 9, 9, 9, 9, 9, 9, 9, 9, 9]), a0_s]) w fun t90 w =>
  CN t90
  (SV P (Instr.sliceAt 9 (str [9, 9, 9, 9, 9, 9, 9, 9, 9, 9, 9, 9, 9, 9, 9, 9, 9, 9, 9, 9, 9, 9, 9, 9, 9, 9, 9, 9, 9, 9, 9, 9, 9, 9, 9, 9, 9, 9, 9, 9, 9, 9, 9, 9, 9, 9, 9, 9, 9, 9, 9, 9, 9, 9, 9, 9, 9, 9, 9, 9, 9, 9, 9, 9]) none (some t37) none) w fun t93 w =>
  k t93 w)
  (j [t43] w))
  (j [t43] w)))
  (SV P (binOp .leq 3 t37 (Value.int .i64 64)) w fun t87 w =>
  GD t87 true
  (SN P (callFunc 171 #[(str [9, 9, 9, 9, 9, 9, 9, 9, 9, 9, 9, 9, 9, 9, 9, 9, 9, 9, 9, 9, 9, 9, 9, 9, 9, 9, 9, 9, 9, 9, 9, 9, 9, 9, 9, 9, 9, 9, 9, 9, 9, 9, 9, 9, 9, 9, 9, 9, 9, 9, 9, 9, 9, 9, 9, 9, 9, 9, 9, 9, 9, 9, 9, 9]), a0_s]) w fun t90 w =>
  CN t90
  (SV P (Instr.sliceAt 9 (str [9, 9, 9, 9, 9, 9, 9, 9, 9, 9, 9, 9, 9, 9, 9, 9, 9, 9, 9, 9, 9, 9, 9, 9, 9, 9, 9, 9, 9, 9, 9, 9, 9, 9, 9, 9, 9, 9, 9, 9, 9, 9, 9, 9, 9, 9, 9, 9, 9, 9, 9, 9, 9, 9, 9, 9, 9, 9, 9, 9, 9, 9, 9, 9]) none (some t37) none) w fun t93 w =>
  k t93 w)
  (j [t43] w))
  (j [t43] w))))))
  (j [t43] w)

def s242_l1 (P : Program) (k : Value → World → Prop) (t37 : Value) (chunkMax8 : Value) (b9 : Value) (next : List Value → World → Prop) (w : World) : Prop :=
  SN P (callFunc 273 #[b9]) w fun t111 w =>
  SV P (binOp .lss 3 t111 t37) w fun t113 w =>
  CN t113
  (SN P (callFunc 273 #[b9]) w fun t115 w =>
  SV P (binOp .sub 3 t37 t115) w fun t116 w =>
  SN P (callFunc 273 #[b9]) w fun t117 w =>
  SV P (Builtin.min_ #[3, 3, 3] 3 #[t116, t117, chunkMax8]) w fun t119 w =>
  SN P (callFunc 165 #[b9]) w fun t120 w =>
  SV P (Instr.sliceAt 9 t120 none (some t119) none) w fun t122 w =>
  SN P (callFunc 162 #[b9, t122]) w fun _ w =>
  next [] w)
  (SN P (callFunc 165 #[b9]) w fun t124 w =>
  k t124 w)

def s242_j2 (P : Program) (k : Value → World → Prop) (a0_s : Value) (t37 : Value) (chunkMax8 : Value) (w : World) : Prop :=
  SV P (Instr.alloc 217 true (.tuple #[])) w fun b9 w =>
  SN P (callFunc 261 #[b9, t37]) w fun _ w =>
  SN P (callFunc 162 #[b9, a0_s]) w fun _ w =>
  LP 0 [] w (fun next _ _ w => s242_l1 P k t37 chunkMax8 b9 next w)

def s242_j3 (P : Program) (k : Value → World → Prop) (a0_s : Value) (t37 : Value) (w : World) : Prop :=
  JP 1 (fun j =>
  SV P (binOp .gtr 3 t37 (Value.int .i64 8192)) w fun t96 w =>
  CN t96
  (SV P (Builtin.len_ #[9] 3 #[a0_s]) w fun t98 w =>
  SV P (binOp .quo 3 (Value.int .i64 8192) t98) w fun t99 w =>
  SV P (Builtin.len_ #[9] 3 #[a0_s]) w fun t101 w =>
  SV P (binOp .mul 3 t99 t101) w fun t102 w =>
  SV P (eqS .eql 3 (.tmp 103) (.const (Value.int .i64 0)) t102 (Value.int .i64 0)) w fun t104 w =>
  CN t104
  (SV P (Builtin.len_ #[9] 3 #[a0_s]) w fun t106 w =>
  j [t106] w)
  (j [t102] w))
  (j [t37] w))
  (fun _ us w => s242_j2 P k a0_s t37 (us.getD 0 undef) w)

def s242_j4 (P : Program) (k : Value → World → Prop) (a0_s : Value) (t28 : Value) (w : World) : Prop :=
  SV P (convert 121 3 t28) w fun t37 w =>
  SV P (Builtin.len_ #[9] 3 #[a0_s]) w fun t39 w =>
  SV P (eqS .eql 3 (.tmp 39) (.const (Value.int .i64 0)) t39 (Value.int .i64 0)) w fun t40 w =>
  CN t40
  (k (str []) w)
  (JP 1 (fun j =>
  SV P (Instr.index 9 a0_s (Value.int .i64 0)) w fun t42 w =>
  JP 1 (fun j_1 =>
  SV P (eqS .eql 5 (.tmp 42) (.const (Value.int .u8 32)) t42 (Value.int .u8 32)) w fun t44 w =>
  CN t44
  (j_1 [t44] w)
  (SV P (eqS .eql 5 (.tmp 42) (.const (Value.int .u8 45)) t42 (Value.int .u8 45)) w fun t45 w =>
  CN t45
  (j_1 [t45] w)
  (SV P (eqS .eql 5 (.tmp 42) (.const (Value.int .u8 48)) t42 (Value.int .u8 48)) w fun t46 w =>
  CN t46
  (j_1 [t46] w)
  (SV P (eqS .eql 5 (.tmp 42) (.const (Value.int .u8 61)) t42 (Value.int .u8 61)) w fun t47 w =>
  CN t47
  (j_1 [t47] w)
  (SV P (eqS .eql 5 (.tmp 42) (.const (Value.int .u8 9)) t42 (Value.int .u8 9)) w fun t48 w =>
  j_1 [t48] w)))))
  (fun _ us w => s242_j1 P k a0_s t37 j (us.getD 0 undef) w))
  (fun _ _ w => s242_j3 P k a0_s t37 w))

def s242_j5 (P : Program) (k : Value → World → Prop) (a0_s : Value) (a1_count : Value) (w : World) : Prop :=
  SV P (Builtin.len_ #[9] 3 #[a0_s]) w fun t22 w =>
  SV P (convert 3 121 t22) w fun t23 w =>
  SV P (convert 3 121 a1_count) w fun t25 w =>
  SN P (callFunc 272 #[t23, t25]) w fun t26 w =>
  SV P (Instr.extract t26 0) w fun t27 w =>
  SV P (Instr.extract t26 1) w fun t28 w =>
  JP 0 (fun j =>
  SV P (binOp .gtr 121 t27 (Value.int .u64 0)) w fun t30 w =>
  GD t30 false
  (SV P (binOp .gtr 121 t28 (Value.int .u64 9223372036854775807)) w fun t33 w =>
  CN t33
  (SV P (Instr.makeInterface 9 (str [115, 116, 114, 105, 110, 103, 115, 58, 32, 82, 101, 112, 101, 97, 116, 32, 111, 117, 116, 112, 117, 116, 32, 108, 101, 110, 103, 116, 104, 32, 111, 118, 101, 114, 102, 108, 111, 119])) w fun _ w =>
  False)
  (j [] w))
  (SV P (Instr.makeInterface 9 (str [115, 116, 114, 105, 110, 103, 115, 58, 32, 82, 101, 112, 101, 97, 116, 32, 111, 117, 116, 112, 117, 116, 32, 108, 101, 110, 103, 116, 104, 32, 111, 118, 101, 114, 102, 108, 111, 119])) w fun _ w =>
  False))
  (fun _ _ w => s242_j4 P k a0_s t28 w)

def s242 (P : Program) (k : Value → World → Prop) (a0_s : Value) (a1_count : Value) (w : World) : Prop :=
  SV P (eqS .eql 3 (.tmp 11) (.const (Value.int .i64 0)) a1_count (Value.int .i64 0)) w fun t13 w =>
  CN t13
  (k (str []) w)
  (SV P (eqS .eql 3 (.tmp 11) (.const (Value.int .i64 1)) a1_count (Value.int .i64 1)) w fun t15 w =>
  CN t15
  (k a0_s w)
  (JP 0 (fun j =>
  SV P (binOp .lss 3 a1_count (Value.int .i64 0)) w fun t18 w =>
  CN t18
  (SV P (Instr.makeInterface 9 (str [115, 116, 114, 105, 110, 103, 115, 58, 32, 110, 101, 103, 97, 116, 105, 118, 101, 32, 82, 101, 112, 101, 97, 116, 32, 99, 111, 117, 110, 116])) w fun _ w =>
  False)
  (j [] w))
  (fun _ _ w => s242_j5 P k a0_s a1_count w)))

theorem e242 (k : Value → World → Prop) (a0_s a1_count : Value) (w : World) : s242 Tryz.prog k a0_s a1_count w = vcF Tryz.prog Tryz.f242 [8, 43] [a0_s, a1_count] k w := by kernel_rfl
theorem c242 {k : Value → World → Prop} {a0_s a1_count : Value} {w : World} (h : s242 Tryz.prog k a0_s a1_count w) : Calls Tryz.prog 242 #[a0_s, a1_count] w (retP k) :=
  calls_of_vcF [8, 43] mixedXStrings Tryz.func242 (by kernel_rfl) (Eq.mp (e242 k a0_s a1_count w) h)
theorem n242 {args : Array Value} {w : World} {k : Value → World → Prop} (h : Calls Tryz.prog 242 args w (retP k)) : SN Tryz.prog (callFunc 242 args) w k := sn_call Tryz.func242 (by kernel_rfl) (by kernel_rfl) h

/-! ### 261: (*strings.Builder).Grow -/

def s261_j1 (P : Program) (k : Value → World → Prop) (a0_b : Value) (a1_n : Value) (w : World) : Prop :=
  HR w fun C w =>
  HV P C (nilS a0_b) fun t10 =>
  HV P C (Instr.fieldAt 217 t10 1) fun t11 =>
  HV P C (Instr.loadAt 151 t11) fun t12 =>
  HV P C (Builtin.cap_ #[151] 3 #[t12]) fun t13 =>
  HV P C (nilS a0_b) fun t15 =>
  HV P C (Instr.fieldAt 217 t15 1) fun t16 =>
  HV P C (Instr.loadAt 151 t16) fun t17 =>
  HV P C (Builtin.len_ #[151] 3 #[t17]) fun t18 =>
  HV P C (binOp .sub 3 t13 t18) fun t19 =>
  HV P C (binOp .lss 3 t19 a1_n) fun t21 =>
  CN t21
  (SN P (callFunc 288 #[a0_b, a1_n]) w fun _ w =>
  k (.tuple #[]) w)
  (k (.tuple #[]) w)

def s261 (P : Program) (k : Value → World → Prop) (a0_b : Value) (a1_n : Value) (w : World) : Prop :=
  SN P (callFunc 240 #[a0_b]) w fun _ w =>
  JP 0 (fun j =>
  SV P (binOp .lss 3 a1_n (Value.int .i64 0)) w fun t7 w =>
  CN t7
  (SV P (Instr.makeInterface 9 (str [115, 116, 114, 105, 110, 103, 115, 46, 66, 117, 105, 108, 100, 101, 114, 46, 71, 114, 111, 119, 58, 32, 110, 101, 103, 97, 116, 105, 118, 101, 32, 99, 111, 117, 110, 116])) w fun _ w =>
  False)
  (j [] w))
  (fun _ _ w => s261_j1 P k a0_b a1_n w)

theorem e261 (k : Value → World → Prop) (a0_b a1_n : Value) (w : World) : s261 Tryz.prog k a0_b a1_n w = vcF Tryz.prog Tryz.f261 [] [a0_b, a1_n] k w := by kernel_rfl
theorem c261 {k : Value → World → Prop} {a0_b a1_n : Value} {w : World} (h : s261 Tryz.prog k a0_b a1_n w) : Calls Tryz.prog 261 #[a0_b, a1_n] w (retP k) :=
  calls_of_vcF [] mixedXStrings Tryz.func261 (by kernel_rfl) (Eq.mp (e261 k a0_b a1_n w) h)
theorem n261 {args : Array Value} {w : World} {k : Value → World → Prop} (h : Calls Tryz.prog 261 args w (retP k)) : SN Tryz.prog (callFunc 261 args) w k := sn_call Tryz.func261 (by kernel_rfl) (by kernel_rfl) h

/-! ### 273: (*strings.Builder).Len -/

def s273 (P : Program) (k : Value → World → Prop) (a0_b : Value) (w : World) : Prop :=
  SV P (nilS a0_b) w fun t4 w =>
  SV P (Instr.fieldAt 217 t4 1) w fun t5 w =>
  SV P (Instr.loadAt 151 t5) w fun t6 w =>
  SV P (Builtin.len_ #[151] 3 #[t6]) w fun t7 w =>
  k t7 w

theorem e273 (k : Value → World → Prop) (a0_b : Value) (w : World) : s273 Tryz.prog k a0_b w = vcF Tryz.prog Tryz.f273 [] [a0_b] k w := by kernel_rfl
theorem c273 {k : Value → World → Prop} {a0_b : Value} {w : World} (h : s273 Tryz.prog k a0_b w) : Calls Tryz.prog 273 #[a0_b] w (retP k) :=
  calls_of_vcF [] mixedXStrings Tryz.func273 (by kernel_rfl) (Eq.mp (e273 k a0_b w) h)
theorem n273 {args : Array Value} {w : World} {k : Value → World → Prop} (h : Calls Tryz.prog 273 args w (retP k)) : SN Tryz.prog (callFunc 273 args) w k := sn_call Tryz.func273 (by kernel_rfl) (by kernel_rfl) h

/-! ### 288: (*strings.Builder).grow -/

def s288 (P : Program) (k : Value → World → Prop) (a0_b : Value) (a1_n : Value) (w : World) : Prop :=
  HR w fun C w =>
  HV P C (nilS a0_b) fun t6 =>
  HV P C (Instr.fieldAt 217 t6 1) fun t7 =>
  HV P C (Instr.loadAt 151 t7) fun t8 =>
  HV P C (Builtin.cap_ #[151] 3 #[t8]) fun t9 =>
  HV P C (binOp .mul 3 (Value.int .i64 2) t9) fun t10 =>
  HV P C (binOp .add 3 t10 a1_n) fun t12 =>
  SN P (callFunc 304 #[t12]) w fun t13 w =>
  RS C w fun C =>
  HV P C (nilS a0_b) fun t15 =>
  HV P C (Instr.fieldAt 217 t15 1) fun t16 =>
  HV P C (Instr.loadAt 151 t16) fun t17 =>
  HV P C (Builtin.len_ #[151] 3 #[t17]) fun t18 =>
  HV P C (Instr.sliceAt 151 t13 none (some t18) none) fun t19 =>
  SV P (nilS a0_b) w fun t22 w =>
  SV P (Instr.fieldAt 217 t22 1) w fun t23 w =>
  SV P (Instr.loadAt 151 t23) w fun t24 w =>
  SV P (Builtin.copy_ #[151, 151] 3 #[t19, t24]) w fun _ w =>
  SV P (nilS a0_b) w fun t28 w =>
  SV P (Instr.fieldAt 217 t28 1) w fun t29 w =>
  SU P (Instr.storeAt 151 t29 t19) w fun w =>
  k (.tuple #[]) w

theorem e288 (k : Value → World → Prop) (a0_b a1_n : Value) (w : World) : s288 Tryz.prog k a0_b a1_n w = vcF Tryz.prog Tryz.f288 [] [a0_b, a1_n] k w := by kernel_rfl
theorem c288 {k : Value → World → Prop} {a0_b a1_n : Value} {w : World} (h : s288 Tryz.prog k a0_b a1_n w) : Calls Tryz.prog 288 #[a0_b, a1_n] w (retP k) :=
  calls_of_vcF [] mixedXStrings Tryz.func288 (by kernel_rfl) (Eq.mp (e288 k a0_b a1_n w) h)
theorem n288 {args : Array Value} {w : World} {k : Value → World → Prop} (h : Calls Tryz.prog 288 args w (retP k)) : SN Tryz.prog (callFunc 288 args) w k := sn_call Tryz.func288 (by kernel_rfl) (by kernel_rfl) h

end Go.Proofs.YtkdghnbogkbedaaGreatDoor
