/-
  For each function: the condition that its code comes to, and that it is enough. Printed by sh.py (a program of this work).
-/
import Derived.Test.YtkdghnbogkbedaaGreatDoorProg
import Derived.Test.YtkdghnbogkbedaaGreatDoorTypes
namespace Go.Proofs.YtkdghnbogkbedaaGreatDoor
open Go Go.Sh
set_option maxRecDepth 100000


theorem mixedXSlices : Tryz.prog.follows .mixedOrders = true := by kernel_rfl

/-! ### 79: slices.IndexFunc[[]scrinium/api.Freeze,scrinium/api.Freeze] -/

def s79_l1 (P : Program) (k : Value → World → Prop) (a0_s : Value) (a1_f : Value) (t7 : Value) (t8 : Value) (next : List Value → World → Prop) (w : World) : Prop :=
  SV P (binOp .lss 3 t8 t7) w fun t9 w =>
  CN t9
  (SV P (Instr.indexAt 23 a0_s t8) w fun t14 w =>
  SV P (Instr.loadAt 31 t14) w fun t15 w =>
  SN P (callV a1_f #[t15]) w fun t16 w =>
  CN t16
  (k t8 w)
  (SV P (binOp .add 3 t8 (Value.int .i64 1)) w fun t18 w =>
  next [t18] w))
  (k (Value.int .i64 (-1)) w)

def s79 (P : Program) (k : Value → World → Prop) (a0_s : Value) (a1_f : Value) (w : World) : Prop :=
  SV P (Builtin.len_ #[23] 3 #[a0_s]) w fun t7 w =>
  LP 1 [(Value.int .i64 0)] w (fun next _ us w => s79_l1 P k a0_s a1_f t7 (us.getD 0 undef) next w)

theorem e79 (k : Value → World → Prop) (a0_s a1_f : Value) (w : World) : s79 Tryz.prog k a0_s a1_f w = vcF Tryz.prog Tryz.f79 [8] [a0_s, a1_f] k w := by kernel_rfl
theorem c79 {k : Value → World → Prop} {a0_s a1_f : Value} {w : World} (h : s79 Tryz.prog k a0_s a1_f w) : Calls Tryz.prog 79 #[a0_s, a1_f] w (retP k) :=
  calls_of_vcF [8] mixedXSlices Tryz.func79 (by kernel_rfl) (Eq.mp (e79 k a0_s a1_f w) h)
theorem n79 {args : Array Value} {w : World} {k : Value → World → Prop} (h : Calls Tryz.prog 79 args w (retP k)) : SN Tryz.prog (callFunc 79 args) w k := sn_call Tryz.func79 (by kernel_rfl) (by kernel_rfl) h

/-! ### 85: slices.Clone[[]scrinium/api.Freeze,scrinium/api.Freeze] -/

def s85 (P : Program) (k : Value → World → Prop) (a0_s : Value) (w : World) : Prop :=
  SV P (eqS .eql 23 (.tmp 3) (.const (Value.slice none 0 0)) a0_s (Value.slice none 0 0)) w fun t4 w =>
  CN t4
  (k (Value.slice none 0 0) w)
  (SV P (Instr.buildSlice 23 0 #[]) w fun t5 w =>
  SV P (Builtin.append_ #[23, 23] 23 #[t5, a0_s]) w fun t7 w =>
  k t7 w)

theorem e85 (k : Value → World → Prop) (a0_s : Value) (w : World) : s85 Tryz.prog k a0_s w = vcF Tryz.prog Tryz.f85 [] [a0_s] k w := by kernel_rfl
theorem c85 {k : Value → World → Prop} {a0_s : Value} {w : World} (h : s85 Tryz.prog k a0_s w) : Calls Tryz.prog 85 #[a0_s] w (retP k) :=
  calls_of_vcF [] mixedXSlices Tryz.func85 (by kernel_rfl) (Eq.mp (e85 k a0_s w) h)
theorem n85 {args : Array Value} {w : World} {k : Value → World → Prop} (h : Calls Tryz.prog 85 args w (retP k)) : SN Tryz.prog (callFunc 85 args) w k := sn_call Tryz.func85 (by kernel_rfl) (by kernel_rfl) h

/-! ### 88: slices.Clone[[]scrinium/api.Sum,scrinium/api.Sum] -/

def s88 (P : Program) (k : Value → World → Prop) (a0_s : Value) (w : World) : Prop :=
  SV P (eqS .eql 24 (.tmp 3) (.const (Value.slice none 0 0)) a0_s (Value.slice none 0 0)) w fun t4 w =>
  CN t4
  (k (Value.slice none 0 0) w)
  (SV P (Instr.buildSlice 24 0 #[]) w fun t5 w =>
  SV P (Builtin.append_ #[24, 24] 24 #[t5, a0_s]) w fun t7 w =>
  k t7 w)

theorem e88 (k : Value → World → Prop) (a0_s : Value) (w : World) : s88 Tryz.prog k a0_s w = vcF Tryz.prog Tryz.f88 [] [a0_s] k w := by kernel_rfl
theorem c88 {k : Value → World → Prop} {a0_s : Value} {w : World} (h : s88 Tryz.prog k a0_s w) : Calls Tryz.prog 88 #[a0_s] w (retP k) :=
  calls_of_vcF [] mixedXSlices Tryz.func88 (by kernel_rfl) (Eq.mp (e88 k a0_s w) h)
theorem n88 {args : Array Value} {w : World} {k : Value → World → Prop} (h : Calls Tryz.prog 88 args w (retP k)) : SN Tryz.prog (callFunc 88 args) w k := sn_call Tryz.func88 (by kernel_rfl) (by kernel_rfl) h

/-! ### 122: slices.Clone[[]scrinium/api.Record,scrinium/api.Record] -/

def s122 (P : Program) (k : Value → World → Prop) (a0_s : Value) (w : World) : Prop :=
  SV P (eqS .eql 72 (.tmp 3) (.const (Value.slice none 0 0)) a0_s (Value.slice none 0 0)) w fun t4 w =>
  CN t4
  (k (Value.slice none 0 0) w)
  (SV P (Instr.buildSlice 72 0 #[]) w fun t5 w =>
  SV P (Builtin.append_ #[72, 72] 72 #[t5, a0_s]) w fun t7 w =>
  k t7 w)

theorem e122 (k : Value → World → Prop) (a0_s : Value) (w : World) : s122 Tryz.prog k a0_s w = vcF Tryz.prog Tryz.f122 [] [a0_s] k w := by kernel_rfl
theorem c122 {k : Value → World → Prop} {a0_s : Value} {w : World} (h : s122 Tryz.prog k a0_s w) : Calls Tryz.prog 122 #[a0_s] w (retP k) :=
  calls_of_vcF [] mixedXSlices Tryz.func122 (by kernel_rfl) (Eq.mp (e122 k a0_s w) h)
theorem n122 {args : Array Value} {w : World} {k : Value → World → Prop} (h : Calls Tryz.prog 122 args w (retP k)) : SN Tryz.prog (callFunc 122 args) w k := sn_call Tryz.func122 (by kernel_rfl) (by kernel_rfl) h

/-! ### 135: slices.Clone[[]*scrinium/shard.Shard,*scrinium/shard.Shard] -/

def s135 (P : Program) (k : Value → World → Prop) (a0_s : Value) (w : World) : Prop :=
  SV P (eqS .eql 95 (.tmp 3) (.const (Value.slice none 0 0)) a0_s (Value.slice none 0 0)) w fun t4 w =>
  CN t4
  (k (Value.slice none 0 0) w)
  (SV P (Instr.buildSlice 95 0 #[]) w fun t5 w =>
  SV P (Builtin.append_ #[95, 95] 95 #[t5, a0_s]) w fun t7 w =>
  k t7 w)

theorem e135 (k : Value → World → Prop) (a0_s : Value) (w : World) : s135 Tryz.prog k a0_s w = vcF Tryz.prog Tryz.f135 [] [a0_s] k w := by kernel_rfl
theorem c135 {k : Value → World → Prop} {a0_s : Value} {w : World} (h : s135 Tryz.prog k a0_s w) : Calls Tryz.prog 135 #[a0_s] w (retP k) :=
  calls_of_vcF [] mixedXSlices Tryz.func135 (by kernel_rfl) (Eq.mp (e135 k a0_s w) h)
theorem n135 {args : Array Value} {w : World} {k : Value → World → Prop} (h : Calls Tryz.prog 135 args w (retP k)) : SN Tryz.prog (callFunc 135 args) w k := sn_call Tryz.func135 (by kernel_rfl) (by kernel_rfl) h

/-! ### 146: slices.Insert[[]scrinium/api.Sum,scrinium/api.Sum] -/

def s146 (P : Program) (k : Value → World → Prop) (a0_s : Value) (a1_i : Value) (a2_v : Value) (w : World) : Prop :=
  SV P (Instr.sliceAt 24 a0_s (some a1_i) none none) w fun _ w =>
  SV P (Builtin.len_ #[24] 3 #[a2_v]) w fun t14 w =>
  SV P (eqS .eql 3 (.tmp 15) (.const (Value.int .i64 0)) t14 (Value.int .i64 0)) w fun t16 w =>
  CN t16
  (k a0_s w)
  (SV P (Builtin.len_ #[24] 3 #[a0_s]) w fun t19 w =>
  SV P (eqS .eql 3 (.tmp 20) (.tmp 21) a1_i t19) w fun t22 w =>
  CN t22
  (SV P (Builtin.append_ #[24, 24] 24 #[a0_s, a2_v]) w fun t25 w =>
  k t25 w)
  (SV P (binOp .add 3 t19 t14) w fun t28 w =>
  SV P (Builtin.cap_ #[24] 3 #[a0_s]) w fun t30 w =>
  SV P (binOp .gtr 3 t28 t30) w fun t31 w =>
  CN t31
  (SV P (Instr.sliceAt 24 a0_s none (some a1_i) none) w fun t34 w =>
  SV P (binOp .add 3 t19 t14) w fun t37 w =>
  SV P (binOp .sub 3 t37 a1_i) w fun t39 w =>
  SV P (Builtin.append_ #[24, 3] 24 #[t34, t39]) w fun t40 w =>
  SV P (Instr.sliceAt 24 t40 (some a1_i) none none) w fun t43 w =>
  SV P (Builtin.copy_ #[24, 24] 3 #[t43, a2_v]) w fun _ w =>
  HR w fun C w =>
  HV P C (binOp .add 3 a1_i t14) fun t49 =>
  HV P C (Instr.sliceAt 24 t40 (some t49) none none) fun t50 =>
  HV P C (Instr.sliceAt 24 a0_s (some a1_i) none none) fun t53 =>
  SV P (Builtin.copy_ #[24, 24] 3 #[t50, t53]) w fun _ w =>
  k t40 w)
  (SV P (binOp .add 3 t19 t14) w fun t59 w =>
  SV P (Instr.sliceAt 24 a0_s none (some t59) none) w fun t60 w =>
  SV P (binOp .add 3 a1_i t14) w fun t65 w =>
  SV P (Instr.sliceAt 24 t60 (some t65) none none) w fun t66 w =>
  SN P (callFunc 226 #[a2_v, t66]) w fun t67 w =>
  SV P (Op.unary .not t67) w fun t68 w =>
  CN t68
  (HR w fun C w =>
  HV P C (binOp .add 3 a1_i t14) fun t72 =>
  HV P C (Instr.sliceAt 24 t60 (some t72) none none) fun t73 =>
  HV P C (Instr.sliceAt 24 t60 (some a1_i) none none) fun t76 =>
  SV P (Builtin.copy_ #[24, 24] 3 #[t73, t76]) w fun _ w =>
  SV P (Instr.sliceAt 24 t60 (some a1_i) none none) w fun t80 w =>
  SV P (Builtin.copy_ #[24, 24] 3 #[t80, a2_v]) w fun _ w =>
  k t60 w)
  (SV P (Instr.sliceAt 24 t60 (some t19) none none) w fun t86 w =>
  SV P (Builtin.copy_ #[24, 24] 3 #[t86, a2_v]) w fun _ w =>
  SV P (Instr.sliceAt 24 t60 (some a1_i) none none) w fun t91 w =>
  SN P (callFunc 227 #[t91, t14]) w fun _ w =>
  k t60 w))))

theorem e146 (k : Value → World → Prop) (a0_s a1_i a2_v : Value) (w : World) : s146 Tryz.prog k a0_s a1_i a2_v w = vcF Tryz.prog Tryz.f146 [] [a0_s, a1_i, a2_v] k w := by kernel_rfl
theorem c146 {k : Value → World → Prop} {a0_s a1_i a2_v : Value} {w : World} (h : s146 Tryz.prog k a0_s a1_i a2_v w) : Calls Tryz.prog 146 #[a0_s, a1_i, a2_v] w (retP k) :=
  calls_of_vcF [] mixedXSlices Tryz.func146 (by kernel_rfl) (Eq.mp (e146 k a0_s a1_i a2_v w) h)
theorem n146 {args : Array Value} {w : World} {k : Value → World → Prop} (h : Calls Tryz.prog 146 args w (retP k)) : SN Tryz.prog (callFunc 146 args) w k := sn_call Tryz.func146 (by kernel_rfl) (by kernel_rfl) h

/-! ### 153: slices.Backward[[]scrinium/api.Sum,scrinium/api.Sum] -/

def s153 (P : Program) (k : Value → World → Prop) (a0_s : Value) (w : World) : Prop :=
  SV P (Instr.box 24 a0_s) w fun s1 w =>
  SV P (Instr.makeFunc (.func 234) #[] #[s1]) w fun t3 w =>
  k t3 w

theorem e153 (k : Value → World → Prop) (a0_s : Value) (w : World) : s153 Tryz.prog k a0_s w = vcF Tryz.prog Tryz.f153 [] [a0_s] k w := by kernel_rfl
theorem c153 {k : Value → World → Prop} {a0_s : Value} {w : World} (h : s153 Tryz.prog k a0_s w) : Calls Tryz.prog 153 #[a0_s] w (retP k) :=
  calls_of_vcF [] mixedXSlices Tryz.func153 (by kernel_rfl) (Eq.mp (e153 k a0_s w) h)
theorem n153 {args : Array Value} {w : World} {k : Value → World → Prop} (h : Calls Tryz.prog 153 args w (retP k)) : SN Tryz.prog (callFunc 153 args) w k := sn_call Tryz.func153 (by kernel_rfl) (by kernel_rfl) h

/-! ### 221: slices.Reverse[[]scrinium/api.Sum,scrinium/api.Sum] -/

def s221_l1 (P : Program) (k : Value → World → Prop) (a0_s : Value) (i2 : Value) (j3 : Value) (next : List Value → World → Prop) (w : World) : Prop :=
  SV P (binOp .lss 3 i2 j3) w fun t9 w =>
  CN t9
  (HR w fun C w =>
  HV P C (Instr.indexAt 24 a0_s j3) fun t20 =>
  HV P C (Instr.loadAt 29 t20) fun t21 =>
  HV P C (Instr.indexAt 24 a0_s i2) fun t24 =>
  HV P C (Instr.loadAt 29 t24) fun t25 =>
  HV P C (Instr.indexAt 24 a0_s i2) fun t26 =>
  SU P (Instr.storeAt 29 t26 t21) w fun w =>
  RS C w fun C =>
  HV P C (Instr.indexAt 24 a0_s j3) fun t27 =>
  SU P (Instr.storeAt 29 t27 t25) w fun w =>
  SV P (binOp .add 3 i2 (Value.int .i64 1)) w fun t11 w =>
  SV P (binOp .sub 3 j3 (Value.int .i64 1)) w fun t13 w =>
  next [t11, t13] w)
  (k (.tuple #[]) w)

def s221 (P : Program) (k : Value → World → Prop) (a0_s : Value) (w : World) : Prop :=
  SV P (Builtin.len_ #[24] 3 #[a0_s]) w fun t5 w =>
  SV P (binOp .sub 3 t5 (Value.int .i64 1)) w fun t6 w =>
  LP 2 [(Value.int .i64 0), t6] w (fun next _ us w => s221_l1 P k a0_s (us.getD 0 undef) (us.getD 1 undef) next w)

theorem e221 (k : Value → World → Prop) (a0_s : Value) (w : World) : s221 Tryz.prog k a0_s w = vcF Tryz.prog Tryz.f221 [2, 3] [a0_s] k w := by kernel_rfl
theorem c221 {k : Value → World → Prop} {a0_s : Value} {w : World} (h : s221 Tryz.prog k a0_s w) : Calls Tryz.prog 221 #[a0_s] w (retP k) :=
  calls_of_vcF [2, 3] mixedXSlices Tryz.func221 (by kernel_rfl) (Eq.mp (e221 k a0_s w) h)
theorem n221 {args : Array Value} {w : World} {k : Value → World → Prop} (h : Calls Tryz.prog 221 args w (retP k)) : SN Tryz.prog (callFunc 221 args) w k := sn_call Tryz.func221 (by kernel_rfl) (by kernel_rfl) h

/-! ### 224: slices.ContainsFunc[[]scrinium/path.step,scrinium/path.step] -/

def s224 (P : Program) (k : Value → World → Prop) (a0_s : Value) (a1_f : Value) (w : World) : Prop :=
  SN P (callFunc 263 #[a0_s, a1_f]) w fun t7 w =>
  SV P (binOp .geq 3 t7 (Value.int .i64 0)) w fun t8 w =>
  k t8 w

theorem e224 (k : Value → World → Prop) (a0_s a1_f : Value) (w : World) : s224 Tryz.prog k a0_s a1_f w = vcF Tryz.prog Tryz.f224 [] [a0_s, a1_f] k w := by kernel_rfl
theorem c224 {k : Value → World → Prop} {a0_s a1_f : Value} {w : World} (h : s224 Tryz.prog k a0_s a1_f w) : Calls Tryz.prog 224 #[a0_s, a1_f] w (retP k) :=
  calls_of_vcF [] mixedXSlices Tryz.func224 (by kernel_rfl) (Eq.mp (e224 k a0_s a1_f w) h)
theorem n224 {args : Array Value} {w : World} {k : Value → World → Prop} (h : Calls Tryz.prog 224 args w (retP k)) : SN Tryz.prog (callFunc 224 args) w k := sn_call Tryz.func224 (by kernel_rfl) (by kernel_rfl) h

/-! ### 227: slices.rotateRight[scrinium/api.Sum] -/

def s227 (P : Program) (k : Value → World → Prop) (a0_s : Value) (a1_r : Value) (w : World) : Prop :=
  SV P (Builtin.len_ #[24] 3 #[a0_s]) w fun t6 w =>
  SV P (binOp .sub 3 t6 a1_r) w fun t8 w =>
  SN P (callFunc 264 #[a0_s, t8]) w fun _ w =>
  k (.tuple #[]) w

theorem e227 (k : Value → World → Prop) (a0_s a1_r : Value) (w : World) : s227 Tryz.prog k a0_s a1_r w = vcF Tryz.prog Tryz.f227 [] [a0_s, a1_r] k w := by kernel_rfl
theorem c227 {k : Value → World → Prop} {a0_s a1_r : Value} {w : World} (h : s227 Tryz.prog k a0_s a1_r w) : Calls Tryz.prog 227 #[a0_s, a1_r] w (retP k) :=
  calls_of_vcF [] mixedXSlices Tryz.func227 (by kernel_rfl) (Eq.mp (e227 k a0_s a1_r w) h)
theorem n227 {args : Array Value} {w : World} {k : Value → World → Prop} (h : Calls Tryz.prog 227 args w (retP k)) : SN Tryz.prog (callFunc 227 args) w k := sn_call Tryz.func227 (by kernel_rfl) (by kernel_rfl) h

/-! ### 234: slices.Backward[[]scrinium/api.Sum,scrinium/api.Sum]$1 -/

def s234_l1 (P : Program) (k : Value → World → Prop) (a0_yield : Value) (a1 : Value) (i3 : Value) (next : List Value → World → Prop) (w : World) : Prop :=
  SV P (binOp .geq 3 i3 (Value.int .i64 0)) w fun t8 w =>
  CN t8
  (SV P (Instr.loadAt 24 a1) w fun t13 w =>
  SV P (Instr.indexAt 24 t13 i3) w fun t15 w =>
  SV P (Instr.loadAt 29 t15) w fun t16 w =>
  SN P (callV a0_yield #[i3, t16]) w fun t17 w =>
  SV P (Op.unary .not t17) w fun t18 w =>
  CN t18
  (k (.tuple #[]) w)
  (SV P (binOp .sub 3 i3 (Value.int .i64 1)) w fun t10 w =>
  next [t10] w))
  (k (.tuple #[]) w)

def s234 (P : Program) (k : Value → World → Prop) (a0_yield : Value) (a1 : Value) (w : World) : Prop :=
  SV P (Instr.loadAt 24 a1) w fun t4 w =>
  SV P (Builtin.len_ #[24] 3 #[t4]) w fun t5 w =>
  SV P (binOp .sub 3 t5 (Value.int .i64 1)) w fun t6 w =>
  LP 1 [t6] w (fun next _ us w => s234_l1 P k a0_yield a1 (us.getD 0 undef) next w)

theorem e234 (k : Value → World → Prop) (a0_yield a1 : Value) (w : World) : s234 Tryz.prog k a0_yield a1 w = vcF Tryz.prog Tryz.f234 [3] [a0_yield, a1] k w := by kernel_rfl
theorem c234 {k : Value → World → Prop} {a0_yield a1 : Value} {w : World} (h : s234 Tryz.prog k a0_yield a1 w) : Calls Tryz.prog 234 #[a0_yield, a1] w (retP k) :=
  calls_of_vcF [3] mixedXSlices Tryz.func234 (by kernel_rfl) (Eq.mp (e234 k a0_yield a1 w) h)
theorem n234 {args : Array Value} {w : World} {k : Value → World → Prop} (h : Calls Tryz.prog 234 args w (retP k)) : SN Tryz.prog (callFunc 234 args) w k := sn_call Tryz.func234 (by kernel_rfl) (by kernel_rfl) h

/-! ### 250: slices.IndexFunc[[]*scrinium/shard.Shard,*scrinium/shard.Shard] -/

def s250_l1 (P : Program) (k : Value → World → Prop) (a0_s : Value) (a1_f : Value) (t7 : Value) (t8 : Value) (next : List Value → World → Prop) (w : World) : Prop :=
  SV P (binOp .lss 3 t8 t7) w fun t9 w =>
  CN t9
  (SV P (Instr.indexAt 95 a0_s t8) w fun t14 w =>
  SV P (Instr.loadAt 97 t14) w fun t15 w =>
  SN P (callV a1_f #[t15]) w fun t16 w =>
  CN t16
  (k t8 w)
  (SV P (binOp .add 3 t8 (Value.int .i64 1)) w fun t18 w =>
  next [t18] w))
  (k (Value.int .i64 (-1)) w)

def s250 (P : Program) (k : Value → World → Prop) (a0_s : Value) (a1_f : Value) (w : World) : Prop :=
  SV P (Builtin.len_ #[95] 3 #[a0_s]) w fun t7 w =>
  LP 1 [(Value.int .i64 0)] w (fun next _ us w => s250_l1 P k a0_s a1_f t7 (us.getD 0 undef) next w)

theorem e250 (k : Value → World → Prop) (a0_s a1_f : Value) (w : World) : s250 Tryz.prog k a0_s a1_f w = vcF Tryz.prog Tryz.f250 [8] [a0_s, a1_f] k w := by kernel_rfl
theorem c250 {k : Value → World → Prop} {a0_s a1_f : Value} {w : World} (h : s250 Tryz.prog k a0_s a1_f w) : Calls Tryz.prog 250 #[a0_s, a1_f] w (retP k) :=
  calls_of_vcF [8] mixedXSlices Tryz.func250 (by kernel_rfl) (Eq.mp (e250 k a0_s a1_f w) h)
theorem n250 {args : Array Value} {w : World} {k : Value → World → Prop} (h : Calls Tryz.prog 250 args w (retP k)) : SN Tryz.prog (callFunc 250 args) w k := sn_call Tryz.func250 (by kernel_rfl) (by kernel_rfl) h

/-! ### 263: slices.IndexFunc[[]scrinium/path.step,scrinium/path.step] -/

def s263_l1 (P : Program) (k : Value → World → Prop) (a0_s : Value) (a1_f : Value) (t7 : Value) (t8 : Value) (next : List Value → World → Prop) (w : World) : Prop :=
  SV P (binOp .lss 3 t8 t7) w fun t9 w =>
  CN t9
  (SV P (Instr.indexAt 192 a0_s t8) w fun t14 w =>
  SV P (Instr.loadAt 196 t14) w fun t15 w =>
  SN P (callV a1_f #[t15]) w fun t16 w =>
  CN t16
  (k t8 w)
  (SV P (binOp .add 3 t8 (Value.int .i64 1)) w fun t18 w =>
  next [t18] w))
  (k (Value.int .i64 (-1)) w)

def s263 (P : Program) (k : Value → World → Prop) (a0_s : Value) (a1_f : Value) (w : World) : Prop :=
  SV P (Builtin.len_ #[192] 3 #[a0_s]) w fun t7 w =>
  LP 1 [(Value.int .i64 0)] w (fun next _ us w => s263_l1 P k a0_s a1_f t7 (us.getD 0 undef) next w)

theorem e263 (k : Value → World → Prop) (a0_s a1_f : Value) (w : World) : s263 Tryz.prog k a0_s a1_f w = vcF Tryz.prog Tryz.f263 [8] [a0_s, a1_f] k w := by kernel_rfl
theorem c263 {k : Value → World → Prop} {a0_s a1_f : Value} {w : World} (h : s263 Tryz.prog k a0_s a1_f w) : Calls Tryz.prog 263 #[a0_s, a1_f] w (retP k) :=
  calls_of_vcF [8] mixedXSlices Tryz.func263 (by kernel_rfl) (Eq.mp (e263 k a0_s a1_f w) h)
theorem n263 {args : Array Value} {w : World} {k : Value → World → Prop} (h : Calls Tryz.prog 263 args w (retP k)) : SN Tryz.prog (callFunc 263 args) w k := sn_call Tryz.func263 (by kernel_rfl) (by kernel_rfl) h

/-! ### 264: slices.rotateLeft[scrinium/api.Sum] -/

def s264 (P : Program) (k : Value → World → Prop) (a0_s : Value) (a1_r : Value) (w : World) : Prop :=
  SV P (Instr.sliceAt 24 a0_s none (some a1_r) none) w fun t6 w =>
  SN P (callFunc 221 #[t6]) w fun _ w =>
  SV P (Instr.sliceAt 24 a0_s (some a1_r) none none) w fun t10 w =>
  SN P (callFunc 221 #[t10]) w fun _ w =>
  SN P (callFunc 221 #[a0_s]) w fun _ w =>
  k (.tuple #[]) w

theorem e264 (k : Value → World → Prop) (a0_s a1_r : Value) (w : World) : s264 Tryz.prog k a0_s a1_r w = vcF Tryz.prog Tryz.f264 [] [a0_s, a1_r] k w := by kernel_rfl
theorem c264 {k : Value → World → Prop} {a0_s a1_r : Value} {w : World} (h : s264 Tryz.prog k a0_s a1_r w) : Calls Tryz.prog 264 #[a0_s, a1_r] w (retP k) :=
  calls_of_vcF [] mixedXSlices Tryz.func264 (by kernel_rfl) (Eq.mp (e264 k a0_s a1_r w) h)
theorem n264 {args : Array Value} {w : World} {k : Value → World → Prop} (h : Calls Tryz.prog 264 args w (retP k)) : SN Tryz.prog (callFunc 264 args) w k := sn_call Tryz.func264 (by kernel_rfl) (by kernel_rfl) h

end Go.Proofs.YtkdghnbogkbedaaGreatDoor
