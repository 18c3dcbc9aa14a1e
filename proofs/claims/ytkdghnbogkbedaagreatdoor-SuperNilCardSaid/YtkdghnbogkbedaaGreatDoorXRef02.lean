/-
  For each function: the condition that its code comes to, and that it is enough. Printed by sh.py (a program of this work).
-/
import Derived.Test.YtkdghnbogkbedaaGreatDoorProg
import Derived.Test.YtkdghnbogkbedaaGreatDoorTypes
namespace Go.Proofs.YtkdghnbogkbedaaGreatDoor
open Go Go.Sh
set_option maxRecDepth 100000


theorem mixedXRef02 : Tryz.prog.follows .mixedOrders = true := by kernel_rfl

/-! ### 81: scrinium/scriniumref02.Of -/

def s81_l1 (P : Program) (_ : Value → World → Prop) (t3_1 : Value) (state6 : Value) (at7 : Value) (next_2 : List Value → World → Prop) (b8 : Value) (i9_1 : Value) (next_3 : List Value → World → Prop) (w : World) : Prop :=
  SV P (binOp .lss 3 i9_1 (Value.int .i64 64)) w fun t46 w =>
  CN t46
  (HR w fun C w =>
  HV P C (binOp .quo 3 i9_1 (Value.int .i64 4)) fun t50 =>
  HV P C (binOp .quo 3 i9_1 (Value.int .i64 4)) fun t52 =>
  HV P C (Instr.indexAt 202 b8 t52) fun t53 =>
  HV P C (Instr.loadAt 199 t53) fun t54 =>
  HV P C (binOp .mul 199 t54 (Value.int .u32 256)) fun t55 =>
  HV P C (binOp .add 3 at7 i9_1) fun t59 =>
  HV P C (Instr.index 9 t3_1 t59) fun t60 =>
  HV P C (convert 5 199 t60) fun t61 =>
  HV P C (binOp .add 199 t55 t61) fun t62 =>
  HV P C (Instr.indexAt 202 b8 t50) fun t63 =>
  SU P (Instr.storeAt 199 t63 t62) w fun w =>
  SV P (binOp .add 3 i9_1 (Value.int .i64 1)) w fun t48 w =>
  next_3 [t48] w)
  (SV P (Instr.loadAt 200 state6) w fun t64 w =>
  SV P (Instr.loadAt 202 b8) w fun t65 w =>
  SN P (callFunc 149 #[t64, t65]) w fun t66 w =>
  SU P (Instr.storeAt 200 state6 t66) w fun w =>
  SV P (binOp .add 3 at7 (Value.int .i64 64)) w fun t44 w =>
  next_2 [i9_1, t44] w)

def s81_l2 (P : Program) (k : Value → World → Prop) (t2 : Value) (state6 : Value) (out10 : Value) (i11 : Value) (next_3 : List Value → World → Prop) (w : World) : Prop :=
  SV P (binOp .lss 3 i11 (Value.int .i64 32)) w fun t68 w =>
  CN t68
  (SV P (binOp .quo 3 i11 (Value.int .i64 4)) w fun t73 w =>
  SV P (Instr.indexAt 200 state6 t73) w fun t74 w =>
  SV P (Instr.loadAt 199 t74) w fun t75 w =>
  SV P (binOp .rem 3 i11 (Value.int .i64 4)) w fun t77 w =>
  SV P (binOp .mul 3 (Value.int .i64 8) t77) w fun t78 w =>
  SV P (binOp .sub 3 (Value.int .i64 24) t78) w fun t79 w =>
  SV P (convert 3 121 t79) w fun t80 w =>
  SV P (binOp .shr 199 t75 t80) w fun t81 w =>
  SV P (convert 199 5 t81) w fun t82 w =>
  SV P (Instr.indexAt 29 out10 i11) w fun t83 w =>
  SU P (Instr.storeAt 5 t83 t82) w fun w =>
  SV P (binOp .add 3 i11 (Value.int .i64 1)) w fun t70 w =>
  next_3 [t70] w)
  (SV P (Instr.loadAt 29 out10) w fun t84 w =>
  SU P (Instr.storeAt 29 t2 t84) w fun w =>
  CR P 29 t2 w fun t2_1 =>
  k t2_1 w)

def s81_l3 (P : Program) (k : Value → World → Prop) (t2 : Value) (t3_1 : Value) (state6 : Value) (at7 : Value) (next_2 : List Value → World → Prop) (w : World) : Prop :=
  SV P (Builtin.len_ #[9] 3 #[t3_1]) w fun t41 w =>
  SV P (binOp .lss 3 at7 t41) w fun t42 w =>
  CN t42
  (SV P (Instr.alloc 202 true (.tuple #[])) w fun b8 w =>
  LP 1 [(Value.int .i64 0)] w (fun next_3 _ us w => s81_l1 P k t3_1 state6 at7 next_2 b8 (us.getD 0 undef) next_3 w))
  (SV P (Instr.alloc 29 true (.tuple #[])) w fun out10 w =>
  LP 1 [(Value.int .i64 0)] w (fun next_3 _ us w => s81_l2 P k t2 state6 out10 (us.getD 0 undef) next_3 w))

def s81_l4 (P : Program) (k : Value → World → Prop) (t2 : Value) (t23 : Value) (t3_1 : Value) (i5 : Value) (next_1 : List Value → World → Prop) (w : World) : Prop :=
  SV P (binOp .geq 3 i5 (Value.int .i64 0)) w fun t25 w =>
  CN t25
  (SV P (binOp .mul 3 (Value.int .i64 8) i5) w fun t31 w =>
  SV P (convert 3 121 t31) w fun t32 w =>
  SV P (binOp .shr 198 t23 t32) w fun t33 w =>
  SV P (convert 198 5 t33) w fun t34 w =>
  SV P (Instr.buildSlice 151 1 #[(0, t34)]) w fun t35 w =>
  SV P (convert 151 9 t35) w fun t36 w =>
  SV P (binOp .add 9 t3_1 t36) w fun t37 w =>
  SV P (binOp .sub 3 i5 (Value.int .i64 1)) w fun t27 w =>
  next_1 [t37, t27] w)
  (SN P (callFunc 148 #[]) w fun t38 w =>
  SV P (Instr.alloc 200 true (.tuple #[])) w fun state6 w =>
  SU P (Instr.storeAt 200 state6 t38) w fun w =>
  LP 2 [undef, (Value.int .i64 0)] w (fun next_2 _ us w => s81_l3 P k t2 t3_1 state6 (us.getD 1 undef) next_2 w))

def s81_l5 (P : Program) (k : Value → World → Prop) (a0_s : Value) (t2 : Value) (t3 : Value) (next : List Value → World → Prop) (w : World) : Prop :=
  SV P (Builtin.len_ #[9] 3 #[t3]) w fun t15 w =>
  SV P (binOp .rem 3 t15 (Value.int .i64 64)) w fun t16 w =>
  SV P (eqS .neq 3 (.tmp 16) (.const (Value.int .i64 56)) t16 (Value.int .i64 56)) w fun t17 w =>
  CN t17
  (SV P (binOp .add 9 t3 (str [0])) w fun t19 w =>
  next [t19] w)
  (SV P (Builtin.len_ #[9] 3 #[a0_s]) w fun t21 w =>
  SV P (convert 3 198 t21) w fun t22 w =>
  SV P (binOp .mul 198 t22 (Value.int .u64 8)) w fun t23 w =>
  LP 2 [t3, (Value.int .i64 7)] w (fun next_1 _ us w => s81_l4 P k t2 t23 (us.getD 0 undef) (us.getD 1 undef) next_1 w))

def s81 (P : Program) (k : Value → World → Prop) (a0_s : Value) (w : World) : Prop :=
  SV P (Instr.alloc 29 true (.tuple #[])) w fun t2 w =>
  SV P (binOp .add 9 a0_s (str [128])) w fun t13 w =>
  LP 1 [t13] w (fun next _ us w => s81_l5 P k a0_s t2 (us.getD 0 undef) next w)

theorem e81 (k : Value → World → Prop) (a0_s : Value) (w : World) : s81 Tryz.prog k a0_s w = vcF Tryz.prog Tryz.f81 [3, 5, 7, 9, 11] [a0_s] k w := by kernel_rfl
theorem c81 {k : Value → World → Prop} {a0_s : Value} {w : World} (h : s81 Tryz.prog k a0_s w) : Calls Tryz.prog 81 #[a0_s] w (retP k) :=
  calls_of_vcF [3, 5, 7, 9, 11] mixedXRef02 Tryz.func81 (by kernel_rfl) (Eq.mp (e81 k a0_s w) h)
theorem n81 {args : Array Value} {w : World} {k : Value → World → Prop} (h : Calls Tryz.prog 81 args w (retP k)) : SN Tryz.prog (callFunc 81 args) w k := sn_call Tryz.func81 (by kernel_rfl) (by kernel_rfl) h

/-! ### 148: scrinium/scriniumref02.Start -/

def s148 (P : Program) (k : Value → World → Prop) (w : World) : Prop :=
  SV P (Instr.alloc 200 true (.tuple #[])) w fun t0 w =>
  SV P (Instr.build 200 #[(0, (Value.int .u32 1779033703)), (1, (Value.int .u32 3144134277)), (2, (Value.int .u32 1013904242)), (3, (Value.int .u32 2773480762)), (4, (Value.int .u32 1359893119)), (5, (Value.int .u32 2600822924)), (6, (Value.int .u32 528734635)), (7, (Value.int .u32 1541459225))]) w fun t1 w =>
  SU P (Instr.storeAt 200 t0 t1) w fun w =>
  CR P 200 t0 w fun t0_1 =>
  k t0_1 w

theorem e148 (k : Value → World → Prop) (w : World) : s148 Tryz.prog k  w = vcF Tryz.prog Tryz.f148 [] [] k w := by kernel_rfl
theorem c148 {k : Value → World → Prop} {w : World} (h : s148 Tryz.prog k  w) : Calls Tryz.prog 148 #[] w (retP k) :=
  calls_of_vcF [] mixedXRef02 Tryz.func148 (by kernel_rfl) (Eq.mp (e148 k  w) h)
theorem n148 {args : Array Value} {w : World} {k : Value → World → Prop} (h : Calls Tryz.prog 148 args w (retP k)) : SN Tryz.prog (callFunc 148 args) w k := sn_call Tryz.func148 (by kernel_rfl) (by kernel_rfl) h

/-! ### 149: scrinium/scriniumref02.Step -/

def s149_j1 (P : Program) (_ : Value → World → Prop) (t7 : Value) (next : List Value → World → Prop) (w : World) : Prop :=
  SV P (binOp .add 3 t7 (Value.int .i64 1)) w fun t23 w =>
  next [t23] w

def s149_l1 (P : Program) (k : Value → World → Prop) (state2 : Value) (t4 : Value) (v12 : Value) (i18 : Value) (next_2 : List Value → World → Prop) (w : World) : Prop :=
  SV P (binOp .lss 3 i18 (Value.int .i64 8)) w fun t154 w =>
  CN t154
  (HR w fun C w =>
  HV P C (Instr.indexAt 200 v12 i18) fun t159 =>
  HV P C (Instr.loadAt 199 t159) fun t160 =>
  HV P C (Instr.indexAt 200 state2 i18) fun t162 =>
  HV P C (Instr.loadAt 199 t162) fun t163 =>
  HV P C (binOp .add 199 t160 t163) fun t164 =>
  HV P C (Instr.indexAt 200 v12 i18) fun t165 =>
  SU P (Instr.storeAt 199 t165 t164) w fun w =>
  SV P (binOp .add 3 i18 (Value.int .i64 1)) w fun t156 w =>
  next_2 [t156] w)
  (SV P (Instr.loadAt 200 v12) w fun t166 w =>
  SU P (Instr.storeAt 200 t4 t166) w fun w =>
  CR P 200 t4 w fun t4_1 =>
  k t4_1 w)

def s149_l2 (P : Program) (k : Value → World → Prop) (state2 : Value) (t4 : Value) (keys5 : Value) (w6 : Value) (v12 : Value) (t13 : Value) (next_1 : List Value → World → Prop) (w : World) : Prop :=
  SV P (binOp .lss 3 t13 (Value.int .i64 64)) w fun t72 w =>
  CN t72
  (SV P (Instr.indexAt 200 v12 (Value.int .i64 0)) w fun t75 w =>
  SV P (Instr.loadAt 199 t75) w fun t76 w =>
  SV P (Instr.indexAt 200 v12 (Value.int .i64 4)) w fun t77 w =>
  SV P (Instr.loadAt 199 t77) w fun t78 w =>
  HR w fun C w =>
  HV P C (Instr.indexAt 200 v12 (Value.int .i64 7)) fun t79 =>
  HV P C (Instr.loadAt 199 t79) fun t80 =>
  SN P (callFunc 230 #[(Value.int .i64 6), t78]) w fun t82 w =>
  C w ∧
  SN P (callFunc 230 #[(Value.int .i64 11), t78]) w fun t84 w =>
  C w ∧
  HV P C (binOp .xor 199 t82 t84) fun t85 =>
  SN P (callFunc 230 #[(Value.int .i64 25), t78]) w fun t87 w =>
  C w ∧
  HV P C (binOp .xor 199 t85 t87) fun t88 =>
  HV P C (binOp .add 199 t80 t88) fun t89 =>
  HV P C (Instr.indexAt 200 v12 (Value.int .i64 5)) fun t91 =>
  HV P C (Instr.loadAt 199 t91) fun t92 =>
  HV P C (binOp .and 199 t78 t92) fun t93 =>
  HV P C (Op.unary .xor t78) fun t95 =>
  HV P C (Instr.indexAt 200 v12 (Value.int .i64 6)) fun t96 =>
  HV P C (Instr.loadAt 199 t96) fun t97 =>
  HV P C (binOp .and 199 t95 t97) fun t98 =>
  HV P C (binOp .xor 199 t93 t98) fun t99 =>
  HV P C (binOp .add 199 t89 t99) fun t100 =>
  HV P C (Instr.indexAt 258 keys5 t13) fun t102 =>
  HV P C (Instr.loadAt 199 t102) fun t103 =>
  HV P C (binOp .add 199 t100 t103) fun t104 =>
  HV P C (Instr.indexAt 258 w6 t13) fun t106 =>
  HV P C (Instr.loadAt 199 t106) fun t107 =>
  HV P C (binOp .add 199 t104 t107) fun t108 =>
  HR w fun C w =>
  SN P (callFunc 230 #[(Value.int .i64 2), t76]) w fun t110 w =>
  RS C w fun C =>
  SN P (callFunc 230 #[(Value.int .i64 13), t76]) w fun t112 w =>
  RS C w fun C =>
  HV P C (binOp .xor 199 t110 t112) fun t113 =>
  SN P (callFunc 230 #[(Value.int .i64 22), t76]) w fun t115 w =>
  C w ∧
  HV P C (binOp .xor 199 t113 t115) fun t116 =>
  HV P C (Instr.indexAt 200 v12 (Value.int .i64 1)) fun t118 =>
  HV P C (Instr.loadAt 199 t118) fun t119 =>
  HV P C (binOp .and 199 t76 t119) fun t120 =>
  HV P C (Instr.indexAt 200 v12 (Value.int .i64 2)) fun t122 =>
  HV P C (Instr.loadAt 199 t122) fun t123 =>
  HV P C (binOp .and 199 t76 t123) fun t124 =>
  HV P C (binOp .xor 199 t120 t124) fun t125 =>
  HV P C (Instr.indexAt 200 v12 (Value.int .i64 1)) fun t126 =>
  HV P C (Instr.loadAt 199 t126) fun t127 =>
  HV P C (Instr.indexAt 200 v12 (Value.int .i64 2)) fun t128 =>
  HV P C (Instr.loadAt 199 t128) fun t129 =>
  HV P C (binOp .and 199 t127 t129) fun t130 =>
  HV P C (binOp .xor 199 t125 t130) fun t131 =>
  HV P C (binOp .add 199 t116 t131) fun t132 =>
  SV P (binOp .add 199 t108 t132) w fun t135 w =>
  SV P (Instr.indexAt 200 v12 (Value.int .i64 0)) w fun t136 w =>
  SV P (Instr.loadAt 199 t136) w fun t137 w =>
  SV P (Instr.indexAt 200 v12 (Value.int .i64 1)) w fun t138 w =>
  SV P (Instr.loadAt 199 t138) w fun t139 w =>
  SV P (Instr.indexAt 200 v12 (Value.int .i64 2)) w fun t140 w =>
  SV P (Instr.loadAt 199 t140) w fun t141 w =>
  SV P (Instr.indexAt 200 v12 (Value.int .i64 3)) w fun t142 w =>
  SV P (Instr.loadAt 199 t142) w fun t143 w =>
  SV P (binOp .add 199 t143 t108) w fun t145 w =>
  SV P (Instr.indexAt 200 v12 (Value.int .i64 4)) w fun t146 w =>
  SV P (Instr.loadAt 199 t146) w fun t147 w =>
  SV P (Instr.indexAt 200 v12 (Value.int .i64 5)) w fun t148 w =>
  SV P (Instr.loadAt 199 t148) w fun t149 w =>
  SV P (Instr.indexAt 200 v12 (Value.int .i64 6)) w fun t150 w =>
  SV P (Instr.loadAt 199 t150) w fun t151 w =>
  SV P (Instr.build 200 #[(0, t135), (1, t137), (2, t139), (3, t141), (4, t145), (5, t147), (6, t149), (7, t151)]) w fun t152 w =>
  SU P (Instr.storeAt 200 v12 t152) w fun w =>
  SV P (binOp .add 3 t13 (Value.int .i64 1)) w fun t74 w =>
  next_1 [t74] w)
  (LP 1 [(Value.int .i64 0)] w (fun next_2 _ us w => s149_l1 P k state2 t4 v12 (us.getD 0 undef) next_2 w))

def s149_l3 (P : Program) (k : Value → World → Prop) (state2 : Value) (block3 : Value) (t4 : Value) (keys5 : Value) (w6 : Value) (t7 : Value) (next : List Value → World → Prop) (w : World) : Prop :=
  SV P (binOp .lss 3 t7 (Value.int .i64 64)) w fun t21 w =>
  CN t21
  (JP 0 (fun j =>
  SV P (binOp .lss 3 t7 (Value.int .i64 16)) w fun t25 w =>
  CN t25
  (SV P (Instr.indexAt 202 block3 t7) w fun t28 w =>
  SV P (Instr.loadAt 199 t28) w fun t29 w =>
  SV P (Instr.indexAt 258 w6 t7) w fun t30 w =>
  SU P (Instr.storeAt 199 t30 t29) w fun w =>
  j [] w)
  (SV P (binOp .sub 3 t7 (Value.int .i64 2)) w fun t32 w =>
  SV P (Instr.indexAt 258 w6 t32) w fun t33 w =>
  SV P (Instr.loadAt 199 t33) w fun t34 w =>
  SV P (binOp .sub 3 t7 (Value.int .i64 15)) w fun t36 w =>
  SV P (Instr.indexAt 258 w6 t36) w fun t37 w =>
  SV P (Instr.loadAt 199 t37) w fun t38 w =>
  SN P (callFunc 230 #[(Value.int .i64 17), t34]) w fun t40 w =>
  SN P (callFunc 230 #[(Value.int .i64 19), t34]) w fun t42 w =>
  SV P (binOp .xor 199 t40 t42) w fun t43 w =>
  SV P (binOp .shr 199 t34 (Value.int .u64 10)) w fun t45 w =>
  SV P (binOp .xor 199 t43 t45) w fun t46 w =>
  SN P (callFunc 230 #[(Value.int .i64 7), t38]) w fun t48 w =>
  SN P (callFunc 230 #[(Value.int .i64 18), t38]) w fun t50 w =>
  SV P (binOp .xor 199 t48 t50) w fun t51 w =>
  SV P (binOp .shr 199 t38 (Value.int .u64 3)) w fun t53 w =>
  SV P (binOp .xor 199 t51 t53) w fun t54 w =>
  HR w fun C w =>
  HV P C (binOp .sub 3 t7 (Value.int .i64 7)) fun t58 =>
  HV P C (Instr.indexAt 258 w6 t58) fun t59 =>
  HV P C (Instr.loadAt 199 t59) fun t60 =>
  HV P C (binOp .add 199 t46 t60) fun t61 =>
  HV P C (binOp .add 199 t61 t54) fun t63 =>
  HV P C (binOp .sub 3 t7 (Value.int .i64 16)) fun t65 =>
  HV P C (Instr.indexAt 258 w6 t65) fun t66 =>
  HV P C (Instr.loadAt 199 t66) fun t67 =>
  HV P C (binOp .add 199 t63 t67) fun t68 =>
  HV P C (Instr.indexAt 258 w6 t7) fun t69 =>
  SU P (Instr.storeAt 199 t69 t68) w fun w =>
  j [] w))
  (fun _ _ w => s149_j1 P k t7 next w))
  (SV P (Instr.loadAt 200 state2) w fun t70 w =>
  SV P (Instr.alloc 200 true (.tuple #[])) w fun v12 w =>
  SU P (Instr.storeAt 200 v12 t70) w fun w =>
  LP 1 [(Value.int .i64 0)] w (fun next_1 _ us w => s149_l2 P k state2 t4 keys5 w6 v12 (us.getD 0 undef) next_1 w))

def s149 (P : Program) (k : Value → World → Prop) (a0_state : Value) (a1_block : Value) (w : World) : Prop :=
  SV P (Instr.box 200 a0_state) w fun state2 w =>
  SV P (Instr.box 202 a1_block) w fun block3 w =>
  SV P (Instr.alloc 200 true (.tuple #[])) w fun t4 w =>
  SN P (callFunc 229 #[]) w fun t19 w =>
  SV P (Instr.alloc 258 true (.tuple #[])) w fun keys5 w =>
  SU P (Instr.storeAt 258 keys5 t19) w fun w =>
  SV P (Instr.alloc 258 true (.tuple #[])) w fun w6 w =>
  LP 1 [(Value.int .i64 0)] w (fun next _ us w => s149_l3 P k state2 block3 t4 keys5 w6 (us.getD 0 undef) next w)

theorem e149 (k : Value → World → Prop) (a0_state a1_block : Value) (w : World) : s149 Tryz.prog k a0_state a1_block w = vcF Tryz.prog Tryz.f149 [7, 13, 18] [a0_state, a1_block] k w := by kernel_rfl
theorem c149 {k : Value → World → Prop} {a0_state a1_block : Value} {w : World} (h : s149 Tryz.prog k a0_state a1_block w) : Calls Tryz.prog 149 #[a0_state, a1_block] w (retP k) :=
  calls_of_vcF [7, 13, 18] mixedXRef02 Tryz.func149 (by kernel_rfl) (Eq.mp (e149 k a0_state a1_block w) h)
theorem n149 {args : Array Value} {w : World} {k : Value → World → Prop} (h : Calls Tryz.prog 149 args w (retP k)) : SN Tryz.prog (callFunc 149 args) w k := sn_call Tryz.func149 (by kernel_rfl) (by kernel_rfl) h

/-! ### 160: scrinium/scriniumref02.Bytes -/

def s160 (P : Program) (k : Value → World → Prop) (a0_s : Value) (w : World) : Prop :=
  SV P (Instr.box 29 a0_s) w fun s1 w =>
  SV P (Instr.sliceAt 29 s1 none none none) w fun t3 w =>
  SV P (convert 151 9 t3) w fun t4 w =>
  k t4 w

theorem e160 (k : Value → World → Prop) (a0_s : Value) (w : World) : s160 Tryz.prog k a0_s w = vcF Tryz.prog Tryz.f160 [] [a0_s] k w := by kernel_rfl
theorem c160 {k : Value → World → Prop} {a0_s : Value} {w : World} (h : s160 Tryz.prog k a0_s w) : Calls Tryz.prog 160 #[a0_s] w (retP k) :=
  calls_of_vcF [] mixedXRef02 Tryz.func160 (by kernel_rfl) (Eq.mp (e160 k a0_s w) h)
theorem n160 {args : Array Value} {w : World} {k : Value → World → Prop} (h : Calls Tryz.prog 160 args w (retP k)) : SN Tryz.prog (callFunc 160 args) w k := sn_call Tryz.func160 (by kernel_rfl) (by kernel_rfl) h

/-! ### 229: scrinium/scriniumref02.Keys -/

def s229 (P : Program) (k : Value → World → Prop) (w : World) : Prop :=
  SV P (Instr.alloc 258 true (.tuple #[])) w fun t0 w =>
  SV P (Instr.build 258 #[(0, (Value.int .u32 1116352408)), (1, (Value.int .u32 1899447441)), (2, (Value.int .u32 3049323471)), (3, (Value.int .u32 3921009573)), (4, (Value.int .u32 961987163)), (5, (Value.int .u32 1508970993)), (6, (Value.int .u32 2453635748)), (7, (Value.int .u32 2870763221)), (8, (Value.int .u32 3624381080)), (9, (Value.int .u32 310598401)), (10, (Value.int .u32 607225278)), (11, (Value.int .u32 1426881987)), (12, (Value.int .u32 1925078388)), (13, (Value.int .u32 2162078206)), (14, (Value.int .u32 2614888103)), (15, (Value.int .u32 3248222580)), (16, (Value.int .u32 3835390401)), (17, (Value.int .u32 4022224774)), (18, (Value.int .u32 264347078)), (19, (Value.int .u32 604807628)), (20, (Value.int .u32 770255983)), (21, (Value.int .u32 1249150122)), (22, (Value.int .u32 1555081692)), (23, (Value.int .u32 1996064986)), (24, (Value.int .u32 2554220882)), (25, (Value.int .u32 2821834349)), (26, (Value.int .u32 2952996808)), (27, (Value.int .u32 3210313671)), (28, (Value.int .u32 3336571891)), (29, (Value.int .u32 3584528711)), (30, (Value.int .u32 113926993)), (31, (Value.int .u32 338241895)), (32, (Value.int .u32 666307205)), (33, (Value.int .u32 773529912)), (34, (Value.int .u32 1294757372)), (35, (Value.int .u32 1396182291)), (36, (Value.int .u32 1695183700)), (37, (Value.int .u32 1986661051)), (38, (Value.int .u32 2177026350)), (39, (Value.int .u32 2456956037)), (40, (Value.int .u32 2730485921)), (41, (Value.int .u32 2820302411)), (42, (Value.int .u32 3259730800)), (43, (Value.int .u32 3345764771)), (44, (Value.int .u32 3516065817)), (45, (Value.int .u32 3600352804)), (46, (Value.int .u32 4094571909)), (47, (Value.int .u32 275423344)), (48, (Value.int .u32 430227734)), (49, (Value.int .u32 506948616)), (50, (Value.int .u32 659060556)), (51, (Value.int .u32 883997877)), (52, (Value.int .u32 958139571)), (53, (Value.int .u32 1322822218)), (54, (Value.int .u32 1537002063)), (55, (Value.int .u32 1747873779)), (56, (Value.int .u32 1955562222)), (57, (Value.int .u32 2024104815)), (58, (Value.int .u32 2227730452)), (59, (Value.int .u32 2361852424)), (60, (Value.int .u32 2428436474)), (61, (Value.int .u32 2756734187)), (62, (Value.int .u32 3204031479)), (63, (Value.int .u32 3329325298))]) w fun t1 w =>
  SU P (Instr.storeAt 258 t0 t1) w fun w =>
  CR P 258 t0 w fun t0_1 =>
  k t0_1 w

theorem e229 (k : Value → World → Prop) (w : World) : s229 Tryz.prog k  w = vcF Tryz.prog Tryz.f229 [] [] k w := by kernel_rfl
theorem c229 {k : Value → World → Prop} {w : World} (h : s229 Tryz.prog k  w) : Calls Tryz.prog 229 #[] w (retP k) :=
  calls_of_vcF [] mixedXRef02 Tryz.func229 (by kernel_rfl) (Eq.mp (e229 k  w) h)
theorem n229 {args : Array Value} {w : World} {k : Value → World → Prop} (h : Calls Tryz.prog 229 args w (retP k)) : SN Tryz.prog (callFunc 229 args) w k := sn_call Tryz.func229 (by kernel_rfl) (by kernel_rfl) h

/-! ### 230: scrinium/scriniumref02.rotr -/

def s230 (P : Program) (k : Value → World → Prop) (a0_n : Value) (a1_x : Value) (w : World) : Prop :=
  SV P (convert 3 121 a0_n) w fun t7 w =>
  SV P (binOp .shr 199 a1_x t7) w fun t8 w =>
  SV P (binOp .sub 3 (Value.int .i64 32) a0_n) w fun t11 w =>
  SV P (convert 3 121 t11) w fun t12 w =>
  SV P (binOp .shl 199 a1_x t12) w fun t13 w =>
  SV P (binOp .or 199 t8 t13) w fun t14 w =>
  k t14 w

theorem e230 (k : Value → World → Prop) (a0_n a1_x : Value) (w : World) : s230 Tryz.prog k a0_n a1_x w = vcF Tryz.prog Tryz.f230 [] [a0_n, a1_x] k w := by kernel_rfl
theorem c230 {k : Value → World → Prop} {a0_n a1_x : Value} {w : World} (h : s230 Tryz.prog k a0_n a1_x w) : Calls Tryz.prog 230 #[a0_n, a1_x] w (retP k) :=
  calls_of_vcF [] mixedXRef02 Tryz.func230 (by kernel_rfl) (Eq.mp (e230 k a0_n a1_x w) h)
theorem n230 {args : Array Value} {w : World} {k : Value → World → Prop} (h : Calls Tryz.prog 230 args w (retP k)) : SN Tryz.prog (callFunc 230 args) w k := sn_call Tryz.func230 (by kernel_rfl) (by kernel_rfl) h

end Go.Proofs.YtkdghnbogkbedaaGreatDoor
