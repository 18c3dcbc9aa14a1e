/-
  ImageGoes: for every two lists of files, files that are changed by what Diff tells come from the ones to the others: the law answers true and its arguments read as they did. Conditions: the package-level tables hold what the program's text lays. (Part 3 of 8.)
-/
import Derived.Test.YtkdghnbogkbedaaGreatDoorProg
import Derived.Laws.MakeOwn
import Derived.Lib.BitFns
import Derived.Lib.BufferMore
import Derived.Test.YtkdghnbogkbedaaGreatDoorPG1
set_option linter.unusedSimpArgs false
set_option linter.unusedVariables false

namespace Go.Sh
open Go Go.RowKit

/-- What turned is new. -/
theorem Ch.own {a b c : World} {g : Nat} {S : Nat → Prop} (h : Ch S a b) (k : Ch (· = g) b c) (hg : a.heap.size ≤ g) : Ch S a c := h.trans' k fun i hi hi' => by subst hi'; omega
theorem CN_tt {X Y : Prop} (h : X) : CN (.bool true) X Y := h
theorem CN_ff {X Y : Prop} (h : Y) : CN (.bool false) X Y := h

theorem blkOf_len (l : List UInt8) : (blkOf l).length = 16 := by simp [blkOf]
/-- A block's words, of which i bytes are read. -/
def pRow (l : List UInt8) (i : Nat) : List UInt32 := (List.range 16).map (pw l i)
theorem pRow_len (l : List UInt8) (i : Nat) : (pRow l i).length = 16 := by simp [pRow]
theorem pRow_zero (l : List UInt8) : pRow l 0 = List.replicate 16 0 := by
  have : pw l 0 = fun _ => 0 := funext fun j => pw_zero l j
  unfold pRow
  rw [this, List.map_const', List.length_range]
theorem pRow_end (l : List UInt8) : pRow l 64 = blkOf l := rfl
theorem pRow_at {l : List UInt8} {i j : Nat} (h : j < 16) : wAt (pRow l i) j = pw l i j := by simp [pRow, wAt, List.getD, h]
theorem pRow_next {l : List UInt8} {i : Nat} (h : i < l.length) : (pRow l i).set (i / 4) (shl32 (wAt (pRow l i) (i / 4)) 8 ||| UInt32.ofNat (l.getD i 0).toNat) = pRow l (i + 1) := by
  by_cases h4 : i / 4 < 16
  · rw [pRow_at h4]
    have : l.getD i 0 = l[i] := by simp [List.getD, h]
    rw [this]
    exact pw_set h
  · rw [List.set_eq_of_length_le (by rw [pRow_len]; omega)]
    unfold pRow
    apply List.map_congr_left
    intro j hj
    rw [pw_other h (by have := List.mem_range.1 hj; omega)]

/-- A hash as it stands in memory. -/
structure HashV where
  begun : Bool
  s : S8
  rest : List UInt8
  size : Int
def S8.zero : S8 := ⟨0, 0, 0, 0, 0, 0, 0, 0⟩
def HashV.cells (h : HashV) : List Value := .bool h.begun :: (wv h.s.l ++ [str h.rest, .int .i64 h.size])
theorem HashV.len (h : HashV) : h.cells.length = 11 := by unfold HashV.cells; simp [S8.l_len]
/-- It has hashed m. -/
def HashV.is (h : HashV) (m : List UInt8) : Prop := (h = ⟨false, S8.zero, [], 0⟩ ∧ m = []) ∨ (h.begun = true ∧ (h.s, h.rest) = blocks S8.start m ∧ h.size = m.length)
def HashAt (w : World) (g : Nat) (t : TypeId) (m : List UInt8) : Prop := ∃ h : HashV, Blk w g t h.cells ∧ h.is m
theorem HashAt.ch {w w' : World} {g t : Nat} {m : List UInt8} {S : Nat → Prop} (h : HashAt w g t m) (hc : Ch S w w') (hS : ¬ S g) : HashAt w' g t m := by
  obtain ⟨v, h1, h2⟩ := h
  exact ⟨v, h1.ch hc hS, h2⟩
theorem HashAt.no {w w' : World} {g t : Nat} {m : List UInt8} (h : HashAt w g t m) (hc : Ch No w w') : HashAt w' g t m := h.ch hc fun h => h
theorem HashAt.lt {w : World} {g t : Nat} {m : List UInt8} (h : HashAt w g t m) : g < w.heap.size := by
  obtain ⟨v, h1, _⟩ := h
  exact h1.lt

theorem HashV.fld (h : HashV) : h.cells = [.bool h.begun, w32 h.s.a, w32 h.s.b, w32 h.s.c, w32 h.s.d, w32 h.s.e, w32 h.s.f, w32 h.s.g, w32 h.s.h, str h.rest, .int .i64 h.size] := rfl
end Go.Sh
namespace Go.Proofs.YtkdghnbogkbedaaGreatDoor
open Go Go.Sh Go.RowKit
set_option maxRecDepth 100000

theorem sha_blocks (s : S8) (l : List UInt8) (w : World) (hk : KeysAt w) (hll : l.length ≤ 9223372036854775807) :
    Ret Tryz.prog 267 #[ag (wv s.l), str l] w (.tuple #[ag (wv (blocks s l).1.l), str (blocks s l).2]) := by
  refine c267 ?_
  unfold s267
  refine SV_box (vs := wv s.l) rfl fun g1 w1 hg1 b1 h1 => ?_
  refine SV_alloc fun g2 w2 hg2 b2 h2 => ?_
  have n12 : g2 ≠ g1 := b2.ne' b1 hg2
  have h12 := h1.size
  refine LP_intro (fun us w' => ∃ (u : Value) (st : S8) (r : List UInt8), us = [u, str r] ∧ blocks st r = blocks s l ∧ r.length ≤ l.length ∧ Blk w' g1 200 (wv st.l) ∧ Blk w' g2 200 (List.replicate 8 (.int .u32 0)) ∧ Ch No w w')
    (fun us _ => match us with | [_, .string b] => b.size | _ => 0)
    ⟨_, s, l, rfl, rfl, Nat.le_refl _, b1.no h2, b2, h1.trans h2⟩ ?_
  rintro us hus ζ w3 ⟨u, st, r, rfl, hst, hrl, b1, b2, h3⟩
  unfold s267_l2
  simp only [List.getD_cons_zero, List.getD_cons_succ]
  (first | refine SV_p (by first | exact True.intro | omega) ?_ | refine HV_p (by first | exact True.intro | omega) ?_)
  (first | refine SV_p (by first | exact True.intro | omega) ?_ | refine HV_p (by first | exact True.intro | omega) ?_)
  refine CN_split (fun hge => ?_) (fun hlt => ?_)
  · refine SV_alloc fun g6 w4 hg6 b6 h4 => ?_
    have n61 : g6 ≠ g1 := b6.ne' b1 hg6
    have n62 : g6 ≠ g2 := b6.ne' b2 hg6
    refine LP_intro (fun us w' => ∃ i : Nat, us = [.int .i64 i] ∧ i ≤ 64 ∧ Blk w' g6 202 (wv (pRow r i)) ∧ Blk w' g1 200 (wv st.l) ∧ Blk w' g2 200 (List.replicate 8 (.int .u32 0)) ∧ Ch No w w')
      (fun us _ => match us with | [.int _ t] => (64 - t).toNat | _ => 0)
      ⟨0, rfl, by decide, by rw [pRow_zero, ← wv_zero]; exact b6, b1.no h4, b2.no h4, h3.trans h4⟩ ?_
    rintro us hus ζ w5 ⟨i, rfl, hi, c6, c1, c2, h5⟩
    unfold s267_l1
    simp only [List.getD_cons_zero, List.getD_cons_succ]
    (first | refine SV_p (by first | exact True.intro | omega) ?_ | refine HV_p (by first | exact True.intro | omega) ?_)
    refine CN_split (fun hlt => ?_) (fun hge => ?_)
    · have hil : i < r.length := by omega
      have hpl := pRow_len r i
      refine HR_kp No ?_
      (first | refine SV_p (by first | exact True.intro | omega) ?_ | refine HV_p (by first | exact True.intro | omega) ?_)
      (first | refine SV_p (by first | exact True.intro | omega) ?_ | refine HV_p (by first | exact True.intro | omega) ?_)
      (first | refine SV_p (by first | exact True.intro | omega) ?_ | refine HV_p (by first | exact True.intro | omega) ?_)
      refine HV_load c6 (fun h => h) (wv_get (by omega)) ?_
      (first | refine SV_p (by first | exact True.intro | omega) ?_ | refine HV_p (by first | exact True.intro | omega) ?_)
      (first | refine SV_p (by first | exact True.intro | omega) ?_ | refine HV_p (by first | exact True.intro | omega) ?_)
      (first | refine SV_p (by first | exact True.intro | omega) ?_ | refine HV_p (by first | exact True.intro | omega) ?_)
      (first | refine SV_p (by first | exact True.intro | omega) ?_ | refine HV_p (by first | exact True.intro | omega) ?_)
      (first | refine SV_p (by first | exact True.intro | omega) ?_ | refine HV_p (by first | exact True.intro | omega) ?_)
      refine SU_store c6.drew (by rw [wv_len]; omega) rfl fun w6 d6 h6 => ?_
      (first | refine SV_p (by first | exact True.intro | omega) ?_ | refine HV_p (by first | exact True.intro | omega) ?_)
      have e4 : ((i : Int) / 4).toNat = i / 4 := by omega
      rw [e4, Int.toNat_natCast, wv_set, show (8 : Int).toNat = 8 from rfl, pRow_next hil] at d6
      have h6' : Ch (· = g6) w5 w6 := (Ch.drew w5).trans h6
      refine ⟨⟨i + 1, rfl, by omega, d6, c1.ch h6' n61.symm, c2.ch h6' n62.symm, h5.own h6' (by have := h2.size; have := h3.size; omega)⟩, ?_⟩
      show (64 - ((i : Int) + 1)).toNat < (64 - (i : Int)).toNat
      omega
    · have : i = 64 := by omega
      subst this
      rw [pRow_end] at c6
      refine SV_loadB c1 (by rw [wv_len]; rfl) ?_
      refine SV_loadB c6 (by rw [wv_len, blkOf_len]) ?_
      refine n290 ((sha_step st (blkOf r) (blkOf_len r) _ (hk.no h5)).use fun w6 h6 => ?_)
      refine SU_storeB (c1.no h6) (by rw [wv_len]; rfl) (by rw [wv_len]; rfl) (wv_ones _) fun w7 d1 h7 => ?_
      (first | refine SV_p (by first | exact True.intro | omega) ?_ | refine HV_p (by first | exact True.intro | omega) ?_)
      have hr64 : 64 ≤ r.length := by omega
      refine ⟨⟨_, sstep st (blkOf r), r.drop 64, rfl, ?_, by simp; omega, d1, (c2.no h6).ch h7 n12, (h5.trans h6).own h7 hg1⟩, ?_⟩
      · rw [← hst, blocks_ge hr64]
      · show (ByteArray.mk (r.drop 64).toArray).size < (ByteArray.mk r.toArray).size
        rw [size_str, size_str]; simp; omega
  · refine SV_loadB b1 (by rw [wv_len]; rfl) ?_
    refine SU_storeB b2 (by rw [wv_len]; rfl) rfl (wv_ones _) fun w6 d2 h6 => ?_
    refine CR_N d2 (by rw [wv_len]; rfl) ?_
    rw [← hst, blocks_lt (by omega)]
    exact ⟨rfl, h3.own h6 (by omega)⟩

theorem sha_new (w : World) : Calls Tryz.prog 231 #[] w (retP fun v w' => ∃ g, v = .pointer (some ⟨g, 0, none⟩) ∧ w.heap.size ≤ g ∧ HashAt w' g 282 [] ∧ Ch No w w') := by
  refine c231 ?_
  unfold s231
  refine SV_pu (pu_build (FillOk.nil _)) ?_
  refine SV_box (vs := HashV.cells ⟨false, S8.zero, [], 0⟩) rfl fun g1 w1 hg1 b1 h1 => ?_
  exact ⟨g1, rfl, hg1, ⟨_, b1, .inl ⟨rfl, rfl⟩⟩, h1⟩

theorem sha_write {g : Nat} {m l : List UInt8} {w : World} (hk : KeysAt w) (h1g : 1 < g) (h : HashAt w g 282 m) (hb : m.length + l.length ≤ 4611686018427387904) :
    Calls Tryz.prog 232 #[.pointer (some ⟨g, 0, none⟩), str l] w (retP fun _ w' => HashAt w' g 282 (m ++ l) ∧ Ch (· = g) w w') := by
  obtain ⟨h0, b0, hi⟩ := h
  refine c232 ?_
  unfold s232
  (first | refine SV_p (by first | exact True.intro | omega) ?_ | refine HV_p (by first | exact True.intro | omega) ?_)
  refine CN_ff ?_
  refine JP_cut (fun _ w' => ∃ h : HashV, Blk w' g 282 h.cells ∧ h.begun = true ∧ (h.s, h.rest) = blocks S8.start m ∧ h.size = m.length ∧ Ch (· = g) w w') ?_ ?_
  · (first | refine SV_p (by first | exact True.intro | omega) ?_ | refine HV_p (by first | exact True.intro | omega) ?_)
    (first | refine SV_p (by first | exact True.intro | omega) ?_ | refine HV_p (by first | exact True.intro | omega) ?_)
    refine SV_load b0 rfl ?_
    (first | refine SV_p (by first | exact True.intro | omega) ?_ | refine HV_p (by first | exact True.intro | omega) ?_)
    rcases hi with ⟨rfl, rfl⟩ | ⟨hbg, hst, hsz⟩
    · refine CN_tt ?_
      refine n266 ((sha_start w).use fun w1 h1 => ?_)
      (first | refine SV_p (by first | exact True.intro | omega) ?_ | refine HV_p (by first | exact True.intro | omega) ?_)
      (first | refine SV_p (by first | exact True.intro | omega) ?_ | refine HV_p (by first | exact True.intro | omega) ?_)
      refine SU_store (b0.no h1) (by rw [HashV.len]; omega) rfl fun w2 b2 h2 => ?_
      (first | refine SV_p (by first | exact True.intro | omega) ?_ | refine HV_p (by first | exact True.intro | omega) ?_)
      (first | refine SV_p (by first | exact True.intro | omega) ?_ | refine HV_p (by first | exact True.intro | omega) ?_)
      refine SU_storeN b2 (by rw [wv_len]; rfl) (by rw [List.length_set, HashV.len]; omega) (wv_ones _) fun w3 b3 h3 => ?_
      exact ⟨⟨true, S8.start, [], 0⟩, b3, rfl, by rw [blocks_lt (by simp)], rfl, h1.no.trans (h2.trans h3)⟩
    · rw [hbg]
      refine CN_ff ?_
      exact ⟨h0, b0, hbg, hst, hsz, Ch.refl w⟩
  · rintro us hus ζ w1 ⟨h1, b1, hbg, hst, hsz, hc1⟩
    unfold s232_j1
    (first | refine SV_p (by first | exact True.intro | omega) ?_ | refine HV_p (by first | exact True.intro | omega) ?_)
    (first | refine SV_p (by first | exact True.intro | omega) ?_ | refine HV_p (by first | exact True.intro | omega) ?_)
    refine SV_load b1 rfl ?_
    (first | refine SV_p (by first | exact True.intro | omega) ?_ | refine HV_p (by first | exact True.intro | omega) ?_)
    (first | refine SV_p (by first | exact True.intro | omega) ?_ | refine HV_p (by first | exact True.intro | omega) ?_)
    (first | refine SV_p (by first | exact True.intro | omega) ?_ | refine HV_p (by first | exact True.intro | omega) ?_)
    (first | refine SV_p (by first | exact True.intro | omega) ?_ | refine HV_p (by first | exact True.intro | omega) ?_)
    refine SU_store b1 (by rw [HashV.len]; omega) rfl fun w2 b2 h2 => ?_
    have b2' : Blk w2 g 282 (HashV.cells ⟨h1.begun, h1.s, h1.rest, h1.size + l.length⟩) := b2
    refine HR_kp No ?_
    (first | refine SV_p (by first | exact True.intro | omega) ?_ | refine HV_p (by first | exact True.intro | omega) ?_)
    (first | refine SV_p (by first | exact True.intro | omega) ?_ | refine HV_p (by first | exact True.intro | omega) ?_)
    refine HV_loadN b2' (fun h => h) (vs := wv h1.s.l) rfl (by rw [wv_len]; rfl) ?_
    (first | refine SV_p (by first | exact True.intro | omega) ?_ | refine HV_p (by first | exact True.intro | omega) ?_)
    (first | refine SV_p (by first | exact True.intro | omega) ?_ | refine HV_p (by first | exact True.intro | omega) ?_)
    refine HV_load b2' (fun h => h) (v := str h1.rest) rfl ?_
    have hrl : h1.rest.length ≤ m.length := by
      have := congrArg Prod.snd hst
      simp only at this
      rw [this, blocks_len]; omega
    (first | refine SV_p (by first | exact True.intro | omega) ?_ | refine HV_p (by first | exact True.intro | omega) ?_)
    have hk2 : KeysAt w2.drew := ((hk.ch hc1 (by omega)).ch h2 (by omega)).no (Ch.drew _)
    refine n267 ((sha_blocks h1.s (h1.rest ++ l) _ hk2 (by rw [List.length_append]; omega)).use fun w3 h3 => ?_)
    have h3' : Ch (· = g) w2 w3 := ((Ch.drew _).trans h3).no
    refine ⟨Kp (· = g) w2, fun _ h => Ch.no h, h3', ?_⟩
    (first | refine SV_p (by first | exact True.intro | omega) ?_ | refine HV_p (by first | exact True.intro | omega) ?_)
    (first | refine SV_p (by first | exact True.intro | omega) ?_ | refine HV_p (by first | exact True.intro | omega) ?_)
    (first | refine SV_p (by first | exact True.intro | omega) ?_ | refine HV_p (by first | exact True.intro | omega) ?_)
    (first | refine SV_p (by first | exact True.intro | omega) ?_ | refine HV_p (by first | exact True.intro | omega) ?_)
    have b3 := (b2'.drew).no h3
    refine SU_storeN b3 (by rw [wv_len]; rfl) (by rw [HashV.len]; omega) (wv_ones _) fun w4 b4 h4 => ?_
    (first | refine RS_same (h3'.trans h4) ?_ | refine ⟨h3'.trans h4, ?_⟩)
    (first | refine SV_p (by first | exact True.intro | omega) ?_ | refine HV_p (by first | exact True.intro | omega) ?_)
    (first | refine SV_p (by first | exact True.intro | omega) ?_ | refine HV_p (by first | exact True.intro | omega) ?_)
    refine SU_store b4 (by simp [HashV.len, S8.l_len]) rfl fun w5 b5 h5 => ?_
    (first | refine SV_p (by first | exact True.intro | omega) ?_ | refine HV_p (by first | exact True.intro | omega) ?_)
    refine ⟨⟨⟨h1.begun, (blocks h1.s (h1.rest ++ l)).1, (blocks h1.s (h1.rest ++ l)).2, h1.size + l.length⟩, b5, .inr ⟨hbg, ?_, ?_⟩⟩, hc1.trans (h2.trans (h3'.trans (h4.trans h5)))⟩
    · rw [blocks_append S8.start m l, ← hst]
    · rw [List.length_append, hsz]; simp
end Go.Proofs.YtkdghnbogkbedaaGreatDoor

namespace Go.Proofs.YtkdghnbogkbedaaGreatDoor
open Go Go.Sh
set_option maxRecDepth 100000


theorem mixedXStrings : Tryz.prog.follows .mixedOrders = true := by kernel_rfl

/-! ### 170: strings.CutPrefix -/

def s170 (P : Program) (k : Value → World → Prop) (a0_s : Value) (a1_prefix : Value) (w : World) : Prop :=
  SN P (callFunc 247 #[a0_s, a1_prefix]) w fun t8 w =>
  SV P (Instr.extract t8 0) w fun t9 w =>
  SV P (Instr.extract t8 1) w fun t10 w =>
  k (.tuple #[t9, t10]) w

theorem e170 (k : Value → World → Prop) (a0_s a1_prefix : Value) (w : World) : s170 Tryz.prog k a0_s a1_prefix w = vcF Tryz.prog Tryz.f170 [] [a0_s, a1_prefix] k w := by kernel_rfl
theorem c170 {k : Value → World → Prop} {a0_s a1_prefix : Value} {w : World} (h : s170 Tryz.prog k a0_s a1_prefix w) : Calls Tryz.prog 170 #[a0_s, a1_prefix] w (retP k) :=
  calls_of_vcF [] mixedXStrings Tryz.func170 (by kernel_rfl) (Eq.mp (e170 k a0_s a1_prefix w) h)
theorem n170 {args : Array Value} {w : World} {k : Value → World → Prop} (h : Calls Tryz.prog 170 args w (retP k)) : SN Tryz.prog (callFunc 170 args) w k := sn_call Tryz.func170 (by kernel_rfl) (by kernel_rfl) h

/-! ### 171: strings.HasPrefix -/

def s171 (P : Program) (k : Value → World → Prop) (a0_s : Value) (a1_prefix : Value) (w : World) : Prop :=
  SN P (callFunc 248 #[a0_s, a1_prefix]) w fun t7 w =>
  k t7 w

theorem e171 (k : Value → World → Prop) (a0_s a1_prefix : Value) (w : World) : s171 Tryz.prog k a0_s a1_prefix w = vcF Tryz.prog Tryz.f171 [] [a0_s, a1_prefix] k w := by kernel_rfl
theorem c171 {k : Value → World → Prop} {a0_s a1_prefix : Value} {w : World} (h : s171 Tryz.prog k a0_s a1_prefix w) : Calls Tryz.prog 171 #[a0_s, a1_prefix] w (retP k) :=
  calls_of_vcF [] mixedXStrings Tryz.func171 (by kernel_rfl) (Eq.mp (e171 k a0_s a1_prefix w) h)
theorem n171 {args : Array Value} {w : World} {k : Value → World → Prop} (h : Calls Tryz.prog 171 args w (retP k)) : SN Tryz.prog (callFunc 171 args) w k := sn_call Tryz.func171 (by kernel_rfl) (by kernel_rfl) h

/-! ### 217: strings.Join -/

def s217_j1 (P : Program) (_ : Value → World → Prop) (a0_elems : Value) (a1_sep : Value) (j : List Value → World → Prop) (w : World) : Prop :=
  SV P (Builtin.len_ #[9] 3 #[a1_sep]) w fun t33 w =>
  SV P (Builtin.len_ #[249] 3 #[a0_elems]) w fun t35 w =>
  SV P (binOp .sub 3 t35 (Value.int .i64 1)) w fun t36 w =>
  SV P (binOp .mul 3 t33 t36) w fun t37 w =>
  SV P (binOp .add 3 (Value.int .i64 0) t37) w fun t38 w =>
  j [t38] w

def s217_j2 (P : Program) (_ : Value → World → Prop) (n5_1 : Value) (j : List Value → World → Prop) (t44 : Value) (w : World) : Prop :=
  SV P (Builtin.len_ #[9] 3 #[t44]) w fun t53 w =>
  SV P (binOp .add 3 n5_1 t53) w fun t54 w =>
  j [t54] w

def s217_j3 (P : Program) (_ : Value → World → Prop) (t41 : Value) (next : List Value → World → Prop) (n5_2 : Value) (w : World) : Prop :=
  SV P (binOp .add 3 t41 (Value.int .i64 1)) w fun t55 w =>
  next [n5_2, t55] w

def s217_l1 (P : Program) (k : Value → World → Prop) (a1_sep : Value) (b8 : Value) (t63 : Value) (t64 : Value) (t65 : Value) (next_1 : List Value → World → Prop) (w : World) : Prop :=
  SV P (binOp .lss 3 t65 t64) w fun t66 w =>
  CN t66
  (SV P (Instr.indexAt 249 t63 t65) w fun t67 w =>
  SV P (Instr.loadAt 9 t67) w fun t68 w =>
  SN P (callFunc 162 #[b8, a1_sep]) w fun _ w =>
  SN P (callFunc 162 #[b8, t68]) w fun _ w =>
  SV P (binOp .add 3 t65 (Value.int .i64 1)) w fun t73 w =>
  next_1 [t73] w)
  (SN P (callFunc 165 #[b8]) w fun t74 w =>
  k t74 w)

def s217_l2 (P : Program) (k : Value → World → Prop) (a0_elems : Value) (a1_sep : Value) (t40 : Value) (n5_1 : Value) (t41 : Value) (next : List Value → World → Prop) (w : World) : Prop :=
  SV P (binOp .lss 3 t41 t40) w fun t42 w =>
  CN t42
  (JP 1 (fun j =>
  SV P (Instr.indexAt 249 a0_elems t41) w fun t43 w =>
  SV P (Instr.loadAt 9 t43) w fun t44 w =>
  JP 0 (fun j_1 =>
  SV P (Builtin.len_ #[9] 3 #[t44]) w fun t46 w =>
  SV P (binOp .sub 3 (Value.int .i64 9223372036854775807) n5_1) w fun t48 w =>
  SV P (binOp .gtr 3 t46 t48) w fun t49 w =>
  CN t49
  (SV P (Instr.makeInterface 9 (str [115, 116, 114, 105, 110, 103, 115, 58, 32, 74, 111, 105, 110, 32, 111, 117, 116, 112, 117, 116, 32, 108, 101, 110, 103, 116, 104, 32, 111, 118, 101, 114, 102, 108, 111, 119])) w fun _ w =>
  False)
  (j_1 [] w))
  (fun _ _ w => s217_j2 P k n5_1 j t44 w))
  (fun _ us w => s217_j3 P k t41 next (us.getD 0 undef) w))
  (SV P (Instr.alloc 217 true (.tuple #[])) w fun b8 w =>
  SN P (callFunc 261 #[b8, n5_1]) w fun _ w =>
  SV P (Instr.indexAt 249 a0_elems (Value.int .i64 0)) w fun t59 w =>
  SV P (Instr.loadAt 9 t59) w fun t60 w =>
  SN P (callFunc 162 #[b8, t60]) w fun _ w =>
  SV P (Instr.sliceAt 249 a0_elems (some (Value.int .i64 1)) none none) w fun t63 w =>
  SV P (Builtin.len_ #[249] 3 #[t63]) w fun t64 w =>
  LP 1 [(Value.int .i64 0)] w (fun next_1 _ us w => s217_l1 P k a1_sep b8 t63 t64 (us.getD 0 undef) next_1 w))

def s217_j4 (P : Program) (k : Value → World → Prop) (a0_elems : Value) (a1_sep : Value) (n5 : Value) (w : World) : Prop :=
  SV P (Builtin.len_ #[249] 3 #[a0_elems]) w fun t40 w =>
  LP 2 [n5, (Value.int .i64 0)] w (fun next _ us w => s217_l2 P k a0_elems a1_sep t40 (us.getD 0 undef) (us.getD 1 undef) next w)

def s217 (P : Program) (k : Value → World → Prop) (a0_elems : Value) (a1_sep : Value) (w : World) : Prop :=
  SV P (Builtin.len_ #[249] 3 #[a0_elems]) w fun t12 w =>
  SV P (eqS .eql 3 (.tmp 12) (.const (Value.int .i64 0)) t12 (Value.int .i64 0)) w fun t14 w =>
  CN t14
  (k (str []) w)
  (SV P (eqS .eql 3 (.tmp 12) (.const (Value.int .i64 1)) t12 (Value.int .i64 1)) w fun t16 w =>
  CN t16
  (SV P (Instr.indexAt 249 a0_elems (Value.int .i64 0)) w fun t18 w =>
  SV P (Instr.loadAt 9 t18) w fun t19 w =>
  k t19 w)
  (JP 1 (fun j =>
  SV P (Builtin.len_ #[9] 3 #[a1_sep]) w fun t21 w =>
  SV P (binOp .gtr 3 t21 (Value.int .i64 0)) w fun t22 w =>
  CN t22
  (JP 0 (fun j_1 =>
  SV P (Builtin.len_ #[9] 3 #[a1_sep]) w fun t24 w =>
  SV P (Builtin.len_ #[249] 3 #[a0_elems]) w fun t26 w =>
  SV P (binOp .sub 3 t26 (Value.int .i64 1)) w fun t27 w =>
  SV P (binOp .quo 3 (Value.int .i64 9223372036854775807) t27) w fun t28 w =>
  SV P (binOp .geq 3 t24 t28) w fun t29 w =>
  CN t29
  (SV P (Instr.makeInterface 9 (str [115, 116, 114, 105, 110, 103, 115, 58, 32, 74, 111, 105, 110, 32, 111, 117, 116, 112, 117, 116, 32, 108, 101, 110, 103, 116, 104, 32, 111, 118, 101, 114, 102, 108, 111, 119])) w fun _ w =>
  False)
  (j_1 [] w))
  (fun _ _ w => s217_j1 P k a0_elems a1_sep j w))
  (j [(Value.int .i64 0)] w))
  (fun _ us w => s217_j4 P k a0_elems a1_sep (us.getD 0 undef) w)))

theorem e217 (k : Value → World → Prop) (a0_elems a1_sep : Value) (w : World) : s217 Tryz.prog k a0_elems a1_sep w = vcF Tryz.prog Tryz.f217 [5, 41, 65] [a0_elems, a1_sep] k w := by kernel_rfl
theorem c217 {k : Value → World → Prop} {a0_elems a1_sep : Value} {w : World} (h : s217 Tryz.prog k a0_elems a1_sep w) : Calls Tryz.prog 217 #[a0_elems, a1_sep] w (retP k) :=
  calls_of_vcF [5, 41, 65] mixedXStrings Tryz.func217 (by kernel_rfl) (Eq.mp (e217 k a0_elems a1_sep w) h)
theorem n217 {args : Array Value} {w : World} {k : Value → World → Prop} (h : Calls Tryz.prog 217 args w (retP k)) : SN Tryz.prog (callFunc 217 args) w k := sn_call Tryz.func217 (by kernel_rfl) (by kernel_rfl) h

/-! ### 242: strings.Repeat -/

def s242_j1 (P : Program) (k : Value → World → Prop) (a0_s : Value) (t37 : Value) (j : List Value → World → Prop) (t43 : Value) (w : World) : Prop :=
  CN t43
  (SV P (binOp .leq 3 t37 (Value.int .i64 128)) w fun t51 w =>
  GD t51 true
  (SN P (callFunc 171 #[(str [32, 32, 32, 32, 32, 32, 32, 32, 32, 32, 32, 32, 32, 32, 32, 32, 32, 32, 32, 32, 32, 32, 32, 32, 32, 32, 32, 32, 32, 32, 32, 32, 32, 32, 32, 32, 32, 32, 32, 32, 32, 32, 32, 32, 32, 32, 32, 32, 32, 32, 32, 32, 32, 32, 32, 32, 32, 32, 32, 32, 32, 32, 32, 32, 32, 32, 32, 32, 32, 32, 32, 32, 32, 32, 32, 32, 32, 32, 32, 32, 32, 32, 32, 32, 32, 32, 32, 32, 32, 32, 32, 32, 32, 32, 32, 32, 32, 32, 32, 32, 32, 32, 32, 32, 32, 32, 32, 32, 32, 32, 32, 32, 32, 32, 32, 32, 32, 32, 32, 32, 32, 32, 32, 32, 32, 32, 32, 32]), a0_s]) w fun t54 w =>
  CN t54
  (SV P (Instr.sliceAt 9 (str [32, 32, 32, 32, 32, 32, 32, 32, 32, 32, 32, 32, 32, 32, 32, 32, 32, 32, 32, 32, 32, 32, 32, 32, 32, 32, 32, 32, 32, 32, 32, 32, 32, 32, 32, 32, 32, 32, 32, 32, 32, 32, 32, 32, 32, 32, 32, 32, 32, 32, 32, 32, 32, 32, 32, 32, 32, 32, 32, 32, 32, 32, 32, 32, 32, 32, 32, 32, 32, 32, 32, 32, 32, 32, 32, 32, 32, 32, 32, 32, 32, 32, 32, 32, 32, 32, 32, 32, 32, 32, 32, 32, 32, 32, 32, 32, 32, 32, 32, 32, 32, 32, 32, 32, 32, 32, 32, 32, 32, 32, 32, 32, 32, 32, 32, 32, 32, 32, 32, 32, 32, 32, 32, 32, 32, 32, 32, 32]) none (some t37) none) w fun t57 w =>
  k t57 w)
  (SV P (binOp .leq 3 t37 (Value.int .i64 128)) w fun t60 w =>
  GD t60 true
  (SN P (callFunc 171 #[(str [45, 45, 45, 45, 45, 45, 45, 45, 45, 45, 45, 45, 45, 45, 45, 45, 45, 45, 45, 45, 45, 45, 45, 45, 45, 45, 45, 45, 45, 45, 45, 45, 45, 45, 45, 45, 45, 45, 45, 45, 45, 45, 45, 45, 45, 45, 45, 45, 45, 45, 45, 45, 45, 45, 45, 45, 45, 45, 45, 45, 45, 45, 45, 45, 45, 45, 45, 45, 45, 45, 45, 45, 45, 45, 45, 45, 45, 45, 45, 45, 45, 45, 45, 45, 45, 45, 45, 45, 45, 45, 45, 45, 45, 45, 45, 45, 45, 45, 45, 45, 45, 45, 45, 45, 45, 45, 45, 45, 45, 45, 45, 45, 45, 45, 45, 45, 45, 45, 45, 45, 45, 45, 45, 45, 45, 45, 45, 45]), a0_s]) w fun t63 w =>
  CN t63
  (SV P (Instr.sliceAt 9 (str [45, 45, 45, 45, 45, 45, 45, 45, 45, 45, 45, 45, 45, 45, 45, 45, 45, 45, 45, 45, 45, 45, 45, 45, 45, 45, 45, 45, 45, 45, 45, 45, 45, 45, 45, 45, 45, 45, 45, 45, 45, 45, 45, 45, 45, 45, 45, 45, 45, 45, 45, 45, 45, 45, 45, 45, 45, 45, 45, 45, 45, 45, 45, 45, 45, 45, 45, 45, 45, 45, 45, 45, 45, 45, 45, 45, 45, 45, 45, 45, 45, 45, 45, 45, 45, 45, 45, 45, 45, 45, 45, 45, 45, 45, 45, 45, 45, 45, 45, 45, 45, 45, 45, 45, 45, 45, 45, 45, 45, 45, 45, 45, 45, 45, 45, 45, 45, 45, 45, 45, 45, 45, 45, 45, 45, 45, 45, 45]) none (some t37) none) w fun t66 w =>
  k t66 w)
  (SV P (binOp .leq 3 t37 (Value.int .i64 64)) w fun t69 w =>
  GD t69 true
  (SN P (callFunc 171 #[(str [48, 48, 48, 48, 48, 48, 48, 48, 48, 48, 48, 48, 48, 48, 48, 48, 48, 48, 48, 48, 48, 48, 48, 48, 48, 48, 48, 48, 48, 48, 48, 48, 48, 48, 48, 48, 48, 48, 48, 48, 48, 48, 48, 48, 48, 48, 48, 48, 48, 48, 48, 48, 48, 48, 48, 48, 48, 48, 48, 48, 48, 48, 48, 48]), a0_s]) w fun t72 w =>
  CN t72
  (SV P (Instr.sliceAt 9 (str [48, 48, 48, 48, 48, 48, 48, 48, 48, 48, 48, 48, 48, 48, 48, 48, 48, 48, 48, 48, 48, 48, 48, 48, 48, 48, 48, 48, 48, 48, 48, 48, 48, 48, 48, 48, 48, 48, 48, 48, 48, 48, 48, 48, 48, 48, 48, 48, 48, 48, 48, 48, 48, 48, 48, 48, 48, 48, 48, 48, 48, 48, 48, 48]) none (some t37) none) w fun t75 w =>
  k t75 w)
  (SV P (binOp .leq 3 t37 (Value.int .i64 128)) w fun t78 w =>
  GD t78 true
  (SN P (callFunc 171 #[(str [61, 61, 61, 61, 61, 61, 61, 61, 61, 61, 61, 61, 61, 61, 61, 61, 61, 61, 61, 61, 61, 61, 61, 61, 61, 61, 61, 61, 61, 61, 61, 61, 61, 61, 61, 61, 61, 61, 61, 61, 61, 61, 61, 61, 61, 61, 61, 61, 61, 61, 61, 61, 61, 61, 61, 61, 61, 61, 61, 61, 61, 61, 61, 61, 61, 61, 61, 61, 61, 61, 61, 61, 61, 61, 61, 61, 61, 61, 61, 61, 61, 61, 61, 61, 61, 61, 61, 61, 61, 61, 61, 61, 61, 61, 61, 61, 61, 61, 61, 61, 61, 61, 61, 61, 61, 61, 61, 61, 61, 61, 61, 61, 61, 61, 61, 61, 61, 61, 61, 61, 61, 61, 61, 61, 61, 61, 61, 61]), a0_s]) w fun t81 w =>
  CN t81
  (SV P (Instr.sliceAt 9 (str [61, 61, 61, 61, 61, 61, 61, 61, 61, 61, 61, 61, 61, 61, 61, 61, 61, 61, 61, 61, 61, 61, 61, 61, 61, 61, 61, 61, 61, 61, 61, 61, 61, 61, 61, 61, 61, 61, 61, 61, 61, 61, 61, 61, 61, 61, 61, 61, 61, 61, 61, 61, 61, 61, 61, 61, 61, 61, 61, 61, 61, 61, 61, 61, 61, 61, 61, 61, 61, 61, 61, 61, 61, 61, 61, 61, 61, 61, 61, 61, 61, 61, 61, 61, 61, 61, 61, 61, 61, 61, 61, 61, 61, 61, 61, 61, 61, 61, 61, 61, 61, 61, 61, 61, 61, 61, 61, 61, 61, 61, 61, 61, 61, 61, 61, 61, 61, 61, 61, 61, 61, 61, 61, 61, 61, 61, 61, 61]) none (some t37) none) w fun t84 w =>
  k t84 w)
  (SV P (binOp .leq 3 t37 (Value.int .i64 64)) w fun t87 w =>
  GD t87 true
  (SN P (callFunc 171 #[(str [9, 9, 9, 9, 9, 9, 9, 9, 9, 9, 9, 9, 9, 9, 9, 9, 9, 9, 9, 9, 9, 9, 9, 9, 9, 9, 9, 9, 9, 9, 9, 9, 9, 9, 9, 9, 9, 9, 9, 9, 9, 9, 9, 9, 9, 9, 9, 9, 9, 9, 9, 9, 9, 9, 9, 9, 9, 9, 9, 9, 9, 9, 9, 9]), a0_s]) w fun t90 w =>
  CN t90
  (SV P (Instr.sliceAt 9 (str [9, 9, 9, 9, 9, 9, 9, 9, 9, 9, 9, 9, 9, 9, 9, 9, 9, 9, 9, 9, 9, 9, 9, 9, 9, 9, 9, 9, 9, 9, 9, 9, 9, 9, 9, 9, 9, 9, 9, 9, 9, 9, 9, 9, 9, 9, 9, 9, 9, 9, 9, 9, 9, 9, 9, 9, 9, 9, 9, 9, 9, 9, 9, 9]) none (some t37) none) w fun t93 w =>
  k t93 w)
  (j [t43] w))
  (j [t43] w)))
  (SV P (binOp .leq 3 t37 (Value.int .i64 64)) w fun t87 w =>
  GD t87 true
  (SN P (callFunc 171 #[(str [9, 9, 9, 9, 9, 9, 9, 9, 9, 9, 9, 9, 9, 9, 9, 9, 9, 9, 9, 9, 9, 9, 9, 9, 9, 9, 9, 9, 9, 9, 9, 9, 9, 9, 9, 9, 9, 9, 9, 9, 9, 9, 9, 9, 9, 9, 9, 9, 9, 9, 9, 9, 9, 9, 9, 9, 9, 9, 9, 9, 9, 9, 9, 9]), a0_s]) w fun t90 w =>
  CN t90
  (SV P (Instr.sliceAt 9 (str [9, 9, 9, 9, 9, 9, 9, 9, 9, 9, 9, 9, 9, 9, 9, 9, 9, 9, 9, 9, 9, 9, 9, 9, 9, 9, 9, 9, 9, 9, 9, 9, 9, 9, 9, 9, 9, 9, 9, 9, 9, 9, 9, 9, 9, 9, 9, 9, 9, 9, 9, 9, 9, 9, 9, 9, 9, 9, 9, 9, 9, 9, 9, 9]) none (some t37) none) w fun t93 w =>
  k t93 w)
  (j [t43] w))
  (j [t43] w))))
  (SV P (binOp .leq 3 t37 (Value.int .i64 128)) w fun t78 w =>
  GD t78 true
  (SN P (callFunc 171 #[(str [61, 61, 61, 61, 61, 61, 61, 61, 61, 61, 61, 61, 61, 61, 61, 61, 61, 61, 61, 61, 61, 61, 61, 61, 61, 61, 61, 61, 61, 61, 61, 61, 61, 61, 61, 61, 61, 61, 61, 61, 61, 61, 61, 61, 61, 61, 61, 61, 61, 61, 61, 61, 61, 61, 61, 61, 61, 61, 61, 61, 61, 61, 61, 61, 61, 61, 61, 61, 61, 61, 61, 61, 61, 61, 61, 61, 61, 61, 61, 61, 61, 61, 61, 61, 61, 61, 61, 61, 61, 61, 61, 61, 61, 61, 61, 61, 61, 61, 61, 61, 61, 61, 61, 61, 61, 61, 61, 61, 61, 61, 61, 61, 61, 61, 61, 61, 61, 61, 61, 61, 61, 61, 61, 61, 61, 61, 61, 61]), a0_s]) w fun t81 w =>
  CN t81
  (SV P (Instr.sliceAt 9 (str [61, 61, 61, 61, 61, 61, 61, 61, 61, 61, 61, 61, 61, 61, 61, 61, 61, 61, 61, 61, 61, 61, 61, 61, 61, 61, 61, 61, 61, 61, 61, 61, 61, 61, 61, 61, 61, 61, 61, 61, 61, 61, 61, 61, 61, 61, 61, 61, 61, 61, 61, 61, 61, 61, 61, 61, 61, 61, 61, 61, 61, 61, 61, 61, 61, 61, 61, 61, 61, 61, 61, 61, 61, 61, 61, 61, 61, 61, 61, 61, 61, 61, 61, 61, 61, 61, 61, 61, 61, 61, 61, 61, 61, 61, 61, 61, 61, 61, 61, 61, 61, 61, 61, 61, 61, 61, 61, 61, 61, 61, 61, 61, 61, 61, 61, 61, 61, 61, 61, 61, 61, 61, 61, 61, 61, 61, 61, 61]) none (some t37) none) w fun t84 w =>
  k t84 w)
  (SV P (binOp .leq 3 t37 (Value.int .i64 64)) w fun t87 w =>
  GD t87 true
  (SN P (callFunc 171 #[(str [9, 9, 9, 9, 9, 9, 9, 9, 9, 9, 9, 9, 9, 9, 9, 9, 9, 9, 9, 9, 9, 9, 9, 9, 9, 9, 9, 9, 9, 9, 9, 9, 9, 9, 9, 9, 9, 9, 9, 9, 9, 9, 9, 9, 9, 9, 9, 9, 9, 9, 9, 9, 9, 9, 9, 9, 9, 9, 9, 9, 9, 9, 9, 9]), a0_s]) w fun t90 w =>
  CN t90
  (SV P (Instr.sliceAt 9 (str [9, 9, 9, 9, 9, 9, 9, 9, 9, 9, 9, 9, 9, 9, 9, 9, 9, 9, 9, 9, 9, 9, 9, 9, 9, 9, 9, 9, 9, 9, 9, 9, 9, 9, 9, 9, 9, 9, 9, 9, 9, 9, 9, 9, 9, 9, 9, 9, 9, 9, 9, 9, 9, 9, 9, 9, 9, 9, 9, 9, 9, 9, 9, 9]) none (some t37) none) w fun t93 w =>
  k t93 w)
  (j [t43] w))
  (j [t43] w)))
  (SV P (binOp .leq 3 t37 (Value.int .i64 64)) w fun t87 w =>
  GD t87 true
  (SN P (callFunc 171 #[(str [9, 9, 9, 9, 9, 9, 9, 9, 9, 9, 9, 9, 9, 9, 9, 9, 9, 9, 9, 9, 9, 9, 9, 9, 9, 9, 9, 9, 9, 9, 9, 9, 9, 9, 9, 9, 9, 9, 9, 9, 9, 9, 9, 9, 9, 9, 9, 9, 9, 9, 9, 9, 9, 9, 9, 9, 9, 9, 9, 9, 9, 9, 9, 9]), a0_s]) w fun t90 w =>
  CN t90
  (SV P (Instr.sliceAt 9 (str [9, 9, 9, 9, 9, 9, 9, 9, 9, 9, 9, 9, 9, 9, 9, 9, 9, 9, 9, 9, 9, 9, 9, 9, 9, 9, 9, 9, 9, 9, 9, 9, 9, 9, 9, 9, 9, 9, 9, 9, 9, 9, 9, 9, 9, 9, 9, 9, 9, 9, 9, 9, 9, 9, 9, 9, 9, 9, 9, 9, 9, 9, 9, 9]) none (some t37) none) w fun t93 w =>
  k t93 w)
  (j [t43] w))
  (j [t43] w)))))
  (SV P (binOp .leq 3 t37 (Value.int .i64 64)) w fun t69 w =>
  GD t69 true
  (SN P (callFunc 171 #[(str [48, 48, 48, 48, 48, 48, 48, 48, 48, 48, 48, 48, 48, 48, 48, 48, 48, 48, 48, 48, 48, 48, 48, 48, 48, 48, 48, 48, 48, 48, 48, 48, 48, 48, 48, 48, 48, 48, 48, 48, 48, 48, 48, 48, 48, 48, 48, 48, 48, 48, 48, 48, 48, 48, 48, 48, 48, 48, 48, 48, 48, 48, 48, 48]), a0_s]) w fun t72 w =>
  CN t72
  (SV P (Instr.sliceAt 9 (str [48, 48, 48, 48, 48, 48, 48, 48, 48, 48, 48, 48, 48, 48, 48, 48, 48, 48, 48, 48, 48, 48, 48, 48, 48, 48, 48, 48, 48, 48, 48, 48, 48, 48, 48, 48, 48, 48, 48, 48, 48, 48, 48, 48, 48, 48, 48, 48, 48, 48, 48, 48, 48, 48, 48, 48, 48, 48, 48, 48, 48, 48, 48, 48]) none (some t37) none) w fun t75 w =>
  k t75 w)
  (SV P (binOp .leq 3 t37 (Value.int .i64 128)) w fun t78 w =>
  GD t78 true
  (SN P (callFunc 171 #[(str [61, 61, 61, 61, 61, 61, 61, 61, 61, 61, 61, 61, 61, 61, 61, 61, 61, 61, 61, 61, 61, 61, 61, 61, 61, 61, 61, 61, 61, 61, 61, 61, 61, 61, 61, 61, 61, 61, 61, 61, 61, 61, 61, 61, 61, 61, 61, 61, 61, 61, 61, 61, 61, 61, 61, 61, 61, 61, 61, 61, 61, 61, 61, 61, 61, 61, 61, 61, 61, 61, 61, 61, 61, 61, 61, 61, 61, 61, 61, 61, 61, 61, 61, 61, 61, 61, 61, 61, 61, 61, 61, 61, 61, 61, 61, 61, 61, 61, 61, 61, 61, 61, 61, 61, 61, 61, 61, 61, 61, 61, 61, 61, 61, 61, 61, 61, 61, 61, 61, 61, 61, 61, 61, 61, 61, 61, 61, 61]), a0_s]) w fun t81 w =>
  CN t81
  (SV P (Instr.sliceAt 9 (str [61, 61, 61, 61, 61, 61, 61, 61, 61, 61, 61, 61, 61, 61, 61, 61, 61, 61, 61, 61, 61, 61, 61, 61, 61, 61, 61, 61, 61, 61, 61, 61, 61, 61, 61, 61, 61, 61, 61, 61, 61, 61, 61, 61, 61, 61, 61, 61, 61, 61, 61, 61, 61, 61, 61, 61, 61, 61, 61, 61, 61, 61, 61, 61, 61, 61, 61, 61, 61, 61, 61, 61, 61, 61, 61, 61, 61, 61, 61, 61, 61, 61, 61, 61, 61, 61, 61, 61, 61, 61, 61, 61, 61, 61, 61, 61, 61, 61, 61, 61, 61, 61, 61, 61, 61, 61, 61, 61, 61, 61, 61, 61, 61, 61, 61, 61, 61, 61, 61, 61, 61, 61, 61, 61, 61, 61, 61, 61]) none (some t37) none) w fun t84 w =>
  k t84 w)
  (SV P (binOp .leq 3 t37 (Value.int .i64 64)) w fun t87 w =>
  GD t87 true
  (SN P (callFunc 171 #[(str [9, 9, 9, 9, 9, 9, 9, 9, 9, 9, 9, 9, 9, 9, 9, 9, 9, 9, 9, 9, 9, 9, 9, 9, 9, 9, 9, 9, 9, 9, 9, 9, 9, 9, 9, 9, 9, 9, 9, 9, 9, 9, 9, 9, 9, 9, 9, 9, 9, 9, 9, 9, 9, 9, 9, 9, 9, 9, 9, 9, 9, 9, 9, 9]), a0_s]) w fun t90 w =>
  CN t90
  (SV P (Instr.sliceAt 9 (str [9, 9, 9, 9, 9, 9, 9, 9, 9, 9, 9, 9, 9, 9, 9, 9, 9, 9, 9, 9, 9, 9, 9, 9, 9, 9, 9, 9, 9, 9, 9, 9, 9, 9, 9, 9, 9, 9, 9, 9, 9, 9, 9, 9, 9, 9, 9, 9, 9, 9, 9, 9, 9, 9, 9, 9, 9, 9, 9, 9, 9, 9, 9, 9]) none (some t37) none) w fun t93 w =>
  k t93 w)
  (j [t43] w))
  (j [t43] w)))
  (SV P (binOp .leq 3 t37 (Value.int .i64 64)) w fun t87 w =>
  GD t87 true
  (SN P (callFunc 171 #[(str [9, 9, 9, 9, 9, 9, 9, 9, 9, 9, 9, 9, 9, 9, 9, 9, 9, 9, 9, 9, 9, 9, 9, 9, 9, 9, 9, 9, 9, 9, 9, 9, 9, 9, 9, 9, 9, 9, 9, 9, 9, 9, 9, 9, 9, 9, 9, 9, 9, 9, 9, 9, 9, 9, 9, 9, 9, 9, 9, 9, 9, 9, 9, 9]), a0_s]) w fun t90 w =>
  CN t90
  (SV P (Instr.sliceAt 9 (str [9, 9, 9, 9, 9, 9, 9, 9, 9, 9, 9, 9, 9, 9, 9, 9, 9, 9, 9, 9, 9, 9, 9, 9, 9, 9, 9, 9, 9, 9, 9, 9, 9, 9, 9, 9, 9, 9, 9, 9, 9, 9, 9, 9, 9, 9, 9, 9, 9, 9, 9, 9, 9, 9, 9, 9, 9, 9, 9, 9, 9, 9, 9, 9]) none (some t37) none) w fun t93 w =>
  k t93 w)
  (j [t43] w))
  (j [t43] w))))
  (SV P (binOp .leq 3 t37 (Value.int .i64 128)) w fun t78 w =>
  GD t78 true
  (SN P (callFunc 171 #[(str [61, 61, 61, 61, 61, 61, 61, 61, 61, 61, 61, 61, 61, 61, 61, 61, 61, 61, 61, 61, 61, 61, 61, 61, 61, 61, 61, 61, 61, 61, 61, 61, 61, 61, 61, 61, 61, 61, 61, 61, 61, 61, 61, 61, 61, 61, 61, 61, 61, 61, 61, 61, 61, 61, 61, 61, 61, 61, 61, 61, 61, 61, 61, 61, 61, 61, 61, 61, 61, 61, 61, 61, 61, 61, 61, 61, 61, 61, 61, 61, 61, 61, 61, 61, 61, 61, 61, 61, 61, 61, 61, 61, 61, 61, 61, 61, 61, 61, 61, 61, 61, 61, 61, 61, 61, 61, 61, 61, 61, 61, 61, 61, 61, 61, 61, 61, 61, 61, 61, 61, 61, 61, 61, 61, 61, 61, 61, 61]), a0_s]) w fun t81 w =>
  CN t81
  (SV P (Instr.sliceAt 9 (str [61, 61, 61, 61, 61, 61, 61, 61, 61, 61, 61, 61, 61, 61, 61, 61, 61, 61, 61, 61, 61, 61, 61, 61, 61, 61, 61, 61, 61, 61, 61, 61, 61, 61, 61, 61, 61, 61, 61, 61, 61, 61, 61, 61, 61, 61, 61, 61, 61, 61, 61, 61, 61, 61, 61, 61, 61, 61, 61, 61, 61, 61, 61, 61, 61, 61, 61, 61, 61, 61, 61, 61, 61, 61, 61, 61, 61, 61, 61, 61, 61, 61, 61, 61, 61, 61, 61, 61, 61, 61, 61, 61, 61, 61, 61, 61, 61, 61, 61, 61, 61, 61, 61, 61, 61, 61, 61, 61, 61, 61, 61, 61, 61, 61, 61, 61, 61, 61, 61, 61, 61, 61, 61, 61, 61, 61, 61, 61]) none (some t37) none) w fun t84 w =>
  k t84 w)
  (SV P (binOp .leq 3 t37 (Value.int .i64 64)) w fun t87 w =>
  GD t87 true
  (SN P (callFunc 171 #[(str [9, 9, 9, 9, 9, 9, 9, 9, 9, 9, 9, 9, 9, 9, 9, 9, 9, 9, 9, 9, 9, 9, 9, 9, 9, 9, 9, 9, 9, 9, 9, 9, 9, 9, 9, 9, 9, 9, 9, 9, 9, 9, 9, 9, 9, 9, 9, 9, 9, 9, 9, 9, 9, 9, 9, 9, 9, 9, 9, 9, 9, 9, 9, 9]), a0_s]) w fun t90 w =>
  CN t90
  (SV P (Instr.sliceAt 9 (str [9, 9, 9, 9, 9, 9, 9, 9, 9, 9, 9, 9, 9, 9, 9, 9, 9, 9, 9, 9, 9, 9, 9, 9, 9, 9, 9, 9, 9, 9, 9, 9, 9, 9, 9, 9, 9, 9, 9, 9, 9, 9, 9, 9, 9, 9, 9, 9, 9, 9, 9, 9, 9, 9, 9, 9, 9, 9, 9, 9, 9, 9, 9, 9]) none (some t37) none) w fun t93 w =>
  k t93 w)
  (j [t43] w))
  (j [t43] w)))
  (SV P (binOp .leq 3 t37 (Value.int .i64 64)) w fun t87 w =>
  GD t87 true
  (SN P (callFunc 171 #[(str [9, 9, 9, 9, 9, 9, 9, 9, 9, 9, 9, 9, 9, 9, 9, 9, 9, 9, 9, 9, 9, 9, 9, 9, 9, 9, 9, 9, 9, 9, 9, 9, 9, 9, 9, 9, 9, 9, 9, 9, 9, 9, 9, 9, 9, 9, 9, 9, 9, 9, 9, 9, 9, 9, 9, 9, 9, 9, 9, 9, 9, 9, 9, 9]), a0_s]) w fun t90 w =>
  CN t90
  (SV P (Instr.sliceAt 9 (str [9, 9, 9, 9, 9, 9, 9, 9, 9, 9, 9, 9, 9, 9, 9, 9, 9, 9, 9, 9, 9, 9, 9, 9, 9, 9, 9, 9, 9, 9, 9, 9, 9, 9, 9, 9, 9, 9, 9, 9, 9, 9, 9, 9, 9, 9, 9, 9, 9, 9, 9, 9, 9, 9, 9, 9, 9, 9, 9, 9, 9, 9, 9, 9]) none (some t37) none) w fun t93 w =>
  k t93 w)
  (j [t43] w))
  (j [t43] w))))))
  (SV P (binOp .leq 3 t37 (Value.int .i64 128)) w fun t60 w =>
  GD t60 true
  (SN P (callFunc 171 #[(str [45, 45, 45, 45, 45, 45, 45, 45, 45, 45, 45, 45, 45, 45, 45, 45, 45, 45, 45, 45, 45, 45, 45, 45, 45, 45, 45, 45, 45, 45, 45, 45, 45, 45, 45, 45, 45, 45, 45, 45, 45, 45, 45, 45, 45, 45, 45, 45, 45, 45, 45, 45, 45, 45, 45, 45, 45, 45, 45, 45, 45, 45, 45, 45, 45, 45, 45, 45, 45, 45, 45, 45, 45, 45, 45, 45, 45, 45, 45, 45, 45, 45, 45, 45, 45, 45, 45, 45, 45, 45, 45, 45, 45, 45, 45, 45, 45, 45, 45, 45, 45, 45, 45, 45, 45, 45, 45, 45, 45, 45, 45, 45, 45, 45, 45, 45, 45, 45, 45, 45, 45, 45, 45, 45, 45, 45, 45, 45]), a0_s]) w fun t63 w =>
  CN t63
  (SV P (Instr.sliceAt 9 (str [45, 45, 45, 45, 45, 45, 45, 45, 45, 45, 45, 45, 45, 45, 45, 45, 45, 45, 45, 45, 45, 45, 45, 45, 45, 45, 45, 45, 45, 45, 45, 45, 45, 45, 45, 45, 45, 45, 45, 45, 45, 45, 45, 45, 45, 45, 45, 45, 45, 45, 45, 45, 45, 45, 45, 45, 45, 45, 45, 45, 45, 45, 45, 45, 45, 45, 45, 45, 45, 45, 45, 45, 45, 45, 45, 45, 45, 45, 45, 45, 45, 45, 45, 45, 45, 45, 45, 45, 45, 45, 45, 45, 45, 45, 45, 45, 45, 45, 45, 45, 45, 45, 45, 45, 45, 45, 45, 45, 45, 45, 45, 45, 45, 45, 45, 45, 45, 45, 45, 45, 45, 45, 45, 45, 45, 45, 45, 45]) none (some t37) none) w fun t66 w =>
  k t66 w)
  (SV P (binOp .leq 3 t37 (Value.int .i64 64)) w fun t69 w =>
  GD t69 true
  (SN P (callFunc 171 #[(str [48, 48, 48, 48, 48, 48, 48, 48, 48, 48, 48, 48, 48, 48, 48, 48, 48, 48, 48, 48, 48, 48, 48, 48, 48, 48, 48, 48, 48, 48, 48, 48, 48, 48, 48, 48, 48, 48, 48, 48, 48, 48, 48, 48, 48, 48, 48, 48, 48, 48, 48, 48, 48, 48, 48, 48, 48, 48, 48, 48, 48, 48, 48, 48]), a0_s]) w fun t72 w =>
  CN t72
  (SV P (Instr.sliceAt 9 (str [48, 48, 48, 48, 48, 48, 48, 48, 48, 48, 48, 48, 48, 48, 48, 48, 48, 48, 48, 48, 48, 48, 48, 48, 48, 48, 48, 48, 48, 48, 48, 48, 48, 48, 48, 48, 48, 48, 48, 48, 48, 48, 48, 48, 48, 48, 48, 48, 48, 48, 48, 48, 48, 48, 48, 48, 48, 48, 48, 48, 48, 48, 48, 48]) none (some t37) none) w fun t75 w =>
  k t75 w)
  (SV P (binOp .leq 3 t37 (Value.int .i64 128)) w fun t78 w =>
  GD t78 true
  (SN P (callFunc 171 #[(str [61, 61, 61, 61, 61, 61, 61, 61, 61, 61, 61, 61, 61, 61, 61, 61, 61, 61, 61, 61, 61, 61, 61, 61, 61, 61, 61, 61, 61, 61, 61, 61, 61, 61, 61, 61, 61, 61, 61, 61, 61, 61, 61, 61, 61, 61, 61, 61, 61, 61, 61, 61, 61, 61, 61, 61, 61, 61, 61, 61, 61, 61, 61, 61, 61, 61, 61, 61, 61, 61, 61, 61, 61, 61, 61, 61, 61, 61, 61, 61, 61, 61, 61, 61, 61, 61, 61, 61, 61, 61, 61, 61, 61, 61, 61, 61, 61, 61, 61, 61, 61, 61, 61, 61, 61, 61, 61, 61, 61, 61, 61, 61, 61, 61, 61, 61, 61, 61, 61, 61, 61, 61, 61, 61, 61, 61, 61, 61]), a0_s]) w fun t81 w =>
  CN t81
  (SV P (Instr.sliceAt 9 (str [61, 61, 61, 61, 61, 61, 61, 61, 61, 61, 61, 61, 61, 61, 61, 61, 61, 61, 61, 61, 61, 61, 61, 61, 61, 61, 61, 61, 61, 61, 61, 61, 61, 61, 61, 61, 61, 61, 61, 61, 61, 61, 61, 61, 61, 61, 61, 61, 61, 61, 61, 61, 61, 61, 61, 61, 61, 61, 61, 61, 61, 61, 61, 61, 61, 61, 61, 61, 61, 61, 61, 61, 61, 61, 61, 61, 61, 61, 61, 61, 61, 61, 61, 61, 61, 61, 61, 61, 61, 61, 61, 61, 61, 61, 61, 61, 61, 61, 61, 61, 61, 61, 61, 61, 61, 61, 61, 61, 61, 61, 61, 61, 61, 61, 61, 61, 61, 61, 61, 61, 61, 61, 61, 61, 61, 61, 61, 61]) none (some t37) none) w fun t84 w =>
  k t84 w)
  (SV P (binOp .leq 3 t37 (Value.int .i64 64)) w fun t87 w =>
  GD t87 true
  (SN P (callFunc 171 #[(str [9, 9, 9, 9, 9, 9, 9, 9, 9, 9, 9, 9, 9, 9, 9, 9, 9, 9, 9, 9, 9, 9, 9, 9, 9, 9, 9, 9, 9, 9, 9, 9, 9, 9, 9, 9, 9, 9, 9, 9, 9, 9, 9, 9, 9, 9, 9, 9, 9, 9, 9, 9, 9, 9, 9, 9, 9, 9, 9, 9, 9, 9, 9, 9]), a0_s]) w fun t90 w =>
  CN t90
  (SV P (Instr.sliceAt 9 (str [9, 9, 9, 9, 9, 9, 9, 9, 9, 9, 9, 9, 9, 9, 9, 9, 9, 9, 9, 9, 9, 9, 9, 9, 9, 9, 9, 9, 9, 9, 9, 9, 9, 9, 9, 9, 9, 9, 9, 9, 9, 9, 9, 9, 9, 9, 9, 9, 9, 9, 9, 9, 9, 9, 9, 9, 9, 9, 9, 9, 9, 9, 9, 9]) none (some t37) none) w fun t93 w =>
  k t93 w)
  (j [t43] w))
  (j [t43] w)))
  (SV P (binOp .leq 3 t37 (Value.int .i64 64)) w fun t87 w =>
  GD t87 true
  (SN P (callFunc 171 #[(str [9, 9, 9, 9, 9, 9, 9, 9, 9, 9, 9, 9, 9, 9, 9, 9, 9, 9, 9, 9, 9, 9, 9, 9, 9, 9, 9, 9, 9, 9, 9, 9, 9, 9, 9, 9, 9, 9, 9, 9, 9, 9, 9, 9, 9, 9, 9, 9, 9, 9, 9, 9, 9, 9, 9, 9, 9, 9, 9, 9, 9, 9, 9, 9]), a0_s]) w fun t90 w =>
  CN t90
  (SV P (Instr.sliceAt 9 (str [9, 9, 9, 9, 9, 9, 9, 9, 9, 9, 9, 9, 9, 9, 9, 9, 9, 9, 9, 9, 9, 9, 9, 9, 9, 9, 9, 9, 9, 9, 9, 9, 9, 9, 9, 9, 9, 9, 9, 9, 9, 9, 9, 9, 9, 9, 9, 9, 9, 9, 9, 9, 9, 9, 9, 9, 9, 9, 9, 9, 9, 9, 9, 9]) none (some t37) none) w fun t93 w =>
  k t93 w)
  (j [t43] w))
  (j [t43] w))))
  (SV P (binOp .leq 3 t37 (Value.int .i64 128)) w fun t78 w =>
  GD t78 true
  (SN P (callFunc 171 #[(str [61, 61, 61, 61, 61, 61, 61, 61, 61, 61, 61, 61, 61, 61, 61, 61, 61, 61, 61, 61, 61, 61, 61, 61, 61, 61, 61, 61, 61, 61, 61, 61, 61, 61, 61, 61, 61, 61, 61, 61, 61, 61, 61, 61, 61, 61, 61, 61, 61, 61, 61, 61, 61, 61, 61, 61, 61, 61, 61, 61, 61, 61, 61, 61, 61, 61, 61, 61, 61, 61, 61, 61, 61, 61, 61, 61, 61, 61, 61, 61, 61, 61, 61, 61, 61, 61, 61, 61, 61, 61, 61, 61, 61, 61, 61, 61, 61, 61, 61, 61, 61, 61, 61, 61, 61, 61, 61, 61, 61, 61, 61, 61, 61, 61, 61, 61, 61, 61, 61, 61, 61, 61, 61, 61, 61, 61, 61, 61]), a0_s]) w fun t81 w =>
  CN t81
  (SV P (Instr.sliceAt 9 (str [61, 61, 61, 61, 61, 61, 61, 61, 61, 61, 61, 61, 61, 61, 61, 61, 61, 61, 61, 61, 61, 61, 61, 61, 61, 61, 61, 61, 61, 61, 61, 61, 61, 61, 61, 61, 61, 61, 61, 61, 61, 61, 61, 61, 61, 61, 61, 61, 61, 61, 61, 61, 61, 61, 61, 61, 61, 61, 61, 61, 61, 61, 61, 61, 61, 61, 61, 61, 61, 61, 61, 61, 61, 61, 61, 61, 61, 61, 61, 61, 61, 61, 61, 61, 61, 61, 61, 61, 61, 61, 61, 61, 61, 61, 61, 61, 61, 61, 61, 61, 61, 61, 61, 61, 61, 61, 61, 61, 61, 61, 61, 61, 61, 61, 61, 61, 61, 61, 61, 61, 61, 61, 61, 61, 61, 61, 61, 61]) none (some t37) none) w fun t84 w =>
  k t84 w)
  (SV P (binOp .leq 3 t37 (Value.int .i64 64)) w fun t87 w =>
  GD t87 true
  (SN P (callFunc 171 #[(str [9, 9, 9, 9, 9, 9, 9, 9, 9, 9, 9, 9, 9, 9, 9, 9, 9, 9, 9, 9, 9, 9, 9, 9, 9, 9, 9, 9, 9, 9, 9, 9, 9, 9, 9, 9, 9, 9, 9, 9, 9, 9, 9, 9, 9, 9, 9, 9, 9, 9, 9, 9, 9, 9, 9, 9, 9, 9, 9, 9, 9, 9, 9, 9]), a0_s]) w fun t90 w =>
  CN t90
  (SV P (Instr.sliceAt 9 (str [9, 9, 9, 9, 9, 9, 9, 9, 9, 9, 9, 9, 9, 9, 9, 9, 9, 9, 9, 9, 9, 9, 9, 9, 9, 9, 9, 9, 9, 9, 9, 9, 9, 9, 9, 9, 9, 9, 9, 9, 9, 9, 9, 9, 9, 9, 9, 9, 9, 9, 9, 9, 9, 9, 9, 9, 9, 9, 9, 9, 9, 9, 9, 9]) none (some t37) none) w fun t93 w =>
  k t93 w)
  (j [t43] w))
  (j [t43] w)))
  (SV P (binOp .leq 3 t37 (Value.int .i64 64)) w fun t87 w =>
  GD t87 true
  (SN P (callFunc 171 #[(str [9, 9, 9, 9, 9, 9, 9, 9, 9, 9, 9, 9, 9, 9, 9, 9, 9, 9, 9, 9, 9, 9, 9, 9, 9, 9, 9, 9, 9, 9, 9, 9, 9, 9, 9, 9, 9, 9, 9, 9, 9, 9, 9, 9, 9, 9, 9, 9, 9, 9, 9, 9, 9, 9, 9, 9, 9, 9, 9, 9, 9, 9, 9, 9]), a0_s]) w fun t90 w =>
  CN t90
  (SV P (Instr.sliceAt 9 (str [9, 9, 9, 9, 9, 9, 9, 9, 9, 9, 9, 9, 9, 9, 9, 9, 9, 9, 9, 9, 9, 9, 9, 9, 9, 9, 9, 9, 9, 9, 9, 9, 9, 9, 9, 9, 9, 9, 9, 9, 9, 9, 9, 9, 9, 9, 9, 9, 9, 9, 9, 9, 9, 9, 9, 9, 9, 9, 9, 9, 9, 9, 9, 9]) none (some t37) none) w fun t93 w =>
  k t93 w)
  (j [t43] w))
  (j [t43] w)))))
  (SV P (binOp .leq 3 t37 (Value.int .i64 64)) w fun t69 w =>
  GD t69 true
  (SN P (callFunc 171 #[(str [48, 48, 48, 48, 48, 48, 48, 48, 48, 48, 48, 48, 48, 48, 48, 48, 48, 48, 48, 48, 48, 48, 48, 48, 48, 48, 48, 48, 48, 48, 48, 48, 48, 48, 48, 48, 48, 48, 48, 48, 48, 48, 48, 48, 48, 48, 48, 48, 48, 48, 48, 48, 48, 48, 48, 48, 48, 48, 48, 48, 48, 48, 48, 48]), a0_s]) w fun t72 w =>
  CN t72
  (SV P (Instr.sliceAt 9 (str [48, 48, 48, 48, 48, 48, 48, 48, 48, 48, 48, 48, 48, 48, 48, 48, 48, 48, 48, 48, 48, 48, 48, 48, 48, 48, 48, 48, 48, 48, 48, 48, 48, 48, 48, 48, 48, 48, 48, 48, 48, 48, 48, 48, 48, 48, 48, 48, 48, 48, 48, 48, 48, 48, 48, 48, 48, 48, 48, 48, 48, 48, 48, 48]) none (some t37) none) w fun t75 w =>
  k t75 w)
  (SV P (binOp .leq 3 t37 (Value.int .i64 128)) w fun t78 w =>
  GD t78 true
  (SN P (callFunc 171 #[(str [61, 61, 61, 61, 61, 61, 61, 61, 61, 61, 61, 61, 61, 61, 61, 61, 61, 61, 61, 61, 61, 61, 61, 61, 61, 61, 61, 61, 61, 61, 61, 61, 61, 61, 61, 61, 61, 61, 61, 61, 61, 61, 61, 61, 61, 61, 61, 61, 61, 61, 61, 61, 61, 61, 61, 61, 61, 61, 61, 61, 61, 61, 61, 61, 61, 61, 61, 61, 61, 61, 61, 61, 61, 61, 61, 61, 61, 61, 61, 61, 61, 61, 61, 61, 61, 61, 61, 61, 61, 61, 61, 61, 61, 61, 61, 61, 61, 61, 61, 61, 61, 61, 61, 61, 61, 61, 61, 61, 61, 61, 61, 61, 61, 61, 61, 61, 61, 61, 61, 61, 61, 61, 61, 61, 61, 61, 61, 61]), a0_s]) w fun t81 w =>
  CN t81
  (SV P (Instr.sliceAt 9 (str [61, 61, 61, 61, 61, 61, 61, 61, 61, 61, 61, 61, 61, 61, 61, 61, 61, 61, 61, 61, 61, 61, 61, 61, 61, 61, 61, 61, 61, 61, 61, 61, 61, 61, 61, 61, 61, 61, 61, 61, 61, 61, 61, 61, 61, 61, 61, 61, 61, 61, 61, 61, 61, 61, 61, 61, 61, 61, 61, 61, 61, 61, 61, 61, 61, 61, 61, 61, 61, 61, 61, 61, 61, 61, 61, 61, 61, 61, 61, 61, 61, 61, 61, 61, 61, 61, 61, 61, 61, 61, 61, 61, 61, 61, 61, 61, 61, 61, 61, 61, 61, 61, 61, 61, 61, 61, 61, 61, 61, 61, 61, 61, 61, 61, 61, 61, 61, 61, 61, 61, 61, 61, 61, 61, 61, 61, 61, 61]) none (some t37) none) w fun t84 w =>
  k t84 w)
  (SV P (binOp .leq 3 t37 (Value.int .i64 64)) w fun t87 w =>
  GD t87 true
  (SN P (callFunc 171 #[(str [9, 9, 9, 9, 9, 9, 9, 9, 9, 9, 9, 9, 9, 9, 9, 9, 9, 9, 9, 9, 9, 9, 9, 9, 9, 9, 9, 9, 9, 9, 9, 9, 9, 9, 9, 9, 9, 9, 9, 9, 9, 9, 9, 9, 9, 9, 9, 9, 9, 9, 9, 9, 9, 9, 9, 9, 9, 9, 9, 9, 9, 9, 9, 9]), a0_s]) w fun t90 w =>
  CN t90
  (SV P (Instr.sliceAt 9 (str [9, 9, 9, 9, 9, 9, 9, 9, 9, 9, 9, 9, 9, 9, 9, 9, 9, 9, 9, 9, 9, 9, 9, 9, 9, 9, 9, 9, 9, 9, 9, 9, 9, 9, 9, 9, 9, 9, 9, 9, 9, 9, 9, 9, 9, 9, 9, 9, 9, 9, 9, 9, 9, 9, 9, 9, 9, 9, 9, 9, 9, 9, 9, 9]) none (some t37) none) w fun t93 w =>
  k t93 w)
  (j [t43] w))
  (j [t43] w)))
  (SV P (binOp .leq 3 t37 (Value.int .i64 64)) w fun t87 w =>
  GD t87 true
  (SN P (callFunc 171 #[(str [9, 9, 9, 9, 9, 9, 9, 9, 9, 9, 9, 9, 9, 9, 9, 9, 9, 9, 9, 9, 9, 9, 9, 9, 9, 9, 9, 9, 9, 9, 9, 9, 9, 9, 9, 9, 9, 9, 9, 9, 9, 9, 9, 9, 9, 9, 9, 9, 9, 9, 9, 9, 9, 9, 9, 9, 9, 9, 9, 9, 9, 9, 9, 9]), a0_s]) w fun t90 w =>
  CN t90
  (SV P (Instr.sliceAt 9 (str [9, 9, 9, 9, 9, 9, 9, 9, 9, 9, 9, 9, 9, 9, 9, 9, 9, 9, 9, 9, 9, 9, 9, 9, 9, 9, 9, 9, 9, 9, 9, 9, 9, 9, 9, 9, 9, 9, 9, 9, 9, 9, 9, 9, 9, 9, 9, 9, 9, 9, 9, 9, 9, 9, 9, 9, 9, 9, 9, 9, 9, 9, 9, 9]) none (some t37) none) w fun t93 w =>
  k t93 w)
  (j [t43] w))
  (j [t43] w))))
  (SV P (binOp .leq 3 t37 (Value.int .i64 128)) w fun t78 w =>
  GD t78 true
  (SN P (callFunc 171 #[(str [61, 61, 61, 61, 61, 61, 61, 61, 61, 61, 61, 61, 61, 61, 61, 61, 61, 61, 61, 61, 61, 61, 61, 61, 61, 61, 61, 61, 61, 61, 61, 61, 61, 61, 61, 61, 61, 61, 61, 61, 61, 61, 61, 61, 61, 61, 61, 61, 61, 61, 61, 61, 61, 61, 61, 61, 61, 61, 61, 61, 61, 61, 61, 61, 61, 61, 61, 61, 61, 61, 61, 61, 61, 61, 61, 61, 61, 61, 61, 61, 61, 61, 61, 61, 61, 61, 61, 61, 61, 61, 61, 61, 61, 61, 61, 61, 61, 61, 61, 61, 61, 61, 61, 61, 61, 61, 61, 61, 61, 61, 61, 61, 61, 61, 61, 61, 61, 61, 61, 61, 61, 61, 61, 61, 61, 61, 61, 61]), a0_s]) w fun t81 w =>
  CN t81
  (SV P (Instr.sliceAt 9 (str [61, 61, 61, 61, 61, 61, 61, 61, 61, 61, 61, 61, 61, 61, 61, 61, 61, 61, 61, 61, 61, 61, 61, 61, 61, 61, 61, 61, 61, 61, 61, 61, 61, 61, 61, 61, 61, 61, 61, 61, 61, 61, 61, 61, 61, 61, 61, 61, 61, 61, 61, 61, 61, 61, 61, 61, 61, 61, 61, 61, 61, 61, 61, 61, 61, 61, 61, 61, 61, 61, 61, 61, 61, 61, 61, 61, 61, 61, 61, 61, 61, 61, 61, 61, 61, 61, 61, 61, 61, 61, 61, 61, 61, 61, 61, 61, 61, 61, 61, 61, 61, 61, 61, 61, 61, 61, 61, 61, 61, 61, 61, 61, 61, 61, 61, 61, 61, 61, 61, 61, 61, 61, 61, 61, 61, 61, 61, 61]) none (some t37) none) w fun t84 w =>
  k t84 w)
  (SV P (binOp .leq 3 t37 (Value.int .i64 64)) w fun t87 w =>
  GD t87 true
  (SN P (callFunc 171 #[(str [9, 9, 9, 9, 9, 9, 9, 9, 9, 9, 9, 9, 9, 9, 9, 9, 9, 9, 9, 9, 9, 9, 9, 9, 9, 9, 9, 9, 9, 9, 9, 9, 9, 9, 9, 9, 9, 9, 9, 9, 9, 9, 9, 9, 9, 9, 9, 9, 9, 9, 9, 9, 9, 9, 9, 9, 9, 9, 9, 9, 9, 9, 9, 9]), a0_s]) w fun t90 w =>
  CN t90
  (SV P (Instr.sliceAt 9 (str [9, 9, 9, 9, 9, 9, 9, 9, 9, 9, 9, 9, 9, 9, 9, 9, 9, 9, 9, 9, 9, 9, 9, 9, 9, 9, 9, 9, 9, 9, 9, 9, 9, 9, 9, 9, 9, 9, 9, 9, 9, 9, 9, 9, 9, 9, 9, 9, 9, 9, 9, 9, 9, 9, 9, 9, 9, 9, 9, 9, 9, 9, 9, 9]) none (some t37) none) w fun t93 w =>
  k t93 w)
  (j [t43] w))
  (j [t43] w)))
  (SV P (binOp .leq 3 t37 (Value.int .i64 64)) w fun t87 w =>
  GD t87 true
  (SN P (callFunc 171 #[(str [9, 9, 9, 9, 9, 9, 9, 9, 9, 9, 9, 9, 9, 9, 9, 9, 9, 9, 9, 9, 9, 9, 9, 9, 9, 9, 9, 9, 9, 9, 9, 9, 9, 9, 9, 9, 9, 9, 9, 9, 9, 9, 9, 9, 9, 9, 9, 9, 9, 9, 9, 9, 9, 9, 9, 9, 9, 9, 9, 9, 9, 9, 9, 9]), a0_s]) w fun t90 w =>
  CN t90
  (SV P (Instr.sliceAt 9 (str [9, 9, 9, 9, 9, 9, 9, 9, 9, 9, 9, 9, 9, 9, 9, 9, 9, 9, 9, 9, 9, 9, 9, 9, 9, 9, 9, 9, 9, 9, 9, 9, 9, 9, 9, 9, 9, 9, 9, 9, 9, 9, 9, 9, 9, 9, 9, 9, 9, 9, 9, 9, 9, 9, 9, 9, 9, 9, 9, 9, 9, 9, 9, 9]) none (some t37) none) w fun t93 w =>
  k t93 w)
  (j [t43] w))
  (j [t43] w))))))
  (j [t43] w)

def s242_l1 (P : Program) (k : Value → World → Prop) (t37 : Value) (chunkMax8 : Value) (b9 : Value) (next : List Value → World → Prop) (w : World) : Prop :=
  SN P (callFunc 273 #[b9]) w fun t111 w =>
  SV P (binOp .lss 3 t111 t37) w fun t113 w =>
  CN t113
  (SN P (callFunc 273 #[b9]) w fun t115 w =>
  SV P (binOp .sub 3 t37 t115) w fun t116 w =>
  SN P (callFunc 273 #[b9]) w fun t117 w =>
  SV P (Builtin.min_ #[3, 3, 3] 3 #[t116, t117, chunkMax8]) w fun t119 w =>
  SN P (callFunc 165 #[b9]) w fun t120 w =>
  SV P (Instr.sliceAt 9 t120 none (some t119) none) w fun t122 w =>
  SN P (callFunc 162 #[b9, t122]) w fun _ w =>
  next [] w)
  (SN P (callFunc 165 #[b9]) w fun t124 w =>
  k t124 w)

def s242_j2 (P : Program) (k : Value → World → Prop) (a0_s : Value) (t37 : Value) (chunkMax8 : Value) (w : World) : Prop :=
  SV P (Instr.alloc 217 true (.tuple #[])) w fun b9 w =>
  SN P (callFunc 261 #[b9, t37]) w fun _ w =>
  SN P (callFunc 162 #[b9, a0_s]) w fun _ w =>
  LP 0 [] w (fun next _ _ w => s242_l1 P k t37 chunkMax8 b9 next w)

def s242_j3 (P : Program) (k : Value → World → Prop) (a0_s : Value) (t37 : Value) (w : World) : Prop :=
  JP 1 (fun j =>
  SV P (binOp .gtr 3 t37 (Value.int .i64 8192)) w fun t96 w =>
  CN t96
  (SV P (Builtin.len_ #[9] 3 #[a0_s]) w fun t98 w =>
  SV P (binOp .quo 3 (Value.int .i64 8192) t98) w fun t99 w =>
  SV P (Builtin.len_ #[9] 3 #[a0_s]) w fun t101 w =>
  SV P (binOp .mul 3 t99 t101) w fun t102 w =>
  SV P (eqS .eql 3 (.tmp 103) (.const (Value.int .i64 0)) t102 (Value.int .i64 0)) w fun t104 w =>
  CN t104
  (SV P (Builtin.len_ #[9] 3 #[a0_s]) w fun t106 w =>
  j [t106] w)
  (j [t102] w))
  (j [t37] w))
  (fun _ us w => s242_j2 P k a0_s t37 (us.getD 0 undef) w)

def s242_j4 (P : Program) (k : Value → World → Prop) (a0_s : Value) (t28 : Value) (w : World) : Prop :=
  SV P (convert 121 3 t28) w fun t37 w =>
  SV P (Builtin.len_ #[9] 3 #[a0_s]) w fun t39 w =>
  SV P (eqS .eql 3 (.tmp 39) (.const (Value.int .i64 0)) t39 (Value.int .i64 0)) w fun t40 w =>
  CN t40
  (k (str []) w)
  (JP 1 (fun j =>
  SV P (Instr.index 9 a0_s (Value.int .i64 0)) w fun t42 w =>
  JP 1 (fun j_1 =>
  SV P (eqS .eql 5 (.tmp 42) (.const (Value.int .u8 32)) t42 (Value.int .u8 32)) w fun t44 w =>
  CN t44
  (j_1 [t44] w)
  (SV P (eqS .eql 5 (.tmp 42) (.const (Value.int .u8 45)) t42 (Value.int .u8 45)) w fun t45 w =>
  CN t45
  (j_1 [t45] w)
  (SV P (eqS .eql 5 (.tmp 42) (.const (Value.int .u8 48)) t42 (Value.int .u8 48)) w fun t46 w =>
  CN t46
  (j_1 [t46] w)
  (SV P (eqS .eql 5 (.tmp 42) (.const (Value.int .u8 61)) t42 (Value.int .u8 61)) w fun t47 w =>
  CN t47
  (j_1 [t47] w)
  (SV P (eqS .eql 5 (.tmp 42) (.const (Value.int .u8 9)) t42 (Value.int .u8 9)) w fun t48 w =>
  j_1 [t48] w)))))
  (fun _ us w => s242_j1 P k a0_s t37 j (us.getD 0 undef) w))
  (fun _ _ w => s242_j3 P k a0_s t37 w))

def s242_j5 (P : Program) (k : Value → World → Prop) (a0_s : Value) (a1_count : Value) (w : World) : Prop :=
  SV P (Builtin.len_ #[9] 3 #[a0_s]) w fun t22 w =>
  SV P (convert 3 121 t22) w fun t23 w =>
  SV P (convert 3 121 a1_count) w fun t25 w =>
  SN P (callFunc 272 #[t23, t25]) w fun t26 w =>
  SV P (Instr.extract t26 0) w fun t27 w =>
  SV P (Instr.extract t26 1) w fun t28 w =>
  JP 0 (fun j =>
  SV P (binOp .gtr 121 t27 (Value.int .u64 0)) w fun t30 w =>
  GD t30 false
  (SV P (binOp .gtr 121 t28 (Value.int .u64 9223372036854775807)) w fun t33 w =>
  CN t33
  (SV P (Instr.makeInterface 9 (str [115, 116, 114, 105, 110, 103, 115, 58, 32, 82, 101, 112, 101, 97, 116, 32, 111, 117, 116, 112, 117, 116, 32, 108, 101, 110, 103, 116, 104, 32, 111, 118, 101, 114, 102, 108, 111, 119])) w fun _ w =>
  False)
  (j [] w))
  (SV P (Instr.makeInterface 9 (str [115, 116, 114, 105, 110, 103, 115, 58, 32, 82, 101, 112, 101, 97, 116, 32, 111, 117, 116, 112, 117, 116, 32, 108, 101, 110, 103, 116, 104, 32, 111, 118, 101, 114, 102, 108, 111, 119])) w fun _ w =>
  False))
  (fun _ _ w => s242_j4 P k a0_s t28 w)

def s242 (P : Program) (k : Value → World → Prop) (a0_s : Value) (a1_count : Value) (w : World) : Prop :=
  SV P (eqS .eql 3 (.tmp 11) (.const (Value.int .i64 0)) a1_count (Value.int .i64 0)) w fun t13 w =>
  CN t13
  (k (str []) w)
  (SV P (eqS .eql 3 (.tmp 11) (.const (Value.int .i64 1)) a1_count (Value.int .i64 1)) w fun t15 w =>
  CN t15
  (k a0_s w)
  (JP 0 (fun j =>
  SV P (binOp .lss 3 a1_count (Value.int .i64 0)) w fun t18 w =>
  CN t18
  (SV P (Instr.makeInterface 9 (str [115, 116, 114, 105, 110, 103, 115, 58, 32, 110, 101, 103, 97, 116, 105, 118, 101, 32, 82, 101, 112, 101, 97, 116, 32, 99, 111, 117, 110, 116])) w fun _ w =>
  False)
  (j [] w))
  (fun _ _ w => s242_j5 P k a0_s a1_count w)))

theorem e242 (k : Value → World → Prop) (a0_s a1_count : Value) (w : World) : s242 Tryz.prog k a0_s a1_count w = vcF Tryz.prog Tryz.f242 [8, 43] [a0_s, a1_count] k w := by kernel_rfl
theorem c242 {k : Value → World → Prop} {a0_s a1_count : Value} {w : World} (h : s242 Tryz.prog k a0_s a1_count w) : Calls Tryz.prog 242 #[a0_s, a1_count] w (retP k) :=
  calls_of_vcF [8, 43] mixedXStrings Tryz.func242 (by kernel_rfl) (Eq.mp (e242 k a0_s a1_count w) h)
theorem n242 {args : Array Value} {w : World} {k : Value → World → Prop} (h : Calls Tryz.prog 242 args w (retP k)) : SN Tryz.prog (callFunc 242 args) w k := sn_call Tryz.func242 (by kernel_rfl) (by kernel_rfl) h

end Go.Proofs.YtkdghnbogkbedaaGreatDoor

namespace Go.Sh
open Go Go.RowKit

theorem set_mix {x y : List Value} {i : Nat} {v : Value} (h : x.length = y.length) (hv : y[i]? = some v) : (y.take i ++ x.drop i).set i v = y.take (i + 1) ++ x.drop (i + 1) := by
  obtain ⟨hi, rfl⟩ := List.getElem?_eq_some_iff.1 hv
  have hl : (y.take i).length = i := by simp; omega
  rw [List.set_append_right _ _ (by omega), hl, Nat.sub_self]
  have hd : x.drop i = x[i] :: x.drop (i + 1) := List.drop_eq_getElem_cons (by omega)
  rw [hd, List.set_cons_zero, List.take_succ_eq_append_getElem hi, List.append_assoc]
  rfl
theorem mix_zero {x y : List Value} : y.take 0 ++ x.drop 0 = x := by simp
theorem mix_all {x y : List Value} {n : Nat} (hx : x.length = n) (hy : y.length = n) : y.take n ++ x.drop n = y := by
  rw [List.take_of_length_le (by omega), List.drop_eq_nil_of_le (by omega), List.append_nil]
theorem mix_len {x y : List Value} {i n : Nat} (hx : x.length = n) (hy : y.length = n) (h : i ≤ n) : (y.take i ++ x.drop i).length = n := by simp; omega

theorem Ret.of_below {P : Program} {f : FuncId} {args : Array Value} {w : World} {v : Value} (h : Calls P f args w fun e w' => e = .returned v ∧ Below w.heap.size w w') : Ret P f args w v :=
  Calls.mono h fun e w' ⟨he, hb⟩ => by subst he; exact ⟨rfl, Ch.of_below hb⟩
theorem Ret.of_same {P : Program} {f : FuncId} {args : Array Value} {w : World} {v : Value} (h : Calls P f args w fun e w' => e = .returned v ∧ w' = w) : Ret P f args w v :=
  Calls.mono h fun e w' ⟨he, hb⟩ => by subst he; subst hb; exact ⟨rfl, Ch.refl _⟩

section
variable {P : Program}
theorem pu_w64shr {t : TypeId} {n : Nat} {k : IntKind} {s : Int} (h0 : 0 ≤ s) (h1 : s ≤ 64) : Pu P (binOp .shr t (.int .u64 n) (.int k s)) (.int .u64 ((n / 2 ^ s.toNat : Nat) : Int)) := fun w => by
  rw [binOp_shr]
  have hm : min s.toNat IntKind.u64.bits = s.toNat := by
    have : IntKind.u64.bits = 64 := rfl
    omega
  have hp : (0 : Int) < 2 ^ s.toNat := Int.pow_pos (by decide)
  have e : (n : Int).fdiv (2 ^ s.toNat) = ((n / 2 ^ s.toNat : Nat) : Int) := by
    rw [Int.fdiv_eq_ediv_of_nonneg _ (Int.le_of_lt hp)]
    simp
  simp only [Op.shift, show ¬ s < 0 by omega, if_false, hm, e]
  rfl
theorem pu_648 {s d : TypeId} [IsInt P s .u64] [IsInt P d .u8] {n : Nat} : Pu P (convert s d (.int .u64 n)) (by_ (UInt8.ofNat n)) := fun w => by
  have := pu_conv (P := P) (s := s) (d := d) (k := .u64) (n := n) w
  rw [IntKind.wrap_u8] at this
  unfold by_
  rw [this]
  congr 2
end

theorem outOf_len (s : S8) : ((outOf s).map by_).length = 32 := by simp [outOf]
theorem outOf_at (s : S8) {i : Nat} (h : i < 32) : ((outOf s).map by_)[i]? = some (by_ (UInt8.ofNat (shr32 (wAt s.l (i / 4)) (24 - 8 * (i % 4))).toNat)) := by simp [outOf, h]
theorem lenBytes_len (n : Nat) : ((lenBytes n).map by_).length = 8 := by simp [lenBytes]
theorem lenBytes_at (n : Nat) {i : Nat} (h : i < 8) : ((lenBytes n).map by_)[i]? = some (by_ (UInt8.ofNat (n / 2 ^ (8 * (7 - i))))) := by simp [lenBytes, h]
end Go.Sh
namespace Go.Proofs.YtkdghnbogkbedaaGreatDoor
open Go Go.Sh Go.RowKit
set_option maxRecDepth 100000
set_option linter.unusedSimpArgs false
set_option linter.unusedVariables false

theorem str_repeat0 (n : Nat) (w : World) (h : n ≤ 1000000) : Ret Tryz.prog 242 #[str [0], .int .i64 n] w (str (List.replicate n 0)) := by
  have := Tryz.strings_Repeat ⟨#[0]⟩ n w (by omega) (by show 1 * n ≤ _; omega)
  refine Ret.of_below (v := str (List.replicate n 0)) ?_
  have e : Lib.repeatL (ByteArray.mk #[0]).data.toList n = List.replicate n 0 := by
    show Lib.repeatL [0] n = _
    clear this h
    induction n with
    | zero => rfl
    | succ n ih => simp [Lib.repeatL, List.replicate_succ] at ih ⊢; try exact ih
  rw [e] at this
  exact this

theorem sha_sum {g : Nat} {m : List UInt8} {w : World} (hk : KeysAt w) (h : HashAt w g 282 m) (hb : m.length ≤ 4611686018427387904) : Ret Tryz.prog 233 #[.pointer (some ⟨g, 0, none⟩)] w (sha m).v := by
  obtain ⟨h0, b0, hi⟩ := h
  refine c233 ?_
  unfold s233
  refine SV_alloc fun g2 w1 hg2 b2 h1 => ?_
  refine n266 ((sha_start w1).use fun w2 h2 => ?_)
  refine SV_alloc fun g3 w3 hg3 b3 h3 => ?_
  refine SU_storeB b3 (by rw [wv_len]; rfl) rfl (wv_ones _) fun w4 b3 h4 => ?_
  have n30 : g3 ≠ g := by have := b0.lt; have := h1.size; have := h2.size; omega
  have n32 : g3 ≠ g2 := by have := b2.lt; have := h2.size; omega
  have s1 := h1.size
  have s2 := h2.size
  have s3 := h3.size
  have s4 := h4.size
  have hc3 := h1.trans (h2.trans h3)
  have hc4 : Ch No w w4 := (h1.trans (h2.trans h3)).own h4 (by omega)
  have b0 := b0.no hc4
  have b2 := (((b2.no h2).no h3).ch h4 n32.symm)
  refine JP_cut (fun us w' => ∃ (st : S8) (r : List UInt8), us = [str r, .int .u64 m.length] ∧ (st, r) = blocks S8.start m ∧ Blk w' g3 200 (wv st.l) ∧ Blk w' g2 29 Sum.zero.cells ∧ Ch No w w') ?_ ?_
  · (first | refine SV_p (by first | exact True.intro | omega | (simp only [List.length_append, List.length_cons, List.length_nil, List.length_replicate, List.length_map]; omega)) ?_ | refine HV_p (by first | exact True.intro | omega | (simp only [List.length_append, List.length_cons, List.length_nil, List.length_replicate, List.length_map]; omega)) ?_)
    refine GD_tt ?_
    (first | refine SV_p (by first | exact True.intro | omega | (simp only [List.length_append, List.length_cons, List.length_nil, List.length_replicate, List.length_map]; omega)) ?_ | refine HV_p (by first | exact True.intro | omega | (simp only [List.length_append, List.length_cons, List.length_nil, List.length_replicate, List.length_map]; omega)) ?_)
    (first | refine SV_p (by first | exact True.intro | omega | (simp only [List.length_append, List.length_cons, List.length_nil, List.length_replicate, List.length_map]; omega)) ?_ | refine HV_p (by first | exact True.intro | omega | (simp only [List.length_append, List.length_cons, List.length_nil, List.length_replicate, List.length_map]; omega)) ?_)
    refine SV_load b0 rfl ?_
    rcases hi with ⟨rfl, rfl⟩ | ⟨hbg, hst, hsz⟩
    · refine CN_ff ?_
      exact ⟨S8.start, [], rfl, by rw [blocks_lt (by simp)], b3, b2, hc4⟩
    · rw [hbg]
      refine CN_tt ?_
      refine HR_kp (· = g3) ?_
      (first | refine SV_p (by first | exact True.intro | omega | (simp only [List.length_append, List.length_cons, List.length_nil, List.length_replicate, List.length_map]; omega)) ?_ | refine HV_p (by first | exact True.intro | omega | (simp only [List.length_append, List.length_cons, List.length_nil, List.length_replicate, List.length_map]; omega)) ?_)
      (first | refine SV_p (by first | exact True.intro | omega | (simp only [List.length_append, List.length_cons, List.length_nil, List.length_replicate, List.length_map]; omega)) ?_ | refine HV_p (by first | exact True.intro | omega | (simp only [List.length_append, List.length_cons, List.length_nil, List.length_replicate, List.length_map]; omega)) ?_)
      refine HV_loadN b0 (fun h => n30 h.symm) (vs := wv h0.s.l) rfl (by rw [wv_len]; rfl) ?_
      (first | refine SV_p (by first | exact True.intro | omega | (simp only [List.length_append, List.length_cons, List.length_nil, List.length_replicate, List.length_map]; omega)) ?_ | refine HV_p (by first | exact True.intro | omega | (simp only [List.length_append, List.length_cons, List.length_nil, List.length_replicate, List.length_map]; omega)) ?_)
      (first | refine SV_p (by first | exact True.intro | omega | (simp only [List.length_append, List.length_cons, List.length_nil, List.length_replicate, List.length_map]; omega)) ?_ | refine HV_p (by first | exact True.intro | omega | (simp only [List.length_append, List.length_cons, List.length_nil, List.length_replicate, List.length_map]; omega)) ?_)
      refine HV_load b0 (fun h => n30 h.symm) (v := str h0.rest) rfl ?_
      (first | refine SV_p (by first | exact True.intro | omega | (simp only [List.length_append, List.length_cons, List.length_nil, List.length_replicate, List.length_map]; omega)) ?_ | refine HV_p (by first | exact True.intro | omega | (simp only [List.length_append, List.length_cons, List.length_nil, List.length_replicate, List.length_map]; omega)) ?_)
      (first | refine SV_p (by first | exact True.intro | omega | (simp only [List.length_append, List.length_cons, List.length_nil, List.length_replicate, List.length_map]; omega)) ?_ | refine HV_p (by first | exact True.intro | omega | (simp only [List.length_append, List.length_cons, List.length_nil, List.length_replicate, List.length_map]; omega)) ?_)
      refine HV_load b0 (fun h => n30 h.symm) (v := .int .i64 h0.size) rfl ?_
      rw [hsz]
      refine HV_pu (v := .int .u64 m.length) (w64_conv (by omega) (by omega)) ?_
      refine SU_storeB b3.drew (by rw [wv_len]; rfl) (by rw [wv_len]; rfl) (wv_ones _) fun w5 b3 h5 => ?_
      have h5' := (Ch.drew w4).trans h5
      (first | refine RS_same (h5') ?_ | refine ⟨h5', ?_⟩)
      exact ⟨h0.s, h0.rest, rfl, hst, b3, b2.ch h5' n32.symm, hc4.own h5' (by omega)⟩
  · rintro us hus ζ w5 ⟨st, r, rfl, hst, b3, b2, hc5⟩
    unfold s233_j1
    simp only [List.getD_cons_zero, List.getD_cons_succ]
    have hrl : r.length = m.length % 64 := by
      have := congrArg Prod.snd hst
      simp only at this
      rw [this, blocks_len]
    (first | refine SV_p (by first | exact True.intro | omega | (simp only [List.length_append, List.length_cons, List.length_nil, List.length_replicate, List.length_map]; omega)) ?_ | refine HV_p (by first | exact True.intro | omega | (simp only [List.length_append, List.length_cons, List.length_nil, List.length_replicate, List.length_map]; omega)) ?_)
    (first | refine SV_p (by first | exact True.intro | omega | (simp only [List.length_append, List.length_cons, List.length_nil, List.length_replicate, List.length_map]; omega)) ?_ | refine HV_p (by first | exact True.intro | omega | (simp only [List.length_append, List.length_cons, List.length_nil, List.length_replicate, List.length_map]; omega)) ?_)
    (first | refine SV_p (by first | exact True.intro | omega | (simp only [List.length_append, List.length_cons, List.length_nil, List.length_replicate, List.length_map]; omega)) ?_ | refine HV_p (by first | exact True.intro | omega | (simp only [List.length_append, List.length_cons, List.length_nil, List.length_replicate, List.length_map]; omega)) ?_)
    refine SV_alloc fun g7 w6 hg7 b7 h6 => ?_
    have n73 : g7 ≠ g3 := b7.ne' b3 hg7
    have n72 : g7 ≠ g2 := b7.ne' b2 hg7
    have hl8 := lenBytes_len (8 * m.length % 18446744073709551616)
    refine LP_intro (fun us w' => ∃ i : Nat, us = [.int .i64 i] ∧ i ≤ 8 ∧ Blk w' g7 285 (((lenBytes (8 * m.length % 18446744073709551616)).map by_).take i ++ (List.replicate 8 (Value.int .u8 0)).drop i) ∧ Ch (· = g7) w6 w')
      (fun us _ => match us with | [.int _ t] => (8 - t).toNat | _ => 0)
      ⟨0, rfl, by decide, by rw [mix_zero]; exact b7, Ch.refl _⟩ ?_
    rintro us hus ζ w7 ⟨i, rfl, hi, c7, hc7⟩
    unfold s233_l2
    simp only [List.getD_cons_zero, List.getD_cons_succ]
    (first | refine SV_p (by first | exact True.intro | omega | (simp only [List.length_append, List.length_cons, List.length_nil, List.length_replicate, List.length_map]; omega)) ?_ | refine HV_p (by first | exact True.intro | omega | (simp only [List.length_append, List.length_cons, List.length_nil, List.length_replicate, List.length_map]; omega)) ?_)
    refine CN_split (fun hlt => ?_) (fun hge => ?_)
    · refine SV_pu (v := .int .u64 ((8 * m.length % 18446744073709551616 : Nat) : Int)) (fun w => by rw [pu_mul w, IntKind.wrap_u64]; congr 2; omega) ?_
      (first | refine SV_p (by first | exact True.intro | omega | (simp only [List.length_append, List.length_cons, List.length_nil, List.length_replicate, List.length_map]; omega)) ?_ | refine HV_p (by first | exact True.intro | omega | (simp only [List.length_append, List.length_cons, List.length_nil, List.length_replicate, List.length_map]; omega)) ?_)
      (first | refine SV_p (by first | exact True.intro | omega | (simp only [List.length_append, List.length_cons, List.length_nil, List.length_replicate, List.length_map]; omega)) ?_ | refine HV_p (by first | exact True.intro | omega | (simp only [List.length_append, List.length_cons, List.length_nil, List.length_replicate, List.length_map]; omega)) ?_)
      refine SV_pu (pu_w64shr (by omega) (by omega)) ?_
      refine SV_pu pu_648 ?_
      (first | refine SV_p (by first | exact True.intro | omega | (simp only [List.length_append, List.length_cons, List.length_nil, List.length_replicate, List.length_map]; omega)) ?_ | refine HV_p (by first | exact True.intro | omega | (simp only [List.length_append, List.length_cons, List.length_nil, List.length_replicate, List.length_map]; omega)) ?_)
      refine SU_store c7 (by rw [mix_len (n := 8) (by simp) hl8 hi]; omega) rfl fun w8 d7 h8 => ?_
      (first | refine SV_p (by first | exact True.intro | omega | (simp only [List.length_append, List.length_cons, List.length_nil, List.length_replicate, List.length_map]; omega)) ?_ | refine HV_p (by first | exact True.intro | omega | (simp only [List.length_append, List.length_cons, List.length_nil, List.length_replicate, List.length_map]; omega)) ?_)
      have e1 : ((8 : Int) * (7 - (i : Int))).toNat = 8 * (7 - i) := by omega
      rw [e1, Int.toNat_natCast, set_mix (by rw [hl8]; simp) (lenBytes_at _ (by omega))] at d7
      refine ⟨⟨i + 1, rfl, by omega, d7, hc7.trans h8⟩, ?_⟩
      show (8 - ((i : Int) + 1)).toNat < (8 - (i : Int)).toNat
      omega
    · have : i = 8 := by omega
      subst this
      rw [mix_all (by simp) hl8] at c7
      have b3 := (b3.no h6).ch hc7 n73.symm
      have b2 := (b2.no h6).ch hc7 n72.symm
      have s5 := hc5.size
      have hc7' := (hc5.trans h6).own hc7 (by omega)
      refine HR_kp No ?_
      refine HV_loadB b3 (fun h => h) (by rw [wv_len]; rfl) ?_
      (first | refine SV_p (by first | exact True.intro | omega | (simp only [List.length_append, List.length_cons, List.length_nil, List.length_replicate, List.length_map]; omega)) ?_ | refine HV_p (by first | exact True.intro | omega | (simp only [List.length_append, List.length_cons, List.length_nil, List.length_replicate, List.length_map]; omega)) ?_)
      have e2 : ((119 - (r.length : Int)) % 64) = (((119 - m.length % 64) % 64 : Nat) : Int) := by rw [hrl]; omega
      rw [e2]
      refine n242 ((str_repeat0 _ _ (by omega)).use fun w8 h8 => ?_)
      have h8' : Ch No w7 w8 := (Ch.drew w7).trans h8
      (first | refine RS_same (h8') ?_ | refine ⟨h8', ?_⟩)
      refine HV_p (by simp only [List.length_append, List.length_replicate, List.length_cons, List.length_nil]; omega) ?_
      (first | refine SV_p (by first | exact True.intro | omega | (simp only [List.length_append, List.length_cons, List.length_nil, List.length_replicate, List.length_map]; omega)) ?_ | refine HV_p (by first | exact True.intro | omega | (simp only [List.length_append, List.length_cons, List.length_nil, List.length_replicate, List.length_map]; omega)) ?_)
      have hrd : Rd w7 285 1 (.slice (some ⟨g7, 0, none⟩) 8 8) 8 ((lenBytes (8 * m.length % 18446744073709551616)).map by_) := Rd.of_blk c7 (by rw [hl8]) (by decide)
      refine HV_bstr hrd (fun _ _ h => h) ?_
      refine HV_p (by simp only [List.length_append, List.length_replicate, List.length_cons, List.length_nil, lenBytes, List.length_map, List.length_range]; omega) ?_
      have hpad : (r ++ [128] ++ List.replicate ((119 - m.length % 64) % 64) 0) ++ lenBytes (8 * m.length % 18446744073709551616) = r ++ padOf m.length := by simp [padOf]
      rw [hpad]
      have hpl : (r ++ padOf m.length).length ≤ 9223372036854775807 := by
        simp only [padOf, List.length_append, List.length_cons, List.length_replicate, lenBytes, List.length_map, List.length_range]
        omega
      refine n267 ((sha_blocks st (r ++ padOf m.length) _ (hk.no (hc7'.trans h8')) hpl).use fun w9 h9 => ?_)
      have h9' : Ch No w7 w9 := h8'.trans h9
      refine ⟨Kp (· = g3) w7, fun _ h => Ch.no h, Ch.no h9', ?_⟩
      (first | refine SV_p (by first | exact True.intro | omega | (simp only [List.length_append, List.length_cons, List.length_nil, List.length_replicate, List.length_map]; omega)) ?_ | refine HV_p (by first | exact True.intro | omega | (simp only [List.length_append, List.length_cons, List.length_nil, List.length_replicate, List.length_map]; omega)) ?_)
      (first | refine SV_p (by first | exact True.intro | omega | (simp only [List.length_append, List.length_cons, List.length_nil, List.length_replicate, List.length_map]; omega)) ?_ | refine HV_p (by first | exact True.intro | omega | (simp only [List.length_append, List.length_cons, List.length_nil, List.length_replicate, List.length_map]; omega)) ?_)
      refine SU_storeB (b3.no h9') (by rw [wv_len]; rfl) (by rw [wv_len]; rfl) (wv_ones _) fun w10 b3 h10 => ?_
      (first | refine RS_same (h9'.no.trans h10) ?_ | refine ⟨h9'.no.trans h10, ?_⟩)
      have hc10 := (hc7'.trans h9').own h10 (by omega)
      have s10 := hc10.size
      have lt3 := b3.lt
      have lt2 := ((b2.no h9').ch h10 n32.symm).lt
      refine SV_alloc fun g9 w11 hg9 b9 h11 => ?_
      have b2 := ((b2.no h9').ch h10 n32.symm).no h11
      have b3 := b3.no h11
      have hc11 : Ch No w w11 := hc10.trans h11
      have n93 : g9 ≠ g3 := by omega
      have n92 : g9 ≠ g2 := by omega
      have hsz : w.heap.size ≤ w11.heap.size := hc11.size
      generalize hfin : (blocks st (r ++ padOf m.length)).1 = fin at b3 ⊢
      have hol := outOf_len fin
      refine LP_intro (fun us w' => ∃ i : Nat, us = [.int .i64 i] ∧ i ≤ 32 ∧ Blk w' g9 29 (((outOf fin).map by_).take i ++ Sum.zero.cells.drop i) ∧ Blk w' g3 200 (wv fin.l) ∧ Blk w' g2 29 Sum.zero.cells ∧ Ch No w w')
        (fun us _ => match us with | [.int _ t] => (32 - t).toNat | _ => 0)
        ⟨0, rfl, by decide, by rw [mix_zero]; exact b9, b3, b2, hc11⟩ ?_
      rintro us hus ζ w12 ⟨i, rfl, hi, c9, c3, c2, hc12⟩
      unfold s233_l1
      simp only [List.getD_cons_zero, List.getD_cons_succ]
      (first | refine SV_p (by first | exact True.intro | omega | (simp only [List.length_append, List.length_cons, List.length_nil, List.length_replicate, List.length_map]; omega)) ?_ | refine HV_p (by first | exact True.intro | omega | (simp only [List.length_append, List.length_cons, List.length_nil, List.length_replicate, List.length_map]; omega)) ?_)
      refine CN_split (fun hlt => ?_) (fun hge => ?_)
      · (first | refine SV_p (by first | exact True.intro | omega | (simp only [List.length_append, List.length_cons, List.length_nil, List.length_replicate, List.length_map]; omega)) ?_ | refine HV_p (by first | exact True.intro | omega | (simp only [List.length_append, List.length_cons, List.length_nil, List.length_replicate, List.length_map]; omega)) ?_)
        (first | refine SV_p (by first | exact True.intro | omega | (simp only [List.length_append, List.length_cons, List.length_nil, List.length_replicate, List.length_map]; omega)) ?_ | refine HV_p (by first | exact True.intro | omega | (simp only [List.length_append, List.length_cons, List.length_nil, List.length_replicate, List.length_map]; omega)) ?_)
        refine SV_load c3 (wv_get (by rw [S8.l_len]; omega)) ?_
        (first | refine SV_p (by first | exact True.intro | omega | (simp only [List.length_append, List.length_cons, List.length_nil, List.length_replicate, List.length_map]; omega)) ?_ | refine HV_p (by first | exact True.intro | omega | (simp only [List.length_append, List.length_cons, List.length_nil, List.length_replicate, List.length_map]; omega)) ?_)
        (first | refine SV_p (by first | exact True.intro | omega | (simp only [List.length_append, List.length_cons, List.length_nil, List.length_replicate, List.length_map]; omega)) ?_ | refine HV_p (by first | exact True.intro | omega | (simp only [List.length_append, List.length_cons, List.length_nil, List.length_replicate, List.length_map]; omega)) ?_)
        (first | refine SV_p (by first | exact True.intro | omega | (simp only [List.length_append, List.length_cons, List.length_nil, List.length_replicate, List.length_map]; omega)) ?_ | refine HV_p (by first | exact True.intro | omega | (simp only [List.length_append, List.length_cons, List.length_nil, List.length_replicate, List.length_map]; omega)) ?_)
        (first | refine SV_p (by first | exact True.intro | omega | (simp only [List.length_append, List.length_cons, List.length_nil, List.length_replicate, List.length_map]; omega)) ?_ | refine HV_p (by first | exact True.intro | omega | (simp only [List.length_append, List.length_cons, List.length_nil, List.length_replicate, List.length_map]; omega)) ?_)
        (first | refine SV_p (by first | exact True.intro | omega | (simp only [List.length_append, List.length_cons, List.length_nil, List.length_replicate, List.length_map]; omega)) ?_ | refine HV_p (by first | exact True.intro | omega | (simp only [List.length_append, List.length_cons, List.length_nil, List.length_replicate, List.length_map]; omega)) ?_)
        (first | refine SV_p (by first | exact True.intro | omega | (simp only [List.length_append, List.length_cons, List.length_nil, List.length_replicate, List.length_map]; omega)) ?_ | refine HV_p (by first | exact True.intro | omega | (simp only [List.length_append, List.length_cons, List.length_nil, List.length_replicate, List.length_map]; omega)) ?_)
        refine SU_store c9 (by rw [mix_len (n := 32) Sum.zero.len hol hi]; omega) rfl fun w13 d9 h13 => ?_
        (first | refine SV_p (by first | exact True.intro | omega | (simp only [List.length_append, List.length_cons, List.length_nil, List.length_replicate, List.length_map]; omega)) ?_ | refine HV_p (by first | exact True.intro | omega | (simp only [List.length_append, List.length_cons, List.length_nil, List.length_replicate, List.length_map]; omega)) ?_)
        have e1 : ((i : Int) / 4).toNat = i / 4 := by omega
        have e2 : ((24 : Int) - 8 * ((i : Int) % 4)).toNat = 24 - 8 * (i % 4) := by omega
        rw [e1, e2, Int.toNat_natCast, set_mix (by rw [hol]; exact Sum.zero.len) (outOf_at _ (by omega))] at d9
        refine ⟨⟨i + 1, rfl, by omega, d9, c3.ch h13 n93.symm, c2.ch h13 n92.symm, hc12.own h13 (by omega)⟩, ?_⟩
        show (32 - ((i : Int) + 1)).toNat < (32 - (i : Int)).toNat
        omega
      · have : i = 32 := by omega
        subst this
        rw [mix_all Sum.zero.len hol] at c9
        refine SV_loadB c9 hol ?_
        refine SU_storeB c2 hol Sum.zero.len (Ones.bytes _) fun w13 d2 h13 => ?_
        refine CR_N d2 hol ?_
        refine ⟨?_, hc12.own h13 (by omega)⟩
        have hs : (sha m).cells = (outOf fin).map by_ := by
          rw [sha_of, ← hst]
          simp only [Sum.cells]
          rw [hfin]
        unfold Sum.v
        rw [hs]
end Go.Proofs.YtkdghnbogkbedaaGreatDoor

namespace Go.Proofs.YtkdghnbogkbedaaGreatDoor
open Go Go.Sh Go.RowKit
set_option maxRecDepth 100000
set_option linter.unusedSimpArgs false
set_option linter.unusedVariables false

theorem sha_bytes (s : Sum) (w : World) : Ret Tryz.prog 163 #[s.v] w (str s.l) := by
  refine c163 ?_
  unfold s163
  refine SV_box (vs := s.cells) rfl fun g1 w1 hg1 b1 h1 => ?_
  (first | refine SV_p (by first | exact True.intro | omega | (simp only [List.length_append, List.length_cons, List.length_nil, List.length_replicate, List.length_map]; omega)) ?_ | refine HV_p (by first | exact True.intro | omega | (simp only [List.length_append, List.length_cons, List.length_nil, List.length_replicate, List.length_map]; omega)) ?_)
  refine SV_bstr (Rd.of_blk b1 s.len (by decide)) ?_
  exact ⟨rfl, h1⟩

theorem sha_copy {g : Nat} {m : List UInt8} {w : World} (h : HashAt w g 282 m) :
    Calls Tryz.prog 291 #[.pointer (some ⟨g, 0, none⟩)] w (retP fun v w' => ∃ g', v = .pointer (some ⟨g', 0, none⟩) ∧ w.heap.size ≤ g' ∧ HashAt w' g' 282 m ∧ Ch No w w') := by
  obtain ⟨h0, b0, hi⟩ := h
  refine c291 ?_
  unfold s291
  (first | refine SV_p (by first | exact True.intro | omega | (simp only [List.length_append, List.length_cons, List.length_nil, List.length_replicate, List.length_map]; omega)) ?_ | refine HV_p (by first | exact True.intro | omega | (simp only [List.length_append, List.length_cons, List.length_nil, List.length_replicate, List.length_map]; omega)) ?_)
  refine CN_ff ?_
  (first | refine SV_p (by first | exact True.intro | omega | (simp only [List.length_append, List.length_cons, List.length_nil, List.length_replicate, List.length_map]; omega)) ?_ | refine HV_p (by first | exact True.intro | omega | (simp only [List.length_append, List.length_cons, List.length_nil, List.length_replicate, List.length_map]; omega)) ?_)
  refine SV_loadB b0 h0.len ?_
  refine SV_alloc fun g1 w1 hg1 b1 h1 => ?_
  refine SU_storeB b1 h0.len rfl (.cons rfl (.append (wv_ones _) (.cons rfl (.cons rfl .nil)))) fun w2 b2 h2 => ?_
  exact ⟨g1, rfl, hg1, ⟨h0, b2, hi⟩, h1.own h2 hg1⟩

theorem len_flat (l : List (List UInt8)) (i : Nat) : (l.take i).flatten.length ≤ l.flatten.length := by
  have : l.flatten = (l.take i).flatten ++ (l.drop i).flatten := by rw [← List.flatten_append, List.take_append_drop]
  rw [this, List.length_append]; omega
theorem flat_succ {l : List (List UInt8)} {i : Nat} (h : i < l.length) : (l.take (i + 1)).flatten = (l.take i).flatten ++ l[i] := by
  rw [List.take_succ_eq_append_getElem h]
  simp only [List.flatten_append, List.flatten_cons, List.flatten_nil, List.append_nil]

theorem sha_of_ {T n : Nat} {v : Value} {parts : List (List UInt8)} {w : World} (hk : KeysAt w) (h1s : 1 < w.heap.size) (hr : Rd w T 1 v n (parts.map str)) (hb : parts.flatten.length ≤ 4611686018427387904) : Ret Tryz.prog 151 #[v] w (sha parts.flatten).v := by
  have hn : parts.length = n := by have := hr.len; simpa using this
  obtain ⟨A, c, rfl, _⟩ := hr.form
  refine c151 ?_
  unfold s151
  refine SV_alloc fun g1 w1 hg1 b1 h1 => ?_
  refine n231 (Calls.ret_mono (sha_new w1) ?_)
  rintro _ w2 ⟨g, rfl, hg, hat, h2⟩
  have s1 := h1.size
  have n1 : g ≠ g1 := by have := b1.lt; omega
  (first | refine SV_p (by first | exact True.intro | omega | (simp only [List.length_append, List.length_cons, List.length_nil, List.length_replicate, List.length_map]; omega)) ?_ | refine HV_p (by first | exact True.intro | omega | (simp only [List.length_append, List.length_cons, List.length_nil, List.length_replicate, List.length_map]; omega)) ?_)
  refine LP_intro (fun us w' => ∃ i : Nat, us = [.int .i64 i] ∧ i ≤ n ∧ HashAt w' g 282 (parts.take i).flatten ∧ Blk w' g1 29 Sum.zero.cells ∧ Ch No w w') (fun us _ => match us with | [.int _ t] => (n - t).toNat | _ => 0)
    ⟨0, rfl, by omega, hat, b1.no h2, h1.trans h2⟩ ?_
  rintro us hus ζ w3 ⟨i, rfl, hi, hat, b1, h3⟩
  unfold s151_l1
  simp only [List.getD_cons_zero, List.getD_cons_succ]
  have hmax := hr.2.1
  unfold maxLen at hmax
  have hki := hk.no h3
  have hlf := len_flat parts i
  (first | refine SV_p (by first | exact True.intro | omega | (simp only [List.length_append, List.length_cons, List.length_nil, List.length_replicate, List.length_map]; omega)) ?_ | refine HV_p (by first | exact True.intro | omega | (simp only [List.length_append, List.length_cons, List.length_nil, List.length_replicate, List.length_map]; omega)) ?_)
  refine CN_split (fun hlt => ?_) (fun hge => ?_)
  · have hip : i < parts.length := by omega
    refine SV_idx (T := T) (hr.no h3) (by omega) (by omega) fun p hp => ?_
    have hp' : Pt w3 p [str parts[i]] := by
      have : (((parts.map str).drop ((i : Int).toNat * 1)).take 1) = [str parts[i]] := by
        rw [Int.toNat_natCast, Nat.mul_one, List.drop_eq_getElem_cons (by simpa using hip)]; simp
      rw [← this]; exact hp
    refine SV_ptr1 hp' ?_
    have hfl : (parts.take i).flatten.length + parts[i].length ≤ 4611686018427387904 := by
      have := len_flat parts (i + 1)
      rw [flat_succ hip, List.length_append] at this
      omega
    refine n232 (Calls.ret_mono (sha_write hki (by omega) hat hfl) ?_)
    rintro _ w4 ⟨hat4, h4⟩
    (first | refine SV_p (by first | exact True.intro | omega | (simp only [List.length_append, List.length_cons, List.length_nil, List.length_replicate, List.length_map]; omega)) ?_ | refine HV_p (by first | exact True.intro | omega | (simp only [List.length_append, List.length_cons, List.length_nil, List.length_replicate, List.length_map]; omega)) ?_)
    rw [← flat_succ hip] at hat4
    refine ⟨⟨i + 1, rfl, by omega, hat4, b1.ch h4 n1.symm, h3.own h4 (by omega)⟩, ?_⟩
    show ((n : Int) - ((i : Int) + 1)).toNat < ((n : Int) - (i : Int)).toNat
    omega
  · have : i = parts.length := by omega
    subst this
    rw [List.take_length] at hat
    refine n233 ((sha_sum hki hat hb).use fun w4 h4 => ?_)
    refine SU_storeB (b1.no h4) (Sum.len _) Sum.zero.len (Sum.ones _) fun w5 b5 h5 => ?_
    refine CR_N b5 (Sum.len _) ?_
    exact ⟨rfl, (h3.trans h4).own h5 hg1⟩
end Go.Proofs.YtkdghnbogkbedaaGreatDoor

namespace Go.Proofs.YtkdghnbogkbedaaGreatDoor
open Go Go.Sh
set_option maxRecDepth 100000


theorem mixedXRef02 : Tryz.prog.follows .mixedOrders = true := by kernel_rfl

/-! ### 81: scrinium/scriniumref02.Of -/

def s81_l1 (P : Program) (_ : Value → World → Prop) (t3_1 : Value) (state6 : Value) (at7 : Value) (next_2 : List Value → World → Prop) (b8 : Value) (i9_1 : Value) (next_3 : List Value → World → Prop) (w : World) : Prop :=
  SV P (binOp .lss 3 i9_1 (Value.int .i64 64)) w fun t46 w =>
  CN t46
  (HR w fun C w =>
  HV P C (binOp .quo 3 i9_1 (Value.int .i64 4)) fun t50 =>
  HV P C (binOp .quo 3 i9_1 (Value.int .i64 4)) fun t52 =>
  HV P C (Instr.indexAt 202 b8 t52) fun t53 =>
  HV P C (Instr.loadAt 199 t53) fun t54 =>
  HV P C (binOp .mul 199 t54 (Value.int .u32 256)) fun t55 =>
  HV P C (binOp .add 3 at7 i9_1) fun t59 =>
  HV P C (Instr.index 9 t3_1 t59) fun t60 =>
  HV P C (convert 5 199 t60) fun t61 =>
  HV P C (binOp .add 199 t55 t61) fun t62 =>
  HV P C (Instr.indexAt 202 b8 t50) fun t63 =>
  SU P (Instr.storeAt 199 t63 t62) w fun w =>
  SV P (binOp .add 3 i9_1 (Value.int .i64 1)) w fun t48 w =>
  next_3 [t48] w)
  (SV P (Instr.loadAt 200 state6) w fun t64 w =>
  SV P (Instr.loadAt 202 b8) w fun t65 w =>
  SN P (callFunc 149 #[t64, t65]) w fun t66 w =>
  SU P (Instr.storeAt 200 state6 t66) w fun w =>
  SV P (binOp .add 3 at7 (Value.int .i64 64)) w fun t44 w =>
  next_2 [i9_1, t44] w)

def s81_l2 (P : Program) (k : Value → World → Prop) (t2 : Value) (state6 : Value) (out10 : Value) (i11 : Value) (next_3 : List Value → World → Prop) (w : World) : Prop :=
  SV P (binOp .lss 3 i11 (Value.int .i64 32)) w fun t68 w =>
  CN t68
  (SV P (binOp .quo 3 i11 (Value.int .i64 4)) w fun t73 w =>
  SV P (Instr.indexAt 200 state6 t73) w fun t74 w =>
  SV P (Instr.loadAt 199 t74) w fun t75 w =>
  SV P (binOp .rem 3 i11 (Value.int .i64 4)) w fun t77 w =>
  SV P (binOp .mul 3 (Value.int .i64 8) t77) w fun t78 w =>
  SV P (binOp .sub 3 (Value.int .i64 24) t78) w fun t79 w =>
  SV P (convert 3 121 t79) w fun t80 w =>
  SV P (binOp .shr 199 t75 t80) w fun t81 w =>
  SV P (convert 199 5 t81) w fun t82 w =>
  SV P (Instr.indexAt 29 out10 i11) w fun t83 w =>
  SU P (Instr.storeAt 5 t83 t82) w fun w =>
  SV P (binOp .add 3 i11 (Value.int .i64 1)) w fun t70 w =>
  next_3 [t70] w)
  (SV P (Instr.loadAt 29 out10) w fun t84 w =>
  SU P (Instr.storeAt 29 t2 t84) w fun w =>
  CR P 29 t2 w fun t2_1 =>
  k t2_1 w)

def s81_l3 (P : Program) (k : Value → World → Prop) (t2 : Value) (t3_1 : Value) (state6 : Value) (at7 : Value) (next_2 : List Value → World → Prop) (w : World) : Prop :=
  SV P (Builtin.len_ #[9] 3 #[t3_1]) w fun t41 w =>
  SV P (binOp .lss 3 at7 t41) w fun t42 w =>
  CN t42
  (SV P (Instr.alloc 202 true (.tuple #[])) w fun b8 w =>
  LP 1 [(Value.int .i64 0)] w (fun next_3 _ us w => s81_l1 P k t3_1 state6 at7 next_2 b8 (us.getD 0 undef) next_3 w))
  (SV P (Instr.alloc 29 true (.tuple #[])) w fun out10 w =>
  LP 1 [(Value.int .i64 0)] w (fun next_3 _ us w => s81_l2 P k t2 state6 out10 (us.getD 0 undef) next_3 w))

def s81_l4 (P : Program) (k : Value → World → Prop) (t2 : Value) (t23 : Value) (t3_1 : Value) (i5 : Value) (next_1 : List Value → World → Prop) (w : World) : Prop :=
  SV P (binOp .geq 3 i5 (Value.int .i64 0)) w fun t25 w =>
  CN t25
  (SV P (binOp .mul 3 (Value.int .i64 8) i5) w fun t31 w =>
  SV P (convert 3 121 t31) w fun t32 w =>
  SV P (binOp .shr 198 t23 t32) w fun t33 w =>
  SV P (convert 198 5 t33) w fun t34 w =>
  SV P (Instr.buildSlice 151 1 #[(0, t34)]) w fun t35 w =>
  SV P (convert 151 9 t35) w fun t36 w =>
  SV P (binOp .add 9 t3_1 t36) w fun t37 w =>
  SV P (binOp .sub 3 i5 (Value.int .i64 1)) w fun t27 w =>
  next_1 [t37, t27] w)
  (SN P (callFunc 148 #[]) w fun t38 w =>
  SV P (Instr.alloc 200 true (.tuple #[])) w fun state6 w =>
  SU P (Instr.storeAt 200 state6 t38) w fun w =>
  LP 2 [undef, (Value.int .i64 0)] w (fun next_2 _ us w => s81_l3 P k t2 t3_1 state6 (us.getD 1 undef) next_2 w))

def s81_l5 (P : Program) (k : Value → World → Prop) (a0_s : Value) (t2 : Value) (t3 : Value) (next : List Value → World → Prop) (w : World) : Prop :=
  SV P (Builtin.len_ #[9] 3 #[t3]) w fun t15 w =>
  SV P (binOp .rem 3 t15 (Value.int .i64 64)) w fun t16 w =>
  SV P (eqS .neq 3 (.tmp 16) (.const (Value.int .i64 56)) t16 (Value.int .i64 56)) w fun t17 w =>
  CN t17
  (SV P (binOp .add 9 t3 (str [0])) w fun t19 w =>
  next [t19] w)
  (SV P (Builtin.len_ #[9] 3 #[a0_s]) w fun t21 w =>
  SV P (convert 3 198 t21) w fun t22 w =>
  SV P (binOp .mul 198 t22 (Value.int .u64 8)) w fun t23 w =>
  LP 2 [t3, (Value.int .i64 7)] w (fun next_1 _ us w => s81_l4 P k t2 t23 (us.getD 0 undef) (us.getD 1 undef) next_1 w))

def s81 (P : Program) (k : Value → World → Prop) (a0_s : Value) (w : World) : Prop :=
  SV P (Instr.alloc 29 true (.tuple #[])) w fun t2 w =>
  SV P (binOp .add 9 a0_s (str [128])) w fun t13 w =>
  LP 1 [t13] w (fun next _ us w => s81_l5 P k a0_s t2 (us.getD 0 undef) next w)

theorem e81 (k : Value → World → Prop) (a0_s : Value) (w : World) : s81 Tryz.prog k a0_s w = vcF Tryz.prog Tryz.f81 [3, 5, 7, 9, 11] [a0_s] k w := by kernel_rfl
theorem c81 {k : Value → World → Prop} {a0_s : Value} {w : World} (h : s81 Tryz.prog k a0_s w) : Calls Tryz.prog 81 #[a0_s] w (retP k) :=
  calls_of_vcF [3, 5, 7, 9, 11] mixedXRef02 Tryz.func81 (by kernel_rfl) (Eq.mp (e81 k a0_s w) h)
theorem n81 {args : Array Value} {w : World} {k : Value → World → Prop} (h : Calls Tryz.prog 81 args w (retP k)) : SN Tryz.prog (callFunc 81 args) w k := sn_call Tryz.func81 (by kernel_rfl) (by kernel_rfl) h

/-! ### 148: scrinium/scriniumref02.Start -/

def s148 (P : Program) (k : Value → World → Prop) (w : World) : Prop :=
  SV P (Instr.alloc 200 true (.tuple #[])) w fun t0 w =>
  SV P (Instr.build 200 #[(0, (Value.int .u32 1779033703)), (1, (Value.int .u32 3144134277)), (2, (Value.int .u32 1013904242)), (3, (Value.int .u32 2773480762)), (4, (Value.int .u32 1359893119)), (5, (Value.int .u32 2600822924)), (6, (Value.int .u32 528734635)), (7, (Value.int .u32 1541459225))]) w fun t1 w =>
  SU P (Instr.storeAt 200 t0 t1) w fun w =>
  CR P 200 t0 w fun t0_1 =>
  k t0_1 w

theorem e148 (k : Value → World → Prop) (w : World) : s148 Tryz.prog k  w = vcF Tryz.prog Tryz.f148 [] [] k w := by kernel_rfl
theorem c148 {k : Value → World → Prop} {w : World} (h : s148 Tryz.prog k  w) : Calls Tryz.prog 148 #[] w (retP k) :=
  calls_of_vcF [] mixedXRef02 Tryz.func148 (by kernel_rfl) (Eq.mp (e148 k  w) h)
theorem n148 {args : Array Value} {w : World} {k : Value → World → Prop} (h : Calls Tryz.prog 148 args w (retP k)) : SN Tryz.prog (callFunc 148 args) w k := sn_call Tryz.func148 (by kernel_rfl) (by kernel_rfl) h

/-! ### 149: scrinium/scriniumref02.Step -/

def s149_j1 (P : Program) (_ : Value → World → Prop) (t7 : Value) (next : List Value → World → Prop) (w : World) : Prop :=
  SV P (binOp .add 3 t7 (Value.int .i64 1)) w fun t23 w =>
  next [t23] w

def s149_l1 (P : Program) (k : Value → World → Prop) (state2 : Value) (t4 : Value) (v12 : Value) (i18 : Value) (next_2 : List Value → World → Prop) (w : World) : Prop :=
  SV P (binOp .lss 3 i18 (Value.int .i64 8)) w fun t154 w =>
  CN t154
  (HR w fun C w =>
  HV P C (Instr.indexAt 200 v12 i18) fun t159 =>
  HV P C (Instr.loadAt 199 t159) fun t160 =>
  HV P C (Instr.indexAt 200 state2 i18) fun t162 =>
  HV P C (Instr.loadAt 199 t162) fun t163 =>
  HV P C (binOp .add 199 t160 t163) fun t164 =>
  HV P C (Instr.indexAt 200 v12 i18) fun t165 =>
  SU P (Instr.storeAt 199 t165 t164) w fun w =>
  SV P (binOp .add 3 i18 (Value.int .i64 1)) w fun t156 w =>
  next_2 [t156] w)
  (SV P (Instr.loadAt 200 v12) w fun t166 w =>
  SU P (Instr.storeAt 200 t4 t166) w fun w =>
  CR P 200 t4 w fun t4_1 =>
  k t4_1 w)

def s149_l2 (P : Program) (k : Value → World → Prop) (state2 : Value) (t4 : Value) (keys5 : Value) (w6 : Value) (v12 : Value) (t13 : Value) (next_1 : List Value → World → Prop) (w : World) : Prop :=
  SV P (binOp .lss 3 t13 (Value.int .i64 64)) w fun t72 w =>
  CN t72
  (SV P (Instr.indexAt 200 v12 (Value.int .i64 0)) w fun t75 w =>
  SV P (Instr.loadAt 199 t75) w fun t76 w =>
  SV P (Instr.indexAt 200 v12 (Value.int .i64 4)) w fun t77 w =>
  SV P (Instr.loadAt 199 t77) w fun t78 w =>
  HR w fun C w =>
  HV P C (Instr.indexAt 200 v12 (Value.int .i64 7)) fun t79 =>
  HV P C (Instr.loadAt 199 t79) fun t80 =>
  SN P (callFunc 230 #[(Value.int .i64 6), t78]) w fun t82 w =>
  C w ∧
  SN P (callFunc 230 #[(Value.int .i64 11), t78]) w fun t84 w =>
  C w ∧
  HV P C (binOp .xor 199 t82 t84) fun t85 =>
  SN P (callFunc 230 #[(Value.int .i64 25), t78]) w fun t87 w =>
  C w ∧
  HV P C (binOp .xor 199 t85 t87) fun t88 =>
  HV P C (binOp .add 199 t80 t88) fun t89 =>
  HV P C (Instr.indexAt 200 v12 (Value.int .i64 5)) fun t91 =>
  HV P C (Instr.loadAt 199 t91) fun t92 =>
  HV P C (binOp .and 199 t78 t92) fun t93 =>
  HV P C (Op.unary .xor t78) fun t95 =>
  HV P C (Instr.indexAt 200 v12 (Value.int .i64 6)) fun t96 =>
  HV P C (Instr.loadAt 199 t96) fun t97 =>
  HV P C (binOp .and 199 t95 t97) fun t98 =>
  HV P C (binOp .xor 199 t93 t98) fun t99 =>
  HV P C (binOp .add 199 t89 t99) fun t100 =>
  HV P C (Instr.indexAt 258 keys5 t13) fun t102 =>
  HV P C (Instr.loadAt 199 t102) fun t103 =>
  HV P C (binOp .add 199 t100 t103) fun t104 =>
  HV P C (Instr.indexAt 258 w6 t13) fun t106 =>
  HV P C (Instr.loadAt 199 t106) fun t107 =>
  HV P C (binOp .add 199 t104 t107) fun t108 =>
  HR w fun C w =>
  SN P (callFunc 230 #[(Value.int .i64 2), t76]) w fun t110 w =>
  RS C w fun C =>
  SN P (callFunc 230 #[(Value.int .i64 13), t76]) w fun t112 w =>
  RS C w fun C =>
  HV P C (binOp .xor 199 t110 t112) fun t113 =>
  SN P (callFunc 230 #[(Value.int .i64 22), t76]) w fun t115 w =>
  C w ∧
  HV P C (binOp .xor 199 t113 t115) fun t116 =>
  HV P C (Instr.indexAt 200 v12 (Value.int .i64 1)) fun t118 =>
  HV P C (Instr.loadAt 199 t118) fun t119 =>
  HV P C (binOp .and 199 t76 t119) fun t120 =>
  HV P C (Instr.indexAt 200 v12 (Value.int .i64 2)) fun t122 =>
  HV P C (Instr.loadAt 199 t122) fun t123 =>
  HV P C (binOp .and 199 t76 t123) fun t124 =>
  HV P C (binOp .xor 199 t120 t124) fun t125 =>
  HV P C (Instr.indexAt 200 v12 (Value.int .i64 1)) fun t126 =>
  HV P C (Instr.loadAt 199 t126) fun t127 =>
  HV P C (Instr.indexAt 200 v12 (Value.int .i64 2)) fun t128 =>
  HV P C (Instr.loadAt 199 t128) fun t129 =>
  HV P C (binOp .and 199 t127 t129) fun t130 =>
  HV P C (binOp .xor 199 t125 t130) fun t131 =>
  HV P C (binOp .add 199 t116 t131) fun t132 =>
  SV P (binOp .add 199 t108 t132) w fun t135 w =>
  SV P (Instr.indexAt 200 v12 (Value.int .i64 0)) w fun t136 w =>
  SV P (Instr.loadAt 199 t136) w fun t137 w =>
  SV P (Instr.indexAt 200 v12 (Value.int .i64 1)) w fun t138 w =>
  SV P (Instr.loadAt 199 t138) w fun t139 w =>
  SV P (Instr.indexAt 200 v12 (Value.int .i64 2)) w fun t140 w =>
  SV P (Instr.loadAt 199 t140) w fun t141 w =>
  SV P (Instr.indexAt 200 v12 (Value.int .i64 3)) w fun t142 w =>
  SV P (Instr.loadAt 199 t142) w fun t143 w =>
  SV P (binOp .add 199 t143 t108) w fun t145 w =>
  SV P (Instr.indexAt 200 v12 (Value.int .i64 4)) w fun t146 w =>
  SV P (Instr.loadAt 199 t146) w fun t147 w =>
  SV P (Instr.indexAt 200 v12 (Value.int .i64 5)) w fun t148 w =>
  SV P (Instr.loadAt 199 t148) w fun t149 w =>
  SV P (Instr.indexAt 200 v12 (Value.int .i64 6)) w fun t150 w =>
  SV P (Instr.loadAt 199 t150) w fun t151 w =>
  SV P (Instr.build 200 #[(0, t135), (1, t137), (2, t139), (3, t141), (4, t145), (5, t147), (6, t149), (7, t151)]) w fun t152 w =>
  SU P (Instr.storeAt 200 v12 t152) w fun w =>
  SV P (binOp .add 3 t13 (Value.int .i64 1)) w fun t74 w =>
  next_1 [t74] w)
  (LP 1 [(Value.int .i64 0)] w (fun next_2 _ us w => s149_l1 P k state2 t4 v12 (us.getD 0 undef) next_2 w))

def s149_l3 (P : Program) (k : Value → World → Prop) (state2 : Value) (block3 : Value) (t4 : Value) (keys5 : Value) (w6 : Value) (t7 : Value) (next : List Value → World → Prop) (w : World) : Prop :=
  SV P (binOp .lss 3 t7 (Value.int .i64 64)) w fun t21 w =>
  CN t21
  (JP 0 (fun j =>
  SV P (binOp .lss 3 t7 (Value.int .i64 16)) w fun t25 w =>
  CN t25
  (SV P (Instr.indexAt 202 block3 t7) w fun t28 w =>
  SV P (Instr.loadAt 199 t28) w fun t29 w =>
  SV P (Instr.indexAt 258 w6 t7) w fun t30 w =>
  SU P (Instr.storeAt 199 t30 t29) w fun w =>
  j [] w)
  (SV P (binOp .sub 3 t7 (Value.int .i64 2)) w fun t32 w =>
  SV P (Instr.indexAt 258 w6 t32) w fun t33 w =>
  SV P (Instr.loadAt 199 t33) w fun t34 w =>
  SV P (binOp .sub 3 t7 (Value.int .i64 15)) w fun t36 w =>
  SV P (Instr.indexAt 258 w6 t36) w fun t37 w =>
  SV P (Instr.loadAt 199 t37) w fun t38 w =>
  SN P (callFunc 230 #[(Value.int .i64 17), t34]) w fun t40 w =>
  SN P (callFunc 230 #[(Value.int .i64 19), t34]) w fun t42 w =>
  SV P (binOp .xor 199 t40 t42) w fun t43 w =>
  SV P (binOp .shr 199 t34 (Value.int .u64 10)) w fun t45 w =>
  SV P (binOp .xor 199 t43 t45) w fun t46 w =>
  SN P (callFunc 230 #[(Value.int .i64 7), t38]) w fun t48 w =>
  SN P (callFunc 230 #[(Value.int .i64 18), t38]) w fun t50 w =>
  SV P (binOp .xor 199 t48 t50) w fun t51 w =>
  SV P (binOp .shr 199 t38 (Value.int .u64 3)) w fun t53 w =>
  SV P (binOp .xor 199 t51 t53) w fun t54 w =>
  HR w fun C w =>
  HV P C (binOp .sub 3 t7 (Value.int .i64 7)) fun t58 =>
  HV P C (Instr.indexAt 258 w6 t58) fun t59 =>
  HV P C (Instr.loadAt 199 t59) fun t60 =>
  HV P C (binOp .add 199 t46 t60) fun t61 =>
  HV P C (binOp .add 199 t61 t54) fun t63 =>
  HV P C (binOp .sub 3 t7 (Value.int .i64 16)) fun t65 =>
  HV P C (Instr.indexAt 258 w6 t65) fun t66 =>
  HV P C (Instr.loadAt 199 t66) fun t67 =>
  HV P C (binOp .add 199 t63 t67) fun t68 =>
  HV P C (Instr.indexAt 258 w6 t7) fun t69 =>
  SU P (Instr.storeAt 199 t69 t68) w fun w =>
  j [] w))
  (fun _ _ w => s149_j1 P k t7 next w))
  (SV P (Instr.loadAt 200 state2) w fun t70 w =>
  SV P (Instr.alloc 200 true (.tuple #[])) w fun v12 w =>
  SU P (Instr.storeAt 200 v12 t70) w fun w =>
  LP 1 [(Value.int .i64 0)] w (fun next_1 _ us w => s149_l2 P k state2 t4 keys5 w6 v12 (us.getD 0 undef) next_1 w))

def s149 (P : Program) (k : Value → World → Prop) (a0_state : Value) (a1_block : Value) (w : World) : Prop :=
  SV P (Instr.box 200 a0_state) w fun state2 w =>
  SV P (Instr.box 202 a1_block) w fun block3 w =>
  SV P (Instr.alloc 200 true (.tuple #[])) w fun t4 w =>
  SN P (callFunc 229 #[]) w fun t19 w =>
  SV P (Instr.alloc 258 true (.tuple #[])) w fun keys5 w =>
  SU P (Instr.storeAt 258 keys5 t19) w fun w =>
  SV P (Instr.alloc 258 true (.tuple #[])) w fun w6 w =>
  LP 1 [(Value.int .i64 0)] w (fun next _ us w => s149_l3 P k state2 block3 t4 keys5 w6 (us.getD 0 undef) next w)

theorem e149 (k : Value → World → Prop) (a0_state a1_block : Value) (w : World) : s149 Tryz.prog k a0_state a1_block w = vcF Tryz.prog Tryz.f149 [7, 13, 18] [a0_state, a1_block] k w := by kernel_rfl
theorem c149 {k : Value → World → Prop} {a0_state a1_block : Value} {w : World} (h : s149 Tryz.prog k a0_state a1_block w) : Calls Tryz.prog 149 #[a0_state, a1_block] w (retP k) :=
  calls_of_vcF [7, 13, 18] mixedXRef02 Tryz.func149 (by kernel_rfl) (Eq.mp (e149 k a0_state a1_block w) h)
theorem n149 {args : Array Value} {w : World} {k : Value → World → Prop} (h : Calls Tryz.prog 149 args w (retP k)) : SN Tryz.prog (callFunc 149 args) w k := sn_call Tryz.func149 (by kernel_rfl) (by kernel_rfl) h

/-! ### 160: scrinium/scriniumref02.Bytes -/

def s160 (P : Program) (k : Value → World → Prop) (a0_s : Value) (w : World) : Prop :=
  SV P (Instr.box 29 a0_s) w fun s1 w =>
  SV P (Instr.sliceAt 29 s1 none none none) w fun t3 w =>
  SV P (convert 151 9 t3) w fun t4 w =>
  k t4 w

theorem e160 (k : Value → World → Prop) (a0_s : Value) (w : World) : s160 Tryz.prog k a0_s w = vcF Tryz.prog Tryz.f160 [] [a0_s] k w := by kernel_rfl
theorem c160 {k : Value → World → Prop} {a0_s : Value} {w : World} (h : s160 Tryz.prog k a0_s w) : Calls Tryz.prog 160 #[a0_s] w (retP k) :=
  calls_of_vcF [] mixedXRef02 Tryz.func160 (by kernel_rfl) (Eq.mp (e160 k a0_s w) h)
theorem n160 {args : Array Value} {w : World} {k : Value → World → Prop} (h : Calls Tryz.prog 160 args w (retP k)) : SN Tryz.prog (callFunc 160 args) w k := sn_call Tryz.func160 (by kernel_rfl) (by kernel_rfl) h

/-! ### 229: scrinium/scriniumref02.Keys -/

def s229 (P : Program) (k : Value → World → Prop) (w : World) : Prop :=
  SV P (Instr.alloc 258 true (.tuple #[])) w fun t0 w =>
  SV P (Instr.build 258 #[(0, (Value.int .u32 1116352408)), (1, (Value.int .u32 1899447441)), (2, (Value.int .u32 3049323471)), (3, (Value.int .u32 3921009573)), (4, (Value.int .u32 961987163)), (5, (Value.int .u32 1508970993)), (6, (Value.int .u32 2453635748)), (7, (Value.int .u32 2870763221)), (8, (Value.int .u32 3624381080)), (9, (Value.int .u32 310598401)), (10, (Value.int .u32 607225278)), (11, (Value.int .u32 1426881987)), (12, (Value.int .u32 1925078388)), (13, (Value.int .u32 2162078206)), (14, (Value.int .u32 2614888103)), (15, (Value.int .u32 3248222580)), (16, (Value.int .u32 3835390401)), (17, (Value.int .u32 4022224774)), (18, (Value.int .u32 264347078)), (19, (Value.int .u32 604807628)), (20, (Value.int .u32 770255983)), (21, (Value.int .u32 1249150122)), (22, (Value.int .u32 1555081692)), (23, (Value.int .u32 1996064986)), (24, (Value.int .u32 2554220882)), (25, (Value.int .u32 2821834349)), (26, (Value.int .u32 2952996808)), (27, (Value.int .u32 3210313671)), (28, (Value.int .u32 3336571891)), (29, (Value.int .u32 3584528711)), (30, (Value.int .u32 113926993)), (31, (Value.int .u32 338241895)), (32, (Value.int .u32 666307205)), (33, (Value.int .u32 773529912)), (34, (Value.int .u32 1294757372)), (35, (Value.int .u32 1396182291)), (36, (Value.int .u32 1695183700)), (37, (Value.int .u32 1986661051)), (38, (Value.int .u32 2177026350)), (39, (Value.int .u32 2456956037)), (40, (Value.int .u32 2730485921)), (41, (Value.int .u32 2820302411)), (42, (Value.int .u32 3259730800)), (43, (Value.int .u32 3345764771)), (44, (Value.int .u32 3516065817)), (45, (Value.int .u32 3600352804)), (46, (Value.int .u32 4094571909)), (47, (Value.int .u32 275423344)), (48, (Value.int .u32 430227734)), (49, (Value.int .u32 506948616)), (50, (Value.int .u32 659060556)), (51, (Value.int .u32 883997877)), (52, (Value.int .u32 958139571)), (53, (Value.int .u32 1322822218)), (54, (Value.int .u32 1537002063)), (55, (Value.int .u32 1747873779)), (56, (Value.int .u32 1955562222)), (57, (Value.int .u32 2024104815)), (58, (Value.int .u32 2227730452)), (59, (Value.int .u32 2361852424)), (60, (Value.int .u32 2428436474)), (61, (Value.int .u32 2756734187)), (62, (Value.int .u32 3204031479)), (63, (Value.int .u32 3329325298))]) w fun t1 w =>
  SU P (Instr.storeAt 258 t0 t1) w fun w =>
  CR P 258 t0 w fun t0_1 =>
  k t0_1 w

theorem e229 (k : Value → World → Prop) (w : World) : s229 Tryz.prog k  w = vcF Tryz.prog Tryz.f229 [] [] k w := by kernel_rfl
theorem c229 {k : Value → World → Prop} {w : World} (h : s229 Tryz.prog k  w) : Calls Tryz.prog 229 #[] w (retP k) :=
  calls_of_vcF [] mixedXRef02 Tryz.func229 (by kernel_rfl) (Eq.mp (e229 k  w) h)
theorem n229 {args : Array Value} {w : World} {k : Value → World → Prop} (h : Calls Tryz.prog 229 args w (retP k)) : SN Tryz.prog (callFunc 229 args) w k := sn_call Tryz.func229 (by kernel_rfl) (by kernel_rfl) h

/-! ### 230: scrinium/scriniumref02.rotr -/

def s230 (P : Program) (k : Value → World → Prop) (a0_n : Value) (a1_x : Value) (w : World) : Prop :=
  SV P (convert 3 121 a0_n) w fun t7 w =>
  SV P (binOp .shr 199 a1_x t7) w fun t8 w =>
  SV P (binOp .sub 3 (Value.int .i64 32) a0_n) w fun t11 w =>
  SV P (convert 3 121 t11) w fun t12 w =>
  SV P (binOp .shl 199 a1_x t12) w fun t13 w =>
  SV P (binOp .or 199 t8 t13) w fun t14 w =>
  k t14 w

theorem e230 (k : Value → World → Prop) (a0_n a1_x : Value) (w : World) : s230 Tryz.prog k a0_n a1_x w = vcF Tryz.prog Tryz.f230 [] [a0_n, a1_x] k w := by kernel_rfl
theorem c230 {k : Value → World → Prop} {a0_n a1_x : Value} {w : World} (h : s230 Tryz.prog k a0_n a1_x w) : Calls Tryz.prog 230 #[a0_n, a1_x] w (retP k) :=
  calls_of_vcF [] mixedXRef02 Tryz.func230 (by kernel_rfl) (Eq.mp (e230 k a0_n a1_x w) h)
theorem n230 {args : Array Value} {w : World} {k : Value → World → Prop} (h : Calls Tryz.prog 230 args w (retP k)) : SN Tryz.prog (callFunc 230 args) w k := sn_call Tryz.func230 (by kernel_rfl) (by kernel_rfl) h

end Go.Proofs.YtkdghnbogkbedaaGreatDoor

namespace Go.Sh
open Go Go.RowKit

theorem wAt_mixed' {x y : List UInt32} {i j : Nat} (h : i ≤ y.length) (hj : j < i) : wAt (y.take i ++ x.drop i) j = wAt y j := by
  have hl : (y.take i).length = i := by simp; omega
  rw [wAt_append (by omega)]
  simp [wAt, List.getD, List.getElem?_take, hj]
theorem mixed_len {x y : List UInt32} {i n : Nat} (hx : x.length = n) (hy : y.length = n) (h : i ≤ n) : (y.take i ++ x.drop i).length = n := by simp; omega

theorem schedGo_pre (n m : Nat) (w : List UInt32) {i : Nat} (h : i < w.length + n) : wAt (schedGo (n + m) w) i = wAt (schedGo n w) i := by
  induction m with
  | zero => rfl
  | succ m ih =>
    rw [← Nat.add_assoc, schedGo_last, wAt_append (by rw [schedGo_len]; omega), ih]
theorem sched_len {blk : List UInt32} (hb : blk.length = 16) : (sched blk).length = 64 := by simp [sched, schedGo_len, hb]
theorem sched_lo {blk : List UInt32} (hb : blk.length = 16) {t : Nat} (h : t < 16) : wAt (sched blk) t = wAt blk t := schedGo_pre 0 48 blk (by omega)
theorem sched_hi {blk : List UInt32} (hb : blk.length = 16) {t : Nat} (h : 16 ≤ t) (h' : t < 64) : wAt (sched blk) t =
    mix (wAt (sched blk) (t - 2)) 17 19 10 + wAt (sched blk) (t - 7) + mix (wAt (sched blk) (t - 15)) 7 18 3 + wAt (sched blk) (t - 16) := by
  have e : ∀ i, i < t → wAt (sched blk) i = wAt (schedGo (t - 16) blk) i := fun i hi => by
    have := schedGo_pre (t - 16) (48 - (t - 16)) blk (i := i) (by omega)
    rwa [show t - 16 + (48 - (t - 16)) = 48 by omega] at this
  have e1 : wAt (sched blk) t = wAt (schedGo (t - 16 + 1) blk) t := by
    have := schedGo_pre (t - 16 + 1) (48 - (t - 16 + 1)) blk (i := t) (by omega)
    rwa [show t - 16 + 1 + (48 - (t - 16 + 1)) = 48 by omega] at this
  rw [e1, schedGo_last, e _ (by omega), e _ (by omega), e _ (by omega), e _ (by omega)]
  have hl : (schedGo (t - 16) blk).length = t := by rw [schedGo_len, hb]; omega
  have h2 : wAt (schedGo (t - 16) blk ++ [nextW (schedGo (t - 16) blk) (blk.length + (t - 16))]) t = nextW (schedGo (t - 16) blk) (blk.length + (t - 16)) := by
    simp only [wAt, List.getD]
    rw [List.getElem?_append_right (by omega), hl, Nat.sub_self]
    rfl
  rw [h2, hb, show 16 + (t - 16) = t by omega]
  rfl
theorem shl_add (x : UInt32) (b : UInt8) : x * 256 + UInt32.ofNat b.toNat = shl32 x 8 ||| UInt32.ofNat b.toNat := by
  apply UInt32.toNat_inj.1
  have hb : b.toNat < 256 := b.toNat_lt
  have hx : x.toNat < 4294967296 := x.toNat_lt
  unfold shl32
  rw [UInt32.toNat_add, UInt32.toNat_mul, UInt32.toNat_or, w32_ofNat, w32_ofNat, Nat.mod_eq_of_lt (show b.toNat < 4294967296 by omega)]
  have h256 : (256 : UInt32).toNat = 256 := rfl
  rw [h256]
  have e : x.toNat * 2 ^ 8 % 4294967296 = (x.toNat % 16777216) <<< 8 := by rw [Nat.shiftLeft_eq]; omega
  rw [e, ← Nat.shiftLeft_add_eq_or_of_lt (by omega : b.toNat < 2 ^ 8), Nat.shiftLeft_eq]
  have hm : x.toNat % 16777216 < 16777216 := Nat.mod_lt _ (by decide)
  clear e h256
  simp only [Nat.reducePow]
  generalize x.toNat % 16777216 = y at hm ⊢
  generalize b.toNat = z at hb ⊢
  clear hx
  omega

section
variable {P : Program}
theorem pu_w32mul {t : TypeId} {x : UInt32} : Pu P (binOp .mul t (w32 x) (.int .u32 256)) (w32 (x * 256)) := fun w => by
  unfold w32
  rw [pu_mul w, IntKind.wrap_u32, UInt32.toNat_mul]
  congr 2
end
end Go.Sh
namespace Go.Proofs.YtkdghnbogkbedaaGreatDoor
open Go Go.Sh Go.RowKit
set_option maxRecDepth 100000
set_option linter.unusedSimpArgs false
set_option linter.unusedVariables false

theorem ref_rotr (x : UInt32) (n : Nat) (h1 : n ≤ 32) (w : World) : Ret Tryz.prog 230 #[.int .i64 n, w32 x] w (w32 (rotr x n)) := by
  refine c230 ?_
  unfold s230
  refine SV_pu (w64_conv (by omega) (by omega)) ?_
  (first | refine SV_p (by first | exact True.intro | omega | (simp only [List.length_append, List.length_cons, List.length_nil, List.length_replicate, List.length_map]; omega)) ?_ | refine HV_p (by first | exact True.intro | omega | (simp only [List.length_append, List.length_cons, List.length_nil, List.length_replicate, List.length_map]; omega)) ?_)
  (first | refine SV_p (by first | exact True.intro | omega | (simp only [List.length_append, List.length_cons, List.length_nil, List.length_replicate, List.length_map]; omega)) ?_ | refine HV_p (by first | exact True.intro | omega | (simp only [List.length_append, List.length_cons, List.length_nil, List.length_replicate, List.length_map]; omega)) ?_)
  refine SV_pu (w64_conv (by omega) (by omega)) ?_
  (first | refine SV_p (by first | exact True.intro | omega | (simp only [List.length_append, List.length_cons, List.length_nil, List.length_replicate, List.length_map]; omega)) ?_ | refine HV_p (by first | exact True.intro | omega | (simp only [List.length_append, List.length_cons, List.length_nil, List.length_replicate, List.length_map]; omega)) ?_)
  (first | refine SV_p (by first | exact True.intro | omega | (simp only [List.length_append, List.length_cons, List.length_nil, List.length_replicate, List.length_map]; omega)) ?_ | refine HV_p (by first | exact True.intro | omega | (simp only [List.length_append, List.length_cons, List.length_nil, List.length_replicate, List.length_map]; omega)) ?_)
  have e : ((32 : Int) - (n : Int)).toNat = 32 - n := by omega
  rw [e]
  exact ⟨rfl, Ch.refl w⟩

theorem ref_keys (w : World) : Ret Tryz.prog 229 #[] w (ag (wv keys)) := by
  refine c229 ?_
  unfold s229
  refine SV_alloc fun g1 w1 hg1 b1 h1 => ?_
  refine SV_pu (pu_build (FillOk.cons rfl rfl rfl (FillOk.cons rfl rfl rfl (FillOk.cons rfl rfl rfl (FillOk.cons rfl rfl rfl (FillOk.cons rfl rfl rfl (FillOk.cons rfl rfl rfl (FillOk.cons rfl rfl rfl (FillOk.cons rfl rfl rfl (FillOk.cons rfl rfl rfl (FillOk.cons rfl rfl rfl (FillOk.cons rfl rfl rfl (FillOk.cons rfl rfl rfl (FillOk.cons rfl rfl rfl (FillOk.cons rfl rfl rfl (FillOk.cons rfl rfl rfl (FillOk.cons rfl rfl rfl (FillOk.cons rfl rfl rfl (FillOk.cons rfl rfl rfl (FillOk.cons rfl rfl rfl (FillOk.cons rfl rfl rfl (FillOk.cons rfl rfl rfl (FillOk.cons rfl rfl rfl (FillOk.cons rfl rfl rfl (FillOk.cons rfl rfl rfl (FillOk.cons rfl rfl rfl (FillOk.cons rfl rfl rfl (FillOk.cons rfl rfl rfl (FillOk.cons rfl rfl rfl (FillOk.cons rfl rfl rfl (FillOk.cons rfl rfl rfl (FillOk.cons rfl rfl rfl (FillOk.cons rfl rfl rfl (FillOk.cons rfl rfl rfl (FillOk.cons rfl rfl rfl (FillOk.cons rfl rfl rfl (FillOk.cons rfl rfl rfl (FillOk.cons rfl rfl rfl (FillOk.cons rfl rfl rfl (FillOk.cons rfl rfl rfl (FillOk.cons rfl rfl rfl (FillOk.cons rfl rfl rfl (FillOk.cons rfl rfl rfl (FillOk.cons rfl rfl rfl (FillOk.cons rfl rfl rfl (FillOk.cons rfl rfl rfl (FillOk.cons rfl rfl rfl (FillOk.cons rfl rfl rfl (FillOk.cons rfl rfl rfl (FillOk.cons rfl rfl rfl (FillOk.cons rfl rfl rfl (FillOk.cons rfl rfl rfl (FillOk.cons rfl rfl rfl (FillOk.cons rfl rfl rfl (FillOk.cons rfl rfl rfl (FillOk.cons rfl rfl rfl (FillOk.cons rfl rfl rfl (FillOk.cons rfl rfl rfl (FillOk.cons rfl rfl rfl (FillOk.cons rfl rfl rfl (FillOk.cons rfl rfl rfl (FillOk.cons rfl rfl rfl (FillOk.cons rfl rfl rfl (FillOk.cons rfl rfl rfl (FillOk.cons rfl rfl rfl (FillOk.nil _)))))))))))))))))))))))))))))))))))))))))))))))))))))))))))))))))) ?_
  refine SU_storeB b1 rfl rfl (wv_ones keys) fun w2 b2 h2 => ?_
  refine CR_N b2 rfl ?_
  exact ⟨rfl, h1.own h2 hg1⟩

theorem ref_start (w : World) : Ret Tryz.prog 148 #[] w (ag (wv S8.start.l)) := by
  refine c148 ?_
  unfold s148
  refine SV_alloc fun g1 w1 hg1 b1 h1 => ?_
  refine SV_pu (pu_build (FillOk.cons rfl rfl rfl (FillOk.cons rfl rfl rfl (FillOk.cons rfl rfl rfl (FillOk.cons rfl rfl rfl (FillOk.cons rfl rfl rfl (FillOk.cons rfl rfl rfl (FillOk.cons rfl rfl rfl (FillOk.cons rfl rfl rfl (FillOk.nil _)))))))))) ?_
  refine SU_storeB b1 rfl rfl (wv_ones S8.start.l) fun w2 b2 h2 => ?_
  refine CR_N b2 rfl ?_
  exact ⟨rfl, h1.own h2 hg1⟩

theorem ref_bytes (s : Sum) (w : World) : Ret Tryz.prog 160 #[s.v] w (str s.l) := by
  refine c160 ?_
  unfold s160
  refine SV_box (vs := s.cells) rfl fun g1 w1 hg1 b1 h1 => ?_
  (first | refine SV_p (by first | exact True.intro | omega | (simp only [List.length_append, List.length_cons, List.length_nil, List.length_replicate, List.length_map]; omega)) ?_ | refine HV_p (by first | exact True.intro | omega | (simp only [List.length_append, List.length_cons, List.length_nil, List.length_replicate, List.length_map]; omega)) ?_)
  refine SV_bstr (Rd.of_blk b1 s.len (by decide)) ?_
  exact ⟨rfl, h1⟩
end Go.Proofs.YtkdghnbogkbedaaGreatDoor

namespace Go.Sh
open Go Go.RowKit
theorem zeros_len (n : Nat) : (List.replicate n (0 : UInt32)).length = n := by simp
end Go.Sh
namespace Go.Proofs.YtkdghnbogkbedaaGreatDoor
open Go Go.Sh Go.RowKit
set_option maxRecDepth 100000
set_option maxHeartbeats 1000000
set_option linter.unusedSimpArgs false
set_option linter.unusedVariables false

theorem ref_step (s : S8) (blk : List UInt32) (hb : blk.length = 16) (w : World) : Ret Tryz.prog 149 #[ag (wv s.l), ag (wv blk)] w (ag (wv (sstep s blk).l)) := by
  refine c149 ?_
  unfold s149
  refine SV_box (vs := wv s.l) rfl fun g1 w1 hg1 b1 h1 => ?_
  refine SV_box (vs := wv blk) rfl fun g2 w2 hg2 b2 h2 => ?_
  refine SV_alloc fun g3 w3 hg3 b3 h3 => ?_
  refine n229 ((ref_keys w3).use fun w4 h4 => ?_)
  refine SV_alloc fun g5 w5 hg5 b5 h5 => ?_
  refine SU_storeB b5 (by rw [wv_len]; rfl) rfl (wv_ones _) fun w6 b5 h6 => ?_
  refine SV_alloc fun g6 w7 hg6 b6 h7 => ?_
  have z1 := h1.size
  have z2 := h2.size
  have z3 := h3.size
  have z4 := h4.size
  have z5 := h5.size
  have z6 := h6.size
  have z7 := h7.size
  have l1 := b1.lt
  have l2 := b2.lt
  have l3 := b3.lt
  have l5 := b5.lt
  have hc5 : Ch No w w5 := h1.trans (h2.trans (h3.trans (h4.trans h5)))
  have hc7 : Ch No w w7 := (hc5.own h6 (by omega)).trans h7
  have b1 : Blk w7 g1 200 (wv s.l) := (((((b1.no h2).no h3).no h4).no h5).ch h6 (by omega)).no h7
  have b2 : Blk w7 g2 202 (wv blk) := ((((b2.no h3).no h4).no h5).ch h6 (by omega)).no h7
  have b3 := (((b3.no h4).no h5).ch h6 (by omega)).no h7
  have b5 := b5.no h7
  have hSl := sched_len hb
  have hZl := zeros_len 64
  rw [wv_zero] at b6
  refine LP_intro (fun us w' => ∃ t : Nat, us = [.int .i64 t] ∧ t ≤ 64 ∧ Blk w' g6 258 (wv ((sched blk).take t ++ (List.replicate 64 0).drop t)) ∧ Ch (· = g6) w7 w') (fun us _ => match us with | [.int _ t] => (64 - t).toNat | _ => 0)
    ⟨0, rfl, by decide, by rw [mixed_zero]; exact b6, Ch.refl _⟩ ?_
  rintro us hus ζ w8 ⟨t, rfl, ht, c6, h8⟩
  unfold s149_l3
  simp only [List.getD_cons_zero, List.getD_cons_succ]
  have hml := mixed_len hZl hSl ht
  (first | refine SV_p (by first | exact True.intro | omega | (simp only [List.length_append, List.length_cons, List.length_nil, List.length_replicate, List.length_map]; omega)) ?_ | refine HV_p (by first | exact True.intro | omega | (simp only [List.length_append, List.length_cons, List.length_nil, List.length_replicate, List.length_map]; omega)) ?_)
  refine CN_split (fun hlt => ?_) (fun hge => ?_)
  · refine JP_cut (fun _ w' => Blk w' g6 258 (wv ((sched blk).take (t + 1) ++ (List.replicate 64 0).drop (t + 1))) ∧ Ch (· = g6) w7 w') ?_ ?_
    · (first | refine SV_p (by first | exact True.intro | omega | (simp only [List.length_append, List.length_cons, List.length_nil, List.length_replicate, List.length_map]; omega)) ?_ | refine HV_p (by first | exact True.intro | omega | (simp only [List.length_append, List.length_cons, List.length_nil, List.length_replicate, List.length_map]; omega)) ?_)
      refine CN_split (fun h16 => ?_) (fun h16 => ?_)
      · (first | refine SV_p (by first | exact True.intro | omega | (simp only [List.length_append, List.length_cons, List.length_nil, List.length_replicate, List.length_map]; omega)) ?_ | refine HV_p (by first | exact True.intro | omega | (simp only [List.length_append, List.length_cons, List.length_nil, List.length_replicate, List.length_map]; omega)) ?_)
        refine SV_load (b2.ch h8 (by omega)) (wv_get (by omega)) ?_
        (first | refine SV_p (by first | exact True.intro | omega | (simp only [List.length_append, List.length_cons, List.length_nil, List.length_replicate, List.length_map]; omega)) ?_ | refine HV_p (by first | exact True.intro | omega | (simp only [List.length_append, List.length_cons, List.length_nil, List.length_replicate, List.length_map]; omega)) ?_)
        refine SU_store c6 (by rw [wv_len, hml]; omega) rfl fun w9 d6 h9 => ?_
        rw [Int.toNat_natCast, wv_set, ← sched_lo hb (by omega), set_mixed (by rw [hZl, hSl]) (by rw [hZl]; omega)] at d6
        exact ⟨d6, h8.trans h9⟩
      · have e2 : ((t : Int) - 2).toNat = t - 2 := by omega
        have e7 : ((t : Int) - 7).toNat = t - 7 := by omega
        have e15 : ((t : Int) - 15).toNat = t - 15 := by omega
        have e16 : ((t : Int) - 16).toNat = t - 16 := by omega
        (first | refine SV_p (by first | exact True.intro | omega | (simp only [List.length_append, List.length_cons, List.length_nil, List.length_replicate, List.length_map]; omega)) ?_ | refine HV_p (by first | exact True.intro | omega | (simp only [List.length_append, List.length_cons, List.length_nil, List.length_replicate, List.length_map]; omega)) ?_)
        (first | refine SV_p (by first | exact True.intro | omega | (simp only [List.length_append, List.length_cons, List.length_nil, List.length_replicate, List.length_map]; omega)) ?_ | refine HV_p (by first | exact True.intro | omega | (simp only [List.length_append, List.length_cons, List.length_nil, List.length_replicate, List.length_map]; omega)) ?_)
        refine SV_load c6 (wv_get (by rw [hml]; omega)) ?_
        (first | refine SV_p (by first | exact True.intro | omega | (simp only [List.length_append, List.length_cons, List.length_nil, List.length_replicate, List.length_map]; omega)) ?_ | refine HV_p (by first | exact True.intro | omega | (simp only [List.length_append, List.length_cons, List.length_nil, List.length_replicate, List.length_map]; omega)) ?_)
        (first | refine SV_p (by first | exact True.intro | omega | (simp only [List.length_append, List.length_cons, List.length_nil, List.length_replicate, List.length_map]; omega)) ?_ | refine HV_p (by first | exact True.intro | omega | (simp only [List.length_append, List.length_cons, List.length_nil, List.length_replicate, List.length_map]; omega)) ?_)
        refine SV_load c6 (wv_get (by rw [hml]; omega)) ?_
        rw [e2, e15, wAt_mixed' (by omega) (by omega), wAt_mixed' (by omega) (by omega)]
        refine n230 ((ref_rotr _ 17 (by omega) _).use fun wa ha => ?_)
        refine n230 ((ref_rotr _ 19 (by omega) _).use fun wb hb' => ?_)
        (first | refine SV_p (by first | exact True.intro | omega | (simp only [List.length_append, List.length_cons, List.length_nil, List.length_replicate, List.length_map]; omega)) ?_ | refine HV_p (by first | exact True.intro | omega | (simp only [List.length_append, List.length_cons, List.length_nil, List.length_replicate, List.length_map]; omega)) ?_)
        (first | refine SV_p (by first | exact True.intro | omega | (simp only [List.length_append, List.length_cons, List.length_nil, List.length_replicate, List.length_map]; omega)) ?_ | refine HV_p (by first | exact True.intro | omega | (simp only [List.length_append, List.length_cons, List.length_nil, List.length_replicate, List.length_map]; omega)) ?_)
        (first | refine SV_p (by first | exact True.intro | omega | (simp only [List.length_append, List.length_cons, List.length_nil, List.length_replicate, List.length_map]; omega)) ?_ | refine HV_p (by first | exact True.intro | omega | (simp only [List.length_append, List.length_cons, List.length_nil, List.length_replicate, List.length_map]; omega)) ?_)
        refine n230 ((ref_rotr _ 7 (by omega) _).use fun wc hc => ?_)
        refine n230 ((ref_rotr _ 18 (by omega) _).use fun wd hd => ?_)
        (first | refine SV_p (by first | exact True.intro | omega | (simp only [List.length_append, List.length_cons, List.length_nil, List.length_replicate, List.length_map]; omega)) ?_ | refine HV_p (by first | exact True.intro | omega | (simp only [List.length_append, List.length_cons, List.length_nil, List.length_replicate, List.length_map]; omega)) ?_)
        (first | refine SV_p (by first | exact True.intro | omega | (simp only [List.length_append, List.length_cons, List.length_nil, List.length_replicate, List.length_map]; omega)) ?_ | refine HV_p (by first | exact True.intro | omega | (simp only [List.length_append, List.length_cons, List.length_nil, List.length_replicate, List.length_map]; omega)) ?_)
        (first | refine SV_p (by first | exact True.intro | omega | (simp only [List.length_append, List.length_cons, List.length_nil, List.length_replicate, List.length_map]; omega)) ?_ | refine HV_p (by first | exact True.intro | omega | (simp only [List.length_append, List.length_cons, List.length_nil, List.length_replicate, List.length_map]; omega)) ?_)
        have hx := ha.trans (hb'.trans (hc.trans hd))
        have c6 := c6.no hx
        refine HR_kp No ?_
        (first | refine SV_p (by first | exact True.intro | omega | (simp only [List.length_append, List.length_cons, List.length_nil, List.length_replicate, List.length_map]; omega)) ?_ | refine HV_p (by first | exact True.intro | omega | (simp only [List.length_append, List.length_cons, List.length_nil, List.length_replicate, List.length_map]; omega)) ?_)
        (first | refine SV_p (by first | exact True.intro | omega | (simp only [List.length_append, List.length_cons, List.length_nil, List.length_replicate, List.length_map]; omega)) ?_ | refine HV_p (by first | exact True.intro | omega | (simp only [List.length_append, List.length_cons, List.length_nil, List.length_replicate, List.length_map]; omega)) ?_)
        refine HV_load c6 (fun h => h) (wv_get (by rw [hml]; omega)) ?_
        (first | refine SV_p (by first | exact True.intro | omega | (simp only [List.length_append, List.length_cons, List.length_nil, List.length_replicate, List.length_map]; omega)) ?_ | refine HV_p (by first | exact True.intro | omega | (simp only [List.length_append, List.length_cons, List.length_nil, List.length_replicate, List.length_map]; omega)) ?_)
        (first | refine SV_p (by first | exact True.intro | omega | (simp only [List.length_append, List.length_cons, List.length_nil, List.length_replicate, List.length_map]; omega)) ?_ | refine HV_p (by first | exact True.intro | omega | (simp only [List.length_append, List.length_cons, List.length_nil, List.length_replicate, List.length_map]; omega)) ?_)
        (first | refine SV_p (by first | exact True.intro | omega | (simp only [List.length_append, List.length_cons, List.length_nil, List.length_replicate, List.length_map]; omega)) ?_ | refine HV_p (by first | exact True.intro | omega | (simp only [List.length_append, List.length_cons, List.length_nil, List.length_replicate, List.length_map]; omega)) ?_)
        (first | refine SV_p (by first | exact True.intro | omega | (simp only [List.length_append, List.length_cons, List.length_nil, List.length_replicate, List.length_map]; omega)) ?_ | refine HV_p (by first | exact True.intro | omega | (simp only [List.length_append, List.length_cons, List.length_nil, List.length_replicate, List.length_map]; omega)) ?_)
        refine HV_load c6 (fun h => h) (wv_get (by rw [hml]; omega)) ?_
        (first | refine SV_p (by first | exact True.intro | omega | (simp only [List.length_append, List.length_cons, List.length_nil, List.length_replicate, List.length_map]; omega)) ?_ | refine HV_p (by first | exact True.intro | omega | (simp only [List.length_append, List.length_cons, List.length_nil, List.length_replicate, List.length_map]; omega)) ?_)
        (first | refine SV_p (by first | exact True.intro | omega | (simp only [List.length_append, List.length_cons, List.length_nil, List.length_replicate, List.length_map]; omega)) ?_ | refine HV_p (by first | exact True.intro | omega | (simp only [List.length_append, List.length_cons, List.length_nil, List.length_replicate, List.length_map]; omega)) ?_)
        rw [e7, e16, wAt_mixed' (by omega) (by omega), wAt_mixed' (by omega) (by omega)]
        refine SU_store c6.drew (by rw [wv_len, hml]; omega) rfl fun w9 d6 h9 => ?_
        have eq : (rotr (wAt (sched blk) (t - 2)) 17 ^^^ rotr (wAt (sched blk) (t - 2)) 19 ^^^ shr32 (wAt (sched blk) (t - 2)) (10 : Int).toNat) + wAt (sched blk) (t - 7) +
            (rotr (wAt (sched blk) (t - 15)) 7 ^^^ rotr (wAt (sched blk) (t - 15)) 18 ^^^ shr32 (wAt (sched blk) (t - 15)) (3 : Int).toNat) + wAt (sched blk) (t - 16) = wAt (sched blk) t := by
          rw [sched_hi (t := t) hb (by omega) (by omega)]
          unfold mix
          rfl
        rw [Int.toNat_natCast, wv_set, eq, set_mixed (by rw [hZl, hSl]) (by rw [hZl]; omega)] at d6
        exact ⟨d6, h8.trans (hx.no.trans ((Ch.drew _).trans h9))⟩
    · rintro us hus ζ w9 ⟨d6, h9⟩
      unfold s149_j1
      (first | refine SV_p (by first | exact True.intro | omega | (simp only [List.length_append, List.length_cons, List.length_nil, List.length_replicate, List.length_map]; omega)) ?_ | refine HV_p (by first | exact True.intro | omega | (simp only [List.length_append, List.length_cons, List.length_nil, List.length_replicate, List.length_map]; omega)) ?_)
      refine ⟨⟨t + 1, rfl, by omega, d6, h9⟩, ?_⟩
      show (64 - ((t : Int) + 1)).toNat < (64 - (t : Int)).toNat
      omega
  · have : t = 64 := by omega
    subst this
    rw [mixed_all hZl hSl] at c6
    have b1 := b1.ch h8 (by omega)
    have b3 := b3.ch h8 (by omega)
    have b5 := b5.ch h8 (by omega)
    have hc8 : Ch No w w8 := hc7.own h8 (by omega)
    have z8 := h8.size
    have l1 := b1.lt
    have l3 := b3.lt
    have l5 := b5.lt
    have l6 := c6.lt
    refine SV_loadB b1 (by rw [wv_len]; rfl) ?_
    refine SV_alloc fun g9 w9 hg9 b9 h9 => ?_
    refine SU_storeB b9 (by rw [wv_len]; rfl) rfl (wv_ones _) fun w10 b9 h10 => ?_
    have z9 := h9.size
    have z10 := h10.size
    have b1 := (b1.no h9).ch h10 (by omega)
    have b3 := (b3.no h9).ch h10 (by omega)
    have b5 := (b5.no h9).ch h10 (by omega)
    have b6 := (c6.no h9).ch h10 (by omega)
    have hc10 : Ch No w w10 := (hc8.trans h9).own h10 (by omega)
    generalize hS : sched blk = S at b6 hSl
    refine LP_intro (fun us w' => ∃ t : Nat, us = [.int .i64 t] ∧ t ≤ 64 ∧ Blk w' g9 200 (wv (rounds s S t).l) ∧ Ch (· = g9) w10 w') (fun us _ => match us with | [.int _ t] => (64 - t).toNat | _ => 0)
      ⟨0, rfl, by decide, b9, Ch.refl _⟩ ?_
    rintro us hus ζ w11 ⟨t, rfl, ht, c9, h11⟩
    unfold s149_l2
    simp only [List.getD_cons_zero, List.getD_cons_succ]
    (first | refine SV_p (by first | exact True.intro | omega | (simp only [List.length_append, List.length_cons, List.length_nil, List.length_replicate, List.length_map]; omega)) ?_ | refine HV_p (by first | exact True.intro | omega | (simp only [List.length_append, List.length_cons, List.length_nil, List.length_replicate, List.length_map]; omega)) ?_)
    refine CN_split (fun hlt => ?_) (fun hge => ?_)
    · have hKl := keys_len
      have b5 := b5.ch h11 (by omega)
      have b6 := b6.ch h11 (by omega)
      generalize hr : rounds s S t = r at c9
      (first | refine SV_p (by first | exact True.intro | omega | (simp only [List.length_append, List.length_cons, List.length_nil, List.length_replicate, List.length_map]; omega)) ?_ | refine HV_p (by first | exact True.intro | omega | (simp only [List.length_append, List.length_cons, List.length_nil, List.length_replicate, List.length_map]; omega)) ?_)
      refine SV_load c9 (v := w32 r.a) rfl ?_
      (first | refine SV_p (by first | exact True.intro | omega | (simp only [List.length_append, List.length_cons, List.length_nil, List.length_replicate, List.length_map]; omega)) ?_ | refine HV_p (by first | exact True.intro | omega | (simp only [List.length_append, List.length_cons, List.length_nil, List.length_replicate, List.length_map]; omega)) ?_)
      refine SV_load c9 (v := w32 r.e) rfl ?_
      refine HR_kp No ?_
      (first | refine SV_p (by first | exact True.intro | omega | (simp only [List.length_append, List.length_cons, List.length_nil, List.length_replicate, List.length_map]; omega)) ?_ | refine HV_p (by first | exact True.intro | omega | (simp only [List.length_append, List.length_cons, List.length_nil, List.length_replicate, List.length_map]; omega)) ?_)
      refine HV_load c9 (fun h => h) (v := w32 r.h) rfl ?_
      refine n230 ((ref_rotr _ 6 (by omega) _).use fun wa ha => ?_)
      have ha' : Ch No w11 wa := (Ch.drew _).trans ha
      (first | refine RS_same (ha') ?_ | refine ⟨ha', ?_⟩)
      refine n230 ((ref_rotr _ 11 (by omega) _).use fun wb hb' => ?_)
      (first | refine RS_same (ha'.trans hb') ?_ | refine ⟨ha'.trans hb', ?_⟩)
      (first | refine SV_p (by first | exact True.intro | omega | (simp only [List.length_append, List.length_cons, List.length_nil, List.length_replicate, List.length_map]; omega)) ?_ | refine HV_p (by first | exact True.intro | omega | (simp only [List.length_append, List.length_cons, List.length_nil, List.length_replicate, List.length_map]; omega)) ?_)
      refine n230 ((ref_rotr _ 25 (by omega) _).use fun wc hc => ?_)
      have hc' : Ch No w11 wc := ha'.trans (hb'.trans hc)
      (first | refine RS_same (hc') ?_ | refine ⟨hc', ?_⟩)
      (first | refine SV_p (by first | exact True.intro | omega | (simp only [List.length_append, List.length_cons, List.length_nil, List.length_replicate, List.length_map]; omega)) ?_ | refine HV_p (by first | exact True.intro | omega | (simp only [List.length_append, List.length_cons, List.length_nil, List.length_replicate, List.length_map]; omega)) ?_)
      (first | refine SV_p (by first | exact True.intro | omega | (simp only [List.length_append, List.length_cons, List.length_nil, List.length_replicate, List.length_map]; omega)) ?_ | refine HV_p (by first | exact True.intro | omega | (simp only [List.length_append, List.length_cons, List.length_nil, List.length_replicate, List.length_map]; omega)) ?_)
      (first | refine SV_p (by first | exact True.intro | omega | (simp only [List.length_append, List.length_cons, List.length_nil, List.length_replicate, List.length_map]; omega)) ?_ | refine HV_p (by first | exact True.intro | omega | (simp only [List.length_append, List.length_cons, List.length_nil, List.length_replicate, List.length_map]; omega)) ?_)
      refine HV_load c9 (fun h => h) (v := w32 r.f) rfl ?_
      (first | refine SV_p (by first | exact True.intro | omega | (simp only [List.length_append, List.length_cons, List.length_nil, List.length_replicate, List.length_map]; omega)) ?_ | refine HV_p (by first | exact True.intro | omega | (simp only [List.length_append, List.length_cons, List.length_nil, List.length_replicate, List.length_map]; omega)) ?_)
      (first | refine SV_p (by first | exact True.intro | omega | (simp only [List.length_append, List.length_cons, List.length_nil, List.length_replicate, List.length_map]; omega)) ?_ | refine HV_p (by first | exact True.intro | omega | (simp only [List.length_append, List.length_cons, List.length_nil, List.length_replicate, List.length_map]; omega)) ?_)
      (first | refine SV_p (by first | exact True.intro | omega | (simp only [List.length_append, List.length_cons, List.length_nil, List.length_replicate, List.length_map]; omega)) ?_ | refine HV_p (by first | exact True.intro | omega | (simp only [List.length_append, List.length_cons, List.length_nil, List.length_replicate, List.length_map]; omega)) ?_)
      refine HV_load c9 (fun h => h) (v := w32 r.g) rfl ?_
      (first | refine SV_p (by first | exact True.intro | omega | (simp only [List.length_append, List.length_cons, List.length_nil, List.length_replicate, List.length_map]; omega)) ?_ | refine HV_p (by first | exact True.intro | omega | (simp only [List.length_append, List.length_cons, List.length_nil, List.length_replicate, List.length_map]; omega)) ?_)
      (first | refine SV_p (by first | exact True.intro | omega | (simp only [List.length_append, List.length_cons, List.length_nil, List.length_replicate, List.length_map]; omega)) ?_ | refine HV_p (by first | exact True.intro | omega | (simp only [List.length_append, List.length_cons, List.length_nil, List.length_replicate, List.length_map]; omega)) ?_)
      (first | refine SV_p (by first | exact True.intro | omega | (simp only [List.length_append, List.length_cons, List.length_nil, List.length_replicate, List.length_map]; omega)) ?_ | refine HV_p (by first | exact True.intro | omega | (simp only [List.length_append, List.length_cons, List.length_nil, List.length_replicate, List.length_map]; omega)) ?_)
      (first | refine SV_p (by first | exact True.intro | omega | (simp only [List.length_append, List.length_cons, List.length_nil, List.length_replicate, List.length_map]; omega)) ?_ | refine HV_p (by first | exact True.intro | omega | (simp only [List.length_append, List.length_cons, List.length_nil, List.length_replicate, List.length_map]; omega)) ?_)
      refine HV_load b5 (fun h => h) (wv_get (by omega)) ?_
      (first | refine SV_p (by first | exact True.intro | omega | (simp only [List.length_append, List.length_cons, List.length_nil, List.length_replicate, List.length_map]; omega)) ?_ | refine HV_p (by first | exact True.intro | omega | (simp only [List.length_append, List.length_cons, List.length_nil, List.length_replicate, List.length_map]; omega)) ?_)
      (first | refine SV_p (by first | exact True.intro | omega | (simp only [List.length_append, List.length_cons, List.length_nil, List.length_replicate, List.length_map]; omega)) ?_ | refine HV_p (by first | exact True.intro | omega | (simp only [List.length_append, List.length_cons, List.length_nil, List.length_replicate, List.length_map]; omega)) ?_)
      refine HV_load b6 (fun h => h) (wv_get (by omega)) ?_
      (first | refine SV_p (by first | exact True.intro | omega | (simp only [List.length_append, List.length_cons, List.length_nil, List.length_replicate, List.length_map]; omega)) ?_ | refine HV_p (by first | exact True.intro | omega | (simp only [List.length_append, List.length_cons, List.length_nil, List.length_replicate, List.length_map]; omega)) ?_)
      have c9 := c9.no hc'
      refine HR_kp No ?_
      refine n230 ((ref_rotr _ 2 (by omega) _).use fun wa2 ha2 => ?_)
      have ha2' : Ch No wc wa2 := (Ch.drew _).trans ha2
      (first | refine RS_same (ha2') ?_ | refine ⟨ha2', ?_⟩)
      refine n230 ((ref_rotr _ 13 (by omega) _).use fun wb2 hb2 => ?_)
      (first | refine RS_same (ha2'.trans hb2) ?_ | refine ⟨ha2'.trans hb2, ?_⟩)
      (first | refine SV_p (by first | exact True.intro | omega | (simp only [List.length_append, List.length_cons, List.length_nil, List.length_replicate, List.length_map]; omega)) ?_ | refine HV_p (by first | exact True.intro | omega | (simp only [List.length_append, List.length_cons, List.length_nil, List.length_replicate, List.length_map]; omega)) ?_)
      refine n230 ((ref_rotr _ 22 (by omega) _).use fun wc2 hc2 => ?_)
      have hc2' : Ch No wc wc2 := ha2'.trans (hb2.trans hc2)
      (first | refine RS_same (hc2') ?_ | refine ⟨hc2', ?_⟩)
      (first | refine SV_p (by first | exact True.intro | omega | (simp only [List.length_append, List.length_cons, List.length_nil, List.length_replicate, List.length_map]; omega)) ?_ | refine HV_p (by first | exact True.intro | omega | (simp only [List.length_append, List.length_cons, List.length_nil, List.length_replicate, List.length_map]; omega)) ?_)
      (first | refine SV_p (by first | exact True.intro | omega | (simp only [List.length_append, List.length_cons, List.length_nil, List.length_replicate, List.length_map]; omega)) ?_ | refine HV_p (by first | exact True.intro | omega | (simp only [List.length_append, List.length_cons, List.length_nil, List.length_replicate, List.length_map]; omega)) ?_)
      refine HV_load c9 (fun h => h) (v := w32 r.b) rfl ?_
      (first | refine SV_p (by first | exact True.intro | omega | (simp only [List.length_append, List.length_cons, List.length_nil, List.length_replicate, List.length_map]; omega)) ?_ | refine HV_p (by first | exact True.intro | omega | (simp only [List.length_append, List.length_cons, List.length_nil, List.length_replicate, List.length_map]; omega)) ?_)
      (first | refine SV_p (by first | exact True.intro | omega | (simp only [List.length_append, List.length_cons, List.length_nil, List.length_replicate, List.length_map]; omega)) ?_ | refine HV_p (by first | exact True.intro | omega | (simp only [List.length_append, List.length_cons, List.length_nil, List.length_replicate, List.length_map]; omega)) ?_)
      refine HV_load c9 (fun h => h) (v := w32 r.c) rfl ?_
      (first | refine SV_p (by first | exact True.intro | omega | (simp only [List.length_append, List.length_cons, List.length_nil, List.length_replicate, List.length_map]; omega)) ?_ | refine HV_p (by first | exact True.intro | omega | (simp only [List.length_append, List.length_cons, List.length_nil, List.length_replicate, List.length_map]; omega)) ?_)
      (first | refine SV_p (by first | exact True.intro | omega | (simp only [List.length_append, List.length_cons, List.length_nil, List.length_replicate, List.length_map]; omega)) ?_ | refine HV_p (by first | exact True.intro | omega | (simp only [List.length_append, List.length_cons, List.length_nil, List.length_replicate, List.length_map]; omega)) ?_)
      (first | refine SV_p (by first | exact True.intro | omega | (simp only [List.length_append, List.length_cons, List.length_nil, List.length_replicate, List.length_map]; omega)) ?_ | refine HV_p (by first | exact True.intro | omega | (simp only [List.length_append, List.length_cons, List.length_nil, List.length_replicate, List.length_map]; omega)) ?_)
      refine HV_load c9 (fun h => h) (v := w32 r.b) rfl ?_
      (first | refine SV_p (by first | exact True.intro | omega | (simp only [List.length_append, List.length_cons, List.length_nil, List.length_replicate, List.length_map]; omega)) ?_ | refine HV_p (by first | exact True.intro | omega | (simp only [List.length_append, List.length_cons, List.length_nil, List.length_replicate, List.length_map]; omega)) ?_)
      refine HV_load c9 (fun h => h) (v := w32 r.c) rfl ?_
      (first | refine SV_p (by first | exact True.intro | omega | (simp only [List.length_append, List.length_cons, List.length_nil, List.length_replicate, List.length_map]; omega)) ?_ | refine HV_p (by first | exact True.intro | omega | (simp only [List.length_append, List.length_cons, List.length_nil, List.length_replicate, List.length_map]; omega)) ?_)
      (first | refine SV_p (by first | exact True.intro | omega | (simp only [List.length_append, List.length_cons, List.length_nil, List.length_replicate, List.length_map]; omega)) ?_ | refine HV_p (by first | exact True.intro | omega | (simp only [List.length_append, List.length_cons, List.length_nil, List.length_replicate, List.length_map]; omega)) ?_)
      (first | refine SV_p (by first | exact True.intro | omega | (simp only [List.length_append, List.length_cons, List.length_nil, List.length_replicate, List.length_map]; omega)) ?_ | refine HV_p (by first | exact True.intro | omega | (simp only [List.length_append, List.length_cons, List.length_nil, List.length_replicate, List.length_map]; omega)) ?_)
      have c9 := c9.no hc2'
      (first | refine SV_p (by first | exact True.intro | omega | (simp only [List.length_append, List.length_cons, List.length_nil, List.length_replicate, List.length_map]; omega)) ?_ | refine HV_p (by first | exact True.intro | omega | (simp only [List.length_append, List.length_cons, List.length_nil, List.length_replicate, List.length_map]; omega)) ?_)
      (first | refine SV_p (by first | exact True.intro | omega | (simp only [List.length_append, List.length_cons, List.length_nil, List.length_replicate, List.length_map]; omega)) ?_ | refine HV_p (by first | exact True.intro | omega | (simp only [List.length_append, List.length_cons, List.length_nil, List.length_replicate, List.length_map]; omega)) ?_)
      refine SV_load c9 (v := w32 r.a) rfl ?_
      (first | refine SV_p (by first | exact True.intro | omega | (simp only [List.length_append, List.length_cons, List.length_nil, List.length_replicate, List.length_map]; omega)) ?_ | refine HV_p (by first | exact True.intro | omega | (simp only [List.length_append, List.length_cons, List.length_nil, List.length_replicate, List.length_map]; omega)) ?_)
      refine SV_load c9 (v := w32 r.b) rfl ?_
      (first | refine SV_p (by first | exact True.intro | omega | (simp only [List.length_append, List.length_cons, List.length_nil, List.length_replicate, List.length_map]; omega)) ?_ | refine HV_p (by first | exact True.intro | omega | (simp only [List.length_append, List.length_cons, List.length_nil, List.length_replicate, List.length_map]; omega)) ?_)
      refine SV_load c9 (v := w32 r.c) rfl ?_
      (first | refine SV_p (by first | exact True.intro | omega | (simp only [List.length_append, List.length_cons, List.length_nil, List.length_replicate, List.length_map]; omega)) ?_ | refine HV_p (by first | exact True.intro | omega | (simp only [List.length_append, List.length_cons, List.length_nil, List.length_replicate, List.length_map]; omega)) ?_)
      refine SV_load c9 (v := w32 r.d) rfl ?_
      (first | refine SV_p (by first | exact True.intro | omega | (simp only [List.length_append, List.length_cons, List.length_nil, List.length_replicate, List.length_map]; omega)) ?_ | refine HV_p (by first | exact True.intro | omega | (simp only [List.length_append, List.length_cons, List.length_nil, List.length_replicate, List.length_map]; omega)) ?_)
      (first | refine SV_p (by first | exact True.intro | omega | (simp only [List.length_append, List.length_cons, List.length_nil, List.length_replicate, List.length_map]; omega)) ?_ | refine HV_p (by first | exact True.intro | omega | (simp only [List.length_append, List.length_cons, List.length_nil, List.length_replicate, List.length_map]; omega)) ?_)
      refine SV_load c9 (v := w32 r.e) rfl ?_
      (first | refine SV_p (by first | exact True.intro | omega | (simp only [List.length_append, List.length_cons, List.length_nil, List.length_replicate, List.length_map]; omega)) ?_ | refine HV_p (by first | exact True.intro | omega | (simp only [List.length_append, List.length_cons, List.length_nil, List.length_replicate, List.length_map]; omega)) ?_)
      refine SV_load c9 (v := w32 r.f) rfl ?_
      (first | refine SV_p (by first | exact True.intro | omega | (simp only [List.length_append, List.length_cons, List.length_nil, List.length_replicate, List.length_map]; omega)) ?_ | refine HV_p (by first | exact True.intro | omega | (simp only [List.length_append, List.length_cons, List.length_nil, List.length_replicate, List.length_map]; omega)) ?_)
      refine SV_load c9 (v := w32 r.g) rfl ?_
      simp only [Int.toNat_natCast]
      generalize hkk : wAt keys t = kk
      generalize hww : wAt S t = ww
      refine SV_pu (pu_build (FillOk.cons rfl rfl rfl (FillOk.cons rfl rfl rfl (FillOk.cons rfl rfl rfl (FillOk.cons rfl rfl rfl (FillOk.cons rfl rfl rfl (FillOk.cons rfl rfl rfl (FillOk.cons rfl rfl rfl (FillOk.cons rfl rfl rfl (FillOk.nil _)))))))))) ?_
      refine SU_storeB c9 (vs := wv (round r kk ww).l) (by rw [wv_len]; rfl) (by rw [wv_len]; rfl) (wv_ones _) fun w12 c9 h12 => ?_
      (first | refine SV_p (by first | exact True.intro | omega | (simp only [List.length_append, List.length_cons, List.length_nil, List.length_replicate, List.length_map]; omega)) ?_ | refine HV_p (by first | exact True.intro | omega | (simp only [List.length_append, List.length_cons, List.length_nil, List.length_replicate, List.length_map]; omega)) ?_)
      refine ⟨⟨t + 1, rfl, by omega, ?_, h11.trans (hc'.no.trans (hc2'.no.trans h12))⟩, ?_⟩
      · rw [rnd_succ, hr, hkk, hww]; exact c9
      · show (64 - ((t : Int) + 1)).toNat < (64 - (t : Int)).toNat
        omega
    · have : t = 64 := by omega
      subst this
      have b1 := b1.ch h11 (by omega)
      have b3 := b3.ch h11 (by omega)
      have hc11 : Ch No w w11 := hc10.own h11 (by omega)
      generalize hr : rounds s S 64 = r at c9
      have hrl := S8.l_len r
      have hsl := S8.l_len s
      have hal := S8.l_len (s.add r)
      refine LP_intro (fun us w' => ∃ i : Nat, us = [.int .i64 i] ∧ i ≤ 8 ∧ Blk w' g9 200 (wv ((s.add r).l.take i ++ r.l.drop i)) ∧ Ch (· = g9) w11 w') (fun us _ => match us with | [.int _ t] => (8 - t).toNat | _ => 0)
        ⟨0, rfl, by decide, by rw [mixed_zero]; exact c9, Ch.refl _⟩ ?_
      rintro us hus ζ w12 ⟨i, rfl, hi, d9, h12⟩
      unfold s149_l1
      simp only [List.getD_cons_zero, List.getD_cons_succ]
      have hml := mixed_len hrl hal hi
      have b1 := b1.ch h12 (by omega)
      (first | refine SV_p (by first | exact True.intro | omega | (simp only [List.length_append, List.length_cons, List.length_nil, List.length_replicate, List.length_map]; omega)) ?_ | refine HV_p (by first | exact True.intro | omega | (simp only [List.length_append, List.length_cons, List.length_nil, List.length_replicate, List.length_map]; omega)) ?_)
      refine CN_split (fun hlt => ?_) (fun hge => ?_)
      · refine HR_kp No ?_
        (first | refine SV_p (by first | exact True.intro | omega | (simp only [List.length_append, List.length_cons, List.length_nil, List.length_replicate, List.length_map]; omega)) ?_ | refine HV_p (by first | exact True.intro | omega | (simp only [List.length_append, List.length_cons, List.length_nil, List.length_replicate, List.length_map]; omega)) ?_)
        refine HV_load d9 (fun h => h) (wv_get (by rw [hml]; omega)) ?_
        (first | refine SV_p (by first | exact True.intro | omega | (simp only [List.length_append, List.length_cons, List.length_nil, List.length_replicate, List.length_map]; omega)) ?_ | refine HV_p (by first | exact True.intro | omega | (simp only [List.length_append, List.length_cons, List.length_nil, List.length_replicate, List.length_map]; omega)) ?_)
        refine HV_load b1 (fun h => h) (wv_get (by rw [hsl]; omega)) ?_
        (first | refine SV_p (by first | exact True.intro | omega | (simp only [List.length_append, List.length_cons, List.length_nil, List.length_replicate, List.length_map]; omega)) ?_ | refine HV_p (by first | exact True.intro | omega | (simp only [List.length_append, List.length_cons, List.length_nil, List.length_replicate, List.length_map]; omega)) ?_)
        (first | refine SV_p (by first | exact True.intro | omega | (simp only [List.length_append, List.length_cons, List.length_nil, List.length_replicate, List.length_map]; omega)) ?_ | refine HV_p (by first | exact True.intro | omega | (simp only [List.length_append, List.length_cons, List.length_nil, List.length_replicate, List.length_map]; omega)) ?_)
        refine SU_store d9.drew (by rw [wv_len, hml]; omega) rfl fun w13 e9 h13 => ?_
        rw [Int.toNat_natCast, wv_set, wAt_mixed (by rw [hrl, hal]) (by omega), UInt32.add_comm, ← S8.add_at s r (by omega), set_mixed (by rw [hrl, hal]) (by omega)] at e9
        (first | refine SV_p (by first | exact True.intro | omega | (simp only [List.length_append, List.length_cons, List.length_nil, List.length_replicate, List.length_map]; omega)) ?_ | refine HV_p (by first | exact True.intro | omega | (simp only [List.length_append, List.length_cons, List.length_nil, List.length_replicate, List.length_map]; omega)) ?_)
        refine ⟨⟨i + 1, rfl, by omega, e9, h12.trans ((Ch.drew _).trans h13)⟩, ?_⟩
        show (8 - ((i : Int) + 1)).toNat < (8 - (i : Int)).toNat
        omega
      · have : i = 8 := by omega
        subst this
        rw [mixed_all hrl hal] at d9
        refine SV_loadB d9 (by rw [wv_len]; rfl) ?_
        refine SU_storeB (b3.ch h12 (by omega)) (by rw [wv_len]; rfl) rfl (wv_ones _) fun w13 e3 h13 => ?_
        refine CR_N e3 (by rw [wv_len]; rfl) ?_
        refine ⟨?_, (hc11.own h12 (by omega)).own h13 (by omega)⟩
        unfold sstep
        rw [hS, hr]
end Go.Proofs.YtkdghnbogkbedaaGreatDoor

namespace Go.Sh
open Go Go.RowKit

theorem blocks_nil (s : S8) : blocks s [] = (s, []) := blocks_lt (by simp)
theorem lenBytes_take {n i : Nat} (h : i < 8) : (lenBytes n).take (i + 1) = (lenBytes n).take i ++ [UInt8.ofNat (n / 2 ^ (8 * (7 - i)))] := by
  have hl : (lenBytes n).length = 8 := by simp [lenBytes]
  rw [List.take_succ_eq_append_getElem (by omega)]
  simp [lenBytes]
theorem pad_len (n : Nat) : (n + (padOf n).length) % 64 = 0 := by
  simp only [padOf, List.length_cons, List.length_append, List.length_replicate, lenBytes, List.length_map, List.length_range]
  omega
theorem drop_getD {l : List UInt8} {a i : Nat} : (l.drop a).getD i 0 = l.getD (a + i) 0 := by simp [List.getD]
end Go.Sh
namespace Go.Proofs.YtkdghnbogkbedaaGreatDoor
open Go Go.Sh Go.RowKit
set_option maxRecDepth 100000
set_option maxHeartbeats 1000000
set_option linter.unusedSimpArgs false
set_option linter.unusedVariables false

theorem ref_of (m : List UInt8) (w : World) (hb : m.length ≤ 1000000000) : Ret Tryz.prog 81 #[str m] w (sha m).v := by
  refine c81 ?_
  unfold s81
  refine SV_alloc fun g2 w1 hg2 b2 h1 => ?_
  (first | refine SV_p (by first | exact True.intro | omega | (simp only [List.length_append, List.length_cons, List.length_nil, List.length_replicate, List.length_map]; omega)) ?_ | refine HV_p (by first | exact True.intro | omega | (simp only [List.length_append, List.length_cons, List.length_nil, List.length_replicate, List.length_map]; omega)) ?_)
  have z1 := h1.size
  have l2 := b2.lt
  -- the zeros
  refine LP_intro (fun us w' => ∃ j : Nat, us = [str (m ++ [128] ++ List.replicate j 0)] ∧ j ≤ (119 - m.length % 64) % 64 ∧ w1 = w') (fun us _ => match us with | [.string b] => m.length + 65 - b.size | _ => 0)
    ⟨0, by simp, Nat.zero_le _, rfl⟩ ?_
  rintro us hus ζ _ ⟨j, rfl, hj, rfl⟩
  unfold s81_l5
  simp only [List.getD_cons_zero, List.getD_cons_succ]
  have hlen : (m ++ [128] ++ List.replicate j (0 : UInt8)).length = m.length + 1 + j := by simp; omega
  (first | refine SV_p (by first | exact True.intro | omega | (simp only [List.length_append, List.length_cons, List.length_nil, List.length_replicate, List.length_map]; omega)) ?_ | refine HV_p (by first | exact True.intro | omega | (simp only [List.length_append, List.length_cons, List.length_nil, List.length_replicate, List.length_map]; omega)) ?_)
  (first | refine SV_p (by first | exact True.intro | omega | (simp only [List.length_append, List.length_cons, List.length_nil, List.length_replicate, List.length_map]; omega)) ?_ | refine HV_p (by first | exact True.intro | omega | (simp only [List.length_append, List.length_cons, List.length_nil, List.length_replicate, List.length_map]; omega)) ?_)
  (first | refine SV_p (by first | exact True.intro | omega | (simp only [List.length_append, List.length_cons, List.length_nil, List.length_replicate, List.length_map]; omega)) ?_ | refine HV_p (by first | exact True.intro | omega | (simp only [List.length_append, List.length_cons, List.length_nil, List.length_replicate, List.length_map]; omega)) ?_)
  rw [hlen]
  refine CN_split (fun hne => ?_) (fun heq => ?_)
  · (first | refine SV_p (by first | exact True.intro | omega | (simp only [List.length_append, List.length_cons, List.length_nil, List.length_replicate, List.length_map]; omega)) ?_ | refine HV_p (by first | exact True.intro | omega | (simp only [List.length_append, List.length_cons, List.length_nil, List.length_replicate, List.length_map]; omega)) ?_)
    refine ⟨⟨j + 1, ?_, by omega, rfl⟩, ?_⟩
    · rw [List.replicate_succ', List.append_assoc, List.append_assoc]
    · show m.length + 65 - (ByteArray.mk (m ++ [128] ++ List.replicate j 0 ++ [0]).toArray).size < m.length + 65 - (ByteArray.mk (m ++ [128] ++ List.replicate j 0).toArray).size
      rw [size_str, size_str, List.length_append, hlen]
      simp only [List.length_cons, List.length_nil]
      omega
  · have hj' : j = (119 - m.length % 64) % 64 := by omega
    have hq : m ++ [128] ++ List.replicate j 0 ++ lenBytes (8 * m.length % 18446744073709551616) = m ++ padOf m.length := by rw [hj']; simp [padOf]
    generalize hpre : m ++ [128] ++ List.replicate j 0 = pre at hq hlen ⊢
    (first | refine SV_p (by first | exact True.intro | omega | (simp only [List.length_append, List.length_cons, List.length_nil, List.length_replicate, List.length_map]; omega)) ?_ | refine HV_p (by first | exact True.intro | omega | (simp only [List.length_append, List.length_cons, List.length_nil, List.length_replicate, List.length_map]; omega)) ?_)
    refine SV_pu (w64_conv (by omega) (by omega)) ?_
    refine SV_pu (v := .int .u64 ((8 * m.length % 18446744073709551616 : Nat) : Int)) (fun w => by rw [pu_mul w, IntKind.wrap_u64]; congr 2; omega) ?_
    generalize hN : 8 * m.length % 18446744073709551616 = N at hq ⊢
    -- the length
    refine LP_intro (fun us w' => ∃ i : Nat, us = [str (pre ++ (lenBytes N).take i), .int .i64 (7 - (i : Int))] ∧ i ≤ 8 ∧ Ch No w1 w') (fun us _ => match us with | [_, .int _ t] => (t + 1).toNat | _ => 0)
      ⟨0, by simp, by decide, Ch.refl _⟩ ?_
    rintro us hus ζ w2 ⟨i, rfl, hi, h2⟩
    unfold s81_l4
    simp only [List.getD_cons_zero, List.getD_cons_succ]
    (first | refine SV_p (by first | exact True.intro | omega | (simp only [List.length_append, List.length_cons, List.length_nil, List.length_replicate, List.length_map]; omega)) ?_ | refine HV_p (by first | exact True.intro | omega | (simp only [List.length_append, List.length_cons, List.length_nil, List.length_replicate, List.length_map]; omega)) ?_)
    refine CN_split (fun hlt => ?_) (fun hge => ?_)
    · (first | refine SV_p (by first | exact True.intro | omega | (simp only [List.length_append, List.length_cons, List.length_nil, List.length_replicate, List.length_map]; omega)) ?_ | refine HV_p (by first | exact True.intro | omega | (simp only [List.length_append, List.length_cons, List.length_nil, List.length_replicate, List.length_map]; omega)) ?_)
      refine SV_pu (v := .int .u64 ((8 * (7 - i) : Nat) : Int)) (fun w => by rw [w64_conv (P := Tryz.prog) (by omega) (by omega) w]; congr 2; omega) ?_
      refine SV_pu (pu_w64shr (by omega) (by omega)) ?_
      refine SV_pu pu_648 ?_
      rw [Int.toNat_natCast]
      generalize hx : UInt8.ofNat (N / 2 ^ (8 * (7 - i))) = x
      refine SV_lits (e := 5) (sz := 1) [by_ x] [[by_ x]] rfl (fun i v hv => ?_) rfl rfl (by simp) fun g3 w3 hg3 b3 h3 ho => ?_
      · match i, hv with
        | 0, hv => simp only [List.getElem?_cons_zero, Option.some.injEq] at hv; subst hv; exact ⟨[by_ x], rfl, rfl, rfl⟩
        | i + 1, hv => simp at hv
      refine SV_bstr (l := [x]) (Rd.of_own ho) ?_
      have htl : ((lenBytes N).take i).length ≤ 8 := by simp [lenBytes]; omega
      refine SV_p (by simp only [List.length_append, List.length_cons, List.length_nil, hlen]; omega) ?_
      (first | refine SV_p (by first | exact True.intro | omega | (simp only [List.length_append, List.length_cons, List.length_nil, List.length_replicate, List.length_map]; omega)) ?_ | refine HV_p (by first | exact True.intro | omega | (simp only [List.length_append, List.length_cons, List.length_nil, List.length_replicate, List.length_map]; omega)) ?_)
      refine ⟨⟨i + 1, ?_, by omega, h2.trans h3⟩, ?_⟩
      · rw [lenBytes_take (by omega), hx, List.append_assoc]
        have : (7 : Int) - (i : Int) - 1 = 7 - ((i + 1 : Nat) : Int) := by omega
        rw [this]
      · show (7 - (i : Int) - 1 + 1).toNat < (7 - (i : Int) + 1).toNat
        omega
    · have : i = 8 := by omega
      subst this
      rw [show (lenBytes N).take 8 = lenBytes N from List.take_of_length_le (by simp [lenBytes]), hq]
      have hp64 := pad_len m.length
      generalize hp : m ++ padOf m.length = p
      have hpl : p.length % 64 = 0 := by rw [← hp, List.length_append]; exact hp64
      have hpm : p.length ≤ 2000000000 := by rw [← hp, List.length_append]; simp only [padOf, List.length_cons, List.length_append, List.length_replicate, lenBytes, List.length_map, List.length_range]; omega
      refine n148 ((ref_start w2).use fun w3 h3 => ?_)
      refine SV_alloc fun g6 w4 hg6 b6 h4 => ?_
      refine SU_storeB b6 (by rw [wv_len]; rfl) rfl (wv_ones _) fun w5 b6 h5 => ?_
      have z2 := h2.size
      have z3 := h3.size
      have z4 := h4.size
      have z5 := h5.size
      have l6 := b6.lt
      have b2 := ((((b2.no h2).no h3).no h4).ch h5 (by omega))
      have hc5 : Ch No w w5 := (h1.trans (h2.trans (h3.trans h4))).own h5 (by omega)
      refine LP_intro (fun us w' => ∃ (u : Value) (q : Nat) (st : S8), us = [u, .int .i64 (64 * q : Nat)] ∧ 64 * q ≤ p.length ∧ blocks st (p.drop (64 * q)) = blocks S8.start p ∧ Blk w' g6 200 (wv st.l) ∧ Ch (· = g6) w5 w') (fun us _ => match us with | [_, .int _ t] => (p.length - t).toNat | _ => 0)
        ⟨_, 0, S8.start, rfl, by omega, rfl, b6, Ch.refl _⟩ ?_
      rintro us hus ζ w6 ⟨u, q, st, rfl, hql, hst, b6, h6⟩
      unfold s81_l3
      simp only [List.getD_cons_zero, List.getD_cons_succ]
      have z6 := h6.size
      have l6 := b6.lt
      have l2' := b2.lt
      (first | refine SV_p (by first | exact True.intro | omega | (simp only [List.length_append, List.length_cons, List.length_nil, List.length_replicate, List.length_map]; omega)) ?_ | refine HV_p (by first | exact True.intro | omega | (simp only [List.length_append, List.length_cons, List.length_nil, List.length_replicate, List.length_map]; omega)) ?_)
      (first | refine SV_p (by first | exact True.intro | omega | (simp only [List.length_append, List.length_cons, List.length_nil, List.length_replicate, List.length_map]; omega)) ?_ | refine HV_p (by first | exact True.intro | omega | (simp only [List.length_append, List.length_cons, List.length_nil, List.length_replicate, List.length_map]; omega)) ?_)
      refine CN_split (fun hlt => ?_) (fun hge => ?_)
      · refine SV_alloc fun g8 w7 hg8 b8 h7 => ?_
        have z7 := h7.size
        refine LP_intro (fun us w' => ∃ i : Nat, us = [.int .i64 i] ∧ i ≤ 64 ∧ Blk w' g8 202 (wv (pRow (p.drop (64 * q)) i)) ∧ Ch (· = g8) w7 w') (fun us _ => match us with | [.int _ t] => (64 - t).toNat | _ => 0)
          ⟨0, rfl, by decide, by rw [pRow_zero, ← wv_zero]; exact b8, Ch.refl _⟩ ?_
        rintro us hus ζ w8 ⟨i, rfl, hi, c8, h8⟩
        unfold s81_l1
        simp only [List.getD_cons_zero, List.getD_cons_succ]
        have hr64 : 64 ≤ (p.drop (64 * q)).length := by simp; omega
        (first | refine SV_p (by first | exact True.intro | omega | (simp only [List.length_append, List.length_cons, List.length_nil, List.length_replicate, List.length_map]; omega)) ?_ | refine HV_p (by first | exact True.intro | omega | (simp only [List.length_append, List.length_cons, List.length_nil, List.length_replicate, List.length_map]; omega)) ?_)
        refine CN_split (fun hlt => ?_) (fun hge => ?_)
        · have hpl := pRow_len (p.drop (64 * q)) i
          refine HR_kp No ?_
          (first | refine SV_p (by first | exact True.intro | omega | (simp only [List.length_append, List.length_cons, List.length_nil, List.length_replicate, List.length_map]; omega)) ?_ | refine HV_p (by first | exact True.intro | omega | (simp only [List.length_append, List.length_cons, List.length_nil, List.length_replicate, List.length_map]; omega)) ?_)
          (first | refine SV_p (by first | exact True.intro | omega | (simp only [List.length_append, List.length_cons, List.length_nil, List.length_replicate, List.length_map]; omega)) ?_ | refine HV_p (by first | exact True.intro | omega | (simp only [List.length_append, List.length_cons, List.length_nil, List.length_replicate, List.length_map]; omega)) ?_)
          (first | refine SV_p (by first | exact True.intro | omega | (simp only [List.length_append, List.length_cons, List.length_nil, List.length_replicate, List.length_map]; omega)) ?_ | refine HV_p (by first | exact True.intro | omega | (simp only [List.length_append, List.length_cons, List.length_nil, List.length_replicate, List.length_map]; omega)) ?_)
          refine HV_load c8 (fun h => h) (wv_get (by omega)) ?_
          refine HV_pu pu_w32mul ?_
          (first | refine SV_p (by first | exact True.intro | omega | (simp only [List.length_append, List.length_cons, List.length_nil, List.length_replicate, List.length_map]; omega)) ?_ | refine HV_p (by first | exact True.intro | omega | (simp only [List.length_append, List.length_cons, List.length_nil, List.length_replicate, List.length_map]; omega)) ?_)
          (first | refine SV_p (by first | exact True.intro | omega | (simp only [List.length_append, List.length_cons, List.length_nil, List.length_replicate, List.length_map]; omega)) ?_ | refine HV_p (by first | exact True.intro | omega | (simp only [List.length_append, List.length_cons, List.length_nil, List.length_replicate, List.length_map]; omega)) ?_)
          (first | refine SV_p (by first | exact True.intro | omega | (simp only [List.length_append, List.length_cons, List.length_nil, List.length_replicate, List.length_map]; omega)) ?_ | refine HV_p (by first | exact True.intro | omega | (simp only [List.length_append, List.length_cons, List.length_nil, List.length_replicate, List.length_map]; omega)) ?_)
          (first | refine SV_p (by first | exact True.intro | omega | (simp only [List.length_append, List.length_cons, List.length_nil, List.length_replicate, List.length_map]; omega)) ?_ | refine HV_p (by first | exact True.intro | omega | (simp only [List.length_append, List.length_cons, List.length_nil, List.length_replicate, List.length_map]; omega)) ?_)
          (first | refine SV_p (by first | exact True.intro | omega | (simp only [List.length_append, List.length_cons, List.length_nil, List.length_replicate, List.length_map]; omega)) ?_ | refine HV_p (by first | exact True.intro | omega | (simp only [List.length_append, List.length_cons, List.length_nil, List.length_replicate, List.length_map]; omega)) ?_)
          refine SU_store c8.drew (by rw [wv_len]; omega) rfl fun w9 d8 h9 => ?_
          (first | refine SV_p (by first | exact True.intro | omega | (simp only [List.length_append, List.length_cons, List.length_nil, List.length_replicate, List.length_map]; omega)) ?_ | refine HV_p (by first | exact True.intro | omega | (simp only [List.length_append, List.length_cons, List.length_nil, List.length_replicate, List.length_map]; omega)) ?_)
          have e4 : ((i : Int) / 4).toNat = i / 4 := by omega
          have e5 : (((64 * q : Nat) : Int) + (i : Int)).toNat = 64 * q + i := by omega
          rw [e4, e5, wv_set, ← drop_getD, shl_add, pRow_next (by omega)] at d8
          refine ⟨⟨i + 1, rfl, by omega, d8, h8.trans ((Ch.drew _).trans h9)⟩, ?_⟩
          show (64 - ((i : Int) + 1)).toNat < (64 - (i : Int)).toNat
          omega
        · have : i = 64 := by omega
          subst this
          rw [pRow_end] at c8
          have b6 := (b6.no h7).ch h8 (by omega)
          refine SV_loadB b6 (by rw [wv_len]; rfl) ?_
          refine SV_loadB c8 (by rw [wv_len, blkOf_len]) ?_
          refine n149 ((ref_step st _ (blkOf_len _) _).use fun w9 h9 => ?_)
          refine SU_storeB (b6.no h9) (by rw [wv_len]; rfl) (by rw [wv_len]; rfl) (wv_ones _) fun w10 d6 h10 => ?_
          (first | refine SV_p (by first | exact True.intro | omega | (simp only [List.length_append, List.length_cons, List.length_nil, List.length_replicate, List.length_map]; omega)) ?_ | refine HV_p (by first | exact True.intro | omega | (simp only [List.length_append, List.length_cons, List.length_nil, List.length_replicate, List.length_map]; omega)) ?_)
          refine ⟨⟨.int .i64 ((64 : Nat) : Int), q + 1, sstep st (blkOf (p.drop (64 * q))), ?_, by omega, ?_, d6, ?_⟩, ?_⟩
          · have : ((64 * q : Nat) : Int) + 64 = ((64 * (q + 1) : Nat) : Int) := by omega
            rw [this]
          · rw [← hst, blocks_ge hr64, List.drop_drop]
            rfl
          · exact ((h6.trans h7.no).own h8 (by omega)).trans (h9.no.trans h10)
          · show ((p.length : Int) - (((64 * q : Nat) : Int) + 64)).toNat < ((p.length : Int) - ((64 * q : Nat) : Int)).toNat
            omega
      · have hq64 : 64 * q = p.length := by omega
        rw [hq64, List.drop_length, blocks_nil] at hst
        refine SV_alloc fun g10 w7 hg10 b10 h7 => ?_
        have z7 := h7.size
        have hol := outOf_len st
        refine LP_intro (fun us w' => ∃ i : Nat, us = [.int .i64 i] ∧ i ≤ 32 ∧ Blk w' g10 29 (((outOf st).map by_).take i ++ Sum.zero.cells.drop i) ∧ Ch (· = g10) w7 w')
          (fun us _ => match us with | [.int _ t] => (32 - t).toNat | _ => 0)
          ⟨0, rfl, by decide, by rw [mix_zero]; exact b10, Ch.refl _⟩ ?_
        rintro us hus ζ w8 ⟨i, rfl, hi, c10, h8⟩
        unfold s81_l2
        simp only [List.getD_cons_zero, List.getD_cons_succ]
        have b6 := (b6.no h7).ch h8 (by omega)
        (first | refine SV_p (by first | exact True.intro | omega | (simp only [List.length_append, List.length_cons, List.length_nil, List.length_replicate, List.length_map]; omega)) ?_ | refine HV_p (by first | exact True.intro | omega | (simp only [List.length_append, List.length_cons, List.length_nil, List.length_replicate, List.length_map]; omega)) ?_)
        refine CN_split (fun hlt => ?_) (fun hge => ?_)
        · (first | refine SV_p (by first | exact True.intro | omega | (simp only [List.length_append, List.length_cons, List.length_nil, List.length_replicate, List.length_map]; omega)) ?_ | refine HV_p (by first | exact True.intro | omega | (simp only [List.length_append, List.length_cons, List.length_nil, List.length_replicate, List.length_map]; omega)) ?_)
          (first | refine SV_p (by first | exact True.intro | omega | (simp only [List.length_append, List.length_cons, List.length_nil, List.length_replicate, List.length_map]; omega)) ?_ | refine HV_p (by first | exact True.intro | omega | (simp only [List.length_append, List.length_cons, List.length_nil, List.length_replicate, List.length_map]; omega)) ?_)
          refine SV_load b6 (wv_get (by rw [S8.l_len]; omega)) ?_
          (first | refine SV_p (by first | exact True.intro | omega | (simp only [List.length_append, List.length_cons, List.length_nil, List.length_replicate, List.length_map]; omega)) ?_ | refine HV_p (by first | exact True.intro | omega | (simp only [List.length_append, List.length_cons, List.length_nil, List.length_replicate, List.length_map]; omega)) ?_)
          (first | refine SV_p (by first | exact True.intro | omega | (simp only [List.length_append, List.length_cons, List.length_nil, List.length_replicate, List.length_map]; omega)) ?_ | refine HV_p (by first | exact True.intro | omega | (simp only [List.length_append, List.length_cons, List.length_nil, List.length_replicate, List.length_map]; omega)) ?_)
          (first | refine SV_p (by first | exact True.intro | omega | (simp only [List.length_append, List.length_cons, List.length_nil, List.length_replicate, List.length_map]; omega)) ?_ | refine HV_p (by first | exact True.intro | omega | (simp only [List.length_append, List.length_cons, List.length_nil, List.length_replicate, List.length_map]; omega)) ?_)
          refine SV_pu (w64_conv (by omega) (by omega)) ?_
          (first | refine SV_p (by first | exact True.intro | omega | (simp only [List.length_append, List.length_cons, List.length_nil, List.length_replicate, List.length_map]; omega)) ?_ | refine HV_p (by first | exact True.intro | omega | (simp only [List.length_append, List.length_cons, List.length_nil, List.length_replicate, List.length_map]; omega)) ?_)
          (first | refine SV_p (by first | exact True.intro | omega | (simp only [List.length_append, List.length_cons, List.length_nil, List.length_replicate, List.length_map]; omega)) ?_ | refine HV_p (by first | exact True.intro | omega | (simp only [List.length_append, List.length_cons, List.length_nil, List.length_replicate, List.length_map]; omega)) ?_)
          (first | refine SV_p (by first | exact True.intro | omega | (simp only [List.length_append, List.length_cons, List.length_nil, List.length_replicate, List.length_map]; omega)) ?_ | refine HV_p (by first | exact True.intro | omega | (simp only [List.length_append, List.length_cons, List.length_nil, List.length_replicate, List.length_map]; omega)) ?_)
          refine SU_store c10 (by rw [mix_len (n := 32) Sum.zero.len hol hi]; omega) rfl fun w9 d10 h9 => ?_
          (first | refine SV_p (by first | exact True.intro | omega | (simp only [List.length_append, List.length_cons, List.length_nil, List.length_replicate, List.length_map]; omega)) ?_ | refine HV_p (by first | exact True.intro | omega | (simp only [List.length_append, List.length_cons, List.length_nil, List.length_replicate, List.length_map]; omega)) ?_)
          have e1 : ((i : Int) / 4).toNat = i / 4 := by omega
          have e2 : ((24 : Int) - 8 * ((i : Int) % 4)).toNat = 24 - 8 * (i % 4) := by omega
          rw [e1, e2, Int.toNat_natCast, set_mix (by rw [hol]; exact Sum.zero.len) (outOf_at _ (by omega))] at d10
          refine ⟨⟨i + 1, rfl, by omega, d10, h8.trans h9⟩, ?_⟩
          show (32 - ((i : Int) + 1)).toNat < (32 - (i : Int)).toNat
          omega
        · have : i = 32 := by omega
          subst this
          rw [mix_all Sum.zero.len hol] at c10
          have b2 := ((b2.ch h6 (by omega)).no h7).ch h8 (by omega)
          refine SV_loadB c10 hol ?_
          refine SU_storeB b2 hol Sum.zero.len (Ones.bytes _) fun w9 d2 h9 => ?_
          refine CR_N d2 hol ?_
          refine ⟨?_, (((hc5.own h6 (by omega)).trans h7).own h8 (by omega)).own h9 (by omega)⟩
          have hs : (sha m).cells = (outOf st).map by_ := by
            unfold sha
            simp only [Sum.cells]
            rw [hp, ← hst]
          unfold Sum.v
          rw [hs]
end Go.Proofs.YtkdghnbogkbedaaGreatDoor

namespace Go.Proofs.YtkdghnbogkbedaaGreatDoor
open Go Go.Sh
set_option maxRecDepth 100000


theorem mixedXOctet : Tryz.prog.follows .mixedOrders = true := by kernel_rfl

/-! ### 218: scrinium/octet.Put -/

def s218_l1 (P : Program) (k : Value → World → Prop) (a0_n : Value) (t7 : Value) (t10 : Value) (t16 : Value) (next : List Value → World → Prop) (w : World) : Prop :=
  SV P (binOp .lss 3 t16 t7) w fun t17 w =>
  CN t17
  (SV P (binOp .sub 3 t7 t16) w fun t22 w =>
  SV P (binOp .mul 3 (Value.int .i64 8) t16) w fun t25 w =>
  SV P (binOp .shr 198 a0_n t25) w fun t26 w =>
  SV P (convert 198 5 t26) w fun t27 w =>
  SV P (Instr.indexAt 151 t10 t22) w fun t28 w =>
  SU P (Instr.storeAt 5 t28 t27) w fun w =>
  SV P (binOp .add 3 t16 (Value.int .i64 1)) w fun t29 w =>
  next [t29] w)
  (SV P (convert 151 9 t10) w fun t31 w =>
  k t31 w)

def s218 (P : Program) (k : Value → World → Prop) (a0_n : Value) (w : World) : Prop :=
  SN P (callFunc 262 #[a0_n]) w fun t7 w =>
  SV P (binOp .add 3 (Value.int .i64 1) t7) w fun t9 w =>
  SV P (Instr.makeSlice 151 t9 t9) w fun t10 w =>
  SV P (convert 3 5 t7) w fun t13 w =>
  SV P (Instr.indexAt 151 t10 (Value.int .i64 0)) w fun t14 w =>
  SU P (Instr.storeAt 5 t14 t13) w fun w =>
  LP 1 [(Value.int .i64 0)] w (fun next _ us w => s218_l1 P k a0_n t7 t10 (us.getD 0 undef) next w)

theorem e218 (k : Value → World → Prop) (a0_n : Value) (w : World) : s218 Tryz.prog k a0_n w = vcF Tryz.prog Tryz.f218 [16] [a0_n] k w := by kernel_rfl
theorem c218 {k : Value → World → Prop} {a0_n : Value} {w : World} (h : s218 Tryz.prog k a0_n w) : Calls Tryz.prog 218 #[a0_n] w (retP k) :=
  calls_of_vcF [16] mixedXOctet Tryz.func218 (by kernel_rfl) (Eq.mp (e218 k a0_n w) h)
theorem n218 {args : Array Value} {w : World} {k : Value → World → Prop} (h : Calls Tryz.prog 218 args w (retP k)) : SN Tryz.prog (callFunc 218 args) w k := sn_call Tryz.func218 (by kernel_rfl) (by kernel_rfl) h

/-! ### 219: scrinium/octet.Text -/

def s219 (P : Program) (k : Value → World → Prop) (a0_s : Value) (w : World) : Prop :=
  SV P (Builtin.len_ #[9] 3 #[a0_s]) w fun t4 w =>
  SV P (convert 3 198 t4) w fun t5 w =>
  SN P (callFunc 218 #[t5]) w fun t6 w =>
  SV P (binOp .add 9 t6 a0_s) w fun t8 w =>
  k t8 w

theorem e219 (k : Value → World → Prop) (a0_s : Value) (w : World) : s219 Tryz.prog k a0_s w = vcF Tryz.prog Tryz.f219 [] [a0_s] k w := by kernel_rfl
theorem c219 {k : Value → World → Prop} {a0_s : Value} {w : World} (h : s219 Tryz.prog k a0_s w) : Calls Tryz.prog 219 #[a0_s] w (retP k) :=
  calls_of_vcF [] mixedXOctet Tryz.func219 (by kernel_rfl) (Eq.mp (e219 k a0_s w) h)
theorem n219 {args : Array Value} {w : World} {k : Value → World → Prop} (h : Calls Tryz.prog 219 args w (retP k)) : SN Tryz.prog (callFunc 219 args) w k := sn_call Tryz.func219 (by kernel_rfl) (by kernel_rfl) h

/-! ### 262: scrinium/octet.need -/

def s262 (P : Program) (k : Value → World → Prop) (a0_n : Value) (w : World) : Prop :=
  SN P (callFunc 283 #[a0_n]) w fun t4 w =>
  SV P (binOp .add 3 t4 (Value.int .i64 8)) w fun t5 w =>
  SV P (binOp .sub 3 t5 (Value.int .i64 1)) w fun t6 w =>
  SV P (binOp .quo 3 t6 (Value.int .i64 8)) w fun t7 w =>
  k t7 w

theorem e262 (k : Value → World → Prop) (a0_n : Value) (w : World) : s262 Tryz.prog k a0_n w = vcF Tryz.prog Tryz.f262 [] [a0_n] k w := by kernel_rfl
theorem c262 {k : Value → World → Prop} {a0_n : Value} {w : World} (h : s262 Tryz.prog k a0_n w) : Calls Tryz.prog 262 #[a0_n] w (retP k) :=
  calls_of_vcF [] mixedXOctet Tryz.func262 (by kernel_rfl) (Eq.mp (e262 k a0_n w) h)
theorem n262 {args : Array Value} {w : World} {k : Value → World → Prop} (h : Calls Tryz.prog 262 args w (retP k)) : SN Tryz.prog (callFunc 262 args) w k := sn_call Tryz.func262 (by kernel_rfl) (by kernel_rfl) h

end Go.Proofs.YtkdghnbogkbedaaGreatDoor

namespace Go.Proofs.YtkdghnbogkbedaaGreatDoor
open Go Go.Sh
set_option maxRecDepth 100000


theorem mixedXRef01 : Tryz.prog.follows .mixedOrders = true := by kernel_rfl

/-! ### 156: scrinium/scriniumref01.Put -/

def s156_l1 (P : Program) (k : Value → World → Prop) (s3 : Value) (n0 : Value) (next : List Value → World → Prop) (w : World) : Prop :=
  SV P (binOp .gtr 198 n0 (Value.int .u64 0)) w fun t5 w =>
  CN t5
  (SV P (binOp .rem 198 n0 (Value.int .u64 256)) w fun t7 w =>
  SV P (convert 198 5 t7) w fun t8 w =>
  SV P (Instr.buildSlice 151 1 #[(0, t8)]) w fun t9 w =>
  SV P (convert 151 9 t9) w fun t10 w =>
  SV P (binOp .add 9 t10 s3) w fun t12 w =>
  SV P (binOp .quo 198 n0 (Value.int .u64 256)) w fun t14 w =>
  next [t12, t14] w)
  (SV P (Builtin.len_ #[9] 3 #[s3]) w fun t16 w =>
  SV P (convert 3 5 t16) w fun t17 w =>
  SV P (Instr.buildSlice 151 1 #[(0, t17)]) w fun t18 w =>
  SV P (convert 151 9 t18) w fun t19 w =>
  SV P (binOp .add 9 t19 s3) w fun t21 w =>
  k t21 w)

def s156 (P : Program) (k : Value → World → Prop) (a0_n : Value) (w : World) : Prop :=
  LP 2 [(str []), a0_n] w (fun next _ us w => s156_l1 P k (us.getD 0 undef) (us.getD 1 undef) next w)

theorem e156 (k : Value → World → Prop) (a0_n : Value) (w : World) : s156 Tryz.prog k a0_n w = vcF Tryz.prog Tryz.f156 [0, 3] [a0_n] k w := by kernel_rfl
theorem c156 {k : Value → World → Prop} {a0_n : Value} {w : World} (h : s156 Tryz.prog k a0_n w) : Calls Tryz.prog 156 #[a0_n] w (retP k) :=
  calls_of_vcF [0, 3] mixedXRef01 Tryz.func156 (by kernel_rfl) (Eq.mp (e156 k a0_n w) h)
theorem n156 {args : Array Value} {w : World} {k : Value → World → Prop} (h : Calls Tryz.prog 156 args w (retP k)) : SN Tryz.prog (callFunc 156 args) w k := sn_call Tryz.func156 (by kernel_rfl) (by kernel_rfl) h

/-! ### 191: scrinium/scriniumref01.Text -/

def s191 (P : Program) (k : Value → World → Prop) (a0_s : Value) (w : World) : Prop :=
  SV P (Builtin.len_ #[9] 3 #[a0_s]) w fun t4 w =>
  SV P (convert 3 198 t4) w fun t5 w =>
  SN P (callFunc 156 #[t5]) w fun t6 w =>
  SV P (binOp .add 9 t6 a0_s) w fun t8 w =>
  k t8 w

theorem e191 (k : Value → World → Prop) (a0_s : Value) (w : World) : s191 Tryz.prog k a0_s w = vcF Tryz.prog Tryz.f191 [] [a0_s] k w := by kernel_rfl
theorem c191 {k : Value → World → Prop} {a0_s : Value} {w : World} (h : s191 Tryz.prog k a0_s w) : Calls Tryz.prog 191 #[a0_s] w (retP k) :=
  calls_of_vcF [] mixedXRef01 Tryz.func191 (by kernel_rfl) (Eq.mp (e191 k a0_s w) h)
theorem n191 {args : Array Value} {w : World} {k : Value → World → Prop} (h : Calls Tryz.prog 191 args w (retP k)) : SN Tryz.prog (callFunc 191 args) w k := sn_call Tryz.func191 (by kernel_rfl) (by kernel_rfl) h

end Go.Proofs.YtkdghnbogkbedaaGreatDoor

namespace Go.Sh
open Go Go.RowKit

/-- A number's octets, the greatest first. -/
def be (n : Nat) : List UInt8 := if n = 0 then [] else be (n / 256) ++ [UInt8.ofNat n]
termination_by n
decreasing_by omega

theorem be_zero : be 0 = [] := by rw [be]; rfl
theorem be_pos {n : Nat} (h : n ≠ 0) : be n = be (n / 256) ++ [UInt8.ofNat n] := by rw [be, if_neg h]

theorem be_len {n : Nat} (h : n < 18446744073709551616) : (be n).length = (Lib.bitLen n + 7) / 8 := by
  induction n using Nat.strongRecOn with
  | _ n ih =>
    by_cases h0 : n = 0
    · subst h0; rw [be_zero]; decide +kernel
    · rw [be_pos h0, List.length_append, ih (n / 256) (by omega) (by omega)]
      by_cases h1 : 256 ≤ n
      · rw [Lib.bitLen_shift8 n h1 h]; simp; omega
      · have h2 : n / 256 = 0 := by omega
        have h3 : Lib.bitLen n ≤ 8 := Lib.bitLen_le8 ⟨n, by omega⟩
        have h4 : 0 < Lib.bitLen n := by rw [Lib.bitLen_half n h0 h]; omega
        have h5 : Lib.bitLen 0 = 0 := by decide +kernel
        rw [h2, h5]; simp; omega
theorem be_len_le {n : Nat} (h : n < 18446744073709551616) : (be n).length ≤ 8 := by
  have step : ∀ k n, n < 256 ^ k → (be n).length ≤ k := by
    intro k
    induction k with
    | zero => intro n hn; have : n = 0 := by simpa using hn
              subst this; rw [be_zero]; simp
    | succ k ih =>
      intro n hn
      by_cases h0 : n = 0
      · subst h0; rw [be_zero]; simp
      · rw [be_pos h0, List.length_append]
        have := ih (n / 256) (by rw [Nat.pow_succ] at hn; exact Nat.div_lt_of_lt_mul (by rw [Nat.mul_comm]; exact hn))
        simp; omega
  exact step 8 n (by simpa using h)
theorem be_at {n i : Nat} (h : i < (be n).length) : (be n)[(be n).length - 1 - i]? = some (UInt8.ofNat (n / 2 ^ (8 * i))) := by
  induction i generalizing n with
  | zero =>
    by_cases h0 : n = 0
    · subst h0; rw [be_zero] at h; simp at h
    · rw [be_pos h0]; simp
  | succ i ih =>
    by_cases h0 : n = 0
    · subst h0; rw [be_zero] at h; simp at h
    · rw [be_pos h0] at h ⊢
      simp only [List.length_append, List.length_cons, List.length_nil] at h ⊢
      have h1 : i < (be (n / 256)).length := by omega
      rw [List.getElem?_append_left (by omega), show (be (n / 256)).length + (0 + 1) - 1 - (i + 1) = (be (n / 256)).length - 1 - i by omega, ih h1, Nat.div_div_eq_div_mul]
      have e : 256 * 2 ^ (8 * i) = 2 ^ (8 * (i + 1)) := by rw [show (256 : Nat) = 2 ^ 8 from rfl, ← Nat.pow_add]; congr 1; omega
      rw [e]

def putN (n : Nat) : List UInt8 := UInt8.ofNat (be n).length :: be n
def textN (l : List UInt8) : List UInt8 := putN l.length ++ l
theorem putN_len {n : Nat} (h : n < 18446744073709551616) : (putN n).length ≤ 9 := by have := be_len_le h; simp [putN]; omega

section
variable {P : Program} {w : World}
theorem pu_idxS {ty e sz : Nat} [hT : SlT P ty e sz] {g o n c : Nat} {i : Int} (h0 : 0 ≤ i) (h1 : i < n) : Pu P (Instr.indexAt ty (.slice (some ⟨g, o, none⟩) n c) (.int .i64 i)) (.pointer (some ⟨g, o + i.toNat * sz, none⟩)) := fun w => by
  simp only [Instr.indexAt, Sem.run_bind, asIntOf, Sem.run_pure, Result.andThen_ok, run_underlying hT.und]
  simp only [h0, h1, and_self, if_true, Sem.run_bind, hT.size, Result.andThen_ok, Sem.run_pure, Addr.add_lit]
instance {ty e : Nat} [hT : SlT P ty e 1] {g n c : Nat} {i : Int} : PuC P (Instr.indexAt ty (.slice (some ⟨g, 0, none⟩) n c) (.int .i64 i)) (.pointer (some ⟨g, i.toNat, none⟩)) (0 ≤ i ∧ i < n) :=
  ⟨fun h w => by have := pu_idxS (P := P) (ty := ty) (g := g) (o := 0) (c := c) h.1 h.2 w; simpa using this⟩

theorem SV_make1 {ty e b : Nat} {z0 : Value} [hT : SlT P ty e 1] [hI : Inf P e 1 b] [hz : Zer P e [z0]] {kl kc : IntKind} {n : Nat} {k : Value → World → Prop} (hb : n * b ≤ 140737488355328) (hn : n ≤ 140737488355328)
    (hk : ∀ g w', w.heap.size ≤ g → Blk w' g e (List.replicate n z0) → Ch No w w' → k (.slice (some ⟨g, 0, none⟩) n n) w') : SV P (Instr.makeSlice ty (.int kl n) (.int kc n)) w k := by
  obtain ⟨i, z, hi, hsz, hby, hzz, hzs, hpos⟩ := hI.ex
  have hz0 : zeroOf P e = z := by simp [zeroOf, hi, hzz]
  have hzc : z.cells = #[z0] := by rw [← hz0]; exact hz.cells
  have hbb : (i.bytes : Int) * (n : Int) ≤ 281474976710656 := by
    rw [hby, ← Int.natCast_mul, Nat.mul_comm]; omega
  have hrun := run_make w ty e i z hT.und hi hzz kl kc n n (by omega) (by omega) hbb (by omega)
  have hm : madeCells z.cells (((n : Nat) : Int).toNat * i.size) = (List.replicate n z0).toArray := by
    apply Array.ext
    · simp [madeCells, hsz]
    · intro j h1 h2
      simp [madeCells, hzc, Nat.mod_one]
  rw [hm, Int.toNat_natCast] at hrun
  exact ⟨_, _, hrun, hk w.heap.size _ (Nat.le_refl _) (Blk.new w e _) (Ch.alloc w _)⟩
theorem pu_n8 {s d : TypeId} {k0 k : IntKind} [IsInt P s k0] [IsInt P d .u8] {n : Nat} : Pu P (convert s d (.int k n)) (by_ (UInt8.ofNat n)) := fun w => by
  have := pu_conv (P := P) (s := s) (d := d) (k := k) (n := n) w
  rw [IntKind.wrap_u8] at this
  unfold by_
  rw [this]
  congr 2
theorem pu_quou {t : TypeId} {k : IntKind} {a b : Nat} (hb : 0 < b) (hk : k.wrap ((a / b : Nat) : Int) = ((a / b : Nat) : Int)) : Pu P (binOp .quo t (.int k a) (.int k b)) (.int k (a / b : Nat)) := fun w => by
  have hne : (b : Int) ≠ 0 := by omega
  have h1 : (a : Int).tdiv b = ((a / b : Nat) : Int) := by rw [Int.tdiv_eq_ediv_of_nonneg (by omega)]; simp
  simp only [binOp, Op.intDiv, hne]
  simp only [ne_eq, not_true_eq_false, if_false, h1, hk]
  rfl
theorem pu_remu {t : TypeId} {k : IntKind} {a b : Nat} (hb : 0 < b) : Pu P (binOp .rem t (.int k a) (.int k b)) (.int k (a % b : Nat)) := fun w => by
  have hne : (b : Int) ≠ 0 := by omega
  have h1 : (a : Int).tmod b = ((a % b : Nat) : Int) := by rw [Int.tmod_eq_emod_of_nonneg (by omega)]; simp
  simp only [binOp, Op.intDiv, hne]
  simp only [ne_eq, not_true_eq_false, if_false, h1]
  rfl
/-- string([]byte{x}) -/
theorem SV_byte {ty e d : Nat} [hT : SlT P ty e 1] [hI : Inf P e 1 1] [he : IsInt P e .u8] [hd : IsStr P d] {x : UInt8} {k : Value → World → Prop} (hk : ∀ w', Ch No w w' → k (str [x]) w') :
    SV P (Instr.buildSlice ty 1 #[(0, by_ x)]) w fun t w => SV P (convert ty d t) w k := by
  refine SV_lits (e := e) (sz := 1) [by_ x] [[by_ x]] rfl (fun i v hv => ?_) rfl rfl (by simp) fun g3 w3 hg3 b3 h3 ho => ?_
  · match i, hv with
    | 0, hv => simp only [List.getElem?_cons_zero, Option.some.injEq] at hv; subst hv; exact ⟨[by_ x], rfl, rfl, rfl⟩
    | i + 1, hv => simp at hv
  exact SV_bstr (l := [x]) (Rd.of_own ho) (hk _ h3)
end
end Go.Sh
namespace Go.Proofs.YtkdghnbogkbedaaGreatDoor
open Go Go.Sh Go.RowKit
set_option maxRecDepth 100000
set_option maxHeartbeats 1000000
set_option linter.unusedSimpArgs false
set_option linter.unusedVariables false

theorem wrapu {n : Nat} (h : n < 18446744073709551616) : IntKind.u64.wrap (n : Int) = n := by rw [IntKind.wrap_u64]; omega

theorem ref_put (n : Nat) (hn : n < 18446744073709551616) (w : World) : Ret Tryz.prog 156 #[.int .u64 n] w (str (putN n)) := by
  refine c156 ?_
  unfold s156
  refine LP_intro (fun us w' => ∃ (r : Nat) (s : List UInt8), us = [str s, .int .u64 r] ∧ r ≤ n ∧ be n = be r ++ s ∧ Ch No w w') (fun us _ => match us with | [_, .int _ t] => t.toNat | _ => 0)
    ⟨n, [], rfl, Nat.le_refl _, by simp, Ch.refl _⟩ ?_
  rintro us hus ζ w1 ⟨r, s, rfl, hr, hs, h1⟩
  unfold s156_l1
  simp only [List.getD_cons_zero, List.getD_cons_succ]
  have hl8 := be_len_le hn
  have hsl : s.length ≤ 8 := by rw [hs, List.length_append] at hl8; omega
  (first | refine SV_p (by first | exact True.intro | omega | (simp only [List.length_append, List.length_cons, List.length_nil, List.length_replicate, List.length_map]; omega)) ?_ | refine HV_p (by first | exact True.intro | omega | (simp only [List.length_append, List.length_cons, List.length_nil, List.length_replicate, List.length_map]; omega)) ?_)
  refine CN_split (fun hlt => ?_) (fun hge => ?_)
  · have hr0 : r ≠ 0 := by omega
    refine SV_pu (pu_remu (b := 256) (by omega)) ?_
    refine SV_pu pu_n8 ?_
    refine SV_byte fun w2 h2 => ?_
    (first | refine SV_p (by first | exact True.intro | omega | (simp only [List.length_append, List.length_cons, List.length_nil, List.length_replicate, List.length_map]; omega)) ?_ | refine HV_p (by first | exact True.intro | omega | (simp only [List.length_append, List.length_cons, List.length_nil, List.length_replicate, List.length_map]; omega)) ?_)
    refine SV_pu (pu_quou (b := 256) (by omega) (wrapu (by omega))) ?_
    have e : UInt8.ofNat (r % 256) = UInt8.ofNat r := by
      apply UInt8.toNat_inj.1
      simp
    refine ⟨⟨r / 256, _, rfl, by omega, ?_, h1.trans h2⟩, ?_⟩
    · rw [hs, be_pos hr0, e, List.append_assoc]
    · show ((r / 256 : Nat) : Int).toNat < ((r : Nat) : Int).toNat
      omega
  · have hr0 : r = 0 := by omega
    subst hr0
    rw [be_zero, List.nil_append] at hs
    subst hs
    (first | refine SV_p (by first | exact True.intro | omega | (simp only [List.length_append, List.length_cons, List.length_nil, List.length_replicate, List.length_map]; omega)) ?_ | refine HV_p (by first | exact True.intro | omega | (simp only [List.length_append, List.length_cons, List.length_nil, List.length_replicate, List.length_map]; omega)) ?_)
    refine SV_pu pu_n8 ?_
    refine SV_byte fun w2 h2 => ?_
    (first | refine SV_p (by first | exact True.intro | omega | (simp only [List.length_append, List.length_cons, List.length_nil, List.length_replicate, List.length_map]; omega)) ?_ | refine HV_p (by first | exact True.intro | omega | (simp only [List.length_append, List.length_cons, List.length_nil, List.length_replicate, List.length_map]; omega)) ?_)
    exact ⟨rfl, h1.trans h2⟩

theorem ref_text (l : List UInt8) (hl : l.length ≤ 4611686018427387904) (w : World) : Ret Tryz.prog 191 #[str l] w (str (textN l)) := by
  refine c191 ?_
  unfold s191
  (first | refine SV_p (by first | exact True.intro | omega | (simp only [List.length_append, List.length_cons, List.length_nil, List.length_replicate, List.length_map]; omega)) ?_ | refine HV_p (by first | exact True.intro | omega | (simp only [List.length_append, List.length_cons, List.length_nil, List.length_replicate, List.length_map]; omega)) ?_)
  refine SV_pu (w64_conv (by omega) (by omega)) ?_
  refine n156 ((ref_put l.length (by omega) w).use fun w1 h1 => ?_)
  have := putN_len (n := l.length) (by omega)
  (first | refine SV_p (by first | exact True.intro | omega | (simp only [List.length_append, List.length_cons, List.length_nil, List.length_replicate, List.length_map]; omega)) ?_ | refine HV_p (by first | exact True.intro | omega | (simp only [List.length_append, List.length_cons, List.length_nil, List.length_replicate, List.length_map]; omega)) ?_)
  exact ⟨rfl, h1⟩

theorem oct_need (n : Nat) (hn : n < 18446744073709551616) (w : World) : Ret Tryz.prog 262 #[.int .u64 n] w (.int .i64 (be n).length) := by
  refine c262 ?_
  unfold s262
  refine n283 ((Ret.of_same (Tryz.bits_Len64 n w (by omega) (by omega))).use fun w1 h1 => ?_)
  rw [Int.toNat_natCast]
  have hb : Lib.bitLen n ≤ 64 := by
    have := be_len hn
    have := be_len_le hn
    omega
  (first | refine SV_p (by first | exact True.intro | omega | (simp only [List.length_append, List.length_cons, List.length_nil, List.length_replicate, List.length_map]; omega)) ?_ | refine HV_p (by first | exact True.intro | omega | (simp only [List.length_append, List.length_cons, List.length_nil, List.length_replicate, List.length_map]; omega)) ?_)
  (first | refine SV_p (by first | exact True.intro | omega | (simp only [List.length_append, List.length_cons, List.length_nil, List.length_replicate, List.length_map]; omega)) ?_ | refine HV_p (by first | exact True.intro | omega | (simp only [List.length_append, List.length_cons, List.length_nil, List.length_replicate, List.length_map]; omega)) ?_)
  (first | refine SV_p (by first | exact True.intro | omega | (simp only [List.length_append, List.length_cons, List.length_nil, List.length_replicate, List.length_map]; omega)) ?_ | refine HV_p (by first | exact True.intro | omega | (simp only [List.length_append, List.length_cons, List.length_nil, List.length_replicate, List.length_map]; omega)) ?_)
  refine ⟨?_, h1⟩
  rw [be_len hn]
  congr 1
  omega

theorem oct_put (n : Nat) (hn : n < 18446744073709551616) (w : World) : Ret Tryz.prog 218 #[.int .u64 n] w (str (putN n)) := by
  refine c218 ?_
  unfold s218
  refine n262 ((oct_need n hn w).use fun w1 h1 => ?_)
  have hl8 := be_len_le hn
  generalize hk : (be n).length = m at hl8 ⊢
  (first | refine SV_p (by first | exact True.intro | omega | (simp only [List.length_append, List.length_cons, List.length_nil, List.length_replicate, List.length_map]; omega)) ?_ | refine HV_p (by first | exact True.intro | omega | (simp only [List.length_append, List.length_cons, List.length_nil, List.length_replicate, List.length_map]; omega)) ?_)
  have e1 : (1 : Int) + (m : Int) = ((m + 1 : Nat) : Int) := by omega
  rw [e1]
  refine SV_make1 (by omega) (by omega) fun g w2 hg b2 h2 => ?_
  refine SV_pu pu_n8 ?_
  (first | refine SV_p (by first | exact True.intro | omega | (simp only [List.length_append, List.length_cons, List.length_nil, List.length_replicate, List.length_map]; omega)) ?_ | refine HV_p (by first | exact True.intro | omega | (simp only [List.length_append, List.length_cons, List.length_nil, List.length_replicate, List.length_map]; omega)) ?_)
  refine SU_store b2 (by simp) rfl fun w3 b3 h3 => ?_
  have z1 := h1.size
  have hpl : ((putN n).map by_).length = m + 1 := by simp [putN, hk]
  -- from the end: the first place, the zeros, the last i octets
  refine LP_intro (fun us w' => ∃ i : Nat, us = [.int .i64 i] ∧ i ≤ m ∧ Blk w' g 5 (by_ (UInt8.ofNat m) :: (List.replicate (m - i) (Value.int .u8 0) ++ ((be n).map by_).drop (m - i))) ∧ Ch (· = g) w2 w') (fun us _ => match us with | [.int _ t] => (m - t).toNat | _ => 0)
    ⟨0, rfl, by omega, by
      have : ((be n).map by_).drop (m - 0) = [] := List.drop_eq_nil_of_le (by simp [hk])
      rw [this, List.append_nil]
      exact b3, h3⟩ ?_
  rintro us hus ζ w4 ⟨i, rfl, hi, b4, h4⟩
  unfold s218_l1
  simp only [List.getD_cons_zero, List.getD_cons_succ]
  (first | refine SV_p (by first | exact True.intro | omega | (simp only [List.length_append, List.length_cons, List.length_nil, List.length_replicate, List.length_map]; omega)) ?_ | refine HV_p (by first | exact True.intro | omega | (simp only [List.length_append, List.length_cons, List.length_nil, List.length_replicate, List.length_map]; omega)) ?_)
  refine CN_split (fun hlt => ?_) (fun hge => ?_)
  · (first | refine SV_p (by first | exact True.intro | omega | (simp only [List.length_append, List.length_cons, List.length_nil, List.length_replicate, List.length_map]; omega)) ?_ | refine HV_p (by first | exact True.intro | omega | (simp only [List.length_append, List.length_cons, List.length_nil, List.length_replicate, List.length_map]; omega)) ?_)
    (first | refine SV_p (by first | exact True.intro | omega | (simp only [List.length_append, List.length_cons, List.length_nil, List.length_replicate, List.length_map]; omega)) ?_ | refine HV_p (by first | exact True.intro | omega | (simp only [List.length_append, List.length_cons, List.length_nil, List.length_replicate, List.length_map]; omega)) ?_)
    refine SV_pu (pu_w64shr (by omega) (by omega)) ?_
    refine SV_pu pu_n8 ?_
    (first | refine SV_p (by first | exact True.intro | omega | (simp only [List.length_append, List.length_cons, List.length_nil, List.length_replicate, List.length_map]; omega)) ?_ | refine HV_p (by first | exact True.intro | omega | (simp only [List.length_append, List.length_cons, List.length_nil, List.length_replicate, List.length_map]; omega)) ?_)
    have e2 : ((m : Int) - (i : Int)).toNat = (m - (i + 1)) + 1 := by omega
    have e3 : ((8 : Int) * (i : Int)).toNat = 8 * i := by omega
    rw [e2, e3]
    have hbl : ((be n).map by_).length = m := by simp [hk]
    refine SU_store b4 (by simp [hk]; omega) rfl fun w5 b5 h5 => ?_
    (first | refine SV_p (by first | exact True.intro | omega | (simp only [List.length_append, List.length_cons, List.length_nil, List.length_replicate, List.length_map]; omega)) ?_ | refine HV_p (by first | exact True.intro | omega | (simp only [List.length_append, List.length_cons, List.length_nil, List.length_replicate, List.length_map]; omega)) ?_)
    refine ⟨⟨i + 1, rfl, by omega, ?_, h4.trans h5⟩, ?_⟩
    · have hat : ((be n).map by_)[m - (i + 1)]? = some (by_ (UInt8.ofNat (n / 2 ^ (8 * i)))) := by
        rw [List.getElem?_map, show m - (i + 1) = (be n).length - 1 - i by omega, be_at (by omega)]; rfl
      obtain ⟨hlt2, hge2⟩ := List.getElem?_eq_some_iff.1 hat
      have hd : ((be n).map by_).drop (m - (i + 1)) = by_ (UInt8.ofNat (n / 2 ^ (8 * i))) :: ((be n).map by_).drop (m - i) := by
        rw [List.drop_eq_getElem_cons hlt2, hge2, show m - (i + 1) + 1 = m - i by omega]
      have hset : (by_ (UInt8.ofNat m) :: (List.replicate (m - i) (Value.int .u8 0) ++ ((be n).map by_).drop (m - i))).set (m - (i + 1) + 1) (by_ (UInt8.ofNat (n / 2 ^ (8 * i)))) =
          by_ (UInt8.ofNat m) :: (List.replicate (m - (i + 1)) (Value.int .u8 0) ++ ((be n).map by_).drop (m - (i + 1))) := by
        rw [hd, List.set_cons_succ, show m - i = (m - (i + 1)) + 1 by omega, List.replicate_succ', List.append_assoc, List.set_append_right _ _ (by simp)]
        simp
      rw [hset] at b5
      exact b5
    · show ((m : Int) - ((i : Int) + 1)).toNat < m - (i + 1) + 1
      omega
  · have : i = m := by omega
    subst this
    have e5 : (by_ (UInt8.ofNat i) :: (List.replicate (i - i) (Value.int .u8 0) ++ ((be n).map by_).drop (i - i))) = (putN n).map by_ := by
      rw [Nat.sub_self]
      simp [putN, hk]
    rw [e5] at b4
    refine SV_bstr (l := putN n) (Rd.of_blk b4 (by rw [hpl]; omega) (by unfold maxLen; omega)) ?_
    exact ⟨rfl, (h1.trans (Ch.own (h2) h4 hg))⟩

theorem oct_text (l : List UInt8) (hl : l.length ≤ 4611686018427387904) (w : World) : Ret Tryz.prog 219 #[str l] w (str (textN l)) := by
  refine c219 ?_
  unfold s219
  (first | refine SV_p (by first | exact True.intro | omega | (simp only [List.length_append, List.length_cons, List.length_nil, List.length_replicate, List.length_map]; omega)) ?_ | refine HV_p (by first | exact True.intro | omega | (simp only [List.length_append, List.length_cons, List.length_nil, List.length_replicate, List.length_map]; omega)) ?_)
  refine SV_pu (w64_conv (by omega) (by omega)) ?_
  refine n218 ((oct_put l.length (by omega) w).use fun w1 h1 => ?_)
  have := putN_len (n := l.length) (by omega)
  (first | refine SV_p (by first | exact True.intro | omega | (simp only [List.length_append, List.length_cons, List.length_nil, List.length_replicate, List.length_map]; omega)) ?_ | refine HV_p (by first | exact True.intro | omega | (simp only [List.length_append, List.length_cons, List.length_nil, List.length_replicate, List.length_map]; omega)) ?_)
  exact ⟨rfl, h1⟩
end Go.Proofs.YtkdghnbogkbedaaGreatDoor

namespace Go.Proofs.YtkdghnbogkbedaaGreatDoor
open Go Go.Sh
set_option maxRecDepth 100000


theorem mixedXMac : Tryz.prog.follows .mixedOrders = true := by kernel_rfl

/-! ### 235: scrinium/mac.Of -/

def s235 (P : Program) (k : Value → World → Prop) (a0_key : Value) (a1_parts : Value) (w : World) : Prop :=
  SV P (Instr.alloc 29 true (.tuple #[])) w fun t4 w =>
  SN P (callFunc 237 #[a0_key]) w fun t6 w =>
  SN P (callFunc 268 #[t6, a1_parts]) w fun t8 w =>
  SU P (Instr.storeAt 29 t4 t8) w fun w =>
  CR P 29 t4 w fun t4_1 =>
  k t4_1 w

theorem e235 (k : Value → World → Prop) (a0_key a1_parts : Value) (w : World) : s235 Tryz.prog k a0_key a1_parts w = vcF Tryz.prog Tryz.f235 [] [a0_key, a1_parts] k w := by kernel_rfl
theorem c235 {k : Value → World → Prop} {a0_key a1_parts : Value} {w : World} (h : s235 Tryz.prog k a0_key a1_parts w) : Calls Tryz.prog 235 #[a0_key, a1_parts] w (retP k) :=
  calls_of_vcF [] mixedXMac Tryz.func235 (by kernel_rfl) (Eq.mp (e235 k a0_key a1_parts w) h)
theorem n235 {args : Array Value} {w : World} {k : Value → World → Prop} (h : Calls Tryz.prog 235 args w (retP k)) : SN Tryz.prog (callFunc 235 args) w k := sn_call Tryz.func235 (by kernel_rfl) (by kernel_rfl) h

/-! ### 237: scrinium/mac.New -/

def s237 (P : Program) (k : Value → World → Prop) (a0_key : Value) (w : World) : Prop :=
  SN P (callFunc 269 #[a0_key]) w fun t7 w =>
  SV P (Instr.extract t7 0) w fun t8 w =>
  SV P (Instr.extract t7 1) w fun t9 w =>
  SV P (Instr.build 289 #[(0, t8), (1, t9)]) w fun t12 w =>
  SV P (Instr.box 289 t12) w fun t13 w =>
  k t13 w

theorem e237 (k : Value → World → Prop) (a0_key : Value) (w : World) : s237 Tryz.prog k a0_key w = vcF Tryz.prog Tryz.f237 [] [a0_key] k w := by kernel_rfl
theorem c237 {k : Value → World → Prop} {a0_key : Value} {w : World} (h : s237 Tryz.prog k a0_key w) : Calls Tryz.prog 237 #[a0_key] w (retP k) :=
  calls_of_vcF [] mixedXMac Tryz.func237 (by kernel_rfl) (Eq.mp (e237 k a0_key w) h)
theorem n237 {args : Array Value} {w : World} {k : Value → World → Prop} (h : Calls Tryz.prog 237 args w (retP k)) : SN Tryz.prog (callFunc 237 args) w k := sn_call Tryz.func237 (by kernel_rfl) (by kernel_rfl) h

/-! ### 238: (*scrinium/mac.Maker).Name -/

def s238 (P : Program) (k : Value → World → Prop) (a0_m : Value) (w : World) : Prop :=
  SV P (Instr.alloc 29 true (.tuple #[])) w fun t2 w =>
  SV P (Instr.buildSlice 249 1 #[(0, (str [110, 97, 109, 101]))]) w fun t4 w =>
  SN P (callFunc 268 #[a0_m, t4]) w fun t5 w =>
  SU P (Instr.storeAt 29 t2 t5) w fun w =>
  CR P 29 t2 w fun t2_1 =>
  k t2_1 w

theorem e238 (k : Value → World → Prop) (a0_m : Value) (w : World) : s238 Tryz.prog k a0_m w = vcF Tryz.prog Tryz.f238 [] [a0_m] k w := by kernel_rfl
theorem c238 {k : Value → World → Prop} {a0_m : Value} {w : World} (h : s238 Tryz.prog k a0_m w) : Calls Tryz.prog 238 #[a0_m] w (retP k) :=
  calls_of_vcF [] mixedXMac Tryz.func238 (by kernel_rfl) (Eq.mp (e238 k a0_m w) h)
theorem n238 {args : Array Value} {w : World} {k : Value → World → Prop} (h : Calls Tryz.prog 238 args w (retP k)) : SN Tryz.prog (callFunc 238 args) w k := sn_call Tryz.func238 (by kernel_rfl) (by kernel_rfl) h

/-! ### 268: (*scrinium/mac.Maker).Sum -/

def s268_l1 (P : Program) (k : Value → World → Prop) (a1_parts : Value) (t4 : Value) (outer6 : Value) (t29 : Value) (t31 : Value) (t32 : Value) (next : List Value → World → Prop) (w : World) : Prop :=
  SV P (binOp .lss 3 t32 t31) w fun t33 w =>
  CN t33
  (SV P (Instr.indexAt 249 a1_parts t32) w fun t34 w =>
  SV P (Instr.loadAt 9 t34) w fun t35 w =>
  SN P (callFunc 232 #[t29, t35]) w fun _ w =>
  SV P (binOp .add 3 t32 (Value.int .i64 1)) w fun t39 w =>
  next [t39] w)
  (SN P (callFunc 291 #[outer6]) w fun t41 w =>
  SN P (callFunc 233 #[t29]) w fun t44 w =>
  SN P (callFunc 163 #[t44]) w fun t45 w =>
  SN P (callFunc 232 #[t41, t45]) w fun _ w =>
  SN P (callFunc 233 #[t41]) w fun t48 w =>
  SU P (Instr.storeAt 29 t4 t48) w fun w =>
  CR P 29 t4 w fun t4_1 =>
  k t4_1 w)

def s268_j1 (P : Program) (k : Value → World → Prop) (a1_parts : Value) (t4 : Value) (inner5 : Value) (outer6 : Value) (w : World) : Prop :=
  SN P (callFunc 291 #[inner5]) w fun t29 w =>
  SV P (Builtin.len_ #[249] 3 #[a1_parts]) w fun t31 w =>
  LP 1 [(Value.int .i64 0)] w (fun next _ us w => s268_l1 P k a1_parts t4 outer6 t29 t31 (us.getD 0 undef) next w)

def s268 (P : Program) (k : Value → World → Prop) (a0_m : Value) (a1_parts : Value) (w : World) : Prop :=
  SV P (Instr.alloc 29 true (.tuple #[])) w fun t4 w =>
  SV P (eqS .eql 265 (.tmp 11) (.const (Value.pointer none)) a0_m (Value.pointer none)) w fun t12 w =>
  CN t12
  (SV P (Instr.build 29 #[]) w fun t13 w =>
  SU P (Instr.storeAt 29 t4 t13) w fun w =>
  CR P 29 t4 w fun t4_1 =>
  k t4_1 w)
  (HR w fun C w =>
  HV P C (nilS a0_m) fun t15 =>
  HV P C (Instr.fieldAt 289 t15 0) fun t16 =>
  HV P C (Instr.loadAt 261 t16) fun t17 =>
  HV P C (nilS a0_m) fun t19 =>
  HV P C (Instr.fieldAt 289 t19 1) fun t20 =>
  HV P C (Instr.loadAt 261 t20) fun t21 =>
  JP 2 (fun j =>
  SV P (eqS .eql 261 (.tmp 22) (.const (Value.pointer none)) t17 (Value.pointer none)) w fun t23 w =>
  CN t23
  (SN P (callFunc 269 #[(str [])]) w fun t25 w =>
  SV P (Instr.extract t25 0) w fun t26 w =>
  SV P (Instr.extract t25 1) w fun t27 w =>
  j [t26, t27] w)
  (j [t17, t21] w))
  (fun _ us w => s268_j1 P k a1_parts t4 (us.getD 0 undef) (us.getD 1 undef) w))

theorem e268 (k : Value → World → Prop) (a0_m a1_parts : Value) (w : World) : s268 Tryz.prog k a0_m a1_parts w = vcF Tryz.prog Tryz.f268 [5, 6, 32] [a0_m, a1_parts] k w := by kernel_rfl
theorem c268 {k : Value → World → Prop} {a0_m a1_parts : Value} {w : World} (h : s268 Tryz.prog k a0_m a1_parts w) : Calls Tryz.prog 268 #[a0_m, a1_parts] w (retP k) :=
  calls_of_vcF [5, 6, 32] mixedXMac Tryz.func268 (by kernel_rfl) (Eq.mp (e268 k a0_m a1_parts w) h)
theorem n268 {args : Array Value} {w : World} {k : Value → World → Prop} (h : Calls Tryz.prog 268 args w (retP k)) : SN Tryz.prog (callFunc 268 args) w k := sn_call Tryz.func268 (by kernel_rfl) (by kernel_rfl) h

/-! ### 269: scrinium/mac.begun -/

def s269 (P : Program) (k : Value → World → Prop) (a0_key : Value) (w : World) : Prop :=
  SN P (callFunc 292 #[a0_key]) w fun t7 w =>
  SV P (Instr.alloc 9 true (.tuple #[])) w fun pad4 w =>
  SU P (Instr.storeAt 9 pad4 t7) w fun w =>
  SV P (Instr.makeFunc (.func 293) #[] #[pad4]) w fun t8 w =>
  SN P (callV t8 #[(Value.int .u8 54)]) w fun t10 w =>
  SN P (callV t8 #[(Value.int .u8 92)]) w fun t12 w =>
  k (.tuple #[t10, t12]) w

theorem e269 (k : Value → World → Prop) (a0_key : Value) (w : World) : s269 Tryz.prog k a0_key w = vcF Tryz.prog Tryz.f269 [] [a0_key] k w := by kernel_rfl
theorem c269 {k : Value → World → Prop} {a0_key : Value} {w : World} (h : s269 Tryz.prog k a0_key w) : Calls Tryz.prog 269 #[a0_key] w (retP k) :=
  calls_of_vcF [] mixedXMac Tryz.func269 (by kernel_rfl) (Eq.mp (e269 k a0_key w) h)
theorem n269 {args : Array Value} {w : World} {k : Value → World → Prop} (h : Calls Tryz.prog 269 args w (retP k)) : SN Tryz.prog (callFunc 269 args) w k := sn_call Tryz.func269 (by kernel_rfl) (by kernel_rfl) h

/-! ### 292: scrinium/mac.Pad -/

def s292_j1 (P : Program) (k : Value → World → Prop) (key0 : Value) (w : World) : Prop :=
  SV P (Builtin.len_ #[9] 3 #[key0]) w fun t12 w =>
  SV P (binOp .sub 3 (Value.int .i64 64) t12) w fun t13 w =>
  SN P (callFunc 242 #[(str [0]), t13]) w fun t14 w =>
  SV P (binOp .add 9 key0 t14) w fun t15 w =>
  k t15 w

def s292 (P : Program) (k : Value → World → Prop) (a0_key : Value) (w : World) : Prop :=
  JP 1 (fun j =>
  SV P (Builtin.len_ #[9] 3 #[a0_key]) w fun t4 w =>
  SV P (binOp .gtr 3 t4 (Value.int .i64 64)) w fun t5 w =>
  CN t5
  (SV P (Instr.buildSlice 249 1 #[(0, a0_key)]) w fun t7 w =>
  SN P (callFunc 151 #[t7]) w fun t8 w =>
  SN P (callFunc 163 #[t8]) w fun t9 w =>
  j [t9] w)
  (j [a0_key] w))
  (fun _ us w => s292_j1 P k (us.getD 0 undef) w)

theorem e292 (k : Value → World → Prop) (a0_key : Value) (w : World) : s292 Tryz.prog k a0_key w = vcF Tryz.prog Tryz.f292 [0] [a0_key] k w := by kernel_rfl
theorem c292 {k : Value → World → Prop} {a0_key : Value} {w : World} (h : s292 Tryz.prog k a0_key w) : Calls Tryz.prog 292 #[a0_key] w (retP k) :=
  calls_of_vcF [0] mixedXMac Tryz.func292 (by kernel_rfl) (Eq.mp (e292 k a0_key w) h)
theorem n292 {args : Array Value} {w : World} {k : Value → World → Prop} (h : Calls Tryz.prog 292 args w (retP k)) : SN Tryz.prog (callFunc 292 args) w k := sn_call Tryz.func292 (by kernel_rfl) (by kernel_rfl) h

/-! ### 293: scrinium/mac.begun$1 -/

def s293_l1 (P : Program) (k : Value → World → Prop) (a0_c : Value) (t8 : Value) (t10 : Value) (t11 : Value) (next : List Value → World → Prop) (w : World) : Prop :=
  SV P (binOp .lss 3 t11 t10) w fun t12 w =>
  CN t12
  (SV P (Instr.indexAt 151 t8 t11) w fun t16 w =>
  SV P (Instr.loadAt 5 t16) w fun t17 w =>
  SV P (binOp .xor 5 t17 a0_c) w fun t19 w =>
  SV P (Instr.indexAt 151 t8 t11) w fun t20 w =>
  SU P (Instr.storeAt 5 t20 t19) w fun w =>
  SV P (binOp .add 3 t11 (Value.int .i64 1)) w fun t21 w =>
  next [t21] w)
  (SN P (callFunc 231 #[]) w fun t22 w =>
  SV P (convert 151 9 t8) w fun t25 w =>
  SN P (callFunc 232 #[t22, t25]) w fun _ w =>
  k t22 w)

def s293 (P : Program) (k : Value → World → Prop) (a0_c : Value) (a1 : Value) (w : World) : Prop :=
  SV P (Instr.loadAt 9 a1) w fun t7 w =>
  SV P (convert 9 151 t7) w fun t8 w =>
  SV P (Builtin.len_ #[151] 3 #[t8]) w fun t10 w =>
  LP 1 [(Value.int .i64 0)] w (fun next _ us w => s293_l1 P k a0_c t8 t10 (us.getD 0 undef) next w)

theorem e293 (k : Value → World → Prop) (a0_c a1 : Value) (w : World) : s293 Tryz.prog k a0_c a1 w = vcF Tryz.prog Tryz.f293 [11] [a0_c, a1] k w := by kernel_rfl
theorem c293 {k : Value → World → Prop} {a0_c a1 : Value} {w : World} (h : s293 Tryz.prog k a0_c a1 w) : Calls Tryz.prog 293 #[a0_c, a1] w (retP k) :=
  calls_of_vcF [11] mixedXMac Tryz.func293 (by kernel_rfl) (Eq.mp (e293 k a0_c a1 w) h)
theorem n293 {args : Array Value} {w : World} {k : Value → World → Prop} (h : Calls Tryz.prog 293 args w (retP k)) : SN Tryz.prog (callFunc 293 args) w k := sn_call Tryz.func293 (by kernel_rfl) (by kernel_rfl) h

end Go.Proofs.YtkdghnbogkbedaaGreatDoor

namespace Go.Proofs.YtkdghnbogkbedaaGreatDoor
open Go Go.Sh
set_option maxRecDepth 100000


theorem mixedXRef03 : Tryz.prog.follows .mixedOrders = true := by kernel_rfl

/-! ### 92: scrinium/scriniumref03.Of -/

def s92 (P : Program) (k : Value → World → Prop) (a0_key : Value) (a1_s : Value) (w : World) : Prop :=
  SV P (Instr.alloc 29 true (.tuple #[])) w fun t4 w =>
  SN P (callFunc 158 #[a0_key]) w fun t8 w =>
  SN P (callFunc 159 #[t8, (Value.int .u8 54)]) w fun t10 w =>
  SV P (binOp .add 9 t10 a1_s) w fun t12 w =>
  SN P (callFunc 81 #[t12]) w fun t13 w =>
  SV P (Instr.alloc 29 true (.tuple #[])) w fun inner6 w =>
  SU P (Instr.storeAt 29 inner6 t13) w fun w =>
  HR w fun C w =>
  SN P (callFunc 159 #[t8, (Value.int .u8 92)]) w fun t15 w =>
  RS C w fun C =>
  HV P C (Instr.loadAt 29 inner6) fun t16 =>
  SN P (callFunc 160 #[t16]) w fun t17 w =>
  RS C w fun C =>
  HV P C (binOp .add 9 t15 t17) fun t18 =>
  SN P (callFunc 81 #[t18]) w fun t19 w =>
  SU P (Instr.storeAt 29 t4 t19) w fun w =>
  CR P 29 t4 w fun t4_1 =>
  k t4_1 w

theorem e92 (k : Value → World → Prop) (a0_key a1_s : Value) (w : World) : s92 Tryz.prog k a0_key a1_s w = vcF Tryz.prog Tryz.f92 [] [a0_key, a1_s] k w := by kernel_rfl
theorem c92 {k : Value → World → Prop} {a0_key a1_s : Value} {w : World} (h : s92 Tryz.prog k a0_key a1_s w) : Calls Tryz.prog 92 #[a0_key, a1_s] w (retP k) :=
  calls_of_vcF [] mixedXRef03 Tryz.func92 (by kernel_rfl) (Eq.mp (e92 k a0_key a1_s w) h)
theorem n92 {args : Array Value} {w : World} {k : Value → World → Prop} (h : Calls Tryz.prog 92 args w (retP k)) : SN Tryz.prog (callFunc 92 args) w k := sn_call Tryz.func92 (by kernel_rfl) (by kernel_rfl) h

/-! ### 158: scrinium/scriniumref03.Pad -/

def s158_l1 (P : Program) (k : Value → World → Prop) (key0_1 : Value) (next : List Value → World → Prop) (w : World) : Prop :=
  SV P (Builtin.len_ #[9] 3 #[key0_1]) w fun t10 w =>
  SV P (binOp .lss 3 t10 (Value.int .i64 64)) w fun t11 w =>
  CN t11
  (SV P (binOp .add 9 key0_1 (str [0])) w fun t13 w =>
  next [t13] w)
  (k key0_1 w)

def s158_j1 (P : Program) (k : Value → World → Prop) (key0 : Value) (w : World) : Prop :=
  LP 1 [key0] w (fun next _ us w => s158_l1 P k (us.getD 0 undef) next w)

def s158 (P : Program) (k : Value → World → Prop) (a0_key : Value) (w : World) : Prop :=
  JP 1 (fun j =>
  SV P (Builtin.len_ #[9] 3 #[a0_key]) w fun t4 w =>
  SV P (binOp .gtr 3 t4 (Value.int .i64 64)) w fun t5 w =>
  CN t5
  (SN P (callFunc 81 #[a0_key]) w fun t7 w =>
  SN P (callFunc 160 #[t7]) w fun t8 w =>
  j [t8] w)
  (j [a0_key] w))
  (fun _ us w => s158_j1 P k (us.getD 0 undef) w)

theorem e158 (k : Value → World → Prop) (a0_key : Value) (w : World) : s158 Tryz.prog k a0_key w = vcF Tryz.prog Tryz.f158 [0] [a0_key] k w := by kernel_rfl
theorem c158 {k : Value → World → Prop} {a0_key : Value} {w : World} (h : s158 Tryz.prog k a0_key w) : Calls Tryz.prog 158 #[a0_key] w (retP k) :=
  calls_of_vcF [0] mixedXRef03 Tryz.func158 (by kernel_rfl) (Eq.mp (e158 k a0_key w) h)
theorem n158 {args : Array Value} {w : World} {k : Value → World → Prop} (h : Calls Tryz.prog 158 args w (retP k)) : SN Tryz.prog (callFunc 158 args) w k := sn_call Tryz.func158 (by kernel_rfl) (by kernel_rfl) h

/-! ### 159: scrinium/scriniumref03.xor -/

def s159_l1 (P : Program) (k : Value → World → Prop) (a0_s : Value) (a1_c : Value) (t9 : Value) (i6 : Value) (next : List Value → World → Prop) (w : World) : Prop :=
  SV P (Builtin.len_ #[9] 3 #[a0_s]) w fun t12 w =>
  SV P (binOp .lss 3 i6 t12) w fun t13 w =>
  CN t13
  (SV P (Instr.index 9 a0_s i6) w fun t20 w =>
  SV P (binOp .xor 5 t20 a1_c) w fun t22 w =>
  SV P (Instr.indexAt 151 t9 i6) w fun t23 w =>
  SU P (Instr.storeAt 5 t23 t22) w fun w =>
  SV P (binOp .add 3 i6 (Value.int .i64 1)) w fun t15 w =>
  next [t15] w)
  (SV P (convert 151 9 t9) w fun t25 w =>
  k t25 w)

def s159 (P : Program) (k : Value → World → Prop) (a0_s : Value) (a1_c : Value) (w : World) : Prop :=
  SV P (Builtin.len_ #[9] 3 #[a0_s]) w fun t8 w =>
  SV P (Instr.makeSlice 151 t8 t8) w fun t9 w =>
  LP 1 [(Value.int .i64 0)] w (fun next _ us w => s159_l1 P k a0_s a1_c t9 (us.getD 0 undef) next w)

theorem e159 (k : Value → World → Prop) (a0_s a1_c : Value) (w : World) : s159 Tryz.prog k a0_s a1_c w = vcF Tryz.prog Tryz.f159 [6] [a0_s, a1_c] k w := by kernel_rfl
theorem c159 {k : Value → World → Prop} {a0_s a1_c : Value} {w : World} (h : s159 Tryz.prog k a0_s a1_c w) : Calls Tryz.prog 159 #[a0_s, a1_c] w (retP k) :=
  calls_of_vcF [6] mixedXRef03 Tryz.func159 (by kernel_rfl) (Eq.mp (e159 k a0_s a1_c w) h)
theorem n159 {args : Array Value} {w : World} {k : Value → World → Prop} (h : Calls Tryz.prog 159 args w (retP k)) : SN Tryz.prog (callFunc 159 args) w k := sn_call Tryz.func159 (by kernel_rfl) (by kernel_rfl) h

end Go.Proofs.YtkdghnbogkbedaaGreatDoor

namespace Go.Sh
open Go Go.RowKit

def key64 (k : List UInt8) : List UInt8 := (if 64 < k.length then (sha k).l else k) ++ List.replicate (64 - (if 64 < k.length then (sha k).l else k).length) 0
theorem key64_len (k : List UInt8) : (key64 k).length = 64 := by
  unfold key64
  split
  · rw [List.length_append, (sha k).h]; simp
  · simp; omega
def xorAll (c : UInt8) (l : List UInt8) : List UInt8 := l.map (· ^^^ c)
@[simp] theorem xorAll_len (c : UInt8) (l : List UInt8) : (xorAll c l).length = l.length := by simp [xorAll]
def hmac (k m : List UInt8) : Sum := sha (xorAll 92 (key64 k) ++ (sha (xorAll 54 (key64 k) ++ m)).l)

/-- A row of bytes that came of a text: its mark lies behind it. -/
def MBlk (w : World) (g : Nat) (t : TypeId) (cs : List Value) : Prop := ∃ fr : Nat × Nat, w.heap[g]? = some (.cells cs.toArray t fr) ∧ cs.length ≤ fr.1

section
variable {P : Program} {w : World} {g t : Nat} {cs : List Value}
theorem MBlk.ch {w' : World} {S : Nat → Prop} (h : MBlk w g t cs) (hc : Ch S w w') (hS : ¬ S g) : MBlk w' g t cs := by
  obtain ⟨fr, h1, h2⟩ := h
  refine ⟨fr, ?_, h2⟩
  have hlt : g < w.heap.size := by
    rcases Nat.lt_or_ge g w.heap.size with hlt | hge
    · exact hlt
    · rw [Array.getElem?_eq_none hge] at h1; cases h1
  exact (hc.block g hlt hS).trans h1
theorem MBlk.cell (h : MBlk w g t cs) (i : Nat) : w.cell? ⟨g, i, none⟩ = cs[i]? := by
  obtain ⟨fr, h1, h2⟩ := h
  rw [cell_of_row w g i _ t fr h1]; simp
theorem SV_loadM {ty : TypeId} [One P ty] {o : Nat} {v : Value} {k : Value → World → Prop} (h : MBlk w g t cs) (hv : cs[o]? = some v) (hk : k v w) : SV P (Instr.loadAt ty (.pointer (some ⟨g, o, none⟩))) w k :=
  ⟨v, w, run_load1 ((h.cell o).trans hv), hk⟩
theorem SU_storeM {ty : TypeId} [h1 : One P ty] {o : Nat} {v : Value} {k : World → Prop} (h : MBlk w g t cs) (ho : o < cs.length) (hv : v.oneCell' = true)
    (hk : ∀ w', MBlk w' g t (cs.set o v) → Ch (· = g) w w' → k w') : SU P (Instr.storeAt ty (.pointer (some ⟨g, o, none⟩)) v) w k := by
  have hc : w.cell? ⟨g, o, none⟩ = some cs[o] := by rw [h.cell]; exact List.getElem?_eq_getElem ho
  obtain ⟨fr, hb, hfr⟩ := h
  have hf : w.frozen? ⟨g, o, none⟩ = false := by
    unfold World.frozen?
    simp only [hb]
    have : ¬ fr.1 ≤ o := by omega
    simp [this]
  have hcells : v.cells = #[v] := by cases v <;> first | rfl | (simp [Value.oneCell'] at hv)
  have hs : (store ⟨g, o, none⟩ v).run P w = .ok () (w.setCell ⟨g, o, none⟩ v) := by
    cases v <;> first | (simp [Value.oneCell'] at hv; done) | simp [store, Sem.run, hc, hf]
  refine ⟨w.setCell ⟨g, o, none⟩ v, ?_, hk _ ⟨fr, ?_, by simpa using hfr⟩ (setCell_ch w g o v)⟩
  · simp only [Instr.storeAt, Instr.sureAddr, Sem.run_bind, Sem.run_pure, Result.andThen_ok, storeVar, h1.size, hcells]
    simp only [List.size_toArray, List.length_cons, List.length_nil, Nat.zero_add, ne_eq, not_true_eq_false, if_false, Sem.run_bind, Sem.run_pure, Result.andThen_ok, storeCells, Addr.add_zero', hs]
  · have : (w.setCell ⟨g, o, none⟩ v).heap[g]? = some (.cells (cs.toArray.setIfInBounds o v) t fr) := by simp [World.setCell, Array.getElem?_modify, hb]
    rw [this]
    simp
/-- []byte(s) -/
theorem SV_sbytes {s d e : Nat} [hs : IsStr P s] [hd : SlT P d e 1] [he : IsInt P e .u8] {l : List UInt8} {k : Value → World → Prop}
    (hk : ∀ g c z w', w.heap.size ≤ g → l.length ≤ c → MBlk w' g e (l.map by_ ++ z) → Ch No w w' → k (.slice (some ⟨g, 0, none⟩) l.length c) w') : SV P (convert s d (str l)) w k := by
  have h := run_bytes_of_string (P := P) w s d e ⟨l.toArray⟩ hs.und hd.und he.und
  rw [size_str] at h
  have hge := grownCap_ge w l.length 0 e
  have e1 : bytesRow ⟨l.toArray⟩ (grownCap w l.length 0 e) = (l.map by_ ++ List.replicate (grownCap w l.length 0 e - l.length) (Value.int .u8 0)).toArray := by
    unfold bytesRow
    rw [size_str]
    apply Array.ext'
    simp [by_]
  have hm : MBlk (w.drew.alloc (.cells (bytesRow ⟨l.toArray⟩ (grownCap w l.length 0 e)) e ((bytesRow ⟨l.toArray⟩ (grownCap w l.length 0 e)).size, (bytesRow ⟨l.toArray⟩ (grownCap w l.length 0 e)).size + 1))) w.heap.size e
      (l.map by_ ++ List.replicate (grownCap w l.length 0 e - l.length) (Value.int .u8 0)) := by
    refine ⟨((bytesRow ⟨l.toArray⟩ (grownCap w l.length 0 e)).size, (bytesRow ⟨l.toArray⟩ (grownCap w l.length 0 e)).size + 1), ?_, ?_⟩
    · rw [← e1]; exact heap_alloc_new w.drew _
    · rw [e1]; simp
  exact ⟨_, _, h, hk _ _ _ _ (Nat.le_refl _) hge hm ((Ch.drew w).trans (Ch.alloc _ _))⟩
theorem pu_bxor {t : TypeId} {x y : UInt8} : Pu P (binOp .xor t (by_ x) (by_ y)) (by_ (x ^^^ y)) := fun w => by
  unfold by_
  rw [binOp_xor, intBits_xor, u8_xor_nat _ _ x.toNat_lt y.toNat_lt, UInt8.toNat_xor]; rfl
instance {t : TypeId} {x y : UInt8} : PuC P (binOp .xor t (by_ x) (by_ y)) (by_ (x ^^^ y)) True := ⟨fun _ => pu_bxor⟩
theorem Rd.of_mblk {T len : Nat} {xs z : List Value} {c : Nat} (h : MBlk w g T (xs ++ z)) (hl : xs.length = len) (hc : len ≤ c) (hm : len ≤ maxLen) : Rd w T 1 (.slice (some ⟨g, 0, none⟩) len c) len xs := by
  obtain ⟨fr, h1, _⟩ := h
  refine ⟨by omega, hm, _, c, rfl, hc, fun _ => ⟨g, 0, _, fr, rfl, h1, fun j u hj => ?_⟩⟩
  obtain ⟨hj1, hj2⟩ := List.getElem?_eq_some_iff.1 hj
  simp [List.getElem?_append_left hj1, hj]
end
end Go.Sh
namespace Go.Proofs.YtkdghnbogkbedaaGreatDoor
open Go Go.Sh Go.RowKit
set_option maxRecDepth 100000
set_option maxHeartbeats 1000000
set_option linter.unusedSimpArgs false
set_option linter.unusedVariables false

/-! ## The reference's -/

theorem ref_pad (k : List UInt8) (hk : k.length ≤ 1000000000) (w : World) : Ret Tryz.prog 158 #[str k] w (str (key64 k)) := by
  refine c158 ?_
  unfold s158
  have fin : ∀ (p : List UInt8) (w1 : World), p.length ≤ 64 → Ch No w w1 → p ++ List.replicate (64 - p.length) 0 = key64 k → s158_j1 Tryz.prog (fun v' w' => v' = str (key64 k) ∧ Ch No w w') (str p) w1 := by
    intro p w1 hp hc he
    unfold s158_j1
    refine LP_intro (fun us w' => ∃ j : Nat, us = [str (p ++ List.replicate j 0)] ∧ j ≤ 64 - p.length ∧ w1 = w') (fun us _ => match us with | [.string b] => 65 - b.size | _ => 0)
      ⟨0, by simp, Nat.zero_le _, rfl⟩ ?_
    rintro us hus ζ _ ⟨j, rfl, hj, rfl⟩
    unfold s158_l1
    simp only [List.getD_cons_zero, List.getD_cons_succ]
    have hlen : (p ++ List.replicate j (0 : UInt8)).length = p.length + j := by simp
    (first | refine SV_p (by first | exact True.intro | omega | (simp only [List.length_append, List.length_cons, List.length_nil, List.length_replicate, List.length_map]; omega)) ?_ | refine HV_p (by first | exact True.intro | omega | (simp only [List.length_append, List.length_cons, List.length_nil, List.length_replicate, List.length_map]; omega)) ?_)
    (first | refine SV_p (by first | exact True.intro | omega | (simp only [List.length_append, List.length_cons, List.length_nil, List.length_replicate, List.length_map]; omega)) ?_ | refine HV_p (by first | exact True.intro | omega | (simp only [List.length_append, List.length_cons, List.length_nil, List.length_replicate, List.length_map]; omega)) ?_)
    rw [hlen]
    refine CN_split (fun hlt => ?_) (fun hge => ?_)
    · (first | refine SV_p (by first | exact True.intro | omega | (simp only [List.length_append, List.length_cons, List.length_nil, List.length_replicate, List.length_map]; omega)) ?_ | refine HV_p (by first | exact True.intro | omega | (simp only [List.length_append, List.length_cons, List.length_nil, List.length_replicate, List.length_map]; omega)) ?_)
      refine ⟨⟨j + 1, ?_, by omega, rfl⟩, ?_⟩
      · rw [List.replicate_succ', List.append_assoc]
      · show 65 - (ByteArray.mk (p ++ List.replicate j 0 ++ [0]).toArray).size < 65 - (ByteArray.mk (p ++ List.replicate j 0).toArray).size
        rw [size_str, size_str, List.length_append, hlen]
        simp only [List.length_cons, List.length_nil]
        omega
    · have : j = 64 - p.length := by omega
      subst this
      exact ⟨by rw [he], hc⟩
  refine JP_in ?_
  (first | refine SV_p (by first | exact True.intro | omega | (simp only [List.length_append, List.length_cons, List.length_nil, List.length_replicate, List.length_map]; omega)) ?_ | refine HV_p (by first | exact True.intro | omega | (simp only [List.length_append, List.length_cons, List.length_nil, List.length_replicate, List.length_map]; omega)) ?_)
  (first | refine SV_p (by first | exact True.intro | omega | (simp only [List.length_append, List.length_cons, List.length_nil, List.length_replicate, List.length_map]; omega)) ?_ | refine HV_p (by first | exact True.intro | omega | (simp only [List.length_append, List.length_cons, List.length_nil, List.length_replicate, List.length_map]; omega)) ?_)
  refine CN_split (fun hgt => ?_) (fun hle => ?_)
  · refine n81 ((ref_of k w hk).use fun w1 h1 => ?_)
    refine n160 ((ref_bytes _ w1).use fun w2 h2 => ?_)
    refine ⟨rfl, fun _ => ?_⟩
    exact fin _ _ (by rw [(sha k).h]; omega) (h1.trans h2) (by unfold key64; rw [if_pos (by omega)])
  · exact ⟨rfl, fun _ => fin _ _ (by omega) (Ch.refl _) (by unfold key64; rw [if_neg (by omega)])⟩

theorem ref_xor (l : List UInt8) (c : UInt8) (hl : l.length ≤ 1000000000) (w : World) : Ret Tryz.prog 159 #[str l, by_ c] w (str (xorAll c l)) := by
  refine c159 ?_
  unfold s159
  (first | refine SV_p (by first | exact True.intro | omega | (simp only [List.length_append, List.length_cons, List.length_nil, List.length_replicate, List.length_map]; omega)) ?_ | refine HV_p (by first | exact True.intro | omega | (simp only [List.length_append, List.length_cons, List.length_nil, List.length_replicate, List.length_map]; omega)) ?_)
  refine SV_make1 (by omega) (by omega) fun g w1 hg b1 h1 => ?_
  have hxl : ((xorAll c l).map by_).length = l.length := by simp
  have hzl : (List.replicate l.length (Value.int .u8 0)).length = l.length := by simp
  refine LP_intro (fun us w' => ∃ i : Nat, us = [.int .i64 i] ∧ i ≤ l.length ∧ Blk w' g 5 (((xorAll c l).map by_).take i ++ (List.replicate l.length (Value.int .u8 0)).drop i) ∧ Ch (· = g) w1 w') (fun us _ => match us with | [.int _ t] => (l.length - t).toNat | _ => 0)
    ⟨0, rfl, by omega, by rw [mix_zero]; exact b1, Ch.refl _⟩ ?_
  rintro us hus ζ w2 ⟨i, rfl, hi, b2, h2⟩
  unfold s159_l1
  simp only [List.getD_cons_zero, List.getD_cons_succ]
  (first | refine SV_p (by first | exact True.intro | omega | (simp only [List.length_append, List.length_cons, List.length_nil, List.length_replicate, List.length_map]; omega)) ?_ | refine HV_p (by first | exact True.intro | omega | (simp only [List.length_append, List.length_cons, List.length_nil, List.length_replicate, List.length_map]; omega)) ?_)
  (first | refine SV_p (by first | exact True.intro | omega | (simp only [List.length_append, List.length_cons, List.length_nil, List.length_replicate, List.length_map]; omega)) ?_ | refine HV_p (by first | exact True.intro | omega | (simp only [List.length_append, List.length_cons, List.length_nil, List.length_replicate, List.length_map]; omega)) ?_)
  refine CN_split (fun hlt => ?_) (fun hge => ?_)
  · (first | refine SV_p (by first | exact True.intro | omega | (simp only [List.length_append, List.length_cons, List.length_nil, List.length_replicate, List.length_map]; omega)) ?_ | refine HV_p (by first | exact True.intro | omega | (simp only [List.length_append, List.length_cons, List.length_nil, List.length_replicate, List.length_map]; omega)) ?_)
    (first | refine SV_p (by first | exact True.intro | omega | (simp only [List.length_append, List.length_cons, List.length_nil, List.length_replicate, List.length_map]; omega)) ?_ | refine HV_p (by first | exact True.intro | omega | (simp only [List.length_append, List.length_cons, List.length_nil, List.length_replicate, List.length_map]; omega)) ?_)
    (first | refine SV_p (by first | exact True.intro | omega | (simp only [List.length_append, List.length_cons, List.length_nil, List.length_replicate, List.length_map]; omega)) ?_ | refine HV_p (by first | exact True.intro | omega | (simp only [List.length_append, List.length_cons, List.length_nil, List.length_replicate, List.length_map]; omega)) ?_)
    refine SU_store b2 (by rw [mix_len hzl hxl hi]; omega) rfl fun w3 b3 h3 => ?_
    (first | refine SV_p (by first | exact True.intro | omega | (simp only [List.length_append, List.length_cons, List.length_nil, List.length_replicate, List.length_map]; omega)) ?_ | refine HV_p (by first | exact True.intro | omega | (simp only [List.length_append, List.length_cons, List.length_nil, List.length_replicate, List.length_map]; omega)) ?_)
    have hi' : i < l.length := by omega
    rw [Int.toNat_natCast, set_mix (by rw [hzl, hxl]) (by simp [xorAll, List.getD, hi'])] at b3
    refine ⟨⟨i + 1, rfl, by omega, b3, h2.trans h3⟩, ?_⟩
    show ((l.length : Int) - ((i : Int) + 1)).toNat < ((l.length : Int) - (i : Int)).toNat
    omega
  · have : i = l.length := by omega
    subst this
    rw [mix_all hzl hxl] at b2
    refine SV_bstr (l := xorAll c l) (Rd.of_blk b2 (by simp) (by unfold maxLen; omega)) ?_
    exact ⟨rfl, h1.own h2 hg⟩

theorem ref_mac (k m : List UInt8) (hk : k.length ≤ 1000000000) (hm : m.length ≤ 900000000) (w : World) : Ret Tryz.prog 92 #[str k, str m] w (hmac k m).v := by
  refine c92 ?_
  unfold s92
  have h64 := key64_len k
  refine SV_alloc fun g1 w1 hg1 b1 h1 => ?_
  refine n158 ((ref_pad k hk _).use fun w2 h2 => ?_)
  have e54 : Value.int .u8 54 = by_ 54 := rfl
  have e92 : Value.int .u8 92 = by_ 92 := rfl
  rw [e54, e92]
  refine n159 ((ref_xor (key64 k) 54 (by omega) _).use fun w3 h3 => ?_)
  have hx := xorAll_len 54 (key64 k)
  have hx2 := xorAll_len 92 (key64 k)
  (first | refine SV_p (by first | exact True.intro | omega | (simp only [List.length_append, List.length_cons, List.length_nil, List.length_replicate, List.length_map]; omega)) ?_ | refine HV_p (by first | exact True.intro | omega | (simp only [List.length_append, List.length_cons, List.length_nil, List.length_replicate, List.length_map]; omega)) ?_)
  refine n81 ((ref_of _ _ (by rw [List.length_append]; omega)).use fun w4 h4 => ?_)
  refine SV_alloc fun g5 w5 hg5 b5 h5 => ?_
  refine SU_storeB b5 (Sum.len _) Sum.zero.len (Sum.ones _) fun w6 b6 h6 => ?_
  have z1 := h1.size
  have z2 := h2.size
  have z3 := h3.size
  have z4 := h4.size
  have z5 := h5.size
  have z6 := h6.size
  have l1 := b1.lt
  have l6 := b6.lt
  have b1 := ((((b1.no h2).no h3).no h4).no h5).ch h6 (by omega)
  have hc6 : Ch No w w6 := (h1.trans (h2.trans (h3.trans (h4.trans h5)))).own h6 (by omega)
  refine HR_kp No ?_
  refine n159 ((ref_xor (key64 k) 92 (by omega) _).use fun w7 h7 => ?_)
  have h7' : Ch No w6 w7 := (Ch.drew _).trans h7
  (first | refine RS_same (h7') ?_ | refine ⟨h7', ?_⟩)
  refine HV_loadB b6 (fun h => h) (Sum.len _) ?_
  refine n160 ((ref_bytes _ w7).use fun w8 h8 => ?_)
  have h8' : Ch No w6 w8 := h7'.trans h8
  (first | refine RS_same (h8') ?_ | refine ⟨h8', ?_⟩)
  have hsl := (sha (xorAll 54 (key64 k) ++ m)).h
  (first | refine SV_p (by first | exact True.intro | omega | (simp only [List.length_append, List.length_cons, List.length_nil, List.length_replicate, List.length_map]; omega)) ?_ | refine HV_p (by first | exact True.intro | omega | (simp only [List.length_append, List.length_cons, List.length_nil, List.length_replicate, List.length_map]; omega)) ?_)
  refine n81 ((ref_of _ _ (by rw [List.length_append]; omega)).use fun w9 h9 => ?_)
  have b1 := (b1.no h8').no h9
  refine SU_storeB b1 (Sum.len _) Sum.zero.len (Sum.ones _) fun w10 b10 h10 => ?_
  refine CR_N b10 (Sum.len _) ?_
  exact ⟨rfl, ((hc6.trans h8').trans h9).own h10 (by omega)⟩
end Go.Proofs.YtkdghnbogkbedaaGreatDoor
