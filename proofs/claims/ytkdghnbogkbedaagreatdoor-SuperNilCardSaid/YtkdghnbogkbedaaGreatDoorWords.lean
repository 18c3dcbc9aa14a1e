/-
  Words of 32 bits: the operations on them; arrays in memory.
-/
import Derived.Test.YtkdghnbogkbedaaGreatDoorData
namespace Go.Sh
open Go Go.RowKit

def w32 (x : UInt32) : Value := .int .u32 x.toNat
def w64 (n : Nat) : Value := .int .u64 n

def shl32 (x : UInt32) (s : Nat) : UInt32 := UInt32.ofNat (x.toNat * 2 ^ s)
def shr32 (x : UInt32) (s : Nat) : UInt32 := UInt32.ofNat (x.toNat / 2 ^ s)
def not32 (x : UInt32) : UInt32 := 4294967295 ^^^ x
def rotr (x : UInt32) (s : Nat) : UInt32 := shr32 x s ||| shl32 x (32 - s)

theorem w32_lt (x : UInt32) : x.toNat < 4294967296 := x.toNat_lt
theorem w32_ofNat (n : Nat) : (UInt32.ofNat n).toNat = n % 4294967296 := by simp [UInt32.toNat_ofNat']

section
variable {P : Program} {t : TypeId} {x y : UInt32}

theorem pu_w32add : Pu P (binOp .add t (w32 x) (w32 y)) (w32 (x + y)) := fun w => by
  unfold w32
  rw [pu_add w, IntKind.wrap_u32, UInt32.toNat_add]
  congr 2
theorem pu_w32and : Pu P (binOp .and t (w32 x) (w32 y)) (w32 (x &&& y)) := fun w => by
  unfold w32
  rw [binOp_and, intBits_and, u32_and_nat _ _ (w32_lt x) (w32_lt y), UInt32.toNat_and]; rfl
theorem pu_w32or : Pu P (binOp .or t (w32 x) (w32 y)) (w32 (x ||| y)) := fun w => by
  unfold w32
  rw [binOp_or, intBits_or, u32_or_nat _ _ (w32_lt x) (w32_lt y), UInt32.toNat_or]; rfl
theorem pu_w32xor : Pu P (binOp .xor t (w32 x) (w32 y)) (w32 (x ^^^ y)) := fun w => by
  unfold w32
  rw [binOp_xor, intBits_xor, u32_xor_nat _ _ (w32_lt x) (w32_lt y), UInt32.toNat_xor]; rfl
theorem pu_w32not : Pu P (Op.unary .xor (w32 x)) (w32 (not32 x)) := fun w => by
  unfold w32 not32
  rw [unary_xor, intBits_xor]
  have h := u32_xor_nat 4294967295 x.toNat (by decide) (w32_lt x)
  have e : (if IntKind.u32.signed then (-1 : Int) else IntKind.u32.max) = ((4294967295 : Nat) : Int) := by decide
  rw [e, h, UInt32.toNat_xor]; rfl
theorem pu_w32shr {k : IntKind} {s : Int} (h0 : 0 ≤ s) (h1 : s ≤ 32) : Pu P (binOp .shr t (w32 x) (.int k s)) (w32 (shr32 x s.toNat)) := fun w => by
  unfold w32 shr32
  rw [binOp_shr, w32_ofNat]
  have hm : min s.toNat IntKind.u32.bits = s.toNat := by
    have : IntKind.u32.bits = 32 := rfl
    omega
  have hp : (0 : Int) < 2 ^ s.toNat := Int.pow_pos (by decide)
  have e : (x.toNat : Int).fdiv (2 ^ s.toNat) = ((x.toNat / 2 ^ s.toNat : Nat) : Int) := by
    rw [Int.fdiv_eq_ediv_of_nonneg _ (Int.le_of_lt hp)]
    simp
  have hlt : x.toNat / 2 ^ s.toNat < 4294967296 := Nat.lt_of_le_of_lt (Nat.div_le_self _ _) (w32_lt x)
  rw [Nat.mod_eq_of_lt hlt]
  simp only [Op.shift, show ¬ s < 0 by omega, if_false, hm, e]
  rfl
theorem pu_w32shl {k : IntKind} {s : Int} (h0 : 0 ≤ s) (h1 : s ≤ 32) : Pu P (binOp .shl t (w32 x) (.int k s)) (w32 (shl32 x s.toNat)) := fun w => by
  unfold w32 shl32
  rw [binOp_shl, w32_ofNat]
  have hm : min s.toNat IntKind.u32.bits = s.toNat := by
    have : IntKind.u32.bits = 32 := rfl
    omega
  simp only [Op.shift, show ¬ s < 0 by omega, if_false, hm, IntKind.wrap_u32]
  have : ((x.toNat : Int) * 2 ^ s.toNat % 4294967296) = ((x.toNat * 2 ^ s.toNat % 4294967296 : Nat) : Int) := by simp
  rw [this]; rfl
theorem pu_neg {n : Int} (h : -9223372036854775808 ≤ -n ∧ -n ≤ 9223372036854775807) : Pu P (Op.unary .neg (.int .i64 n)) (.int .i64 (-n)) := fun w => by
  rw [unary_neg]
  have : (0 : Int) - n = -n := by omega
  simp only [Op.intArith, this, wrap_i64 h]; first | done | rfl
theorem pu_832 {s d : TypeId} [IsInt P s .u8] [IsInt P d .u32] {b : UInt8} : Pu P (convert s d (by_ b)) (w32 (UInt32.ofNat b.toNat)) := fun w => by
  have := pu_conv (P := P) (s := s) (d := d) (k := .u8) (n := b.toNat) w
  rw [IntKind.wrap_u32] at this
  have hb : b.toNat < 256 := b.toNat_lt
  unfold by_ w32
  rw [this, w32_ofNat, Nat.mod_eq_of_lt (by omega)]
  congr 2
  omega
theorem pu_328 {s d : TypeId} [IsInt P s .u32] [IsInt P d .u8] : Pu P (convert s d (w32 x)) (by_ (UInt8.ofNat x.toNat)) := fun w => by
  have := pu_conv (P := P) (s := s) (d := d) (k := .u32) (n := x.toNat) w
  rw [IntKind.wrap_u8] at this
  unfold by_ w32
  rw [this]
  congr 2

/-! ## Arrays in memory -/

theorem pu_idxA {ty len e n g o : Nat} [h : ArT P ty len e n] {i : Int} (h0 : 0 ≤ i) (h1 : i < len) : Pu P (Instr.indexAt ty (.pointer (some ⟨g, o, none⟩)) (.int .i64 i)) (.pointer (some ⟨g, o + i.toNat * n, none⟩)) := fun w => by
  simp only [Instr.indexAt, Sem.run_bind, asIntOf, Sem.run_pure, Result.andThen_ok, run_underlying h.und, Instr.sureAddr]
  simp only [h0, h1, and_self, if_true, Sem.run_bind, h.size, Result.andThen_ok, Sem.run_pure, Addr.add_lit]
/-- The elements have one cell, the array its own block. -/
theorem pu_idxA1 {ty len e g : Nat} [h : ArT P ty len e 1] {i : Int} (h0 : 0 ≤ i) (h1 : i < len) : Pu P (Instr.indexAt ty (.pointer (some ⟨g, 0, none⟩)) (.int .i64 i)) (.pointer (some ⟨g, i.toNat, none⟩)) := fun w => by
  rw [pu_idxA h0 h1 w]; first | done | simp
/-- An array by value. -/
theorem pu_idxV {ty len e : Nat} [h : ArT P ty len e 1] [h1 : One P e] {i : Int} {l : List Value} {v : Value} (h0 : 0 ≤ i) (hi : i < len) (hv : l[i.toNat]? = some v) : Pu P (Instr.index ty (ag l) (.int .i64 i)) v := fun w => by
  simp only [Instr.index, ag, Sem.run_bind, asIntOf, Sem.run_pure, Result.andThen_ok, run_underlying h.und]
  simp only [h0, hi, and_self, if_true, Sem.run_bind, h.size, Result.andThen_ok, part, h1.agg, Nat.mul_one, List.getElem?_toArray, hv]
  rfl
theorem pu_slA {ty len e n : Nat} [h : ArT P ty len e n] {a : Addr} : Pu P (Instr.sliceAt ty (.pointer (some a)) none none none) (.slice (some a) len len) := fun w => by
  have h0 : (0 : Nat) ≤ len := Nat.zero_le _
  simp [Instr.sliceAt, run_underlying h.und, Instr.sureAddr, Instr.sliceBounds, h.size]
  intro hl
  simp [hl, Addr.add]

/-- A whole array, as a slice. -/
theorem Rd.of_blk {w : World} {g T len sz : Nat} {cs : List Value} (h : Blk w g T cs) (hl : cs.length = len * sz) (hm : len ≤ maxLen) : Rd w T sz (.slice (some ⟨g, 0, none⟩) len len) len cs :=
  ⟨hl, hm, _, len, rfl, Nat.le_refl _, fun _ => ⟨g, 0, _, _, rfl, h, fun j u hj => by simpa using hj⟩⟩

/-- copy onto a block's beginning. -/
theorem SV_copy {ty rt e T sz g t d c m : Nat} [hT : SlT P ty e sz] {w : World} {cs ys : List Value} {u : Value} {k : Value → World → Prop} (h : Blk w g t cs) (hu : Rd w T sz u m ys) (hm : m ≤ d) (hfit : m * sz ≤ cs.length) (h1 : Ones ys)
    (hk : ∀ w', Blk w' g t (ys ++ cs.drop (m * sz)) → Ch (· = g) w w' → k (.int .i64 m) w') : SV P (Builtin.copy_ #[ty, ty] rt #[.slice (some ⟨g, 0, none⟩) d c, u]) w k := by
  obtain ⟨hyl, _, A, c', rfl, hc, h4⟩ := hu
  have hmin : Nat.min m d = m := Nat.min_eq_left hm
  have hst := run_storeCells_at P g 0 t ys 0 cs.toArray w h (by simp [hyl]; exact hfit) h1
  simp only [Nat.add_zero, Nat.zero_add] at hst
  have hf : (Builtin.firstCells sz m (.slice A m c')).run P w = .ok ys.toArray w := by
    rcases Nat.eq_zero_or_pos m with h0 | hp
    · subst h0
      have : ys = [] := List.eq_nil_of_length_eq_zero (by simpa using hyl)
      subst this
      cases A <;> simp [Builtin.firstCells, loadCells, loadCellsFrom]
    · obtain ⟨b, o, C, fr, rfl, hb, hx⟩ := h4 hp
      exact run_firstCells_some (P := P) w sz m ⟨b, o, none⟩ m c' ys hyl (fun j v hj => by rw [Addr.add_lit, cell_of_row w b _ C _ fr hb]; exact hx j v hj)
  refine ⟨_, w.setRow g (ys ++ cs.drop (m * sz)).toArray, ?_, hk _ (by unfold Blk; exact setRow_heap w g _ _ t _ h) (setRow_ch w g _)⟩
  have e1 : (cs.toArray.toList.take 0 ++ ys ++ cs.toArray.toList.drop ys.length).toArray = (ys ++ cs.drop (m * sz)).toArray := by simp [hyl]
  rw [e1] at hst
  simp [Builtin.copy_, run_underlying hT.und, hT.size, Builtin.lenOf, hmin, hf, hst]
  rfl
end
end Go.Sh
