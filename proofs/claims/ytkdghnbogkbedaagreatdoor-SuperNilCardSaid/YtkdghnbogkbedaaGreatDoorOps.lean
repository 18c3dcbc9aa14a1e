/-
  The operations' laws over named values: what each operation comes to.
-/
import Derived.Test.YtkdghnbogkbedaaGreatDoorEng
import Derived.WalkKit
namespace Go.Sh
open Go Go.RowKit

/-! ## Texts, numbers -/

/-- A text of these bytes. -/
def str (l : List UInt8) : Value := .string ⟨l.toArray⟩
/-- A struct or an array of these cells. -/
def ag (l : List Value) : Value := .agg l.toArray
/-- A byte. -/
def by_ (b : UInt8) : Value := .int .u8 b.toNat

theorem str_inj {a b : List UInt8} (h : str a = str b) : a = b := by
  unfold str at h
  injection h with h
  injection h with h
  injection h

/-! ## Types: what the program's table says of them -/

/-- A variable of one cell. -/
class One (P : Program) (t : TypeId) : Prop where
  agg : ∀ w, (isAgg t).run P w = .ok false w
  size : ∀ w, (sizeOf t).run P w = .ok 1 w

/-- A variable of n cells: a struct or an array. -/
class Many (P : Program) (t : TypeId) (n : outParam Nat) : Prop where
  agg : ∀ w, (isAgg t).run P w = .ok true w
  size : ∀ w, (sizeOf t).run P w = .ok n w

/-- A slice type, its elements' type and their size. -/
class SlT (P : Program) (t : TypeId) (e : outParam TypeId) (n : outParam Nat) : Prop where
  und : P.underlying t = some (.slice e)
  size : ∀ w, (sizeOf e).run P w = .ok n w

class IsStr (P : Program) (t : TypeId) : Prop where
  und : P.underlying t = some .string

class IsInt (P : Program) (t : TypeId) (k : outParam IntKind) : Prop where
  und : P.underlying t = some (.int k)

class IsBool (P : Program) (t : TypeId) : Prop where
  und : P.underlying t = some .bool

class IsPtr (P : Program) (t : TypeId) : Prop where
  und : ∃ e, P.underlying t = some (.pointer e)

class ArT (P : Program) (t : TypeId) (len : outParam Nat) (e : outParam TypeId) (n : outParam Nat) : Prop where
  und : P.underlying t = some (.array len e)
  size : ∀ w, (sizeOf e).run P w = .ok n w

/-- A struct's field: where it lies. -/
class Fld (P : Program) (s : TypeId) (i : Nat) (off : outParam Nat) : Prop where
  run : ∀ (a : Addr) w, (Instr.fieldAt s (.pointer (some a)) i).run P w = .ok (.pointer (some (a.add off))) w

def zeroB (P : Program) (t : TypeId) : Bool := match P.info? t with | some i => i.zero.isSome | none => false
def zeroOf (P : Program) (t : TypeId) : Value := match P.info? t with | some i => i.zero.getD undef | none => undef

/-- The zero value's cells. -/
class Zer (P : Program) (t : TypeId) (zs : outParam (List Value)) : Prop where
  is : zeroB P t = true
  cells : (zeroOf P t).cells = zs.toArray

theorem run_zero {P : Program} {t : TypeId} (h : zeroB P t = true) (w : World) : (zeroValue t).run P w = .ok (zeroOf P t) w := by
  unfold zeroB at h
  unfold zeroOf
  cases hi : P.info? t with
  | none => simp [hi] at h
  | some i =>
    simp only [hi] at h
    cases hz : i.zero with
    | none => simp [hz] at h
    | some z => simp [zeroValue, typeInfo, hi, hz]

/-! ## Operations that touch no memory -/

def Pu (P : Program) (s : Sem Value) (v : Value) : Prop := ∀ w, s.run P w = .ok v w

theorem SV_pu {P : Program} {s : Sem Value} {v : Value} {w : World} {k : Value → World → Prop} (h : Pu P s v) (hk : k v w) : SV P s w k := ⟨v, w, h w, hk⟩
theorem HV_pu {P : Program} {C : World → Prop} {s : Sem Value} {v : Value} {k : Value → Prop} (h : Pu P s v) (hk : k v) : HV P C s k := ⟨v, fun w _ => h w, hk⟩

theorem beq_dec {α : Type} [DecidableEq α] [BEq α] [LawfulBEq α] (a b : α) : (a == b) = decide (a = b) := by
  by_cases h : a = b
  · simp [h]
  · rw [decide_eq_false h]; simpa using h

section
variable {P : Program}

/-- '==' on two values whose comparison goes by the type. -/
theorem run_eql_by {t : TypeId} {a b : Value} {w : World} {r : Bool} (hb : binOp .eql t a b = do pure (.bool (← Op.equal t a b))) (h : ∀ d, (Op.equalIn (d + 1) t a b).run P w = .ok r w) :
    (binOp .eql t a b).run P w = .ok (.bool r) w := by
  rw [hb, Sem.run_bind, show (Op.equal t a b).run P w = .ok r w from h 9999]; rfl
theorem run_neq_by {t : TypeId} {a b : Value} {w : World} {r : Bool} (hb : binOp .neq t a b = do pure (.bool (!(← Op.equal t a b)))) (h : ∀ d, (Op.equalIn (d + 1) t a b).run P w = .ok r w) :
    (binOp .neq t a b).run P w = .ok (.bool (!r)) w := by
  rw [hb, Sem.run_bind, show (Op.equal t a b).run P w = .ok r w from h 9999]; rfl

theorem Pu.of_pure (v : Value) : Pu P (pure v) v := fun _ => rfl

theorem pu_nil {a : Addr} : Pu P (nilS (.pointer (some a))) (.pointer (some a)) := fun _ => rfl
theorem pu_nil_fn {f : FuncId} {x y : Array Value} : Pu P (nilS (.func (.func f) x y)) (.func (.func f) x y) := fun _ => rfl

theorem pu_fld0 {s : TypeId} {i off g : Nat} [h : Fld P s i off] : Pu P (Instr.fieldAt s (.pointer (some ⟨g, 0, none⟩)) i) (.pointer (some ⟨g, off, none⟩)) := fun w => by
  rw [h.run]; simp only [Addr.add]; split <;> simp_all
theorem pu_fld {s : TypeId} {i off g o : Nat} [h : Fld P s i off] : Pu P (Instr.fieldAt s (.pointer (some ⟨g, o, none⟩)) i) (.pointer (some ⟨g, o + off, none⟩)) := fun w => by
  rw [h.run]; simp only [Addr.add]; split <;> simp_all

theorem pu_ext {vs : Array Value} {i : Nat} {v : Value} (h : vs[i]? = some v) : Pu P (Instr.extract (.tuple vs) i) v := fun w => by
  simp [Instr.extract, h]

theorem pu_len {t ty e n : Nat} [h : SlT P t e n] {a : Option Addr} {l c : Nat} : Pu P (Builtin.len_ #[t] ty #[.slice a l c]) (.int .i64 l) := fun w => by
  simp [Builtin.len_, run_underlying h.und, goInt]
theorem pu_len_str {t ty : Nat} [h : IsStr P t] {l : List UInt8} : Pu P (Builtin.len_ #[t] ty #[str l]) (.int .i64 l.length) := fun w => by
  simp [Builtin.len_, run_underlying h.und, goInt, str]; rfl

theorem pu_add {t : TypeId} {k : IntKind} {a b : Int} : Pu P (binOp .add t (.int k a) (.int k b)) (.int k (k.wrap (a + b))) := fun w => by simp [binOp, Op.intArith]
theorem pu_sub {t : TypeId} {k : IntKind} {a b : Int} : Pu P (binOp .sub t (.int k a) (.int k b)) (.int k (k.wrap (a - b))) := fun w => by simp [binOp, Op.intArith]
theorem pu_mul {t : TypeId} {k : IntKind} {a b : Int} : Pu P (binOp .mul t (.int k a) (.int k b)) (.int k (k.wrap (a * b))) := fun w => by simp [binOp, Op.intArith]

theorem wrap_i64 {n : Int} (h : -9223372036854775808 ≤ n ∧ n ≤ 9223372036854775807) : IntKind.i64.wrap n = n := by
  obtain ⟨h1, h2⟩ := h
  rw [IntKind.wrap_i64]; omega

theorem pu_add64 {t : TypeId} {a b : Int} (h : -9223372036854775808 ≤ a + b ∧ a + b ≤ 9223372036854775807) : Pu P (binOp .add t (.int .i64 a) (.int .i64 b)) (.int .i64 (a + b)) := fun w => by
  rw [pu_add w, wrap_i64 h]
theorem pu_sub64 {t : TypeId} {a b : Int} (h : -9223372036854775808 ≤ a - b ∧ a - b ≤ 9223372036854775807) : Pu P (binOp .sub t (.int .i64 a) (.int .i64 b)) (.int .i64 (a - b)) := fun w => by
  rw [pu_sub w, wrap_i64 h]
theorem pu_mul64 {t : TypeId} {a b : Int} (h : -9223372036854775808 ≤ a * b ∧ a * b ≤ 9223372036854775807) : Pu P (binOp .mul t (.int .i64 a) (.int .i64 b)) (.int .i64 (a * b)) := fun w => by
  rw [pu_mul w, wrap_i64 h]
theorem pu_quo64 {t : TypeId} {a b : Int} (ha : 0 ≤ a ∧ a ≤ 9223372036854775807) (hb : 0 < b) : Pu P (binOp .quo t (.int .i64 a) (.int .i64 b)) (.int .i64 (a / b)) := fun w => by
  have hne : b ≠ 0 := by omega
  have h1 : a.tdiv b = a / b := Int.tdiv_eq_ediv_of_nonneg ha.1
  have h2 : 0 ≤ a / b := Int.ediv_nonneg ha.1 (by omega)
  have h3 : a / b ≤ a := Int.ediv_le_self _ ha.1
  simp only [binOp, Op.intDiv, hne]
  simp only [ne_eq, not_true_eq_false, if_false, h1]
  rw [wrap_i64 (by omega)]
  rfl
theorem pu_rem64 {t : TypeId} {a b : Int} (ha : 0 ≤ a) (hb : 0 < b) : Pu P (binOp .rem t (.int .i64 a) (.int .i64 b)) (.int .i64 (a % b)) := fun w => by
  have hne : b ≠ 0 := by omega
  have h1 : a.tmod b = a % b := Int.tmod_eq_emod_of_nonneg ha
  simp only [binOp, Op.intDiv, hne]
  simp only [ne_eq, not_true_eq_false, if_false, h1]
  rfl

theorem pu_lss {t : TypeId} {k : IntKind} {a b : Int} : Pu P (binOp .lss t (.int k a) (.int k b)) (.bool (decide (a < b))) := fun w => by simp [binOp, Op.intCmp]
theorem pu_leq {t : TypeId} {k : IntKind} {a b : Int} : Pu P (binOp .leq t (.int k a) (.int k b)) (.bool (decide (a ≤ b))) := fun w => by simp [binOp, Op.intCmp]
theorem pu_gtr {t : TypeId} {k : IntKind} {a b : Int} : Pu P (binOp .gtr t (.int k a) (.int k b)) (.bool (decide (b < a))) := fun w => by simp [binOp, Op.intCmp]
theorem pu_geq {t : TypeId} {k : IntKind} {a b : Int} : Pu P (binOp .geq t (.int k a) (.int k b)) (.bool (decide (b ≤ a))) := fun w => by simp [binOp, Op.intCmp]
theorem pu_eql {t : TypeId} {k : IntKind} {a b : Int} {x y : Operand} : Pu P (eqS .eql t x y (.int k a) (.int k b)) (.bool (decide (a = b))) := fun w => by
  simp only [eqS, eqGuard_at_int, binOp_eql]; simp [beq_dec]
theorem pu_neq {t : TypeId} {k : IntKind} {a b : Int} {x y : Operand} : Pu P (eqS .neq t x y (.int k a) (.int k b)) (.bool (decide (a ≠ b))) := fun w => by
  simp only [eqS, eqGuard_at_int, binOp_neq]; simp [bne, beq_dec]
theorem pu_eqlb {t : TypeId} [h : IsBool P t] {a b : Bool} {x y : Operand} : Pu P (eqS .eql t x y (.bool a) (.bool b)) (.bool (decide (a = b))) := fun w => by
  simp only [eqS, eqGuard_at_bool, Sem.run_bind, Sem.run_pure, Result.andThen_ok, run_eql_bool w t a b h.und]; congr
theorem pu_neqb {t : TypeId} [h : IsBool P t] {a b : Bool} {x y : Operand} : Pu P (eqS .neq t x y (.bool a) (.bool b)) (.bool (decide (a ≠ b))) := fun w => by
  simp only [eqS, eqGuard_at_bool, Sem.run_bind, Sem.run_pure, Result.andThen_ok, run_neq_bool w t a b h.und]; cases a <;> cases b <;> rfl
theorem toList_str (l : List UInt8) : (ByteArray.mk l.toArray).toList = l := ByteArray.toList_mk l
theorem pu_eqls {t : TypeId} {a b : List UInt8} {x y : Operand} : Pu P (eqS .eql t x y (str a) (str b)) (.bool (decide (a = b))) := fun w => by
  simp only [eqS, str, eqGuard_at_string, binOp_string_eql, toList_str]; simp [beq_dec]
theorem pu_neqs {t : TypeId} {a b : List UInt8} {x y : Operand} : Pu P (eqS .neq t x y (str a) (str b)) (.bool (decide (a ≠ b))) := fun w => by
  simp only [eqS, str, eqGuard_at_string, binOp_string_neq, toList_str]; simp [beq_dec]
theorem eq_np {t : TypeId} [h : IsPtr P t] (w : World) (d : Nat) : (Op.equalIn (d + 1) t (.pointer none) (.pointer none)).run P w = .ok true w := by
  obtain ⟨e, he⟩ := h.und
  simp [Op.equalIn, run_underlying he]
theorem eq_pp {t : TypeId} [h : IsPtr P t] (a : Addr) (w : World) (d : Nat) : (Op.equalIn (d + 1) t (.pointer (some a)) (.pointer none)).run P w = .ok false w := by
  obtain ⟨e, he⟩ := h.und
  simp [Op.equalIn, run_underlying he]
theorem pu_eql_np {t : TypeId} [IsPtr P t] {x y : Operand} : Pu P (eqS .eql t x y (.pointer none) (.pointer none)) (.bool true) := fun w => by
  simp only [eqS, eqGuard_at_pointer]; exact run_eql_by rfl (eq_np w)
theorem pu_eql_pp {t : TypeId} [IsPtr P t] {a : Addr} {x y : Operand} : Pu P (eqS .eql t x y (.pointer (some a)) (.pointer none)) (.bool false) := fun w => by
  simp only [eqS, eqGuard_at_pointer]; exact run_eql_by rfl (eq_pp a w)
theorem pu_neq_np {t : TypeId} [IsPtr P t] {x y : Operand} : Pu P (eqS .neq t x y (.pointer none) (.pointer none)) (.bool false) := fun w => by
  simp only [eqS, eqGuard_at_pointer]; exact run_neq_by rfl (eq_np w)
theorem pu_neq_pp {t : TypeId} [IsPtr P t] {a : Addr} {x y : Operand} : Pu P (eqS .neq t x y (.pointer (some a)) (.pointer none)) (.bool true) := fun w => by
  simp only [eqS, eqGuard_at_pointer]; exact run_neq_by rfl (eq_pp a w)

theorem pu_adds {t : TypeId} {a b : List UInt8} (h : a.length + b.length ≤ 9223372036854775807) : Pu P (binOp .add t (str a) (str b)) (str (a ++ b)) := fun w => by
  have hs : ∀ l : List UInt8, (ByteArray.mk l.toArray).size = l.length := fun l => by simp [ByteArray.size]
  have hlt : ¬ (9223372036854775807 < (((ByteArray.mk a.toArray).size + (ByteArray.mk b.toArray).size : Nat) : Int)) := by rw [hs, hs]; omega
  have e : (ByteArray.mk a.toArray ++ ByteArray.mk b.toArray) = ByteArray.mk (a ++ b).toArray := by
    apply ByteArray.ext
    simp [ByteArray.data_append]
  simp only [str, binOp, Op.stringOp, IntKind.max_i64, gt_iff_lt]
  rw [if_neg hlt, e]
  rfl
theorem pu_not {b : Bool} : Pu P (Op.unary .not (.bool b)) (.bool (!b)) := fun w => by simp [Op.unary]
theorem pu_conv {s d : TypeId} {ks kd k : IntKind} [hs : IsInt P s ks] [hd : IsInt P d kd] {n : Int} : Pu P (convert s d (.int k n)) (.int kd (kd.wrap n)) := fun w => by
  simp [convert, run_underlying hs.und, run_underlying hd.und, Conv.intToInt]
theorem pu_pick {b : Bool} {x y : Value} : Pu P (do pure (if ← asBool (.bool b) then x else y)) (if b then x else y) := fun w => by simp [asBool]
theorem pu_pickt {x y : Value} : Pu P (do pure (if ← asBool (.bool true) then x else y)) x := fun w => by simp [asBool]
theorem pu_pickf {x y : Value} : Pu P (do pure (if ← asBool (.bool false) then x else y)) y := fun w => by simp [asBool]
theorem pu_fn {fn : Fn} {x y : Array Value} : Pu P (Instr.makeFunc fn x y) (.func fn x y) := fun w => by simp [Instr.makeFunc]
theorem pu_max {ts : Array TypeId} {t : TypeId} {k k' : IntKind} {x y : Int} : Pu P (Builtin.max_ ts t #[.int k x, .int k' y]) (.int k (max x y)) := fun w => by
  rw [run_max_int2]; congr 2; omega
theorem pu_min {ts : Array TypeId} {t : TypeId} {k k' : IntKind} {x y : Int} : Pu P (Builtin.min_ ts t #[.int k x, .int k' y]) (.int k (min x y)) := fun w => by
  rw [run_min_int2]; congr 2; omega
theorem pu_idxs {t : TypeId} [h : IsStr P t] {l : List UInt8} {k : IntKind} {i : Int} {b : UInt8} (h0 : 0 ≤ i) (hb : l[i.toNat]? = some b) : Pu P (Instr.index t (str l) (.int k i)) (by_ b) := fun w => by
  have e : (ByteArray.mk l.toArray)[i.toNat]? = some b := by
    obtain ⟨hlt, he⟩ := List.getElem?_eq_some_iff.1 hb
    rw [ByteArray.getElem?_lt' _ _ (by simpa [ByteArray.size] using hlt)]
    congr 1
  simp [Instr.index, str, run_underlying h.und, asIntOf, h0, e, by_]
end

/-! ## Tests -/

theorem CN_true {X Y : Prop} {p : Prop} [Decidable p] (h : p) (hx : X) : CN (.bool (decide p)) X Y := by rw [decide_eq_true h]; exact hx
theorem CN_false {X Y : Prop} {p : Prop} [Decidable p] (h : ¬ p) (hy : Y) : CN (.bool (decide p)) X Y := by rw [decide_eq_false h]; exact hy
theorem CN_split {X Y : Prop} {p : Prop} [Decidable p] (hx : p → X) (hy : ¬ p → Y) : CN (.bool (decide p)) X Y := by
  by_cases h : p
  · exact CN_true h (hx h)
  · exact CN_false h (hy h)
theorem CN_bool {X Y : Prop} {b : Bool} (hx : b = true → X) (hy : b = false → Y) : CN (.bool b) X Y := by
  cases b
  · exact hy rfl
  · exact hx rfl
theorem CN_not {X Y : Prop} {b : Bool} (h : CN (.bool b) Y X) : CN (.bool (!b)) X Y := by cases b <;> exact h
theorem GD_split {X Y : Prop} {p : Prop} [Decidable p] (hx : p → X) (hy : ¬ p → Y) : GD (.bool (decide p)) true X Y := by
  unfold GD
  by_cases h : p
  · rw [decide_eq_true h]; exact hx h
  · rw [decide_eq_false h]; exact hy h
theorem GD_splitf {X Y : Prop} {p : Prop} [Decidable p] (hx : ¬ p → X) (hy : p → Y) : GD (.bool (decide p)) false X Y := by
  unfold GD
  by_cases h : p
  · rw [decide_eq_true h]; exact hy h
  · rw [decide_eq_false h]; exact hx h
theorem GD_true {X Y : Prop} {p : Prop} [Decidable p] (h : p) (hx : X) : GD (.bool (decide p)) true X Y := GD_split (fun _ => hx) (fun h' => absurd h h')
theorem GD_true' {X Y : Prop} {p : Prop} [Decidable p] (h : ¬ p) (hy : Y) : GD (.bool (decide p)) true X Y := GD_split (fun h' => absurd h' h) (fun _ => hy)
theorem GD_false {X Y : Prop} {p : Prop} [Decidable p] (h : ¬ p) (hx : X) : GD (.bool (decide p)) false X Y := GD_splitf (fun _ => hx) (fun h' => absurd h' h)
theorem GD_false' {X Y : Prop} {p : Prop} [Decidable p] (h : p) (hy : Y) : GD (.bool (decide p)) false X Y := GD_splitf (fun h' => absurd h h') (fun _ => hy)
theorem GD_tt {X Y : Prop} (h : X) : GD (.bool true) true X Y := h
theorem GD_ff {X Y : Prop} (h : X) : GD (.bool false) false X Y := h
theorem GD_tf {X Y : Prop} (h : Y) : GD (.bool true) false X Y := h
theorem GD_ft {X Y : Prop} (h : Y) : GD (.bool false) true X Y := h
theorem GD_bool {X Y : Prop} {b c : Bool} (hx : b = c → X) (hy : b = !c → Y) : GD (.bool b) c X Y := by
  unfold GD
  by_cases h : b = c
  · simp only [h, if_true]; exact hx h
  · simp only [h, if_false]; exact hy (not_of_ne h)

/-! ## Calls -/

theorem Calls.ret_mono {P : Program} {f : FuncId} {args : Array Value} {w : World} {k k' : Value → World → Prop} (h : Calls P f args w (retP k)) (hk : ∀ v w', k v w' → k' v w') : Calls P f args w (retP k') :=
  h.mono (retP_mono hk)

theorem SN_fn {P : Program} {f : FuncId} {x y args : Array Value} {w : World} {k : Value → World → Prop} (h : SN P (callFunc f (x ++ args ++ y)) w k) : SN P (callV (.func (.func f) x y) args) w k := h

/-! ## Worlds -/

/-- Of the blocks that were there only those of S may have turned; no block has gone. -/
structure Ch (S : Nat → Prop) (w w' : World) : Prop where
  os : w'.os = w.os
  tape : w'.tape = w.tape
  output : w'.output = w.output
  size : w.heap.size ≤ w'.heap.size
  block : ∀ k, k < w.heap.size → ¬ S k → w'.heap[k]? = w.heap[k]?

def No : Nat → Prop := fun _ => False

theorem Ch.refl {S : Nat → Prop} (w : World) : Ch S w w := ⟨rfl, rfl, rfl, Nat.le_refl _, fun _ _ _ => rfl⟩
theorem Ch.drew {S : Nat → Prop} (w : World) : Ch S w w.drew := ⟨rfl, rfl, rfl, Nat.le_refl _, fun _ _ _ => rfl⟩
theorem Ch.trans {S : Nat → Prop} {a b c : World} (h : Ch S a b) (k : Ch S b c) : Ch S a c :=
  ⟨k.os.trans h.os, k.tape.trans h.tape, k.output.trans h.output, Nat.le_trans h.size k.size, fun i hi hs => (k.block i (Nat.lt_of_lt_of_le hi h.size) hs).trans (h.block i hi hs)⟩
theorem Ch.mono {S T : Nat → Prop} {w w' : World} (h : Ch S w w') (hS : ∀ k, k < w.heap.size → S k → T k) : Ch T w w' := ⟨h.os, h.tape, h.output, h.size, fun k hk ht => h.block k hk fun hs => ht (hS k hk hs)⟩
theorem Ch.no {T : Nat → Prop} {w w' : World} (h : Ch No w w') : Ch T w w' := h.mono fun _ _ h => h.elim
/-- What was new before, may have turned. -/
theorem Ch.trans' {S T : Nat → Prop} {a b c : World} (h : Ch S a b) (k : Ch T b c) (hT : ∀ i, i < a.heap.size → T i → S i) : Ch S a c :=
  ⟨k.os.trans h.os, k.tape.trans h.tape, k.output.trans h.output, Nat.le_trans h.size k.size, fun i hi hs => (k.block i (Nat.lt_of_lt_of_le hi h.size) (fun ht => hs (hT i hi ht))).trans (h.block i hi hs)⟩
theorem Ch.below {w w' : World} (h : Ch No w w') : Below w.heap.size w w' := ⟨h.os, h.tape, h.output, h.size, fun k hk => h.block k hk fun h => h⟩
theorem Ch.of_below {w w' : World} (h : Below w.heap.size w w') : Ch No w w' := ⟨h.os, h.tape, h.output, h.size, fun k hk _ => h.block k hk⟩
theorem Ch.alloc {S : Nat → Prop} (w : World) (o : Obj) : Ch S w (w.alloc o) := ⟨rfl, rfl, rfl, by simp, fun k hk _ => Below.heap_alloc w o k hk⟩
theorem Ch.grown {w w' : World} {row : Option Nat} (h : w.grownBy w' row) : Ch (fun k => row = some k) w w' := ⟨h.os, h.tape, h.output, h.size, fun k hk hs => h.block k hk fun e => hs e.symm⟩

/-- A block that is known whole. -/
def Blk (w : World) (g : Nat) (t : TypeId) (cs : List Value) : Prop := w.heap[g]? = some (.cells cs.toArray t (0, 0))

section
variable {P : Program} {w w' : World} {g : Nat} {t : TypeId} {cs : List Value} {S : Nat → Prop}

theorem Blk.lt (h : Blk w g t cs) : g < w.heap.size := by
  rcases Nat.lt_or_ge g w.heap.size with hlt | hge
  · exact hlt
  · unfold Blk at h; rw [Array.getElem?_eq_none hge] at h; cases h
theorem Blk.ch (h : Blk w g t cs) (hc : Ch S w w') (hS : ¬ S g) : Blk w' g t cs := (hc.block g h.lt hS).trans h
theorem Blk.no (h : Blk w g t cs) (hc : Ch No w w') : Blk w' g t cs := h.ch hc fun h => h
theorem Blk.drew (h : Blk w g t cs) : Blk w.drew g t cs := h
theorem Blk.ne {g' : Nat} {t' : TypeId} {cs' : List Value} (h : Blk w g t cs) (h' : Blk w g' t' cs') (hne : t ≠ t') : g ≠ g' := by
  rintro rfl
  unfold Blk at h h'
  rw [h] at h'
  injection h' with h'
  injection h' with _ ht
  exact hne ht
/-- A block that came later is another. -/
theorem Blk.ne' {g' : Nat} {t' : TypeId} {cs' : List Value} {w0 : World} (_ : Blk w g t cs) (h' : Blk w0 g' t' cs') (hge : w0.heap.size ≤ g) : g ≠ g' := by
  have := h'.lt
  omega
theorem Blk.inj {cs' : List Value} {t' : TypeId} (h : Blk w g t cs) (h' : Blk w g t' cs') : t = t' ∧ cs = cs' := by
  unfold Blk at h h'
  rw [h] at h'
  injection h' with h'
  injection h' with hc ht
  exact ⟨ht, by simpa using hc⟩
theorem Blk.cell (h : Blk w g t cs) (i : Nat) : w.cell? ⟨g, i, none⟩ = cs[i]? := by
  rw [cell_of_row w g i _ t (0, 0) h]; simp
theorem Blk.new (w : World) (t : TypeId) (cs : List Value) : Blk (w.alloc (.cells cs.toArray t)) w.heap.size t cs := heap_alloc_new w _

theorem run_load1 {ty : TypeId} [h1 : One P ty] {a : Addr} {v : Value} (h : w.cell? a = some v) : (Instr.loadAt ty (.pointer (some a))).run P w = .ok v w := by
  simp only [Instr.loadAt, Instr.sureAddr, Sem.run_bind, Sem.run_pure, Result.andThen_ok, loadVar, h1.agg]
  simp [load, Sem.run, h]

theorem SV_load {ty : TypeId} [One P ty] {o : Nat} {v : Value} {k : Value → World → Prop} (h : Blk w g t cs) (hv : cs[o]? = some v) (hk : k v w) : SV P (Instr.loadAt ty (.pointer (some ⟨g, o, none⟩))) w k :=
  ⟨v, w, run_load1 ((h.cell o).trans hv), hk⟩

theorem run_loadN {ty n : TypeId} [h1 : Many P ty n] {a : Addr} {vs : List Value} (hl : vs.length = n) (h : ∀ j v, vs[j]? = some v → w.cell? (a.add j) = some v) : (Instr.loadAt ty (.pointer (some a))).run P w = .ok (ag vs) w := by
  have := run_loadCells_list (P := P) w a vs h
  rw [hl] at this
  simp only [Instr.loadAt, Instr.sureAddr, Sem.run_bind, Sem.run_pure, Result.andThen_ok, loadVar, h1.agg, h1.size, if_true, this]
  rfl

theorem Blk.cells (h : Blk w g t cs) {o n : Nat} {vs : List Value} (hv : (cs.drop o).take n = vs) : ∀ j v, vs[j]? = some v → w.cell? ((⟨g, o, none⟩ : Addr).add j) = some v := by
  intro j v hj
  rw [Addr.add_lit, h.cell]
  subst hv
  rw [List.getElem?_take] at hj
  split at hj
  · rwa [List.getElem?_drop] at hj
  · cases hj

theorem SV_loadN {ty n : TypeId} [Many P ty n] {o : Nat} {vs : List Value} {k : Value → World → Prop} (h : Blk w g t cs) (hv : (cs.drop o).take n = vs) (hl : vs.length = n) (hk : k (ag vs) w) :
    SV P (Instr.loadAt ty (.pointer (some ⟨g, o, none⟩))) w k :=
  ⟨_, w, run_loadN hl (h.cells hv), hk⟩
/-- A whole block. -/
theorem SV_loadB {ty n : TypeId} [Many P ty n] {k : Value → World → Prop} (h : Blk w g t cs) (hl : cs.length = n) (hk : k (ag cs) w) :
    SV P (Instr.loadAt ty (.pointer (some ⟨g, 0, none⟩))) w k :=
  SV_loadN h (by simp [← hl]) hl hk

/-- The worlds in which only blocks of S have turned since w. -/
def Kp (S : Nat → Prop) (w : World) : World → Prop := fun w' => Ch S w w'

theorem HR_kp {F : (World → Prop) → World → Prop} (S : Nat → Prop) (h : F (Kp S w) w.drew) : HR w F := ⟨Kp S w, Ch.drew w, h⟩

theorem HV_load {ty : TypeId} [One P ty] {o : Nat} {v : Value} {k : Value → Prop} (h : Blk w g t cs) (hS : ¬ S g) (hv : cs[o]? = some v) (hk : k v) : HV P (Kp S w) (Instr.loadAt ty (.pointer (some ⟨g, o, none⟩))) k :=
  ⟨v, fun _ hw => run_load1 (((h.ch hw hS).cell o).trans hv), hk⟩
theorem HV_loadN {ty n : TypeId} [Many P ty n] {o : Nat} {vs : List Value} {k : Value → Prop} (h : Blk w g t cs) (hS : ¬ S g) (hv : (cs.drop o).take n = vs) (hl : vs.length = n) (hk : k (ag vs)) :
    HV P (Kp S w) (Instr.loadAt ty (.pointer (some ⟨g, o, none⟩))) k :=
  ⟨_, fun _ hw => run_loadN hl ((h.ch hw hS).cells hv), hk⟩
theorem HV_loadB {ty n : TypeId} [Many P ty n] {k : Value → Prop} (h : Blk w g t cs) (hS : ¬ S g) (hl : cs.length = n) (hk : k (ag cs)) :
    HV P (Kp S w) (Instr.loadAt ty (.pointer (some ⟨g, 0, none⟩))) k :=
  HV_loadN h hS (by simp [← hl]) hl hk

end
end Go.Sh
