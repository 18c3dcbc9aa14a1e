/-
  The steps that touch no memory, found by their form.
-/
import Derived.Test.YtkdghnbogkbedaaGreatDoorMore
namespace Go.Sh
open Go Go.RowKit

/-- A step that touches no memory, what it yields, and what it asks. -/
class PuC (P : Program) (s : Sem Value) (v : outParam Value) (side : outParam Prop) : Prop where
  is : side → Pu P s v

section
variable {P : Program}
theorem SV_p {s : Sem Value} {v : Value} {side : Prop} {w : World} {k : Value → World → Prop} [h : PuC P s v side] (hs : side) (hk : k v w) : SV P s w k := SV_pu (h.is hs) hk
theorem HV_p {C : World → Prop} {s : Sem Value} {v : Value} {side : Prop} {k : Value → Prop} [h : PuC P s v side] (hs : side) (hk : k v) : HV P C s k := HV_pu (h.is hs) hk

instance {a : Addr} : PuC P (nilS (.pointer (some a))) (.pointer (some a)) True := ⟨fun _ => pu_nil⟩
instance {f : FuncId} {x y : Array Value} : PuC P (nilS (.func (.func f) x y)) (.func (.func f) x y) True := ⟨fun _ => pu_nil_fn⟩
instance {s : TypeId} {i off g : Nat} [h : Fld P s i off] : PuC P (Instr.fieldAt s (.pointer (some ⟨g, 0, none⟩)) i) (.pointer (some ⟨g, off, none⟩)) True := ⟨fun _ => pu_fld0⟩
instance (priority := 500) {s : TypeId} {i off g o : Nat} [h : Fld P s i off] : PuC P (Instr.fieldAt s (.pointer (some ⟨g, o, none⟩)) i) (.pointer (some ⟨g, o + off, none⟩)) True := ⟨fun _ => pu_fld⟩
instance {t ty e n : Nat} [h : SlT P t e n] {a : Option Addr} {l c : Nat} : PuC P (Builtin.len_ #[t] ty #[.slice a l c]) (.int .i64 l) True := ⟨fun _ => pu_len⟩
instance {t ty : Nat} [h : IsStr P t] {l : List UInt8} : PuC P (Builtin.len_ #[t] ty #[str l]) (.int .i64 l.length) True := ⟨fun _ => pu_len_str⟩
instance {t : TypeId} {a b : Int} : PuC P (binOp .add t (.int .i64 a) (.int .i64 b)) (.int .i64 (a + b)) (-9223372036854775808 ≤ a + b ∧ a + b ≤ 9223372036854775807) := ⟨pu_add64⟩
instance {t : TypeId} {a b : Int} : PuC P (binOp .sub t (.int .i64 a) (.int .i64 b)) (.int .i64 (a - b)) (-9223372036854775808 ≤ a - b ∧ a - b ≤ 9223372036854775807) := ⟨pu_sub64⟩
instance {t : TypeId} {a b : Int} : PuC P (binOp .mul t (.int .i64 a) (.int .i64 b)) (.int .i64 (a * b)) (-9223372036854775808 ≤ a * b ∧ a * b ≤ 9223372036854775807) := ⟨pu_mul64⟩
instance {t : TypeId} {a b : Int} : PuC P (binOp .quo t (.int .i64 a) (.int .i64 b)) (.int .i64 (a / b)) ((0 ≤ a ∧ a ≤ 9223372036854775807) ∧ 0 < b) := ⟨fun h => pu_quo64 h.1 h.2⟩
instance {t : TypeId} {a b : Int} : PuC P (binOp .rem t (.int .i64 a) (.int .i64 b)) (.int .i64 (a % b)) (0 ≤ a ∧ 0 < b) := ⟨fun h => pu_rem64 h.1 h.2⟩
instance {t : TypeId} {k : IntKind} {a b : Int} : PuC P (binOp .lss t (.int k a) (.int k b)) (.bool (decide (a < b))) True := ⟨fun _ => pu_lss⟩
instance {t : TypeId} {k : IntKind} {a b : Int} : PuC P (binOp .leq t (.int k a) (.int k b)) (.bool (decide (a ≤ b))) True := ⟨fun _ => pu_leq⟩
instance {t : TypeId} {k : IntKind} {a b : Int} : PuC P (binOp .gtr t (.int k a) (.int k b)) (.bool (decide (b < a))) True := ⟨fun _ => pu_gtr⟩
instance {t : TypeId} {k : IntKind} {a b : Int} : PuC P (binOp .geq t (.int k a) (.int k b)) (.bool (decide (b ≤ a))) True := ⟨fun _ => pu_geq⟩
instance {t : TypeId} {k : IntKind} {a b : Int} {x y : Operand} : PuC P (eqS .eql t x y (.int k a) (.int k b)) (.bool (decide (a = b))) True := ⟨fun _ => pu_eql⟩
instance {t : TypeId} {k : IntKind} {a b : Int} {x y : Operand} : PuC P (eqS .neq t x y (.int k a) (.int k b)) (.bool (decide (a ≠ b))) True := ⟨fun _ => pu_neq⟩
instance {t : TypeId} [h : IsBool P t] {a b : Bool} {x y : Operand} : PuC P (eqS .eql t x y (.bool a) (.bool b)) (.bool (decide (a = b))) True := ⟨fun _ => pu_eqlb⟩
instance {t : TypeId} [h : IsBool P t] {a b : Bool} {x y : Operand} : PuC P (eqS .neq t x y (.bool a) (.bool b)) (.bool (decide (a ≠ b))) True := ⟨fun _ => pu_neqb⟩
instance {t : TypeId} {a b : List UInt8} {x y : Operand} : PuC P (eqS .eql t x y (str a) (str b)) (.bool (decide (a = b))) True := ⟨fun _ => pu_eqls⟩
instance {t : TypeId} {a b : List UInt8} {x y : Operand} : PuC P (eqS .neq t x y (str a) (str b)) (.bool (decide (a ≠ b))) True := ⟨fun _ => pu_neqs⟩
instance {t : TypeId} [IsPtr P t] {x y : Operand} : PuC P (eqS .eql t x y (.pointer none) (.pointer none)) (.bool true) True := ⟨fun _ => pu_eql_np⟩
instance {t : TypeId} [IsPtr P t] {a : Addr} {x y : Operand} : PuC P (eqS .eql t x y (.pointer (some a)) (.pointer none)) (.bool false) True := ⟨fun _ => pu_eql_pp⟩
instance {t : TypeId} [IsPtr P t] {x y : Operand} : PuC P (eqS .neq t x y (.pointer none) (.pointer none)) (.bool false) True := ⟨fun _ => pu_neq_np⟩
instance {t : TypeId} [IsPtr P t] {a : Addr} {x y : Operand} : PuC P (eqS .neq t x y (.pointer (some a)) (.pointer none)) (.bool true) True := ⟨fun _ => pu_neq_pp⟩
instance {t : TypeId} {a b : List UInt8} : PuC P (binOp .add t (str a) (str b)) (str (a ++ b)) (a.length + b.length ≤ 9223372036854775807) := ⟨pu_adds⟩
instance {b : Bool} : PuC P (Op.unary .not (.bool b)) (.bool (!b)) True := ⟨fun _ => pu_not⟩
instance {n : Int} : PuC P (Op.unary .neg (.int .i64 n)) (.int .i64 (-n)) (-9223372036854775808 ≤ -n ∧ -n ≤ 9223372036854775807) := ⟨pu_neg⟩
instance {x y : Value} : PuC P (do pure (if ← asBool (.bool true) then x else y)) x True := ⟨fun _ => pu_pickt⟩
instance {x y : Value} : PuC P (do pure (if ← asBool (.bool false) then x else y)) y True := ⟨fun _ => pu_pickf⟩
instance (priority := 500) {b : Bool} {x y : Value} : PuC P (do pure (if ← asBool (.bool b) then x else y)) (if b then x else y) True := ⟨fun _ => pu_pick⟩
instance {fn : Fn} {x y : Array Value} : PuC P (Instr.makeFunc fn x y) (.func fn x y) True := ⟨fun _ => pu_fn⟩
instance {ts : Array TypeId} {t : TypeId} {k k' : IntKind} {x y : Int} : PuC P (Builtin.max_ ts t #[.int k x, .int k' y]) (.int k (max x y)) True := ⟨fun _ => pu_max⟩
instance {ts : Array TypeId} {t : TypeId} {k k' : IntKind} {x y : Int} : PuC P (Builtin.min_ ts t #[.int k x, .int k' y]) (.int k (min x y)) True := ⟨fun _ => pu_min⟩
instance {t : TypeId} {x y : UInt32} : PuC P (binOp .add t (w32 x) (w32 y)) (w32 (x + y)) True := ⟨fun _ => pu_w32add⟩
instance {t : TypeId} {x y : UInt32} : PuC P (binOp .and t (w32 x) (w32 y)) (w32 (x &&& y)) True := ⟨fun _ => pu_w32and⟩
instance {t : TypeId} {x y : UInt32} : PuC P (binOp .or t (w32 x) (w32 y)) (w32 (x ||| y)) True := ⟨fun _ => pu_w32or⟩
instance {t : TypeId} {x y : UInt32} : PuC P (binOp .xor t (w32 x) (w32 y)) (w32 (x ^^^ y)) True := ⟨fun _ => pu_w32xor⟩
instance {x : UInt32} : PuC P (Op.unary .xor (w32 x)) (w32 (not32 x)) True := ⟨fun _ => pu_w32not⟩
instance {t : TypeId} {x : UInt32} {k : IntKind} {s : Int} : PuC P (binOp .shr t (w32 x) (.int k s)) (w32 (shr32 x s.toNat)) (0 ≤ s ∧ s ≤ 32) := ⟨fun h => pu_w32shr h.1 h.2⟩
instance {t : TypeId} {x : UInt32} {k : IntKind} {s : Int} : PuC P (binOp .shl t (w32 x) (.int k s)) (w32 (shl32 x s.toNat)) (0 ≤ s ∧ s ≤ 32) := ⟨fun h => pu_w32shl h.1 h.2⟩
instance {s d : TypeId} [IsInt P s .u8] [IsInt P d .u32] {b : UInt8} : PuC P (convert s d (by_ b)) (w32 (UInt32.ofNat b.toNat)) True := ⟨fun _ => pu_832⟩
instance {s d : TypeId} [IsInt P s .u32] [IsInt P d .u8] {x : UInt32} : PuC P (convert s d (w32 x)) (by_ (UInt8.ofNat x.toNat)) True := ⟨fun _ => pu_328⟩
instance (priority := 400) {s d : TypeId} {ks kd k : IntKind} [hs : IsInt P s ks] [hd : IsInt P d kd] {n : Int} : PuC P (convert s d (.int k n)) (.int kd (kd.wrap n)) True := ⟨fun _ => pu_conv⟩
instance {t len e n : Nat} [h : ArT P t len e n] {a : Addr} : PuC P (Instr.sliceAt t (.pointer (some a)) none none none) (.slice (some a) len len) True := ⟨fun _ => pu_slA⟩
instance {t len e g : Nat} [h : ArT P t len e 1] {i : Int} : PuC P (Instr.indexAt t (.pointer (some ⟨g, 0, none⟩)) (.int .i64 i)) (.pointer (some ⟨g, i.toNat, none⟩)) (0 ≤ i ∧ i < len) := ⟨fun h => pu_idxA1 h.1 h.2⟩
instance (priority := 500) {t len e n g o : Nat} [h : ArT P t len e n] {i : Int} : PuC P (Instr.indexAt t (.pointer (some ⟨g, o, none⟩)) (.int .i64 i)) (.pointer (some ⟨g, o + i.toNat * n, none⟩)) (0 ≤ i ∧ i < len) := ⟨fun h => pu_idxA h.1 h.2⟩
instance {t : TypeId} [h : IsStr P t] {l : List UInt8} {a : Int} : PuC P (Instr.sliceAt t (str l) (some (.int .i64 a)) none none) (str (l.drop a.toNat)) (0 ≤ a ∧ a ≤ l.length) := ⟨fun h => pu_sls_l h.1 h.2⟩
instance {t : TypeId} [h : IsStr P t] {l : List UInt8} {b : Int} : PuC P (Instr.sliceAt t (str l) none (some (.int .i64 b)) none) (str (l.take b.toNat)) (0 ≤ b ∧ b ≤ l.length) := ⟨fun h => pu_sls_h h.1 h.2⟩
instance {t : TypeId} [h : IsStr P t] {l : List UInt8} {a b : Int} : PuC P (Instr.sliceAt t (str l) (some (.int .i64 a)) (some (.int .i64 b)) none) (str ((l.drop a.toNat).take (b.toNat - a.toNat))) (0 ≤ a ∧ a ≤ b ∧ b ≤ l.length) := ⟨fun h => pu_sls_lh h.1 h.2.1 h.2.2⟩
instance {a : Value} : PuC P (Instr.extract (.tuple #[a]) 0) a True := ⟨fun _ => pu_ext rfl⟩
instance {a b : Value} : PuC P (Instr.extract (.tuple #[a, b]) 0) a True := ⟨fun _ => pu_ext rfl⟩
instance {a b : Value} : PuC P (Instr.extract (.tuple #[a, b]) 1) b True := ⟨fun _ => pu_ext rfl⟩
instance {a b c : Value} : PuC P (Instr.extract (.tuple #[a, b, c]) 0) a True := ⟨fun _ => pu_ext rfl⟩
instance {a b c : Value} : PuC P (Instr.extract (.tuple #[a, b, c]) 1) b True := ⟨fun _ => pu_ext rfl⟩
instance {a b c : Value} : PuC P (Instr.extract (.tuple #[a, b, c]) 2) c True := ⟨fun _ => pu_ext rfl⟩
end
end Go.Sh
