/-
  '==' on arrays of bytes, on structs, on slices and nil.
-/
import Derived.Test.YtkdghnbogkbedaaGreatDoorSeal2
import Derived.Stop.BytesEq
import Derived.Laws.Cover3
namespace Go.Sh
open Go Go.RowKit

/-- '==' at a type, to a depth that is enough. -/
def EqR (P : Program) (t : TypeId) (x y : Value) (b : Bool) : Prop := ∀ d w, (Op.equalIn (d + 10) t x y).run P w = .ok b w

class StT (P : Program) (t : TypeId) (l : outParam (List (Nat × Nat))) : Prop where
  und : P.underlying t = some (.struct (P.fieldsOf t))
  stood : P.stoodInHeld t = false
  names : (P.fieldsOf t).toList.all (fun f => f.name != "_") = true
  is : (P.fieldsOf t).toList.map (fun f => (f.type, f.offset)) = l
  guard : P.eqGuardType P.depth t = false

section
variable {P : Program}

theorem part_one {t : TypeId} [h : One P t] {l : List Value} {o : Nat} {v : Value} (hv : l[o]? = some v) (w : World) : (part t l.toArray o).run P w = .ok v w := by
  simp [part, h.agg, hv]
theorem part_many {t n : TypeId} [h : Many P t n] {l : List Value} {o : Nat} {vs : List Value} (hv : (l.drop o).take n = vs) (w : World) : (part t l.toArray o).run P w = .ok (ag vs) w := by
  subst hv
  simp [part, h.agg, h.size, ag]

def FEq (P : Program) (d : Nat) (xs ys : List Value) : List (Nat × Nat) → Bool → Prop
  | [], b => b = true
  | (t, o) :: l, b => ∃ u v r b', (∀ w, (part t xs.toArray o).run P w = .ok u w) ∧ (∀ w, (part t ys.toArray o).run P w = .ok v w) ∧ (∀ w, (Op.equalIn d t u v).run P w = .ok r w) ∧ FEq P d xs ys l b' ∧ b = (r && b')

theorem run_eqFields {d : Nat} {xs ys : List Value} : ∀ (fs : List Field) (b : Bool), fs.all (fun f => f.name != "_") = true → FEq P d xs ys (fs.map fun f => (f.type, f.offset)) b → ∀ w, (Op.eqFields d xs.toArray ys.toArray fs).run P w = .ok b w
  | [], b, _, h, w => by
    have : b = true := h
    subst this
    simp [Op.eqFields]
  | f :: fs, b, hn, h, w => by
    simp only [List.all_cons, Bool.and_eq_true] at hn
    obtain ⟨u, v, r, b', h1, h2, h3, h4, rfl⟩ := h
    have ih := run_eqFields fs b' hn.2 h4 w
    have hne : f.name ≠ "_" := by simpa using hn.1
    simp only [Op.eqFields, if_pos hne, Sem.run_bind, h1, h2, h3, Result.andThen_ok]
    cases r
    · simp
    · simpa using ih

theorem eqr_struct {t : TypeId} {l : List (Nat × Nat)} [h : StT P t l] {xs ys : List Value} {b : Bool} {d : Nat} (hf : FEq P d xs ys l b) (w : World) : (Op.equalIn (d + 1) t (ag xs) (ag ys)).run P w = .ok b w := by
  unfold ag
  rw [run_equalIn_struct w d t _ _ h.und h.stood]
  refine run_eqFields _ b h.names ?_ w
  rw [h.is]; exact hf

theorem eqr_int {t : TypeId} {k : IntKind} [h : IsInt P t k] {a b : Int} {k' : IntKind} (d : Nat) (w : World) : (Op.equalIn (d + 1) t (.int k' a) (.int k' b)).run P w = .ok (decide (a = b)) w := by
  rw [run_equalIn_int w d t k' k a b h.und, beq_dec]
theorem eqr_str {t : TypeId} [h : IsStr P t] {a b : List UInt8} (d : Nat) (w : World) : (Op.equalIn (d + 1) t (str a) (str b)).run P w = .ok (decide (a = b)) w := by
  unfold str
  rw [run_equalIn_string w d t _ _ h.und, toList_str, toList_str, beq_dec]
theorem eqr_sum {t e : TypeId} [h : ArT P t 32 e 1] [he : IsInt P e .u8] {a b : Sum} (d : Nat) (w : World) : (Op.equalIn (d + 2) t (ag a.cells) (ag b.cells)).run P w = .ok (decide (a = b)) w := by
  have := run_equalIn_bytes (P := P) w d t e 32 h.und he.und h.size a.l b.l a.h b.h
  have hc : ∀ s : Sum, s.cells = s.l.map Extern.Stop.cell := fun s => rfl
  unfold ag
  rw [hc a, hc b, this, beq_dec]
  congr 1
  simp only [decide_eq_decide]
  exact ⟨fun h => Sum.ext h, fun h => by rw [h]⟩

theorem eqS_agg {t : TypeId} {xs ys : List Value} {x y : Operand} {r : Bool} (hg : P.eqGuardType P.depth t = false) (h : ∀ w, (Op.equalIn (9997 + 3) t (ag xs) (ag ys)).run P w = .ok r w) : Pu P (eqS .eql t x y (ag xs) (ag ys)) (.bool r) := fun w => by
  unfold eqS
  rw [Sem.run_bind, show (eqGuard .eql t x y (ag xs) (ag ys)).run P w = .ok () w from run_eqGuard_agg w _ t x y _ _ hg, Result.andThen_ok]
  unfold ag at *
  rw [run_eql_struct, h w]
  rfl
theorem neS_agg {t : TypeId} {xs ys : List Value} {x y : Operand} {r : Bool} (hg : P.eqGuardType P.depth t = false) (h : ∀ w, (Op.equalIn (9997 + 3) t (ag xs) (ag ys)).run P w = .ok r w) : Pu P (eqS .neq t x y (ag xs) (ag ys)) (.bool (!r)) := fun w => by
  unfold eqS
  rw [Sem.run_bind, show (eqGuard .neq t x y (ag xs) (ag ys)).run P w = .ok () w from run_eqGuard_agg w _ t x y _ _ hg, Result.andThen_ok]
  unfold ag at *
  rw [run_neq_struct, h w]
  rfl

class NoG (P : Program) (t : TypeId) : Prop where
  is : P.eqGuardType P.depth t = false

theorem pu_eqlsum {t e : TypeId} [h : ArT P t 32 e 1] [he : IsInt P e .u8] [hg : NoG P t] {a b : Sum} {x y : Operand} : Pu P (eqS .eql t x y (ag a.cells) (ag b.cells)) (.bool (decide (a = b))) := eqS_agg hg.is fun w => eqr_sum 9998 w
theorem pu_neqsum {t e : TypeId} [h : ArT P t 32 e 1] [he : IsInt P e .u8] [hg : NoG P t] {a b : Sum} {x y : Operand} : Pu P (eqS .neq t x y (ag a.cells) (ag b.cells)) (.bool (!decide (a = b))) := neS_agg hg.is fun w => eqr_sum 9998 w
instance {t e : TypeId} [h : ArT P t 32 e 1] [he : IsInt P e .u8] [hg : NoG P t] {a b : Sum} {x y : Operand} : PuC P (eqS .eql t x y (ag a.cells) (ag b.cells)) (.bool (decide (a = b))) True := ⟨fun _ => pu_eqlsum⟩
instance {t e : TypeId} [h : ArT P t 32 e 1] [he : IsInt P e .u8] [hg : NoG P t] {a b : Sum} {x y : Operand} : PuC P (eqS .eql t x y a.v b.v) (.bool (decide (a = b))) True := ⟨fun _ => pu_eqlsum⟩
instance {t e : TypeId} [h : ArT P t 32 e 1] [he : IsInt P e .u8] [hg : NoG P t] {a b : Sum} {x y : Operand} : PuC P (eqS .eql t x y a.v (ag b.cells)) (.bool (decide (a = b))) True := ⟨fun _ => pu_eqlsum⟩
instance {t e : TypeId} [h : ArT P t 32 e 1] [he : IsInt P e .u8] [hg : NoG P t] {a b : Sum} {x y : Operand} : PuC P (eqS .eql t x y (ag a.cells) b.v) (.bool (decide (a = b))) True := ⟨fun _ => pu_eqlsum⟩
instance {t e : TypeId} [h : ArT P t 32 e 1] [he : IsInt P e .u8] [hg : NoG P t] {a b : Sum} {x y : Operand} : PuC P (eqS .neq t x y (ag a.cells) (ag b.cells)) (.bool (!decide (a = b))) True := ⟨fun _ => pu_neqsum⟩
instance {t e : TypeId} [h : ArT P t 32 e 1] [he : IsInt P e .u8] [hg : NoG P t] {a b : Sum} {x y : Operand} : PuC P (eqS .neq t x y a.v b.v) (.bool (!decide (a = b))) True := ⟨fun _ => pu_neqsum⟩
instance {t e : TypeId} [h : ArT P t 32 e 1] [he : IsInt P e .u8] [hg : NoG P t] {a b : Sum} {x y : Operand} : PuC P (eqS .neq t x y a.v (ag b.cells)) (.bool (!decide (a = b))) True := ⟨fun _ => pu_neqsum⟩
instance {t e : TypeId} [h : ArT P t 32 e 1] [he : IsInt P e .u8] [hg : NoG P t] {a b : Sum} {x y : Operand} : PuC P (eqS .neq t x y (ag a.cells) b.v) (.bool (!decide (a = b))) True := ⟨fun _ => pu_neqsum⟩

theorem pu_eqlslice {t e n : TypeId} [h : SlT P t e n] {a : Option Addr} {l c : Nat} {x y : Operand} : Pu P (eqS .eql t x y (.slice a l c) (.slice none 0 0)) (.bool a.isNone) := fun w => by
  simp only [eqS, eqGuard_at_slice]
  exact run_eql_by rfl fun d => run_equalIn_slice_nil w d t e a l c h.und
instance {t e n : TypeId} [h : SlT P t e n] {l c : Nat} {x y : Operand} : PuC P (eqS .eql t x y (.slice none l c) (.slice none 0 0)) (.bool true) True := ⟨fun _ => pu_eqlslice⟩
instance {t e n : TypeId} [h : SlT P t e n] {a : Addr} {l c : Nat} {x y : Operand} : PuC P (eqS .eql t x y (.slice (some a) l c) (.slice none 0 0)) (.bool false) True := ⟨fun _ => pu_eqlslice⟩
end
end Go.Sh
namespace Go.Proofs.YtkdghnbogkbedaaGreatDoor
open Go Go.Sh Go.RowKit
set_option maxRecDepth 100000
set_option maxHeartbeats 1000000
set_option linter.unusedSimpArgs false
set_option linter.unusedVariables false

instance : NoG Tryz.prog 29 := ⟨by kernel_rfl⟩
instance : StT Tryz.prog 48 [(3, 0), (29, 1), (3, 33), (29, 34)] := ⟨by kernel_rfl, by kernel_rfl, by kernel_rfl, by kernel_rfl, by kernel_rfl⟩
instance : StT Tryz.prog 31 [(3, 0), (3, 1), (29, 2)] := ⟨by kernel_rfl, by kernel_rfl, by kernel_rfl, by kernel_rfl, by kernel_rfl⟩
instance : StT Tryz.prog 79 [(3, 0), (3, 1), (3, 2), (9, 3)] := ⟨by kernel_rfl, by kernel_rfl, by kernel_rfl, by kernel_rfl, by kernel_rfl⟩
instance : StT Tryz.prog 81 [(31, 0), (3, 34), (29, 35)] := ⟨by kernel_rfl, by kernel_rfl, by kernel_rfl, by kernel_rfl, by kernel_rfl⟩

theorem head_f0 (h : Head) : h.cells[0]? = some (.int .i64 h.size) := rfl
theorem head_f1 (h : Head) : (h.cells.drop 1).take 32 = h.root.cells := by
  show (h.root.cells ++ .int .i64 h.clock :: h.mac.cells).take 32 = _
  exact List.take_left' h.root.len
theorem head_f2 (h : Head) : h.cells[33]? = some (.int .i64 h.clock) := by
  have : h.cells[33]? = (h.root.cells ++ .int .i64 h.clock :: h.mac.cells)[32]? := rfl
  rw [this, List.getElem?_append_right (by rw [h.root.len]; exact Nat.le_refl _), h.root.len]
  rfl
theorem head_f3 (h : Head) : (h.cells.drop 34).take 32 = h.mac.cells := by
  have e : h.cells = (.int .i64 h.size :: (h.root.cells ++ [.int .i64 h.clock])) ++ h.mac.cells := by simp [Head.cells]
  have hl : (Value.int .i64 h.size :: (h.root.cells ++ [Value.int .i64 h.clock])).length = 34 := by simp
  rw [e, List.drop_left' hl, List.take_of_length_le (by rw [h.mac.len]; exact Nat.le_refl _)]

theorem eq_head (a b : Head) (w : World) : (Op.equalIn (9997 + 3) 48 (ag a.cells) (ag b.cells)).run Tryz.prog w = .ok (decide (a = b)) w := by
  refine eqr_struct (d := 9999) ?_ w
  refine ⟨_, _, _, _, part_one (head_f0 a), part_one (head_f0 b), eqr_int 9998, ⟨_, _, _, _, part_many (head_f1 a), part_many (head_f1 b), eqr_sum 9997, ⟨_, _, _, _, part_one (head_f2 a), part_one (head_f2 b), eqr_int 9998,
    ⟨_, _, _, _, part_many (head_f3 a), part_many (head_f3 b), eqr_sum 9997, rfl, rfl⟩, rfl⟩, rfl⟩, ?_⟩
  cases a; cases b
  simp [Bool.decide_and, decide_eq_true_eq]
theorem pu_eqhead {a b : Head} {x y : Operand} : Pu Tryz.prog (eqS .eql 48 x y (ag a.cells) (ag b.cells)) (.bool (decide (a = b))) := eqS_agg (StT.guard (P := Tryz.prog) (t := 48)) fun w => eq_head a b w
end Go.Proofs.YtkdghnbogkbedaaGreatDoor
