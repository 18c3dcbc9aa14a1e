/-
  ImageGoes: for every two lists of files, files that are changed by what Diff tells come from the ones to the others: the law answers true and its arguments read as they did. Conditions: the package-level tables hold what the program's text lays. (Part 2 of 8.)
-/
import Derived.Laws.Cover1
import Derived.Test.YtkdghnbogkbedaaGreatDoorProg
import Derived.Shelf.Strings.Builder1
import Derived.Shelf.Strings.Builder2
import Derived.Shelf.Strings.OnBuilder
import Derived.Shelf.Small.Bits
import Derived.Shelf.Small.Strs
import Derived.Shelf.Small.Wraps
import Derived.Shelf.Strings.BuilderF
import Derived.Shelf.Strings.BuilderK
import Derived.Shelf.Strings.Builder2Cap
import Derived.Shelf.Strconv.Itoa0
import Derived.Shelf.Strconv.Itoa1
import Derived.Shelf.LaysM
import Derived.Shelf.Strconv.Itoa2
import Derived.Shelf.Strconv.Itoa3
import Derived.Shelf.Strings.Prefix
import Derived.Shelf.Bits.Mul64
import Derived.Shelf.Strings.Repeat
import Derived.Shelf.Strings.BuilderCap
import Derived.Test.YtkdghnbogkbedaaGreatDoorPG0
set_option linter.unusedSimpArgs false
set_option linter.unusedVariables false

namespace Go.Sh
open Go Go.RowKit
set_option linter.unusedVariables false
set_option linter.unusedSimpArgs false

/-- A value's cells. -/
class Cel (v : Value) (cs : outParam (List Value)) : Prop where
  is : v.cells = cs.toArray
instance {k : IntKind} {n : Int} : Cel (.int k n) [.int k n] := ⟨rfl⟩
instance {b : Bool} : Cel (.bool b) [.bool b] := ⟨rfl⟩
instance {l : List UInt8} : Cel (str l) [str l] := ⟨rfl⟩
instance {a : Option Addr} : Cel (.pointer a) [.pointer a] := ⟨rfl⟩
instance {a : Option Addr} {l c : Nat} : Cel (.slice a l c) [.slice a l c] := ⟨rfl⟩
instance {f : Fn} {x y : Array Value} : Cel (.func f x y) [.func f x y] := ⟨rfl⟩
instance {x : UInt32} : Cel (w32 x) [w32 x] := ⟨rfl⟩
instance {x : UInt8} : Cel (by_ x) [by_ x] := ⟨rfl⟩
instance {cs : List Value} : Cel (ag cs) cs := ⟨rfl⟩
instance {s : Sum} : Cel s.v s.cells := ⟨rfl⟩
instance {s : Record} : Cel s.v s.cells := ⟨rfl⟩
instance {s : Freeze} : Cel s.v s.cells := ⟨rfl⟩
instance {s : Head} : Cel s.v s.cells := ⟨rfl⟩
instance {s : Stone} : Cel s.v s.cells := ⟨rfl⟩
instance {s : Ask} : Cel s.v s.cells := ⟨rfl⟩
instance {s : File} : Cel s.v s.cells := ⟨rfl⟩
instance {s : FileOp} : Cel s.v s.cells := ⟨rfl⟩

class OnesC (cs : List Value) : Prop where
  is : Ones cs
instance : OnesC [] := ⟨.nil⟩
instance {v : Value} {l : List Value} [h : One1 v] [h' : OnesC l] : OnesC (v :: l) := ⟨.cons h.is h'.is⟩
instance {l m : List Value} [h : OnesC l] [h' : OnesC m] : OnesC (l ++ m) := ⟨.append h.is h'.is⟩
instance {s : Sum} : OnesC s.cells := ⟨s.ones⟩
instance {s : Record} : OnesC s.cells := ⟨s.ones⟩
instance {s : Freeze} : OnesC s.cells := ⟨s.ones⟩
instance {s : Head} : OnesC s.cells := ⟨s.ones⟩
instance {s : Stone} : OnesC s.cells := ⟨s.ones⟩
instance {s : Ask} : OnesC s.cells := ⟨s.ones⟩
instance {s : File} : OnesC s.cells := ⟨s.ones⟩
instance {s : FileOp} : OnesC s.cells := ⟨s.ones⟩
instance {f : Fn} {x y : Array Value} : One1 (.func f x y) := ⟨rfl⟩
instance {x : UInt32} : One1 (w32 x) := ⟨rfl⟩
instance {x : UInt8} : One1 (by_ x) := ⟨rfl⟩
instance : LenC [] 0 := ⟨rfl⟩
instance {v : Value} {l : List Value} {n : Nat} [h : LenC l n] : LenC (v :: l) (n + 1) := ⟨by simp [h.is]⟩
instance {s : Sum} : LenC s.cells 32 := ⟨s.len⟩
instance {s : Record} : LenC s.cells 4 := ⟨s.len⟩
instance {s : Freeze} : LenC s.cells 34 := ⟨s.len⟩
instance {s : Head} : LenC s.cells 66 := ⟨s.len⟩
instance {s : Stone} : LenC s.cells 67 := ⟨s.len⟩
instance {s : Ask} : LenC s.cells 5 := ⟨rfl⟩
instance {s : File} : LenC s.cells 2 := ⟨rfl⟩
instance {s : FileOp} : LenC s.cells 4 := ⟨rfl⟩
instance {s : CiteV} : LenC s.cells 103 := ⟨s.len⟩
instance {s : ToldV} : LenC s.cells 244 := ⟨s.len⟩

/-! ### Parts of data -/

section
variable {cs l m : List Value} {o k n : Nat} {v : Value}
theorem getC_append (hl : l.length = n) (h : m[k]? = some v) : (l ++ m)[n + k]? = some v := by
  rw [List.getElem?_append_right (by omega), hl, Nat.add_sub_cancel_left]; exact h
theorem prt_append (hl : l.length = n) {vs : List Value} {j : Nat} (h : (m.drop k).take j = vs) : ((l ++ m).drop (n + k)).take j = vs := by
  rw [← hl, List.drop_length_add_append]; exact h
theorem prt_left (hl : l.length = n) : ((l ++ m).drop 0).take n = l := by rw [List.drop_zero]; exact List.take_left' hl
end
instance {a : Value} {l vs : List Value} {k n : Nat} [h : Prt l k n vs] : Prt (a :: l) (k + 1) n vs := ⟨by rw [List.drop_succ_cons]; exact h.is, h.len⟩
instance {l m : List Value} {n n' : Nat} [h : LenC l n] [h' : LenC m n'] : LenC (l ++ m) (n + n') := ⟨by rw [List.length_append, h.is, h'.is]⟩
instance {f : Freeze} : GetC f.cells 0 (.int .i64 f.window) := ⟨rfl⟩
instance {f : Freeze} : GetC f.cells 1 (.int .i64 f.count) := ⟨rfl⟩
instance {f : Freeze} : Prt f.cells 2 32 f.root.cells := ⟨List.take_of_length_le (by simp), f.root.len⟩
instance {r : Record} : GetC r.cells 0 (.int .i64 r.window) := ⟨rfl⟩
instance {r : Record} : GetC r.cells 1 (.int .i64 r.index) := ⟨rfl⟩
instance {r : Record} : GetC r.cells 2 (.int .i64 r.time) := ⟨rfl⟩
instance {r : Record} : GetC r.cells 3 (str r.payload) := ⟨rfl⟩
instance {r : Ask} : GetC r.cells 0 (.int .i64 r.op) := ⟨rfl⟩
instance {r : Ask} : GetC r.cells 1 (.int .i64 r.a) := ⟨rfl⟩
instance {r : Ask} : GetC r.cells 2 (.int .i64 r.b) := ⟨rfl⟩
instance {r : Ask} : GetC r.cells 3 (.int .i64 r.c) := ⟨rfl⟩
instance {r : Ask} : GetC r.cells 4 (str r.data) := ⟨rfl⟩
instance {r : File} : GetC r.cells 0 (str r.name) := ⟨rfl⟩
instance {r : File} : GetC r.cells 1 (str r.data) := ⟨rfl⟩
instance {r : FileOp} : GetC r.cells 0 (.int .i64 r.kind) := ⟨rfl⟩
instance {r : FileOp} : GetC r.cells 1 (str r.name) := ⟨rfl⟩
instance {r : FileOp} : GetC r.cells 2 (str r.data) := ⟨rfl⟩
instance {r : FileOp} : GetC r.cells 3 (.int .i64 r.n) := ⟨rfl⟩
instance {r : Head} : GetC r.cells 0 (.int .i64 r.size) := ⟨rfl⟩
instance {r : Head} : Prt r.cells 1 32 r.root.cells := ⟨prt_left r.root.len, r.root.len⟩
instance {r : Head} : GetC r.cells 33 (.int .i64 r.clock) := ⟨getC_append (l := r.root.cells) (k := 0) r.root.len rfl⟩
instance {r : Head} : Prt r.cells 34 32 r.mac.cells := ⟨prt_append (l := r.root.cells) (k := 1) (n := 32) r.root.len (List.take_of_length_le (by simp)), r.mac.len⟩
instance {r : Stone} : Prt r.cells 0 34 r.freeze.cells := ⟨prt_left r.freeze.len, r.freeze.len⟩
instance {r : Stone} : GetC r.cells 0 (.int .i64 r.freeze.window) := ⟨rfl⟩
instance {r : Stone} : GetC r.cells 1 (.int .i64 r.freeze.count) := ⟨rfl⟩
instance {r : Stone} : GetC r.cells 34 (.int .i64 r.at_) := ⟨getC_append (l := r.freeze.cells) (k := 0) r.freeze.len rfl⟩
instance {r : Stone} : Prt r.cells 35 32 r.mac.cells := ⟨prt_append (l := r.freeze.cells) (k := 1) (n := 34) r.freeze.len (List.take_of_length_le (by simp)), r.mac.len⟩

/-- The cells with a value laid in. -/
class SetV (cs : List Value) (o : Nat) (v : Value) (n : outParam Nat) (cs' : outParam (List Value)) : Prop where
  ex : ∃ vs : List Value, v.cells = vs.toArray ∧ vs.length = n ∧ o + n ≤ cs.length ∧ cs' = cs.take o ++ vs ++ cs.drop (o + n)
theorem set_split {cs : List Value} {o : Nat} {v : Value} (h : o < cs.length) : cs.set o v = cs.take o ++ [v] ++ cs.drop (o + 1) := by
  apply List.ext_getElem?
  intro i
  simp only [List.getElem?_set, List.append_assoc, List.getElem?_append, List.length_take, List.getElem?_take, List.length_singleton, List.getElem?_drop]
  have hm : min o cs.length = o := by omega
  rw [hm]
  rcases Nat.lt_trichotomy i o with h1 | h1 | h1
  · simp [h1, show ¬ o = i by omega]
  · subst h1; simp [h]
  · have e : i - o = (i - o - 1) + 1 := by omega
    simp [show ¬ o = i by omega, show ¬ i < o by omega]
    rw [e]; simp; congr 1; omega
instance {cs cs' : List Value} {o : Nat} {v : Value} [h1 : Cel v [v]] [h : SetC cs o v cs'] : SetV cs o v 1 cs' := ⟨[v], h1.is, rfl, h.lt, by rw [← h.is, set_split h.lt]⟩
theorem SetV.mk1 {cs cs' : List Value} {o n : Nat} {v : Value} (vs : List Value) (h1 : v.cells = vs.toArray) (h2 : vs.length = n) (h3 : o + n ≤ cs.length) (h4 : cs' = cs.take o ++ vs ++ cs.drop (o + n)) : SetV cs o v n cs' := ⟨vs, h1, h2, h3, h4⟩

/-- The parts of a built value, in turn: where each lies. -/
class SetsC (P : Program) (t : Nat) (zs : List Value) (parts : List (Nat × Value)) (offs : outParam (List (Nat × Nat × Nat))) (out : outParam (List Value)) : Prop where
  ex : ∀ pl : Nat → Option (Nat × Nat), offs.all (fun (i, o, n) => pl i == some (o, n)) = true → Instr.fill pl zs.toArray parts = some out.toArray
instance {P : Program} {t : Nat} {zs : List Value} : SetsC P t zs [] [] zs := ⟨fun _ _ => rfl⟩
instance {P : Program} {t i o n : Nat} {v : Value} {zs zs' out : List Value} {r : List (Nat × Value)} {offs : List (Nat × Nat × Nat)} [Fld P t i o] [hv : SetV zs o v n zs'] [hr : SetsC P t zs' r offs out] : SetsC P t zs ((i, v) :: r) ((i, o, n) :: offs) out := ⟨fun pl h => by
  simp only [List.all_cons, Bool.and_eq_true] at h
  obtain ⟨h1, h2⟩ := h
  obtain ⟨vs, h3, h4, h5, rfl⟩ := hv.ex
  have h1' : pl i = some (o, n) := by simpa using h1
  have hput := put_cells o vs 0 zs.toArray (by simp; omega)
  simp only [Instr.fill, h1', h3, List.size_toArray, h4]
  rw [if_neg (by simp; omega), ← Array.foldl_toList, Array.toList_zipIdx, List.toList_toArray, hput]
  simp only [Nat.add_zero, h4, List.toList_toArray]
  exact hr.ex pl h2⟩

/-- A slice, whatever it is. -/
class IsSl (v : Value) : Prop where
  ex : ∃ a l c, v = .slice a l c
instance {v : Value} [h : IsSl v] : One1 v := ⟨by obtain ⟨a, l, c, rfl⟩ := h.ex; rfl⟩
instance {v : Value} [h : IsSl v] : Cel v [v] := ⟨by obtain ⟨a, l, c, rfl⟩ := h.ex; rfl⟩
instance {a : Option Addr} {l c : Nat} : IsSl (.slice a l c) := ⟨⟨a, l, c, rfl⟩⟩
theorem Rd.isSl {w : World} {e sz n : Nat} {v : Value} {xs : List Value} (h : Rd w e sz v n xs) : IsSl v := by
  obtain ⟨A, c, rfl, _⟩ := h.form
  exact ⟨⟨A, n, c, rfl⟩⟩

/-! ## Operations that leave the world alone -/

class SvC (P : Program) (F : List Fact) (s : Sem Value) (v : outParam Value) (side : outParam Prop) : Prop where
  is : side → ∀ w, Hold F w → s.run P w = .ok v w

section
variable {P : Program} {w0 w : World} {A F K : List Fact} {α : Type}

theorem sv {s : Sem Value} {v : Value} {side : Prop} {k : Value → World → Prop} (m : St w0 A w F) [h : SvC P F s v side] (hk : k v w)
    (hs : side := by first | exact True.intro | exact rfl | omega | (simp only [List.length_append, List.length_cons, List.length_nil, List.length_replicate, List.length_map]; omega)) : SV P s w k := ⟨v, w, h.is hs w m.mem.is, hk⟩
theorem hv {s : Sem Value} {v : Value} {side : Prop} {k : Value → Prop} [h : SvC P K s v side] (hk : k v)
    (hs : side := by first | exact True.intro | exact rfl | omega | (simp only [List.length_append, List.length_cons, List.length_nil, List.length_replicate, List.length_map]; omega)) : HV P (Hold K) s k := ⟨v, fun w hw => h.is hs w hw, hk⟩

instance (priority := 1500) {s : Sem Value} {v : Value} {side : Prop} [h : PuC P s v side] : SvC P F s v side := ⟨fun hs w _ => h.is hs w⟩
instance {g t ty o : Nat} {cs : List Value} {v : Value} [hb : HasR F g t cs] [hg : GetC cs o v] [One P ty] : SvC P F (Instr.loadAt ty (.pointer (some ⟨g, o, none⟩))) v True :=
  ⟨fun _ w h => run_load1 ((Blk.cell (hb.is w h) o).trans hg.is)⟩
instance {g t ty o n : Nat} {cs vs : List Value} [hb : HasR F g t cs] [hm : Many P ty n] [hg : Prt cs o n vs] : SvC P F (Instr.loadAt ty (.pointer (some ⟨g, o, none⟩))) (ag vs) True :=
  ⟨fun _ w h => run_loadN hg.len (Blk.cells (hb.is w h) hg.is)⟩
instance {t ty e n : Nat} {E : Elt α} {v : Value} {l : List α} [hs : HasS F v E l] [hT : SlT P t e n] : SvC P F (Builtin.len_ #[t] ty #[v]) (.int .i64 l.length) True :=
  ⟨fun _ w h => by obtain ⟨_, hr⟩ := hs.rd w h; obtain ⟨A, c, rfl, _⟩ := hr.form; exact pu_len w⟩

instance {t : Nat} {pl : Nat → Option (Nat × Nat)} {zs out : List Value} {parts : List (Nat × Value)} {offs : List (Nat × Nat × Nat)} [hb : Bld P t pl zs] [hs : SetsC P t zs parts offs out] :
    SvC P F (Instr.build t parts.toArray) (ag out) (offs.all (fun (i, o, n) => pl i == some (o, n)) = true) := ⟨fun h w _ => run_build w t parts.toArray _ (by rw [hb.is]; exact hs.ex pl h)⟩

/-- In each world in which F holds, a pointer to these cells. -/
def Pd (F : List Fact) (p : Value) (cs : List Value) : Prop := ∀ w, Hold F w → Pt w p cs

class HasP (F : List Fact) (p : Value) (cs : outParam (List Value)) : Prop where
  is : Pd F p cs
instance {ty : Nat} {p v : Value} {cs : List Value} [hp : HasP F p cs] [hg : GetC cs 0 v] [One P ty] : SvC P F (Instr.loadAt ty p) v True := ⟨fun _ w h => by
  obtain ⟨a, rfl, hx⟩ := hp.is w h
  exact run_load1 (by have := hx 0 v hg.is; rwa [Addr.add_zero'] at this)⟩
instance {ty n : Nat} {p : Value} {cs vs : List Value} [hp : HasP F p cs] [hm : Many P ty n] [hg : Prt cs 0 n vs] : SvC P F (Instr.loadAt ty p) (ag vs) True := ⟨fun _ w h => by
  obtain ⟨a, rfl, hx⟩ := hp.is w h
  refine run_loadN hg.len fun j u hj => hx j u ?_
  have := hg.is
  rw [List.drop_zero] at this
  rw [← this, List.getElem?_take] at hj
  split at hj
  · exact hj
  · cases hj⟩
instance (priority := 1100) {F : List Fact} {p : Value} {cs : List Value} : HasP (pt p cs :: F) p cs := ⟨fun _ h => h.head⟩
instance (priority := 900) {F : List Fact} {p : Value} {cs : List Value} {f : Fact} [h : HasP F p cs] : HasP (f :: F) p cs := ⟨fun w hw => h.is w hw.tail⟩
instance {cs : List Value} {o : Nat} {v : Value} [h : GetC cs o v] : GetC (List.drop o cs) 0 v := ⟨by rw [List.getElem?_drop]; exact h.is⟩
instance {cs vs : List Value} {o n : Nat} [h : Prt cs o n vs] : Prt (List.drop o cs) 0 n vs := ⟨by rw [List.drop_zero]; exact h.is, h.len⟩

theorem Pt.fldS {P : Program} {s i off : Nat} [h : Fld P s i off] {w : World} {p : Value} {cs : List Value} (hp : Pt w p cs) : ∃ p', Pu P (Instr.fieldAt s p i) p' ∧ Pt w p' (cs.drop off) ∧ pBlk p' = pBlk p := by
  obtain ⟨a, rfl, hp⟩ := hp
  have hadd : ∀ m n, (a.add m).add n = a.add (m + n) := fun m n => by
    unfold Addr.add
    by_cases hm : m = 0
    · subst hm; simp
    · by_cases hn : n = 0
      · subst hn; simp [hm]
      · simp [hm, hn, Nat.add_assoc]
  have hbl : (a.add off).block = a.block := by unfold Addr.add; split <;> rfl
  refine ⟨_, fun w => h.run a w, ⟨a.add off, rfl, fun j u hj => ?_⟩, by simp [pBlk, hbl]⟩
  rw [hadd]
  rw [List.getElem?_drop] at hj
  exact hp _ u hj

/-- p points o cells into the row that v begins. -/
class PtrOf (v : outParam Value) (p : Value) (o : outParam Nat) : Prop where
  is : ∀ g n c, v = .slice (some ⟨g, 0, none⟩) n c → p = .pointer (some ⟨g, o, none⟩)

/-- A field's address. -/
theorem svF {s i off : Nat} {p : Value} {cs : List Value} {k : Value → World → Prop} (m : St w0 A w F) [hf : Fld P s i off] [hp : HasP F p cs] (hk : ∀ p', HasP F p' (cs.drop off) → (∀ v o, PtrOf v p o → PtrOf v p' (o + off)) → k p' w) : SV P (Instr.fieldAt s p i) w k := by
  obtain ⟨p', h1, _, _⟩ := (hp.is w m.mem.is).fldS (P := P) (s := s) (i := i)
  refine ⟨p', w, h1 w, hk p' ⟨fun w' hw' => ?_⟩ fun v o hv => ⟨fun g n c e => ?_⟩⟩
  · obtain ⟨p'', h2, h3, _⟩ := (hp.is w' hw').fldS (P := P) (s := s) (i := i)
    have := (h1 w).symm.trans (h2 w)
    injection this with this
    subst this
    exact h3
  · have hpe := hv.is g n c e
    subst hpe
    have := (h1 w).symm.trans (pu_fld (P := P) (s := s) (i := i) w)
    injection this with this
theorem hvF {s i off : Nat} {p : Value} {cs : List Value} {k : Value → Prop} (m : St w0 A w F) [hK : SubF K F] [hf : Fld P s i off] [hp : HasP K p cs] (hk : ∀ p', HasP K p' (cs.drop off) → (∀ v o, PtrOf v p o → PtrOf v p' (o + off)) → k p') : HV P (Hold K) (Instr.fieldAt s p i) k := by
  have hw : Hold K w := fun f hf => m.mem.is f (hK.sub f hf)
  obtain ⟨p', h1, _, _⟩ := (hp.is w hw).fldS (P := P) (s := s) (i := i)
  refine ⟨p', fun w _ => h1 w, hk p' ⟨fun w' hw' => ?_⟩ fun v o hv => ⟨fun g n c e => ?_⟩⟩
  · obtain ⟨p'', h2, h3, _⟩ := (hp.is w' hw').fldS (P := P) (s := s) (i := i)
    have := (h1 w).symm.trans (h2 w)
    injection this with this
    subst this
    exact h3
  · have hpe := hv.is g n c e
    subst hpe
    have := (h1 w).symm.trans (pu_fld (P := P) (s := s) (i := i) w)
    injection this with this

/-- xs[i]: its address. -/
theorem ix_run {E : Elt α} {v : Value} {l : List α} {t e n : Nat} (hT : SlT P t e n) (hn : n = E.sz) (hs : HasS F v E l) {w : World} (hw : Hold F w) {i : Int} (h0 : 0 ≤ i) (hi : i.toNat < l.length) :
    ∃ p, Pu P (Instr.indexAt t v (.int .i64 i)) p ∧ HasP F p (E.c l[i.toNat]) ∧ PtrOf v p (i.toNat * E.sz) := by
  have key : ∀ w', Hold F w' → ∃ b o c, v = .slice (some ⟨b, o, none⟩) l.length c ∧ Pt w' (.pointer (some ⟨b, o + i.toNat * E.sz, none⟩)) (E.c l[i.toNat]) := fun w' hw' => by
    obtain ⟨_, hr⟩ := hs.rd w' hw'
    obtain ⟨b, o, c, h1, h2⟩ := hr.pt hi
    rw [E.all_at hi] at h2
    exact ⟨b, o, c, h1, h2⟩
  obtain ⟨b, o, c, rfl, hp⟩ := key w hw
  refine ⟨.pointer (some ⟨b, o + i.toNat * E.sz, none⟩), fun w => ?_, ⟨fun w' hw' => ?_⟩, ⟨fun g n c e => ?_⟩⟩
  rotate_left 2
  · injection e with e _ _
    injection e with e
    injection e with e1 e2
    rw [e1, e2, Nat.zero_add]
  · have hi' : i < l.length := by omega
    subst hn
    simp only [Instr.indexAt, Sem.run_bind, asIntOf, Sem.run_pure, Result.andThen_ok, run_underlying hT.und]
    simp only [h0, hi', and_self, if_true, Sem.run_bind, hT.size, Result.andThen_ok, Sem.run_pure, Addr.add_lit]
  · obtain ⟨b', o', c', h1, h2⟩ := key w' hw'
    injection h1 with h1 _ _
    injection h1 with h1
    injection h1 with hb ho
    subst hb ho
    exact h2
/-- An element's cells. -/
class EC {α : Type} (E : Elt α) (x : α) (cs : outParam (List Value)) : Prop where
  is : E.c x = cs
theorem svI {E : Elt α} {v : Value} {l : List α} {t e n : Nat} {i : Int} {k : Value → World → Prop} {cs : List Value} (m : St w0 A w F) [hT : SlT P t e n] [hs : HasS F v E l] (h0 : 0 ≤ i) (hi : i.toNat < l.length) [hc : EC E l[i.toNat] cs]
    (hk : ∀ p, HasP F p cs → PtrOf v p (i.toNat * E.sz) → k p w) (hn : n = E.sz := by rfl) : SV P (Instr.indexAt t v (.int .i64 i)) w k := by
  obtain ⟨p, h1, h2, h3⟩ := ix_run (P := P) hT hn hs m.mem.is h0 hi
  rw [hc.is] at h2
  exact ⟨p, w, h1 w, hk p h2 h3⟩
theorem hvI {E : Elt α} {v : Value} {l : List α} {t e n : Nat} {i : Int} {k : Value → Prop} (m : St w0 A w F) [hK : SubF K F] [hT : SlT P t e n] {cs : List Value} [hs : HasS K v E l] (h0 : 0 ≤ i) (hi : i.toNat < l.length) [hc : EC E l[i.toNat] cs]
    (hk : ∀ p, HasP K p cs → PtrOf v p (i.toNat * E.sz) → k p) (hn : n = E.sz := by rfl) : HV P (Hold K) (Instr.indexAt t v (.int .i64 i)) k := by
  obtain ⟨p, h1, h2, h3⟩ := ix_run (P := P) hT hn hs (fun f hf => m.mem.is f (hK.sub f hf)) h0 hi
  rw [hc.is] at h2
  exact ⟨p, fun w _ => h1 w, hk p h2 h3⟩

/-! ## New blocks, stores -/

class SwC (P : Program) (s : Sem Value) (v : outParam (Nat → Value)) (f : outParam (Nat → Fact)) : Prop where
  is : ∀ {w0 w : World} {A F : List Fact} {k : Value → World → Prop}, St w0 A w F → (∀ g w', St w0 A w' (f g :: F) → k (v g) w') → SV P s w k

theorem sw {s : Sem Value} {v : Nat → Value} {f : Nat → Fact} {k : Value → World → Prop} (m : St w0 A w F) [h : SwC P s v f] (hk : ∀ g w', St w0 A w' (f g :: F) → k (v g) w') : SV P s w k := h.is m hk

theorem St.newBk (m : St w0 A w F) {w' : World} {g t : Nat} {cs : List Value} (hg : w.heap.size ≤ g) (hb : Blk w' g t cs) (h : Ch No w w') : St w0 A w' (bk g t cs :: F) :=
  m.new (f := bk g t cs) h hb (by simp [bk]) (fun b hb => by cases List.mem_singleton.1 hb; exact hg) (fun _ h => h.elim) (fun _ _ h => h)

instance {ty : Nat} {zs : List Value} [Zer P ty zs] : SwC P (Instr.alloc ty true (.tuple #[])) (fun g => .pointer (some ⟨g, 0, none⟩)) (fun g => bk g ty zs) :=
  ⟨fun m hk => SV_alloc fun g w' hg hb hc => hk g w' (m.newBk hg hb hc)⟩
instance {ty : Nat} {v : Value} {cs : List Value} [h : Cel v cs] : SwC P (Instr.box ty v) (fun g => .pointer (some ⟨g, 0, none⟩)) (fun g => bk g ty cs) :=
  ⟨fun m hk => SV_box h.is fun g w' hg hb hc => hk g w' (m.newBk hg hb hc)⟩

theorem bk_one {w w' : World} {g t : Nat} {cs cs' : List Value} (hb : Blk w' g t cs') (hc : Ch (· = g) w w') : St w [bk g t cs] w' [bk g t cs'] :=
  St.one (f := bk g t cs) (f' := bk g t cs') hb (hc.mono fun k _ hk => by subst hk; simp [bk]) (by simp [bk]) (fun b hb => .inl hb) (fun _ h => h.elim) (fun _ _ h => h)

theorem su {ty g t o : Nat} {v : Value} {cs cs' : List Value} {F' : List Fact} {k : World → Prop} (m : St w0 A w F) [hb : HasB F g t cs] [hs : SetC cs o v cs'] [h1 : One1 v] [One P ty] [hr : Rep F (bk g t cs) (bk g t cs') F']
    (hk : ∀ w', St w0 A w' F' → k w') : SU P (Instr.storeAt ty (.pointer (some ⟨g, o, none⟩)) v) w k :=
  SU_store (m.mem.is _ hb.mem) hs.lt h1.is fun w' hb' hc => hk w' (St.rep (h := hr) m (bk_one (cs := cs) (by rw [hs.is] at hb'; exact hb') hc))

/-- The cells with a part turned. -/
class SetP (cs : List Value) (o n : Nat) (vs : List Value) (cs' : outParam (List Value)) : Prop where
  is : cs.take o ++ vs ++ cs.drop (o + n) = cs'
  len : vs.length = n
  fit : o + n ≤ cs.length
  ones : Ones vs
instance {cs vs : List Value} {n : Nat} [h : LenC cs n] [h' : LenC vs n] [ho : OnesC vs] : SetP cs 0 n vs vs :=
  ⟨by simp [← h.is], h'.is, by rw [h.is]; omega, ho.is⟩
instance {a : Value} {l vs l' : List Value} {k n : Nat} [h : SetP l k n vs l'] : SetP (a :: l) (k + 1) n vs (a :: l') := ⟨by rw [← h.is, Nat.add_right_comm]; rfl, h.len, by have := h.fit; simp; omega, h.ones⟩
theorem suN {ty g t o n : Nat} {vs cs cs' : List Value} {F' : List Fact} {k : World → Prop} (m : St w0 A w F) [hb : HasB F g t cs] [Many P ty n] [hs : SetP cs o n vs cs'] [hr : Rep F (bk g t cs) (bk g t cs') F']
    (hk : ∀ w', St w0 A w' F' → k w') : SU P (Instr.storeAt ty (.pointer (some ⟨g, o, none⟩)) (ag vs)) w k :=
  SU_storeN (m.mem.is _ hb.mem) hs.len hs.fit hs.ones fun w' hb' hc => hk w' (St.rep (h := hr) m (bk_one (cs := cs) (by rw [hs.is] at hb'; exact hb') hc))

theorem crN {ty g t n : Nat} {cs vs : List Value} {k : Value → Prop} (m : St w0 A w F) [hb : HasR F g t cs] [Many P ty n] [hg : Prt cs 0 n vs] (hk : k (ag vs)) : CR P ty (.pointer (some ⟨g, 0, none⟩)) w k :=
  ⟨_, run_loadN (P := P) (ty := ty) (a := ⟨g, 0, none⟩) hg.len (Blk.cells (hb.is w m.mem.is) hg.is), hk⟩
theorem cr1 {ty g t : Nat} {cs : List Value} {v : Value} {k : Value → Prop} (m : St w0 A w F) [hb : HasR F g t cs] [One P ty] [hg : GetC cs 0 v] (hk : k v) : CR P ty (.pointer (some ⟨g, 0, none⟩)) w k :=
  ⟨_, run_load1 (P := P) (ty := ty) (a := ⟨g, 0, none⟩) ((Blk.cell (hb.is w m.mem.is) 0).trans hg.is), hk⟩

/-! ## Regions that draw their order -/

theorem St.isl (m : St w0 A w F) {E : Elt α} {v : Value} {l : List α} [h : HasS F v E l] : IsSl v := (h.rd w m.mem.is).elim fun _ h => h.isSl

def vlen : Value → Nat
  | .slice _ n _ => n
  | _ => 0
theorem St.vlen (m : St w0 A w F) {E : Elt α} (v : Value) {l : List α} [h : HasS F v E l] : Go.Sh.vlen v = l.length := by
  obtain ⟨_, hr⟩ := h.rd w m.mem.is
  obtain ⟨a, c, rfl, _⟩ := hr.form
  rfl
instance {t : TypeId} {a b : List UInt8} : PuC P (binOp .lss t (str a) (str b)) (.bool (Op.bytesLess a b)) True := ⟨fun _ w => by simp only [str, binOp_string_lss, binOp_string_gtr, binOp_string_leq, binOp_string_geq, toList_str]; rfl⟩
instance {t : TypeId} {a b : List UInt8} : PuC P (binOp .gtr t (str a) (str b)) (.bool (!(Op.bytesLess a b || a == b))) True := ⟨fun _ w => by simp only [str, binOp_string_lss, binOp_string_gtr, binOp_string_leq, binOp_string_geq, toList_str]; rfl⟩
instance {t : TypeId} {a b : List UInt8} : PuC P (binOp .leq t (str a) (str b)) (.bool (Op.bytesLess a b || a == b)) True := ⟨fun _ w => by simp only [str, binOp_string_lss, binOp_string_gtr, binOp_string_leq, binOp_string_geq, toList_str]; rfl⟩
instance {t : TypeId} {a b : List UInt8} : PuC P (binOp .geq t (str a) (str b)) (.bool (!Op.bytesLess a b)) True := ⟨fun _ w => by simp only [str, binOp_string_lss, binOp_string_gtr, binOp_string_leq, binOp_string_geq, toList_str]; rfl⟩

theorem St.hold (m : St w0 A w F) [h : SubF K F] : Hold K w := fun f hf => m.mem.is f (h.sub f hf)
theorem hr {G : (World → Prop) → World → Prop} (m : St w0 A w F) (h : St w0 A w.drew F → G (Hold F) w.drew) : HR w G := ⟨Hold F, m.drew.hold, h m.drew⟩
theorem hrK (K : List Fact) [SubF K F] {G : (World → Prop) → World → Prop} (m : St w0 A w F) (h : St w0 A w.drew F → G (Hold K) w.drew) : HR w G := ⟨Hold K, m.drew.hold, h m.drew⟩
theorem rsK (K' : List Fact) [h1 : SubF K' K] [h2 : SubF K' F] {G : (World → Prop) → Prop} (m : St w0 A w F) (h : G (Hold K')) : RS (Hold K) w G := ⟨Hold K', fun _ hw f hf => hw f (h1.sub f hf), m.hold, h⟩
theorem rsS [h1 : SubF K F] {G : (World → Prop) → Prop} (m : St w0 A w F) (h : G (Hold K)) : RS (Hold K) w G := RS_same m.hold h
theorem hd [h1 : SubF K F] {G : Prop} (m : St w0 A w F) (h : G) : Hold K w ∧ G := ⟨m.hold, h⟩

/-! ## Slices -/

theorem nd_opt {α : Type} (o : Option α) : o.toList.Nodup := by cases o <;> simp
theorem St.newSl (m : St w0 A w F) {E : Elt α} {v : Value} {l : List α} (h : ∃ T, Rd w T E.sz v l.length (E.all l)) (hro : ∀ b, 0 < l.length → v.ownBlock = some b → ros F b) : St w0 A w (sl E v l :: F) :=
  m.new (f := sl E v l) (Ch.refl w) h List.nodup_nil (fun _ h => (by cases h)) (fun b hb => .inl (hro b hb.1 hb.2)) (fun _ h => (by cases h))
theorem St.newOwn (m : St w0 A w F) {w' : World} {E : Elt α} {v : Value} {l : List α} (h : w'.ownsRow w.heap.size E.e E.sz v l.length (E.all l)) (hc : Ch No w w') : St w0 A w' (own E v l :: F) :=
  m.new (f := own E v l) hc (own_mono h (Nat.zero_le _)) (nd_opt _) (fun b hb => (h.lt b (by simpa [own] using hb)).1) (fun _ h => h.elim) (fun _ _ h => h)
theorem St.nilOwn (E : Elt α) (m : St w0 A w F) : St w0 A w (own E (.slice none 0 0) [] :: F) :=
  m.new (f := own E (.slice none 0 0) []) (Ch.refl w) (own_nil w 0 E.e E.sz) (by simp [own, Value.ownBlock]) (fun b hb => by simp [own, Value.ownBlock] at hb) (fun _ h => h.elim) (fun _ _ h => h)
theorem St.nilSl (E : Elt α) (m : St w0 A w F) : St w0 A w (sl E (.slice none 0 0) [] :: F) :=
  m.newSl ⟨0, Rd.zero none 0⟩ (fun b h => by simp at h)
/-- A row of one's own is only read from now on. -/
theorem St.pub {E : Elt α} {l : List α} {F' : List Fact} (v : Value) (m : St w0 A w F) [hs : HasO F v E l] [hr : Rep F (own E v l) (sl E v l) F'] : St w0 A w F' :=
  m.rep (St.one (f := own E v l) (f' := sl E v l) ⟨_, Rd.of_own (m.mem.is _ hr.mem)⟩ (Ch.refl w) List.nodup_nil (fun _ h => (by cases h)) (fun b hb => .inr (.inl (by have := hb.2; simp [own, this]))) (fun _ h => (by cases h)))

/-- A block is only read from now on. -/
theorem St.pubB {t : Nat} {cs : List Value} {F' : List Fact} (g : Nat) (m : St w0 A w F) [hs : HasB F g t cs] [hr : Rep F (bk g t cs) (rk g t cs) F'] : St w0 A w F' :=
  m.rep (St.one (f := bk g t cs) (f' := rk g t cs) (show Blk w g t cs from m.mem.is (bk g t cs) hs.mem) (Ch.refl w) List.nodup_nil (fun _ h => (by cases h)) (fun b hb => .inr (.inl (by cases (show b = g from hb); exact List.mem_singleton.2 rfl))) (fun _ h => (by cases h)))

theorem HasL.ros {v : Value} {E : Elt α} {l : List α} (h : HasL F v E l) {b : Nat} (hl : 0 < l.length) (hb : v.ownBlock = some b) : ros F b := ⟨_, h.mem, hl, hb⟩
theorem HasL.rd {v : Value} {E : Elt α} {l : List α} (h : HasL F v E l) {w : World} (hw : Hold F w) : ∃ T, Rd w T E.sz v l.length (E.all l) := hw _ h.mem

theorem Rd.cast {e sz n n' : Nat} {v : Value} {xs xs' : List Value} {w : World} (h : Rd w e sz v n xs) (hn : n = n') (hx : xs = xs') : Rd w e sz v n' xs' := by subst hn hx; exact h

/-- xs[:h] -/
theorem slH {E : Elt α} {v : Value} {l : List α} {t e n : Nat} {h : Int} {k : Value → World → Prop} (m : St w0 A w F) [hT : SlT P t e n] [hs : HasL F v E l] (h0 : 0 ≤ h) (h1 : h ≤ l.length)
    (hk : ∀ v', IsSl v' → St w0 A w (sl E v' (l.take h.toNat) :: F) → k v' w) (hn : n = E.sz := by rfl) : SV P (Instr.sliceAt t v none (some (.int .i64 h)) none) w k := by
  subst hn
  obtain ⟨_, hrd⟩ := hs.rd m.mem.is
  obtain ⟨v', p1, r1, o1⟩ := Rd.sl_h (P := P) (ty := t) hrd h0 h1
  have hl : (l.take h.toNat).length = h.toNat := by rw [List.length_take]; omega
  refine ⟨v', w, p1 w, hk v' r1.isSl (m.newSl ⟨_, r1.cast hl.symm (E.all_take _ _)⟩ fun b hp hb => hs.ros (by omega) (by rw [← o1]; exact hb))⟩
/-- xs[l:] -/
theorem slL {E : Elt α} {v : Value} {l : List α} {t e n : Nat} {h : Int} {k : Value → World → Prop} (m : St w0 A w F) [hT : SlT P t e n] [hs : HasL F v E l] (h0 : 0 ≤ h) (h1 : h ≤ l.length)
    (hk : ∀ v', IsSl v' → St w0 A w (sl E v' (l.drop h.toNat) :: F) → k v' w) (hn : n = E.sz := by rfl) : SV P (Instr.sliceAt t v (some (.int .i64 h)) none none) w k := by
  subst hn
  obtain ⟨_, hrd⟩ := hs.rd m.mem.is
  obtain ⟨v', p1, r1, o1⟩ := Rd.sl_l (P := P) (ty := t) hrd h0 h1
  have hl : (l.drop h.toNat).length = l.length - h.toNat := by rw [List.length_drop]
  refine ⟨v', w, p1 w, hk v' r1.isSl (m.newSl ⟨_, r1.cast hl.symm (E.all_drop _ _)⟩ fun b hp hb => hs.ros (by omega) (by rw [← o1]; exact hb))⟩
/-- xs[l:h] -/
theorem slLH {E : Elt α} {v : Value} {l : List α} {t e n : Nat} {a b : Int} {k : Value → World → Prop} (m : St w0 A w F) [hT : SlT P t e n] [hs : HasL F v E l] (h0 : 0 ≤ a) (hab : a ≤ b) (h1 : b ≤ l.length)
    (hk : ∀ v', IsSl v' → St w0 A w (sl E v' ((l.drop a.toNat).take (b.toNat - a.toNat)) :: F) → k v' w) (hn : n = E.sz := by rfl) : SV P (Instr.sliceAt t v (some (.int .i64 a)) (some (.int .i64 b)) none) w k := by
  subst hn
  obtain ⟨_, hrd⟩ := hs.rd m.mem.is
  obtain ⟨v', p1, r1, o1⟩ := Rd.sl_lh (P := P) (ty := t) hrd h0 hab h1
  have hl : ((l.drop a.toNat).take (b.toNat - a.toNat)).length = b.toNat - a.toNat := by rw [List.length_take, List.length_drop]; omega
  refine ⟨v', w, p1 w, hk v' r1.isSl (m.newSl ⟨_, r1.cast hl.symm (by rw [E.all_drop, E.all_take])⟩ fun b hp hb => hs.ros (by omega) (by rw [← o1]; exact hb))⟩
/-- xs[:h:m] -/
theorem slHM {E : Elt α} {v : Value} {l : List α} {t e n : Nat} {h q : Int} {k : Value → World → Prop} (m : St w0 A w F) [hT : SlT P t e n] [hs : HasL F v E l] (h0 : 0 ≤ h) (h1 : h ≤ q) (h2 : q ≤ l.length)
    (hk : ∀ a, St w0 A w (sl E (.slice a h.toNat q.toNat) (l.take h.toNat) :: F) → k (.slice a h.toNat q.toNat) w) (hn : n = E.sz := by rfl) : SV P (Instr.sliceAt t v none (some (.int .i64 h)) (some (.int .i64 q))) w k := by
  subst hn
  obtain ⟨_, hrd⟩ := hs.rd m.mem.is
  obtain ⟨a, p1, r1, o1⟩ := Rd.sl_hm (P := P) (ty := t) hrd h0 (by omega) h1 h2
  have hl : (l.take h.toNat).length = h.toNat := by rw [List.length_take]; omega
  refine ⟨_, w, p1 w, hk a (m.newSl ⟨_, r1.cast hl.symm (E.all_take _ _)⟩ fun b hp hb => hs.ros (by omega) (by rw [← o1]; exact hb))⟩
/-- xs[:h:m] where the order is drawn. -/
theorem hvHM {E : Elt α} {v : Value} {l : List α} {t e n : Nat} {h q : Int} {k : Value → Prop} (m : St w0 A w F) [hK : SubF K F] [hT : SlT P t e n] [hs : HasS K v E l] (h0 : 0 ≤ h) (h1 : h ≤ q) (h2 : q ≤ l.length)
    (hk : ∀ a, (∀ G, SubF K G → HasS G (.slice a h.toNat q.toNat) E (l.take h.toNat)) → k (.slice a h.toNat q.toNat)) (hn : n = E.sz := by rfl) : HV P (Hold K) (Instr.sliceAt t v none (some (.int .i64 h)) (some (.int .i64 q))) k := by
  subst hn
  obtain ⟨_, hrd⟩ := hs.rd w m.hold
  obtain ⟨a, p1, r1, o1⟩ := Rd.sl_hm (P := P) (ty := t) hrd h0 (by omega) h1 h2
  have hl : (l.take h.toNat).length = h.toNat := by rw [List.length_take]; omega
  refine ⟨_, fun w _ => p1 w, hk a fun G hG => ⟨fun w' hw' => ?_⟩⟩
  obtain ⟨_, hrd⟩ := hs.rd w' (fun f hf => hw' f (hG.sub f hf))
  obtain ⟨a', p2, r2, _⟩ := Rd.sl_hm (P := P) (ty := t) hrd h0 (by omega) h1 h2
  have := (p1 w).symm.trans (p2 w)
  injection this with this
  rw [← this] at r2
  exact ⟨_, r2.cast hl.symm (E.all_take _ _)⟩

/-- xs[l:] where the order is drawn. -/
structure SubL (F : List Fact) {α : Type} (E : Elt α) (v : Value) (l : List α) : Prop where
  rd : ∀ w, Hold F w → ∃ T, Rd w T E.sz v l.length (E.all l)
  ro : ∀ b, 0 < l.length → v.ownBlock = some b → ros F b
theorem hvL {E : Elt α} {v : Value} {l : List α} {t e n : Nat} {h : Int} {k : Value → Prop} (m : St w0 A w F) [hT : SlT P t e n] [hs : HasL F v E l] (h0 : 0 ≤ h) (h1 : h ≤ l.length)
    (hk : ∀ v', SubL F E v' (l.drop h.toNat) → k v') (hn : n = E.sz := by rfl) : HV P (Hold F) (Instr.sliceAt t v (some (.int .i64 h)) none none) k := by
  subst hn
  obtain ⟨_, hrd⟩ := hs.rd m.mem.is
  obtain ⟨v', p1, r1, o1⟩ := Rd.sl_l (P := P) (ty := t) hrd h0 h1
  have hl : (l.drop h.toNat).length = l.length - h.toNat := by rw [List.length_drop]
  refine ⟨v', fun w _ => p1 w, hk v' ⟨fun w' hw' => ?_, fun b hp hb => hs.ros (by omega) (by rw [← o1]; exact hb)⟩⟩
  obtain ⟨_, hrd⟩ := hs.rd hw'
  obtain ⟨v'', p2, r2, _⟩ := Rd.sl_l (P := P) (ty := t) hrd h0 h1
  have := (p1 w).symm.trans (p2 w)
  injection this with this
  rw [← this] at r2
  exact ⟨_, r2.cast hl.symm (E.all_drop _ _)⟩
theorem St.addL {G : List Fact} [hG : SubF F G] {E : Elt α} {v : Value} {l : List α} (m' : St w0 A w G) (h : SubL F E v l) : St w0 A w (sl E v l :: G) :=
  m'.newSl (h.rd w fun f hf => m'.mem.is f (hG.sub f hf)) fun b hl hb => by
    obtain ⟨f, hf, hr⟩ := h.ro b hl hb
    exact ⟨f, hG.sub f hf, hr⟩

/-- append onto a slice that is full: a new row. -/
theorem apF {E : Elt α} {a : Option Addr} {n bytes : Nat} {u : Value} {l l2 : List α} {t rt e sz : Nat} {k : Value → World → Prop} (m : St w0 A w F) [hT : SlT P t e sz] [hI : Inf P e sz bytes] [hs : HasS F (.slice a n n) E l] [hu : HasS F u E l2]
    (hp : 0 < l2.length) (hb : (l.length + l2.length) * bytes ≤ 140737488355328) (hm : l.length + l2.length ≤ maxLen)
    (hk : ∀ v' w', IsSl v' → St w0 A w' (own E v' (l ++ l2) :: F) → k v' w') (hn : sz = E.sz := by rfl) (he : e = E.e := by rfl) : SV P (Builtin.append_ #[t, t] rt #[.slice a n n, u]) w k := by
  subst hn he
  obtain ⟨_, h1⟩ := hs.rd w m.mem.is
  obtain ⟨_, h2⟩ := hu.rd w m.mem.is
  have hl : n = l.length := by obtain ⟨A, c, hv, _⟩ := h1.form; injection hv
  subst hl
  refine SV_append_full h1 h2 hp hb hm fun v' w' ho hc => hk v' w' (Rd.of_own ho).isSl (m.newOwn ?_ hc)
  rw [E.all_append, List.length_append]; exact ho

/-- append onto a row of one's own: where it lies then. -/
theorem SV_append' {bytes : Nat} {ty rt e sz n m : Nat} {v u : Value} {xs ys : List Value} {T : Nat} [hT : SlT P ty e sz] [hI : Inf P e sz bytes] {k : Value → World → Prop}
    (ho : w.ownsRow 0 e sz v n xs) (hu : Rd w T sz u m ys) (h1 : Ones ys) (hb : (n + m) * bytes ≤ 140737488355328) (hm : n + m ≤ maxLen)
    (hk : ∀ (v' : Value) (w' : World), w'.ownsRow 0 e sz v' (n + m) (xs ++ ys) → (v'.ownBlock = v.ownBlock ∨ ∀ b, v'.ownBlock = some b → w.heap.size ≤ b) → Ch (fun b => v.ownBlock = some b) w w' → k v' w') : SV P (Builtin.append_ #[ty, ty] rt #[v, u]) w k := by
  obtain ⟨i, z, hi, hsz, hby, hz, hzs, hpos⟩ := hI.ex
  obtain ⟨hyl, _, B, c, rfl, hc, h4⟩ := id hu
  rcases ho.2 with ⟨rfl, rfl⟩ | ⟨g, cap, cur, rfl, _, hg, hnc, hcm, hcs, htake⟩
  · refine SV_append (base := w.heap.size) (xs := xs) (n := 0) ⟨ho.1, .inl ⟨rfl, rfl⟩⟩ hu h1 hb hm (Nat.le_refl _) fun v' w' ho' hch => hk v' w' (own_mono ho' (Nat.zero_le _)) (.inr fun b hb => (ho'.lt b hb).1) hch
  · rcases Nat.eq_zero_or_pos m with h0 | hpm
    · subst h0
      have hys : ys = [] := hu.nil0
      subst hys
      refine ⟨.slice (some ⟨g, 0, none⟩) n cap, w, ?_, hk _ w (by simpa using ho) (.inl rfl) (Ch.refl w)⟩
      cases B <;> simp [Builtin.append_, run_underlying hT.und, sizeOf, typeInfo, hi, Builtin.lenOf, Builtin.firstCells, loadCells, loadCellsFrom, hnc, storeCells]
    · obtain ⟨b, o, C, fr, rfl, hbk, hx⟩ := h4 hpm
      have hcells : ∀ (j : Nat) u, ys[j]? = some u → w.cell? ((⟨b, o, none⟩ : Addr).add j) = some u := fun j u hj => by rw [Addr.add_lit, cell_of_row w b _ C _ fr hbk]; exact hx j u hj
      by_cases hroom : n + m ≤ cap
      · have hfit : n * i.size + ys.length ≤ cur.size := by rw [hyl, hcs, hsz, ← Nat.add_mul]; exact Nat.mul_le_mul_right _ hroom
        have hr := run_append_room (P := P) w ty rt e i hT.und hi g n cap cur hg ⟨b, o, none⟩ m c ys (by rw [hsz]; exact hyl) hcells h1 hroom hfit
        refine ⟨_, _, hr, hk _ _ ⟨by rw [List.length_append, ho.1, hyl, Nat.add_mul], .inr ⟨g, cap, _, rfl, Nat.zero_le _, setRow_heap w g cur _ e _ hg, hroom, hcm, ?_, ?_⟩⟩ (.inl rfl) ⟨rfl, rfl, rfl, by simp, fun k _ hk => setRow_other w g k _ (fun e => hk (by simp [Value.ownBlock, e]))⟩⟩
        · simp only [List.size_toArray, List.length_append, List.length_take, List.length_drop, Array.length_toList]
          omega
        · rw [hsz, htake, Nat.add_mul, ← hyl, ← ho.1, ← List.length_append]
          exact List.take_left
      · have holds : ∀ (j : Nat) u, xs[j]? = some u → w.cell? ((⟨g, 0, none⟩ : Addr).add j) = some u := ho.cells (g := g) rfl
        subst hsz
        have h63 : n + m ≤ 9223372036854775807 := by unfold maxLen at hm; exact hm
        have hr := run_append_grow (P := P) w ty rt e i z hT.und hi hz ⟨g, 0, none⟩ n cap xs ho.1 holds ⟨b, o, none⟩ m c ys hyl hcells (by omega) (by omega) (growslice_fits (by omega) (by rw [hby]; exact hb))
        have hge := grownCap_ge w (n + m) cap e
        have hcm' : grownCap w (n + m) cap e ≤ maxLen := grownCap_le_maxLen w (n + m) cap e hm
        refine ⟨_, _, hr, hk _ _ ⟨by rw [List.length_append, ho.1, hyl, Nat.add_mul], .inr ⟨w.heap.size, _, _, rfl, Nat.zero_le _, heap_alloc_new w.drew _, hge, hcm', ?_, ?_⟩⟩ (.inr fun b hb => by simp [Value.ownBlock] at hb; omega) ((Ch.drew w).trans (Ch.alloc _ _))⟩
        · simp only [Array.size_append, List.size_toArray, size_zeroCells, hzs, ho.1, hyl, ← Nat.add_mul]
          congr 1
          omega
        · simp only [Array.toList_append, List.append_assoc]
          rw [← List.append_assoc, show (n + m) * i.size = (xs ++ ys).length by rw [List.length_append, ho.1, hyl, Nat.add_mul]]
          exact List.take_left

/-- append onto a row of one's own. -/
theorem ap {E : Elt α} {bytes : Nat} {v u : Value} {l l2 : List α} {t rt e sz : Nat} {F' : Value → List Fact} {k : Value → World → Prop} (m : St w0 A w F) [hT : SlT P t e sz] [hI : Inf P e sz bytes] [hs : HasO F v E l] [hu : HasS F u E l2] [hr : ∀ v', Rep F (own E v l) (own E v' (l ++ l2)) (F' v')]
    (hb : (l.length + l2.length) * bytes ≤ 140737488355328) (hm : l.length + l2.length ≤ maxLen)
    (hk : ∀ v' w', IsSl v' → St w0 A w' (F' v') → k v' w') (hn : sz = E.sz := by rfl) (he : e = E.e := by rfl) : SV P (Builtin.append_ #[t, t] rt #[v, u]) w k := by
  subst hn he
  obtain ⟨_, hurd⟩ := hu.rd w m.mem.is
  refine SV_append' (m.mem.is _ hs.mem) hurd (E.all_ones l2) hb hm fun v' w' ho hbl hc => hk v' w' (Rd.of_own ho).isSl ((hr v') |> fun hr => St.rep (f := own E v l) (f' := own E v' (l ++ l2)) m (St.one ?_ ?_ (nd_opt _) ?_ (fun _ h => h.elim) (fun _ _ h => h)))
  · show w'.ownsRow 0 E.e E.sz v' (l ++ l2).length (E.all (l ++ l2))
    rw [E.all_append, List.length_append]; exact ho
  · exact hc.mono fun k _ hk => by simp [own, hk]
  · intro b hb
    have hb' : v'.ownBlock = some b := by simpa [own] using hb
    rcases hbl with h | h
    · left; rw [h] at hb'; simp [own, hb']
    · exact .inr (h b hb')

theorem own_slh {ty e sz n : Nat} {v : Value} {xs : List Value} {w : World} [hT : SlT P ty e sz] (ho : w.ownsRow 0 e sz v n xs) {h : Int} (h0 : 0 ≤ h) (h1 : h ≤ n) :
    ∃ v', Pu P (Instr.sliceAt ty v none (some (.int .i64 h)) none) v' ∧ w.ownsRow 0 e sz v' h.toNat (xs.take (h.toNat * sz)) ∧ v'.ownBlock = v.ownBlock := by
  have hrun : ∀ (A : Option Addr) (c : Nat), n ≤ c → Pu P (Instr.sliceAt ty (.slice A n c) none (some (.int .i64 h)) none) (.slice A h.toNat c) := fun A c hc w => by
    rw [run_sliceAt hT.und, run_slice_h w ty A n c (elem_of hT.und) .i64 h h0 (by omega), size_elem]
    simp [Result.andThen, sliced]
    intro hh
    cases A <;> simp [Addr.add]
  obtain ⟨hl, h2⟩ := ho
  have hlen : (xs.take (h.toNat * sz)).length = h.toNat * sz := by rw [List.length_take, hl]; exact Nat.min_eq_left (Nat.mul_le_mul_right _ (by omega))
  rcases h2 with ⟨rfl, rfl⟩ | ⟨g, cap, cur, rfl, hb, hg, hn, hm, hs, ht⟩
  · have e0 : h.toNat = 0 := by omega
    refine ⟨.slice none h.toNat 0, hrun none 0 (Nat.le_refl _), ?_, rfl⟩
    rw [e0]
    exact ⟨by simp, .inl ⟨rfl, rfl⟩⟩
  · refine ⟨_, hrun _ cap hn, ⟨hlen, .inr ⟨g, cap, cur, rfl, hb, hg, by omega, hm, hs, ?_⟩⟩, rfl⟩
    rw [← ht, List.take_take, Nat.min_eq_left (Nat.mul_le_mul_right _ (by omega))]
/-- xs[:h] of a row of one's own. -/
theorem owH {E : Elt α} {v : Value} {l : List α} {t e sz : Nat} {h : Int} {F' : Value → List Fact} {k : Value → World → Prop} (m : St w0 A w F) [hT : SlT P t e sz] [hs : HasO F v E l] [hr : ∀ v', Rep F (own E v l) (own E v' (l.take h.toNat)) (F' v')]
    (h0 : 0 ≤ h) (h1 : h ≤ l.length) (hk : ∀ v', IsSl v' → St w0 A w (F' v') → k v' w) (hn : sz = E.sz := by rfl) (he : e = E.e := by rfl) : SV P (Instr.sliceAt t v none (some (.int .i64 h)) none) w k := by
  subst hn he
  obtain ⟨v', p1, r1, o1⟩ := own_slh (P := P) (ty := t) (m.mem.is _ hs.mem) h0 h1
  have hl : (l.take h.toNat).length = h.toNat := by rw [List.length_take]; omega
  refine ⟨v', w, p1 w, hk v' (Rd.of_own r1).isSl ((hr v') |> fun hr => St.rep (f := own E v l) (f' := own E v' (l.take h.toNat)) m (St.one ?_ (Ch.refl w) (nd_opt _) ?_ (fun _ h => h.elim) (fun _ _ h => h)))⟩
  · show w.ownsRow 0 E.e E.sz v' (l.take h.toNat).length (E.all (l.take h.toNat))
    rw [hl, ← E.all_take]; exact r1
  · intro b hb
    left
    simpa [own, o1] using hb

/-- A part of a row of one's own is written. -/
theorem own_put {e sz n o : Nat} {v p : Value} {xs vs : List Value} {w : World} (ho : w.ownsRow 0 e sz v n xs) (hp : PtrOf v p o) (hn : 0 < n) (hfit : o + vs.length ≤ n * sz) :
    ∃ g cs, p = .pointer (some ⟨g, o, none⟩) ∧ Blk w g e cs ∧ o + vs.length ≤ cs.length ∧ v.ownBlock = some g ∧ ∀ w', Blk w' g e (cs.take o ++ vs ++ cs.drop (o + vs.length)) → w'.ownsRow 0 e sz v n (xs.take o ++ vs ++ xs.drop (o + vs.length)) := by
  obtain ⟨h1, h2⟩ := ho
  rcases h2 with ⟨rfl, h0⟩ | ⟨g, cap, cur, rfl, hb, hg, hnc, hcm, hcs, ht⟩
  · omega
  · have hle : n * sz ≤ cap * sz := Nat.mul_le_mul_right _ hnc
    have hcl : cur.toList.length = cap * sz := by simpa using hcs
    refine ⟨g, cur.toList, hp.is g n cap rfl, by unfold Blk; simpa using hg, by omega, rfl, fun w' hb' => ⟨?_, .inr ⟨g, cap, _, rfl, hb, hb', hnc, hcm, ?_, ?_⟩⟩⟩
    · simp only [List.length_append, List.length_take, List.length_drop, h1]; omega
    · simp only [List.size_toArray, List.length_append, List.length_take, List.length_drop, hcl]; omega
    · rw [← ht]
      apply List.ext_getElem?
      intro i
      simp only [List.getElem?_take, List.append_assoc, List.getElem?_append, List.length_take, List.getElem?_drop, hcl]
      have m1 : min o (cap * sz) = o := by omega
      have m2 : min o (min (n * sz) (cap * sz)) = o := by omega
      simp only [m1, m2]
      by_cases hin : i < n * sz
      · simp only [hin, if_true]
        by_cases hio : i < o
        · simp [hio, hin]
        · simp only [hio, if_false]
          by_cases h3 : i - o < vs.length
          · simp [h3]
          · simp only [h3, if_false]
            rw [if_pos (by omega)]
      · simp only [hin, if_false]
        rw [if_neg (by omega), if_neg (by omega), if_neg (by omega)]
theorem Elt.set_part (E : Elt α) {l : List α} {i off : Nat} {x' : α} {vs : List Value} (hi : i < l.length) (hfit : off + vs.length ≤ E.sz) (hx : (E.c l[i]).take off ++ vs ++ (E.c l[i]).drop (off + vs.length) = E.c x') :
    (E.all l).take (i * E.sz + off) ++ vs ++ (E.all l).drop (i * E.sz + off + vs.length) = E.all (l.set i x') := by
  have e1 : l = l.take i ++ l[i] :: l.drop (i + 1) := by rw [← List.drop_eq_getElem_cons hi, List.take_append_drop]
  have e2 : l.set i x' = l.take i ++ x' :: l.drop (i + 1) := by rw [List.set_eq_take_append_cons_drop, if_pos hi]
  have h1 : E.all l = E.all (l.take i) ++ (E.c l[i] ++ E.all (l.drop (i + 1))) := by
    have h0 : E.all (l[i] :: l.drop (i + 1)) = E.c l[i] ++ E.all (l.drop (i + 1)) := by unfold Elt.all; rw [List.flatMap_cons]
    rw [← h0, ← E.all_append, ← e1]
  have hl : (E.all (l.take i)).length = i * E.sz := by rw [E.all_len, List.length_take, Nat.min_eq_left (by omega)]
  have hc := E.len l[i]
  rw [e2, E.all_append, h1]
  have : E.all (x' :: l.drop (i + 1)) = E.c x' ++ E.all (l.drop (i + 1)) := by simp [Elt.all]
  rw [this, ← hx]
  rw [← hl, List.take_length_add_append, Nat.add_assoc, List.drop_length_add_append, List.take_append_of_le_length (by omega), List.drop_append_of_le_length (by omega)]
  simp
theorem suO1 {ty : Nat} {v p u : Value} {o : Nat} {E : Elt α} {l : List α} {F' : List Fact} {k : World → Prop} (i off : Nat) (x' : α) (m : St w0 A w F) [hp : PtrOf v p o] [hs : HasO F v E l] [One P ty] [h1 : One1 u] [hr : Rep F (own E v l) (own E v (l.set i x')) F']
    (hi : i < l.length) (ho : o = i * E.sz + off) (hoff : off < E.sz) (hx : (E.c l[i]).set off u = E.c x') (hk : ∀ w', St w0 A w' F' → k w') : SU P (Instr.storeAt ty p u) w k := by
  have hle : i * E.sz + E.sz ≤ l.length * E.sz := by rw [← Nat.succ_mul]; exact Nat.mul_le_mul_right _ hi
  obtain ⟨g, cs, rfl, hb, hfit, hog, hw⟩ := own_put (vs := [u]) (m.mem.is _ hs.mem) hp (by omega) (by simp; omega)
  simp only [List.length_singleton] at hfit
  refine SU_store hb (by omega) h1.is fun w' hb' hc => hk w' (St.rep (h := hr) m (St.one ?_ ?_ (nd_opt _) (fun b hb => .inl hb) (fun _ h => h.elim) (fun _ _ h => h)))
  · rw [set_split (by omega)] at hb'
    have := hw w' hb'
    subst ho
    rw [E.set_part hi (by simp; omega) (by rw [← hx, set_split (by rw [E.len]; exact hoff)]; rfl)] at this
    show w'.ownsRow 0 E.e E.sz v (l.set i x').length _
    rw [List.length_set]; exact this
  · exact hc.mono fun k _ hk => by subst hk; simp [own, hog]
theorem suON {ty n : Nat} {v p : Value} {vs : List Value} {o : Nat} {E : Elt α} {l : List α} {F' : List Fact} {k : World → Prop} (i off : Nat) (x' : α) (m : St w0 A w F) [hp : PtrOf v p o] [hs : HasO F v E l] [Many P ty n] [h1 : OnesC vs] [hlen : LenC vs n] [hr : Rep F (own E v l) (own E v (l.set i x')) F']
    (hi : i < l.length) (ho : o = i * E.sz + off) (hoff : off + n ≤ E.sz) (hx : (E.c l[i]).take off ++ vs ++ (E.c l[i]).drop (off + n) = E.c x') (hk : ∀ w', St w0 A w' F' → k w') : SU P (Instr.storeAt ty p (ag vs)) w k := by
  have hle : i * E.sz + E.sz ≤ l.length * E.sz := by rw [← Nat.succ_mul]; exact Nat.mul_le_mul_right _ hi
  have hl := hlen.is
  obtain ⟨g, cs, rfl, hb, hfit, hog, hw⟩ := own_put (vs := vs) (m.mem.is _ hs.mem) hp (by omega) (by omega)
  refine SU_storeN hb hl (by omega) h1.is fun w' hb' hc => hk w' (St.rep (h := hr) m (St.one ?_ ?_ (nd_opt _) (fun b hb => .inl hb) (fun _ h => h.elim) (fun _ _ h => h)))
  · rw [← hl] at hb'
    have := hw w' hb'
    subst ho
    rw [E.set_part hi (by omega) (by rw [hl]; exact hx)] at this
    show w'.ownsRow 0 E.e E.sz v (l.set i x').length _
    rw [List.length_set]; exact this
  · exact hc.mono fun k _ hk => by subst hk; simp [own, hog]

/-- []T{x, y, ..} -/
theorem lits (E : Elt α) (l : List α) {t e sz b n : Nat} {parts : Array (Nat × Value)} {k : Value → World → Prop} (m : St w0 A w F) [hT : SlT P t e sz] [hI : Inf P e sz b] (vs : List Value)
    (hp : parts.toList = (vs.zipIdx 0).map fun (v, i) => (i, v)) (hv : vs.map Value.cells = l.map fun x => (E.c x).toArray) (hnn : n = vs.length) (hlim : vs.length * sz ≤ 16777216)
    (hk : ∀ v' w', IsSl v' → St w0 A w' (own E v' l :: F) → k v' w') (hn : sz = E.sz := by rfl) (he : e = E.e := by rfl) : SV P (Instr.buildSlice t n parts) w k := by
  subst hn he
  have hl : vs.length = l.length := by simpa using congrArg List.length hv
  refine SV_lits (P := P) (e := E.e) (sz := E.sz) vs (l.map E.c) hp (fun i v h => ?_) (by simp [hl]) hnn hlim fun g w' hg hb hc ho => ?_
  · have h1 : (vs.map Value.cells)[i]? = some v.cells := by simp [h]
    rw [hv] at h1
    simp only [List.getElem?_map, Option.map_eq_some_iff] at h1
    obtain ⟨x, hx, hc⟩ := h1
    exact ⟨E.c x, by simp [hx], hc.symm, E.len x⟩
  · subst hnn
    have hf : (l.map E.c).flatten = E.all l := by simp [Elt.all, List.flatMap]
    rw [hf, hl] at ho
    rw [hl]
    exact hk _ w' ⟨⟨_, _, _, rfl⟩⟩ (m.newOwn ho hc)
end
end Go.Sh

namespace Go.Sh
open Go

def mix (x : UInt32) (a b c : Nat) : UInt32 := rotr x a ^^^ rotr x b ^^^ shr32 x c
def turn (x : UInt32) (a b c : Nat) : UInt32 := rotr x a ^^^ rotr x b ^^^ rotr x c

def wAt (w : List UInt32) (i : Nat) : UInt32 := w.getD i 0

/-- The next word of a schedule. -/
def nextW (w : List UInt32) (t : Nat) : UInt32 := mix (wAt w (t - 2)) 17 19 10 + wAt w (t - 7) + mix (wAt w (t - 15)) 7 18 3 + wAt w (t - 16)

def schedGo : Nat → List UInt32 → List UInt32
  | 0, w => w
  | n + 1, w => schedGo n (w ++ [nextW w w.length])

def sched (blk : List UInt32) : List UInt32 := schedGo 48 blk

theorem schedGo_len (n : Nat) (w : List UInt32) : (schedGo n w).length = w.length + n := by
  induction n generalizing w with
  | zero => rfl
  | succ n ih => simp only [schedGo, ih]; simp; omega

def keys : List UInt32 := [
  0x428a2f98, 0x71374491, 0xb5c0fbcf, 0xe9b5dba5, 0x3956c25b, 0x59f111f1, 0x923f82a4, 0xab1c5ed5,
  0xd807aa98, 0x12835b01, 0x243185be, 0x550c7dc3, 0x72be5d74, 0x80deb1fe, 0x9bdc06a7, 0xc19bf174,
  0xe49b69c1, 0xefbe4786, 0x0fc19dc6, 0x240ca1cc, 0x2de92c6f, 0x4a7484aa, 0x5cb0a9dc, 0x76f988da,
  0x983e5152, 0xa831c66d, 0xb00327c8, 0xbf597fc7, 0xc6e00bf3, 0xd5a79147, 0x06ca6351, 0x14292967,
  0x27b70a85, 0x2e1b2138, 0x4d2c6dfc, 0x53380d13, 0x650a7354, 0x766a0abb, 0x81c2c92e, 0x92722c85,
  0xa2bfe8a1, 0xa81a664b, 0xc24b8b70, 0xc76c51a3, 0xd192e819, 0xd6990624, 0xf40e3585, 0x106aa070,
  0x19a4c116, 0x1e376c08, 0x2748774c, 0x34b0bcb5, 0x391c0cb3, 0x4ed8aa4a, 0x5b9cca4f, 0x682e6ff3,
  0x748f82ee, 0x78a5636f, 0x84c87814, 0x8cc70208, 0x90befffa, 0xa4506ceb, 0xbef9a3f7, 0xc67178f2]

structure S8 where
  a : UInt32
  b : UInt32
  c : UInt32
  d : UInt32
  e : UInt32
  f : UInt32
  g : UInt32
  h : UInt32
  deriving DecidableEq

def S8.l (s : S8) : List UInt32 := [s.a, s.b, s.c, s.d, s.e, s.f, s.g, s.h]
def S8.start : S8 := ⟨0x6a09e667, 0xbb67ae85, 0x3c6ef372, 0xa54ff53a, 0x510e527f, 0x9b05688c, 0x1f83d9ab, 0x5be0cd19⟩
def S8.add (s t : S8) : S8 := ⟨s.a + t.a, s.b + t.b, s.c + t.c, s.d + t.d, s.e + t.e, s.f + t.f, s.g + t.g, s.h + t.h⟩

def one (s : S8) (k w : UInt32) : UInt32 := s.h + turn s.e 6 11 25 + (s.e &&& s.f ^^^ not32 s.e &&& s.g) + k + w
def two (s : S8) : UInt32 := turn s.a 2 13 22 + (s.a &&& s.b ^^^ s.a &&& s.c ^^^ s.b &&& s.c)
def round (s : S8) (k w : UInt32) : S8 := ⟨one s k w + two s, s.a, s.b, s.c, s.d + one s k w, s.e, s.f, s.g⟩

/-- The state behind the first t rounds. -/
def rounds (s : S8) (w : List UInt32) : Nat → S8
  | 0 => s
  | t + 1 => round (rounds s w t) (wAt keys t) (wAt w t)

def sstep (s : S8) (blk : List UInt32) : S8 := s.add (rounds s (sched blk) 64)

/-- A word put together of the bytes at 4j, of which the first i of the text are read. -/
def pw (l : List UInt8) (i j : Nat) : UInt32 := (((l.take i).drop (4 * j)).take 4).foldl (fun a b => shl32 a 8 ||| UInt32.ofNat b.toNat) 0

/-- A block's words. -/
def blkOf (l : List UInt8) : List UInt32 := (List.range 16).map (pw l 64)

/-- The state behind whole blocks, and what is left. -/
def blocks (s : S8) (l : List UInt8) : S8 × List UInt8 :=
  if 64 ≤ l.length then blocks (sstep s (blkOf l)) (l.drop 64) else (s, l)
termination_by l.length
decreasing_by simp; omega

theorem blocks_lt {s : S8} {l : List UInt8} (h : l.length < 64) : blocks s l = (s, l) := by
  rw [blocks, if_neg (by omega)]
theorem blocks_ge {s : S8} {l : List UInt8} (h : 64 ≤ l.length) : blocks s l = blocks (sstep s (blkOf l)) (l.drop 64) := by
  rw [blocks, if_pos h]

theorem blkOf_append {l m : List UInt8} (h : 64 ≤ l.length) : blkOf (l ++ m) = blkOf l := by
  unfold blkOf
  apply List.map_congr_left
  intro j _
  unfold pw
  rw [List.take_append_of_le_length h]

theorem blocks_append (s : S8) (l m : List UInt8) : blocks s (l ++ m) = blocks (blocks s l).1 ((blocks s l).2 ++ m) := by
  induction hn : l.length using Nat.strongRecOn generalizing s l with
  | _ n ih =>
    by_cases h : 64 ≤ l.length
    · rw [blocks_ge h, blocks_ge (l := l ++ m) (by simp; omega), blkOf_append h, List.drop_append_of_le_length h]
      exact ih (l.drop 64).length (by simp; omega) _ _ rfl
    · rw [blocks_lt (l := l) (by omega)]

theorem blocks_rest (s : S8) (l : List UInt8) : (blocks s l).2.length < 64 := by
  induction hn : l.length using Nat.strongRecOn generalizing s l with
  | _ n ih =>
    by_cases h : 64 ≤ l.length
    · rw [blocks_ge h]
      exact ih (l.drop 64).length (by simp; omega) _ _ rfl
    · rw [blocks_lt (by omega)]; simp; omega

theorem blocks_len (s : S8) (l : List UInt8) : (blocks s l).2.length = l.length % 64 := by
  induction hn : l.length using Nat.strongRecOn generalizing s l with
  | _ n ih =>
    by_cases h : 64 ≤ l.length
    · rw [blocks_ge h, ih (l.drop 64).length (by simp; omega) _ _ rfl]
      simp; omega
    · rw [blocks_lt (by omega)]; simp; omega

/-- The bytes of a number of bits, the greatest first. -/
def lenBytes (n : Nat) : List UInt8 := (List.range 8).map fun i => UInt8.ofNat (n / 2 ^ (8 * (7 - i)))

def padOf (n : Nat) : List UInt8 := 128 :: (List.replicate ((119 - n % 64) % 64) 0 ++ lenBytes (8 * n % 18446744073709551616))

/-- A state's bytes. -/
def outOf (s : S8) : List UInt8 := (List.range 32).map fun i => UInt8.ofNat (shr32 (wAt s.l (i / 4)) (24 - 8 * (i % 4))).toNat

/-- SHA-256. -/
def sha (l : List UInt8) : Sum := ⟨outOf (blocks S8.start (l ++ padOf l.length)).1, by simp [outOf]⟩

theorem sha_of (l : List UInt8) : sha l = ⟨outOf (blocks (blocks S8.start l).1 ((blocks S8.start l).2 ++ padOf l.length)).1, by simp [outOf]⟩ := by
  apply Sum.ext
  show outOf (blocks S8.start (l ++ padOf l.length)).1 = _
  rw [blocks_append]

/-! ## Facts on words of blocks -/

theorem pw_succ {l : List UInt8} {i : Nat} (h : i < l.length) : pw l (i + 1) (i / 4) = shl32 (pw l i (i / 4)) 8 ||| UInt32.ofNat l[i].toNat := by
  unfold pw
  rw [List.take_succ_eq_append_getElem h]
  have hl : (l.take i).length = i := by simp; omega
  rw [List.drop_append_of_le_length (by omega)]
  have hd : ((l.take i).drop (4 * (i / 4))).length < 4 := by rw [List.length_drop, hl]; omega
  rw [List.take_of_length_le (l := (l.take i).drop (4 * (i / 4))) (by omega), List.take_of_length_le (by simp only [List.length_append, List.length_cons, List.length_nil]; omega), List.foldl_append]
  rfl
theorem pw_other {l : List UInt8} {i j : Nat} (h : i < l.length) (hj : j ≠ i / 4) : pw l (i + 1) j = pw l i j := by
  unfold pw
  rw [List.take_succ_eq_append_getElem h]
  have hl : (l.take i).length = i := by simp; omega
  congr 1
  by_cases h1 : 4 * j ≤ i
  · rw [List.drop_append_of_le_length (by omega)]
    have hd : 4 ≤ ((l.take i).drop (4 * j)).length := by rw [List.length_drop, hl]; omega
    rw [List.take_append_of_le_length hd]
  · rw [List.drop_eq_nil_of_le (by rw [List.length_append, hl]; simp; omega), List.drop_eq_nil_of_le (by omega)]
theorem pw_zero (l : List UInt8) (j : Nat) : pw l 0 j = 0 := by simp [pw]

/-- The words behind one byte more. -/
theorem pw_set {l : List UInt8} {i : Nat} (h : i < l.length) : ((List.range 16).map (pw l i)).set (i / 4) (shl32 (pw l i (i / 4)) 8 ||| UInt32.ofNat l[i].toNat) = (List.range 16).map (pw l (i + 1)) := by
  apply List.ext_getElem
  · simp
  · intro j h1 h2
    simp only [List.length_set, List.length_map, List.length_range] at h1
    rw [List.getElem_set]
    simp only [List.getElem_map, List.getElem_range]
    split
    · rename_i he; subst he; rw [pw_succ h]
    · rename_i he; rw [pw_other h (by omega)]
end Go.Sh

namespace Go.Proofs.YtkdghnbogkbedaaGreatDoor
open Go Go.Sh
set_option maxRecDepth 100000

-- 2: int64
instance : One Tryz.prog 2 := ⟨fun _ => by kernel_rfl, fun _ => by kernel_rfl⟩
instance : Inf Tryz.prog 2 1 8 := .of (by kernel_rfl)
instance : Zer Tryz.prog 2 ([.int .i64 0]) := ⟨by kernel_rfl, by kernel_rfl⟩
instance : IsInt Tryz.prog 2 .i64 := ⟨by kernel_rfl⟩
-- 3: int
instance : One Tryz.prog 3 := ⟨fun _ => by kernel_rfl, fun _ => by kernel_rfl⟩
instance : Inf Tryz.prog 3 1 8 := .of (by kernel_rfl)
instance : Zer Tryz.prog 3 ([.int .i64 0]) := ⟨by kernel_rfl, by kernel_rfl⟩
instance : IsInt Tryz.prog 3 .i64 := ⟨by kernel_rfl⟩
-- 4: bool
instance : One Tryz.prog 4 := ⟨fun _ => by kernel_rfl, fun _ => by kernel_rfl⟩
instance : Inf Tryz.prog 4 1 1 := .of (by kernel_rfl)
instance : Zer Tryz.prog 4 ([.bool false]) := ⟨by kernel_rfl, by kernel_rfl⟩
instance : IsBool Tryz.prog 4 := ⟨by kernel_rfl⟩
-- 5: uint8
instance : One Tryz.prog 5 := ⟨fun _ => by kernel_rfl, fun _ => by kernel_rfl⟩
instance : Inf Tryz.prog 5 1 1 := .of (by kernel_rfl)
instance : Zer Tryz.prog 5 ([.int .u8 0]) := ⟨by kernel_rfl, by kernel_rfl⟩
instance : IsInt Tryz.prog 5 .u8 := ⟨by kernel_rfl⟩
-- 9: string
instance : One Tryz.prog 9 := ⟨fun _ => by kernel_rfl, fun _ => by kernel_rfl⟩
instance : Inf Tryz.prog 9 1 16 := .of (by kernel_rfl)
instance : Zer Tryz.prog 9 ([str []]) := ⟨by kernel_rfl, by kernel_rfl⟩
instance : IsStr Tryz.prog 9 := ⟨by kernel_rfl⟩
-- 22: *super.Super
instance : One Tryz.prog 22 := ⟨fun _ => by kernel_rfl, fun _ => by kernel_rfl⟩
instance : Inf Tryz.prog 22 1 8 := .of (by kernel_rfl)
instance : Zer Tryz.prog 22 ([.pointer none]) := ⟨by kernel_rfl, by kernel_rfl⟩
instance : IsPtr Tryz.prog 22 := ⟨⟨27, by kernel_rfl⟩⟩
-- 23: []api.Freeze
instance : One Tryz.prog 23 := ⟨fun _ => by kernel_rfl, fun _ => by kernel_rfl⟩
instance : Inf Tryz.prog 23 1 24 := .of (by kernel_rfl)
instance : Zer Tryz.prog 23 ([.slice none 0 0]) := ⟨by kernel_rfl, by kernel_rfl⟩
instance : SlT Tryz.prog 23 31 34 := ⟨by kernel_rfl, fun _ => by kernel_rfl⟩
-- 24: []api.Sum
instance : One Tryz.prog 24 := ⟨fun _ => by kernel_rfl, fun _ => by kernel_rfl⟩
instance : Inf Tryz.prog 24 1 24 := .of (by kernel_rfl)
instance : Zer Tryz.prog 24 ([.slice none 0 0]) := ⟨by kernel_rfl, by kernel_rfl⟩
instance : SlT Tryz.prog 24 29 32 := ⟨by kernel_rfl, fun _ => by kernel_rfl⟩
-- 25: *front.Front
instance : One Tryz.prog 25 := ⟨fun _ => by kernel_rfl, fun _ => by kernel_rfl⟩
instance : Inf Tryz.prog 25 1 8 := .of (by kernel_rfl)
instance : Zer Tryz.prog 25 ([.pointer none]) := ⟨by kernel_rfl, by kernel_rfl⟩
instance : IsPtr Tryz.prog 25 := ⟨⟨190, by kernel_rfl⟩⟩
-- 27: super.Super
instance : Many Tryz.prog 27 3 := ⟨fun _ => by kernel_rfl, fun _ => by kernel_rfl⟩
instance : Inf Tryz.prog 27 3 56 := .of (by kernel_rfl)
instance : Zer Tryz.prog 27 ([.slice none 0 0, .slice none 0 0, .pointer none]) := ⟨by kernel_rfl, by kernel_rfl⟩
instance : Bld Tryz.prog 27 (fun i => #[(0, 1), (1, 1), (2, 1)][i]?) ([.slice none 0 0, .slice none 0 0, .pointer none]) := ⟨fun _ => by kernel_rfl⟩
instance : Fld Tryz.prog 27 0 0 := ⟨fun _ _ => by kernel_rfl⟩ -- all
instance : Fld Tryz.prog 27 1 1 := ⟨fun _ _ => by kernel_rfl⟩ -- leaves
instance : Fld Tryz.prog 27 2 2 := ⟨fun _ _ => by kernel_rfl⟩ -- front
-- 28: [32]uint8
instance : Many Tryz.prog 28 32 := ⟨fun _ => by kernel_rfl, fun _ => by kernel_rfl⟩
instance : Inf Tryz.prog 28 32 32 := .of (by kernel_rfl)
instance : Zer Tryz.prog 28 (List.replicate 32 (.int .u8 0)) := ⟨by kernel_rfl, by kernel_rfl⟩
instance : ArT Tryz.prog 28 32 5 1 := ⟨by kernel_rfl, fun _ => by kernel_rfl⟩
instance : Bld Tryz.prog 28 (fun i => some (i * 1, 1)) (List.replicate 32 (.int .u8 0)) := ⟨fun _ => by kernel_rfl⟩
-- 29: api.Sum
instance : Many Tryz.prog 29 32 := ⟨fun _ => by kernel_rfl, fun _ => by kernel_rfl⟩
instance : Inf Tryz.prog 29 32 32 := .of (by kernel_rfl)
instance : Zer Tryz.prog 29 (Sum.zero.cells) := ⟨by kernel_rfl, by kernel_rfl⟩
instance : ArT Tryz.prog 29 32 5 1 := ⟨by kernel_rfl, fun _ => by kernel_rfl⟩
instance : Bld Tryz.prog 29 (fun i => some (i * 1, 1)) (Sum.zero.cells) := ⟨fun _ => by kernel_rfl⟩
-- 31: api.Freeze
instance : Many Tryz.prog 31 34 := ⟨fun _ => by kernel_rfl, fun _ => by kernel_rfl⟩
instance : Inf Tryz.prog 31 34 48 := .of (by kernel_rfl)
instance : Zer Tryz.prog 31 (Freeze.zero.cells) := ⟨by kernel_rfl, by kernel_rfl⟩
instance : Bld Tryz.prog 31 (fun i => #[(0, 1), (1, 1), (2, 32)][i]?) (Freeze.zero.cells) := ⟨fun _ => by kernel_rfl⟩
instance : Fld Tryz.prog 31 0 0 := ⟨fun _ _ => by kernel_rfl⟩ -- Window
instance : Fld Tryz.prog 31 1 1 := ⟨fun _ _ => by kernel_rfl⟩ -- Count
instance : Fld Tryz.prog 31 2 2 := ⟨fun _ _ => by kernel_rfl⟩ -- Root
-- 32: api.Errno
instance : One Tryz.prog 32 := ⟨fun _ => by kernel_rfl, fun _ => by kernel_rfl⟩
instance : Inf Tryz.prog 32 1 8 := .of (by kernel_rfl)
instance : Zer Tryz.prog 32 ([.int .i64 0]) := ⟨by kernel_rfl, by kernel_rfl⟩
instance : IsInt Tryz.prog 32 .i64 := ⟨by kernel_rfl⟩
-- 48: api.Head
instance : Many Tryz.prog 48 66 := ⟨fun _ => by kernel_rfl, fun _ => by kernel_rfl⟩
instance : Inf Tryz.prog 48 66 80 := .of (by kernel_rfl)
instance : Zer Tryz.prog 48 (Head.zero.cells) := ⟨by kernel_rfl, by kernel_rfl⟩
instance : Bld Tryz.prog 48 (fun i => #[(0, 1), (1, 32), (33, 1), (34, 32)][i]?) (Head.zero.cells) := ⟨fun _ => by kernel_rfl⟩
instance : Fld Tryz.prog 48 0 0 := ⟨fun _ _ => by kernel_rfl⟩ -- Size
instance : Fld Tryz.prog 48 1 1 := ⟨fun _ _ => by kernel_rfl⟩ -- Root
instance : Fld Tryz.prog 48 2 33 := ⟨fun _ _ => by kernel_rfl⟩ -- Clock
instance : Fld Tryz.prog 48 3 34 := ⟨fun _ _ => by kernel_rfl⟩ -- Mac
-- 52: []api.File
instance : One Tryz.prog 52 := ⟨fun _ => by kernel_rfl, fun _ => by kernel_rfl⟩
instance : Inf Tryz.prog 52 1 24 := .of (by kernel_rfl)
instance : Zer Tryz.prog 52 ([.slice none 0 0]) := ⟨by kernel_rfl, by kernel_rfl⟩
instance : SlT Tryz.prog 52 55 2 := ⟨by kernel_rfl, fun _ => by kernel_rfl⟩
-- 55: api.File
instance : Many Tryz.prog 55 2 := ⟨fun _ => by kernel_rfl, fun _ => by kernel_rfl⟩
instance : Inf Tryz.prog 55 2 32 := .of (by kernel_rfl)
instance : Zer Tryz.prog 55 (File.zero.cells) := ⟨by kernel_rfl, by kernel_rfl⟩
instance : Bld Tryz.prog 55 (fun i => #[(0, 1), (1, 1)][i]?) (File.zero.cells) := ⟨fun _ => by kernel_rfl⟩
instance : Fld Tryz.prog 55 0 0 := ⟨fun _ _ => by kernel_rfl⟩ -- Name
instance : Fld Tryz.prog 55 1 1 := ⟨fun _ _ => by kernel_rfl⟩ -- Data
-- 57: []api.FileOp
instance : One Tryz.prog 57 := ⟨fun _ => by kernel_rfl, fun _ => by kernel_rfl⟩
instance : Inf Tryz.prog 57 1 24 := .of (by kernel_rfl)
instance : Zer Tryz.prog 57 ([.slice none 0 0]) := ⟨by kernel_rfl, by kernel_rfl⟩
instance : SlT Tryz.prog 57 150 4 := ⟨by kernel_rfl, fun _ => by kernel_rfl⟩
-- 60: *scriniumref08.Store
instance : One Tryz.prog 60 := ⟨fun _ => by kernel_rfl, fun _ => by kernel_rfl⟩
instance : Inf Tryz.prog 60 1 8 := .of (by kernel_rfl)
instance : Zer Tryz.prog 60 ([.pointer none]) := ⟨by kernel_rfl, by kernel_rfl⟩
instance : IsPtr Tryz.prog 60 := ⟨⟨63, by kernel_rfl⟩⟩
-- 61: []scriniumref08.File
instance : One Tryz.prog 61 := ⟨fun _ => by kernel_rfl, fun _ => by kernel_rfl⟩
instance : Inf Tryz.prog 61 1 24 := .of (by kernel_rfl)
instance : Zer Tryz.prog 61 ([.slice none 0 0]) := ⟨by kernel_rfl, by kernel_rfl⟩
instance : SlT Tryz.prog 61 64 2 := ⟨by kernel_rfl, fun _ => by kernel_rfl⟩
-- 63: scriniumref08.Store
instance : Many Tryz.prog 63 2 := ⟨fun _ => by kernel_rfl, fun _ => by kernel_rfl⟩
instance : Inf Tryz.prog 63 2 32 := .of (by kernel_rfl)
instance : Zer Tryz.prog 63 ([.int .i64 0, .slice none 0 0]) := ⟨by kernel_rfl, by kernel_rfl⟩
instance : Bld Tryz.prog 63 (fun i => #[(0, 1), (1, 1)][i]?) ([.int .i64 0, .slice none 0 0]) := ⟨fun _ => by kernel_rfl⟩
instance : Fld Tryz.prog 63 0 0 := ⟨fun _ _ => by kernel_rfl⟩ -- Room
instance : Fld Tryz.prog 63 1 1 := ⟨fun _ _ => by kernel_rfl⟩ -- Files
-- 64: scriniumref08.File
instance : Many Tryz.prog 64 2 := ⟨fun _ => by kernel_rfl, fun _ => by kernel_rfl⟩
instance : Inf Tryz.prog 64 2 32 := .of (by kernel_rfl)
instance : Zer Tryz.prog 64 ([str [], str []]) := ⟨by kernel_rfl, by kernel_rfl⟩
instance : Bld Tryz.prog 64 (fun i => #[(0, 1), (1, 1)][i]?) ([str [], str []]) := ⟨fun _ => by kernel_rfl⟩
instance : Fld Tryz.prog 64 0 0 := ⟨fun _ _ => by kernel_rfl⟩ -- Name
instance : Fld Tryz.prog 64 1 1 := ⟨fun _ _ => by kernel_rfl⟩ -- Data
-- 68: [2]int
instance : Many Tryz.prog 68 2 := ⟨fun _ => by kernel_rfl, fun _ => by kernel_rfl⟩
instance : Inf Tryz.prog 68 2 16 := .of (by kernel_rfl)
instance : Zer Tryz.prog 68 ([.int .i64 0, .int .i64 0]) := ⟨by kernel_rfl, by kernel_rfl⟩
instance : ArT Tryz.prog 68 2 3 1 := ⟨by kernel_rfl, fun _ => by kernel_rfl⟩
instance : Bld Tryz.prog 68 (fun i => some (i * 1, 1)) ([.int .i64 0, .int .i64 0]) := ⟨fun _ => by kernel_rfl⟩
-- 69: []scriniumlaw20.Step
instance : One Tryz.prog 69 := ⟨fun _ => by kernel_rfl, fun _ => by kernel_rfl⟩
instance : Inf Tryz.prog 69 1 24 := .of (by kernel_rfl)
instance : Zer Tryz.prog 69 ([.slice none 0 0]) := ⟨by kernel_rfl, by kernel_rfl⟩
instance : SlT Tryz.prog 69 76 7 := ⟨by kernel_rfl, fun _ => by kernel_rfl⟩
-- 70: *vault.Vault
instance : One Tryz.prog 70 := ⟨fun _ => by kernel_rfl, fun _ => by kernel_rfl⟩
instance : Inf Tryz.prog 70 1 8 := .of (by kernel_rfl)
instance : Zer Tryz.prog 70 ([.pointer none]) := ⟨by kernel_rfl, by kernel_rfl⟩
instance : IsPtr Tryz.prog 70 := ⟨⟨126, by kernel_rfl⟩⟩
-- 72: []api.Record
instance : One Tryz.prog 72 := ⟨fun _ => by kernel_rfl, fun _ => by kernel_rfl⟩
instance : Inf Tryz.prog 72 1 24 := .of (by kernel_rfl)
instance : Zer Tryz.prog 72 ([.slice none 0 0]) := ⟨by kernel_rfl, by kernel_rfl⟩
instance : SlT Tryz.prog 72 79 4 := ⟨by kernel_rfl, fun _ => by kernel_rfl⟩
-- 74: api.Ask
instance : Many Tryz.prog 74 5 := ⟨fun _ => by kernel_rfl, fun _ => by kernel_rfl⟩
instance : Inf Tryz.prog 74 5 48 := .of (by kernel_rfl)
instance : Zer Tryz.prog 74 (Ask.zero.cells) := ⟨by kernel_rfl, by kernel_rfl⟩
instance : Bld Tryz.prog 74 (fun i => #[(0, 1), (1, 1), (2, 1), (3, 1), (4, 1)][i]?) (Ask.zero.cells) := ⟨fun _ => by kernel_rfl⟩
instance : Fld Tryz.prog 74 0 0 := ⟨fun _ _ => by kernel_rfl⟩ -- Op
instance : Fld Tryz.prog 74 1 1 := ⟨fun _ _ => by kernel_rfl⟩ -- A
instance : Fld Tryz.prog 74 2 2 := ⟨fun _ _ => by kernel_rfl⟩ -- B
instance : Fld Tryz.prog 74 3 3 := ⟨fun _ _ => by kernel_rfl⟩ -- C
instance : Fld Tryz.prog 74 4 4 := ⟨fun _ _ => by kernel_rfl⟩ -- Data
-- 76: scriniumlaw20.Step
instance : Many Tryz.prog 76 7 := ⟨fun _ => by kernel_rfl, fun _ => by kernel_rfl⟩
instance : Inf Tryz.prog 76 7 64 := .of (by kernel_rfl)
instance : Zer Tryz.prog 76 ([.int .i64 0, .int .i64 0, .int .i64 0, .int .i64 0, str [], .int .i64 0, .bool false]) := ⟨by kernel_rfl, by kernel_rfl⟩
instance : Bld Tryz.prog 76 (fun i => #[(0, 5), (5, 1), (6, 1)][i]?) ([.int .i64 0, .int .i64 0, .int .i64 0, .int .i64 0, str [], .int .i64 0, .bool false]) := ⟨fun _ => by kernel_rfl⟩
instance : Fld Tryz.prog 76 0 0 := ⟨fun _ _ => by kernel_rfl⟩ -- Ask
instance : Fld Tryz.prog 76 1 5 := ⟨fun _ _ => by kernel_rfl⟩ -- Long
instance : Fld Tryz.prog 76 2 6 := ⟨fun _ _ => by kernel_rfl⟩ -- Onward
-- 79: api.Record
instance : Many Tryz.prog 79 4 := ⟨fun _ => by kernel_rfl, fun _ => by kernel_rfl⟩
instance : Inf Tryz.prog 79 4 40 := .of (by kernel_rfl)
instance : Zer Tryz.prog 79 (Record.zero.cells) := ⟨by kernel_rfl, by kernel_rfl⟩
instance : Bld Tryz.prog 79 (fun i => #[(0, 1), (1, 1), (2, 1), (3, 1)][i]?) (Record.zero.cells) := ⟨fun _ => by kernel_rfl⟩
instance : Fld Tryz.prog 79 0 0 := ⟨fun _ _ => by kernel_rfl⟩ -- Window
instance : Fld Tryz.prog 79 1 1 := ⟨fun _ _ => by kernel_rfl⟩ -- Index
instance : Fld Tryz.prog 79 2 2 := ⟨fun _ _ => by kernel_rfl⟩ -- Time
instance : Fld Tryz.prog 79 3 3 := ⟨fun _ _ => by kernel_rfl⟩ -- Payload
-- 81: api.Stone
instance : Many Tryz.prog 81 67 := ⟨fun _ => by kernel_rfl, fun _ => by kernel_rfl⟩
instance : Inf Tryz.prog 81 67 88 := .of (by kernel_rfl)
instance : Zer Tryz.prog 81 (Stone.zero.cells) := ⟨by kernel_rfl, by kernel_rfl⟩
instance : Bld Tryz.prog 81 (fun i => #[(0, 34), (34, 1), (35, 32)][i]?) (Stone.zero.cells) := ⟨fun _ => by kernel_rfl⟩
instance : Fld Tryz.prog 81 0 0 := ⟨fun _ _ => by kernel_rfl⟩ -- Freeze
instance : Fld Tryz.prog 81 1 34 := ⟨fun _ _ => by kernel_rfl⟩ -- At
instance : Fld Tryz.prog 81 2 35 := ⟨fun _ _ => by kernel_rfl⟩ -- Mac
-- 83: api.Cite
instance : Many Tryz.prog 83 103 := ⟨fun _ => by kernel_rfl, fun _ => by kernel_rfl⟩
instance : Inf Tryz.prog 83 103 184 := .of (by kernel_rfl)
instance : Zer Tryz.prog 83 (CiteV.zero.cells) := ⟨by kernel_rfl, by kernel_rfl⟩
instance : Bld Tryz.prog 83 (fun i => #[(0, 34), (34, 1), (35, 1), (36, 1), (37, 66)][i]?) (CiteV.zero.cells) := ⟨fun _ => by kernel_rfl⟩
instance : Fld Tryz.prog 83 0 0 := ⟨fun _ _ => by kernel_rfl⟩ -- Freeze
instance : Fld Tryz.prog 83 1 34 := ⟨fun _ _ => by kernel_rfl⟩ -- Path
instance : Fld Tryz.prog 83 2 35 := ⟨fun _ _ => by kernel_rfl⟩ -- Place
instance : Fld Tryz.prog 83 3 36 := ⟨fun _ _ => by kernel_rfl⟩ -- Super
instance : Fld Tryz.prog 83 4 37 := ⟨fun _ _ => by kernel_rfl⟩ -- Head
-- 85: api.Told
instance : Many Tryz.prog 85 244 := ⟨fun _ => by kernel_rfl, fun _ => by kernel_rfl⟩
instance : Inf Tryz.prog 85 244 440 := .of (by kernel_rfl)
instance : Zer Tryz.prog 85 (ToldV.zero.cells) := ⟨by kernel_rfl, by kernel_rfl⟩
instance : Bld Tryz.prog 85 (fun i => #[(0, 1), (1, 1), (2, 1), (3, 4), (7, 67), (74, 1), (75, 66), (141, 103)][i]?) (ToldV.zero.cells) := ⟨fun _ => by kernel_rfl⟩
instance : Fld Tryz.prog 85 0 0 := ⟨fun _ _ => by kernel_rfl⟩ -- Err
instance : Fld Tryz.prog 85 1 1 := ⟨fun _ _ => by kernel_rfl⟩ -- N
instance : Fld Tryz.prog 85 2 2 := ⟨fun _ _ => by kernel_rfl⟩ -- M
instance : Fld Tryz.prog 85 3 3 := ⟨fun _ _ => by kernel_rfl⟩ -- Record
instance : Fld Tryz.prog 85 4 7 := ⟨fun _ _ => by kernel_rfl⟩ -- Stone
instance : Fld Tryz.prog 85 5 74 := ⟨fun _ _ => by kernel_rfl⟩ -- Path
instance : Fld Tryz.prog 85 6 75 := ⟨fun _ _ => by kernel_rfl⟩ -- Head
instance : Fld Tryz.prog 85 7 141 := ⟨fun _ _ => by kernel_rfl⟩ -- Cite
-- 95: []*shard.Shard
instance : One Tryz.prog 95 := ⟨fun _ => by kernel_rfl, fun _ => by kernel_rfl⟩
instance : Inf Tryz.prog 95 1 24 := .of (by kernel_rfl)
instance : Zer Tryz.prog 95 ([.slice none 0 0]) := ⟨by kernel_rfl, by kernel_rfl⟩
instance : SlT Tryz.prog 95 97 1 := ⟨by kernel_rfl, fun _ => by kernel_rfl⟩
-- 97: *shard.Shard
instance : One Tryz.prog 97 := ⟨fun _ => by kernel_rfl, fun _ => by kernel_rfl⟩
instance : Inf Tryz.prog 97 1 8 := .of (by kernel_rfl)
instance : Zer Tryz.prog 97 ([.pointer none]) := ⟨by kernel_rfl, by kernel_rfl⟩
instance : IsPtr Tryz.prog 97 := ⟨⟨166, by kernel_rfl⟩⟩
-- 100: [4]int
instance : Many Tryz.prog 100 4 := ⟨fun _ => by kernel_rfl, fun _ => by kernel_rfl⟩
instance : Inf Tryz.prog 100 4 32 := .of (by kernel_rfl)
instance : Zer Tryz.prog 100 ([.int .i64 0, .int .i64 0, .int .i64 0, .int .i64 0]) := ⟨by kernel_rfl, by kernel_rfl⟩
instance : ArT Tryz.prog 100 4 3 1 := ⟨by kernel_rfl, fun _ => by kernel_rfl⟩
instance : Bld Tryz.prog 100 (fun i => some (i * 1, 1)) ([.int .i64 0, .int .i64 0, .int .i64 0, .int .i64 0]) := ⟨fun _ => by kernel_rfl⟩
-- 111: *scriniumref20.Vault
instance : One Tryz.prog 111 := ⟨fun _ => by kernel_rfl, fun _ => by kernel_rfl⟩
instance : Inf Tryz.prog 111 1 8 := .of (by kernel_rfl)
instance : Zer Tryz.prog 111 ([.pointer none]) := ⟨by kernel_rfl, by kernel_rfl⟩
instance : IsPtr Tryz.prog 111 := ⟨⟨116, by kernel_rfl⟩⟩
-- 113: []*scriniumref17.Shard
instance : One Tryz.prog 113 := ⟨fun _ => by kernel_rfl, fun _ => by kernel_rfl⟩
instance : Inf Tryz.prog 113 1 24 := .of (by kernel_rfl)
instance : Zer Tryz.prog 113 ([.slice none 0 0]) := ⟨by kernel_rfl, by kernel_rfl⟩
instance : SlT Tryz.prog 113 175 1 := ⟨by kernel_rfl, fun _ => by kernel_rfl⟩
-- 114: *scriniumref18.Super
instance : One Tryz.prog 114 := ⟨fun _ => by kernel_rfl, fun _ => by kernel_rfl⟩
instance : Inf Tryz.prog 114 1 8 := .of (by kernel_rfl)
instance : Zer Tryz.prog 114 ([.pointer none]) := ⟨by kernel_rfl, by kernel_rfl⟩
instance : IsPtr Tryz.prog 114 := ⟨⟨172, by kernel_rfl⟩⟩
-- 116: scriniumref20.Vault
instance : Many Tryz.prog 116 6 := ⟨fun _ => by kernel_rfl, fun _ => by kernel_rfl⟩
instance : Inf Tryz.prog 116 6 72 := .of (by kernel_rfl)
instance : Zer Tryz.prog 116 ([.int .i64 0, .int .i64 0, .int .i64 0, str [], .slice none 0 0, .pointer none]) := ⟨by kernel_rfl, by kernel_rfl⟩
instance : Bld Tryz.prog 116 (fun i => #[(0, 1), (1, 1), (2, 1), (3, 1), (4, 1), (5, 1)][i]?) ([.int .i64 0, .int .i64 0, .int .i64 0, str [], .slice none 0 0, .pointer none]) := ⟨fun _ => by kernel_rfl⟩
instance : Fld Tryz.prog 116 0 0 := ⟨fun _ _ => by kernel_rfl⟩ -- Width
instance : Fld Tryz.prog 116 1 1 := ⟨fun _ _ => by kernel_rfl⟩ -- Term
instance : Fld Tryz.prog 116 2 2 := ⟨fun _ _ => by kernel_rfl⟩ -- Clock
instance : Fld Tryz.prog 116 3 3 := ⟨fun _ _ => by kernel_rfl⟩ -- Key
instance : Fld Tryz.prog 116 4 4 := ⟨fun _ _ => by kernel_rfl⟩ -- Shards
instance : Fld Tryz.prog 116 5 5 := ⟨fun _ _ => by kernel_rfl⟩ -- Log
-- 121: uint
instance : One Tryz.prog 121 := ⟨fun _ => by kernel_rfl, fun _ => by kernel_rfl⟩
instance : Inf Tryz.prog 121 1 8 := .of (by kernel_rfl)
instance : Zer Tryz.prog 121 ([.int .u64 0]) := ⟨by kernel_rfl, by kernel_rfl⟩
instance : IsInt Tryz.prog 121 .u64 := ⟨by kernel_rfl⟩
-- 126: vault.Vault
instance : Many Tryz.prog 126 6 := ⟨fun _ => by kernel_rfl, fun _ => by kernel_rfl⟩
instance : Inf Tryz.prog 126 6 72 := .of (by kernel_rfl)
instance : Zer Tryz.prog 126 ([.int .i64 0, .int .i64 0, str [], .int .i64 0, .slice none 0 0, .pointer none]) := ⟨by kernel_rfl, by kernel_rfl⟩
instance : Bld Tryz.prog 126 (fun i => #[(0, 1), (1, 1), (2, 1), (3, 1), (4, 1), (5, 1)][i]?) ([.int .i64 0, .int .i64 0, str [], .int .i64 0, .slice none 0 0, .pointer none]) := ⟨fun _ => by kernel_rfl⟩
instance : Fld Tryz.prog 126 0 0 := ⟨fun _ _ => by kernel_rfl⟩ -- width
instance : Fld Tryz.prog 126 1 1 := ⟨fun _ _ => by kernel_rfl⟩ -- term
instance : Fld Tryz.prog 126 2 2 := ⟨fun _ _ => by kernel_rfl⟩ -- key
instance : Fld Tryz.prog 126 3 3 := ⟨fun _ _ => by kernel_rfl⟩ -- clock
instance : Fld Tryz.prog 126 4 4 := ⟨fun _ _ => by kernel_rfl⟩ -- shards
instance : Fld Tryz.prog 126 5 5 := ⟨fun _ _ => by kernel_rfl⟩ -- log
-- 138: func(api.Freeze) bool
-- 150: api.FileOp
instance : Many Tryz.prog 150 4 := ⟨fun _ => by kernel_rfl, fun _ => by kernel_rfl⟩
instance : Inf Tryz.prog 150 4 48 := .of (by kernel_rfl)
instance : Zer Tryz.prog 150 (FileOp.zero.cells) := ⟨by kernel_rfl, by kernel_rfl⟩
instance : Bld Tryz.prog 150 (fun i => #[(0, 1), (1, 1), (2, 1), (3, 1)][i]?) (FileOp.zero.cells) := ⟨fun _ => by kernel_rfl⟩
instance : Fld Tryz.prog 150 0 0 := ⟨fun _ _ => by kernel_rfl⟩ -- Kind
instance : Fld Tryz.prog 150 1 1 := ⟨fun _ _ => by kernel_rfl⟩ -- Name
instance : Fld Tryz.prog 150 2 2 := ⟨fun _ _ => by kernel_rfl⟩ -- Data
instance : Fld Tryz.prog 150 3 3 := ⟨fun _ _ => by kernel_rfl⟩ -- N
-- 151: []uint8
instance : One Tryz.prog 151 := ⟨fun _ => by kernel_rfl, fun _ => by kernel_rfl⟩
instance : Inf Tryz.prog 151 1 24 := .of (by kernel_rfl)
instance : Zer Tryz.prog 151 ([.slice none 0 0]) := ⟨by kernel_rfl, by kernel_rfl⟩
instance : SlT Tryz.prog 151 5 1 := ⟨by kernel_rfl, fun _ => by kernel_rfl⟩
-- 166: shard.Shard
instance : Many Tryz.prog 166 72 := ⟨fun _ => by kernel_rfl, fun _ => by kernel_rfl⟩
instance : Inf Tryz.prog 166 72 160 := .of (by kernel_rfl)
instance : Fld Tryz.prog 166 0 0 := ⟨fun _ _ => by kernel_rfl⟩ -- window
instance : Fld Tryz.prog 166 1 1 := ⟨fun _ _ => by kernel_rfl⟩ -- state
instance : Fld Tryz.prog 166 2 2 := ⟨fun _ _ => by kernel_rfl⟩ -- leaves
instance : Fld Tryz.prog 166 3 3 := ⟨fun _ _ => by kernel_rfl⟩ -- rows
instance : Fld Tryz.prog 166 4 4 := ⟨fun _ _ => by kernel_rfl⟩ -- front
instance : Fld Tryz.prog 166 5 5 := ⟨fun _ _ => by kernel_rfl⟩ -- stone
-- 172: scriniumref18.Super
instance : Many Tryz.prog 172 1 := ⟨fun _ => by kernel_rfl, fun _ => by kernel_rfl⟩
instance : Inf Tryz.prog 172 1 24 := .of (by kernel_rfl)
instance : Zer Tryz.prog 172 ([.slice none 0 0]) := ⟨by kernel_rfl, by kernel_rfl⟩
instance : Bld Tryz.prog 172 (fun i => #[(0, 1)][i]?) ([.slice none 0 0]) := ⟨fun _ => by kernel_rfl⟩
instance : Fld Tryz.prog 172 0 0 := ⟨fun _ _ => by kernel_rfl⟩ -- L
-- 175: *scriniumref17.Shard
instance : One Tryz.prog 175 := ⟨fun _ => by kernel_rfl, fun _ => by kernel_rfl⟩
instance : Inf Tryz.prog 175 1 8 := .of (by kernel_rfl)
instance : Zer Tryz.prog 175 ([.pointer none]) := ⟨by kernel_rfl, by kernel_rfl⟩
instance : IsPtr Tryz.prog 175 := ⟨⟨246, by kernel_rfl⟩⟩
-- 190: front.Front
instance : Many Tryz.prog 190 2 := ⟨fun _ => by kernel_rfl, fun _ => by kernel_rfl⟩
instance : Inf Tryz.prog 190 2 32 := .of (by kernel_rfl)
instance : Zer Tryz.prog 190 ([.int .i64 0, .slice none 0 0]) := ⟨by kernel_rfl, by kernel_rfl⟩
instance : Bld Tryz.prog 190 (fun i => #[(0, 1), (1, 1)][i]?) ([.int .i64 0, .slice none 0 0]) := ⟨fun _ => by kernel_rfl⟩
instance : Fld Tryz.prog 190 0 0 := ⟨fun _ _ => by kernel_rfl⟩ -- n
instance : Fld Tryz.prog 190 1 1 := ⟨fun _ _ => by kernel_rfl⟩ -- peaks
-- 192: []path.step
instance : One Tryz.prog 192 := ⟨fun _ => by kernel_rfl, fun _ => by kernel_rfl⟩
instance : Inf Tryz.prog 192 1 24 := .of (by kernel_rfl)
instance : Zer Tryz.prog 192 ([.slice none 0 0]) := ⟨by kernel_rfl, by kernel_rfl⟩
instance : SlT Tryz.prog 192 196 3 := ⟨by kernel_rfl, fun _ => by kernel_rfl⟩
-- 196: path.step
instance : Many Tryz.prog 196 3 := ⟨fun _ => by kernel_rfl, fun _ => by kernel_rfl⟩
instance : Inf Tryz.prog 196 3 24 := .of (by kernel_rfl)
instance : Zer Tryz.prog 196 ([.bool false, .int .i64 0, .int .i64 0]) := ⟨by kernel_rfl, by kernel_rfl⟩
instance : Bld Tryz.prog 196 (fun i => #[(0, 1), (1, 1), (2, 1)][i]?) ([.bool false, .int .i64 0, .int .i64 0]) := ⟨fun _ => by kernel_rfl⟩
instance : Fld Tryz.prog 196 0 0 := ⟨fun _ _ => by kernel_rfl⟩ -- left
instance : Fld Tryz.prog 196 1 1 := ⟨fun _ _ => by kernel_rfl⟩ -- n
instance : Fld Tryz.prog 196 2 2 := ⟨fun _ _ => by kernel_rfl⟩ -- m
-- 198: uint64
instance : One Tryz.prog 198 := ⟨fun _ => by kernel_rfl, fun _ => by kernel_rfl⟩
instance : Inf Tryz.prog 198 1 8 := .of (by kernel_rfl)
instance : Zer Tryz.prog 198 ([.int .u64 0]) := ⟨by kernel_rfl, by kernel_rfl⟩
instance : IsInt Tryz.prog 198 .u64 := ⟨by kernel_rfl⟩
-- 199: uint32
instance : One Tryz.prog 199 := ⟨fun _ => by kernel_rfl, fun _ => by kernel_rfl⟩
instance : Inf Tryz.prog 199 1 4 := .of (by kernel_rfl)
instance : Zer Tryz.prog 199 ([.int .u32 0]) := ⟨by kernel_rfl, by kernel_rfl⟩
instance : IsInt Tryz.prog 199 .u32 := ⟨by kernel_rfl⟩
-- 200: [8]uint32
instance : Many Tryz.prog 200 8 := ⟨fun _ => by kernel_rfl, fun _ => by kernel_rfl⟩
instance : Inf Tryz.prog 200 8 32 := .of (by kernel_rfl)
instance : Zer Tryz.prog 200 ([.int .u32 0, .int .u32 0, .int .u32 0, .int .u32 0, .int .u32 0, .int .u32 0, .int .u32 0, .int .u32 0]) := ⟨by kernel_rfl, by kernel_rfl⟩
instance : ArT Tryz.prog 200 8 199 1 := ⟨by kernel_rfl, fun _ => by kernel_rfl⟩
instance : Bld Tryz.prog 200 (fun i => some (i * 1, 1)) ([.int .u32 0, .int .u32 0, .int .u32 0, .int .u32 0, .int .u32 0, .int .u32 0, .int .u32 0, .int .u32 0]) := ⟨fun _ => by kernel_rfl⟩
-- 202: [16]uint32
instance : Many Tryz.prog 202 16 := ⟨fun _ => by kernel_rfl, fun _ => by kernel_rfl⟩
instance : Inf Tryz.prog 202 16 64 := .of (by kernel_rfl)
instance : Zer Tryz.prog 202 (List.replicate 16 (.int .u32 0)) := ⟨by kernel_rfl, by kernel_rfl⟩
instance : ArT Tryz.prog 202 16 199 1 := ⟨by kernel_rfl, fun _ => by kernel_rfl⟩
instance : Bld Tryz.prog 202 (fun i => some (i * 1, 1)) (List.replicate 16 (.int .u32 0)) := ⟨fun _ => by kernel_rfl⟩
-- 207: iter.Seq2[int,scrinium/api.Sum]
-- 215: *strings.Builder
instance : One Tryz.prog 215 := ⟨fun _ => by kernel_rfl, fun _ => by kernel_rfl⟩
instance : Inf Tryz.prog 215 1 8 := .of (by kernel_rfl)
instance : Zer Tryz.prog 215 ([.pointer none]) := ⟨by kernel_rfl, by kernel_rfl⟩
instance : IsPtr Tryz.prog 215 := ⟨⟨217, by kernel_rfl⟩⟩
-- 217: strings.Builder
instance : Many Tryz.prog 217 2 := ⟨fun _ => by kernel_rfl, fun _ => by kernel_rfl⟩
instance : Inf Tryz.prog 217 2 32 := .of (by kernel_rfl)
instance : Zer Tryz.prog 217 ([.pointer none, .slice none 0 0]) := ⟨by kernel_rfl, by kernel_rfl⟩
instance : Bld Tryz.prog 217 (fun i => #[(0, 1), (1, 1)][i]?) ([.pointer none, .slice none 0 0]) := ⟨fun _ => by kernel_rfl⟩
instance : Fld Tryz.prog 217 0 0 := ⟨fun _ _ => by kernel_rfl⟩ -- addr
instance : Fld Tryz.prog 217 1 1 := ⟨fun _ _ => by kernel_rfl⟩ -- buf
-- 219: error
-- 225: func(api.File, api.File) int
-- 243: []bool
instance : One Tryz.prog 243 := ⟨fun _ => by kernel_rfl, fun _ => by kernel_rfl⟩
instance : Inf Tryz.prog 243 1 24 := .of (by kernel_rfl)
instance : Zer Tryz.prog 243 ([.slice none 0 0]) := ⟨by kernel_rfl, by kernel_rfl⟩
instance : SlT Tryz.prog 243 4 1 := ⟨by kernel_rfl, fun _ => by kernel_rfl⟩
-- 246: scriniumref17.Shard
instance : Many Tryz.prog 246 71 := ⟨fun _ => by kernel_rfl, fun _ => by kernel_rfl⟩
instance : Inf Tryz.prog 246 71 136 := .of (by kernel_rfl)
instance : Fld Tryz.prog 246 0 0 := ⟨fun _ _ => by kernel_rfl⟩ -- Window
instance : Fld Tryz.prog 246 1 1 := ⟨fun _ _ => by kernel_rfl⟩ -- State
instance : Fld Tryz.prog 246 2 2 := ⟨fun _ _ => by kernel_rfl⟩ -- Left
instance : Fld Tryz.prog 246 3 3 := ⟨fun _ _ => by kernel_rfl⟩ -- All
instance : Fld Tryz.prog 246 4 4 := ⟨fun _ _ => by kernel_rfl⟩ -- Stone
-- 249: []string
instance : One Tryz.prog 249 := ⟨fun _ => by kernel_rfl, fun _ => by kernel_rfl⟩
instance : Inf Tryz.prog 249 1 24 := .of (by kernel_rfl)
instance : Zer Tryz.prog 249 ([.slice none 0 0]) := ⟨by kernel_rfl, by kernel_rfl⟩
instance : SlT Tryz.prog 249 9 1 := ⟨by kernel_rfl, fun _ => by kernel_rfl⟩
-- 254: func(path.step) bool
-- 256: [][]api.Sum
instance : One Tryz.prog 256 := ⟨fun _ => by kernel_rfl, fun _ => by kernel_rfl⟩
instance : Inf Tryz.prog 256 1 24 := .of (by kernel_rfl)
instance : Zer Tryz.prog 256 ([.slice none 0 0]) := ⟨by kernel_rfl, by kernel_rfl⟩
instance : SlT Tryz.prog 256 24 1 := ⟨by kernel_rfl, fun _ => by kernel_rfl⟩
-- 258: [64]uint32
instance : Many Tryz.prog 258 64 := ⟨fun _ => by kernel_rfl, fun _ => by kernel_rfl⟩
instance : Inf Tryz.prog 258 64 256 := .of (by kernel_rfl)
instance : Zer Tryz.prog 258 (List.replicate 64 (.int .u32 0)) := ⟨by kernel_rfl, by kernel_rfl⟩
instance : ArT Tryz.prog 258 64 199 1 := ⟨by kernel_rfl, fun _ => by kernel_rfl⟩
instance : Bld Tryz.prog 258 (fun i => some (i * 1, 1)) (List.replicate 64 (.int .u32 0)) := ⟨fun _ => by kernel_rfl⟩
-- 261: *sha.Hash
instance : One Tryz.prog 261 := ⟨fun _ => by kernel_rfl, fun _ => by kernel_rfl⟩
instance : Inf Tryz.prog 261 1 8 := .of (by kernel_rfl)
instance : Zer Tryz.prog 261 ([.pointer none]) := ⟨by kernel_rfl, by kernel_rfl⟩
instance : IsPtr Tryz.prog 261 := ⟨⟨282, by kernel_rfl⟩⟩
-- 263: func(int, api.Sum) bool
-- 265: *mac.Maker
instance : One Tryz.prog 265 := ⟨fun _ => by kernel_rfl, fun _ => by kernel_rfl⟩
instance : Inf Tryz.prog 265 1 8 := .of (by kernel_rfl)
instance : Zer Tryz.prog 265 ([.pointer none]) := ⟨by kernel_rfl, by kernel_rfl⟩
instance : IsPtr Tryz.prog 265 := ⟨⟨289, by kernel_rfl⟩⟩
-- 268: *uint8
instance : One Tryz.prog 268 := ⟨fun _ => by kernel_rfl, fun _ => by kernel_rfl⟩
instance : Inf Tryz.prog 268 1 8 := .of (by kernel_rfl)
instance : Zer Tryz.prog 268 ([.pointer none]) := ⟨by kernel_rfl, by kernel_rfl⟩
instance : IsPtr Tryz.prog 268 := ⟨⟨5, by kernel_rfl⟩⟩
-- 274: func(*shard.Shard) bool
-- 282: sha.Hash
instance : Many Tryz.prog 282 11 := ⟨fun _ => by kernel_rfl, fun _ => by kernel_rfl⟩
instance : Inf Tryz.prog 282 11 64 := .of (by kernel_rfl)
instance : Zer Tryz.prog 282 ([.bool false, .int .u32 0, .int .u32 0, .int .u32 0, .int .u32 0, .int .u32 0, .int .u32 0, .int .u32 0, .int .u32 0, str [], .int .i64 0]) := ⟨by kernel_rfl, by kernel_rfl⟩
instance : Bld Tryz.prog 282 (fun i => #[(0, 1), (1, 8), (9, 1), (10, 1)][i]?) ([.bool false, .int .u32 0, .int .u32 0, .int .u32 0, .int .u32 0, .int .u32 0, .int .u32 0, .int .u32 0, .int .u32 0, str [], .int .i64 0]) := ⟨fun _ => by kernel_rfl⟩
instance : Fld Tryz.prog 282 0 0 := ⟨fun _ _ => by kernel_rfl⟩ -- begun
instance : Fld Tryz.prog 282 1 1 := ⟨fun _ _ => by kernel_rfl⟩ -- state
instance : Fld Tryz.prog 282 2 9 := ⟨fun _ _ => by kernel_rfl⟩ -- rest
instance : Fld Tryz.prog 282 3 10 := ⟨fun _ _ => by kernel_rfl⟩ -- size
-- 285: [8]uint8
instance : Many Tryz.prog 285 8 := ⟨fun _ => by kernel_rfl, fun _ => by kernel_rfl⟩
instance : Inf Tryz.prog 285 8 8 := .of (by kernel_rfl)
instance : Zer Tryz.prog 285 ([.int .u8 0, .int .u8 0, .int .u8 0, .int .u8 0, .int .u8 0, .int .u8 0, .int .u8 0, .int .u8 0]) := ⟨by kernel_rfl, by kernel_rfl⟩
instance : ArT Tryz.prog 285 8 5 1 := ⟨by kernel_rfl, fun _ => by kernel_rfl⟩
instance : Bld Tryz.prog 285 (fun i => some (i * 1, 1)) ([.int .u8 0, .int .u8 0, .int .u8 0, .int .u8 0, .int .u8 0, .int .u8 0, .int .u8 0, .int .u8 0]) := ⟨fun _ => by kernel_rfl⟩
-- 289: mac.Maker
instance : Many Tryz.prog 289 2 := ⟨fun _ => by kernel_rfl, fun _ => by kernel_rfl⟩
instance : Inf Tryz.prog 289 2 16 := .of (by kernel_rfl)
instance : Zer Tryz.prog 289 ([.pointer none, .pointer none]) := ⟨by kernel_rfl, by kernel_rfl⟩
instance : Bld Tryz.prog 289 (fun i => #[(0, 1), (1, 1)][i]?) ([.pointer none, .pointer none]) := ⟨fun _ => by kernel_rfl⟩
instance : Fld Tryz.prog 289 0 0 := ⟨fun _ _ => by kernel_rfl⟩ -- inner
instance : Fld Tryz.prog 289 1 1 := ⟨fun _ _ => by kernel_rfl⟩ -- outer
-- 290: unsafe.Pointer
instance : One Tryz.prog 290 := ⟨fun _ => by kernel_rfl, fun _ => by kernel_rfl⟩
instance : Inf Tryz.prog 290 1 8 := .of (by kernel_rfl)
instance : Zer Tryz.prog 290 ([.pointer none]) := ⟨by kernel_rfl, by kernel_rfl⟩
-- 295: slices.sortedHint
instance : One Tryz.prog 295 := ⟨fun _ => by kernel_rfl, fun _ => by kernel_rfl⟩
instance : Inf Tryz.prog 295 1 8 := .of (by kernel_rfl)
instance : Zer Tryz.prog 295 ([.int .i64 0]) := ⟨by kernel_rfl, by kernel_rfl⟩
instance : IsInt Tryz.prog 295 .i64 := ⟨by kernel_rfl⟩
-- 302: []int
instance : One Tryz.prog 302 := ⟨fun _ => by kernel_rfl, fun _ => by kernel_rfl⟩
instance : Inf Tryz.prog 302 1 24 := .of (by kernel_rfl)
instance : Zer Tryz.prog 302 ([.slice none 0 0]) := ⟨by kernel_rfl, by kernel_rfl⟩
instance : SlT Tryz.prog 302 3 1 := ⟨by kernel_rfl, fun _ => by kernel_rfl⟩
-- 310: slices.xorshift
instance : One Tryz.prog 310 := ⟨fun _ => by kernel_rfl, fun _ => by kernel_rfl⟩
instance : Inf Tryz.prog 310 1 8 := .of (by kernel_rfl)
instance : Zer Tryz.prog 310 ([.int .u64 0]) := ⟨by kernel_rfl, by kernel_rfl⟩
instance : IsInt Tryz.prog 310 .u64 := ⟨by kernel_rfl⟩
-- 314: *int
instance : One Tryz.prog 314 := ⟨fun _ => by kernel_rfl, fun _ => by kernel_rfl⟩
instance : Inf Tryz.prog 314 1 8 := .of (by kernel_rfl)
instance : Zer Tryz.prog 314 ([.pointer none]) := ⟨by kernel_rfl, by kernel_rfl⟩
instance : IsPtr Tryz.prog 314 := ⟨⟨3, by kernel_rfl⟩⟩
-- 319: [24]uint8
instance : Many Tryz.prog 319 24 := ⟨fun _ => by kernel_rfl, fun _ => by kernel_rfl⟩
instance : Inf Tryz.prog 319 24 24 := .of (by kernel_rfl)
instance : Zer Tryz.prog 319 (List.replicate 24 (.int .u8 0)) := ⟨by kernel_rfl, by kernel_rfl⟩
instance : ArT Tryz.prog 319 24 5 1 := ⟨by kernel_rfl, fun _ => by kernel_rfl⟩
instance : Bld Tryz.prog 319 (fun i => some (i * 1, 1)) (List.replicate 24 (.int .u8 0)) := ⟨fun _ => by kernel_rfl⟩
-- 323: *slices.xorshift
instance : One Tryz.prog 323 := ⟨fun _ => by kernel_rfl, fun _ => by kernel_rfl⟩
instance : Inf Tryz.prog 323 1 8 := .of (by kernel_rfl)
instance : Zer Tryz.prog 323 ([.pointer none]) := ⟨by kernel_rfl, by kernel_rfl⟩
instance : IsPtr Tryz.prog 323 := ⟨⟨310, by kernel_rfl⟩⟩
-- 326: []uint32
instance : One Tryz.prog 326 := ⟨fun _ => by kernel_rfl, fun _ => by kernel_rfl⟩
instance : Inf Tryz.prog 326 1 24 := .of (by kernel_rfl)
instance : Zer Tryz.prog 326 ([.slice none 0 0]) := ⟨by kernel_rfl, by kernel_rfl⟩
instance : SlT Tryz.prog 326 199 1 := ⟨by kernel_rfl, fun _ => by kernel_rfl⟩
-- 329: [20]uint64
instance : Many Tryz.prog 329 20 := ⟨fun _ => by kernel_rfl, fun _ => by kernel_rfl⟩
instance : Inf Tryz.prog 329 20 160 := .of (by kernel_rfl)
instance : Zer Tryz.prog 329 (List.replicate 20 (.int .u64 0)) := ⟨by kernel_rfl, by kernel_rfl⟩
instance : ArT Tryz.prog 329 20 198 1 := ⟨by kernel_rfl, fun _ => by kernel_rfl⟩
instance : Bld Tryz.prog 329 (fun i => some (i * 1, 1)) (List.replicate 20 (.int .u64 0)) := ⟨fun _ => by kernel_rfl⟩
-- 330: [65]uint8
instance : Many Tryz.prog 330 65 := ⟨fun _ => by kernel_rfl, fun _ => by kernel_rfl⟩
instance : Inf Tryz.prog 330 65 65 := .of (by kernel_rfl)
instance : Zer Tryz.prog 330 (List.replicate 65 (.int .u8 0)) := ⟨by kernel_rfl, by kernel_rfl⟩
instance : ArT Tryz.prog 330 65 5 1 := ⟨by kernel_rfl, fun _ => by kernel_rfl⟩
instance : Bld Tryz.prog 330 (fun i => some (i * 1, 1)) (List.replicate 65 (.int .u8 0)) := ⟨fun _ => by kernel_rfl⟩
-- 331: [64]uint8
instance : Many Tryz.prog 331 64 := ⟨fun _ => by kernel_rfl, fun _ => by kernel_rfl⟩
instance : Inf Tryz.prog 331 64 64 := .of (by kernel_rfl)
instance : Zer Tryz.prog 331 (List.replicate 64 (.int .u8 0)) := ⟨by kernel_rfl, by kernel_rfl⟩
instance : ArT Tryz.prog 331 64 5 1 := ⟨by kernel_rfl, fun _ => by kernel_rfl⟩
instance : Bld Tryz.prog 331 (fun i => some (i * 1, 1)) (List.replicate 64 (.int .u8 0)) := ⟨fun _ => by kernel_rfl⟩
end Go.Proofs.YtkdghnbogkbedaaGreatDoor

namespace Go.Proofs.YtkdghnbogkbedaaGreatDoor
open Go Go.Sh
set_option maxRecDepth 100000


theorem mixedXBits : Tryz.prog.follows .mixedOrders = true := by kernel_rfl

/-! ### 245: math/bits.Len -/

def s245 (P : Program) (k : Value → World → Prop) (a0_x : Value) (w : World) : Prop :=
  SN P (callFunc 283 #[a0_x]) w fun t7 w =>
  k t7 w

theorem e245 (k : Value → World → Prop) (a0_x : Value) (w : World) : s245 Tryz.prog k a0_x w = vcF Tryz.prog Tryz.f245 [] [a0_x] k w := by kernel_rfl
theorem c245 {k : Value → World → Prop} {a0_x : Value} {w : World} (h : s245 Tryz.prog k a0_x w) : Calls Tryz.prog 245 #[a0_x] w (retP k) :=
  calls_of_vcF [] mixedXBits Tryz.func245 (by kernel_rfl) (Eq.mp (e245 k a0_x w) h)
theorem n245 {args : Array Value} {w : World} {k : Value → World → Prop} (h : Calls Tryz.prog 245 args w (retP k)) : SN Tryz.prog (callFunc 245 args) w k := sn_call Tryz.func245 (by kernel_rfl) (by kernel_rfl) h

/-! ### 283: math/bits.Len64 -/

def s283_j1 (P : Program) (k : Value → World → Prop) (x0_2 : Value) (n2_2 : Value) (w : World) : Prop :=
  SV P (convert 198 5 x0_2) w fun t21 w =>
  SV P (Instr.index 9 (str [0, 1, 2, 2, 3, 3, 3, 3, 4, 4, 4, 4, 4, 4, 4, 4, 5, 5, 5, 5, 5, 5, 5, 5, 5, 5, 5, 5, 5, 5, 5, 5, 6, 6, 6, 6, 6, 6, 6, 6, 6, 6, 6, 6, 6, 6, 6, 6, 6, 6, 6, 6, 6, 6, 6, 6, 6, 6, 6, 6, 6, 6, 6, 6, 7, 7, 7, 7, 7, 7, 7, 7, 7, 7, 7, 7, 7, 7, 7, 7, 7, 7, 7, 7, 7, 7, 7, 7, 7, 7, 7, 7, 7, 7, 7, 7, 7, 7, 7, 7, 7, 7, 7, 7, 7, 7, 7, 7, 7, 7, 7, 7, 7, 7, 7, 7, 7, 7, 7, 7, 7, 7, 7, 7, 7, 7, 7, 7, 8, 8, 8, 8, 8, 8, 8, 8, 8, 8, 8, 8, 8, 8, 8, 8, 8, 8, 8, 8, 8, 8, 8, 8, 8, 8, 8, 8, 8, 8, 8, 8, 8, 8, 8, 8, 8, 8, 8, 8, 8, 8, 8, 8, 8, 8, 8, 8, 8, 8, 8, 8, 8, 8, 8, 8, 8, 8, 8, 8, 8, 8, 8, 8, 8, 8, 8, 8, 8, 8, 8, 8, 8, 8, 8, 8, 8, 8, 8, 8, 8, 8, 8, 8, 8, 8, 8, 8, 8, 8, 8, 8, 8, 8, 8, 8, 8, 8, 8, 8, 8, 8, 8, 8, 8, 8, 8, 8, 8, 8, 8, 8, 8, 8, 8, 8, 8, 8, 8, 8, 8, 8, 8, 8, 8, 8, 8, 8]) t21) w fun t22 w =>
  SV P (convert 5 3 t22) w fun t23 w =>
  SV P (binOp .add 3 n2_2 t23) w fun t24 w =>
  k t24 w

def s283_j2 (P : Program) (k : Value → World → Prop) (x0_1 : Value) (n2_1 : Value) (w : World) : Prop :=
  JP 2 (fun j =>
  SV P (binOp .geq 198 x0_1 (Value.int .u64 256)) w fun t14 w =>
  CN t14
  (SV P (binOp .shr 198 x0_1 (Value.int .u64 8)) w fun t16 w =>
  SV P (binOp .add 3 n2_1 (Value.int .i64 8)) w fun t18 w =>
  j [t16, t18] w)
  (j [x0_1, n2_1] w))
  (fun _ us w => s283_j1 P k (us.getD 0 undef) (us.getD 1 undef) w)

def s283_j3 (P : Program) (k : Value → World → Prop) (x0 : Value) (n2 : Value) (w : World) : Prop :=
  JP 2 (fun j =>
  SV P (binOp .geq 198 x0 (Value.int .u64 65536)) w fun t8 w =>
  CN t8
  (SV P (binOp .shr 198 x0 (Value.int .u64 16)) w fun t10 w =>
  SV P (binOp .add 3 n2 (Value.int .i64 16)) w fun t12 w =>
  j [t10, t12] w)
  (j [x0, n2] w))
  (fun _ us w => s283_j2 P k (us.getD 0 undef) (us.getD 1 undef) w)

def s283 (P : Program) (k : Value → World → Prop) (a0_x : Value) (w : World) : Prop :=
  JP 2 (fun j =>
  SV P (binOp .geq 198 a0_x (Value.int .u64 4294967296)) w fun t4 w =>
  CN t4
  (SV P (binOp .shr 198 a0_x (Value.int .u64 32)) w fun t6 w =>
  j [t6, (Value.int .i64 32)] w)
  (j [a0_x, (Value.int .i64 0)] w))
  (fun _ us w => s283_j3 P k (us.getD 0 undef) (us.getD 1 undef) w)

theorem e283 (k : Value → World → Prop) (a0_x : Value) (w : World) : s283 Tryz.prog k a0_x w = vcF Tryz.prog Tryz.f283 [0, 2] [a0_x] k w := by kernel_rfl
theorem c283 {k : Value → World → Prop} {a0_x : Value} {w : World} (h : s283 Tryz.prog k a0_x w) : Calls Tryz.prog 283 #[a0_x] w (retP k) :=
  calls_of_vcF [0, 2] mixedXBits Tryz.func283 (by kernel_rfl) (Eq.mp (e283 k a0_x w) h)
theorem n283 {args : Array Value} {w : World} {k : Value → World → Prop} (h : Calls Tryz.prog 283 args w (retP k)) : SN Tryz.prog (callFunc 283 args) w k := sn_call Tryz.func283 (by kernel_rfl) (by kernel_rfl) h

/-! ### 313: math/bits.RotateLeft32 -/

def s313 (P : Program) (k : Value → World → Prop) (a0_x : Value) (a1_k : Value) (w : World) : Prop :=
  SV P (convert 3 121 a1_k) w fun t7 w =>
  SV P (binOp .and 121 t7 (Value.int .u64 31)) w fun t8 w =>
  SV P (binOp .shl 199 a0_x t8) w fun t11 w =>
  SV P (binOp .sub 121 (Value.int .u64 32) t8) w fun t14 w =>
  SV P (binOp .shr 199 a0_x t14) w fun t15 w =>
  SV P (binOp .or 199 t11 t15) w fun t16 w =>
  k t16 w

theorem e313 (k : Value → World → Prop) (a0_x a1_k : Value) (w : World) : s313 Tryz.prog k a0_x a1_k w = vcF Tryz.prog Tryz.f313 [] [a0_x, a1_k] k w := by kernel_rfl
theorem c313 {k : Value → World → Prop} {a0_x a1_k : Value} {w : World} (h : s313 Tryz.prog k a0_x a1_k w) : Calls Tryz.prog 313 #[a0_x, a1_k] w (retP k) :=
  calls_of_vcF [] mixedXBits Tryz.func313 (by kernel_rfl) (Eq.mp (e313 k a0_x a1_k w) h)
theorem n313 {args : Array Value} {w : World} {k : Value → World → Prop} (h : Calls Tryz.prog 313 args w (retP k)) : SN Tryz.prog (callFunc 313 args) w k := sn_call Tryz.func313 (by kernel_rfl) (by kernel_rfl) h

end Go.Proofs.YtkdghnbogkbedaaGreatDoor

namespace Go.Proofs.YtkdghnbogkbedaaGreatDoor
open Go Go.Sh
set_option maxRecDepth 100000


theorem mixedXSha : Tryz.prog.follows .mixedOrders = true := by kernel_rfl

/-! ### 151: scrinium/sha.Of -/

def s151_l1 (P : Program) (k : Value → World → Prop) (a0_parts : Value) (t2 : Value) (t6 : Value) (t8 : Value) (t9 : Value) (next : List Value → World → Prop) (w : World) : Prop :=
  SV P (binOp .lss 3 t9 t8) w fun t10 w =>
  CN t10
  (SV P (Instr.indexAt 249 a0_parts t9) w fun t11 w =>
  SV P (Instr.loadAt 9 t11) w fun t12 w =>
  SN P (callFunc 232 #[t6, t12]) w fun _ w =>
  SV P (binOp .add 3 t9 (Value.int .i64 1)) w fun t16 w =>
  next [t16] w)
  (SN P (callFunc 233 #[t6]) w fun t18 w =>
  SU P (Instr.storeAt 29 t2 t18) w fun w =>
  CR P 29 t2 w fun t2_1 =>
  k t2_1 w)

def s151 (P : Program) (k : Value → World → Prop) (a0_parts : Value) (w : World) : Prop :=
  SV P (Instr.alloc 29 true (.tuple #[])) w fun t2 w =>
  SN P (callFunc 231 #[]) w fun t6 w =>
  SV P (Builtin.len_ #[249] 3 #[a0_parts]) w fun t8 w =>
  LP 1 [(Value.int .i64 0)] w (fun next _ us w => s151_l1 P k a0_parts t2 t6 t8 (us.getD 0 undef) next w)

theorem e151 (k : Value → World → Prop) (a0_parts : Value) (w : World) : s151 Tryz.prog k a0_parts w = vcF Tryz.prog Tryz.f151 [9] [a0_parts] k w := by kernel_rfl
theorem c151 {k : Value → World → Prop} {a0_parts : Value} {w : World} (h : s151 Tryz.prog k a0_parts w) : Calls Tryz.prog 151 #[a0_parts] w (retP k) :=
  calls_of_vcF [9] mixedXSha Tryz.func151 (by kernel_rfl) (Eq.mp (e151 k a0_parts w) h)
theorem n151 {args : Array Value} {w : World} {k : Value → World → Prop} (h : Calls Tryz.prog 151 args w (retP k)) : SN Tryz.prog (callFunc 151 args) w k := sn_call Tryz.func151 (by kernel_rfl) (by kernel_rfl) h

/-! ### 163: scrinium/sha.Bytes -/

def s163 (P : Program) (k : Value → World → Prop) (a0_s : Value) (w : World) : Prop :=
  SV P (Instr.box 29 a0_s) w fun s1 w =>
  SV P (Instr.sliceAt 29 s1 none none none) w fun t3 w =>
  SV P (convert 151 9 t3) w fun t4 w =>
  k t4 w

theorem e163 (k : Value → World → Prop) (a0_s : Value) (w : World) : s163 Tryz.prog k a0_s w = vcF Tryz.prog Tryz.f163 [] [a0_s] k w := by kernel_rfl
theorem c163 {k : Value → World → Prop} {a0_s : Value} {w : World} (h : s163 Tryz.prog k a0_s w) : Calls Tryz.prog 163 #[a0_s] w (retP k) :=
  calls_of_vcF [] mixedXSha Tryz.func163 (by kernel_rfl) (Eq.mp (e163 k a0_s w) h)
theorem n163 {args : Array Value} {w : World} {k : Value → World → Prop} (h : Calls Tryz.prog 163 args w (retP k)) : SN Tryz.prog (callFunc 163 args) w k := sn_call Tryz.func163 (by kernel_rfl) (by kernel_rfl) h

/-! ### 231: scrinium/sha.New -/

def s231 (P : Program) (k : Value → World → Prop) (w : World) : Prop :=
  SV P (Instr.build 282 #[]) w fun t1 w =>
  SV P (Instr.box 282 t1) w fun t2 w =>
  k t2 w

theorem e231 (k : Value → World → Prop) (w : World) : s231 Tryz.prog k  w = vcF Tryz.prog Tryz.f231 [] [] k w := by kernel_rfl
theorem c231 {k : Value → World → Prop} {w : World} (h : s231 Tryz.prog k  w) : Calls Tryz.prog 231 #[] w (retP k) :=
  calls_of_vcF [] mixedXSha Tryz.func231 (by kernel_rfl) (Eq.mp (e231 k  w) h)
theorem n231 {args : Array Value} {w : World} {k : Value → World → Prop} (h : Calls Tryz.prog 231 args w (retP k)) : SN Tryz.prog (callFunc 231 args) w k := sn_call Tryz.func231 (by kernel_rfl) (by kernel_rfl) h

/-! ### 232: (*scrinium/sha.Hash).Write -/

def s232_j1 (P : Program) (k : Value → World → Prop) (a0_h : Value) (a1_s : Value) (w : World) : Prop :=
  SV P (nilS a0_h) w fun t20 w =>
  SV P (Instr.fieldAt 282 t20 3) w fun t21 w =>
  SV P (Instr.loadAt 3 t21) w fun t22 w =>
  SV P (Builtin.len_ #[9] 3 #[a1_s]) w fun t24 w =>
  SV P (binOp .add 3 t22 t24) w fun t25 w =>
  SV P (nilS a0_h) w fun t26 w =>
  SV P (Instr.fieldAt 282 t26 3) w fun t27 w =>
  SU P (Instr.storeAt 3 t27 t25) w fun w =>
  HR w fun C w =>
  HV P C (nilS a0_h) fun t32 =>
  HV P C (Instr.fieldAt 282 t32 1) fun t33 =>
  HV P C (Instr.loadAt 200 t33) fun t34 =>
  HV P C (nilS a0_h) fun t36 =>
  HV P C (Instr.fieldAt 282 t36 2) fun t37 =>
  HV P C (Instr.loadAt 9 t37) fun t38 =>
  HV P C (binOp .add 9 t38 a1_s) fun t40 =>
  SN P (callFunc 267 #[t34, t40]) w fun t41 w =>
  RS C w fun C =>
  HV P C (Instr.extract t41 0) fun t42 =>
  HV P C (Instr.extract t41 1) fun t43 =>
  HV P C (nilS a0_h) fun t44 =>
  HV P C (Instr.fieldAt 282 t44 1) fun t45 =>
  SU P (Instr.storeAt 200 t45 t42) w fun w =>
  C w ∧
  HV P C (nilS a0_h) fun t46 =>
  HV P C (Instr.fieldAt 282 t46 2) fun t47 =>
  SU P (Instr.storeAt 9 t47 t43) w fun w =>
  SV P (Builtin.len_ #[9] 3 #[a1_s]) w fun t49 w =>
  k t49 w

def s232 (P : Program) (k : Value → World → Prop) (a0_h : Value) (a1_s : Value) (w : World) : Prop :=
  SV P (eqS .eql 261 (.tmp 5) (.const (Value.pointer none)) a0_h (Value.pointer none)) w fun t6 w =>
  CN t6
  (k (Value.int .i64 0) w)
  (JP 0 (fun j =>
  SV P (nilS a0_h) w fun t8 w =>
  SV P (Instr.fieldAt 282 t8 0) w fun t9 w =>
  SV P (Instr.loadAt 4 t9) w fun t10 w =>
  SV P (Op.unary .not t10) w fun t11 w =>
  CN t11
  (SN P (callFunc 266 #[]) w fun t14 w =>
  SV P (nilS a0_h) w fun t15 w =>
  SV P (Instr.fieldAt 282 t15 0) w fun t16 w =>
  SU P (Instr.storeAt 4 t16 (Value.bool true)) w fun w =>
  SV P (nilS a0_h) w fun t17 w =>
  SV P (Instr.fieldAt 282 t17 1) w fun t18 w =>
  SU P (Instr.storeAt 200 t18 t14) w fun w =>
  j [] w)
  (j [] w))
  (fun _ _ w => s232_j1 P k a0_h a1_s w))

theorem e232 (k : Value → World → Prop) (a0_h a1_s : Value) (w : World) : s232 Tryz.prog k a0_h a1_s w = vcF Tryz.prog Tryz.f232 [] [a0_h, a1_s] k w := by kernel_rfl
theorem c232 {k : Value → World → Prop} {a0_h a1_s : Value} {w : World} (h : s232 Tryz.prog k a0_h a1_s w) : Calls Tryz.prog 232 #[a0_h, a1_s] w (retP k) :=
  calls_of_vcF [] mixedXSha Tryz.func232 (by kernel_rfl) (Eq.mp (e232 k a0_h a1_s w) h)
theorem n232 {args : Array Value} {w : World} {k : Value → World → Prop} (h : Calls Tryz.prog 232 args w (retP k)) : SN Tryz.prog (callFunc 232 args) w k := sn_call Tryz.func232 (by kernel_rfl) (by kernel_rfl) h

/-! ### 233: (*scrinium/sha.Hash).Sum -/

def s233_l1 (P : Program) (k : Value → World → Prop) (t2 : Value) (state3 : Value) (out9 : Value) (t63 : Value) (next_1 : List Value → World → Prop) (w : World) : Prop :=
  SV P (binOp .lss 3 t63 (Value.int .i64 32)) w fun t64 w =>
  CN t64
  (SV P (binOp .quo 3 t63 (Value.int .i64 4)) w fun t68 w =>
  SV P (Instr.indexAt 200 state3 t68) w fun t69 w =>
  SV P (Instr.loadAt 199 t69) w fun t70 w =>
  SV P (binOp .rem 3 t63 (Value.int .i64 4)) w fun t72 w =>
  SV P (binOp .mul 3 (Value.int .i64 8) t72) w fun t73 w =>
  SV P (binOp .sub 3 (Value.int .i64 24) t73) w fun t74 w =>
  SV P (binOp .shr 199 t70 t74) w fun t75 w =>
  SV P (convert 199 5 t75) w fun t76 w =>
  SV P (Instr.indexAt 29 out9 t63) w fun t77 w =>
  SU P (Instr.storeAt 5 t77 t76) w fun w =>
  SV P (binOp .add 3 t63 (Value.int .i64 1)) w fun t78 w =>
  next_1 [t78] w)
  (SV P (Instr.loadAt 29 out9) w fun t79 w =>
  SU P (Instr.storeAt 29 t2 t79) w fun w =>
  CR P 29 t2 w fun t2_1 =>
  k t2_1 w)

def s233_l2 (P : Program) (k : Value → World → Prop) (t2 : Value) (state3 : Value) (rest4 : Value) (size5 : Value) (t36 : Value) (n7 : Value) (t37 : Value) (next : List Value → World → Prop) (w : World) : Prop :=
  SV P (binOp .lss 3 t37 (Value.int .i64 8)) w fun t38 w =>
  CN t38
  (SV P (binOp .mul 198 size5 (Value.int .u64 8)) w fun t42 w =>
  SV P (binOp .sub 3 (Value.int .i64 7) t37) w fun t44 w =>
  SV P (binOp .mul 3 (Value.int .i64 8) t44) w fun t45 w =>
  SV P (binOp .shr 198 t42 t45) w fun t46 w =>
  SV P (convert 198 5 t46) w fun t47 w =>
  SV P (Instr.indexAt 285 n7 t37) w fun t48 w =>
  SU P (Instr.storeAt 5 t48 t47) w fun w =>
  SV P (binOp .add 3 t37 (Value.int .i64 1)) w fun t49 w =>
  next [t49] w)
  (HR w fun C w =>
  HV P C (Instr.loadAt 200 state3) fun t51 =>
  HV P C (binOp .add 9 rest4 (str [128])) fun t53 =>
  SN P (callFunc 242 #[(str [0]), t36]) w fun t55 w =>
  C w ∧
  HV P C (binOp .add 9 t53 t55) fun t56 =>
  HV P C (Instr.sliceAt 285 n7 none none none) fun t57 =>
  HV P C (convert 151 9 t57) fun t58 =>
  HV P C (binOp .add 9 t56 t58) fun t59 =>
  SN P (callFunc 267 #[t51, t59]) w fun t60 w =>
  RS C w fun C =>
  HV P C (Instr.extract t60 0) fun t61 =>
  HV P C (Instr.extract t60 1) fun _ =>
  SU P (Instr.storeAt 200 state3 t61) w fun w =>
  C w ∧
  SV P (Instr.alloc 29 true (.tuple #[])) w fun out9 w =>
  LP 1 [(Value.int .i64 0)] w (fun next_1 _ us w => s233_l1 P k t2 state3 out9 (us.getD 0 undef) next_1 w))

def s233_j1 (P : Program) (k : Value → World → Prop) (t2 : Value) (state3 : Value) (rest4 : Value) (size5 : Value) (w : World) : Prop :=
  SV P (Builtin.len_ #[9] 3 #[rest4]) w fun t34 w =>
  SV P (binOp .sub 3 (Value.int .i64 119) t34) w fun t35 w =>
  SV P (binOp .rem 3 t35 (Value.int .i64 64)) w fun t36 w =>
  SV P (Instr.alloc 285 true (.tuple #[])) w fun n7 w =>
  LP 1 [(Value.int .i64 0)] w (fun next _ us w => s233_l2 P k t2 state3 rest4 size5 t36 n7 (us.getD 0 undef) next w)

def s233 (P : Program) (k : Value → World → Prop) (a0_h : Value) (w : World) : Prop :=
  SV P (Instr.alloc 29 true (.tuple #[])) w fun t2 w =>
  SN P (callFunc 266 #[]) w fun t11 w =>
  SV P (Instr.alloc 200 true (.tuple #[])) w fun state3 w =>
  SU P (Instr.storeAt 200 state3 t11) w fun w =>
  JP 2 (fun j =>
  SV P (eqS .neq 261 (.tmp 12) (.const (Value.pointer none)) a0_h (Value.pointer none)) w fun t13 w =>
  GD t13 true
  (SV P (nilS a0_h) w fun t16 w =>
  SV P (Instr.fieldAt 282 t16 0) w fun t17 w =>
  SV P (Instr.loadAt 4 t17) w fun t18 w =>
  CN t18
  (HR w fun C w =>
  HV P C (nilS a0_h) fun t21 =>
  HV P C (Instr.fieldAt 282 t21 1) fun t22 =>
  HV P C (Instr.loadAt 200 t22) fun t23 =>
  HV P C (nilS a0_h) fun t25 =>
  HV P C (Instr.fieldAt 282 t25 2) fun t26 =>
  HV P C (Instr.loadAt 9 t26) fun t27 =>
  HV P C (nilS a0_h) fun t29 =>
  HV P C (Instr.fieldAt 282 t29 3) fun t30 =>
  HV P C (Instr.loadAt 3 t30) fun t31 =>
  HV P C (convert 3 198 t31) fun t32 =>
  SU P (Instr.storeAt 200 state3 t23) w fun w =>
  C w ∧
  j [t27, t32] w)
  (j [(str []), (Value.int .u64 0)] w))
  (j [(str []), (Value.int .u64 0)] w))
  (fun _ us w => s233_j1 P k t2 state3 (us.getD 0 undef) (us.getD 1 undef) w)

theorem e233 (k : Value → World → Prop) (a0_h : Value) (w : World) : s233 Tryz.prog k a0_h w = vcF Tryz.prog Tryz.f233 [4, 5, 37, 63] [a0_h] k w := by kernel_rfl
theorem c233 {k : Value → World → Prop} {a0_h : Value} {w : World} (h : s233 Tryz.prog k a0_h w) : Calls Tryz.prog 233 #[a0_h] w (retP k) :=
  calls_of_vcF [4, 5, 37, 63] mixedXSha Tryz.func233 (by kernel_rfl) (Eq.mp (e233 k a0_h w) h)
theorem n233 {args : Array Value} {w : World} {k : Value → World → Prop} (h : Calls Tryz.prog 233 args w (retP k)) : SN Tryz.prog (callFunc 233 args) w k := sn_call Tryz.func233 (by kernel_rfl) (by kernel_rfl) h

/-! ### 266: scrinium/sha.Start -/

def s266 (P : Program) (k : Value → World → Prop) (w : World) : Prop :=
  SV P (Instr.alloc 200 true (.tuple #[])) w fun t0 w =>
  SV P (Instr.build 200 #[(0, (Value.int .u32 1779033703)), (1, (Value.int .u32 3144134277)), (2, (Value.int .u32 1013904242)), (3, (Value.int .u32 2773480762)), (4, (Value.int .u32 1359893119)), (5, (Value.int .u32 2600822924)), (6, (Value.int .u32 528734635)), (7, (Value.int .u32 1541459225))]) w fun t1 w =>
  SU P (Instr.storeAt 200 t0 t1) w fun w =>
  CR P 200 t0 w fun t0_1 =>
  k t0_1 w

theorem e266 (k : Value → World → Prop) (w : World) : s266 Tryz.prog k  w = vcF Tryz.prog Tryz.f266 [] [] k w := by kernel_rfl
theorem c266 {k : Value → World → Prop} {w : World} (h : s266 Tryz.prog k  w) : Calls Tryz.prog 266 #[] w (retP k) :=
  calls_of_vcF [] mixedXSha Tryz.func266 (by kernel_rfl) (Eq.mp (e266 k  w) h)
theorem n266 {args : Array Value} {w : World} {k : Value → World → Prop} (h : Calls Tryz.prog 266 args w (retP k)) : SN Tryz.prog (callFunc 266 args) w k := sn_call Tryz.func266 (by kernel_rfl) (by kernel_rfl) h

/-! ### 267: scrinium/sha.blocks -/

def s267_l1 (P : Program) (_ : Value → World → Prop) (state2 : Value) (s1 : Value) (next : List Value → World → Prop) (b6 : Value) (t11_1 : Value) (next_1 : List Value → World → Prop) (w : World) : Prop :=
  SV P (binOp .lss 3 t11_1 (Value.int .i64 64)) w fun t12 w =>
  CN t12
  (HR w fun C w =>
  HV P C (binOp .quo 3 t11_1 (Value.int .i64 4)) fun t15 =>
  HV P C (binOp .quo 3 t11_1 (Value.int .i64 4)) fun t17 =>
  HV P C (Instr.indexAt 202 b6 t17) fun t18 =>
  HV P C (Instr.loadAt 199 t18) fun t19 =>
  HV P C (binOp .shl 199 t19 (Value.int .u64 8)) fun t20 =>
  HV P C (Instr.index 9 s1 t11_1) fun t23 =>
  HV P C (convert 5 199 t23) fun t24 =>
  HV P C (binOp .or 199 t20 t24) fun t25 =>
  HV P C (Instr.indexAt 202 b6 t15) fun t26 =>
  SU P (Instr.storeAt 199 t26 t25) w fun w =>
  SV P (binOp .add 3 t11_1 (Value.int .i64 1)) w fun t27 w =>
  next_1 [t27] w)
  (SV P (Instr.loadAt 200 state2) w fun t28 w =>
  SV P (Instr.loadAt 202 b6) w fun t29 w =>
  SN P (callFunc 290 #[t28, t29]) w fun t30 w =>
  SU P (Instr.storeAt 200 state2 t30) w fun w =>
  SV P (Instr.sliceAt 9 s1 (some (Value.int .i64 64)) none none) w fun t32 w =>
  next [t11_1, t32] w)

def s267_l2 (P : Program) (k : Value → World → Prop) (state2 : Value) (t4 : Value) (s1 : Value) (next : List Value → World → Prop) (w : World) : Prop :=
  SV P (Builtin.len_ #[9] 3 #[s1]) w fun t9 w =>
  SV P (binOp .geq 3 t9 (Value.int .i64 64)) w fun t10 w =>
  CN t10
  (SV P (Instr.alloc 202 true (.tuple #[])) w fun b6 w =>
  LP 1 [(Value.int .i64 0)] w (fun next_1 _ us w => s267_l1 P k state2 s1 next b6 (us.getD 0 undef) next_1 w))
  (SV P (Instr.loadAt 200 state2) w fun t33 w =>
  SU P (Instr.storeAt 200 t4 t33) w fun w =>
  CR P 200 t4 w fun t4_1 =>
  k (.tuple #[t4_1, s1]) w)

def s267 (P : Program) (k : Value → World → Prop) (a0_state : Value) (a1_s : Value) (w : World) : Prop :=
  SV P (Instr.box 200 a0_state) w fun state2 w =>
  SV P (Instr.alloc 200 true (.tuple #[])) w fun t4 w =>
  LP 2 [undef, a1_s] w (fun next _ us w => s267_l2 P k state2 t4 (us.getD 1 undef) next w)

theorem e267 (k : Value → World → Prop) (a0_state a1_s : Value) (w : World) : s267 Tryz.prog k a0_state a1_s w = vcF Tryz.prog Tryz.f267 [1, 11] [a0_state, a1_s] k w := by kernel_rfl
theorem c267 {k : Value → World → Prop} {a0_state a1_s : Value} {w : World} (h : s267 Tryz.prog k a0_state a1_s w) : Calls Tryz.prog 267 #[a0_state, a1_s] w (retP k) :=
  calls_of_vcF [1, 11] mixedXSha Tryz.func267 (by kernel_rfl) (Eq.mp (e267 k a0_state a1_s w) h)
theorem n267 {args : Array Value} {w : World} {k : Value → World → Prop} (h : Calls Tryz.prog 267 args w (retP k)) : SN Tryz.prog (callFunc 267 args) w k := sn_call Tryz.func267 (by kernel_rfl) (by kernel_rfl) h

/-! ### 290: scrinium/sha.Step -/

def s290_l1 (P : Program) (k : Value → World → Prop) (state2 : Value) (t4 : Value) (t97 : Value) (t98 : Value) (next_1 : List Value → World → Prop) (w : World) : Prop :=
  SV P (binOp .lss 3 t98 (Value.int .i64 8)) w fun t99 w =>
  CN t99
  (SV P (Instr.index 200 t97 t98) w fun t101 w =>
  SV P (Instr.indexAt 200 state2 t98) w fun t103 w =>
  SV P (Instr.loadAt 199 t103) w fun t104 w =>
  SV P (binOp .add 199 t104 t101) w fun t106 w =>
  SV P (Instr.indexAt 200 state2 t98) w fun t107 w =>
  SU P (Instr.storeAt 199 t107 t106) w fun w =>
  SV P (binOp .add 3 t98 (Value.int .i64 1)) w fun t108 w =>
  next_1 [t108] w)
  (SV P (Instr.loadAt 200 state2) w fun t109 w =>
  SU P (Instr.storeAt 200 t4 t109) w fun w =>
  CR P 200 t4 w fun t4_1 =>
  k t4_1 w)

def s290_l2 (P : Program) (k : Value → World → Prop) (state2 : Value) (t4 : Value) (w5 : Value) (t38 : Value) (a6 : Value) (b7 : Value) (c8 : Value) (d9 : Value) (e10 : Value) (f11 : Value) (g12 : Value) (h13 : Value) (t39 : Value) (next : List Value → World → Prop) (w : World) : Prop :=
  SV P (binOp .lss 3 t39 (Value.int .i64 64)) w fun t40 w =>
  CN t40
  (SV P (Instr.index 258 t38 t39) w fun t42 w =>
  HR w fun C w =>
  SN P (callFunc 306 #[e10, (Value.int .i64 6), (Value.int .i64 11), (Value.int .i64 25)]) w fun t45 w =>
  RS C w fun C =>
  HV P C (binOp .add 199 h13 t45) fun t46 =>
  HV P C (binOp .and 199 e10 f11) fun t49 =>
  HV P C (Op.unary .xor e10) fun t51 =>
  HV P C (binOp .and 199 t51 g12) fun t53 =>
  HV P C (binOp .xor 199 t49 t53) fun t54 =>
  HV P C (binOp .add 199 t46 t54) fun t55 =>
  HV P C (binOp .add 199 t55 t42) fun t57 =>
  HV P C (Instr.indexAt 258 w5 t39) fun t59 =>
  HV P C (Instr.loadAt 199 t59) fun t60 =>
  HV P C (binOp .add 199 t57 t60) fun t61 =>
  SN P (callFunc 306 #[a6, (Value.int .i64 2), (Value.int .i64 13), (Value.int .i64 22)]) w fun t63 w =>
  SV P (binOp .and 199 a6 b7) w fun t66 w =>
  SV P (binOp .and 199 a6 c8) w fun t69 w =>
  SV P (binOp .xor 199 t66 t69) w fun t70 w =>
  SV P (binOp .and 199 b7 c8) w fun t73 w =>
  SV P (binOp .xor 199 t70 t73) w fun t74 w =>
  SV P (binOp .add 199 t63 t74) w fun t75 w =>
  SV P (binOp .add 199 t61 t75) w fun t78 w =>
  SV P (binOp .add 199 d9 t61) w fun t84 w =>
  SV P (binOp .add 3 t39 (Value.int .i64 1)) w fun t88 w =>
  next [t78, a6, b7, c8, t84, e10, f11, g12, t88] w)
  (SV P (Instr.build 200 #[(0, a6), (1, b7), (2, c8), (3, d9), (4, e10), (5, f11), (6, g12), (7, h13)]) w fun t97 w =>
  LP 1 [(Value.int .i64 0)] w (fun next_1 _ us w => s290_l1 P k state2 t4 t97 (us.getD 0 undef) next_1 w))

def s290 (P : Program) (k : Value → World → Prop) (a0_state : Value) (a1_block : Value) (w : World) : Prop :=
  SV P (Instr.box 200 a0_state) w fun state2 w =>
  SV P (Instr.box 202 a1_block) w fun block3 w =>
  SV P (Instr.alloc 200 true (.tuple #[])) w fun t4 w =>
  SV P (Instr.loadAt 202 block3) w fun t20 w =>
  SN P (callFunc 305 #[t20]) w fun t21 w =>
  SV P (Instr.alloc 258 true (.tuple #[])) w fun w5 w =>
  SU P (Instr.storeAt 258 w5 t21) w fun w =>
  HR w fun C w =>
  HV P C (Instr.indexAt 200 state2 (Value.int .i64 0)) fun t22 =>
  HV P C (Instr.loadAt 199 t22) fun t23 =>
  HV P C (Instr.indexAt 200 state2 (Value.int .i64 1)) fun t24 =>
  HV P C (Instr.loadAt 199 t24) fun t25 =>
  HV P C (Instr.indexAt 200 state2 (Value.int .i64 2)) fun t26 =>
  HV P C (Instr.loadAt 199 t26) fun t27 =>
  HV P C (Instr.indexAt 200 state2 (Value.int .i64 3)) fun t28 =>
  HV P C (Instr.loadAt 199 t28) fun t29 =>
  HR w fun C w =>
  HV P C (Instr.indexAt 200 state2 (Value.int .i64 4)) fun t30 =>
  HV P C (Instr.loadAt 199 t30) fun t31 =>
  HV P C (Instr.indexAt 200 state2 (Value.int .i64 5)) fun t32 =>
  HV P C (Instr.loadAt 199 t32) fun t33 =>
  HV P C (Instr.indexAt 200 state2 (Value.int .i64 6)) fun t34 =>
  HV P C (Instr.loadAt 199 t34) fun t35 =>
  HV P C (Instr.indexAt 200 state2 (Value.int .i64 7)) fun t36 =>
  HV P C (Instr.loadAt 199 t36) fun t37 =>
  SV P (Instr.loadAt 258 (Value.pointer (some ⟨1, 0, none⟩))) w fun t38 w =>
  LP 9 [t23, t25, t27, t29, t31, t33, t35, t37, (Value.int .i64 0)] w (fun next _ us w => s290_l2 P k state2 t4 w5 t38 (us.getD 0 undef) (us.getD 1 undef) (us.getD 2 undef) (us.getD 3 undef) (us.getD 4 undef) (us.getD 5 undef) (us.getD 6 undef) (us.getD 7 undef) (us.getD 8 undef) next w)

theorem e290 (k : Value → World → Prop) (a0_state a1_block : Value) (w : World) : s290 Tryz.prog k a0_state a1_block w = vcF Tryz.prog Tryz.f290 [6, 7, 8, 9, 10, 11, 12, 13, 39, 98] [a0_state, a1_block] k w := by kernel_rfl
theorem c290 {k : Value → World → Prop} {a0_state a1_block : Value} {w : World} (h : s290 Tryz.prog k a0_state a1_block w) : Calls Tryz.prog 290 #[a0_state, a1_block] w (retP k) :=
  calls_of_vcF [6, 7, 8, 9, 10, 11, 12, 13, 39, 98] mixedXSha Tryz.func290 (by kernel_rfl) (Eq.mp (e290 k a0_state a1_block w) h)
theorem n290 {args : Array Value} {w : World} {k : Value → World → Prop} (h : Calls Tryz.prog 290 args w (retP k)) : SN Tryz.prog (callFunc 290 args) w k := sn_call Tryz.func290 (by kernel_rfl) (by kernel_rfl) h

/-! ### 291: (*scrinium/sha.Hash).Copy -/

def s291 (P : Program) (k : Value → World → Prop) (a0_h : Value) (w : World) : Prop :=
  SV P (eqS .eql 261 (.tmp 4) (.const (Value.pointer none)) a0_h (Value.pointer none)) w fun t5 w =>
  CN t5
  (k (Value.pointer none) w)
  (SV P (nilS a0_h) w fun t7 w =>
  SV P (Instr.loadAt 282 t7) w fun t8 w =>
  SV P (Instr.alloc 282 true (.tuple #[])) w fun c3 w =>
  SU P (Instr.storeAt 282 c3 t8) w fun w =>
  k c3 w)

theorem e291 (k : Value → World → Prop) (a0_h : Value) (w : World) : s291 Tryz.prog k a0_h w = vcF Tryz.prog Tryz.f291 [] [a0_h] k w := by kernel_rfl
theorem c291 {k : Value → World → Prop} {a0_h : Value} {w : World} (h : s291 Tryz.prog k a0_h w) : Calls Tryz.prog 291 #[a0_h] w (retP k) :=
  calls_of_vcF [] mixedXSha Tryz.func291 (by kernel_rfl) (Eq.mp (e291 k a0_h w) h)
theorem n291 {args : Array Value} {w : World} {k : Value → World → Prop} (h : Calls Tryz.prog 291 args w (retP k)) : SN Tryz.prog (callFunc 291 args) w k := sn_call Tryz.func291 (by kernel_rfl) (by kernel_rfl) h

/-! ### 305: scrinium/sha.schedule -/

def s305_l1 (P : Program) (k : Value → World → Prop) (t2 : Value) (w3 : Value) (t5 : Value) (next : List Value → World → Prop) (w : World) : Prop :=
  SV P (binOp .lss 3 t5 (Value.int .i64 64)) w fun t10 w =>
  CN t10
  (HR w fun C w =>
  HV P C (binOp .sub 3 t5 (Value.int .i64 2)) fun t16 =>
  HV P C (Instr.indexAt 258 w3 t16) fun t17 =>
  HV P C (Instr.loadAt 199 t17) fun t18 =>
  SN P (callV (Value.func (.func 312) #[] #[]) #[t18, (Value.int .i64 17), (Value.int .i64 19), (Value.int .i64 10)]) w fun t19 w =>
  RS C w fun C =>
  HV P C (binOp .sub 3 t5 (Value.int .i64 7)) fun t21 =>
  HV P C (Instr.indexAt 258 w3 t21) fun t22 =>
  HV P C (Instr.loadAt 199 t22) fun t23 =>
  HV P C (binOp .add 199 t19 t23) fun t24 =>
  HV P C (binOp .sub 3 t5 (Value.int .i64 15)) fun t27 =>
  HV P C (Instr.indexAt 258 w3 t27) fun t28 =>
  HV P C (Instr.loadAt 199 t28) fun t29 =>
  SN P (callV (Value.func (.func 312) #[] #[]) #[t29, (Value.int .i64 7), (Value.int .i64 18), (Value.int .i64 3)]) w fun t30 w =>
  C w ∧
  HV P C (binOp .add 199 t24 t30) fun t31 =>
  HV P C (binOp .sub 3 t5 (Value.int .i64 16)) fun t33 =>
  HV P C (Instr.indexAt 258 w3 t33) fun t34 =>
  HV P C (Instr.loadAt 199 t34) fun t35 =>
  HV P C (binOp .add 199 t31 t35) fun t36 =>
  HV P C (Instr.indexAt 258 w3 t5) fun t37 =>
  SU P (Instr.storeAt 199 t37 t36) w fun w =>
  SV P (binOp .add 3 t5 (Value.int .i64 1)) w fun t12 w =>
  next [t12] w)
  (SV P (Instr.loadAt 258 w3) w fun t38 w =>
  SU P (Instr.storeAt 258 t2 t38) w fun w =>
  CR P 258 t2 w fun t2_1 =>
  k t2_1 w)

def s305 (P : Program) (k : Value → World → Prop) (a0_block : Value) (w : World) : Prop :=
  SV P (Instr.box 202 a0_block) w fun block1 w =>
  SV P (Instr.alloc 258 true (.tuple #[])) w fun t2 w =>
  SV P (Instr.alloc 258 true (.tuple #[])) w fun w3 w =>
  HR w fun C w =>
  HV P C (Instr.sliceAt 258 w3 none none none) fun t6 =>
  HV P C (Instr.sliceAt 202 block1 none none none) fun t7 =>
  SV P (Builtin.copy_ #[326, 326] 3 #[t6, t7]) w fun _ w =>
  LP 1 [(Value.int .i64 16)] w (fun next _ us w => s305_l1 P k t2 w3 (us.getD 0 undef) next w)

theorem e305 (k : Value → World → Prop) (a0_block : Value) (w : World) : s305 Tryz.prog k a0_block w = vcF Tryz.prog Tryz.f305 [5] [a0_block] k w := by kernel_rfl
theorem c305 {k : Value → World → Prop} {a0_block : Value} {w : World} (h : s305 Tryz.prog k a0_block w) : Calls Tryz.prog 305 #[a0_block] w (retP k) :=
  calls_of_vcF [5] mixedXSha Tryz.func305 (by kernel_rfl) (Eq.mp (e305 k a0_block w) h)
theorem n305 {args : Array Value} {w : World} {k : Value → World → Prop} (h : Calls Tryz.prog 305 args w (retP k)) : SN Tryz.prog (callFunc 305 args) w k := sn_call Tryz.func305 (by kernel_rfl) (by kernel_rfl) h

/-! ### 306: scrinium/sha.turn -/

def s306 (P : Program) (k : Value → World → Prop) (a0_x : Value) (a1_a : Value) (a2_b : Value) (a3_c : Value) (w : World) : Prop :=
  SV P (Op.unary .neg a1_a) w fun t11 w =>
  SN P (callFunc 313 #[a0_x, t11]) w fun t12 w =>
  SV P (Op.unary .neg a2_b) w fun t15 w =>
  SN P (callFunc 313 #[a0_x, t15]) w fun t16 w =>
  SV P (binOp .xor 199 t12 t16) w fun t17 w =>
  SV P (Op.unary .neg a3_c) w fun t20 w =>
  SN P (callFunc 313 #[a0_x, t20]) w fun t21 w =>
  SV P (binOp .xor 199 t17 t21) w fun t22 w =>
  k t22 w

theorem e306 (k : Value → World → Prop) (a0_x a1_a a2_b a3_c : Value) (w : World) : s306 Tryz.prog k a0_x a1_a a2_b a3_c w = vcF Tryz.prog Tryz.f306 [] [a0_x, a1_a, a2_b, a3_c] k w := by kernel_rfl
theorem c306 {k : Value → World → Prop} {a0_x a1_a a2_b a3_c : Value} {w : World} (h : s306 Tryz.prog k a0_x a1_a a2_b a3_c w) : Calls Tryz.prog 306 #[a0_x, a1_a, a2_b, a3_c] w (retP k) :=
  calls_of_vcF [] mixedXSha Tryz.func306 (by kernel_rfl) (Eq.mp (e306 k a0_x a1_a a2_b a3_c w) h)
theorem n306 {args : Array Value} {w : World} {k : Value → World → Prop} (h : Calls Tryz.prog 306 args w (retP k)) : SN Tryz.prog (callFunc 306 args) w k := sn_call Tryz.func306 (by kernel_rfl) (by kernel_rfl) h

/-! ### 312: scrinium/sha.schedule$1 -/

def s312 (P : Program) (k : Value → World → Prop) (a0_x : Value) (a1_a : Value) (a2_b : Value) (a3_c : Value) (w : World) : Prop :=
  HR w fun C w =>
  HV P C (Op.unary .neg a1_a) fun t11 =>
  SN P (callFunc 313 #[a0_x, t11]) w fun t12 w =>
  RS C w fun C =>
  HV P C (Op.unary .neg a2_b) fun t15 =>
  SN P (callFunc 313 #[a0_x, t15]) w fun t16 w =>
  RS C w fun C =>
  HV P C (binOp .xor 199 t12 t16) fun t17 =>
  HV P C (binOp .shr 199 a0_x a3_c) fun t20 =>
  HV P C (binOp .xor 199 t17 t20) fun t21 =>
  k t21 w

theorem e312 (k : Value → World → Prop) (a0_x a1_a a2_b a3_c : Value) (w : World) : s312 Tryz.prog k a0_x a1_a a2_b a3_c w = vcF Tryz.prog Tryz.f312 [] [a0_x, a1_a, a2_b, a3_c] k w := by kernel_rfl
theorem c312 {k : Value → World → Prop} {a0_x a1_a a2_b a3_c : Value} {w : World} (h : s312 Tryz.prog k a0_x a1_a a2_b a3_c w) : Calls Tryz.prog 312 #[a0_x, a1_a, a2_b, a3_c] w (retP k) :=
  calls_of_vcF [] mixedXSha Tryz.func312 (by kernel_rfl) (Eq.mp (e312 k a0_x a1_a a2_b a3_c w) h)
theorem n312 {args : Array Value} {w : World} {k : Value → World → Prop} (h : Calls Tryz.prog 312 args w (retP k)) : SN Tryz.prog (callFunc 312 args) w k := sn_call Tryz.func312 (by kernel_rfl) (by kernel_rfl) h

end Go.Proofs.YtkdghnbogkbedaaGreatDoor

namespace Go.Sh
open Go Go.RowKit

/-- A call that hands back v and turns nothing that was there. -/
def Ret (P : Program) (f : FuncId) (args : Array Value) (w : World) (v : Value) : Prop := Calls P f args w (retP fun v' w' => v' = v ∧ Ch No w w')

theorem Ret.use {P : Program} {f : FuncId} {args : Array Value} {w : World} {v : Value} {k : Value → World → Prop} (h : Ret P f args w v) (hk : ∀ w', Ch No w w' → k v w') : Calls P f args w (retP k) :=
  Calls.ret_mono h fun v' w' ⟨hv, hw⟩ => by subst hv; exact hk w' hw

theorem LP_intro {n : Nat} {us0 : List Value} {w : World} {body : (List Value → World → Prop) → (Nat → Value) → List Value → World → Prop} (I : List Value → World → Prop) (μ : List Value → World → Nat) (h0 : I us0 w)
    (hr : ∀ us, us.length = n → ∀ ζ w', I us w' → body (fun us'' w'' => I us'' w'' ∧ μ us'' w'' < μ us w') ζ us w') : LP n us0 w body := by
  refine ⟨I, μ, h0, ?_⟩
  have : ∀ (m : Nat) (p : List Value → Prop), (∀ us, us.length = m → p us) → AllV m p := by
    intro m
    induction m with
    | zero => intro p h; exact h [] rfl
    | succ m ih => intro p h v; exact ih _ fun us hus => h (v :: us) (by simp [hus])
  exact this n _ fun us hus ζ w' hI => hr us hus ζ w' hI

theorem JP_in {n : Nat} {A : (List Value → World → Prop) → Prop} {B : (Nat → Value) → List Value → World → Prop} (h : A fun us w => us.length = n ∧ ∀ ζ, B ζ us w) : JP n A B := by
  refine ⟨_, h, ?_⟩
  have : ∀ (m : Nat) (p : List Value → Prop), (∀ us, us.length = m → p us) → AllV m p := by
    intro m
    induction m with
    | zero => intro p h; exact h [] rfl
    | succ m ih => intro p h v; exact ih _ fun us hus => h (v :: us) (by simp [hus])
  exact this n _ fun us _ ζ w' hI => hI.2 ζ
theorem JP_cut {n : Nat} {A : (List Value → World → Prop) → Prop} {B : (Nat → Value) → List Value → World → Prop} (J : List Value → World → Prop) (hA : A J) (hB : ∀ us, us.length = n → ∀ ζ w, J us w → B ζ us w) : JP n A B := by
  refine ⟨J, hA, ?_⟩
  have : ∀ (m : Nat) (p : List Value → Prop), (∀ us, us.length = m → p us) → AllV m p := by
    intro m
    induction m with
    | zero => intro p h; exact h [] rfl
    | succ m ih => intro p h v; exact ih _ fun us hus => h (v :: us) (by simp [hus])
  exact this n _ fun us hus ζ w hJ => hB us hus ζ w hJ

theorem w64_conv {P : Program} {s d : TypeId} [IsInt P s .i64] [IsInt P d .u64] {n : Int} (h0 : 0 ≤ n) (h1 : n ≤ 9223372036854775807) : Pu P (convert s d (.int .i64 n)) (.int .u64 n) := fun w => by
  rw [pu_conv w, IntKind.wrap_u64]; congr 2; omega

end Go.Sh
namespace Go.Proofs.YtkdghnbogkbedaaGreatDoor
open Go Go.Sh Go.RowKit
set_option maxRecDepth 100000

theorem rot_and : ∀ a ∈ List.range 32, a ≠ 0 → bits .and .u64 (IntKind.u64.wrap (-(a : Int))) 31 = 32 - (a : Int) := by decide +kernel

theorem rotl (x : UInt32) (a : Nat) (h0 : a ≠ 0) (h1 : a < 32) (w : World) : Ret Tryz.prog 313 #[w32 x, .int .i64 (-(a : Int))] w (w32 (rotr x a)) := by
  refine c313 ?_
  unfold s313
  have hb := rot_and a (List.mem_range.2 h1) h0
  refine SV_pu pu_conv ?_
  refine SV_pu (v := .int .u64 (32 - (a : Int))) (fun w => by rw [binOp_and, intBits_and, hb]; rfl) ?_
  refine SV_pu (pu_w32shl (by omega) (by omega)) ?_
  refine SV_pu (v := .int .u64 a) (fun w => by rw [pu_sub w, IntKind.wrap_u64]; congr 2; omega) ?_
  refine SV_pu (pu_w32shr (by omega) (by omega)) ?_
  refine SV_pu pu_w32or ?_
  have e1 : ((32 : Int) - (a : Int)).toNat = 32 - a := by omega
  refine ⟨?_, Ch.refl w⟩
  rw [e1, UInt32.or_comm]
  rfl

theorem sha_turn (x : UInt32) (a b c : Nat) (ha : a ≠ 0 ∧ a < 32) (hb : b ≠ 0 ∧ b < 32) (hc : c ≠ 0 ∧ c < 32) (w : World) :
    Ret Tryz.prog 306 #[w32 x, .int .i64 a, .int .i64 b, .int .i64 c] w (w32 (turn x a b c)) := by
  refine c306 ?_
  unfold s306
  refine SV_pu (pu_neg (by omega)) ?_
  refine n313 ((rotl x a ha.1 ha.2 w).use fun w1 h1 => ?_)
  refine SV_pu (pu_neg (by omega)) ?_
  refine n313 ((rotl x b hb.1 hb.2 w1).use fun w2 h2 => ?_)
  refine SV_pu pu_w32xor ?_
  refine SV_pu (pu_neg (by omega)) ?_
  refine n313 ((rotl x c hc.1 hc.2 w2).use fun w3 h3 => ?_)
  refine SV_pu pu_w32xor ?_
  exact ⟨rfl, h1.trans (h2.trans h3)⟩

theorem sha_mix (x : UInt32) (a b c : Nat) (ha : a ≠ 0 ∧ a < 32) (hb : b ≠ 0 ∧ b < 32) (hc : c < 32) (w : World) :
    Ret Tryz.prog 312 #[w32 x, .int .i64 a, .int .i64 b, .int .i64 c] w (w32 (mix x a b c)) := by
  refine c312 ?_
  unfold s312
  refine HR_kp No ?_
  refine HV_pu (pu_neg (by omega)) ?_
  refine n313 ((rotl x a ha.1 ha.2 _).use fun w1 h1 => ?_)
  have h1' : Ch No w w1 := (Ch.drew w).trans h1
  (first | refine RS_same (h1') ?_ | refine ⟨h1', ?_⟩)
  refine HV_pu (pu_neg (by omega)) ?_
  refine n313 ((rotl x b hb.1 hb.2 _).use fun w2 h2 => ?_)
  (first | refine RS_same (h1'.trans h2) ?_ | refine ⟨h1'.trans h2, ?_⟩)
  refine HV_pu pu_w32xor ?_
  refine HV_pu (pu_w32shr (by omega) (by omega)) ?_
  refine HV_pu pu_w32xor ?_
  exact ⟨rfl, h1'.trans h2⟩
end Go.Proofs.YtkdghnbogkbedaaGreatDoor

namespace Go.Sh
open Go Go.RowKit

def wv (l : List UInt32) : List Value := l.map w32
@[simp] theorem wv_len (l : List UInt32) : (wv l).length = l.length := by simp [wv]
theorem wv_ones (l : List UInt32) : Ones (wv l) := by
  intro x hx
  obtain ⟨b, _, rfl⟩ := List.mem_map.1 hx
  rfl
theorem wv_get {l : List UInt32} {i : Nat} (h : i < l.length) : (wv l)[i]? = some (w32 (wAt l i)) := by simp [wv, wAt, h]
theorem wv_set {l : List UInt32} {i : Nat} {x : UInt32} : (wv l).set i (w32 x) = wv (l.set i x) := by simp [wv, List.map_set]
theorem wv_append (l m : List UInt32) : wv (l ++ m) = wv l ++ wv m := by simp [wv]
theorem wv_zero (n : Nat) : List.replicate n (Value.int .u32 0) = wv (List.replicate n 0) := by unfold wv; rw [List.map_replicate]; rfl
theorem wAt_append {l m : List UInt32} {i : Nat} (h : i < l.length) : wAt (l ++ m) i = wAt l i := by simp [wAt, List.getD, List.getElem?_append_left h]

theorem schedGo_last (n : Nat) (w : List UInt32) : schedGo (n + 1) w = schedGo n w ++ [nextW (schedGo n w) (w.length + n)] := by
  induction n generalizing w with
  | zero => rfl
  | succ n ih =>
    rw [schedGo, ih]
    simp only [schedGo, List.length_append, List.length_cons, List.length_nil]
    rw [show w.length + (0 + 1) + n = w.length + (n + 1) by omega]

/-- A schedule's row, of which the first t words are there. -/
def wRow (blk : List UInt32) (t : Nat) : List UInt32 := schedGo (t - 16) blk ++ List.replicate (64 - t) 0

theorem wRow_len {blk : List UInt32} {t : Nat} (hb : blk.length = 16) (h : 16 ≤ t) (h' : t ≤ 64) : (wRow blk t).length = 64 := by simp [wRow, schedGo_len, hb]; omega
theorem wRow_at {blk : List UInt32} {t i : Nat} (hb : blk.length = 16) (h : 16 ≤ t) (hi : i < t) : wAt (wRow blk t) i = wAt (schedGo (t - 16) blk) i := wAt_append (by rw [schedGo_len, hb]; omega)
theorem wRow_next {blk : List UInt32} {t : Nat} (hb : blk.length = 16) (h : 16 ≤ t) (h' : t < 64) :
    (wRow blk t).set t (mix (wAt (wRow blk t) (t - 2)) 17 19 10 + wAt (wRow blk t) (t - 7) + mix (wAt (wRow blk t) (t - 15)) 7 18 3 + wAt (wRow blk t) (t - 16)) = wRow blk (t + 1) := by
  rw [wRow_at hb h (by omega), wRow_at hb h (by omega), wRow_at hb h (by omega), wRow_at hb h (by omega)]
  have hl : (schedGo (t - 16) blk).length = t := by rw [schedGo_len, hb]; omega
  unfold wRow
  rw [show t + 1 - 16 = (t - 16) + 1 by omega, schedGo_last, show 64 - t = (64 - (t + 1)) + 1 by omega, hb, show 16 + (t - 16) = t by omega, List.set_append_right _ _ (by omega), hl, Nat.sub_self, List.replicate_succ, List.set_cons_zero, List.append_assoc]
  rfl
theorem wRow_end {blk : List UInt32} : wRow blk 64 = sched blk := by simp [wRow, sched]
theorem wRow_start {blk : List UInt32} : wRow blk 16 = blk ++ List.replicate 48 0 := rfl

theorem round_l (s : S8) (k w : UInt32) : (round s k w).l = [one s k w + two s, s.a, s.b, s.c, s.d + one s k w, s.e, s.f, s.g] := rfl

/-- The keys, where the program has them. -/
def KeysAt (w : World) : Prop := Pt w (.pointer (some ⟨1, 0, none⟩)) (wv keys)
theorem KeysAt.ch {w w' : World} {S : Nat → Prop} (h : KeysAt w) (hc : Ch S w w') (hS : ¬ S 1) : KeysAt w' := Pt.ch h hc (by rintro b hb; cases hb; exact hS)
theorem KeysAt.no {w w' : World} (h : KeysAt w) (hc : Ch No w w') : KeysAt w' := h.ch hc fun h => h

theorem Pt.load {P : Program} {w : World} {ty n : TypeId} [Many P ty n] {p : Value} {us : List Value} {k : Value → World → Prop} (h : Pt w p us) (hl : us.length = n) (hk : k (ag us) w) : SV P (Instr.loadAt ty p) w k := SV_ptrN h hl hk
end Go.Sh
namespace Go.Proofs.YtkdghnbogkbedaaGreatDoor
open Go Go.Sh Go.RowKit
set_option maxRecDepth 100000

theorem sha_schedule (blk : List UInt32) (hb : blk.length = 16) (w : World) : Ret Tryz.prog 305 #[ag (wv blk)] w (ag (wv (sched blk))) := by
  refine c305 ?_
  unfold s305
  refine SV_box (vs := wv blk) rfl fun g1 w1 hg1 b1 h1 => ?_
  refine SV_alloc fun g2 w2 hg2 b2 h2 => ?_
  refine SV_alloc fun g3 w3 hg3 b3 h3 => ?_
  have hw3 : Ch No w w3 := h1.trans (h2.trans h3)
  refine HR_kp No ?_
  (first | refine SV_p (by first | exact True.intro | omega) ?_ | refine HV_p (by first | exact True.intro | omega) ?_)
  (first | refine SV_p (by first | exact True.intro | omega) ?_ | refine HV_p (by first | exact True.intro | omega) ?_)
  have b1' : Blk w3.drew g1 202 (wv blk) := ((b1.no h2).no h3).drew
  have b3' := b3.drew
  refine SV_copy (t := 258) (T := 202) (sz := 1) (m := 16) b3' (Rd.of_blk b1' (by simp [hb]) (by decide)) (by decide) (by simp) (wv_ones _) fun w4 b4 h4 => ?_
  have hne : g3 ≠ g2 := b3.ne' b2 hg3
  have b2' : Blk w4 g2 258 _ := ((b2.no h3).drew).ch h4 (fun h => hne h.symm)
  have hw4 : Ch No w w4 := (hw3.trans (Ch.drew _)).trans' h4 (fun i hi hi' => by subst hi'; have := h1.size; have := h2.size; omega)
  rw [wv_zero] at b4
  have e4 : wv blk ++ (wv (List.replicate 64 (0 : UInt32))).drop (16 * 1) = wv (wRow blk 16) := by
    rw [wRow_start, wv_append]
    simp [wv]
  rw [e4] at b4
  refine LP_intro (fun us w' => ∃ t : Nat, us = [.int .i64 t] ∧ 16 ≤ t ∧ t ≤ 64 ∧ Blk w' g3 258 (wv (wRow blk t)) ∧ Blk w' g2 258 (List.replicate 64 (.int .u32 0)) ∧ Ch No w w') (fun us _ => match us with | [.int _ t] => (64 - t).toNat | _ => 0)
    ⟨16, rfl, by decide, by decide, b4, b2', hw4⟩ ?_
  rintro us hus ζ w5 ⟨t, rfl, ht, ht', b5, b5', h5⟩
  unfold s305_l1
  simp only [List.getD_cons_zero, List.getD_cons_succ]
  (first | refine SV_p (by first | exact True.intro | omega) ?_ | refine HV_p (by first | exact True.intro | omega) ?_)
  refine CN_split (fun hlt => ?_) (fun hge => ?_)
  · have hl := wRow_len hb ht ht'
    refine HR_kp No ?_
    (first | refine SV_p (by first | exact True.intro | omega) ?_ | refine HV_p (by first | exact True.intro | omega) ?_)
    (first | refine SV_p (by first | exact True.intro | omega) ?_ | refine HV_p (by first | exact True.intro | omega) ?_)
    refine HV_load b5 (fun h => h) (wv_get (by omega)) ?_
    refine n312 ((sha_mix _ 17 19 10 (by decide) (by decide) (by decide) _).use fun w6 h6 => ?_)
    have h6' : Ch No w5 w6 := (Ch.drew _).trans h6
    (first | refine RS_same (h6') ?_ | refine ⟨h6', ?_⟩)
    (first | refine SV_p (by first | exact True.intro | omega) ?_ | refine HV_p (by first | exact True.intro | omega) ?_)
    (first | refine SV_p (by first | exact True.intro | omega) ?_ | refine HV_p (by first | exact True.intro | omega) ?_)
    refine HV_load b5 (fun h => h) (wv_get (by omega)) ?_
    (first | refine SV_p (by first | exact True.intro | omega) ?_ | refine HV_p (by first | exact True.intro | omega) ?_)
    (first | refine SV_p (by first | exact True.intro | omega) ?_ | refine HV_p (by first | exact True.intro | omega) ?_)
    (first | refine SV_p (by first | exact True.intro | omega) ?_ | refine HV_p (by first | exact True.intro | omega) ?_)
    refine HV_load b5 (fun h => h) (wv_get (by omega)) ?_
    refine n312 ((sha_mix _ 7 18 3 (by decide) (by decide) (by decide) _).use fun w7 h7 => ?_)
    have h7' : Ch No w5 w7 := h6'.trans h7
    (first | refine RS_same (h7') ?_ | refine ⟨h7', ?_⟩)
    (first | refine SV_p (by first | exact True.intro | omega) ?_ | refine HV_p (by first | exact True.intro | omega) ?_)
    (first | refine SV_p (by first | exact True.intro | omega) ?_ | refine HV_p (by first | exact True.intro | omega) ?_)
    (first | refine SV_p (by first | exact True.intro | omega) ?_ | refine HV_p (by first | exact True.intro | omega) ?_)
    refine HV_load b5 (fun h => h) (wv_get (by omega)) ?_
    (first | refine SV_p (by first | exact True.intro | omega) ?_ | refine HV_p (by first | exact True.intro | omega) ?_)
    (first | refine SV_p (by first | exact True.intro | omega) ?_ | refine HV_p (by first | exact True.intro | omega) ?_)
    have hlt' : t < 64 := by omega
    refine SU_store (b5.no h7') (by simp; omega) rfl fun w8 b8 h8 => ?_
    (first | refine SV_p (by first | exact True.intro | omega) ?_ | refine HV_p (by first | exact True.intro | omega) ?_)
    have e2 : ((t : Int) - 2).toNat = t - 2 := by omega
    have e7 : ((t : Int) - 7).toNat = t - 7 := by omega
    have e15 : ((t : Int) - 15).toNat = t - 15 := by omega
    have e16 : ((t : Int) - 16).toNat = t - 16 := by omega
    rw [e2, e7, e15, e16, Int.toNat_natCast, wv_set, wRow_next hb ht hlt'] at b8
    refine ⟨⟨t + 1, rfl, by omega, by omega, b8, (b5'.no h7').ch h8 (fun h => hne h.symm), ?_⟩, ?_⟩
    · exact (h5.trans h7').trans' h8 (fun i hi hi' => by subst hi'; have := h1.size; have := h2.size; omega)
    · show (64 - ((t : Int) + 1)).toNat < (64 - (t : Int)).toNat
      omega
  · have : t = 64 := by omega
    subst this
    rw [wRow_end] at b5
    have hl : (wv (sched blk)).length = 64 := by simp [sched, schedGo_len, hb]
    refine SV_loadB b5 hl ?_
    refine SU_storeB b5' hl (by simp) (wv_ones _) fun w6 b6 h6 => ?_
    refine CR_N b6 hl ?_
    exact ⟨rfl, h5.trans' h6 (fun i hi hi' => by subst hi'; have := h1.size; omega)⟩
end Go.Proofs.YtkdghnbogkbedaaGreatDoor

namespace Go.Sh
open Go Go.RowKit

section
variable {P : Program}
instance {t : TypeId} [h : IsStr P t] {l : List UInt8} {k : IntKind} {i : Int} : PuC P (Instr.index t (str l) (.int k i)) (by_ (l.getD i.toNat 0)) (0 ≤ i ∧ i.toNat < l.length) :=
  ⟨fun h => pu_idxs h.1 (by simp [List.getD, List.getElem?_eq_getElem h.2])⟩
instance {ty len e : Nat} [h : ArT P ty len e 1] [h1 : One P e] {i : Int} {l : List UInt32} : PuC P (Instr.index ty (ag (wv l)) (.int .i64 i)) (w32 (wAt l i.toNat)) (0 ≤ i ∧ i < len ∧ i.toNat < l.length) :=
  ⟨fun h => pu_idxV h.1 h.2.1 (wv_get h.2.2)⟩
end

theorem wAt_mixed {x y : List UInt32} {i : Nat} (h : x.length = y.length) (hi : i < x.length) : wAt (y.take i ++ x.drop i) i = wAt x i := by
  have hl : (y.take i).length = i := by simp; omega
  simp only [wAt, List.getD]
  rw [List.getElem?_append_right (by omega), hl, Nat.sub_self, List.getElem?_drop]
  rfl
theorem set_mixed {x y : List UInt32} {i : Nat} (h : x.length = y.length) (hi : i < x.length) : (y.take i ++ x.drop i).set i (wAt y i) = y.take (i + 1) ++ x.drop (i + 1) := by
  have hl : (y.take i).length = i := by simp; omega
  rw [List.set_append_right _ _ (by omega), hl, Nat.sub_self]
  have hd : x.drop i = x[i] :: x.drop (i + 1) := List.drop_eq_getElem_cons hi
  rw [hd, List.set_cons_zero, List.take_succ_eq_append_getElem (by omega), List.append_assoc]
  simp [wAt, List.getD, List.getElem?_eq_getElem (show i < y.length by omega)]
theorem mixed_zero {x y : List UInt32} : y.take 0 ++ x.drop 0 = x := by simp
theorem mixed_all {x y : List UInt32} {n : Nat} (hx : x.length = n) (hy : y.length = n) : y.take n ++ x.drop n = y := by
  rw [List.take_of_length_le (by omega), List.drop_eq_nil_of_le (by omega), List.append_nil]
theorem S8.l_len (s : S8) : s.l.length = 8 := rfl
theorem S8.add_at (s r : S8) {i : Nat} (h : i < 8) : wAt (s.add r).l i = wAt s.l i + wAt r.l i := by
  match i, h with
  | 0, _ => rfl
  | 1, _ => rfl
  | 2, _ => rfl
  | 3, _ => rfl
  | 4, _ => rfl
  | 5, _ => rfl
  | 6, _ => rfl
  | 7, _ => rfl
  | n + 8, h => exact absurd h (by omega)
theorem rnd_succ (s : S8) (w : List UInt32) (t : Nat) : rounds s w (t + 1) = round (rounds s w t) (wAt keys t) (wAt w t) := rfl
theorem keys_len : keys.length = 64 := rfl
end Go.Sh
namespace Go.Proofs.YtkdghnbogkbedaaGreatDoor
open Go Go.Sh Go.RowKit
set_option maxRecDepth 100000

theorem sha_start (w : World) : Ret Tryz.prog 266 #[] w (ag (wv S8.start.l)) := by
  refine c266 ?_
  unfold s266
  refine SV_alloc fun g1 w1 hg1 b1 h1 => ?_
  refine SV_pu (pu_build (FillOk.cons rfl rfl rfl (FillOk.cons rfl rfl rfl (FillOk.cons rfl rfl rfl (FillOk.cons rfl rfl rfl (FillOk.cons rfl rfl rfl (FillOk.cons rfl rfl rfl (FillOk.cons rfl rfl rfl (FillOk.cons rfl rfl rfl (FillOk.nil _)))))))))) ?_
  refine SU_storeB b1 rfl rfl (wv_ones S8.start.l) fun w2 b2 h2 => ?_
  refine CR_N b2 rfl ?_
  exact ⟨rfl, h1.trans' h2 (fun i hi hi' => by subst hi'; omega)⟩

theorem sha_step (s : S8) (blk : List UInt32) (hb : blk.length = 16) (w : World) (hk : KeysAt w) : Ret Tryz.prog 290 #[ag (wv s.l), ag (wv blk)] w (ag (wv (sstep s blk).l)) := by
  refine c290 ?_
  unfold s290
  refine SV_box (vs := wv s.l) rfl fun g1 w1 hg1 b1 h1 => ?_
  refine SV_box (vs := wv blk) rfl fun g2 w2 hg2 b2 h2 => ?_
  refine SV_alloc fun g3 w3 hg3 b3 h3 => ?_
  refine SV_loadB (b2.no h3) (by simp [hb]) ?_
  refine n305 ((sha_schedule blk hb _).use fun w4 h4 => ?_)
  refine SV_alloc fun g5 w5 hg5 b5 h5 => ?_
  have hsl : (wv (sched blk)).length = 64 := by simp [sched, schedGo_len, hb]
  refine SU_storeB b5 hsl rfl (wv_ones _) fun w6 b6 h6 => ?_
  have hw3 : Ch No w w3 := h1.trans (h2.trans h3)
  have hw5 : Ch No w w5 := hw3.trans (h4.trans h5)
  have hw6 : Ch No w w6 := hw5.trans' h6 (fun i hi hi' => by subst hi'; have := h1.size; have := h2.size; have := h3.size; have := h4.size; omega)
  have b1' : Blk w5 g1 200 (wv s.l) := (((b1.no h2).no h3).no h4).no h5
  have n1 : g5 ≠ g1 := b5.ne' ((((b1.no h2).no h3).no h4)) hg5
  have b1'' := b1'.ch h6 (fun h => n1 h.symm)
  have b3' : Blk w5 g3 200 _ := (b3.no h4).no h5
  have n3 : g5 ≠ g3 := b5.ne' (b3.no h4) hg5
  have n13 : g3 ≠ g1 := b3.ne' (b1.no h2) hg3
  have b3'' := b3'.ch h6 (fun h => n3 h.symm)
  refine HR_kp No ?_
  (first | refine SV_p (by first | exact True.intro | omega) ?_ | refine HV_p (by first | exact True.intro | omega) ?_)
  refine HV_load b1'' (fun h => h) rfl ?_
  (first | refine SV_p (by first | exact True.intro | omega) ?_ | refine HV_p (by first | exact True.intro | omega) ?_)
  refine HV_load b1'' (fun h => h) rfl ?_
  (first | refine SV_p (by first | exact True.intro | omega) ?_ | refine HV_p (by first | exact True.intro | omega) ?_)
  refine HV_load b1'' (fun h => h) rfl ?_
  (first | refine SV_p (by first | exact True.intro | omega) ?_ | refine HV_p (by first | exact True.intro | omega) ?_)
  refine HV_load b1'' (fun h => h) rfl ?_
  refine HR_kp No ?_
  (first | refine SV_p (by first | exact True.intro | omega) ?_ | refine HV_p (by first | exact True.intro | omega) ?_)
  refine HV_load b1''.drew (fun h => h) rfl ?_
  (first | refine SV_p (by first | exact True.intro | omega) ?_ | refine HV_p (by first | exact True.intro | omega) ?_)
  refine HV_load b1''.drew (fun h => h) rfl ?_
  (first | refine SV_p (by first | exact True.intro | omega) ?_ | refine HV_p (by first | exact True.intro | omega) ?_)
  refine HV_load b1''.drew (fun h => h) rfl ?_
  (first | refine SV_p (by first | exact True.intro | omega) ?_ | refine HV_p (by first | exact True.intro | omega) ?_)
  refine HV_load b1''.drew (fun h => h) rfl ?_
  have hk6 : KeysAt w6.drew.drew := hk.no ((hw6.trans (Ch.drew _)).trans (Ch.drew _))
  refine SV_ptrN hk6 rfl ?_
  refine LP_intro (fun us w' => ∃ t : Nat, us = [w32 (rounds s (sched blk) t).a, w32 (rounds s (sched blk) t).b, w32 (rounds s (sched blk) t).c, w32 (rounds s (sched blk) t).d, w32 (rounds s (sched blk) t).e, w32 (rounds s (sched blk) t).f, w32 (rounds s (sched blk) t).g, w32 (rounds s (sched blk) t).h, .int .i64 t] ∧ t ≤ 64 ∧
      Ch No w6 w') (fun us _ => match us with | [_, _, _, _, _, _, _, _, .int _ t] => (64 - t).toNat | _ => 0)
    ⟨0, rfl, by decide, (Ch.drew _).trans (Ch.drew _)⟩ ?_
  rintro us hus ζ w7 ⟨t, rfl, ht, h7⟩
  unfold s290_l2
  simp only [List.getD_cons_zero, List.getD_cons_succ]
  (first | refine SV_p (by first | exact True.intro | omega) ?_ | refine HV_p (by first | exact True.intro | omega) ?_)
  refine CN_split (fun hlt => ?_) (fun hge => ?_)
  · have hkl := keys_len
    have b6' := b6.no h7
    (first | refine SV_p (by first | exact True.intro | omega) ?_ | refine HV_p (by first | exact True.intro | omega) ?_)
    refine HR_kp No ?_
    refine n306 ((sha_turn _ 6 11 25 (by decide) (by decide) (by decide) _).use fun w8 h8 => ?_)
    have h8' : Ch No w7 w8 := (Ch.drew _).trans h8
    (first | refine RS_same (h8') ?_ | refine ⟨h8', ?_⟩)
    (first | refine SV_p (by first | exact True.intro | omega) ?_ | refine HV_p (by first | exact True.intro | omega) ?_)
    (first | refine SV_p (by first | exact True.intro | omega) ?_ | refine HV_p (by first | exact True.intro | omega) ?_)
    (first | refine SV_p (by first | exact True.intro | omega) ?_ | refine HV_p (by first | exact True.intro | omega) ?_)
    (first | refine SV_p (by first | exact True.intro | omega) ?_ | refine HV_p (by first | exact True.intro | omega) ?_)
    (first | refine SV_p (by first | exact True.intro | omega) ?_ | refine HV_p (by first | exact True.intro | omega) ?_)
    (first | refine SV_p (by first | exact True.intro | omega) ?_ | refine HV_p (by first | exact True.intro | omega) ?_)
    (first | refine SV_p (by first | exact True.intro | omega) ?_ | refine HV_p (by first | exact True.intro | omega) ?_)
    (first | refine SV_p (by first | exact True.intro | omega) ?_ | refine HV_p (by first | exact True.intro | omega) ?_)
    refine HV_load b6' (fun h => h) (wv_get (by simp [sched, schedGo_len, hb]; omega)) ?_
    (first | refine SV_p (by first | exact True.intro | omega) ?_ | refine HV_p (by first | exact True.intro | omega) ?_)
    refine n306 ((sha_turn _ 2 13 22 (by decide) (by decide) (by decide) _).use fun w9 h9 => ?_)
    (first | refine SV_p (by first | exact True.intro | omega) ?_ | refine HV_p (by first | exact True.intro | omega) ?_)
    (first | refine SV_p (by first | exact True.intro | omega) ?_ | refine HV_p (by first | exact True.intro | omega) ?_)
    (first | refine SV_p (by first | exact True.intro | omega) ?_ | refine HV_p (by first | exact True.intro | omega) ?_)
    (first | refine SV_p (by first | exact True.intro | omega) ?_ | refine HV_p (by first | exact True.intro | omega) ?_)
    (first | refine SV_p (by first | exact True.intro | omega) ?_ | refine HV_p (by first | exact True.intro | omega) ?_)
    (first | refine SV_p (by first | exact True.intro | omega) ?_ | refine HV_p (by first | exact True.intro | omega) ?_)
    (first | refine SV_p (by first | exact True.intro | omega) ?_ | refine HV_p (by first | exact True.intro | omega) ?_)
    (first | refine SV_p (by first | exact True.intro | omega) ?_ | refine HV_p (by first | exact True.intro | omega) ?_)
    (first | refine SV_p (by first | exact True.intro | omega) ?_ | refine HV_p (by first | exact True.intro | omega) ?_)
    simp only [Int.toNat_natCast]
    refine ⟨⟨t + 1, ?_, by omega, h7.trans (h8'.trans h9)⟩, ?_⟩
    · rw [rnd_succ]
      generalize rounds s (sched blk) t = r
      generalize wAt keys t = kk
      generalize wAt (sched blk) t = ww
      rfl
    show (64 - ((t : Int) + 1)).toNat < (64 - (t : Int)).toNat
    omega
  · have : t = 64 := by omega
    subst this
    have c1 := b1''.no h7
    have c3 := b3''.no h7
    generalize hr : rounds s (sched blk) 64 = r
    refine SV_pu (pu_build (FillOk.cons rfl rfl rfl (FillOk.cons rfl rfl rfl (FillOk.cons rfl rfl rfl (FillOk.cons rfl rfl rfl (FillOk.cons rfl rfl rfl (FillOk.cons rfl rfl rfl (FillOk.cons rfl rfl rfl (FillOk.cons rfl rfl rfl (FillOk.nil _)))))))))) ?_
    show LP 1 _ _ fun next _ us w_1 => s290_l1 Tryz.prog _ _ _ (ag (wv r.l)) _ next w_1
    have hw7 := hw6.trans h7
    refine LP_intro (fun us w' => ∃ i : Nat, us = [.int .i64 i] ∧ i ≤ 8 ∧ Blk w' g1 200 (wv ((s.add r).l.take i ++ s.l.drop i)) ∧ Blk w' g3 200 (List.replicate 8 (.int .u32 0)) ∧ Ch No w w') (fun us _ => match us with | [.int _ t] => (8 - t).toNat | _ => 0)
      ⟨0, rfl, by decide, by rw [mixed_zero]; exact c1, c3, hw7⟩ ?_
    rintro us hus ζ w8 ⟨i, rfl, hi, d1, d3, h8⟩
    unfold s290_l1
    simp only [List.getD_cons_zero, List.getD_cons_succ]
    (first | refine SV_p (by first | exact True.intro | omega) ?_ | refine HV_p (by first | exact True.intro | omega) ?_)
    refine CN_split (fun hlt => ?_) (fun hge => ?_)
    · have hrl := S8.l_len r
      have hsl := S8.l_len s
      have hal := S8.l_len (s.add r)
      have hml : ((s.add r).l.take i ++ s.l.drop i).length = 8 := by simp [S8.l_len]; omega
      (first | refine SV_p (by first | exact True.intro | omega) ?_ | refine HV_p (by first | exact True.intro | omega) ?_)
      (first | refine SV_p (by first | exact True.intro | omega) ?_ | refine HV_p (by first | exact True.intro | omega) ?_)
      refine SV_load d1 (wv_get (by rw [hml]; omega)) ?_
      (first | refine SV_p (by first | exact True.intro | omega) ?_ | refine HV_p (by first | exact True.intro | omega) ?_)
      (first | refine SV_p (by first | exact True.intro | omega) ?_ | refine HV_p (by first | exact True.intro | omega) ?_)
      refine SU_store d1 (by rw [wv_len, hml]; omega) rfl fun w9 e1 h9 => ?_
      rw [Int.toNat_natCast, wv_set, wAt_mixed (by rw [hsl, hal]) (by omega), ← S8.add_at s r (by omega), set_mixed (by rw [hsl, hal]) (by omega)] at e1
      (first | refine SV_p (by first | exact True.intro | omega) ?_ | refine HV_p (by first | exact True.intro | omega) ?_)
      refine ⟨⟨i + 1, rfl, by omega, e1, d3.ch h9 n13, ?_⟩, ?_⟩
      · exact h8.trans' h9 (fun i hi hi' => by subst hi'; omega)
      · show (8 - ((i : Int) + 1)).toNat < (8 - (i : Int)).toNat
        omega
    · have : i = 8 := by omega
      subst this
      have e1 : Blk w8 g1 200 (wv (s.add r).l) := by rw [mixed_all (S8.l_len s) (S8.l_len _)] at d1; exact d1
      refine SV_loadB e1 (by rw [wv_len]; rfl) ?_
      refine SU_storeB d3 (by rw [wv_len]; rfl) rfl (wv_ones _) fun w9 e3 h9 => ?_
      refine CR_N e3 (by rw [wv_len]; rfl) ?_
      refine ⟨?_, h8.trans' h9 (fun i hi hi' => by subst hi'; have := h1.size; have := h2.size; omega)⟩
      unfold sstep
      rw [hr]
end Go.Proofs.YtkdghnbogkbedaaGreatDoor

namespace Go.Proofs
open Go.Shelf
def Tryz.lays170_ren : Go.Shelf.Ren := ⟨fun | 170 => 273 | n => n, fun | 70 => 215 | 3 => 3 | 0 => 0 | 72 => 217 | 37 => 151 | 5 => 5 | n => n, fun | n => n⟩
theorem Tryz.lays170 : Go.Proofs.Lays.n170 Tryz.prog Tryz.lays170_ren := {
  mixed := by kernel_rfl
  f170 := Tryz.func273.trans (congrArg some (by kernel_rfl))
  t0 := Tryz.underlying0
  a0 := Tryz.isAgg0
  z0 := Tryz.sizeOf0
  v0 := Tryz.zeroValue0
  t3 := Tryz.underlying3
  a3 := Tryz.isAgg3
  z3 := Tryz.sizeOf3
  v3 := Tryz.zeroValue3
  t37 := Tryz.underlying151
  a37 := Tryz.isAgg151
  z37 := Tryz.sizeOf151
  v37 := Tryz.zeroValue151
  t70 := Tryz.underlying215
  a70 := Tryz.isAgg215
  z70 := Tryz.sizeOf215
  v70 := Tryz.zeroValue215
  t72 := Tryz.underlying217
  a72 := Tryz.isAgg217
  z72 := Tryz.sizeOf217
  v72 := Tryz.zeroValue217 }
open Go.RowKit in
/-- (*strings.Builder).Len: "Len returns the number of accumulated bytes; b.Len() == len(b.String()).": the world is as it was. (LAID: no walk: one application.) -/
theorem Tryz.Builder_Len (B b : Nat) (bs : List Value) (w : World) (h : Lib.IsBuilder 217 5 B b bs w) :
    Calls Tryz.prog 273 #[.pointer (some ⟨b, 0, none⟩)] w fun e w' => e = .returned (.int .i64 bs.length) ∧ w' = w := Any.Builder_Len Tryz.lays170 B b bs w h
def Tryz.lays169_ren : Go.Shelf.Ren := ⟨fun | 169 => 165 | n => n, fun | 70 => 215 | 9 => 9 | 0 => 0 | 72 => 217 | 37 => 151 | 127 => 268 | 3 => 3 | 5 => 5 | n => n, fun | n => n⟩
theorem Tryz.lays169 : Go.Proofs.Lays.n169 Tryz.prog Tryz.lays169_ren := {
  mixed := by kernel_rfl
  f169 := Tryz.func165.trans (congrArg some (by kernel_rfl))
  t0 := Tryz.underlying0
  a0 := Tryz.isAgg0
  z0 := Tryz.sizeOf0
  v0 := Tryz.zeroValue0
  t3 := Tryz.underlying3
  a3 := Tryz.isAgg3
  z3 := Tryz.sizeOf3
  v3 := Tryz.zeroValue3
  t9 := Tryz.underlying9
  a9 := Tryz.isAgg9
  z9 := Tryz.sizeOf9
  v9 := Tryz.zeroValue9
  t37 := Tryz.underlying151
  a37 := Tryz.isAgg151
  z37 := Tryz.sizeOf151
  v37 := Tryz.zeroValue151
  t70 := Tryz.underlying215
  a70 := Tryz.isAgg215
  z70 := Tryz.sizeOf215
  v70 := Tryz.zeroValue215
  t72 := Tryz.underlying217
  a72 := Tryz.isAgg217
  z72 := Tryz.sizeOf217
  v72 := Tryz.zeroValue217
  t127 := Tryz.underlying268
  a127 := Tryz.isAgg268
  z127 := Tryz.sizeOf268
  v127 := Tryz.zeroValue268 }
theorem Tryz.Builder_Extra_169 : Builder.Extra Tryz.prog Tryz.lays169_ren := {
  sizeBuilder := by kernel_rfl
  liesBuilder := by kernel_rfl
  t5 := Tryz.underlying5
  a5 := Tryz.isAgg5
  z5 := Tryz.sizeOf5
  v5 := Tryz.zeroValue5
  infoByte := by kernel_rfl
  cellsByte := by kernel_rfl
  sizeByte := by kernel_rfl
  neB5 := by decide }
open Go.RowKit in
/-- (*strings.Builder).String: "String returns the accumulated string.": OF A BUILDER THAT HOLDS AT LEAST ONE BYTE. ✋ THE MODEL FREEZES THOSE BYTES IN THE BUFFER (unsafe.String): a later write INTO them ends the model's run without an answer; a later append BEHIND them goes on. The statement's order of evaluation is drawn: one draw. (LAID: no walk: one application.) -/
theorem Tryz.Builder_String (B b : Nat) (l : List UInt8) (w : World) (h : Lib.IsBuilder 217 5 B b (Lib.byteCells l) w) (h0 : l ≠ []) :
    Calls Tryz.prog 165 #[.pointer (some ⟨b, 0, none⟩)] w fun e w' => e = .returned (.string ⟨l.toArray⟩) ∧ Below B w w' := Any.Builder_String Tryz.lays169 Tryz.Builder_Extra_169 B b l w h h0
open Go.RowKit in
/-- (*strings.Builder).String OF A BUILDER THAT HOLDS NO BYTE: the empty string. (Its buffer is nil, or a row of which it has taken nothing yet; where that row has NO capacity the model lays one new block for unsafe.SliceData's 'some address'.) One draw. (LAID: no walk: one application.) -/
theorem Tryz.Builder_String_empty (B b : Nat) (w : World) (h : Lib.IsBuilder 217 5 B b [] w) (hBw : B ≤ w.heap.size) :
    Calls Tryz.prog 165 #[.pointer (some ⟨b, 0, none⟩)] w fun e w' => e = .returned (.string ⟨#[]⟩) ∧ Below B w w' := Any.Builder_String_empty Tryz.lays169 Tryz.Builder_Extra_169 B b w h hBw
open Go.RowKit in
/-- (*strings.Builder).String: "String returns the accumulated string.": WHATEVER THE BUILDER HOLDS. (LAID: no walk: one application.) -/
theorem Tryz.Builder_String_any (B b : Nat) (l : List UInt8) (w : World) (h : Lib.IsBuilder 217 5 B b (Lib.byteCells l) w) (hBw : B ≤ w.heap.size) :
    Calls Tryz.prog 165 #[.pointer (some ⟨b, 0, none⟩)] w fun e w' => e = .returned (.string ⟨l.toArray⟩) ∧ Below B w w' := Any.Builder_String_any Tryz.lays169 Tryz.Builder_Extra_169 B b l w h hBw
def Tryz.lays241_ren : Go.Shelf.Ren := ⟨fun | 241 => 288 | 277 => 304 | n => n, fun | 70 => 215 | 3 => 3 | 0 => 0 | 72 => 217 | 37 => 151 | 5 => 5 | n => n, fun | n => n⟩
theorem Tryz.lays241 : Go.Proofs.Lays.n241 Tryz.prog Tryz.lays241_ren := {
  mixed := by kernel_rfl
  f241 := Tryz.func288.trans (congrArg some (by kernel_rfl))
  f277 := Tryz.func304.trans (congrArg some (by kernel_rfl))
  t0 := Tryz.underlying0
  a0 := Tryz.isAgg0
  z0 := Tryz.sizeOf0
  v0 := Tryz.zeroValue0
  t3 := Tryz.underlying3
  a3 := Tryz.isAgg3
  z3 := Tryz.sizeOf3
  v3 := Tryz.zeroValue3
  t37 := Tryz.underlying151
  a37 := Tryz.isAgg151
  z37 := Tryz.sizeOf151
  v37 := Tryz.zeroValue151
  t70 := Tryz.underlying215
  a70 := Tryz.isAgg215
  z70 := Tryz.sizeOf215
  v70 := Tryz.zeroValue215
  t72 := Tryz.underlying217
  a72 := Tryz.isAgg217
  z72 := Tryz.sizeOf217
  v72 := Tryz.zeroValue217 }
theorem Tryz.Builder_Extra_241 : Builder.Extra Tryz.prog Tryz.lays241_ren := {
  sizeBuilder := by kernel_rfl
  liesBuilder := by kernel_rfl
  t5 := Tryz.underlying5
  a5 := Tryz.isAgg5
  z5 := Tryz.sizeOf5
  v5 := Tryz.zeroValue5
  infoByte := by kernel_rfl
  cellsByte := by kernel_rfl
  sizeByte := by kernel_rfl
  neB5 := by decide }
open Go.RowKit in
/-- (*strings.Builder).grow (no doc but "grow copies the buffer to a new, larger buffer so that there are at least n bytes of capacity beyond len(b.buf)."): AT A BUILDER WITHOUT A BUFFER: a new row of whatever bytes for its buffer, none of them its own yet. Three draws. (LAID: no walk: one application.) -/
theorem Tryz.Builder_grow_fresh (B b n : Nat) (w : World) (hB : B ≤ b) (hbk : w.heap[b]? = some (.cells #[.pointer (some ⟨b, 0, none⟩), .slice none 0 0] 217 (0, 0))) (hBw : B ≤ w.heap.size) (hn : n ≤ 281474976710656) :
    Calls Tryz.prog 288 #[.pointer (some ⟨b, 0, none⟩), .int .i64 n] w fun e w' => e = .returned (.tuple #[]) ∧ (Lib.BuilderAt 217 5 B b (.pointer (some ⟨b, 0, none⟩)) [] w' ∧ Below B w w') := Any.Builder_grow_fresh Tryz.lays241 Tryz.Builder_Extra_241 B b n w hB hbk hBw hn
def Tryz.lays165_ren : Go.Shelf.Ren := ⟨fun | 165 => 261 | 240 => 240 | 241 => 288 | 276 => 270 | 277 => 304 | n => n, fun | 70 => 215 | 3 => 3 | 0 => 0 | 4 => 4 | 9 => 9 | 20 => 20 | 72 => 217 | 37 => 151 | 164 => 290 | 5 => 5 | n => n, fun | n => n⟩
theorem Tryz.lays165 : Go.Proofs.Lays.n165 Tryz.prog Tryz.lays165_ren := {
  mixed := by kernel_rfl
  f165 := Tryz.func261.trans (congrArg some (by kernel_rfl))
  f240 := Tryz.func240.trans (congrArg some (by kernel_rfl))
  f241 := Tryz.func288.trans (congrArg some (by kernel_rfl))
  f276 := Tryz.func270.trans (congrArg some (by kernel_rfl))
  f277 := Tryz.func304.trans (congrArg some (by kernel_rfl))
  t0 := Tryz.underlying0
  a0 := Tryz.isAgg0
  z0 := Tryz.sizeOf0
  v0 := Tryz.zeroValue0
  t3 := Tryz.underlying3
  a3 := Tryz.isAgg3
  z3 := Tryz.sizeOf3
  v3 := Tryz.zeroValue3
  t4 := Tryz.underlying4
  a4 := Tryz.isAgg4
  z4 := Tryz.sizeOf4
  v4 := Tryz.zeroValue4
  t9 := Tryz.underlying9
  a9 := Tryz.isAgg9
  z9 := Tryz.sizeOf9
  v9 := Tryz.zeroValue9
  t20 := Tryz.underlying20
  a20 := Tryz.isAgg20
  z20 := Tryz.sizeOf20
  v20 := Tryz.zeroValue20
  t37 := Tryz.underlying151
  a37 := Tryz.isAgg151
  z37 := Tryz.sizeOf151
  v37 := Tryz.zeroValue151
  t70 := Tryz.underlying215
  a70 := Tryz.isAgg215
  z70 := Tryz.sizeOf215
  v70 := Tryz.zeroValue215
  t72 := Tryz.underlying217
  a72 := Tryz.isAgg217
  z72 := Tryz.sizeOf217
  v72 := Tryz.zeroValue217
  t164 := Tryz.underlying290
  a164 := Tryz.isAgg290
  z164 := Tryz.sizeOf290
  v164 := Tryz.zeroValue290 }
theorem Tryz.Builder_Extra_165 : Builder.Extra Tryz.prog Tryz.lays165_ren := {
  sizeBuilder := by kernel_rfl
  liesBuilder := by kernel_rfl
  t5 := Tryz.underlying5
  a5 := Tryz.isAgg5
  z5 := Tryz.sizeOf5
  v5 := Tryz.zeroValue5
  infoByte := by kernel_rfl
  cellsByte := by kernel_rfl
  sizeByte := by kernel_rfl
  neB5 := by decide }
open Go.RowKit in
/-- (*strings.Builder).Grow AT A BUILDER THAT HAS NOT BEEN WRITTEN ('var b strings.Builder; b.Grow(n)'): "Grow grows b's capacity, if necessary, to guarantee space for another n bytes.": it holds no byte behind it as before it. (LAID: no walk: one application.) -/
theorem Tryz.Builder_Grow_fresh (B b n : Nat) (w : World) (hB : B ≤ b) (hbk : w.heap[b]? = some (.cells #[.pointer none, .slice none 0 0] 217 (0, 0))) (hBw : B ≤ w.heap.size) (hn : n ≤ 281474976710656) :
    Calls Tryz.prog 261 #[.pointer (some ⟨b, 0, none⟩), .int .i64 n] w fun e w' => e = .returned (.tuple #[]) ∧ (Lib.BuilderAt 217 5 B b (.pointer (some ⟨b, 0, none⟩)) [] w' ∧ Below B w w') := Any.Builder_Grow_fresh Tryz.lays165 Tryz.Builder_Extra_165 B b n w hB hbk hBw hn
def Tryz.lays156_ren : Go.Shelf.Ren := ⟨fun | 156 => 217 | 165 => 261 | 166 => 162 | 169 => 165 | 240 => 240 | 241 => 288 | 276 => 270 | 277 => 304 | n => n, fun | 31 => 249 | 9 => 9 | 3 => 3 | 4 => 4 | 0 => 0 | 20 => 20 | 72 => 217 | 76 => 220 | 70 => 215 | 37 => 151 | 75 => 219 | 127 => 268 | 164 => 290 | 5 => 5 | 80 => 127 | n => n, fun | n => n⟩
theorem Tryz.lays156 : Go.Proofs.Lays.n156 Tryz.prog Tryz.lays156_ren := {
  mixed := by kernel_rfl
  f156 := Tryz.func217.trans (congrArg some (by kernel_rfl))
  f165 := Tryz.func261.trans (congrArg some (by kernel_rfl))
  f166 := Tryz.func162.trans (congrArg some (by kernel_rfl))
  f169 := Tryz.func165.trans (congrArg some (by kernel_rfl))
  f240 := Tryz.func240.trans (congrArg some (by kernel_rfl))
  f241 := Tryz.func288.trans (congrArg some (by kernel_rfl))
  f276 := Tryz.func270.trans (congrArg some (by kernel_rfl))
  f277 := Tryz.func304.trans (congrArg some (by kernel_rfl))
  t0 := Tryz.underlying0
  a0 := Tryz.isAgg0
  z0 := Tryz.sizeOf0
  v0 := Tryz.zeroValue0
  t3 := Tryz.underlying3
  a3 := Tryz.isAgg3
  z3 := Tryz.sizeOf3
  v3 := Tryz.zeroValue3
  t4 := Tryz.underlying4
  a4 := Tryz.isAgg4
  z4 := Tryz.sizeOf4
  v4 := Tryz.zeroValue4
  t9 := Tryz.underlying9
  a9 := Tryz.isAgg9
  z9 := Tryz.sizeOf9
  v9 := Tryz.zeroValue9
  t20 := Tryz.underlying20
  a20 := Tryz.isAgg20
  z20 := Tryz.sizeOf20
  v20 := Tryz.zeroValue20
  t31 := Tryz.underlying249
  a31 := Tryz.isAgg249
  z31 := Tryz.sizeOf249
  v31 := Tryz.zeroValue249
  t37 := Tryz.underlying151
  a37 := Tryz.isAgg151
  z37 := Tryz.sizeOf151
  v37 := Tryz.zeroValue151
  t70 := Tryz.underlying215
  a70 := Tryz.isAgg215
  z70 := Tryz.sizeOf215
  v70 := Tryz.zeroValue215
  t72 := Tryz.underlying217
  a72 := Tryz.isAgg217
  z72 := Tryz.sizeOf217
  v72 := Tryz.zeroValue217
  t75 := Tryz.underlying219
  a75 := Tryz.isAgg219
  z75 := Tryz.sizeOf219
  v75 := Tryz.zeroValue219
  t76 := Tryz.underlying220
  a76 := Tryz.isAgg220
  z76 := Tryz.sizeOf220
  v76 := Tryz.zeroValue220
  t127 := Tryz.underlying268
  a127 := Tryz.isAgg268
  z127 := Tryz.sizeOf268
  v127 := Tryz.zeroValue268
  t164 := Tryz.underlying290
  a164 := Tryz.isAgg290
  z164 := Tryz.sizeOf290
  v164 := Tryz.zeroValue290 }
theorem Tryz.Builder_Extra_156 : Builder.Extra Tryz.prog Tryz.lays156_ren := {
  sizeBuilder := by kernel_rfl
  liesBuilder := by kernel_rfl
  t5 := Tryz.underlying5
  a5 := Tryz.isAgg5
  z5 := Tryz.sizeOf5
  v5 := Tryz.zeroValue5
  infoByte := by kernel_rfl
  cellsByte := by kernel_rfl
  sizeByte := by kernel_rfl
  neB5 := by decide }
open Go.RowKit in
/-- No element: the empty string; the world is as it was. (Whatever the slice's address and capacity: a nil slice too.) (LAID: no walk: one application.) -/
theorem Tryz.strings_Join_none (a : Option Addr) (c : Nat) (sep : ByteArray) (w : World) :
    Calls Tryz.prog 217 #[.slice a 0 c, .string sep] w fun e w' => e = .returned (.string ⟨#[]⟩) ∧ w' = w := Any.strings_Join_none Tryz.lays156 Tryz.Builder_Extra_156 a c sep w
open Go.RowKit in
/-- strings.Join: "Join concatenates the elements of its first argument to create a single string. The separator string sep is placed between elements in the resulting string.": HOWEVER MANY ELEMENTS. Below the heap's end the world is as it was. (LAID: no walk: one application.) -/
theorem Tryz.strings_Join (bk o c : Nat) (xs : List ByteArray) (sep : ByteArray) (w : World) (hcells : ∀ (j : Nat) x, xs[j]? = some x → w.cell? ⟨bk, o + j, none⟩ = some (.string x)) (hbk : bk < w.heap.size) (hN : xs.length ≤ 140737488355328) (hcap : xs.length ≤ c) (hlen : (Lib.join (xs.map (·.data.toList)) sep.data.toList).length ≤ 140737488355328) :
    Calls Tryz.prog 217 #[.slice (some ⟨bk, o, none⟩) xs.length c, .string sep] w fun e w' => e = .returned (.string ⟨(Lib.join (xs.map (·.data.toList)) sep.data.toList).toArray⟩) ∧ Below w.heap.size w w' := Any.strings_Join Tryz.lays156 Tryz.Builder_Extra_156 bk o c xs sep w hcells hbk hN hcap hlen
def Tryz.lays128_ren : Go.Shelf.Ren := ⟨fun | 128 => 282 | n => n, fun | 51 => 199 | 3 => 3 | 4 => 4 | 46 => 121 | 5 => 5 | 9 => 9 | n => n, fun | n => n⟩
theorem Tryz.lays128 : Go.Proofs.Lays.n128 Tryz.prog Tryz.lays128_ren := {
  mixed := by kernel_rfl
  f128 := Tryz.func282.trans (congrArg some (by kernel_rfl))
  t3 := Tryz.underlying3
  a3 := Tryz.isAgg3
  z3 := Tryz.sizeOf3
  v3 := Tryz.zeroValue3
  t4 := Tryz.underlying4
  a4 := Tryz.isAgg4
  z4 := Tryz.sizeOf4
  v4 := Tryz.zeroValue4
  t5 := Tryz.underlying5
  a5 := Tryz.isAgg5
  z5 := Tryz.sizeOf5
  v5 := Tryz.zeroValue5
  t9 := Tryz.underlying9
  a9 := Tryz.isAgg9
  z9 := Tryz.sizeOf9
  v9 := Tryz.zeroValue9
  t46 := Tryz.underlying121
  a46 := Tryz.isAgg121
  z46 := Tryz.sizeOf121
  v46 := Tryz.zeroValue121
  t51 := Tryz.underlying199
  a51 := Tryz.isAgg199
  z51 := Tryz.sizeOf199
  v51 := Tryz.zeroValue199 }
/-- bits.Len32: "Len32 returns the minimum number of bits required to represent x; the result is 0 for x == 0.": IT RETURNS 'Lib.bitLen x'; the world is as it was. ('h0', 'h1': x is a uint32.) (LAID: no walk: one application.) -/
theorem Tryz.bits_Len32 (x : Int) (w : World) (h0 : 0 ≤ x) (h1 : x ≤ 4294967295) :
    Calls Tryz.prog 282 #[.int .u32 x] w fun e w' => e = .returned (.int .i64 (Lib.bitLen x.toNat)) ∧ w' = w := Any.bits_Len32 Tryz.lays128 x w h0 h1
def Tryz.lays125_ren : Go.Shelf.Ren := ⟨fun | 125 => 245 | 128 => 282 | 129 => 283 | n => n, fun | 46 => 121 | 3 => 3 | 51 => 199 | 53 => 198 | 4 => 4 | 5 => 5 | 9 => 9 | n => n, fun | n => n⟩
theorem Tryz.lays125 : Go.Proofs.Lays.n125 Tryz.prog Tryz.lays125_ren := {
  mixed := by kernel_rfl
  f125 := Tryz.func245.trans (congrArg some (by kernel_rfl))
  f128 := Tryz.func282.trans (congrArg some (by kernel_rfl))
  f129 := Tryz.func283.trans (congrArg some (by kernel_rfl))
  t3 := Tryz.underlying3
  a3 := Tryz.isAgg3
  z3 := Tryz.sizeOf3
  v3 := Tryz.zeroValue3
  t4 := Tryz.underlying4
  a4 := Tryz.isAgg4
  z4 := Tryz.sizeOf4
  v4 := Tryz.zeroValue4
  t5 := Tryz.underlying5
  a5 := Tryz.isAgg5
  z5 := Tryz.sizeOf5
  v5 := Tryz.zeroValue5
  t9 := Tryz.underlying9
  a9 := Tryz.isAgg9
  z9 := Tryz.sizeOf9
  v9 := Tryz.zeroValue9
  t46 := Tryz.underlying121
  a46 := Tryz.isAgg121
  z46 := Tryz.sizeOf121
  v46 := Tryz.zeroValue121
  t51 := Tryz.underlying199
  a51 := Tryz.isAgg199
  z51 := Tryz.sizeOf199
  v51 := Tryz.zeroValue199
  t53 := Tryz.underlying198
  a53 := Tryz.isAgg198
  z53 := Tryz.sizeOf198
  v53 := Tryz.zeroValue198 }
/-- bits.Len: "Len returns the minimum number of bits required to represent x; the result is 0 for x == 0.": IT RETURNS 'Lib.bitLen x'; the world is as it was. (A uint has 64 bits in the model.) ITS CALLEE bits.Len64 IS MET BY ITS OWN CONTRACT OFF THE SHELF (lay that first). (LAID: no walk: one application.) -/
theorem Tryz.bits_Len (x : Int) (w : World) (h0 : 0 ≤ x) (h1 : x ≤ 18446744073709551615) :
    Calls Tryz.prog 245 #[.int .u64 x] w fun e w' => e = .returned (.int .i64 (Lib.bitLen x.toNat)) ∧ w' = w := Any.bits_Len Tryz.lays125 x w h0 h1
def Tryz.lays213_ren : Go.Shelf.Ren := ⟨fun | 213 => 246 | 265 => 284 | n => n, fun | 9 => 9 | 3 => 3 | n => n, fun | n => n⟩
theorem Tryz.lays213 : Go.Proofs.Lays.n213 Tryz.prog Tryz.lays213_ren := {
  mixed := by kernel_rfl
  f213 := Tryz.func246.trans (congrArg some (by kernel_rfl))
  f265 := Tryz.func284.trans (congrArg some (by kernel_rfl))
  t3 := Tryz.underlying3
  a3 := Tryz.isAgg3
  z3 := Tryz.sizeOf3
  v3 := Tryz.zeroValue3
  t9 := Tryz.underlying9
  a9 := Tryz.isAgg9
  z9 := Tryz.sizeOf9
  v9 := Tryz.zeroValue9 }
open Go.RowKit in
/-- internal/bytealg.CompareString (what strings.Compare calls): IT RETURNS 'Lib.compareBytes a b'; the world is as it was. (LAID: no walk: one application.) -/
theorem Tryz.bytealg_CompareString (a b : ByteArray) (w : World) :
    Calls Tryz.prog 246 #[.string a, .string b] w fun e w' => e = .returned (.int .i64 (Lib.compareBytes a.data.toList b.data.toList)) ∧ w' = w := Any.bytealg_CompareString Tryz.lays213 a b w
def Tryz.lays106_ren : Go.Shelf.Ren := ⟨fun | 106 => 169 | 213 => 246 | 265 => 284 | n => n, fun | 9 => 9 | 3 => 3 | n => n, fun | n => n⟩
theorem Tryz.lays106 : Go.Proofs.Lays.n106 Tryz.prog Tryz.lays106_ren := {
  mixed := by kernel_rfl
  f106 := Tryz.func169.trans (congrArg some (by kernel_rfl))
  f213 := Tryz.func246.trans (congrArg some (by kernel_rfl))
  f265 := Tryz.func284.trans (congrArg some (by kernel_rfl))
  t3 := Tryz.underlying3
  a3 := Tryz.isAgg3
  z3 := Tryz.sizeOf3
  v3 := Tryz.zeroValue3
  t9 := Tryz.underlying9
  a9 := Tryz.isAgg9
  z9 := Tryz.sizeOf9
  v9 := Tryz.zeroValue9 }
open Go.RowKit in
/-- strings.Compare: "Compare returns an integer comparing two strings lexicographically. The result will be 0 if a == b, -1 if a < b, and +1 if a > b.": IT RETURNS 'Lib.compareBytes a b'; the world is as it was. (LAID: no walk: one application.) -/
theorem Tryz.strings_Compare (a b : ByteArray) (w : World) :
    Calls Tryz.prog 169 #[.string a, .string b] w fun e w' => e = .returned (.int .i64 (Lib.compareBytes a.data.toList b.data.toList)) ∧ w' = w := Any.strings_Compare Tryz.lays106 a b w
def Tryz.lays210_ren : Go.Shelf.Ren := ⟨fun | 210 => 247 | 206 => 248 | n => n, fun | 9 => 9 | 4 => 4 | 3 => 3 | n => n, fun | n => n⟩
theorem Tryz.lays210 : Go.Proofs.Lays.n210 Tryz.prog Tryz.lays210_ren := {
  mixed := by kernel_rfl
  f206 := Tryz.func248.trans (congrArg some (by kernel_rfl))
  f210 := Tryz.func247.trans (congrArg some (by kernel_rfl))
  t3 := Tryz.underlying3
  a3 := Tryz.isAgg3
  z3 := Tryz.sizeOf3
  v3 := Tryz.zeroValue3
  t4 := Tryz.underlying4
  a4 := Tryz.isAgg4
  z4 := Tryz.sizeOf4
  v4 := Tryz.zeroValue4
  t9 := Tryz.underlying9
  a9 := Tryz.isAgg9
  z9 := Tryz.sizeOf9
  v9 := Tryz.zeroValue9 }
open Go.RowKit in
/-- internal/stringslite.CutPrefix (what strings.CutPrefix calls). (LAID: no walk: one application.) -/
theorem Tryz.stringslite_CutPrefix (s p : ByteArray) (w : World) :
    Calls Tryz.prog 247 #[.string s, .string p] w fun e w' => e = .returned (.tuple #[.string ⟨(Lib.trimPrefix s.data.toList p.data.toList).toArray⟩, .bool (Lib.hasPrefix s.data.toList p.data.toList)]) ∧ w' = w := Any.stringslite_CutPrefix Tryz.lays210 s p w
def Tryz.lays103_ren : Go.Shelf.Ren := ⟨fun | 103 => 170 | 210 => 247 | 206 => 248 | n => n, fun | 9 => 9 | 4 => 4 | 24 => 144 | 3 => 3 | n => n, fun | n => n⟩
theorem Tryz.lays103 : Go.Proofs.Lays.n103 Tryz.prog Tryz.lays103_ren := {
  mixed := by kernel_rfl
  f103 := Tryz.func170.trans (congrArg some (by kernel_rfl))
  f206 := Tryz.func248.trans (congrArg some (by kernel_rfl))
  f210 := Tryz.func247.trans (congrArg some (by kernel_rfl))
  t3 := Tryz.underlying3
  a3 := Tryz.isAgg3
  z3 := Tryz.sizeOf3
  v3 := Tryz.zeroValue3
  t4 := Tryz.underlying4
  a4 := Tryz.isAgg4
  z4 := Tryz.sizeOf4
  v4 := Tryz.zeroValue4
  t9 := Tryz.underlying9
  a9 := Tryz.isAgg9
  z9 := Tryz.sizeOf9
  v9 := Tryz.zeroValue9
  t24 := Tryz.underlying144
  a24 := Tryz.isAgg144
  z24 := Tryz.sizeOf144
  v24 := Tryz.zeroValue144 }
open Go.RowKit in
/-- strings.CutPrefix: "CutPrefix returns s without the provided leading prefix string and reports whether it found the prefix. If s doesn't start with prefix, CutPrefix returns s, false. If prefix is the empty string, CutPrefix returns s, true.": IT RETURNS '(Lib.trimPrefix s p, Lib.hasPrefix s p)'; the world is as it was. (LAID: no walk: one application.) -/
theorem Tryz.strings_CutPrefix (s p : ByteArray) (w : World) :
    Calls Tryz.prog 170 #[.string s, .string p] w fun e w' => e = .returned (.tuple #[.string ⟨(Lib.trimPrefix s.data.toList p.data.toList).toArray⟩, .bool (Lib.hasPrefix s.data.toList p.data.toList)]) ∧ w' = w := Any.strings_CutPrefix Tryz.lays103 s p w
open Go.RowKit in
/-- (*strings.Builder).Len: "Len returns the number of accumulated bytes; b.Len() == len(b.String()).": the world is as it was. (THE FORM '_f': 'Lib.IsBuilderF'.) (LAID: no walk: one application.) -/
theorem Tryz.Builder_Len_f (B b : Nat) (bs : List Value) (w : World) (h : Lib.IsBuilderF 217 5 B b bs w) :
    Calls Tryz.prog 273 #[.pointer (some ⟨b, 0, none⟩)] w fun e w' => e = .returned (.int .i64 bs.length) ∧ w' = w := Any.Builder_Len_f Tryz.lays170 B b bs w h
open Go.RowKit in
/-- (*strings.Builder).String: "String returns the accumulated string.": OF A BUILDER THAT HOLDS AT LEAST ONE BYTE. ✋ THE MODEL FREEZES THOSE BYTES IN THE BUFFER (unsafe.String): a later write INTO them ends the model's run without an answer; a later append BEHIND them goes on. The statement's order of evaluation is drawn: one draw. THE FORM '_f': IT SAYS BESIDES THAT THE BUILDER IS A BUILDER STILL ('Lib.IsBuilderF', the same bytes): SO IT CAN BE WRITTEN ON: 'b.WriteString(b.String()[:k])'. (LAID: no walk: one application.) -/
theorem Tryz.Builder_String_f (B b : Nat) (l : List UInt8) (w : World) (h : Lib.IsBuilderF 217 5 B b (Lib.byteCells l) w) (h0 : l ≠ []) :
    Calls Tryz.prog 165 #[.pointer (some ⟨b, 0, none⟩)] w fun e w' => e = .returned (.string ⟨l.toArray⟩) ∧ (Lib.IsBuilderF 217 5 B b (Lib.byteCells l) w' ∧ Below B w w') := Any.Builder_String_f Tryz.lays169 Tryz.Builder_Extra_169 B b l w h h0
open Go.RowKit in
/-- (*strings.Builder).String OF A BUILDER THAT HOLDS NO BYTE: the empty string; THE FORM '_f': a builder still. (LAID: no walk: one application.) -/
theorem Tryz.Builder_String_empty_f (B b : Nat) (w : World) (h : Lib.IsBuilderF 217 5 B b [] w) (hBw : B ≤ w.heap.size) :
    Calls Tryz.prog 165 #[.pointer (some ⟨b, 0, none⟩)] w fun e w' => e = .returned (.string ⟨#[]⟩) ∧ (Lib.IsBuilderF 217 5 B b [] w' ∧ Below B w w') := Any.Builder_String_empty_f Tryz.lays169 Tryz.Builder_Extra_169 B b w h hBw
open Go.RowKit in
/-- (*strings.Builder).String: "String returns the accumulated string.": WHATEVER THE BUILDER HOLDS; THE FORM '_f': OF A BUILDER THAT MAY HAVE BEEN READ BEFORE; AND IT IS A BUILDER STILL, holding the same bytes: it can be written on. (LAID: no walk: one application.) -/
theorem Tryz.Builder_String_any_f (B b : Nat) (l : List UInt8) (w : World) (h : Lib.IsBuilderF 217 5 B b (Lib.byteCells l) w) (hBw : B ≤ w.heap.size) :
    Calls Tryz.prog 165 #[.pointer (some ⟨b, 0, none⟩)] w fun e w' => e = .returned (.string ⟨l.toArray⟩) ∧ (Lib.IsBuilderF 217 5 B b (Lib.byteCells l) w' ∧ Below B w w') := Any.Builder_String_any_f Tryz.lays169 Tryz.Builder_Extra_169 B b l w h hBw
open Go.RowKit in
/-- (*strings.Builder).String: "String returns the accumulated string.": OF A BUILDER THAT HOLDS AT LEAST ONE BYTE. ✋ THE MODEL FREEZES THOSE BYTES IN THE BUFFER (unsafe.String): a later write INTO them ends the model's run without an answer; a later append BEHIND them goes on. The statement's order of evaluation is drawn: one draw. THE FORM '_k': OVER 'Lib.IsBuilderF' (a builder that 'String()' may have read), AND WITH THE FRAME THAT REACHES ABOVE THE BUILDER: 'Lib.OthersKept': every block that is not b and is no row of uint8's stands as it stood: the iterator of a range among them. (LAID: no walk: one application.) -/
theorem Tryz.Builder_String_k (B b : Nat) (l : List UInt8) (w : World) (h : Lib.IsBuilderF 217 5 B b (Lib.byteCells l) w) (h0 : l ≠ []) :
    Calls Tryz.prog 165 #[.pointer (some ⟨b, 0, none⟩)] w fun e w' => e = .returned (.string ⟨l.toArray⟩) ∧ (Lib.IsBuilderF 217 5 B b (Lib.byteCells l) w' ∧ Below B w w' ∧ Lib.OthersKept 5 (some b) w w') := Any.Builder_String_k Tryz.lays169 Tryz.Builder_Extra_169 B b l w h h0
open Go.RowKit in
/-- (*strings.Builder).String OF A BUILDER THAT HOLDS NO BYTE: the empty string; THE FORM '_k': OVER 'Lib.IsBuilderF' (a builder that 'String()' may have read), AND WITH THE FRAME THAT REACHES ABOVE THE BUILDER: 'Lib.OthersKept': every block that is not b and is no row of uint8's stands as it stood: the iterator of a range among them. (LAID: no walk: one application.) -/
theorem Tryz.Builder_String_empty_k (B b : Nat) (w : World) (h : Lib.IsBuilderF 217 5 B b [] w) (hBw : B ≤ w.heap.size) :
    Calls Tryz.prog 165 #[.pointer (some ⟨b, 0, none⟩)] w fun e w' => e = .returned (.string ⟨#[]⟩) ∧ (Lib.IsBuilderF 217 5 B b [] w' ∧ Below B w w' ∧ Lib.OthersKept 5 (some b) w w') := Any.Builder_String_empty_k Tryz.lays169 Tryz.Builder_Extra_169 B b w h hBw
open Go.RowKit in
/-- (*strings.Builder).String: "String returns the accumulated string.": WHATEVER THE BUILDER HOLDS; THE FORM '_k': OVER 'Lib.IsBuilderF' (a builder that 'String()' may have read), AND WITH THE FRAME THAT REACHES ABOVE THE BUILDER: 'Lib.OthersKept': every block that is not b and is no row of uint8's stands as it stood: the iterator of a range among them. (LAID: no walk: one application.) -/
theorem Tryz.Builder_String_any_k (B b : Nat) (l : List UInt8) (w : World) (h : Lib.IsBuilderF 217 5 B b (Lib.byteCells l) w) (hBw : B ≤ w.heap.size) :
    Calls Tryz.prog 165 #[.pointer (some ⟨b, 0, none⟩)] w fun e w' => e = .returned (.string ⟨l.toArray⟩) ∧ (Lib.IsBuilderF 217 5 B b (Lib.byteCells l) w' ∧ Below B w w' ∧ Lib.OthersKept 5 (some b) w w') := Any.Builder_String_any_k Tryz.lays169 Tryz.Builder_Extra_169 B b l w h hBw
open Go.RowKit in
/-- (*strings.Builder).grow (no doc but "grow copies the buffer to a new, larger buffer so that there are at least n bytes of capacity beyond len(b.buf)."): AT A BUILDER WITHOUT A BUFFER: a new row of whatever bytes for its buffer, none of them its own yet. Three draws. (LAID: no walk: one application.) -/
theorem Tryz.Builder_grow_fresh_cap (B b n : Nat) (w : World) (hB : B ≤ b) (hbk : w.heap[b]? = some (.cells #[.pointer (some ⟨b, 0, none⟩), .slice none 0 0] 217 (0, 0))) (hBw : B ≤ w.heap.size) (hn : n ≤ 281474976710656) :
    Calls Tryz.prog 288 #[.pointer (some ⟨b, 0, none⟩), .int .i64 n] w fun e w' => e = .returned (.tuple #[]) ∧ (Lib.BuilderAt 217 5 B b (.pointer (some ⟨b, 0, none⟩)) [] w' ∧ Below B w w') ∧ ∃ p cap, w'.cell? ⟨b, 1, none⟩ = some (.slice p 0 cap) ∧ n ≤ cap := Any.Builder_grow_fresh_cap Tryz.lays241 Tryz.Builder_Extra_241 B b n w hB hbk hBw hn
open Go.RowKit in
/-- (*strings.Builder).Grow AT A BUILDER THAT HAS NOT BEEN WRITTEN ('var b strings.Builder; b.Grow(n)'): "Grow grows b's capacity, if necessary, to guarantee space for another n bytes.": it holds no byte behind it as before it. (LAID: no walk: one application.) -/
theorem Tryz.Builder_Grow_fresh_cap (B b n : Nat) (w : World) (hB : B ≤ b) (hbk : w.heap[b]? = some (.cells #[.pointer none, .slice none 0 0] 217 (0, 0))) (hBw : B ≤ w.heap.size) (hn : n ≤ 281474976710656) :
    Calls Tryz.prog 261 #[.pointer (some ⟨b, 0, none⟩), .int .i64 n] w fun e w' => e = .returned (.tuple #[]) ∧ (Lib.BuilderAt 217 5 B b (.pointer (some ⟨b, 0, none⟩)) [] w' ∧ Below B w w') ∧ ∃ p cap, w'.cell? ⟨b, 1, none⟩ = some (.slice p 0 cap) ∧ n ≤ cap := Any.Builder_Grow_fresh_cap Tryz.lays165 Tryz.Builder_Extra_165 B b n w hB hbk hBw hn
def Tryz.lays129_ren : Go.Shelf.Ren := ⟨fun | 129 => 283 | n => n, fun | 53 => 198 | 3 => 3 | 4 => 4 | 46 => 121 | 5 => 5 | 9 => 9 | n => n, fun | n => n⟩
theorem Tryz.lays129 : Go.Proofs.Lays.n129 Tryz.prog Tryz.lays129_ren := {
  mixed := by kernel_rfl
  f129 := Tryz.func283.trans (congrArg some (by kernel_rfl))
  t3 := Tryz.underlying3
  a3 := Tryz.isAgg3
  z3 := Tryz.sizeOf3
  v3 := Tryz.zeroValue3
  t4 := Tryz.underlying4
  a4 := Tryz.isAgg4
  z4 := Tryz.sizeOf4
  v4 := Tryz.zeroValue4
  t5 := Tryz.underlying5
  a5 := Tryz.isAgg5
  z5 := Tryz.sizeOf5
  v5 := Tryz.zeroValue5
  t9 := Tryz.underlying9
  a9 := Tryz.isAgg9
  z9 := Tryz.sizeOf9
  v9 := Tryz.zeroValue9
  t46 := Tryz.underlying121
  a46 := Tryz.isAgg121
  z46 := Tryz.sizeOf121
  v46 := Tryz.zeroValue121
  t53 := Tryz.underlying198
  a53 := Tryz.isAgg198
  z53 := Tryz.sizeOf198
  v53 := Tryz.zeroValue198 }
/-- bits.Len64: "Len64 returns the minimum number of bits required to represent x; the result is 0 for x == 0.": IT RETURNS 'Lib.bitLen x'; the world is as it was. ('h0', 'h1': x is a uint64.) (LAID: no walk: one application.) -/
theorem Tryz.bits_Len64 (x : Int) (w : World) (h0 : 0 ≤ x) (h1 : x ≤ 18446744073709551615) :
    Calls Tryz.prog 283 #[.int .u64 x] w fun e w' => e = .returned (.int .i64 (Lib.bitLen x.toNat)) ∧ w' = w := Any.bits_Len64 Tryz.lays129 x w h0 h1
def Tryz.lays317_ren : Go.Shelf.Ren := ⟨fun | 317 => 314 | n => n, fun | 3 => 3 | 46 => 121 | n => n, fun | n => n⟩
theorem Tryz.lays317 : Go.Proofs.Lays.n317 Tryz.prog Tryz.lays317_ren := {
  mixed := by kernel_rfl
  f317 := Tryz.func314.trans (congrArg some (by kernel_rfl))
  t3 := Tryz.underlying3
  a3 := Tryz.isAgg3
  z3 := Tryz.sizeOf3
  v3 := Tryz.zeroValue3
  t46 := Tryz.underlying121
  a46 := Tryz.isAgg121
  z46 := Tryz.sizeOf121
  v46 := Tryz.zeroValue121 }
open Go.Lib in
/-- internal/strconv.log10Pow2: "log10Pow2(x) returns ⌊log₁₀ 2**x⌋ = ⌊x * log₁₀ 2⌋.": '(x * 78913) >> 18', at an x up to 64 (a length in bits). The world is as it was. (LAID: no walk: one application.) -/
theorem Tryz.internal_strconv_log10Pow2 (x : Nat) (h : x ≤ 64) (w : World) :
    Calls Tryz.prog 314 #[.int .i64 x] w fun e w' => e = .returned (.int .i64 (Lib.l10 x)) ∧ w' = w := Any.internal_strconv_log10Pow2 Tryz.lays317 x h w
def Tryz.lays318_ren : Go.Shelf.Ren := ⟨fun | 318 => 315 | n => n, fun | 3 => 3 | 4 => 4 | n => n, fun | n => n⟩
theorem Tryz.lays318 : Go.Proofs.Lays.n318 Tryz.prog Tryz.lays318_ren := {
  mixed := by kernel_rfl
  f318 := Tryz.func315.trans (congrArg some (by kernel_rfl))
  t3 := Tryz.underlying3
  a3 := Tryz.isAgg3
  z3 := Tryz.sizeOf3
  v3 := Tryz.zeroValue3
  t4 := Tryz.underlying4
  a4 := Tryz.isAgg4
  z4 := Tryz.sizeOf4
  v4 := Tryz.zeroValue4 }
open Go.Lib in
/-- internal/strconv.bool2: "bool2 converts b to an integer: 1 for true, 0 for false." The world is as it was. (LAID: no walk: one application.) -/
theorem Tryz.internal_strconv_bool2_int (b : Bool) (w : World) :
    Calls Tryz.prog 315 #[.bool b] w fun e w' => e = .returned (.int .i64 (if b then 1 else 0)) ∧ w' = w := Any.internal_strconv_bool2_int Tryz.lays318 b w
def Tryz.lays283_ren : Go.Shelf.Ren := ⟨fun | 283 => 307 | n => n, fun | 3 => 3 | 9 => 9 | 4 => 4 | n => n, fun | n => n⟩
theorem Tryz.lays283 : Go.Proofs.Lays.n283 Tryz.prog Tryz.lays283_ren := {
  mixed := by kernel_rfl
  f283 := Tryz.func307.trans (congrArg some (by kernel_rfl))
  t3 := Tryz.underlying3
  a3 := Tryz.isAgg3
  z3 := Tryz.sizeOf3
  v3 := Tryz.zeroValue3
  t4 := Tryz.underlying4
  a4 := Tryz.isAgg4
  z4 := Tryz.sizeOf4
  v4 := Tryz.zeroValue4
  t9 := Tryz.underlying9
  a9 := Tryz.isAgg9
  z9 := Tryz.sizeOf9
  v9 := Tryz.zeroValue9 }
open Go.Lib in
/-- internal/strconv.small: "small returns the string for an i with 0 <= i < nSmalls.": i's decimal numeral. The world is as it was. (LAID: no walk: one application.) -/
theorem Tryz.internal_strconv_small (i : Nat) (h : i < 100) (w : World) :
    Calls Tryz.prog 307 #[.int .i64 i] w fun e w' => e = .returned (.string ⟨(Lib.decDigits i).toArray⟩) ∧ w' = w := Any.internal_strconv_small Tryz.lays283 i h w
def Tryz.laysM284_ren : Go.Shelf.Ren := ⟨fun | 284 => 308 | 129 => 283 | 317 => 314 | 318 => 315 | n => n, fun | 53 => 198 | 3 => 3 | 212 => 329 | 0 => 0 | 4 => 4 | 46 => 121 | 5 => 5 | 9 => 9 | n => n, fun | 17 => 2 | n => n⟩
theorem Tryz.laysM284 : Go.Proofs.LaysM.n284 Tryz.prog Tryz.laysM284_ren := {
  mixed := by kernel_rfl
  f129 := Tryz.func283.trans (congrArg some (by kernel_rfl))
  f284 := Tryz.func308.trans (congrArg some (by kernel_rfl))
  f317 := Tryz.func314.trans (congrArg some (by kernel_rfl))
  f318 := Tryz.func315.trans (congrArg some (by kernel_rfl))
  t0 := Tryz.underlying0
  a0 := Tryz.isAgg0
  z0 := Tryz.sizeOf0
  v0 := Tryz.zeroValue0
  t3 := Tryz.underlying3
  a3 := Tryz.isAgg3
  z3 := Tryz.sizeOf3
  v3 := Tryz.zeroValue3
  t4 := Tryz.underlying4
  a4 := Tryz.isAgg4
  z4 := Tryz.sizeOf4
  v4 := Tryz.zeroValue4
  t5 := Tryz.underlying5
  a5 := Tryz.isAgg5
  z5 := Tryz.sizeOf5
  v5 := Tryz.zeroValue5
  t9 := Tryz.underlying9
  a9 := Tryz.isAgg9
  z9 := Tryz.sizeOf9
  v9 := Tryz.zeroValue9
  t46 := Tryz.underlying121
  a46 := Tryz.isAgg121
  z46 := Tryz.sizeOf121
  v46 := Tryz.zeroValue121
  t53 := Tryz.underlying198
  a53 := Tryz.isAgg198
  z53 := Tryz.sizeOf198
  v53 := Tryz.zeroValue198
  t212 := Tryz.underlying329
  a212 := Tryz.isAgg329
  z212 := Tryz.sizeOf329
  v212 := Tryz.zeroValue329
  g17 := by kernel_rfl
  i0 := by kernel_rfl
  i3 := by kernel_rfl
  i4 := by kernel_rfl
  i5 := by kernel_rfl
  i9 := by kernel_rfl
  i46 := by kernel_rfl
  i53 := by kernel_rfl
  i212 := by kernel_rfl
  m17 := by kernel_rfl }
open Go.Lib in
/-- internal/strconv.numDigits, at a d that is not 0: THE NUMBER OF d's DECIMAL DIGITS. The world is as it was. (LAID: no walk: one application.) -/
theorem Tryz.internal_strconv_numDigits (u : Nat) (h1 : 1 ≤ u) (h2 : u < 18446744073709551616) (w : World) (htab : Lib.TabIs Tryz.prog w "internal/strconv.uint64pow10" .u64 Lib.pow10Tab) :
    Calls Tryz.prog 308 #[.int .u64 u] w fun e w' => e = .returned (.int .i64 (Lib.nDigits u)) ∧ w' = w := Any.internal_strconv_numDigits Tryz.laysM284 u h1 h2 w htab
def Tryz.lays285_ren : Go.Shelf.Ren := ⟨fun | 285 => 309 | n => n, fun | 37 => 151 | 53 => 198 | 3 => 3 | 4 => 4 | 51 => 199 | 9 => 9 | 5 => 5 | 0 => 0 | n => n, fun | n => n⟩
theorem Tryz.lays285 : Go.Proofs.Lays.n285 Tryz.prog Tryz.lays285_ren := {
  mixed := by kernel_rfl
  f285 := Tryz.func309.trans (congrArg some (by kernel_rfl))
  t0 := Tryz.underlying0
  a0 := Tryz.isAgg0
  z0 := Tryz.sizeOf0
  v0 := Tryz.zeroValue0
  t3 := Tryz.underlying3
  a3 := Tryz.isAgg3
  z3 := Tryz.sizeOf3
  v3 := Tryz.zeroValue3
  t4 := Tryz.underlying4
  a4 := Tryz.isAgg4
  z4 := Tryz.sizeOf4
  v4 := Tryz.zeroValue4
  t5 := Tryz.underlying5
  a5 := Tryz.isAgg5
  z5 := Tryz.sizeOf5
  v5 := Tryz.zeroValue5
  t9 := Tryz.underlying9
  a9 := Tryz.isAgg9
  z9 := Tryz.sizeOf9
  v9 := Tryz.zeroValue9
  t37 := Tryz.underlying151
  a37 := Tryz.isAgg151
  z37 := Tryz.sizeOf151
  v37 := Tryz.zeroValue151
  t51 := Tryz.underlying199
  a51 := Tryz.isAgg199
  z51 := Tryz.sizeOf199
  v51 := Tryz.zeroValue199
  t53 := Tryz.underlying198
  a53 := Tryz.isAgg198
  z53 := Tryz.sizeOf198
  v53 := Tryz.zeroValue198 }
open Go.RowKit Go.Sort Go.Lib in
/-- internal/strconv.formatBase10: "formatBase10 formats the decimal representation of u into a. The caller is responsible for ensuring that a is big enough to hold u. If a is too big, leading zeros will be filled in as needed.": THE ROW HOLDS u's DIGITS ('FmtInv .. 0 ..': every place t holds 'dg u (len - 1 - t)'); all else is as it was but for the count of draws. (LAID: no walk: one application.) -/
theorem Tryz.internal_strconv_formatBase10 (blk off cap : Nat) (u : Nat) (d : Array UInt8) (w : World) (hH : Holds (fun (b : UInt8) => Value.int .u8 (b.toNat : Int)) w blk off d) (hu : u < 10 ^ d.size) (hu64 : u < 18446744073709551616) (hsz : d.size < 4611686018427387904) :
    Calls Tryz.prog 309 #[.slice (some ⟨blk, off, none⟩) d.size cap, .int .u64 u] w fun e w' =>
      e = .returned (.tuple #[]) ∧ ∃ (n v' : Nat) (dk : Array UInt8), w' = (putRow (fun (b : UInt8) => Value.int .u8 (b.toNat : Int)) w blk off dk).drewN n ∧ FmtInv d.size u 0 v' dk := Any.internal_strconv_formatBase10 Tryz.lays285 blk off cap u d w hH hu hu64 hsz
def Tryz.laysM246_ren : Go.Shelf.Ren := ⟨fun | 246 => 294 | 283 => 307 | 284 => 308 | 285 => 309 | 286 => 310 | 129 => 283 | 317 => 314 | 318 => 315 | 319 => 316 | 320 => 317 | 337 => 318 | 338 => 319 | n => n, fun | 2 => 2 | 3 => 3 | 9 => 9 | 4 => 4 | 171 => 319 | 0 => 0 | 53 => 198 | 37 => 151 | 5 => 5 | 173 => 321 | 212 => 329 | 51 => 199 | 20 => 20 | 213 => 330 | 46 => 121 | 232 => 28 | 233 => 331 | n => n, fun | 17 => 2 | 18 => 3 | 19 => 4 | n => n⟩
theorem Tryz.laysM246 : Go.Proofs.LaysM.n246 Tryz.prog Tryz.laysM246_ren := {
  mixed := by kernel_rfl
  f129 := Tryz.func283.trans (congrArg some (by kernel_rfl))
  f246 := Tryz.func294.trans (congrArg some (by kernel_rfl))
  f283 := Tryz.func307.trans (congrArg some (by kernel_rfl))
  f284 := Tryz.func308.trans (congrArg some (by kernel_rfl))
  f285 := Tryz.func309.trans (congrArg some (by kernel_rfl))
  f286 := Tryz.func310.trans (congrArg some (by kernel_rfl))
  f317 := Tryz.func314.trans (congrArg some (by kernel_rfl))
  f318 := Tryz.func315.trans (congrArg some (by kernel_rfl))
  f319 := Tryz.func316.trans (congrArg some (by kernel_rfl))
  f320 := Tryz.func317.trans (congrArg some (by kernel_rfl))
  f337 := Tryz.func318.trans (congrArg some (by kernel_rfl))
  f338 := Tryz.func319.trans (congrArg some (by kernel_rfl))
  t0 := Tryz.underlying0
  a0 := Tryz.isAgg0
  z0 := Tryz.sizeOf0
  v0 := Tryz.zeroValue0
  t2 := Tryz.underlying2
  a2 := Tryz.isAgg2
  z2 := Tryz.sizeOf2
  v2 := Tryz.zeroValue2
  t3 := Tryz.underlying3
  a3 := Tryz.isAgg3
  z3 := Tryz.sizeOf3
  v3 := Tryz.zeroValue3
  t4 := Tryz.underlying4
  a4 := Tryz.isAgg4
  z4 := Tryz.sizeOf4
  v4 := Tryz.zeroValue4
  t5 := Tryz.underlying5
  a5 := Tryz.isAgg5
  z5 := Tryz.sizeOf5
  v5 := Tryz.zeroValue5
  t9 := Tryz.underlying9
  a9 := Tryz.isAgg9
  z9 := Tryz.sizeOf9
  v9 := Tryz.zeroValue9
  t20 := Tryz.underlying20
  a20 := Tryz.isAgg20
  z20 := Tryz.sizeOf20
  v20 := Tryz.zeroValue20
  t37 := Tryz.underlying151
  a37 := Tryz.isAgg151
  z37 := Tryz.sizeOf151
  v37 := Tryz.zeroValue151
  t46 := Tryz.underlying121
  a46 := Tryz.isAgg121
  z46 := Tryz.sizeOf121
  v46 := Tryz.zeroValue121
  t51 := Tryz.underlying199
  a51 := Tryz.isAgg199
  z51 := Tryz.sizeOf199
  v51 := Tryz.zeroValue199
  t53 := Tryz.underlying198
  a53 := Tryz.isAgg198
  z53 := Tryz.sizeOf198
  v53 := Tryz.zeroValue198
  t171 := Tryz.underlying319
  a171 := Tryz.isAgg319
  z171 := Tryz.sizeOf319
  v171 := Tryz.zeroValue319
  t173 := Tryz.underlying321
  a173 := Tryz.isAgg321
  z173 := Tryz.sizeOf321
  v173 := Tryz.zeroValue321
  t212 := Tryz.underlying329
  a212 := Tryz.isAgg329
  z212 := Tryz.sizeOf329
  v212 := Tryz.zeroValue329
  t213 := Tryz.underlying330
  a213 := Tryz.isAgg330
  z213 := Tryz.sizeOf330
  t232 := Tryz.underlying28
  a232 := Tryz.isAgg28
  z232 := Tryz.sizeOf28
  v232 := Tryz.zeroValue28
  t233 := Tryz.underlying331
  a233 := Tryz.isAgg331
  z233 := Tryz.sizeOf331
  v233 := Tryz.zeroValue331
  g17 := by kernel_rfl
  g18 := by kernel_rfl
  g19 := by kernel_rfl
  i0 := by kernel_rfl
  i2 := by kernel_rfl
  i3 := by kernel_rfl
  i4 := by kernel_rfl
  i5 := by kernel_rfl
  i9 := by kernel_rfl
  i20 := by kernel_rfl
  i37 := by kernel_rfl
  i46 := by kernel_rfl
  i51 := by kernel_rfl
  i53 := by kernel_rfl
  i171 := by kernel_rfl
  i173 := by kernel_rfl
  i212 := by kernel_rfl
  i232 := by kernel_rfl
  i233 := by kernel_rfl
  m17 := by kernel_rfl
  m18 := by kernel_rfl
  m19 := by kernel_rfl }
open Go.RowKit Go.Sort Go.Lib in
/-- internal/strconv.FormatInt: "FormatInt returns the string representation of i in the given base": AT BASE 10: i's decimal numeral, for every int64. The world behind the call: the world before it, new blocks behind the heap, draws. (LAID: no walk: one application.) -/
theorem Tryz.internal_strconv_FormatInt_10 (n : Int) (h0 : -9223372036854775808 ≤ n) (h1 : n ≤ 9223372036854775807) (w : World) (htab : Lib.TabIs Tryz.prog w "internal/strconv.uint64pow10" .u64 Lib.pow10Tab) :
    Calls Tryz.prog 294 #[.int .i64 n, .int .i64 10] w fun e w' => e = .returned (.string ⟨(Lib.itoa n).toArray⟩) ∧ ∃ k os, w' = grow (w.drewN k) os := Any.internal_strconv_FormatInt_10 Tryz.laysM246 n h0 h1 w htab
def Tryz.lays246_ren : Go.Shelf.Ren := ⟨fun | 246 => 294 | 283 => 307 | 284 => 308 | 285 => 309 | 286 => 310 | 129 => 283 | 317 => 314 | 318 => 315 | 319 => 316 | 320 => 317 | 337 => 318 | 338 => 319 | n => n, fun | 2 => 2 | 3 => 3 | 9 => 9 | 4 => 4 | 171 => 319 | 0 => 0 | 53 => 198 | 37 => 151 | 5 => 5 | 173 => 321 | 212 => 329 | 51 => 199 | 20 => 20 | 213 => 330 | 46 => 121 | 232 => 28 | 233 => 331 | n => n, fun | 17 => 2 | 18 => 3 | 19 => 4 | n => n⟩
theorem Tryz.lays246 : Go.Proofs.Lays.n246 Tryz.prog Tryz.lays246_ren := {
  mixed := by kernel_rfl
  f129 := Tryz.func283.trans (congrArg some (by kernel_rfl))
  f246 := Tryz.func294.trans (congrArg some (by kernel_rfl))
  f283 := Tryz.func307.trans (congrArg some (by kernel_rfl))
  f284 := Tryz.func308.trans (congrArg some (by kernel_rfl))
  f285 := Tryz.func309.trans (congrArg some (by kernel_rfl))
  f286 := Tryz.func310.trans (congrArg some (by kernel_rfl))
  f317 := Tryz.func314.trans (congrArg some (by kernel_rfl))
  f318 := Tryz.func315.trans (congrArg some (by kernel_rfl))
  f319 := Tryz.func316.trans (congrArg some (by kernel_rfl))
  f320 := Tryz.func317.trans (congrArg some (by kernel_rfl))
  f337 := Tryz.func318.trans (congrArg some (by kernel_rfl))
  f338 := Tryz.func319.trans (congrArg some (by kernel_rfl))
  t0 := Tryz.underlying0
  a0 := Tryz.isAgg0
  z0 := Tryz.sizeOf0
  v0 := Tryz.zeroValue0
  t2 := Tryz.underlying2
  a2 := Tryz.isAgg2
  z2 := Tryz.sizeOf2
  v2 := Tryz.zeroValue2
  t3 := Tryz.underlying3
  a3 := Tryz.isAgg3
  z3 := Tryz.sizeOf3
  v3 := Tryz.zeroValue3
  t4 := Tryz.underlying4
  a4 := Tryz.isAgg4
  z4 := Tryz.sizeOf4
  v4 := Tryz.zeroValue4
  t5 := Tryz.underlying5
  a5 := Tryz.isAgg5
  z5 := Tryz.sizeOf5
  v5 := Tryz.zeroValue5
  t9 := Tryz.underlying9
  a9 := Tryz.isAgg9
  z9 := Tryz.sizeOf9
  v9 := Tryz.zeroValue9
  t20 := Tryz.underlying20
  a20 := Tryz.isAgg20
  z20 := Tryz.sizeOf20
  v20 := Tryz.zeroValue20
  t37 := Tryz.underlying151
  a37 := Tryz.isAgg151
  z37 := Tryz.sizeOf151
  v37 := Tryz.zeroValue151
  t46 := Tryz.underlying121
  a46 := Tryz.isAgg121
  z46 := Tryz.sizeOf121
  v46 := Tryz.zeroValue121
  t51 := Tryz.underlying199
  a51 := Tryz.isAgg199
  z51 := Tryz.sizeOf199
  v51 := Tryz.zeroValue199
  t53 := Tryz.underlying198
  a53 := Tryz.isAgg198
  z53 := Tryz.sizeOf198
  v53 := Tryz.zeroValue198
  t171 := Tryz.underlying319
  a171 := Tryz.isAgg319
  z171 := Tryz.sizeOf319
  v171 := Tryz.zeroValue319
  t173 := Tryz.underlying321
  a173 := Tryz.isAgg321
  z173 := Tryz.sizeOf321
  v173 := Tryz.zeroValue321
  t212 := Tryz.underlying329
  a212 := Tryz.isAgg329
  z212 := Tryz.sizeOf329
  v212 := Tryz.zeroValue329
  t213 := Tryz.underlying330
  a213 := Tryz.isAgg330
  z213 := Tryz.sizeOf330
  t232 := Tryz.underlying28
  a232 := Tryz.isAgg28
  z232 := Tryz.sizeOf28
  v232 := Tryz.zeroValue28
  t233 := Tryz.underlying331
  a233 := Tryz.isAgg331
  z233 := Tryz.sizeOf331
  v233 := Tryz.zeroValue331
  g17 := by kernel_rfl
  g18 := by kernel_rfl
  g19 := by kernel_rfl }
open Go.RowKit Go.Sort Go.Lib in
/-- THE ROAD WITHOUT THE TABLE: 0 <= i < 100: two constants are read, nothing is laid: no premise on the world, and the world is as it was. (LAID: no walk: one application.) -/
theorem Tryz.internal_strconv_FormatInt_10_small (i : Nat) (hi : i < 100) (w : World) :
    Calls Tryz.prog 294 #[.int .i64 i, .int .i64 10] w fun e w' => e = .returned (.string ⟨(Lib.decDigits i).toArray⟩) ∧ w' = w := Any.internal_strconv_FormatInt_10_small Tryz.lays246 i hi w
def Tryz.laysM243_ren : Go.Shelf.Ren := ⟨fun | 243 => 271 | 246 => 294 | 283 => 307 | 284 => 308 | 285 => 309 | 286 => 310 | 129 => 283 | 317 => 314 | 318 => 315 | 319 => 316 | 320 => 317 | 337 => 318 | 338 => 319 | n => n, fun | 3 => 3 | 9 => 9 | 2 => 2 | 4 => 4 | 171 => 319 | 0 => 0 | 53 => 198 | 37 => 151 | 5 => 5 | 173 => 321 | 212 => 329 | 51 => 199 | 20 => 20 | 213 => 330 | 46 => 121 | 232 => 28 | 233 => 331 | n => n, fun | 17 => 2 | 18 => 3 | 19 => 4 | n => n⟩
theorem Tryz.laysM243 : Go.Proofs.LaysM.n243 Tryz.prog Tryz.laysM243_ren := {
  mixed := by kernel_rfl
  f129 := Tryz.func283.trans (congrArg some (by kernel_rfl))
  f243 := Tryz.func271.trans (congrArg some (by kernel_rfl))
  f246 := Tryz.func294.trans (congrArg some (by kernel_rfl))
  f283 := Tryz.func307.trans (congrArg some (by kernel_rfl))
  f284 := Tryz.func308.trans (congrArg some (by kernel_rfl))
  f285 := Tryz.func309.trans (congrArg some (by kernel_rfl))
  f286 := Tryz.func310.trans (congrArg some (by kernel_rfl))
  f317 := Tryz.func314.trans (congrArg some (by kernel_rfl))
  f318 := Tryz.func315.trans (congrArg some (by kernel_rfl))
  f319 := Tryz.func316.trans (congrArg some (by kernel_rfl))
  f320 := Tryz.func317.trans (congrArg some (by kernel_rfl))
  f337 := Tryz.func318.trans (congrArg some (by kernel_rfl))
  f338 := Tryz.func319.trans (congrArg some (by kernel_rfl))
  t0 := Tryz.underlying0
  a0 := Tryz.isAgg0
  z0 := Tryz.sizeOf0
  v0 := Tryz.zeroValue0
  t2 := Tryz.underlying2
  a2 := Tryz.isAgg2
  z2 := Tryz.sizeOf2
  v2 := Tryz.zeroValue2
  t3 := Tryz.underlying3
  a3 := Tryz.isAgg3
  z3 := Tryz.sizeOf3
  v3 := Tryz.zeroValue3
  t4 := Tryz.underlying4
  a4 := Tryz.isAgg4
  z4 := Tryz.sizeOf4
  v4 := Tryz.zeroValue4
  t5 := Tryz.underlying5
  a5 := Tryz.isAgg5
  z5 := Tryz.sizeOf5
  v5 := Tryz.zeroValue5
  t9 := Tryz.underlying9
  a9 := Tryz.isAgg9
  z9 := Tryz.sizeOf9
  v9 := Tryz.zeroValue9
  t20 := Tryz.underlying20
  a20 := Tryz.isAgg20
  z20 := Tryz.sizeOf20
  v20 := Tryz.zeroValue20
  t37 := Tryz.underlying151
  a37 := Tryz.isAgg151
  z37 := Tryz.sizeOf151
  v37 := Tryz.zeroValue151
  t46 := Tryz.underlying121
  a46 := Tryz.isAgg121
  z46 := Tryz.sizeOf121
  v46 := Tryz.zeroValue121
  t51 := Tryz.underlying199
  a51 := Tryz.isAgg199
  z51 := Tryz.sizeOf199
  v51 := Tryz.zeroValue199
  t53 := Tryz.underlying198
  a53 := Tryz.isAgg198
  z53 := Tryz.sizeOf198
  v53 := Tryz.zeroValue198
  t171 := Tryz.underlying319
  a171 := Tryz.isAgg319
  z171 := Tryz.sizeOf319
  v171 := Tryz.zeroValue319
  t173 := Tryz.underlying321
  a173 := Tryz.isAgg321
  z173 := Tryz.sizeOf321
  v173 := Tryz.zeroValue321
  t212 := Tryz.underlying329
  a212 := Tryz.isAgg329
  z212 := Tryz.sizeOf329
  v212 := Tryz.zeroValue329
  t213 := Tryz.underlying330
  a213 := Tryz.isAgg330
  z213 := Tryz.sizeOf330
  t232 := Tryz.underlying28
  a232 := Tryz.isAgg28
  z232 := Tryz.sizeOf28
  v232 := Tryz.zeroValue28
  t233 := Tryz.underlying331
  a233 := Tryz.isAgg331
  z233 := Tryz.sizeOf331
  v233 := Tryz.zeroValue331
  g17 := by kernel_rfl
  g18 := by kernel_rfl
  g19 := by kernel_rfl
  i0 := by kernel_rfl
  i2 := by kernel_rfl
  i3 := by kernel_rfl
  i4 := by kernel_rfl
  i5 := by kernel_rfl
  i9 := by kernel_rfl
  i20 := by kernel_rfl
  i37 := by kernel_rfl
  i46 := by kernel_rfl
  i51 := by kernel_rfl
  i53 := by kernel_rfl
  i171 := by kernel_rfl
  i173 := by kernel_rfl
  i212 := by kernel_rfl
  i232 := by kernel_rfl
  i233 := by kernel_rfl
  m17 := by kernel_rfl
  m18 := by kernel_rfl
  m19 := by kernel_rfl }
open Go.RowKit Go.Sort Go.Lib in
/-- internal/strconv.Itoa: "Itoa is equivalent to FormatInt(int64(i), 10).": i's decimal numeral, for every int. (LAID: no walk: one application.) -/
theorem Tryz.internal_strconv_Itoa (n : Int) (h0 : -9223372036854775808 ≤ n) (h1 : n ≤ 9223372036854775807) (w : World) (htab : Lib.TabIs Tryz.prog w "internal/strconv.uint64pow10" .u64 Lib.pow10Tab) :
    Calls Tryz.prog 271 #[.int .i64 n] w fun e w' => e = .returned (.string ⟨(Lib.itoa n).toArray⟩) ∧ ∃ k os, w' = grow (w.drewN k) os := Any.internal_strconv_Itoa Tryz.laysM243 n h0 h1 w htab
def Tryz.lays243_ren : Go.Shelf.Ren := ⟨fun | 243 => 271 | 246 => 294 | 283 => 307 | 284 => 308 | 285 => 309 | 286 => 310 | 129 => 283 | 317 => 314 | 318 => 315 | 319 => 316 | 320 => 317 | 337 => 318 | 338 => 319 | n => n, fun | 3 => 3 | 9 => 9 | 2 => 2 | 4 => 4 | 171 => 319 | 0 => 0 | 53 => 198 | 37 => 151 | 5 => 5 | 173 => 321 | 212 => 329 | 51 => 199 | 20 => 20 | 213 => 330 | 46 => 121 | 232 => 28 | 233 => 331 | n => n, fun | 17 => 2 | 18 => 3 | 19 => 4 | n => n⟩
theorem Tryz.lays243 : Go.Proofs.Lays.n243 Tryz.prog Tryz.lays243_ren := {
  mixed := by kernel_rfl
  f129 := Tryz.func283.trans (congrArg some (by kernel_rfl))
  f243 := Tryz.func271.trans (congrArg some (by kernel_rfl))
  f246 := Tryz.func294.trans (congrArg some (by kernel_rfl))
  f283 := Tryz.func307.trans (congrArg some (by kernel_rfl))
  f284 := Tryz.func308.trans (congrArg some (by kernel_rfl))
  f285 := Tryz.func309.trans (congrArg some (by kernel_rfl))
  f286 := Tryz.func310.trans (congrArg some (by kernel_rfl))
  f317 := Tryz.func314.trans (congrArg some (by kernel_rfl))
  f318 := Tryz.func315.trans (congrArg some (by kernel_rfl))
  f319 := Tryz.func316.trans (congrArg some (by kernel_rfl))
  f320 := Tryz.func317.trans (congrArg some (by kernel_rfl))
  f337 := Tryz.func318.trans (congrArg some (by kernel_rfl))
  f338 := Tryz.func319.trans (congrArg some (by kernel_rfl))
  t0 := Tryz.underlying0
  a0 := Tryz.isAgg0
  z0 := Tryz.sizeOf0
  v0 := Tryz.zeroValue0
  t2 := Tryz.underlying2
  a2 := Tryz.isAgg2
  z2 := Tryz.sizeOf2
  v2 := Tryz.zeroValue2
  t3 := Tryz.underlying3
  a3 := Tryz.isAgg3
  z3 := Tryz.sizeOf3
  v3 := Tryz.zeroValue3
  t4 := Tryz.underlying4
  a4 := Tryz.isAgg4
  z4 := Tryz.sizeOf4
  v4 := Tryz.zeroValue4
  t5 := Tryz.underlying5
  a5 := Tryz.isAgg5
  z5 := Tryz.sizeOf5
  v5 := Tryz.zeroValue5
  t9 := Tryz.underlying9
  a9 := Tryz.isAgg9
  z9 := Tryz.sizeOf9
  v9 := Tryz.zeroValue9
  t20 := Tryz.underlying20
  a20 := Tryz.isAgg20
  z20 := Tryz.sizeOf20
  v20 := Tryz.zeroValue20
  t37 := Tryz.underlying151
  a37 := Tryz.isAgg151
  z37 := Tryz.sizeOf151
  v37 := Tryz.zeroValue151
  t46 := Tryz.underlying121
  a46 := Tryz.isAgg121
  z46 := Tryz.sizeOf121
  v46 := Tryz.zeroValue121
  t51 := Tryz.underlying199
  a51 := Tryz.isAgg199
  z51 := Tryz.sizeOf199
  v51 := Tryz.zeroValue199
  t53 := Tryz.underlying198
  a53 := Tryz.isAgg198
  z53 := Tryz.sizeOf198
  v53 := Tryz.zeroValue198
  t171 := Tryz.underlying319
  a171 := Tryz.isAgg319
  z171 := Tryz.sizeOf319
  v171 := Tryz.zeroValue319
  t173 := Tryz.underlying321
  a173 := Tryz.isAgg321
  z173 := Tryz.sizeOf321
  v173 := Tryz.zeroValue321
  t212 := Tryz.underlying329
  a212 := Tryz.isAgg329
  z212 := Tryz.sizeOf329
  v212 := Tryz.zeroValue329
  t213 := Tryz.underlying330
  a213 := Tryz.isAgg330
  z213 := Tryz.sizeOf330
  t232 := Tryz.underlying28
  a232 := Tryz.isAgg28
  z232 := Tryz.sizeOf28
  v232 := Tryz.zeroValue28
  t233 := Tryz.underlying331
  a233 := Tryz.isAgg331
  z233 := Tryz.sizeOf331
  v233 := Tryz.zeroValue331
  g17 := by kernel_rfl
  g18 := by kernel_rfl
  g19 := by kernel_rfl }
open Go.RowKit Go.Sort Go.Lib in
/-- THE ROAD WITHOUT THE TABLE: 0 <= i < 100. (LAID: no walk: one application.) -/
theorem Tryz.internal_strconv_Itoa_small (i : Nat) (hi : i < 100) (w : World) :
    Calls Tryz.prog 271 #[.int .i64 i] w fun e w' => e = .returned (.string ⟨(Lib.decDigits i).toArray⟩) ∧ w' = w := Any.internal_strconv_Itoa_small Tryz.lays243 i hi w
def Tryz.laysM171_ren : Go.Shelf.Ren := ⟨fun | 171 => 241 | 243 => 271 | 246 => 294 | 283 => 307 | 284 => 308 | 285 => 309 | 286 => 310 | 129 => 283 | 317 => 314 | 318 => 315 | 319 => 316 | 320 => 317 | 337 => 318 | 338 => 319 | n => n, fun | 3 => 3 | 9 => 9 | 2 => 2 | 4 => 4 | 171 => 319 | 0 => 0 | 53 => 198 | 37 => 151 | 5 => 5 | 173 => 321 | 212 => 329 | 51 => 199 | 20 => 20 | 213 => 330 | 46 => 121 | 232 => 28 | 233 => 331 | n => n, fun | 17 => 2 | 18 => 3 | 19 => 4 | n => n⟩
theorem Tryz.laysM171 : Go.Proofs.LaysM.n171 Tryz.prog Tryz.laysM171_ren := {
  mixed := by kernel_rfl
  f129 := Tryz.func283.trans (congrArg some (by kernel_rfl))
  f171 := Tryz.func241.trans (congrArg some (by kernel_rfl))
  f243 := Tryz.func271.trans (congrArg some (by kernel_rfl))
  f246 := Tryz.func294.trans (congrArg some (by kernel_rfl))
  f283 := Tryz.func307.trans (congrArg some (by kernel_rfl))
  f284 := Tryz.func308.trans (congrArg some (by kernel_rfl))
  f285 := Tryz.func309.trans (congrArg some (by kernel_rfl))
  f286 := Tryz.func310.trans (congrArg some (by kernel_rfl))
  f317 := Tryz.func314.trans (congrArg some (by kernel_rfl))
  f318 := Tryz.func315.trans (congrArg some (by kernel_rfl))
  f319 := Tryz.func316.trans (congrArg some (by kernel_rfl))
  f320 := Tryz.func317.trans (congrArg some (by kernel_rfl))
  f337 := Tryz.func318.trans (congrArg some (by kernel_rfl))
  f338 := Tryz.func319.trans (congrArg some (by kernel_rfl))
  t0 := Tryz.underlying0
  a0 := Tryz.isAgg0
  z0 := Tryz.sizeOf0
  v0 := Tryz.zeroValue0
  t2 := Tryz.underlying2
  a2 := Tryz.isAgg2
  z2 := Tryz.sizeOf2
  v2 := Tryz.zeroValue2
  t3 := Tryz.underlying3
  a3 := Tryz.isAgg3
  z3 := Tryz.sizeOf3
  v3 := Tryz.zeroValue3
  t4 := Tryz.underlying4
  a4 := Tryz.isAgg4
  z4 := Tryz.sizeOf4
  v4 := Tryz.zeroValue4
  t5 := Tryz.underlying5
  a5 := Tryz.isAgg5
  z5 := Tryz.sizeOf5
  v5 := Tryz.zeroValue5
  t9 := Tryz.underlying9
  a9 := Tryz.isAgg9
  z9 := Tryz.sizeOf9
  v9 := Tryz.zeroValue9
  t20 := Tryz.underlying20
  a20 := Tryz.isAgg20
  z20 := Tryz.sizeOf20
  v20 := Tryz.zeroValue20
  t37 := Tryz.underlying151
  a37 := Tryz.isAgg151
  z37 := Tryz.sizeOf151
  v37 := Tryz.zeroValue151
  t46 := Tryz.underlying121
  a46 := Tryz.isAgg121
  z46 := Tryz.sizeOf121
  v46 := Tryz.zeroValue121
  t51 := Tryz.underlying199
  a51 := Tryz.isAgg199
  z51 := Tryz.sizeOf199
  v51 := Tryz.zeroValue199
  t53 := Tryz.underlying198
  a53 := Tryz.isAgg198
  z53 := Tryz.sizeOf198
  v53 := Tryz.zeroValue198
  t171 := Tryz.underlying319
  a171 := Tryz.isAgg319
  z171 := Tryz.sizeOf319
  v171 := Tryz.zeroValue319
  t173 := Tryz.underlying321
  a173 := Tryz.isAgg321
  z173 := Tryz.sizeOf321
  v173 := Tryz.zeroValue321
  t212 := Tryz.underlying329
  a212 := Tryz.isAgg329
  z212 := Tryz.sizeOf329
  v212 := Tryz.zeroValue329
  t213 := Tryz.underlying330
  a213 := Tryz.isAgg330
  z213 := Tryz.sizeOf330
  t232 := Tryz.underlying28
  a232 := Tryz.isAgg28
  z232 := Tryz.sizeOf28
  v232 := Tryz.zeroValue28
  t233 := Tryz.underlying331
  a233 := Tryz.isAgg331
  z233 := Tryz.sizeOf331
  v233 := Tryz.zeroValue331
  g17 := by kernel_rfl
  g18 := by kernel_rfl
  g19 := by kernel_rfl
  i0 := by kernel_rfl
  i2 := by kernel_rfl
  i3 := by kernel_rfl
  i4 := by kernel_rfl
  i5 := by kernel_rfl
  i9 := by kernel_rfl
  i20 := by kernel_rfl
  i37 := by kernel_rfl
  i46 := by kernel_rfl
  i51 := by kernel_rfl
  i53 := by kernel_rfl
  i171 := by kernel_rfl
  i173 := by kernel_rfl
  i212 := by kernel_rfl
  i232 := by kernel_rfl
  i233 := by kernel_rfl
  m17 := by kernel_rfl
  m18 := by kernel_rfl
  m19 := by kernel_rfl }
open Go.RowKit Go.Sort Go.Lib in
/-- strconv.Itoa: "Itoa is equivalent to FormatInt(int64(i), 10).": i's DECIMAL NUMERAL ('Lib.itoa': a '-' where i is negative, then the digits), FOR EVERY int. The world behind the call: the world before it, new blocks behind the heap (the library's 'var a [24]byte'), draws. (LAID: no walk: one application.) -/
theorem Tryz.strconv_Itoa (n : Int) (h0 : -9223372036854775808 ≤ n) (h1 : n ≤ 9223372036854775807) (w : World) (htab : Lib.TabIs Tryz.prog w "internal/strconv.uint64pow10" .u64 Lib.pow10Tab) :
    Calls Tryz.prog 241 #[.int .i64 n] w fun e w' => e = .returned (.string ⟨(Lib.itoa n).toArray⟩) ∧ ∃ k os, w' = grow (w.drewN k) os := Any.strconv_Itoa Tryz.laysM171 n h0 h1 w htab
def Tryz.lays171_ren : Go.Shelf.Ren := ⟨fun | 171 => 241 | 243 => 271 | 246 => 294 | 283 => 307 | 284 => 308 | 285 => 309 | 286 => 310 | 129 => 283 | 317 => 314 | 318 => 315 | 319 => 316 | 320 => 317 | 337 => 318 | 338 => 319 | n => n, fun | 3 => 3 | 9 => 9 | 2 => 2 | 4 => 4 | 171 => 319 | 0 => 0 | 53 => 198 | 37 => 151 | 5 => 5 | 173 => 321 | 212 => 329 | 51 => 199 | 20 => 20 | 213 => 330 | 46 => 121 | 232 => 28 | 233 => 331 | n => n, fun | 17 => 2 | 18 => 3 | 19 => 4 | n => n⟩
theorem Tryz.lays171 : Go.Proofs.Lays.n171 Tryz.prog Tryz.lays171_ren := {
  mixed := by kernel_rfl
  f129 := Tryz.func283.trans (congrArg some (by kernel_rfl))
  f171 := Tryz.func241.trans (congrArg some (by kernel_rfl))
  f243 := Tryz.func271.trans (congrArg some (by kernel_rfl))
  f246 := Tryz.func294.trans (congrArg some (by kernel_rfl))
  f283 := Tryz.func307.trans (congrArg some (by kernel_rfl))
  f284 := Tryz.func308.trans (congrArg some (by kernel_rfl))
  f285 := Tryz.func309.trans (congrArg some (by kernel_rfl))
  f286 := Tryz.func310.trans (congrArg some (by kernel_rfl))
  f317 := Tryz.func314.trans (congrArg some (by kernel_rfl))
  f318 := Tryz.func315.trans (congrArg some (by kernel_rfl))
  f319 := Tryz.func316.trans (congrArg some (by kernel_rfl))
  f320 := Tryz.func317.trans (congrArg some (by kernel_rfl))
  f337 := Tryz.func318.trans (congrArg some (by kernel_rfl))
  f338 := Tryz.func319.trans (congrArg some (by kernel_rfl))
  t0 := Tryz.underlying0
  a0 := Tryz.isAgg0
  z0 := Tryz.sizeOf0
  v0 := Tryz.zeroValue0
  t2 := Tryz.underlying2
  a2 := Tryz.isAgg2
  z2 := Tryz.sizeOf2
  v2 := Tryz.zeroValue2
  t3 := Tryz.underlying3
  a3 := Tryz.isAgg3
  z3 := Tryz.sizeOf3
  v3 := Tryz.zeroValue3
  t4 := Tryz.underlying4
  a4 := Tryz.isAgg4
  z4 := Tryz.sizeOf4
  v4 := Tryz.zeroValue4
  t5 := Tryz.underlying5
  a5 := Tryz.isAgg5
  z5 := Tryz.sizeOf5
  v5 := Tryz.zeroValue5
  t9 := Tryz.underlying9
  a9 := Tryz.isAgg9
  z9 := Tryz.sizeOf9
  v9 := Tryz.zeroValue9
  t20 := Tryz.underlying20
  a20 := Tryz.isAgg20
  z20 := Tryz.sizeOf20
  v20 := Tryz.zeroValue20
  t37 := Tryz.underlying151
  a37 := Tryz.isAgg151
  z37 := Tryz.sizeOf151
  v37 := Tryz.zeroValue151
  t46 := Tryz.underlying121
  a46 := Tryz.isAgg121
  z46 := Tryz.sizeOf121
  v46 := Tryz.zeroValue121
  t51 := Tryz.underlying199
  a51 := Tryz.isAgg199
  z51 := Tryz.sizeOf199
  v51 := Tryz.zeroValue199
  t53 := Tryz.underlying198
  a53 := Tryz.isAgg198
  z53 := Tryz.sizeOf198
  v53 := Tryz.zeroValue198
  t171 := Tryz.underlying319
  a171 := Tryz.isAgg319
  z171 := Tryz.sizeOf319
  v171 := Tryz.zeroValue319
  t173 := Tryz.underlying321
  a173 := Tryz.isAgg321
  z173 := Tryz.sizeOf321
  v173 := Tryz.zeroValue321
  t212 := Tryz.underlying329
  a212 := Tryz.isAgg329
  z212 := Tryz.sizeOf329
  v212 := Tryz.zeroValue329
  t213 := Tryz.underlying330
  a213 := Tryz.isAgg330
  z213 := Tryz.sizeOf330
  t232 := Tryz.underlying28
  a232 := Tryz.isAgg28
  z232 := Tryz.sizeOf28
  v232 := Tryz.zeroValue28
  t233 := Tryz.underlying331
  a233 := Tryz.isAgg331
  z233 := Tryz.sizeOf331
  v233 := Tryz.zeroValue331
  g17 := by kernel_rfl
  g18 := by kernel_rfl
  g19 := by kernel_rfl }
open Go.RowKit Go.Sort Go.Lib in
/-- THE ROAD WITHOUT THE TABLE: 0 <= i < 100: NO PREMISE ON THE WORLD, AND THE WORLD IS AS IT WAS: a row that keeps its argument in that range need list no table ('laid = []'). (LAID: no walk: one application.) -/
theorem Tryz.strconv_Itoa_small (i : Nat) (hi : i < 100) (w : World) :
    Calls Tryz.prog 241 #[.int .i64 i] w fun e w' => e = .returned (.string ⟨(Lib.decDigits i).toArray⟩) ∧ w' = w := Any.strconv_Itoa_small Tryz.lays171 i hi w
def Tryz.lays206_ren : Go.Shelf.Ren := ⟨fun | 206 => 248 | n => n, fun | 9 => 9 | 4 => 4 | 3 => 3 | n => n, fun | n => n⟩
theorem Tryz.lays206 : Go.Proofs.Lays.n206 Tryz.prog Tryz.lays206_ren := {
  mixed := by kernel_rfl
  f206 := Tryz.func248.trans (congrArg some (by kernel_rfl))
  t3 := Tryz.underlying3
  a3 := Tryz.isAgg3
  z3 := Tryz.sizeOf3
  v3 := Tryz.zeroValue3
  t4 := Tryz.underlying4
  a4 := Tryz.isAgg4
  z4 := Tryz.sizeOf4
  v4 := Tryz.zeroValue4
  t9 := Tryz.underlying9
  a9 := Tryz.isAgg9
  z9 := Tryz.sizeOf9
  v9 := Tryz.zeroValue9 }
open Go.RowKit Go.Lib in
/-- internal/stringslite.HasPrefix (what strings.HasPrefix calls). (LAID: no walk: one application.) -/
theorem Tryz.stringslite_HasPrefix (s p : ByteArray) (w : World) :
    Calls Tryz.prog 248 #[.string s, .string p] w fun e w' => e = .returned (.bool (Lib.hasPrefix s.data.toList p.data.toList)) ∧ w' = w := Any.stringslite_HasPrefix Tryz.lays206 s p w
def Tryz.lays99_ren : Go.Shelf.Ren := ⟨fun | 99 => 171 | 206 => 248 | n => n, fun | 9 => 9 | 4 => 4 | 3 => 3 | n => n, fun | n => n⟩
theorem Tryz.lays99 : Go.Proofs.Lays.n99 Tryz.prog Tryz.lays99_ren := {
  mixed := by kernel_rfl
  f99 := Tryz.func171.trans (congrArg some (by kernel_rfl))
  f206 := Tryz.func248.trans (congrArg some (by kernel_rfl))
  t3 := Tryz.underlying3
  a3 := Tryz.isAgg3
  z3 := Tryz.sizeOf3
  v3 := Tryz.zeroValue3
  t4 := Tryz.underlying4
  a4 := Tryz.isAgg4
  z4 := Tryz.sizeOf4
  v4 := Tryz.zeroValue4
  t9 := Tryz.underlying9
  a9 := Tryz.isAgg9
  z9 := Tryz.sizeOf9
  v9 := Tryz.zeroValue9 }
open Go.RowKit Go.Lib in
/-- strings.HasPrefix: "HasPrefix reports whether the string s begins with prefix.": IT RETURNS 'Lib.hasPrefix s prefix'; the world is as it was. (LAID: no walk: one application.) -/
theorem Tryz.strings_HasPrefix (s p : ByteArray) (w : World) :
    Calls Tryz.prog 171 #[.string s, .string p] w fun e w' => e = .returned (.bool (Lib.hasPrefix s.data.toList p.data.toList)) ∧ w' = w := Any.strings_HasPrefix Tryz.lays99 s p w
def Tryz.lays264_ren : Go.Shelf.Ren := ⟨fun | 264 => 296 | n => n, fun | 53 => 198 | 46 => 121 | n => n, fun | n => n⟩
theorem Tryz.lays264 : Go.Proofs.Lays.n264 Tryz.prog Tryz.lays264_ren := {
  mixed := by kernel_rfl
  f264 := Tryz.func296.trans (congrArg some (by kernel_rfl))
  t46 := Tryz.underlying121
  a46 := Tryz.isAgg121
  z46 := Tryz.sizeOf121
  v46 := Tryz.zeroValue121
  t53 := Tryz.underlying198
  a53 := Tryz.isAgg198
  z53 := Tryz.sizeOf198
  v53 := Tryz.zeroValue198 }
open Go.RowKit Go.Lib in
theorem Tryz.bits_Mul64 (x y : Nat) (hx : x < 18446744073709551616) (hy : y < 18446744073709551616) (w : World) :
    Calls Tryz.prog 296 #[.int .u64 x, .int .u64 y] w fun e w' => e = .returned (.tuple #[.int .u64 ((x * y / 18446744073709551616 : Nat) : Int), .int .u64 ((x * y % 18446744073709551616 : Nat) : Int)]) ∧ w' = w := Any.bits_Mul64 Tryz.lays264 x y hx hy w
def Tryz.lays212_ren : Go.Shelf.Ren := ⟨fun | 212 => 272 | 263 => 295 | 264 => 296 | n => n, fun | 46 => 121 | 51 => 199 | 146 => 306 | 53 => 198 | 148 => 308 | n => n, fun | n => n⟩
theorem Tryz.lays212 : Go.Proofs.Lays.n212 Tryz.prog Tryz.lays212_ren := {
  mixed := by kernel_rfl
  f212 := Tryz.func272.trans (congrArg some (by kernel_rfl))
  f263 := Tryz.func295.trans (congrArg some (by kernel_rfl))
  f264 := Tryz.func296.trans (congrArg some (by kernel_rfl))
  t46 := Tryz.underlying121
  a46 := Tryz.isAgg121
  z46 := Tryz.sizeOf121
  v46 := Tryz.zeroValue121
  t51 := Tryz.underlying199
  a51 := Tryz.isAgg199
  z51 := Tryz.sizeOf199
  v51 := Tryz.zeroValue199
  t53 := Tryz.underlying198
  a53 := Tryz.isAgg198
  z53 := Tryz.sizeOf198
  v53 := Tryz.zeroValue198
  t146 := Tryz.underlying306
  a146 := Tryz.isAgg306
  z146 := Tryz.sizeOf306
  v146 := Tryz.zeroValue306
  t148 := Tryz.underlying308
  a148 := Tryz.isAgg308
  z148 := Tryz.sizeOf308
  v148 := Tryz.zeroValue308 }
open Go.RowKit Go.Lib in
/-- math/bits.Mul: "Mul returns the full-width product of x and y": on a machine of 64 bits: Mul64's. (LAID: no walk: one application.) -/
theorem Tryz.bits_Mul (x y : Nat) (hx : x < 18446744073709551616) (hy : y < 18446744073709551616) (w : World) :
    Calls Tryz.prog 272 #[.int .u64 x, .int .u64 y] w fun e w' => e = .returned (.tuple #[.int .u64 ((x * y / 18446744073709551616 : Nat) : Int), .int .u64 ((x * y % 18446744073709551616 : Nat) : Int)]) ∧ w' = w := Any.bits_Mul Tryz.lays212 x y hx hy w
def Tryz.lays105_ren : Go.Shelf.Ren := ⟨fun | 105 => 242 | 212 => 272 | 99 => 171 | 165 => 261 | 166 => 162 | 170 => 273 | 169 => 165 | 263 => 295 | 264 => 296 | 206 => 248 | 240 => 240 | 241 => 288 | 276 => 270 | 277 => 304 | n => n, fun | 9 => 9 | 3 => 3 | 4 => 4 | 20 => 20 | 0 => 0 | 46 => 121 | 109 => 292 | 5 => 5 | 72 => 217 | 76 => 220 | 51 => 199 | 146 => 306 | 53 => 198 | 148 => 308 | 70 => 215 | 37 => 151 | 75 => 219 | 127 => 268 | 164 => 290 | 80 => 127 | n => n, fun | n => n⟩
theorem Tryz.lays105 : Go.Proofs.Lays.n105 Tryz.prog Tryz.lays105_ren := {
  mixed := by kernel_rfl
  f99 := Tryz.func171.trans (congrArg some (by kernel_rfl))
  f105 := Tryz.func242.trans (congrArg some (by kernel_rfl))
  f165 := Tryz.func261.trans (congrArg some (by kernel_rfl))
  f166 := Tryz.func162.trans (congrArg some (by kernel_rfl))
  f169 := Tryz.func165.trans (congrArg some (by kernel_rfl))
  f170 := Tryz.func273.trans (congrArg some (by kernel_rfl))
  f206 := Tryz.func248.trans (congrArg some (by kernel_rfl))
  f212 := Tryz.func272.trans (congrArg some (by kernel_rfl))
  f240 := Tryz.func240.trans (congrArg some (by kernel_rfl))
  f241 := Tryz.func288.trans (congrArg some (by kernel_rfl))
  f263 := Tryz.func295.trans (congrArg some (by kernel_rfl))
  f264 := Tryz.func296.trans (congrArg some (by kernel_rfl))
  f276 := Tryz.func270.trans (congrArg some (by kernel_rfl))
  f277 := Tryz.func304.trans (congrArg some (by kernel_rfl))
  t0 := Tryz.underlying0
  a0 := Tryz.isAgg0
  z0 := Tryz.sizeOf0
  v0 := Tryz.zeroValue0
  t3 := Tryz.underlying3
  a3 := Tryz.isAgg3
  z3 := Tryz.sizeOf3
  v3 := Tryz.zeroValue3
  t4 := Tryz.underlying4
  a4 := Tryz.isAgg4
  z4 := Tryz.sizeOf4
  v4 := Tryz.zeroValue4
  t5 := Tryz.underlying5
  a5 := Tryz.isAgg5
  z5 := Tryz.sizeOf5
  v5 := Tryz.zeroValue5
  t9 := Tryz.underlying9
  a9 := Tryz.isAgg9
  z9 := Tryz.sizeOf9
  v9 := Tryz.zeroValue9
  t20 := Tryz.underlying20
  a20 := Tryz.isAgg20
  z20 := Tryz.sizeOf20
  v20 := Tryz.zeroValue20
  t37 := Tryz.underlying151
  a37 := Tryz.isAgg151
  z37 := Tryz.sizeOf151
  v37 := Tryz.zeroValue151
  t46 := Tryz.underlying121
  a46 := Tryz.isAgg121
  z46 := Tryz.sizeOf121
  v46 := Tryz.zeroValue121
  t51 := Tryz.underlying199
  a51 := Tryz.isAgg199
  z51 := Tryz.sizeOf199
  v51 := Tryz.zeroValue199
  t53 := Tryz.underlying198
  a53 := Tryz.isAgg198
  z53 := Tryz.sizeOf198
  v53 := Tryz.zeroValue198
  t70 := Tryz.underlying215
  a70 := Tryz.isAgg215
  z70 := Tryz.sizeOf215
  v70 := Tryz.zeroValue215
  t72 := Tryz.underlying217
  a72 := Tryz.isAgg217
  z72 := Tryz.sizeOf217
  v72 := Tryz.zeroValue217
  t75 := Tryz.underlying219
  a75 := Tryz.isAgg219
  z75 := Tryz.sizeOf219
  v75 := Tryz.zeroValue219
  t76 := Tryz.underlying220
  a76 := Tryz.isAgg220
  z76 := Tryz.sizeOf220
  v76 := Tryz.zeroValue220
  t109 := Tryz.underlying292
  a109 := Tryz.isAgg292
  z109 := Tryz.sizeOf292
  v109 := Tryz.zeroValue292
  t127 := Tryz.underlying268
  a127 := Tryz.isAgg268
  z127 := Tryz.sizeOf268
  v127 := Tryz.zeroValue268
  t146 := Tryz.underlying306
  a146 := Tryz.isAgg306
  z146 := Tryz.sizeOf306
  v146 := Tryz.zeroValue306
  t148 := Tryz.underlying308
  a148 := Tryz.isAgg308
  z148 := Tryz.sizeOf308
  v148 := Tryz.zeroValue308
  t164 := Tryz.underlying290
  a164 := Tryz.isAgg290
  z164 := Tryz.sizeOf290
  v164 := Tryz.zeroValue290 }
theorem Tryz.Builder_Extra_105 : Builder.Extra Tryz.prog Tryz.lays105_ren := {
  sizeBuilder := by kernel_rfl
  liesBuilder := by kernel_rfl
  t5 := Tryz.underlying5
  a5 := Tryz.isAgg5
  z5 := Tryz.sizeOf5
  v5 := Tryz.zeroValue5
  infoByte := by kernel_rfl
  cellsByte := by kernel_rfl
  sizeByte := by kernel_rfl
  neB5 := by decide }
open Go.RowKit Go.Lib in
/-- THE MAIN CASE: at least two copies of a string that is not empty. (LAID: no walk: one application.) -/
theorem Tryz.strings_Repeat_main (s : ByteArray) (c : Nat) (w : World) (hc2 : 2 ≤ c) (hc : c ≤ 9223372036854775807) (hlen : s.size * c ≤ 140737488355328) (h0 : 0 < s.size) :
    Calls Tryz.prog 242 #[.string s, .int .i64 c] w fun e w' => e = .returned (.string ⟨(Lib.repeatL s.data.toList c).toArray⟩) ∧ Below w.heap.size w w' := Any.strings_Repeat_main Tryz.lays105 Tryz.Builder_Extra_105 s c w hc2 hc hlen h0
open Go.RowKit Go.Lib in
theorem Tryz.strings_Repeat_zero (s : ByteArray) (w : World) :
    Calls Tryz.prog 242 #[.string s, .int .i64 0] w fun e w' => e = .returned (.string ⟨#[]⟩) ∧ w' = w := Any.strings_Repeat_zero Tryz.lays105 s w
open Go.RowKit Go.Lib in
theorem Tryz.strings_Repeat_one (s : ByteArray) (w : World) :
    Calls Tryz.prog 242 #[.string s, .int .i64 1] w fun e w' => e = .returned (.string s) ∧ w' = w := Any.strings_Repeat_one Tryz.lays105 s w
open Go.RowKit Go.Lib in
/-- Copies of the empty string. (LAID: no walk: one application.) -/
theorem Tryz.strings_Repeat_empty (s : ByteArray) (c : Nat) (w : World) (hc2 : 2 ≤ c) (hc : c ≤ 9223372036854775807) (h0 : s.size = 0) :
    Calls Tryz.prog 242 #[.string s, .int .i64 c] w fun e w' => e = .returned (.string ⟨#[]⟩) ∧ w' = w := Any.strings_Repeat_empty Tryz.lays105 s c w hc2 hc h0
open Go.RowKit Go.Lib in
/-- count < 0: "It panics if count is negative". (LAID: no walk: one application.) -/
theorem Tryz.strings_Repeat_negative (s : ByteArray) (c : Int) (w : World) (hc : c < 0) :
    Calls Tryz.prog 242 #[.string s, .int .i64 c] w fun e w' => e = .panicked [{ v := repeatPanic Tryz.lays105_ren "strings: negative Repeat count", recovered := false }] ∧ w' = w := Any.strings_Repeat_negative Tryz.lays105 s c w hc
open Go.RowKit Go.Lib in
/-- len(s) * count is no int: ".. or if the result of (len(s) * count) overflows". (LAID: no walk: one application.) -/
theorem Tryz.strings_Repeat_overflow (s : ByteArray) (c : Nat) (w : World) (hc : c ≤ 9223372036854775807) (hs : s.size ≤ 9223372036854775807) (hbig : 9223372036854775807 < s.size * c) :
    Calls Tryz.prog 242 #[.string s, .int .i64 c] w fun e w' => e = .panicked [{ v := repeatPanic Tryz.lays105_ren "strings: Repeat output length overflow", recovered := false }] ∧ w' = w := Any.strings_Repeat_overflow Tryz.lays105 s c w hc hs hbig
open Go.RowKit Go.Lib in
/-- **strings.Repeat: count ≥ 0, the result within one allocation: count copies of s.** (LAID: no walk: one application.) -/
theorem Tryz.strings_Repeat (s : ByteArray) (c : Nat) (w : World) (hc : c ≤ 9223372036854775807) (hlen : s.size * c ≤ 140737488355328) :
    Calls Tryz.prog 242 #[.string s, .int .i64 c] w fun e w' => e = .returned (.string ⟨(Lib.repeatL s.data.toList c).toArray⟩) ∧ Below w.heap.size w w' := Any.strings_Repeat Tryz.lays105 Tryz.Builder_Extra_105 s c w hc hlen
end Go.Proofs
