/-
  Memory: new blocks, stores, slices that read as lists, slices that the call owns.
-/
import Derived.Test.YtkdghnbogkbedaaGreatDoorOps
namespace Go.Sh
open Go Go.RowKit

/-- A type's size, its bytes; its zero value has as many cells. -/
class Inf (P : Program) (t : TypeId) (n : outParam Nat) (b : outParam Nat) : Prop where
  ex : ∃ i z, P.info? t = some i ∧ i.size = n ∧ i.bytes = b ∧ i.zero = some z ∧ z.cells.size = n ∧ 0 < n

def infB (P : Program) (t : TypeId) (n b : Nat) : Bool :=
  match P.info? t with
  | some i => Nat.beq i.size n && Nat.beq i.bytes b && (match i.zero with | some z => Nat.beq z.cells.size n | none => false) && Nat.blt 0 n
  | none => false

theorem Inf.of {P : Program} {t : TypeId} {n b : Nat} (h : infB P t n b = true) : Inf P t n b := by
  unfold infB at h
  cases hi : P.info? t with
  | none => simp [hi] at h
  | some i =>
    simp only [hi, Bool.and_eq_true] at h
    obtain ⟨⟨⟨h1, h2⟩, h3⟩, h4⟩ := h
    cases hz : i.zero with
    | none => simp [hz] at h3
    | some z =>
      simp only [hz] at h3
      exact ⟨⟨i, z, hi, Nat.eq_of_beq_eq_true h1, Nat.eq_of_beq_eq_true h2, hz, Nat.eq_of_beq_eq_true h3, blt_lt h4⟩⟩

/-- All of one cell. -/
def Ones (l : List Value) : Prop := ∀ u ∈ l, u.oneCell' = true

theorem Ones.nil : Ones [] := by intro u h; cases h
theorem Ones.cons {u : Value} {l : List Value} (h : u.oneCell' = true) (hl : Ones l) : Ones (u :: l) := by
  intro x hx
  rcases List.mem_cons.1 hx with rfl | hx
  · exact h
  · exact hl x hx
theorem Ones.append {a b : List Value} (ha : Ones a) (hb : Ones b) : Ones (a ++ b) := by
  intro x hx
  rcases List.mem_append.1 hx with hx | hx
  · exact ha x hx
  · exact hb x hx
theorem Ones.bytes (l : List UInt8) : Ones (l.map by_) := by
  intro x hx
  obtain ⟨b, _, rfl⟩ := List.mem_map.1 hx
  rfl
theorem Ones.flat {α : Type} {c : α → List Value} (h : ∀ x, Ones (c x)) (l : List α) : Ones (l.flatMap c) := by
  intro x hx
  obtain ⟨y, _, hy⟩ := List.mem_flatMap.1 hx
  exact h y x hy

section
variable {P : Program} {w w' : World} {g : Nat} {t : TypeId} {cs : List Value} {S : Nat → Prop}

/-! ## New blocks -/

theorem SV_alloc {ty : TypeId} {zs : List Value} [h : Zer P ty zs] {k : Value → World → Prop}
    (hk : ∀ g w', w.heap.size ≤ g → Blk w' g ty zs → Ch No w w' → k (.pointer (some ⟨g, 0, none⟩)) w') : SV P (Instr.alloc ty true (.tuple #[])) w k := by
  refine ⟨_, w.alloc (.cells zs.toArray ty), ?_, hk w.heap.size _ (Nat.le_refl _) (Blk.new w ty zs) (Ch.alloc w _)⟩
  simp only [Instr.alloc, Sem.run_bind, run_zero h.is, Result.andThen_ok, newVar, newRow, h.cells]
  rfl

theorem SV_box {ty : TypeId} {v : Value} {vs : List Value} (hv : v.cells = vs.toArray) {k : Value → World → Prop}
    (hk : ∀ g w', w.heap.size ≤ g → Blk w' g ty vs → Ch No w w' → k (.pointer (some ⟨g, 0, none⟩)) w') : SV P (Instr.box ty v) w k := by
  refine ⟨_, w.alloc (.cells vs.toArray ty), ?_, hk w.heap.size _ (Nat.le_refl _) (Blk.new w ty vs) (Ch.alloc w _)⟩
  simp only [Instr.box, newVar, newRow, hv]
  rfl

/-! ## Stores -/

theorem setCell_ch (w : World) (g o : Nat) (v : Value) : Ch (· = g) w (w.setCell ⟨g, o, none⟩ v) :=
  ⟨rfl, rfl, rfl, by simp [World.setCell], fun k _ hk => heap_setCell_other w _ k v hk⟩

theorem run_store1 {ty : TypeId} [h1 : One P ty] {o : Nat} {v : Value} (h : Blk w g t cs) (ho : o < cs.length) (hv : v.oneCell' = true) :
    (Instr.storeAt ty (.pointer (some ⟨g, o, none⟩)) v).run P w = .ok () (w.setCell ⟨g, o, none⟩ v) := by
  have hc : w.cell? ⟨g, o, none⟩ = some cs[o] := by rw [h.cell]; exact List.getElem?_eq_getElem ho
  have hf : w.frozen? ⟨g, o, none⟩ = false := frozen_of_row w g o _ t h
  have hcells : v.cells = #[v] := by cases v <;> first | rfl | (simp [Value.oneCell'] at hv)
  have hs : (store ⟨g, o, none⟩ v).run P w = .ok () (w.setCell ⟨g, o, none⟩ v) := by
    cases v <;> first | (simp [Value.oneCell'] at hv; done) | simp [store, Sem.run, hc, hf]
  simp only [Instr.storeAt, Instr.sureAddr, Sem.run_bind, Sem.run_pure, Result.andThen_ok, storeVar, h1.size, hcells]
  simp only [List.size_toArray, List.length_cons, List.length_nil, Nat.zero_add, ne_eq, not_true_eq_false, if_false, Sem.run_bind, Sem.run_pure, Result.andThen_ok, storeCells, Addr.add_zero', hs]

theorem SU_store {ty : TypeId} [One P ty] {o : Nat} {v : Value} {k : World → Prop} (h : Blk w g t cs) (ho : o < cs.length) (hv : v.oneCell' = true)
    (hk : ∀ w', Blk w' g t (cs.set o v) → Ch (· = g) w w' → k w') : SU P (Instr.storeAt ty (.pointer (some ⟨g, o, none⟩)) v) w k := by
  refine ⟨_, run_store1 h ho hv, hk _ ?_ (setCell_ch w g o v)⟩
  have := heap_setCell_same w g o _ t v h
  unfold Blk
  rw [this]
  simp

theorem setRow_ch (w : World) (g : Nat) (cs : Array Value) : Ch (· = g) w (w.setRow g cs) :=
  ⟨rfl, rfl, rfl, by simp, fun k _ hk => setRow_other w g k _ hk⟩

theorem run_storeN {ty n : TypeId} [h1 : Many P ty n] {o : Nat} {vs : List Value} (h : Blk w g t cs) (hl : vs.length = n) (ho : o + n ≤ cs.length) (hv : Ones vs) :
    (Instr.storeAt ty (.pointer (some ⟨g, o, none⟩)) (ag vs)).run P w = .ok () (w.setRow g (cs.take o ++ vs ++ cs.drop (o + n)).toArray) := by
  have hst := run_storeCells_at P g o t vs 0 cs.toArray w h (by simp; omega) hv
  simp only [Nat.add_zero] at hst
  simp only [Instr.storeAt, Instr.sureAddr, Sem.run_bind, Sem.run_pure, Result.andThen_ok, storeVar, h1.size, ag, Value.cells, List.size_toArray, hl, ne_eq, not_true_eq_false, if_false, hst]

theorem SU_storeN {ty n : TypeId} [Many P ty n] {o : Nat} {vs : List Value} {k : World → Prop} (h : Blk w g t cs) (hl : vs.length = n) (ho : o + n ≤ cs.length) (hv : Ones vs)
    (hk : ∀ w', Blk w' g t (cs.take o ++ vs ++ cs.drop (o + n)) → Ch (· = g) w w' → k w') : SU P (Instr.storeAt ty (.pointer (some ⟨g, o, none⟩)) (ag vs)) w k := by
  refine ⟨_, run_storeN h hl ho hv, hk _ ?_ (setRow_ch w g _)⟩
  unfold Blk
  exact setRow_heap w g _ _ t _ h
/-- A whole block. -/
theorem SU_storeB {ty n : TypeId} [Many P ty n] {vs : List Value} {k : World → Prop} (h : Blk w g t cs) (hl : vs.length = n) (hc : cs.length = n) (hv : Ones vs)
    (hk : ∀ w', Blk w' g t vs → Ch (· = g) w w' → k w') : SU P (Instr.storeAt ty (.pointer (some ⟨g, 0, none⟩)) (ag vs)) w k :=
  SU_storeN h hl (by omega) hv fun w' hb hch => hk w' (by have : cs.drop (0 + n) = [] := by simp [hc]
                                                          rw [this] at hb; simpa using hb) hch

/-! ## Slices -/

/-- A slice that reads as these n elements' cells. -/
def Rd (w : World) (e : TypeId) (sz : Nat) (v : Value) (n : Nat) (xs : List Value) : Prop :=
  xs.length = n * sz ∧ n ≤ maxLen ∧ ∃ A c, v = .slice A n c ∧ n ≤ c ∧ (0 < n → ∃ b o C fr, A = some ⟨b, o, none⟩ ∧ w.heap[b]? = some (.cells C e fr) ∧ ∀ (j : Nat) u, xs[j]? = some u → C[o + j]? = some u)

def pBlk : Value → Option Nat
  | .pointer (some a) => some a.block
  | _ => none

/-- A pointer to these cells. -/
def Pt (w : World) (p : Value) (cs : List Value) : Prop := ∃ a, p = .pointer (some a) ∧ ∀ (j : Nat) u, cs[j]? = some u → w.cell? (a.add j) = some u

variable {e T T' : TypeId} {sz n m : Nat} {v : Value} {xs ys : List Value}

theorem Rd.len (h : Rd w e sz v n xs) : xs.length = n * sz := h.1
theorem Rd.form (h : Rd w e sz v n xs) : ∃ A c, v = .slice A n c ∧ n ≤ c := by
  obtain ⟨_, _, A, c, hv, hc, _⟩ := h
  exact ⟨A, c, hv, hc⟩

theorem Rd.ch (h : Rd w e sz v n xs) (hc : Ch S w w') (hS : ∀ b, v.ownBlock = some b → ¬ S b) : Rd w' e sz v n xs := by
  obtain ⟨h1, h2, A, c, rfl, h3, h4⟩ := h
  refine ⟨h1, h2, A, c, rfl, h3, fun hn => ?_⟩
  obtain ⟨b, o, C, fr, rfl, hb, hx⟩ := h4 hn
  refine ⟨b, o, C, fr, rfl, ?_, hx⟩
  have hlt : b < w.heap.size := by
    rcases Nat.lt_or_ge b w.heap.size with h | h
    · exact h
    · rw [Array.getElem?_eq_none h] at hb; cases hb
  rw [hc.block b hlt (hS b rfl)]
  exact hb
theorem Rd.no (h : Rd w e sz v n xs) (hc : Ch No w w') : Rd w' e sz v n xs := h.ch hc fun _ _ h => h
theorem Rd.drew (h : Rd w e sz v n xs) : Rd w.drew e sz v n xs := h
/-- Blocks of other element types do not matter. -/
theorem Rd.ty (h : Rd w e sz v n xs) (hc : Ch S w w') (hS : ∀ b, S b → ∃ C T fr, w.heap[b]? = some (.cells C T fr) ∧ T ≠ e) : Rd w' e sz v n xs := by
  rcases Nat.eq_zero_or_pos n with h0 | hn
  · obtain ⟨h1, h2, A, c, rfl, h3, _⟩ := h
    exact ⟨h1, h2, A, c, rfl, h3, fun h => absurd h (by omega)⟩
  · refine h.ch hc fun b hb hs => ?_
    obtain ⟨_, _, A, c, rfl, _, h4⟩ := h
    obtain ⟨b', o, C, fr, rfl, hb', _⟩ := h4 hn
    have : b' = b := by simpa [Value.ownBlock] using hb
    subst this
    obtain ⟨C', T, fr', hT, hne⟩ := hS b' hs
    rw [hb'] at hT
    injection hT with hT
    injection hT with _ hT
    exact hne hT.symm
theorem Rd.blk (h : Rd w e sz v n xs) (hc : Ch (· = g) w w') (hb : Blk w g t cs) (hne : t ≠ e) : Rd w' e sz v n xs :=
  h.ty hc fun b hb' => ⟨cs.toArray, t, (0, 0), by rw [hb']; exact hb, hne⟩

theorem Rd.nil0 (h : Rd w e sz v 0 xs) : xs = [] := List.eq_nil_of_length_eq_zero (by simpa using h.1)
theorem Rd.zero (A : Option Addr) (c : Nat) : Rd w e sz (.slice A 0 c) 0 [] := ⟨by simp, by unfold maxLen; omega, A, c, rfl, Nat.zero_le _, fun h => absurd h (by omega)⟩

theorem Rd.pt (h : Rd w e sz v n xs) {i : Nat} (hi : i < n) : ∃ b o c, v = .slice (some ⟨b, o, none⟩) n c ∧ Pt w (.pointer (some ⟨b, o + i * sz, none⟩)) ((xs.drop (i * sz)).take sz) := by
  obtain ⟨h1, h2, A, c, rfl, h3, h4⟩ := h
  obtain ⟨b, o, C, fr, rfl, hb, hx⟩ := h4 (by omega)
  refine ⟨b, o, c, rfl, _, rfl, fun j u hj => ?_⟩
  rw [List.getElem?_take] at hj
  split at hj
  · rw [List.getElem?_drop] at hj
    rw [Addr.add_lit, cell_of_row w b _ C e fr hb, Nat.add_assoc]
    exact hx _ u hj
  · cases hj

/-- xs[i]: its address. -/
theorem SV_idx {ty : TypeId} [hT : SlT P ty e sz] {i : Int} {k : Value → World → Prop} (h : Rd w T sz v n xs) (h0 : 0 ≤ i) (hi : i < n)
    (hk : ∀ p, Pt w p ((xs.drop (i.toNat * sz)).take sz) → k p w) : SV P (Instr.indexAt ty v (.int .i64 i)) w k := by
  obtain ⟨b, o, c, rfl, hp⟩ := h.pt (i := i.toNat) (by omega)
  refine ⟨_, w, ?_, hk _ hp⟩
  simp only [Instr.indexAt, Sem.run_bind, asIntOf, Sem.run_pure, Result.andThen_ok, run_underlying hT.und]
  simp only [h0, hi, and_self, if_true, Sem.run_bind, hT.size, Result.andThen_ok, Sem.run_pure, Addr.add_lit]
theorem HV_idx {ty : TypeId} [hT : SlT P ty e sz] {i : Int} {C : World → Prop} {k : Value → Prop} (h : Rd w T sz v n xs) (h0 : 0 ≤ i) (hi : i < n)
    (hk : ∀ p, pBlk p = v.ownBlock → Pt w p ((xs.drop (i.toNat * sz)).take sz) → k p) : HV P C (Instr.indexAt ty v (.int .i64 i)) k := by
  obtain ⟨b, o, c, rfl, hp⟩ := h.pt (i := i.toNat) (by omega)
  refine ⟨_, fun w _ => ?_, hk _ rfl hp⟩
  simp only [Instr.indexAt, Sem.run_bind, asIntOf, Sem.run_pure, Result.andThen_ok, run_underlying hT.und]
  simp only [h0, hi, and_self, if_true, Sem.run_bind, hT.size, Result.andThen_ok, Sem.run_pure, Addr.add_lit]

theorem Pt.ch {p : Value} {cs : List Value} (h : Pt w p cs) (hc : Ch S w w') (hS : ∀ b, pBlk p = some b → ¬ S b) : Pt w' p cs := by
  obtain ⟨a, rfl, h⟩ := h
  refine ⟨a, rfl, fun j u hj => ?_⟩
  have h1 := h j u hj
  have hlt := World.block_lt_of_cell? w _ h1
  have hbl : (a.add j).block = a.block := by unfold Addr.add; split <;> rfl
  rw [World.cell?_of_block (w := w) (hc.block _ hlt (by rw [hbl]; exact hS _ rfl))]
  exact h1
theorem Pt.no {p : Value} {cs : List Value} (h : Pt w p cs) (hc : Ch No w w') : Pt w' p cs := h.ch hc fun _ _ h => h
theorem Pt.of_blk (h : Blk w g t cs) : Pt w (.pointer (some ⟨g, 0, none⟩)) cs := ⟨_, rfl, fun j u hj => by rw [Addr.add_lit, h.cell]; simpa using hj⟩

theorem SV_ptr1 {ty : TypeId} [One P ty] {p u : Value} {k : Value → World → Prop} (h : Pt w p [u]) (hk : k u w) : SV P (Instr.loadAt ty p) w k := by
  obtain ⟨a, rfl, h⟩ := h
  exact ⟨u, w, run_load1 (by have := h 0 u rfl; rwa [Addr.add_zero'] at this), hk⟩
theorem SV_ptrN {ty n : TypeId} [Many P ty n] {p : Value} {us : List Value} {k : Value → World → Prop} (h : Pt w p us) (hl : us.length = n) (hk : k (ag us) w) : SV P (Instr.loadAt ty p) w k := by
  obtain ⟨a, rfl, h⟩ := h
  exact ⟨_, w, run_loadN hl h, hk⟩
theorem HV_ptr1 {ty : TypeId} [One P ty] {p u : Value} {k : Value → Prop} (h : Pt w p [u]) (hS : ∀ b, pBlk p = some b → ¬ S b) (hk : k u) : HV P (Kp S w) (Instr.loadAt ty p) k := by
  refine ⟨u, fun w' hw => ?_, hk⟩
  obtain ⟨a, rfl, h'⟩ := h.ch hw hS
  exact run_load1 (by have := h' 0 u rfl; rwa [Addr.add_zero'] at this)
theorem HV_ptrN {ty n : TypeId} [Many P ty n] {p : Value} {us : List Value} {k : Value → Prop} (h : Pt w p us) (hl : us.length = n) (hS : ∀ b, pBlk p = some b → ¬ S b) (hk : k (ag us)) : HV P (Kp S w) (Instr.loadAt ty p) k := by
  refine ⟨_, fun w' hw => ?_, hk⟩
  obtain ⟨a, rfl, h'⟩ := h.ch hw hS
  exact run_loadN hl h'

/-! ### Cuts -/

theorem elem_of {ty : TypeId} (h : P.underlying ty = some (.slice e)) : P.underlying ty = some (.slice (P.elem ty)) := by
  have : P.elem ty = e := by simp [Program.elem, h]
  rw [this]; exact h

theorem run_sliceAt {ty : TypeId} (h : P.underlying ty = some (.slice e)) (x : Value) (lo hi mx : Option Value) : (Instr.sliceAt ty x lo hi mx).run P w = (Instr.slice ty x lo hi mx).run P w := by
  simp [Instr.sliceAt, run_underlying h]

theorem size_elem {ty : TypeId} [hT : SlT P ty e sz] : (sizeOf (P.elem ty)).run P w = .ok sz w := by
  have : P.elem ty = e := by simp [Program.elem, hT.und]
  rw [this]; exact hT.size w

theorem Rd.sub {A : Option Addr} {c l h' c' : Nat} (h : Rd w e sz (.slice A n c) n xs) (hl : l ≤ h') (hh : h' ≤ n) (hc : h' - l ≤ c') {B : Option Addr} (hB : l < h' → B = A.map (·.add (l * sz))) :
    Rd w e sz (.slice B (h' - l) c') (h' - l) ((xs.drop (l * sz)).take ((h' - l) * sz)) := by
  obtain ⟨h1, h2, A', c0, hv, h3, h4⟩ := h
  injection hv with hA _ hc0
  subst hA
  refine ⟨?_, by omega, B, c', rfl, hc, fun hn => ?_⟩
  · rw [List.length_take, List.length_drop, h1, ← Nat.sub_mul]
    exact Nat.min_eq_left (Nat.mul_le_mul_right _ (by omega))
  · obtain ⟨b, o, C, fr, hA, hb, hx⟩ := h4 (by omega)
    refine ⟨b, o + l * sz, C, fr, ?_, hb, fun j u hj => ?_⟩
    · rw [hB (by omega), hA]
      simp [Addr.add_lit]
    · rw [List.getElem?_take] at hj
      split at hj
      · rw [List.getElem?_drop] at hj
        rw [Nat.add_assoc]; exact hx _ u hj
      · cases hj

/-- xs[:h] -/
theorem Rd.sl_h {ty : TypeId} [hT : SlT P ty e sz] (hr : Rd w T sz v n xs) {h : Int} (h0 : 0 ≤ h) (h1 : h ≤ n) :
    ∃ v', Pu P (Instr.sliceAt ty v none (some (.int .i64 h)) none) v' ∧ Rd w T sz v' h.toNat (xs.take (h.toNat * sz)) ∧ v'.ownBlock = v.ownBlock := by
  obtain ⟨A, c, rfl, hc⟩ := hr.form
  refine ⟨.slice A h.toNat c, fun w => ?_, ?_, by cases A <;> rfl⟩
  · rw [run_sliceAt hT.und, run_slice_h w ty A n c (elem_of hT.und) .i64 h h0 (by omega), size_elem]
    simp [Result.andThen, sliced]
    intro hh
    cases A <;> simp [Addr.add]
  · have := hr.sub (l := 0) (h' := h.toNat) (c' := c) (B := A) (Nat.zero_le _) (by omega) (by omega) (fun _ => by cases A <;> simp [Addr.add])
    simpa using this
/-- xs[:h:m] -/
theorem Rd.sl_hm {ty : TypeId} [hT : SlT P ty e sz] (hr : Rd w T sz v n xs) {h m : Int} (h0 : 0 ≤ h) (h1 : h ≤ n) (h2 : h ≤ m) (h3 : m ≤ n) :
    ∃ A, Pu P (Instr.sliceAt ty v none (some (.int .i64 h)) (some (.int .i64 m))) (.slice A h.toNat m.toNat) ∧ Rd w T sz (.slice A h.toNat m.toNat) h.toNat (xs.take (h.toNat * sz)) ∧
      Value.ownBlock (.slice A h.toNat m.toNat) = v.ownBlock := by
  obtain ⟨A, c, rfl, hc⟩ := hr.form
  refine ⟨A, fun w => ?_, ?_, by cases A <;> rfl⟩
  · rw [run_sliceAt hT.und, run_slice_hm w ty A n c (elem_of hT.und) .i64 .i64 h m h0 h2 (by omega), size_elem]
    simp [Result.andThen, sliced]
    intro hh
    cases A <;> simp [Addr.add]
  · have := hr.sub (l := 0) (h' := h.toNat) (c' := m.toNat) (B := A) (Nat.zero_le _) (by omega) (by omega) (fun _ => by cases A <;> simp [Addr.add])
    simpa using this
/-- xs[l:] -/
theorem Rd.sl_l {ty : TypeId} [hT : SlT P ty e sz] (hr : Rd w T sz v n xs) {l : Int} (h0 : 0 ≤ l) (h1 : l ≤ n) :
    ∃ v', Pu P (Instr.sliceAt ty v (some (.int .i64 l)) none none) v' ∧ Rd w T sz v' (n - l.toNat) (xs.drop (l.toNat * sz)) ∧ v'.ownBlock = v.ownBlock := by
  obtain ⟨A, c, rfl, hc⟩ := hr.form
  refine ⟨sliced A l.toNat n c sz, fun w => ?_, ?_, ?_⟩
  · rw [run_sliceAt hT.und, run_slice_l w ty A n c (elem_of hT.und) .i64 l h0 h1, size_elem]
    rfl
  · have := hr.sub (l := l.toNat) (h' := n) (c' := c - l.toNat) (B := if c = l.toNat then A else A.map (·.add (l.toNat * sz))) (by omega) (Nat.le_refl _) (by omega) (fun hlt => by rw [if_neg (by omega)])
    have e : (xs.drop (l.toNat * sz)).take ((n - l.toNat) * sz) = xs.drop (l.toNat * sz) := by
      apply List.take_of_length_le
      rw [List.length_drop, hr.1, ← Nat.sub_mul]
      exact Nat.le_refl _
    rw [e] at this
    simpa [sliced] using this
  · unfold sliced
    cases A with
    | none => simp [Value.ownBlock]
    | some a =>
      have hbl : ∀ j, (a.add j).block = a.block := fun j => by unfold Addr.add; split <;> rfl
      split <;> simp [Value.ownBlock, hbl]
/-- xs[l:h] -/
theorem Rd.sl_lh {ty : TypeId} [hT : SlT P ty e sz] (hr : Rd w T sz v n xs) {l h : Int} (h0 : 0 ≤ l) (hlh : l ≤ h) (h1 : h ≤ n) :
    ∃ v', Pu P (Instr.sliceAt ty v (some (.int .i64 l)) (some (.int .i64 h)) none) v' ∧ Rd w T sz v' (h.toNat - l.toNat) ((xs.drop (l.toNat * sz)).take ((h.toNat - l.toNat) * sz)) ∧ v'.ownBlock = v.ownBlock := by
  obtain ⟨A, c, rfl, hc⟩ := hr.form
  refine ⟨sliced A l.toNat h.toNat c sz, fun w => ?_, ?_, ?_⟩
  · rw [run_sliceAt hT.und, run_slice_lh w ty A n c (elem_of hT.und) .i64 .i64 l h h0 hlh (by omega), size_elem]
    rfl
  · have := hr.sub (l := l.toNat) (h' := h.toNat) (c' := c - l.toNat) (B := if c = l.toNat then A else A.map (·.add (l.toNat * sz))) (by omega) (by omega) (by omega) (fun hlt => by rw [if_neg (by omega)])
    simpa [sliced] using this
  · unfold sliced
    cases A with
    | none => simp [Value.ownBlock]
    | some a =>
      have hbl : ∀ j, (a.add j).block = a.block := fun j => by unfold Addr.add; split <;> rfl
      split <;> simp [Value.ownBlock, hbl]

/-! ### Slices of one's own -/

theorem Rd.of_own {base : Nat} (h : w.ownsRow base e sz v n xs) : Rd w e sz v n xs := by
  obtain ⟨h1, h2⟩ := h
  rcases h2 with ⟨rfl, rfl⟩ | ⟨g, cap, cur, rfl, hb, hg, hn, hm, hs, ht⟩
  · exact ⟨h1, by unfold maxLen; omega, none, 0, rfl, Nat.le_refl _, fun h => absurd h (by omega)⟩
  · refine ⟨h1, by omega, _, cap, rfl, hn, fun _ => ⟨g, 0, cur, _, rfl, hg, fun j u hj => ?_⟩⟩
    subst ht
    rw [List.getElem?_take] at hj
    split at hj
    · simpa using hj
    · cases hj

theorem own_ch {base : Nat} (h : w.ownsRow base e sz v n xs) (hc : Ch S w w') (hS : ∀ b, v.ownBlock = some b → ¬ S b) : w'.ownsRow base e sz v n xs := by
  obtain ⟨h1, h2⟩ := h
  refine ⟨h1, h2.imp id ?_⟩
  rintro ⟨g, cap, cur, rfl, hb, hg, r⟩
  have hlt : g < w.heap.size := by
    rcases Nat.lt_or_ge g w.heap.size with h | h
    · exact h
    · rw [Array.getElem?_eq_none h] at hg; cases hg
  exact ⟨g, cap, cur, rfl, hb, by rw [hc.block g hlt (hS g rfl)]; exact hg, r⟩
theorem own_no {base : Nat} (h : w.ownsRow base e sz v n xs) (hc : Ch No w w') : w'.ownsRow base e sz v n xs := own_ch h hc fun _ _ h => h
/-- Blocks of other element types do not matter. -/
theorem own_blk {base : Nat} (h : w.ownsRow base e sz v n xs) (hc : Ch (· = g) w w') (hb : Blk w g t cs) (hne : t ≠ e) : w'.ownsRow base e sz v n xs := by
  refine own_ch h hc fun b hbl hbg => ?_
  obtain ⟨_, h2⟩ := h
  rcases h2 with ⟨rfl, _⟩ | ⟨g', cap, cur, rfl, _, hg, _⟩
  · simp [Value.ownBlock] at hbl
  · have : g' = b := by simpa [Value.ownBlock] using hbl
    subst this
    subst hbg
    unfold Blk at hb
    rw [hg] at hb
    injection hb with hb
    injection hb with _ hb
    exact hne hb.symm
theorem own_mono {base base' : Nat} (h : w.ownsRow base e sz v n xs) (hb : base' ≤ base) : w.ownsRow base' e sz v n xs := by
  obtain ⟨h1, h2⟩ := h
  refine ⟨h1, h2.imp id ?_⟩
  rintro ⟨g, cap, cur, rfl, hg, r⟩
  exact ⟨g, cap, cur, rfl, by omega, r⟩
theorem own_nil (w : World) (base : Nat) (e : TypeId) (sz : Nat) : w.ownsRow base e sz (.slice none 0 0) 0 [] := World.ownsRow_nil w base e sz

theorem Rd.cells {a : Addr} {c : Nat} (h : Rd w e sz (.slice (some a) n c) n xs) (hn : 0 < n) : ∀ (j : Nat) u, xs[j]? = some u → w.cell? (a.add j) = some u := by
  obtain ⟨_, _, A, c', hv, _, h4⟩ := h
  injection hv with hA _ _
  subst hA
  obtain ⟨b, o, C, fr, hA, hb, hx⟩ := h4 hn
  injection hA with hA
  subst hA
  intro j u hj
  rw [Addr.add_lit, cell_of_row w b _ C e fr hb]
  exact hx j u hj

/-- append onto a row of one's own. -/
theorem SV_append {base bytes : Nat} {ty rt : TypeId} {u : Value} [hT : SlT P ty e sz] [hI : Inf P e sz bytes] {k : Value → World → Prop}
    (ho : w.ownsRow base e sz v n xs) (hu : Rd w T sz u m ys) (h1 : Ones ys) (hb : (n + m) * bytes ≤ 140737488355328) (hm : n + m ≤ maxLen) (hbase : base ≤ w.heap.size)
    (hk : ∀ v' w', w'.ownsRow base e sz v' (n + m) (xs ++ ys) → Ch (fun b => v.ownBlock = some b) w w' → k v' w') : SV P (Builtin.append_ #[ty, ty] rt #[v, u]) w k := by
  obtain ⟨i, z, hi, hsz, hby, hz, hzs, hpos⟩ := hI.ex
  obtain ⟨A, c, rfl, hc⟩ := hu.form
  rcases Nat.eq_zero_or_pos m with h0 | hpm
  · subst h0
    have hys : ys = [] := hu.nil0
    subst hys
    refine ⟨v, w, ?_, hk v w (by simpa using ho) (Ch.refl w)⟩
    rcases ho.2 with ⟨rfl, rfl⟩ | ⟨g, cap, cur, rfl, _, _, hnc, _⟩
    · cases A <;> simp [Builtin.append_, run_underlying hT.und, sizeOf, typeInfo, hi, Builtin.lenOf, Builtin.firstCells, loadCells, loadCellsFrom]
    · cases A <;> simp [Builtin.append_, run_underlying hT.und, sizeOf, typeInfo, hi, Builtin.lenOf, Builtin.firstCells, loadCells, loadCellsFrom, hnc, storeCells]
  · obtain ⟨_, _, A', c', hv, _, h4⟩ := hu
    injection hv with hA _ _
    subst hA
    obtain ⟨b, o, C, fr, rfl, hbk, hx⟩ := h4 hpm
    obtain ⟨v', w', hrun, h2, h3, _⟩ := run_append_own (P := P) w base ty rt e i z sz bytes hT.und hi hz hsz hby hzs hpos v n xs ho ⟨b, o, none⟩ m c ys (by assumption)
      (fun j u hj => by rw [Addr.add_lit, cell_of_row w b _ C _ fr hbk]; exact hx j u hj) h1 hm hb hbase
    exact ⟨v', w', hrun, hk v' w' h2 ⟨h3.os, h3.tape, h3.output, h3.size, fun k hk hs => h3.block k hk fun e => hs e.symm⟩⟩

/-- append onto a slice that is full: a new row. -/
theorem SV_append_full {bytes : Nat} {ty rt : TypeId} {A : Option Addr} {u : Value} [hT : SlT P ty e sz] [hI : Inf P e sz bytes] {k : Value → World → Prop}
    (ho : Rd w T' sz (.slice A n n) n xs) (hu : Rd w T sz u m ys) (hpm : 0 < m) (hb : (n + m) * bytes ≤ 140737488355328) (hm : n + m ≤ maxLen)
    (hk : ∀ v' w', w'.ownsRow w.heap.size e sz v' (n + m) (xs ++ ys) → Ch No w w' → k v' w') : SV P (Builtin.append_ #[ty, ty] rt #[.slice A n n, u]) w k := by
  obtain ⟨i, z, hi, hsz, hby, hz, hzs, hpos⟩ := hI.ex
  obtain ⟨hyl, _, B, c, rfl, hc, h4⟩ := hu
  obtain ⟨b, o, C, fr, rfl, hbk, hx⟩ := h4 hpm
  have hcells : ∀ (j : Nat) u, ys[j]? = some u → w.cell? ((⟨b, o, none⟩ : Addr).add j) = some u := fun j u hj => by rw [Addr.add_lit, cell_of_row w b _ C _ fr hbk]; exact hx j u hj
  have h63 : n + m ≤ 9223372036854775807 := by unfold maxLen at hm; exact hm
  subst hsz
  have fin : ∀ old, old < n + m → (w.drew.alloc (.cells (xs.toArray ++ ys.toArray ++ Builtin.zeroCells z.cells (grownCap w (n + m) old e - (n + m))) e)).ownsRow w.heap.size e i.size
        (.slice (some ⟨w.heap.size, 0, none⟩) (n + m) (grownCap w (n + m) old e)) (n + m) (xs ++ ys) := by
    intro old ho'
    have hge := grownCap_ge w (n + m) old e
    have hcm : grownCap w (n + m) old e ≤ maxLen := grownCap_le_maxLen w (n + m) old e hm
    refine ⟨by rw [List.length_append, ho.1, hyl, Nat.add_mul], .inr ⟨w.heap.size, _, _, rfl, Nat.le_refl _, heap_alloc_new w.drew _, hge, hcm, ?_, ?_⟩⟩
    · simp only [Array.size_append, List.size_toArray, size_zeroCells, hzs, ho.1, hyl, ← Nat.add_mul]
      congr 1
      omega
    · simp only [Array.toList_append, List.append_assoc]
      rw [← List.append_assoc, show (n + m) * i.size = (xs ++ ys).length by rw [List.length_append, ho.1, hyl, Nat.add_mul]]
      exact List.take_left
  have hch : ∀ o, Ch No w (w.drew.alloc o) := fun o => (Ch.drew w).trans (Ch.alloc _ _)
  cases A with
  | none =>
    have hn0 : n = 0 := by
      rcases Nat.eq_zero_or_pos n with h | h
      · exact h
      · obtain ⟨_, _, A, _, hv, _, h4⟩ := ho
        injection hv with hA
        subst hA
        obtain ⟨_, _, _, _, h, _⟩ := h4 h
        cases h
    subst hn0
    have hxs : xs = [] := ho.nil0
    subst hxs
    have hr := run_append_nil (P := P) w ty rt e i z hT.und hi hz ⟨b, o, none⟩ m c ys hyl hcells hpm (by omega) (by rw [hby]; have hb' := hb; simp only [Nat.zero_add] at hb'; omega)
    have hf := fin 0 (by omega)
    simp only [Nat.zero_add, List.nil_append, Array.empty_append] at hf hk ⊢
    exact ⟨_, _, hr, hk _ _ hf (hch _)⟩
  | some a =>
    have holds : ∀ (j : Nat) u, xs[j]? = some u → w.cell? (a.add j) = some u := by
      rcases Nat.eq_zero_or_pos n with h | h
      · subst h
        have hxs : xs = [] := ho.nil0
        subst hxs
        intro j u hj; simp at hj
      · exact ho.cells h
    have hr := run_append_grow (P := P) w ty rt e i z hT.und hi hz a n n xs ho.1 holds ⟨b, o, none⟩ m c ys hyl hcells (by omega) (by omega) (growslice_fits (by omega) (by rw [hby]; exact hb))
    exact ⟨_, _, hr, hk _ _ (fin n (by omega)) (hch _)⟩

/-! ### A row of literals -/

theorem fill_row (size : Nat) : ∀ (vs : List Value) (css : List (List Value)) (j : Nat) (cells : List Value), (∀ (i : Nat) (v : Value), vs[i]? = some v → ∃ cs : List Value, css[i]? = some cs ∧ v.cells = cs.toArray ∧ cs.length = size) → vs.length = css.length →
    (j + vs.length) * size ≤ cells.length →
    Instr.fill (fun i => some (i * size, size)) cells.toArray ((vs.zipIdx j).map fun (v, i) => (i, v)) = some (cells.take (j * size) ++ css.flatten ++ cells.drop ((j + vs.length) * size)).toArray
  | [], css, j, cells, _, hl, _ => by
    cases List.eq_nil_of_length_eq_zero hl.symm
    simp [Instr.fill]
  | v :: vs, css, j, cells, h, hl, hlen => by
    obtain ⟨cs, hcs, hv, hsz⟩ := h 0 v rfl
    match css, hcs with
    | cs' :: css, hcs =>
      simp only [List.getElem?_cons_zero, Option.some.injEq] at hcs
      subst hcs
      have hj : j * size + size ≤ cells.length := by
        have : (j + 1) * size ≤ (j + (v :: vs).length) * size := Nat.mul_le_mul_right _ (by simp)
        rw [Nat.add_mul, Nat.one_mul] at this; omega
      have hput : ∀ (l : List Value) (k : Nat) (C : Array Value), (l.zipIdx k).foldl (fun cs (c, i) => cs.setIfInBounds (j * size + i) c) C = (C.toList.take (j * size + k) ++ l ++ C.toList.drop (j * size + k + l.length)).toArray ∨ C.size < j * size + k + l.length := by
        intro l
        induction l with
        | nil => intro k C; left; simp
        | cons x l ih =>
          intro k C
          by_cases hC : C.size < j * size + k + (x :: l).length
          · exact .inr hC
          · left
            rcases ih (k + 1) (C.setIfInBounds (j * size + k) x) with ih | ih
            · have e1 : ((x :: l).zipIdx k).foldl (fun cs (c, i) => cs.setIfInBounds (j * size + i) c) C = (l.zipIdx (k + 1)).foldl (fun cs (c, i) => cs.setIfInBounds (j * size + i) c) (C.setIfInBounds (j * size + k) x) := by
                rw [List.zipIdx_cons, List.foldl_cons]
              rw [e1, ih]
              congr 1
              simp only [List.length_cons] at hC
              apply List.ext_getElem?
              intro i
              simp only [Array.toList_setIfInBounds, List.getElem?_append, List.length_append, List.length_take, List.length_set, Array.length_toList, List.getElem?_take, List.getElem?_drop, List.getElem?_set, List.length_cons]
              have m1 : min (j * size + (k + 1)) C.size = j * size + k + 1 := by omega
              have m2 : min (j * size + k) C.size = j * size + k := by omega
              simp only [m1, m2]
              rcases Nat.lt_trichotomy i (j * size + k) with h | h | h
              · simp [show i < j * size + k + 1 + l.length by omega, show i < j * size + k + 1 by omega, show i < j * size + (k + 1) by omega, show i < j * size + k + (l.length + 1) by omega, h, show ¬ j * size + k = i by omega]
              · subst h
                simp [show j * size + k < j * size + k + 1 + l.length by omega, show j * size + k < j * size + (k + 1) by omega, show j * size + k < C.size by omega]
              · by_cases h2 : i < j * size + k + 1 + l.length
                · have e : i - (j * size + k) = (i - (j * size + k + 1)) + 1 := by omega
                  simp [h2, show ¬ i < j * size + k + 1 by omega, show i < j * size + k + (l.length + 1) by omega, show ¬ i < j * size + k by omega, e]
                · have e2 : i - (j * size + k + (l.length + 1)) = i - (j * size + k + 1 + l.length) := by omega
                  simp only [h2, if_false, show ¬ i < j * size + k + (l.length + 1) by omega, e2]
                  have e3 : j * size + (k + 1) + l.length = j * size + k + (l.length + 1) := by omega
                  rw [e3, if_neg (by omega)]
            · simp at ih hC; omega
      have hput' := (hput cs' 0 cells.toArray).resolve_right (by simp; omega)
      simp only [List.zipIdx_cons, List.map_cons, Instr.fill, hv, List.size_toArray, hsz]
      rw [if_neg (by simp; omega), ← Array.foldl_toList, Array.toList_zipIdx, List.toList_toArray, hput']
      have := fill_row size vs css (j + 1) (cells.take (j * size) ++ cs' ++ cells.drop (j * size + size)) (fun i v hi => h (i + 1) v hi) (by simpa using hl) (by
        simp only [List.length_append, List.length_take, List.length_drop, hsz]
        have : (j + 1 + vs.length) * size = (j + (v :: vs).length) * size := by simp; congr 1; omega
        omega)
      simp only [Nat.add_zero, hsz]
      rw [this]
      congr 2
      have l1 : (cells.take (j * size) ++ cs').length = (j + 1) * size := by rw [List.length_append, List.length_take, hsz, Nat.add_mul]; omega
      rw [← l1, List.take_append_of_le_length (Nat.le_refl _), List.take_length]
      simp only [List.flatten_cons, List.append_assoc, List.append_cancel_left_eq]
      rw [show (j + 1 + vs.length) * size = (cells.take (j * size) ++ cs').length + vs.length * size by rw [l1, Nat.add_mul]]
      rw [← List.append_assoc, ← List.drop_drop]
      simp only [List.drop_left, List.drop_drop]
      congr 1
      simp only [List.length_cons, Nat.add_mul, Nat.one_mul]
      omega

/-- []T{v0, v1, ..} -/
theorem SV_lits {ty : TypeId} [hT : SlT P ty e sz] {b : Nat} [hI : Inf P e sz b] {parts : Array (Nat × Value)} {k : Value → World → Prop} (vs : List Value) (css : List (List Value))
    (hp : parts.toList = (vs.zipIdx 0).map fun (v, i) => (i, v)) (hv : ∀ (i : Nat) (v : Value), vs[i]? = some v → ∃ cs : List Value, css[i]? = some cs ∧ v.cells = cs.toArray ∧ cs.length = sz) (hl : vs.length = css.length) (hn : n = vs.length)
    (hlim : vs.length * sz ≤ 16777216) (hk : ∀ g w', w.heap.size ≤ g → Blk w' g e css.flatten → Ch No w w' → w'.ownsRow w.heap.size e sz (.slice (some ⟨g, 0, none⟩) n n) n css.flatten → k (.slice (some ⟨g, 0, none⟩) n n) w') :
    SV P (Instr.buildSlice ty n parts) w k := by
  subst hn
  obtain ⟨i, z, hi, hsz, hby, hz, hzs, hpos⟩ := hI.ex
  have hlen : ((Array.range (vs.length * sz)).map (fun j => z.cells[j % z.cells.size]!)).toList.length = vs.length * sz := by simp
  have hfl : css.flatten.length = vs.length * sz := by
    rw [List.length_flatten, hl]
    have : ∀ (l : List (List Value)), (∀ c ∈ l, c.length = sz) → (l.map List.length).sum = l.length * sz := by
      intro l
      induction l with
      | nil => intro _; simp
      | cons c l ih => intro h; simp [ih (fun c hc => h c (List.mem_cons_of_mem _ hc)), h c List.mem_cons_self, Nat.add_mul]; omega
    refine this css fun c hc => ?_
    obtain ⟨j, hj, rfl⟩ := List.mem_iff_getElem.1 hc
    obtain ⟨cs, h1, _, h3⟩ := hv j (vs[j]'(by omega)) (List.getElem?_eq_getElem (by omega))
    rw [List.getElem?_eq_getElem hj] at h1
    cases h1; exact h3
  have hfill := fill_row sz vs css 0 ((Array.range (vs.length * sz)).map (fun j => z.cells[j % z.cells.size]!)).toList hv hl (by rw [hlen]; simp)
  have hf2 : Instr.fill (fun i => some (i * sz, sz)) ((Array.range (vs.length * sz)).map (fun j => z.cells[j % z.cells.size]!)) parts.toList = some css.flatten.toArray := by
    rw [hp]
    simp only [Array.toArray_toList] at hfill
    rw [hfill]
    congr 2
    rw [Nat.zero_mul, List.take_zero, List.nil_append, Nat.zero_add, List.drop_eq_nil_of_le (by rw [hlen]; exact Nat.le_refl _), List.append_nil]
  have hb : Blk (w.alloc (.cells css.flatten.toArray e)) w.heap.size e css.flatten := Blk.new w e _
  refine ⟨_, w.alloc (.cells css.flatten.toArray e), ?_, hk w.heap.size _ (Nat.le_refl _) hb (Ch.alloc w _) ⟨hfl, .inr ⟨w.heap.size, _, _, rfl, Nat.le_refl _, hb, Nat.le_refl _, ?_, by simp [hfl], by rw [List.toList_toArray, ← hfl]; exact List.take_length⟩⟩⟩
  · have hlim' : ¬ (16777216 < vs.length * sz) := by omega
    by_cases h0 : vs.length * sz = 0
    · have hvs : vs = [] := by
        rcases Nat.mul_eq_zero.1 h0 with h | h
        · exact List.eq_nil_of_length_eq_zero h
        · omega
      subst hvs
      have hcs : css = [] := List.eq_nil_of_length_eq_zero hl.symm
      subst hcs
      have hp' : parts.toList = [] := by simpa using hp
      simp [Instr.buildSlice, run_underlying hT.und, hT.size, hp', Instr.fill, newRow, Array.range_zero']
    · simp only [Instr.buildSlice, Sem.run_bind, run_underlying hT.und, Result.andThen_ok, hT.size]
      simp only [show (2 ^ 24 : Nat) = 16777216 from rfl, gt_iff_lt, hlim', if_false, h0, Sem.run_bind, Sem.run_pure, Result.andThen_ok, zeroValue, typeInfo]
      simp only [program, Sem.run, hi, hz, Sem.run_pure, Result.andThen_ok]
      rw [hf2]
      rfl
  · have : vs.length * 1 ≤ vs.length * sz := Nat.mul_le_mul_left _ hpos
    unfold maxLen; omega
end
end Go.Sh
