/-
  Slices: clones, cuts of one's own rows, rows of structs.
-/
import Derived.Test.YtkdghnbogkbedaaGreatDoorEqual
namespace Go.Sh
open Go Go.RowKit

section
variable {P : Program} {w : World}

/-- xs[:h] of one's own row. -/
theorem own_sl_h {ty e sz base n : Nat} {v : Value} {xs : List Value} [hT : SlT P ty e sz] (ho : w.ownsRow base e sz v n xs) {h : Int} (h0 : 0 ≤ h) (h1 : h ≤ n) :
    ∃ v', Pu P (Instr.sliceAt ty v none (some (.int .i64 h)) none) v' ∧ w.ownsRow base e sz v' h.toNat (xs.take (h.toNat * sz)) ∧ v'.ownBlock = v.ownBlock := by
  have hrun : ∀ (A : Option Addr) (c : Nat), n ≤ c → Pu P (Instr.sliceAt ty (.slice A n c) none (some (.int .i64 h)) none) (.slice A h.toNat c) := fun A c hc w => by
    rw [run_sliceAt hT.und, run_slice_h w ty A n c (elem_of hT.und) .i64 h h0 (by omega), size_elem]
    simp [Result.andThen, sliced]
    intro hh
    cases A <;> simp [Addr.add]
  obtain ⟨hx, hcase⟩ := ho
  have hlen : (xs.take (h.toNat * sz)).length = h.toNat * sz := by
    rw [List.length_take, hx]
    exact Nat.min_eq_left (Nat.mul_le_mul_right _ (by omega))
  rcases hcase with ⟨rfl, rfl⟩ | ⟨g, cap, cur, rfl, hb, hg, hn, hm, hs, ht⟩
  · have : h = 0 := by omega
    subst this
    exact ⟨_, hrun none 0 (Nat.le_refl _), ⟨hlen, .inl ⟨rfl, rfl⟩⟩, rfl⟩
  · refine ⟨_, hrun _ cap hn, ⟨hlen, .inr ⟨g, cap, cur, rfl, hb, hg, by omega, hm, hs, ?_⟩⟩, rfl⟩
    rw [← ht, List.take_take, Nat.min_eq_left (Nat.mul_le_mul_right _ (by omega))]

theorem own_blkne {base e sz n : Nat} {v : Value} {xs : List Value} (ho : w.ownsRow base e sz v n xs) {g : Nat} (hg : g < base) : ∀ b, v.ownBlock = some b → ¬ b = g := fun b hb => by
  have := (ho.lt b hb).1
  omega

/-- slices.Clone -/
def cloneS (t : TypeId) (P : Program) (k : Value → World → Prop) (a0_s : Value) (w : World) : Prop :=
  SV P (eqS .eql t (.tmp 3) (.const (Value.slice none 0 0)) a0_s (Value.slice none 0 0)) w fun t4 w =>
  CN t4
  (k (Value.slice none 0 0) w)
  (SV P (Instr.buildSlice t 0 #[]) w fun t5 w =>
  SV P (Builtin.append_ #[t, t] t #[t5, a0_s]) w fun t7 w =>
  k t7 w)

theorem cloneS_ok {t e sz b T n : Nat} [hT : SlT P t e sz] [hI : Inf P e sz b] {v : Value} {xs : List Value} {k : Value → World → Prop} (hr : Rd w T sz v n xs) (h1 : Ones xs) (hb : n * b ≤ 140737488355328)
    (hk : ∀ v' w', w'.ownsRow w.heap.size e sz v' n xs → Ch No w w' → k v' w') : cloneS t P k v w := by
  obtain ⟨A, c, rfl, hc⟩ := hr.form
  unfold cloneS
  refine SV_pu pu_eqlslice ?_
  cases A with
  | none =>
    have hn : n = 0 := by
      rcases Nat.eq_zero_or_pos n with h | h
      · exact h
      · obtain ⟨_, _, A, _, hv, _, h4⟩ := hr
        injection hv with hA
        subst hA
        obtain ⟨_, _, _, _, h, _⟩ := h4 h
        cases h
    subst hn
    have hxs : xs = [] := hr.nil0
    subst hxs
    exact hk _ w (own_nil w _ e sz) (Ch.refl w)
  | some a =>
    refine SV_lits (e := e) (sz := sz) [] [] rfl (fun i v hv => by simp at hv) rfl rfl (by simp) fun g w1 hg b1 h1' ho => ?_
    have hmax := hr.2.1
    refine SV_append (base := w.heap.size) ho (hr.no h1') h1 (by simpa using hb) (by simpa using hmax) h1'.size fun v' w2 ho2 h2 => ?_
    refine hk v' w2 (by simpa using ho2) (h1'.trans' h2 fun i hi hib => ?_)
    have : g = i := by simpa [Value.ownBlock] using hib
    omega
end
end Go.Sh
namespace Go.Proofs.YtkdghnbogkbedaaGreatDoor
open Go Go.Sh Go.RowKit
set_option maxRecDepth 100000
set_option maxHeartbeats 1000000
set_option linter.unusedSimpArgs false
set_option linter.unusedVariables false

/-- A call that hands back a slice of its own. -/
def RetOwn (P : Program) (f : FuncId) (args : Array Value) (w : World) (e sz n : Nat) (xs : List Value) : Prop := Calls P f args w (retP fun v' w' => w'.ownsRow w.heap.size e sz v' n xs ∧ Ch No w w')
end Go.Proofs.YtkdghnbogkbedaaGreatDoor
