/-
  The package super: a log of freezes.
-/
import Derived.Test.YtkdghnbogkbedaaGreatDoorFront
import Derived.Test.YtkdghnbogkbedaaGreatDoorXSuper
namespace Go.Sh
open Go Go.RowKit

section
variable {α : Type} {c : α → List Value} {sz : Nat}
theorem flat_len (hc : ∀ x, (c x).length = sz) (l : List α) : (l.flatMap c).length = l.length * sz := by
  induction l with
  | nil => simp
  | cons a l ih => rw [List.flatMap_cons, List.length_append, hc, ih, List.length_cons, Nat.add_mul]; omega
theorem flat_drop (hc : ∀ x, (c x).length = sz) (l : List α) (i : Nat) : (l.flatMap c).drop (i * sz) = (l.drop i).flatMap c := by
  induction l generalizing i with
  | nil => simp
  | cons a l ih =>
    cases i with
    | zero => simp
    | succ i =>
      have : (i + 1) * sz = (c a).length + i * sz := by rw [hc, Nat.add_mul]; omega
      rw [List.flatMap_cons, this, List.drop_length_add_append, ih i]
      rfl
theorem flat_at (hc : ∀ x, (c x).length = sz) {l : List α} {i : Nat} (h : i < l.length) : ((l.flatMap c).drop (i * sz)).take sz = c l[i] := by
  rw [flat_drop hc, List.drop_eq_getElem_cons h, List.flatMap_cons]
  exact List.take_left' (hc _)
end

theorem Pt.fld {P : Program} {s i off : Nat} [h : Fld P s i off] {w : World} {p : Value} {cs : List Value} (hp : Pt w p cs) : ∃ p', Pu P (Instr.fieldAt s p i) p' ∧ Pt w p' (cs.drop off) ∧ pBlk p' = pBlk p := by
  obtain ⟨a, rfl, hp⟩ := hp
  have hadd : ∀ m n, (a.add m).add n = a.add (m + n) := fun m n => by
    unfold Addr.add
    by_cases hm : m = 0
    · subst hm; simp
    · by_cases hn : n = 0
      · subst hn; simp [hm]
      · simp [hm, hn, Nat.add_assoc]
  have hbl : (a.add off).block = a.block := by unfold Addr.add; split <;> rfl
  refine ⟨_, fun w => h.run a w, ⟨a.add off, rfl, fun j u hj => ?_⟩, by simp [pBlk, hbl]⟩
  rw [hadd]
  rw [List.getElem?_drop] at hj
  exact hp _ u hj
theorem Pt.one {w : World} {p u : Value} {cs : List Value} (hp : Pt w p cs) (h : cs[0]? = some u) : Pt w p [u] := by
  obtain ⟨a, rfl, hp⟩ := hp
  refine ⟨a, rfl, fun j v hj => ?_⟩
  match j, hj with
  | 0, hj => simp only [List.getElem?_cons_zero, Option.some.injEq] at hj; subst hj; exact hp 0 _ h
  | j + 1, hj => simp at hj
theorem Pt.take {w : World} {p : Value} {cs : List Value} (hp : Pt w p cs) (n : Nat) : Pt w p (cs.take n) := by
  obtain ⟨a, rfl, hp⟩ := hp
  refine ⟨a, rfl, fun j v hj => ?_⟩
  rw [List.getElem?_take] at hj
  split at hj
  · exact hp j v hj
  · cases hj

def frs (l : List Freeze) : List Value := l.flatMap Freeze.cells
theorem frs_ones (l : List Freeze) : Ones (frs l) := Ones.flat Freeze.ones l
theorem frs_len (l : List Freeze) : (frs l).length = l.length * 34 := flat_len Freeze.len l
theorem frs_append (l m : List Freeze) : frs (l ++ m) = frs l ++ frs m := by simp [frs]

/-- A super log of these freezes; fv is its front. -/
structure SuperAt (w : World) (g : Nat) (fv : Value) (fs : List Freeze) : Prop where
  mem : ∃ va vl, Blk w g 27 [va, vl, fv] ∧ Rd w 31 34 va fs.length (frs fs) ∧ Rd w 29 32 vl fs.length (sums (fs.map Freeze.leaf))
  front : (fv = .pointer none ∧ fs = []) ∨ ∃ gf, fv = .pointer (some ⟨gf, 0, none⟩) ∧ FrontAt w gf 190 29 (fs.map Freeze.leaf) ∧ 1 < gf
  pos : 1 < g

theorem SuperAt.no {w w' : World} {g : Nat} {fv : Value} {fs : List Freeze} (h : SuperAt w g fv fs) (hc : Ch No w w') : SuperAt w' g fv fs := by
  obtain ⟨⟨va, vl, h1, h2, h3⟩, h4, h5⟩ := h
  refine ⟨⟨va, vl, h1.no hc, h2.no hc, h3.no hc⟩, h4.imp id ?_, h5⟩
  rintro ⟨gf, e, hf, hp⟩
  exact ⟨gf, e, hf.no hc, hp⟩

def lastLow (fs : List Freeze) (f : Freeze) : Prop := ∃ h : 0 < fs.length, f.window ≤ (fs[fs.length - 1]'(by omega)).window
instance (fs : List Freeze) (f : Freeze) : Decidable (lastLow fs f) := by unfold lastLow; infer_instance
/-- What Anchor says. -/
def anchorErr (fs : List Freeze) (f : Freeze) : Int := if f.ok then (if lastLow fs f then 13 else 0) else 1
end Go.Sh
namespace Go.Proofs.YtkdghnbogkbedaaGreatDoor
open Go Go.Sh Go.RowKit
set_option maxRecDepth 100000
set_option maxHeartbeats 1000000
set_option linter.unusedSimpArgs false
set_option linter.unusedVariables false

theorem super_new (w : World) : Calls Tryz.prog 84 #[] w (retP fun v w' => ∃ g gf, v = .pointer (some ⟨g, 0, none⟩) ∧ w.heap.size ≤ g ∧ w.heap.size ≤ gf ∧ (1 < w.heap.size → SuperAt w' g (.pointer (some ⟨gf, 0, none⟩)) []) ∧ Ch No w w') := by
  refine c84 ?_
  unfold s84
  refine n72 (Calls.ret_mono (front_new w) ?_)
  rintro _ w1 ⟨gf, rfl, hgf, hf, h1⟩
  have z1 := h1.size
  refine SV_pu (pu_build (FillOk.cons rfl rfl rfl (FillOk.nil _))) ?_
  refine SV_box (vs := [.slice none 0 0, .slice none 0 0, .pointer (some ⟨gf, 0, none⟩)]) rfl fun g w2 hg b2 h2 => ?_
  exact ⟨g, gf, rfl, by omega, hgf, fun h1s => ⟨⟨_, _, b2, Rd.zero none 0, Rd.zero none 0⟩, .inr ⟨gf, rfl, hf.no h2, by omega⟩, by omega⟩, h1.trans h2⟩

theorem super_size {g : Nat} {fv : Value} {fs : List Freeze} {w : World} (h : SuperAt w g fv fs) : Ret Tryz.prog 22 #[.pointer (some ⟨g, 0, none⟩)] w (.int .i64 fs.length) := by
  obtain ⟨⟨va, vl, b, ha, hl⟩, _, _⟩ := h
  obtain ⟨A, c, rfl, _⟩ := ha.form
  refine c22 ?_
  unfold s22
  (first | refine SV_p (by first | exact True.intro | omega | (simp only [List.length_append, List.length_cons, List.length_nil, List.length_replicate, List.length_map]; omega)) ?_ | refine HV_p (by first | exact True.intro | omega | (simp only [List.length_append, List.length_cons, List.length_nil, List.length_replicate, List.length_map]; omega)) ?_)
  refine CN_ff ?_
  (first | refine SV_p (by first | exact True.intro | omega | (simp only [List.length_append, List.length_cons, List.length_nil, List.length_replicate, List.length_map]; omega)) ?_ | refine HV_p (by first | exact True.intro | omega | (simp only [List.length_append, List.length_cons, List.length_nil, List.length_replicate, List.length_map]; omega)) ?_)
  (first | refine SV_p (by first | exact True.intro | omega | (simp only [List.length_append, List.length_cons, List.length_nil, List.length_replicate, List.length_map]; omega)) ?_ | refine HV_p (by first | exact True.intro | omega | (simp only [List.length_append, List.length_cons, List.length_nil, List.length_replicate, List.length_map]; omega)) ?_)
  refine SV_load b rfl ?_
  (first | refine SV_p (by first | exact True.intro | omega | (simp only [List.length_append, List.length_cons, List.length_nil, List.length_replicate, List.length_map]; omega)) ?_ | refine HV_p (by first | exact True.intro | omega | (simp only [List.length_append, List.length_cons, List.length_nil, List.length_replicate, List.length_map]; omega)) ?_)
  exact ⟨rfl, Ch.refl w⟩

theorem super_anchor {g : Nat} {fv : Value} {fs : List Freeze} {f : Freeze} {w : World} (hK : KeysAt w) (h : SuperAt w g fv fs) (hn : fs.length ≤ 1000000) :
    Calls Tryz.prog 15 #[.pointer (some ⟨g, 0, none⟩), f.v] w (retP fun v w' => ∃ fv', v = .tuple #[.int .i64 (if anchorErr fs f = 0 then (fs.length : Int) else 0), .int .i64 (anchorErr fs f)] ∧
      SuperAt w' g fv' (if anchorErr fs f = 0 then fs ++ [f] else fs) ∧ (fv' = fv ∨ ∃ gf, fv' = .pointer (some ⟨gf, 0, none⟩) ∧ w.heap.size ≤ gf) ∧ Ch (fun b => b = g ∨ pBlk fv = some b) w w') := by
  obtain ⟨⟨va, vl, bO, ha, hl⟩, hfr, hpos⟩ := h
  have hSup : ∀ w', Ch No w w' → SuperAt w' g fv fs := fun w' hc => SuperAt.no ⟨⟨va, vl, bO, ha, hl⟩, hfr, hpos⟩ hc
  have lg := bO.lt
  refine c15 ?_
  unfold s15
  refine SV_box (vs := f.cells) rfl fun g3 w1 hg3 b3 h1 => ?_
  refine SV_loadB b3 f.len ?_
  refine n71 ((freeze_says f _).use fun w2 h2 => ?_)
  have hc2 := h1.trans h2
  have b3 := b3.no h2
  (first | refine SV_p (by first | exact True.intro | omega | (simp only [List.length_append, List.length_cons, List.length_nil, List.length_replicate, List.length_map]; omega)) ?_ | refine HV_p (by first | exact True.intro | omega | (simp only [List.length_append, List.length_cons, List.length_nil, List.length_replicate, List.length_map]; omega)) ?_)
  (first | refine SV_p (by first | exact True.intro | omega | (simp only [List.length_append, List.length_cons, List.length_nil, List.length_replicate, List.length_map]; omega)) ?_ | refine HV_p (by first | exact True.intro | omega | (simp only [List.length_append, List.length_cons, List.length_nil, List.length_replicate, List.length_map]; omega)) ?_)
  (first | refine SV_p (by first | exact True.intro | omega | (simp only [List.length_append, List.length_cons, List.length_nil, List.length_replicate, List.length_map]; omega)) ?_ | refine HV_p (by first | exact True.intro | omega | (simp only [List.length_append, List.length_cons, List.length_nil, List.length_replicate, List.length_map]; omega)) ?_)
  refine GD_ff ?_
  (first | refine SV_p (by first | exact True.intro | omega | (simp only [List.length_append, List.length_cons, List.length_nil, List.length_replicate, List.length_map]; omega)) ?_ | refine HV_p (by first | exact True.intro | omega | (simp only [List.length_append, List.length_cons, List.length_nil, List.length_replicate, List.length_map]; omega)) ?_)
  refine CN_split (fun hne => ?_) (fun heq => ?_)
  · have hok : ¬ f.ok := fun h => hne (by unfold Freeze.err; rw [if_pos h])
    have he : anchorErr fs f = 1 := by unfold anchorErr; rw [if_neg hok]
    rw [he]
    exact ⟨fv, rfl, hSup w2 hc2, .inl rfl, hc2.no⟩
  have hok : f.ok := by
    by_cases h : f.ok
    · exact h
    · exact absurd (show ¬ f.err = 0 by unfold Freeze.err; rw [if_neg h]; decide) heq
  obtain ⟨Aa, ca, hva, _⟩ := ha.form
  obtain ⟨Al, cl, hvl, _⟩ := hl.form
  -- what comes behind the tests
  have j1 : ¬ lastLow fs f → ∀ (gf : Nat) (w3 : World), Blk w3 g 27 [va, vl, .pointer (some ⟨gf, 0, none⟩)] → FrontAt w3 gf 190 29 (fs.map Freeze.leaf) → 1 < gf → (fv = .pointer (some ⟨gf, 0, none⟩) ∨ w.heap.size ≤ gf) → Blk w3 g3 31 f.cells → Ch (· = g) w w3 →
      s15_j1 Tryz.prog (fun v w' => ∃ fv', v = .tuple #[.int .i64 (if anchorErr fs f = 0 then (fs.length : Int) else 0), .int .i64 (anchorErr fs f)] ∧
      SuperAt w' g fv' (if anchorErr fs f = 0 then fs ++ [f] else fs) ∧ (fv' = fv ∨ ∃ gf, fv' = .pointer (some ⟨gf, 0, none⟩) ∧ w.heap.size ≤ gf) ∧ Ch (fun b => b = g ∨ pBlk fv = some b) w w') (.pointer (some ⟨g, 0, none⟩)) (.pointer (some ⟨g3, 0, none⟩)) w3 := by
    intro hlow gf w3 b hf hgf hor b3 hc3
    have he : anchorErr fs f = 0 := by unfold anchorErr; rw [if_pos hok, if_neg hlow]
    rw [he]
    simp only [if_true]
    have z3 := hc3.size
    have hK3 : KeysAt w3 := hK.ch hc3 (by omega)
    have ha3 : Rd w3 31 34 va fs.length (frs fs) := ha.blk hc3 bO (by decide)
    have hl3 : Rd w3 29 32 vl fs.length (sums (fs.map Freeze.leaf)) := hl.blk hc3 bO (by decide)
    unfold s15_j1
    refine SV_loadB b3 f.len ?_
    refine n73 ((freeze_leaf f _ hK3 (by omega)).use fun w4 h4 => ?_)
    refine SV_alloc fun g8 w5 hg8 b8 h5 => ?_
    refine SU_storeB b8 (Sum.len _) Sum.zero.len (Sum.ones _) fun w6 b8 h6 => ?_
    have z4 := h4.size
    have z5 := h5.size
    have z6 := h6.size
    have lgf : gf < w3.heap.size := by obtain ⟨_, hb, _⟩ := hf; exact hb.lt
    have lg3 := b3.lt
    have hc36 : Ch No w3 w6 := (h4.trans h5).own h6 (by omega)
    have b6 := b.no hc36
    have b3 := b3.no hc36
    have ha3 := ha3.no hc36
    have hl3 := hl3.no hc36
    have hf := hf.no hc36
    subst hva hvl
    -- the freezes
    obtain ⟨A1, hp1, hr1, _⟩ := Rd.sl_hm (P := Tryz.prog) (ty := 23) ha3 (h := fs.length) (m := fs.length) (by omega) (by omega) (by omega) (by omega)
    simp only [Int.toNat_natCast] at hp1 hr1
    have htk : (frs fs).take (fs.length * 34) = frs fs := List.take_of_length_le (by rw [frs_len]; exact Nat.le_refl _)
    rw [htk] at hr1
    refine HR_kp No ?_
    (first | refine SV_p (by first | exact True.intro | omega | (simp only [List.length_append, List.length_cons, List.length_nil, List.length_replicate, List.length_map]; omega)) ?_ | refine HV_p (by first | exact True.intro | omega | (simp only [List.length_append, List.length_cons, List.length_nil, List.length_replicate, List.length_map]; omega)) ?_)
    (first | refine SV_p (by first | exact True.intro | omega | (simp only [List.length_append, List.length_cons, List.length_nil, List.length_replicate, List.length_map]; omega)) ?_ | refine HV_p (by first | exact True.intro | omega | (simp only [List.length_append, List.length_cons, List.length_nil, List.length_replicate, List.length_map]; omega)) ?_)
    refine HV_load b6 (fun h => h) (v := .slice Aa fs.length ca) rfl ?_
    (first | refine SV_p (by first | exact True.intro | omega | (simp only [List.length_append, List.length_cons, List.length_nil, List.length_replicate, List.length_map]; omega)) ?_ | refine HV_p (by first | exact True.intro | omega | (simp only [List.length_append, List.length_cons, List.length_nil, List.length_replicate, List.length_map]; omega)) ?_)
    (first | refine SV_p (by first | exact True.intro | omega | (simp only [List.length_append, List.length_cons, List.length_nil, List.length_replicate, List.length_map]; omega)) ?_ | refine HV_p (by first | exact True.intro | omega | (simp only [List.length_append, List.length_cons, List.length_nil, List.length_replicate, List.length_map]; omega)) ?_)
    refine HV_load b6 (fun h => h) (v := .slice Aa fs.length ca) rfl ?_
    (first | refine SV_p (by first | exact True.intro | omega | (simp only [List.length_append, List.length_cons, List.length_nil, List.length_replicate, List.length_map]; omega)) ?_ | refine HV_p (by first | exact True.intro | omega | (simp only [List.length_append, List.length_cons, List.length_nil, List.length_replicate, List.length_map]; omega)) ?_)
    (first | refine SV_p (by first | exact True.intro | omega | (simp only [List.length_append, List.length_cons, List.length_nil, List.length_replicate, List.length_map]; omega)) ?_ | refine HV_p (by first | exact True.intro | omega | (simp only [List.length_append, List.length_cons, List.length_nil, List.length_replicate, List.length_map]; omega)) ?_)
    (first | refine SV_p (by first | exact True.intro | omega | (simp only [List.length_append, List.length_cons, List.length_nil, List.length_replicate, List.length_map]; omega)) ?_ | refine HV_p (by first | exact True.intro | omega | (simp only [List.length_append, List.length_cons, List.length_nil, List.length_replicate, List.length_map]; omega)) ?_)
    refine HV_load b6 (fun h => h) (v := .slice Aa fs.length ca) rfl ?_
    (first | refine SV_p (by first | exact True.intro | omega | (simp only [List.length_append, List.length_cons, List.length_nil, List.length_replicate, List.length_map]; omega)) ?_ | refine HV_p (by first | exact True.intro | omega | (simp only [List.length_append, List.length_cons, List.length_nil, List.length_replicate, List.length_map]; omega)) ?_)
    refine HV_pu hp1 ?_
    refine HV_loadB b3 (fun h => h) f.len ?_
    refine SV_lits (e := 31) (sz := 34) [ag f.cells] [f.cells] rfl (fun i v hv => ?_) rfl rfl (by simp) fun g9 w7 hg9 b9 h7 ho9 => ?_
    · match i, hv with
      | 0, hv => simp only [List.getElem?_cons_zero, Option.some.injEq] at hv; subst hv; exact ⟨f.cells, rfl, rfl, f.len⟩
      | i + 1, hv => simp at hv
    have h7' : Ch No w6 w7 := (Ch.drew _).trans h7
    (first | refine RS_same (h7') ?_ | refine ⟨h7', ?_⟩)
    have hfl : [f.cells].flatten = frs [f] := by simp [frs]
    rw [hfl] at ho9
    refine SV_append_full (T' := 31) (hr1.no h7') (Rd.of_own ho9) (by decide) (by omega) (by unfold maxLen; omega) fun v8 w8 ho8 h8 => ?_
    have h8' : Ch No w6 w8 := h7'.trans h8
    (first | refine RS_same (h8') ?_ | refine ⟨h8', ?_⟩)
    (first | refine SV_p (by first | exact True.intro | omega | (simp only [List.length_append, List.length_cons, List.length_nil, List.length_replicate, List.length_map]; omega)) ?_ | refine HV_p (by first | exact True.intro | omega | (simp only [List.length_append, List.length_cons, List.length_nil, List.length_replicate, List.length_map]; omega)) ?_)
    (first | refine SV_p (by first | exact True.intro | omega | (simp only [List.length_append, List.length_cons, List.length_nil, List.length_replicate, List.length_map]; omega)) ?_ | refine HV_p (by first | exact True.intro | omega | (simp only [List.length_append, List.length_cons, List.length_nil, List.length_replicate, List.length_map]; omega)) ?_)
    have h1v : v8.oneCell' = true := by
      obtain ⟨A, c, rfl, _⟩ := (Rd.of_own ho8).form
      rfl
    refine SU_store (b6.no h8') (by simp) h1v fun w9 b h9 => ?_
    have z8 := h8'.size
    have z9 := h9.size
    have z7 := h7'.size
    have hra : Rd w9 31 34 v8 (fs.length + 1) (frs (fs ++ [f])) := by
      rw [frs_append]
      exact (Rd.of_own ho8).blk h9 (b6.no h8') (by decide)
    have hc9 : Ch (· = g) w3 w9 := (hc36.no.trans h8'.no).trans h9
    have hl9 := (hl3.no h8').blk h9 (b6.no h8') (by decide)
    have hne : gf ≠ g := by
      obtain ⟨_, hb, _⟩ := hf
      exact hb.ne b6 (by decide)
    have hf9 : FrontAt w9 gf 190 29 (fs.map Freeze.leaf) := by
      obtain ⟨vp, hb, hr⟩ := hf.no h8'
      exact ⟨vp, hb.ch h9 hne, hr.blk h9 (b6.no h8') (by decide)⟩
    have n8 : g8 ≠ g := by omega
    have b8 := (b8.no h8').ch h9 n8
    -- the leaves
    obtain ⟨A2, hp2, hr2, _⟩ := Rd.sl_hm (P := Tryz.prog) (ty := 24) hl9 (h := fs.length) (m := fs.length) (by omega) (by omega) (by omega) (by omega)
    simp only [Int.toNat_natCast] at hp2 hr2
    have htk2 : (sums (fs.map Freeze.leaf)).take (fs.length * 32) = sums (fs.map Freeze.leaf) := List.take_of_length_le (by rw [sums_len, List.length_map]; exact Nat.le_refl _)
    rw [htk2] at hr2
    refine HR_kp No ?_
    (first | refine SV_p (by first | exact True.intro | omega | (simp only [List.length_append, List.length_cons, List.length_nil, List.length_replicate, List.length_map]; omega)) ?_ | refine HV_p (by first | exact True.intro | omega | (simp only [List.length_append, List.length_cons, List.length_nil, List.length_replicate, List.length_map]; omega)) ?_)
    (first | refine SV_p (by first | exact True.intro | omega | (simp only [List.length_append, List.length_cons, List.length_nil, List.length_replicate, List.length_map]; omega)) ?_ | refine HV_p (by first | exact True.intro | omega | (simp only [List.length_append, List.length_cons, List.length_nil, List.length_replicate, List.length_map]; omega)) ?_)
    refine HV_load b (fun h => h) (v := .slice Al fs.length cl) rfl ?_
    (first | refine SV_p (by first | exact True.intro | omega | (simp only [List.length_append, List.length_cons, List.length_nil, List.length_replicate, List.length_map]; omega)) ?_ | refine HV_p (by first | exact True.intro | omega | (simp only [List.length_append, List.length_cons, List.length_nil, List.length_replicate, List.length_map]; omega)) ?_)
    (first | refine SV_p (by first | exact True.intro | omega | (simp only [List.length_append, List.length_cons, List.length_nil, List.length_replicate, List.length_map]; omega)) ?_ | refine HV_p (by first | exact True.intro | omega | (simp only [List.length_append, List.length_cons, List.length_nil, List.length_replicate, List.length_map]; omega)) ?_)
    refine HV_load b (fun h => h) (v := .slice Al fs.length cl) rfl ?_
    (first | refine SV_p (by first | exact True.intro | omega | (simp only [List.length_append, List.length_cons, List.length_nil, List.length_replicate, List.length_map]; omega)) ?_ | refine HV_p (by first | exact True.intro | omega | (simp only [List.length_append, List.length_cons, List.length_nil, List.length_replicate, List.length_map]; omega)) ?_)
    (first | refine SV_p (by first | exact True.intro | omega | (simp only [List.length_append, List.length_cons, List.length_nil, List.length_replicate, List.length_map]; omega)) ?_ | refine HV_p (by first | exact True.intro | omega | (simp only [List.length_append, List.length_cons, List.length_nil, List.length_replicate, List.length_map]; omega)) ?_)
    (first | refine SV_p (by first | exact True.intro | omega | (simp only [List.length_append, List.length_cons, List.length_nil, List.length_replicate, List.length_map]; omega)) ?_ | refine HV_p (by first | exact True.intro | omega | (simp only [List.length_append, List.length_cons, List.length_nil, List.length_replicate, List.length_map]; omega)) ?_)
    refine HV_load b (fun h => h) (v := .slice Al fs.length cl) rfl ?_
    (first | refine SV_p (by first | exact True.intro | omega | (simp only [List.length_append, List.length_cons, List.length_nil, List.length_replicate, List.length_map]; omega)) ?_ | refine HV_p (by first | exact True.intro | omega | (simp only [List.length_append, List.length_cons, List.length_nil, List.length_replicate, List.length_map]; omega)) ?_)
    refine HV_pu hp2 ?_
    refine HV_loadB b8 (fun h => h) (Sum.len _) ?_
    refine SV_lits (e := 29) (sz := 32) [ag f.leaf.cells] [f.leaf.cells] rfl (fun i v hv => ?_) rfl rfl (by simp) fun ga wa hga ba ha' hoa => ?_
    · match i, hv with
      | 0, hv => simp only [List.getElem?_cons_zero, Option.some.injEq] at hv; subst hv; exact ⟨f.leaf.cells, rfl, rfl, f.leaf.len⟩
      | i + 1, hv => simp at hv
    have ha'' : Ch No w9 wa := (Ch.drew _).trans ha'
    (first | refine RS_same (ha'') ?_ | refine ⟨ha'', ?_⟩)
    have hfl2 : [f.leaf.cells].flatten = sums [f.leaf] := by simp [sums]
    rw [hfl2] at hoa
    refine SV_append_full (T' := 29) (hr2.no ha'') (Rd.of_own hoa) (by decide) (by omega) (by unfold maxLen; omega) fun vb wb hob hb => ?_
    have hb' : Ch No w9 wb := ha''.trans hb
    (first | refine RS_same (hb') ?_ | refine ⟨hb', ?_⟩)
    (first | refine SV_p (by first | exact True.intro | omega | (simp only [List.length_append, List.length_cons, List.length_nil, List.length_replicate, List.length_map]; omega)) ?_ | refine HV_p (by first | exact True.intro | omega | (simp only [List.length_append, List.length_cons, List.length_nil, List.length_replicate, List.length_map]; omega)) ?_)
    (first | refine SV_p (by first | exact True.intro | omega | (simp only [List.length_append, List.length_cons, List.length_nil, List.length_replicate, List.length_map]; omega)) ?_ | refine HV_p (by first | exact True.intro | omega | (simp only [List.length_append, List.length_cons, List.length_nil, List.length_replicate, List.length_map]; omega)) ?_)
    have h1w : vb.oneCell' = true := by
      obtain ⟨A, c, rfl, _⟩ := (Rd.of_own hob).form
      rfl
    refine SU_store (b.no hb') (by simp) h1w fun wc bc hcc => ?_
    have zb := hb'.size
    have zc := hcc.size
    have hrac := (hra.no hb').blk hcc (b.no hb') (by decide)
    have hrlc : Rd wc 29 32 vb (fs.length + 1) (sums (fs.map Freeze.leaf ++ [f.leaf])) := by
      rw [sums_append]
      exact (Rd.of_own hob).blk hcc (b.no hb') (by decide)
    have hfc : FrontAt wc gf 190 29 (fs.map Freeze.leaf) := by
      obtain ⟨vp, hbk, hr⟩ := hf9.no hb'
      exact ⟨vp, hbk.ch hcc hne, hr.blk hcc (b.no hb') (by decide)⟩
    have b8 := (b8.no hb').ch hcc n8
    have hcc' : Ch (· = g) w3 wc := (hc9.trans hb'.no).trans hcc
    -- the front
    refine HR_kp No ?_
    (first | refine SV_p (by first | exact True.intro | omega | (simp only [List.length_append, List.length_cons, List.length_nil, List.length_replicate, List.length_map]; omega)) ?_ | refine HV_p (by first | exact True.intro | omega | (simp only [List.length_append, List.length_cons, List.length_nil, List.length_replicate, List.length_map]; omega)) ?_)
    (first | refine SV_p (by first | exact True.intro | omega | (simp only [List.length_append, List.length_cons, List.length_nil, List.length_replicate, List.length_map]; omega)) ?_ | refine HV_p (by first | exact True.intro | omega | (simp only [List.length_append, List.length_cons, List.length_nil, List.length_replicate, List.length_map]; omega)) ?_)
    refine HV_load bc (fun h => h) (v := .pointer (some ⟨gf, 0, none⟩)) rfl ?_
    refine HV_loadB b8 (fun h => h) (Sum.len _) ?_
    have hd : Ch No wc wc.drew := Ch.drew _
    refine n74 (Calls.ret_mono (front_add ((hK3.ch hcc' (by omega)).no hd) hgf (hfc.no hd) (by rw [List.length_map]; omega)) ?_)
    rintro _ wd ⟨rfl, hfd, hdd⟩
    have hdd' : Ch (· = gf) wc wd := hd.no.trans hdd
    refine ⟨Kp (· = gf) wc, fun _ h => Ch.no h, hdd', ?_⟩
    (first | refine SV_p (by first | exact True.intro | omega | (simp only [List.length_append, List.length_cons, List.length_nil, List.length_replicate, List.length_map]; omega)) ?_ | refine HV_p (by first | exact True.intro | omega | (simp only [List.length_append, List.length_cons, List.length_nil, List.length_replicate, List.length_map]; omega)) ?_)
    obtain ⟨vp, hbf, _⟩ := hfc
    have hmap : fs.map Freeze.leaf ++ [f.leaf] = (fs ++ [f]).map Freeze.leaf := by simp
    have hlen : (fs ++ [f]).length = fs.length + 1 := by simp
    refine ⟨.pointer (some ⟨gf, 0, none⟩), ?_, ⟨⟨v8, vb, bc.ch hdd' hne.symm, ?_, ?_⟩, .inr ⟨gf, rfl, ?_, hgf⟩, hpos⟩, ?_, ?_⟩
    · have : ((((fs.map Freeze.leaf).length + 1 : Nat) : Int) - 1) = (fs.length : Int) := by rw [List.length_map]; omega
      rw [this]
    · rw [hlen]; exact hrac.blk hdd' hbf (by decide)
    · rw [hlen, ← hmap]; exact hrlc.blk hdd' hbf (by decide)
    · rw [← hmap]; exact hfd
    · rcases hor with h | h
      · exact .inl h.symm
      · exact .inr ⟨gf, rfl, h⟩
    · have hA : Ch (fun b => b = g ∨ pBlk fv = some b) w wc := (hc3.trans hcc').mono fun k _ hk => .inl hk
      refine hA.trans' hdd' fun i hi hib => ?_
      subst hib
      rcases hor with h | h
      · right; rw [h]; rfl
      · omega
  -- the tests
  have b2 := bO.no hc2
  have ha2 := ha.no hc2
  have hd2 : Ch No w2 w2.drew := Ch.drew _
  have fin : ¬ lastLow fs f → ∀ w3, Ch No w2 w3 → JP 0 (fun j =>
      SV Tryz.prog (nilS (.pointer (some ⟨g, 0, none⟩))) w3 fun t47 w =>
      SV Tryz.prog (Instr.fieldAt 27 t47 2) w fun t48 w =>
      SV Tryz.prog (Instr.loadAt 25 t48) w fun t49 w =>
      SV Tryz.prog (eqS .eql 25 (.tmp 49) (.const (Value.pointer none)) t49 (Value.pointer none)) w fun t50 w =>
      CN t50
      (SN Tryz.prog (callFunc 72 #[]) w fun t52 w =>
      SV Tryz.prog (nilS (.pointer (some ⟨g, 0, none⟩))) w fun t53 w =>
      SV Tryz.prog (Instr.fieldAt 27 t53 2) w fun t54 w =>
      SU Tryz.prog (Instr.storeAt 25 t54 t52) w fun w =>
      j [] w)
      (j [] w))
      (fun _ _ w' => s15_j1 Tryz.prog (fun v w' => ∃ fv', v = .tuple #[.int .i64 (if anchorErr fs f = 0 then (fs.length : Int) else 0), .int .i64 (anchorErr fs f)] ∧
      SuperAt w' g fv' (if anchorErr fs f = 0 then fs ++ [f] else fs) ∧ (fv' = fv ∨ ∃ gf, fv' = .pointer (some ⟨gf, 0, none⟩) ∧ w.heap.size ≤ gf) ∧ Ch (fun b => b = g ∨ pBlk fv = some b) w w') (.pointer (some ⟨g, 0, none⟩)) (.pointer (some ⟨g3, 0, none⟩)) w') := by
    intro hlow w3 h3
    have b := b2.no h3
    have b3 := b3.no h3
    have hc3 := hc2.trans h3
    have z3 := hc3.size
    have z13 := (h2.trans h3).size
    have l3 := b3.lt
    refine JP_in ?_
    (first | refine SV_p (by first | exact True.intro | omega | (simp only [List.length_append, List.length_cons, List.length_nil, List.length_replicate, List.length_map]; omega)) ?_ | refine HV_p (by first | exact True.intro | omega | (simp only [List.length_append, List.length_cons, List.length_nil, List.length_replicate, List.length_map]; omega)) ?_)
    (first | refine SV_p (by first | exact True.intro | omega | (simp only [List.length_append, List.length_cons, List.length_nil, List.length_replicate, List.length_map]; omega)) ?_ | refine HV_p (by first | exact True.intro | omega | (simp only [List.length_append, List.length_cons, List.length_nil, List.length_replicate, List.length_map]; omega)) ?_)
    refine SV_load b (v := fv) rfl ?_
    rcases hfr with ⟨rfl, rfl⟩ | ⟨gf, rfl, hf, hgf⟩
    · (first | refine SV_p (by first | exact True.intro | omega | (simp only [List.length_append, List.length_cons, List.length_nil, List.length_replicate, List.length_map]; omega)) ?_ | refine HV_p (by first | exact True.intro | omega | (simp only [List.length_append, List.length_cons, List.length_nil, List.length_replicate, List.length_map]; omega)) ?_)
      refine CN_tt ?_
      refine n72 (Calls.ret_mono (front_new w3) ?_)
      rintro _ w4 ⟨gf, rfl, hgf, hf, h4⟩
      (first | refine SV_p (by first | exact True.intro | omega | (simp only [List.length_append, List.length_cons, List.length_nil, List.length_replicate, List.length_map]; omega)) ?_ | refine HV_p (by first | exact True.intro | omega | (simp only [List.length_append, List.length_cons, List.length_nil, List.length_replicate, List.length_map]; omega)) ?_)
      (first | refine SV_p (by first | exact True.intro | omega | (simp only [List.length_append, List.length_cons, List.length_nil, List.length_replicate, List.length_map]; omega)) ?_ | refine HV_p (by first | exact True.intro | omega | (simp only [List.length_append, List.length_cons, List.length_nil, List.length_replicate, List.length_map]; omega)) ?_)
      refine SU_store (b.no h4) (by simp) rfl fun w5 b5 h5 => ?_
      have z4 := h4.size
      have lf : gf < w4.heap.size := by obtain ⟨_, hb, _⟩ := hf; exact hb.lt
      have hne : gf ≠ g := by omega
      refine ⟨rfl, fun _ => j1 hlow gf w5 b5 ?_ (by omega) (.inr (by omega)) ((b3.no h4).ch h5 (by omega)) ((hc3.trans h4).no.trans h5)⟩
      obtain ⟨vp, hb, hr⟩ := hf
      exact ⟨vp, hb.ch h5 hne, hr.blk h5 (b.no h4) (by decide)⟩
    · (first | refine SV_p (by first | exact True.intro | omega | (simp only [List.length_append, List.length_cons, List.length_nil, List.length_replicate, List.length_map]; omega)) ?_ | refine HV_p (by first | exact True.intro | omega | (simp only [List.length_append, List.length_cons, List.length_nil, List.length_replicate, List.length_map]; omega)) ?_)
      refine CN_ff ?_
      exact ⟨rfl, fun _ => j1 hlow gf w3 b (hf.no hc3) hgf (.inl rfl) b3 hc3.no⟩
  subst hva hvl
  refine HR_kp No ?_
  (first | refine SV_p (by first | exact True.intro | omega | (simp only [List.length_append, List.length_cons, List.length_nil, List.length_replicate, List.length_map]; omega)) ?_ | refine HV_p (by first | exact True.intro | omega | (simp only [List.length_append, List.length_cons, List.length_nil, List.length_replicate, List.length_map]; omega)) ?_)
  (first | refine SV_p (by first | exact True.intro | omega | (simp only [List.length_append, List.length_cons, List.length_nil, List.length_replicate, List.length_map]; omega)) ?_ | refine HV_p (by first | exact True.intro | omega | (simp only [List.length_append, List.length_cons, List.length_nil, List.length_replicate, List.length_map]; omega)) ?_)
  refine HV_load b2 (fun h => h) (v := .slice Aa fs.length ca) rfl ?_
  (first | refine SV_p (by first | exact True.intro | omega | (simp only [List.length_append, List.length_cons, List.length_nil, List.length_replicate, List.length_map]; omega)) ?_ | refine HV_p (by first | exact True.intro | omega | (simp only [List.length_append, List.length_cons, List.length_nil, List.length_replicate, List.length_map]; omega)) ?_)
  (first | refine SV_p (by first | exact True.intro | omega | (simp only [List.length_append, List.length_cons, List.length_nil, List.length_replicate, List.length_map]; omega)) ?_ | refine HV_p (by first | exact True.intro | omega | (simp only [List.length_append, List.length_cons, List.length_nil, List.length_replicate, List.length_map]; omega)) ?_)
  refine GD_split (fun hgt => ?_) (fun hle => ?_)
  · have hpos2 : 0 < fs.length := by omega
    (first | refine SV_p (by first | exact True.intro | omega | (simp only [List.length_append, List.length_cons, List.length_nil, List.length_replicate, List.length_map]; omega)) ?_ | refine HV_p (by first | exact True.intro | omega | (simp only [List.length_append, List.length_cons, List.length_nil, List.length_replicate, List.length_map]; omega)) ?_)
    refine HV_load b3 (fun h => h) (Freeze.fld0 f) ?_
    (first | refine SV_p (by first | exact True.intro | omega | (simp only [List.length_append, List.length_cons, List.length_nil, List.length_replicate, List.length_map]; omega)) ?_ | refine HV_p (by first | exact True.intro | omega | (simp only [List.length_append, List.length_cons, List.length_nil, List.length_replicate, List.length_map]; omega)) ?_)
    (first | refine SV_p (by first | exact True.intro | omega | (simp only [List.length_append, List.length_cons, List.length_nil, List.length_replicate, List.length_map]; omega)) ?_ | refine HV_p (by first | exact True.intro | omega | (simp only [List.length_append, List.length_cons, List.length_nil, List.length_replicate, List.length_map]; omega)) ?_)
    refine HV_load b2 (fun h => h) (v := .slice Aa fs.length ca) rfl ?_
    (first | refine SV_p (by first | exact True.intro | omega | (simp only [List.length_append, List.length_cons, List.length_nil, List.length_replicate, List.length_map]; omega)) ?_ | refine HV_p (by first | exact True.intro | omega | (simp only [List.length_append, List.length_cons, List.length_nil, List.length_replicate, List.length_map]; omega)) ?_)
    (first | refine SV_p (by first | exact True.intro | omega | (simp only [List.length_append, List.length_cons, List.length_nil, List.length_replicate, List.length_map]; omega)) ?_ | refine HV_p (by first | exact True.intro | omega | (simp only [List.length_append, List.length_cons, List.length_nil, List.length_replicate, List.length_map]; omega)) ?_)
    refine HV_load b2 (fun h => h) (v := .slice Aa fs.length ca) rfl ?_
    (first | refine SV_p (by first | exact True.intro | omega | (simp only [List.length_append, List.length_cons, List.length_nil, List.length_replicate, List.length_map]; omega)) ?_ | refine HV_p (by first | exact True.intro | omega | (simp only [List.length_append, List.length_cons, List.length_nil, List.length_replicate, List.length_map]; omega)) ?_)
    (first | refine SV_p (by first | exact True.intro | omega | (simp only [List.length_append, List.length_cons, List.length_nil, List.length_replicate, List.length_map]; omega)) ?_ | refine HV_p (by first | exact True.intro | omega | (simp only [List.length_append, List.length_cons, List.length_nil, List.length_replicate, List.length_map]; omega)) ?_)
    have hi : ((fs.length : Int) - 1).toNat = fs.length - 1 := by omega
    have hat : ((frs fs).drop ((fs.length - 1) * 34)).take 34 = (fs[fs.length - 1]'(by omega)).cells := flat_at Freeze.len (by omega)
    refine HV_idx ha2 (by omega) (by omega) fun q hqb hq => ?_
    rw [hi, hat] at hq
    obtain ⟨q2, hq2, hqp, _⟩ := hq.fld (P := Tryz.prog) (s := 31) (i := 0)
    refine HV_pu hq2 ?_
    refine HV_ptr1 (hqp.one (Freeze.fld0 _)) (fun _ _ h => h) ?_
    (first | refine SV_p (by first | exact True.intro | omega | (simp only [List.length_append, List.length_cons, List.length_nil, List.length_replicate, List.length_map]; omega)) ?_ | refine HV_p (by first | exact True.intro | omega | (simp only [List.length_append, List.length_cons, List.length_nil, List.length_replicate, List.length_map]; omega)) ?_)
    refine CN_split (fun hlow => ?_) (fun hhigh => ?_)
    · have hll : lastLow fs f := ⟨hpos2, hlow⟩
      have he : anchorErr fs f = 13 := by unfold anchorErr; rw [if_pos hok, if_pos hll]
      rw [he]
      exact ⟨fv, rfl, hSup _ (hc2.trans hd2), .inl rfl, (hc2.trans hd2).no⟩
    · exact fin (fun ⟨h, hl⟩ => hhigh hl) _ hd2
  · exact fin (fun ⟨h, _⟩ => by omega) _ hd2
end Go.Proofs.YtkdghnbogkbedaaGreatDoor
