/-
  ImageGoes: for every two lists of files, files that are changed by what Diff tells come from the ones to the others: the law answers true and its arguments read as they did. Conditions: the package-level tables hold what the program's text lays. (Part 8 of 8.)
-/
import Derived.Test.YtkdghnbogkbedaaGreatDoorCards
import Derived.Test.YtkdghnbogkbedaaGreatDoorTie
import Derived.Test.YtkdghnbogkbedaaGreatDoorPG6
set_option linter.unusedSimpArgs false
set_option linter.unusedVariables false

namespace Go.Proofs.YtkdghnbogkbedaaGreatDoor.imageGoes
open Go Go.Sh Go.ChangeShapes Go.WideShapes Go.ChangeAt Go.RowKit
set_option maxRecDepth 100000
set_option maxHeartbeats 1000000
set_option linter.unusedSimpArgs false
set_option linter.unusedVariables false

theorem keysAt {W : World} (h : laidMetH Tryz.prog Rows.imageGoesRow.laid W) : KeysAt W := keysAt_of (by have := h.filter (fun x => x.1 == "scrinium/sha.keys"); exact this)

/-- What the walk gives, for every argument and every world that holds the tables. -/
theorem contract (H : Type) (enc : TypeId × Value → H) (W : World) (base : Nat) (args : Array Value) (ds gs : List (DataW H)) (before : List MemPlace)
    (hval : ∀ (j : Nat) t v, Tryz.f5.params[j]? = some t → args[j]? = some v → Value.okWide Tryz.prog W .any base t v)
    (hW : DataW.Whole enc Tryz.prog Tryz.f5.params.toList Rows.imageGoesSpec.vars false W args.toList ds gs before) (hL : laidMetH Tryz.prog Rows.imageGoesRow.laid W) :
    Calls Tryz.prog 5 args W fun e W' => ∃ v, e = .returned v ∧ Rows.imageGoesSpec.post enc Tryz.prog Tryz.f5 false true false false W args v W' := by
  have hW' := hW
  obtain ⟨p, q, hA0, hV, rfl, hfz, hnd⟩ := hW
  have hA : DataW.TrodAll enc Tryz.prog W 0 (fun _ => true) true Tryz.f5.params.toList args.toList ds p := hA0
  rw [Tryz.params5] at hA hval
  obtain ⟨v0, vs0, d0, ds0, p0, q0, hargs0, hds0, rfl, h0, r0⟩ := trodAll_cons hA
  obtain ⟨v1, vs1, d1, ds1, p1, q1, hargs1, hds1, rfl, h1, r1⟩ := trodAll_cons r0
  obtain ⟨hargsE, hdsE, rfl⟩ := trodAll_nil r1
  obtain rfl : args = #[v0, v1] := by cases args; simp_all
  obtain rfl : ds = [d0, d1] := by simp_all
  obtain ⟨rfl, rfl⟩ := trodVars_none hV
  have hK := keysAt hL
  have hfn : Rows.imageGoesSpec.fn H ([d0, d1] ++ []) = { results := [.lit (.bool true)], args := [d0, d1] } := rfl
  obtain ⟨l0, hl0, hn0, hr0⟩ := open_list (E := eFile) Tryz.underlying52 (by kernel_rfl) (by decide) openFile (hval 0 52 v0 rfl rfl) h0
  obtain ⟨l1, hl1, hn1, hr1⟩ := open_list (E := eFile) Tryz.underlying52 (by kernel_rfl) (by decide) openFile (hval 1 52 v1 rfl rfl) h1
  refine Calls.mono (law21_goes (av := v0) (bv := v1) (a := l0) (b := l1) (mem_ro (hold_cons hK (hold_cons hr0 (hold_cons hr1 hold_nil))) rfl) hn0 hn1) fun e W' he => ?_
  cases e with
  | returned v =>
    obtain ⟨hv, hc⟩ := he
    exact ⟨_, rfl, law_post (tb := 4) (by kernel_rfl) (by kernel_rfl) hW' rfl hfn (by kernel_rfl) Tryz.underlying4 hv hc.below⟩
  | panicked c => exact he.elim
  | outgrown => exact he.elim

theorem laid_met (os : Os) : laidMet Tryz.prog Rows.imageGoesRow.laid ((laidWorld os).forCall (fun _ _ => 0) ⟨#[], #[.slice none 0 0, .slice none 0 0], []⟩).memory :=
  laidMet_of_run' 8 (by kernel_rfl) (by kernel_rfl)
theorem reads (os : Os) {H : Type} (enc : TypeId × Value → H) : ∃ places, DataW.whole enc Tryz.prog ((laidWorld os).forCall (fun _ _ => 0) ⟨#[], #[.slice none 0 0, .slice none 0 0], []⟩).memory Tryz.f5.params.toList Rows.imageGoesSpec.vars false #[Value.slice none 0 0, Value.slice none 0 0].toList 8 = some ([.nil, .nil], [], places) :=
  ⟨[], by kernel_rfl⟩

theorem lifted (os : Os) (started : os.Started) (H : Type) (enc : TypeId × Value → H) (F : Stop.Interp) :
    ReturnsInHanded {} Tryz.checked os 5 .any ((OpenSpec.ofChange Rows.imageGoesSpec).preRow enc Tryz.prog Tryz.f5 Rows.imageGoesRow.domain false Rows.imageGoesRow.laid) (((OpenSpec.ofChange Rows.imageGoesSpec).at F).post enc Tryz.prog Tryz.f5 false true false false) := by
  obtain ⟨places, hx⟩ := reads os enc
  refine returnsInHanded_of_row (C := Tryz.checked) (s := OpenSpec.ofChange Rows.imageGoesSpec) ownK started (by kernel_rfl) Tryz.func5
    (witness_row_at (enc := enc) (C := Tryz.checked) false (laidWorld os) #[Value.slice none 0 0, Value.slice none 0 0] rfl (by kernel_rfl) (by kernel_rfl) (by kernel_rfl)
      (OpenSpec.preRow_of_cond 8 hx (by kernel_rfl) (fun k hk => by cases hk) (by kernel_rfl) (laid_met os))) ?_
  intro W base args ds gs before hval hW _ _ _ hL _ _
  exact contract H enc W base args ds gs before hval hW hL

theorem i0 : joinedFacts Tryz.pinned.checked.prog 5 Tryz.f5 (OpenSpec.ofChange Rows.imageGoesSpec).bare Rows.imageGoesRow = true := by kernel_rfl
theorem i1 : Tryz.f5.isInstance Tryz.pinned.checked.prog Rows.imageGoesRow.origin Rows.imageGoesRow.targs := of_decide_eq_true (by kernel_rfl)
theorem i2 : Tryz.f5.isWrapper Tryz.pinned.checked.prog Rows.imageGoesRow.wrapper Rows.imageGoesRow.mainSum := by
  unfold Func.isWrapper; first | (rw [if_pos (by decide +kernel)]; kernel_rfl) | (rw [if_neg (by decide +kernel)]; exact ⟨rfl, rfl⟩)
theorem i3 : Tryz.pinned.checked.prog.funcNamed Rows.imageGoesRow.func = some 5 := by kernel_rfl
theorem said : Rows.ImageGoesSaid :=
  OpenClaim.holds_of_cond 5 Tryz.f5 rfl rfl rfl rfl rfl rfl rfl ⟨rfl, rfl, rfl, rfl, rfl⟩ rfl rfl rfl rfl rfl i3 Tryz.func5 i0
    i1 i2
    (fun os started H enc _ F => by rw [OpenClaim.pre_eq_preRow]; exact lifted os started H enc F)

theorem plain (f : FuncId) (fn : Func) (hf : Tryz.pinned.checked.prog.funcNamed "scrinium/scriniumlaw21.ImageGoes" = some f) (hfn : Tryz.pinned.checked.prog.funcs[f]? = some fn) :
    false = Tryz.pinned.checked.prog.looks [] ∧ ∀ (j : Nat) t, fn.params[j]? = some t → Tryz.pinned.checked.prog.wantsStandIn t = false := by
  obtain rfl : f = 5 := Option.some.inj ((show Tryz.prog.funcNamed "scrinium/scriniumlaw21.ImageGoes" = some 5 by kernel_rfl).symm.trans hf) |>.symm
  obtain rfl : fn = Tryz.f5 := (Option.some.inj (Tryz.func5.symm.trans hfn)).symm
  refine ⟨by kernel_rfl, fun j t ht => ?_⟩
  rw [Tryz.params5] at ht
  have hall : (#[52, 52] : Array TypeId).all (fun t => !Tryz.prog.wantsStandIn t) = true := by kernel_rfl
  have := Array.all_eq_true'.1 hall t (Array.mem_of_getElem? ht)
  exact (by simpa using this : Tryz.prog.wantsStandIn t = false)

/-- The card. -/
theorem card : Rows.ImageGoesCardSaid :=
  Claim7.holds_tied_plain_at .later [] _ _ _ _ said (fun _ h => by cases h) (by kernel_rfl) (fun _ h => by cases h) imageGoes_row_tie rfl ⟨rfl, rfl⟩ (by kernel_rfl) rfl plain (by kernel_rfl)
end Go.Proofs.YtkdghnbogkbedaaGreatDoor.imageGoes
