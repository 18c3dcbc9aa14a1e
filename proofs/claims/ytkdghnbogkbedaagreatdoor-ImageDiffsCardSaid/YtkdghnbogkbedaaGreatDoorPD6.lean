/-
  ImageDiffs: for every input the law answers true, and its arguments read as they did. Conditions: the package-level tables hold what the program's text lays (the row's list, tied by the card). (Part 7 of 7.)
-/
import Derived.Test.YtkdghnbogkbedaaGreatDoorCards
import Derived.Test.YtkdghnbogkbedaaGreatDoorTie
import Derived.Test.YtkdghnbogkbedaaGreatDoorPD5
set_option linter.unusedSimpArgs false
set_option linter.unusedVariables false

namespace Go.Proofs.YtkdghnbogkbedaaGreatDoor.imageDiffs
open Go Go.Sh Go.ChangeShapes Go.WideShapes Go.ChangeAt Go.RowKit
set_option maxRecDepth 100000
set_option maxHeartbeats 1000000
set_option linter.unusedSimpArgs false
set_option linter.unusedVariables false

theorem keysAt {W : World} (h : laidMetH Tryz.prog Rows.imageDiffsRow.laid W) : KeysAt W := keysAt_of (by have := h.filter (fun x => x.1 == "scrinium/sha.keys"); exact this)

/-- What the walk gives, for every argument and every world that holds the tables. -/
theorem contract (H : Type) (enc : TypeId × Value → H) (W : World) (base : Nat) (args : Array Value) (ds gs : List (DataW H)) (before : List MemPlace)
    (hval : ∀ (j : Nat) t v, Tryz.f4.params[j]? = some t → args[j]? = some v → Value.okWide Tryz.prog W .any base t v)
    (hW : DataW.Whole enc Tryz.prog Tryz.f4.params.toList Rows.imageDiffsSpec.vars false W args.toList ds gs before) (hL : laidMetH Tryz.prog Rows.imageDiffsRow.laid W) :
    Calls Tryz.prog 4 args W fun e W' => ∃ v, e = .returned v ∧ Rows.imageDiffsSpec.post enc Tryz.prog Tryz.f4 false true false false W args v W' := by
  have hW' := hW
  obtain ⟨p, q, hA0, hV, rfl, hfz, hnd⟩ := hW
  have hA : DataW.TrodAll enc Tryz.prog W 0 (fun _ => true) true Tryz.f4.params.toList args.toList ds p := hA0
  rw [Tryz.params4] at hA hval
  obtain ⟨v0, vs0, d0, ds0, p0, q0, hargs0, hds0, rfl, h0, r0⟩ := trodAll_cons hA
  obtain ⟨v1, vs1, d1, ds1, p1, q1, hargs1, hds1, rfl, h1, r1⟩ := trodAll_cons r0
  obtain ⟨v2, vs2, d2, ds2, p2, q2, hargs2, hds2, rfl, h2, r2⟩ := trodAll_cons r1
  obtain ⟨hargsE, hdsE, rfl⟩ := trodAll_nil r2
  obtain rfl : args = #[v0, v1, v2] := by cases args; simp_all
  obtain rfl : ds = [d0, d1, d2] := by simp_all
  obtain ⟨rfl, rfl⟩ := trodVars_none hV
  have hK := keysAt hL
  have hfn : Rows.imageDiffsSpec.fn H ([d0, d1, d2] ++ []) = { results := [.lit (.bool true)], args := [d0, d1, d2] } := rfl
  obtain ⟨l0, hl0, hn0, hr0⟩ := open_list (E := eFile) Tryz.underlying52 (by kernel_rfl) (by decide) openFile (hval 0 52 v0 rfl rfl) h0
  obtain ⟨l1, hl1, hn1, hr1⟩ := open_list (E := eFile) Tryz.underlying52 (by kernel_rfl) (by decide) openFile (hval 1 52 v1 rfl rfl) h1
  obtain ⟨n2, rfl, rfl, rfl⟩ := open_bool Tryz.underlying4 (hval 2 4 v2 rfl rfl) h2
  refine Calls.mono (law21_diffs (av := v0) (bv := v1) (a := l0) (b := l1) (half := n2) (mem_ro (hold_cons hK (hold_cons hr0 (hold_cons hr1 hold_nil))) rfl) hn0 hn1) fun e W' he => ?_
  cases e with
  | returned v =>
    obtain ⟨hv, hc⟩ := he
    exact ⟨_, rfl, law_post (tb := 4) (by kernel_rfl) (by kernel_rfl) hW' rfl hfn (by kernel_rfl) Tryz.underlying4 hv hc.below⟩
  | panicked c => exact he.elim
  | outgrown => exact he.elim

theorem laid_met (os : Os) : laidMet Tryz.prog Rows.imageDiffsRow.laid ((laidWorld os).forCall (fun _ _ => 0) ⟨#[], #[.slice none 0 0, .slice none 0 0, .bool false], []⟩).memory :=
  laidMet_of_run' 8 (by kernel_rfl) (by kernel_rfl)
theorem reads (os : Os) {H : Type} (enc : TypeId × Value → H) : ∃ places, DataW.whole enc Tryz.prog ((laidWorld os).forCall (fun _ _ => 0) ⟨#[], #[.slice none 0 0, .slice none 0 0, .bool false], []⟩).memory Tryz.f4.params.toList Rows.imageDiffsSpec.vars false #[Value.slice none 0 0, Value.slice none 0 0, Value.bool false].toList 8 = some ([.nil, .nil, .lit (.bool false)], [], places) :=
  ⟨[], by kernel_rfl⟩

theorem lifted (os : Os) (started : os.Started) (H : Type) (enc : TypeId × Value → H) (F : Stop.Interp) :
    ReturnsInHanded {} Tryz.checked os 4 .any ((OpenSpec.ofChange Rows.imageDiffsSpec).preRow enc Tryz.prog Tryz.f4 Rows.imageDiffsRow.domain false Rows.imageDiffsRow.laid) (((OpenSpec.ofChange Rows.imageDiffsSpec).at F).post enc Tryz.prog Tryz.f4 false true false false) := by
  obtain ⟨places, hx⟩ := reads os enc
  refine returnsInHanded_of_row (C := Tryz.checked) (s := OpenSpec.ofChange Rows.imageDiffsSpec) ownK started (by kernel_rfl) Tryz.func4
    (witness_row_at (enc := enc) (C := Tryz.checked) false (laidWorld os) #[Value.slice none 0 0, Value.slice none 0 0, Value.bool false] rfl (by kernel_rfl) (by kernel_rfl) (by kernel_rfl)
      (OpenSpec.preRow_of_cond 8 hx (by kernel_rfl) (fun k hk => by cases hk) (by kernel_rfl) (laid_met os))) ?_
  intro W base args ds gs before hval hW _ _ _ hL _ _
  exact contract H enc W base args ds gs before hval hW hL

theorem i0 : joinedFacts Tryz.pinned.checked.prog 4 Tryz.f4 (OpenSpec.ofChange Rows.imageDiffsSpec).bare Rows.imageDiffsRow = true := by kernel_rfl
theorem i1 : Tryz.f4.isInstance Tryz.pinned.checked.prog Rows.imageDiffsRow.origin Rows.imageDiffsRow.targs := of_decide_eq_true (by kernel_rfl)
theorem i2 : Tryz.f4.isWrapper Tryz.pinned.checked.prog Rows.imageDiffsRow.wrapper Rows.imageDiffsRow.mainSum := by
  unfold Func.isWrapper; first | (rw [if_pos (by decide +kernel)]; kernel_rfl) | (rw [if_neg (by decide +kernel)]; exact ⟨rfl, rfl⟩)
theorem i3 : Tryz.pinned.checked.prog.funcNamed Rows.imageDiffsRow.func = some 4 := by kernel_rfl
theorem said : Rows.ImageDiffsSaid :=
  OpenClaim.holds_of_cond 4 Tryz.f4 rfl rfl rfl rfl rfl rfl rfl ⟨rfl, rfl, rfl, rfl, rfl⟩ rfl rfl rfl rfl rfl i3 Tryz.func4 i0
    i1 i2
    (fun os started H enc _ F => by rw [OpenClaim.pre_eq_preRow]; exact lifted os started H enc F)

theorem plain (f : FuncId) (fn : Func) (hf : Tryz.pinned.checked.prog.funcNamed "scrinium/scriniumlaw21.ImageDiffs" = some f) (hfn : Tryz.pinned.checked.prog.funcs[f]? = some fn) :
    false = Tryz.pinned.checked.prog.looks [] ∧ ∀ (j : Nat) t, fn.params[j]? = some t → Tryz.pinned.checked.prog.wantsStandIn t = false := by
  obtain rfl : f = 4 := Option.some.inj ((show Tryz.prog.funcNamed "scrinium/scriniumlaw21.ImageDiffs" = some 4 by kernel_rfl).symm.trans hf) |>.symm
  obtain rfl : fn = Tryz.f4 := (Option.some.inj (Tryz.func4.symm.trans hfn)).symm
  refine ⟨by kernel_rfl, fun j t ht => ?_⟩
  rw [Tryz.params4] at ht
  have hall : (#[52, 52, 4] : Array TypeId).all (fun t => !Tryz.prog.wantsStandIn t) = true := by kernel_rfl
  have := Array.all_eq_true'.1 hall t (Array.mem_of_getElem? ht)
  exact (by simpa using this : Tryz.prog.wantsStandIn t = false)

/-- The card. -/
theorem card : Rows.ImageDiffsCardSaid :=
  Claim7.holds_tied_plain_at .later [] _ _ _ _ said (fun _ h => by cases h) (by kernel_rfl) (fun _ h => by cases h) imageDiffs_row_tie rfl ⟨rfl, rfl⟩ (by kernel_rfl) rfl plain (by kernel_rfl)
end Go.Proofs.YtkdghnbogkbedaaGreatDoor.imageDiffs
