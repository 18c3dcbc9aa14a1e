/-
  ImageGoes: for every two lists of files, files that are changed by what Diff tells come from the ones to the others: the law answers true and its arguments read as they did. Conditions: the package-level tables hold what the program's text lays. (Part 6 of 8.)
-/
import Derived.Test.YtkdghnbogkbedaaGreatDoorProg
import Derived.Test.YtkdghnbogkbedaaGreatDoorPG4
set_option linter.unusedSimpArgs false
set_option linter.unusedVariables false

namespace Go.Sh
open Go Go.RowKit
/-- Changes that all may be made, and what is there then. -/
inductive Runs (room : Int) : List FileOp → List File → Int → List File → Prop
  | nil {fs t} : Runs room [] fs t fs
  | cons {o ops fs fs2 t k fin} : nameOk o.name → 1 ≤ o.kind ∧ o.kind ≤ 5 → o.data.length ≤ 500000 → fs.length ≤ 1000 → (∀ f ∈ fs, f.data.length ≤ 500000) → fs2.length ≤ 1000 → (∀ f ∈ fs2, f.data.length ≤ 500000) →
      oneOf fs o = (fs2, k, 0) → 0 ≤ freeOf room fs2 → 0 ≤ k → t + k ≤ 40 → Runs room ops fs2 (t + k) fin → Runs room (o :: ops) fs t fin
end Go.Sh
namespace Go.Proofs.YtkdghnbogkbedaaGreatDoor
open Go Go.Sh Go.RowKit
set_option maxRecDepth 100000
set_option maxHeartbeats 1000000
set_option linter.unusedSimpArgs false
set_option linter.unusedVariables false
section
variable {g : Nat} {v : Value} {room : Int} {fs : List File} {w0 : World}

theorem needN_le {n : Nat} (h : n ≤ 1000000) : needN n ≤ 4000 := by unfold needN; split <;> omega

theorem ref_one {o : FileOp} (h : Mem w0 [rk g 63 [.int .i64 room, v], sl eRF v fs]) (hl : fs.length ≤ 1000) (ho : nameOk o.name) (hk : 1 ≤ o.kind ∧ o.kind ≤ 5) (hd : ∀ f ∈ fs, f.data.length ≤ 500000) (hod : o.data.length ≤ 500000) :
    Calls Tryz.prog 99 #[.pointer (some ⟨g, 0, none⟩), o.v] w0 (retP fun r w' => ∃ g' v', r = .tuple #[.pointer (some ⟨g', 0, none⟩), .int .i64 (oneOf fs o).2.1, .int .i64 (oneOf fs o).2.2] ∧
      St w0 [rk g 63 [.int .i64 room, v], sl eRF v fs] w' [rk g' 63 [.int .i64 room, v'], sl eRF v' (oneOf fs o).1]) := by
  have m := St.start h
  refine c99 ?_
  unfold s99
  (repeat (first | refine Sh.sv m ?_ | refine Sh.hv ?_ | (refine Sh.sw m ?_; clear m; intro g_ w m) | (refine Sh.su m ?_; clear m; intro w m) | (refine Sh.suN m ?_; clear m; intro w m) | (refine Sh.hr m ?_; clear m; intro m) | refine Sh.rsS m ?_ | refine Sh.hd m ?_ | refine Sh.rsK [] m ?_ | refine CN_tt ?_ | refine CN_ff ?_ | refine GD_tt ?_ | refine GD_ff ?_ | refine GD_tf ?_ | refine GD_ft ?_ | refine CN_true (by first | omega | (simp; done) | (simp; omega)) ?_ | refine CN_false (by first | omega | (simp; done) | (simp; omega)) ?_ | refine GD_true (by first | omega | (simp; done) | (simp; omega)) ?_ | refine GD_true' (by first | omega | (simp; done) | (simp; omega)) ?_ | refine GD_false (by first | omega | (simp; done) | (simp; omega)) ?_ | refine GD_false' (by first | omega | (simp; done) | (simp; omega)) ?_ | refine Sh.crN m ?_ | refine Sh.cr1 m ?_ | refine Sh.svI m (by first | omega | decide) (by first | omega | (simp; done) | (simp; omega)) fun q_ _ hp_ => ?_ | refine Sh.hvI m (by first | omega | decide) (by first | omega | (simp; done) | (simp; omega)) fun q_ _ hp_ => ?_ | refine Sh.svF m fun q_ _ hp_ => ?_ | refine Sh.hvF m fun q_ _ hp_ => ?_))
  refine n172 (m.ret (ref_name ho _) ?_); clear m; intro w m
  (repeat (first | refine Sh.sv m ?_ | refine Sh.hv ?_ | (refine Sh.sw m ?_; clear m; intro g_ w m) | (refine Sh.su m ?_; clear m; intro w m) | (refine Sh.suN m ?_; clear m; intro w m) | (refine Sh.hr m ?_; clear m; intro m) | refine Sh.rsS m ?_ | refine Sh.hd m ?_ | refine Sh.rsK [] m ?_ | refine CN_tt ?_ | refine CN_ff ?_ | refine GD_tt ?_ | refine GD_ff ?_ | refine GD_tf ?_ | refine GD_ft ?_ | refine CN_true (by first | omega | (simp; done) | (simp; omega)) ?_ | refine CN_false (by first | omega | (simp; done) | (simp; omega)) ?_ | refine GD_true (by first | omega | (simp; done) | (simp; omega)) ?_ | refine GD_true' (by first | omega | (simp; done) | (simp; omega)) ?_ | refine GD_false (by first | omega | (simp; done) | (simp; omega)) ?_ | refine GD_false' (by first | omega | (simp; done) | (simp; omega)) ?_ | refine Sh.crN m ?_ | refine Sh.cr1 m ?_ | refine Sh.svI m (by first | omega | decide) (by first | omega | (simp; done) | (simp; omega)) fun q_ _ hp_ => ?_ | refine Sh.hvI m (by first | omega | decide) (by first | omega | (simp; done) | (simp; omega)) fun q_ _ hp_ => ?_ | refine Sh.svF m fun q_ _ hp_ => ?_ | refine Sh.hvF m fun q_ _ hp_ => ?_))
  refine n173 (m.ret (ref_idx (m.get (by repeat (first | exact Frm.nil | (with_reducible exact Rem.dup) | (with_reducible exact Rem.here) | apply Frm.cons | apply Rem.there))) hl) ?_); clear m; intro w m
  have same : ∀ (n e : Int) (w : World) (L : List Fact), oneOf fs o = (fs, n, e) → St w0 [rk g 63 [.int .i64 room, v], sl eRF v fs] w [rk g 63 [.int .i64 room, v], sl eRF v fs] →
      ∃ g' v', Value.tuple #[.pointer (some ⟨g, 0, none⟩), .int .i64 n, .int .i64 e] = .tuple #[.pointer (some ⟨g', 0, none⟩), .int .i64 (oneOf fs o).2.1, .int .i64 (oneOf fs o).2.2] ∧
      St w0 [rk g 63 [.int .i64 room, v], sl eRF v fs] w [rk g' 63 [.int .i64 room, v'], sl eRF v' (oneOf fs o).1] := fun n e w _ he m => by
    rw [he]; exact ⟨g, v, rfl, m⟩
  cases hF : findF fs o.name with
  | none =>
    rw [idxF_none hF]
    by_cases k1 : o.kind = 1
    · by_cases hlen : 32 ≤ fs.length
      · (repeat (first | refine Sh.sv m ?_ | refine Sh.hv ?_ | (refine Sh.sw m ?_; clear m; intro g_ w m) | (refine Sh.su m ?_; clear m; intro w m) | (refine Sh.suN m ?_; clear m; intro w m) | (refine Sh.hr m ?_; clear m; intro m) | refine Sh.rsS m ?_ | refine Sh.hd m ?_ | refine Sh.rsK [] m ?_ | refine CN_tt ?_ | refine CN_ff ?_ | refine GD_tt ?_ | refine GD_ff ?_ | refine GD_tf ?_ | refine GD_ft ?_ | refine CN_true (by first | omega | (simp; done) | (simp; omega)) ?_ | refine CN_false (by first | omega | (simp; done) | (simp; omega)) ?_ | refine GD_true (by first | omega | (simp; done) | (simp; omega)) ?_ | refine GD_true' (by first | omega | (simp; done) | (simp; omega)) ?_ | refine GD_false (by first | omega | (simp; done) | (simp; omega)) ?_ | refine GD_false' (by first | omega | (simp; done) | (simp; omega)) ?_ | refine Sh.crN m ?_ | refine Sh.cr1 m ?_ | refine Sh.svI m (by first | omega | decide) (by first | omega | (simp; done) | (simp; omega)) fun q_ _ hp_ => ?_ | refine Sh.hvI m (by first | omega | decide) (by first | omega | (simp; done) | (simp; omega)) fun q_ _ hp_ => ?_ | refine Sh.svF m fun q_ _ hp_ => ?_ | refine Sh.hvF m fun q_ _ hp_ => ?_))
        exact same 0 15 _ [] (by simp [oneOf, hF, k1, hlen]) (m.sub (by repeat (first | exact Frm.nil | (with_reducible exact Rem.dup) | (with_reducible exact Rem.here) | apply Frm.cons | apply Rem.there)))
      · (repeat (first | refine Sh.sv m ?_ | refine Sh.hv ?_ | (refine Sh.sw m ?_; clear m; intro g_ w m) | (refine Sh.su m ?_; clear m; intro w m) | (refine Sh.suN m ?_; clear m; intro w m) | (refine Sh.hr m ?_; clear m; intro m) | refine Sh.rsS m ?_ | refine Sh.hd m ?_ | refine Sh.rsK [] m ?_ | refine CN_tt ?_ | refine CN_ff ?_ | refine GD_tt ?_ | refine GD_ff ?_ | refine GD_tf ?_ | refine GD_ft ?_ | refine CN_true (by first | omega | (simp; done) | (simp; omega)) ?_ | refine CN_false (by first | omega | (simp; done) | (simp; omega)) ?_ | refine GD_true (by first | omega | (simp; done) | (simp; omega)) ?_ | refine GD_true' (by first | omega | (simp; done) | (simp; omega)) ?_ | refine GD_false (by first | omega | (simp; done) | (simp; omega)) ?_ | refine GD_false' (by first | omega | (simp; done) | (simp; omega)) ?_ | refine Sh.crN m ?_ | refine Sh.cr1 m ?_ | refine Sh.svI m (by first | omega | decide) (by first | omega | (simp; done) | (simp; omega)) fun q_ _ hp_ => ?_ | refine Sh.hvI m (by first | omega | decide) (by first | omega | (simp; done) | (simp; omega)) fun q_ _ hp_ => ?_ | refine Sh.svF m fun q_ _ hp_ => ?_ | refine Sh.hvF m fun q_ _ hp_ => ?_))
        refine n174 (m.call (ref_with (m.get (by repeat (first | exact Frm.nil | (with_reducible exact Rem.dup) | (with_reducible exact Rem.here) | apply Frm.cons | apply Rem.there))) hl) ?_); rintro r_ w ⟨g2, v2, rfl, m1⟩
        replace m := m.fr (by repeat (first | exact Frm.nil | (with_reducible exact Rem.dup) | (with_reducible exact Rem.here) | apply Frm.cons | apply Rem.there)) m1; simp only [List.cons_append, List.nil_append] at m
        (repeat (first | refine Sh.sv m ?_ | refine Sh.hv ?_ | (refine Sh.sw m ?_; clear m; intro g_ w m) | (refine Sh.su m ?_; clear m; intro w m) | (refine Sh.suN m ?_; clear m; intro w m) | (refine Sh.hr m ?_; clear m; intro m) | refine Sh.rsS m ?_ | refine Sh.hd m ?_ | refine Sh.rsK [] m ?_ | refine CN_tt ?_ | refine CN_ff ?_ | refine GD_tt ?_ | refine GD_ff ?_ | refine GD_tf ?_ | refine GD_ft ?_ | refine CN_true (by first | omega | (simp; done) | (simp; omega)) ?_ | refine CN_false (by first | omega | (simp; done) | (simp; omega)) ?_ | refine GD_true (by first | omega | (simp; done) | (simp; omega)) ?_ | refine GD_true' (by first | omega | (simp; done) | (simp; omega)) ?_ | refine GD_false (by first | omega | (simp; done) | (simp; omega)) ?_ | refine GD_false' (by first | omega | (simp; done) | (simp; omega)) ?_ | refine Sh.crN m ?_ | refine Sh.cr1 m ?_ | refine Sh.svI m (by first | omega | decide) (by first | omega | (simp; done) | (simp; omega)) fun q_ _ hp_ => ?_ | refine Sh.hvI m (by first | omega | decide) (by first | omega | (simp; done) | (simp; omega)) fun q_ _ hp_ => ?_ | refine Sh.svF m fun q_ _ hp_ => ?_ | refine Sh.hvF m fun q_ _ hp_ => ?_))
        have e : oneOf fs o = (withF o.name [] false fs, 0, 0) := by simp [oneOf, hF, k1, hlen]
        rw [e]
        exact ⟨g2, v2, rfl, m.sub (by repeat (first | exact Frm.nil | (with_reducible exact Rem.dup) | (with_reducible exact Rem.here) | apply Frm.cons | apply Rem.there))⟩
    · (repeat (first | refine Sh.sv m ?_ | refine Sh.hv ?_ | (refine Sh.sw m ?_; clear m; intro g_ w m) | (refine Sh.su m ?_; clear m; intro w m) | (refine Sh.suN m ?_; clear m; intro w m) | (refine Sh.hr m ?_; clear m; intro m) | refine Sh.rsS m ?_ | refine Sh.hd m ?_ | refine Sh.rsK [] m ?_ | refine CN_tt ?_ | refine CN_ff ?_ | refine GD_tt ?_ | refine GD_ff ?_ | refine GD_tf ?_ | refine GD_ft ?_ | refine CN_true (by first | omega | (simp; done) | (simp; omega)) ?_ | refine CN_false (by first | omega | (simp; done) | (simp; omega)) ?_ | refine GD_true (by first | omega | (simp; done) | (simp; omega)) ?_ | refine GD_true' (by first | omega | (simp; done) | (simp; omega)) ?_ | refine GD_false (by first | omega | (simp; done) | (simp; omega)) ?_ | refine GD_false' (by first | omega | (simp; done) | (simp; omega)) ?_ | refine Sh.crN m ?_ | refine Sh.cr1 m ?_ | refine Sh.svI m (by first | omega | decide) (by first | omega | (simp; done) | (simp; omega)) fun q_ _ hp_ => ?_ | refine Sh.hvI m (by first | omega | decide) (by first | omega | (simp; done) | (simp; omega)) fun q_ _ hp_ => ?_ | refine Sh.svF m fun q_ _ hp_ => ?_ | refine Sh.hvF m fun q_ _ hp_ => ?_))
      exact same 0 12 _ [] (by simp [oneOf, hF, k1]) (m.sub (by repeat (first | exact Frm.nil | (with_reducible exact Rem.dup) | (with_reducible exact Rem.here) | apply Frm.cons | apply Rem.there)))
  | some d =>
    obtain ⟨i, hi, e1, e2⟩ := idxF_some hF
    rw [e1]
    have hdl := hd fs[i] (List.getElem_mem hi)
    rw [e2] at hdl
    by_cases k1 : o.kind = 1
    · (repeat (first | refine Sh.sv m ?_ | refine Sh.hv ?_ | (refine Sh.sw m ?_; clear m; intro g_ w m) | (refine Sh.su m ?_; clear m; intro w m) | (refine Sh.suN m ?_; clear m; intro w m) | (refine Sh.hr m ?_; clear m; intro m) | refine Sh.rsS m ?_ | refine Sh.hd m ?_ | refine Sh.rsK [] m ?_ | refine CN_tt ?_ | refine CN_ff ?_ | refine GD_tt ?_ | refine GD_ff ?_ | refine GD_tf ?_ | refine GD_ft ?_ | refine CN_true (by first | omega | (simp; done) | (simp; omega)) ?_ | refine CN_false (by first | omega | (simp; done) | (simp; omega)) ?_ | refine GD_true (by first | omega | (simp; done) | (simp; omega)) ?_ | refine GD_true' (by first | omega | (simp; done) | (simp; omega)) ?_ | refine GD_false (by first | omega | (simp; done) | (simp; omega)) ?_ | refine GD_false' (by first | omega | (simp; done) | (simp; omega)) ?_ | refine Sh.crN m ?_ | refine Sh.cr1 m ?_ | refine Sh.svI m (by first | omega | decide) (by first | omega | (simp; done) | (simp; omega)) fun q_ _ hp_ => ?_ | refine Sh.hvI m (by first | omega | decide) (by first | omega | (simp; done) | (simp; omega)) fun q_ _ hp_ => ?_ | refine Sh.svF m fun q_ _ hp_ => ?_ | refine Sh.hvF m fun q_ _ hp_ => ?_))
      exact same 0 13 _ [] (by simp [oneOf, hF, k1]) (m.sub (by repeat (first | exact Frm.nil | (with_reducible exact Rem.dup) | (with_reducible exact Rem.here) | apply Frm.cons | apply Rem.there)))
    (repeat (first | refine Sh.sv m ?_ | refine Sh.hv ?_ | (refine Sh.sw m ?_; clear m; intro g_ w m) | (refine Sh.su m ?_; clear m; intro w m) | (refine Sh.suN m ?_; clear m; intro w m) | (refine Sh.hr m ?_; clear m; intro m) | refine Sh.rsS m ?_ | refine Sh.hd m ?_ | refine Sh.rsK [] m ?_ | refine CN_tt ?_ | refine CN_ff ?_ | refine GD_tt ?_ | refine GD_ff ?_ | refine GD_tf ?_ | refine GD_ft ?_ | refine CN_true (by first | omega | (simp; done) | (simp; omega)) ?_ | refine CN_false (by first | omega | (simp; done) | (simp; omega)) ?_ | refine GD_true (by first | omega | (simp; done) | (simp; omega)) ?_ | refine GD_true' (by first | omega | (simp; done) | (simp; omega)) ?_ | refine GD_false (by first | omega | (simp; done) | (simp; omega)) ?_ | refine GD_false' (by first | omega | (simp; done) | (simp; omega)) ?_ | refine Sh.crN m ?_ | refine Sh.cr1 m ?_ | refine Sh.svI m (by first | omega | decide) (by first | omega | (simp; done) | (simp; omega)) fun q_ _ hp_ => ?_ | refine Sh.hvI m (by first | omega | decide) (by first | omega | (simp; done) | (simp; omega)) fun q_ _ hp_ => ?_ | refine Sh.svF m fun q_ _ hp_ => ?_ | refine Sh.hvF m fun q_ _ hp_ => ?_))
    simp only [Int.toNat_natCast, e2]
    (repeat (first | refine Sh.sv m ?_ | refine Sh.hv ?_ | (refine Sh.sw m ?_; clear m; intro g_ w m) | (refine Sh.su m ?_; clear m; intro w m) | (refine Sh.suN m ?_; clear m; intro w m) | (refine Sh.hr m ?_; clear m; intro m) | refine Sh.rsS m ?_ | refine Sh.hd m ?_ | refine Sh.rsK [] m ?_ | refine CN_tt ?_ | refine CN_ff ?_ | refine GD_tt ?_ | refine GD_ff ?_ | refine GD_tf ?_ | refine GD_ft ?_ | refine CN_true (by first | omega | (simp; done) | (simp; omega)) ?_ | refine CN_false (by first | omega | (simp; done) | (simp; omega)) ?_ | refine GD_true (by first | omega | (simp; done) | (simp; omega)) ?_ | refine GD_true' (by first | omega | (simp; done) | (simp; omega)) ?_ | refine GD_false (by first | omega | (simp; done) | (simp; omega)) ?_ | refine GD_false' (by first | omega | (simp; done) | (simp; omega)) ?_ | refine Sh.crN m ?_ | refine Sh.cr1 m ?_ | refine Sh.svI m (by first | omega | decide) (by first | omega | (simp; done) | (simp; omega)) fun q_ _ hp_ => ?_ | refine Sh.hvI m (by first | omega | decide) (by first | omega | (simp; done) | (simp; omega)) fun q_ _ hp_ => ?_ | refine Sh.svF m fun q_ _ hp_ => ?_ | refine Sh.hvF m fun q_ _ hp_ => ?_))
    by_cases k2 : o.kind = 2
    · by_cases h0 : o.data = []
      · have : o.data = [] := h0
        (repeat (first | refine Sh.sv m ?_ | refine Sh.hv ?_ | (refine Sh.sw m ?_; clear m; intro g_ w m) | (refine Sh.su m ?_; clear m; intro w m) | (refine Sh.suN m ?_; clear m; intro w m) | (refine Sh.hr m ?_; clear m; intro m) | refine Sh.rsS m ?_ | refine Sh.hd m ?_ | refine Sh.rsK [] m ?_ | refine CN_tt ?_ | refine CN_ff ?_ | refine GD_tt ?_ | refine GD_ff ?_ | refine GD_tf ?_ | refine GD_ft ?_ | refine CN_true (by first | omega | (simp; done) | (simp; omega)) ?_ | refine CN_false (by first | omega | (simp; done) | (simp; omega)) ?_ | refine GD_true (by first | omega | (simp; done) | (simp; omega)) ?_ | refine GD_true' (by first | omega | (simp; done) | (simp; omega)) ?_ | refine GD_false (by first | omega | (simp; done) | (simp; omega)) ?_ | refine GD_false' (by first | omega | (simp; done) | (simp; omega)) ?_ | refine Sh.crN m ?_ | refine Sh.cr1 m ?_ | refine Sh.svI m (by first | omega | decide) (by first | omega | (simp; done) | (simp; omega)) fun q_ _ hp_ => ?_ | refine Sh.hvI m (by first | omega | decide) (by first | omega | (simp; done) | (simp; omega)) fun q_ _ hp_ => ?_ | refine Sh.svF m fun q_ _ hp_ => ?_ | refine Sh.hvF m fun q_ _ hp_ => ?_))
        exact same 0 0 _ [] (by simp [oneOf, hF, k2, h0]) (m.sub (by repeat (first | exact Frm.nil | (with_reducible exact Rem.dup) | (with_reducible exact Rem.here) | apply Frm.cons | apply Rem.there)))
      · (repeat (first | refine Sh.sv m ?_ | refine Sh.hv ?_ | (refine Sh.sw m ?_; clear m; intro g_ w m) | (refine Sh.su m ?_; clear m; intro w m) | (refine Sh.suN m ?_; clear m; intro w m) | (refine Sh.hr m ?_; clear m; intro m) | refine Sh.rsS m ?_ | refine Sh.hd m ?_ | refine Sh.rsK [] m ?_ | refine CN_tt ?_ | refine CN_ff ?_ | refine GD_tt ?_ | refine GD_ff ?_ | refine GD_tf ?_ | refine GD_ft ?_ | refine CN_true (by first | omega | (simp; done) | (simp; omega)) ?_ | refine CN_false (by first | omega | (simp; done) | (simp; omega)) ?_ | refine GD_true (by first | omega | (simp; done) | (simp; omega)) ?_ | refine GD_true' (by first | omega | (simp; done) | (simp; omega)) ?_ | refine GD_false (by first | omega | (simp; done) | (simp; omega)) ?_ | refine GD_false' (by first | omega | (simp; done) | (simp; omega)) ?_ | refine Sh.crN m ?_ | refine Sh.cr1 m ?_ | refine Sh.svI m (by first | omega | decide) (by first | omega | (simp; done) | (simp; omega)) fun q_ _ hp_ => ?_ | refine Sh.hvI m (by first | omega | decide) (by first | omega | (simp; done) | (simp; omega)) fun q_ _ hp_ => ?_ | refine Sh.svF m fun q_ _ hp_ => ?_ | refine Sh.hvF m fun q_ _ hp_ => ?_))
        have hn := needN_le (n := d.length + o.data.length) (by omega)
        (repeat (first | refine Sh.sv m ?_ | refine Sh.hv ?_ | (refine Sh.sw m ?_; clear m; intro g_ w m) | (refine Sh.su m ?_; clear m; intro w m) | (refine Sh.suN m ?_; clear m; intro w m) | (refine Sh.hr m ?_; clear m; intro m) | refine Sh.rsS m ?_ | refine Sh.hd m ?_ | refine Sh.rsK [] m ?_ | refine CN_tt ?_ | refine CN_ff ?_ | refine GD_tt ?_ | refine GD_ff ?_ | refine GD_tf ?_ | refine GD_ft ?_ | refine CN_true (by first | omega | (simp; done) | (simp; omega)) ?_ | refine CN_false (by first | omega | (simp; done) | (simp; omega)) ?_ | refine GD_true (by first | omega | (simp; done) | (simp; omega)) ?_ | refine GD_true' (by first | omega | (simp; done) | (simp; omega)) ?_ | refine GD_false (by first | omega | (simp; done) | (simp; omega)) ?_ | refine GD_false' (by first | omega | (simp; done) | (simp; omega)) ?_ | refine Sh.crN m ?_ | refine Sh.cr1 m ?_ | refine Sh.svI m (by first | omega | decide) (by first | omega | (simp; done) | (simp; omega)) fun q_ _ hp_ => ?_ | refine Sh.hvI m (by first | omega | decide) (by first | omega | (simp; done) | (simp; omega)) fun q_ _ hp_ => ?_ | refine Sh.svF m fun q_ _ hp_ => ?_ | refine Sh.hvF m fun q_ _ hp_ => ?_))
        refine n174 (m.call (ref_with (m.get (by repeat (first | exact Frm.nil | (with_reducible exact Rem.dup) | (with_reducible exact Rem.here) | apply Frm.cons | apply Rem.there))) hl) ?_); rintro r_ w ⟨g2, v2, rfl, m1⟩
        replace m := m.fr (by repeat (first | exact Frm.nil | (with_reducible exact Rem.dup) | (with_reducible exact Rem.here) | apply Frm.cons | apply Rem.there)) m1; simp only [List.cons_append, List.nil_append] at m
        (repeat (first | refine Sh.sv m ?_ | refine Sh.hv ?_ | (refine Sh.sw m ?_; clear m; intro g_ w m) | (refine Sh.su m ?_; clear m; intro w m) | (refine Sh.suN m ?_; clear m; intro w m) | (refine Sh.hr m ?_; clear m; intro m) | refine Sh.rsS m ?_ | refine Sh.hd m ?_ | refine Sh.rsK [] m ?_ | refine CN_tt ?_ | refine CN_ff ?_ | refine GD_tt ?_ | refine GD_ff ?_ | refine GD_tf ?_ | refine GD_ft ?_ | refine CN_true (by first | omega | (simp; done) | (simp; omega)) ?_ | refine CN_false (by first | omega | (simp; done) | (simp; omega)) ?_ | refine GD_true (by first | omega | (simp; done) | (simp; omega)) ?_ | refine GD_true' (by first | omega | (simp; done) | (simp; omega)) ?_ | refine GD_false (by first | omega | (simp; done) | (simp; omega)) ?_ | refine GD_false' (by first | omega | (simp; done) | (simp; omega)) ?_ | refine Sh.crN m ?_ | refine Sh.cr1 m ?_ | refine Sh.svI m (by first | omega | decide) (by first | omega | (simp; done) | (simp; omega)) fun q_ _ hp_ => ?_ | refine Sh.hvI m (by first | omega | decide) (by first | omega | (simp; done) | (simp; omega)) fun q_ _ hp_ => ?_ | refine Sh.svF m fun q_ _ hp_ => ?_ | refine Sh.hvF m fun q_ _ hp_ => ?_))
        rw [show ((d.length : Int) + (o.data.length : Int)) = ((d.length + o.data.length : Nat) : Int) by omega]
        refine n175 (m.ret (ref_need _ (by omega) _) ?_); clear m; intro w m
        (repeat (first | refine Sh.sv m ?_ | refine Sh.hv ?_ | (refine Sh.sw m ?_; clear m; intro g_ w m) | (refine Sh.su m ?_; clear m; intro w m) | (refine Sh.suN m ?_; clear m; intro w m) | (refine Sh.hr m ?_; clear m; intro m) | refine Sh.rsS m ?_ | refine Sh.hd m ?_ | refine Sh.rsK [] m ?_ | refine CN_tt ?_ | refine CN_ff ?_ | refine GD_tt ?_ | refine GD_ff ?_ | refine GD_tf ?_ | refine GD_ft ?_ | refine CN_true (by first | omega | (simp; done) | (simp; omega)) ?_ | refine CN_false (by first | omega | (simp; done) | (simp; omega)) ?_ | refine GD_true (by first | omega | (simp; done) | (simp; omega)) ?_ | refine GD_true' (by first | omega | (simp; done) | (simp; omega)) ?_ | refine GD_false (by first | omega | (simp; done) | (simp; omega)) ?_ | refine GD_false' (by first | omega | (simp; done) | (simp; omega)) ?_ | refine Sh.crN m ?_ | refine Sh.cr1 m ?_ | refine Sh.svI m (by first | omega | decide) (by first | omega | (simp; done) | (simp; omega)) fun q_ _ hp_ => ?_ | refine Sh.hvI m (by first | omega | decide) (by first | omega | (simp; done) | (simp; omega)) fun q_ _ hp_ => ?_ | refine Sh.svF m fun q_ _ hp_ => ?_ | refine Sh.hvF m fun q_ _ hp_ => ?_))
        have e : oneOf fs o = (withF o.name (d ++ o.data) false fs, (needN (d.length + o.data.length) : Int) - ((d.length / 256 : Nat) : Int), 0) := by simp [oneOf, hF, k2, h0]
        rw [e]
        exact ⟨g2, v2, by simp, m.sub (by repeat (first | exact Frm.nil | (with_reducible exact Rem.dup) | (with_reducible exact Rem.here) | apply Frm.cons | apply Rem.there))⟩
    by_cases k3 : o.kind = 3
    · by_cases hn : o.n < 0
      · (repeat (first | refine Sh.sv m ?_ | refine Sh.hv ?_ | (refine Sh.sw m ?_; clear m; intro g_ w m) | (refine Sh.su m ?_; clear m; intro w m) | (refine Sh.suN m ?_; clear m; intro w m) | (refine Sh.hr m ?_; clear m; intro m) | refine Sh.rsS m ?_ | refine Sh.hd m ?_ | refine Sh.rsK [] m ?_ | refine CN_tt ?_ | refine CN_ff ?_ | refine GD_tt ?_ | refine GD_ff ?_ | refine GD_tf ?_ | refine GD_ft ?_ | refine CN_true (by first | omega | (simp; done) | (simp; omega)) ?_ | refine CN_false (by first | omega | (simp; done) | (simp; omega)) ?_ | refine GD_true (by first | omega | (simp; done) | (simp; omega)) ?_ | refine GD_true' (by first | omega | (simp; done) | (simp; omega)) ?_ | refine GD_false (by first | omega | (simp; done) | (simp; omega)) ?_ | refine GD_false' (by first | omega | (simp; done) | (simp; omega)) ?_ | refine Sh.crN m ?_ | refine Sh.cr1 m ?_ | refine Sh.svI m (by first | omega | decide) (by first | omega | (simp; done) | (simp; omega)) fun q_ _ hp_ => ?_ | refine Sh.hvI m (by first | omega | decide) (by first | omega | (simp; done) | (simp; omega)) fun q_ _ hp_ => ?_ | refine Sh.svF m fun q_ _ hp_ => ?_ | refine Sh.hvF m fun q_ _ hp_ => ?_))
        exact same 0 1 _ [] (by simp [oneOf, hF, k3, hn]) (m.sub (by repeat (first | exact Frm.nil | (with_reducible exact Rem.dup) | (with_reducible exact Rem.here) | apply Frm.cons | apply Rem.there)))
      · by_cases hn2 : (d.length : Int) < o.n
        · (repeat (first | refine Sh.sv m ?_ | refine Sh.hv ?_ | (refine Sh.sw m ?_; clear m; intro g_ w m) | (refine Sh.su m ?_; clear m; intro w m) | (refine Sh.suN m ?_; clear m; intro w m) | (refine Sh.hr m ?_; clear m; intro m) | refine Sh.rsS m ?_ | refine Sh.hd m ?_ | refine Sh.rsK [] m ?_ | refine CN_tt ?_ | refine CN_ff ?_ | refine GD_tt ?_ | refine GD_ff ?_ | refine GD_tf ?_ | refine GD_ft ?_ | refine CN_true (by first | omega | (simp; done) | (simp; omega)) ?_ | refine CN_false (by first | omega | (simp; done) | (simp; omega)) ?_ | refine GD_true (by first | omega | (simp; done) | (simp; omega)) ?_ | refine GD_true' (by first | omega | (simp; done) | (simp; omega)) ?_ | refine GD_false (by first | omega | (simp; done) | (simp; omega)) ?_ | refine GD_false' (by first | omega | (simp; done) | (simp; omega)) ?_ | refine Sh.crN m ?_ | refine Sh.cr1 m ?_ | refine Sh.svI m (by first | omega | decide) (by first | omega | (simp; done) | (simp; omega)) fun q_ _ hp_ => ?_ | refine Sh.hvI m (by first | omega | decide) (by first | omega | (simp; done) | (simp; omega)) fun q_ _ hp_ => ?_ | refine Sh.svF m fun q_ _ hp_ => ?_ | refine Sh.hvF m fun q_ _ hp_ => ?_))
          exact same 0 1 _ [] (by simp [oneOf, hF, k3, hn2]) (m.sub (by repeat (first | exact Frm.nil | (with_reducible exact Rem.dup) | (with_reducible exact Rem.here) | apply Frm.cons | apply Rem.there)))
        · by_cases hn3 : o.n = d.length
          · (repeat (first | refine Sh.sv m ?_ | refine Sh.hv ?_ | (refine Sh.sw m ?_; clear m; intro g_ w m) | (refine Sh.su m ?_; clear m; intro w m) | (refine Sh.suN m ?_; clear m; intro w m) | (refine Sh.hr m ?_; clear m; intro m) | refine Sh.rsS m ?_ | refine Sh.hd m ?_ | refine Sh.rsK [] m ?_ | refine CN_tt ?_ | refine CN_ff ?_ | refine GD_tt ?_ | refine GD_ff ?_ | refine GD_tf ?_ | refine GD_ft ?_ | refine CN_true (by first | omega | (simp; done) | (simp; omega)) ?_ | refine CN_false (by first | omega | (simp; done) | (simp; omega)) ?_ | refine GD_true (by first | omega | (simp; done) | (simp; omega)) ?_ | refine GD_true' (by first | omega | (simp; done) | (simp; omega)) ?_ | refine GD_false (by first | omega | (simp; done) | (simp; omega)) ?_ | refine GD_false' (by first | omega | (simp; done) | (simp; omega)) ?_ | refine Sh.crN m ?_ | refine Sh.cr1 m ?_ | refine Sh.svI m (by first | omega | decide) (by first | omega | (simp; done) | (simp; omega)) fun q_ _ hp_ => ?_ | refine Sh.hvI m (by first | omega | decide) (by first | omega | (simp; done) | (simp; omega)) fun q_ _ hp_ => ?_ | refine Sh.svF m fun q_ _ hp_ => ?_ | refine Sh.hvF m fun q_ _ hp_ => ?_))
            exact same 0 0 _ [] (by simp [oneOf, hF, k3, hn3]) (m.sub (by repeat (first | exact Frm.nil | (with_reducible exact Rem.dup) | (with_reducible exact Rem.here) | apply Frm.cons | apply Rem.there)))
          · have hnn := needN_le (n := d.length) (by omega)
            (repeat (first | refine Sh.sv m ?_ | refine Sh.hv ?_ | (refine Sh.sw m ?_; clear m; intro g_ w m) | (refine Sh.su m ?_; clear m; intro w m) | (refine Sh.suN m ?_; clear m; intro w m) | (refine Sh.hr m ?_; clear m; intro m) | refine Sh.rsS m ?_ | refine Sh.hd m ?_ | refine Sh.rsK [] m ?_ | refine CN_tt ?_ | refine CN_ff ?_ | refine GD_tt ?_ | refine GD_ff ?_ | refine GD_tf ?_ | refine GD_ft ?_ | refine CN_true (by first | omega | (simp; done) | (simp; omega)) ?_ | refine CN_false (by first | omega | (simp; done) | (simp; omega)) ?_ | refine GD_true (by first | omega | (simp; done) | (simp; omega)) ?_ | refine GD_true' (by first | omega | (simp; done) | (simp; omega)) ?_ | refine GD_false (by first | omega | (simp; done) | (simp; omega)) ?_ | refine GD_false' (by first | omega | (simp; done) | (simp; omega)) ?_ | refine Sh.crN m ?_ | refine Sh.cr1 m ?_ | refine Sh.svI m (by first | omega | decide) (by first | omega | (simp; done) | (simp; omega)) fun q_ _ hp_ => ?_ | refine Sh.hvI m (by first | omega | decide) (by first | omega | (simp; done) | (simp; omega)) fun q_ _ hp_ => ?_ | refine Sh.svF m fun q_ _ hp_ => ?_ | refine Sh.hvF m fun q_ _ hp_ => ?_))
            refine n174 (m.call (ref_with (m.get (by repeat (first | exact Frm.nil | (with_reducible exact Rem.dup) | (with_reducible exact Rem.here) | apply Frm.cons | apply Rem.there))) hl) ?_); rintro r_ w ⟨g2, v2, rfl, m1⟩
            replace m := m.fr (by repeat (first | exact Frm.nil | (with_reducible exact Rem.dup) | (with_reducible exact Rem.here) | apply Frm.cons | apply Rem.there)) m1; simp only [List.cons_append, List.nil_append] at m
            (repeat (first | refine Sh.sv m ?_ | refine Sh.hv ?_ | (refine Sh.sw m ?_; clear m; intro g_ w m) | (refine Sh.su m ?_; clear m; intro w m) | (refine Sh.suN m ?_; clear m; intro w m) | (refine Sh.hr m ?_; clear m; intro m) | refine Sh.rsS m ?_ | refine Sh.hd m ?_ | refine Sh.rsK [] m ?_ | refine CN_tt ?_ | refine CN_ff ?_ | refine GD_tt ?_ | refine GD_ff ?_ | refine GD_tf ?_ | refine GD_ft ?_ | refine CN_true (by first | omega | (simp; done) | (simp; omega)) ?_ | refine CN_false (by first | omega | (simp; done) | (simp; omega)) ?_ | refine GD_true (by first | omega | (simp; done) | (simp; omega)) ?_ | refine GD_true' (by first | omega | (simp; done) | (simp; omega)) ?_ | refine GD_false (by first | omega | (simp; done) | (simp; omega)) ?_ | refine GD_false' (by first | omega | (simp; done) | (simp; omega)) ?_ | refine Sh.crN m ?_ | refine Sh.cr1 m ?_ | refine Sh.svI m (by first | omega | decide) (by first | omega | (simp; done) | (simp; omega)) fun q_ _ hp_ => ?_ | refine Sh.hvI m (by first | omega | decide) (by first | omega | (simp; done) | (simp; omega)) fun q_ _ hp_ => ?_ | refine Sh.svF m fun q_ _ hp_ => ?_ | refine Sh.hvF m fun q_ _ hp_ => ?_))
            refine n175 (m.ret (ref_need _ (by omega) _) ?_); clear m; intro w m
            (repeat (first | refine Sh.sv m ?_ | refine Sh.hv ?_ | (refine Sh.sw m ?_; clear m; intro g_ w m) | (refine Sh.su m ?_; clear m; intro w m) | (refine Sh.suN m ?_; clear m; intro w m) | (refine Sh.hr m ?_; clear m; intro m) | refine Sh.rsS m ?_ | refine Sh.hd m ?_ | refine Sh.rsK [] m ?_ | refine CN_tt ?_ | refine CN_ff ?_ | refine GD_tt ?_ | refine GD_ff ?_ | refine GD_tf ?_ | refine GD_ft ?_ | refine CN_true (by first | omega | (simp; done) | (simp; omega)) ?_ | refine CN_false (by first | omega | (simp; done) | (simp; omega)) ?_ | refine GD_true (by first | omega | (simp; done) | (simp; omega)) ?_ | refine GD_true' (by first | omega | (simp; done) | (simp; omega)) ?_ | refine GD_false (by first | omega | (simp; done) | (simp; omega)) ?_ | refine GD_false' (by first | omega | (simp; done) | (simp; omega)) ?_ | refine Sh.crN m ?_ | refine Sh.cr1 m ?_ | refine Sh.svI m (by first | omega | decide) (by first | omega | (simp; done) | (simp; omega)) fun q_ _ hp_ => ?_ | refine Sh.hvI m (by first | omega | decide) (by first | omega | (simp; done) | (simp; omega)) fun q_ _ hp_ => ?_ | refine Sh.svF m fun q_ _ hp_ => ?_ | refine Sh.hvF m fun q_ _ hp_ => ?_))
            have e : oneOf fs o = (withF o.name (d.take o.n.toNat) false fs, (needN d.length : Int) - ((o.n.toNat / 256 : Nat) : Int), 0) := by simp [oneOf, hF, k3, hn, hn2, hn3]
            rw [e]
            exact ⟨g2, v2, by rw [show o.n / 256 = ((o.n.toNat / 256 : Nat) : Int) by omega], m.sub (by repeat (first | exact Frm.nil | (with_reducible exact Rem.dup) | (with_reducible exact Rem.here) | apply Frm.cons | apply Rem.there))⟩
    by_cases k4 : o.kind = 4
    · by_cases h0 : 0 < d.length
      · (repeat (first | refine Sh.sv m ?_ | refine Sh.hv ?_ | (refine Sh.sw m ?_; clear m; intro g_ w m) | (refine Sh.su m ?_; clear m; intro w m) | (refine Sh.suN m ?_; clear m; intro w m) | (refine Sh.hr m ?_; clear m; intro m) | refine Sh.rsS m ?_ | refine Sh.hd m ?_ | refine Sh.rsK [] m ?_ | refine CN_tt ?_ | refine CN_ff ?_ | refine GD_tt ?_ | refine GD_ff ?_ | refine GD_tf ?_ | refine GD_ft ?_ | refine CN_true (by first | omega | (simp; done) | (simp; omega)) ?_ | refine CN_false (by first | omega | (simp; done) | (simp; omega)) ?_ | refine GD_true (by first | omega | (simp; done) | (simp; omega)) ?_ | refine GD_true' (by first | omega | (simp; done) | (simp; omega)) ?_ | refine GD_false (by first | omega | (simp; done) | (simp; omega)) ?_ | refine GD_false' (by first | omega | (simp; done) | (simp; omega)) ?_ | refine Sh.crN m ?_ | refine Sh.cr1 m ?_ | refine Sh.svI m (by first | omega | decide) (by first | omega | (simp; done) | (simp; omega)) fun q_ _ hp_ => ?_ | refine Sh.hvI m (by first | omega | decide) (by first | omega | (simp; done) | (simp; omega)) fun q_ _ hp_ => ?_ | refine Sh.svF m fun q_ _ hp_ => ?_ | refine Sh.hvF m fun q_ _ hp_ => ?_))
        exact same 0 13 _ [] (by simp [oneOf, hF, k4, h0]) (m.sub (by repeat (first | exact Frm.nil | (with_reducible exact Rem.dup) | (with_reducible exact Rem.here) | apply Frm.cons | apply Rem.there)))
      · (repeat (first | refine Sh.sv m ?_ | refine Sh.hv ?_ | (refine Sh.sw m ?_; clear m; intro g_ w m) | (refine Sh.su m ?_; clear m; intro w m) | (refine Sh.suN m ?_; clear m; intro w m) | (refine Sh.hr m ?_; clear m; intro m) | refine Sh.rsS m ?_ | refine Sh.hd m ?_ | refine Sh.rsK [] m ?_ | refine CN_tt ?_ | refine CN_ff ?_ | refine GD_tt ?_ | refine GD_ff ?_ | refine GD_tf ?_ | refine GD_ft ?_ | refine CN_true (by first | omega | (simp; done) | (simp; omega)) ?_ | refine CN_false (by first | omega | (simp; done) | (simp; omega)) ?_ | refine GD_true (by first | omega | (simp; done) | (simp; omega)) ?_ | refine GD_true' (by first | omega | (simp; done) | (simp; omega)) ?_ | refine GD_false (by first | omega | (simp; done) | (simp; omega)) ?_ | refine GD_false' (by first | omega | (simp; done) | (simp; omega)) ?_ | refine Sh.crN m ?_ | refine Sh.cr1 m ?_ | refine Sh.svI m (by first | omega | decide) (by first | omega | (simp; done) | (simp; omega)) fun q_ _ hp_ => ?_ | refine Sh.hvI m (by first | omega | decide) (by first | omega | (simp; done) | (simp; omega)) fun q_ _ hp_ => ?_ | refine Sh.svF m fun q_ _ hp_ => ?_ | refine Sh.hvF m fun q_ _ hp_ => ?_))
        refine n174 (m.call (ref_with (m.get (by repeat (first | exact Frm.nil | (with_reducible exact Rem.dup) | (with_reducible exact Rem.here) | apply Frm.cons | apply Rem.there))) hl) ?_); rintro r_ w ⟨g2, v2, rfl, m1⟩
        replace m := m.fr (by repeat (first | exact Frm.nil | (with_reducible exact Rem.dup) | (with_reducible exact Rem.here) | apply Frm.cons | apply Rem.there)) m1; simp only [List.cons_append, List.nil_append] at m
        (repeat (first | refine Sh.sv m ?_ | refine Sh.hv ?_ | (refine Sh.sw m ?_; clear m; intro g_ w m) | (refine Sh.su m ?_; clear m; intro w m) | (refine Sh.suN m ?_; clear m; intro w m) | (refine Sh.hr m ?_; clear m; intro m) | refine Sh.rsS m ?_ | refine Sh.hd m ?_ | refine Sh.rsK [] m ?_ | refine CN_tt ?_ | refine CN_ff ?_ | refine GD_tt ?_ | refine GD_ff ?_ | refine GD_tf ?_ | refine GD_ft ?_ | refine CN_true (by first | omega | (simp; done) | (simp; omega)) ?_ | refine CN_false (by first | omega | (simp; done) | (simp; omega)) ?_ | refine GD_true (by first | omega | (simp; done) | (simp; omega)) ?_ | refine GD_true' (by first | omega | (simp; done) | (simp; omega)) ?_ | refine GD_false (by first | omega | (simp; done) | (simp; omega)) ?_ | refine GD_false' (by first | omega | (simp; done) | (simp; omega)) ?_ | refine Sh.crN m ?_ | refine Sh.cr1 m ?_ | refine Sh.svI m (by first | omega | decide) (by first | omega | (simp; done) | (simp; omega)) fun q_ _ hp_ => ?_ | refine Sh.hvI m (by first | omega | decide) (by first | omega | (simp; done) | (simp; omega)) fun q_ _ hp_ => ?_ | refine Sh.svF m fun q_ _ hp_ => ?_ | refine Sh.hvF m fun q_ _ hp_ => ?_))
        have e : oneOf fs o = (withF o.name [] true fs, 0, 0) := by simp [oneOf, hF, k4, h0]
        rw [e]
        exact ⟨g2, v2, rfl, m.sub (by repeat (first | exact Frm.nil | (with_reducible exact Rem.dup) | (with_reducible exact Rem.here) | apply Frm.cons | apply Rem.there))⟩
    · (repeat (first | refine Sh.sv m ?_ | refine Sh.hv ?_ | (refine Sh.sw m ?_; clear m; intro g_ w m) | (refine Sh.su m ?_; clear m; intro w m) | (refine Sh.suN m ?_; clear m; intro w m) | (refine Sh.hr m ?_; clear m; intro m) | refine Sh.rsS m ?_ | refine Sh.hd m ?_ | refine Sh.rsK [] m ?_ | refine CN_tt ?_ | refine CN_ff ?_ | refine GD_tt ?_ | refine GD_ff ?_ | refine GD_tf ?_ | refine GD_ft ?_ | refine CN_true (by first | omega | (simp; done) | (simp; omega)) ?_ | refine CN_false (by first | omega | (simp; done) | (simp; omega)) ?_ | refine GD_true (by first | omega | (simp; done) | (simp; omega)) ?_ | refine GD_true' (by first | omega | (simp; done) | (simp; omega)) ?_ | refine GD_false (by first | omega | (simp; done) | (simp; omega)) ?_ | refine GD_false' (by first | omega | (simp; done) | (simp; omega)) ?_ | refine Sh.crN m ?_ | refine Sh.cr1 m ?_ | refine Sh.svI m (by first | omega | decide) (by first | omega | (simp; done) | (simp; omega)) fun q_ _ hp_ => ?_ | refine Sh.hvI m (by first | omega | decide) (by first | omega | (simp; done) | (simp; omega)) fun q_ _ hp_ => ?_ | refine Sh.svF m fun q_ _ hp_ => ?_ | refine Sh.hvF m fun q_ _ hp_ => ?_))
      refine n175 (m.ret (ref_need _ (by omega) _) ?_); clear m; intro w m
      have e : oneOf fs o = (withF o.name o.data false fs, ((max (needN d.length) (needN o.data.length) : Nat) : Int), 0) := by simp [oneOf, hF, k1, k2, k3, k4]
      rw [e]
      refine JP_in ?_
      have hnd := needN_le (n := d.length) (by omega)
      have hno := needN_le (n := o.data.length) (by omega)
      have fin : ∀ w, St w0 [rk g 63 [.int .i64 room, v], sl eRF v fs] w [bk g_ 150 o.cells, rk g 63 [.int .i64 room, v], sl eRF v fs] →
          s99_j1 Tryz.prog (fun r w' => ∃ g' v', r = .tuple #[.pointer (some ⟨g', 0, none⟩), .int .i64 ((max (needN d.length) (needN o.data.length) : Nat) : Int), .int .i64 0] ∧
            St w0 [rk g 63 [.int .i64 room, v], sl eRF v fs] w' [rk g' 63 [.int .i64 room, v'], sl eRF v' (withF o.name o.data false fs)])
            (.pointer (some ⟨g, 0, none⟩)) (.pointer (some ⟨g_, 0, none⟩)) (.int .i64 ((max (needN d.length) (needN o.data.length) : Nat) : Int)) w := by
        intro w m
        unfold s99_j1
        (repeat (first | refine Sh.sv m ?_ | refine Sh.hv ?_ | (refine Sh.sw m ?_; clear m; intro g_ w m) | (refine Sh.su m ?_; clear m; intro w m) | (refine Sh.suN m ?_; clear m; intro w m) | (refine Sh.hr m ?_; clear m; intro m) | refine Sh.rsS m ?_ | refine Sh.hd m ?_ | refine Sh.rsK [] m ?_ | refine CN_tt ?_ | refine CN_ff ?_ | refine GD_tt ?_ | refine GD_ff ?_ | refine GD_tf ?_ | refine GD_ft ?_ | refine CN_true (by first | omega | (simp; done) | (simp; omega)) ?_ | refine CN_false (by first | omega | (simp; done) | (simp; omega)) ?_ | refine GD_true (by first | omega | (simp; done) | (simp; omega)) ?_ | refine GD_true' (by first | omega | (simp; done) | (simp; omega)) ?_ | refine GD_false (by first | omega | (simp; done) | (simp; omega)) ?_ | refine GD_false' (by first | omega | (simp; done) | (simp; omega)) ?_ | refine Sh.crN m ?_ | refine Sh.cr1 m ?_ | refine Sh.svI m (by first | omega | decide) (by first | omega | (simp; done) | (simp; omega)) fun q_ _ hp_ => ?_ | refine Sh.hvI m (by first | omega | decide) (by first | omega | (simp; done) | (simp; omega)) fun q_ _ hp_ => ?_ | refine Sh.svF m fun q_ _ hp_ => ?_ | refine Sh.hvF m fun q_ _ hp_ => ?_))
        refine n174 (m.call (ref_with (m.get (by repeat (first | exact Frm.nil | (with_reducible exact Rem.dup) | (with_reducible exact Rem.here) | apply Frm.cons | apply Rem.there))) hl) ?_); rintro r_ w ⟨g2, v2, rfl, m1⟩
        replace m := m.fr (by repeat (first | exact Frm.nil | (with_reducible exact Rem.dup) | (with_reducible exact Rem.here) | apply Frm.cons | apply Rem.there)) m1; simp only [List.cons_append, List.nil_append] at m
        (repeat (first | refine Sh.sv m ?_ | refine Sh.hv ?_ | (refine Sh.sw m ?_; clear m; intro g_ w m) | (refine Sh.su m ?_; clear m; intro w m) | (refine Sh.suN m ?_; clear m; intro w m) | (refine Sh.hr m ?_; clear m; intro m) | refine Sh.rsS m ?_ | refine Sh.hd m ?_ | refine Sh.rsK [] m ?_ | refine CN_tt ?_ | refine CN_ff ?_ | refine GD_tt ?_ | refine GD_ff ?_ | refine GD_tf ?_ | refine GD_ft ?_ | refine CN_true (by first | omega | (simp; done) | (simp; omega)) ?_ | refine CN_false (by first | omega | (simp; done) | (simp; omega)) ?_ | refine GD_true (by first | omega | (simp; done) | (simp; omega)) ?_ | refine GD_true' (by first | omega | (simp; done) | (simp; omega)) ?_ | refine GD_false (by first | omega | (simp; done) | (simp; omega)) ?_ | refine GD_false' (by first | omega | (simp; done) | (simp; omega)) ?_ | refine Sh.crN m ?_ | refine Sh.cr1 m ?_ | refine Sh.svI m (by first | omega | decide) (by first | omega | (simp; done) | (simp; omega)) fun q_ _ hp_ => ?_ | refine Sh.hvI m (by first | omega | decide) (by first | omega | (simp; done) | (simp; omega)) fun q_ _ hp_ => ?_ | refine Sh.svF m fun q_ _ hp_ => ?_ | refine Sh.hvF m fun q_ _ hp_ => ?_))
        exact ⟨g2, v2, rfl, m.sub (by repeat (first | exact Frm.nil | (with_reducible exact Rem.dup) | (with_reducible exact Rem.here) | apply Frm.cons | apply Rem.there))⟩
      (repeat (first | refine Sh.sv m ?_ | refine Sh.hv ?_ | (refine Sh.sw m ?_; clear m; intro g_ w m) | (refine Sh.su m ?_; clear m; intro w m) | (refine Sh.suN m ?_; clear m; intro w m) | (refine Sh.hr m ?_; clear m; intro m) | refine Sh.rsS m ?_ | refine Sh.hd m ?_ | refine Sh.rsK [] m ?_ | refine CN_tt ?_ | refine CN_ff ?_ | refine GD_tt ?_ | refine GD_ff ?_ | refine GD_tf ?_ | refine GD_ft ?_ | refine CN_true (by first | omega | (simp; done) | (simp; omega)) ?_ | refine CN_false (by first | omega | (simp; done) | (simp; omega)) ?_ | refine GD_true (by first | omega | (simp; done) | (simp; omega)) ?_ | refine GD_true' (by first | omega | (simp; done) | (simp; omega)) ?_ | refine GD_false (by first | omega | (simp; done) | (simp; omega)) ?_ | refine GD_false' (by first | omega | (simp; done) | (simp; omega)) ?_ | refine Sh.crN m ?_ | refine Sh.cr1 m ?_ | refine Sh.svI m (by first | omega | decide) (by first | omega | (simp; done) | (simp; omega)) fun q_ _ hp_ => ?_ | refine Sh.hvI m (by first | omega | decide) (by first | omega | (simp; done) | (simp; omega)) fun q_ _ hp_ => ?_ | refine Sh.svF m fun q_ _ hp_ => ?_ | refine Sh.hvF m fun q_ _ hp_ => ?_))
      refine n175 (m.ret (ref_need _ (by omega) _) ?_); clear m; intro w m
      refine Sh.sv m ?_
      refine CN_split (fun h1 => ?_) (fun h1 => ?_)
      · (repeat (first | refine Sh.sv m ?_ | refine Sh.hv ?_ | (refine Sh.sw m ?_; clear m; intro g_ w m) | (refine Sh.su m ?_; clear m; intro w m) | (refine Sh.suN m ?_; clear m; intro w m) | (refine Sh.hr m ?_; clear m; intro m) | refine Sh.rsS m ?_ | refine Sh.hd m ?_ | refine Sh.rsK [] m ?_ | refine CN_tt ?_ | refine CN_ff ?_ | refine GD_tt ?_ | refine GD_ff ?_ | refine GD_tf ?_ | refine GD_ft ?_ | refine CN_true (by first | omega | (simp; done) | (simp; omega)) ?_ | refine CN_false (by first | omega | (simp; done) | (simp; omega)) ?_ | refine GD_true (by first | omega | (simp; done) | (simp; omega)) ?_ | refine GD_true' (by first | omega | (simp; done) | (simp; omega)) ?_ | refine GD_false (by first | omega | (simp; done) | (simp; omega)) ?_ | refine GD_false' (by first | omega | (simp; done) | (simp; omega)) ?_ | refine Sh.crN m ?_ | refine Sh.cr1 m ?_ | refine Sh.svI m (by first | omega | decide) (by first | omega | (simp; done) | (simp; omega)) fun q_ _ hp_ => ?_ | refine Sh.hvI m (by first | omega | decide) (by first | omega | (simp; done) | (simp; omega)) fun q_ _ hp_ => ?_ | refine Sh.svF m fun q_ _ hp_ => ?_ | refine Sh.hvF m fun q_ _ hp_ => ?_))
        refine n175 (m.ret (ref_need _ (by omega) _) ?_); clear m; intro w m
        refine ⟨rfl, fun _ => ?_⟩
        have em : max (needN d.length) (needN o.data.length) = needN o.data.length := by omega
        rw [em] at fin
        simp only [em]
        exact fin _ m
      · refine ⟨rfl, fun _ => ?_⟩
        have em : max (needN d.length) (needN o.data.length) = needN d.length := by omega
        rw [em] at fin
        simp only [em]
        exact fin _ m

theorem ref_do {ov : Value} {ops : List FileOp} {fin : List File} (h : Mem w0 [rk g 63 [.int .i64 room, v], sl eRF v fs, sl eOp ov ops]) (hr : 0 ≤ room ∧ room ≤ 1000000) (hops : ops.length ≤ 1000000)
    (hgo : Runs room ops fs 0 fin) :
    Calls Tryz.prog 33 #[.pointer (some ⟨g, 0, none⟩), ov] w0 (retP fun r w' => ∃ g' v', r = .tuple #[.pointer (some ⟨g', 0, none⟩), .int .i64 0] ∧
      St w0 [rk g 63 [.int .i64 room, v], sl eRF v fs, sl eOp ov ops] w' [rk g' 63 [.int .i64 room, v'], sl eRF v' fin]) := by
  have m := St.start h
  refine c33 ?_
  unfold s33
  refine LP_intro (fun us w => ∃ (T : Int) (i g' : Nat) (v' : Value) (cur : List File), us = [.int .i64 T, .pointer (some ⟨g', 0, none⟩), .int .i64 i] ∧ i ≤ ops.length ∧ 0 ≤ T ∧ T ≤ 40 ∧ Runs room (ops.drop i) cur T fin ∧
      St w0 [rk g 63 [.int .i64 room, v], sl eRF v fs, sl eOp ov ops] w [rk g' 63 [.int .i64 room, v'], sl eRF v' cur, sl eOp ov ops])
    (fun us _ => match us with | [_, _, .int _ t] => ops.length - t.toNat | _ => 0) (by exact ⟨0, 0, g, v, fs, rfl, Nat.zero_le _, by omega, by omega, hgo, m.sub (by repeat (first | exact Frm.nil | (with_reducible exact Rem.dup) | (with_reducible exact Rem.here) | apply Frm.cons | apply Rem.there))⟩) ?_
  clear m
  rintro us hus ζ w ⟨T, i, g', v', cur, rfl, hi, hT0, hT, hgo, m⟩
  unfold s33_l1
  simp only [List.getD_cons_zero, List.getD_cons_succ]
  by_cases hlt : i < ops.length
  · rw [List.drop_eq_getElem_cons hlt] at hgo
    cases hgo with
    | cons hn hk hod hl hd hl2 hd2 he hf hk0 hT2 hgo =>
      rename_i fs2 k
      (repeat (first | refine Sh.sv m ?_ | refine Sh.hv ?_ | (refine Sh.sw m ?_; clear m; intro g_ w m) | (refine Sh.su m ?_; clear m; intro w m) | (refine Sh.suN m ?_; clear m; intro w m) | (refine Sh.hr m ?_; clear m; intro m) | refine Sh.rsS m ?_ | refine Sh.hd m ?_ | refine Sh.rsK [] m ?_ | refine CN_tt ?_ | refine CN_ff ?_ | refine GD_tt ?_ | refine GD_ff ?_ | refine GD_tf ?_ | refine GD_ft ?_ | refine CN_true (by first | omega | (simp; done) | (simp; omega)) ?_ | refine CN_false (by first | omega | (simp; done) | (simp; omega)) ?_ | refine GD_true (by first | omega | (simp; done) | (simp; omega)) ?_ | refine GD_true' (by first | omega | (simp; done) | (simp; omega)) ?_ | refine GD_false (by first | omega | (simp; done) | (simp; omega)) ?_ | refine GD_false' (by first | omega | (simp; done) | (simp; omega)) ?_ | refine Sh.crN m ?_ | refine Sh.cr1 m ?_ | refine Sh.svI m (by first | omega | decide) (by first | omega | (simp; done) | (simp; omega)) fun q_ _ hp_ => ?_ | refine Sh.hvI m (by first | omega | decide) (by first | omega | (simp; done) | (simp; omega)) fun q_ _ hp_ => ?_ | refine Sh.svF m fun q_ _ hp_ => ?_ | refine Sh.hvF m fun q_ _ hp_ => ?_))
      simp only [Int.toNat_natCast]
      have hone := ref_one (o := ops[i]) (m.get (by repeat (first | exact Frm.nil | (with_reducible exact Rem.dup) | (with_reducible exact Rem.here) | apply Frm.cons | apply Rem.there)) : Mem _ [rk g' 63 [.int .i64 room, v'], sl eRF v' cur]) hl hn hk hd hod
      rw [he] at hone
      refine n99 (m.call (hone) ?_); rintro r_ w ⟨g2, v2, rfl, m1⟩
      replace m := m.fr (by repeat (first | exact Frm.nil | (with_reducible exact Rem.dup) | (with_reducible exact Rem.here) | apply Frm.cons | apply Rem.there)) m1; simp only [List.cons_append, List.nil_append] at m
      (repeat (first | refine Sh.sv m ?_ | refine Sh.hv ?_ | (refine Sh.sw m ?_; clear m; intro g_ w m) | (refine Sh.su m ?_; clear m; intro w m) | (refine Sh.suN m ?_; clear m; intro w m) | (refine Sh.hr m ?_; clear m; intro m) | refine Sh.rsS m ?_ | refine Sh.hd m ?_ | refine Sh.rsK [] m ?_ | refine CN_tt ?_ | refine CN_ff ?_ | refine GD_tt ?_ | refine GD_ff ?_ | refine GD_tf ?_ | refine GD_ft ?_ | refine CN_true (by first | omega | (simp; done) | (simp; omega)) ?_ | refine CN_false (by first | omega | (simp; done) | (simp; omega)) ?_ | refine GD_true (by first | omega | (simp; done) | (simp; omega)) ?_ | refine GD_true' (by first | omega | (simp; done) | (simp; omega)) ?_ | refine GD_false (by first | omega | (simp; done) | (simp; omega)) ?_ | refine GD_false' (by first | omega | (simp; done) | (simp; omega)) ?_ | refine Sh.crN m ?_ | refine Sh.cr1 m ?_ | refine Sh.svI m (by first | omega | decide) (by first | omega | (simp; done) | (simp; omega)) fun q_ _ hp_ => ?_ | refine Sh.hvI m (by first | omega | decide) (by first | omega | (simp; done) | (simp; omega)) fun q_ _ hp_ => ?_ | refine Sh.svF m fun q_ _ hp_ => ?_ | refine Sh.hvF m fun q_ _ hp_ => ?_))
      refine n100 (m.ret (ref_free (m.get (by repeat (first | exact Frm.nil | (with_reducible exact Rem.dup) | (with_reducible exact Rem.here) | apply Frm.cons | apply Rem.there))) hl2 hr (fun f hf => Nat.le_trans (hd2 f hf) (by omega))) ?_); clear m; intro w m
      have hfl := freeOf_lo (room := room) (fs := fs2) (fun f hf => Nat.le_trans (hd2 f hf) (by omega)) (by omega)
      (repeat (first | refine Sh.sv m ?_ | refine Sh.hv ?_ | (refine Sh.sw m ?_; clear m; intro g_ w m) | (refine Sh.su m ?_; clear m; intro w m) | (refine Sh.suN m ?_; clear m; intro w m) | (refine Sh.hr m ?_; clear m; intro m) | refine Sh.rsS m ?_ | refine Sh.hd m ?_ | refine Sh.rsK [] m ?_ | refine CN_tt ?_ | refine CN_ff ?_ | refine GD_tt ?_ | refine GD_ff ?_ | refine GD_tf ?_ | refine GD_ft ?_ | refine CN_true (by first | omega | (simp; done) | (simp; omega)) ?_ | refine CN_false (by first | omega | (simp; done) | (simp; omega)) ?_ | refine GD_true (by first | omega | (simp; done) | (simp; omega)) ?_ | refine GD_true' (by first | omega | (simp; done) | (simp; omega)) ?_ | refine GD_false (by first | omega | (simp; done) | (simp; omega)) ?_ | refine GD_false' (by first | omega | (simp; done) | (simp; omega)) ?_ | refine Sh.crN m ?_ | refine Sh.cr1 m ?_ | refine Sh.svI m (by first | omega | decide) (by first | omega | (simp; done) | (simp; omega)) fun q_ _ hp_ => ?_ | refine Sh.hvI m (by first | omega | decide) (by first | omega | (simp; done) | (simp; omega)) fun q_ _ hp_ => ?_ | refine Sh.svF m fun q_ _ hp_ => ?_ | refine Sh.hvF m fun q_ _ hp_ => ?_))
      refine ⟨⟨T + k, i + 1, g2, v2, fs2, rfl, hlt, by omega, by omega, hgo, m.sub (by repeat (first | exact Frm.nil | (with_reducible exact Rem.dup) | (with_reducible exact Rem.here) | apply Frm.cons | apply Rem.there))⟩, ?_⟩
      show ops.length - ((i : Int) + 1).toNat < ops.length - (i : Int).toNat
      omega
  · rw [List.drop_eq_nil_of_le (by omega)] at hgo
    cases hgo
    (repeat (first | refine Sh.sv m ?_ | refine Sh.hv ?_ | (refine Sh.sw m ?_; clear m; intro g_ w m) | (refine Sh.su m ?_; clear m; intro w m) | (refine Sh.suN m ?_; clear m; intro w m) | (refine Sh.hr m ?_; clear m; intro m) | refine Sh.rsS m ?_ | refine Sh.hd m ?_ | refine Sh.rsK [] m ?_ | refine CN_tt ?_ | refine CN_ff ?_ | refine GD_tt ?_ | refine GD_ff ?_ | refine GD_tf ?_ | refine GD_ft ?_ | refine CN_true (by first | omega | (simp; done) | (simp; omega)) ?_ | refine CN_false (by first | omega | (simp; done) | (simp; omega)) ?_ | refine GD_true (by first | omega | (simp; done) | (simp; omega)) ?_ | refine GD_true' (by first | omega | (simp; done) | (simp; omega)) ?_ | refine GD_false (by first | omega | (simp; done) | (simp; omega)) ?_ | refine GD_false' (by first | omega | (simp; done) | (simp; omega)) ?_ | refine Sh.crN m ?_ | refine Sh.cr1 m ?_ | refine Sh.svI m (by first | omega | decide) (by first | omega | (simp; done) | (simp; omega)) fun q_ _ hp_ => ?_ | refine Sh.hvI m (by first | omega | decide) (by first | omega | (simp; done) | (simp; omega)) fun q_ _ hp_ => ?_ | refine Sh.svF m fun q_ _ hp_ => ?_ | refine Sh.hvF m fun q_ _ hp_ => ?_))
    exact ⟨g', v', rfl, m.sub (by repeat (first | exact Frm.nil | (with_reducible exact Rem.dup) | (with_reducible exact Rem.here) | apply Frm.cons | apply Rem.there))⟩
end
end Go.Proofs.YtkdghnbogkbedaaGreatDoor

namespace Go.Sh
open Go Go.RowKit
/-- What of a file must change, by what is found of it. -/
def changeOpt (name : List UInt8) (a b : Option (List UInt8)) : List FileOp := changeOf name (a.getD []) (b.getD []) a.isSome b.isSome

theorem isPre_nil (l : List UInt8) : isPre [] l = true := by simp [isPre]
theorem isPre_self {a b : List UInt8} (h : isPre a b = true) (h2 : b.drop a.length = []) : a = b := by
  simp only [isPre, decide_eq_true_eq] at h
  have : b.length = a.length := by have := List.drop_eq_nil_iff.1 h2; omega
  rw [← h.2, ← this, List.take_length]
theorem rises_drop {l t : List File} {i : Nat} {a : File} (h : Rises l) (hd : l.drop i = a :: t) : (∀ y ∈ t, Op.bytesLess a.name y.name = true) ∧ (∀ x ∈ l.take i, Op.bytesLess x.name a.name = true) := by
  have e : l = l.take i ++ (a :: t) := by rw [← hd, List.take_append_drop]
  unfold Rises at h
  rw [e, List.pairwise_append] at h
  exact ⟨(List.pairwise_cons.1 h.2.1).1, fun x hx => h.2.2 x hx a List.mem_cons_self⟩
theorem findF_drop {l t : List File} {i : Nat} {a : File} (h : Rises l) (hd : l.drop i = a :: t) : findF l a.name = some a.data := by
  have e : l = l.take i ++ (a :: t) := by rw [← hd, List.take_append_drop]
  rw [e]
  exact findF_at fun f hf => blt_ne ((rises_drop h hd).2 f hf)
theorem drop_succ' {l t : List File} {i : Nat} {a : File} (hd : l.drop i = a :: t) : l.drop (i + 1) = t ∧ i < l.length ∧ l.take (i + 1) = l.take i ++ [a] := by
  have hlt : i < l.length := by
    rcases Nat.lt_or_ge i l.length with h | h
    · exact h
    · rw [List.drop_eq_nil_of_le h] at hd; cases hd
  rw [List.drop_eq_getElem_cons hlt] at hd
  injection hd with h1 h2
  exact ⟨h2, hlt, by rw [List.take_succ_eq_append_getElem hlt, h1]⟩
end Go.Sh
namespace Go.Proofs.YtkdghnbogkbedaaGreatDoor
open Go Go.Sh Go.RowKit
set_option maxRecDepth 100000
set_option maxHeartbeats 1000000
set_option linter.unusedSimpArgs false
set_option linter.unusedVariables false

theorem ref_diff {ov nv : Value} {old now : List File} {w0 : World} (h : Mem w0 [sl eFile ov old, sl eFile nv now]) (ho : old.length ≤ 1000000) (hn : now.length ≤ 1000000) (hd : ∀ f ∈ now, f.data.length ≤ 4611686018427387904)
    (hso : Rises old) (hsn : Rises now) :
    Calls Tryz.prog 32 #[ov, nv] w0 (retP fun v w' => St w0 [sl eFile ov old, sl eFile nv now] w' [own eOp v (diffOf old now)]) := by
  have m := St.start h
  refine c32 ?_
  unfold s32
  refine LP_intro (fun us w => ∃ (u v : Value) (acc : List FileOp) (i k : Nat), us = [u, .int .i64 i, .int .i64 k, v] ∧ acc ++ diffOf (old.drop i) (now.drop k) = diffOf old now ∧ i ≤ old.length ∧ k ≤ now.length ∧
      (∀ x ∈ old.take i, ∀ y ∈ now.drop k, Op.bytesLess x.name y.name = true) ∧ (∀ x ∈ now.take k, ∀ y ∈ old.drop i, Op.bytesLess x.name y.name = true) ∧
      St w0 [sl eFile ov old, sl eFile nv now] w [own eOp v acc, sl eFile ov old, sl eFile nv now])
    (fun us _ => match us with | [_, .int _ i, .int _ k, _] => (old.length - i.toNat) + (now.length - k.toNat) | _ => 0)
    ⟨_, _, [], 0, 0, rfl, rfl, Nat.zero_le _, Nat.zero_le _, by simp, by simp, m.nilOwn eOp⟩ ?_
  clear m
  rintro us hus ζ w ⟨u, v, acc, i, k, rfl, hacc, hi, hk, hA, hB, m⟩
  unfold s32_l1
  simp only [List.getD_cons_zero, List.getD_cons_succ]
  have hl := congrArg List.length hacc
  rw [List.length_append] at hl
  have hl2 := diffOf_len old now
  -- what a round is
  have key : ∀ (name : List UInt8) (x y : Option (List UInt8)) (i' k' : Nat) (w : World), findF old name = x → findF now name = y → i' = i + x.isSome.toNat → k' = k + y.isSome.toNat → 
      diffOf (old.drop i) (now.drop k) = changeOpt name x y ++ diffOf (old.drop i') (now.drop k') → i' ≤ old.length → k' ≤ now.length → i + k < i' + k' → (y.getD []).length ≤ 4611686018427387904 →
      (∀ x ∈ old.take i', ∀ y ∈ now.drop k', Op.bytesLess x.name y.name = true) → (∀ x ∈ now.take k', ∀ y ∈ old.drop i', Op.bytesLess x.name y.name = true) →
      St w0 [sl eFile ov old, sl eFile nv now] w [own eOp v acc, sl eFile ov old, sl eFile nv now] →
      s32_j5 Tryz.prog (fun v w' => St w0 [sl eFile ov old, sl eFile nv now] w' [own eOp v (diffOf old now)]) ov nv (.int .i64 i) (.int .i64 k) v (fun us'' w'' => (∃ (u v : Value) (acc : List FileOp) (i k : Nat), us'' = [u, .int .i64 i, .int .i64 k, v] ∧ acc ++ diffOf (old.drop i) (now.drop k) = diffOf old now ∧ i ≤ old.length ∧ k ≤ now.length ∧
      (∀ x ∈ old.take i, ∀ y ∈ now.drop k, Op.bytesLess x.name y.name = true) ∧ (∀ x ∈ now.take k, ∀ y ∈ old.drop i, Op.bytesLess x.name y.name = true) ∧
      St w0 [sl eFile ov old, sl eFile nv now] w'' [own eOp v acc, sl eFile ov old, sl eFile nv now]) ∧
      (match us'' with | [_, .int _ i, .int _ k, _] => (old.length - i.toNat) + (now.length - k.toNat) | _ => 0) < (old.length - i) + (now.length - k)) (str name) w := by
    intro name x y i' k' w hx hy hi' hk' hdf hil hkl hlt hyl hA hB m
    have hc3 : (changeOpt name x y).length ≤ 3 := changeOf_len _ _ _ _ _
    have fin : ∀ (v' : Value) (w : World), St w0 [sl eFile ov old, sl eFile nv now] w [own eOp v' (acc ++ changeOpt name x y), sl eFile ov old, sl eFile nv now] → 
       (∃ (u v : Value) (acc : List FileOp) (i k : Nat), [str name, .int .i64 i', .int .i64 k', v'] = [u, .int .i64 i, .int .i64 k, v] ∧ acc ++ diffOf (old.drop i) (now.drop k) = diffOf old now ∧ i ≤ old.length ∧ k ≤ now.length ∧
      (∀ x ∈ old.take i, ∀ y ∈ now.drop k, Op.bytesLess x.name y.name = true) ∧ (∀ x ∈ now.take k, ∀ y ∈ old.drop i, Op.bytesLess x.name y.name = true) ∧
      St w0 [sl eFile ov old, sl eFile nv now] w [own eOp v acc, sl eFile ov old, sl eFile nv now]) := fun v' w m =>
        ⟨_, v', _, i', k', rfl, by rw [List.append_assoc, ← hdf, hacc], hil, hkl, hA, hB, m⟩
    have := m.isl (v := v)
    unfold s32_j5
    refine n97 (m.ret (ref_find (m.get (by repeat (first | exact Frm.nil | (with_reducible exact Rem.dup) | (with_reducible exact Rem.here) | apply Frm.cons | apply Rem.there))) ho) ?_); clear m; intro w m
    (repeat (first | refine Sh.sv m ?_ | refine Sh.hv ?_ | (refine Sh.sw m ?_; clear m; intro g_ w m) | (refine Sh.su m ?_; clear m; intro w m) | (refine Sh.suN m ?_; clear m; intro w m) | (refine Sh.hr m ?_; clear m; intro m) | refine Sh.rsS m ?_ | refine Sh.hd m ?_ | refine Sh.rsK [] m ?_ | refine CN_tt ?_ | refine CN_ff ?_ | refine GD_tt ?_ | refine GD_ff ?_ | refine GD_tf ?_ | refine GD_ft ?_ | refine CN_true (by first | omega | (simp; done) | (simp; omega)) ?_ | refine CN_false (by first | omega | (simp; done) | (simp; omega)) ?_ | refine GD_true (by first | omega | (simp; done) | (simp; omega)) ?_ | refine GD_true' (by first | omega | (simp; done) | (simp; omega)) ?_ | refine GD_false (by first | omega | (simp; done) | (simp; omega)) ?_ | refine GD_false' (by first | omega | (simp; done) | (simp; omega)) ?_ | refine Sh.crN m ?_ | refine Sh.cr1 m ?_ | refine Sh.svI m (by first | omega | decide) (by first | omega | (simp; done) | (simp; omega)) fun q_ _ hp_ => ?_ | refine Sh.hvI m (by first | omega | decide) (by first | omega | (simp; done) | (simp; omega)) fun q_ _ hp_ => ?_ | refine Sh.svF m fun q_ _ hp_ => ?_ | refine Sh.hvF m fun q_ _ hp_ => ?_))
    refine n97 (m.ret (ref_find (m.get (by repeat (first | exact Frm.nil | (with_reducible exact Rem.dup) | (with_reducible exact Rem.here) | apply Frm.cons | apply Rem.there))) hn) ?_); clear m; intro w m
    (repeat (first | refine Sh.sv m ?_ | refine Sh.hv ?_ | (refine Sh.sw m ?_; clear m; intro g_ w m) | (refine Sh.su m ?_; clear m; intro w m) | (refine Sh.suN m ?_; clear m; intro w m) | (refine Sh.hr m ?_; clear m; intro m) | refine Sh.rsS m ?_ | refine Sh.hd m ?_ | refine Sh.rsK [] m ?_ | refine CN_tt ?_ | refine CN_ff ?_ | refine GD_tt ?_ | refine GD_ff ?_ | refine GD_tf ?_ | refine GD_ft ?_ | refine CN_true (by first | omega | (simp; done) | (simp; omega)) ?_ | refine CN_false (by first | omega | (simp; done) | (simp; omega)) ?_ | refine GD_true (by first | omega | (simp; done) | (simp; omega)) ?_ | refine GD_true' (by first | omega | (simp; done) | (simp; omega)) ?_ | refine GD_false (by first | omega | (simp; done) | (simp; omega)) ?_ | refine GD_false' (by first | omega | (simp; done) | (simp; omega)) ?_ | refine Sh.crN m ?_ | refine Sh.cr1 m ?_ | refine Sh.svI m (by first | omega | decide) (by first | omega | (simp; done) | (simp; omega)) fun q_ _ hp_ => ?_ | refine Sh.hvI m (by first | omega | decide) (by first | omega | (simp; done) | (simp; omega)) fun q_ _ hp_ => ?_ | refine Sh.svF m fun q_ _ hp_ => ?_ | refine Sh.hvF m fun q_ _ hp_ => ?_))
    rw [hx, hy]
    have hal : acc.length ≤ 6000000 := by omega
    simp only [changeOpt] at fin hc3
    cases x with
    | none =>
      cases y with
      | none => simp at hi' hk'; omega
      | some b =>
        simp only [Option.isSome_none, Option.isSome_some, Bool.toNat_false, Bool.toNat_true, Nat.add_zero, Option.getD_none, Option.getD_some] at *
        subst hi' hk'
        refine JP_in ?_; (repeat (first | refine Sh.sv m ?_ | refine Sh.hv ?_ | (refine Sh.sw m ?_; clear m; intro g_ w m) | (refine Sh.su m ?_; clear m; intro w m) | (refine Sh.suN m ?_; clear m; intro w m) | (refine Sh.hr m ?_; clear m; intro m) | refine Sh.rsS m ?_ | refine Sh.hd m ?_ | refine Sh.rsK [] m ?_ | refine CN_tt ?_ | refine CN_ff ?_ | refine GD_tt ?_ | refine GD_ff ?_ | refine GD_tf ?_ | refine GD_ft ?_ | refine CN_true (by first | omega | (simp; done) | (simp; omega)) ?_ | refine CN_false (by first | omega | (simp; done) | (simp; omega)) ?_ | refine GD_true (by first | omega | (simp; done) | (simp; omega)) ?_ | refine GD_true' (by first | omega | (simp; done) | (simp; omega)) ?_ | refine GD_false (by first | omega | (simp; done) | (simp; omega)) ?_ | refine GD_false' (by first | omega | (simp; done) | (simp; omega)) ?_ | refine Sh.crN m ?_ | refine Sh.cr1 m ?_ | refine Sh.svI m (by first | omega | decide) (by first | omega | (simp; done) | (simp; omega)) fun q_ _ hp_ => ?_ | refine Sh.hvI m (by first | omega | decide) (by first | omega | (simp; done) | (simp; omega)) fun q_ _ hp_ => ?_ | refine Sh.svF m fun q_ _ hp_ => ?_ | refine Sh.hvF m fun q_ _ hp_ => ?_)); refine ⟨rfl, fun _ => ?_⟩; unfold s32_j4; simp only [List.getD_cons_zero, List.getD_cons_succ]
        refine JP_in ?_; (repeat (first | refine Sh.sv m ?_ | refine Sh.hv ?_ | (refine Sh.sw m ?_; clear m; intro g_ w m) | (refine Sh.su m ?_; clear m; intro w m) | (refine Sh.suN m ?_; clear m; intro w m) | (refine Sh.hr m ?_; clear m; intro m) | refine Sh.rsS m ?_ | refine Sh.hd m ?_ | refine Sh.rsK [] m ?_ | refine CN_tt ?_ | refine CN_ff ?_ | refine GD_tt ?_ | refine GD_ff ?_ | refine GD_tf ?_ | refine GD_ft ?_ | refine CN_true (by first | omega | (simp; done) | (simp; omega)) ?_ | refine CN_false (by first | omega | (simp; done) | (simp; omega)) ?_ | refine GD_true (by first | omega | (simp; done) | (simp; omega)) ?_ | refine GD_true' (by first | omega | (simp; done) | (simp; omega)) ?_ | refine GD_false (by first | omega | (simp; done) | (simp; omega)) ?_ | refine GD_false' (by first | omega | (simp; done) | (simp; omega)) ?_ | refine Sh.crN m ?_ | refine Sh.cr1 m ?_ | refine Sh.svI m (by first | omega | decide) (by first | omega | (simp; done) | (simp; omega)) fun q_ _ hp_ => ?_ | refine Sh.hvI m (by first | omega | decide) (by first | omega | (simp; done) | (simp; omega)) fun q_ _ hp_ => ?_ | refine Sh.svF m fun q_ _ hp_ => ?_ | refine Sh.hvF m fun q_ _ hp_ => ?_)); refine ⟨rfl, fun _ => ?_⟩; unfold s32_j3; simp only [List.getD_cons_zero, List.getD_cons_succ]
        refine JP_in ?_; (repeat (first | refine Sh.sv m ?_ | refine Sh.hv ?_ | (refine Sh.sw m ?_; clear m; intro g_ w m) | (refine Sh.su m ?_; clear m; intro w m) | (refine Sh.suN m ?_; clear m; intro w m) | (refine Sh.hr m ?_; clear m; intro m) | refine Sh.rsS m ?_ | refine Sh.hd m ?_ | refine Sh.rsK [] m ?_ | refine CN_tt ?_ | refine CN_ff ?_ | refine GD_tt ?_ | refine GD_ff ?_ | refine GD_tf ?_ | refine GD_ft ?_ | refine CN_true (by first | omega | (simp; done) | (simp; omega)) ?_ | refine CN_false (by first | omega | (simp; done) | (simp; omega)) ?_ | refine GD_true (by first | omega | (simp; done) | (simp; omega)) ?_ | refine GD_true' (by first | omega | (simp; done) | (simp; omega)) ?_ | refine GD_false (by first | omega | (simp; done) | (simp; omega)) ?_ | refine GD_false' (by first | omega | (simp; done) | (simp; omega)) ?_ | refine Sh.crN m ?_ | refine Sh.cr1 m ?_ | refine Sh.svI m (by first | omega | decide) (by first | omega | (simp; done) | (simp; omega)) fun q_ _ hp_ => ?_ | refine Sh.hvI m (by first | omega | decide) (by first | omega | (simp; done) | (simp; omega)) fun q_ _ hp_ => ?_ | refine Sh.svF m fun q_ _ hp_ => ?_ | refine Sh.hvF m fun q_ _ hp_ => ?_))
        refine lits eOp [⟨1, name, [], 0⟩] m [_] rfl rfl rfl (by simp) ?_; clear m; intro v1 w _ m
        refine ap m (by simp; omega) (by simp [maxLen]; omega) ?_; clear m; intro v2 w _ m
        (repeat (first | refine Sh.sv m ?_ | refine Sh.hv ?_ | (refine Sh.sw m ?_; clear m; intro g_ w m) | (refine Sh.su m ?_; clear m; intro w m) | (refine Sh.suN m ?_; clear m; intro w m) | (refine Sh.hr m ?_; clear m; intro m) | refine Sh.rsS m ?_ | refine Sh.hd m ?_ | refine Sh.rsK [] m ?_ | refine CN_tt ?_ | refine CN_ff ?_ | refine GD_tt ?_ | refine GD_ff ?_ | refine GD_tf ?_ | refine GD_ft ?_ | refine CN_true (by first | omega | (simp; done) | (simp; omega)) ?_ | refine CN_false (by first | omega | (simp; done) | (simp; omega)) ?_ | refine GD_true (by first | omega | (simp; done) | (simp; omega)) ?_ | refine GD_true' (by first | omega | (simp; done) | (simp; omega)) ?_ | refine GD_false (by first | omega | (simp; done) | (simp; omega)) ?_ | refine GD_false' (by first | omega | (simp; done) | (simp; omega)) ?_ | refine Sh.crN m ?_ | refine Sh.cr1 m ?_ | refine Sh.svI m (by first | omega | decide) (by first | omega | (simp; done) | (simp; omega)) fun q_ _ hp_ => ?_ | refine Sh.hvI m (by first | omega | decide) (by first | omega | (simp; done) | (simp; omega)) fun q_ _ hp_ => ?_ | refine Sh.svF m fun q_ _ hp_ => ?_ | refine Sh.hvF m fun q_ _ hp_ => ?_))
        refine ⟨rfl, fun _ => ?_⟩; unfold s32_j2; simp only [List.getD_cons_zero, List.getD_cons_succ]
        refine JP_in ?_; (repeat (first | refine Sh.sv m ?_ | refine Sh.hv ?_ | (refine Sh.sw m ?_; clear m; intro g_ w m) | (refine Sh.su m ?_; clear m; intro w m) | (refine Sh.suN m ?_; clear m; intro w m) | (refine Sh.hr m ?_; clear m; intro m) | refine Sh.rsS m ?_ | refine Sh.hd m ?_ | refine Sh.rsK [] m ?_ | refine CN_tt ?_ | refine CN_ff ?_ | refine GD_tt ?_ | refine GD_ff ?_ | refine GD_tf ?_ | refine GD_ft ?_ | refine CN_true (by first | omega | (simp; done) | (simp; omega)) ?_ | refine CN_false (by first | omega | (simp; done) | (simp; omega)) ?_ | refine GD_true (by first | omega | (simp; done) | (simp; omega)) ?_ | refine GD_true' (by first | omega | (simp; done) | (simp; omega)) ?_ | refine GD_false (by first | omega | (simp; done) | (simp; omega)) ?_ | refine GD_false' (by first | omega | (simp; done) | (simp; omega)) ?_ | refine Sh.crN m ?_ | refine Sh.cr1 m ?_ | refine Sh.svI m (by first | omega | decide) (by first | omega | (simp; done) | (simp; omega)) fun q_ _ hp_ => ?_ | refine Sh.hvI m (by first | omega | decide) (by first | omega | (simp; done) | (simp; omega)) fun q_ _ hp_ => ?_ | refine Sh.svF m fun q_ _ hp_ => ?_ | refine Sh.hvF m fun q_ _ hp_ => ?_)); refine ⟨rfl, fun _ => ?_⟩; unfold s32_j1; simp only [List.getD_cons_zero, List.getD_cons_succ]
        (repeat (first | refine Sh.sv m ?_ | refine Sh.hv ?_ | (refine Sh.sw m ?_; clear m; intro g_ w m) | (refine Sh.su m ?_; clear m; intro w m) | (refine Sh.suN m ?_; clear m; intro w m) | (refine Sh.hr m ?_; clear m; intro m) | refine Sh.rsS m ?_ | refine Sh.hd m ?_ | refine Sh.rsK [] m ?_ | refine CN_tt ?_ | refine CN_ff ?_ | refine GD_tt ?_ | refine GD_ff ?_ | refine GD_tf ?_ | refine GD_ft ?_ | refine CN_true (by first | omega | (simp; done) | (simp; omega)) ?_ | refine CN_false (by first | omega | (simp; done) | (simp; omega)) ?_ | refine GD_true (by first | omega | (simp; done) | (simp; omega)) ?_ | refine GD_true' (by first | omega | (simp; done) | (simp; omega)) ?_ | refine GD_false (by first | omega | (simp; done) | (simp; omega)) ?_ | refine GD_false' (by first | omega | (simp; done) | (simp; omega)) ?_ | refine Sh.crN m ?_ | refine Sh.cr1 m ?_ | refine Sh.svI m (by first | omega | decide) (by first | omega | (simp; done) | (simp; omega)) fun q_ _ hp_ => ?_ | refine Sh.hvI m (by first | omega | decide) (by first | omega | (simp; done) | (simp; omega)) fun q_ _ hp_ => ?_ | refine Sh.svF m fun q_ _ hp_ => ?_ | refine Sh.hvF m fun q_ _ hp_ => ?_))
        refine n98 (m.ret (ref_begins b [] _) ?_); clear m; intro w m
        refine n98 (m.ret (ref_begins [] b _) ?_); clear m; intro w m
        (repeat (first | refine Sh.sv m ?_ | refine Sh.hv ?_ | (refine Sh.sw m ?_; clear m; intro g_ w m) | (refine Sh.su m ?_; clear m; intro w m) | (refine Sh.suN m ?_; clear m; intro w m) | (refine Sh.hr m ?_; clear m; intro m) | refine Sh.rsS m ?_ | refine Sh.hd m ?_ | refine Sh.rsK [] m ?_ | refine CN_tt ?_ | refine CN_ff ?_ | refine GD_tt ?_ | refine GD_ff ?_ | refine GD_tf ?_ | refine GD_ft ?_ | refine CN_true (by first | omega | (simp; done) | (simp; omega)) ?_ | refine CN_false (by first | omega | (simp; done) | (simp; omega)) ?_ | refine GD_true (by first | omega | (simp; done) | (simp; omega)) ?_ | refine GD_true' (by first | omega | (simp; done) | (simp; omega)) ?_ | refine GD_false (by first | omega | (simp; done) | (simp; omega)) ?_ | refine GD_false' (by first | omega | (simp; done) | (simp; omega)) ?_ | refine Sh.crN m ?_ | refine Sh.cr1 m ?_ | refine Sh.svI m (by first | omega | decide) (by first | omega | (simp; done) | (simp; omega)) fun q_ _ hp_ => ?_ | refine Sh.hvI m (by first | omega | decide) (by first | omega | (simp; done) | (simp; omega)) fun q_ _ hp_ => ?_ | refine Sh.svF m fun q_ _ hp_ => ?_ | refine Sh.hvF m fun q_ _ hp_ => ?_))
        rw [isPre_nil]
        refine CN_split (fun h0 => ?_) (fun h0 => ?_)
        · subst h0
          refine ⟨fin v2 w ?_, by simp; omega⟩
          have h := m.sub (X := [own eOp v2 _, sl eFile ov old, sl eFile nv now]) (by repeat (first | exact Frm.nil | (with_reducible exact Rem.dup) | (with_reducible exact Rem.here) | apply Frm.cons | apply Rem.there))
          simpa [changeOf, isPre_nil] using h
        · (repeat (first | refine Sh.sv m ?_ | refine Sh.hv ?_ | (refine Sh.sw m ?_; clear m; intro g_ w m) | (refine Sh.su m ?_; clear m; intro w m) | (refine Sh.suN m ?_; clear m; intro w m) | (refine Sh.hr m ?_; clear m; intro m) | refine Sh.rsS m ?_ | refine Sh.hd m ?_ | refine Sh.rsK [] m ?_ | refine CN_tt ?_ | refine CN_ff ?_ | refine GD_tt ?_ | refine GD_ff ?_ | refine GD_tf ?_ | refine GD_ft ?_ | refine CN_true (by first | omega | (simp; done) | (simp; omega)) ?_ | refine CN_false (by first | omega | (simp; done) | (simp; omega)) ?_ | refine GD_true (by first | omega | (simp; done) | (simp; omega)) ?_ | refine GD_true' (by first | omega | (simp; done) | (simp; omega)) ?_ | refine GD_false (by first | omega | (simp; done) | (simp; omega)) ?_ | refine GD_false' (by first | omega | (simp; done) | (simp; omega)) ?_ | refine Sh.crN m ?_ | refine Sh.cr1 m ?_ | refine Sh.svI m (by first | omega | decide) (by first | omega | (simp; done) | (simp; omega)) fun q_ _ hp_ => ?_ | refine Sh.hvI m (by first | omega | decide) (by first | omega | (simp; done) | (simp; omega)) fun q_ _ hp_ => ?_ | refine Sh.svF m fun q_ _ hp_ => ?_ | refine Sh.hvF m fun q_ _ hp_ => ?_))
          refine lits eOp [⟨2, name, b, 0⟩] m [_] rfl rfl rfl (by simp) ?_; clear m; intro v1 w _ m
          refine ap m (by simp; omega) (by simp [maxLen]; omega) ?_; clear m; intro v3 w _ m
          (repeat (first | refine Sh.sv m ?_ | refine Sh.hv ?_ | (refine Sh.sw m ?_; clear m; intro g_ w m) | (refine Sh.su m ?_; clear m; intro w m) | (refine Sh.suN m ?_; clear m; intro w m) | (refine Sh.hr m ?_; clear m; intro m) | refine Sh.rsS m ?_ | refine Sh.hd m ?_ | refine Sh.rsK [] m ?_ | refine CN_tt ?_ | refine CN_ff ?_ | refine GD_tt ?_ | refine GD_ff ?_ | refine GD_tf ?_ | refine GD_ft ?_ | refine CN_true (by first | omega | (simp; done) | (simp; omega)) ?_ | refine CN_false (by first | omega | (simp; done) | (simp; omega)) ?_ | refine GD_true (by first | omega | (simp; done) | (simp; omega)) ?_ | refine GD_true' (by first | omega | (simp; done) | (simp; omega)) ?_ | refine GD_false (by first | omega | (simp; done) | (simp; omega)) ?_ | refine GD_false' (by first | omega | (simp; done) | (simp; omega)) ?_ | refine Sh.crN m ?_ | refine Sh.cr1 m ?_ | refine Sh.svI m (by first | omega | decide) (by first | omega | (simp; done) | (simp; omega)) fun q_ _ hp_ => ?_ | refine Sh.hvI m (by first | omega | decide) (by first | omega | (simp; done) | (simp; omega)) fun q_ _ hp_ => ?_ | refine Sh.svF m fun q_ _ hp_ => ?_ | refine Sh.hvF m fun q_ _ hp_ => ?_))
          refine ⟨fin v3 w ?_, by simp; omega⟩
          have h := m.sub (X := [own eOp v3 _, sl eFile ov old, sl eFile nv now]) (by repeat (first | exact Frm.nil | (with_reducible exact Rem.dup) | (with_reducible exact Rem.here) | apply Frm.cons | apply Rem.there))
          have h0' : ¬ b = [] := fun h => h0 h.symm
          simpa [changeOf, isPre_nil, h0'] using h
    | some a =>
      cases y with
      | none =>
        simp only [Option.isSome_none, Option.isSome_some, Bool.toNat_false, Bool.toNat_true, Nat.add_zero, Option.getD_none, Option.getD_some] at *
        subst hi' hk'
        refine JP_in ?_; (repeat (first | refine Sh.sv m ?_ | refine Sh.hv ?_ | (refine Sh.sw m ?_; clear m; intro g_ w m) | (refine Sh.su m ?_; clear m; intro w m) | (refine Sh.suN m ?_; clear m; intro w m) | (refine Sh.hr m ?_; clear m; intro m) | refine Sh.rsS m ?_ | refine Sh.hd m ?_ | refine Sh.rsK [] m ?_ | refine CN_tt ?_ | refine CN_ff ?_ | refine GD_tt ?_ | refine GD_ff ?_ | refine GD_tf ?_ | refine GD_ft ?_ | refine CN_true (by first | omega | (simp; done) | (simp; omega)) ?_ | refine CN_false (by first | omega | (simp; done) | (simp; omega)) ?_ | refine GD_true (by first | omega | (simp; done) | (simp; omega)) ?_ | refine GD_true' (by first | omega | (simp; done) | (simp; omega)) ?_ | refine GD_false (by first | omega | (simp; done) | (simp; omega)) ?_ | refine GD_false' (by first | omega | (simp; done) | (simp; omega)) ?_ | refine Sh.crN m ?_ | refine Sh.cr1 m ?_ | refine Sh.svI m (by first | omega | decide) (by first | omega | (simp; done) | (simp; omega)) fun q_ _ hp_ => ?_ | refine Sh.hvI m (by first | omega | decide) (by first | omega | (simp; done) | (simp; omega)) fun q_ _ hp_ => ?_ | refine Sh.svF m fun q_ _ hp_ => ?_ | refine Sh.hvF m fun q_ _ hp_ => ?_)); refine ⟨rfl, fun _ => ?_⟩; unfold s32_j4; simp only [List.getD_cons_zero, List.getD_cons_succ]
        refine JP_in ?_; (repeat (first | refine Sh.sv m ?_ | refine Sh.hv ?_ | (refine Sh.sw m ?_; clear m; intro g_ w m) | (refine Sh.su m ?_; clear m; intro w m) | (refine Sh.suN m ?_; clear m; intro w m) | (refine Sh.hr m ?_; clear m; intro m) | refine Sh.rsS m ?_ | refine Sh.hd m ?_ | refine Sh.rsK [] m ?_ | refine CN_tt ?_ | refine CN_ff ?_ | refine GD_tt ?_ | refine GD_ff ?_ | refine GD_tf ?_ | refine GD_ft ?_ | refine CN_true (by first | omega | (simp; done) | (simp; omega)) ?_ | refine CN_false (by first | omega | (simp; done) | (simp; omega)) ?_ | refine GD_true (by first | omega | (simp; done) | (simp; omega)) ?_ | refine GD_true' (by first | omega | (simp; done) | (simp; omega)) ?_ | refine GD_false (by first | omega | (simp; done) | (simp; omega)) ?_ | refine GD_false' (by first | omega | (simp; done) | (simp; omega)) ?_ | refine Sh.crN m ?_ | refine Sh.cr1 m ?_ | refine Sh.svI m (by first | omega | decide) (by first | omega | (simp; done) | (simp; omega)) fun q_ _ hp_ => ?_ | refine Sh.hvI m (by first | omega | decide) (by first | omega | (simp; done) | (simp; omega)) fun q_ _ hp_ => ?_ | refine Sh.svF m fun q_ _ hp_ => ?_ | refine Sh.hvF m fun q_ _ hp_ => ?_)); refine ⟨rfl, fun _ => ?_⟩; unfold s32_j3; simp only [List.getD_cons_zero, List.getD_cons_succ]
        refine JP_in ?_; (repeat (first | refine Sh.sv m ?_ | refine Sh.hv ?_ | (refine Sh.sw m ?_; clear m; intro g_ w m) | (refine Sh.su m ?_; clear m; intro w m) | (refine Sh.suN m ?_; clear m; intro w m) | (refine Sh.hr m ?_; clear m; intro m) | refine Sh.rsS m ?_ | refine Sh.hd m ?_ | refine Sh.rsK [] m ?_ | refine CN_tt ?_ | refine CN_ff ?_ | refine GD_tt ?_ | refine GD_ff ?_ | refine GD_tf ?_ | refine GD_ft ?_ | refine CN_true (by first | omega | (simp; done) | (simp; omega)) ?_ | refine CN_false (by first | omega | (simp; done) | (simp; omega)) ?_ | refine GD_true (by first | omega | (simp; done) | (simp; omega)) ?_ | refine GD_true' (by first | omega | (simp; done) | (simp; omega)) ?_ | refine GD_false (by first | omega | (simp; done) | (simp; omega)) ?_ | refine GD_false' (by first | omega | (simp; done) | (simp; omega)) ?_ | refine Sh.crN m ?_ | refine Sh.cr1 m ?_ | refine Sh.svI m (by first | omega | decide) (by first | omega | (simp; done) | (simp; omega)) fun q_ _ hp_ => ?_ | refine Sh.hvI m (by first | omega | decide) (by first | omega | (simp; done) | (simp; omega)) fun q_ _ hp_ => ?_ | refine Sh.svF m fun q_ _ hp_ => ?_ | refine Sh.hvF m fun q_ _ hp_ => ?_)); refine ⟨rfl, fun _ => ?_⟩; unfold s32_j2; simp only [List.getD_cons_zero, List.getD_cons_succ]
        refine JP_in ?_; (repeat (first | refine Sh.sv m ?_ | refine Sh.hv ?_ | (refine Sh.sw m ?_; clear m; intro g_ w m) | (refine Sh.su m ?_; clear m; intro w m) | (refine Sh.suN m ?_; clear m; intro w m) | (refine Sh.hr m ?_; clear m; intro m) | refine Sh.rsS m ?_ | refine Sh.hd m ?_ | refine Sh.rsK [] m ?_ | refine CN_tt ?_ | refine CN_ff ?_ | refine GD_tt ?_ | refine GD_ff ?_ | refine GD_tf ?_ | refine GD_ft ?_ | refine CN_true (by first | omega | (simp; done) | (simp; omega)) ?_ | refine CN_false (by first | omega | (simp; done) | (simp; omega)) ?_ | refine GD_true (by first | omega | (simp; done) | (simp; omega)) ?_ | refine GD_true' (by first | omega | (simp; done) | (simp; omega)) ?_ | refine GD_false (by first | omega | (simp; done) | (simp; omega)) ?_ | refine GD_false' (by first | omega | (simp; done) | (simp; omega)) ?_ | refine Sh.crN m ?_ | refine Sh.cr1 m ?_ | refine Sh.svI m (by first | omega | decide) (by first | omega | (simp; done) | (simp; omega)) fun q_ _ hp_ => ?_ | refine Sh.hvI m (by first | omega | decide) (by first | omega | (simp; done) | (simp; omega)) fun q_ _ hp_ => ?_ | refine Sh.svF m fun q_ _ hp_ => ?_ | refine Sh.hvF m fun q_ _ hp_ => ?_))
        refine CN_split (fun h0 => ?_) (fun h0 => ?_)
        · (repeat (first | refine Sh.sv m ?_ | refine Sh.hv ?_ | (refine Sh.sw m ?_; clear m; intro g_ w m) | (refine Sh.su m ?_; clear m; intro w m) | (refine Sh.suN m ?_; clear m; intro w m) | (refine Sh.hr m ?_; clear m; intro m) | refine Sh.rsS m ?_ | refine Sh.hd m ?_ | refine Sh.rsK [] m ?_ | refine CN_tt ?_ | refine CN_ff ?_ | refine GD_tt ?_ | refine GD_ff ?_ | refine GD_tf ?_ | refine GD_ft ?_ | refine CN_true (by first | omega | (simp; done) | (simp; omega)) ?_ | refine CN_false (by first | omega | (simp; done) | (simp; omega)) ?_ | refine GD_true (by first | omega | (simp; done) | (simp; omega)) ?_ | refine GD_true' (by first | omega | (simp; done) | (simp; omega)) ?_ | refine GD_false (by first | omega | (simp; done) | (simp; omega)) ?_ | refine GD_false' (by first | omega | (simp; done) | (simp; omega)) ?_ | refine Sh.crN m ?_ | refine Sh.cr1 m ?_ | refine Sh.svI m (by first | omega | decide) (by first | omega | (simp; done) | (simp; omega)) fun q_ _ hp_ => ?_ | refine Sh.hvI m (by first | omega | decide) (by first | omega | (simp; done) | (simp; omega)) fun q_ _ hp_ => ?_ | refine Sh.svF m fun q_ _ hp_ => ?_ | refine Sh.hvF m fun q_ _ hp_ => ?_))
          refine lits eOp [⟨3, name, [], 0⟩] m [_] rfl rfl rfl (by simp) ?_; clear m; intro v1 w _ m
          refine ap m (by simp; omega) (by simp [maxLen]; omega) ?_; clear m; intro v2 w _ m
          (repeat (first | refine Sh.sv m ?_ | refine Sh.hv ?_ | (refine Sh.sw m ?_; clear m; intro g_ w m) | (refine Sh.su m ?_; clear m; intro w m) | (refine Sh.suN m ?_; clear m; intro w m) | (refine Sh.hr m ?_; clear m; intro m) | refine Sh.rsS m ?_ | refine Sh.hd m ?_ | refine Sh.rsK [] m ?_ | refine CN_tt ?_ | refine CN_ff ?_ | refine GD_tt ?_ | refine GD_ff ?_ | refine GD_tf ?_ | refine GD_ft ?_ | refine CN_true (by first | omega | (simp; done) | (simp; omega)) ?_ | refine CN_false (by first | omega | (simp; done) | (simp; omega)) ?_ | refine GD_true (by first | omega | (simp; done) | (simp; omega)) ?_ | refine GD_true' (by first | omega | (simp; done) | (simp; omega)) ?_ | refine GD_false (by first | omega | (simp; done) | (simp; omega)) ?_ | refine GD_false' (by first | omega | (simp; done) | (simp; omega)) ?_ | refine Sh.crN m ?_ | refine Sh.cr1 m ?_ | refine Sh.svI m (by first | omega | decide) (by first | omega | (simp; done) | (simp; omega)) fun q_ _ hp_ => ?_ | refine Sh.hvI m (by first | omega | decide) (by first | omega | (simp; done) | (simp; omega)) fun q_ _ hp_ => ?_ | refine Sh.svF m fun q_ _ hp_ => ?_ | refine Sh.hvF m fun q_ _ hp_ => ?_))
          refine ⟨rfl, fun _ => ?_⟩; unfold s32_j1; simp only [List.getD_cons_zero, List.getD_cons_succ]
          (repeat (first | refine Sh.sv m ?_ | refine Sh.hv ?_ | (refine Sh.sw m ?_; clear m; intro g_ w m) | (refine Sh.su m ?_; clear m; intro w m) | (refine Sh.suN m ?_; clear m; intro w m) | (refine Sh.hr m ?_; clear m; intro m) | refine Sh.rsS m ?_ | refine Sh.hd m ?_ | refine Sh.rsK [] m ?_ | refine CN_tt ?_ | refine CN_ff ?_ | refine GD_tt ?_ | refine GD_ff ?_ | refine GD_tf ?_ | refine GD_ft ?_ | refine CN_true (by first | omega | (simp; done) | (simp; omega)) ?_ | refine CN_false (by first | omega | (simp; done) | (simp; omega)) ?_ | refine GD_true (by first | omega | (simp; done) | (simp; omega)) ?_ | refine GD_true' (by first | omega | (simp; done) | (simp; omega)) ?_ | refine GD_false (by first | omega | (simp; done) | (simp; omega)) ?_ | refine GD_false' (by first | omega | (simp; done) | (simp; omega)) ?_ | refine Sh.crN m ?_ | refine Sh.cr1 m ?_ | refine Sh.svI m (by first | omega | decide) (by first | omega | (simp; done) | (simp; omega)) fun q_ _ hp_ => ?_ | refine Sh.hvI m (by first | omega | decide) (by first | omega | (simp; done) | (simp; omega)) fun q_ _ hp_ => ?_ | refine Sh.svF m fun q_ _ hp_ => ?_ | refine Sh.hvF m fun q_ _ hp_ => ?_))
          refine lits eOp [⟨4, name, [], 0⟩] m [_] rfl rfl rfl (by simp) ?_; clear m; intro v1 w _ m
          refine ap m (by simp; omega) (by simp [maxLen]; omega) ?_; clear m; intro v3 w _ m
          (repeat (first | refine Sh.sv m ?_ | refine Sh.hv ?_ | (refine Sh.sw m ?_; clear m; intro g_ w m) | (refine Sh.su m ?_; clear m; intro w m) | (refine Sh.suN m ?_; clear m; intro w m) | (refine Sh.hr m ?_; clear m; intro m) | refine Sh.rsS m ?_ | refine Sh.hd m ?_ | refine Sh.rsK [] m ?_ | refine CN_tt ?_ | refine CN_ff ?_ | refine GD_tt ?_ | refine GD_ff ?_ | refine GD_tf ?_ | refine GD_ft ?_ | refine CN_true (by first | omega | (simp; done) | (simp; omega)) ?_ | refine CN_false (by first | omega | (simp; done) | (simp; omega)) ?_ | refine GD_true (by first | omega | (simp; done) | (simp; omega)) ?_ | refine GD_true' (by first | omega | (simp; done) | (simp; omega)) ?_ | refine GD_false (by first | omega | (simp; done) | (simp; omega)) ?_ | refine GD_false' (by first | omega | (simp; done) | (simp; omega)) ?_ | refine Sh.crN m ?_ | refine Sh.cr1 m ?_ | refine Sh.svI m (by first | omega | decide) (by first | omega | (simp; done) | (simp; omega)) fun q_ _ hp_ => ?_ | refine Sh.hvI m (by first | omega | decide) (by first | omega | (simp; done) | (simp; omega)) fun q_ _ hp_ => ?_ | refine Sh.svF m fun q_ _ hp_ => ?_ | refine Sh.hvF m fun q_ _ hp_ => ?_))
          refine ⟨fin v3 w ?_, by simp; omega⟩
          have h := m.sub (X := [own eOp v3 _, sl eFile ov old, sl eFile nv now]) (by repeat (first | exact Frm.nil | (with_reducible exact Rem.dup) | (with_reducible exact Rem.here) | apply Frm.cons | apply Rem.there))
          simpa [changeOf, h0] using h
        · have h0' : a = [] := by simpa using h0
          subst h0'
          refine ⟨rfl, fun _ => ?_⟩; unfold s32_j1; simp only [List.getD_cons_zero, List.getD_cons_succ]
          (repeat (first | refine Sh.sv m ?_ | refine Sh.hv ?_ | (refine Sh.sw m ?_; clear m; intro g_ w m) | (refine Sh.su m ?_; clear m; intro w m) | (refine Sh.suN m ?_; clear m; intro w m) | (refine Sh.hr m ?_; clear m; intro m) | refine Sh.rsS m ?_ | refine Sh.hd m ?_ | refine Sh.rsK [] m ?_ | refine CN_tt ?_ | refine CN_ff ?_ | refine GD_tt ?_ | refine GD_ff ?_ | refine GD_tf ?_ | refine GD_ft ?_ | refine CN_true (by first | omega | (simp; done) | (simp; omega)) ?_ | refine CN_false (by first | omega | (simp; done) | (simp; omega)) ?_ | refine GD_true (by first | omega | (simp; done) | (simp; omega)) ?_ | refine GD_true' (by first | omega | (simp; done) | (simp; omega)) ?_ | refine GD_false (by first | omega | (simp; done) | (simp; omega)) ?_ | refine GD_false' (by first | omega | (simp; done) | (simp; omega)) ?_ | refine Sh.crN m ?_ | refine Sh.cr1 m ?_ | refine Sh.svI m (by first | omega | decide) (by first | omega | (simp; done) | (simp; omega)) fun q_ _ hp_ => ?_ | refine Sh.hvI m (by first | omega | decide) (by first | omega | (simp; done) | (simp; omega)) fun q_ _ hp_ => ?_ | refine Sh.svF m fun q_ _ hp_ => ?_ | refine Sh.hvF m fun q_ _ hp_ => ?_))
          refine lits eOp [⟨4, name, [], 0⟩] m [_] rfl rfl rfl (by simp) ?_; clear m; intro v1 w _ m
          refine ap m (by simp; omega) (by simp [maxLen]; omega) ?_; clear m; intro v3 w _ m
          (repeat (first | refine Sh.sv m ?_ | refine Sh.hv ?_ | (refine Sh.sw m ?_; clear m; intro g_ w m) | (refine Sh.su m ?_; clear m; intro w m) | (refine Sh.suN m ?_; clear m; intro w m) | (refine Sh.hr m ?_; clear m; intro m) | refine Sh.rsS m ?_ | refine Sh.hd m ?_ | refine Sh.rsK [] m ?_ | refine CN_tt ?_ | refine CN_ff ?_ | refine GD_tt ?_ | refine GD_ff ?_ | refine GD_tf ?_ | refine GD_ft ?_ | refine CN_true (by first | omega | (simp; done) | (simp; omega)) ?_ | refine CN_false (by first | omega | (simp; done) | (simp; omega)) ?_ | refine GD_true (by first | omega | (simp; done) | (simp; omega)) ?_ | refine GD_true' (by first | omega | (simp; done) | (simp; omega)) ?_ | refine GD_false (by first | omega | (simp; done) | (simp; omega)) ?_ | refine GD_false' (by first | omega | (simp; done) | (simp; omega)) ?_ | refine Sh.crN m ?_ | refine Sh.cr1 m ?_ | refine Sh.svI m (by first | omega | decide) (by first | omega | (simp; done) | (simp; omega)) fun q_ _ hp_ => ?_ | refine Sh.hvI m (by first | omega | decide) (by first | omega | (simp; done) | (simp; omega)) fun q_ _ hp_ => ?_ | refine Sh.svF m fun q_ _ hp_ => ?_ | refine Sh.hvF m fun q_ _ hp_ => ?_))
          refine ⟨fin v3 w ?_, by simp; omega⟩
          have h := m.sub (X := [own eOp v3 _, sl eFile ov old, sl eFile nv now]) (by repeat (first | exact Frm.nil | (with_reducible exact Rem.dup) | (with_reducible exact Rem.here) | apply Frm.cons | apply Rem.there))
          simpa [changeOf] using h
      | some b =>
        simp only [Option.isSome_none, Option.isSome_some, Bool.toNat_false, Bool.toNat_true, Nat.add_zero, Option.getD_none, Option.getD_some] at *
        subst hi' hk'
        refine JP_in ?_; (repeat (first | refine Sh.sv m ?_ | refine Sh.hv ?_ | (refine Sh.sw m ?_; clear m; intro g_ w m) | (refine Sh.su m ?_; clear m; intro w m) | (refine Sh.suN m ?_; clear m; intro w m) | (refine Sh.hr m ?_; clear m; intro m) | refine Sh.rsS m ?_ | refine Sh.hd m ?_ | refine Sh.rsK [] m ?_ | refine CN_tt ?_ | refine CN_ff ?_ | refine GD_tt ?_ | refine GD_ff ?_ | refine GD_tf ?_ | refine GD_ft ?_ | refine CN_true (by first | omega | (simp; done) | (simp; omega)) ?_ | refine CN_false (by first | omega | (simp; done) | (simp; omega)) ?_ | refine GD_true (by first | omega | (simp; done) | (simp; omega)) ?_ | refine GD_true' (by first | omega | (simp; done) | (simp; omega)) ?_ | refine GD_false (by first | omega | (simp; done) | (simp; omega)) ?_ | refine GD_false' (by first | omega | (simp; done) | (simp; omega)) ?_ | refine Sh.crN m ?_ | refine Sh.cr1 m ?_ | refine Sh.svI m (by first | omega | decide) (by first | omega | (simp; done) | (simp; omega)) fun q_ _ hp_ => ?_ | refine Sh.hvI m (by first | omega | decide) (by first | omega | (simp; done) | (simp; omega)) fun q_ _ hp_ => ?_ | refine Sh.svF m fun q_ _ hp_ => ?_ | refine Sh.hvF m fun q_ _ hp_ => ?_)); refine ⟨rfl, fun _ => ?_⟩; unfold s32_j4; simp only [List.getD_cons_zero, List.getD_cons_succ]
        refine JP_in ?_; (repeat (first | refine Sh.sv m ?_ | refine Sh.hv ?_ | (refine Sh.sw m ?_; clear m; intro g_ w m) | (refine Sh.su m ?_; clear m; intro w m) | (refine Sh.suN m ?_; clear m; intro w m) | (refine Sh.hr m ?_; clear m; intro m) | refine Sh.rsS m ?_ | refine Sh.hd m ?_ | refine Sh.rsK [] m ?_ | refine CN_tt ?_ | refine CN_ff ?_ | refine GD_tt ?_ | refine GD_ff ?_ | refine GD_tf ?_ | refine GD_ft ?_ | refine CN_true (by first | omega | (simp; done) | (simp; omega)) ?_ | refine CN_false (by first | omega | (simp; done) | (simp; omega)) ?_ | refine GD_true (by first | omega | (simp; done) | (simp; omega)) ?_ | refine GD_true' (by first | omega | (simp; done) | (simp; omega)) ?_ | refine GD_false (by first | omega | (simp; done) | (simp; omega)) ?_ | refine GD_false' (by first | omega | (simp; done) | (simp; omega)) ?_ | refine Sh.crN m ?_ | refine Sh.cr1 m ?_ | refine Sh.svI m (by first | omega | decide) (by first | omega | (simp; done) | (simp; omega)) fun q_ _ hp_ => ?_ | refine Sh.hvI m (by first | omega | decide) (by first | omega | (simp; done) | (simp; omega)) fun q_ _ hp_ => ?_ | refine Sh.svF m fun q_ _ hp_ => ?_ | refine Sh.hvF m fun q_ _ hp_ => ?_)); refine ⟨rfl, fun _ => ?_⟩; unfold s32_j3; simp only [List.getD_cons_zero, List.getD_cons_succ]
        refine JP_in ?_; (repeat (first | refine Sh.sv m ?_ | refine Sh.hv ?_ | (refine Sh.sw m ?_; clear m; intro g_ w m) | (refine Sh.su m ?_; clear m; intro w m) | (refine Sh.suN m ?_; clear m; intro w m) | (refine Sh.hr m ?_; clear m; intro m) | refine Sh.rsS m ?_ | refine Sh.hd m ?_ | refine Sh.rsK [] m ?_ | refine CN_tt ?_ | refine CN_ff ?_ | refine GD_tt ?_ | refine GD_ff ?_ | refine GD_tf ?_ | refine GD_ft ?_ | refine CN_true (by first | omega | (simp; done) | (simp; omega)) ?_ | refine CN_false (by first | omega | (simp; done) | (simp; omega)) ?_ | refine GD_true (by first | omega | (simp; done) | (simp; omega)) ?_ | refine GD_true' (by first | omega | (simp; done) | (simp; omega)) ?_ | refine GD_false (by first | omega | (simp; done) | (simp; omega)) ?_ | refine GD_false' (by first | omega | (simp; done) | (simp; omega)) ?_ | refine Sh.crN m ?_ | refine Sh.cr1 m ?_ | refine Sh.svI m (by first | omega | decide) (by first | omega | (simp; done) | (simp; omega)) fun q_ _ hp_ => ?_ | refine Sh.hvI m (by first | omega | decide) (by first | omega | (simp; done) | (simp; omega)) fun q_ _ hp_ => ?_ | refine Sh.svF m fun q_ _ hp_ => ?_ | refine Sh.hvF m fun q_ _ hp_ => ?_)); refine ⟨rfl, fun _ => ?_⟩; unfold s32_j2; simp only [List.getD_cons_zero, List.getD_cons_succ]
        refine JP_in ?_; (repeat (first | refine Sh.sv m ?_ | refine Sh.hv ?_ | (refine Sh.sw m ?_; clear m; intro g_ w m) | (refine Sh.su m ?_; clear m; intro w m) | (refine Sh.suN m ?_; clear m; intro w m) | (refine Sh.hr m ?_; clear m; intro m) | refine Sh.rsS m ?_ | refine Sh.hd m ?_ | refine Sh.rsK [] m ?_ | refine CN_tt ?_ | refine CN_ff ?_ | refine GD_tt ?_ | refine GD_ff ?_ | refine GD_tf ?_ | refine GD_ft ?_ | refine CN_true (by first | omega | (simp; done) | (simp; omega)) ?_ | refine CN_false (by first | omega | (simp; done) | (simp; omega)) ?_ | refine GD_true (by first | omega | (simp; done) | (simp; omega)) ?_ | refine GD_true' (by first | omega | (simp; done) | (simp; omega)) ?_ | refine GD_false (by first | omega | (simp; done) | (simp; omega)) ?_ | refine GD_false' (by first | omega | (simp; done) | (simp; omega)) ?_ | refine Sh.crN m ?_ | refine Sh.cr1 m ?_ | refine Sh.svI m (by first | omega | decide) (by first | omega | (simp; done) | (simp; omega)) fun q_ _ hp_ => ?_ | refine Sh.hvI m (by first | omega | decide) (by first | omega | (simp; done) | (simp; omega)) fun q_ _ hp_ => ?_ | refine Sh.svF m fun q_ _ hp_ => ?_ | refine Sh.hvF m fun q_ _ hp_ => ?_)); refine ⟨rfl, fun _ => ?_⟩; unfold s32_j1; simp only [List.getD_cons_zero, List.getD_cons_succ]
        (repeat (first | refine Sh.sv m ?_ | refine Sh.hv ?_ | (refine Sh.sw m ?_; clear m; intro g_ w m) | (refine Sh.su m ?_; clear m; intro w m) | (refine Sh.suN m ?_; clear m; intro w m) | (refine Sh.hr m ?_; clear m; intro m) | refine Sh.rsS m ?_ | refine Sh.hd m ?_ | refine Sh.rsK [] m ?_ | refine CN_tt ?_ | refine CN_ff ?_ | refine GD_tt ?_ | refine GD_ff ?_ | refine GD_tf ?_ | refine GD_ft ?_ | refine CN_true (by first | omega | (simp; done) | (simp; omega)) ?_ | refine CN_false (by first | omega | (simp; done) | (simp; omega)) ?_ | refine GD_true (by first | omega | (simp; done) | (simp; omega)) ?_ | refine GD_true' (by first | omega | (simp; done) | (simp; omega)) ?_ | refine GD_false (by first | omega | (simp; done) | (simp; omega)) ?_ | refine GD_false' (by first | omega | (simp; done) | (simp; omega)) ?_ | refine Sh.crN m ?_ | refine Sh.cr1 m ?_ | refine Sh.svI m (by first | omega | decide) (by first | omega | (simp; done) | (simp; omega)) fun q_ _ hp_ => ?_ | refine Sh.hvI m (by first | omega | decide) (by first | omega | (simp; done) | (simp; omega)) fun q_ _ hp_ => ?_ | refine Sh.svF m fun q_ _ hp_ => ?_ | refine Sh.hvF m fun q_ _ hp_ => ?_))
        refine n98 (m.ret (ref_begins b a _) ?_); clear m; intro w m
        refine n98 (m.ret (ref_begins a b _) ?_); clear m; intro w m
        (repeat (first | refine Sh.sv m ?_ | refine Sh.hv ?_ | (refine Sh.sw m ?_; clear m; intro g_ w m) | (refine Sh.su m ?_; clear m; intro w m) | (refine Sh.suN m ?_; clear m; intro w m) | (refine Sh.hr m ?_; clear m; intro m) | refine Sh.rsS m ?_ | refine Sh.hd m ?_ | refine Sh.rsK [] m ?_ | refine CN_tt ?_ | refine CN_ff ?_ | refine GD_tt ?_ | refine GD_ff ?_ | refine GD_tf ?_ | refine GD_ft ?_ | refine CN_true (by first | omega | (simp; done) | (simp; omega)) ?_ | refine CN_false (by first | omega | (simp; done) | (simp; omega)) ?_ | refine GD_true (by first | omega | (simp; done) | (simp; omega)) ?_ | refine GD_true' (by first | omega | (simp; done) | (simp; omega)) ?_ | refine GD_false (by first | omega | (simp; done) | (simp; omega)) ?_ | refine GD_false' (by first | omega | (simp; done) | (simp; omega)) ?_ | refine Sh.crN m ?_ | refine Sh.cr1 m ?_ | refine Sh.svI m (by first | omega | decide) (by first | omega | (simp; done) | (simp; omega)) fun q_ _ hp_ => ?_ | refine Sh.hvI m (by first | omega | decide) (by first | omega | (simp; done) | (simp; omega)) fun q_ _ hp_ => ?_ | refine Sh.svF m fun q_ _ hp_ => ?_ | refine Sh.hvF m fun q_ _ hp_ => ?_))
        refine CN_split (fun h0 => ?_) (fun h0 => ?_)
        · subst h0
          refine ⟨fin v w ?_, by simp; omega⟩
          have h := m.sub (X := [own eOp v _, sl eFile ov old, sl eFile nv now]) (by repeat (first | exact Frm.nil | (with_reducible exact Rem.dup) | (with_reducible exact Rem.here) | apply Frm.cons | apply Rem.there))
          simpa [changeOf, isPre] using h
        · cases h1 : isPre a b with
          | true =>
            have hle : a.length ≤ b.length := by simp [isPre] at h1; exact h1.1
            (repeat (first | refine Sh.sv m ?_ | refine Sh.hv ?_ | (refine Sh.sw m ?_; clear m; intro g_ w m) | (refine Sh.su m ?_; clear m; intro w m) | (refine Sh.suN m ?_; clear m; intro w m) | (refine Sh.hr m ?_; clear m; intro m) | refine Sh.rsS m ?_ | refine Sh.hd m ?_ | refine Sh.rsK [] m ?_ | refine CN_tt ?_ | refine CN_ff ?_ | refine GD_tt ?_ | refine GD_ff ?_ | refine GD_tf ?_ | refine GD_ft ?_ | refine CN_true (by first | omega | (simp; done) | (simp; omega)) ?_ | refine CN_false (by first | omega | (simp; done) | (simp; omega)) ?_ | refine GD_true (by first | omega | (simp; done) | (simp; omega)) ?_ | refine GD_true' (by first | omega | (simp; done) | (simp; omega)) ?_ | refine GD_false (by first | omega | (simp; done) | (simp; omega)) ?_ | refine GD_false' (by first | omega | (simp; done) | (simp; omega)) ?_ | refine Sh.crN m ?_ | refine Sh.cr1 m ?_ | refine Sh.svI m (by first | omega | decide) (by first | omega | (simp; done) | (simp; omega)) fun q_ _ hp_ => ?_ | refine Sh.hvI m (by first | omega | decide) (by first | omega | (simp; done) | (simp; omega)) fun q_ _ hp_ => ?_ | refine Sh.svF m fun q_ _ hp_ => ?_ | refine Sh.hvF m fun q_ _ hp_ => ?_))
            refine lits eOp [⟨2, name, b.drop a.length, 0⟩] m [_] rfl rfl rfl (by simp) ?_; clear m; intro v1 w _ m
            refine ap m (by simp; omega) (by simp [maxLen]; omega) ?_; clear m; intro v3 w _ m
            (repeat (first | refine Sh.sv m ?_ | refine Sh.hv ?_ | (refine Sh.sw m ?_; clear m; intro g_ w m) | (refine Sh.su m ?_; clear m; intro w m) | (refine Sh.suN m ?_; clear m; intro w m) | (refine Sh.hr m ?_; clear m; intro m) | refine Sh.rsS m ?_ | refine Sh.hd m ?_ | refine Sh.rsK [] m ?_ | refine CN_tt ?_ | refine CN_ff ?_ | refine GD_tt ?_ | refine GD_ff ?_ | refine GD_tf ?_ | refine GD_ft ?_ | refine CN_true (by first | omega | (simp; done) | (simp; omega)) ?_ | refine CN_false (by first | omega | (simp; done) | (simp; omega)) ?_ | refine GD_true (by first | omega | (simp; done) | (simp; omega)) ?_ | refine GD_true' (by first | omega | (simp; done) | (simp; omega)) ?_ | refine GD_false (by first | omega | (simp; done) | (simp; omega)) ?_ | refine GD_false' (by first | omega | (simp; done) | (simp; omega)) ?_ | refine Sh.crN m ?_ | refine Sh.cr1 m ?_ | refine Sh.svI m (by first | omega | decide) (by first | omega | (simp; done) | (simp; omega)) fun q_ _ hp_ => ?_ | refine Sh.hvI m (by first | omega | decide) (by first | omega | (simp; done) | (simp; omega)) fun q_ _ hp_ => ?_ | refine Sh.svF m fun q_ _ hp_ => ?_ | refine Sh.hvF m fun q_ _ hp_ => ?_))
            refine ⟨fin v3 w ?_, by simp; omega⟩
            have h := m.sub (X := [own eOp v3 _, sl eFile ov old, sl eFile nv now]) (by repeat (first | exact Frm.nil | (with_reducible exact Rem.dup) | (with_reducible exact Rem.here) | apply Frm.cons | apply Rem.there))
            have h2 : ¬ b.length ≤ a.length := fun h => h0 (isPre_self h1 (List.drop_eq_nil_of_le h))
            simpa [changeOf, h1, h2] using h
          | false =>
            (repeat (first | refine Sh.sv m ?_ | refine Sh.hv ?_ | (refine Sh.sw m ?_; clear m; intro g_ w m) | (refine Sh.su m ?_; clear m; intro w m) | (refine Sh.suN m ?_; clear m; intro w m) | (refine Sh.hr m ?_; clear m; intro m) | refine Sh.rsS m ?_ | refine Sh.hd m ?_ | refine Sh.rsK [] m ?_ | refine CN_tt ?_ | refine CN_ff ?_ | refine GD_tt ?_ | refine GD_ff ?_ | refine GD_tf ?_ | refine GD_ft ?_ | refine CN_true (by first | omega | (simp; done) | (simp; omega)) ?_ | refine CN_false (by first | omega | (simp; done) | (simp; omega)) ?_ | refine GD_true (by first | omega | (simp; done) | (simp; omega)) ?_ | refine GD_true' (by first | omega | (simp; done) | (simp; omega)) ?_ | refine GD_false (by first | omega | (simp; done) | (simp; omega)) ?_ | refine GD_false' (by first | omega | (simp; done) | (simp; omega)) ?_ | refine Sh.crN m ?_ | refine Sh.cr1 m ?_ | refine Sh.svI m (by first | omega | decide) (by first | omega | (simp; done) | (simp; omega)) fun q_ _ hp_ => ?_ | refine Sh.hvI m (by first | omega | decide) (by first | omega | (simp; done) | (simp; omega)) fun q_ _ hp_ => ?_ | refine Sh.svF m fun q_ _ hp_ => ?_ | refine Sh.hvF m fun q_ _ hp_ => ?_))
            cases h2 : isPre b a with
            | true =>
              (repeat (first | refine Sh.sv m ?_ | refine Sh.hv ?_ | (refine Sh.sw m ?_; clear m; intro g_ w m) | (refine Sh.su m ?_; clear m; intro w m) | (refine Sh.suN m ?_; clear m; intro w m) | (refine Sh.hr m ?_; clear m; intro m) | refine Sh.rsS m ?_ | refine Sh.hd m ?_ | refine Sh.rsK [] m ?_ | refine CN_tt ?_ | refine CN_ff ?_ | refine GD_tt ?_ | refine GD_ff ?_ | refine GD_tf ?_ | refine GD_ft ?_ | refine CN_true (by first | omega | (simp; done) | (simp; omega)) ?_ | refine CN_false (by first | omega | (simp; done) | (simp; omega)) ?_ | refine GD_true (by first | omega | (simp; done) | (simp; omega)) ?_ | refine GD_true' (by first | omega | (simp; done) | (simp; omega)) ?_ | refine GD_false (by first | omega | (simp; done) | (simp; omega)) ?_ | refine GD_false' (by first | omega | (simp; done) | (simp; omega)) ?_ | refine Sh.crN m ?_ | refine Sh.cr1 m ?_ | refine Sh.svI m (by first | omega | decide) (by first | omega | (simp; done) | (simp; omega)) fun q_ _ hp_ => ?_ | refine Sh.hvI m (by first | omega | decide) (by first | omega | (simp; done) | (simp; omega)) fun q_ _ hp_ => ?_ | refine Sh.svF m fun q_ _ hp_ => ?_ | refine Sh.hvF m fun q_ _ hp_ => ?_))
              refine lits eOp [⟨3, name, [], b.length⟩] m [_] rfl rfl rfl (by simp) ?_; clear m; intro v1 w _ m
              refine ap m (by simp; omega) (by simp [maxLen]; omega) ?_; clear m; intro v3 w _ m
              (repeat (first | refine Sh.sv m ?_ | refine Sh.hv ?_ | (refine Sh.sw m ?_; clear m; intro g_ w m) | (refine Sh.su m ?_; clear m; intro w m) | (refine Sh.suN m ?_; clear m; intro w m) | (refine Sh.hr m ?_; clear m; intro m) | refine Sh.rsS m ?_ | refine Sh.hd m ?_ | refine Sh.rsK [] m ?_ | refine CN_tt ?_ | refine CN_ff ?_ | refine GD_tt ?_ | refine GD_ff ?_ | refine GD_tf ?_ | refine GD_ft ?_ | refine CN_true (by first | omega | (simp; done) | (simp; omega)) ?_ | refine CN_false (by first | omega | (simp; done) | (simp; omega)) ?_ | refine GD_true (by first | omega | (simp; done) | (simp; omega)) ?_ | refine GD_true' (by first | omega | (simp; done) | (simp; omega)) ?_ | refine GD_false (by first | omega | (simp; done) | (simp; omega)) ?_ | refine GD_false' (by first | omega | (simp; done) | (simp; omega)) ?_ | refine Sh.crN m ?_ | refine Sh.cr1 m ?_ | refine Sh.svI m (by first | omega | decide) (by first | omega | (simp; done) | (simp; omega)) fun q_ _ hp_ => ?_ | refine Sh.hvI m (by first | omega | decide) (by first | omega | (simp; done) | (simp; omega)) fun q_ _ hp_ => ?_ | refine Sh.svF m fun q_ _ hp_ => ?_ | refine Sh.hvF m fun q_ _ hp_ => ?_))
              refine ⟨fin v3 w ?_, by simp; omega⟩
              have h := m.sub (X := [own eOp v3 _, sl eFile ov old, sl eFile nv now]) (by repeat (first | exact Frm.nil | (with_reducible exact Rem.dup) | (with_reducible exact Rem.here) | apply Frm.cons | apply Rem.there))
              simpa [changeOf, h1, h2] using h
            | false =>
              (repeat (first | refine Sh.sv m ?_ | refine Sh.hv ?_ | (refine Sh.sw m ?_; clear m; intro g_ w m) | (refine Sh.su m ?_; clear m; intro w m) | (refine Sh.suN m ?_; clear m; intro w m) | (refine Sh.hr m ?_; clear m; intro m) | refine Sh.rsS m ?_ | refine Sh.hd m ?_ | refine Sh.rsK [] m ?_ | refine CN_tt ?_ | refine CN_ff ?_ | refine GD_tt ?_ | refine GD_ff ?_ | refine GD_tf ?_ | refine GD_ft ?_ | refine CN_true (by first | omega | (simp; done) | (simp; omega)) ?_ | refine CN_false (by first | omega | (simp; done) | (simp; omega)) ?_ | refine GD_true (by first | omega | (simp; done) | (simp; omega)) ?_ | refine GD_true' (by first | omega | (simp; done) | (simp; omega)) ?_ | refine GD_false (by first | omega | (simp; done) | (simp; omega)) ?_ | refine GD_false' (by first | omega | (simp; done) | (simp; omega)) ?_ | refine Sh.crN m ?_ | refine Sh.cr1 m ?_ | refine Sh.svI m (by first | omega | decide) (by first | omega | (simp; done) | (simp; omega)) fun q_ _ hp_ => ?_ | refine Sh.hvI m (by first | omega | decide) (by first | omega | (simp; done) | (simp; omega)) fun q_ _ hp_ => ?_ | refine Sh.svF m fun q_ _ hp_ => ?_ | refine Sh.hvF m fun q_ _ hp_ => ?_))
              refine lits eOp [⟨5, name, b, 0⟩] m [_] rfl rfl rfl (by simp) ?_; clear m; intro v1 w _ m
              refine ap m (by simp; omega) (by simp [maxLen]; omega) ?_; clear m; intro v3 w _ m
              (repeat (first | refine Sh.sv m ?_ | refine Sh.hv ?_ | (refine Sh.sw m ?_; clear m; intro g_ w m) | (refine Sh.su m ?_; clear m; intro w m) | (refine Sh.suN m ?_; clear m; intro w m) | (refine Sh.hr m ?_; clear m; intro m) | refine Sh.rsS m ?_ | refine Sh.hd m ?_ | refine Sh.rsK [] m ?_ | refine CN_tt ?_ | refine CN_ff ?_ | refine GD_tt ?_ | refine GD_ff ?_ | refine GD_tf ?_ | refine GD_ft ?_ | refine CN_true (by first | omega | (simp; done) | (simp; omega)) ?_ | refine CN_false (by first | omega | (simp; done) | (simp; omega)) ?_ | refine GD_true (by first | omega | (simp; done) | (simp; omega)) ?_ | refine GD_true' (by first | omega | (simp; done) | (simp; omega)) ?_ | refine GD_false (by first | omega | (simp; done) | (simp; omega)) ?_ | refine GD_false' (by first | omega | (simp; done) | (simp; omega)) ?_ | refine Sh.crN m ?_ | refine Sh.cr1 m ?_ | refine Sh.svI m (by first | omega | decide) (by first | omega | (simp; done) | (simp; omega)) fun q_ _ hp_ => ?_ | refine Sh.hvI m (by first | omega | decide) (by first | omega | (simp; done) | (simp; omega)) fun q_ _ hp_ => ?_ | refine Sh.svF m fun q_ _ hp_ => ?_ | refine Sh.hvF m fun q_ _ hp_ => ?_))
              refine ⟨fin v3 w ?_, by simp; omega⟩
              have h := m.sub (X := [own eOp v3 _, sl eFile ov old, sl eFile nv now]) (by repeat (first | exact Frm.nil | (with_reducible exact Rem.dup) | (with_reducible exact Rem.here) | apply Frm.cons | apply Rem.there))
              simpa [changeOf, h1, h2] using h
  have memT : ∀ (l : List File) (j : Nat) (f : File), f ∈ l → f ∈ l.take j ∨ f ∈ l.drop j := fun l j f hf => by
    rw [← List.take_append_drop j l] at hf; exact List.mem_append.1 hf
  -- a name of the old ones alone
  have left : ∀ (a : File) (os : List File) (w : World), old.drop i = a :: os → (∀ y ∈ now.drop k, Op.bytesLess a.name y.name = true) → diffOf (old.drop i) (now.drop k) = changeOf a.name a.data [] true false ++ diffOf os (now.drop k) →
      St w0 [sl eFile ov old, sl eFile nv now] w [own eOp v acc, sl eFile ov old, sl eFile nv now] → _ := fun a os w e ha hdf m =>
    key a.name (some a.data) none (i + 1) k w (findF_drop hso e) (findF_none fun f hf => by
        rcases memT now k f hf with h | h
        · exact blt_ne (hB f h a (by rw [e]; exact List.mem_cons_self))
        · exact (blt_ne (ha f h)).symm) rfl rfl (by rw [hdf, (drop_succ' e).1]; rfl) (drop_succ' e).2.1 hk (by omega) (by simp)
      (fun x hx y hy => by
        rw [(drop_succ' e).2.2] at hx
        rcases List.mem_append.1 hx with hx | hx
        · exact hA x hx y hy
        · cases List.mem_singleton.1 hx; exact ha y hy)
      (fun x hx y hy => hB x hx y (by rw [e]; rw [(drop_succ' e).1] at hy; exact List.mem_cons_of_mem _ hy)) m
  have right : ∀ (b : File) (ns : List File) (w : World), now.drop k = b :: ns → (∀ y ∈ old.drop i, Op.bytesLess b.name y.name = true) → diffOf (old.drop i) (now.drop k) = changeOf b.name [] b.data false true ++ diffOf (old.drop i) ns →
      St w0 [sl eFile ov old, sl eFile nv now] w [own eOp v acc, sl eFile ov old, sl eFile nv now] → _ := fun b ns w e hb hdf m =>
    key b.name none (some b.data) i (k + 1) w (findF_none fun f hf => by
        rcases memT old i f hf with h | h
        · exact blt_ne (hA f h b (by rw [e]; exact List.mem_cons_self))
        · exact (blt_ne (hb f h)).symm) (findF_drop hsn e) rfl rfl (by rw [hdf, (drop_succ' e).1]; rfl) hi (drop_succ' e).2.1 (by omega) (hd b (List.mem_of_mem_drop (i := k) (by rw [e]; exact List.mem_cons_self)))
      (fun x hx y hy => hA x hx y (by rw [e]; rw [(drop_succ' e).1] at hy; exact List.mem_cons_of_mem _ hy))
      (fun x hx y hy => by
        rw [(drop_succ' e).2.2] at hx
        rcases List.mem_append.1 hx with hx | hx
        · exact hB x hx y hy
        · cases List.mem_singleton.1 hx; exact hb y hy) m
  have both : ∀ (a b : File) (os ns : List File) (w : World), old.drop i = a :: os → now.drop k = b :: ns → a.name = b.name → diffOf (old.drop i) (now.drop k) = changeOf a.name a.data b.data true true ++ diffOf os ns →
      St w0 [sl eFile ov old, sl eFile nv now] w [own eOp v acc, sl eFile ov old, sl eFile nv now] → _ := fun a b os ns w e e' hab hdf m =>
    key a.name (some a.data) (some b.data) (i + 1) (k + 1) w (findF_drop hso e) (by rw [hab]; exact findF_drop hsn e') rfl rfl (by rw [hdf, (drop_succ' e).1, (drop_succ' e').1]; rfl) (drop_succ' e).2.1 (drop_succ' e').2.1 (by omega) (hd b (List.mem_of_mem_drop (i := k) (by rw [e']; exact List.mem_cons_self)))
      (fun x hx y hy => by
        rw [(drop_succ' e').1] at hy
        rw [(drop_succ' e).2.2] at hx
        rcases List.mem_append.1 hx with hx | hx
        · exact hA x hx y (by rw [e']; exact List.mem_cons_of_mem _ hy)
        · cases List.mem_singleton.1 hx; rw [hab]; exact (rises_drop hsn e').1 y hy)
      (fun x hx y hy => by
        rw [(drop_succ' e).1] at hy
        rw [(drop_succ' e').2.2] at hx
        rcases List.mem_append.1 hx with hx | hx
        · exact hB x hx y (by rw [e]; exact List.mem_cons_of_mem _ hy)
        · cases List.mem_singleton.1 hx; rw [← hab]; exact (rises_drop hso e).1 y hy) m
  clear key
  by_cases hil : i < old.length
  · have e := List.drop_eq_getElem_cons hil
    by_cases hkl : k < now.length
    · have e' := List.drop_eq_getElem_cons hkl
      (repeat (first | refine Sh.sv m ?_ | refine Sh.hv ?_ | (refine Sh.sw m ?_; clear m; intro g_ w m) | (refine Sh.su m ?_; clear m; intro w m) | (refine Sh.suN m ?_; clear m; intro w m) | (refine Sh.hr m ?_; clear m; intro m) | refine Sh.rsS m ?_ | refine Sh.hd m ?_ | refine Sh.rsK [] m ?_ | refine CN_tt ?_ | refine CN_ff ?_ | refine GD_tt ?_ | refine GD_ff ?_ | refine GD_tf ?_ | refine GD_ft ?_ | refine CN_true (by first | omega | (simp; done) | (simp; omega)) ?_ | refine CN_false (by first | omega | (simp; done) | (simp; omega)) ?_ | refine GD_true (by first | omega | (simp; done) | (simp; omega)) ?_ | refine GD_true' (by first | omega | (simp; done) | (simp; omega)) ?_ | refine GD_false (by first | omega | (simp; done) | (simp; omega)) ?_ | refine GD_false' (by first | omega | (simp; done) | (simp; omega)) ?_ | refine Sh.crN m ?_ | refine Sh.cr1 m ?_ | refine Sh.svI m (by first | omega | decide) (by first | omega | (simp; done) | (simp; omega)) fun q_ _ hp_ => ?_ | refine Sh.hvI m (by first | omega | decide) (by first | omega | (simp; done) | (simp; omega)) fun q_ _ hp_ => ?_ | refine Sh.svF m fun q_ _ hp_ => ?_ | refine Sh.hvF m fun q_ _ hp_ => ?_))
      refine JP_in ?_
      have hne : ¬ ((k : Int) = (now.length : Int)) := by omega
      (repeat (first | refine Sh.sv m ?_ | refine Sh.hv ?_ | (refine Sh.sw m ?_; clear m; intro g_ w m) | (refine Sh.su m ?_; clear m; intro w m) | (refine Sh.suN m ?_; clear m; intro w m) | (refine Sh.hr m ?_; clear m; intro m) | refine Sh.rsS m ?_ | refine Sh.hd m ?_ | refine Sh.rsK [] m ?_ | refine CN_tt ?_ | refine CN_ff ?_ | refine GD_tt ?_ | refine GD_ff ?_ | refine GD_tf ?_ | refine GD_ft ?_ | refine CN_true (by first | omega | (simp; done) | (simp; omega)) ?_ | refine CN_false (by first | omega | (simp; done) | (simp; omega)) ?_ | refine GD_true (by first | omega | (simp; done) | (simp; omega)) ?_ | refine GD_true' (by first | omega | (simp; done) | (simp; omega)) ?_ | refine GD_false (by first | omega | (simp; done) | (simp; omega)) ?_ | refine GD_false' (by first | omega | (simp; done) | (simp; omega)) ?_ | refine Sh.crN m ?_ | refine Sh.cr1 m ?_ | refine Sh.svI m (by first | omega | decide) (by first | omega | (simp; done) | (simp; omega)) fun q_ _ hp_ => ?_ | refine Sh.hvI m (by first | omega | decide) (by first | omega | (simp; done) | (simp; omega)) fun q_ _ hp_ => ?_ | refine Sh.svF m fun q_ _ hp_ => ?_ | refine Sh.hvF m fun q_ _ hp_ => ?_))
      simp only [Int.toNat_natCast]
      have hda : ∀ y ∈ old.drop (i + 1), Op.bytesLess old[i].name y.name = true := (rises_drop hso e).1
      have hdb : ∀ y ∈ now.drop (k + 1), Op.bytesLess now[k].name y.name = true := (rises_drop hsn e').1
      rcases blt_tri old[i].name now[k].name with h | h | h
      · rw [h]
        (repeat (first | refine Sh.sv m ?_ | refine Sh.hv ?_ | (refine Sh.sw m ?_; clear m; intro g_ w m) | (refine Sh.su m ?_; clear m; intro w m) | (refine Sh.suN m ?_; clear m; intro w m) | (refine Sh.hr m ?_; clear m; intro m) | refine Sh.rsS m ?_ | refine Sh.hd m ?_ | refine Sh.rsK [] m ?_ | refine CN_tt ?_ | refine CN_ff ?_ | refine GD_tt ?_ | refine GD_ff ?_ | refine GD_tf ?_ | refine GD_ft ?_ | refine CN_true (by first | omega | (simp; done) | (simp; omega)) ?_ | refine CN_false (by first | omega | (simp; done) | (simp; omega)) ?_ | refine GD_true (by first | omega | (simp; done) | (simp; omega)) ?_ | refine GD_true' (by first | omega | (simp; done) | (simp; omega)) ?_ | refine GD_false (by first | omega | (simp; done) | (simp; omega)) ?_ | refine GD_false' (by first | omega | (simp; done) | (simp; omega)) ?_ | refine Sh.crN m ?_ | refine Sh.cr1 m ?_ | refine Sh.svI m (by first | omega | decide) (by first | omega | (simp; done) | (simp; omega)) fun q_ _ hp_ => ?_ | refine Sh.hvI m (by first | omega | decide) (by first | omega | (simp; done) | (simp; omega)) fun q_ _ hp_ => ?_ | refine Sh.svF m fun q_ _ hp_ => ?_ | refine Sh.hvF m fun q_ _ hp_ => ?_))
        refine ⟨rfl, fun _ => left old[i] _ _ e (fun y hy => ?_) ?_ m⟩
        · rw [e'] at hy
          rcases List.mem_cons.1 hy with rfl | hy
          · exact h
          · exact blt_trans h (hdb y hy)
        · rw [e, e', diffOf, if_pos h]
      · have h1 : Op.bytesLess old[i].name now[k].name = false := by rw [h]; exact blt_irr _
        have h2 : Op.bytesLess now[k].name old[i].name = false := by rw [h]; exact blt_irr _
        rw [show (Op.bytesLess old[i].name now[k].name || old[i].name == now[k].name) = true by simp [h]]
        (repeat (first | refine Sh.sv m ?_ | refine Sh.hv ?_ | (refine Sh.sw m ?_; clear m; intro g_ w m) | (refine Sh.su m ?_; clear m; intro w m) | (refine Sh.suN m ?_; clear m; intro w m) | (refine Sh.hr m ?_; clear m; intro m) | refine Sh.rsS m ?_ | refine Sh.hd m ?_ | refine Sh.rsK [] m ?_ | refine CN_tt ?_ | refine CN_ff ?_ | refine GD_tt ?_ | refine GD_ff ?_ | refine GD_tf ?_ | refine GD_ft ?_ | refine CN_true (by first | omega | (simp; done) | (simp; omega)) ?_ | refine CN_false (by first | omega | (simp; done) | (simp; omega)) ?_ | refine GD_true (by first | omega | (simp; done) | (simp; omega)) ?_ | refine GD_true' (by first | omega | (simp; done) | (simp; omega)) ?_ | refine GD_false (by first | omega | (simp; done) | (simp; omega)) ?_ | refine GD_false' (by first | omega | (simp; done) | (simp; omega)) ?_ | refine Sh.crN m ?_ | refine Sh.cr1 m ?_ | refine Sh.svI m (by first | omega | decide) (by first | omega | (simp; done) | (simp; omega)) fun q_ _ hp_ => ?_ | refine Sh.hvI m (by first | omega | decide) (by first | omega | (simp; done) | (simp; omega)) fun q_ _ hp_ => ?_ | refine Sh.svF m fun q_ _ hp_ => ?_ | refine Sh.hvF m fun q_ _ hp_ => ?_))
        refine ⟨rfl, fun _ => both old[i] now[k] _ _ _ e e' h ?_ m⟩
        rw [e, e', diffOf, if_neg (by simp [h1]), if_neg (by simp [h2]), h]
      · have h1 := blt_asymm h
        have h2 : (old[i].name == now[k].name) = false := by simpa using (blt_ne h).symm
        rw [h1, h2]
        (repeat (first | refine Sh.sv m ?_ | refine Sh.hv ?_ | (refine Sh.sw m ?_; clear m; intro g_ w m) | (refine Sh.su m ?_; clear m; intro w m) | (refine Sh.suN m ?_; clear m; intro w m) | (refine Sh.hr m ?_; clear m; intro m) | refine Sh.rsS m ?_ | refine Sh.hd m ?_ | refine Sh.rsK [] m ?_ | refine CN_tt ?_ | refine CN_ff ?_ | refine GD_tt ?_ | refine GD_ff ?_ | refine GD_tf ?_ | refine GD_ft ?_ | refine CN_true (by first | omega | (simp; done) | (simp; omega)) ?_ | refine CN_false (by first | omega | (simp; done) | (simp; omega)) ?_ | refine GD_true (by first | omega | (simp; done) | (simp; omega)) ?_ | refine GD_true' (by first | omega | (simp; done) | (simp; omega)) ?_ | refine GD_false (by first | omega | (simp; done) | (simp; omega)) ?_ | refine GD_false' (by first | omega | (simp; done) | (simp; omega)) ?_ | refine Sh.crN m ?_ | refine Sh.cr1 m ?_ | refine Sh.svI m (by first | omega | decide) (by first | omega | (simp; done) | (simp; omega)) fun q_ _ hp_ => ?_ | refine Sh.hvI m (by first | omega | decide) (by first | omega | (simp; done) | (simp; omega)) fun q_ _ hp_ => ?_ | refine Sh.svF m fun q_ _ hp_ => ?_ | refine Sh.hvF m fun q_ _ hp_ => ?_))
        refine ⟨rfl, fun _ => right now[k] _ _ e' (fun y hy => ?_) ?_ m⟩
        · rw [e] at hy
          rcases List.mem_cons.1 hy with rfl | hy
          · exact h
          · exact blt_trans h (hda y hy)
        · rw [e, e', diffOf, if_neg (by simp [h1]), if_pos h]
    · have hk' : k = now.length := by omega
      have e' : now.drop k = [] := List.drop_eq_nil_of_le (by omega)
      (repeat (first | refine Sh.sv m ?_ | refine Sh.hv ?_ | (refine Sh.sw m ?_; clear m; intro g_ w m) | (refine Sh.su m ?_; clear m; intro w m) | (refine Sh.suN m ?_; clear m; intro w m) | (refine Sh.hr m ?_; clear m; intro m) | refine Sh.rsS m ?_ | refine Sh.hd m ?_ | refine Sh.rsK [] m ?_ | refine CN_tt ?_ | refine CN_ff ?_ | refine GD_tt ?_ | refine GD_ff ?_ | refine GD_tf ?_ | refine GD_ft ?_ | refine CN_true (by first | omega | (simp; done) | (simp; omega)) ?_ | refine CN_false (by first | omega | (simp; done) | (simp; omega)) ?_ | refine GD_true (by first | omega | (simp; done) | (simp; omega)) ?_ | refine GD_true' (by first | omega | (simp; done) | (simp; omega)) ?_ | refine GD_false (by first | omega | (simp; done) | (simp; omega)) ?_ | refine GD_false' (by first | omega | (simp; done) | (simp; omega)) ?_ | refine Sh.crN m ?_ | refine Sh.cr1 m ?_ | refine Sh.svI m (by first | omega | decide) (by first | omega | (simp; done) | (simp; omega)) fun q_ _ hp_ => ?_ | refine Sh.hvI m (by first | omega | decide) (by first | omega | (simp; done) | (simp; omega)) fun q_ _ hp_ => ?_ | refine Sh.svF m fun q_ _ hp_ => ?_ | refine Sh.hvF m fun q_ _ hp_ => ?_))
      refine JP_in ?_
      (repeat (first | refine Sh.sv m ?_ | refine Sh.hv ?_ | (refine Sh.sw m ?_; clear m; intro g_ w m) | (refine Sh.su m ?_; clear m; intro w m) | (refine Sh.suN m ?_; clear m; intro w m) | (refine Sh.hr m ?_; clear m; intro m) | refine Sh.rsS m ?_ | refine Sh.hd m ?_ | refine Sh.rsK [] m ?_ | refine CN_tt ?_ | refine CN_ff ?_ | refine GD_tt ?_ | refine GD_ff ?_ | refine GD_tf ?_ | refine GD_ft ?_ | refine CN_true (by first | omega | (simp; done) | (simp; omega)) ?_ | refine CN_false (by first | omega | (simp; done) | (simp; omega)) ?_ | refine GD_true (by first | omega | (simp; done) | (simp; omega)) ?_ | refine GD_true' (by first | omega | (simp; done) | (simp; omega)) ?_ | refine GD_false (by first | omega | (simp; done) | (simp; omega)) ?_ | refine GD_false' (by first | omega | (simp; done) | (simp; omega)) ?_ | refine Sh.crN m ?_ | refine Sh.cr1 m ?_ | refine Sh.svI m (by first | omega | decide) (by first | omega | (simp; done) | (simp; omega)) fun q_ _ hp_ => ?_ | refine Sh.hvI m (by first | omega | decide) (by first | omega | (simp; done) | (simp; omega)) fun q_ _ hp_ => ?_ | refine Sh.svF m fun q_ _ hp_ => ?_ | refine Sh.hvF m fun q_ _ hp_ => ?_))
      simp only [Int.toNat_natCast]
      refine ⟨rfl, fun _ => left old[i] _ _ e (fun y hy => by rw [e'] at hy; cases hy) ?_ m⟩
      rw [e, e', diffOf]
  · have e : old.drop i = [] := List.drop_eq_nil_of_le (by omega)
    by_cases hkl : k < now.length
    · have e' := List.drop_eq_getElem_cons hkl
      (repeat (first | refine Sh.sv m ?_ | refine Sh.hv ?_ | (refine Sh.sw m ?_; clear m; intro g_ w m) | (refine Sh.su m ?_; clear m; intro w m) | (refine Sh.suN m ?_; clear m; intro w m) | (refine Sh.hr m ?_; clear m; intro m) | refine Sh.rsS m ?_ | refine Sh.hd m ?_ | refine Sh.rsK [] m ?_ | refine CN_tt ?_ | refine CN_ff ?_ | refine GD_tt ?_ | refine GD_ff ?_ | refine GD_tf ?_ | refine GD_ft ?_ | refine CN_true (by first | omega | (simp; done) | (simp; omega)) ?_ | refine CN_false (by first | omega | (simp; done) | (simp; omega)) ?_ | refine GD_true (by first | omega | (simp; done) | (simp; omega)) ?_ | refine GD_true' (by first | omega | (simp; done) | (simp; omega)) ?_ | refine GD_false (by first | omega | (simp; done) | (simp; omega)) ?_ | refine GD_false' (by first | omega | (simp; done) | (simp; omega)) ?_ | refine Sh.crN m ?_ | refine Sh.cr1 m ?_ | refine Sh.svI m (by first | omega | decide) (by first | omega | (simp; done) | (simp; omega)) fun q_ _ hp_ => ?_ | refine Sh.hvI m (by first | omega | decide) (by first | omega | (simp; done) | (simp; omega)) fun q_ _ hp_ => ?_ | refine Sh.svF m fun q_ _ hp_ => ?_ | refine Sh.hvF m fun q_ _ hp_ => ?_))
      refine JP_in ?_
      (repeat (first | refine Sh.sv m ?_ | refine Sh.hv ?_ | (refine Sh.sw m ?_; clear m; intro g_ w m) | (refine Sh.su m ?_; clear m; intro w m) | (refine Sh.suN m ?_; clear m; intro w m) | (refine Sh.hr m ?_; clear m; intro m) | refine Sh.rsS m ?_ | refine Sh.hd m ?_ | refine Sh.rsK [] m ?_ | refine CN_tt ?_ | refine CN_ff ?_ | refine GD_tt ?_ | refine GD_ff ?_ | refine GD_tf ?_ | refine GD_ft ?_ | refine CN_true (by first | omega | (simp; done) | (simp; omega)) ?_ | refine CN_false (by first | omega | (simp; done) | (simp; omega)) ?_ | refine GD_true (by first | omega | (simp; done) | (simp; omega)) ?_ | refine GD_true' (by first | omega | (simp; done) | (simp; omega)) ?_ | refine GD_false (by first | omega | (simp; done) | (simp; omega)) ?_ | refine GD_false' (by first | omega | (simp; done) | (simp; omega)) ?_ | refine Sh.crN m ?_ | refine Sh.cr1 m ?_ | refine Sh.svI m (by first | omega | decide) (by first | omega | (simp; done) | (simp; omega)) fun q_ _ hp_ => ?_ | refine Sh.hvI m (by first | omega | decide) (by first | omega | (simp; done) | (simp; omega)) fun q_ _ hp_ => ?_ | refine Sh.svF m fun q_ _ hp_ => ?_ | refine Sh.hvF m fun q_ _ hp_ => ?_))
      simp only [Int.toNat_natCast]
      refine ⟨rfl, fun _ => right now[k] _ _ e' (fun y hy => by rw [e] at hy; cases hy) ?_ m⟩
      rw [e, e', diffOf]
    · have e' : now.drop k = [] := List.drop_eq_nil_of_le (by omega)
      (repeat (first | refine Sh.sv m ?_ | refine Sh.hv ?_ | (refine Sh.sw m ?_; clear m; intro g_ w m) | (refine Sh.su m ?_; clear m; intro w m) | (refine Sh.suN m ?_; clear m; intro w m) | (refine Sh.hr m ?_; clear m; intro m) | refine Sh.rsS m ?_ | refine Sh.hd m ?_ | refine Sh.rsK [] m ?_ | refine CN_tt ?_ | refine CN_ff ?_ | refine GD_tt ?_ | refine GD_ff ?_ | refine GD_tf ?_ | refine GD_ft ?_ | refine CN_true (by first | omega | (simp; done) | (simp; omega)) ?_ | refine CN_false (by first | omega | (simp; done) | (simp; omega)) ?_ | refine GD_true (by first | omega | (simp; done) | (simp; omega)) ?_ | refine GD_true' (by first | omega | (simp; done) | (simp; omega)) ?_ | refine GD_false (by first | omega | (simp; done) | (simp; omega)) ?_ | refine GD_false' (by first | omega | (simp; done) | (simp; omega)) ?_ | refine Sh.crN m ?_ | refine Sh.cr1 m ?_ | refine Sh.svI m (by first | omega | decide) (by first | omega | (simp; done) | (simp; omega)) fun q_ _ hp_ => ?_ | refine Sh.hvI m (by first | omega | decide) (by first | omega | (simp; done) | (simp; omega)) fun q_ _ hp_ => ?_ | refine Sh.svF m fun q_ _ hp_ => ?_ | refine Sh.hvF m fun q_ _ hp_ => ?_))
      rw [e, e', diffOf, List.append_nil] at hacc
      rw [← hacc]
      exact m.sub (by repeat (first | exact Frm.nil | (with_reducible exact Rem.dup) | (with_reducible exact Rem.here) | apply Frm.cons | apply Rem.there))
end Go.Proofs.YtkdghnbogkbedaaGreatDoor

namespace Go.Proofs.YtkdghnbogkbedaaGreatDoor
open Go Go.Sh
set_option maxRecDepth 100000


theorem mixedXShard : Tryz.prog.follows .mixedOrders = true := by kernel_rfl

/-! ### 62: (*scrinium/shard.Shard).Rows -/

def s62 (P : Program) (k : Value → World → Prop) (a0_s : Value) (w : World) : Prop :=
  SV P (eqS .eql 97 (.tmp 3) (.const (Value.pointer none)) a0_s (Value.pointer none)) w fun t4 w =>
  CN t4
  (k (Value.slice none 0 0) w)
  (SV P (nilS a0_s) w fun t6 w =>
  SV P (Instr.fieldAt 166 t6 3) w fun t7 w =>
  SV P (Instr.loadAt 72 t7) w fun t8 w =>
  SN P (callFunc 122 #[t8]) w fun t9 w =>
  k t9 w)

theorem e62 (k : Value → World → Prop) (a0_s : Value) (w : World) : s62 Tryz.prog k a0_s w = vcF Tryz.prog Tryz.f62 [] [a0_s] k w := by kernel_rfl
theorem c62 {k : Value → World → Prop} {a0_s : Value} {w : World} (h : s62 Tryz.prog k a0_s w) : Calls Tryz.prog 62 #[a0_s] w (retP k) :=
  calls_of_vcF [] mixedXShard Tryz.func62 (by kernel_rfl) (Eq.mp (e62 k a0_s w) h)
theorem n62 {args : Array Value} {w : World} {k : Value → World → Prop} (h : Calls Tryz.prog 62 args w (retP k)) : SN Tryz.prog (callFunc 62 args) w k := sn_call Tryz.func62 (by kernel_rfl) (by kernel_rfl) h

/-! ### 117: (*scrinium/shard.Shard).Copy -/

def s117 (P : Program) (k : Value → World → Prop) (a0_s : Value) (w : World) : Prop :=
  SV P (eqS .eql 97 (.tmp 4) (.const (Value.pointer none)) a0_s (Value.pointer none)) w fun t5 w =>
  CN t5
  (k (Value.pointer none) w)
  (SV P (nilS a0_s) w fun t7 w =>
  SV P (Instr.loadAt 166 t7) w fun t8 w =>
  SV P (Instr.alloc 166 true (.tuple #[])) w fun c3 w =>
  SU P (Instr.storeAt 166 c3 t8) w fun w =>
  HR w fun C w =>
  HV P C (nilS a0_s) fun t10 =>
  HV P C (Instr.fieldAt 166 t10 2) fun t11 =>
  HV P C (Instr.loadAt 24 t11) fun t12 =>
  SN P (callFunc 88 #[t12]) w fun t13 w =>
  RS C w fun C =>
  HV P C (nilS a0_s) fun t15 =>
  HV P C (Instr.fieldAt 166 t15 3) fun t16 =>
  HV P C (Instr.loadAt 72 t16) fun t17 =>
  SN P (callFunc 122 #[t17]) w fun t18 w =>
  RS C w fun C =>
  HV P C (nilS a0_s) fun t20 =>
  HV P C (Instr.fieldAt 166 t20 4) fun t21 =>
  HV P C (Instr.loadAt 25 t21) fun t22 =>
  SN P (callFunc 89 #[t22]) w fun t23 w =>
  RS C w fun C =>
  HV P C (Instr.fieldAt 166 c3 2) fun t24 =>
  SU P (Instr.storeAt 24 t24 t13) w fun w =>
  RS C w fun C =>
  HV P C (Instr.fieldAt 166 c3 3) fun t25 =>
  SU P (Instr.storeAt 72 t25 t18) w fun w =>
  RS C w fun C =>
  HV P C (Instr.fieldAt 166 c3 4) fun t26 =>
  SU P (Instr.storeAt 25 t26 t23) w fun w =>
  k c3 w)

theorem e117 (k : Value → World → Prop) (a0_s : Value) (w : World) : s117 Tryz.prog k a0_s w = vcF Tryz.prog Tryz.f117 [] [a0_s] k w := by kernel_rfl
theorem c117 {k : Value → World → Prop} {a0_s : Value} {w : World} (h : s117 Tryz.prog k a0_s w) : Calls Tryz.prog 117 #[a0_s] w (retP k) :=
  calls_of_vcF [] mixedXShard Tryz.func117 (by kernel_rfl) (Eq.mp (e117 k a0_s w) h)
theorem n117 {args : Array Value} {w : World} {k : Value → World → Prop} (h : Calls Tryz.prog 117 args w (retP k)) : SN Tryz.prog (callFunc 117 args) w k := sn_call Tryz.func117 (by kernel_rfl) (by kernel_rfl) h

end Go.Proofs.YtkdghnbogkbedaaGreatDoor

namespace Go.Sh
open Go Go.RowKit
def eRec : Elt Record := ⟨79, 4, Record.cells, Record.len, Record.ones⟩
instance {x : Record} : EC eRec x x.cells := ⟨rfl⟩
/-- What a shard is. -/
structure ShardD where
  window : Int
  state : Int
  leaves : List Sum
  rows : List Record
  stone : Stone
/-- Where it lies. -/
structure ShardG where
  g : Nat
  gf : Nat
  vl : Value
  vr : Value
  vp : Value
  d : ShardD
abbrev shardCells (gf : Nat) (vl vr : Value) (window state : Int) (stone : Stone) : List Value := .int .i64 window :: .int .i64 state :: vl :: vr :: .pointer (some ⟨gf, 0, none⟩) :: stone.cells
abbrev shardL (s : ShardG) : List Fact :=
  [bk s.g 166 (shardCells s.gf s.vl s.vr s.d.window s.d.state s.d.stone), sl eSum s.vl s.d.leaves, sl eRec s.vr s.d.rows, fr s.gf s.vp s.d.leaves]
abbrev shardF (s : ShardG) : Fact := box (shardL s)
end Go.Sh
namespace Go.Proofs.YtkdghnbogkbedaaGreatDoor
open Go Go.Sh Go.RowKit
set_option maxRecDepth 100000
set_option maxHeartbeats 1000000
set_option linter.unusedSimpArgs false
set_option linter.unusedVariables false

instance : Zer Tryz.prog 166 (.int .i64 0 :: .int .i64 0 :: .slice none 0 0 :: .slice none 0 0 :: .pointer none :: Stone.zero.cells) := ⟨by kernel_rfl, by kernel_rfl⟩
instance : Bld Tryz.prog 166 (fun i => #[(0, 1), (1, 1), (2, 1), (3, 1), (4, 1), (5, 67)][i]?) (.int .i64 0 :: .int .i64 0 :: .slice none 0 0 :: .slice none 0 0 :: .pointer none :: Stone.zero.cells) := ⟨fun _ => by kernel_rfl⟩

theorem clone_rec {v : Value} {l : List Record} {w : World} (h : Mem w [sl eRec v l]) (hn : l.length ≤ 1000000) : Calls Tryz.prog 122 #[v] w (retP fun v' w' => w'.ownsRow w.heap.size eRec.e eRec.sz v' l.length (eRec.all l) ∧ Ch No w w') := by
  obtain ⟨_, hrd⟩ := h.is (sl eRec v l) List.mem_cons_self
  refine c122 ?_
  have h : cloneS 72 Tryz.prog (fun v' w' => w'.ownsRow w.heap.size eRec.e eRec.sz v' l.length (eRec.all l) ∧ Ch No w w') v w :=
    cloneS_ok (e := 79) (sz := 4) hrd (eRec.all_ones l) (by omega) fun v' w' ho hc => ⟨ho, hc⟩
  exact h

theorem fr_copy {g : Nat} {v : Value} {l : List Sum} {w0 : World} (h : Mem w0 [fr g v l]) (hl : l.length < 1099511627776) :
    Calls Tryz.prog 89 #[.pointer (some ⟨g, 0, none⟩)] w0 (retP fun r w' => ∃ g' v', r = .pointer (some ⟨g', 0, none⟩) ∧ St w0 [fr g v l] w' [fr g' v' l, fr g v l]) := by
  have m := St.start h
  replace m := m.open (by repeat (first | exact Frm.nil | (with_reducible exact Rem.dup) | (with_reducible exact Rem.here) | apply Frm.cons | apply Rem.there)); simp only [List.cons_append, List.nil_append] at m
  refine c89 ?_
  unfold s89
  have hpop : popc l.length ≤ 40 := popc_le (by simpa using hl)
  (repeat (first | refine Sh.sv m ?_ | refine Sh.hv ?_ | (refine Sh.sw m ?_; clear m; intro g_ w m) | (refine Sh.su m ?_; clear m; intro w m) | (refine Sh.suN m ?_; clear m; intro w m) | (refine Sh.hr m ?_; clear m; intro m) | refine Sh.rsS m ?_ | refine Sh.hd m ?_ | refine Sh.rsK [] m ?_ | refine CN_tt ?_ | refine CN_ff ?_ | refine GD_tt ?_ | refine GD_ff ?_ | refine GD_tf ?_ | refine GD_ft ?_ | refine CN_true (by first | omega | (simp; done) | (simp; omega)) ?_ | refine CN_false (by first | omega | (simp; done) | (simp; omega)) ?_ | refine GD_true (by first | omega | (simp; done) | (simp; omega)) ?_ | refine GD_true' (by first | omega | (simp; done) | (simp; omega)) ?_ | refine GD_false (by first | omega | (simp; done) | (simp; omega)) ?_ | refine GD_false' (by first | omega | (simp; done) | (simp; omega)) ?_ | refine Sh.crN m ?_ | refine Sh.cr1 m ?_ | refine Sh.svI m (by first | omega | decide) (by first | omega | (simp; done) | (simp; omega)) fun q_ _ hp_ => ?_ | refine Sh.hvI m (by first | omega | decide) (by first | omega | (simp; done) | (simp; omega)) fun q_ _ hp_ => ?_ | refine Sh.svF m fun q_ _ hp_ => ?_ | refine Sh.hvF m fun q_ _ hp_ => ?_))
  refine n88 (m.retOwn (clone_sum (m.get (by repeat (first | exact Frm.nil | (with_reducible exact Rem.dup) | (with_reducible exact Rem.here) | apply Frm.cons | apply Rem.there))) (by rw [peaksOf_len]; omega)) ?_); clear m; intro v2 w _ m
  (repeat (first | refine Sh.sv m ?_ | refine Sh.hv ?_ | (refine Sh.sw m ?_; clear m; intro g_ w m) | (refine Sh.su m ?_; clear m; intro w m) | (refine Sh.suN m ?_; clear m; intro w m) | (refine Sh.hr m ?_; clear m; intro m) | refine Sh.rsS m ?_ | refine Sh.hd m ?_ | refine Sh.rsK [] m ?_ | refine CN_tt ?_ | refine CN_ff ?_ | refine GD_tt ?_ | refine GD_ff ?_ | refine GD_tf ?_ | refine GD_ft ?_ | refine CN_true (by first | omega | (simp; done) | (simp; omega)) ?_ | refine CN_false (by first | omega | (simp; done) | (simp; omega)) ?_ | refine GD_true (by first | omega | (simp; done) | (simp; omega)) ?_ | refine GD_true' (by first | omega | (simp; done) | (simp; omega)) ?_ | refine GD_false (by first | omega | (simp; done) | (simp; omega)) ?_ | refine GD_false' (by first | omega | (simp; done) | (simp; omega)) ?_ | refine Sh.crN m ?_ | refine Sh.cr1 m ?_ | refine Sh.svI m (by first | omega | decide) (by first | omega | (simp; done) | (simp; omega)) fun q_ _ hp_ => ?_ | refine Sh.hvI m (by first | omega | decide) (by first | omega | (simp; done) | (simp; omega)) fun q_ _ hp_ => ?_ | refine Sh.svF m fun q_ _ hp_ => ?_ | refine Sh.hvF m fun q_ _ hp_ => ?_))
  replace m := m.pub v2
  replace m := m.shut (L := [bk g 190 [.int .i64 l.length, v], sl eSum v (peaksOf l)]) (by repeat (first | exact Frm.nil | (with_reducible exact Rem.here) | apply Frm.cons | apply Rem.there))
  replace m := m.shut (L := [bk g_ 190 [.int .i64 l.length, v2], sl eSum v2 (peaksOf l)]) (by repeat (first | exact Frm.nil | (with_reducible exact Rem.here) | apply Frm.cons | apply Rem.there))
  exact ⟨g_, v2, rfl, m⟩

theorem shard_copy {s : ShardG} {w0 : World} (h : Mem w0 [shardF s]) (hl : s.d.leaves.length ≤ 1000000) (hr : s.d.rows.length ≤ 1000000) :
    Calls Tryz.prog 117 #[.pointer (some ⟨s.g, 0, none⟩)] w0 (retP fun r w' => ∃ s' : ShardG, s'.d = s.d ∧ r = .pointer (some ⟨s'.g, 0, none⟩) ∧ St w0 [shardF s] w' [shardF s', shardF s]) := by
  have m := St.start h
  replace m := m.open (by repeat (first | exact Frm.nil | (with_reducible exact Rem.dup) | (with_reducible exact Rem.here) | apply Frm.cons | apply Rem.there)); simp only [List.cons_append, List.nil_append] at m
  have i1 := m.isl (v := s.vl)
  have i2 := m.isl (v := s.vr)
  refine c117 ?_
  unfold s117
  (repeat (first | refine Sh.sv m ?_ | refine Sh.hv ?_ | (refine Sh.sw m ?_; clear m; intro g_ w m) | (refine Sh.su m ?_; clear m; intro w m) | (refine Sh.suN m ?_; clear m; intro w m) | (refine Sh.hr m ?_; clear m; intro m) | refine Sh.rsS m ?_ | refine Sh.hd m ?_ | refine Sh.rsK [] m ?_ | refine CN_tt ?_ | refine CN_ff ?_ | refine GD_tt ?_ | refine GD_ff ?_ | refine GD_tf ?_ | refine GD_ft ?_ | refine CN_true (by first | omega | (simp; done) | (simp; omega)) ?_ | refine CN_false (by first | omega | (simp; done) | (simp; omega)) ?_ | refine GD_true (by first | omega | (simp; done) | (simp; omega)) ?_ | refine GD_true' (by first | omega | (simp; done) | (simp; omega)) ?_ | refine GD_false (by first | omega | (simp; done) | (simp; omega)) ?_ | refine GD_false' (by first | omega | (simp; done) | (simp; omega)) ?_ | refine Sh.crN m ?_ | refine Sh.cr1 m ?_ | refine Sh.svI m (by first | omega | decide) (by first | omega | (simp; done) | (simp; omega)) fun q_ _ hp_ => ?_ | refine Sh.hvI m (by first | omega | decide) (by first | omega | (simp; done) | (simp; omega)) fun q_ _ hp_ => ?_ | refine Sh.svF m fun q_ _ hp_ => ?_ | refine Sh.hvF m fun q_ _ hp_ => ?_))
  refine n88 (m.retOwn (clone_sum (m.get (by repeat (first | exact Frm.nil | (with_reducible exact Rem.dup) | (with_reducible exact Rem.here) | apply Frm.cons | apply Rem.there))) (by omega)) ?_); clear m; intro v2 w _ m
  (repeat (first | refine Sh.sv m ?_ | refine Sh.hv ?_ | (refine Sh.sw m ?_; clear m; intro g_ w m) | (refine Sh.su m ?_; clear m; intro w m) | (refine Sh.suN m ?_; clear m; intro w m) | (refine Sh.hr m ?_; clear m; intro m) | refine Sh.rsS m ?_ | refine Sh.hd m ?_ | refine Sh.rsK [] m ?_ | refine CN_tt ?_ | refine CN_ff ?_ | refine GD_tt ?_ | refine GD_ff ?_ | refine GD_tf ?_ | refine GD_ft ?_ | refine CN_true (by first | omega | (simp; done) | (simp; omega)) ?_ | refine CN_false (by first | omega | (simp; done) | (simp; omega)) ?_ | refine GD_true (by first | omega | (simp; done) | (simp; omega)) ?_ | refine GD_true' (by first | omega | (simp; done) | (simp; omega)) ?_ | refine GD_false (by first | omega | (simp; done) | (simp; omega)) ?_ | refine GD_false' (by first | omega | (simp; done) | (simp; omega)) ?_ | refine Sh.crN m ?_ | refine Sh.cr1 m ?_ | refine Sh.svI m (by first | omega | decide) (by first | omega | (simp; done) | (simp; omega)) fun q_ _ hp_ => ?_ | refine Sh.hvI m (by first | omega | decide) (by first | omega | (simp; done) | (simp; omega)) fun q_ _ hp_ => ?_ | refine Sh.svF m fun q_ _ hp_ => ?_ | refine Sh.hvF m fun q_ _ hp_ => ?_))
  refine n122 (m.retOwn (clone_rec (m.get (by repeat (first | exact Frm.nil | (with_reducible exact Rem.dup) | (with_reducible exact Rem.here) | apply Frm.cons | apply Rem.there))) (by omega)) ?_); clear m; intro v3 w _ m
  (repeat (first | refine Sh.sv m ?_ | refine Sh.hv ?_ | (refine Sh.sw m ?_; clear m; intro g_ w m) | (refine Sh.su m ?_; clear m; intro w m) | (refine Sh.suN m ?_; clear m; intro w m) | (refine Sh.hr m ?_; clear m; intro m) | refine Sh.rsS m ?_ | refine Sh.hd m ?_ | refine Sh.rsK [] m ?_ | refine CN_tt ?_ | refine CN_ff ?_ | refine GD_tt ?_ | refine GD_ff ?_ | refine GD_tf ?_ | refine GD_ft ?_ | refine CN_true (by first | omega | (simp; done) | (simp; omega)) ?_ | refine CN_false (by first | omega | (simp; done) | (simp; omega)) ?_ | refine GD_true (by first | omega | (simp; done) | (simp; omega)) ?_ | refine GD_true' (by first | omega | (simp; done) | (simp; omega)) ?_ | refine GD_false (by first | omega | (simp; done) | (simp; omega)) ?_ | refine GD_false' (by first | omega | (simp; done) | (simp; omega)) ?_ | refine Sh.crN m ?_ | refine Sh.cr1 m ?_ | refine Sh.svI m (by first | omega | decide) (by first | omega | (simp; done) | (simp; omega)) fun q_ _ hp_ => ?_ | refine Sh.hvI m (by first | omega | decide) (by first | omega | (simp; done) | (simp; omega)) fun q_ _ hp_ => ?_ | refine Sh.svF m fun q_ _ hp_ => ?_ | refine Sh.hvF m fun q_ _ hp_ => ?_))
  refine n89 (m.call (fr_copy (m.get (by repeat (first | exact Frm.nil | (with_reducible exact Rem.dup) | (with_reducible exact Rem.here) | apply Frm.cons | apply Rem.there))) (by omega)) ?_); rintro r_ w ⟨g2, vp2, rfl, m1⟩
  replace m := m.fr (by repeat (first | exact Frm.nil | (with_reducible exact Rem.dup) | (with_reducible exact Rem.here) | apply Frm.cons | apply Rem.there)) m1; simp only [List.cons_append, List.nil_append] at m
  (repeat (first | refine Sh.sv m ?_ | refine Sh.hv ?_ | (refine Sh.sw m ?_; clear m; intro g_ w m) | (refine Sh.su m ?_; clear m; intro w m) | (refine Sh.suN m ?_; clear m; intro w m) | (refine Sh.hr m ?_; clear m; intro m) | refine Sh.rsS m ?_ | refine Sh.hd m ?_ | refine Sh.rsK [] m ?_ | refine CN_tt ?_ | refine CN_ff ?_ | refine GD_tt ?_ | refine GD_ff ?_ | refine GD_tf ?_ | refine GD_ft ?_ | refine CN_true (by first | omega | (simp; done) | (simp; omega)) ?_ | refine CN_false (by first | omega | (simp; done) | (simp; omega)) ?_ | refine GD_true (by first | omega | (simp; done) | (simp; omega)) ?_ | refine GD_true' (by first | omega | (simp; done) | (simp; omega)) ?_ | refine GD_false (by first | omega | (simp; done) | (simp; omega)) ?_ | refine GD_false' (by first | omega | (simp; done) | (simp; omega)) ?_ | refine Sh.crN m ?_ | refine Sh.cr1 m ?_ | refine Sh.svI m (by first | omega | decide) (by first | omega | (simp; done) | (simp; omega)) fun q_ _ hp_ => ?_ | refine Sh.hvI m (by first | omega | decide) (by first | omega | (simp; done) | (simp; omega)) fun q_ _ hp_ => ?_ | refine Sh.svF m fun q_ _ hp_ => ?_ | refine Sh.hvF m fun q_ _ hp_ => ?_))
  replace m := (m.pub v2).pub v3
  have m := m.shut (L := shardL ⟨g_, g2, v2, v3, vp2, s.d⟩) (by repeat (first | exact Frm.nil | (with_reducible exact Rem.here) | apply Frm.cons | apply Rem.there))
  have m := m.shut (L := shardL s) (by repeat (first | exact Frm.nil | (with_reducible exact Rem.here) | apply Frm.cons | apply Rem.there))
  exact ⟨⟨g_, g2, v2, v3, vp2, s.d⟩, rfl, rfl, m.sub (by repeat (first | exact Frm.nil | (with_reducible exact Rem.here) | apply Frm.cons | apply Rem.there))⟩
end Go.Proofs.YtkdghnbogkbedaaGreatDoor

namespace Go.Proofs.YtkdghnbogkbedaaGreatDoor
open Go Go.Sh
set_option maxRecDepth 100000


theorem mixedXVault : Tryz.prog.follows .mixedOrders = true := by kernel_rfl

/-! ### 35: scrinium/vault.New -/

def s35 (P : Program) (k : Value → World → Prop) (a0_width : Value) (a1_term : Value) (a2_key : Value) (w : World) : Prop :=
  SV P (binOp .lss 3 a0_width (Value.int .i64 1)) w fun t8 w =>
  GD t8 false
  (SV P (binOp .gtr 3 a0_width (Value.int .i64 1125899906842624)) w fun t11 w =>
  GD t11 false
  (SV P (binOp .lss 3 a1_term (Value.int .i64 0)) w fun t15 w =>
  GD t15 false
  (SV P (binOp .gtr 3 a1_term (Value.int .i64 1125899906842624)) w fun t19 w =>
  GD t19 false
  (SV P (Builtin.len_ #[9] 3 #[a2_key]) w fun t23 w =>
  SV P (binOp .gtr 3 t23 (Value.int .i64 64)) w fun t24 w =>
  CN t24
  (k (Value.pointer none) w)
  (SN P (callFunc 84 #[]) w fun t29 w =>
  SV P (Instr.build 126 #[(0, a0_width), (1, a1_term), (2, a2_key), (5, t29)]) w fun t30 w =>
  SV P (Instr.box 126 t30) w fun t31 w =>
  k t31 w))
  (k (Value.pointer none) w))
  (k (Value.pointer none) w))
  (k (Value.pointer none) w))
  (k (Value.pointer none) w)

theorem e35 (k : Value → World → Prop) (a0_width a1_term a2_key : Value) (w : World) : s35 Tryz.prog k a0_width a1_term a2_key w = vcF Tryz.prog Tryz.f35 [] [a0_width, a1_term, a2_key] k w := by kernel_rfl
theorem c35 {k : Value → World → Prop} {a0_width a1_term a2_key : Value} {w : World} (h : s35 Tryz.prog k a0_width a1_term a2_key w) : Calls Tryz.prog 35 #[a0_width, a1_term, a2_key] w (retP k) :=
  calls_of_vcF [] mixedXVault Tryz.func35 (by kernel_rfl) (Eq.mp (e35 k a0_width a1_term a2_key w) h)
theorem n35 {args : Array Value} {w : World} {k : Value → World → Prop} (h : Calls Tryz.prog 35 args w (retP k)) : SN Tryz.prog (callFunc 35 args) w k := sn_call Tryz.func35 (by kernel_rfl) (by kernel_rfl) h

/-! ### 37: (*scrinium/vault.Vault).Clock -/

def s37 (P : Program) (k : Value → World → Prop) (a0_v : Value) (w : World) : Prop :=
  SV P (eqS .eql 70 (.tmp 3) (.const (Value.pointer none)) a0_v (Value.pointer none)) w fun t4 w =>
  CN t4
  (k (Value.int .i64 0) w)
  (SV P (nilS a0_v) w fun t6 w =>
  SV P (Instr.fieldAt 126 t6 3) w fun t7 w =>
  SV P (Instr.loadAt 3 t7) w fun t8 w =>
  k t8 w)

theorem e37 (k : Value → World → Prop) (a0_v : Value) (w : World) : s37 Tryz.prog k a0_v w = vcF Tryz.prog Tryz.f37 [] [a0_v] k w := by kernel_rfl
theorem c37 {k : Value → World → Prop} {a0_v : Value} {w : World} (h : s37 Tryz.prog k a0_v w) : Calls Tryz.prog 37 #[a0_v] w (retP k) :=
  calls_of_vcF [] mixedXVault Tryz.func37 (by kernel_rfl) (Eq.mp (e37 k a0_v w) h)
theorem n37 {args : Array Value} {w : World} {k : Value → World → Prop} (h : Calls Tryz.prog 37 args w (retP k)) : SN Tryz.prog (callFunc 37 args) w k := sn_call Tryz.func37 (by kernel_rfl) (by kernel_rfl) h

/-! ### 45: (*scrinium/vault.Vault).Shards -/

def s45_l1 (P : Program) (k : Value → World → Prop) (t11 : Value) (t12 : Value) (out3 : Value) (t13 : Value) (next : List Value → World → Prop) (w : World) : Prop :=
  SV P (binOp .lss 3 t13 t12) w fun t14 w =>
  CN t14
  (SV P (Instr.indexAt 95 t11 t13) w fun t15 w =>
  SV P (Instr.loadAt 97 t15) w fun t16 w =>
  SN P (callFunc 117 #[t16]) w fun t19 w =>
  SV P (Instr.buildSlice 95 1 #[(0, t19)]) w fun t20 w =>
  SV P (Builtin.append_ #[95, 95] 95 #[out3, t20]) w fun t21 w =>
  SV P (binOp .add 3 t13 (Value.int .i64 1)) w fun t22 w =>
  next [t21, t22] w)
  (k out3 w)

def s45 (P : Program) (k : Value → World → Prop) (a0_v : Value) (w : World) : Prop :=
  SV P (eqS .eql 70 (.tmp 6) (.const (Value.pointer none)) a0_v (Value.pointer none)) w fun t7 w =>
  CN t7
  (k (Value.slice none 0 0) w)
  (SV P (nilS a0_v) w fun t9 w =>
  SV P (Instr.fieldAt 126 t9 4) w fun t10 w =>
  SV P (Instr.loadAt 95 t10) w fun t11 w =>
  SV P (Builtin.len_ #[95] 3 #[t11]) w fun t12 w =>
  LP 2 [(Value.slice none 0 0), (Value.int .i64 0)] w (fun next _ us w => s45_l1 P k t11 t12 (us.getD 0 undef) (us.getD 1 undef) next w))

theorem e45 (k : Value → World → Prop) (a0_v : Value) (w : World) : s45 Tryz.prog k a0_v w = vcF Tryz.prog Tryz.f45 [3, 13] [a0_v] k w := by kernel_rfl
theorem c45 {k : Value → World → Prop} {a0_v : Value} {w : World} (h : s45 Tryz.prog k a0_v w) : Calls Tryz.prog 45 #[a0_v] w (retP k) :=
  calls_of_vcF [3, 13] mixedXVault Tryz.func45 (by kernel_rfl) (Eq.mp (e45 k a0_v w) h)
theorem n45 {args : Array Value} {w : World} {k : Value → World → Prop} (h : Calls Tryz.prog 45 args w (retP k)) : SN Tryz.prog (callFunc 45 args) w k := sn_call Tryz.func45 (by kernel_rfl) (by kernel_rfl) h

/-! ### 50: (*scrinium/vault.Vault).Width -/

def s50 (P : Program) (k : Value → World → Prop) (a0_v : Value) (w : World) : Prop :=
  SV P (eqS .eql 70 (.tmp 3) (.const (Value.pointer none)) a0_v (Value.pointer none)) w fun t4 w =>
  CN t4
  (k (Value.int .i64 0) w)
  (SV P (nilS a0_v) w fun t6 w =>
  SV P (Instr.fieldAt 126 t6 0) w fun t7 w =>
  SV P (Instr.loadAt 3 t7) w fun t8 w =>
  k t8 w)

theorem e50 (k : Value → World → Prop) (a0_v : Value) (w : World) : s50 Tryz.prog k a0_v w = vcF Tryz.prog Tryz.f50 [] [a0_v] k w := by kernel_rfl
theorem c50 {k : Value → World → Prop} {a0_v : Value} {w : World} (h : s50 Tryz.prog k a0_v w) : Calls Tryz.prog 50 #[a0_v] w (retP k) :=
  calls_of_vcF [] mixedXVault Tryz.func50 (by kernel_rfl) (Eq.mp (e50 k a0_v w) h)
theorem n50 {args : Array Value} {w : World} {k : Value → World → Prop} (h : Calls Tryz.prog 50 args w (retP k)) : SN Tryz.prog (callFunc 50 args) w k := sn_call Tryz.func50 (by kernel_rfl) (by kernel_rfl) h

/-! ### 51: (*scrinium/vault.Vault).Term -/

def s51 (P : Program) (k : Value → World → Prop) (a0_v : Value) (w : World) : Prop :=
  SV P (eqS .eql 70 (.tmp 3) (.const (Value.pointer none)) a0_v (Value.pointer none)) w fun t4 w =>
  CN t4
  (k (Value.int .i64 0) w)
  (SV P (nilS a0_v) w fun t6 w =>
  SV P (Instr.fieldAt 126 t6 1) w fun t7 w =>
  SV P (Instr.loadAt 3 t7) w fun t8 w =>
  k t8 w)

theorem e51 (k : Value → World → Prop) (a0_v : Value) (w : World) : s51 Tryz.prog k a0_v w = vcF Tryz.prog Tryz.f51 [] [a0_v] k w := by kernel_rfl
theorem c51 {k : Value → World → Prop} {a0_v : Value} {w : World} (h : s51 Tryz.prog k a0_v w) : Calls Tryz.prog 51 #[a0_v] w (retP k) :=
  calls_of_vcF [] mixedXVault Tryz.func51 (by kernel_rfl) (Eq.mp (e51 k a0_v w) h)
theorem n51 {args : Array Value} {w : World} {k : Value → World → Prop} (h : Calls Tryz.prog 51 args w (retP k)) : SN Tryz.prog (callFunc 51 args) w k := sn_call Tryz.func51 (by kernel_rfl) (by kernel_rfl) h

/-! ### 70: (*scrinium/vault.Vault).Key -/

def s70 (P : Program) (k : Value → World → Prop) (a0_v : Value) (w : World) : Prop :=
  SV P (eqS .eql 70 (.tmp 3) (.const (Value.pointer none)) a0_v (Value.pointer none)) w fun t4 w =>
  CN t4
  (k (str []) w)
  (SV P (nilS a0_v) w fun t6 w =>
  SV P (Instr.fieldAt 126 t6 2) w fun t7 w =>
  SV P (Instr.loadAt 9 t7) w fun t8 w =>
  k t8 w)

theorem e70 (k : Value → World → Prop) (a0_v : Value) (w : World) : s70 Tryz.prog k a0_v w = vcF Tryz.prog Tryz.f70 [] [a0_v] k w := by kernel_rfl
theorem c70 {k : Value → World → Prop} {a0_v : Value} {w : World} (h : s70 Tryz.prog k a0_v w) : Calls Tryz.prog 70 #[a0_v] w (retP k) :=
  calls_of_vcF [] mixedXVault Tryz.func70 (by kernel_rfl) (Eq.mp (e70 k a0_v w) h)
theorem n70 {args : Array Value} {w : World} {k : Value → World → Prop} (h : Calls Tryz.prog 70 args w (retP k)) : SN Tryz.prog (callFunc 70 args) w k := sn_call Tryz.func70 (by kernel_rfl) (by kernel_rfl) h

end Go.Proofs.YtkdghnbogkbedaaGreatDoor

namespace Go.Proofs.YtkdghnbogkbedaaGreatDoor
open Go Go.Sh
set_option maxRecDepth 100000


theorem mixedXSuper : Tryz.prog.follows .mixedOrders = true := by kernel_rfl

/-! ### 15: (*scrinium/super.Super).Anchor -/

def s15_j1 (P : Program) (k : Value → World → Prop) (a0_s : Value) (f3 : Value) (w : World) : Prop :=
  SV P (Instr.loadAt 31 f3) w fun t55 w =>
  SN P (callFunc 73 #[t55]) w fun t56 w =>
  SV P (Instr.alloc 29 true (.tuple #[])) w fun x8 w =>
  SU P (Instr.storeAt 29 x8 t56) w fun w =>
  HR w fun C w =>
  HV P C (nilS a0_s) fun t59 =>
  HV P C (Instr.fieldAt 27 t59 0) fun t60 =>
  HV P C (Instr.loadAt 23 t60) fun t61 =>
  HV P C (nilS a0_s) fun t63 =>
  HV P C (Instr.fieldAt 27 t63 0) fun t64 =>
  HV P C (Instr.loadAt 23 t64) fun t65 =>
  HV P C (Builtin.len_ #[23] 3 #[t65]) fun t66 =>
  HV P C (nilS a0_s) fun t68 =>
  HV P C (Instr.fieldAt 27 t68 0) fun t69 =>
  HV P C (Instr.loadAt 23 t69) fun t70 =>
  HV P C (Builtin.len_ #[23] 3 #[t70]) fun t71 =>
  HV P C (Instr.sliceAt 23 t61 none (some t66) (some t71)) fun t72 =>
  HV P C (Instr.loadAt 31 f3) fun t73 =>
  SV P (Instr.buildSlice 23 1 #[(0, t73)]) w fun t74 w =>
  C w ∧
  SV P (Builtin.append_ #[23, 23] 23 #[t72, t74]) w fun t75 w =>
  RS C w fun C =>
  HV P C (nilS a0_s) fun t76 =>
  HV P C (Instr.fieldAt 27 t76 0) fun t77 =>
  SU P (Instr.storeAt 23 t77 t75) w fun w =>
  HR w fun C w =>
  HV P C (nilS a0_s) fun t80 =>
  HV P C (Instr.fieldAt 27 t80 1) fun t81 =>
  HV P C (Instr.loadAt 24 t81) fun t82 =>
  HV P C (nilS a0_s) fun t84 =>
  HV P C (Instr.fieldAt 27 t84 1) fun t85 =>
  HV P C (Instr.loadAt 24 t85) fun t86 =>
  HV P C (Builtin.len_ #[24] 3 #[t86]) fun t87 =>
  HV P C (nilS a0_s) fun t89 =>
  HV P C (Instr.fieldAt 27 t89 1) fun t90 =>
  HV P C (Instr.loadAt 24 t90) fun t91 =>
  HV P C (Builtin.len_ #[24] 3 #[t91]) fun t92 =>
  HV P C (Instr.sliceAt 24 t82 none (some t87) (some t92)) fun t93 =>
  HV P C (Instr.loadAt 29 x8) fun t94 =>
  SV P (Instr.buildSlice 24 1 #[(0, t94)]) w fun t95 w =>
  C w ∧
  SV P (Builtin.append_ #[24, 24] 24 #[t93, t95]) w fun t96 w =>
  RS C w fun C =>
  HV P C (nilS a0_s) fun t97 =>
  HV P C (Instr.fieldAt 27 t97 1) fun t98 =>
  SU P (Instr.storeAt 24 t98 t96) w fun w =>
  HR w fun C w =>
  HV P C (nilS a0_s) fun t100 =>
  HV P C (Instr.fieldAt 27 t100 2) fun t101 =>
  HV P C (Instr.loadAt 25 t101) fun t102 =>
  HV P C (Instr.loadAt 29 x8) fun t103 =>
  SN P (callFunc 74 #[t102, t103]) w fun t104 w =>
  RS C w fun C =>
  HV P C (binOp .sub 3 t104 (Value.int .i64 1)) fun t105 =>
  k (.tuple #[t105, (Value.int .i64 0)]) w

def s15 (P : Program) (k : Value → World → Prop) (a0_s : Value) (a1_f : Value) (w : World) : Prop :=
  SV P (Instr.box 31 a1_f) w fun f3 w =>
  SV P (Instr.loadAt 31 f3) w fun t10 w =>
  SN P (callFunc 71 #[t10]) w fun t11 w =>
  SV P (Instr.extract t11 0) w fun _ w =>
  SV P (Instr.extract t11 1) w fun t13 w =>
  SV P (eqS .eql 22 (.tmp 15) (.const (Value.pointer none)) a0_s (Value.pointer none)) w fun t16 w =>
  GD t16 false
  (SV P (eqS .neq 32 (.tmp 18) (.const (Value.int .i64 0)) t13 (Value.int .i64 0)) w fun t19 w =>
  CN t19
  (k (.tuple #[(Value.int .i64 0), (Value.int .i64 1)]) w)
  (HR w fun C w =>
  HV P C (nilS a0_s) fun t23 =>
  HV P C (Instr.fieldAt 27 t23 0) fun t24 =>
  HV P C (Instr.loadAt 23 t24) fun t25 =>
  HV P C (Builtin.len_ #[23] 3 #[t25]) fun t26 =>
  HV P C (binOp .gtr 3 t26 (Value.int .i64 0)) fun t27 =>
  GD t27 true
  (HV P C (Instr.fieldAt 31 f3 0) fun t29 =>
  HV P C (Instr.loadAt 3 t29) fun t30 =>
  HV P C (nilS a0_s) fun t32 =>
  HV P C (Instr.fieldAt 27 t32 0) fun t33 =>
  HV P C (Instr.loadAt 23 t33) fun t34 =>
  HV P C (nilS a0_s) fun t36 =>
  HV P C (Instr.fieldAt 27 t36 0) fun t37 =>
  HV P C (Instr.loadAt 23 t37) fun t38 =>
  HV P C (Builtin.len_ #[23] 3 #[t38]) fun t39 =>
  HV P C (binOp .sub 3 t39 (Value.int .i64 1)) fun t40 =>
  HV P C (Instr.indexAt 23 t34 t40) fun t41 =>
  HV P C (Instr.fieldAt 31 t41 0) fun t42 =>
  HV P C (Instr.loadAt 3 t42) fun t43 =>
  HV P C (binOp .leq 3 t30 t43) fun t44 =>
  CN t44
  (k (.tuple #[(Value.int .i64 0), (Value.int .i64 13)]) w)
  (JP 0 (fun j =>
  SV P (nilS a0_s) w fun t47 w =>
  SV P (Instr.fieldAt 27 t47 2) w fun t48 w =>
  SV P (Instr.loadAt 25 t48) w fun t49 w =>
  SV P (eqS .eql 25 (.tmp 49) (.const (Value.pointer none)) t49 (Value.pointer none)) w fun t50 w =>
  CN t50
  (SN P (callFunc 72 #[]) w fun t52 w =>
  SV P (nilS a0_s) w fun t53 w =>
  SV P (Instr.fieldAt 27 t53 2) w fun t54 w =>
  SU P (Instr.storeAt 25 t54 t52) w fun w =>
  j [] w)
  (j [] w))
  (fun _ _ w => s15_j1 P k a0_s f3 w)))
  (JP 0 (fun j =>
  SV P (nilS a0_s) w fun t47 w =>
  SV P (Instr.fieldAt 27 t47 2) w fun t48 w =>
  SV P (Instr.loadAt 25 t48) w fun t49 w =>
  SV P (eqS .eql 25 (.tmp 49) (.const (Value.pointer none)) t49 (Value.pointer none)) w fun t50 w =>
  CN t50
  (SN P (callFunc 72 #[]) w fun t52 w =>
  SV P (nilS a0_s) w fun t53 w =>
  SV P (Instr.fieldAt 27 t53 2) w fun t54 w =>
  SU P (Instr.storeAt 25 t54 t52) w fun w =>
  j [] w)
  (j [] w))
  (fun _ _ w => s15_j1 P k a0_s f3 w))))
  (k (.tuple #[(Value.int .i64 0), (Value.int .i64 1)]) w)

theorem e15 (k : Value → World → Prop) (a0_s a1_f : Value) (w : World) : s15 Tryz.prog k a0_s a1_f w = vcF Tryz.prog Tryz.f15 [] [a0_s, a1_f] k w := by kernel_rfl
theorem c15 {k : Value → World → Prop} {a0_s a1_f : Value} {w : World} (h : s15 Tryz.prog k a0_s a1_f w) : Calls Tryz.prog 15 #[a0_s, a1_f] w (retP k) :=
  calls_of_vcF [] mixedXSuper Tryz.func15 (by kernel_rfl) (Eq.mp (e15 k a0_s a1_f w) h)
theorem n15 {args : Array Value} {w : World} {k : Value → World → Prop} (h : Calls Tryz.prog 15 args w (retP k)) : SN Tryz.prog (callFunc 15 args) w k := sn_call Tryz.func15 (by kernel_rfl) (by kernel_rfl) h

/-! ### 16: (*scrinium/super.Super).At -/

def s16 (P : Program) (k : Value → World → Prop) (a0_s : Value) (a1_i : Value) (w : World) : Prop :=
  SV P (Instr.alloc 31 true (.tuple #[])) w fun t4 w =>
  SV P (eqS .eql 22 (.tmp 7) (.const (Value.pointer none)) a0_s (Value.pointer none)) w fun t8 w =>
  CN t8
  (SV P (Instr.build 31 #[]) w fun t9 w =>
  SU P (Instr.storeAt 31 t4 t9) w fun w =>
  CR P 31 t4 w fun t4_1 =>
  k (.tuple #[t4_1, (Value.int .i64 1)]) w)
  (SV P (binOp .lss 3 a1_i (Value.int .i64 0)) w fun t12 w =>
  GD t12 false
  (SV P (nilS a0_s) w fun t16 w =>
  SV P (Instr.fieldAt 27 t16 0) w fun t17 w =>
  SV P (Instr.loadAt 23 t17) w fun t18 w =>
  SV P (Builtin.len_ #[23] 3 #[t18]) w fun t19 w =>
  SV P (binOp .geq 3 a1_i t19) w fun t20 w =>
  CN t20
  (SV P (Instr.build 31 #[]) w fun t22 w =>
  SU P (Instr.storeAt 31 t4 t22) w fun w =>
  CR P 31 t4 w fun t4_1 =>
  k (.tuple #[t4_1, (Value.int .i64 19)]) w)
  (SV P (nilS a0_s) w fun t24 w =>
  SV P (Instr.fieldAt 27 t24 0) w fun t25 w =>
  SV P (Instr.loadAt 23 t25) w fun t26 w =>
  SV P (Instr.indexAt 23 t26 a1_i) w fun t28 w =>
  SV P (Instr.loadAt 31 t28) w fun t29 w =>
  SU P (Instr.storeAt 31 t4 t29) w fun w =>
  CR P 31 t4 w fun t4_1 =>
  k (.tuple #[t4_1, (Value.int .i64 0)]) w))
  (SV P (Instr.build 31 #[]) w fun t22 w =>
  SU P (Instr.storeAt 31 t4 t22) w fun w =>
  CR P 31 t4 w fun t4_1 =>
  k (.tuple #[t4_1, (Value.int .i64 19)]) w))

theorem e16 (k : Value → World → Prop) (a0_s a1_i : Value) (w : World) : s16 Tryz.prog k a0_s a1_i w = vcF Tryz.prog Tryz.f16 [] [a0_s, a1_i] k w := by kernel_rfl
theorem c16 {k : Value → World → Prop} {a0_s a1_i : Value} {w : World} (h : s16 Tryz.prog k a0_s a1_i w) : Calls Tryz.prog 16 #[a0_s, a1_i] w (retP k) :=
  calls_of_vcF [] mixedXSuper Tryz.func16 (by kernel_rfl) (Eq.mp (e16 k a0_s a1_i w) h)
theorem n16 {args : Array Value} {w : World} {k : Value → World → Prop} (h : Calls Tryz.prog 16 args w (retP k)) : SN Tryz.prog (callFunc 16 args) w k := sn_call Tryz.func16 (by kernel_rfl) (by kernel_rfl) h

/-! ### 84: scrinium/super.New -/

def s84 (P : Program) (k : Value → World → Prop) (w : World) : Prop :=
  SN P (callFunc 72 #[]) w fun t1 w =>
  SV P (Instr.build 27 #[(2, t1)]) w fun t2 w =>
  SV P (Instr.box 27 t2) w fun t3 w =>
  k t3 w

theorem e84 (k : Value → World → Prop) (w : World) : s84 Tryz.prog k  w = vcF Tryz.prog Tryz.f84 [] [] k w := by kernel_rfl
theorem c84 {k : Value → World → Prop} {w : World} (h : s84 Tryz.prog k  w) : Calls Tryz.prog 84 #[] w (retP k) :=
  calls_of_vcF [] mixedXSuper Tryz.func84 (by kernel_rfl) (Eq.mp (e84 k  w) h)
theorem n84 {args : Array Value} {w : World} {k : Value → World → Prop} (h : Calls Tryz.prog 84 args w (retP k)) : SN Tryz.prog (callFunc 84 args) w k := sn_call Tryz.func84 (by kernel_rfl) (by kernel_rfl) h

end Go.Proofs.YtkdghnbogkbedaaGreatDoor

namespace Go.Sh
open Go Go.RowKit
def eFrz : Elt Freeze := ⟨31, 34, Freeze.cells, Freeze.len, Freeze.ones⟩
instance {x : Freeze} : EC eFrz x x.cells := ⟨rfl⟩
/-- Pointers to shards. -/
def eShard : Elt Nat := ⟨97, 1, fun g => [.pointer (some ⟨g, 0, none⟩)], fun _ => rfl, fun _ => .cons rfl .nil⟩
instance {x : Nat} : EC eShard x [.pointer (some ⟨x, 0, none⟩)] := ⟨rfl⟩

/-- Where a log lies, and its freezes. -/
structure SuperG where
  g : Nat
  gf : Nat
  va : Value
  vl : Value
  vp : Value
  fs : List Freeze
abbrev superL (u : SuperG) : List Fact :=
  [bk u.g 27 [u.va, u.vl, .pointer (some ⟨u.gf, 0, none⟩)], sl eFrz u.va u.fs, sl eSum u.vl (u.fs.map Freeze.leaf), fr u.gf u.vp (u.fs.map Freeze.leaf)]
abbrev superF (u : SuperG) : Fact := box (superL u)

/-- Where a vault lies, and what it has. -/
structure VaultG where
  g : Nat
  sv : Value
  width : Int
  term : Int
  key : List UInt8
  clock : Int
  shards : List ShardG
  log : SuperG
abbrev vaultCells (v : VaultG) : List Value := [.int .i64 v.width, .int .i64 v.term, str v.key, .int .i64 v.clock, v.sv, .pointer (some ⟨v.log.g, 0, none⟩)]
abbrev vaultL (v : VaultG) : List Fact :=
  [bk v.g 126 (vaultCells v), sl eShard v.sv (v.shards.map (·.g)), superF v.log, box (v.shards.map shardF)]
abbrev vaultF (v : VaultG) : Fact := box (vaultL v)
end Go.Sh
namespace Go.Proofs.YtkdghnbogkbedaaGreatDoor
open Go Go.Sh Go.RowKit
set_option maxRecDepth 100000
set_option maxHeartbeats 1000000
set_option linter.unusedSimpArgs false
set_option linter.unusedVariables false

theorem super_new' (w0 : World) : Calls Tryz.prog 84 #[] w0 (retP fun v w' => ∃ u : SuperG, u.fs = [] ∧ v = .pointer (some ⟨u.g, 0, none⟩) ∧ St w0 [] w' [superF u]) := by
  refine c84 ?_
  unfold s84
  have m : St w0 [] w0 [] := St.nil w0
  refine n72 (m.call (fr_new _) ?_); rintro r_ w ⟨gf, rfl, m1⟩
  replace m := m.fr Frm.nil m1; simp only [List.cons_append, List.nil_append] at m
  (repeat (first | refine Sh.sv m ?_ | refine Sh.hv ?_ | (refine Sh.sw m ?_; clear m; intro g_ w m) | (refine Sh.su m ?_; clear m; intro w m) | (refine Sh.suN m ?_; clear m; intro w m) | (refine Sh.hr m ?_; clear m; intro m) | refine Sh.rsS m ?_ | refine Sh.hd m ?_ | refine Sh.rsK [] m ?_ | refine CN_tt ?_ | refine CN_ff ?_ | refine GD_tt ?_ | refine GD_ff ?_ | refine GD_tf ?_ | refine GD_ft ?_ | refine CN_true (by first | omega | (simp; done) | (simp; omega)) ?_ | refine CN_false (by first | omega | (simp; done) | (simp; omega)) ?_ | refine GD_true (by first | omega | (simp; done) | (simp; omega)) ?_ | refine GD_true' (by first | omega | (simp; done) | (simp; omega)) ?_ | refine GD_false (by first | omega | (simp; done) | (simp; omega)) ?_ | refine GD_false' (by first | omega | (simp; done) | (simp; omega)) ?_ | refine Sh.crN m ?_ | refine Sh.cr1 m ?_ | refine Sh.svI m (by first | omega | decide) (by first | omega | (simp; done) | (simp; omega)) fun q_ _ hp_ => ?_ | refine Sh.hvI m (by first | omega | decide) (by first | omega | (simp; done) | (simp; omega)) fun q_ _ hp_ => ?_ | refine Sh.svF m fun q_ _ hp_ => ?_ | refine Sh.hvF m fun q_ _ hp_ => ?_))
  replace m := (m.nilSl eSum).nilSl eFrz
  replace m := m.shut (L := [bk g_ 27 [.slice none 0 0, .slice none 0 0, .pointer (some ⟨gf, 0, none⟩)], sl eFrz (.slice none 0 0) [], sl eSum (.slice none 0 0) [], fr gf (.slice none 0 0) []]) (by repeat (first | exact Frm.nil | (with_reducible exact Rem.here) | apply Frm.cons | apply Rem.there))
  exact ⟨⟨g_, gf, .slice none 0 0, .slice none 0 0, .slice none 0 0, []⟩, rfl, rfl, m⟩

theorem vault_new (width term : Int) (key : List UInt8) (w0 : World) (hk : key.length ≤ 64) (hw : 1 ≤ width ∧ width ≤ 1125899906842624) (ht : 0 ≤ term ∧ term ≤ 1125899906842624) :
    Calls Tryz.prog 35 #[.int .i64 width, .int .i64 term, str key] w0 (retP fun v w' => ∃ x : VaultG, x.width = width ∧ x.term = term ∧ x.key = key ∧ x.clock = 0 ∧ x.shards = [] ∧ x.log.fs = [] ∧ v = .pointer (some ⟨x.g, 0, none⟩) ∧ St w0 [] w' [vaultF x]) := by
  refine c35 ?_
  unfold s35
  have m : St w0 [] w0 [] := St.nil w0
  (repeat (first | refine Sh.sv m ?_ | refine Sh.hv ?_ | (refine Sh.sw m ?_; clear m; intro g_ w m) | (refine Sh.su m ?_; clear m; intro w m) | (refine Sh.suN m ?_; clear m; intro w m) | (refine Sh.hr m ?_; clear m; intro m) | refine Sh.rsS m ?_ | refine Sh.hd m ?_ | refine Sh.rsK [] m ?_ | refine CN_tt ?_ | refine CN_ff ?_ | refine GD_tt ?_ | refine GD_ff ?_ | refine GD_tf ?_ | refine GD_ft ?_ | refine CN_true (by first | omega | (simp; done) | (simp; omega)) ?_ | refine CN_false (by first | omega | (simp; done) | (simp; omega)) ?_ | refine GD_true (by first | omega | (simp; done) | (simp; omega)) ?_ | refine GD_true' (by first | omega | (simp; done) | (simp; omega)) ?_ | refine GD_false (by first | omega | (simp; done) | (simp; omega)) ?_ | refine GD_false' (by first | omega | (simp; done) | (simp; omega)) ?_ | refine Sh.crN m ?_ | refine Sh.cr1 m ?_ | refine Sh.svI m (by first | omega | decide) (by first | omega | (simp; done) | (simp; omega)) fun q_ _ hp_ => ?_ | refine Sh.hvI m (by first | omega | decide) (by first | omega | (simp; done) | (simp; omega)) fun q_ _ hp_ => ?_ | refine Sh.svF m fun q_ _ hp_ => ?_ | refine Sh.hvF m fun q_ _ hp_ => ?_))
  refine n84 (m.call (super_new' _) ?_); rintro r_ w ⟨u, hu, rfl, m1⟩
  replace m := m.fr Frm.nil m1; simp only [List.cons_append, List.nil_append] at m
  (repeat (first | refine Sh.sv m ?_ | refine Sh.hv ?_ | (refine Sh.sw m ?_; clear m; intro g_ w m) | (refine Sh.su m ?_; clear m; intro w m) | (refine Sh.suN m ?_; clear m; intro w m) | (refine Sh.hr m ?_; clear m; intro m) | refine Sh.rsS m ?_ | refine Sh.hd m ?_ | refine Sh.rsK [] m ?_ | refine CN_tt ?_ | refine CN_ff ?_ | refine GD_tt ?_ | refine GD_ff ?_ | refine GD_tf ?_ | refine GD_ft ?_ | refine CN_true (by first | omega | (simp; done) | (simp; omega)) ?_ | refine CN_false (by first | omega | (simp; done) | (simp; omega)) ?_ | refine GD_true (by first | omega | (simp; done) | (simp; omega)) ?_ | refine GD_true' (by first | omega | (simp; done) | (simp; omega)) ?_ | refine GD_false (by first | omega | (simp; done) | (simp; omega)) ?_ | refine GD_false' (by first | omega | (simp; done) | (simp; omega)) ?_ | refine Sh.crN m ?_ | refine Sh.cr1 m ?_ | refine Sh.svI m (by first | omega | decide) (by first | omega | (simp; done) | (simp; omega)) fun q_ _ hp_ => ?_ | refine Sh.hvI m (by first | omega | decide) (by first | omega | (simp; done) | (simp; omega)) fun q_ _ hp_ => ?_ | refine Sh.svF m fun q_ _ hp_ => ?_ | refine Sh.hvF m fun q_ _ hp_ => ?_))
  replace m := m.nilSl eShard
  replace m := m.shut (L := []) Frm.nil
  replace m := m.shut (L := [bk g_ 126 [.int .i64 width, .int .i64 term, str key, .int .i64 0, .slice none 0 0, .pointer (some ⟨u.g, 0, none⟩)], sl eShard (.slice none 0 0) [], superF u, box []]) (by repeat (first | exact Frm.nil | (with_reducible exact Rem.here) | apply Frm.cons | apply Rem.there))
  exact ⟨⟨g_, .slice none 0 0, width, term, key, 0, [], u⟩, rfl, rfl, rfl, rfl, rfl, hu, rfl, m⟩

section
variable {x : VaultG} {w0 : World}
theorem vault_key (h : Mem w0 [vaultF x]) : Ret Tryz.prog 70 #[.pointer (some ⟨x.g, 0, none⟩)] w0 (str x.key) := by
  have m := St.start h
  replace m := m.open (by repeat (first | exact Frm.nil | (with_reducible exact Rem.dup) | (with_reducible exact Rem.here) | apply Frm.cons | apply Rem.there)); simp only [List.cons_append, List.nil_append] at m
  refine c70 ?_
  unfold s70
  (repeat (first | refine Sh.sv m ?_ | refine Sh.hv ?_ | (refine Sh.sw m ?_; clear m; intro g_ w m) | (refine Sh.su m ?_; clear m; intro w m) | (refine Sh.suN m ?_; clear m; intro w m) | (refine Sh.hr m ?_; clear m; intro m) | refine Sh.rsS m ?_ | refine Sh.hd m ?_ | refine Sh.rsK [] m ?_ | refine CN_tt ?_ | refine CN_ff ?_ | refine GD_tt ?_ | refine GD_ff ?_ | refine GD_tf ?_ | refine GD_ft ?_ | refine CN_true (by first | omega | (simp; done) | (simp; omega)) ?_ | refine CN_false (by first | omega | (simp; done) | (simp; omega)) ?_ | refine GD_true (by first | omega | (simp; done) | (simp; omega)) ?_ | refine GD_true' (by first | omega | (simp; done) | (simp; omega)) ?_ | refine GD_false (by first | omega | (simp; done) | (simp; omega)) ?_ | refine GD_false' (by first | omega | (simp; done) | (simp; omega)) ?_ | refine Sh.crN m ?_ | refine Sh.cr1 m ?_ | refine Sh.svI m (by first | omega | decide) (by first | omega | (simp; done) | (simp; omega)) fun q_ _ hp_ => ?_ | refine Sh.hvI m (by first | omega | decide) (by first | omega | (simp; done) | (simp; omega)) fun q_ _ hp_ => ?_ | refine Sh.svF m fun q_ _ hp_ => ?_ | refine Sh.hvF m fun q_ _ hp_ => ?_))
  exact ⟨rfl, Ch.refl _⟩
theorem vault_width (h : Mem w0 [vaultF x]) : Ret Tryz.prog 50 #[.pointer (some ⟨x.g, 0, none⟩)] w0 (.int .i64 x.width) := by
  have m := St.start h
  replace m := m.open (by repeat (first | exact Frm.nil | (with_reducible exact Rem.dup) | (with_reducible exact Rem.here) | apply Frm.cons | apply Rem.there)); simp only [List.cons_append, List.nil_append] at m
  refine c50 ?_
  unfold s50
  (repeat (first | refine Sh.sv m ?_ | refine Sh.hv ?_ | (refine Sh.sw m ?_; clear m; intro g_ w m) | (refine Sh.su m ?_; clear m; intro w m) | (refine Sh.suN m ?_; clear m; intro w m) | (refine Sh.hr m ?_; clear m; intro m) | refine Sh.rsS m ?_ | refine Sh.hd m ?_ | refine Sh.rsK [] m ?_ | refine CN_tt ?_ | refine CN_ff ?_ | refine GD_tt ?_ | refine GD_ff ?_ | refine GD_tf ?_ | refine GD_ft ?_ | refine CN_true (by first | omega | (simp; done) | (simp; omega)) ?_ | refine CN_false (by first | omega | (simp; done) | (simp; omega)) ?_ | refine GD_true (by first | omega | (simp; done) | (simp; omega)) ?_ | refine GD_true' (by first | omega | (simp; done) | (simp; omega)) ?_ | refine GD_false (by first | omega | (simp; done) | (simp; omega)) ?_ | refine GD_false' (by first | omega | (simp; done) | (simp; omega)) ?_ | refine Sh.crN m ?_ | refine Sh.cr1 m ?_ | refine Sh.svI m (by first | omega | decide) (by first | omega | (simp; done) | (simp; omega)) fun q_ _ hp_ => ?_ | refine Sh.hvI m (by first | omega | decide) (by first | omega | (simp; done) | (simp; omega)) fun q_ _ hp_ => ?_ | refine Sh.svF m fun q_ _ hp_ => ?_ | refine Sh.hvF m fun q_ _ hp_ => ?_))
  exact ⟨rfl, Ch.refl _⟩
theorem vault_term (h : Mem w0 [vaultF x]) : Ret Tryz.prog 51 #[.pointer (some ⟨x.g, 0, none⟩)] w0 (.int .i64 x.term) := by
  have m := St.start h
  replace m := m.open (by repeat (first | exact Frm.nil | (with_reducible exact Rem.dup) | (with_reducible exact Rem.here) | apply Frm.cons | apply Rem.there)); simp only [List.cons_append, List.nil_append] at m
  refine c51 ?_
  unfold s51
  (repeat (first | refine Sh.sv m ?_ | refine Sh.hv ?_ | (refine Sh.sw m ?_; clear m; intro g_ w m) | (refine Sh.su m ?_; clear m; intro w m) | (refine Sh.suN m ?_; clear m; intro w m) | (refine Sh.hr m ?_; clear m; intro m) | refine Sh.rsS m ?_ | refine Sh.hd m ?_ | refine Sh.rsK [] m ?_ | refine CN_tt ?_ | refine CN_ff ?_ | refine GD_tt ?_ | refine GD_ff ?_ | refine GD_tf ?_ | refine GD_ft ?_ | refine CN_true (by first | omega | (simp; done) | (simp; omega)) ?_ | refine CN_false (by first | omega | (simp; done) | (simp; omega)) ?_ | refine GD_true (by first | omega | (simp; done) | (simp; omega)) ?_ | refine GD_true' (by first | omega | (simp; done) | (simp; omega)) ?_ | refine GD_false (by first | omega | (simp; done) | (simp; omega)) ?_ | refine GD_false' (by first | omega | (simp; done) | (simp; omega)) ?_ | refine Sh.crN m ?_ | refine Sh.cr1 m ?_ | refine Sh.svI m (by first | omega | decide) (by first | omega | (simp; done) | (simp; omega)) fun q_ _ hp_ => ?_ | refine Sh.hvI m (by first | omega | decide) (by first | omega | (simp; done) | (simp; omega)) fun q_ _ hp_ => ?_ | refine Sh.svF m fun q_ _ hp_ => ?_ | refine Sh.hvF m fun q_ _ hp_ => ?_))
  exact ⟨rfl, Ch.refl _⟩
theorem vault_clock (h : Mem w0 [vaultF x]) : Ret Tryz.prog 37 #[.pointer (some ⟨x.g, 0, none⟩)] w0 (.int .i64 x.clock) := by
  have m := St.start h
  replace m := m.open (by repeat (first | exact Frm.nil | (with_reducible exact Rem.dup) | (with_reducible exact Rem.here) | apply Frm.cons | apply Rem.there)); simp only [List.cons_append, List.nil_append] at m
  refine c37 ?_
  unfold s37
  (repeat (first | refine Sh.sv m ?_ | refine Sh.hv ?_ | (refine Sh.sw m ?_; clear m; intro g_ w m) | (refine Sh.su m ?_; clear m; intro w m) | (refine Sh.suN m ?_; clear m; intro w m) | (refine Sh.hr m ?_; clear m; intro m) | refine Sh.rsS m ?_ | refine Sh.hd m ?_ | refine Sh.rsK [] m ?_ | refine CN_tt ?_ | refine CN_ff ?_ | refine GD_tt ?_ | refine GD_ff ?_ | refine GD_tf ?_ | refine GD_ft ?_ | refine CN_true (by first | omega | (simp; done) | (simp; omega)) ?_ | refine CN_false (by first | omega | (simp; done) | (simp; omega)) ?_ | refine GD_true (by first | omega | (simp; done) | (simp; omega)) ?_ | refine GD_true' (by first | omega | (simp; done) | (simp; omega)) ?_ | refine GD_false (by first | omega | (simp; done) | (simp; omega)) ?_ | refine GD_false' (by first | omega | (simp; done) | (simp; omega)) ?_ | refine Sh.crN m ?_ | refine Sh.cr1 m ?_ | refine Sh.svI m (by first | omega | decide) (by first | omega | (simp; done) | (simp; omega)) fun q_ _ hp_ => ?_ | refine Sh.hvI m (by first | omega | decide) (by first | omega | (simp; done) | (simp; omega)) fun q_ _ hp_ => ?_ | refine Sh.svF m fun q_ _ hp_ => ?_ | refine Sh.hvF m fun q_ _ hp_ => ?_))
  exact ⟨rfl, Ch.refl _⟩

/-- Copies of shards: the same data. -/
theorem vault_shards (h : Mem w0 [vaultF x]) (hn : x.shards.length ≤ 1000) (hl : ∀ s ∈ x.shards, s.d.leaves.length ≤ 1000000 ∧ s.d.rows.length ≤ 1000000) :
    Calls Tryz.prog 45 #[.pointer (some ⟨x.g, 0, none⟩)] w0 (retP fun v w' => ∃ l : List ShardG, l.map (·.d) = x.shards.map (·.d) ∧ St w0 [vaultF x] w' [own eShard v (l.map (·.g)), box (l.map shardF), vaultF x]) := by
  have m := St.start h
  replace m := m.open (by repeat (first | exact Frm.nil | (with_reducible exact Rem.dup) | (with_reducible exact Rem.here) | apply Frm.cons | apply Rem.there)); simp only [List.cons_append, List.nil_append] at m
  refine c45 ?_
  unfold s45
  (repeat (first | refine Sh.sv m ?_ | refine Sh.hv ?_ | (refine Sh.sw m ?_; clear m; intro g_ w m) | (refine Sh.su m ?_; clear m; intro w m) | (refine Sh.suN m ?_; clear m; intro w m) | (refine Sh.hr m ?_; clear m; intro m) | refine Sh.rsS m ?_ | refine Sh.hd m ?_ | refine Sh.rsK [] m ?_ | refine CN_tt ?_ | refine CN_ff ?_ | refine GD_tt ?_ | refine GD_ff ?_ | refine GD_tf ?_ | refine GD_ft ?_ | refine CN_true (by first | omega | (simp; done) | (simp; omega)) ?_ | refine CN_false (by first | omega | (simp; done) | (simp; omega)) ?_ | refine GD_true (by first | omega | (simp; done) | (simp; omega)) ?_ | refine GD_true' (by first | omega | (simp; done) | (simp; omega)) ?_ | refine GD_false (by first | omega | (simp; done) | (simp; omega)) ?_ | refine GD_false' (by first | omega | (simp; done) | (simp; omega)) ?_ | refine Sh.crN m ?_ | refine Sh.cr1 m ?_ | refine Sh.svI m (by first | omega | decide) (by first | omega | (simp; done) | (simp; omega)) fun q_ _ hp_ => ?_ | refine Sh.hvI m (by first | omega | decide) (by first | omega | (simp; done) | (simp; omega)) fun q_ _ hp_ => ?_ | refine Sh.svF m fun q_ _ hp_ => ?_ | refine Sh.hvF m fun q_ _ hp_ => ?_))
  replace m := m.shut (L := []) Frm.nil
  refine LP_intro (fun us w => ∃ (v : Value) (i : Nat) (l : List ShardG), us = [v, .int .i64 i] ∧ i ≤ x.shards.length ∧ l.map (·.d) = (x.shards.take i).map (·.d) ∧
      St w0 [vaultF x] w [own eShard v (l.map (·.g)), box (l.map shardF), bk x.g 126 (vaultCells x), sl eShard x.sv (x.shards.map (·.g)), superF x.log, box (x.shards.map shardF)])
    (fun us _ => match us with | [_, .int _ t] => x.shards.length - t.toNat | _ => 0) ⟨_, 0, [], rfl, Nat.zero_le _, rfl, m.nilOwn eShard⟩ ?_
  clear m
  rintro us hus ζ w ⟨v, i, l, rfl, hi, hd, m⟩
  have hll : l.length = i := by have := congrArg List.length hd; simpa [Nat.min_eq_left hi] using this
  unfold s45_l1
  simp only [List.getD_cons_zero, List.getD_cons_succ]
  by_cases hlt : i < x.shards.length
  · have hs := hl x.shards[i] (List.getElem_mem hlt)
    (repeat (first | refine Sh.sv m ?_ | refine Sh.hv ?_ | (refine Sh.sw m ?_; clear m; intro g_ w m) | (refine Sh.su m ?_; clear m; intro w m) | (refine Sh.suN m ?_; clear m; intro w m) | (refine Sh.hr m ?_; clear m; intro m) | refine Sh.rsS m ?_ | refine Sh.hd m ?_ | refine Sh.rsK [] m ?_ | refine CN_tt ?_ | refine CN_ff ?_ | refine GD_tt ?_ | refine GD_ff ?_ | refine GD_tf ?_ | refine GD_ft ?_ | refine CN_true (by first | omega | (simp; done) | (simp; omega)) ?_ | refine CN_false (by first | omega | (simp; done) | (simp; omega)) ?_ | refine GD_true (by first | omega | (simp; done) | (simp; omega)) ?_ | refine GD_true' (by first | omega | (simp; done) | (simp; omega)) ?_ | refine GD_false (by first | omega | (simp; done) | (simp; omega)) ?_ | refine GD_false' (by first | omega | (simp; done) | (simp; omega)) ?_ | refine Sh.crN m ?_ | refine Sh.cr1 m ?_ | refine Sh.svI m (by first | omega | decide) (by first | omega | (simp; done) | (simp; omega)) fun q_ _ hp_ => ?_ | refine Sh.hvI m (by first | omega | decide) (by first | omega | (simp; done) | (simp; omega)) fun q_ _ hp_ => ?_ | refine Sh.svF m fun q_ _ hp_ => ?_ | refine Sh.hvF m fun q_ _ hp_ => ?_))
    simp only [Int.toNat_natCast, List.getElem_map]
    -- the shard apart
    have e1 := map_split shardF hlt
    rw [e1] at m
    replace m := m.focus (by repeat (first | exact Frm.nil | (with_reducible exact Rem.here) | apply Frm.cons | apply Rem.there))
    refine n117 (m.call (shard_copy (m.get (by repeat (first | exact Frm.nil | (with_reducible exact Rem.dup) | (with_reducible exact Rem.here) | apply Frm.cons | apply Rem.there))) hs.1 hs.2) ?_); rintro r_ w ⟨s', hd', rfl, m1⟩
    replace m := m.fr (by repeat (first | exact Frm.nil | (with_reducible exact Rem.dup) | (with_reducible exact Rem.here) | apply Frm.cons | apply Rem.there)) m1; simp only [List.cons_append, List.nil_append] at m
    replace m := m.unfocus (a := shardF x.shards[i]) (L1 := (x.shards.take i).map shardF) (L2 := (x.shards.drop (i + 1)).map shardF) (by repeat (first | exact Frm.nil | (with_reducible exact Rem.here) | apply Frm.cons | apply Rem.there))
    rw [← e1] at m
    replace m := m.snoc (a := shardF s') (L1 := l.map shardF) (by repeat (first | exact Frm.nil | (with_reducible exact Rem.here) | apply Frm.cons | apply Rem.there))
    refine lits eShard [s'.g] m [_] rfl rfl rfl (by simp) ?_; clear m; intro v5 w _ m
    refine ap m (by simp; omega) (by simp [maxLen]; omega) ?_; clear m; intro v6 w _ m
    (repeat (first | refine Sh.sv m ?_ | refine Sh.hv ?_ | (refine Sh.sw m ?_; clear m; intro g_ w m) | (refine Sh.su m ?_; clear m; intro w m) | (refine Sh.suN m ?_; clear m; intro w m) | (refine Sh.hr m ?_; clear m; intro m) | refine Sh.rsS m ?_ | refine Sh.hd m ?_ | refine Sh.rsK [] m ?_ | refine CN_tt ?_ | refine CN_ff ?_ | refine GD_tt ?_ | refine GD_ff ?_ | refine GD_tf ?_ | refine GD_ft ?_ | refine CN_true (by first | omega | (simp; done) | (simp; omega)) ?_ | refine CN_false (by first | omega | (simp; done) | (simp; omega)) ?_ | refine GD_true (by first | omega | (simp; done) | (simp; omega)) ?_ | refine GD_true' (by first | omega | (simp; done) | (simp; omega)) ?_ | refine GD_false (by first | omega | (simp; done) | (simp; omega)) ?_ | refine GD_false' (by first | omega | (simp; done) | (simp; omega)) ?_ | refine Sh.crN m ?_ | refine Sh.cr1 m ?_ | refine Sh.svI m (by first | omega | decide) (by first | omega | (simp; done) | (simp; omega)) fun q_ _ hp_ => ?_ | refine Sh.hvI m (by first | omega | decide) (by first | omega | (simp; done) | (simp; omega)) fun q_ _ hp_ => ?_ | refine Sh.svF m fun q_ _ hp_ => ?_ | refine Sh.hvF m fun q_ _ hp_ => ?_))
    refine ⟨⟨v6, i + 1, l ++ [s'], rfl, hlt, ?_, ?_⟩, ?_⟩
    · rw [List.take_succ_eq_append_getElem hlt, List.map_append, List.map_append, hd]; simp only [List.map_cons, List.map_nil, hd']
    · have h := m.sub (X := [own eShard v6 (l.map (·.g) ++ [s'.g]), box (l.map shardF ++ [shardF s']), bk x.g 126 (vaultCells x), sl eShard x.sv (x.shards.map (·.g)), superF x.log, box (x.shards.map shardF)]) (by repeat (first | exact Frm.nil | (with_reducible exact Rem.here) | apply Frm.cons | apply Rem.there))
      simpa using h
    · show x.shards.length - ((i : Int) + 1).toNat < x.shards.length - (i : Int).toNat
      omega
  · (repeat (first | refine Sh.sv m ?_ | refine Sh.hv ?_ | (refine Sh.sw m ?_; clear m; intro g_ w m) | (refine Sh.su m ?_; clear m; intro w m) | (refine Sh.suN m ?_; clear m; intro w m) | (refine Sh.hr m ?_; clear m; intro m) | refine Sh.rsS m ?_ | refine Sh.hd m ?_ | refine Sh.rsK [] m ?_ | refine CN_tt ?_ | refine CN_ff ?_ | refine GD_tt ?_ | refine GD_ff ?_ | refine GD_tf ?_ | refine GD_ft ?_ | refine CN_true (by first | omega | (simp; done) | (simp; omega)) ?_ | refine CN_false (by first | omega | (simp; done) | (simp; omega)) ?_ | refine GD_true (by first | omega | (simp; done) | (simp; omega)) ?_ | refine GD_true' (by first | omega | (simp; done) | (simp; omega)) ?_ | refine GD_false (by first | omega | (simp; done) | (simp; omega)) ?_ | refine GD_false' (by first | omega | (simp; done) | (simp; omega)) ?_ | refine Sh.crN m ?_ | refine Sh.cr1 m ?_ | refine Sh.svI m (by first | omega | decide) (by first | omega | (simp; done) | (simp; omega)) fun q_ _ hp_ => ?_ | refine Sh.hvI m (by first | omega | decide) (by first | omega | (simp; done) | (simp; omega)) fun q_ _ hp_ => ?_ | refine Sh.svF m fun q_ _ hp_ => ?_ | refine Sh.hvF m fun q_ _ hp_ => ?_))
    have hi' : i = x.shards.length := by omega
    subst hi'
    rw [List.take_length] at hd
    refine ⟨l, hd, ?_⟩
    have m := m.shut (L := vaultL x) (by repeat (first | exact Frm.nil | (with_reducible exact Rem.here) | apply Frm.cons | apply Rem.there))
    exact m.sub (by repeat (first | exact Frm.nil | (with_reducible exact Rem.here) | apply Frm.cons | apply Rem.there))
end
end Go.Proofs.YtkdghnbogkbedaaGreatDoor

namespace Go.Proofs.YtkdghnbogkbedaaGreatDoor
open Go Go.Sh
set_option maxRecDepth 100000


theorem mixedXSort : Tryz.prog.follows .mixedOrders = true := by kernel_rfl

/-! ### 167: slices.SortFunc[[]scrinium/api.File,scrinium/api.File] -/

def s167 (P : Program) (k : Value → World → Prop) (a0_x : Value) (a1_cmp : Value) (w : World) : Prop :=
  SV P (Builtin.len_ #[52] 3 #[a0_x]) w fun t6 w =>
  SV P (convert 3 121 t6) w fun t10 w =>
  SN P (callFunc 245 #[t10]) w fun t11 w =>
  SN P (callFunc 244 #[a0_x, (Value.int .i64 0), t6, t11, a1_cmp]) w fun _ w =>
  k (.tuple #[]) w

theorem e167 (k : Value → World → Prop) (a0_x a1_cmp : Value) (w : World) : s167 Tryz.prog k a0_x a1_cmp w = vcF Tryz.prog Tryz.f167 [] [a0_x, a1_cmp] k w := by kernel_rfl
theorem c167 {k : Value → World → Prop} {a0_x a1_cmp : Value} {w : World} (h : s167 Tryz.prog k a0_x a1_cmp w) : Calls Tryz.prog 167 #[a0_x, a1_cmp] w (retP k) :=
  calls_of_vcF [] mixedXSort Tryz.func167 (by kernel_rfl) (Eq.mp (e167 k a0_x a1_cmp w) h)
theorem n167 {args : Array Value} {w : World} {k : Value → World → Prop} (h : Calls Tryz.prog 167 args w (retP k)) : SN Tryz.prog (callFunc 167 args) w k := sn_call Tryz.func167 (by kernel_rfl) (by kernel_rfl) h

/-! ### 244: slices.pdqsortCmpFunc[scrinium/api.File] -/

def s244_j1 (P : Program) (_ : Value → World → Prop) (a0_data : Value) (a4_cmp : Value) (wasPartitioned11 : Value) (a1 : Value) (wasBalanced10 : Value) (b2 : Value) (next : List Value → World → Prop) (t23 : Value) (limit3_1 : Value) (pivot13_1 : Value) (hint14_1 : Value) (w : World) : Prop :=
  HR w fun C w =>
  HV P C (binOp .gtr 3 a1 (Value.int .i64 0)) fun t82 =>
  GD t82 true
  (HV P C (binOp .sub 3 a1 (Value.int .i64 1)) fun t87 =>
  HV P C (Instr.indexAt 52 a0_data t87) fun t88 =>
  HV P C (Instr.loadAt 55 t88) fun t89 =>
  HV P C (Instr.indexAt 52 a0_data pivot13_1) fun t92 =>
  HV P C (Instr.loadAt 55 t92) fun t93 =>
  SN P (callV a4_cmp #[t89, t93]) w fun t94 w =>
  RS C w fun C =>
  HV P C (binOp .lss 3 t94 (Value.int .i64 0)) fun t95 =>
  HV P C (Op.unary .not t95) fun t96 =>
  CN t96
  (SN P (callFunc 280 #[a0_data, a1, b2, pivot13_1, a4_cmp]) w fun t103 w =>
  next [limit3_1, pivot13_1, hint14_1, wasPartitioned11, t103, wasBalanced10, b2] w)
  (SN P (callFunc 281 #[a0_data, a1, b2, pivot13_1, a4_cmp]) w fun t111 w =>
  SV P (Instr.extract t111 0) w fun t112 w =>
  SV P (Instr.extract t111 1) w fun t113 w =>
  SV P (binOp .sub 3 t112 a1) w fun t117 w =>
  SV P (binOp .sub 3 b2 t112) w fun t120 w =>
  SV P (binOp .quo 3 t23 (Value.int .i64 8)) w fun t122 w =>
  SV P (binOp .lss 3 t117 t120) w fun t125 w =>
  CN t125
  (SV P (binOp .geq 3 t117 t122) w fun t128 w =>
  SN P (callFunc 244 #[a0_data, a1, t112, limit3_1, a4_cmp]) w fun _ w =>
  SV P (binOp .add 3 t112 (Value.int .i64 1)) w fun t136 w =>
  next [limit3_1, pivot13_1, hint14_1, t113, t136, t128, b2] w)
  (SV P (binOp .geq 3 t120 t122) w fun t139 w =>
  SV P (binOp .add 3 t112 (Value.int .i64 1)) w fun t142 w =>
  SN P (callFunc 244 #[a0_data, t142, b2, limit3_1, a4_cmp]) w fun _ w =>
  next [limit3_1, pivot13_1, hint14_1, t113, a1, t139, t112] w)))
  (SN P (callFunc 281 #[a0_data, a1, b2, pivot13_1, a4_cmp]) w fun t111 w =>
  SV P (Instr.extract t111 0) w fun t112 w =>
  SV P (Instr.extract t111 1) w fun t113 w =>
  SV P (binOp .sub 3 t112 a1) w fun t117 w =>
  SV P (binOp .sub 3 b2 t112) w fun t120 w =>
  SV P (binOp .quo 3 t23 (Value.int .i64 8)) w fun t122 w =>
  SV P (binOp .lss 3 t117 t120) w fun t125 w =>
  CN t125
  (SV P (binOp .geq 3 t117 t122) w fun t128 w =>
  SN P (callFunc 244 #[a0_data, a1, t112, limit3_1, a4_cmp]) w fun _ w =>
  SV P (binOp .add 3 t112 (Value.int .i64 1)) w fun t136 w =>
  next [limit3_1, pivot13_1, hint14_1, t113, t136, t128, b2] w)
  (SV P (binOp .geq 3 t120 t122) w fun t139 w =>
  SV P (binOp .add 3 t112 (Value.int .i64 1)) w fun t142 w =>
  SN P (callFunc 244 #[a0_data, t142, b2, limit3_1, a4_cmp]) w fun _ w =>
  next [limit3_1, pivot13_1, hint14_1, t113, a1, t139, t112] w))

def s244_j2 (P : Program) (k : Value → World → Prop) (a0_data : Value) (a4_cmp : Value) (wasPartitioned11 : Value) (a1 : Value) (wasBalanced10 : Value) (b2 : Value) (next : List Value → World → Prop) (t23 : Value) (limit3_1 : Value) (pivot13_1 : Value) (hint14_1 : Value) (w : World) : Prop :=
  JP 0 (fun j =>
  GD wasBalanced10 true
  (GD wasPartitioned11 true
  (SV P (eqS .eql 295 (.tmp 73) (.const (Value.int .i64 1)) hint14_1 (Value.int .i64 1)) w fun t74 w =>
  CN t74
  (SN P (callFunc 279 #[a0_data, a1, b2, a4_cmp]) w fun t80 w =>
  CN t80
  (k (.tuple #[]) w)
  (j [] w))
  (j [] w))
  (j [] w))
  (j [] w))
  (fun _ _ w => s244_j1 P k a0_data a4_cmp wasPartitioned11 a1 wasBalanced10 b2 next t23 limit3_1 pivot13_1 hint14_1 w)

def s244_j3 (P : Program) (k : Value → World → Prop) (a0_data : Value) (a4_cmp : Value) (wasPartitioned11 : Value) (a1 : Value) (wasBalanced10 : Value) (b2 : Value) (next : List Value → World → Prop) (t23 : Value) (limit3_1 : Value) (w : World) : Prop :=
  SN P (callFunc 277 #[a0_data, a1, b2, a4_cmp]) w fun t52 w =>
  SV P (Instr.extract t52 0) w fun t53 w =>
  SV P (Instr.extract t52 1) w fun t54 w =>
  JP 2 (fun j =>
  SV P (eqS .eql 295 (.tmp 55) (.const (Value.int .i64 2)) t54 (Value.int .i64 2)) w fun t56 w =>
  CN t56
  (SN P (callFunc 278 #[a0_data, a1, b2, a4_cmp]) w fun _ w =>
  SV P (binOp .sub 3 b2 (Value.int .i64 1)) w fun t63 w =>
  SV P (binOp .sub 3 t53 a1) w fun t66 w =>
  SV P (binOp .sub 3 t63 t66) w fun t67 w =>
  j [t67, (Value.int .i64 1)] w)
  (j [t53, t54] w))
  (fun _ us w => s244_j2 P k a0_data a4_cmp wasPartitioned11 a1 wasBalanced10 b2 next t23 limit3_1 (us.getD 0 undef) (us.getD 1 undef) w)

def s244_l1 (P : Program) (k : Value → World → Prop) (a0_data : Value) (a4_cmp : Value) (limit3 : Value) (wasPartitioned11 : Value) (a1 : Value) (wasBalanced10 : Value) (b2 : Value) (next : List Value → World → Prop) (w : World) : Prop :=
  SV P (binOp .sub 3 b2 a1) w fun t23 w =>
  SV P (binOp .leq 3 t23 (Value.int .i64 12)) w fun t25 w =>
  CN t25
  (SN P (callFunc 274 #[a0_data, a1, b2, a4_cmp]) w fun _ w =>
  k (.tuple #[]) w)
  (SV P (eqS .eql 3 (.tmp 31) (.const (Value.int .i64 0)) limit3 (Value.int .i64 0)) w fun t32 w =>
  CN t32
  (SN P (callFunc 275 #[a0_data, a1, b2, a4_cmp]) w fun _ w =>
  k (.tuple #[]) w)
  (JP 1 (fun j =>
  SV P (Op.unary .not wasBalanced10) w fun t39 w =>
  CN t39
  (SN P (callFunc 276 #[a0_data, a1, b2, a4_cmp]) w fun _ w =>
  SV P (binOp .sub 3 limit3 (Value.int .i64 1)) w fun t46 w =>
  j [t46] w)
  (j [limit3] w))
  (fun _ us w => s244_j3 P k a0_data a4_cmp wasPartitioned11 a1 wasBalanced10 b2 next t23 (us.getD 0 undef) w)))

def s244 (P : Program) (k : Value → World → Prop) (a0_data : Value) (a1_a : Value) (a2_b : Value) (a3_limit : Value) (a4_cmp : Value) (w : World) : Prop :=
  LP 7 [a3_limit, undef, undef, (Value.bool true), a1_a, (Value.bool true), a2_b] w (fun next _ us w => s244_l1 P k a0_data a4_cmp (us.getD 0 undef) (us.getD 3 undef) (us.getD 4 undef) (us.getD 5 undef) (us.getD 6 undef) next w)

theorem e244 (k : Value → World → Prop) (a0_data a1_a a2_b a3_limit a4_cmp : Value) (w : World) : s244 Tryz.prog k a0_data a1_a a2_b a3_limit a4_cmp w = vcF Tryz.prog Tryz.f244 [1, 2, 3, 10, 11, 13, 14] [a0_data, a1_a, a2_b, a3_limit, a4_cmp] k w := by kernel_rfl
theorem c244 {k : Value → World → Prop} {a0_data a1_a a2_b a3_limit a4_cmp : Value} {w : World} (h : s244 Tryz.prog k a0_data a1_a a2_b a3_limit a4_cmp w) : Calls Tryz.prog 244 #[a0_data, a1_a, a2_b, a3_limit, a4_cmp] w (retP k) :=
  calls_of_vcF [1, 2, 3, 10, 11, 13, 14] mixedXSort Tryz.func244 (by kernel_rfl) (Eq.mp (e244 k a0_data a1_a a2_b a3_limit a4_cmp w) h)
theorem n244 {args : Array Value} {w : World} {k : Value → World → Prop} (h : Calls Tryz.prog 244 args w (retP k)) : SN Tryz.prog (callFunc 244 args) w k := sn_call Tryz.func244 (by kernel_rfl) (by kernel_rfl) h

/-! ### 274: slices.insertionSortCmpFunc[scrinium/api.File] -/

def s274_l1 (P : Program) (_ : Value → World → Prop) (a0_data : Value) (a1_a : Value) (a3_cmp : Value) (i8 : Value) (next : List Value → World → Prop) (j9_1 : Value) (next_1 : List Value → World → Prop) (w : World) : Prop :=
  HR w fun C w =>
  HV P C (binOp .gtr 3 j9_1 a1_a) fun t20 =>
  GD t20 true
  (HV P C (Instr.indexAt 52 a0_data j9_1) fun t25 =>
  HV P C (Instr.loadAt 55 t25) fun t26 =>
  HV P C (binOp .sub 3 j9_1 (Value.int .i64 1)) fun t29 =>
  HV P C (Instr.indexAt 52 a0_data t29) fun t30 =>
  HV P C (Instr.loadAt 55 t30) fun t31 =>
  SN P (callV a3_cmp #[t26, t31]) w fun t32 w =>
  RS C w fun C =>
  HV P C (binOp .lss 3 t32 (Value.int .i64 0)) fun t33 =>
  CN t33
  (HR w fun C w =>
  HV P C (binOp .sub 3 j9_1 (Value.int .i64 1)) fun t41 =>
  HV P C (binOp .sub 3 j9_1 (Value.int .i64 1)) fun t44 =>
  HV P C (Instr.indexAt 52 a0_data t44) fun t45 =>
  HV P C (Instr.loadAt 55 t45) fun t46 =>
  HV P C (Instr.indexAt 52 a0_data j9_1) fun t49 =>
  HV P C (Instr.loadAt 55 t49) fun t50 =>
  HV P C (Instr.indexAt 52 a0_data j9_1) fun t51 =>
  SU P (Instr.storeAt 55 t51 t46) w fun w =>
  C w ∧
  HV P C (Instr.indexAt 52 a0_data t41) fun t52 =>
  SU P (Instr.storeAt 55 t52 t50) w fun w =>
  SV P (binOp .sub 3 j9_1 (Value.int .i64 1)) w fun t36 w =>
  next_1 [t36] w)
  (SV P (binOp .add 3 i8 (Value.int .i64 1)) w fun t16 w =>
  next [j9_1, t16] w))
  (SV P (binOp .add 3 i8 (Value.int .i64 1)) w fun t16 w =>
  next [j9_1, t16] w)

def s274_l2 (P : Program) (k : Value → World → Prop) (a0_data : Value) (a1_a : Value) (a2_b : Value) (a3_cmp : Value) (i8 : Value) (next : List Value → World → Prop) (w : World) : Prop :=
  SV P (binOp .lss 3 i8 a2_b) w fun t14 w =>
  CN t14
  (LP 1 [i8] w (fun next_1 _ us w => s274_l1 P k a0_data a1_a a3_cmp i8 next (us.getD 0 undef) next_1 w))
  (k (.tuple #[]) w)

def s274 (P : Program) (k : Value → World → Prop) (a0_data : Value) (a1_a : Value) (a2_b : Value) (a3_cmp : Value) (w : World) : Prop :=
  SV P (binOp .add 3 a1_a (Value.int .i64 1)) w fun t11 w =>
  LP 2 [undef, t11] w (fun next _ us w => s274_l2 P k a0_data a1_a a2_b a3_cmp (us.getD 1 undef) next w)

theorem e274 (k : Value → World → Prop) (a0_data a1_a a2_b a3_cmp : Value) (w : World) : s274 Tryz.prog k a0_data a1_a a2_b a3_cmp w = vcF Tryz.prog Tryz.f274 [8, 9] [a0_data, a1_a, a2_b, a3_cmp] k w := by kernel_rfl
theorem c274 {k : Value → World → Prop} {a0_data a1_a a2_b a3_cmp : Value} {w : World} (h : s274 Tryz.prog k a0_data a1_a a2_b a3_cmp w) : Calls Tryz.prog 274 #[a0_data, a1_a, a2_b, a3_cmp] w (retP k) :=
  calls_of_vcF [8, 9] mixedXSort Tryz.func274 (by kernel_rfl) (Eq.mp (e274 k a0_data a1_a a2_b a3_cmp w) h)
theorem n274 {args : Array Value} {w : World} {k : Value → World → Prop} (h : Calls Tryz.prog 274 args w (retP k)) : SN Tryz.prog (callFunc 274 args) w k := sn_call Tryz.func274 (by kernel_rfl) (by kernel_rfl) h

end Go.Proofs.YtkdghnbogkbedaaGreatDoor

namespace Go.Proofs.YtkdghnbogkbedaaGreatDoor
open Go Go.Sh
set_option maxRecDepth 100000


theorem mixedXLaw21 : Tryz.prog.follows .mixedOrders = true := by kernel_rfl

/-! ### 4: scrinium/scriniumlaw21.ImageDiffs -/

def s4_j1 (P : Program) (_ : Value → World → Prop) (i10 : Value) (next : List Value → World → Prop) (w : World) : Prop :=
  SV P (binOp .add 3 i10 (Value.int .i64 1)) w fun t32 w =>
  next [t32] w

def s4_l1 (P : Program) (k : Value → World → Prop) (t17 : Value) (t19 : Value) (j : List Value → World → Prop) (i10 : Value) (next : List Value → World → Prop) (w : World) : Prop :=
  SV P (Builtin.len_ #[52] 3 #[t19]) w fun t23 w =>
  SV P (binOp .lss 3 i10 t23) w fun t24 w =>
  GD t24 true
  (SV P (Builtin.len_ #[52] 3 #[t17]) w fun t28 w =>
  SV P (binOp .lss 3 i10 t28) w fun t29 w =>
  CN t29
  (JP 0 (fun j_1 =>
  SV P (binOp .rem 3 i10 (Value.int .i64 2)) w fun t34 w =>
  SV P (eqS .eql 3 (.tmp 34) (.const (Value.int .i64 0)) t34 (Value.int .i64 0)) w fun t35 w =>
  CN t35
  (SV P (Instr.indexAt 52 t17 i10) w fun t40 w =>
  SV P (Instr.loadAt 55 t40) w fun t41 w =>
  SV P (Instr.indexAt 52 t19 i10) w fun t42 w =>
  SU P (Instr.storeAt 55 t42 t41) w fun w =>
  j_1 [] w)
  (HR w fun C w =>
  HV P C (Instr.indexAt 52 t19 i10) fun t45 =>
  HV P C (Instr.fieldAt 55 t45 0) fun t46 =>
  HV P C (Instr.loadAt 9 t46) fun t47 =>
  HV P C (Instr.indexAt 52 t17 i10) fun t50 =>
  HV P C (Instr.fieldAt 55 t50 0) fun t51 =>
  HV P C (Instr.loadAt 9 t51) fun t52 =>
  HV P C (eqS .eql 9 (.tmp 47) (.tmp 52) t47 t52) fun t53 =>
  CN t53
  (HR w fun C w =>
  HV P C (Instr.indexAt 52 t17 i10) fun t58 =>
  HV P C (Instr.fieldAt 55 t58 1) fun t59 =>
  HV P C (Instr.loadAt 9 t59) fun t60 =>
  HV P C (Instr.indexAt 52 t19 i10) fun t63 =>
  HV P C (Instr.fieldAt 55 t63 1) fun t64 =>
  HV P C (Instr.loadAt 9 t64) fun t65 =>
  HV P C (binOp .add 9 t60 t65) fun t66 =>
  HV P C (Instr.indexAt 52 t19 i10) fun t67 =>
  HV P C (Instr.fieldAt 55 t67 1) fun t68 =>
  SU P (Instr.storeAt 9 t68 t66) w fun w =>
  j_1 [] w)
  (j_1 [] w)))
  (fun _ _ w => s4_j1 P k i10 next w))
  (j [i10] w))
  (j [i10] w)

def s4_l2 (P : Program) (k : Value → World → Prop) (t15 : Value) (t17 : Value) (t19 : Value) (rises11 : Value) (i12 : Value) (next : List Value → World → Prop) (w : World) : Prop :=
  SV P (Builtin.len_ #[52] 3 #[t19]) w fun t71 w =>
  SV P (binOp .lss 3 i12 t71) w fun t72 w =>
  CN t72
  (HR w fun C w =>
  GD rises11 true
  (HV P C (binOp .sub 3 i12 (Value.int .i64 1)) fun t79 =>
  HV P C (Instr.indexAt 52 t19 t79) fun t80 =>
  HV P C (Instr.fieldAt 55 t80 0) fun t81 =>
  HV P C (Instr.loadAt 9 t81) fun t82 =>
  HV P C (Instr.indexAt 52 t19 i12) fun t85 =>
  HV P C (Instr.fieldAt 55 t85 0) fun t86 =>
  HV P C (Instr.loadAt 9 t86) fun t87 =>
  HV P C (binOp .lss 9 t82 t87) fun t88 =>
  SV P (binOp .add 3 i12 (Value.int .i64 1)) w fun t74 w =>
  next [t88, t74] w)
  (SV P (binOp .add 3 i12 (Value.int .i64 1)) w fun t74 w =>
  next [(Value.bool false), t74] w))
  (SV P (Op.unary .not rises11) w fun t91 w =>
  CN t91
  (k t15 w)
  (SN P (callFunc 31 #[t17, t19]) w fun t95 w =>
  SN P (callFunc 32 #[t17, t19]) w fun t98 w =>
  SN P (callFunc 30 #[t95, t98]) w fun t99 w =>
  SN P (callFunc 31 #[t19, t17]) w fun t102 w =>
  SN P (callFunc 32 #[t19, t17]) w fun t105 w =>
  SN P (callFunc 30 #[t102, t105]) w fun t106 w =>
  GD t15 true
  (GD t99 true
  (GD t106 true
  (SN P (callFunc 31 #[t17, t17]) w fun t117 w =>
  SV P (Builtin.len_ #[57] 3 #[t117]) w fun t118 w =>
  SV P (eqS .eql 3 (.tmp 118) (.const (Value.int .i64 0)) t118 (Value.int .i64 0)) w fun t119 w =>
  k t119 w)
  (k (Value.bool false) w))
  (k (Value.bool false) w))
  (k (Value.bool false) w)))

def s4_j2 (P : Program) (k : Value → World → Prop) (t15 : Value) (t17 : Value) (t19 : Value) (w : World) : Prop :=
  LP 2 [(Value.bool true), (Value.int .i64 1)] w (fun next _ us w => s4_l2 P k t15 t17 t19 (us.getD 0 undef) (us.getD 1 undef) next w)

def s4 (P : Program) (k : Value → World → Prop) (a0_a : Value) (a1_b : Value) (a2_half : Value) (w : World) : Prop :=
  SN P (callFunc 28 #[]) w fun t15 w =>
  SN P (callFunc 29 #[a0_a]) w fun t17 w =>
  SN P (callFunc 29 #[a1_b]) w fun t19 w =>
  JP 1 (fun j =>
  CN a2_half
  (LP 1 [(Value.int .i64 0)] w (fun next _ us w => s4_l1 P k t17 t19 j (us.getD 0 undef) next w))
  (j [undef] w))
  (fun _ _ w => s4_j2 P k t15 t17 t19 w)

theorem e4 (k : Value → World → Prop) (a0_a a1_b a2_half : Value) (w : World) : s4 Tryz.prog k a0_a a1_b a2_half w = vcF Tryz.prog Tryz.f4 [10, 11, 12] [a0_a, a1_b, a2_half] k w := by kernel_rfl
theorem c4 {k : Value → World → Prop} {a0_a a1_b a2_half : Value} {w : World} (h : s4 Tryz.prog k a0_a a1_b a2_half w) : Calls Tryz.prog 4 #[a0_a, a1_b, a2_half] w (retP k) :=
  calls_of_vcF [10, 11, 12] mixedXLaw21 Tryz.func4 (by kernel_rfl) (Eq.mp (e4 k a0_a a1_b a2_half w) h)
theorem n4 {args : Array Value} {w : World} {k : Value → World → Prop} (h : Calls Tryz.prog 4 args w (retP k)) : SN Tryz.prog (callFunc 4 args) w k := sn_call Tryz.func4 (by kernel_rfl) (by kernel_rfl) h

/-! ### 5: scrinium/scriniumlaw21.ImageGoes -/

def s5_l1 (P : Program) (k : Value → World → Prop) (t13 : Value) (t17 : Value) (t52 : Value) (i12 : Value) (next_1 : List Value → World → Prop) (w : World) : Prop :=
  SV P (Builtin.len_ #[52] 3 #[t17]) w fun t68 w =>
  SV P (binOp .lss 3 i12 t68) w fun t69 w =>
  CN t69
  (HR w fun C w =>
  HV P C (nilS t52) fun t73 =>
  HV P C (Instr.fieldAt 63 t73 1) fun t74 =>
  HV P C (Instr.loadAt 61 t74) fun t75 =>
  HV P C (Instr.indexAt 61 t75 i12) fun t77 =>
  HV P C (Instr.fieldAt 64 t77 0) fun t78 =>
  HV P C (Instr.loadAt 9 t78) fun t79 =>
  HV P C (Instr.indexAt 52 t17 i12) fun t82 =>
  HV P C (Instr.fieldAt 55 t82 0) fun t83 =>
  HV P C (Instr.loadAt 9 t83) fun t84 =>
  HV P C (eqS .neq 9 (.tmp 79) (.tmp 84) t79 t84) fun t85 =>
  GD t85 false
  (HV P C (nilS t52) fun t88 =>
  HV P C (Instr.fieldAt 63 t88 1) fun t89 =>
  HV P C (Instr.loadAt 61 t89) fun t90 =>
  HV P C (Instr.indexAt 61 t90 i12) fun t92 =>
  HV P C (Instr.fieldAt 64 t92 1) fun t93 =>
  HV P C (Instr.loadAt 9 t93) fun t94 =>
  HV P C (Instr.indexAt 52 t17 i12) fun t97 =>
  HV P C (Instr.fieldAt 55 t97 1) fun t98 =>
  HV P C (Instr.loadAt 9 t98) fun t99 =>
  HV P C (eqS .neq 9 (.tmp 94) (.tmp 99) t94 t99) fun t100 =>
  CN t100
  (k (Value.bool false) w)
  (SV P (binOp .add 3 i12 (Value.int .i64 1)) w fun t71 w =>
  next_1 [t71] w))
  (k (Value.bool false) w))
  (k t13 w)

def s5_l2 (P : Program) (k : Value → World → Prop) (t13 : Value) (t15 : Value) (t17 : Value) (t19 : Value) (i9 : Value) (next : List Value → World → Prop) (w : World) : Prop :=
  SV P (Builtin.len_ #[52] 3 #[t15]) w fun t22 w =>
  SV P (binOp .lss 3 i9 t22) w fun t23 w =>
  CN t23
  (HR w fun C w =>
  HV P C (nilS t19) fun t28 =>
  HV P C (Instr.fieldAt 63 t28 1) fun t29 =>
  HV P C (Instr.loadAt 61 t29) fun t30 =>
  HV P C (Instr.indexAt 52 t15 i9) fun t33 =>
  HV P C (Instr.fieldAt 55 t33 0) fun t34 =>
  HV P C (Instr.loadAt 9 t34) fun t35 =>
  HV P C (Instr.indexAt 52 t15 i9) fun t38 =>
  HV P C (Instr.fieldAt 55 t38 1) fun t39 =>
  HV P C (Instr.loadAt 9 t39) fun t40 =>
  HV P C (Instr.build 64 #[(0, t35), (1, t40)]) fun t41 =>
  SV P (Instr.buildSlice 61 1 #[(0, t41)]) w fun t42 w =>
  C w ∧
  SV P (Builtin.append_ #[61, 61] 61 #[t30, t42]) w fun t43 w =>
  RS C w fun C =>
  HV P C (nilS t19) fun t44 =>
  HV P C (Instr.fieldAt 63 t44 1) fun t45 =>
  SU P (Instr.storeAt 61 t45 t43) w fun w =>
  SV P (binOp .add 3 i9 (Value.int .i64 1)) w fun t25 w =>
  next [t25] w)
  (SN P (callFunc 31 #[t15, t17]) w fun t50 w =>
  SN P (callFunc 33 #[t19, t50]) w fun t51 w =>
  SV P (Instr.extract t51 0) w fun t52 w =>
  SV P (Instr.extract t51 1) w fun t53 w =>
  SV P (eqS .neq 32 (.tmp 54) (.const (Value.int .i64 0)) t53 (Value.int .i64 0)) w fun t55 w =>
  GD t55 false
  (SV P (nilS t52) w fun t58 w =>
  SV P (Instr.fieldAt 63 t58 1) w fun t59 w =>
  SV P (Instr.loadAt 61 t59) w fun t60 w =>
  SV P (Builtin.len_ #[61] 3 #[t60]) w fun t61 w =>
  SV P (Builtin.len_ #[52] 3 #[t17]) w fun t63 w =>
  SV P (eqS .neq 3 (.tmp 61) (.tmp 63) t61 t63) w fun t64 w =>
  CN t64
  (k (Value.bool false) w)
  (LP 1 [(Value.int .i64 0)] w (fun next_1 _ us w => s5_l1 P k t13 t17 t52 (us.getD 0 undef) next_1 w)))
  (k (Value.bool false) w))

def s5 (P : Program) (k : Value → World → Prop) (a0_a : Value) (a1_b : Value) (w : World) : Prop :=
  SN P (callFunc 28 #[]) w fun t13 w =>
  SN P (callFunc 29 #[a0_a]) w fun t15 w =>
  SN P (callFunc 29 #[a1_b]) w fun t17 w =>
  SV P (Instr.build 63 #[(0, (Value.int .i64 500))]) w fun t18 w =>
  SV P (Instr.box 63 t18) w fun t19 w =>
  LP 1 [(Value.int .i64 0)] w (fun next _ us w => s5_l2 P k t13 t15 t17 t19 (us.getD 0 undef) next w)

theorem e5 (k : Value → World → Prop) (a0_a a1_b : Value) (w : World) : s5 Tryz.prog k a0_a a1_b w = vcF Tryz.prog Tryz.f5 [9, 12] [a0_a, a1_b] k w := by kernel_rfl
theorem c5 {k : Value → World → Prop} {a0_a a1_b : Value} {w : World} (h : s5 Tryz.prog k a0_a a1_b w) : Calls Tryz.prog 5 #[a0_a, a1_b] w (retP k) :=
  calls_of_vcF [9, 12] mixedXLaw21 Tryz.func5 (by kernel_rfl) (Eq.mp (e5 k a0_a a1_b w) h)
theorem n5 {args : Array Value} {w : World} {k : Value → World → Prop} (h : Calls Tryz.prog 5 args w (retP k)) : SN Tryz.prog (callFunc 5 args) w k := sn_call Tryz.func5 (by kernel_rfl) (by kernel_rfl) h

/-! ### 28: scrinium/scriniumlaw21.awake -/

def s28 (P : Program) (k : Value → World → Prop) (w : World) : Prop :=
  SN P (callFunc 35 #[(Value.int .i64 10), (Value.int .i64 5), (str [107])]) w fun t6 w =>
  SN P (callFunc 93 #[t6]) w fun t8 w =>
  SN P (callFunc 94 #[(str [97]), (str [120])]) w fun t9 w =>
  SN P (callFunc 94 #[(str [97]), (str [120, 121])]) w fun t10 w =>
  SN P (callFunc 31 #[t9, t10]) w fun t11 w =>
  SN P (callFunc 94 #[(str [97]), (str [120, 121])]) w fun t12 w =>
  SN P (callFunc 94 #[(str [97]), (str [120])]) w fun t13 w =>
  SN P (callFunc 31 #[t12, t13]) w fun t14 w =>
  SN P (callFunc 94 #[(str [97]), (str [120])]) w fun t15 w =>
  SN P (callFunc 94 #[(str [97]), (str [121])]) w fun t16 w =>
  SN P (callFunc 31 #[t15, t16]) w fun t17 w =>
  SV P (Builtin.len_ #[52] 3 #[t8]) w fun t19 w =>
  SV P (eqS .eql 3 (.tmp 19) (.const (Value.int .i64 1)) t19 (Value.int .i64 1)) w fun t20 w =>
  GD t20 true
  (SV P (Instr.indexAt 52 t8 (Value.int .i64 0)) w fun t23 w =>
  SV P (Instr.fieldAt 55 t23 0) w fun t24 w =>
  SV P (Instr.loadAt 9 t24) w fun t25 w =>
  SV P (eqS .eql 9 (.tmp 25) (.const (str [109, 101, 116, 97])) t25 (str [109, 101, 116, 97])) w fun t26 w =>
  GD t26 true
  (SV P (Builtin.len_ #[57] 3 #[t11]) w fun t30 w =>
  SV P (eqS .eql 3 (.tmp 30) (.const (Value.int .i64 1)) t30 (Value.int .i64 1)) w fun t31 w =>
  GD t31 true
  (SV P (Instr.indexAt 57 t11 (Value.int .i64 0)) w fun t35 w =>
  SV P (Instr.fieldAt 150 t35 0) w fun t36 w =>
  SV P (Instr.loadAt 3 t36) w fun t37 w =>
  SV P (eqS .eql 3 (.tmp 37) (.const (Value.int .i64 2)) t37 (Value.int .i64 2)) w fun t38 w =>
  GD t38 true
  (SV P (Instr.indexAt 57 t11 (Value.int .i64 0)) w fun t42 w =>
  SV P (Instr.fieldAt 150 t42 2) w fun t43 w =>
  SV P (Instr.loadAt 9 t43) w fun t44 w =>
  SV P (eqS .eql 9 (.tmp 44) (.const (str [121])) t44 (str [121])) w fun t45 w =>
  GD t45 true
  (SV P (Builtin.len_ #[57] 3 #[t14]) w fun t49 w =>
  SV P (eqS .eql 3 (.tmp 49) (.const (Value.int .i64 1)) t49 (Value.int .i64 1)) w fun t50 w =>
  GD t50 true
  (SV P (Instr.indexAt 57 t14 (Value.int .i64 0)) w fun t54 w =>
  SV P (Instr.fieldAt 150 t54 0) w fun t55 w =>
  SV P (Instr.loadAt 3 t55) w fun t56 w =>
  SV P (eqS .eql 3 (.tmp 56) (.const (Value.int .i64 3)) t56 (Value.int .i64 3)) w fun t57 w =>
  GD t57 true
  (SV P (Instr.indexAt 57 t14 (Value.int .i64 0)) w fun t61 w =>
  SV P (Instr.fieldAt 150 t61 3) w fun t62 w =>
  SV P (Instr.loadAt 3 t62) w fun t63 w =>
  SV P (eqS .eql 3 (.tmp 63) (.const (Value.int .i64 1)) t63 (Value.int .i64 1)) w fun t64 w =>
  GD t64 true
  (SV P (Builtin.len_ #[57] 3 #[t17]) w fun t68 w =>
  SV P (eqS .eql 3 (.tmp 68) (.const (Value.int .i64 1)) t68 (Value.int .i64 1)) w fun t69 w =>
  GD t69 true
  (SV P (Instr.indexAt 57 t17 (Value.int .i64 0)) w fun t73 w =>
  SV P (Instr.fieldAt 150 t73 0) w fun t74 w =>
  SV P (Instr.loadAt 3 t74) w fun t75 w =>
  SV P (eqS .eql 3 (.tmp 75) (.const (Value.int .i64 5)) t75 (Value.int .i64 5)) w fun t76 w =>
  GD t76 true
  (SV P (Instr.indexAt 57 t17 (Value.int .i64 0)) w fun t80 w =>
  SV P (Instr.fieldAt 150 t80 2) w fun t81 w =>
  SV P (Instr.loadAt 9 t81) w fun t82 w =>
  SV P (eqS .eql 9 (.tmp 82) (.const (str [121])) t82 (str [121])) w fun t83 w =>
  k t83 w)
  (k (Value.bool false) w))
  (k (Value.bool false) w))
  (k (Value.bool false) w))
  (k (Value.bool false) w))
  (k (Value.bool false) w))
  (k (Value.bool false) w))
  (k (Value.bool false) w))
  (k (Value.bool false) w))
  (k (Value.bool false) w))
  (k (Value.bool false) w)

theorem e28 (k : Value → World → Prop) (w : World) : s28 Tryz.prog k  w = vcF Tryz.prog Tryz.f28 [] [] k w := by kernel_rfl
theorem c28 {k : Value → World → Prop} {w : World} (h : s28 Tryz.prog k  w) : Calls Tryz.prog 28 #[] w (retP k) :=
  calls_of_vcF [] mixedXLaw21 Tryz.func28 (by kernel_rfl) (Eq.mp (e28 k  w) h)
theorem n28 {args : Array Value} {w : World} {k : Value → World → Prop} (h : Calls Tryz.prog 28 args w (retP k)) : SN Tryz.prog (callFunc 28 args) w k := sn_call Tryz.func28 (by kernel_rfl) (by kernel_rfl) h

/-! ### 29: scrinium/scriniumlaw21.files -/

def s29_j1 (P : Program) (_ : Value → World → Prop) (a0_l : Value) (out3 : Value) (i4 : Value) (j : List Value → World → Prop) (name5_1 : Value) (w : World) : Prop :=
  SV P (Instr.indexAt 52 a0_l i4) w fun t33 w =>
  SV P (Instr.fieldAt 55 t33 0) w fun t34 w =>
  SV P (Instr.loadAt 9 t34) w fun t35 w =>
  SV P (Builtin.len_ #[9] 3 #[t35]) w fun t36 w =>
  SV P (binOp .rem 3 t36 (Value.int .i64 5)) w fun t37 w =>
  SV P (eqS .eql 3 (.tmp 37) (.const (Value.int .i64 4)) t37 (Value.int .i64 4)) w fun t38 w =>
  CN t38
  (j [name5_1, out3] w)
  (SV P (Instr.indexAt 52 a0_l i4) w fun t43 w =>
  SV P (Instr.fieldAt 55 t43 1) w fun t44 w =>
  SV P (Instr.loadAt 9 t44) w fun t45 w =>
  SN P (callFunc 95 #[t45, (Value.int .i64 40)]) w fun t46 w =>
  SV P (Instr.build 55 #[(0, name5_1), (1, t46)]) w fun t47 w =>
  SV P (Instr.buildSlice 52 1 #[(0, t47)]) w fun t48 w =>
  SV P (Builtin.append_ #[52, 52] 52 #[out3, t48]) w fun t49 w =>
  j [name5_1, t49] w)

def s29_j2 (P : Program) (_ : Value → World → Prop) (i4 : Value) (next : List Value → World → Prop) (name5_1 : Value) (out3_1 : Value) (w : World) : Prop :=
  SV P (binOp .add 3 i4 (Value.int .i64 1)) w fun t15 w =>
  next [name5_1, out3_1, t15] w

def s29_l1 (P : Program) (k : Value → World → Prop) (a0_l : Value) (out3 : Value) (i4 : Value) (next : List Value → World → Prop) (w : World) : Prop :=
  SV P (Builtin.len_ #[52] 3 #[a0_l]) w fun t8 w =>
  SV P (binOp .lss 3 i4 t8) w fun t9 w =>
  GD t9 true
  (SV P (binOp .lss 3 i4 (Value.int .i64 8)) w fun t12 w =>
  CN t12
  (JP 2 (fun j =>
  SV P (binOp .add 3 (Value.int .i64 97) i4) w fun t17 w =>
  SV P (convert 3 5 t17) w fun t18 w =>
  SV P (Instr.buildSlice 151 1 #[(0, t18)]) w fun t19 w =>
  SV P (convert 151 9 t19) w fun t20 w =>
  JP 1 (fun j_1 =>
  SV P (Instr.indexAt 52 a0_l i4) w fun t23 w =>
  SV P (Instr.fieldAt 55 t23 0) w fun t24 w =>
  SV P (Instr.loadAt 9 t24) w fun t25 w =>
  SV P (Builtin.len_ #[9] 3 #[t25]) w fun t26 w =>
  SV P (binOp .rem 3 t26 (Value.int .i64 2)) w fun t27 w =>
  SV P (eqS .eql 3 (.tmp 27) (.const (Value.int .i64 1)) t27 (Value.int .i64 1)) w fun t28 w =>
  CN t28
  (SV P (binOp .add 9 t20 (str [49])) w fun t30 w =>
  j_1 [t30] w)
  (j_1 [t20] w))
  (fun _ us w => s29_j1 P k a0_l out3 i4 j (us.getD 0 undef) w))
  (fun _ us w => s29_j2 P k i4 next (us.getD 0 undef) (us.getD 1 undef) w))
  (k out3 w))
  (k out3 w)

def s29 (P : Program) (k : Value → World → Prop) (a0_l : Value) (w : World) : Prop :=
  LP 3 [undef, (Value.slice none 0 0), (Value.int .i64 0)] w (fun next _ us w => s29_l1 P k a0_l (us.getD 1 undef) (us.getD 2 undef) next w)

theorem e29 (k : Value → World → Prop) (a0_l : Value) (w : World) : s29 Tryz.prog k a0_l w = vcF Tryz.prog Tryz.f29 [3, 4, 5] [a0_l] k w := by kernel_rfl
theorem c29 {k : Value → World → Prop} {a0_l : Value} {w : World} (h : s29 Tryz.prog k a0_l w) : Calls Tryz.prog 29 #[a0_l] w (retP k) :=
  calls_of_vcF [3, 4, 5] mixedXLaw21 Tryz.func29 (by kernel_rfl) (Eq.mp (e29 k a0_l w) h)
theorem n29 {args : Array Value} {w : World} {k : Value → World → Prop} (h : Calls Tryz.prog 29 args w (retP k)) : SN Tryz.prog (callFunc 29 args) w k := sn_call Tryz.func29 (by kernel_rfl) (by kernel_rfl) h

/-! ### 94: scrinium/scriniumlaw21.one -/

def s94 (P : Program) (k : Value → World → Prop) (a0_name : Value) (a1_data : Value) (w : World) : Prop :=
  SV P (Instr.build 55 #[(0, a0_name), (1, a1_data)]) w fun t7 w =>
  SV P (Instr.buildSlice 52 1 #[(0, t7)]) w fun t8 w =>
  k t8 w

theorem e94 (k : Value → World → Prop) (a0_name a1_data : Value) (w : World) : s94 Tryz.prog k a0_name a1_data w = vcF Tryz.prog Tryz.f94 [] [a0_name, a1_data] k w := by kernel_rfl
theorem c94 {k : Value → World → Prop} {a0_name a1_data : Value} {w : World} (h : s94 Tryz.prog k a0_name a1_data w) : Calls Tryz.prog 94 #[a0_name, a1_data] w (retP k) :=
  calls_of_vcF [] mixedXLaw21 Tryz.func94 (by kernel_rfl) (Eq.mp (e94 k a0_name a1_data w) h)
theorem n94 {args : Array Value} {w : World} {k : Value → World → Prop} (h : Calls Tryz.prog 94 args w (retP k)) : SN Tryz.prog (callFunc 94 args) w k := sn_call Tryz.func94 (by kernel_rfl) (by kernel_rfl) h

/-! ### 95: scrinium/scriniumlaw21.short -/

def s95 (P : Program) (k : Value → World → Prop) (a0_s : Value) (a1_n : Value) (w : World) : Prop :=
  SV P (Builtin.len_ #[9] 3 #[a0_s]) w fun t6 w =>
  SV P (binOp .gtr 3 t6 a1_n) w fun t8 w =>
  CN t8
  (SV P (Instr.sliceAt 9 a0_s none (some a1_n) none) w fun t11 w =>
  k t11 w)
  (k a0_s w)

theorem e95 (k : Value → World → Prop) (a0_s a1_n : Value) (w : World) : s95 Tryz.prog k a0_s a1_n w = vcF Tryz.prog Tryz.f95 [] [a0_s, a1_n] k w := by kernel_rfl
theorem c95 {k : Value → World → Prop} {a0_s a1_n : Value} {w : World} (h : s95 Tryz.prog k a0_s a1_n w) : Calls Tryz.prog 95 #[a0_s, a1_n] w (retP k) :=
  calls_of_vcF [] mixedXLaw21 Tryz.func95 (by kernel_rfl) (Eq.mp (e95 k a0_s a1_n w) h)
theorem n95 {args : Array Value} {w : World} {k : Value → World → Prop} (h : Calls Tryz.prog 95 args w (retP k)) : SN Tryz.prog (callFunc 95 args) w k := sn_call Tryz.func95 (by kernel_rfl) (by kernel_rfl) h

end Go.Proofs.YtkdghnbogkbedaaGreatDoor
