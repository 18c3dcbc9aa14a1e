/-
  ImageGoes: for every two lists of files, files that are changed by what Diff tells come from the ones to the others: the law answers true and its arguments read as they did. Conditions: the package-level tables hold what the program's text lays. (Part 5 of 8.)
-/
import Derived.Test.YtkdghnbogkbedaaGreatDoorProg
import Derived.Test.YtkdghnbogkbedaaGreatDoorPG3
set_option linter.unusedSimpArgs false
set_option linter.unusedVariables false

namespace Go.Sh
open Go Go.RowKit
def eFile : Elt File := ⟨55, 2, File.cells, fun _ => rfl, File.ones⟩
instance {x : File} : EC eFile x x.cells := ⟨rfl⟩
def eOp : Elt FileOp := ⟨150, 4, FileOp.cells, fun _ => rfl, FileOp.ones⟩
instance {x : FileOp} : EC eOp x x.cells := ⟨rfl⟩
instance {x : FileOp} {v : Int} : SetC x.cells 0 (.int .i64 v) ({ x with kind := v } : FileOp).cells := ⟨rfl, by simp [FileOp.cells]⟩
instance {x : FileOp} {v : List UInt8} : SetC x.cells 1 (str v) ({ x with name := v } : FileOp).cells := ⟨rfl, by simp [FileOp.cells]⟩
instance {x : FileOp} {v : List UInt8} : SetC x.cells 2 (str v) ({ x with data := v } : FileOp).cells := ⟨rfl, by simp [FileOp.cells]⟩
instance {x : FileOp} {v : Int} : SetC x.cells 3 (.int .i64 v) ({ x with n := v } : FileOp).cells := ⟨rfl, by simp [FileOp.cells]⟩
instance {x : File} {v : List UInt8} : SetC x.cells 0 (str v) ({ x with name := v } : File).cells := ⟨rfl, by simp [File.cells]⟩
instance {x : File} {v : List UInt8} : SetC x.cells 1 (str v) ({ x with data := v } : File).cells := ⟨rfl, by simp [File.cells]⟩

/-- Does a text begin with another one? -/
def isPre (p s : List UInt8) : Bool := decide (p.length ≤ s.length ∧ s.take p.length = p)
/-- What of a file must change. -/
def changeOf (name a b : List UInt8) (was is : Bool) : List FileOp :=
  (if was then [] else [⟨1, name, [], 0⟩]) ++
    (if is then (if isPre a b then (if b.drop a.length = [] then [] else [⟨2, name, b.drop a.length, 0⟩]) else if isPre b a then [⟨3, name, [], b.length⟩] else [⟨5, name, b, 0⟩])
      else if a = [] then [⟨4, name, [], 0⟩] else [⟨3, name, [], 0⟩, ⟨4, name, [], 0⟩])
theorem changeOf_len (name a b : List UInt8) (was is : Bool) : (changeOf name a b was is).length ≤ 3 := by
  unfold changeOf
  cases was <;> cases is <;> simp <;> (repeat' split) <;> simp
/-- What of files must change. -/
def diffOf : List File → List File → List FileOp
  | [], [] => []
  | o :: os, [] => changeOf o.name o.data [] true false ++ diffOf os []
  | [], n :: ns => changeOf n.name [] n.data false true ++ diffOf [] ns
  | o :: os, n :: ns =>
    if Op.bytesLess o.name n.name then changeOf o.name o.data [] true false ++ diffOf os (n :: ns)
    else if Op.bytesLess n.name o.name then changeOf n.name [] n.data false true ++ diffOf (o :: os) ns
    else changeOf n.name o.data n.data true true ++ diffOf os ns
termination_by o n => o.length + n.length
theorem diffOf_len (o n : List File) : (diffOf o n).length ≤ 3 * (o.length + n.length) := by
  fun_induction diffOf o n
  · simp
  all_goals
    simp only [List.length_append, List.length_cons] at *
    have := fun a b c d e => changeOf_len a b c d e
    grind
end Go.Sh
namespace Go.Proofs.YtkdghnbogkbedaaGreatDoor
open Go Go.Sh Go.RowKit
set_option maxRecDepth 100000
set_option maxHeartbeats 1000000
set_option linter.unusedSimpArgs false
set_option linter.unusedVariables false

theorem has_prefix (s p : List UInt8) (w0 : World) : Ret Tryz.prog 248 #[str s, str p] w0 (.bool (isPre p s)) := by
  refine c248 ?_
  unfold s248
  have m : St w0 [] w0 [] := St.nil w0
  (repeat (first | refine Sh.sv m ?_ | refine Sh.hv ?_ | (refine Sh.sw m ?_; clear m; intro g_ w m) | (refine Sh.su m ?_; clear m; intro w m) | (refine Sh.suN m ?_; clear m; intro w m) | (refine Sh.hr m ?_; clear m; intro m) | refine Sh.rsS m ?_ | refine Sh.hd m ?_ | refine Sh.rsK [] m ?_ | refine CN_tt ?_ | refine CN_ff ?_ | refine GD_tt ?_ | refine GD_ff ?_ | refine GD_tf ?_ | refine GD_ft ?_ | refine CN_true (by first | omega | (simp; done) | (simp; omega)) ?_ | refine CN_false (by first | omega | (simp; done) | (simp; omega)) ?_ | refine GD_true (by first | omega | (simp; done) | (simp; omega)) ?_ | refine GD_true' (by first | omega | (simp; done) | (simp; omega)) ?_ | refine GD_false (by first | omega | (simp; done) | (simp; omega)) ?_ | refine GD_false' (by first | omega | (simp; done) | (simp; omega)) ?_ | refine Sh.crN m ?_ | refine Sh.cr1 m ?_ | refine Sh.svI m (by first | omega | decide) (by first | omega | (simp; done) | (simp; omega)) fun q_ _ hp_ => ?_ | refine Sh.hvI m (by first | omega | decide) (by first | omega | (simp; done) | (simp; omega)) fun q_ _ hp_ => ?_ | refine Sh.svF m fun q_ _ hp_ => ?_ | refine Sh.hvF m fun q_ _ hp_ => ?_))
  refine GD_split (fun h => ?_) (fun h => ?_)
  · (repeat (first | refine Sh.sv m ?_ | refine Sh.hv ?_ | (refine Sh.sw m ?_; clear m; intro g_ w m) | (refine Sh.su m ?_; clear m; intro w m) | (refine Sh.suN m ?_; clear m; intro w m) | (refine Sh.hr m ?_; clear m; intro m) | refine Sh.rsS m ?_ | refine Sh.hd m ?_ | refine Sh.rsK [] m ?_ | refine CN_tt ?_ | refine CN_ff ?_ | refine GD_tt ?_ | refine GD_ff ?_ | refine GD_tf ?_ | refine GD_ft ?_ | refine CN_true (by first | omega | (simp; done) | (simp; omega)) ?_ | refine CN_false (by first | omega | (simp; done) | (simp; omega)) ?_ | refine GD_true (by first | omega | (simp; done) | (simp; omega)) ?_ | refine GD_true' (by first | omega | (simp; done) | (simp; omega)) ?_ | refine GD_false (by first | omega | (simp; done) | (simp; omega)) ?_ | refine GD_false' (by first | omega | (simp; done) | (simp; omega)) ?_ | refine Sh.crN m ?_ | refine Sh.cr1 m ?_ | refine Sh.svI m (by first | omega | decide) (by first | omega | (simp; done) | (simp; omega)) fun q_ _ hp_ => ?_ | refine Sh.hvI m (by first | omega | decide) (by first | omega | (simp; done) | (simp; omega)) fun q_ _ hp_ => ?_ | refine Sh.svF m fun q_ _ hp_ => ?_ | refine Sh.hvF m fun q_ _ hp_ => ?_))
    exact ⟨by simp [isPre]; omega, m.chNo⟩
  · exact ⟨by simp [isPre]; omega, m.chNo⟩
theorem strings_hasPrefix (s p : List UInt8) (w0 : World) : Ret Tryz.prog 171 #[str s, str p] w0 (.bool (isPre p s)) := by
  refine c171 ?_
  unfold s171
  exact n248 ((has_prefix s p w0).use fun w h => ⟨rfl, h⟩)
theorem cut_prefix (s p : List UInt8) (w0 : World) : Ret Tryz.prog 247 #[str s, str p] w0 (.tuple #[str (if isPre p s then s.drop p.length else s), .bool (isPre p s)]) := by
  refine c247 ?_
  unfold s247
  have m : St w0 [] w0 [] := St.nil w0
  refine n248 (m.ret (has_prefix s p w0) ?_); clear m; intro w m
  have hl : isPre p s = true → p.length ≤ s.length := fun h => by simp [isPre] at h; exact h.1
  cases h : isPre p s with
  | true =>
    have := hl h
    (repeat (first | refine Sh.sv m ?_ | refine Sh.hv ?_ | (refine Sh.sw m ?_; clear m; intro g_ w m) | (refine Sh.su m ?_; clear m; intro w m) | (refine Sh.suN m ?_; clear m; intro w m) | (refine Sh.hr m ?_; clear m; intro m) | refine Sh.rsS m ?_ | refine Sh.hd m ?_ | refine Sh.rsK [] m ?_ | refine CN_tt ?_ | refine CN_ff ?_ | refine GD_tt ?_ | refine GD_ff ?_ | refine GD_tf ?_ | refine GD_ft ?_ | refine CN_true (by first | omega | (simp; done) | (simp; omega)) ?_ | refine CN_false (by first | omega | (simp; done) | (simp; omega)) ?_ | refine GD_true (by first | omega | (simp; done) | (simp; omega)) ?_ | refine GD_true' (by first | omega | (simp; done) | (simp; omega)) ?_ | refine GD_false (by first | omega | (simp; done) | (simp; omega)) ?_ | refine GD_false' (by first | omega | (simp; done) | (simp; omega)) ?_ | refine Sh.crN m ?_ | refine Sh.cr1 m ?_ | refine Sh.svI m (by first | omega | decide) (by first | omega | (simp; done) | (simp; omega)) fun q_ _ hp_ => ?_ | refine Sh.hvI m (by first | omega | decide) (by first | omega | (simp; done) | (simp; omega)) fun q_ _ hp_ => ?_ | refine Sh.svF m fun q_ _ hp_ => ?_ | refine Sh.hvF m fun q_ _ hp_ => ?_))
    exact ⟨by simp, m.chNo⟩
  | false =>
    (repeat (first | refine Sh.sv m ?_ | refine Sh.hv ?_ | (refine Sh.sw m ?_; clear m; intro g_ w m) | (refine Sh.su m ?_; clear m; intro w m) | (refine Sh.suN m ?_; clear m; intro w m) | (refine Sh.hr m ?_; clear m; intro m) | refine Sh.rsS m ?_ | refine Sh.hd m ?_ | refine Sh.rsK [] m ?_ | refine CN_tt ?_ | refine CN_ff ?_ | refine GD_tt ?_ | refine GD_ff ?_ | refine GD_tf ?_ | refine GD_ft ?_ | refine CN_true (by first | omega | (simp; done) | (simp; omega)) ?_ | refine CN_false (by first | omega | (simp; done) | (simp; omega)) ?_ | refine GD_true (by first | omega | (simp; done) | (simp; omega)) ?_ | refine GD_true' (by first | omega | (simp; done) | (simp; omega)) ?_ | refine GD_false (by first | omega | (simp; done) | (simp; omega)) ?_ | refine GD_false' (by first | omega | (simp; done) | (simp; omega)) ?_ | refine Sh.crN m ?_ | refine Sh.cr1 m ?_ | refine Sh.svI m (by first | omega | decide) (by first | omega | (simp; done) | (simp; omega)) fun q_ _ hp_ => ?_ | refine Sh.hvI m (by first | omega | decide) (by first | omega | (simp; done) | (simp; omega)) fun q_ _ hp_ => ?_ | refine Sh.svF m fun q_ _ hp_ => ?_ | refine Sh.hvF m fun q_ _ hp_ => ?_))
    exact ⟨by simp, m.chNo⟩
theorem strings_cutPrefix (s p : List UInt8) (w0 : World) : Ret Tryz.prog 170 #[str s, str p] w0 (.tuple #[str (if isPre p s then s.drop p.length else s), .bool (isPre p s)]) := by
  refine c170 ?_
  unfold s170
  have m : St w0 [] w0 [] := St.nil w0
  refine n247 (m.ret (cut_prefix s p w0) ?_); clear m; intro w m
  (repeat (first | refine Sh.sv m ?_ | refine Sh.hv ?_ | (refine Sh.sw m ?_; clear m; intro g_ w m) | (refine Sh.su m ?_; clear m; intro w m) | (refine Sh.suN m ?_; clear m; intro w m) | (refine Sh.hr m ?_; clear m; intro m) | refine Sh.rsS m ?_ | refine Sh.hd m ?_ | refine Sh.rsK [] m ?_ | refine CN_tt ?_ | refine CN_ff ?_ | refine GD_tt ?_ | refine GD_ff ?_ | refine GD_tf ?_ | refine GD_ft ?_ | refine CN_true (by first | omega | (simp; done) | (simp; omega)) ?_ | refine CN_false (by first | omega | (simp; done) | (simp; omega)) ?_ | refine GD_true (by first | omega | (simp; done) | (simp; omega)) ?_ | refine GD_true' (by first | omega | (simp; done) | (simp; omega)) ?_ | refine GD_false (by first | omega | (simp; done) | (simp; omega)) ?_ | refine GD_false' (by first | omega | (simp; done) | (simp; omega)) ?_ | refine Sh.crN m ?_ | refine Sh.cr1 m ?_ | refine Sh.svI m (by first | omega | decide) (by first | omega | (simp; done) | (simp; omega)) fun q_ _ hp_ => ?_ | refine Sh.hvI m (by first | omega | decide) (by first | omega | (simp; done) | (simp; omega)) fun q_ _ hp_ => ?_ | refine Sh.svF m fun q_ _ hp_ => ?_ | refine Sh.hvF m fun q_ _ hp_ => ?_))
  exact ⟨rfl, m.chNo⟩

theorem image_change (name a b : List UInt8) (was is : Bool) (w0 : World) (hb : b.length ≤ 4611686018427387904) :
    Calls Tryz.prog 96 #[str name, str a, str b, .bool was, .bool is] w0 (retP fun v w' => St w0 [] w' [own eOp v (changeOf name a b was is)]) := by
  refine c96 ?_
  unfold s96
  have m : St w0 [] w0 [] := St.nil w0
  refine JP_cut (fun us w => ∃ v, us = [v] ∧ St w0 [] w [own eOp v (if was then [] else [⟨1, name, [], 0⟩])]) ?_ ?_
  · cases was
    · (repeat (first | refine Sh.sv m ?_ | refine Sh.hv ?_ | (refine Sh.sw m ?_; clear m; intro g_ w m) | (refine Sh.su m ?_; clear m; intro w m) | (refine Sh.suN m ?_; clear m; intro w m) | (refine Sh.hr m ?_; clear m; intro m) | refine Sh.rsS m ?_ | refine Sh.hd m ?_ | refine Sh.rsK [] m ?_ | refine CN_tt ?_ | refine CN_ff ?_ | refine GD_tt ?_ | refine GD_ff ?_ | refine GD_tf ?_ | refine GD_ft ?_ | refine CN_true (by first | omega | (simp; done) | (simp; omega)) ?_ | refine CN_false (by first | omega | (simp; done) | (simp; omega)) ?_ | refine GD_true (by first | omega | (simp; done) | (simp; omega)) ?_ | refine GD_true' (by first | omega | (simp; done) | (simp; omega)) ?_ | refine GD_false (by first | omega | (simp; done) | (simp; omega)) ?_ | refine GD_false' (by first | omega | (simp; done) | (simp; omega)) ?_ | refine Sh.crN m ?_ | refine Sh.cr1 m ?_ | refine Sh.svI m (by first | omega | decide) (by first | omega | (simp; done) | (simp; omega)) fun q_ _ hp_ => ?_ | refine Sh.hvI m (by first | omega | decide) (by first | omega | (simp; done) | (simp; omega)) fun q_ _ hp_ => ?_ | refine Sh.svF m fun q_ _ hp_ => ?_ | refine Sh.hvF m fun q_ _ hp_ => ?_))
      refine lits eOp [⟨1, name, [], 0⟩] m [_] rfl rfl rfl (by simp) ?_; clear m; intro v1 w _ m
      replace m := m.nilOwn eOp
      refine ap m (by simp) (by simp [maxLen]) ?_; clear m; intro v2 w _ m
      have h := m.sub (X := [own eOp v2 _]) (by repeat (first | exact Frm.nil | (with_reducible exact Rem.here) | apply Frm.cons | apply Rem.there))
      exact ⟨v2, rfl, by simpa using h⟩
    · (repeat (first | refine Sh.sv m ?_ | refine Sh.hv ?_ | (refine Sh.sw m ?_; clear m; intro g_ w m) | (refine Sh.su m ?_; clear m; intro w m) | (refine Sh.suN m ?_; clear m; intro w m) | (refine Sh.hr m ?_; clear m; intro m) | refine Sh.rsS m ?_ | refine Sh.hd m ?_ | refine Sh.rsK [] m ?_ | refine CN_tt ?_ | refine CN_ff ?_ | refine GD_tt ?_ | refine GD_ff ?_ | refine GD_tf ?_ | refine GD_ft ?_ | refine CN_true (by first | omega | (simp; done) | (simp; omega)) ?_ | refine CN_false (by first | omega | (simp; done) | (simp; omega)) ?_ | refine GD_true (by first | omega | (simp; done) | (simp; omega)) ?_ | refine GD_true' (by first | omega | (simp; done) | (simp; omega)) ?_ | refine GD_false (by first | omega | (simp; done) | (simp; omega)) ?_ | refine GD_false' (by first | omega | (simp; done) | (simp; omega)) ?_ | refine Sh.crN m ?_ | refine Sh.cr1 m ?_ | refine Sh.svI m (by first | omega | decide) (by first | omega | (simp; done) | (simp; omega)) fun q_ _ hp_ => ?_ | refine Sh.hvI m (by first | omega | decide) (by first | omega | (simp; done) | (simp; omega)) fun q_ _ hp_ => ?_ | refine Sh.svF m fun q_ _ hp_ => ?_ | refine Sh.hvF m fun q_ _ hp_ => ?_))
      exact ⟨_, rfl, m.nilOwn eOp⟩
  clear m
  rintro us hus ζ w ⟨v, rfl, m⟩
  have := m.isl (v := v)
  unfold s96_j2
  simp only [List.getD_cons_zero, List.getD_cons_succ]
  refine n170 (m.ret (strings_cutPrefix b a _) ?_); clear m; intro w m
  (repeat (first | refine Sh.sv m ?_ | refine Sh.hv ?_ | (refine Sh.sw m ?_; clear m; intro g_ w m) | (refine Sh.su m ?_; clear m; intro w m) | (refine Sh.suN m ?_; clear m; intro w m) | (refine Sh.hr m ?_; clear m; intro m) | refine Sh.rsS m ?_ | refine Sh.hd m ?_ | refine Sh.rsK [] m ?_ | refine CN_tt ?_ | refine CN_ff ?_ | refine GD_tt ?_ | refine GD_ff ?_ | refine GD_tf ?_ | refine GD_ft ?_ | refine CN_true (by first | omega | (simp; done) | (simp; omega)) ?_ | refine CN_false (by first | omega | (simp; done) | (simp; omega)) ?_ | refine GD_true (by first | omega | (simp; done) | (simp; omega)) ?_ | refine GD_true' (by first | omega | (simp; done) | (simp; omega)) ?_ | refine GD_false (by first | omega | (simp; done) | (simp; omega)) ?_ | refine GD_false' (by first | omega | (simp; done) | (simp; omega)) ?_ | refine Sh.crN m ?_ | refine Sh.cr1 m ?_ | refine Sh.svI m (by first | omega | decide) (by first | omega | (simp; done) | (simp; omega)) fun q_ _ hp_ => ?_ | refine Sh.hvI m (by first | omega | decide) (by first | omega | (simp; done) | (simp; omega)) fun q_ _ hp_ => ?_ | refine Sh.svF m fun q_ _ hp_ => ?_ | refine Sh.hvF m fun q_ _ hp_ => ?_))
  cases is
  · refine JP_in ?_
    (repeat (first | refine Sh.sv m ?_ | refine Sh.hv ?_ | (refine Sh.sw m ?_; clear m; intro g_ w m) | (refine Sh.su m ?_; clear m; intro w m) | (refine Sh.suN m ?_; clear m; intro w m) | (refine Sh.hr m ?_; clear m; intro m) | refine Sh.rsS m ?_ | refine Sh.hd m ?_ | refine Sh.rsK [] m ?_ | refine CN_tt ?_ | refine CN_ff ?_ | refine GD_tt ?_ | refine GD_ff ?_ | refine GD_tf ?_ | refine GD_ft ?_ | refine CN_true (by first | omega | (simp; done) | (simp; omega)) ?_ | refine CN_false (by first | omega | (simp; done) | (simp; omega)) ?_ | refine GD_true (by first | omega | (simp; done) | (simp; omega)) ?_ | refine GD_true' (by first | omega | (simp; done) | (simp; omega)) ?_ | refine GD_false (by first | omega | (simp; done) | (simp; omega)) ?_ | refine GD_false' (by first | omega | (simp; done) | (simp; omega)) ?_ | refine Sh.crN m ?_ | refine Sh.cr1 m ?_ | refine Sh.svI m (by first | omega | decide) (by first | omega | (simp; done) | (simp; omega)) fun q_ _ hp_ => ?_ | refine Sh.hvI m (by first | omega | decide) (by first | omega | (simp; done) | (simp; omega)) fun q_ _ hp_ => ?_ | refine Sh.svF m fun q_ _ hp_ => ?_ | refine Sh.hvF m fun q_ _ hp_ => ?_))
    refine CN_split (fun h1 => ?_) (fun h1 => ?_)
    · subst h1
      (repeat (first | refine Sh.sv m ?_ | refine Sh.hv ?_ | (refine Sh.sw m ?_; clear m; intro g_ w m) | (refine Sh.su m ?_; clear m; intro w m) | (refine Sh.suN m ?_; clear m; intro w m) | (refine Sh.hr m ?_; clear m; intro m) | refine Sh.rsS m ?_ | refine Sh.hd m ?_ | refine Sh.rsK [] m ?_ | refine CN_tt ?_ | refine CN_ff ?_ | refine GD_tt ?_ | refine GD_ff ?_ | refine GD_tf ?_ | refine GD_ft ?_ | refine CN_true (by first | omega | (simp; done) | (simp; omega)) ?_ | refine CN_false (by first | omega | (simp; done) | (simp; omega)) ?_ | refine GD_true (by first | omega | (simp; done) | (simp; omega)) ?_ | refine GD_true' (by first | omega | (simp; done) | (simp; omega)) ?_ | refine GD_false (by first | omega | (simp; done) | (simp; omega)) ?_ | refine GD_false' (by first | omega | (simp; done) | (simp; omega)) ?_ | refine Sh.crN m ?_ | refine Sh.cr1 m ?_ | refine Sh.svI m (by first | omega | decide) (by first | omega | (simp; done) | (simp; omega)) fun q_ _ hp_ => ?_ | refine Sh.hvI m (by first | omega | decide) (by first | omega | (simp; done) | (simp; omega)) fun q_ _ hp_ => ?_ | refine Sh.svF m fun q_ _ hp_ => ?_ | refine Sh.hvF m fun q_ _ hp_ => ?_))
      refine lits eOp [⟨4, name, [], 0⟩] m [_] rfl rfl rfl (by simp) ?_; clear m; intro v1 w _ m
      refine ap m (by cases was <;> simp) (by cases was <;> simp [maxLen]) ?_; clear m; intro v2 w _ m
      refine ⟨rfl, fun _ => ?_⟩
      show St _ _ _ _
      have h := m.sub (X := [own eOp v2 _]) (by repeat (first | exact Frm.nil | (with_reducible exact Rem.here) | apply Frm.cons | apply Rem.there))
      simpa [changeOf, List.length_nil] using h
    · (repeat (first | refine Sh.sv m ?_ | refine Sh.hv ?_ | (refine Sh.sw m ?_; clear m; intro g_ w m) | (refine Sh.su m ?_; clear m; intro w m) | (refine Sh.suN m ?_; clear m; intro w m) | (refine Sh.hr m ?_; clear m; intro m) | refine Sh.rsS m ?_ | refine Sh.hd m ?_ | refine Sh.rsK [] m ?_ | refine CN_tt ?_ | refine CN_ff ?_ | refine GD_tt ?_ | refine GD_ff ?_ | refine GD_tf ?_ | refine GD_ft ?_ | refine CN_true (by first | omega | (simp; done) | (simp; omega)) ?_ | refine CN_false (by first | omega | (simp; done) | (simp; omega)) ?_ | refine GD_true (by first | omega | (simp; done) | (simp; omega)) ?_ | refine GD_true' (by first | omega | (simp; done) | (simp; omega)) ?_ | refine GD_false (by first | omega | (simp; done) | (simp; omega)) ?_ | refine GD_false' (by first | omega | (simp; done) | (simp; omega)) ?_ | refine Sh.crN m ?_ | refine Sh.cr1 m ?_ | refine Sh.svI m (by first | omega | decide) (by first | omega | (simp; done) | (simp; omega)) fun q_ _ hp_ => ?_ | refine Sh.hvI m (by first | omega | decide) (by first | omega | (simp; done) | (simp; omega)) fun q_ _ hp_ => ?_ | refine Sh.svF m fun q_ _ hp_ => ?_ | refine Sh.hvF m fun q_ _ hp_ => ?_))
      refine lits eOp [⟨3, name, [], 0⟩, ⟨4, name, [], 0⟩] m [_, _] rfl rfl rfl (by simp) ?_; clear m; intro v1 w _ m
      refine ap m (by cases was <;> simp) (by cases was <;> simp [maxLen]) ?_; clear m; intro v2 w _ m
      refine ⟨rfl, fun _ => ?_⟩
      show St _ _ _ _
      have h := m.sub (X := [own eOp v2 _]) (by repeat (first | exact Frm.nil | (with_reducible exact Rem.here) | apply Frm.cons | apply Rem.there))
      simpa [changeOf, h1] using h
  · refine JP_in ?_
    cases h1 : isPre a b with
    | true =>
      simp only [if_true]
      (repeat (first | refine Sh.sv m ?_ | refine Sh.hv ?_ | (refine Sh.sw m ?_; clear m; intro g_ w m) | (refine Sh.su m ?_; clear m; intro w m) | (refine Sh.suN m ?_; clear m; intro w m) | (refine Sh.hr m ?_; clear m; intro m) | refine Sh.rsS m ?_ | refine Sh.hd m ?_ | refine Sh.rsK [] m ?_ | refine CN_tt ?_ | refine CN_ff ?_ | refine GD_tt ?_ | refine GD_ff ?_ | refine GD_tf ?_ | refine GD_ft ?_ | refine CN_true (by first | omega | (simp; done) | (simp; omega)) ?_ | refine CN_false (by first | omega | (simp; done) | (simp; omega)) ?_ | refine GD_true (by first | omega | (simp; done) | (simp; omega)) ?_ | refine GD_true' (by first | omega | (simp; done) | (simp; omega)) ?_ | refine GD_false (by first | omega | (simp; done) | (simp; omega)) ?_ | refine GD_false' (by first | omega | (simp; done) | (simp; omega)) ?_ | refine Sh.crN m ?_ | refine Sh.cr1 m ?_ | refine Sh.svI m (by first | omega | decide) (by first | omega | (simp; done) | (simp; omega)) fun q_ _ hp_ => ?_ | refine Sh.hvI m (by first | omega | decide) (by first | omega | (simp; done) | (simp; omega)) fun q_ _ hp_ => ?_ | refine Sh.svF m fun q_ _ hp_ => ?_ | refine Sh.hvF m fun q_ _ hp_ => ?_))
      refine CN_split (fun h2 => ?_) (fun h2 => ?_)
      · refine ⟨rfl, fun _ => ?_⟩
        show St _ _ _ _
        simpa [changeOf, h1, h2] using m
      · (repeat (first | refine Sh.sv m ?_ | refine Sh.hv ?_ | (refine Sh.sw m ?_; clear m; intro g_ w m) | (refine Sh.su m ?_; clear m; intro w m) | (refine Sh.suN m ?_; clear m; intro w m) | (refine Sh.hr m ?_; clear m; intro m) | refine Sh.rsS m ?_ | refine Sh.hd m ?_ | refine Sh.rsK [] m ?_ | refine CN_tt ?_ | refine CN_ff ?_ | refine GD_tt ?_ | refine GD_ff ?_ | refine GD_tf ?_ | refine GD_ft ?_ | refine CN_true (by first | omega | (simp; done) | (simp; omega)) ?_ | refine CN_false (by first | omega | (simp; done) | (simp; omega)) ?_ | refine GD_true (by first | omega | (simp; done) | (simp; omega)) ?_ | refine GD_true' (by first | omega | (simp; done) | (simp; omega)) ?_ | refine GD_false (by first | omega | (simp; done) | (simp; omega)) ?_ | refine GD_false' (by first | omega | (simp; done) | (simp; omega)) ?_ | refine Sh.crN m ?_ | refine Sh.cr1 m ?_ | refine Sh.svI m (by first | omega | decide) (by first | omega | (simp; done) | (simp; omega)) fun q_ _ hp_ => ?_ | refine Sh.hvI m (by first | omega | decide) (by first | omega | (simp; done) | (simp; omega)) fun q_ _ hp_ => ?_ | refine Sh.svF m fun q_ _ hp_ => ?_ | refine Sh.hvF m fun q_ _ hp_ => ?_))
        refine lits eOp [⟨2, name, b.drop a.length, 0⟩] m [_] rfl rfl rfl (by simp) ?_; clear m; intro v1 w _ m
        refine ap m (by cases was <;> simp) (by cases was <;> simp [maxLen]) ?_; clear m; intro v2 w _ m
        refine ⟨rfl, fun _ => ?_⟩
        show St _ _ _ _
        have h := m.sub (X := [own eOp v2 _]) (by repeat (first | exact Frm.nil | (with_reducible exact Rem.here) | apply Frm.cons | apply Rem.there))
        simpa [changeOf, h1, h2] using h
    | false =>
      simp only [Bool.false_eq_true, if_false]
      (repeat (first | refine Sh.sv m ?_ | refine Sh.hv ?_ | (refine Sh.sw m ?_; clear m; intro g_ w m) | (refine Sh.su m ?_; clear m; intro w m) | (refine Sh.suN m ?_; clear m; intro w m) | (refine Sh.hr m ?_; clear m; intro m) | refine Sh.rsS m ?_ | refine Sh.hd m ?_ | refine Sh.rsK [] m ?_ | refine CN_tt ?_ | refine CN_ff ?_ | refine GD_tt ?_ | refine GD_ff ?_ | refine GD_tf ?_ | refine GD_ft ?_ | refine CN_true (by first | omega | (simp; done) | (simp; omega)) ?_ | refine CN_false (by first | omega | (simp; done) | (simp; omega)) ?_ | refine GD_true (by first | omega | (simp; done) | (simp; omega)) ?_ | refine GD_true' (by first | omega | (simp; done) | (simp; omega)) ?_ | refine GD_false (by first | omega | (simp; done) | (simp; omega)) ?_ | refine GD_false' (by first | omega | (simp; done) | (simp; omega)) ?_ | refine Sh.crN m ?_ | refine Sh.cr1 m ?_ | refine Sh.svI m (by first | omega | decide) (by first | omega | (simp; done) | (simp; omega)) fun q_ _ hp_ => ?_ | refine Sh.hvI m (by first | omega | decide) (by first | omega | (simp; done) | (simp; omega)) fun q_ _ hp_ => ?_ | refine Sh.svF m fun q_ _ hp_ => ?_ | refine Sh.hvF m fun q_ _ hp_ => ?_))
      refine n171 (m.ret (strings_hasPrefix a b _) ?_); clear m; intro w m
      cases h2 : isPre b a with
      | true =>
        (repeat (first | refine Sh.sv m ?_ | refine Sh.hv ?_ | (refine Sh.sw m ?_; clear m; intro g_ w m) | (refine Sh.su m ?_; clear m; intro w m) | (refine Sh.suN m ?_; clear m; intro w m) | (refine Sh.hr m ?_; clear m; intro m) | refine Sh.rsS m ?_ | refine Sh.hd m ?_ | refine Sh.rsK [] m ?_ | refine CN_tt ?_ | refine CN_ff ?_ | refine GD_tt ?_ | refine GD_ff ?_ | refine GD_tf ?_ | refine GD_ft ?_ | refine CN_true (by first | omega | (simp; done) | (simp; omega)) ?_ | refine CN_false (by first | omega | (simp; done) | (simp; omega)) ?_ | refine GD_true (by first | omega | (simp; done) | (simp; omega)) ?_ | refine GD_true' (by first | omega | (simp; done) | (simp; omega)) ?_ | refine GD_false (by first | omega | (simp; done) | (simp; omega)) ?_ | refine GD_false' (by first | omega | (simp; done) | (simp; omega)) ?_ | refine Sh.crN m ?_ | refine Sh.cr1 m ?_ | refine Sh.svI m (by first | omega | decide) (by first | omega | (simp; done) | (simp; omega)) fun q_ _ hp_ => ?_ | refine Sh.hvI m (by first | omega | decide) (by first | omega | (simp; done) | (simp; omega)) fun q_ _ hp_ => ?_ | refine Sh.svF m fun q_ _ hp_ => ?_ | refine Sh.hvF m fun q_ _ hp_ => ?_))
        refine lits eOp [⟨3, name, [], b.length⟩] m [_] rfl rfl rfl (by simp) ?_; clear m; intro v1 w _ m
        refine ap m (by cases was <;> simp) (by cases was <;> simp [maxLen]) ?_; clear m; intro v2 w _ m
        refine ⟨rfl, fun _ => ?_⟩
        show St _ _ _ _
        have h := m.sub (X := [own eOp v2 _]) (by repeat (first | exact Frm.nil | (with_reducible exact Rem.here) | apply Frm.cons | apply Rem.there))
        simpa [changeOf, h1, h2] using h
      | false =>
        (repeat (first | refine Sh.sv m ?_ | refine Sh.hv ?_ | (refine Sh.sw m ?_; clear m; intro g_ w m) | (refine Sh.su m ?_; clear m; intro w m) | (refine Sh.suN m ?_; clear m; intro w m) | (refine Sh.hr m ?_; clear m; intro m) | refine Sh.rsS m ?_ | refine Sh.hd m ?_ | refine Sh.rsK [] m ?_ | refine CN_tt ?_ | refine CN_ff ?_ | refine GD_tt ?_ | refine GD_ff ?_ | refine GD_tf ?_ | refine GD_ft ?_ | refine CN_true (by first | omega | (simp; done) | (simp; omega)) ?_ | refine CN_false (by first | omega | (simp; done) | (simp; omega)) ?_ | refine GD_true (by first | omega | (simp; done) | (simp; omega)) ?_ | refine GD_true' (by first | omega | (simp; done) | (simp; omega)) ?_ | refine GD_false (by first | omega | (simp; done) | (simp; omega)) ?_ | refine GD_false' (by first | omega | (simp; done) | (simp; omega)) ?_ | refine Sh.crN m ?_ | refine Sh.cr1 m ?_ | refine Sh.svI m (by first | omega | decide) (by first | omega | (simp; done) | (simp; omega)) fun q_ _ hp_ => ?_ | refine Sh.hvI m (by first | omega | decide) (by first | omega | (simp; done) | (simp; omega)) fun q_ _ hp_ => ?_ | refine Sh.svF m fun q_ _ hp_ => ?_ | refine Sh.hvF m fun q_ _ hp_ => ?_))
        refine lits eOp [⟨5, name, b, 0⟩] m [_] rfl rfl rfl (by simp) ?_; clear m; intro v1 w _ m
        refine ap m (by cases was <;> simp) (by cases was <;> simp [maxLen]) ?_; clear m; intro v2 w _ m
        refine ⟨rfl, fun _ => ?_⟩
        show St _ _ _ _
        have h := m.sub (X := [own eOp v2 _]) (by repeat (first | exact Frm.nil | (with_reducible exact Rem.here) | apply Frm.cons | apply Rem.there))
        simpa [changeOf, h1, h2] using h

theorem image_diff {ov nv : Value} {old now : List File} {w0 : World} (h : Mem w0 [sl eFile ov old, sl eFile nv now]) (ho : old.length ≤ 1000000) (hn : now.length ≤ 1000000) (hd : ∀ f ∈ now, f.data.length ≤ 4611686018427387904) :
    Calls Tryz.prog 31 #[ov, nv] w0 (retP fun v w' => St w0 [sl eFile ov old, sl eFile nv now] w' [own eOp v (diffOf old now)]) := by
  have m := St.start h
  refine c31 ?_
  unfold s31
  refine LP_intro (fun us w => ∃ (v p q : Value) (acc : List FileOp) (o n : List File), us = [v, p, q] ∧ acc ++ diffOf o n = diffOf old now ∧ (∀ f ∈ n, f.data.length ≤ 4611686018427387904) ∧ o.length ≤ old.length ∧ n.length ≤ now.length ∧
      St w0 [sl eFile ov old, sl eFile nv now] w [own eOp v acc, sl eFile p o, sl eFile q n])
    (fun us _ => match us with | [_, p, q] => vlen p + vlen q | _ => 0) ⟨_, ov, nv, [], old, now, rfl, rfl, hd, Nat.le_refl _, Nat.le_refl _, m.nilOwn eOp⟩ ?_
  clear m
  rintro us hus ζ w ⟨v, p, q, acc, o, n, rfl, hacc, hnd, hol, hnl, m⟩
  unfold s31_l1
  simp only [List.getD_cons_zero, List.getD_cons_succ]
  have hl := congrArg List.length hacc
  rw [List.length_append] at hl
  have hl2 := diffOf_len old now
  have hp := m.vlen p
  have hq := m.vlen q
  have ao : ∀ (c : List FileOp), c.length ≤ 3 → (acc.length + c.length) * 48 ≤ 140737488355328 ∧ acc.length + c.length ≤ maxLen := fun c hc => by unfold maxLen; omega
  cases o with
  | nil =>
    cases n with
    | nil =>
      (repeat (first | refine Sh.sv m ?_ | refine Sh.hv ?_ | (refine Sh.sw m ?_; clear m; intro g_ w m) | (refine Sh.su m ?_; clear m; intro w m) | (refine Sh.suN m ?_; clear m; intro w m) | (refine Sh.hr m ?_; clear m; intro m) | refine Sh.rsS m ?_ | refine Sh.hd m ?_ | refine Sh.rsK [] m ?_ | refine CN_tt ?_ | refine CN_ff ?_ | refine GD_tt ?_ | refine GD_ff ?_ | refine GD_tf ?_ | refine GD_ft ?_ | refine CN_true (by first | omega | (simp; done) | (simp; omega)) ?_ | refine CN_false (by first | omega | (simp; done) | (simp; omega)) ?_ | refine GD_true (by first | omega | (simp; done) | (simp; omega)) ?_ | refine GD_true' (by first | omega | (simp; done) | (simp; omega)) ?_ | refine GD_false (by first | omega | (simp; done) | (simp; omega)) ?_ | refine GD_false' (by first | omega | (simp; done) | (simp; omega)) ?_ | refine Sh.crN m ?_ | refine Sh.cr1 m ?_ | refine Sh.svI m (by first | omega | decide) (by first | omega | (simp; done) | (simp; omega)) fun q_ _ hp_ => ?_ | refine Sh.hvI m (by first | omega | decide) (by first | omega | (simp; done) | (simp; omega)) fun q_ _ hp_ => ?_ | refine Sh.svF m fun q_ _ hp_ => ?_ | refine Sh.hvF m fun q_ _ hp_ => ?_))
      simp only [diffOf, List.append_nil] at hacc
      subst hacc
      exact m.sub (by repeat (first | exact Frm.nil | (with_reducible exact Rem.dup) | (with_reducible exact Rem.here) | apply Frm.cons | apply Rem.there))
    | cons b ns =>
      simp only [List.length_cons] at hnl
      have hb := hnd b List.mem_cons_self
      have hnd' : ∀ f ∈ ns, f.data.length ≤ 4611686018427387904 := fun f hf => hnd f (List.mem_cons_of_mem _ hf)
      rw [diffOf, ← List.append_assoc] at hacc
      (repeat (first | refine Sh.sv m ?_ | refine Sh.hv ?_ | (refine Sh.sw m ?_; clear m; intro g_ w m) | (refine Sh.su m ?_; clear m; intro w m) | (refine Sh.suN m ?_; clear m; intro w m) | (refine Sh.hr m ?_; clear m; intro m) | refine Sh.rsS m ?_ | refine Sh.hd m ?_ | refine Sh.rsK [] m ?_ | refine CN_tt ?_ | refine CN_ff ?_ | refine GD_tt ?_ | refine GD_ff ?_ | refine GD_tf ?_ | refine GD_ft ?_ | refine CN_true (by first | omega | (simp; done) | (simp; omega)) ?_ | refine CN_false (by first | omega | (simp; done) | (simp; omega)) ?_ | refine GD_true (by first | omega | (simp; done) | (simp; omega)) ?_ | refine GD_true' (by first | omega | (simp; done) | (simp; omega)) ?_ | refine GD_false (by first | omega | (simp; done) | (simp; omega)) ?_ | refine GD_false' (by first | omega | (simp; done) | (simp; omega)) ?_ | refine Sh.crN m ?_ | refine Sh.cr1 m ?_ | refine Sh.svI m (by first | omega | decide) (by first | omega | (simp; done) | (simp; omega)) fun q_ _ hp_ => ?_ | refine Sh.hvI m (by first | omega | decide) (by first | omega | (simp; done) | (simp; omega)) fun q_ _ hp_ => ?_ | refine Sh.svF m fun q_ _ hp_ => ?_ | refine Sh.hvF m fun q_ _ hp_ => ?_))
      refine n96 (m.call (image_change _ _ _ _ _ _ (by first | (simp; omega) | simp)) ?_)
      rintro v1 w m1
      have := m1.isl (v := v1)
      replace m := m.fr Frm.nil m1; simp only [List.cons_append, List.nil_append] at m
      have hc3 := ao _ (changeOf_len b.name [] b.data false true)
      (repeat (first | refine Sh.sv m ?_ | refine Sh.hv ?_ | (refine Sh.sw m ?_; clear m; intro g_ w m) | (refine Sh.su m ?_; clear m; intro w m) | (refine Sh.suN m ?_; clear m; intro w m) | (refine Sh.hr m ?_; clear m; intro m) | refine Sh.rsS m ?_ | refine Sh.hd m ?_ | refine Sh.rsK [] m ?_ | refine CN_tt ?_ | refine CN_ff ?_ | refine GD_tt ?_ | refine GD_ff ?_ | refine GD_tf ?_ | refine GD_ft ?_ | refine CN_true (by first | omega | (simp; done) | (simp; omega)) ?_ | refine CN_false (by first | omega | (simp; done) | (simp; omega)) ?_ | refine GD_true (by first | omega | (simp; done) | (simp; omega)) ?_ | refine GD_true' (by first | omega | (simp; done) | (simp; omega)) ?_ | refine GD_false (by first | omega | (simp; done) | (simp; omega)) ?_ | refine GD_false' (by first | omega | (simp; done) | (simp; omega)) ?_ | refine Sh.crN m ?_ | refine Sh.cr1 m ?_ | refine Sh.svI m (by first | omega | decide) (by first | omega | (simp; done) | (simp; omega)) fun q_ _ hp_ => ?_ | refine Sh.hvI m (by first | omega | decide) (by first | omega | (simp; done) | (simp; omega)) fun q_ _ hp_ => ?_ | refine Sh.svF m fun q_ _ hp_ => ?_ | refine Sh.hvF m fun q_ _ hp_ => ?_))
      refine ap m hc3.1 hc3.2 ?_; clear m; intro v2 w _ m
      (repeat (first | refine Sh.sv m ?_ | refine Sh.hv ?_ | (refine Sh.sw m ?_; clear m; intro g_ w m) | (refine Sh.su m ?_; clear m; intro w m) | (refine Sh.suN m ?_; clear m; intro w m) | (refine Sh.hr m ?_; clear m; intro m) | refine Sh.rsS m ?_ | refine Sh.hd m ?_ | refine Sh.rsK [] m ?_ | refine CN_tt ?_ | refine CN_ff ?_ | refine GD_tt ?_ | refine GD_ff ?_ | refine GD_tf ?_ | refine GD_ft ?_ | refine CN_true (by first | omega | (simp; done) | (simp; omega)) ?_ | refine CN_false (by first | omega | (simp; done) | (simp; omega)) ?_ | refine GD_true (by first | omega | (simp; done) | (simp; omega)) ?_ | refine GD_true' (by first | omega | (simp; done) | (simp; omega)) ?_ | refine GD_false (by first | omega | (simp; done) | (simp; omega)) ?_ | refine GD_false' (by first | omega | (simp; done) | (simp; omega)) ?_ | refine Sh.crN m ?_ | refine Sh.cr1 m ?_ | refine Sh.svI m (by first | omega | decide) (by first | omega | (simp; done) | (simp; omega)) fun q_ _ hp_ => ?_ | refine Sh.hvI m (by first | omega | decide) (by first | omega | (simp; done) | (simp; omega)) fun q_ _ hp_ => ?_ | refine Sh.svF m fun q_ _ hp_ => ?_ | refine Sh.hvF m fun q_ _ hp_ => ?_))
      refine slL (v := q) m (by decide) (by simp; omega) ?_; clear m; intro q2 _ m
      (repeat (first | refine Sh.sv m ?_ | refine Sh.hv ?_ | (refine Sh.sw m ?_; clear m; intro g_ w m) | (refine Sh.su m ?_; clear m; intro w m) | (refine Sh.suN m ?_; clear m; intro w m) | (refine Sh.hr m ?_; clear m; intro m) | refine Sh.rsS m ?_ | refine Sh.hd m ?_ | refine Sh.rsK [] m ?_ | refine CN_tt ?_ | refine CN_ff ?_ | refine GD_tt ?_ | refine GD_ff ?_ | refine GD_tf ?_ | refine GD_ft ?_ | refine CN_true (by first | omega | (simp; done) | (simp; omega)) ?_ | refine CN_false (by first | omega | (simp; done) | (simp; omega)) ?_ | refine GD_true (by first | omega | (simp; done) | (simp; omega)) ?_ | refine GD_true' (by first | omega | (simp; done) | (simp; omega)) ?_ | refine GD_false (by first | omega | (simp; done) | (simp; omega)) ?_ | refine GD_false' (by first | omega | (simp; done) | (simp; omega)) ?_ | refine Sh.crN m ?_ | refine Sh.cr1 m ?_ | refine Sh.svI m (by first | omega | decide) (by first | omega | (simp; done) | (simp; omega)) fun q_ _ hp_ => ?_ | refine Sh.hvI m (by first | omega | decide) (by first | omega | (simp; done) | (simp; omega)) fun q_ _ hp_ => ?_ | refine Sh.svF m fun q_ _ hp_ => ?_ | refine Sh.hvF m fun q_ _ hp_ => ?_))
      simp only [Int.toNat_zero, Int.toNat_one, List.drop_succ_cons, List.drop_zero, List.getElem_cons_zero] at m
      refine ⟨⟨v2, p, q2, _, [], ns, rfl, hacc, hnd', hol, by omega, m.sub (by repeat (first | exact Frm.nil | (with_reducible exact Rem.dup) | (with_reducible exact Rem.here) | apply Frm.cons | apply Rem.there))⟩, ?_⟩
      have hq2 := m.vlen q2
      simp only [hp, hq, hq2, List.length_cons]; omega
  | cons a os =>
    simp only [List.length_cons] at hol
    cases n with
    | nil =>
      rw [diffOf, ← List.append_assoc] at hacc
      (repeat (first | refine Sh.sv m ?_ | refine Sh.hv ?_ | (refine Sh.sw m ?_; clear m; intro g_ w m) | (refine Sh.su m ?_; clear m; intro w m) | (refine Sh.suN m ?_; clear m; intro w m) | (refine Sh.hr m ?_; clear m; intro m) | refine Sh.rsS m ?_ | refine Sh.hd m ?_ | refine Sh.rsK [] m ?_ | refine CN_tt ?_ | refine CN_ff ?_ | refine GD_tt ?_ | refine GD_ff ?_ | refine GD_tf ?_ | refine GD_ft ?_ | refine CN_true (by first | omega | (simp; done) | (simp; omega)) ?_ | refine CN_false (by first | omega | (simp; done) | (simp; omega)) ?_ | refine GD_true (by first | omega | (simp; done) | (simp; omega)) ?_ | refine GD_true' (by first | omega | (simp; done) | (simp; omega)) ?_ | refine GD_false (by first | omega | (simp; done) | (simp; omega)) ?_ | refine GD_false' (by first | omega | (simp; done) | (simp; omega)) ?_ | refine Sh.crN m ?_ | refine Sh.cr1 m ?_ | refine Sh.svI m (by first | omega | decide) (by first | omega | (simp; done) | (simp; omega)) fun q_ _ hp_ => ?_ | refine Sh.hvI m (by first | omega | decide) (by first | omega | (simp; done) | (simp; omega)) fun q_ _ hp_ => ?_ | refine Sh.svF m fun q_ _ hp_ => ?_ | refine Sh.hvF m fun q_ _ hp_ => ?_))
      refine n96 (m.call (image_change _ _ _ _ _ _ (by first | (simp; omega) | simp)) ?_)
      rintro v1 w m1
      have := m1.isl (v := v1)
      replace m := m.fr Frm.nil m1; simp only [List.cons_append, List.nil_append] at m
      have hc3 := ao _ (changeOf_len a.name a.data [] true false)
      (repeat (first | refine Sh.sv m ?_ | refine Sh.hv ?_ | (refine Sh.sw m ?_; clear m; intro g_ w m) | (refine Sh.su m ?_; clear m; intro w m) | (refine Sh.suN m ?_; clear m; intro w m) | (refine Sh.hr m ?_; clear m; intro m) | refine Sh.rsS m ?_ | refine Sh.hd m ?_ | refine Sh.rsK [] m ?_ | refine CN_tt ?_ | refine CN_ff ?_ | refine GD_tt ?_ | refine GD_ff ?_ | refine GD_tf ?_ | refine GD_ft ?_ | refine CN_true (by first | omega | (simp; done) | (simp; omega)) ?_ | refine CN_false (by first | omega | (simp; done) | (simp; omega)) ?_ | refine GD_true (by first | omega | (simp; done) | (simp; omega)) ?_ | refine GD_true' (by first | omega | (simp; done) | (simp; omega)) ?_ | refine GD_false (by first | omega | (simp; done) | (simp; omega)) ?_ | refine GD_false' (by first | omega | (simp; done) | (simp; omega)) ?_ | refine Sh.crN m ?_ | refine Sh.cr1 m ?_ | refine Sh.svI m (by first | omega | decide) (by first | omega | (simp; done) | (simp; omega)) fun q_ _ hp_ => ?_ | refine Sh.hvI m (by first | omega | decide) (by first | omega | (simp; done) | (simp; omega)) fun q_ _ hp_ => ?_ | refine Sh.svF m fun q_ _ hp_ => ?_ | refine Sh.hvF m fun q_ _ hp_ => ?_))
      refine ap m hc3.1 hc3.2 ?_; clear m; intro v2 w _ m
      (repeat (first | refine Sh.sv m ?_ | refine Sh.hv ?_ | (refine Sh.sw m ?_; clear m; intro g_ w m) | (refine Sh.su m ?_; clear m; intro w m) | (refine Sh.suN m ?_; clear m; intro w m) | (refine Sh.hr m ?_; clear m; intro m) | refine Sh.rsS m ?_ | refine Sh.hd m ?_ | refine Sh.rsK [] m ?_ | refine CN_tt ?_ | refine CN_ff ?_ | refine GD_tt ?_ | refine GD_ff ?_ | refine GD_tf ?_ | refine GD_ft ?_ | refine CN_true (by first | omega | (simp; done) | (simp; omega)) ?_ | refine CN_false (by first | omega | (simp; done) | (simp; omega)) ?_ | refine GD_true (by first | omega | (simp; done) | (simp; omega)) ?_ | refine GD_true' (by first | omega | (simp; done) | (simp; omega)) ?_ | refine GD_false (by first | omega | (simp; done) | (simp; omega)) ?_ | refine GD_false' (by first | omega | (simp; done) | (simp; omega)) ?_ | refine Sh.crN m ?_ | refine Sh.cr1 m ?_ | refine Sh.svI m (by first | omega | decide) (by first | omega | (simp; done) | (simp; omega)) fun q_ _ hp_ => ?_ | refine Sh.hvI m (by first | omega | decide) (by first | omega | (simp; done) | (simp; omega)) fun q_ _ hp_ => ?_ | refine Sh.svF m fun q_ _ hp_ => ?_ | refine Sh.hvF m fun q_ _ hp_ => ?_))
      refine slL (v := p) m (by decide) (by simp; omega) ?_; clear m; intro p2 _ m
      (repeat (first | refine Sh.sv m ?_ | refine Sh.hv ?_ | (refine Sh.sw m ?_; clear m; intro g_ w m) | (refine Sh.su m ?_; clear m; intro w m) | (refine Sh.suN m ?_; clear m; intro w m) | (refine Sh.hr m ?_; clear m; intro m) | refine Sh.rsS m ?_ | refine Sh.hd m ?_ | refine Sh.rsK [] m ?_ | refine CN_tt ?_ | refine CN_ff ?_ | refine GD_tt ?_ | refine GD_ff ?_ | refine GD_tf ?_ | refine GD_ft ?_ | refine CN_true (by first | omega | (simp; done) | (simp; omega)) ?_ | refine CN_false (by first | omega | (simp; done) | (simp; omega)) ?_ | refine GD_true (by first | omega | (simp; done) | (simp; omega)) ?_ | refine GD_true' (by first | omega | (simp; done) | (simp; omega)) ?_ | refine GD_false (by first | omega | (simp; done) | (simp; omega)) ?_ | refine GD_false' (by first | omega | (simp; done) | (simp; omega)) ?_ | refine Sh.crN m ?_ | refine Sh.cr1 m ?_ | refine Sh.svI m (by first | omega | decide) (by first | omega | (simp; done) | (simp; omega)) fun q_ _ hp_ => ?_ | refine Sh.hvI m (by first | omega | decide) (by first | omega | (simp; done) | (simp; omega)) fun q_ _ hp_ => ?_ | refine Sh.svF m fun q_ _ hp_ => ?_ | refine Sh.hvF m fun q_ _ hp_ => ?_))
      simp only [Int.toNat_zero, Int.toNat_one, List.drop_succ_cons, List.drop_zero, List.getElem_cons_zero] at m
      refine ⟨⟨v2, p2, q, _, os, [], rfl, hacc, hnd, by omega, hnl, m.sub (by repeat (first | exact Frm.nil | (with_reducible exact Rem.dup) | (with_reducible exact Rem.here) | apply Frm.cons | apply Rem.there))⟩, ?_⟩
      have hp2 := m.vlen p2
      simp only [hp, hq, hp2, List.length_cons]; omega
    | cons b ns =>
      simp only [List.length_cons] at hnl
      have hb := hnd b List.mem_cons_self
      have hnd' : ∀ f ∈ ns, f.data.length ≤ 4611686018427387904 := fun f hf => hnd f (List.mem_cons_of_mem _ hf)
      rw [diffOf] at hacc
      cases hlt : Op.bytesLess a.name b.name with
      | true =>
        rw [if_pos hlt, ← List.append_assoc] at hacc
        (repeat (first | refine Sh.sv m ?_ | refine Sh.hv ?_ | (refine Sh.sw m ?_; clear m; intro g_ w m) | (refine Sh.su m ?_; clear m; intro w m) | (refine Sh.suN m ?_; clear m; intro w m) | (refine Sh.hr m ?_; clear m; intro m) | refine Sh.rsS m ?_ | refine Sh.hd m ?_ | refine Sh.rsK [] m ?_ | refine CN_tt ?_ | refine CN_ff ?_ | refine GD_tt ?_ | refine GD_ff ?_ | refine GD_tf ?_ | refine GD_ft ?_ | refine CN_true (by first | omega | (simp; done) | (simp; omega)) ?_ | refine CN_false (by first | omega | (simp; done) | (simp; omega)) ?_ | refine GD_true (by first | omega | (simp; done) | (simp; omega)) ?_ | refine GD_true' (by first | omega | (simp; done) | (simp; omega)) ?_ | refine GD_false (by first | omega | (simp; done) | (simp; omega)) ?_ | refine GD_false' (by first | omega | (simp; done) | (simp; omega)) ?_ | refine Sh.crN m ?_ | refine Sh.cr1 m ?_ | refine Sh.svI m (by first | omega | decide) (by first | omega | (simp; done) | (simp; omega)) fun q_ _ hp_ => ?_ | refine Sh.hvI m (by first | omega | decide) (by first | omega | (simp; done) | (simp; omega)) fun q_ _ hp_ => ?_ | refine Sh.svF m fun q_ _ hp_ => ?_ | refine Sh.hvF m fun q_ _ hp_ => ?_))
        simp only [Int.toNat_zero, List.getElem_cons_zero, hlt]
        (repeat (first | refine Sh.sv m ?_ | refine Sh.hv ?_ | (refine Sh.sw m ?_; clear m; intro g_ w m) | (refine Sh.su m ?_; clear m; intro w m) | (refine Sh.suN m ?_; clear m; intro w m) | (refine Sh.hr m ?_; clear m; intro m) | refine Sh.rsS m ?_ | refine Sh.hd m ?_ | refine Sh.rsK [] m ?_ | refine CN_tt ?_ | refine CN_ff ?_ | refine GD_tt ?_ | refine GD_ff ?_ | refine GD_tf ?_ | refine GD_ft ?_ | refine CN_true (by first | omega | (simp; done) | (simp; omega)) ?_ | refine CN_false (by first | omega | (simp; done) | (simp; omega)) ?_ | refine GD_true (by first | omega | (simp; done) | (simp; omega)) ?_ | refine GD_true' (by first | omega | (simp; done) | (simp; omega)) ?_ | refine GD_false (by first | omega | (simp; done) | (simp; omega)) ?_ | refine GD_false' (by first | omega | (simp; done) | (simp; omega)) ?_ | refine Sh.crN m ?_ | refine Sh.cr1 m ?_ | refine Sh.svI m (by first | omega | decide) (by first | omega | (simp; done) | (simp; omega)) fun q_ _ hp_ => ?_ | refine Sh.hvI m (by first | omega | decide) (by first | omega | (simp; done) | (simp; omega)) fun q_ _ hp_ => ?_ | refine Sh.svF m fun q_ _ hp_ => ?_ | refine Sh.hvF m fun q_ _ hp_ => ?_))
        refine n96 (m.call (image_change _ _ _ _ _ _ (by first | (simp; omega) | simp)) ?_)
        rintro v1 w m1
        have := m1.isl (v := v1)
        replace m := m.fr Frm.nil m1; simp only [List.cons_append, List.nil_append] at m
        have hc3 := ao _ (changeOf_len a.name a.data [] true false)
        (repeat (first | refine Sh.sv m ?_ | refine Sh.hv ?_ | (refine Sh.sw m ?_; clear m; intro g_ w m) | (refine Sh.su m ?_; clear m; intro w m) | (refine Sh.suN m ?_; clear m; intro w m) | (refine Sh.hr m ?_; clear m; intro m) | refine Sh.rsS m ?_ | refine Sh.hd m ?_ | refine Sh.rsK [] m ?_ | refine CN_tt ?_ | refine CN_ff ?_ | refine GD_tt ?_ | refine GD_ff ?_ | refine GD_tf ?_ | refine GD_ft ?_ | refine CN_true (by first | omega | (simp; done) | (simp; omega)) ?_ | refine CN_false (by first | omega | (simp; done) | (simp; omega)) ?_ | refine GD_true (by first | omega | (simp; done) | (simp; omega)) ?_ | refine GD_true' (by first | omega | (simp; done) | (simp; omega)) ?_ | refine GD_false (by first | omega | (simp; done) | (simp; omega)) ?_ | refine GD_false' (by first | omega | (simp; done) | (simp; omega)) ?_ | refine Sh.crN m ?_ | refine Sh.cr1 m ?_ | refine Sh.svI m (by first | omega | decide) (by first | omega | (simp; done) | (simp; omega)) fun q_ _ hp_ => ?_ | refine Sh.hvI m (by first | omega | decide) (by first | omega | (simp; done) | (simp; omega)) fun q_ _ hp_ => ?_ | refine Sh.svF m fun q_ _ hp_ => ?_ | refine Sh.hvF m fun q_ _ hp_ => ?_))
        refine ap m hc3.1 hc3.2 ?_; clear m; intro v2 w _ m
        (repeat (first | refine Sh.sv m ?_ | refine Sh.hv ?_ | (refine Sh.sw m ?_; clear m; intro g_ w m) | (refine Sh.su m ?_; clear m; intro w m) | (refine Sh.suN m ?_; clear m; intro w m) | (refine Sh.hr m ?_; clear m; intro m) | refine Sh.rsS m ?_ | refine Sh.hd m ?_ | refine Sh.rsK [] m ?_ | refine CN_tt ?_ | refine CN_ff ?_ | refine GD_tt ?_ | refine GD_ff ?_ | refine GD_tf ?_ | refine GD_ft ?_ | refine CN_true (by first | omega | (simp; done) | (simp; omega)) ?_ | refine CN_false (by first | omega | (simp; done) | (simp; omega)) ?_ | refine GD_true (by first | omega | (simp; done) | (simp; omega)) ?_ | refine GD_true' (by first | omega | (simp; done) | (simp; omega)) ?_ | refine GD_false (by first | omega | (simp; done) | (simp; omega)) ?_ | refine GD_false' (by first | omega | (simp; done) | (simp; omega)) ?_ | refine Sh.crN m ?_ | refine Sh.cr1 m ?_ | refine Sh.svI m (by first | omega | decide) (by first | omega | (simp; done) | (simp; omega)) fun q_ _ hp_ => ?_ | refine Sh.hvI m (by first | omega | decide) (by first | omega | (simp; done) | (simp; omega)) fun q_ _ hp_ => ?_ | refine Sh.svF m fun q_ _ hp_ => ?_ | refine Sh.hvF m fun q_ _ hp_ => ?_))
        refine slL (v := p) m (by decide) (by simp; omega) ?_; clear m; intro p2 _ m
        (repeat (first | refine Sh.sv m ?_ | refine Sh.hv ?_ | (refine Sh.sw m ?_; clear m; intro g_ w m) | (refine Sh.su m ?_; clear m; intro w m) | (refine Sh.suN m ?_; clear m; intro w m) | (refine Sh.hr m ?_; clear m; intro m) | refine Sh.rsS m ?_ | refine Sh.hd m ?_ | refine Sh.rsK [] m ?_ | refine CN_tt ?_ | refine CN_ff ?_ | refine GD_tt ?_ | refine GD_ff ?_ | refine GD_tf ?_ | refine GD_ft ?_ | refine CN_true (by first | omega | (simp; done) | (simp; omega)) ?_ | refine CN_false (by first | omega | (simp; done) | (simp; omega)) ?_ | refine GD_true (by first | omega | (simp; done) | (simp; omega)) ?_ | refine GD_true' (by first | omega | (simp; done) | (simp; omega)) ?_ | refine GD_false (by first | omega | (simp; done) | (simp; omega)) ?_ | refine GD_false' (by first | omega | (simp; done) | (simp; omega)) ?_ | refine Sh.crN m ?_ | refine Sh.cr1 m ?_ | refine Sh.svI m (by first | omega | decide) (by first | omega | (simp; done) | (simp; omega)) fun q_ _ hp_ => ?_ | refine Sh.hvI m (by first | omega | decide) (by first | omega | (simp; done) | (simp; omega)) fun q_ _ hp_ => ?_ | refine Sh.svF m fun q_ _ hp_ => ?_ | refine Sh.hvF m fun q_ _ hp_ => ?_))
        simp only [Int.toNat_zero, Int.toNat_one, List.drop_succ_cons, List.drop_zero, List.getElem_cons_zero] at m
        refine ⟨⟨v2, p2, q, _, os, _, rfl, hacc, hnd, by omega, hnl, m.sub (by repeat (first | exact Frm.nil | (with_reducible exact Rem.dup) | (with_reducible exact Rem.here) | apply Frm.cons | apply Rem.there))⟩, ?_⟩
        have hp2 := m.vlen p2
        simp only [hp, hq, hp2, List.length_cons]; omega
      | false =>
        rw [if_neg (by simp [hlt])] at hacc
        (repeat (first | refine Sh.sv m ?_ | refine Sh.hv ?_ | (refine Sh.sw m ?_; clear m; intro g_ w m) | (refine Sh.su m ?_; clear m; intro w m) | (refine Sh.suN m ?_; clear m; intro w m) | (refine Sh.hr m ?_; clear m; intro m) | refine Sh.rsS m ?_ | refine Sh.hd m ?_ | refine Sh.rsK [] m ?_ | refine CN_tt ?_ | refine CN_ff ?_ | refine GD_tt ?_ | refine GD_ff ?_ | refine GD_tf ?_ | refine GD_ft ?_ | refine CN_true (by first | omega | (simp; done) | (simp; omega)) ?_ | refine CN_false (by first | omega | (simp; done) | (simp; omega)) ?_ | refine GD_true (by first | omega | (simp; done) | (simp; omega)) ?_ | refine GD_true' (by first | omega | (simp; done) | (simp; omega)) ?_ | refine GD_false (by first | omega | (simp; done) | (simp; omega)) ?_ | refine GD_false' (by first | omega | (simp; done) | (simp; omega)) ?_ | refine Sh.crN m ?_ | refine Sh.cr1 m ?_ | refine Sh.svI m (by first | omega | decide) (by first | omega | (simp; done) | (simp; omega)) fun q_ _ hp_ => ?_ | refine Sh.hvI m (by first | omega | decide) (by first | omega | (simp; done) | (simp; omega)) fun q_ _ hp_ => ?_ | refine Sh.svF m fun q_ _ hp_ => ?_ | refine Sh.hvF m fun q_ _ hp_ => ?_))
        simp only [Int.toNat_zero, List.getElem_cons_zero, hlt]
        (repeat (first | refine Sh.sv m ?_ | refine Sh.hv ?_ | (refine Sh.sw m ?_; clear m; intro g_ w m) | (refine Sh.su m ?_; clear m; intro w m) | (refine Sh.suN m ?_; clear m; intro w m) | (refine Sh.hr m ?_; clear m; intro m) | refine Sh.rsS m ?_ | refine Sh.hd m ?_ | refine Sh.rsK [] m ?_ | refine CN_tt ?_ | refine CN_ff ?_ | refine GD_tt ?_ | refine GD_ff ?_ | refine GD_tf ?_ | refine GD_ft ?_ | refine CN_true (by first | omega | (simp; done) | (simp; omega)) ?_ | refine CN_false (by first | omega | (simp; done) | (simp; omega)) ?_ | refine GD_true (by first | omega | (simp; done) | (simp; omega)) ?_ | refine GD_true' (by first | omega | (simp; done) | (simp; omega)) ?_ | refine GD_false (by first | omega | (simp; done) | (simp; omega)) ?_ | refine GD_false' (by first | omega | (simp; done) | (simp; omega)) ?_ | refine Sh.crN m ?_ | refine Sh.cr1 m ?_ | refine Sh.svI m (by first | omega | decide) (by first | omega | (simp; done) | (simp; omega)) fun q_ _ hp_ => ?_ | refine Sh.hvI m (by first | omega | decide) (by first | omega | (simp; done) | (simp; omega)) fun q_ _ hp_ => ?_ | refine Sh.svF m fun q_ _ hp_ => ?_ | refine Sh.hvF m fun q_ _ hp_ => ?_))
        cases hgt : Op.bytesLess b.name a.name with
        | true =>
          rw [if_pos hgt, ← List.append_assoc] at hacc
          simp only [Int.toNat_zero, List.getElem_cons_zero, hgt]
          (repeat (first | refine Sh.sv m ?_ | refine Sh.hv ?_ | (refine Sh.sw m ?_; clear m; intro g_ w m) | (refine Sh.su m ?_; clear m; intro w m) | (refine Sh.suN m ?_; clear m; intro w m) | (refine Sh.hr m ?_; clear m; intro m) | refine Sh.rsS m ?_ | refine Sh.hd m ?_ | refine Sh.rsK [] m ?_ | refine CN_tt ?_ | refine CN_ff ?_ | refine GD_tt ?_ | refine GD_ff ?_ | refine GD_tf ?_ | refine GD_ft ?_ | refine CN_true (by first | omega | (simp; done) | (simp; omega)) ?_ | refine CN_false (by first | omega | (simp; done) | (simp; omega)) ?_ | refine GD_true (by first | omega | (simp; done) | (simp; omega)) ?_ | refine GD_true' (by first | omega | (simp; done) | (simp; omega)) ?_ | refine GD_false (by first | omega | (simp; done) | (simp; omega)) ?_ | refine GD_false' (by first | omega | (simp; done) | (simp; omega)) ?_ | refine Sh.crN m ?_ | refine Sh.cr1 m ?_ | refine Sh.svI m (by first | omega | decide) (by first | omega | (simp; done) | (simp; omega)) fun q_ _ hp_ => ?_ | refine Sh.hvI m (by first | omega | decide) (by first | omega | (simp; done) | (simp; omega)) fun q_ _ hp_ => ?_ | refine Sh.svF m fun q_ _ hp_ => ?_ | refine Sh.hvF m fun q_ _ hp_ => ?_))
          refine n96 (m.call (image_change _ _ _ _ _ _ (by first | (simp; omega) | simp)) ?_)
          rintro v1 w m1
          have := m1.isl (v := v1)
          replace m := m.fr Frm.nil m1; simp only [List.cons_append, List.nil_append] at m
          have hc3 := ao _ (changeOf_len b.name [] b.data false true)
          (repeat (first | refine Sh.sv m ?_ | refine Sh.hv ?_ | (refine Sh.sw m ?_; clear m; intro g_ w m) | (refine Sh.su m ?_; clear m; intro w m) | (refine Sh.suN m ?_; clear m; intro w m) | (refine Sh.hr m ?_; clear m; intro m) | refine Sh.rsS m ?_ | refine Sh.hd m ?_ | refine Sh.rsK [] m ?_ | refine CN_tt ?_ | refine CN_ff ?_ | refine GD_tt ?_ | refine GD_ff ?_ | refine GD_tf ?_ | refine GD_ft ?_ | refine CN_true (by first | omega | (simp; done) | (simp; omega)) ?_ | refine CN_false (by first | omega | (simp; done) | (simp; omega)) ?_ | refine GD_true (by first | omega | (simp; done) | (simp; omega)) ?_ | refine GD_true' (by first | omega | (simp; done) | (simp; omega)) ?_ | refine GD_false (by first | omega | (simp; done) | (simp; omega)) ?_ | refine GD_false' (by first | omega | (simp; done) | (simp; omega)) ?_ | refine Sh.crN m ?_ | refine Sh.cr1 m ?_ | refine Sh.svI m (by first | omega | decide) (by first | omega | (simp; done) | (simp; omega)) fun q_ _ hp_ => ?_ | refine Sh.hvI m (by first | omega | decide) (by first | omega | (simp; done) | (simp; omega)) fun q_ _ hp_ => ?_ | refine Sh.svF m fun q_ _ hp_ => ?_ | refine Sh.hvF m fun q_ _ hp_ => ?_))
          refine ap m hc3.1 hc3.2 ?_; clear m; intro v2 w _ m
          (repeat (first | refine Sh.sv m ?_ | refine Sh.hv ?_ | (refine Sh.sw m ?_; clear m; intro g_ w m) | (refine Sh.su m ?_; clear m; intro w m) | (refine Sh.suN m ?_; clear m; intro w m) | (refine Sh.hr m ?_; clear m; intro m) | refine Sh.rsS m ?_ | refine Sh.hd m ?_ | refine Sh.rsK [] m ?_ | refine CN_tt ?_ | refine CN_ff ?_ | refine GD_tt ?_ | refine GD_ff ?_ | refine GD_tf ?_ | refine GD_ft ?_ | refine CN_true (by first | omega | (simp; done) | (simp; omega)) ?_ | refine CN_false (by first | omega | (simp; done) | (simp; omega)) ?_ | refine GD_true (by first | omega | (simp; done) | (simp; omega)) ?_ | refine GD_true' (by first | omega | (simp; done) | (simp; omega)) ?_ | refine GD_false (by first | omega | (simp; done) | (simp; omega)) ?_ | refine GD_false' (by first | omega | (simp; done) | (simp; omega)) ?_ | refine Sh.crN m ?_ | refine Sh.cr1 m ?_ | refine Sh.svI m (by first | omega | decide) (by first | omega | (simp; done) | (simp; omega)) fun q_ _ hp_ => ?_ | refine Sh.hvI m (by first | omega | decide) (by first | omega | (simp; done) | (simp; omega)) fun q_ _ hp_ => ?_ | refine Sh.svF m fun q_ _ hp_ => ?_ | refine Sh.hvF m fun q_ _ hp_ => ?_))
          refine slL (v := q) m (by decide) (by simp; omega) ?_; clear m; intro q2 _ m
          (repeat (first | refine Sh.sv m ?_ | refine Sh.hv ?_ | (refine Sh.sw m ?_; clear m; intro g_ w m) | (refine Sh.su m ?_; clear m; intro w m) | (refine Sh.suN m ?_; clear m; intro w m) | (refine Sh.hr m ?_; clear m; intro m) | refine Sh.rsS m ?_ | refine Sh.hd m ?_ | refine Sh.rsK [] m ?_ | refine CN_tt ?_ | refine CN_ff ?_ | refine GD_tt ?_ | refine GD_ff ?_ | refine GD_tf ?_ | refine GD_ft ?_ | refine CN_true (by first | omega | (simp; done) | (simp; omega)) ?_ | refine CN_false (by first | omega | (simp; done) | (simp; omega)) ?_ | refine GD_true (by first | omega | (simp; done) | (simp; omega)) ?_ | refine GD_true' (by first | omega | (simp; done) | (simp; omega)) ?_ | refine GD_false (by first | omega | (simp; done) | (simp; omega)) ?_ | refine GD_false' (by first | omega | (simp; done) | (simp; omega)) ?_ | refine Sh.crN m ?_ | refine Sh.cr1 m ?_ | refine Sh.svI m (by first | omega | decide) (by first | omega | (simp; done) | (simp; omega)) fun q_ _ hp_ => ?_ | refine Sh.hvI m (by first | omega | decide) (by first | omega | (simp; done) | (simp; omega)) fun q_ _ hp_ => ?_ | refine Sh.svF m fun q_ _ hp_ => ?_ | refine Sh.hvF m fun q_ _ hp_ => ?_))
          simp only [Int.toNat_zero, Int.toNat_one, List.drop_succ_cons, List.drop_zero, List.getElem_cons_zero] at m
          refine ⟨⟨v2, p, q2, _, _, ns, rfl, hacc, hnd', hol, by omega, m.sub (by repeat (first | exact Frm.nil | (with_reducible exact Rem.dup) | (with_reducible exact Rem.here) | apply Frm.cons | apply Rem.there))⟩, ?_⟩
          have hq2 := m.vlen q2
          simp only [hp, hq, hq2, List.length_cons]; omega
        | false =>
          rw [if_neg (by simp [hgt]), ← List.append_assoc] at hacc
          simp only [Int.toNat_zero, List.getElem_cons_zero, hgt]
          (repeat (first | refine Sh.sv m ?_ | refine Sh.hv ?_ | (refine Sh.sw m ?_; clear m; intro g_ w m) | (refine Sh.su m ?_; clear m; intro w m) | (refine Sh.suN m ?_; clear m; intro w m) | (refine Sh.hr m ?_; clear m; intro m) | refine Sh.rsS m ?_ | refine Sh.hd m ?_ | refine Sh.rsK [] m ?_ | refine CN_tt ?_ | refine CN_ff ?_ | refine GD_tt ?_ | refine GD_ff ?_ | refine GD_tf ?_ | refine GD_ft ?_ | refine CN_true (by first | omega | (simp; done) | (simp; omega)) ?_ | refine CN_false (by first | omega | (simp; done) | (simp; omega)) ?_ | refine GD_true (by first | omega | (simp; done) | (simp; omega)) ?_ | refine GD_true' (by first | omega | (simp; done) | (simp; omega)) ?_ | refine GD_false (by first | omega | (simp; done) | (simp; omega)) ?_ | refine GD_false' (by first | omega | (simp; done) | (simp; omega)) ?_ | refine Sh.crN m ?_ | refine Sh.cr1 m ?_ | refine Sh.svI m (by first | omega | decide) (by first | omega | (simp; done) | (simp; omega)) fun q_ _ hp_ => ?_ | refine Sh.hvI m (by first | omega | decide) (by first | omega | (simp; done) | (simp; omega)) fun q_ _ hp_ => ?_ | refine Sh.svF m fun q_ _ hp_ => ?_ | refine Sh.hvF m fun q_ _ hp_ => ?_))
          refine n96 (m.call (image_change _ _ _ _ _ _ (by first | (simp; omega) | simp)) ?_)
          rintro v1 w m1
          have := m1.isl (v := v1)
          replace m := m.fr Frm.nil m1; simp only [List.cons_append, List.nil_append] at m
          have hc3 := ao _ (changeOf_len b.name a.data b.data true true)
          (repeat (first | refine Sh.sv m ?_ | refine Sh.hv ?_ | (refine Sh.sw m ?_; clear m; intro g_ w m) | (refine Sh.su m ?_; clear m; intro w m) | (refine Sh.suN m ?_; clear m; intro w m) | (refine Sh.hr m ?_; clear m; intro m) | refine Sh.rsS m ?_ | refine Sh.hd m ?_ | refine Sh.rsK [] m ?_ | refine CN_tt ?_ | refine CN_ff ?_ | refine GD_tt ?_ | refine GD_ff ?_ | refine GD_tf ?_ | refine GD_ft ?_ | refine CN_true (by first | omega | (simp; done) | (simp; omega)) ?_ | refine CN_false (by first | omega | (simp; done) | (simp; omega)) ?_ | refine GD_true (by first | omega | (simp; done) | (simp; omega)) ?_ | refine GD_true' (by first | omega | (simp; done) | (simp; omega)) ?_ | refine GD_false (by first | omega | (simp; done) | (simp; omega)) ?_ | refine GD_false' (by first | omega | (simp; done) | (simp; omega)) ?_ | refine Sh.crN m ?_ | refine Sh.cr1 m ?_ | refine Sh.svI m (by first | omega | decide) (by first | omega | (simp; done) | (simp; omega)) fun q_ _ hp_ => ?_ | refine Sh.hvI m (by first | omega | decide) (by first | omega | (simp; done) | (simp; omega)) fun q_ _ hp_ => ?_ | refine Sh.svF m fun q_ _ hp_ => ?_ | refine Sh.hvF m fun q_ _ hp_ => ?_))
          refine ap m hc3.1 hc3.2 ?_; clear m; intro v2 w _ m
          (repeat (first | refine Sh.sv m ?_ | refine Sh.hv ?_ | (refine Sh.sw m ?_; clear m; intro g_ w m) | (refine Sh.su m ?_; clear m; intro w m) | (refine Sh.suN m ?_; clear m; intro w m) | (refine Sh.hr m ?_; clear m; intro m) | refine Sh.rsS m ?_ | refine Sh.hd m ?_ | refine Sh.rsK [] m ?_ | refine CN_tt ?_ | refine CN_ff ?_ | refine GD_tt ?_ | refine GD_ff ?_ | refine GD_tf ?_ | refine GD_ft ?_ | refine CN_true (by first | omega | (simp; done) | (simp; omega)) ?_ | refine CN_false (by first | omega | (simp; done) | (simp; omega)) ?_ | refine GD_true (by first | omega | (simp; done) | (simp; omega)) ?_ | refine GD_true' (by first | omega | (simp; done) | (simp; omega)) ?_ | refine GD_false (by first | omega | (simp; done) | (simp; omega)) ?_ | refine GD_false' (by first | omega | (simp; done) | (simp; omega)) ?_ | refine Sh.crN m ?_ | refine Sh.cr1 m ?_ | refine Sh.svI m (by first | omega | decide) (by first | omega | (simp; done) | (simp; omega)) fun q_ _ hp_ => ?_ | refine Sh.hvI m (by first | omega | decide) (by first | omega | (simp; done) | (simp; omega)) fun q_ _ hp_ => ?_ | refine Sh.svF m fun q_ _ hp_ => ?_ | refine Sh.hvF m fun q_ _ hp_ => ?_))
          refine hvL m (by decide) (by simp; omega) fun p2 hp2 => ?_
          refine hvL m (by decide) (by simp; omega) fun q2 hq2 => ?_
          replace m := m.addL hp2
          replace m := m.addL hq2
          (repeat (first | refine Sh.sv m ?_ | refine Sh.hv ?_ | (refine Sh.sw m ?_; clear m; intro g_ w m) | (refine Sh.su m ?_; clear m; intro w m) | (refine Sh.suN m ?_; clear m; intro w m) | (refine Sh.hr m ?_; clear m; intro m) | refine Sh.rsS m ?_ | refine Sh.hd m ?_ | refine Sh.rsK [] m ?_ | refine CN_tt ?_ | refine CN_ff ?_ | refine GD_tt ?_ | refine GD_ff ?_ | refine GD_tf ?_ | refine GD_ft ?_ | refine CN_true (by first | omega | (simp; done) | (simp; omega)) ?_ | refine CN_false (by first | omega | (simp; done) | (simp; omega)) ?_ | refine GD_true (by first | omega | (simp; done) | (simp; omega)) ?_ | refine GD_true' (by first | omega | (simp; done) | (simp; omega)) ?_ | refine GD_false (by first | omega | (simp; done) | (simp; omega)) ?_ | refine GD_false' (by first | omega | (simp; done) | (simp; omega)) ?_ | refine Sh.crN m ?_ | refine Sh.cr1 m ?_ | refine Sh.svI m (by first | omega | decide) (by first | omega | (simp; done) | (simp; omega)) fun q_ _ hp_ => ?_ | refine Sh.hvI m (by first | omega | decide) (by first | omega | (simp; done) | (simp; omega)) fun q_ _ hp_ => ?_ | refine Sh.svF m fun q_ _ hp_ => ?_ | refine Sh.hvF m fun q_ _ hp_ => ?_))
          simp only [Int.toNat_zero, Int.toNat_one, List.drop_succ_cons, List.drop_zero, List.getElem_cons_zero] at m
          refine ⟨⟨v2, p2, q2, _, os, ns, rfl, hacc, hnd', by omega, by omega, m.sub (by repeat (first | exact Frm.nil | (with_reducible exact Rem.dup) | (with_reducible exact Rem.here) | apply Frm.cons | apply Rem.there))⟩, ?_⟩
          have hp2 := m.vlen p2
          have hq2 := m.vlen q2
          simp only [hp, hq, hp2, hq2, List.length_cons]; omega
end Go.Proofs.YtkdghnbogkbedaaGreatDoor

namespace Go.Proofs.YtkdghnbogkbedaaGreatDoor
open Go Go.Sh
set_option maxRecDepth 100000


theorem mixedXRef21 : Tryz.prog.follows .mixedOrders = true := by kernel_rfl

/-! ### 30: scrinium/scriniumref21.SameOps -/

def s30_l1 (P : Program) (k : Value → World → Prop) (a0_a : Value) (a1_b : Value) (i5 : Value) (next : List Value → World → Prop) (w : World) : Prop :=
  SV P (Builtin.len_ #[57] 3 #[a0_a]) w fun t13 w =>
  SV P (binOp .lss 3 i5 t13) w fun t14 w =>
  CN t14
  (HR w fun C w =>
  HV P C (Instr.indexAt 57 a0_a i5) fun t19 =>
  HV P C (Instr.loadAt 150 t19) fun t20 =>
  HV P C (Instr.indexAt 57 a1_b i5) fun t23 =>
  HV P C (Instr.loadAt 150 t23) fun t24 =>
  HV P C (eqS .neq 150 (.tmp 20) (.tmp 24) t20 t24) fun t25 =>
  CN t25
  (k (Value.bool false) w)
  (SV P (binOp .add 3 i5 (Value.int .i64 1)) w fun t16 w =>
  next [t16] w))
  (k (Value.bool true) w)

def s30 (P : Program) (k : Value → World → Prop) (a0_a : Value) (a1_b : Value) (w : World) : Prop :=
  SV P (Builtin.len_ #[57] 3 #[a0_a]) w fun t7 w =>
  SV P (Builtin.len_ #[57] 3 #[a1_b]) w fun t9 w =>
  SV P (eqS .neq 3 (.tmp 7) (.tmp 9) t7 t9) w fun t10 w =>
  CN t10
  (k (Value.bool false) w)
  (LP 1 [(Value.int .i64 0)] w (fun next _ us w => s30_l1 P k a0_a a1_b (us.getD 0 undef) next w))

theorem e30 (k : Value → World → Prop) (a0_a a1_b : Value) (w : World) : s30 Tryz.prog k a0_a a1_b w = vcF Tryz.prog Tryz.f30 [5] [a0_a, a1_b] k w := by kernel_rfl
theorem c30 {k : Value → World → Prop} {a0_a a1_b : Value} {w : World} (h : s30 Tryz.prog k a0_a a1_b w) : Calls Tryz.prog 30 #[a0_a, a1_b] w (retP k) :=
  calls_of_vcF [5] mixedXRef21 Tryz.func30 (by kernel_rfl) (Eq.mp (e30 k a0_a a1_b w) h)
theorem n30 {args : Array Value} {w : World} {k : Value → World → Prop} (h : Calls Tryz.prog 30 args w (retP k)) : SN Tryz.prog (callFunc 30 args) w k := sn_call Tryz.func30 (by kernel_rfl) (by kernel_rfl) h

/-! ### 32: scrinium/scriniumref21.Diff -/

def s32_j1 (P : Program) (_ : Value → World → Prop) (next : List Value → World → Prop) (name8_1 : Value) (t62 : Value) (t68 : Value) (t69 : Value) (i6_1 : Value) (k7_1 : Value) (out5_2 : Value) (w : World) : Prop :=
  SV P (Op.unary .not t69) w fun t95 w =>
  CN t95
  (SV P (Instr.build 150 #[(0, (Value.int .i64 4)), (1, name8_1)]) w fun t98 w =>
  SV P (Instr.buildSlice 57 1 #[(0, t98)]) w fun t99 w =>
  SV P (Builtin.append_ #[57, 57] 57 #[out5_2, t99]) w fun t100 w =>
  next [name8_1, i6_1, k7_1, t100] w)
  (SN P (callFunc 98 #[t68, t62]) w fun t103 w =>
  SN P (callFunc 98 #[t62, t68]) w fun t106 w =>
  SV P (eqS .eql 9 (.tmp 107) (.tmp 108) t62 t68) w fun t109 w =>
  CN t109
  (next [name8_1, i6_1, k7_1, out5_2] w)
  (CN t103
  (SV P (Builtin.len_ #[9] 3 #[t62]) w fun t115 w =>
  SV P (Instr.sliceAt 9 t68 (some t115) none none) w fun t116 w =>
  SV P (Instr.build 150 #[(0, (Value.int .i64 2)), (1, name8_1), (2, t116)]) w fun t117 w =>
  SV P (Instr.buildSlice 57 1 #[(0, t117)]) w fun t118 w =>
  SV P (Builtin.append_ #[57, 57] 57 #[out5_2, t118]) w fun t119 w =>
  next [name8_1, i6_1, k7_1, t119] w)
  (CN t106
  (SV P (Builtin.len_ #[9] 3 #[t68]) w fun t124 w =>
  SV P (Instr.build 150 #[(0, (Value.int .i64 3)), (1, name8_1), (3, t124)]) w fun t125 w =>
  SV P (Instr.buildSlice 57 1 #[(0, t125)]) w fun t126 w =>
  SV P (Builtin.append_ #[57, 57] 57 #[out5_2, t126]) w fun t127 w =>
  next [name8_1, i6_1, k7_1, t127] w)
  (SV P (Instr.build 150 #[(0, (Value.int .i64 5)), (1, name8_1), (2, t68)]) w fun t131 w =>
  SV P (Instr.buildSlice 57 1 #[(0, t131)]) w fun t132 w =>
  SV P (Builtin.append_ #[57, 57] 57 #[out5_2, t132]) w fun t133 w =>
  next [name8_1, i6_1, k7_1, t133] w))))

def s32_j2 (P : Program) (k : Value → World → Prop) (next : List Value → World → Prop) (name8_1 : Value) (t62 : Value) (t68 : Value) (t69 : Value) (i6_1 : Value) (k7_1 : Value) (out5_1 : Value) (w : World) : Prop :=
  JP 1 (fun j =>
  SV P (Op.unary .not t69) w fun t84 w =>
  GD t84 true
  (SV P (eqS .neq 9 (.tmp 86) (.const (str [])) t62 (str [])) w fun t87 w =>
  CN t87
  (SV P (Instr.build 150 #[(0, (Value.int .i64 3)), (1, name8_1)]) w fun t91 w =>
  SV P (Instr.buildSlice 57 1 #[(0, t91)]) w fun t92 w =>
  SV P (Builtin.append_ #[57, 57] 57 #[out5_1, t92]) w fun t93 w =>
  j [t93] w)
  (j [out5_1] w))
  (j [out5_1] w))
  (fun _ us w => s32_j1 P k next name8_1 t62 t68 t69 i6_1 k7_1 (us.getD 0 undef) w)

def s32_j3 (P : Program) (k : Value → World → Prop) (out5 : Value) (next : List Value → World → Prop) (name8_1 : Value) (t62 : Value) (t63 : Value) (t68 : Value) (t69 : Value) (i6_1 : Value) (k7_1 : Value) (w : World) : Prop :=
  JP 1 (fun j =>
  SV P (Op.unary .not t63) w fun t77 w =>
  CN t77
  (SV P (Instr.build 150 #[(0, (Value.int .i64 1)), (1, name8_1)]) w fun t80 w =>
  SV P (Instr.buildSlice 57 1 #[(0, t80)]) w fun t81 w =>
  SV P (Builtin.append_ #[57, 57] 57 #[out5, t81]) w fun t82 w =>
  j [t82] w)
  (j [out5] w))
  (fun _ us w => s32_j2 P k next name8_1 t62 t68 t69 i6_1 k7_1 (us.getD 0 undef) w)

def s32_j4 (P : Program) (k : Value → World → Prop) (k7 : Value) (out5 : Value) (next : List Value → World → Prop) (name8_1 : Value) (t62 : Value) (t63 : Value) (t68 : Value) (t69 : Value) (i6_1 : Value) (w : World) : Prop :=
  JP 1 (fun j =>
  CN t69
  (SV P (binOp .add 3 k7 (Value.int .i64 1)) w fun t75 w =>
  j [t75] w)
  (j [k7] w))
  (fun _ us w => s32_j3 P k out5 next name8_1 t62 t63 t68 t69 i6_1 (us.getD 0 undef) w)

def s32_j5 (P : Program) (k : Value → World → Prop) (a0_old : Value) (a1_now : Value) (i6 : Value) (k7 : Value) (out5 : Value) (next : List Value → World → Prop) (name8_1 : Value) (w : World) : Prop :=
  SN P (callFunc 97 #[a0_old, name8_1]) w fun t61 w =>
  SV P (Instr.extract t61 0) w fun t62 w =>
  SV P (Instr.extract t61 1) w fun t63 w =>
  SN P (callFunc 97 #[a1_now, name8_1]) w fun t67 w =>
  SV P (Instr.extract t67 0) w fun t68 w =>
  SV P (Instr.extract t67 1) w fun t69 w =>
  JP 1 (fun j =>
  CN t63
  (SV P (binOp .add 3 i6 (Value.int .i64 1)) w fun t72 w =>
  j [t72] w)
  (j [i6] w))
  (fun _ us w => s32_j4 P k k7 out5 next name8_1 t62 t63 t68 t69 (us.getD 0 undef) w)

def s32_l1 (P : Program) (k : Value → World → Prop) (a0_old : Value) (a1_now : Value) (i6 : Value) (k7 : Value) (out5 : Value) (next : List Value → World → Prop) (w : World) : Prop :=
  SV P (Builtin.len_ #[52] 3 #[a0_old]) w fun t17 w =>
  SV P (binOp .lss 3 i6 t17) w fun t18 w =>
  GD t18 false
  (SV P (Builtin.len_ #[52] 3 #[a1_now]) w fun t22 w =>
  SV P (binOp .lss 3 k7 t22) w fun t23 w =>
  CN t23
  (JP 1 (fun j =>
  HR w fun C w =>
  HV P C (Builtin.len_ #[52] 3 #[a0_old]) fun t27 =>
  HV P C (binOp .lss 3 i6 t27) fun t28 =>
  GD t28 true
  (HV P C (Builtin.len_ #[52] 3 #[a1_now]) fun t32 =>
  HV P C (eqS .eql 3 (.tmp 30) (.tmp 32) k7 t32) fun t33 =>
  GD t33 false
  (HV P C (Instr.indexAt 52 a0_old i6) fun t37 =>
  HV P C (Instr.fieldAt 55 t37 0) fun t38 =>
  HV P C (Instr.loadAt 9 t38) fun t39 =>
  HV P C (Instr.indexAt 52 a1_now k7) fun t42 =>
  HV P C (Instr.fieldAt 55 t42 0) fun t43 =>
  HV P C (Instr.loadAt 9 t43) fun t44 =>
  HV P C (binOp .leq 9 t39 t44) fun t45 =>
  CN t45
  (SV P (Instr.indexAt 52 a0_old i6) w fun t50 w =>
  SV P (Instr.fieldAt 55 t50 0) w fun t51 w =>
  SV P (Instr.loadAt 9 t51) w fun t52 w =>
  j [t52] w)
  (SV P (Instr.indexAt 52 a1_now k7) w fun t55 w =>
  SV P (Instr.fieldAt 55 t55 0) w fun t56 w =>
  SV P (Instr.loadAt 9 t56) w fun t57 w =>
  j [t57] w))
  (SV P (Instr.indexAt 52 a0_old i6) w fun t50 w =>
  SV P (Instr.fieldAt 55 t50 0) w fun t51 w =>
  SV P (Instr.loadAt 9 t51) w fun t52 w =>
  j [t52] w))
  (SV P (Instr.indexAt 52 a1_now k7) w fun t55 w =>
  SV P (Instr.fieldAt 55 t55 0) w fun t56 w =>
  SV P (Instr.loadAt 9 t56) w fun t57 w =>
  j [t57] w))
  (fun _ us w => s32_j5 P k a0_old a1_now i6 k7 out5 next (us.getD 0 undef) w))
  (k out5 w))
  (JP 1 (fun j =>
  HR w fun C w =>
  HV P C (Builtin.len_ #[52] 3 #[a0_old]) fun t27 =>
  HV P C (binOp .lss 3 i6 t27) fun t28 =>
  GD t28 true
  (HV P C (Builtin.len_ #[52] 3 #[a1_now]) fun t32 =>
  HV P C (eqS .eql 3 (.tmp 30) (.tmp 32) k7 t32) fun t33 =>
  GD t33 false
  (HV P C (Instr.indexAt 52 a0_old i6) fun t37 =>
  HV P C (Instr.fieldAt 55 t37 0) fun t38 =>
  HV P C (Instr.loadAt 9 t38) fun t39 =>
  HV P C (Instr.indexAt 52 a1_now k7) fun t42 =>
  HV P C (Instr.fieldAt 55 t42 0) fun t43 =>
  HV P C (Instr.loadAt 9 t43) fun t44 =>
  HV P C (binOp .leq 9 t39 t44) fun t45 =>
  CN t45
  (SV P (Instr.indexAt 52 a0_old i6) w fun t50 w =>
  SV P (Instr.fieldAt 55 t50 0) w fun t51 w =>
  SV P (Instr.loadAt 9 t51) w fun t52 w =>
  j [t52] w)
  (SV P (Instr.indexAt 52 a1_now k7) w fun t55 w =>
  SV P (Instr.fieldAt 55 t55 0) w fun t56 w =>
  SV P (Instr.loadAt 9 t56) w fun t57 w =>
  j [t57] w))
  (SV P (Instr.indexAt 52 a0_old i6) w fun t50 w =>
  SV P (Instr.fieldAt 55 t50 0) w fun t51 w =>
  SV P (Instr.loadAt 9 t51) w fun t52 w =>
  j [t52] w))
  (SV P (Instr.indexAt 52 a1_now k7) w fun t55 w =>
  SV P (Instr.fieldAt 55 t55 0) w fun t56 w =>
  SV P (Instr.loadAt 9 t56) w fun t57 w =>
  j [t57] w))
  (fun _ us w => s32_j5 P k a0_old a1_now i6 k7 out5 next (us.getD 0 undef) w))

def s32 (P : Program) (k : Value → World → Prop) (a0_old : Value) (a1_now : Value) (w : World) : Prop :=
  LP 4 [undef, (Value.int .i64 0), (Value.int .i64 0), (Value.slice none 0 0)] w (fun next _ us w => s32_l1 P k a0_old a1_now (us.getD 1 undef) (us.getD 2 undef) (us.getD 3 undef) next w)

theorem e32 (k : Value → World → Prop) (a0_old a1_now : Value) (w : World) : s32 Tryz.prog k a0_old a1_now w = vcF Tryz.prog Tryz.f32 [5, 6, 7, 8] [a0_old, a1_now] k w := by kernel_rfl
theorem c32 {k : Value → World → Prop} {a0_old a1_now : Value} {w : World} (h : s32 Tryz.prog k a0_old a1_now w) : Calls Tryz.prog 32 #[a0_old, a1_now] w (retP k) :=
  calls_of_vcF [5, 6, 7, 8] mixedXRef21 Tryz.func32 (by kernel_rfl) (Eq.mp (e32 k a0_old a1_now w) h)
theorem n32 {args : Array Value} {w : World} {k : Value → World → Prop} (h : Calls Tryz.prog 32 args w (retP k)) : SN Tryz.prog (callFunc 32 args) w k := sn_call Tryz.func32 (by kernel_rfl) (by kernel_rfl) h

/-! ### 97: scrinium/scriniumref21.find -/

def s97_l1 (P : Program) (k : Value → World → Prop) (a0_l : Value) (a1_name : Value) (i6 : Value) (next : List Value → World → Prop) (w : World) : Prop :=
  SV P (Builtin.len_ #[52] 3 #[a0_l]) w fun t9 w =>
  SV P (binOp .lss 3 i6 t9) w fun t10 w =>
  CN t10
  (SV P (Instr.indexAt 52 a0_l i6) w fun t15 w =>
  SV P (Instr.fieldAt 55 t15 0) w fun t16 w =>
  SV P (Instr.loadAt 9 t16) w fun t17 w =>
  SV P (eqS .eql 9 (.tmp 17) (.tmp 18) t17 a1_name) w fun t19 w =>
  CN t19
  (SV P (Instr.indexAt 52 a0_l i6) w fun t22 w =>
  SV P (Instr.fieldAt 55 t22 1) w fun t23 w =>
  SV P (Instr.loadAt 9 t23) w fun t24 w =>
  k (.tuple #[t24, (Value.bool true)]) w)
  (SV P (binOp .add 3 i6 (Value.int .i64 1)) w fun t12 w =>
  next [t12] w))
  (k (.tuple #[(str []), (Value.bool false)]) w)

def s97 (P : Program) (k : Value → World → Prop) (a0_l : Value) (a1_name : Value) (w : World) : Prop :=
  LP 1 [(Value.int .i64 0)] w (fun next _ us w => s97_l1 P k a0_l a1_name (us.getD 0 undef) next w)

theorem e97 (k : Value → World → Prop) (a0_l a1_name : Value) (w : World) : s97 Tryz.prog k a0_l a1_name w = vcF Tryz.prog Tryz.f97 [6] [a0_l, a1_name] k w := by kernel_rfl
theorem c97 {k : Value → World → Prop} {a0_l a1_name : Value} {w : World} (h : s97 Tryz.prog k a0_l a1_name w) : Calls Tryz.prog 97 #[a0_l, a1_name] w (retP k) :=
  calls_of_vcF [6] mixedXRef21 Tryz.func97 (by kernel_rfl) (Eq.mp (e97 k a0_l a1_name w) h)
theorem n97 {args : Array Value} {w : World} {k : Value → World → Prop} (h : Calls Tryz.prog 97 args w (retP k)) : SN Tryz.prog (callFunc 97 args) w k := sn_call Tryz.func97 (by kernel_rfl) (by kernel_rfl) h

/-! ### 98: scrinium/scriniumref21.begins -/

def s98 (P : Program) (k : Value → World → Prop) (a0_s : Value) (a1_t : Value) (w : World) : Prop :=
  SV P (Builtin.len_ #[9] 3 #[a0_s]) w fun t6 w =>
  SV P (Builtin.len_ #[9] 3 #[a1_t]) w fun t8 w =>
  SV P (binOp .geq 3 t6 t8) w fun t9 w =>
  GD t9 true
  (SV P (Builtin.len_ #[9] 3 #[a1_t]) w fun t13 w =>
  SV P (Instr.sliceAt 9 a0_s none (some t13) none) w fun t14 w =>
  SV P (eqS .eql 9 (.tmp 14) (.tmp 15) t14 a1_t) w fun t16 w =>
  k t16 w)
  (k (Value.bool false) w)

theorem e98 (k : Value → World → Prop) (a0_s a1_t : Value) (w : World) : s98 Tryz.prog k a0_s a1_t w = vcF Tryz.prog Tryz.f98 [] [a0_s, a1_t] k w := by kernel_rfl
theorem c98 {k : Value → World → Prop} {a0_s a1_t : Value} {w : World} (h : s98 Tryz.prog k a0_s a1_t w) : Calls Tryz.prog 98 #[a0_s, a1_t] w (retP k) :=
  calls_of_vcF [] mixedXRef21 Tryz.func98 (by kernel_rfl) (Eq.mp (e98 k a0_s a1_t w) h)
theorem n98 {args : Array Value} {w : World} {k : Value → World → Prop} (h : Calls Tryz.prog 98 args w (retP k)) : SN Tryz.prog (callFunc 98 args) w k := sn_call Tryz.func98 (by kernel_rfl) (by kernel_rfl) h

end Go.Proofs.YtkdghnbogkbedaaGreatDoor

namespace Go.Sh
open Go Go.RowKit

/-! ### The order of texts -/
theorem blt_cons (a b : UInt8) (x y : List UInt8) : Op.bytesLess (a :: x) (b :: y) = true ↔ a < b ∨ (a = b ∧ Op.bytesLess x y = true) := by
  simp [Op.bytesLess]
theorem blt_irr : ∀ (x : List UInt8), Op.bytesLess x x = false
  | [] => rfl
  | a :: x => by
    have := blt_irr x
    cases h : Op.bytesLess (a :: x) (a :: x) with
    | false => rfl
    | true =>
      rw [blt_cons] at h
      rcases h with h | ⟨_, h⟩
      · exact absurd h (UInt8.lt_irrefl a)
      · rw [this] at h; cases h
theorem blt_trans : ∀ {x y z : List UInt8}, Op.bytesLess x y = true → Op.bytesLess y z = true → Op.bytesLess x z = true
  | [], [], _, h, _ => by simp [Op.bytesLess] at h
  | [], _ :: _, [], _, h => by simp [Op.bytesLess] at h
  | [], _ :: _, _ :: _, _, _ => rfl
  | _ :: _, [], _, h, _ => by simp [Op.bytesLess] at h
  | _ :: _, _ :: _, [], _, h => by simp [Op.bytesLess] at h
  | a :: x, b :: y, c :: z, h, k => by
    rw [blt_cons] at h k ⊢
    rcases h with h | ⟨rfl, h⟩ <;> rcases k with k | ⟨rfl, k⟩
    · exact .inl (UInt8.lt_trans h k)
    · exact .inl h
    · exact .inl k
    · exact .inr ⟨rfl, blt_trans h k⟩
theorem blt_tri : ∀ (x y : List UInt8), Op.bytesLess x y = true ∨ x = y ∨ Op.bytesLess y x = true
  | [], [] => .inr (.inl rfl)
  | [], _ :: _ => .inl rfl
  | _ :: _, [] => .inr (.inr rfl)
  | a :: x, b :: y => by
    rw [blt_cons, blt_cons]
    rcases Nat.lt_trichotomy a.toNat b.toNat with h | h | h
    · exact .inl (.inl (UInt8.lt_iff_toNat_lt.2 h))
    · have := UInt8.toNat_inj.1 h
      subst this
      rcases blt_tri x y with h | rfl | h
      · exact .inl (.inr ⟨rfl, h⟩)
      · exact .inr (.inl rfl)
      · exact .inr (.inr (.inr ⟨rfl, h⟩))
    · exact .inr (.inr (.inl (UInt8.lt_iff_toNat_lt.2 h)))
theorem blt_asymm {x y : List UInt8} (h : Op.bytesLess x y = true) : Op.bytesLess y x = false := by
  cases k : Op.bytesLess y x with
  | false => rfl
  | true => have := blt_trans h k; rw [blt_irr] at this; cases this
theorem blt_ne {x y : List UInt8} (h : Op.bytesLess x y = true) : x ≠ y := by
  rintro rfl; rw [blt_irr] at h; cases h

def findF (l : List File) (n : List UInt8) : Option (List UInt8) := (l.find? fun f => decide (f.name = n)).map (·.data)
/-- The names rise. -/
def Rises (l : List File) : Prop := l.Pairwise fun a b => Op.bytesLess a.name b.name = true
theorem findF_none {l : List File} {n : List UInt8} (h : ∀ f ∈ l, f.name ≠ n) : findF l n = none := by
  unfold findF
  rw [List.find?_eq_none.2 (by simpa using h)]; rfl
theorem findF_at {p q : List File} {a : File} (h : ∀ f ∈ p, f.name ≠ a.name) : findF (p ++ a :: q) a.name = some a.data := by
  unfold findF
  rw [List.find?_append, List.find?_eq_none.2 (by simpa using h)]
  simp
end Go.Sh
namespace Go.Proofs.YtkdghnbogkbedaaGreatDoor
open Go Go.Sh Go.RowKit
set_option maxRecDepth 100000
set_option maxHeartbeats 1000000
set_option linter.unusedSimpArgs false
set_option linter.unusedVariables false

instance : StT Tryz.prog 150 [(3, 0), (9, 1), (9, 2), (3, 3)] := ⟨by kernel_rfl, by kernel_rfl, by kernel_rfl, by kernel_rfl, by kernel_rfl⟩
instance : StT Tryz.prog 55 [(9, 0), (9, 1)] := ⟨by kernel_rfl, by kernel_rfl, by kernel_rfl, by kernel_rfl, by kernel_rfl⟩
theorem eq_op (a b : FileOp) (w : World) : (Op.equalIn (9997 + 3) 150 (ag a.cells) (ag b.cells)).run Tryz.prog w = .ok (decide (a = b)) w := by
  refine eqr_struct (d := 9999) ?_ w
  refine ⟨_, _, _, _, part_one rfl, part_one rfl, eqr_int 9998, ⟨_, _, _, _, part_one rfl, part_one rfl, eqr_str 9998, ⟨_, _, _, _, part_one rfl, part_one rfl, eqr_str 9998, ⟨_, _, _, _, part_one rfl, part_one rfl, eqr_int 9998, rfl, rfl⟩, rfl⟩, rfl⟩, ?_⟩
  cases a; cases b
  simp [Bool.decide_and, decide_eq_true_eq]
instance {a b : FileOp} {x y : Operand} : PuC Tryz.prog (eqS .neq 150 x y (ag a.cells) (ag b.cells)) (.bool (!decide (a = b))) True := ⟨fun _ => neS_agg (StT.guard (P := Tryz.prog) (t := 150)) fun w => eq_op a b w⟩

theorem ref_find {v : Value} {l : List File} {n : List UInt8} {w0 : World} (h : Mem w0 [sl eFile v l]) (hl : l.length ≤ 1000000) :
    Ret Tryz.prog 97 #[v, str n] w0 (.tuple #[str ((findF l n).getD []), .bool (findF l n).isSome]) := by
  have m := St.start h
  refine c97 ?_
  unfold s97
  refine LP_intro (fun us w => ∃ i : Nat, us = [.int .i64 i] ∧ i ≤ l.length ∧ findF l n = findF (l.drop i) n ∧ St w0 [sl eFile v l] w [sl eFile v l])
    (fun us _ => match us with | [.int _ t] => l.length - t.toNat | _ => 0) ⟨0, rfl, Nat.zero_le _, rfl, m⟩ ?_
  clear m
  rintro us hus ζ w ⟨i, rfl, hi, hf, m⟩
  unfold s97_l1
  simp only [List.getD_cons_zero, List.getD_cons_succ]
  by_cases hlt : i < l.length
  · rw [List.drop_eq_getElem_cons hlt] at hf
    (repeat (first | refine Sh.sv m ?_ | refine Sh.hv ?_ | (refine Sh.sw m ?_; clear m; intro g_ w m) | (refine Sh.su m ?_; clear m; intro w m) | (refine Sh.suN m ?_; clear m; intro w m) | (refine Sh.hr m ?_; clear m; intro m) | refine Sh.rsS m ?_ | refine Sh.hd m ?_ | refine Sh.rsK [] m ?_ | refine CN_tt ?_ | refine CN_ff ?_ | refine GD_tt ?_ | refine GD_ff ?_ | refine GD_tf ?_ | refine GD_ft ?_ | refine CN_true (by first | omega | (simp; done) | (simp; omega)) ?_ | refine CN_false (by first | omega | (simp; done) | (simp; omega)) ?_ | refine GD_true (by first | omega | (simp; done) | (simp; omega)) ?_ | refine GD_true' (by first | omega | (simp; done) | (simp; omega)) ?_ | refine GD_false (by first | omega | (simp; done) | (simp; omega)) ?_ | refine GD_false' (by first | omega | (simp; done) | (simp; omega)) ?_ | refine Sh.crN m ?_ | refine Sh.cr1 m ?_ | refine Sh.svI m (by first | omega | decide) (by first | omega | (simp; done) | (simp; omega)) fun q_ _ hp_ => ?_ | refine Sh.hvI m (by first | omega | decide) (by first | omega | (simp; done) | (simp; omega)) fun q_ _ hp_ => ?_ | refine Sh.svF m fun q_ _ hp_ => ?_ | refine Sh.hvF m fun q_ _ hp_ => ?_))
    simp only [Int.toNat_natCast]
    refine CN_split (fun h1 => ?_) (fun h1 => ?_)
    · rw [hf, ← h1]
      have := findF_at (p := []) (q := l.drop (i + 1)) (a := l[i]) (by simp)
      rw [List.nil_append] at this
      rw [this]
      (repeat (first | refine Sh.sv m ?_ | refine Sh.hv ?_ | (refine Sh.sw m ?_; clear m; intro g_ w m) | (refine Sh.su m ?_; clear m; intro w m) | (refine Sh.suN m ?_; clear m; intro w m) | (refine Sh.hr m ?_; clear m; intro m) | refine Sh.rsS m ?_ | refine Sh.hd m ?_ | refine Sh.rsK [] m ?_ | refine CN_tt ?_ | refine CN_ff ?_ | refine GD_tt ?_ | refine GD_ff ?_ | refine GD_tf ?_ | refine GD_ft ?_ | refine CN_true (by first | omega | (simp; done) | (simp; omega)) ?_ | refine CN_false (by first | omega | (simp; done) | (simp; omega)) ?_ | refine GD_true (by first | omega | (simp; done) | (simp; omega)) ?_ | refine GD_true' (by first | omega | (simp; done) | (simp; omega)) ?_ | refine GD_false (by first | omega | (simp; done) | (simp; omega)) ?_ | refine GD_false' (by first | omega | (simp; done) | (simp; omega)) ?_ | refine Sh.crN m ?_ | refine Sh.cr1 m ?_ | refine Sh.svI m (by first | omega | decide) (by first | omega | (simp; done) | (simp; omega)) fun q_ _ hp_ => ?_ | refine Sh.hvI m (by first | omega | decide) (by first | omega | (simp; done) | (simp; omega)) fun q_ _ hp_ => ?_ | refine Sh.svF m fun q_ _ hp_ => ?_ | refine Sh.hvF m fun q_ _ hp_ => ?_))
      exact ⟨by simp, m.ch.mono fun _ _ h => by cases h⟩
    · (repeat (first | refine Sh.sv m ?_ | refine Sh.hv ?_ | (refine Sh.sw m ?_; clear m; intro g_ w m) | (refine Sh.su m ?_; clear m; intro w m) | (refine Sh.suN m ?_; clear m; intro w m) | (refine Sh.hr m ?_; clear m; intro m) | refine Sh.rsS m ?_ | refine Sh.hd m ?_ | refine Sh.rsK [] m ?_ | refine CN_tt ?_ | refine CN_ff ?_ | refine GD_tt ?_ | refine GD_ff ?_ | refine GD_tf ?_ | refine GD_ft ?_ | refine CN_true (by first | omega | (simp; done) | (simp; omega)) ?_ | refine CN_false (by first | omega | (simp; done) | (simp; omega)) ?_ | refine GD_true (by first | omega | (simp; done) | (simp; omega)) ?_ | refine GD_true' (by first | omega | (simp; done) | (simp; omega)) ?_ | refine GD_false (by first | omega | (simp; done) | (simp; omega)) ?_ | refine GD_false' (by first | omega | (simp; done) | (simp; omega)) ?_ | refine Sh.crN m ?_ | refine Sh.cr1 m ?_ | refine Sh.svI m (by first | omega | decide) (by first | omega | (simp; done) | (simp; omega)) fun q_ _ hp_ => ?_ | refine Sh.hvI m (by first | omega | decide) (by first | omega | (simp; done) | (simp; omega)) fun q_ _ hp_ => ?_ | refine Sh.svF m fun q_ _ hp_ => ?_ | refine Sh.hvF m fun q_ _ hp_ => ?_))
      refine ⟨⟨i + 1, rfl, hlt, ?_, m⟩, ?_⟩
      · rw [hf]; unfold findF; rw [List.find?_cons_of_neg (by simpa using h1)]
      · show l.length - ((i : Int) + 1).toNat < l.length - (i : Int).toNat
        omega
  · (repeat (first | refine Sh.sv m ?_ | refine Sh.hv ?_ | (refine Sh.sw m ?_; clear m; intro g_ w m) | (refine Sh.su m ?_; clear m; intro w m) | (refine Sh.suN m ?_; clear m; intro w m) | (refine Sh.hr m ?_; clear m; intro m) | refine Sh.rsS m ?_ | refine Sh.hd m ?_ | refine Sh.rsK [] m ?_ | refine CN_tt ?_ | refine CN_ff ?_ | refine GD_tt ?_ | refine GD_ff ?_ | refine GD_tf ?_ | refine GD_ft ?_ | refine CN_true (by first | omega | (simp; done) | (simp; omega)) ?_ | refine CN_false (by first | omega | (simp; done) | (simp; omega)) ?_ | refine GD_true (by first | omega | (simp; done) | (simp; omega)) ?_ | refine GD_true' (by first | omega | (simp; done) | (simp; omega)) ?_ | refine GD_false (by first | omega | (simp; done) | (simp; omega)) ?_ | refine GD_false' (by first | omega | (simp; done) | (simp; omega)) ?_ | refine Sh.crN m ?_ | refine Sh.cr1 m ?_ | refine Sh.svI m (by first | omega | decide) (by first | omega | (simp; done) | (simp; omega)) fun q_ _ hp_ => ?_ | refine Sh.hvI m (by first | omega | decide) (by first | omega | (simp; done) | (simp; omega)) fun q_ _ hp_ => ?_ | refine Sh.svF m fun q_ _ hp_ => ?_ | refine Sh.hvF m fun q_ _ hp_ => ?_))
    have : l.drop i = [] := List.drop_eq_nil_of_le (by omega)
    rw [hf, this]
    exact ⟨rfl, m.ch.mono fun _ _ h => by cases h⟩

theorem ref_begins (s p : List UInt8) (w0 : World) : Ret Tryz.prog 98 #[str s, str p] w0 (.bool (isPre p s)) := by
  refine c98 ?_
  unfold s98
  have m : St w0 [] w0 [] := St.nil w0
  by_cases h : p.length ≤ s.length
  · (repeat (first | refine Sh.sv m ?_ | refine Sh.hv ?_ | (refine Sh.sw m ?_; clear m; intro g_ w m) | (refine Sh.su m ?_; clear m; intro w m) | (refine Sh.suN m ?_; clear m; intro w m) | (refine Sh.hr m ?_; clear m; intro m) | refine Sh.rsS m ?_ | refine Sh.hd m ?_ | refine Sh.rsK [] m ?_ | refine CN_tt ?_ | refine CN_ff ?_ | refine GD_tt ?_ | refine GD_ff ?_ | refine GD_tf ?_ | refine GD_ft ?_ | refine CN_true (by first | omega | (simp; done) | (simp; omega)) ?_ | refine CN_false (by first | omega | (simp; done) | (simp; omega)) ?_ | refine GD_true (by first | omega | (simp; done) | (simp; omega)) ?_ | refine GD_true' (by first | omega | (simp; done) | (simp; omega)) ?_ | refine GD_false (by first | omega | (simp; done) | (simp; omega)) ?_ | refine GD_false' (by first | omega | (simp; done) | (simp; omega)) ?_ | refine Sh.crN m ?_ | refine Sh.cr1 m ?_ | refine Sh.svI m (by first | omega | decide) (by first | omega | (simp; done) | (simp; omega)) fun q_ _ hp_ => ?_ | refine Sh.hvI m (by first | omega | decide) (by first | omega | (simp; done) | (simp; omega)) fun q_ _ hp_ => ?_ | refine Sh.svF m fun q_ _ hp_ => ?_ | refine Sh.hvF m fun q_ _ hp_ => ?_))
    exact ⟨by simp [isPre]; omega, m.chNo⟩
  · (repeat (first | refine Sh.sv m ?_ | refine Sh.hv ?_ | (refine Sh.sw m ?_; clear m; intro g_ w m) | (refine Sh.su m ?_; clear m; intro w m) | (refine Sh.suN m ?_; clear m; intro w m) | (refine Sh.hr m ?_; clear m; intro m) | refine Sh.rsS m ?_ | refine Sh.hd m ?_ | refine Sh.rsK [] m ?_ | refine CN_tt ?_ | refine CN_ff ?_ | refine GD_tt ?_ | refine GD_ff ?_ | refine GD_tf ?_ | refine GD_ft ?_ | refine CN_true (by first | omega | (simp; done) | (simp; omega)) ?_ | refine CN_false (by first | omega | (simp; done) | (simp; omega)) ?_ | refine GD_true (by first | omega | (simp; done) | (simp; omega)) ?_ | refine GD_true' (by first | omega | (simp; done) | (simp; omega)) ?_ | refine GD_false (by first | omega | (simp; done) | (simp; omega)) ?_ | refine GD_false' (by first | omega | (simp; done) | (simp; omega)) ?_ | refine Sh.crN m ?_ | refine Sh.cr1 m ?_ | refine Sh.svI m (by first | omega | decide) (by first | omega | (simp; done) | (simp; omega)) fun q_ _ hp_ => ?_ | refine Sh.hvI m (by first | omega | decide) (by first | omega | (simp; done) | (simp; omega)) fun q_ _ hp_ => ?_ | refine Sh.svF m fun q_ _ hp_ => ?_ | refine Sh.hvF m fun q_ _ hp_ => ?_))
    exact ⟨by simp [isPre]; omega, m.chNo⟩

theorem ref_sameOps {u v : Value} {a b : List FileOp} {w0 : World} (h : Mem w0 [sl eOp u a, sl eOp v b]) (hl : a.length ≤ 1000000000) :
    Ret Tryz.prog 30 #[u, v] w0 (.bool (decide (a = b))) := by
  have m := St.start h
  refine c30 ?_
  unfold s30
  (repeat (first | refine Sh.sv m ?_ | refine Sh.hv ?_ | (refine Sh.sw m ?_; clear m; intro g_ w m) | (refine Sh.su m ?_; clear m; intro w m) | (refine Sh.suN m ?_; clear m; intro w m) | (refine Sh.hr m ?_; clear m; intro m) | refine Sh.rsS m ?_ | refine Sh.hd m ?_ | refine Sh.rsK [] m ?_ | refine CN_tt ?_ | refine CN_ff ?_ | refine GD_tt ?_ | refine GD_ff ?_ | refine GD_tf ?_ | refine GD_ft ?_ | refine CN_true (by first | omega | (simp; done) | (simp; omega)) ?_ | refine CN_false (by first | omega | (simp; done) | (simp; omega)) ?_ | refine GD_true (by first | omega | (simp; done) | (simp; omega)) ?_ | refine GD_true' (by first | omega | (simp; done) | (simp; omega)) ?_ | refine GD_false (by first | omega | (simp; done) | (simp; omega)) ?_ | refine GD_false' (by first | omega | (simp; done) | (simp; omega)) ?_ | refine Sh.crN m ?_ | refine Sh.cr1 m ?_ | refine Sh.svI m (by first | omega | decide) (by first | omega | (simp; done) | (simp; omega)) fun q_ _ hp_ => ?_ | refine Sh.hvI m (by first | omega | decide) (by first | omega | (simp; done) | (simp; omega)) fun q_ _ hp_ => ?_ | refine Sh.svF m fun q_ _ hp_ => ?_ | refine Sh.hvF m fun q_ _ hp_ => ?_))
  refine CN_split (fun h1 => ?_) (fun h1 => ?_)
  · exact ⟨by rw [decide_eq_false]; rintro rfl; exact h1 rfl, m.ch.mono fun _ _ h => by cases h⟩
  have hlen : a.length = b.length := by omega
  refine LP_intro (fun us w => ∃ i : Nat, us = [.int .i64 i] ∧ i ≤ a.length ∧ a.take i = b.take i ∧ St w0 [sl eOp u a, sl eOp v b] w [sl eOp u a, sl eOp v b])
    (fun us _ => match us with | [.int _ t] => a.length - t.toNat | _ => 0) ⟨0, rfl, Nat.zero_le _, rfl, m⟩ ?_
  clear m
  rintro us hus ζ w ⟨i, rfl, hi, hf, m⟩
  unfold s30_l1
  simp only [List.getD_cons_zero, List.getD_cons_succ]
  by_cases hlt : i < a.length
  · have hlt' : i < b.length := by omega
    (repeat (first | refine Sh.sv m ?_ | refine Sh.hv ?_ | (refine Sh.sw m ?_; clear m; intro g_ w m) | (refine Sh.su m ?_; clear m; intro w m) | (refine Sh.suN m ?_; clear m; intro w m) | (refine Sh.hr m ?_; clear m; intro m) | refine Sh.rsS m ?_ | refine Sh.hd m ?_ | refine Sh.rsK [] m ?_ | refine CN_tt ?_ | refine CN_ff ?_ | refine GD_tt ?_ | refine GD_ff ?_ | refine GD_tf ?_ | refine GD_ft ?_ | refine CN_true (by first | omega | (simp; done) | (simp; omega)) ?_ | refine CN_false (by first | omega | (simp; done) | (simp; omega)) ?_ | refine GD_true (by first | omega | (simp; done) | (simp; omega)) ?_ | refine GD_true' (by first | omega | (simp; done) | (simp; omega)) ?_ | refine GD_false (by first | omega | (simp; done) | (simp; omega)) ?_ | refine GD_false' (by first | omega | (simp; done) | (simp; omega)) ?_ | refine Sh.crN m ?_ | refine Sh.cr1 m ?_ | refine Sh.svI m (by first | omega | decide) (by first | omega | (simp; done) | (simp; omega)) fun q_ _ hp_ => ?_ | refine Sh.hvI m (by first | omega | decide) (by first | omega | (simp; done) | (simp; omega)) fun q_ _ hp_ => ?_ | refine Sh.svF m fun q_ _ hp_ => ?_ | refine Sh.hvF m fun q_ _ hp_ => ?_))
    simp only [Int.toNat_natCast]
    cases h2 : decide (a[i] = b[i]) with
    | false =>
      (repeat (first | refine Sh.sv m ?_ | refine Sh.hv ?_ | (refine Sh.sw m ?_; clear m; intro g_ w m) | (refine Sh.su m ?_; clear m; intro w m) | (refine Sh.suN m ?_; clear m; intro w m) | (refine Sh.hr m ?_; clear m; intro m) | refine Sh.rsS m ?_ | refine Sh.hd m ?_ | refine Sh.rsK [] m ?_ | refine CN_tt ?_ | refine CN_ff ?_ | refine GD_tt ?_ | refine GD_ff ?_ | refine GD_tf ?_ | refine GD_ft ?_ | refine CN_true (by first | omega | (simp; done) | (simp; omega)) ?_ | refine CN_false (by first | omega | (simp; done) | (simp; omega)) ?_ | refine GD_true (by first | omega | (simp; done) | (simp; omega)) ?_ | refine GD_true' (by first | omega | (simp; done) | (simp; omega)) ?_ | refine GD_false (by first | omega | (simp; done) | (simp; omega)) ?_ | refine GD_false' (by first | omega | (simp; done) | (simp; omega)) ?_ | refine Sh.crN m ?_ | refine Sh.cr1 m ?_ | refine Sh.svI m (by first | omega | decide) (by first | omega | (simp; done) | (simp; omega)) fun q_ _ hp_ => ?_ | refine Sh.hvI m (by first | omega | decide) (by first | omega | (simp; done) | (simp; omega)) fun q_ _ hp_ => ?_ | refine Sh.svF m fun q_ _ hp_ => ?_ | refine Sh.hvF m fun q_ _ hp_ => ?_))
      refine ⟨by rw [decide_eq_false]; rintro rfl; simp at h2, m.ch.mono fun _ _ h => by cases h⟩
    | true =>
      (repeat (first | refine Sh.sv m ?_ | refine Sh.hv ?_ | (refine Sh.sw m ?_; clear m; intro g_ w m) | (refine Sh.su m ?_; clear m; intro w m) | (refine Sh.suN m ?_; clear m; intro w m) | (refine Sh.hr m ?_; clear m; intro m) | refine Sh.rsS m ?_ | refine Sh.hd m ?_ | refine Sh.rsK [] m ?_ | refine CN_tt ?_ | refine CN_ff ?_ | refine GD_tt ?_ | refine GD_ff ?_ | refine GD_tf ?_ | refine GD_ft ?_ | refine CN_true (by first | omega | (simp; done) | (simp; omega)) ?_ | refine CN_false (by first | omega | (simp; done) | (simp; omega)) ?_ | refine GD_true (by first | omega | (simp; done) | (simp; omega)) ?_ | refine GD_true' (by first | omega | (simp; done) | (simp; omega)) ?_ | refine GD_false (by first | omega | (simp; done) | (simp; omega)) ?_ | refine GD_false' (by first | omega | (simp; done) | (simp; omega)) ?_ | refine Sh.crN m ?_ | refine Sh.cr1 m ?_ | refine Sh.svI m (by first | omega | decide) (by first | omega | (simp; done) | (simp; omega)) fun q_ _ hp_ => ?_ | refine Sh.hvI m (by first | omega | decide) (by first | omega | (simp; done) | (simp; omega)) fun q_ _ hp_ => ?_ | refine Sh.svF m fun q_ _ hp_ => ?_ | refine Sh.hvF m fun q_ _ hp_ => ?_))
      refine ⟨⟨i + 1, rfl, hlt, ?_, m⟩, ?_⟩
      · rw [List.take_succ_eq_append_getElem hlt, List.take_succ_eq_append_getElem hlt', hf, of_decide_eq_true h2]
      · show a.length - ((i : Int) + 1).toNat < a.length - (i : Int).toNat
        omega
  · (repeat (first | refine Sh.sv m ?_ | refine Sh.hv ?_ | (refine Sh.sw m ?_; clear m; intro g_ w m) | (refine Sh.su m ?_; clear m; intro w m) | (refine Sh.suN m ?_; clear m; intro w m) | (refine Sh.hr m ?_; clear m; intro m) | refine Sh.rsS m ?_ | refine Sh.hd m ?_ | refine Sh.rsK [] m ?_ | refine CN_tt ?_ | refine CN_ff ?_ | refine GD_tt ?_ | refine GD_ff ?_ | refine GD_tf ?_ | refine GD_ft ?_ | refine CN_true (by first | omega | (simp; done) | (simp; omega)) ?_ | refine CN_false (by first | omega | (simp; done) | (simp; omega)) ?_ | refine GD_true (by first | omega | (simp; done) | (simp; omega)) ?_ | refine GD_true' (by first | omega | (simp; done) | (simp; omega)) ?_ | refine GD_false (by first | omega | (simp; done) | (simp; omega)) ?_ | refine GD_false' (by first | omega | (simp; done) | (simp; omega)) ?_ | refine Sh.crN m ?_ | refine Sh.cr1 m ?_ | refine Sh.svI m (by first | omega | decide) (by first | omega | (simp; done) | (simp; omega)) fun q_ _ hp_ => ?_ | refine Sh.hvI m (by first | omega | decide) (by first | omega | (simp; done) | (simp; omega)) fun q_ _ hp_ => ?_ | refine Sh.svF m fun q_ _ hp_ => ?_ | refine Sh.hvF m fun q_ _ hp_ => ?_))
    have : a = b := by
      rw [List.take_of_length_le (by omega), List.take_of_length_le (by omega)] at hf; exact hf
    exact ⟨by simp [this], m.ch.mono fun _ _ h => by cases h⟩
end Go.Proofs.YtkdghnbogkbedaaGreatDoor

namespace Go.Proofs.YtkdghnbogkbedaaGreatDoor
open Go Go.Sh
set_option maxRecDepth 100000


theorem mixedXRef08 : Tryz.prog.follows .mixedOrders = true := by kernel_rfl

/-! ### 33: (*scrinium/scriniumref08.Store).Do -/

def s33_l1 (P : Program) (k : Value → World → Prop) (a0_s : Value) (a1_ops : Value) (touched7 : Value) (t6 : Value) (i8 : Value) (next : List Value → World → Prop) (w : World) : Prop :=
  SV P (Builtin.len_ #[57] 3 #[a1_ops]) w fun t15 w =>
  SV P (binOp .lss 3 i8 t15) w fun t16 w =>
  CN t16
  (SV P (Instr.indexAt 57 a1_ops i8) w fun t23 w =>
  SV P (Instr.loadAt 150 t23) w fun t24 w =>
  SN P (callFunc 99 #[t6, t24]) w fun t25 w =>
  SV P (Instr.extract t25 0) w fun t26 w =>
  SV P (Instr.extract t25 1) w fun t27 w =>
  SV P (Instr.extract t25 2) w fun t28 w =>
  SV P (eqS .neq 32 (.tmp 29) (.const (Value.int .i64 0)) t28 (Value.int .i64 0)) w fun t30 w =>
  CN t30
  (k (.tuple #[a0_s, t28]) w)
  (SN P (callFunc 100 #[t26]) w fun t34 w =>
  SV P (binOp .lss 3 t34 (Value.int .i64 0)) w fun t35 w =>
  CN t35
  (k (.tuple #[a0_s, (Value.int .i64 15)]) w)
  (SV P (binOp .add 3 touched7 t27) w fun t39 w =>
  SV P (binOp .gtr 3 t39 (Value.int .i64 40)) w fun t41 w =>
  CN t41
  (k (.tuple #[a0_s, (Value.int .i64 11)]) w)
  (SV P (binOp .add 3 i8 (Value.int .i64 1)) w fun t18 w =>
  next [t39, t26, t18] w))))
  (k (.tuple #[t6, (Value.int .i64 0)]) w)

def s33 (P : Program) (k : Value → World → Prop) (a0_s : Value) (a1_ops : Value) (w : World) : Prop :=
  LP 3 [(Value.int .i64 0), a0_s, (Value.int .i64 0)] w (fun next _ us w => s33_l1 P k a0_s a1_ops (us.getD 0 undef) (us.getD 1 undef) (us.getD 2 undef) next w)

theorem e33 (k : Value → World → Prop) (a0_s a1_ops : Value) (w : World) : s33 Tryz.prog k a0_s a1_ops w = vcF Tryz.prog Tryz.f33 [6, 7, 8] [a0_s, a1_ops] k w := by kernel_rfl
theorem c33 {k : Value → World → Prop} {a0_s a1_ops : Value} {w : World} (h : s33 Tryz.prog k a0_s a1_ops w) : Calls Tryz.prog 33 #[a0_s, a1_ops] w (retP k) :=
  calls_of_vcF [6, 7, 8] mixedXRef08 Tryz.func33 (by kernel_rfl) (Eq.mp (e33 k a0_s a1_ops w) h)
theorem n33 {args : Array Value} {w : World} {k : Value → World → Prop} (h : Calls Tryz.prog 33 args w (retP k)) : SN Tryz.prog (callFunc 33 args) w k := sn_call Tryz.func33 (by kernel_rfl) (by kernel_rfl) h

/-! ### 99: (*scrinium/scriniumref08.Store).one -/

def s99_j1 (P : Program) (k : Value → World → Prop) (a0_s : Value) (o3 : Value) (k11 : Value) (w : World) : Prop :=
  SV P (Instr.fieldAt 150 o3 1) w fun t140 w =>
  SV P (Instr.loadAt 9 t140) w fun t141 w =>
  SV P (Instr.fieldAt 150 o3 2) w fun t142 w =>
  SV P (Instr.loadAt 9 t142) w fun t143 w =>
  SN P (callFunc 174 #[a0_s, t141, t143, (Value.bool false)]) w fun t144 w =>
  k (.tuple #[t144, k11, (Value.int .i64 0)]) w

def s99 (P : Program) (k : Value → World → Prop) (a0_s : Value) (a1_o : Value) (w : World) : Prop :=
  SV P (Instr.box 150 a1_o) w fun o3 w =>
  SV P (Instr.fieldAt 150 o3 1) w fun t12 w =>
  SV P (Instr.loadAt 9 t12) w fun t13 w =>
  SN P (callFunc 172 #[t13]) w fun t14 w =>
  SV P (Op.unary .not t14) w fun t16 w =>
  GD t16 false
  (SV P (Instr.fieldAt 150 o3 0) w fun t18 w =>
  SV P (Instr.loadAt 3 t18) w fun t19 w =>
  SV P (binOp .lss 3 t19 (Value.int .i64 1)) w fun t20 w =>
  GD t20 false
  (SV P (Instr.fieldAt 150 o3 0) w fun t23 w =>
  SV P (Instr.loadAt 3 t23) w fun t24 w =>
  SV P (binOp .gtr 3 t24 (Value.int .i64 5)) w fun t25 w =>
  CN t25
  (k (.tuple #[a0_s, (Value.int .i64 0), (Value.int .i64 1)]) w)
  (SV P (Instr.fieldAt 150 o3 1) w fun t29 w =>
  SV P (Instr.loadAt 9 t29) w fun t30 w =>
  SN P (callFunc 173 #[a0_s, t30]) w fun t31 w =>
  SV P (Instr.fieldAt 150 o3 0) w fun t32 w =>
  SV P (Instr.loadAt 3 t32) w fun t33 w =>
  SV P (eqS .eql 3 (.tmp 33) (.const (Value.int .i64 1)) t33 (Value.int .i64 1)) w fun t34 w =>
  CN t34
  (SV P (binOp .geq 3 t31 (Value.int .i64 0)) w fun t36 w =>
  CN t36
  (k (.tuple #[a0_s, (Value.int .i64 0), (Value.int .i64 13)]) w)
  (SV P (nilS a0_s) w fun t39 w =>
  SV P (Instr.fieldAt 63 t39 1) w fun t40 w =>
  SV P (Instr.loadAt 61 t40) w fun t41 w =>
  SV P (Builtin.len_ #[61] 3 #[t41]) w fun t42 w =>
  SV P (binOp .geq 3 t42 (Value.int .i64 32)) w fun t43 w =>
  CN t43
  (k (.tuple #[a0_s, (Value.int .i64 0), (Value.int .i64 15)]) w)
  (SV P (Instr.fieldAt 150 o3 1) w fun t46 w =>
  SV P (Instr.loadAt 9 t46) w fun t47 w =>
  SN P (callFunc 174 #[a0_s, t47, (str []), (Value.bool false)]) w fun t48 w =>
  k (.tuple #[t48, (Value.int .i64 0), (Value.int .i64 0)]) w)))
  (SV P (binOp .lss 3 t31 (Value.int .i64 0)) w fun t50 w =>
  CN t50
  (k (.tuple #[a0_s, (Value.int .i64 0), (Value.int .i64 12)]) w)
  (SV P (nilS a0_s) w fun t53 w =>
  SV P (Instr.fieldAt 63 t53 1) w fun t54 w =>
  SV P (Instr.loadAt 61 t54) w fun t55 w =>
  SV P (Instr.indexAt 61 t55 t31) w fun t57 w =>
  SV P (Instr.fieldAt 64 t57 1) w fun t58 w =>
  SV P (Instr.loadAt 9 t58) w fun t59 w =>
  SV P (Builtin.len_ #[9] 3 #[t59]) w fun t61 w =>
  SV P (Instr.fieldAt 150 o3 0) w fun t62 w =>
  SV P (Instr.loadAt 3 t62) w fun t63 w =>
  SV P (eqS .eql 3 (.tmp 63) (.const (Value.int .i64 2)) t63 (Value.int .i64 2)) w fun t65 w =>
  CN t65
  (SV P (Instr.fieldAt 150 o3 2) w fun t66 w =>
  SV P (Instr.loadAt 9 t66) w fun t67 w =>
  SV P (eqS .eql 9 (.tmp 67) (.const (str [])) t67 (str [])) w fun t68 w =>
  CN t68
  (k (.tuple #[a0_s, (Value.int .i64 0), (Value.int .i64 0)]) w)
  (HR w fun C w =>
  HV P C (Instr.fieldAt 150 o3 1) fun t71 =>
  HV P C (Instr.loadAt 9 t71) fun t72 =>
  HV P C (Instr.fieldAt 150 o3 2) fun t74 =>
  HV P C (Instr.loadAt 9 t74) fun t75 =>
  HV P C (binOp .add 9 t59 t75) fun t76 =>
  SN P (callFunc 174 #[a0_s, t72, t76, (Value.bool false)]) w fun t77 w =>
  RS C w fun C =>
  HV P C (Instr.fieldAt 150 o3 2) fun t79 =>
  HV P C (Instr.loadAt 9 t79) fun t80 =>
  HV P C (Builtin.len_ #[9] 3 #[t80]) fun t81 =>
  HV P C (binOp .add 3 t61 t81) fun t82 =>
  SN P (callFunc 175 #[t82]) w fun t83 w =>
  RS C w fun C =>
  HV P C (binOp .quo 3 t61 (Value.int .i64 256)) fun t85 =>
  HV P C (binOp .sub 3 t83 t85) fun t86 =>
  k (.tuple #[t77, t86, (Value.int .i64 0)]) w))
  (SV P (eqS .eql 3 (.tmp 63) (.const (Value.int .i64 3)) t63 (Value.int .i64 3)) w fun t88 w =>
  CN t88
  (SV P (Instr.fieldAt 150 o3 3) w fun t89 w =>
  SV P (Instr.loadAt 3 t89) w fun t90 w =>
  SV P (binOp .lss 3 t90 (Value.int .i64 0)) w fun t91 w =>
  GD t91 false
  (SV P (Instr.fieldAt 150 o3 3) w fun t93 w =>
  SV P (Instr.loadAt 3 t93) w fun t94 w =>
  SV P (binOp .gtr 3 t94 t61) w fun t96 w =>
  CN t96
  (k (.tuple #[a0_s, (Value.int .i64 0), (Value.int .i64 1)]) w)
  (SV P (Instr.fieldAt 150 o3 3) w fun t99 w =>
  SV P (Instr.loadAt 3 t99) w fun t100 w =>
  SV P (eqS .eql 3 (.tmp 100) (.tmp 101) t100 t61) w fun t102 w =>
  CN t102
  (k (.tuple #[a0_s, (Value.int .i64 0), (Value.int .i64 0)]) w)
  (HR w fun C w =>
  HV P C (Instr.fieldAt 150 o3 1) fun t105 =>
  HV P C (Instr.loadAt 9 t105) fun t106 =>
  HV P C (Instr.fieldAt 150 o3 3) fun t108 =>
  HV P C (Instr.loadAt 3 t108) fun t109 =>
  HV P C (Instr.sliceAt 9 t59 none (some t109) none) fun t110 =>
  SN P (callFunc 174 #[a0_s, t106, t110, (Value.bool false)]) w fun t111 w =>
  RS C w fun C =>
  SN P (callFunc 175 #[t61]) w fun t113 w =>
  RS C w fun C =>
  HV P C (Instr.fieldAt 150 o3 3) fun t114 =>
  HV P C (Instr.loadAt 3 t114) fun t115 =>
  HV P C (binOp .quo 3 t115 (Value.int .i64 256)) fun t116 =>
  HV P C (binOp .sub 3 t113 t116) fun t117 =>
  k (.tuple #[t111, t117, (Value.int .i64 0)]) w)))
  (k (.tuple #[a0_s, (Value.int .i64 0), (Value.int .i64 1)]) w))
  (SV P (eqS .eql 3 (.tmp 63) (.const (Value.int .i64 4)) t63 (Value.int .i64 4)) w fun t119 w =>
  CN t119
  (SV P (binOp .gtr 3 t61 (Value.int .i64 0)) w fun t121 w =>
  CN t121
  (k (.tuple #[a0_s, (Value.int .i64 0), (Value.int .i64 13)]) w)
  (SV P (Instr.fieldAt 150 o3 1) w fun t124 w =>
  SV P (Instr.loadAt 9 t124) w fun t125 w =>
  SN P (callFunc 174 #[a0_s, t125, (str []), (Value.bool true)]) w fun t126 w =>
  k (.tuple #[t126, (Value.int .i64 0), (Value.int .i64 0)]) w))
  (SN P (callFunc 175 #[t61]) w fun t128 w =>
  JP 1 (fun j =>
  SV P (Instr.fieldAt 150 o3 2) w fun t129 w =>
  SV P (Instr.loadAt 9 t129) w fun t130 w =>
  SV P (Builtin.len_ #[9] 3 #[t130]) w fun t131 w =>
  SN P (callFunc 175 #[t131]) w fun t132 w =>
  SV P (binOp .gtr 3 t132 t128) w fun t134 w =>
  CN t134
  (SV P (Instr.fieldAt 150 o3 2) w fun t135 w =>
  SV P (Instr.loadAt 9 t135) w fun t136 w =>
  SV P (Builtin.len_ #[9] 3 #[t136]) w fun t137 w =>
  SN P (callFunc 175 #[t137]) w fun t138 w =>
  j [t138] w)
  (j [t128] w))
  (fun _ us w => s99_j1 P k a0_s o3 (us.getD 0 undef) w))))))))
  (k (.tuple #[a0_s, (Value.int .i64 0), (Value.int .i64 1)]) w))
  (k (.tuple #[a0_s, (Value.int .i64 0), (Value.int .i64 1)]) w)

theorem e99 (k : Value → World → Prop) (a0_s a1_o : Value) (w : World) : s99 Tryz.prog k a0_s a1_o w = vcF Tryz.prog Tryz.f99 [11] [a0_s, a1_o] k w := by kernel_rfl
theorem c99 {k : Value → World → Prop} {a0_s a1_o : Value} {w : World} (h : s99 Tryz.prog k a0_s a1_o w) : Calls Tryz.prog 99 #[a0_s, a1_o] w (retP k) :=
  calls_of_vcF [11] mixedXRef08 Tryz.func99 (by kernel_rfl) (Eq.mp (e99 k a0_s a1_o w) h)
theorem n99 {args : Array Value} {w : World} {k : Value → World → Prop} (h : Calls Tryz.prog 99 args w (retP k)) : SN Tryz.prog (callFunc 99 args) w k := sn_call Tryz.func99 (by kernel_rfl) (by kernel_rfl) h

/-! ### 100: (*scrinium/scriniumref08.Store).Free -/

def s100_l1 (P : Program) (k : Value → World → Prop) (a0_s : Value) (n3 : Value) (i4 : Value) (next : List Value → World → Prop) (w : World) : Prop :=
  SV P (nilS a0_s) w fun t11 w =>
  SV P (Instr.fieldAt 63 t11 1) w fun t12 w =>
  SV P (Instr.loadAt 61 t12) w fun t13 w =>
  SV P (Builtin.len_ #[61] 3 #[t13]) w fun t14 w =>
  SV P (binOp .lss 3 i4 t14) w fun t15 w =>
  CN t15
  (SV P (nilS a0_s) w fun t20 w =>
  SV P (Instr.fieldAt 63 t20 1) w fun t21 w =>
  SV P (Instr.loadAt 61 t21) w fun t22 w =>
  SV P (Instr.indexAt 61 t22 i4) w fun t24 w =>
  SV P (Instr.fieldAt 64 t24 1) w fun t25 w =>
  SV P (Instr.loadAt 9 t25) w fun t26 w =>
  SV P (Builtin.len_ #[9] 3 #[t26]) w fun t27 w =>
  SN P (callFunc 175 #[t27]) w fun t28 w =>
  SV P (binOp .sub 3 n3 t28) w fun t29 w =>
  SV P (binOp .add 3 i4 (Value.int .i64 1)) w fun t17 w =>
  next [t29, t17] w)
  (k n3 w)

def s100 (P : Program) (k : Value → World → Prop) (a0_s : Value) (w : World) : Prop :=
  SV P (nilS a0_s) w fun t6 w =>
  SV P (Instr.fieldAt 63 t6 0) w fun t7 w =>
  SV P (Instr.loadAt 3 t7) w fun t8 w =>
  LP 2 [t8, (Value.int .i64 0)] w (fun next _ us w => s100_l1 P k a0_s (us.getD 0 undef) (us.getD 1 undef) next w)

theorem e100 (k : Value → World → Prop) (a0_s : Value) (w : World) : s100 Tryz.prog k a0_s w = vcF Tryz.prog Tryz.f100 [3, 4] [a0_s] k w := by kernel_rfl
theorem c100 {k : Value → World → Prop} {a0_s : Value} {w : World} (h : s100 Tryz.prog k a0_s w) : Calls Tryz.prog 100 #[a0_s] w (retP k) :=
  calls_of_vcF [3, 4] mixedXRef08 Tryz.func100 (by kernel_rfl) (Eq.mp (e100 k a0_s w) h)
theorem n100 {args : Array Value} {w : World} {k : Value → World → Prop} (h : Calls Tryz.prog 100 args w (retP k)) : SN Tryz.prog (callFunc 100 args) w k := sn_call Tryz.func100 (by kernel_rfl) (by kernel_rfl) h

/-! ### 172: scrinium/scriniumref08.Name -/

def s172_l1 (P : Program) (k : Value → World → Prop) (a0_s : Value) (i3 : Value) (next : List Value → World → Prop) (w : World) : Prop :=
  SV P (Builtin.len_ #[9] 3 #[a0_s]) w fun t15 w =>
  SV P (binOp .lss 3 i3 t15) w fun t16 w =>
  CN t16
  (SV P (Instr.index 9 a0_s i3) w fun t21 w =>
  SV P (binOp .geq 5 t21 (Value.int .u8 97)) w fun t23 w =>
  GD t23 true
  (SV P (binOp .leq 5 t21 (Value.int .u8 122)) w fun t26 w =>
  GD t26 false
  (SV P (binOp .geq 5 t21 (Value.int .u8 48)) w fun t30 w =>
  GD t30 true
  (SV P (binOp .leq 5 t21 (Value.int .u8 57)) w fun t33 w =>
  GD t33 false
  (SV P (eqS .eql 5 (.tmp 37) (.const (Value.int .u8 46)) t21 (Value.int .u8 46)) w fun t38 w =>
  GD t38 false
  (SV P (eqS .eql 5 (.tmp 41) (.const (Value.int .u8 45)) t21 (Value.int .u8 45)) w fun t42 w =>
  SV P (Op.unary .not t42) w fun t44 w =>
  CN t44
  (k (Value.bool false) w)
  (SV P (binOp .add 3 i3 (Value.int .i64 1)) w fun t18 w =>
  next [t18] w))
  (SV P (Op.unary .not (Value.bool true)) w fun t44 w =>
  CN t44
  (k (Value.bool false) w)
  (SV P (binOp .add 3 i3 (Value.int .i64 1)) w fun t18 w =>
  next [t18] w)))
  (SV P (Op.unary .not (Value.bool true)) w fun t44 w =>
  CN t44
  (k (Value.bool false) w)
  (SV P (binOp .add 3 i3 (Value.int .i64 1)) w fun t18 w =>
  next [t18] w)))
  (SV P (eqS .eql 5 (.tmp 37) (.const (Value.int .u8 46)) t21 (Value.int .u8 46)) w fun t38 w =>
  GD t38 false
  (SV P (eqS .eql 5 (.tmp 41) (.const (Value.int .u8 45)) t21 (Value.int .u8 45)) w fun t42 w =>
  SV P (Op.unary .not t42) w fun t44 w =>
  CN t44
  (k (Value.bool false) w)
  (SV P (binOp .add 3 i3 (Value.int .i64 1)) w fun t18 w =>
  next [t18] w))
  (SV P (Op.unary .not (Value.bool true)) w fun t44 w =>
  CN t44
  (k (Value.bool false) w)
  (SV P (binOp .add 3 i3 (Value.int .i64 1)) w fun t18 w =>
  next [t18] w))))
  (SV P (Op.unary .not (Value.bool true)) w fun t44 w =>
  CN t44
  (k (Value.bool false) w)
  (SV P (binOp .add 3 i3 (Value.int .i64 1)) w fun t18 w =>
  next [t18] w)))
  (SV P (binOp .geq 5 t21 (Value.int .u8 48)) w fun t30 w =>
  GD t30 true
  (SV P (binOp .leq 5 t21 (Value.int .u8 57)) w fun t33 w =>
  GD t33 false
  (SV P (eqS .eql 5 (.tmp 37) (.const (Value.int .u8 46)) t21 (Value.int .u8 46)) w fun t38 w =>
  GD t38 false
  (SV P (eqS .eql 5 (.tmp 41) (.const (Value.int .u8 45)) t21 (Value.int .u8 45)) w fun t42 w =>
  SV P (Op.unary .not t42) w fun t44 w =>
  CN t44
  (k (Value.bool false) w)
  (SV P (binOp .add 3 i3 (Value.int .i64 1)) w fun t18 w =>
  next [t18] w))
  (SV P (Op.unary .not (Value.bool true)) w fun t44 w =>
  CN t44
  (k (Value.bool false) w)
  (SV P (binOp .add 3 i3 (Value.int .i64 1)) w fun t18 w =>
  next [t18] w)))
  (SV P (Op.unary .not (Value.bool true)) w fun t44 w =>
  CN t44
  (k (Value.bool false) w)
  (SV P (binOp .add 3 i3 (Value.int .i64 1)) w fun t18 w =>
  next [t18] w)))
  (SV P (eqS .eql 5 (.tmp 37) (.const (Value.int .u8 46)) t21 (Value.int .u8 46)) w fun t38 w =>
  GD t38 false
  (SV P (eqS .eql 5 (.tmp 41) (.const (Value.int .u8 45)) t21 (Value.int .u8 45)) w fun t42 w =>
  SV P (Op.unary .not t42) w fun t44 w =>
  CN t44
  (k (Value.bool false) w)
  (SV P (binOp .add 3 i3 (Value.int .i64 1)) w fun t18 w =>
  next [t18] w))
  (SV P (Op.unary .not (Value.bool true)) w fun t44 w =>
  CN t44
  (k (Value.bool false) w)
  (SV P (binOp .add 3 i3 (Value.int .i64 1)) w fun t18 w =>
  next [t18] w)))))
  (k (Value.bool true) w)

def s172 (P : Program) (k : Value → World → Prop) (a0_s : Value) (w : World) : Prop :=
  SV P (Builtin.len_ #[9] 3 #[a0_s]) w fun t6 w =>
  SV P (binOp .lss 3 t6 (Value.int .i64 1)) w fun t7 w =>
  GD t7 false
  (SV P (Builtin.len_ #[9] 3 #[a0_s]) w fun t10 w =>
  SV P (binOp .gtr 3 t10 (Value.int .i64 12)) w fun t11 w =>
  CN t11
  (k (Value.bool false) w)
  (LP 1 [(Value.int .i64 0)] w (fun next _ us w => s172_l1 P k a0_s (us.getD 0 undef) next w)))
  (k (Value.bool false) w)

theorem e172 (k : Value → World → Prop) (a0_s : Value) (w : World) : s172 Tryz.prog k a0_s w = vcF Tryz.prog Tryz.f172 [3] [a0_s] k w := by kernel_rfl
theorem c172 {k : Value → World → Prop} {a0_s : Value} {w : World} (h : s172 Tryz.prog k a0_s w) : Calls Tryz.prog 172 #[a0_s] w (retP k) :=
  calls_of_vcF [3] mixedXRef08 Tryz.func172 (by kernel_rfl) (Eq.mp (e172 k a0_s w) h)
theorem n172 {args : Array Value} {w : World} {k : Value → World → Prop} (h : Calls Tryz.prog 172 args w (retP k)) : SN Tryz.prog (callFunc 172 args) w k := sn_call Tryz.func172 (by kernel_rfl) (by kernel_rfl) h

/-! ### 173: (*scrinium/scriniumref08.Store).find -/

def s173_l1 (P : Program) (k : Value → World → Prop) (a0_s : Value) (a1_name : Value) (i5 : Value) (next : List Value → World → Prop) (w : World) : Prop :=
  SV P (nilS a0_s) w fun t8 w =>
  SV P (Instr.fieldAt 63 t8 1) w fun t9 w =>
  SV P (Instr.loadAt 61 t9) w fun t10 w =>
  SV P (Builtin.len_ #[61] 3 #[t10]) w fun t11 w =>
  SV P (binOp .lss 3 i5 t11) w fun t12 w =>
  CN t12
  (SV P (nilS a0_s) w fun t16 w =>
  SV P (Instr.fieldAt 63 t16 1) w fun t17 w =>
  SV P (Instr.loadAt 61 t17) w fun t18 w =>
  SV P (Instr.indexAt 61 t18 i5) w fun t20 w =>
  SV P (Instr.fieldAt 64 t20 0) w fun t21 w =>
  SV P (Instr.loadAt 9 t21) w fun t22 w =>
  SV P (eqS .eql 9 (.tmp 22) (.tmp 23) t22 a1_name) w fun t24 w =>
  CN t24
  (k i5 w)
  (SV P (binOp .add 3 i5 (Value.int .i64 1)) w fun t14 w =>
  next [t14] w))
  (k (Value.int .i64 (-1)) w)

def s173 (P : Program) (k : Value → World → Prop) (a0_s : Value) (a1_name : Value) (w : World) : Prop :=
  LP 1 [(Value.int .i64 0)] w (fun next _ us w => s173_l1 P k a0_s a1_name (us.getD 0 undef) next w)

theorem e173 (k : Value → World → Prop) (a0_s a1_name : Value) (w : World) : s173 Tryz.prog k a0_s a1_name w = vcF Tryz.prog Tryz.f173 [5] [a0_s, a1_name] k w := by kernel_rfl
theorem c173 {k : Value → World → Prop} {a0_s a1_name : Value} {w : World} (h : s173 Tryz.prog k a0_s a1_name w) : Calls Tryz.prog 173 #[a0_s, a1_name] w (retP k) :=
  calls_of_vcF [5] mixedXRef08 Tryz.func173 (by kernel_rfl) (Eq.mp (e173 k a0_s a1_name w) h)
theorem n173 {args : Array Value} {w : World} {k : Value → World → Prop} (h : Calls Tryz.prog 173 args w (retP k)) : SN Tryz.prog (callFunc 173 args) w k := sn_call Tryz.func173 (by kernel_rfl) (by kernel_rfl) h

/-! ### 174: (*scrinium/scriniumref08.Store).with -/

def s174_j1 (P : Program) (_ : Value → World → Prop) (a1_name : Value) (t18 : Value) (j : List Value → World → Prop) (f12 : Value) (put10_1 : Value) (w : World) : Prop :=
  SV P (Instr.fieldAt 64 f12 0) w fun t59 w =>
  SV P (Instr.loadAt 9 t59) w fun t60 w =>
  SV P (eqS .neq 9 (.tmp 60) (.tmp 61) t60 a1_name) w fun t62 w =>
  CN t62
  (HR w fun C w =>
  HV P C (nilS t18) fun t65 =>
  HV P C (Instr.fieldAt 63 t65 1) fun t66 =>
  HV P C (Instr.loadAt 61 t66) fun t67 =>
  HV P C (Instr.loadAt 64 f12) fun t68 =>
  SV P (Instr.buildSlice 61 1 #[(0, t68)]) w fun t69 w =>
  C w ∧
  SV P (Builtin.append_ #[61, 61] 61 #[t67, t69]) w fun t70 w =>
  RS C w fun C =>
  HV P C (nilS t18) fun t71 =>
  HV P C (Instr.fieldAt 63 t71 1) fun t72 =>
  SU P (Instr.storeAt 61 t72 t70) w fun w =>
  j [put10_1] w)
  (j [put10_1] w)

def s174_j2 (P : Program) (_ : Value → World → Prop) (i11 : Value) (next : List Value → World → Prop) (put10_1 : Value) (w : World) : Prop :=
  SV P (binOp .add 3 i11 (Value.int .i64 1)) w fun t27 w =>
  next [put10_1, t27] w

def s174_j3 (_ : Program) (k : Value → World → Prop) (t18 : Value) (w : World) : Prop :=
  k t18 w

def s174_l1 (P : Program) (k : Value → World → Prop) (a0_s : Value) (a1_name : Value) (a2_data : Value) (a3_gone : Value) (t18 : Value) (put10 : Value) (i11 : Value) (next : List Value → World → Prop) (w : World) : Prop :=
  SV P (nilS a0_s) w fun t21 w =>
  SV P (Instr.fieldAt 63 t21 1) w fun t22 w =>
  SV P (Instr.loadAt 61 t22) w fun t23 w =>
  SV P (Builtin.len_ #[61] 3 #[t23]) w fun t24 w =>
  SV P (binOp .lss 3 i11 t24) w fun t25 w =>
  CN t25
  (JP 1 (fun j =>
  SV P (nilS a0_s) w fun t29 w =>
  SV P (Instr.fieldAt 63 t29 1) w fun t30 w =>
  SV P (Instr.loadAt 61 t30) w fun t31 w =>
  SV P (Instr.indexAt 61 t31 i11) w fun t33 w =>
  SV P (Instr.loadAt 64 t33) w fun t34 w =>
  SV P (Instr.alloc 64 true (.tuple #[])) w fun f12 w =>
  SU P (Instr.storeAt 64 f12 t34) w fun w =>
  JP 1 (fun j_1 =>
  SV P (Op.unary .not put10) w fun t36 w =>
  GD t36 true
  (SV P (Op.unary .not a3_gone) w fun t39 w =>
  GD t39 true
  (SV P (Instr.fieldAt 64 f12 0) w fun t42 w =>
  SV P (Instr.loadAt 9 t42) w fun t43 w =>
  SV P (binOp .geq 9 t43 a1_name) w fun t45 w =>
  CN t45
  (SV P (nilS t18) w fun t49 w =>
  SV P (Instr.fieldAt 63 t49 1) w fun t50 w =>
  SV P (Instr.loadAt 61 t50) w fun t51 w =>
  SV P (Instr.build 64 #[(0, a1_name), (1, a2_data)]) w fun t54 w =>
  SV P (Instr.buildSlice 61 1 #[(0, t54)]) w fun t55 w =>
  SV P (Builtin.append_ #[61, 61] 61 #[t51, t55]) w fun t56 w =>
  SV P (nilS t18) w fun t57 w =>
  SV P (Instr.fieldAt 63 t57 1) w fun t58 w =>
  SU P (Instr.storeAt 61 t58 t56) w fun w =>
  j_1 [(Value.bool true)] w)
  (j_1 [put10] w))
  (j_1 [put10] w))
  (j_1 [put10] w))
  (fun _ us w => s174_j1 P k a1_name t18 j f12 (us.getD 0 undef) w))
  (fun _ us w => s174_j2 P k i11 next (us.getD 0 undef) w))
  (JP 0 (fun j =>
  SV P (Op.unary .not put10) w fun t74 w =>
  GD t74 true
  (SV P (Op.unary .not a3_gone) w fun t77 w =>
  CN t77
  (SV P (nilS t18) w fun t81 w =>
  SV P (Instr.fieldAt 63 t81 1) w fun t82 w =>
  SV P (Instr.loadAt 61 t82) w fun t83 w =>
  SV P (Instr.build 64 #[(0, a1_name), (1, a2_data)]) w fun t86 w =>
  SV P (Instr.buildSlice 61 1 #[(0, t86)]) w fun t87 w =>
  SV P (Builtin.append_ #[61, 61] 61 #[t83, t87]) w fun t88 w =>
  SV P (nilS t18) w fun t89 w =>
  SV P (Instr.fieldAt 63 t89 1) w fun t90 w =>
  SU P (Instr.storeAt 61 t90 t88) w fun w =>
  j [] w)
  (j [] w))
  (j [] w))
  (fun _ _ w => s174_j3 P k t18 w))

def s174 (P : Program) (k : Value → World → Prop) (a0_s : Value) (a1_name : Value) (a2_data : Value) (a3_gone : Value) (w : World) : Prop :=
  SV P (nilS a0_s) w fun t14 w =>
  SV P (Instr.fieldAt 63 t14 0) w fun t15 w =>
  SV P (Instr.loadAt 3 t15) w fun t16 w =>
  SV P (Instr.build 63 #[(0, t16)]) w fun t17 w =>
  SV P (Instr.box 63 t17) w fun t18 w =>
  LP 2 [(Value.bool false), (Value.int .i64 0)] w (fun next _ us w => s174_l1 P k a0_s a1_name a2_data a3_gone t18 (us.getD 0 undef) (us.getD 1 undef) next w)

theorem e174 (k : Value → World → Prop) (a0_s a1_name a2_data a3_gone : Value) (w : World) : s174 Tryz.prog k a0_s a1_name a2_data a3_gone w = vcF Tryz.prog Tryz.f174 [10, 11] [a0_s, a1_name, a2_data, a3_gone] k w := by kernel_rfl
theorem c174 {k : Value → World → Prop} {a0_s a1_name a2_data a3_gone : Value} {w : World} (h : s174 Tryz.prog k a0_s a1_name a2_data a3_gone w) : Calls Tryz.prog 174 #[a0_s, a1_name, a2_data, a3_gone] w (retP k) :=
  calls_of_vcF [10, 11] mixedXRef08 Tryz.func174 (by kernel_rfl) (Eq.mp (e174 k a0_s a1_name a2_data a3_gone w) h)
theorem n174 {args : Array Value} {w : World} {k : Value → World → Prop} (h : Calls Tryz.prog 174 args w (retP k)) : SN Tryz.prog (callFunc 174 args) w k := sn_call Tryz.func174 (by kernel_rfl) (by kernel_rfl) h

/-! ### 175: scrinium/scriniumref08.Need -/

def s175_j1 (_ : Program) (k : Value → World → Prop) (k3 : Value) (w : World) : Prop :=
  k k3 w

def s175 (P : Program) (k : Value → World → Prop) (a0_n : Value) (w : World) : Prop :=
  SV P (binOp .quo 3 a0_n (Value.int .i64 256)) w fun t5 w =>
  JP 1 (fun j =>
  SV P (binOp .rem 3 a0_n (Value.int .i64 256)) w fun t7 w =>
  SV P (binOp .gtr 3 t7 (Value.int .i64 0)) w fun t8 w =>
  CN t8
  (SV P (binOp .add 3 t5 (Value.int .i64 1)) w fun t10 w =>
  j [t10] w)
  (j [t5] w))
  (fun _ us w => s175_j1 P k (us.getD 0 undef) w)

theorem e175 (k : Value → World → Prop) (a0_n : Value) (w : World) : s175 Tryz.prog k a0_n w = vcF Tryz.prog Tryz.f175 [3] [a0_n] k w := by kernel_rfl
theorem c175 {k : Value → World → Prop} {a0_n : Value} {w : World} (h : s175 Tryz.prog k a0_n w) : Calls Tryz.prog 175 #[a0_n] w (retP k) :=
  calls_of_vcF [3] mixedXRef08 Tryz.func175 (by kernel_rfl) (Eq.mp (e175 k a0_n w) h)
theorem n175 {args : Array Value} {w : World} {k : Value → World → Prop} (h : Calls Tryz.prog 175 args w (retP k)) : SN Tryz.prog (callFunc 175 args) w k := sn_call Tryz.func175 (by kernel_rfl) (by kernel_rfl) h

end Go.Proofs.YtkdghnbogkbedaaGreatDoor

namespace Go.Sh
open Go Go.RowKit
def eRF : Elt File := ⟨64, 2, File.cells, fun _ => rfl, File.ones⟩
instance {x : File} : EC eRF x x.cells := ⟨rfl⟩
def okc (c : UInt8) : Prop := (97 ≤ c.toNat ∧ c.toNat ≤ 122) ∨ (48 ≤ c.toNat ∧ c.toNat ≤ 57) ∨ c.toNat = 46 ∨ c.toNat = 45
/-- May a text be a file's name? -/
def nameOk (s : List UInt8) : Prop := 1 ≤ s.length ∧ s.length ≤ 12 ∧ ∀ c ∈ s, okc c
/-- How many sectors bytes need. -/
def needN (n : Nat) : Nat := n / 256 + (if 0 < n % 256 then 1 else 0)
def freeOf (room : Int) (fs : List File) : Int := fs.foldl (fun n f => n - needN f.data.length) room
/-- The files with one that has these bytes, or (gone) is no more. -/
def withGo (name data : List UInt8) (gone : Bool) : Bool → List File → List File
  | put, [] => if put || gone then [] else [⟨name, data⟩]
  | put, f :: fs =>
    if put = false ∧ gone = false ∧ Op.bytesLess f.name name = false then [⟨name, data⟩] ++ ((if f.name = name then [] else [f]) ++ withGo name data gone true fs)
    else (if f.name = name then [] else [f]) ++ withGo name data gone put fs
def withF (name data : List UInt8) (gone : Bool) (fs : List File) : List File := withGo name data gone false fs
theorem withGo_len (name data : List UInt8) (gone : Bool) : ∀ (fs : List File) (put : Bool), (withGo name data gone put fs).length ≤ fs.length + 1
  | [], put => by unfold withGo; split <;> simp
  | f :: fs, put => by
    have h1 := withGo_len name data gone fs put
    have h2 : (withGo name data gone true fs).length ≤ fs.length + 1 := withGo_len name data gone fs true
    have h3 : ∀ (fs : List File), (withGo name data gone true fs).length ≤ fs.length := by
      intro fs
      induction fs with
      | nil => simp [withGo]
      | cons g fs ih => unfold withGo; simp; split <;> simp <;> omega
    have h3 := h3 fs
    unfold withGo
    split <;> (simp only [List.length_append, List.length_cons, List.length_nil]; split <;> simp <;> omega)
def oneOf (fs : List File) (o : FileOp) : List File × Int × Int :=
  match findF fs o.name with
  | none => if o.kind = 1 then (if 32 ≤ fs.length then (fs, 0, 15) else (withF o.name [] false fs, 0, 0)) else (fs, 0, 12)
  | some d =>
    if o.kind = 1 then (fs, 0, 13)
    else if o.kind = 2 then (if o.data = [] then (fs, 0, 0) else (withF o.name (d ++ o.data) false fs, (needN (d.length + o.data.length) : Int) - ((d.length / 256 : Nat) : Int), 0))
    else if o.kind = 3 then (if o.n < 0 ∨ (d.length : Int) < o.n then (fs, 0, 1) else if o.n = d.length then (fs, 0, 0) else (withF o.name (d.take o.n.toNat) false fs, (needN d.length : Int) - ((o.n.toNat / 256 : Nat) : Int), 0))
    else if o.kind = 4 then (if 0 < d.length then (fs, 0, 13) else (withF o.name [] true fs, 0, 0))
    else (withF o.name o.data false fs, ((max (needN d.length) (needN o.data.length) : Nat) : Int), 0)
end Go.Sh
namespace Go.Proofs.YtkdghnbogkbedaaGreatDoor
open Go Go.Sh Go.RowKit
set_option maxRecDepth 100000
set_option maxHeartbeats 1000000
set_option linter.unusedSimpArgs false
set_option linter.unusedVariables false

theorem ref_name {s : List UInt8} (h : nameOk s) (w0 : World) : Ret Tryz.prog 172 #[str s] w0 (.bool true) := by
  have m := St.nil w0
  obtain ⟨h1, h2, h3⟩ := h
  refine c172 ?_
  unfold s172
  (repeat (first | refine Sh.sv m ?_ | refine Sh.hv ?_ | (refine Sh.sw m ?_; clear m; intro g_ w m) | (refine Sh.su m ?_; clear m; intro w m) | (refine Sh.suN m ?_; clear m; intro w m) | (refine Sh.hr m ?_; clear m; intro m) | refine Sh.rsS m ?_ | refine Sh.hd m ?_ | refine Sh.rsK [] m ?_ | refine CN_tt ?_ | refine CN_ff ?_ | refine GD_tt ?_ | refine GD_ff ?_ | refine GD_tf ?_ | refine GD_ft ?_ | refine CN_true (by first | omega | (simp; done) | (simp; omega)) ?_ | refine CN_false (by first | omega | (simp; done) | (simp; omega)) ?_ | refine GD_true (by first | omega | (simp; done) | (simp; omega)) ?_ | refine GD_true' (by first | omega | (simp; done) | (simp; omega)) ?_ | refine GD_false (by first | omega | (simp; done) | (simp; omega)) ?_ | refine GD_false' (by first | omega | (simp; done) | (simp; omega)) ?_ | refine Sh.crN m ?_ | refine Sh.cr1 m ?_ | refine Sh.svI m (by first | omega | decide) (by first | omega | (simp; done) | (simp; omega)) fun q_ _ hp_ => ?_ | refine Sh.hvI m (by first | omega | decide) (by first | omega | (simp; done) | (simp; omega)) fun q_ _ hp_ => ?_ | refine Sh.svF m fun q_ _ hp_ => ?_ | refine Sh.hvF m fun q_ _ hp_ => ?_))
  refine LP_intro (fun us w => ∃ i : Nat, us = [.int .i64 i] ∧ i ≤ s.length ∧ St w0 [] w []) (fun us _ => match us with | [.int _ t] => s.length - t.toNat | _ => 0) ⟨0, rfl, Nat.zero_le _, m⟩ ?_
  clear m
  rintro us hus ζ w ⟨i, rfl, hi, m⟩
  unfold s172_l1
  simp only [List.getD_cons_zero, List.getD_cons_succ]
  by_cases hlt : i < s.length
  · have hc := h3 s[i] (List.getElem_mem hlt)
    have e : s.getD i 0 = s[i] := by simp [List.getD, hlt]
    refine Sh.sv m ?_
    refine Sh.sv m ?_
    refine CN_true (by omega) ?_
    refine Sh.sv m ?_
    simp only [Int.toNat_natCast, e, by_]
    have fin : (∃ j : Nat, [Value.int .i64 ((i : Int) + 1)] = [Value.int .i64 j] ∧ j ≤ s.length ∧ St w0 [] w []) ∧ s.length - ((i : Int) + 1).toNat < s.length - (i : Int).toNat := ⟨⟨i + 1, rfl, hlt, m⟩, by omega⟩
    rcases hc with ⟨a, b⟩ | ⟨a, b⟩ | a | a
    · (repeat (first | refine Sh.sv m ?_ | refine Sh.hv ?_ | (refine Sh.sw m ?_; clear m; intro g_ w m) | (refine Sh.su m ?_; clear m; intro w m) | (refine Sh.suN m ?_; clear m; intro w m) | (refine Sh.hr m ?_; clear m; intro m) | refine Sh.rsS m ?_ | refine Sh.hd m ?_ | refine Sh.rsK [] m ?_ | refine CN_tt ?_ | refine CN_ff ?_ | refine GD_tt ?_ | refine GD_ff ?_ | refine GD_tf ?_ | refine GD_ft ?_ | refine CN_true (by first | omega | (simp; done) | (simp; omega)) ?_ | refine CN_false (by first | omega | (simp; done) | (simp; omega)) ?_ | refine GD_true (by first | omega | (simp; done) | (simp; omega)) ?_ | refine GD_true' (by first | omega | (simp; done) | (simp; omega)) ?_ | refine GD_false (by first | omega | (simp; done) | (simp; omega)) ?_ | refine GD_false' (by first | omega | (simp; done) | (simp; omega)) ?_ | refine Sh.crN m ?_ | refine Sh.cr1 m ?_ | refine Sh.svI m (by first | omega | decide) (by first | omega | (simp; done) | (simp; omega)) fun q_ _ hp_ => ?_ | refine Sh.hvI m (by first | omega | decide) (by first | omega | (simp; done) | (simp; omega)) fun q_ _ hp_ => ?_ | refine Sh.svF m fun q_ _ hp_ => ?_ | refine Sh.hvF m fun q_ _ hp_ => ?_))
      exact fin
    · (repeat (first | refine Sh.sv m ?_ | refine Sh.hv ?_ | (refine Sh.sw m ?_; clear m; intro g_ w m) | (refine Sh.su m ?_; clear m; intro w m) | (refine Sh.suN m ?_; clear m; intro w m) | (refine Sh.hr m ?_; clear m; intro m) | refine Sh.rsS m ?_ | refine Sh.hd m ?_ | refine Sh.rsK [] m ?_ | refine CN_tt ?_ | refine CN_ff ?_ | refine GD_tt ?_ | refine GD_ff ?_ | refine GD_tf ?_ | refine GD_ft ?_ | refine CN_true (by first | omega | (simp; done) | (simp; omega)) ?_ | refine CN_false (by first | omega | (simp; done) | (simp; omega)) ?_ | refine GD_true (by first | omega | (simp; done) | (simp; omega)) ?_ | refine GD_true' (by first | omega | (simp; done) | (simp; omega)) ?_ | refine GD_false (by first | omega | (simp; done) | (simp; omega)) ?_ | refine GD_false' (by first | omega | (simp; done) | (simp; omega)) ?_ | refine Sh.crN m ?_ | refine Sh.cr1 m ?_ | refine Sh.svI m (by first | omega | decide) (by first | omega | (simp; done) | (simp; omega)) fun q_ _ hp_ => ?_ | refine Sh.hvI m (by first | omega | decide) (by first | omega | (simp; done) | (simp; omega)) fun q_ _ hp_ => ?_ | refine Sh.svF m fun q_ _ hp_ => ?_ | refine Sh.hvF m fun q_ _ hp_ => ?_))
      exact fin
    · rw [a]
      (repeat (first | refine Sh.sv m ?_ | refine Sh.hv ?_ | (refine Sh.sw m ?_; clear m; intro g_ w m) | (refine Sh.su m ?_; clear m; intro w m) | (refine Sh.suN m ?_; clear m; intro w m) | (refine Sh.hr m ?_; clear m; intro m) | refine Sh.rsS m ?_ | refine Sh.hd m ?_ | refine Sh.rsK [] m ?_ | refine CN_tt ?_ | refine CN_ff ?_ | refine GD_tt ?_ | refine GD_ff ?_ | refine GD_tf ?_ | refine GD_ft ?_ | refine CN_true (by first | omega | (simp; done) | (simp; omega)) ?_ | refine CN_false (by first | omega | (simp; done) | (simp; omega)) ?_ | refine GD_true (by first | omega | (simp; done) | (simp; omega)) ?_ | refine GD_true' (by first | omega | (simp; done) | (simp; omega)) ?_ | refine GD_false (by first | omega | (simp; done) | (simp; omega)) ?_ | refine GD_false' (by first | omega | (simp; done) | (simp; omega)) ?_ | refine Sh.crN m ?_ | refine Sh.cr1 m ?_ | refine Sh.svI m (by first | omega | decide) (by first | omega | (simp; done) | (simp; omega)) fun q_ _ hp_ => ?_ | refine Sh.hvI m (by first | omega | decide) (by first | omega | (simp; done) | (simp; omega)) fun q_ _ hp_ => ?_ | refine Sh.svF m fun q_ _ hp_ => ?_ | refine Sh.hvF m fun q_ _ hp_ => ?_))
      exact fin
    · rw [a]
      (repeat (first | refine Sh.sv m ?_ | refine Sh.hv ?_ | (refine Sh.sw m ?_; clear m; intro g_ w m) | (refine Sh.su m ?_; clear m; intro w m) | (refine Sh.suN m ?_; clear m; intro w m) | (refine Sh.hr m ?_; clear m; intro m) | refine Sh.rsS m ?_ | refine Sh.hd m ?_ | refine Sh.rsK [] m ?_ | refine CN_tt ?_ | refine CN_ff ?_ | refine GD_tt ?_ | refine GD_ff ?_ | refine GD_tf ?_ | refine GD_ft ?_ | refine CN_true (by first | omega | (simp; done) | (simp; omega)) ?_ | refine CN_false (by first | omega | (simp; done) | (simp; omega)) ?_ | refine GD_true (by first | omega | (simp; done) | (simp; omega)) ?_ | refine GD_true' (by first | omega | (simp; done) | (simp; omega)) ?_ | refine GD_false (by first | omega | (simp; done) | (simp; omega)) ?_ | refine GD_false' (by first | omega | (simp; done) | (simp; omega)) ?_ | refine Sh.crN m ?_ | refine Sh.cr1 m ?_ | refine Sh.svI m (by first | omega | decide) (by first | omega | (simp; done) | (simp; omega)) fun q_ _ hp_ => ?_ | refine Sh.hvI m (by first | omega | decide) (by first | omega | (simp; done) | (simp; omega)) fun q_ _ hp_ => ?_ | refine Sh.svF m fun q_ _ hp_ => ?_ | refine Sh.hvF m fun q_ _ hp_ => ?_))
      exact fin
  · (repeat (first | refine Sh.sv m ?_ | refine Sh.hv ?_ | (refine Sh.sw m ?_; clear m; intro g_ w m) | (refine Sh.su m ?_; clear m; intro w m) | (refine Sh.suN m ?_; clear m; intro w m) | (refine Sh.hr m ?_; clear m; intro m) | refine Sh.rsS m ?_ | refine Sh.hd m ?_ | refine Sh.rsK [] m ?_ | refine CN_tt ?_ | refine CN_ff ?_ | refine GD_tt ?_ | refine GD_ff ?_ | refine GD_tf ?_ | refine GD_ft ?_ | refine CN_true (by first | omega | (simp; done) | (simp; omega)) ?_ | refine CN_false (by first | omega | (simp; done) | (simp; omega)) ?_ | refine GD_true (by first | omega | (simp; done) | (simp; omega)) ?_ | refine GD_true' (by first | omega | (simp; done) | (simp; omega)) ?_ | refine GD_false (by first | omega | (simp; done) | (simp; omega)) ?_ | refine GD_false' (by first | omega | (simp; done) | (simp; omega)) ?_ | refine Sh.crN m ?_ | refine Sh.cr1 m ?_ | refine Sh.svI m (by first | omega | decide) (by first | omega | (simp; done) | (simp; omega)) fun q_ _ hp_ => ?_ | refine Sh.hvI m (by first | omega | decide) (by first | omega | (simp; done) | (simp; omega)) fun q_ _ hp_ => ?_ | refine Sh.svF m fun q_ _ hp_ => ?_ | refine Sh.hvF m fun q_ _ hp_ => ?_))
    exact ⟨by trivial, m.chNo⟩

theorem ref_need (n : Nat) (hn : n ≤ 4611686018427387904) (w0 : World) : Ret Tryz.prog 175 #[.int .i64 n] w0 (.int .i64 (needN n)) := by
  have m := St.nil w0
  refine c175 ?_
  unfold s175
  (repeat (first | refine Sh.sv m ?_ | refine Sh.hv ?_ | (refine Sh.sw m ?_; clear m; intro g_ w m) | (refine Sh.su m ?_; clear m; intro w m) | (refine Sh.suN m ?_; clear m; intro w m) | (refine Sh.hr m ?_; clear m; intro m) | refine Sh.rsS m ?_ | refine Sh.hd m ?_ | refine Sh.rsK [] m ?_ | refine CN_tt ?_ | refine CN_ff ?_ | refine GD_tt ?_ | refine GD_ff ?_ | refine GD_tf ?_ | refine GD_ft ?_ | refine CN_true (by first | omega | (simp; done) | (simp; omega)) ?_ | refine CN_false (by first | omega | (simp; done) | (simp; omega)) ?_ | refine GD_true (by first | omega | (simp; done) | (simp; omega)) ?_ | refine GD_true' (by first | omega | (simp; done) | (simp; omega)) ?_ | refine GD_false (by first | omega | (simp; done) | (simp; omega)) ?_ | refine GD_false' (by first | omega | (simp; done) | (simp; omega)) ?_ | refine Sh.crN m ?_ | refine Sh.cr1 m ?_ | refine Sh.svI m (by first | omega | decide) (by first | omega | (simp; done) | (simp; omega)) fun q_ _ hp_ => ?_ | refine Sh.hvI m (by first | omega | decide) (by first | omega | (simp; done) | (simp; omega)) fun q_ _ hp_ => ?_ | refine Sh.svF m fun q_ _ hp_ => ?_ | refine Sh.hvF m fun q_ _ hp_ => ?_))
  refine JP_in ?_
  (repeat (first | refine Sh.sv m ?_ | refine Sh.hv ?_ | (refine Sh.sw m ?_; clear m; intro g_ w m) | (refine Sh.su m ?_; clear m; intro w m) | (refine Sh.suN m ?_; clear m; intro w m) | (refine Sh.hr m ?_; clear m; intro m) | refine Sh.rsS m ?_ | refine Sh.hd m ?_ | refine Sh.rsK [] m ?_ | refine CN_tt ?_ | refine CN_ff ?_ | refine GD_tt ?_ | refine GD_ff ?_ | refine GD_tf ?_ | refine GD_ft ?_ | refine CN_true (by first | omega | (simp; done) | (simp; omega)) ?_ | refine CN_false (by first | omega | (simp; done) | (simp; omega)) ?_ | refine GD_true (by first | omega | (simp; done) | (simp; omega)) ?_ | refine GD_true' (by first | omega | (simp; done) | (simp; omega)) ?_ | refine GD_false (by first | omega | (simp; done) | (simp; omega)) ?_ | refine GD_false' (by first | omega | (simp; done) | (simp; omega)) ?_ | refine Sh.crN m ?_ | refine Sh.cr1 m ?_ | refine Sh.svI m (by first | omega | decide) (by first | omega | (simp; done) | (simp; omega)) fun q_ _ hp_ => ?_ | refine Sh.hvI m (by first | omega | decide) (by first | omega | (simp; done) | (simp; omega)) fun q_ _ hp_ => ?_ | refine Sh.svF m fun q_ _ hp_ => ?_ | refine Sh.hvF m fun q_ _ hp_ => ?_))
  refine CN_split (fun h => ?_) (fun h => ?_)
  · (repeat (first | refine Sh.sv m ?_ | refine Sh.hv ?_ | (refine Sh.sw m ?_; clear m; intro g_ w m) | (refine Sh.su m ?_; clear m; intro w m) | (refine Sh.suN m ?_; clear m; intro w m) | (refine Sh.hr m ?_; clear m; intro m) | refine Sh.rsS m ?_ | refine Sh.hd m ?_ | refine Sh.rsK [] m ?_ | refine CN_tt ?_ | refine CN_ff ?_ | refine GD_tt ?_ | refine GD_ff ?_ | refine GD_tf ?_ | refine GD_ft ?_ | refine CN_true (by first | omega | (simp; done) | (simp; omega)) ?_ | refine CN_false (by first | omega | (simp; done) | (simp; omega)) ?_ | refine GD_true (by first | omega | (simp; done) | (simp; omega)) ?_ | refine GD_true' (by first | omega | (simp; done) | (simp; omega)) ?_ | refine GD_false (by first | omega | (simp; done) | (simp; omega)) ?_ | refine GD_false' (by first | omega | (simp; done) | (simp; omega)) ?_ | refine Sh.crN m ?_ | refine Sh.cr1 m ?_ | refine Sh.svI m (by first | omega | decide) (by first | omega | (simp; done) | (simp; omega)) fun q_ _ hp_ => ?_ | refine Sh.hvI m (by first | omega | decide) (by first | omega | (simp; done) | (simp; omega)) fun q_ _ hp_ => ?_ | refine Sh.svF m fun q_ _ hp_ => ?_ | refine Sh.hvF m fun q_ _ hp_ => ?_))
    refine ⟨rfl, fun _ => ?_⟩
    exact ⟨by show Value.int .i64 ((n : Int) / 256 + 1) = _; rw [needN, if_pos (by omega)]; congr 1, m.chNo⟩
  · refine ⟨rfl, fun _ => ?_⟩
    exact ⟨by show Value.int .i64 ((n : Int) / 256) = _; rw [needN, if_neg (by omega)]; congr 1, m.chNo⟩

section
variable {g : Nat} {v : Value} {room : Int} {fs : List File} {w0 : World}
theorem freeOf_lo {room : Int} {fs : List File} (hd : ∀ f ∈ fs, f.data.length ≤ 1000000) : ∀ (hr : -1000000000000 ≤ room), room - 4000 * fs.length ≤ freeOf room fs ∧ freeOf room fs ≤ room := by
  unfold freeOf
  intro hr
  clear hr
  induction fs generalizing room with
  | nil => simp
  | cons f fs ih =>
    have := ih (room := room - needN f.data.length) (fun g hg => hd g (List.mem_cons_of_mem _ hg))
    have hf := hd f List.mem_cons_self
    have : needN f.data.length ≤ 4000 := by unfold needN; split <;> omega
    simp only [List.foldl_cons, List.length_cons]
    omega
theorem ref_free (h : Mem w0 [rk g 63 [.int .i64 room, v], sl eRF v fs]) (hl : fs.length ≤ 1000) (hr : 0 ≤ room ∧ room ≤ 1000000) (hd : ∀ f ∈ fs, f.data.length ≤ 1000000) :
    Ret Tryz.prog 100 #[.pointer (some ⟨g, 0, none⟩)] w0 (.int .i64 (freeOf room fs)) := by
  have m := St.start h
  refine c100 ?_
  unfold s100
  (repeat (first | refine Sh.sv m ?_ | refine Sh.hv ?_ | (refine Sh.sw m ?_; clear m; intro g_ w m) | (refine Sh.su m ?_; clear m; intro w m) | (refine Sh.suN m ?_; clear m; intro w m) | (refine Sh.hr m ?_; clear m; intro m) | refine Sh.rsS m ?_ | refine Sh.hd m ?_ | refine Sh.rsK [] m ?_ | refine CN_tt ?_ | refine CN_ff ?_ | refine GD_tt ?_ | refine GD_ff ?_ | refine GD_tf ?_ | refine GD_ft ?_ | refine CN_true (by first | omega | (simp; done) | (simp; omega)) ?_ | refine CN_false (by first | omega | (simp; done) | (simp; omega)) ?_ | refine GD_true (by first | omega | (simp; done) | (simp; omega)) ?_ | refine GD_true' (by first | omega | (simp; done) | (simp; omega)) ?_ | refine GD_false (by first | omega | (simp; done) | (simp; omega)) ?_ | refine GD_false' (by first | omega | (simp; done) | (simp; omega)) ?_ | refine Sh.crN m ?_ | refine Sh.cr1 m ?_ | refine Sh.svI m (by first | omega | decide) (by first | omega | (simp; done) | (simp; omega)) fun q_ _ hp_ => ?_ | refine Sh.hvI m (by first | omega | decide) (by first | omega | (simp; done) | (simp; omega)) fun q_ _ hp_ => ?_ | refine Sh.svF m fun q_ _ hp_ => ?_ | refine Sh.hvF m fun q_ _ hp_ => ?_))
  refine LP_intro (fun us w => ∃ i : Nat, us = [.int .i64 (freeOf room (fs.take i)), .int .i64 i] ∧ i ≤ fs.length ∧ St w0 [rk g 63 [.int .i64 room, v], sl eRF v fs] w [rk g 63 [.int .i64 room, v], sl eRF v fs])
    (fun us _ => match us with | [_, .int _ t] => fs.length - t.toNat | _ => 0) ⟨0, rfl, Nat.zero_le _, m⟩ ?_
  clear m
  rintro us hus ζ w ⟨i, rfl, hi, m⟩
  unfold s100_l1
  simp only [List.getD_cons_zero, List.getD_cons_succ]
  by_cases hlt : i < fs.length
  · have hb := freeOf_lo (room := room) (fs := fs.take i) (fun f hf => hd f (List.mem_of_mem_take hf)) (by omega)
    have hi2 : (fs.take i).length = i := by rw [List.length_take]; omega
    have hf := hd fs[i] (List.getElem_mem hlt)
    have hn : needN fs[i].data.length ≤ 4000 := by unfold needN; split <;> omega
    (repeat (first | refine Sh.sv m ?_ | refine Sh.hv ?_ | (refine Sh.sw m ?_; clear m; intro g_ w m) | (refine Sh.su m ?_; clear m; intro w m) | (refine Sh.suN m ?_; clear m; intro w m) | (refine Sh.hr m ?_; clear m; intro m) | refine Sh.rsS m ?_ | refine Sh.hd m ?_ | refine Sh.rsK [] m ?_ | refine CN_tt ?_ | refine CN_ff ?_ | refine GD_tt ?_ | refine GD_ff ?_ | refine GD_tf ?_ | refine GD_ft ?_ | refine CN_true (by first | omega | (simp; done) | (simp; omega)) ?_ | refine CN_false (by first | omega | (simp; done) | (simp; omega)) ?_ | refine GD_true (by first | omega | (simp; done) | (simp; omega)) ?_ | refine GD_true' (by first | omega | (simp; done) | (simp; omega)) ?_ | refine GD_false (by first | omega | (simp; done) | (simp; omega)) ?_ | refine GD_false' (by first | omega | (simp; done) | (simp; omega)) ?_ | refine Sh.crN m ?_ | refine Sh.cr1 m ?_ | refine Sh.svI m (by first | omega | decide) (by first | omega | (simp; done) | (simp; omega)) fun q_ _ hp_ => ?_ | refine Sh.hvI m (by first | omega | decide) (by first | omega | (simp; done) | (simp; omega)) fun q_ _ hp_ => ?_ | refine Sh.svF m fun q_ _ hp_ => ?_ | refine Sh.hvF m fun q_ _ hp_ => ?_))
    simp only [Int.toNat_natCast]
    refine n175 (m.ret (ref_need _ (by omega) _) ?_); clear m; intro w m
    (repeat (first | refine Sh.sv m ?_ | refine Sh.hv ?_ | (refine Sh.sw m ?_; clear m; intro g_ w m) | (refine Sh.su m ?_; clear m; intro w m) | (refine Sh.suN m ?_; clear m; intro w m) | (refine Sh.hr m ?_; clear m; intro m) | refine Sh.rsS m ?_ | refine Sh.hd m ?_ | refine Sh.rsK [] m ?_ | refine CN_tt ?_ | refine CN_ff ?_ | refine GD_tt ?_ | refine GD_ff ?_ | refine GD_tf ?_ | refine GD_ft ?_ | refine CN_true (by first | omega | (simp; done) | (simp; omega)) ?_ | refine CN_false (by first | omega | (simp; done) | (simp; omega)) ?_ | refine GD_true (by first | omega | (simp; done) | (simp; omega)) ?_ | refine GD_true' (by first | omega | (simp; done) | (simp; omega)) ?_ | refine GD_false (by first | omega | (simp; done) | (simp; omega)) ?_ | refine GD_false' (by first | omega | (simp; done) | (simp; omega)) ?_ | refine Sh.crN m ?_ | refine Sh.cr1 m ?_ | refine Sh.svI m (by first | omega | decide) (by first | omega | (simp; done) | (simp; omega)) fun q_ _ hp_ => ?_ | refine Sh.hvI m (by first | omega | decide) (by first | omega | (simp; done) | (simp; omega)) fun q_ _ hp_ => ?_ | refine Sh.svF m fun q_ _ hp_ => ?_ | refine Sh.hvF m fun q_ _ hp_ => ?_))
    refine ⟨⟨i + 1, ?_, hlt, m⟩, ?_⟩
    · rw [List.take_succ_eq_append_getElem hlt, freeOf, freeOf, List.foldl_append]
      rfl
    · show fs.length - ((i : Int) + 1).toNat < fs.length - (i : Int).toNat
      omega
  · (repeat (first | refine Sh.sv m ?_ | refine Sh.hv ?_ | (refine Sh.sw m ?_; clear m; intro g_ w m) | (refine Sh.su m ?_; clear m; intro w m) | (refine Sh.suN m ?_; clear m; intro w m) | (refine Sh.hr m ?_; clear m; intro m) | refine Sh.rsS m ?_ | refine Sh.hd m ?_ | refine Sh.rsK [] m ?_ | refine CN_tt ?_ | refine CN_ff ?_ | refine GD_tt ?_ | refine GD_ff ?_ | refine GD_tf ?_ | refine GD_ft ?_ | refine CN_true (by first | omega | (simp; done) | (simp; omega)) ?_ | refine CN_false (by first | omega | (simp; done) | (simp; omega)) ?_ | refine GD_true (by first | omega | (simp; done) | (simp; omega)) ?_ | refine GD_true' (by first | omega | (simp; done) | (simp; omega)) ?_ | refine GD_false (by first | omega | (simp; done) | (simp; omega)) ?_ | refine GD_false' (by first | omega | (simp; done) | (simp; omega)) ?_ | refine Sh.crN m ?_ | refine Sh.cr1 m ?_ | refine Sh.svI m (by first | omega | decide) (by first | omega | (simp; done) | (simp; omega)) fun q_ _ hp_ => ?_ | refine Sh.hvI m (by first | omega | decide) (by first | omega | (simp; done) | (simp; omega)) fun q_ _ hp_ => ?_ | refine Sh.svF m fun q_ _ hp_ => ?_ | refine Sh.hvF m fun q_ _ hp_ => ?_))
    rw [List.take_of_length_le (by omega)]
    exact ⟨rfl, m.ch.mono fun _ _ h => by cases h⟩

def idxF (fs : List File) (n : List UInt8) : Int := match fs.findIdx? (fun f => decide (f.name = n)) with | some i => (i : Int) | none => -1
theorem idxF_none {fs : List File} {n : List UInt8} (h : findF fs n = none) : idxF fs n = -1 := by
  unfold findF at h
  unfold idxF
  simp only [Option.map_eq_none_iff, List.find?_eq_none, decide_eq_true_eq] at h
  have : fs.findIdx? (fun f => decide (f.name = n)) = none := by
    rw [List.findIdx?_eq_none_iff]; simpa using h
  rw [this]
theorem idxF_some {fs : List File} {n d : List UInt8} (h : findF fs n = some d) : ∃ (i : Nat) (hi : i < fs.length), idxF fs n = (i : Int) ∧ fs[i].data = d := by
  unfold findF at h
  unfold idxF
  induction fs with
  | nil => simp at h
  | cons f fs ih =>
    by_cases hf : f.name = n
    · refine ⟨0, by simp, ?_, ?_⟩
      · rw [List.findIdx?_cons]; simp [hf]
      · simp [List.find?_cons, hf] at h; simpa using h
    · rw [List.find?_cons_of_neg (by simpa using hf)] at h
      obtain ⟨i, hi, e1, e2⟩ := ih h
      refine ⟨i + 1, by simp; omega, ?_, by simpa using e2⟩
      rw [List.findIdx?_cons]
      simp only [hf, decide_false]
      revert e1
      cases fs.findIdx? (fun f => decide (f.name = n)) with
      | none => simp
      | some j => simp
theorem ref_idx {n : List UInt8} (h : Mem w0 [rk g 63 [.int .i64 room, v], sl eRF v fs]) (hl : fs.length ≤ 1000) :
    Ret Tryz.prog 173 #[.pointer (some ⟨g, 0, none⟩), str n] w0 (.int .i64 (idxF fs n)) := by
  have m := St.start h
  refine c173 ?_
  unfold s173
  refine LP_intro (fun us w => ∃ i : Nat, us = [.int .i64 i] ∧ i ≤ fs.length ∧ (∀ f ∈ fs.take i, f.name ≠ n) ∧ St w0 [rk g 63 [.int .i64 room, v], sl eRF v fs] w [rk g 63 [.int .i64 room, v], sl eRF v fs])
    (fun us _ => match us with | [.int _ t] => fs.length - t.toNat | _ => 0) ⟨0, rfl, Nat.zero_le _, by simp, m⟩ ?_
  clear m
  rintro us hus ζ w ⟨i, rfl, hi, hf, m⟩
  unfold s173_l1
  simp only [List.getD_cons_zero, List.getD_cons_succ]
  by_cases hlt : i < fs.length
  · (repeat (first | refine Sh.sv m ?_ | refine Sh.hv ?_ | (refine Sh.sw m ?_; clear m; intro g_ w m) | (refine Sh.su m ?_; clear m; intro w m) | (refine Sh.suN m ?_; clear m; intro w m) | (refine Sh.hr m ?_; clear m; intro m) | refine Sh.rsS m ?_ | refine Sh.hd m ?_ | refine Sh.rsK [] m ?_ | refine CN_tt ?_ | refine CN_ff ?_ | refine GD_tt ?_ | refine GD_ff ?_ | refine GD_tf ?_ | refine GD_ft ?_ | refine CN_true (by first | omega | (simp; done) | (simp; omega)) ?_ | refine CN_false (by first | omega | (simp; done) | (simp; omega)) ?_ | refine GD_true (by first | omega | (simp; done) | (simp; omega)) ?_ | refine GD_true' (by first | omega | (simp; done) | (simp; omega)) ?_ | refine GD_false (by first | omega | (simp; done) | (simp; omega)) ?_ | refine GD_false' (by first | omega | (simp; done) | (simp; omega)) ?_ | refine Sh.crN m ?_ | refine Sh.cr1 m ?_ | refine Sh.svI m (by first | omega | decide) (by first | omega | (simp; done) | (simp; omega)) fun q_ _ hp_ => ?_ | refine Sh.hvI m (by first | omega | decide) (by first | omega | (simp; done) | (simp; omega)) fun q_ _ hp_ => ?_ | refine Sh.svF m fun q_ _ hp_ => ?_ | refine Sh.hvF m fun q_ _ hp_ => ?_))
    simp only [Int.toNat_natCast]
    refine CN_split (fun h1 => ?_) (fun h1 => ?_)
    · refine ⟨?_, m.ch.mono fun _ _ h => by cases h⟩
      have : fs.findIdx? (fun f => decide (f.name = n)) = some i := by
        rw [List.findIdx?_eq_some_iff_getElem]
        refine ⟨hlt, by simpa using h1, fun j hj => ?_⟩
        have := hf (fs[j]'(by omega)) (List.mem_take_iff_getElem.2 ⟨j, by omega, rfl⟩)
        simpa using this
      unfold idxF
      rw [this]
    · (repeat (first | refine Sh.sv m ?_ | refine Sh.hv ?_ | (refine Sh.sw m ?_; clear m; intro g_ w m) | (refine Sh.su m ?_; clear m; intro w m) | (refine Sh.suN m ?_; clear m; intro w m) | (refine Sh.hr m ?_; clear m; intro m) | refine Sh.rsS m ?_ | refine Sh.hd m ?_ | refine Sh.rsK [] m ?_ | refine CN_tt ?_ | refine CN_ff ?_ | refine GD_tt ?_ | refine GD_ff ?_ | refine GD_tf ?_ | refine GD_ft ?_ | refine CN_true (by first | omega | (simp; done) | (simp; omega)) ?_ | refine CN_false (by first | omega | (simp; done) | (simp; omega)) ?_ | refine GD_true (by first | omega | (simp; done) | (simp; omega)) ?_ | refine GD_true' (by first | omega | (simp; done) | (simp; omega)) ?_ | refine GD_false (by first | omega | (simp; done) | (simp; omega)) ?_ | refine GD_false' (by first | omega | (simp; done) | (simp; omega)) ?_ | refine Sh.crN m ?_ | refine Sh.cr1 m ?_ | refine Sh.svI m (by first | omega | decide) (by first | omega | (simp; done) | (simp; omega)) fun q_ _ hp_ => ?_ | refine Sh.hvI m (by first | omega | decide) (by first | omega | (simp; done) | (simp; omega)) fun q_ _ hp_ => ?_ | refine Sh.svF m fun q_ _ hp_ => ?_ | refine Sh.hvF m fun q_ _ hp_ => ?_))
      refine ⟨⟨i + 1, rfl, hlt, fun f hf' => ?_, m⟩, ?_⟩
      · rw [List.take_succ_eq_append_getElem hlt] at hf'
        rcases List.mem_append.1 hf' with hf' | hf'
        · exact hf f hf'
        · cases List.mem_singleton.1 hf'; exact h1
      · show fs.length - ((i : Int) + 1).toNat < fs.length - (i : Int).toNat
        omega
  · (repeat (first | refine Sh.sv m ?_ | refine Sh.hv ?_ | (refine Sh.sw m ?_; clear m; intro g_ w m) | (refine Sh.su m ?_; clear m; intro w m) | (refine Sh.suN m ?_; clear m; intro w m) | (refine Sh.hr m ?_; clear m; intro m) | refine Sh.rsS m ?_ | refine Sh.hd m ?_ | refine Sh.rsK [] m ?_ | refine CN_tt ?_ | refine CN_ff ?_ | refine GD_tt ?_ | refine GD_ff ?_ | refine GD_tf ?_ | refine GD_ft ?_ | refine CN_true (by first | omega | (simp; done) | (simp; omega)) ?_ | refine CN_false (by first | omega | (simp; done) | (simp; omega)) ?_ | refine GD_true (by first | omega | (simp; done) | (simp; omega)) ?_ | refine GD_true' (by first | omega | (simp; done) | (simp; omega)) ?_ | refine GD_false (by first | omega | (simp; done) | (simp; omega)) ?_ | refine GD_false' (by first | omega | (simp; done) | (simp; omega)) ?_ | refine Sh.crN m ?_ | refine Sh.cr1 m ?_ | refine Sh.svI m (by first | omega | decide) (by first | omega | (simp; done) | (simp; omega)) fun q_ _ hp_ => ?_ | refine Sh.hvI m (by first | omega | decide) (by first | omega | (simp; done) | (simp; omega)) fun q_ _ hp_ => ?_ | refine Sh.svF m fun q_ _ hp_ => ?_ | refine Sh.hvF m fun q_ _ hp_ => ?_))
    rw [List.take_of_length_le (by omega)] at hf
    rw [idxF_none (findF_none hf)]
    exact ⟨by trivial, m.ch.mono fun _ _ h => by cases h⟩

theorem ref_with {name data : List UInt8} {gone : Bool} (h : Mem w0 [rk g 63 [.int .i64 room, v], sl eRF v fs]) (hl : fs.length ≤ 1000) :
    Calls Tryz.prog 174 #[.pointer (some ⟨g, 0, none⟩), str name, str data, .bool gone] w0 (retP fun r w' => ∃ g' v', r = .pointer (some ⟨g', 0, none⟩) ∧ St w0 [rk g 63 [.int .i64 room, v], sl eRF v fs] w' [rk g' 63 [.int .i64 room, v'], sl eRF v' (withF name data gone fs)]) := by
  have m := St.start h
  refine c174 ?_
  unfold s174
  (repeat (first | refine Sh.sv m ?_ | refine Sh.hv ?_ | (refine Sh.sw m ?_; clear m; intro g_ w m) | (refine Sh.su m ?_; clear m; intro w m) | (refine Sh.suN m ?_; clear m; intro w m) | (refine Sh.hr m ?_; clear m; intro m) | refine Sh.rsS m ?_ | refine Sh.hd m ?_ | refine Sh.rsK [] m ?_ | refine CN_tt ?_ | refine CN_ff ?_ | refine GD_tt ?_ | refine GD_ff ?_ | refine GD_tf ?_ | refine GD_ft ?_ | refine CN_true (by first | omega | (simp; done) | (simp; omega)) ?_ | refine CN_false (by first | omega | (simp; done) | (simp; omega)) ?_ | refine GD_true (by first | omega | (simp; done) | (simp; omega)) ?_ | refine GD_true' (by first | omega | (simp; done) | (simp; omega)) ?_ | refine GD_false (by first | omega | (simp; done) | (simp; omega)) ?_ | refine GD_false' (by first | omega | (simp; done) | (simp; omega)) ?_ | refine Sh.crN m ?_ | refine Sh.cr1 m ?_ | refine Sh.svI m (by first | omega | decide) (by first | omega | (simp; done) | (simp; omega)) fun q_ _ hp_ => ?_ | refine Sh.hvI m (by first | omega | decide) (by first | omega | (simp; done) | (simp; omega)) fun q_ _ hp_ => ?_ | refine Sh.svF m fun q_ _ hp_ => ?_ | refine Sh.hvF m fun q_ _ hp_ => ?_))
  obtain ⟨gs_, e_⟩ : ∃ x, x = g_ := ⟨_, rfl⟩
  subst e_
  have lw := withGo_len name data gone fs false
  replace m := m.nilOwn eRF
  refine LP_intro (fun us w => ∃ (u : Value) (i : Nat) (put : Bool) (acc : List File), us = [.bool put, .int .i64 i] ∧ i ≤ fs.length ∧ acc ++ withGo name data gone put (fs.drop i) = withF name data gone fs ∧
      St w0 [rk g 63 [.int .i64 room, v], sl eRF v fs] w [own eRF u acc, bk gs_ 63 [.int .i64 room, u], rk g 63 [.int .i64 room, v], sl eRF v fs])
    (fun us _ => match us with | [_, .int _ t] => fs.length - t.toNat | _ => 0) ⟨_, 0, false, [], rfl, Nat.zero_le _, rfl, m⟩ ?_
  clear m
  rintro us hus ζ w ⟨u, i, put, acc, rfl, hi, hacc, m⟩
  have iu := m.isl (v := u)
  have hal : acc.length ≤ 1001 := by
    have := congrArg List.length hacc
    unfold withF at this
    rw [List.length_append] at this
    omega
  unfold s174_l1
  simp only [List.getD_cons_zero, List.getD_cons_succ]
  have fin : ∀ (u : Value) (w : World) (L : List Fact), IsSl u → St w0 [rk g 63 [.int .i64 room, v], sl eRF v fs] w (own eRF u (withF name data gone fs) :: bk gs_ 63 [.int .i64 room, u] :: L) →
      ∃ g' v', Value.pointer (some ⟨gs_, 0, none⟩) = .pointer (some ⟨g', 0, none⟩) ∧ St w0 [rk g 63 [.int .i64 room, v], sl eRF v fs] w [rk g' 63 [.int .i64 room, v'], sl eRF v' (withF name data gone fs)] := fun u w L _ m => by
    replace m := m.pub u
    replace m := m.pubB gs_
    exact ⟨gs_, u, rfl, m.sub (by repeat (first | exact Frm.nil | (with_reducible exact Rem.dup) | (with_reducible exact Rem.here) | apply Frm.cons | apply Rem.there))⟩
  by_cases hlt : i < fs.length
  · rw [List.drop_eq_getElem_cons hlt, withGo] at hacc
    (repeat (first | refine Sh.sv m ?_ | refine Sh.hv ?_ | (refine Sh.sw m ?_; clear m; intro g_ w m) | (refine Sh.su m ?_; clear m; intro w m) | (refine Sh.suN m ?_; clear m; intro w m) | (refine Sh.hr m ?_; clear m; intro m) | refine Sh.rsS m ?_ | refine Sh.hd m ?_ | refine Sh.rsK [] m ?_ | refine CN_tt ?_ | refine CN_ff ?_ | refine GD_tt ?_ | refine GD_ff ?_ | refine GD_tf ?_ | refine GD_ft ?_ | refine CN_true (by first | omega | (simp; done) | (simp; omega)) ?_ | refine CN_false (by first | omega | (simp; done) | (simp; omega)) ?_ | refine GD_true (by first | omega | (simp; done) | (simp; omega)) ?_ | refine GD_true' (by first | omega | (simp; done) | (simp; omega)) ?_ | refine GD_false (by first | omega | (simp; done) | (simp; omega)) ?_ | refine GD_false' (by first | omega | (simp; done) | (simp; omega)) ?_ | refine Sh.crN m ?_ | refine Sh.cr1 m ?_ | refine Sh.svI m (by first | omega | decide) (by first | omega | (simp; done) | (simp; omega)) fun q_ _ hp_ => ?_ | refine Sh.hvI m (by first | omega | decide) (by first | omega | (simp; done) | (simp; omega)) fun q_ _ hp_ => ?_ | refine Sh.svF m fun q_ _ hp_ => ?_ | refine Sh.hvF m fun q_ _ hp_ => ?_))
    refine JP_in ?_
    (repeat (first | refine Sh.sv m ?_ | refine Sh.hv ?_ | (refine Sh.sw m ?_; clear m; intro g_ w m) | (refine Sh.su m ?_; clear m; intro w m) | (refine Sh.suN m ?_; clear m; intro w m) | (refine Sh.hr m ?_; clear m; intro m) | refine Sh.rsS m ?_ | refine Sh.hd m ?_ | refine Sh.rsK [] m ?_ | refine CN_tt ?_ | refine CN_ff ?_ | refine GD_tt ?_ | refine GD_ff ?_ | refine GD_tf ?_ | refine GD_ft ?_ | refine CN_true (by first | omega | (simp; done) | (simp; omega)) ?_ | refine CN_false (by first | omega | (simp; done) | (simp; omega)) ?_ | refine GD_true (by first | omega | (simp; done) | (simp; omega)) ?_ | refine GD_true' (by first | omega | (simp; done) | (simp; omega)) ?_ | refine GD_false (by first | omega | (simp; done) | (simp; omega)) ?_ | refine GD_false' (by first | omega | (simp; done) | (simp; omega)) ?_ | refine Sh.crN m ?_ | refine Sh.cr1 m ?_ | refine Sh.svI m (by first | omega | decide) (by first | omega | (simp; done) | (simp; omega)) fun q_ _ hp_ => ?_ | refine Sh.hvI m (by first | omega | decide) (by first | omega | (simp; done) | (simp; omega)) fun q_ _ hp_ => ?_ | refine Sh.svF m fun q_ _ hp_ => ?_ | refine Sh.hvF m fun q_ _ hp_ => ?_))
    simp only [Int.toNat_natCast] at m
    obtain ⟨gf_, e_⟩ : ∃ x, x = g_ := ⟨_, rfl⟩
    subst e_
    refine JP_cut (fun us w => ∃ (u' : Value) (put' : Bool) (acc' : List File), us = [.bool put'] ∧ IsSl u' ∧ acc'.length ≤ 1010 ∧ acc' ++ ((if fs[i].name = name then [] else [fs[i]]) ++ withGo name data gone put' (fs.drop (i + 1))) = withF name data gone fs ∧
      St w0 [rk g 63 [.int .i64 room, v], sl eRF v fs] w [own eRF u' acc', bk gf_ 64 fs[i].cells, bk gs_ 63 [.int .i64 room, u'], rk g 63 [.int .i64 room, v], sl eRF v fs]) ?_ ?_
    · by_cases hc : put = false ∧ gone = false ∧ Op.bytesLess fs[i].name name = false
      · rw [if_pos hc, ← List.append_assoc] at hacc
        obtain ⟨rfl, rfl, hlt'⟩ := hc
        (repeat (first | refine Sh.sv m ?_ | refine Sh.hv ?_ | (refine Sh.sw m ?_; clear m; intro g_ w m) | (refine Sh.su m ?_; clear m; intro w m) | (refine Sh.suN m ?_; clear m; intro w m) | (refine Sh.hr m ?_; clear m; intro m) | refine Sh.rsS m ?_ | refine Sh.hd m ?_ | refine Sh.rsK [] m ?_ | refine CN_tt ?_ | refine CN_ff ?_ | refine GD_tt ?_ | refine GD_ff ?_ | refine GD_tf ?_ | refine GD_ft ?_ | refine CN_true (by first | omega | (simp; done) | (simp; omega)) ?_ | refine CN_false (by first | omega | (simp; done) | (simp; omega)) ?_ | refine GD_true (by first | omega | (simp; done) | (simp; omega)) ?_ | refine GD_true' (by first | omega | (simp; done) | (simp; omega)) ?_ | refine GD_false (by first | omega | (simp; done) | (simp; omega)) ?_ | refine GD_false' (by first | omega | (simp; done) | (simp; omega)) ?_ | refine Sh.crN m ?_ | refine Sh.cr1 m ?_ | refine Sh.svI m (by first | omega | decide) (by first | omega | (simp; done) | (simp; omega)) fun q_ _ hp_ => ?_ | refine Sh.hvI m (by first | omega | decide) (by first | omega | (simp; done) | (simp; omega)) fun q_ _ hp_ => ?_ | refine Sh.svF m fun q_ _ hp_ => ?_ | refine Sh.hvF m fun q_ _ hp_ => ?_))
        rw [hlt']
        (repeat (first | refine Sh.sv m ?_ | refine Sh.hv ?_ | (refine Sh.sw m ?_; clear m; intro g_ w m) | (refine Sh.su m ?_; clear m; intro w m) | (refine Sh.suN m ?_; clear m; intro w m) | (refine Sh.hr m ?_; clear m; intro m) | refine Sh.rsS m ?_ | refine Sh.hd m ?_ | refine Sh.rsK [] m ?_ | refine CN_tt ?_ | refine CN_ff ?_ | refine GD_tt ?_ | refine GD_ff ?_ | refine GD_tf ?_ | refine GD_ft ?_ | refine CN_true (by first | omega | (simp; done) | (simp; omega)) ?_ | refine CN_false (by first | omega | (simp; done) | (simp; omega)) ?_ | refine GD_true (by first | omega | (simp; done) | (simp; omega)) ?_ | refine GD_true' (by first | omega | (simp; done) | (simp; omega)) ?_ | refine GD_false (by first | omega | (simp; done) | (simp; omega)) ?_ | refine GD_false' (by first | omega | (simp; done) | (simp; omega)) ?_ | refine Sh.crN m ?_ | refine Sh.cr1 m ?_ | refine Sh.svI m (by first | omega | decide) (by first | omega | (simp; done) | (simp; omega)) fun q_ _ hp_ => ?_ | refine Sh.hvI m (by first | omega | decide) (by first | omega | (simp; done) | (simp; omega)) fun q_ _ hp_ => ?_ | refine Sh.svF m fun q_ _ hp_ => ?_ | refine Sh.hvF m fun q_ _ hp_ => ?_))
        refine lits eRF [⟨name, data⟩] m [_] rfl rfl rfl (by simp) ?_; clear m; intro x1 w _ m
        refine ap m (by simp; omega) (by simp [maxLen]; omega) ?_; clear m; intro x2 w _ m
        (repeat (first | refine Sh.sv m ?_ | refine Sh.hv ?_ | (refine Sh.sw m ?_; clear m; intro g_ w m) | (refine Sh.su m ?_; clear m; intro w m) | (refine Sh.suN m ?_; clear m; intro w m) | (refine Sh.hr m ?_; clear m; intro m) | refine Sh.rsS m ?_ | refine Sh.hd m ?_ | refine Sh.rsK [] m ?_ | refine CN_tt ?_ | refine CN_ff ?_ | refine GD_tt ?_ | refine GD_ff ?_ | refine GD_tf ?_ | refine GD_ft ?_ | refine CN_true (by first | omega | (simp; done) | (simp; omega)) ?_ | refine CN_false (by first | omega | (simp; done) | (simp; omega)) ?_ | refine GD_true (by first | omega | (simp; done) | (simp; omega)) ?_ | refine GD_true' (by first | omega | (simp; done) | (simp; omega)) ?_ | refine GD_false (by first | omega | (simp; done) | (simp; omega)) ?_ | refine GD_false' (by first | omega | (simp; done) | (simp; omega)) ?_ | refine Sh.crN m ?_ | refine Sh.cr1 m ?_ | refine Sh.svI m (by first | omega | decide) (by first | omega | (simp; done) | (simp; omega)) fun q_ _ hp_ => ?_ | refine Sh.hvI m (by first | omega | decide) (by first | omega | (simp; done) | (simp; omega)) fun q_ _ hp_ => ?_ | refine Sh.svF m fun q_ _ hp_ => ?_ | refine Sh.hvF m fun q_ _ hp_ => ?_))
        exact ⟨x2, true, _, rfl, inferInstance, by simp; omega, hacc, m.sub (by repeat (first | exact Frm.nil | (with_reducible exact Rem.dup) | (with_reducible exact Rem.here) | apply Frm.cons | apply Rem.there))⟩
      · rw [if_neg hc] at hacc
        have out : ∀ w, St w0 [rk g 63 [.int .i64 room, v], sl eRF v fs] w [bk gf_ 64 fs[i].cells, own eRF u acc, bk gs_ 63 [.int .i64 room, u], rk g 63 [.int .i64 room, v], sl eRF v fs] → (∃ (u' : Value) (put' : Bool) (acc' : List File), [Value.bool put] = [.bool put'] ∧ IsSl u' ∧ acc'.length ≤ 1010 ∧ acc' ++ ((if fs[i].name = name then [] else [fs[i]]) ++ withGo name data gone put' (fs.drop (i + 1))) = withF name data gone fs ∧
            St w0 [rk g 63 [.int .i64 room, v], sl eRF v fs] w [own eRF u' acc', bk gf_ 64 fs[i].cells, bk gs_ 63 [.int .i64 room, u'], rk g 63 [.int .i64 room, v], sl eRF v fs]) :=
          fun w m => ⟨u, put, acc, rfl, iu, by omega, hacc, m.sub (by repeat (first | exact Frm.nil | (with_reducible exact Rem.dup) | (with_reducible exact Rem.here) | apply Frm.cons | apply Rem.there))⟩
        cases put with
        | true =>
          (repeat (first | refine Sh.sv m ?_ | refine Sh.hv ?_ | (refine Sh.sw m ?_; clear m; intro g_ w m) | (refine Sh.su m ?_; clear m; intro w m) | (refine Sh.suN m ?_; clear m; intro w m) | (refine Sh.hr m ?_; clear m; intro m) | refine Sh.rsS m ?_ | refine Sh.hd m ?_ | refine Sh.rsK [] m ?_ | refine CN_tt ?_ | refine CN_ff ?_ | refine GD_tt ?_ | refine GD_ff ?_ | refine GD_tf ?_ | refine GD_ft ?_ | refine CN_true (by first | omega | (simp; done) | (simp; omega)) ?_ | refine CN_false (by first | omega | (simp; done) | (simp; omega)) ?_ | refine GD_true (by first | omega | (simp; done) | (simp; omega)) ?_ | refine GD_true' (by first | omega | (simp; done) | (simp; omega)) ?_ | refine GD_false (by first | omega | (simp; done) | (simp; omega)) ?_ | refine GD_false' (by first | omega | (simp; done) | (simp; omega)) ?_ | refine Sh.crN m ?_ | refine Sh.cr1 m ?_ | refine Sh.svI m (by first | omega | decide) (by first | omega | (simp; done) | (simp; omega)) fun q_ _ hp_ => ?_ | refine Sh.hvI m (by first | omega | decide) (by first | omega | (simp; done) | (simp; omega)) fun q_ _ hp_ => ?_ | refine Sh.svF m fun q_ _ hp_ => ?_ | refine Sh.hvF m fun q_ _ hp_ => ?_))
          exact out _ m
        | false =>
          cases gone with
          | true =>
            (repeat (first | refine Sh.sv m ?_ | refine Sh.hv ?_ | (refine Sh.sw m ?_; clear m; intro g_ w m) | (refine Sh.su m ?_; clear m; intro w m) | (refine Sh.suN m ?_; clear m; intro w m) | (refine Sh.hr m ?_; clear m; intro m) | refine Sh.rsS m ?_ | refine Sh.hd m ?_ | refine Sh.rsK [] m ?_ | refine CN_tt ?_ | refine CN_ff ?_ | refine GD_tt ?_ | refine GD_ff ?_ | refine GD_tf ?_ | refine GD_ft ?_ | refine CN_true (by first | omega | (simp; done) | (simp; omega)) ?_ | refine CN_false (by first | omega | (simp; done) | (simp; omega)) ?_ | refine GD_true (by first | omega | (simp; done) | (simp; omega)) ?_ | refine GD_true' (by first | omega | (simp; done) | (simp; omega)) ?_ | refine GD_false (by first | omega | (simp; done) | (simp; omega)) ?_ | refine GD_false' (by first | omega | (simp; done) | (simp; omega)) ?_ | refine Sh.crN m ?_ | refine Sh.cr1 m ?_ | refine Sh.svI m (by first | omega | decide) (by first | omega | (simp; done) | (simp; omega)) fun q_ _ hp_ => ?_ | refine Sh.hvI m (by first | omega | decide) (by first | omega | (simp; done) | (simp; omega)) fun q_ _ hp_ => ?_ | refine Sh.svF m fun q_ _ hp_ => ?_ | refine Sh.hvF m fun q_ _ hp_ => ?_))
            exact out _ m
          | false =>
            have : Op.bytesLess fs[i].name name = true := by simpa using hc
            (repeat (first | refine Sh.sv m ?_ | refine Sh.hv ?_ | (refine Sh.sw m ?_; clear m; intro g_ w m) | (refine Sh.su m ?_; clear m; intro w m) | (refine Sh.suN m ?_; clear m; intro w m) | (refine Sh.hr m ?_; clear m; intro m) | refine Sh.rsS m ?_ | refine Sh.hd m ?_ | refine Sh.rsK [] m ?_ | refine CN_tt ?_ | refine CN_ff ?_ | refine GD_tt ?_ | refine GD_ff ?_ | refine GD_tf ?_ | refine GD_ft ?_ | refine CN_true (by first | omega | (simp; done) | (simp; omega)) ?_ | refine CN_false (by first | omega | (simp; done) | (simp; omega)) ?_ | refine GD_true (by first | omega | (simp; done) | (simp; omega)) ?_ | refine GD_true' (by first | omega | (simp; done) | (simp; omega)) ?_ | refine GD_false (by first | omega | (simp; done) | (simp; omega)) ?_ | refine GD_false' (by first | omega | (simp; done) | (simp; omega)) ?_ | refine Sh.crN m ?_ | refine Sh.cr1 m ?_ | refine Sh.svI m (by first | omega | decide) (by first | omega | (simp; done) | (simp; omega)) fun q_ _ hp_ => ?_ | refine Sh.hvI m (by first | omega | decide) (by first | omega | (simp; done) | (simp; omega)) fun q_ _ hp_ => ?_ | refine Sh.svF m fun q_ _ hp_ => ?_ | refine Sh.hvF m fun q_ _ hp_ => ?_))
            rw [this]
            (repeat (first | refine Sh.sv m ?_ | refine Sh.hv ?_ | (refine Sh.sw m ?_; clear m; intro g_ w m) | (refine Sh.su m ?_; clear m; intro w m) | (refine Sh.suN m ?_; clear m; intro w m) | (refine Sh.hr m ?_; clear m; intro m) | refine Sh.rsS m ?_ | refine Sh.hd m ?_ | refine Sh.rsK [] m ?_ | refine CN_tt ?_ | refine CN_ff ?_ | refine GD_tt ?_ | refine GD_ff ?_ | refine GD_tf ?_ | refine GD_ft ?_ | refine CN_true (by first | omega | (simp; done) | (simp; omega)) ?_ | refine CN_false (by first | omega | (simp; done) | (simp; omega)) ?_ | refine GD_true (by first | omega | (simp; done) | (simp; omega)) ?_ | refine GD_true' (by first | omega | (simp; done) | (simp; omega)) ?_ | refine GD_false (by first | omega | (simp; done) | (simp; omega)) ?_ | refine GD_false' (by first | omega | (simp; done) | (simp; omega)) ?_ | refine Sh.crN m ?_ | refine Sh.cr1 m ?_ | refine Sh.svI m (by first | omega | decide) (by first | omega | (simp; done) | (simp; omega)) fun q_ _ hp_ => ?_ | refine Sh.hvI m (by first | omega | decide) (by first | omega | (simp; done) | (simp; omega)) fun q_ _ hp_ => ?_ | refine Sh.svF m fun q_ _ hp_ => ?_ | refine Sh.hvF m fun q_ _ hp_ => ?_))
            exact out _ m
    clear m
    rintro us hus ζ w ⟨u', put', acc', rfl, iu', hal', hacc', m⟩
    unfold s174_j1
    simp only [List.getD_cons_zero, List.getD_cons_succ]
    (repeat (first | refine Sh.sv m ?_ | refine Sh.hv ?_ | (refine Sh.sw m ?_; clear m; intro g_ w m) | (refine Sh.su m ?_; clear m; intro w m) | (refine Sh.suN m ?_; clear m; intro w m) | (refine Sh.hr m ?_; clear m; intro m) | refine Sh.rsS m ?_ | refine Sh.hd m ?_ | refine Sh.rsK [] m ?_ | refine CN_tt ?_ | refine CN_ff ?_ | refine GD_tt ?_ | refine GD_ff ?_ | refine GD_tf ?_ | refine GD_ft ?_ | refine CN_true (by first | omega | (simp; done) | (simp; omega)) ?_ | refine CN_false (by first | omega | (simp; done) | (simp; omega)) ?_ | refine GD_true (by first | omega | (simp; done) | (simp; omega)) ?_ | refine GD_true' (by first | omega | (simp; done) | (simp; omega)) ?_ | refine GD_false (by first | omega | (simp; done) | (simp; omega)) ?_ | refine GD_false' (by first | omega | (simp; done) | (simp; omega)) ?_ | refine Sh.crN m ?_ | refine Sh.cr1 m ?_ | refine Sh.svI m (by first | omega | decide) (by first | omega | (simp; done) | (simp; omega)) fun q_ _ hp_ => ?_ | refine Sh.hvI m (by first | omega | decide) (by first | omega | (simp; done) | (simp; omega)) fun q_ _ hp_ => ?_ | refine Sh.svF m fun q_ _ hp_ => ?_ | refine Sh.hvF m fun q_ _ hp_ => ?_))
    have nxt : ∀ (u2 : Value) (acc2 : List File) (w : World), acc2 ++ withGo name data gone put' (fs.drop (i + 1)) = withF name data gone fs →
        St w0 [rk g 63 [.int .i64 room, v], sl eRF v fs] w [own eRF u2 acc2, bk gs_ 63 [.int .i64 room, u2], rk g 63 [.int .i64 room, v], sl eRF v fs] → 
        (∃ (u : Value) (j : Nat) (put : Bool) (acc : List File), [Value.bool put', .int .i64 ((i : Int) + 1)] = [.bool put, .int .i64 j] ∧ j ≤ fs.length ∧ acc ++ withGo name data gone put (fs.drop j) = withF name data gone fs ∧
      St w0 [rk g 63 [.int .i64 room, v], sl eRF v fs] w [own eRF u acc, bk gs_ 63 [.int .i64 room, u], rk g 63 [.int .i64 room, v], sl eRF v fs]) ∧ fs.length - ((i : Int) + 1).toNat < fs.length - i := fun u2 acc2 w h m => ⟨⟨u2, i + 1, put', acc2, rfl, hlt, h, m⟩, by omega⟩
    refine CN_split (fun h1 => ?_) (fun h1 => ?_)
    · rw [if_neg h1, ← List.append_assoc] at hacc'
      (repeat (first | refine Sh.sv m ?_ | refine Sh.hv ?_ | (refine Sh.sw m ?_; clear m; intro g_ w m) | (refine Sh.su m ?_; clear m; intro w m) | (refine Sh.suN m ?_; clear m; intro w m) | (refine Sh.hr m ?_; clear m; intro m) | refine Sh.rsS m ?_ | refine Sh.hd m ?_ | refine Sh.rsK [] m ?_ | refine CN_tt ?_ | refine CN_ff ?_ | refine GD_tt ?_ | refine GD_ff ?_ | refine GD_tf ?_ | refine GD_ft ?_ | refine CN_true (by first | omega | (simp; done) | (simp; omega)) ?_ | refine CN_false (by first | omega | (simp; done) | (simp; omega)) ?_ | refine GD_true (by first | omega | (simp; done) | (simp; omega)) ?_ | refine GD_true' (by first | omega | (simp; done) | (simp; omega)) ?_ | refine GD_false (by first | omega | (simp; done) | (simp; omega)) ?_ | refine GD_false' (by first | omega | (simp; done) | (simp; omega)) ?_ | refine Sh.crN m ?_ | refine Sh.cr1 m ?_ | refine Sh.svI m (by first | omega | decide) (by first | omega | (simp; done) | (simp; omega)) fun q_ _ hp_ => ?_ | refine Sh.hvI m (by first | omega | decide) (by first | omega | (simp; done) | (simp; omega)) fun q_ _ hp_ => ?_ | refine Sh.svF m fun q_ _ hp_ => ?_ | refine Sh.hvF m fun q_ _ hp_ => ?_))
      refine lits eRF [fs[i]] m [_] rfl rfl rfl (by simp) ?_; clear m; intro x1 w _ m
      (repeat (first | refine Sh.sv m ?_ | refine Sh.hv ?_ | (refine Sh.sw m ?_; clear m; intro g_ w m) | (refine Sh.su m ?_; clear m; intro w m) | (refine Sh.suN m ?_; clear m; intro w m) | (refine Sh.hr m ?_; clear m; intro m) | refine Sh.rsS m ?_ | refine Sh.hd m ?_ | refine Sh.rsK [] m ?_ | refine CN_tt ?_ | refine CN_ff ?_ | refine GD_tt ?_ | refine GD_ff ?_ | refine GD_tf ?_ | refine GD_ft ?_ | refine CN_true (by first | omega | (simp; done) | (simp; omega)) ?_ | refine CN_false (by first | omega | (simp; done) | (simp; omega)) ?_ | refine GD_true (by first | omega | (simp; done) | (simp; omega)) ?_ | refine GD_true' (by first | omega | (simp; done) | (simp; omega)) ?_ | refine GD_false (by first | omega | (simp; done) | (simp; omega)) ?_ | refine GD_false' (by first | omega | (simp; done) | (simp; omega)) ?_ | refine Sh.crN m ?_ | refine Sh.cr1 m ?_ | refine Sh.svI m (by first | omega | decide) (by first | omega | (simp; done) | (simp; omega)) fun q_ _ hp_ => ?_ | refine Sh.hvI m (by first | omega | decide) (by first | omega | (simp; done) | (simp; omega)) fun q_ _ hp_ => ?_ | refine Sh.svF m fun q_ _ hp_ => ?_ | refine Sh.hvF m fun q_ _ hp_ => ?_))
      refine ap m (by simp; omega) (by simp [maxLen]; omega) ?_; clear m; intro x2 w _ m
      (repeat (first | refine Sh.sv m ?_ | refine Sh.hv ?_ | (refine Sh.sw m ?_; clear m; intro g_ w m) | (refine Sh.su m ?_; clear m; intro w m) | (refine Sh.suN m ?_; clear m; intro w m) | (refine Sh.hr m ?_; clear m; intro m) | refine Sh.rsS m ?_ | refine Sh.hd m ?_ | refine Sh.rsK [] m ?_ | refine CN_tt ?_ | refine CN_ff ?_ | refine GD_tt ?_ | refine GD_ff ?_ | refine GD_tf ?_ | refine GD_ft ?_ | refine CN_true (by first | omega | (simp; done) | (simp; omega)) ?_ | refine CN_false (by first | omega | (simp; done) | (simp; omega)) ?_ | refine GD_true (by first | omega | (simp; done) | (simp; omega)) ?_ | refine GD_true' (by first | omega | (simp; done) | (simp; omega)) ?_ | refine GD_false (by first | omega | (simp; done) | (simp; omega)) ?_ | refine GD_false' (by first | omega | (simp; done) | (simp; omega)) ?_ | refine Sh.crN m ?_ | refine Sh.cr1 m ?_ | refine Sh.svI m (by first | omega | decide) (by first | omega | (simp; done) | (simp; omega)) fun q_ _ hp_ => ?_ | refine Sh.hvI m (by first | omega | decide) (by first | omega | (simp; done) | (simp; omega)) fun q_ _ hp_ => ?_ | refine Sh.svF m fun q_ _ hp_ => ?_ | refine Sh.hvF m fun q_ _ hp_ => ?_))
      refine ⟨rfl, fun _ => ?_⟩
      unfold s174_j2
      simp only [List.getD_cons_zero, List.getD_cons_succ]
      (repeat (first | refine Sh.sv m ?_ | refine Sh.hv ?_ | (refine Sh.sw m ?_; clear m; intro g_ w m) | (refine Sh.su m ?_; clear m; intro w m) | (refine Sh.suN m ?_; clear m; intro w m) | (refine Sh.hr m ?_; clear m; intro m) | refine Sh.rsS m ?_ | refine Sh.hd m ?_ | refine Sh.rsK [] m ?_ | refine CN_tt ?_ | refine CN_ff ?_ | refine GD_tt ?_ | refine GD_ff ?_ | refine GD_tf ?_ | refine GD_ft ?_ | refine CN_true (by first | omega | (simp; done) | (simp; omega)) ?_ | refine CN_false (by first | omega | (simp; done) | (simp; omega)) ?_ | refine GD_true (by first | omega | (simp; done) | (simp; omega)) ?_ | refine GD_true' (by first | omega | (simp; done) | (simp; omega)) ?_ | refine GD_false (by first | omega | (simp; done) | (simp; omega)) ?_ | refine GD_false' (by first | omega | (simp; done) | (simp; omega)) ?_ | refine Sh.crN m ?_ | refine Sh.cr1 m ?_ | refine Sh.svI m (by first | omega | decide) (by first | omega | (simp; done) | (simp; omega)) fun q_ _ hp_ => ?_ | refine Sh.hvI m (by first | omega | decide) (by first | omega | (simp; done) | (simp; omega)) fun q_ _ hp_ => ?_ | refine Sh.svF m fun q_ _ hp_ => ?_ | refine Sh.hvF m fun q_ _ hp_ => ?_))
      exact nxt x2 _ _ hacc' (m.sub (by repeat (first | exact Frm.nil | (with_reducible exact Rem.dup) | (with_reducible exact Rem.here) | apply Frm.cons | apply Rem.there)))
    · have h1' : fs[i].name = name := by simpa using h1
      rw [if_pos h1', List.nil_append] at hacc'
      refine ⟨rfl, fun _ => ?_⟩
      unfold s174_j2
      simp only [List.getD_cons_zero, List.getD_cons_succ]
      (repeat (first | refine Sh.sv m ?_ | refine Sh.hv ?_ | (refine Sh.sw m ?_; clear m; intro g_ w m) | (refine Sh.su m ?_; clear m; intro w m) | (refine Sh.suN m ?_; clear m; intro w m) | (refine Sh.hr m ?_; clear m; intro m) | refine Sh.rsS m ?_ | refine Sh.hd m ?_ | refine Sh.rsK [] m ?_ | refine CN_tt ?_ | refine CN_ff ?_ | refine GD_tt ?_ | refine GD_ff ?_ | refine GD_tf ?_ | refine GD_ft ?_ | refine CN_true (by first | omega | (simp; done) | (simp; omega)) ?_ | refine CN_false (by first | omega | (simp; done) | (simp; omega)) ?_ | refine GD_true (by first | omega | (simp; done) | (simp; omega)) ?_ | refine GD_true' (by first | omega | (simp; done) | (simp; omega)) ?_ | refine GD_false (by first | omega | (simp; done) | (simp; omega)) ?_ | refine GD_false' (by first | omega | (simp; done) | (simp; omega)) ?_ | refine Sh.crN m ?_ | refine Sh.cr1 m ?_ | refine Sh.svI m (by first | omega | decide) (by first | omega | (simp; done) | (simp; omega)) fun q_ _ hp_ => ?_ | refine Sh.hvI m (by first | omega | decide) (by first | omega | (simp; done) | (simp; omega)) fun q_ _ hp_ => ?_ | refine Sh.svF m fun q_ _ hp_ => ?_ | refine Sh.hvF m fun q_ _ hp_ => ?_))
      exact nxt u' _ _ hacc' (m.sub (by repeat (first | exact Frm.nil | (with_reducible exact Rem.dup) | (with_reducible exact Rem.here) | apply Frm.cons | apply Rem.there)))
  · rw [List.drop_eq_nil_of_le (by omega), withGo] at hacc
    have done_ : ∀ (u2 : Value) (w : World), IsSl u2 → St w0 [rk g 63 [.int .i64 room, v], sl eRF v fs] w [own eRF u2 (withF name data gone fs), bk gs_ 63 [.int .i64 room, u2], rk g 63 [.int .i64 room, v], sl eRF v fs] → _ := fun u2 w i2 m => fin u2 w _ i2 m
    (repeat (first | refine Sh.sv m ?_ | refine Sh.hv ?_ | (refine Sh.sw m ?_; clear m; intro g_ w m) | (refine Sh.su m ?_; clear m; intro w m) | (refine Sh.suN m ?_; clear m; intro w m) | (refine Sh.hr m ?_; clear m; intro m) | refine Sh.rsS m ?_ | refine Sh.hd m ?_ | refine Sh.rsK [] m ?_ | refine CN_tt ?_ | refine CN_ff ?_ | refine GD_tt ?_ | refine GD_ff ?_ | refine GD_tf ?_ | refine GD_ft ?_ | refine CN_true (by first | omega | (simp; done) | (simp; omega)) ?_ | refine CN_false (by first | omega | (simp; done) | (simp; omega)) ?_ | refine GD_true (by first | omega | (simp; done) | (simp; omega)) ?_ | refine GD_true' (by first | omega | (simp; done) | (simp; omega)) ?_ | refine GD_false (by first | omega | (simp; done) | (simp; omega)) ?_ | refine GD_false' (by first | omega | (simp; done) | (simp; omega)) ?_ | refine Sh.crN m ?_ | refine Sh.cr1 m ?_ | refine Sh.svI m (by first | omega | decide) (by first | omega | (simp; done) | (simp; omega)) fun q_ _ hp_ => ?_ | refine Sh.hvI m (by first | omega | decide) (by first | omega | (simp; done) | (simp; omega)) fun q_ _ hp_ => ?_ | refine Sh.svF m fun q_ _ hp_ => ?_ | refine Sh.hvF m fun q_ _ hp_ => ?_))
    refine JP_in ?_
    cases put with
    | true =>
      (repeat (first | refine Sh.sv m ?_ | refine Sh.hv ?_ | (refine Sh.sw m ?_; clear m; intro g_ w m) | (refine Sh.su m ?_; clear m; intro w m) | (refine Sh.suN m ?_; clear m; intro w m) | (refine Sh.hr m ?_; clear m; intro m) | refine Sh.rsS m ?_ | refine Sh.hd m ?_ | refine Sh.rsK [] m ?_ | refine CN_tt ?_ | refine CN_ff ?_ | refine GD_tt ?_ | refine GD_ff ?_ | refine GD_tf ?_ | refine GD_ft ?_ | refine CN_true (by first | omega | (simp; done) | (simp; omega)) ?_ | refine CN_false (by first | omega | (simp; done) | (simp; omega)) ?_ | refine GD_true (by first | omega | (simp; done) | (simp; omega)) ?_ | refine GD_true' (by first | omega | (simp; done) | (simp; omega)) ?_ | refine GD_false (by first | omega | (simp; done) | (simp; omega)) ?_ | refine GD_false' (by first | omega | (simp; done) | (simp; omega)) ?_ | refine Sh.crN m ?_ | refine Sh.cr1 m ?_ | refine Sh.svI m (by first | omega | decide) (by first | omega | (simp; done) | (simp; omega)) fun q_ _ hp_ => ?_ | refine Sh.hvI m (by first | omega | decide) (by first | omega | (simp; done) | (simp; omega)) fun q_ _ hp_ => ?_ | refine Sh.svF m fun q_ _ hp_ => ?_ | refine Sh.hvF m fun q_ _ hp_ => ?_))
      refine ⟨rfl, fun _ => ?_⟩
      unfold s174_j3
      rw [if_pos (by simp), List.append_nil] at hacc
      subst hacc
      exact fin u _ _ iu m
    | false =>
      cases gone with
      | true =>
        (repeat (first | refine Sh.sv m ?_ | refine Sh.hv ?_ | (refine Sh.sw m ?_; clear m; intro g_ w m) | (refine Sh.su m ?_; clear m; intro w m) | (refine Sh.suN m ?_; clear m; intro w m) | (refine Sh.hr m ?_; clear m; intro m) | refine Sh.rsS m ?_ | refine Sh.hd m ?_ | refine Sh.rsK [] m ?_ | refine CN_tt ?_ | refine CN_ff ?_ | refine GD_tt ?_ | refine GD_ff ?_ | refine GD_tf ?_ | refine GD_ft ?_ | refine CN_true (by first | omega | (simp; done) | (simp; omega)) ?_ | refine CN_false (by first | omega | (simp; done) | (simp; omega)) ?_ | refine GD_true (by first | omega | (simp; done) | (simp; omega)) ?_ | refine GD_true' (by first | omega | (simp; done) | (simp; omega)) ?_ | refine GD_false (by first | omega | (simp; done) | (simp; omega)) ?_ | refine GD_false' (by first | omega | (simp; done) | (simp; omega)) ?_ | refine Sh.crN m ?_ | refine Sh.cr1 m ?_ | refine Sh.svI m (by first | omega | decide) (by first | omega | (simp; done) | (simp; omega)) fun q_ _ hp_ => ?_ | refine Sh.hvI m (by first | omega | decide) (by first | omega | (simp; done) | (simp; omega)) fun q_ _ hp_ => ?_ | refine Sh.svF m fun q_ _ hp_ => ?_ | refine Sh.hvF m fun q_ _ hp_ => ?_))
        refine ⟨rfl, fun _ => ?_⟩
        unfold s174_j3
        rw [if_pos (by simp), List.append_nil] at hacc
        subst hacc
        exact fin u _ _ iu m
      | false =>
        rw [if_neg (by simp)] at hacc
        (repeat (first | refine Sh.sv m ?_ | refine Sh.hv ?_ | (refine Sh.sw m ?_; clear m; intro g_ w m) | (refine Sh.su m ?_; clear m; intro w m) | (refine Sh.suN m ?_; clear m; intro w m) | (refine Sh.hr m ?_; clear m; intro m) | refine Sh.rsS m ?_ | refine Sh.hd m ?_ | refine Sh.rsK [] m ?_ | refine CN_tt ?_ | refine CN_ff ?_ | refine GD_tt ?_ | refine GD_ff ?_ | refine GD_tf ?_ | refine GD_ft ?_ | refine CN_true (by first | omega | (simp; done) | (simp; omega)) ?_ | refine CN_false (by first | omega | (simp; done) | (simp; omega)) ?_ | refine GD_true (by first | omega | (simp; done) | (simp; omega)) ?_ | refine GD_true' (by first | omega | (simp; done) | (simp; omega)) ?_ | refine GD_false (by first | omega | (simp; done) | (simp; omega)) ?_ | refine GD_false' (by first | omega | (simp; done) | (simp; omega)) ?_ | refine Sh.crN m ?_ | refine Sh.cr1 m ?_ | refine Sh.svI m (by first | omega | decide) (by first | omega | (simp; done) | (simp; omega)) fun q_ _ hp_ => ?_ | refine Sh.hvI m (by first | omega | decide) (by first | omega | (simp; done) | (simp; omega)) fun q_ _ hp_ => ?_ | refine Sh.svF m fun q_ _ hp_ => ?_ | refine Sh.hvF m fun q_ _ hp_ => ?_))
        refine lits eRF [⟨name, data⟩] m [_] rfl rfl rfl (by simp) ?_; clear m; intro x1 w _ m
        refine ap m (by simp; omega) (by simp [maxLen]; omega) ?_; clear m; intro x2 w _ m
        (repeat (first | refine Sh.sv m ?_ | refine Sh.hv ?_ | (refine Sh.sw m ?_; clear m; intro g_ w m) | (refine Sh.su m ?_; clear m; intro w m) | (refine Sh.suN m ?_; clear m; intro w m) | (refine Sh.hr m ?_; clear m; intro m) | refine Sh.rsS m ?_ | refine Sh.hd m ?_ | refine Sh.rsK [] m ?_ | refine CN_tt ?_ | refine CN_ff ?_ | refine GD_tt ?_ | refine GD_ff ?_ | refine GD_tf ?_ | refine GD_ft ?_ | refine CN_true (by first | omega | (simp; done) | (simp; omega)) ?_ | refine CN_false (by first | omega | (simp; done) | (simp; omega)) ?_ | refine GD_true (by first | omega | (simp; done) | (simp; omega)) ?_ | refine GD_true' (by first | omega | (simp; done) | (simp; omega)) ?_ | refine GD_false (by first | omega | (simp; done) | (simp; omega)) ?_ | refine GD_false' (by first | omega | (simp; done) | (simp; omega)) ?_ | refine Sh.crN m ?_ | refine Sh.cr1 m ?_ | refine Sh.svI m (by first | omega | decide) (by first | omega | (simp; done) | (simp; omega)) fun q_ _ hp_ => ?_ | refine Sh.hvI m (by first | omega | decide) (by first | omega | (simp; done) | (simp; omega)) fun q_ _ hp_ => ?_ | refine Sh.svF m fun q_ _ hp_ => ?_ | refine Sh.hvF m fun q_ _ hp_ => ?_))
        refine ⟨rfl, fun _ => ?_⟩
        unfold s174_j3
        rw [hacc] at m
        replace m := m.sub (X := [own eRF x2 (withF name data false fs), bk gs_ 63 [.int .i64 room, x2]]) (by repeat (first | exact Frm.nil | (with_reducible exact Rem.dup) | (with_reducible exact Rem.here) | apply Frm.cons | apply Rem.there))
        exact fin x2 _ _ inferInstance m
end
end Go.Proofs.YtkdghnbogkbedaaGreatDoor
