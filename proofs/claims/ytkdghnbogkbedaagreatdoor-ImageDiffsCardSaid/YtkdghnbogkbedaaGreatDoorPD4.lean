/-
  ImageDiffs: for every input the law answers true, and its arguments read as they did. Conditions: the package-level tables hold what the program's text lays (the row's list, tied by the card). (Part 5 of 7.)
-/
import Derived.Test.YtkdghnbogkbedaaGreatDoorProg
import Derived.Test.YtkdghnbogkbedaaGreatDoorPD3
set_option linter.unusedSimpArgs false
set_option linter.unusedVariables false

namespace Go.Sh
open Go Go.RowKit
def eFile : Elt File := ⟨55, 2, File.cells, fun _ => rfl, File.ones⟩
instance {x : File} : EC eFile x x.cells := ⟨rfl⟩
def eOp : Elt FileOp := ⟨150, 4, FileOp.cells, fun _ => rfl, FileOp.ones⟩
instance {x : FileOp} : EC eOp x x.cells := ⟨rfl⟩
instance {x : FileOp} {v : Int} : SetC x.cells 0 (.int .i64 v) ({ x with kind := v } : FileOp).cells := ⟨rfl, by simp [FileOp.cells]⟩
instance {x : FileOp} {v : List UInt8} : SetC x.cells 1 (str v) ({ x with name := v } : FileOp).cells := ⟨rfl, by simp [FileOp.cells]⟩
instance {x : FileOp} {v : List UInt8} : SetC x.cells 2 (str v) ({ x with data := v } : FileOp).cells := ⟨rfl, by simp [FileOp.cells]⟩
instance {x : FileOp} {v : Int} : SetC x.cells 3 (.int .i64 v) ({ x with n := v } : FileOp).cells := ⟨rfl, by simp [FileOp.cells]⟩
instance {x : File} {v : List UInt8} : SetC x.cells 0 (str v) ({ x with name := v } : File).cells := ⟨rfl, by simp [File.cells]⟩
instance {x : File} {v : List UInt8} : SetC x.cells 1 (str v) ({ x with data := v } : File).cells := ⟨rfl, by simp [File.cells]⟩

/-- Does a text begin with another one? -/
def isPre (p s : List UInt8) : Bool := decide (p.length ≤ s.length ∧ s.take p.length = p)
/-- What of a file must change. -/
def changeOf (name a b : List UInt8) (was is : Bool) : List FileOp :=
  (if was then [] else [⟨1, name, [], 0⟩]) ++
    (if is then (if isPre a b then (if b.drop a.length = [] then [] else [⟨2, name, b.drop a.length, 0⟩]) else if isPre b a then [⟨3, name, [], b.length⟩] else [⟨5, name, b, 0⟩])
      else if a = [] then [⟨4, name, [], 0⟩] else [⟨3, name, [], 0⟩, ⟨4, name, [], 0⟩])
theorem changeOf_len (name a b : List UInt8) (was is : Bool) : (changeOf name a b was is).length ≤ 3 := by
  unfold changeOf
  cases was <;> cases is <;> simp <;> (repeat' split) <;> simp
/-- What of files must change. -/
def diffOf : List File → List File → List FileOp
  | [], [] => []
  | o :: os, [] => changeOf o.name o.data [] true false ++ diffOf os []
  | [], n :: ns => changeOf n.name [] n.data false true ++ diffOf [] ns
  | o :: os, n :: ns =>
    if Op.bytesLess o.name n.name then changeOf o.name o.data [] true false ++ diffOf os (n :: ns)
    else if Op.bytesLess n.name o.name then changeOf n.name [] n.data false true ++ diffOf (o :: os) ns
    else changeOf n.name o.data n.data true true ++ diffOf os ns
termination_by o n => o.length + n.length
theorem diffOf_len (o n : List File) : (diffOf o n).length ≤ 3 * (o.length + n.length) := by
  fun_induction diffOf o n
  · simp
  all_goals
    simp only [List.length_append, List.length_cons] at *
    have := fun a b c d e => changeOf_len a b c d e
    grind
end Go.Sh
namespace Go.Proofs.YtkdghnbogkbedaaGreatDoor
open Go Go.Sh Go.RowKit
set_option maxRecDepth 100000
set_option maxHeartbeats 1000000
set_option linter.unusedSimpArgs false
set_option linter.unusedVariables false

theorem has_prefix (s p : List UInt8) (w0 : World) : Ret Tryz.prog 248 #[str s, str p] w0 (.bool (isPre p s)) := by
  refine c248 ?_
  unfold s248
  have m : St w0 [] w0 [] := St.nil w0
  (repeat (first | refine Sh.sv m ?_ | refine Sh.hv ?_ | (refine Sh.sw m ?_; clear m; intro g_ w m) | (refine Sh.su m ?_; clear m; intro w m) | (refine Sh.suN m ?_; clear m; intro w m) | (refine Sh.hr m ?_; clear m; intro m) | refine Sh.rsS m ?_ | refine Sh.hd m ?_ | refine Sh.rsK [] m ?_ | refine CN_tt ?_ | refine CN_ff ?_ | refine GD_tt ?_ | refine GD_ff ?_ | refine GD_tf ?_ | refine GD_ft ?_ | refine CN_true (by first | omega | (simp; done) | (simp; omega)) ?_ | refine CN_false (by first | omega | (simp; done) | (simp; omega)) ?_ | refine GD_true (by first | omega | (simp; done) | (simp; omega)) ?_ | refine GD_true' (by first | omega | (simp; done) | (simp; omega)) ?_ | refine GD_false (by first | omega | (simp; done) | (simp; omega)) ?_ | refine GD_false' (by first | omega | (simp; done) | (simp; omega)) ?_ | refine Sh.crN m ?_ | refine Sh.cr1 m ?_ | refine Sh.svI m (by first | omega | decide) (by first | omega | (simp; done) | (simp; omega)) fun q_ _ hp_ => ?_ | refine Sh.hvI m (by first | omega | decide) (by first | omega | (simp; done) | (simp; omega)) fun q_ _ hp_ => ?_ | refine Sh.svF m fun q_ _ hp_ => ?_ | refine Sh.hvF m fun q_ _ hp_ => ?_))
  refine GD_split (fun h => ?_) (fun h => ?_)
  · (repeat (first | refine Sh.sv m ?_ | refine Sh.hv ?_ | (refine Sh.sw m ?_; clear m; intro g_ w m) | (refine Sh.su m ?_; clear m; intro w m) | (refine Sh.suN m ?_; clear m; intro w m) | (refine Sh.hr m ?_; clear m; intro m) | refine Sh.rsS m ?_ | refine Sh.hd m ?_ | refine Sh.rsK [] m ?_ | refine CN_tt ?_ | refine CN_ff ?_ | refine GD_tt ?_ | refine GD_ff ?_ | refine GD_tf ?_ | refine GD_ft ?_ | refine CN_true (by first | omega | (simp; done) | (simp; omega)) ?_ | refine CN_false (by first | omega | (simp; done) | (simp; omega)) ?_ | refine GD_true (by first | omega | (simp; done) | (simp; omega)) ?_ | refine GD_true' (by first | omega | (simp; done) | (simp; omega)) ?_ | refine GD_false (by first | omega | (simp; done) | (simp; omega)) ?_ | refine GD_false' (by first | omega | (simp; done) | (simp; omega)) ?_ | refine Sh.crN m ?_ | refine Sh.cr1 m ?_ | refine Sh.svI m (by first | omega | decide) (by first | omega | (simp; done) | (simp; omega)) fun q_ _ hp_ => ?_ | refine Sh.hvI m (by first | omega | decide) (by first | omega | (simp; done) | (simp; omega)) fun q_ _ hp_ => ?_ | refine Sh.svF m fun q_ _ hp_ => ?_ | refine Sh.hvF m fun q_ _ hp_ => ?_))
    exact ⟨by simp [isPre]; omega, m.chNo⟩
  · exact ⟨by simp [isPre]; omega, m.chNo⟩
theorem strings_hasPrefix (s p : List UInt8) (w0 : World) : Ret Tryz.prog 171 #[str s, str p] w0 (.bool (isPre p s)) := by
  refine c171 ?_
  unfold s171
  exact n248 ((has_prefix s p w0).use fun w h => ⟨rfl, h⟩)
theorem cut_prefix (s p : List UInt8) (w0 : World) : Ret Tryz.prog 247 #[str s, str p] w0 (.tuple #[str (if isPre p s then s.drop p.length else s), .bool (isPre p s)]) := by
  refine c247 ?_
  unfold s247
  have m : St w0 [] w0 [] := St.nil w0
  refine n248 (m.ret (has_prefix s p w0) ?_); clear m; intro w m
  have hl : isPre p s = true → p.length ≤ s.length := fun h => by simp [isPre] at h; exact h.1
  cases h : isPre p s with
  | true =>
    have := hl h
    (repeat (first | refine Sh.sv m ?_ | refine Sh.hv ?_ | (refine Sh.sw m ?_; clear m; intro g_ w m) | (refine Sh.su m ?_; clear m; intro w m) | (refine Sh.suN m ?_; clear m; intro w m) | (refine Sh.hr m ?_; clear m; intro m) | refine Sh.rsS m ?_ | refine Sh.hd m ?_ | refine Sh.rsK [] m ?_ | refine CN_tt ?_ | refine CN_ff ?_ | refine GD_tt ?_ | refine GD_ff ?_ | refine GD_tf ?_ | refine GD_ft ?_ | refine CN_true (by first | omega | (simp; done) | (simp; omega)) ?_ | refine CN_false (by first | omega | (simp; done) | (simp; omega)) ?_ | refine GD_true (by first | omega | (simp; done) | (simp; omega)) ?_ | refine GD_true' (by first | omega | (simp; done) | (simp; omega)) ?_ | refine GD_false (by first | omega | (simp; done) | (simp; omega)) ?_ | refine GD_false' (by first | omega | (simp; done) | (simp; omega)) ?_ | refine Sh.crN m ?_ | refine Sh.cr1 m ?_ | refine Sh.svI m (by first | omega | decide) (by first | omega | (simp; done) | (simp; omega)) fun q_ _ hp_ => ?_ | refine Sh.hvI m (by first | omega | decide) (by first | omega | (simp; done) | (simp; omega)) fun q_ _ hp_ => ?_ | refine Sh.svF m fun q_ _ hp_ => ?_ | refine Sh.hvF m fun q_ _ hp_ => ?_))
    exact ⟨by simp, m.chNo⟩
  | false =>
    (repeat (first | refine Sh.sv m ?_ | refine Sh.hv ?_ | (refine Sh.sw m ?_; clear m; intro g_ w m) | (refine Sh.su m ?_; clear m; intro w m) | (refine Sh.suN m ?_; clear m; intro w m) | (refine Sh.hr m ?_; clear m; intro m) | refine Sh.rsS m ?_ | refine Sh.hd m ?_ | refine Sh.rsK [] m ?_ | refine CN_tt ?_ | refine CN_ff ?_ | refine GD_tt ?_ | refine GD_ff ?_ | refine GD_tf ?_ | refine GD_ft ?_ | refine CN_true (by first | omega | (simp; done) | (simp; omega)) ?_ | refine CN_false (by first | omega | (simp; done) | (simp; omega)) ?_ | refine GD_true (by first | omega | (simp; done) | (simp; omega)) ?_ | refine GD_true' (by first | omega | (simp; done) | (simp; omega)) ?_ | refine GD_false (by first | omega | (simp; done) | (simp; omega)) ?_ | refine GD_false' (by first | omega | (simp; done) | (simp; omega)) ?_ | refine Sh.crN m ?_ | refine Sh.cr1 m ?_ | refine Sh.svI m (by first | omega | decide) (by first | omega | (simp; done) | (simp; omega)) fun q_ _ hp_ => ?_ | refine Sh.hvI m (by first | omega | decide) (by first | omega | (simp; done) | (simp; omega)) fun q_ _ hp_ => ?_ | refine Sh.svF m fun q_ _ hp_ => ?_ | refine Sh.hvF m fun q_ _ hp_ => ?_))
    exact ⟨by simp, m.chNo⟩
theorem strings_cutPrefix (s p : List UInt8) (w0 : World) : Ret Tryz.prog 170 #[str s, str p] w0 (.tuple #[str (if isPre p s then s.drop p.length else s), .bool (isPre p s)]) := by
  refine c170 ?_
  unfold s170
  have m : St w0 [] w0 [] := St.nil w0
  refine n247 (m.ret (cut_prefix s p w0) ?_); clear m; intro w m
  (repeat (first | refine Sh.sv m ?_ | refine Sh.hv ?_ | (refine Sh.sw m ?_; clear m; intro g_ w m) | (refine Sh.su m ?_; clear m; intro w m) | (refine Sh.suN m ?_; clear m; intro w m) | (refine Sh.hr m ?_; clear m; intro m) | refine Sh.rsS m ?_ | refine Sh.hd m ?_ | refine Sh.rsK [] m ?_ | refine CN_tt ?_ | refine CN_ff ?_ | refine GD_tt ?_ | refine GD_ff ?_ | refine GD_tf ?_ | refine GD_ft ?_ | refine CN_true (by first | omega | (simp; done) | (simp; omega)) ?_ | refine CN_false (by first | omega | (simp; done) | (simp; omega)) ?_ | refine GD_true (by first | omega | (simp; done) | (simp; omega)) ?_ | refine GD_true' (by first | omega | (simp; done) | (simp; omega)) ?_ | refine GD_false (by first | omega | (simp; done) | (simp; omega)) ?_ | refine GD_false' (by first | omega | (simp; done) | (simp; omega)) ?_ | refine Sh.crN m ?_ | refine Sh.cr1 m ?_ | refine Sh.svI m (by first | omega | decide) (by first | omega | (simp; done) | (simp; omega)) fun q_ _ hp_ => ?_ | refine Sh.hvI m (by first | omega | decide) (by first | omega | (simp; done) | (simp; omega)) fun q_ _ hp_ => ?_ | refine Sh.svF m fun q_ _ hp_ => ?_ | refine Sh.hvF m fun q_ _ hp_ => ?_))
  exact ⟨rfl, m.chNo⟩

theorem image_change (name a b : List UInt8) (was is : Bool) (w0 : World) (hb : b.length ≤ 4611686018427387904) :
    Calls Tryz.prog 96 #[str name, str a, str b, .bool was, .bool is] w0 (retP fun v w' => St w0 [] w' [own eOp v (changeOf name a b was is)]) := by
  refine c96 ?_
  unfold s96
  have m : St w0 [] w0 [] := St.nil w0
  refine JP_cut (fun us w => ∃ v, us = [v] ∧ St w0 [] w [own eOp v (if was then [] else [⟨1, name, [], 0⟩])]) ?_ ?_
  · cases was
    · (repeat (first | refine Sh.sv m ?_ | refine Sh.hv ?_ | (refine Sh.sw m ?_; clear m; intro g_ w m) | (refine Sh.su m ?_; clear m; intro w m) | (refine Sh.suN m ?_; clear m; intro w m) | (refine Sh.hr m ?_; clear m; intro m) | refine Sh.rsS m ?_ | refine Sh.hd m ?_ | refine Sh.rsK [] m ?_ | refine CN_tt ?_ | refine CN_ff ?_ | refine GD_tt ?_ | refine GD_ff ?_ | refine GD_tf ?_ | refine GD_ft ?_ | refine CN_true (by first | omega | (simp; done) | (simp; omega)) ?_ | refine CN_false (by first | omega | (simp; done) | (simp; omega)) ?_ | refine GD_true (by first | omega | (simp; done) | (simp; omega)) ?_ | refine GD_true' (by first | omega | (simp; done) | (simp; omega)) ?_ | refine GD_false (by first | omega | (simp; done) | (simp; omega)) ?_ | refine GD_false' (by first | omega | (simp; done) | (simp; omega)) ?_ | refine Sh.crN m ?_ | refine Sh.cr1 m ?_ | refine Sh.svI m (by first | omega | decide) (by first | omega | (simp; done) | (simp; omega)) fun q_ _ hp_ => ?_ | refine Sh.hvI m (by first | omega | decide) (by first | omega | (simp; done) | (simp; omega)) fun q_ _ hp_ => ?_ | refine Sh.svF m fun q_ _ hp_ => ?_ | refine Sh.hvF m fun q_ _ hp_ => ?_))
      refine lits eOp [⟨1, name, [], 0⟩] m [_] rfl rfl rfl (by simp) ?_; clear m; intro v1 w _ m
      replace m := m.nilOwn eOp
      refine ap m (by simp) (by simp [maxLen]) ?_; clear m; intro v2 w _ m
      have h := m.sub (X := [own eOp v2 _]) (by repeat (first | exact Frm.nil | (with_reducible exact Rem.here) | apply Frm.cons | apply Rem.there))
      exact ⟨v2, rfl, by simpa using h⟩
    · (repeat (first | refine Sh.sv m ?_ | refine Sh.hv ?_ | (refine Sh.sw m ?_; clear m; intro g_ w m) | (refine Sh.su m ?_; clear m; intro w m) | (refine Sh.suN m ?_; clear m; intro w m) | (refine Sh.hr m ?_; clear m; intro m) | refine Sh.rsS m ?_ | refine Sh.hd m ?_ | refine Sh.rsK [] m ?_ | refine CN_tt ?_ | refine CN_ff ?_ | refine GD_tt ?_ | refine GD_ff ?_ | refine GD_tf ?_ | refine GD_ft ?_ | refine CN_true (by first | omega | (simp; done) | (simp; omega)) ?_ | refine CN_false (by first | omega | (simp; done) | (simp; omega)) ?_ | refine GD_true (by first | omega | (simp; done) | (simp; omega)) ?_ | refine GD_true' (by first | omega | (simp; done) | (simp; omega)) ?_ | refine GD_false (by first | omega | (simp; done) | (simp; omega)) ?_ | refine GD_false' (by first | omega | (simp; done) | (simp; omega)) ?_ | refine Sh.crN m ?_ | refine Sh.cr1 m ?_ | refine Sh.svI m (by first | omega | decide) (by first | omega | (simp; done) | (simp; omega)) fun q_ _ hp_ => ?_ | refine Sh.hvI m (by first | omega | decide) (by first | omega | (simp; done) | (simp; omega)) fun q_ _ hp_ => ?_ | refine Sh.svF m fun q_ _ hp_ => ?_ | refine Sh.hvF m fun q_ _ hp_ => ?_))
      exact ⟨_, rfl, m.nilOwn eOp⟩
  clear m
  rintro us hus ζ w ⟨v, rfl, m⟩
  have := m.isl (v := v)
  unfold s96_j2
  simp only [List.getD_cons_zero, List.getD_cons_succ]
  refine n170 (m.ret (strings_cutPrefix b a _) ?_); clear m; intro w m
  (repeat (first | refine Sh.sv m ?_ | refine Sh.hv ?_ | (refine Sh.sw m ?_; clear m; intro g_ w m) | (refine Sh.su m ?_; clear m; intro w m) | (refine Sh.suN m ?_; clear m; intro w m) | (refine Sh.hr m ?_; clear m; intro m) | refine Sh.rsS m ?_ | refine Sh.hd m ?_ | refine Sh.rsK [] m ?_ | refine CN_tt ?_ | refine CN_ff ?_ | refine GD_tt ?_ | refine GD_ff ?_ | refine GD_tf ?_ | refine GD_ft ?_ | refine CN_true (by first | omega | (simp; done) | (simp; omega)) ?_ | refine CN_false (by first | omega | (simp; done) | (simp; omega)) ?_ | refine GD_true (by first | omega | (simp; done) | (simp; omega)) ?_ | refine GD_true' (by first | omega | (simp; done) | (simp; omega)) ?_ | refine GD_false (by first | omega | (simp; done) | (simp; omega)) ?_ | refine GD_false' (by first | omega | (simp; done) | (simp; omega)) ?_ | refine Sh.crN m ?_ | refine Sh.cr1 m ?_ | refine Sh.svI m (by first | omega | decide) (by first | omega | (simp; done) | (simp; omega)) fun q_ _ hp_ => ?_ | refine Sh.hvI m (by first | omega | decide) (by first | omega | (simp; done) | (simp; omega)) fun q_ _ hp_ => ?_ | refine Sh.svF m fun q_ _ hp_ => ?_ | refine Sh.hvF m fun q_ _ hp_ => ?_))
  cases is
  · refine JP_in ?_
    (repeat (first | refine Sh.sv m ?_ | refine Sh.hv ?_ | (refine Sh.sw m ?_; clear m; intro g_ w m) | (refine Sh.su m ?_; clear m; intro w m) | (refine Sh.suN m ?_; clear m; intro w m) | (refine Sh.hr m ?_; clear m; intro m) | refine Sh.rsS m ?_ | refine Sh.hd m ?_ | refine Sh.rsK [] m ?_ | refine CN_tt ?_ | refine CN_ff ?_ | refine GD_tt ?_ | refine GD_ff ?_ | refine GD_tf ?_ | refine GD_ft ?_ | refine CN_true (by first | omega | (simp; done) | (simp; omega)) ?_ | refine CN_false (by first | omega | (simp; done) | (simp; omega)) ?_ | refine GD_true (by first | omega | (simp; done) | (simp; omega)) ?_ | refine GD_true' (by first | omega | (simp; done) | (simp; omega)) ?_ | refine GD_false (by first | omega | (simp; done) | (simp; omega)) ?_ | refine GD_false' (by first | omega | (simp; done) | (simp; omega)) ?_ | refine Sh.crN m ?_ | refine Sh.cr1 m ?_ | refine Sh.svI m (by first | omega | decide) (by first | omega | (simp; done) | (simp; omega)) fun q_ _ hp_ => ?_ | refine Sh.hvI m (by first | omega | decide) (by first | omega | (simp; done) | (simp; omega)) fun q_ _ hp_ => ?_ | refine Sh.svF m fun q_ _ hp_ => ?_ | refine Sh.hvF m fun q_ _ hp_ => ?_))
    refine CN_split (fun h1 => ?_) (fun h1 => ?_)
    · subst h1
      (repeat (first | refine Sh.sv m ?_ | refine Sh.hv ?_ | (refine Sh.sw m ?_; clear m; intro g_ w m) | (refine Sh.su m ?_; clear m; intro w m) | (refine Sh.suN m ?_; clear m; intro w m) | (refine Sh.hr m ?_; clear m; intro m) | refine Sh.rsS m ?_ | refine Sh.hd m ?_ | refine Sh.rsK [] m ?_ | refine CN_tt ?_ | refine CN_ff ?_ | refine GD_tt ?_ | refine GD_ff ?_ | refine GD_tf ?_ | refine GD_ft ?_ | refine CN_true (by first | omega | (simp; done) | (simp; omega)) ?_ | refine CN_false (by first | omega | (simp; done) | (simp; omega)) ?_ | refine GD_true (by first | omega | (simp; done) | (simp; omega)) ?_ | refine GD_true' (by first | omega | (simp; done) | (simp; omega)) ?_ | refine GD_false (by first | omega | (simp; done) | (simp; omega)) ?_ | refine GD_false' (by first | omega | (simp; done) | (simp; omega)) ?_ | refine Sh.crN m ?_ | refine Sh.cr1 m ?_ | refine Sh.svI m (by first | omega | decide) (by first | omega | (simp; done) | (simp; omega)) fun q_ _ hp_ => ?_ | refine Sh.hvI m (by first | omega | decide) (by first | omega | (simp; done) | (simp; omega)) fun q_ _ hp_ => ?_ | refine Sh.svF m fun q_ _ hp_ => ?_ | refine Sh.hvF m fun q_ _ hp_ => ?_))
      refine lits eOp [⟨4, name, [], 0⟩] m [_] rfl rfl rfl (by simp) ?_; clear m; intro v1 w _ m
      refine ap m (by cases was <;> simp) (by cases was <;> simp [maxLen]) ?_; clear m; intro v2 w _ m
      refine ⟨rfl, fun _ => ?_⟩
      show St _ _ _ _
      have h := m.sub (X := [own eOp v2 _]) (by repeat (first | exact Frm.nil | (with_reducible exact Rem.here) | apply Frm.cons | apply Rem.there))
      simpa [changeOf, List.length_nil] using h
    · (repeat (first | refine Sh.sv m ?_ | refine Sh.hv ?_ | (refine Sh.sw m ?_; clear m; intro g_ w m) | (refine Sh.su m ?_; clear m; intro w m) | (refine Sh.suN m ?_; clear m; intro w m) | (refine Sh.hr m ?_; clear m; intro m) | refine Sh.rsS m ?_ | refine Sh.hd m ?_ | refine Sh.rsK [] m ?_ | refine CN_tt ?_ | refine CN_ff ?_ | refine GD_tt ?_ | refine GD_ff ?_ | refine GD_tf ?_ | refine GD_ft ?_ | refine CN_true (by first | omega | (simp; done) | (simp; omega)) ?_ | refine CN_false (by first | omega | (simp; done) | (simp; omega)) ?_ | refine GD_true (by first | omega | (simp; done) | (simp; omega)) ?_ | refine GD_true' (by first | omega | (simp; done) | (simp; omega)) ?_ | refine GD_false (by first | omega | (simp; done) | (simp; omega)) ?_ | refine GD_false' (by first | omega | (simp; done) | (simp; omega)) ?_ | refine Sh.crN m ?_ | refine Sh.cr1 m ?_ | refine Sh.svI m (by first | omega | decide) (by first | omega | (simp; done) | (simp; omega)) fun q_ _ hp_ => ?_ | refine Sh.hvI m (by first | omega | decide) (by first | omega | (simp; done) | (simp; omega)) fun q_ _ hp_ => ?_ | refine Sh.svF m fun q_ _ hp_ => ?_ | refine Sh.hvF m fun q_ _ hp_ => ?_))
      refine lits eOp [⟨3, name, [], 0⟩, ⟨4, name, [], 0⟩] m [_, _] rfl rfl rfl (by simp) ?_; clear m; intro v1 w _ m
      refine ap m (by cases was <;> simp) (by cases was <;> simp [maxLen]) ?_; clear m; intro v2 w _ m
      refine ⟨rfl, fun _ => ?_⟩
      show St _ _ _ _
      have h := m.sub (X := [own eOp v2 _]) (by repeat (first | exact Frm.nil | (with_reducible exact Rem.here) | apply Frm.cons | apply Rem.there))
      simpa [changeOf, h1] using h
  · refine JP_in ?_
    cases h1 : isPre a b with
    | true =>
      simp only [if_true]
      (repeat (first | refine Sh.sv m ?_ | refine Sh.hv ?_ | (refine Sh.sw m ?_; clear m; intro g_ w m) | (refine Sh.su m ?_; clear m; intro w m) | (refine Sh.suN m ?_; clear m; intro w m) | (refine Sh.hr m ?_; clear m; intro m) | refine Sh.rsS m ?_ | refine Sh.hd m ?_ | refine Sh.rsK [] m ?_ | refine CN_tt ?_ | refine CN_ff ?_ | refine GD_tt ?_ | refine GD_ff ?_ | refine GD_tf ?_ | refine GD_ft ?_ | refine CN_true (by first | omega | (simp; done) | (simp; omega)) ?_ | refine CN_false (by first | omega | (simp; done) | (simp; omega)) ?_ | refine GD_true (by first | omega | (simp; done) | (simp; omega)) ?_ | refine GD_true' (by first | omega | (simp; done) | (simp; omega)) ?_ | refine GD_false (by first | omega | (simp; done) | (simp; omega)) ?_ | refine GD_false' (by first | omega | (simp; done) | (simp; omega)) ?_ | refine Sh.crN m ?_ | refine Sh.cr1 m ?_ | refine Sh.svI m (by first | omega | decide) (by first | omega | (simp; done) | (simp; omega)) fun q_ _ hp_ => ?_ | refine Sh.hvI m (by first | omega | decide) (by first | omega | (simp; done) | (simp; omega)) fun q_ _ hp_ => ?_ | refine Sh.svF m fun q_ _ hp_ => ?_ | refine Sh.hvF m fun q_ _ hp_ => ?_))
      refine CN_split (fun h2 => ?_) (fun h2 => ?_)
      · refine ⟨rfl, fun _ => ?_⟩
        show St _ _ _ _
        simpa [changeOf, h1, h2] using m
      · (repeat (first | refine Sh.sv m ?_ | refine Sh.hv ?_ | (refine Sh.sw m ?_; clear m; intro g_ w m) | (refine Sh.su m ?_; clear m; intro w m) | (refine Sh.suN m ?_; clear m; intro w m) | (refine Sh.hr m ?_; clear m; intro m) | refine Sh.rsS m ?_ | refine Sh.hd m ?_ | refine Sh.rsK [] m ?_ | refine CN_tt ?_ | refine CN_ff ?_ | refine GD_tt ?_ | refine GD_ff ?_ | refine GD_tf ?_ | refine GD_ft ?_ | refine CN_true (by first | omega | (simp; done) | (simp; omega)) ?_ | refine CN_false (by first | omega | (simp; done) | (simp; omega)) ?_ | refine GD_true (by first | omega | (simp; done) | (simp; omega)) ?_ | refine GD_true' (by first | omega | (simp; done) | (simp; omega)) ?_ | refine GD_false (by first | omega | (simp; done) | (simp; omega)) ?_ | refine GD_false' (by first | omega | (simp; done) | (simp; omega)) ?_ | refine Sh.crN m ?_ | refine Sh.cr1 m ?_ | refine Sh.svI m (by first | omega | decide) (by first | omega | (simp; done) | (simp; omega)) fun q_ _ hp_ => ?_ | refine Sh.hvI m (by first | omega | decide) (by first | omega | (simp; done) | (simp; omega)) fun q_ _ hp_ => ?_ | refine Sh.svF m fun q_ _ hp_ => ?_ | refine Sh.hvF m fun q_ _ hp_ => ?_))
        refine lits eOp [⟨2, name, b.drop a.length, 0⟩] m [_] rfl rfl rfl (by simp) ?_; clear m; intro v1 w _ m
        refine ap m (by cases was <;> simp) (by cases was <;> simp [maxLen]) ?_; clear m; intro v2 w _ m
        refine ⟨rfl, fun _ => ?_⟩
        show St _ _ _ _
        have h := m.sub (X := [own eOp v2 _]) (by repeat (first | exact Frm.nil | (with_reducible exact Rem.here) | apply Frm.cons | apply Rem.there))
        simpa [changeOf, h1, h2] using h
    | false =>
      simp only [Bool.false_eq_true, if_false]
      (repeat (first | refine Sh.sv m ?_ | refine Sh.hv ?_ | (refine Sh.sw m ?_; clear m; intro g_ w m) | (refine Sh.su m ?_; clear m; intro w m) | (refine Sh.suN m ?_; clear m; intro w m) | (refine Sh.hr m ?_; clear m; intro m) | refine Sh.rsS m ?_ | refine Sh.hd m ?_ | refine Sh.rsK [] m ?_ | refine CN_tt ?_ | refine CN_ff ?_ | refine GD_tt ?_ | refine GD_ff ?_ | refine GD_tf ?_ | refine GD_ft ?_ | refine CN_true (by first | omega | (simp; done) | (simp; omega)) ?_ | refine CN_false (by first | omega | (simp; done) | (simp; omega)) ?_ | refine GD_true (by first | omega | (simp; done) | (simp; omega)) ?_ | refine GD_true' (by first | omega | (simp; done) | (simp; omega)) ?_ | refine GD_false (by first | omega | (simp; done) | (simp; omega)) ?_ | refine GD_false' (by first | omega | (simp; done) | (simp; omega)) ?_ | refine Sh.crN m ?_ | refine Sh.cr1 m ?_ | refine Sh.svI m (by first | omega | decide) (by first | omega | (simp; done) | (simp; omega)) fun q_ _ hp_ => ?_ | refine Sh.hvI m (by first | omega | decide) (by first | omega | (simp; done) | (simp; omega)) fun q_ _ hp_ => ?_ | refine Sh.svF m fun q_ _ hp_ => ?_ | refine Sh.hvF m fun q_ _ hp_ => ?_))
      refine n171 (m.ret (strings_hasPrefix a b _) ?_); clear m; intro w m
      cases h2 : isPre b a with
      | true =>
        (repeat (first | refine Sh.sv m ?_ | refine Sh.hv ?_ | (refine Sh.sw m ?_; clear m; intro g_ w m) | (refine Sh.su m ?_; clear m; intro w m) | (refine Sh.suN m ?_; clear m; intro w m) | (refine Sh.hr m ?_; clear m; intro m) | refine Sh.rsS m ?_ | refine Sh.hd m ?_ | refine Sh.rsK [] m ?_ | refine CN_tt ?_ | refine CN_ff ?_ | refine GD_tt ?_ | refine GD_ff ?_ | refine GD_tf ?_ | refine GD_ft ?_ | refine CN_true (by first | omega | (simp; done) | (simp; omega)) ?_ | refine CN_false (by first | omega | (simp; done) | (simp; omega)) ?_ | refine GD_true (by first | omega | (simp; done) | (simp; omega)) ?_ | refine GD_true' (by first | omega | (simp; done) | (simp; omega)) ?_ | refine GD_false (by first | omega | (simp; done) | (simp; omega)) ?_ | refine GD_false' (by first | omega | (simp; done) | (simp; omega)) ?_ | refine Sh.crN m ?_ | refine Sh.cr1 m ?_ | refine Sh.svI m (by first | omega | decide) (by first | omega | (simp; done) | (simp; omega)) fun q_ _ hp_ => ?_ | refine Sh.hvI m (by first | omega | decide) (by first | omega | (simp; done) | (simp; omega)) fun q_ _ hp_ => ?_ | refine Sh.svF m fun q_ _ hp_ => ?_ | refine Sh.hvF m fun q_ _ hp_ => ?_))
        refine lits eOp [⟨3, name, [], b.length⟩] m [_] rfl rfl rfl (by simp) ?_; clear m; intro v1 w _ m
        refine ap m (by cases was <;> simp) (by cases was <;> simp [maxLen]) ?_; clear m; intro v2 w _ m
        refine ⟨rfl, fun _ => ?_⟩
        show St _ _ _ _
        have h := m.sub (X := [own eOp v2 _]) (by repeat (first | exact Frm.nil | (with_reducible exact Rem.here) | apply Frm.cons | apply Rem.there))
        simpa [changeOf, h1, h2] using h
      | false =>
        (repeat (first | refine Sh.sv m ?_ | refine Sh.hv ?_ | (refine Sh.sw m ?_; clear m; intro g_ w m) | (refine Sh.su m ?_; clear m; intro w m) | (refine Sh.suN m ?_; clear m; intro w m) | (refine Sh.hr m ?_; clear m; intro m) | refine Sh.rsS m ?_ | refine Sh.hd m ?_ | refine Sh.rsK [] m ?_ | refine CN_tt ?_ | refine CN_ff ?_ | refine GD_tt ?_ | refine GD_ff ?_ | refine GD_tf ?_ | refine GD_ft ?_ | refine CN_true (by first | omega | (simp; done) | (simp; omega)) ?_ | refine CN_false (by first | omega | (simp; done) | (simp; omega)) ?_ | refine GD_true (by first | omega | (simp; done) | (simp; omega)) ?_ | refine GD_true' (by first | omega | (simp; done) | (simp; omega)) ?_ | refine GD_false (by first | omega | (simp; done) | (simp; omega)) ?_ | refine GD_false' (by first | omega | (simp; done) | (simp; omega)) ?_ | refine Sh.crN m ?_ | refine Sh.cr1 m ?_ | refine Sh.svI m (by first | omega | decide) (by first | omega | (simp; done) | (simp; omega)) fun q_ _ hp_ => ?_ | refine Sh.hvI m (by first | omega | decide) (by first | omega | (simp; done) | (simp; omega)) fun q_ _ hp_ => ?_ | refine Sh.svF m fun q_ _ hp_ => ?_ | refine Sh.hvF m fun q_ _ hp_ => ?_))
        refine lits eOp [⟨5, name, b, 0⟩] m [_] rfl rfl rfl (by simp) ?_; clear m; intro v1 w _ m
        refine ap m (by cases was <;> simp) (by cases was <;> simp [maxLen]) ?_; clear m; intro v2 w _ m
        refine ⟨rfl, fun _ => ?_⟩
        show St _ _ _ _
        have h := m.sub (X := [own eOp v2 _]) (by repeat (first | exact Frm.nil | (with_reducible exact Rem.here) | apply Frm.cons | apply Rem.there))
        simpa [changeOf, h1, h2] using h

theorem image_diff {ov nv : Value} {old now : List File} {w0 : World} (h : Mem w0 [sl eFile ov old, sl eFile nv now]) (ho : old.length ≤ 1000000) (hn : now.length ≤ 1000000) (hd : ∀ f ∈ now, f.data.length ≤ 4611686018427387904) :
    Calls Tryz.prog 31 #[ov, nv] w0 (retP fun v w' => St w0 [sl eFile ov old, sl eFile nv now] w' [own eOp v (diffOf old now)]) := by
  have m := St.start h
  refine c31 ?_
  unfold s31
  refine LP_intro (fun us w => ∃ (v p q : Value) (acc : List FileOp) (o n : List File), us = [v, p, q] ∧ acc ++ diffOf o n = diffOf old now ∧ (∀ f ∈ n, f.data.length ≤ 4611686018427387904) ∧ o.length ≤ old.length ∧ n.length ≤ now.length ∧
      St w0 [sl eFile ov old, sl eFile nv now] w [own eOp v acc, sl eFile p o, sl eFile q n])
    (fun us _ => match us with | [_, p, q] => vlen p + vlen q | _ => 0) ⟨_, ov, nv, [], old, now, rfl, rfl, hd, Nat.le_refl _, Nat.le_refl _, m.nilOwn eOp⟩ ?_
  clear m
  rintro us hus ζ w ⟨v, p, q, acc, o, n, rfl, hacc, hnd, hol, hnl, m⟩
  unfold s31_l1
  simp only [List.getD_cons_zero, List.getD_cons_succ]
  have hl := congrArg List.length hacc
  rw [List.length_append] at hl
  have hl2 := diffOf_len old now
  have hp := m.vlen p
  have hq := m.vlen q
  have ao : ∀ (c : List FileOp), c.length ≤ 3 → (acc.length + c.length) * 48 ≤ 140737488355328 ∧ acc.length + c.length ≤ maxLen := fun c hc => by unfold maxLen; omega
  cases o with
  | nil =>
    cases n with
    | nil =>
      (repeat (first | refine Sh.sv m ?_ | refine Sh.hv ?_ | (refine Sh.sw m ?_; clear m; intro g_ w m) | (refine Sh.su m ?_; clear m; intro w m) | (refine Sh.suN m ?_; clear m; intro w m) | (refine Sh.hr m ?_; clear m; intro m) | refine Sh.rsS m ?_ | refine Sh.hd m ?_ | refine Sh.rsK [] m ?_ | refine CN_tt ?_ | refine CN_ff ?_ | refine GD_tt ?_ | refine GD_ff ?_ | refine GD_tf ?_ | refine GD_ft ?_ | refine CN_true (by first | omega | (simp; done) | (simp; omega)) ?_ | refine CN_false (by first | omega | (simp; done) | (simp; omega)) ?_ | refine GD_true (by first | omega | (simp; done) | (simp; omega)) ?_ | refine GD_true' (by first | omega | (simp; done) | (simp; omega)) ?_ | refine GD_false (by first | omega | (simp; done) | (simp; omega)) ?_ | refine GD_false' (by first | omega | (simp; done) | (simp; omega)) ?_ | refine Sh.crN m ?_ | refine Sh.cr1 m ?_ | refine Sh.svI m (by first | omega | decide) (by first | omega | (simp; done) | (simp; omega)) fun q_ _ hp_ => ?_ | refine Sh.hvI m (by first | omega | decide) (by first | omega | (simp; done) | (simp; omega)) fun q_ _ hp_ => ?_ | refine Sh.svF m fun q_ _ hp_ => ?_ | refine Sh.hvF m fun q_ _ hp_ => ?_))
      simp only [diffOf, List.append_nil] at hacc
      subst hacc
      exact m.sub (by repeat (first | exact Frm.nil | (with_reducible exact Rem.dup) | (with_reducible exact Rem.here) | apply Frm.cons | apply Rem.there))
    | cons b ns =>
      simp only [List.length_cons] at hnl
      have hb := hnd b List.mem_cons_self
      have hnd' : ∀ f ∈ ns, f.data.length ≤ 4611686018427387904 := fun f hf => hnd f (List.mem_cons_of_mem _ hf)
      rw [diffOf, ← List.append_assoc] at hacc
      (repeat (first | refine Sh.sv m ?_ | refine Sh.hv ?_ | (refine Sh.sw m ?_; clear m; intro g_ w m) | (refine Sh.su m ?_; clear m; intro w m) | (refine Sh.suN m ?_; clear m; intro w m) | (refine Sh.hr m ?_; clear m; intro m) | refine Sh.rsS m ?_ | refine Sh.hd m ?_ | refine Sh.rsK [] m ?_ | refine CN_tt ?_ | refine CN_ff ?_ | refine GD_tt ?_ | refine GD_ff ?_ | refine GD_tf ?_ | refine GD_ft ?_ | refine CN_true (by first | omega | (simp; done) | (simp; omega)) ?_ | refine CN_false (by first | omega | (simp; done) | (simp; omega)) ?_ | refine GD_true (by first | omega | (simp; done) | (simp; omega)) ?_ | refine GD_true' (by first | omega | (simp; done) | (simp; omega)) ?_ | refine GD_false (by first | omega | (simp; done) | (simp; omega)) ?_ | refine GD_false' (by first | omega | (simp; done) | (simp; omega)) ?_ | refine Sh.crN m ?_ | refine Sh.cr1 m ?_ | refine Sh.svI m (by first | omega | decide) (by first | omega | (simp; done) | (simp; omega)) fun q_ _ hp_ => ?_ | refine Sh.hvI m (by first | omega | decide) (by first | omega | (simp; done) | (simp; omega)) fun q_ _ hp_ => ?_ | refine Sh.svF m fun q_ _ hp_ => ?_ | refine Sh.hvF m fun q_ _ hp_ => ?_))
      refine n96 (m.call (image_change _ _ _ _ _ _ (by first | (simp; omega) | simp)) ?_)
      rintro v1 w m1
      have := m1.isl (v := v1)
      replace m := m.fr Frm.nil m1; simp only [List.cons_append, List.nil_append] at m
      have hc3 := ao _ (changeOf_len b.name [] b.data false true)
      (repeat (first | refine Sh.sv m ?_ | refine Sh.hv ?_ | (refine Sh.sw m ?_; clear m; intro g_ w m) | (refine Sh.su m ?_; clear m; intro w m) | (refine Sh.suN m ?_; clear m; intro w m) | (refine Sh.hr m ?_; clear m; intro m) | refine Sh.rsS m ?_ | refine Sh.hd m ?_ | refine Sh.rsK [] m ?_ | refine CN_tt ?_ | refine CN_ff ?_ | refine GD_tt ?_ | refine GD_ff ?_ | refine GD_tf ?_ | refine GD_ft ?_ | refine CN_true (by first | omega | (simp; done) | (simp; omega)) ?_ | refine CN_false (by first | omega | (simp; done) | (simp; omega)) ?_ | refine GD_true (by first | omega | (simp; done) | (simp; omega)) ?_ | refine GD_true' (by first | omega | (simp; done) | (simp; omega)) ?_ | refine GD_false (by first | omega | (simp; done) | (simp; omega)) ?_ | refine GD_false' (by first | omega | (simp; done) | (simp; omega)) ?_ | refine Sh.crN m ?_ | refine Sh.cr1 m ?_ | refine Sh.svI m (by first | omega | decide) (by first | omega | (simp; done) | (simp; omega)) fun q_ _ hp_ => ?_ | refine Sh.hvI m (by first | omega | decide) (by first | omega | (simp; done) | (simp; omega)) fun q_ _ hp_ => ?_ | refine Sh.svF m fun q_ _ hp_ => ?_ | refine Sh.hvF m fun q_ _ hp_ => ?_))
      refine ap m hc3.1 hc3.2 ?_; clear m; intro v2 w _ m
      (repeat (first | refine Sh.sv m ?_ | refine Sh.hv ?_ | (refine Sh.sw m ?_; clear m; intro g_ w m) | (refine Sh.su m ?_; clear m; intro w m) | (refine Sh.suN m ?_; clear m; intro w m) | (refine Sh.hr m ?_; clear m; intro m) | refine Sh.rsS m ?_ | refine Sh.hd m ?_ | refine Sh.rsK [] m ?_ | refine CN_tt ?_ | refine CN_ff ?_ | refine GD_tt ?_ | refine GD_ff ?_ | refine GD_tf ?_ | refine GD_ft ?_ | refine CN_true (by first | omega | (simp; done) | (simp; omega)) ?_ | refine CN_false (by first | omega | (simp; done) | (simp; omega)) ?_ | refine GD_true (by first | omega | (simp; done) | (simp; omega)) ?_ | refine GD_true' (by first | omega | (simp; done) | (simp; omega)) ?_ | refine GD_false (by first | omega | (simp; done) | (simp; omega)) ?_ | refine GD_false' (by first | omega | (simp; done) | (simp; omega)) ?_ | refine Sh.crN m ?_ | refine Sh.cr1 m ?_ | refine Sh.svI m (by first | omega | decide) (by first | omega | (simp; done) | (simp; omega)) fun q_ _ hp_ => ?_ | refine Sh.hvI m (by first | omega | decide) (by first | omega | (simp; done) | (simp; omega)) fun q_ _ hp_ => ?_ | refine Sh.svF m fun q_ _ hp_ => ?_ | refine Sh.hvF m fun q_ _ hp_ => ?_))
      refine slL (v := q) m (by decide) (by simp; omega) ?_; clear m; intro q2 _ m
      (repeat (first | refine Sh.sv m ?_ | refine Sh.hv ?_ | (refine Sh.sw m ?_; clear m; intro g_ w m) | (refine Sh.su m ?_; clear m; intro w m) | (refine Sh.suN m ?_; clear m; intro w m) | (refine Sh.hr m ?_; clear m; intro m) | refine Sh.rsS m ?_ | refine Sh.hd m ?_ | refine Sh.rsK [] m ?_ | refine CN_tt ?_ | refine CN_ff ?_ | refine GD_tt ?_ | refine GD_ff ?_ | refine GD_tf ?_ | refine GD_ft ?_ | refine CN_true (by first | omega | (simp; done) | (simp; omega)) ?_ | refine CN_false (by first | omega | (simp; done) | (simp; omega)) ?_ | refine GD_true (by first | omega | (simp; done) | (simp; omega)) ?_ | refine GD_true' (by first | omega | (simp; done) | (simp; omega)) ?_ | refine GD_false (by first | omega | (simp; done) | (simp; omega)) ?_ | refine GD_false' (by first | omega | (simp; done) | (simp; omega)) ?_ | refine Sh.crN m ?_ | refine Sh.cr1 m ?_ | refine Sh.svI m (by first | omega | decide) (by first | omega | (simp; done) | (simp; omega)) fun q_ _ hp_ => ?_ | refine Sh.hvI m (by first | omega | decide) (by first | omega | (simp; done) | (simp; omega)) fun q_ _ hp_ => ?_ | refine Sh.svF m fun q_ _ hp_ => ?_ | refine Sh.hvF m fun q_ _ hp_ => ?_))
      simp only [Int.toNat_zero, Int.toNat_one, List.drop_succ_cons, List.drop_zero, List.getElem_cons_zero] at m
      refine ⟨⟨v2, p, q2, _, [], ns, rfl, hacc, hnd', hol, by omega, m.sub (by repeat (first | exact Frm.nil | (with_reducible exact Rem.dup) | (with_reducible exact Rem.here) | apply Frm.cons | apply Rem.there))⟩, ?_⟩
      have hq2 := m.vlen q2
      simp only [hp, hq, hq2, List.length_cons]; omega
  | cons a os =>
    simp only [List.length_cons] at hol
    cases n with
    | nil =>
      rw [diffOf, ← List.append_assoc] at hacc
      (repeat (first | refine Sh.sv m ?_ | refine Sh.hv ?_ | (refine Sh.sw m ?_; clear m; intro g_ w m) | (refine Sh.su m ?_; clear m; intro w m) | (refine Sh.suN m ?_; clear m; intro w m) | (refine Sh.hr m ?_; clear m; intro m) | refine Sh.rsS m ?_ | refine Sh.hd m ?_ | refine Sh.rsK [] m ?_ | refine CN_tt ?_ | refine CN_ff ?_ | refine GD_tt ?_ | refine GD_ff ?_ | refine GD_tf ?_ | refine GD_ft ?_ | refine CN_true (by first | omega | (simp; done) | (simp; omega)) ?_ | refine CN_false (by first | omega | (simp; done) | (simp; omega)) ?_ | refine GD_true (by first | omega | (simp; done) | (simp; omega)) ?_ | refine GD_true' (by first | omega | (simp; done) | (simp; omega)) ?_ | refine GD_false (by first | omega | (simp; done) | (simp; omega)) ?_ | refine GD_false' (by first | omega | (simp; done) | (simp; omega)) ?_ | refine Sh.crN m ?_ | refine Sh.cr1 m ?_ | refine Sh.svI m (by first | omega | decide) (by first | omega | (simp; done) | (simp; omega)) fun q_ _ hp_ => ?_ | refine Sh.hvI m (by first | omega | decide) (by first | omega | (simp; done) | (simp; omega)) fun q_ _ hp_ => ?_ | refine Sh.svF m fun q_ _ hp_ => ?_ | refine Sh.hvF m fun q_ _ hp_ => ?_))
      refine n96 (m.call (image_change _ _ _ _ _ _ (by first | (simp; omega) | simp)) ?_)
      rintro v1 w m1
      have := m1.isl (v := v1)
      replace m := m.fr Frm.nil m1; simp only [List.cons_append, List.nil_append] at m
      have hc3 := ao _ (changeOf_len a.name a.data [] true false)
      (repeat (first | refine Sh.sv m ?_ | refine Sh.hv ?_ | (refine Sh.sw m ?_; clear m; intro g_ w m) | (refine Sh.su m ?_; clear m; intro w m) | (refine Sh.suN m ?_; clear m; intro w m) | (refine Sh.hr m ?_; clear m; intro m) | refine Sh.rsS m ?_ | refine Sh.hd m ?_ | refine Sh.rsK [] m ?_ | refine CN_tt ?_ | refine CN_ff ?_ | refine GD_tt ?_ | refine GD_ff ?_ | refine GD_tf ?_ | refine GD_ft ?_ | refine CN_true (by first | omega | (simp; done) | (simp; omega)) ?_ | refine CN_false (by first | omega | (simp; done) | (simp; omega)) ?_ | refine GD_true (by first | omega | (simp; done) | (simp; omega)) ?_ | refine GD_true' (by first | omega | (simp; done) | (simp; omega)) ?_ | refine GD_false (by first | omega | (simp; done) | (simp; omega)) ?_ | refine GD_false' (by first | omega | (simp; done) | (simp; omega)) ?_ | refine Sh.crN m ?_ | refine Sh.cr1 m ?_ | refine Sh.svI m (by first | omega | decide) (by first | omega | (simp; done) | (simp; omega)) fun q_ _ hp_ => ?_ | refine Sh.hvI m (by first | omega | decide) (by first | omega | (simp; done) | (simp; omega)) fun q_ _ hp_ => ?_ | refine Sh.svF m fun q_ _ hp_ => ?_ | refine Sh.hvF m fun q_ _ hp_ => ?_))
      refine ap m hc3.1 hc3.2 ?_; clear m; intro v2 w _ m
      (repeat (first | refine Sh.sv m ?_ | refine Sh.hv ?_ | (refine Sh.sw m ?_; clear m; intro g_ w m) | (refine Sh.su m ?_; clear m; intro w m) | (refine Sh.suN m ?_; clear m; intro w m) | (refine Sh.hr m ?_; clear m; intro m) | refine Sh.rsS m ?_ | refine Sh.hd m ?_ | refine Sh.rsK [] m ?_ | refine CN_tt ?_ | refine CN_ff ?_ | refine GD_tt ?_ | refine GD_ff ?_ | refine GD_tf ?_ | refine GD_ft ?_ | refine CN_true (by first | omega | (simp; done) | (simp; omega)) ?_ | refine CN_false (by first | omega | (simp; done) | (simp; omega)) ?_ | refine GD_true (by first | omega | (simp; done) | (simp; omega)) ?_ | refine GD_true' (by first | omega | (simp; done) | (simp; omega)) ?_ | refine GD_false (by first | omega | (simp; done) | (simp; omega)) ?_ | refine GD_false' (by first | omega | (simp; done) | (simp; omega)) ?_ | refine Sh.crN m ?_ | refine Sh.cr1 m ?_ | refine Sh.svI m (by first | omega | decide) (by first | omega | (simp; done) | (simp; omega)) fun q_ _ hp_ => ?_ | refine Sh.hvI m (by first | omega | decide) (by first | omega | (simp; done) | (simp; omega)) fun q_ _ hp_ => ?_ | refine Sh.svF m fun q_ _ hp_ => ?_ | refine Sh.hvF m fun q_ _ hp_ => ?_))
      refine slL (v := p) m (by decide) (by simp; omega) ?_; clear m; intro p2 _ m
      (repeat (first | refine Sh.sv m ?_ | refine Sh.hv ?_ | (refine Sh.sw m ?_; clear m; intro g_ w m) | (refine Sh.su m ?_; clear m; intro w m) | (refine Sh.suN m ?_; clear m; intro w m) | (refine Sh.hr m ?_; clear m; intro m) | refine Sh.rsS m ?_ | refine Sh.hd m ?_ | refine Sh.rsK [] m ?_ | refine CN_tt ?_ | refine CN_ff ?_ | refine GD_tt ?_ | refine GD_ff ?_ | refine GD_tf ?_ | refine GD_ft ?_ | refine CN_true (by first | omega | (simp; done) | (simp; omega)) ?_ | refine CN_false (by first | omega | (simp; done) | (simp; omega)) ?_ | refine GD_true (by first | omega | (simp; done) | (simp; omega)) ?_ | refine GD_true' (by first | omega | (simp; done) | (simp; omega)) ?_ | refine GD_false (by first | omega | (simp; done) | (simp; omega)) ?_ | refine GD_false' (by first | omega | (simp; done) | (simp; omega)) ?_ | refine Sh.crN m ?_ | refine Sh.cr1 m ?_ | refine Sh.svI m (by first | omega | decide) (by first | omega | (simp; done) | (simp; omega)) fun q_ _ hp_ => ?_ | refine Sh.hvI m (by first | omega | decide) (by first | omega | (simp; done) | (simp; omega)) fun q_ _ hp_ => ?_ | refine Sh.svF m fun q_ _ hp_ => ?_ | refine Sh.hvF m fun q_ _ hp_ => ?_))
      simp only [Int.toNat_zero, Int.toNat_one, List.drop_succ_cons, List.drop_zero, List.getElem_cons_zero] at m
      refine ⟨⟨v2, p2, q, _, os, [], rfl, hacc, hnd, by omega, hnl, m.sub (by repeat (first | exact Frm.nil | (with_reducible exact Rem.dup) | (with_reducible exact Rem.here) | apply Frm.cons | apply Rem.there))⟩, ?_⟩
      have hp2 := m.vlen p2
      simp only [hp, hq, hp2, List.length_cons]; omega
    | cons b ns =>
      simp only [List.length_cons] at hnl
      have hb := hnd b List.mem_cons_self
      have hnd' : ∀ f ∈ ns, f.data.length ≤ 4611686018427387904 := fun f hf => hnd f (List.mem_cons_of_mem _ hf)
      rw [diffOf] at hacc
      cases hlt : Op.bytesLess a.name b.name with
      | true =>
        rw [if_pos hlt, ← List.append_assoc] at hacc
        (repeat (first | refine Sh.sv m ?_ | refine Sh.hv ?_ | (refine Sh.sw m ?_; clear m; intro g_ w m) | (refine Sh.su m ?_; clear m; intro w m) | (refine Sh.suN m ?_; clear m; intro w m) | (refine Sh.hr m ?_; clear m; intro m) | refine Sh.rsS m ?_ | refine Sh.hd m ?_ | refine Sh.rsK [] m ?_ | refine CN_tt ?_ | refine CN_ff ?_ | refine GD_tt ?_ | refine GD_ff ?_ | refine GD_tf ?_ | refine GD_ft ?_ | refine CN_true (by first | omega | (simp; done) | (simp; omega)) ?_ | refine CN_false (by first | omega | (simp; done) | (simp; omega)) ?_ | refine GD_true (by first | omega | (simp; done) | (simp; omega)) ?_ | refine GD_true' (by first | omega | (simp; done) | (simp; omega)) ?_ | refine GD_false (by first | omega | (simp; done) | (simp; omega)) ?_ | refine GD_false' (by first | omega | (simp; done) | (simp; omega)) ?_ | refine Sh.crN m ?_ | refine Sh.cr1 m ?_ | refine Sh.svI m (by first | omega | decide) (by first | omega | (simp; done) | (simp; omega)) fun q_ _ hp_ => ?_ | refine Sh.hvI m (by first | omega | decide) (by first | omega | (simp; done) | (simp; omega)) fun q_ _ hp_ => ?_ | refine Sh.svF m fun q_ _ hp_ => ?_ | refine Sh.hvF m fun q_ _ hp_ => ?_))
        simp only [Int.toNat_zero, List.getElem_cons_zero, hlt]
        (repeat (first | refine Sh.sv m ?_ | refine Sh.hv ?_ | (refine Sh.sw m ?_; clear m; intro g_ w m) | (refine Sh.su m ?_; clear m; intro w m) | (refine Sh.suN m ?_; clear m; intro w m) | (refine Sh.hr m ?_; clear m; intro m) | refine Sh.rsS m ?_ | refine Sh.hd m ?_ | refine Sh.rsK [] m ?_ | refine CN_tt ?_ | refine CN_ff ?_ | refine GD_tt ?_ | refine GD_ff ?_ | refine GD_tf ?_ | refine GD_ft ?_ | refine CN_true (by first | omega | (simp; done) | (simp; omega)) ?_ | refine CN_false (by first | omega | (simp; done) | (simp; omega)) ?_ | refine GD_true (by first | omega | (simp; done) | (simp; omega)) ?_ | refine GD_true' (by first | omega | (simp; done) | (simp; omega)) ?_ | refine GD_false (by first | omega | (simp; done) | (simp; omega)) ?_ | refine GD_false' (by first | omega | (simp; done) | (simp; omega)) ?_ | refine Sh.crN m ?_ | refine Sh.cr1 m ?_ | refine Sh.svI m (by first | omega | decide) (by first | omega | (simp; done) | (simp; omega)) fun q_ _ hp_ => ?_ | refine Sh.hvI m (by first | omega | decide) (by first | omega | (simp; done) | (simp; omega)) fun q_ _ hp_ => ?_ | refine Sh.svF m fun q_ _ hp_ => ?_ | refine Sh.hvF m fun q_ _ hp_ => ?_))
        refine n96 (m.call (image_change _ _ _ _ _ _ (by first | (simp; omega) | simp)) ?_)
        rintro v1 w m1
        have := m1.isl (v := v1)
        replace m := m.fr Frm.nil m1; simp only [List.cons_append, List.nil_append] at m
        have hc3 := ao _ (changeOf_len a.name a.data [] true false)
        (repeat (first | refine Sh.sv m ?_ | refine Sh.hv ?_ | (refine Sh.sw m ?_; clear m; intro g_ w m) | (refine Sh.su m ?_; clear m; intro w m) | (refine Sh.suN m ?_; clear m; intro w m) | (refine Sh.hr m ?_; clear m; intro m) | refine Sh.rsS m ?_ | refine Sh.hd m ?_ | refine Sh.rsK [] m ?_ | refine CN_tt ?_ | refine CN_ff ?_ | refine GD_tt ?_ | refine GD_ff ?_ | refine GD_tf ?_ | refine GD_ft ?_ | refine CN_true (by first | omega | (simp; done) | (simp; omega)) ?_ | refine CN_false (by first | omega | (simp; done) | (simp; omega)) ?_ | refine GD_true (by first | omega | (simp; done) | (simp; omega)) ?_ | refine GD_true' (by first | omega | (simp; done) | (simp; omega)) ?_ | refine GD_false (by first | omega | (simp; done) | (simp; omega)) ?_ | refine GD_false' (by first | omega | (simp; done) | (simp; omega)) ?_ | refine Sh.crN m ?_ | refine Sh.cr1 m ?_ | refine Sh.svI m (by first | omega | decide) (by first | omega | (simp; done) | (simp; omega)) fun q_ _ hp_ => ?_ | refine Sh.hvI m (by first | omega | decide) (by first | omega | (simp; done) | (simp; omega)) fun q_ _ hp_ => ?_ | refine Sh.svF m fun q_ _ hp_ => ?_ | refine Sh.hvF m fun q_ _ hp_ => ?_))
        refine ap m hc3.1 hc3.2 ?_; clear m; intro v2 w _ m
        (repeat (first | refine Sh.sv m ?_ | refine Sh.hv ?_ | (refine Sh.sw m ?_; clear m; intro g_ w m) | (refine Sh.su m ?_; clear m; intro w m) | (refine Sh.suN m ?_; clear m; intro w m) | (refine Sh.hr m ?_; clear m; intro m) | refine Sh.rsS m ?_ | refine Sh.hd m ?_ | refine Sh.rsK [] m ?_ | refine CN_tt ?_ | refine CN_ff ?_ | refine GD_tt ?_ | refine GD_ff ?_ | refine GD_tf ?_ | refine GD_ft ?_ | refine CN_true (by first | omega | (simp; done) | (simp; omega)) ?_ | refine CN_false (by first | omega | (simp; done) | (simp; omega)) ?_ | refine GD_true (by first | omega | (simp; done) | (simp; omega)) ?_ | refine GD_true' (by first | omega | (simp; done) | (simp; omega)) ?_ | refine GD_false (by first | omega | (simp; done) | (simp; omega)) ?_ | refine GD_false' (by first | omega | (simp; done) | (simp; omega)) ?_ | refine Sh.crN m ?_ | refine Sh.cr1 m ?_ | refine Sh.svI m (by first | omega | decide) (by first | omega | (simp; done) | (simp; omega)) fun q_ _ hp_ => ?_ | refine Sh.hvI m (by first | omega | decide) (by first | omega | (simp; done) | (simp; omega)) fun q_ _ hp_ => ?_ | refine Sh.svF m fun q_ _ hp_ => ?_ | refine Sh.hvF m fun q_ _ hp_ => ?_))
        refine slL (v := p) m (by decide) (by simp; omega) ?_; clear m; intro p2 _ m
        (repeat (first | refine Sh.sv m ?_ | refine Sh.hv ?_ | (refine Sh.sw m ?_; clear m; intro g_ w m) | (refine Sh.su m ?_; clear m; intro w m) | (refine Sh.suN m ?_; clear m; intro w m) | (refine Sh.hr m ?_; clear m; intro m) | refine Sh.rsS m ?_ | refine Sh.hd m ?_ | refine Sh.rsK [] m ?_ | refine CN_tt ?_ | refine CN_ff ?_ | refine GD_tt ?_ | refine GD_ff ?_ | refine GD_tf ?_ | refine GD_ft ?_ | refine CN_true (by first | omega | (simp; done) | (simp; omega)) ?_ | refine CN_false (by first | omega | (simp; done) | (simp; omega)) ?_ | refine GD_true (by first | omega | (simp; done) | (simp; omega)) ?_ | refine GD_true' (by first | omega | (simp; done) | (simp; omega)) ?_ | refine GD_false (by first | omega | (simp; done) | (simp; omega)) ?_ | refine GD_false' (by first | omega | (simp; done) | (simp; omega)) ?_ | refine Sh.crN m ?_ | refine Sh.cr1 m ?_ | refine Sh.svI m (by first | omega | decide) (by first | omega | (simp; done) | (simp; omega)) fun q_ _ hp_ => ?_ | refine Sh.hvI m (by first | omega | decide) (by first | omega | (simp; done) | (simp; omega)) fun q_ _ hp_ => ?_ | refine Sh.svF m fun q_ _ hp_ => ?_ | refine Sh.hvF m fun q_ _ hp_ => ?_))
        simp only [Int.toNat_zero, Int.toNat_one, List.drop_succ_cons, List.drop_zero, List.getElem_cons_zero] at m
        refine ⟨⟨v2, p2, q, _, os, _, rfl, hacc, hnd, by omega, hnl, m.sub (by repeat (first | exact Frm.nil | (with_reducible exact Rem.dup) | (with_reducible exact Rem.here) | apply Frm.cons | apply Rem.there))⟩, ?_⟩
        have hp2 := m.vlen p2
        simp only [hp, hq, hp2, List.length_cons]; omega
      | false =>
        rw [if_neg (by simp [hlt])] at hacc
        (repeat (first | refine Sh.sv m ?_ | refine Sh.hv ?_ | (refine Sh.sw m ?_; clear m; intro g_ w m) | (refine Sh.su m ?_; clear m; intro w m) | (refine Sh.suN m ?_; clear m; intro w m) | (refine Sh.hr m ?_; clear m; intro m) | refine Sh.rsS m ?_ | refine Sh.hd m ?_ | refine Sh.rsK [] m ?_ | refine CN_tt ?_ | refine CN_ff ?_ | refine GD_tt ?_ | refine GD_ff ?_ | refine GD_tf ?_ | refine GD_ft ?_ | refine CN_true (by first | omega | (simp; done) | (simp; omega)) ?_ | refine CN_false (by first | omega | (simp; done) | (simp; omega)) ?_ | refine GD_true (by first | omega | (simp; done) | (simp; omega)) ?_ | refine GD_true' (by first | omega | (simp; done) | (simp; omega)) ?_ | refine GD_false (by first | omega | (simp; done) | (simp; omega)) ?_ | refine GD_false' (by first | omega | (simp; done) | (simp; omega)) ?_ | refine Sh.crN m ?_ | refine Sh.cr1 m ?_ | refine Sh.svI m (by first | omega | decide) (by first | omega | (simp; done) | (simp; omega)) fun q_ _ hp_ => ?_ | refine Sh.hvI m (by first | omega | decide) (by first | omega | (simp; done) | (simp; omega)) fun q_ _ hp_ => ?_ | refine Sh.svF m fun q_ _ hp_ => ?_ | refine Sh.hvF m fun q_ _ hp_ => ?_))
        simp only [Int.toNat_zero, List.getElem_cons_zero, hlt]
        (repeat (first | refine Sh.sv m ?_ | refine Sh.hv ?_ | (refine Sh.sw m ?_; clear m; intro g_ w m) | (refine Sh.su m ?_; clear m; intro w m) | (refine Sh.suN m ?_; clear m; intro w m) | (refine Sh.hr m ?_; clear m; intro m) | refine Sh.rsS m ?_ | refine Sh.hd m ?_ | refine Sh.rsK [] m ?_ | refine CN_tt ?_ | refine CN_ff ?_ | refine GD_tt ?_ | refine GD_ff ?_ | refine GD_tf ?_ | refine GD_ft ?_ | refine CN_true (by first | omega | (simp; done) | (simp; omega)) ?_ | refine CN_false (by first | omega | (simp; done) | (simp; omega)) ?_ | refine GD_true (by first | omega | (simp; done) | (simp; omega)) ?_ | refine GD_true' (by first | omega | (simp; done) | (simp; omega)) ?_ | refine GD_false (by first | omega | (simp; done) | (simp; omega)) ?_ | refine GD_false' (by first | omega | (simp; done) | (simp; omega)) ?_ | refine Sh.crN m ?_ | refine Sh.cr1 m ?_ | refine Sh.svI m (by first | omega | decide) (by first | omega | (simp; done) | (simp; omega)) fun q_ _ hp_ => ?_ | refine Sh.hvI m (by first | omega | decide) (by first | omega | (simp; done) | (simp; omega)) fun q_ _ hp_ => ?_ | refine Sh.svF m fun q_ _ hp_ => ?_ | refine Sh.hvF m fun q_ _ hp_ => ?_))
        cases hgt : Op.bytesLess b.name a.name with
        | true =>
          rw [if_pos hgt, ← List.append_assoc] at hacc
          simp only [Int.toNat_zero, List.getElem_cons_zero, hgt]
          (repeat (first | refine Sh.sv m ?_ | refine Sh.hv ?_ | (refine Sh.sw m ?_; clear m; intro g_ w m) | (refine Sh.su m ?_; clear m; intro w m) | (refine Sh.suN m ?_; clear m; intro w m) | (refine Sh.hr m ?_; clear m; intro m) | refine Sh.rsS m ?_ | refine Sh.hd m ?_ | refine Sh.rsK [] m ?_ | refine CN_tt ?_ | refine CN_ff ?_ | refine GD_tt ?_ | refine GD_ff ?_ | refine GD_tf ?_ | refine GD_ft ?_ | refine CN_true (by first | omega | (simp; done) | (simp; omega)) ?_ | refine CN_false (by first | omega | (simp; done) | (simp; omega)) ?_ | refine GD_true (by first | omega | (simp; done) | (simp; omega)) ?_ | refine GD_true' (by first | omega | (simp; done) | (simp; omega)) ?_ | refine GD_false (by first | omega | (simp; done) | (simp; omega)) ?_ | refine GD_false' (by first | omega | (simp; done) | (simp; omega)) ?_ | refine Sh.crN m ?_ | refine Sh.cr1 m ?_ | refine Sh.svI m (by first | omega | decide) (by first | omega | (simp; done) | (simp; omega)) fun q_ _ hp_ => ?_ | refine Sh.hvI m (by first | omega | decide) (by first | omega | (simp; done) | (simp; omega)) fun q_ _ hp_ => ?_ | refine Sh.svF m fun q_ _ hp_ => ?_ | refine Sh.hvF m fun q_ _ hp_ => ?_))
          refine n96 (m.call (image_change _ _ _ _ _ _ (by first | (simp; omega) | simp)) ?_)
          rintro v1 w m1
          have := m1.isl (v := v1)
          replace m := m.fr Frm.nil m1; simp only [List.cons_append, List.nil_append] at m
          have hc3 := ao _ (changeOf_len b.name [] b.data false true)
          (repeat (first | refine Sh.sv m ?_ | refine Sh.hv ?_ | (refine Sh.sw m ?_; clear m; intro g_ w m) | (refine Sh.su m ?_; clear m; intro w m) | (refine Sh.suN m ?_; clear m; intro w m) | (refine Sh.hr m ?_; clear m; intro m) | refine Sh.rsS m ?_ | refine Sh.hd m ?_ | refine Sh.rsK [] m ?_ | refine CN_tt ?_ | refine CN_ff ?_ | refine GD_tt ?_ | refine GD_ff ?_ | refine GD_tf ?_ | refine GD_ft ?_ | refine CN_true (by first | omega | (simp; done) | (simp; omega)) ?_ | refine CN_false (by first | omega | (simp; done) | (simp; omega)) ?_ | refine GD_true (by first | omega | (simp; done) | (simp; omega)) ?_ | refine GD_true' (by first | omega | (simp; done) | (simp; omega)) ?_ | refine GD_false (by first | omega | (simp; done) | (simp; omega)) ?_ | refine GD_false' (by first | omega | (simp; done) | (simp; omega)) ?_ | refine Sh.crN m ?_ | refine Sh.cr1 m ?_ | refine Sh.svI m (by first | omega | decide) (by first | omega | (simp; done) | (simp; omega)) fun q_ _ hp_ => ?_ | refine Sh.hvI m (by first | omega | decide) (by first | omega | (simp; done) | (simp; omega)) fun q_ _ hp_ => ?_ | refine Sh.svF m fun q_ _ hp_ => ?_ | refine Sh.hvF m fun q_ _ hp_ => ?_))
          refine ap m hc3.1 hc3.2 ?_; clear m; intro v2 w _ m
          (repeat (first | refine Sh.sv m ?_ | refine Sh.hv ?_ | (refine Sh.sw m ?_; clear m; intro g_ w m) | (refine Sh.su m ?_; clear m; intro w m) | (refine Sh.suN m ?_; clear m; intro w m) | (refine Sh.hr m ?_; clear m; intro m) | refine Sh.rsS m ?_ | refine Sh.hd m ?_ | refine Sh.rsK [] m ?_ | refine CN_tt ?_ | refine CN_ff ?_ | refine GD_tt ?_ | refine GD_ff ?_ | refine GD_tf ?_ | refine GD_ft ?_ | refine CN_true (by first | omega | (simp; done) | (simp; omega)) ?_ | refine CN_false (by first | omega | (simp; done) | (simp; omega)) ?_ | refine GD_true (by first | omega | (simp; done) | (simp; omega)) ?_ | refine GD_true' (by first | omega | (simp; done) | (simp; omega)) ?_ | refine GD_false (by first | omega | (simp; done) | (simp; omega)) ?_ | refine GD_false' (by first | omega | (simp; done) | (simp; omega)) ?_ | refine Sh.crN m ?_ | refine Sh.cr1 m ?_ | refine Sh.svI m (by first | omega | decide) (by first | omega | (simp; done) | (simp; omega)) fun q_ _ hp_ => ?_ | refine Sh.hvI m (by first | omega | decide) (by first | omega | (simp; done) | (simp; omega)) fun q_ _ hp_ => ?_ | refine Sh.svF m fun q_ _ hp_ => ?_ | refine Sh.hvF m fun q_ _ hp_ => ?_))
          refine slL (v := q) m (by decide) (by simp; omega) ?_; clear m; intro q2 _ m
          (repeat (first | refine Sh.sv m ?_ | refine Sh.hv ?_ | (refine Sh.sw m ?_; clear m; intro g_ w m) | (refine Sh.su m ?_; clear m; intro w m) | (refine Sh.suN m ?_; clear m; intro w m) | (refine Sh.hr m ?_; clear m; intro m) | refine Sh.rsS m ?_ | refine Sh.hd m ?_ | refine Sh.rsK [] m ?_ | refine CN_tt ?_ | refine CN_ff ?_ | refine GD_tt ?_ | refine GD_ff ?_ | refine GD_tf ?_ | refine GD_ft ?_ | refine CN_true (by first | omega | (simp; done) | (simp; omega)) ?_ | refine CN_false (by first | omega | (simp; done) | (simp; omega)) ?_ | refine GD_true (by first | omega | (simp; done) | (simp; omega)) ?_ | refine GD_true' (by first | omega | (simp; done) | (simp; omega)) ?_ | refine GD_false (by first | omega | (simp; done) | (simp; omega)) ?_ | refine GD_false' (by first | omega | (simp; done) | (simp; omega)) ?_ | refine Sh.crN m ?_ | refine Sh.cr1 m ?_ | refine Sh.svI m (by first | omega | decide) (by first | omega | (simp; done) | (simp; omega)) fun q_ _ hp_ => ?_ | refine Sh.hvI m (by first | omega | decide) (by first | omega | (simp; done) | (simp; omega)) fun q_ _ hp_ => ?_ | refine Sh.svF m fun q_ _ hp_ => ?_ | refine Sh.hvF m fun q_ _ hp_ => ?_))
          simp only [Int.toNat_zero, Int.toNat_one, List.drop_succ_cons, List.drop_zero, List.getElem_cons_zero] at m
          refine ⟨⟨v2, p, q2, _, _, ns, rfl, hacc, hnd', hol, by omega, m.sub (by repeat (first | exact Frm.nil | (with_reducible exact Rem.dup) | (with_reducible exact Rem.here) | apply Frm.cons | apply Rem.there))⟩, ?_⟩
          have hq2 := m.vlen q2
          simp only [hp, hq, hq2, List.length_cons]; omega
        | false =>
          rw [if_neg (by simp [hgt]), ← List.append_assoc] at hacc
          simp only [Int.toNat_zero, List.getElem_cons_zero, hgt]
          (repeat (first | refine Sh.sv m ?_ | refine Sh.hv ?_ | (refine Sh.sw m ?_; clear m; intro g_ w m) | (refine Sh.su m ?_; clear m; intro w m) | (refine Sh.suN m ?_; clear m; intro w m) | (refine Sh.hr m ?_; clear m; intro m) | refine Sh.rsS m ?_ | refine Sh.hd m ?_ | refine Sh.rsK [] m ?_ | refine CN_tt ?_ | refine CN_ff ?_ | refine GD_tt ?_ | refine GD_ff ?_ | refine GD_tf ?_ | refine GD_ft ?_ | refine CN_true (by first | omega | (simp; done) | (simp; omega)) ?_ | refine CN_false (by first | omega | (simp; done) | (simp; omega)) ?_ | refine GD_true (by first | omega | (simp; done) | (simp; omega)) ?_ | refine GD_true' (by first | omega | (simp; done) | (simp; omega)) ?_ | refine GD_false (by first | omega | (simp; done) | (simp; omega)) ?_ | refine GD_false' (by first | omega | (simp; done) | (simp; omega)) ?_ | refine Sh.crN m ?_ | refine Sh.cr1 m ?_ | refine Sh.svI m (by first | omega | decide) (by first | omega | (simp; done) | (simp; omega)) fun q_ _ hp_ => ?_ | refine Sh.hvI m (by first | omega | decide) (by first | omega | (simp; done) | (simp; omega)) fun q_ _ hp_ => ?_ | refine Sh.svF m fun q_ _ hp_ => ?_ | refine Sh.hvF m fun q_ _ hp_ => ?_))
          refine n96 (m.call (image_change _ _ _ _ _ _ (by first | (simp; omega) | simp)) ?_)
          rintro v1 w m1
          have := m1.isl (v := v1)
          replace m := m.fr Frm.nil m1; simp only [List.cons_append, List.nil_append] at m
          have hc3 := ao _ (changeOf_len b.name a.data b.data true true)
          (repeat (first | refine Sh.sv m ?_ | refine Sh.hv ?_ | (refine Sh.sw m ?_; clear m; intro g_ w m) | (refine Sh.su m ?_; clear m; intro w m) | (refine Sh.suN m ?_; clear m; intro w m) | (refine Sh.hr m ?_; clear m; intro m) | refine Sh.rsS m ?_ | refine Sh.hd m ?_ | refine Sh.rsK [] m ?_ | refine CN_tt ?_ | refine CN_ff ?_ | refine GD_tt ?_ | refine GD_ff ?_ | refine GD_tf ?_ | refine GD_ft ?_ | refine CN_true (by first | omega | (simp; done) | (simp; omega)) ?_ | refine CN_false (by first | omega | (simp; done) | (simp; omega)) ?_ | refine GD_true (by first | omega | (simp; done) | (simp; omega)) ?_ | refine GD_true' (by first | omega | (simp; done) | (simp; omega)) ?_ | refine GD_false (by first | omega | (simp; done) | (simp; omega)) ?_ | refine GD_false' (by first | omega | (simp; done) | (simp; omega)) ?_ | refine Sh.crN m ?_ | refine Sh.cr1 m ?_ | refine Sh.svI m (by first | omega | decide) (by first | omega | (simp; done) | (simp; omega)) fun q_ _ hp_ => ?_ | refine Sh.hvI m (by first | omega | decide) (by first | omega | (simp; done) | (simp; omega)) fun q_ _ hp_ => ?_ | refine Sh.svF m fun q_ _ hp_ => ?_ | refine Sh.hvF m fun q_ _ hp_ => ?_))
          refine ap m hc3.1 hc3.2 ?_; clear m; intro v2 w _ m
          (repeat (first | refine Sh.sv m ?_ | refine Sh.hv ?_ | (refine Sh.sw m ?_; clear m; intro g_ w m) | (refine Sh.su m ?_; clear m; intro w m) | (refine Sh.suN m ?_; clear m; intro w m) | (refine Sh.hr m ?_; clear m; intro m) | refine Sh.rsS m ?_ | refine Sh.hd m ?_ | refine Sh.rsK [] m ?_ | refine CN_tt ?_ | refine CN_ff ?_ | refine GD_tt ?_ | refine GD_ff ?_ | refine GD_tf ?_ | refine GD_ft ?_ | refine CN_true (by first | omega | (simp; done) | (simp; omega)) ?_ | refine CN_false (by first | omega | (simp; done) | (simp; omega)) ?_ | refine GD_true (by first | omega | (simp; done) | (simp; omega)) ?_ | refine GD_true' (by first | omega | (simp; done) | (simp; omega)) ?_ | refine GD_false (by first | omega | (simp; done) | (simp; omega)) ?_ | refine GD_false' (by first | omega | (simp; done) | (simp; omega)) ?_ | refine Sh.crN m ?_ | refine Sh.cr1 m ?_ | refine Sh.svI m (by first | omega | decide) (by first | omega | (simp; done) | (simp; omega)) fun q_ _ hp_ => ?_ | refine Sh.hvI m (by first | omega | decide) (by first | omega | (simp; done) | (simp; omega)) fun q_ _ hp_ => ?_ | refine Sh.svF m fun q_ _ hp_ => ?_ | refine Sh.hvF m fun q_ _ hp_ => ?_))
          refine hvL m (by decide) (by simp; omega) fun p2 hp2 => ?_
          refine hvL m (by decide) (by simp; omega) fun q2 hq2 => ?_
          replace m := m.addL hp2
          replace m := m.addL hq2
          (repeat (first | refine Sh.sv m ?_ | refine Sh.hv ?_ | (refine Sh.sw m ?_; clear m; intro g_ w m) | (refine Sh.su m ?_; clear m; intro w m) | (refine Sh.suN m ?_; clear m; intro w m) | (refine Sh.hr m ?_; clear m; intro m) | refine Sh.rsS m ?_ | refine Sh.hd m ?_ | refine Sh.rsK [] m ?_ | refine CN_tt ?_ | refine CN_ff ?_ | refine GD_tt ?_ | refine GD_ff ?_ | refine GD_tf ?_ | refine GD_ft ?_ | refine CN_true (by first | omega | (simp; done) | (simp; omega)) ?_ | refine CN_false (by first | omega | (simp; done) | (simp; omega)) ?_ | refine GD_true (by first | omega | (simp; done) | (simp; omega)) ?_ | refine GD_true' (by first | omega | (simp; done) | (simp; omega)) ?_ | refine GD_false (by first | omega | (simp; done) | (simp; omega)) ?_ | refine GD_false' (by first | omega | (simp; done) | (simp; omega)) ?_ | refine Sh.crN m ?_ | refine Sh.cr1 m ?_ | refine Sh.svI m (by first | omega | decide) (by first | omega | (simp; done) | (simp; omega)) fun q_ _ hp_ => ?_ | refine Sh.hvI m (by first | omega | decide) (by first | omega | (simp; done) | (simp; omega)) fun q_ _ hp_ => ?_ | refine Sh.svF m fun q_ _ hp_ => ?_ | refine Sh.hvF m fun q_ _ hp_ => ?_))
          simp only [Int.toNat_zero, Int.toNat_one, List.drop_succ_cons, List.drop_zero, List.getElem_cons_zero] at m
          refine ⟨⟨v2, p2, q2, _, os, ns, rfl, hacc, hnd', by omega, by omega, m.sub (by repeat (first | exact Frm.nil | (with_reducible exact Rem.dup) | (with_reducible exact Rem.here) | apply Frm.cons | apply Rem.there))⟩, ?_⟩
          have hp2 := m.vlen p2
          have hq2 := m.vlen q2
          simp only [hp, hq, hp2, hq2, List.length_cons]; omega
end Go.Proofs.YtkdghnbogkbedaaGreatDoor

namespace Go.Proofs.YtkdghnbogkbedaaGreatDoor
open Go Go.Sh
set_option maxRecDepth 100000


theorem mixedXRef21 : Tryz.prog.follows .mixedOrders = true := by kernel_rfl

/-! ### 30: scrinium/scriniumref21.SameOps -/

def s30_l1 (P : Program) (k : Value → World → Prop) (a0_a : Value) (a1_b : Value) (i5 : Value) (next : List Value → World → Prop) (w : World) : Prop :=
  SV P (Builtin.len_ #[57] 3 #[a0_a]) w fun t13 w =>
  SV P (binOp .lss 3 i5 t13) w fun t14 w =>
  CN t14
  (HR w fun C w =>
  HV P C (Instr.indexAt 57 a0_a i5) fun t19 =>
  HV P C (Instr.loadAt 150 t19) fun t20 =>
  HV P C (Instr.indexAt 57 a1_b i5) fun t23 =>
  HV P C (Instr.loadAt 150 t23) fun t24 =>
  HV P C (eqS .neq 150 (.tmp 20) (.tmp 24) t20 t24) fun t25 =>
  CN t25
  (k (Value.bool false) w)
  (SV P (binOp .add 3 i5 (Value.int .i64 1)) w fun t16 w =>
  next [t16] w))
  (k (Value.bool true) w)

def s30 (P : Program) (k : Value → World → Prop) (a0_a : Value) (a1_b : Value) (w : World) : Prop :=
  SV P (Builtin.len_ #[57] 3 #[a0_a]) w fun t7 w =>
  SV P (Builtin.len_ #[57] 3 #[a1_b]) w fun t9 w =>
  SV P (eqS .neq 3 (.tmp 7) (.tmp 9) t7 t9) w fun t10 w =>
  CN t10
  (k (Value.bool false) w)
  (LP 1 [(Value.int .i64 0)] w (fun next _ us w => s30_l1 P k a0_a a1_b (us.getD 0 undef) next w))

theorem e30 (k : Value → World → Prop) (a0_a a1_b : Value) (w : World) : s30 Tryz.prog k a0_a a1_b w = vcF Tryz.prog Tryz.f30 [5] [a0_a, a1_b] k w := by kernel_rfl
theorem c30 {k : Value → World → Prop} {a0_a a1_b : Value} {w : World} (h : s30 Tryz.prog k a0_a a1_b w) : Calls Tryz.prog 30 #[a0_a, a1_b] w (retP k) :=
  calls_of_vcF [5] mixedXRef21 Tryz.func30 (by kernel_rfl) (Eq.mp (e30 k a0_a a1_b w) h)
theorem n30 {args : Array Value} {w : World} {k : Value → World → Prop} (h : Calls Tryz.prog 30 args w (retP k)) : SN Tryz.prog (callFunc 30 args) w k := sn_call Tryz.func30 (by kernel_rfl) (by kernel_rfl) h

/-! ### 32: scrinium/scriniumref21.Diff -/

def s32_j1 (P : Program) (_ : Value → World → Prop) (next : List Value → World → Prop) (name8_1 : Value) (t62 : Value) (t68 : Value) (t69 : Value) (i6_1 : Value) (k7_1 : Value) (out5_2 : Value) (w : World) : Prop :=
  SV P (Op.unary .not t69) w fun t95 w =>
  CN t95
  (SV P (Instr.build 150 #[(0, (Value.int .i64 4)), (1, name8_1)]) w fun t98 w =>
  SV P (Instr.buildSlice 57 1 #[(0, t98)]) w fun t99 w =>
  SV P (Builtin.append_ #[57, 57] 57 #[out5_2, t99]) w fun t100 w =>
  next [name8_1, i6_1, k7_1, t100] w)
  (SN P (callFunc 98 #[t68, t62]) w fun t103 w =>
  SN P (callFunc 98 #[t62, t68]) w fun t106 w =>
  SV P (eqS .eql 9 (.tmp 107) (.tmp 108) t62 t68) w fun t109 w =>
  CN t109
  (next [name8_1, i6_1, k7_1, out5_2] w)
  (CN t103
  (SV P (Builtin.len_ #[9] 3 #[t62]) w fun t115 w =>
  SV P (Instr.sliceAt 9 t68 (some t115) none none) w fun t116 w =>
  SV P (Instr.build 150 #[(0, (Value.int .i64 2)), (1, name8_1), (2, t116)]) w fun t117 w =>
  SV P (Instr.buildSlice 57 1 #[(0, t117)]) w fun t118 w =>
  SV P (Builtin.append_ #[57, 57] 57 #[out5_2, t118]) w fun t119 w =>
  next [name8_1, i6_1, k7_1, t119] w)
  (CN t106
  (SV P (Builtin.len_ #[9] 3 #[t68]) w fun t124 w =>
  SV P (Instr.build 150 #[(0, (Value.int .i64 3)), (1, name8_1), (3, t124)]) w fun t125 w =>
  SV P (Instr.buildSlice 57 1 #[(0, t125)]) w fun t126 w =>
  SV P (Builtin.append_ #[57, 57] 57 #[out5_2, t126]) w fun t127 w =>
  next [name8_1, i6_1, k7_1, t127] w)
  (SV P (Instr.build 150 #[(0, (Value.int .i64 5)), (1, name8_1), (2, t68)]) w fun t131 w =>
  SV P (Instr.buildSlice 57 1 #[(0, t131)]) w fun t132 w =>
  SV P (Builtin.append_ #[57, 57] 57 #[out5_2, t132]) w fun t133 w =>
  next [name8_1, i6_1, k7_1, t133] w))))

def s32_j2 (P : Program) (k : Value → World → Prop) (next : List Value → World → Prop) (name8_1 : Value) (t62 : Value) (t68 : Value) (t69 : Value) (i6_1 : Value) (k7_1 : Value) (out5_1 : Value) (w : World) : Prop :=
  JP 1 (fun j =>
  SV P (Op.unary .not t69) w fun t84 w =>
  GD t84 true
  (SV P (eqS .neq 9 (.tmp 86) (.const (str [])) t62 (str [])) w fun t87 w =>
  CN t87
  (SV P (Instr.build 150 #[(0, (Value.int .i64 3)), (1, name8_1)]) w fun t91 w =>
  SV P (Instr.buildSlice 57 1 #[(0, t91)]) w fun t92 w =>
  SV P (Builtin.append_ #[57, 57] 57 #[out5_1, t92]) w fun t93 w =>
  j [t93] w)
  (j [out5_1] w))
  (j [out5_1] w))
  (fun _ us w => s32_j1 P k next name8_1 t62 t68 t69 i6_1 k7_1 (us.getD 0 undef) w)

def s32_j3 (P : Program) (k : Value → World → Prop) (out5 : Value) (next : List Value → World → Prop) (name8_1 : Value) (t62 : Value) (t63 : Value) (t68 : Value) (t69 : Value) (i6_1 : Value) (k7_1 : Value) (w : World) : Prop :=
  JP 1 (fun j =>
  SV P (Op.unary .not t63) w fun t77 w =>
  CN t77
  (SV P (Instr.build 150 #[(0, (Value.int .i64 1)), (1, name8_1)]) w fun t80 w =>
  SV P (Instr.buildSlice 57 1 #[(0, t80)]) w fun t81 w =>
  SV P (Builtin.append_ #[57, 57] 57 #[out5, t81]) w fun t82 w =>
  j [t82] w)
  (j [out5] w))
  (fun _ us w => s32_j2 P k next name8_1 t62 t68 t69 i6_1 k7_1 (us.getD 0 undef) w)

def s32_j4 (P : Program) (k : Value → World → Prop) (k7 : Value) (out5 : Value) (next : List Value → World → Prop) (name8_1 : Value) (t62 : Value) (t63 : Value) (t68 : Value) (t69 : Value) (i6_1 : Value) (w : World) : Prop :=
  JP 1 (fun j =>
  CN t69
  (SV P (binOp .add 3 k7 (Value.int .i64 1)) w fun t75 w =>
  j [t75] w)
  (j [k7] w))
  (fun _ us w => s32_j3 P k out5 next name8_1 t62 t63 t68 t69 i6_1 (us.getD 0 undef) w)

def s32_j5 (P : Program) (k : Value → World → Prop) (a0_old : Value) (a1_now : Value) (i6 : Value) (k7 : Value) (out5 : Value) (next : List Value → World → Prop) (name8_1 : Value) (w : World) : Prop :=
  SN P (callFunc 97 #[a0_old, name8_1]) w fun t61 w =>
  SV P (Instr.extract t61 0) w fun t62 w =>
  SV P (Instr.extract t61 1) w fun t63 w =>
  SN P (callFunc 97 #[a1_now, name8_1]) w fun t67 w =>
  SV P (Instr.extract t67 0) w fun t68 w =>
  SV P (Instr.extract t67 1) w fun t69 w =>
  JP 1 (fun j =>
  CN t63
  (SV P (binOp .add 3 i6 (Value.int .i64 1)) w fun t72 w =>
  j [t72] w)
  (j [i6] w))
  (fun _ us w => s32_j4 P k k7 out5 next name8_1 t62 t63 t68 t69 (us.getD 0 undef) w)

def s32_l1 (P : Program) (k : Value → World → Prop) (a0_old : Value) (a1_now : Value) (i6 : Value) (k7 : Value) (out5 : Value) (next : List Value → World → Prop) (w : World) : Prop :=
  SV P (Builtin.len_ #[52] 3 #[a0_old]) w fun t17 w =>
  SV P (binOp .lss 3 i6 t17) w fun t18 w =>
  GD t18 false
  (SV P (Builtin.len_ #[52] 3 #[a1_now]) w fun t22 w =>
  SV P (binOp .lss 3 k7 t22) w fun t23 w =>
  CN t23
  (JP 1 (fun j =>
  HR w fun C w =>
  HV P C (Builtin.len_ #[52] 3 #[a0_old]) fun t27 =>
  HV P C (binOp .lss 3 i6 t27) fun t28 =>
  GD t28 true
  (HV P C (Builtin.len_ #[52] 3 #[a1_now]) fun t32 =>
  HV P C (eqS .eql 3 (.tmp 30) (.tmp 32) k7 t32) fun t33 =>
  GD t33 false
  (HV P C (Instr.indexAt 52 a0_old i6) fun t37 =>
  HV P C (Instr.fieldAt 55 t37 0) fun t38 =>
  HV P C (Instr.loadAt 9 t38) fun t39 =>
  HV P C (Instr.indexAt 52 a1_now k7) fun t42 =>
  HV P C (Instr.fieldAt 55 t42 0) fun t43 =>
  HV P C (Instr.loadAt 9 t43) fun t44 =>
  HV P C (binOp .leq 9 t39 t44) fun t45 =>
  CN t45
  (SV P (Instr.indexAt 52 a0_old i6) w fun t50 w =>
  SV P (Instr.fieldAt 55 t50 0) w fun t51 w =>
  SV P (Instr.loadAt 9 t51) w fun t52 w =>
  j [t52] w)
  (SV P (Instr.indexAt 52 a1_now k7) w fun t55 w =>
  SV P (Instr.fieldAt 55 t55 0) w fun t56 w =>
  SV P (Instr.loadAt 9 t56) w fun t57 w =>
  j [t57] w))
  (SV P (Instr.indexAt 52 a0_old i6) w fun t50 w =>
  SV P (Instr.fieldAt 55 t50 0) w fun t51 w =>
  SV P (Instr.loadAt 9 t51) w fun t52 w =>
  j [t52] w))
  (SV P (Instr.indexAt 52 a1_now k7) w fun t55 w =>
  SV P (Instr.fieldAt 55 t55 0) w fun t56 w =>
  SV P (Instr.loadAt 9 t56) w fun t57 w =>
  j [t57] w))
  (fun _ us w => s32_j5 P k a0_old a1_now i6 k7 out5 next (us.getD 0 undef) w))
  (k out5 w))
  (JP 1 (fun j =>
  HR w fun C w =>
  HV P C (Builtin.len_ #[52] 3 #[a0_old]) fun t27 =>
  HV P C (binOp .lss 3 i6 t27) fun t28 =>
  GD t28 true
  (HV P C (Builtin.len_ #[52] 3 #[a1_now]) fun t32 =>
  HV P C (eqS .eql 3 (.tmp 30) (.tmp 32) k7 t32) fun t33 =>
  GD t33 false
  (HV P C (Instr.indexAt 52 a0_old i6) fun t37 =>
  HV P C (Instr.fieldAt 55 t37 0) fun t38 =>
  HV P C (Instr.loadAt 9 t38) fun t39 =>
  HV P C (Instr.indexAt 52 a1_now k7) fun t42 =>
  HV P C (Instr.fieldAt 55 t42 0) fun t43 =>
  HV P C (Instr.loadAt 9 t43) fun t44 =>
  HV P C (binOp .leq 9 t39 t44) fun t45 =>
  CN t45
  (SV P (Instr.indexAt 52 a0_old i6) w fun t50 w =>
  SV P (Instr.fieldAt 55 t50 0) w fun t51 w =>
  SV P (Instr.loadAt 9 t51) w fun t52 w =>
  j [t52] w)
  (SV P (Instr.indexAt 52 a1_now k7) w fun t55 w =>
  SV P (Instr.fieldAt 55 t55 0) w fun t56 w =>
  SV P (Instr.loadAt 9 t56) w fun t57 w =>
  j [t57] w))
  (SV P (Instr.indexAt 52 a0_old i6) w fun t50 w =>
  SV P (Instr.fieldAt 55 t50 0) w fun t51 w =>
  SV P (Instr.loadAt 9 t51) w fun t52 w =>
  j [t52] w))
  (SV P (Instr.indexAt 52 a1_now k7) w fun t55 w =>
  SV P (Instr.fieldAt 55 t55 0) w fun t56 w =>
  SV P (Instr.loadAt 9 t56) w fun t57 w =>
  j [t57] w))
  (fun _ us w => s32_j5 P k a0_old a1_now i6 k7 out5 next (us.getD 0 undef) w))

def s32 (P : Program) (k : Value → World → Prop) (a0_old : Value) (a1_now : Value) (w : World) : Prop :=
  LP 4 [undef, (Value.int .i64 0), (Value.int .i64 0), (Value.slice none 0 0)] w (fun next _ us w => s32_l1 P k a0_old a1_now (us.getD 1 undef) (us.getD 2 undef) (us.getD 3 undef) next w)

theorem e32 (k : Value → World → Prop) (a0_old a1_now : Value) (w : World) : s32 Tryz.prog k a0_old a1_now w = vcF Tryz.prog Tryz.f32 [5, 6, 7, 8] [a0_old, a1_now] k w := by kernel_rfl
theorem c32 {k : Value → World → Prop} {a0_old a1_now : Value} {w : World} (h : s32 Tryz.prog k a0_old a1_now w) : Calls Tryz.prog 32 #[a0_old, a1_now] w (retP k) :=
  calls_of_vcF [5, 6, 7, 8] mixedXRef21 Tryz.func32 (by kernel_rfl) (Eq.mp (e32 k a0_old a1_now w) h)
theorem n32 {args : Array Value} {w : World} {k : Value → World → Prop} (h : Calls Tryz.prog 32 args w (retP k)) : SN Tryz.prog (callFunc 32 args) w k := sn_call Tryz.func32 (by kernel_rfl) (by kernel_rfl) h

/-! ### 97: scrinium/scriniumref21.find -/

def s97_l1 (P : Program) (k : Value → World → Prop) (a0_l : Value) (a1_name : Value) (i6 : Value) (next : List Value → World → Prop) (w : World) : Prop :=
  SV P (Builtin.len_ #[52] 3 #[a0_l]) w fun t9 w =>
  SV P (binOp .lss 3 i6 t9) w fun t10 w =>
  CN t10
  (SV P (Instr.indexAt 52 a0_l i6) w fun t15 w =>
  SV P (Instr.fieldAt 55 t15 0) w fun t16 w =>
  SV P (Instr.loadAt 9 t16) w fun t17 w =>
  SV P (eqS .eql 9 (.tmp 17) (.tmp 18) t17 a1_name) w fun t19 w =>
  CN t19
  (SV P (Instr.indexAt 52 a0_l i6) w fun t22 w =>
  SV P (Instr.fieldAt 55 t22 1) w fun t23 w =>
  SV P (Instr.loadAt 9 t23) w fun t24 w =>
  k (.tuple #[t24, (Value.bool true)]) w)
  (SV P (binOp .add 3 i6 (Value.int .i64 1)) w fun t12 w =>
  next [t12] w))
  (k (.tuple #[(str []), (Value.bool false)]) w)

def s97 (P : Program) (k : Value → World → Prop) (a0_l : Value) (a1_name : Value) (w : World) : Prop :=
  LP 1 [(Value.int .i64 0)] w (fun next _ us w => s97_l1 P k a0_l a1_name (us.getD 0 undef) next w)

theorem e97 (k : Value → World → Prop) (a0_l a1_name : Value) (w : World) : s97 Tryz.prog k a0_l a1_name w = vcF Tryz.prog Tryz.f97 [6] [a0_l, a1_name] k w := by kernel_rfl
theorem c97 {k : Value → World → Prop} {a0_l a1_name : Value} {w : World} (h : s97 Tryz.prog k a0_l a1_name w) : Calls Tryz.prog 97 #[a0_l, a1_name] w (retP k) :=
  calls_of_vcF [6] mixedXRef21 Tryz.func97 (by kernel_rfl) (Eq.mp (e97 k a0_l a1_name w) h)
theorem n97 {args : Array Value} {w : World} {k : Value → World → Prop} (h : Calls Tryz.prog 97 args w (retP k)) : SN Tryz.prog (callFunc 97 args) w k := sn_call Tryz.func97 (by kernel_rfl) (by kernel_rfl) h

/-! ### 98: scrinium/scriniumref21.begins -/

def s98 (P : Program) (k : Value → World → Prop) (a0_s : Value) (a1_t : Value) (w : World) : Prop :=
  SV P (Builtin.len_ #[9] 3 #[a0_s]) w fun t6 w =>
  SV P (Builtin.len_ #[9] 3 #[a1_t]) w fun t8 w =>
  SV P (binOp .geq 3 t6 t8) w fun t9 w =>
  GD t9 true
  (SV P (Builtin.len_ #[9] 3 #[a1_t]) w fun t13 w =>
  SV P (Instr.sliceAt 9 a0_s none (some t13) none) w fun t14 w =>
  SV P (eqS .eql 9 (.tmp 14) (.tmp 15) t14 a1_t) w fun t16 w =>
  k t16 w)
  (k (Value.bool false) w)

theorem e98 (k : Value → World → Prop) (a0_s a1_t : Value) (w : World) : s98 Tryz.prog k a0_s a1_t w = vcF Tryz.prog Tryz.f98 [] [a0_s, a1_t] k w := by kernel_rfl
theorem c98 {k : Value → World → Prop} {a0_s a1_t : Value} {w : World} (h : s98 Tryz.prog k a0_s a1_t w) : Calls Tryz.prog 98 #[a0_s, a1_t] w (retP k) :=
  calls_of_vcF [] mixedXRef21 Tryz.func98 (by kernel_rfl) (Eq.mp (e98 k a0_s a1_t w) h)
theorem n98 {args : Array Value} {w : World} {k : Value → World → Prop} (h : Calls Tryz.prog 98 args w (retP k)) : SN Tryz.prog (callFunc 98 args) w k := sn_call Tryz.func98 (by kernel_rfl) (by kernel_rfl) h

end Go.Proofs.YtkdghnbogkbedaaGreatDoor

namespace Go.Sh
open Go Go.RowKit

/-! ### The order of texts -/
theorem blt_cons (a b : UInt8) (x y : List UInt8) : Op.bytesLess (a :: x) (b :: y) = true ↔ a < b ∨ (a = b ∧ Op.bytesLess x y = true) := by
  simp [Op.bytesLess]
theorem blt_irr : ∀ (x : List UInt8), Op.bytesLess x x = false
  | [] => rfl
  | a :: x => by
    have := blt_irr x
    cases h : Op.bytesLess (a :: x) (a :: x) with
    | false => rfl
    | true =>
      rw [blt_cons] at h
      rcases h with h | ⟨_, h⟩
      · exact absurd h (UInt8.lt_irrefl a)
      · rw [this] at h; cases h
theorem blt_trans : ∀ {x y z : List UInt8}, Op.bytesLess x y = true → Op.bytesLess y z = true → Op.bytesLess x z = true
  | [], [], _, h, _ => by simp [Op.bytesLess] at h
  | [], _ :: _, [], _, h => by simp [Op.bytesLess] at h
  | [], _ :: _, _ :: _, _, _ => rfl
  | _ :: _, [], _, h, _ => by simp [Op.bytesLess] at h
  | _ :: _, _ :: _, [], _, h => by simp [Op.bytesLess] at h
  | a :: x, b :: y, c :: z, h, k => by
    rw [blt_cons] at h k ⊢
    rcases h with h | ⟨rfl, h⟩ <;> rcases k with k | ⟨rfl, k⟩
    · exact .inl (UInt8.lt_trans h k)
    · exact .inl h
    · exact .inl k
    · exact .inr ⟨rfl, blt_trans h k⟩
theorem blt_tri : ∀ (x y : List UInt8), Op.bytesLess x y = true ∨ x = y ∨ Op.bytesLess y x = true
  | [], [] => .inr (.inl rfl)
  | [], _ :: _ => .inl rfl
  | _ :: _, [] => .inr (.inr rfl)
  | a :: x, b :: y => by
    rw [blt_cons, blt_cons]
    rcases Nat.lt_trichotomy a.toNat b.toNat with h | h | h
    · exact .inl (.inl (UInt8.lt_iff_toNat_lt.2 h))
    · have := UInt8.toNat_inj.1 h
      subst this
      rcases blt_tri x y with h | rfl | h
      · exact .inl (.inr ⟨rfl, h⟩)
      · exact .inr (.inl rfl)
      · exact .inr (.inr (.inr ⟨rfl, h⟩))
    · exact .inr (.inr (.inl (UInt8.lt_iff_toNat_lt.2 h)))
theorem blt_asymm {x y : List UInt8} (h : Op.bytesLess x y = true) : Op.bytesLess y x = false := by
  cases k : Op.bytesLess y x with
  | false => rfl
  | true => have := blt_trans h k; rw [blt_irr] at this; cases this
theorem blt_ne {x y : List UInt8} (h : Op.bytesLess x y = true) : x ≠ y := by
  rintro rfl; rw [blt_irr] at h; cases h

def findF (l : List File) (n : List UInt8) : Option (List UInt8) := (l.find? fun f => decide (f.name = n)).map (·.data)
/-- The names rise. -/
def Rises (l : List File) : Prop := l.Pairwise fun a b => Op.bytesLess a.name b.name = true
theorem findF_none {l : List File} {n : List UInt8} (h : ∀ f ∈ l, f.name ≠ n) : findF l n = none := by
  unfold findF
  rw [List.find?_eq_none.2 (by simpa using h)]; rfl
theorem findF_at {p q : List File} {a : File} (h : ∀ f ∈ p, f.name ≠ a.name) : findF (p ++ a :: q) a.name = some a.data := by
  unfold findF
  rw [List.find?_append, List.find?_eq_none.2 (by simpa using h)]
  simp
end Go.Sh
namespace Go.Proofs.YtkdghnbogkbedaaGreatDoor
open Go Go.Sh Go.RowKit
set_option maxRecDepth 100000
set_option maxHeartbeats 1000000
set_option linter.unusedSimpArgs false
set_option linter.unusedVariables false

instance : StT Tryz.prog 150 [(3, 0), (9, 1), (9, 2), (3, 3)] := ⟨by kernel_rfl, by kernel_rfl, by kernel_rfl, by kernel_rfl, by kernel_rfl⟩
instance : StT Tryz.prog 55 [(9, 0), (9, 1)] := ⟨by kernel_rfl, by kernel_rfl, by kernel_rfl, by kernel_rfl, by kernel_rfl⟩
theorem eq_op (a b : FileOp) (w : World) : (Op.equalIn (9997 + 3) 150 (ag a.cells) (ag b.cells)).run Tryz.prog w = .ok (decide (a = b)) w := by
  refine eqr_struct (d := 9999) ?_ w
  refine ⟨_, _, _, _, part_one rfl, part_one rfl, eqr_int 9998, ⟨_, _, _, _, part_one rfl, part_one rfl, eqr_str 9998, ⟨_, _, _, _, part_one rfl, part_one rfl, eqr_str 9998, ⟨_, _, _, _, part_one rfl, part_one rfl, eqr_int 9998, rfl, rfl⟩, rfl⟩, rfl⟩, ?_⟩
  cases a; cases b
  simp [Bool.decide_and, decide_eq_true_eq]
instance {a b : FileOp} {x y : Operand} : PuC Tryz.prog (eqS .neq 150 x y (ag a.cells) (ag b.cells)) (.bool (!decide (a = b))) True := ⟨fun _ => neS_agg (StT.guard (P := Tryz.prog) (t := 150)) fun w => eq_op a b w⟩

theorem ref_find {v : Value} {l : List File} {n : List UInt8} {w0 : World} (h : Mem w0 [sl eFile v l]) (hl : l.length ≤ 1000000) :
    Ret Tryz.prog 97 #[v, str n] w0 (.tuple #[str ((findF l n).getD []), .bool (findF l n).isSome]) := by
  have m := St.start h
  refine c97 ?_
  unfold s97
  refine LP_intro (fun us w => ∃ i : Nat, us = [.int .i64 i] ∧ i ≤ l.length ∧ findF l n = findF (l.drop i) n ∧ St w0 [sl eFile v l] w [sl eFile v l])
    (fun us _ => match us with | [.int _ t] => l.length - t.toNat | _ => 0) ⟨0, rfl, Nat.zero_le _, rfl, m⟩ ?_
  clear m
  rintro us hus ζ w ⟨i, rfl, hi, hf, m⟩
  unfold s97_l1
  simp only [List.getD_cons_zero, List.getD_cons_succ]
  by_cases hlt : i < l.length
  · rw [List.drop_eq_getElem_cons hlt] at hf
    (repeat (first | refine Sh.sv m ?_ | refine Sh.hv ?_ | (refine Sh.sw m ?_; clear m; intro g_ w m) | (refine Sh.su m ?_; clear m; intro w m) | (refine Sh.suN m ?_; clear m; intro w m) | (refine Sh.hr m ?_; clear m; intro m) | refine Sh.rsS m ?_ | refine Sh.hd m ?_ | refine Sh.rsK [] m ?_ | refine CN_tt ?_ | refine CN_ff ?_ | refine GD_tt ?_ | refine GD_ff ?_ | refine GD_tf ?_ | refine GD_ft ?_ | refine CN_true (by first | omega | (simp; done) | (simp; omega)) ?_ | refine CN_false (by first | omega | (simp; done) | (simp; omega)) ?_ | refine GD_true (by first | omega | (simp; done) | (simp; omega)) ?_ | refine GD_true' (by first | omega | (simp; done) | (simp; omega)) ?_ | refine GD_false (by first | omega | (simp; done) | (simp; omega)) ?_ | refine GD_false' (by first | omega | (simp; done) | (simp; omega)) ?_ | refine Sh.crN m ?_ | refine Sh.cr1 m ?_ | refine Sh.svI m (by first | omega | decide) (by first | omega | (simp; done) | (simp; omega)) fun q_ _ hp_ => ?_ | refine Sh.hvI m (by first | omega | decide) (by first | omega | (simp; done) | (simp; omega)) fun q_ _ hp_ => ?_ | refine Sh.svF m fun q_ _ hp_ => ?_ | refine Sh.hvF m fun q_ _ hp_ => ?_))
    simp only [Int.toNat_natCast]
    refine CN_split (fun h1 => ?_) (fun h1 => ?_)
    · rw [hf, ← h1]
      have := findF_at (p := []) (q := l.drop (i + 1)) (a := l[i]) (by simp)
      rw [List.nil_append] at this
      rw [this]
      (repeat (first | refine Sh.sv m ?_ | refine Sh.hv ?_ | (refine Sh.sw m ?_; clear m; intro g_ w m) | (refine Sh.su m ?_; clear m; intro w m) | (refine Sh.suN m ?_; clear m; intro w m) | (refine Sh.hr m ?_; clear m; intro m) | refine Sh.rsS m ?_ | refine Sh.hd m ?_ | refine Sh.rsK [] m ?_ | refine CN_tt ?_ | refine CN_ff ?_ | refine GD_tt ?_ | refine GD_ff ?_ | refine GD_tf ?_ | refine GD_ft ?_ | refine CN_true (by first | omega | (simp; done) | (simp; omega)) ?_ | refine CN_false (by first | omega | (simp; done) | (simp; omega)) ?_ | refine GD_true (by first | omega | (simp; done) | (simp; omega)) ?_ | refine GD_true' (by first | omega | (simp; done) | (simp; omega)) ?_ | refine GD_false (by first | omega | (simp; done) | (simp; omega)) ?_ | refine GD_false' (by first | omega | (simp; done) | (simp; omega)) ?_ | refine Sh.crN m ?_ | refine Sh.cr1 m ?_ | refine Sh.svI m (by first | omega | decide) (by first | omega | (simp; done) | (simp; omega)) fun q_ _ hp_ => ?_ | refine Sh.hvI m (by first | omega | decide) (by first | omega | (simp; done) | (simp; omega)) fun q_ _ hp_ => ?_ | refine Sh.svF m fun q_ _ hp_ => ?_ | refine Sh.hvF m fun q_ _ hp_ => ?_))
      exact ⟨by simp, m.ch.mono fun _ _ h => by cases h⟩
    · (repeat (first | refine Sh.sv m ?_ | refine Sh.hv ?_ | (refine Sh.sw m ?_; clear m; intro g_ w m) | (refine Sh.su m ?_; clear m; intro w m) | (refine Sh.suN m ?_; clear m; intro w m) | (refine Sh.hr m ?_; clear m; intro m) | refine Sh.rsS m ?_ | refine Sh.hd m ?_ | refine Sh.rsK [] m ?_ | refine CN_tt ?_ | refine CN_ff ?_ | refine GD_tt ?_ | refine GD_ff ?_ | refine GD_tf ?_ | refine GD_ft ?_ | refine CN_true (by first | omega | (simp; done) | (simp; omega)) ?_ | refine CN_false (by first | omega | (simp; done) | (simp; omega)) ?_ | refine GD_true (by first | omega | (simp; done) | (simp; omega)) ?_ | refine GD_true' (by first | omega | (simp; done) | (simp; omega)) ?_ | refine GD_false (by first | omega | (simp; done) | (simp; omega)) ?_ | refine GD_false' (by first | omega | (simp; done) | (simp; omega)) ?_ | refine Sh.crN m ?_ | refine Sh.cr1 m ?_ | refine Sh.svI m (by first | omega | decide) (by first | omega | (simp; done) | (simp; omega)) fun q_ _ hp_ => ?_ | refine Sh.hvI m (by first | omega | decide) (by first | omega | (simp; done) | (simp; omega)) fun q_ _ hp_ => ?_ | refine Sh.svF m fun q_ _ hp_ => ?_ | refine Sh.hvF m fun q_ _ hp_ => ?_))
      refine ⟨⟨i + 1, rfl, hlt, ?_, m⟩, ?_⟩
      · rw [hf]; unfold findF; rw [List.find?_cons_of_neg (by simpa using h1)]
      · show l.length - ((i : Int) + 1).toNat < l.length - (i : Int).toNat
        omega
  · (repeat (first | refine Sh.sv m ?_ | refine Sh.hv ?_ | (refine Sh.sw m ?_; clear m; intro g_ w m) | (refine Sh.su m ?_; clear m; intro w m) | (refine Sh.suN m ?_; clear m; intro w m) | (refine Sh.hr m ?_; clear m; intro m) | refine Sh.rsS m ?_ | refine Sh.hd m ?_ | refine Sh.rsK [] m ?_ | refine CN_tt ?_ | refine CN_ff ?_ | refine GD_tt ?_ | refine GD_ff ?_ | refine GD_tf ?_ | refine GD_ft ?_ | refine CN_true (by first | omega | (simp; done) | (simp; omega)) ?_ | refine CN_false (by first | omega | (simp; done) | (simp; omega)) ?_ | refine GD_true (by first | omega | (simp; done) | (simp; omega)) ?_ | refine GD_true' (by first | omega | (simp; done) | (simp; omega)) ?_ | refine GD_false (by first | omega | (simp; done) | (simp; omega)) ?_ | refine GD_false' (by first | omega | (simp; done) | (simp; omega)) ?_ | refine Sh.crN m ?_ | refine Sh.cr1 m ?_ | refine Sh.svI m (by first | omega | decide) (by first | omega | (simp; done) | (simp; omega)) fun q_ _ hp_ => ?_ | refine Sh.hvI m (by first | omega | decide) (by first | omega | (simp; done) | (simp; omega)) fun q_ _ hp_ => ?_ | refine Sh.svF m fun q_ _ hp_ => ?_ | refine Sh.hvF m fun q_ _ hp_ => ?_))
    have : l.drop i = [] := List.drop_eq_nil_of_le (by omega)
    rw [hf, this]
    exact ⟨rfl, m.ch.mono fun _ _ h => by cases h⟩

theorem ref_begins (s p : List UInt8) (w0 : World) : Ret Tryz.prog 98 #[str s, str p] w0 (.bool (isPre p s)) := by
  refine c98 ?_
  unfold s98
  have m : St w0 [] w0 [] := St.nil w0
  by_cases h : p.length ≤ s.length
  · (repeat (first | refine Sh.sv m ?_ | refine Sh.hv ?_ | (refine Sh.sw m ?_; clear m; intro g_ w m) | (refine Sh.su m ?_; clear m; intro w m) | (refine Sh.suN m ?_; clear m; intro w m) | (refine Sh.hr m ?_; clear m; intro m) | refine Sh.rsS m ?_ | refine Sh.hd m ?_ | refine Sh.rsK [] m ?_ | refine CN_tt ?_ | refine CN_ff ?_ | refine GD_tt ?_ | refine GD_ff ?_ | refine GD_tf ?_ | refine GD_ft ?_ | refine CN_true (by first | omega | (simp; done) | (simp; omega)) ?_ | refine CN_false (by first | omega | (simp; done) | (simp; omega)) ?_ | refine GD_true (by first | omega | (simp; done) | (simp; omega)) ?_ | refine GD_true' (by first | omega | (simp; done) | (simp; omega)) ?_ | refine GD_false (by first | omega | (simp; done) | (simp; omega)) ?_ | refine GD_false' (by first | omega | (simp; done) | (simp; omega)) ?_ | refine Sh.crN m ?_ | refine Sh.cr1 m ?_ | refine Sh.svI m (by first | omega | decide) (by first | omega | (simp; done) | (simp; omega)) fun q_ _ hp_ => ?_ | refine Sh.hvI m (by first | omega | decide) (by first | omega | (simp; done) | (simp; omega)) fun q_ _ hp_ => ?_ | refine Sh.svF m fun q_ _ hp_ => ?_ | refine Sh.hvF m fun q_ _ hp_ => ?_))
    exact ⟨by simp [isPre]; omega, m.chNo⟩
  · (repeat (first | refine Sh.sv m ?_ | refine Sh.hv ?_ | (refine Sh.sw m ?_; clear m; intro g_ w m) | (refine Sh.su m ?_; clear m; intro w m) | (refine Sh.suN m ?_; clear m; intro w m) | (refine Sh.hr m ?_; clear m; intro m) | refine Sh.rsS m ?_ | refine Sh.hd m ?_ | refine Sh.rsK [] m ?_ | refine CN_tt ?_ | refine CN_ff ?_ | refine GD_tt ?_ | refine GD_ff ?_ | refine GD_tf ?_ | refine GD_ft ?_ | refine CN_true (by first | omega | (simp; done) | (simp; omega)) ?_ | refine CN_false (by first | omega | (simp; done) | (simp; omega)) ?_ | refine GD_true (by first | omega | (simp; done) | (simp; omega)) ?_ | refine GD_true' (by first | omega | (simp; done) | (simp; omega)) ?_ | refine GD_false (by first | omega | (simp; done) | (simp; omega)) ?_ | refine GD_false' (by first | omega | (simp; done) | (simp; omega)) ?_ | refine Sh.crN m ?_ | refine Sh.cr1 m ?_ | refine Sh.svI m (by first | omega | decide) (by first | omega | (simp; done) | (simp; omega)) fun q_ _ hp_ => ?_ | refine Sh.hvI m (by first | omega | decide) (by first | omega | (simp; done) | (simp; omega)) fun q_ _ hp_ => ?_ | refine Sh.svF m fun q_ _ hp_ => ?_ | refine Sh.hvF m fun q_ _ hp_ => ?_))
    exact ⟨by simp [isPre]; omega, m.chNo⟩

theorem ref_sameOps {u v : Value} {a b : List FileOp} {w0 : World} (h : Mem w0 [sl eOp u a, sl eOp v b]) (hl : a.length ≤ 1000000000) :
    Ret Tryz.prog 30 #[u, v] w0 (.bool (decide (a = b))) := by
  have m := St.start h
  refine c30 ?_
  unfold s30
  (repeat (first | refine Sh.sv m ?_ | refine Sh.hv ?_ | (refine Sh.sw m ?_; clear m; intro g_ w m) | (refine Sh.su m ?_; clear m; intro w m) | (refine Sh.suN m ?_; clear m; intro w m) | (refine Sh.hr m ?_; clear m; intro m) | refine Sh.rsS m ?_ | refine Sh.hd m ?_ | refine Sh.rsK [] m ?_ | refine CN_tt ?_ | refine CN_ff ?_ | refine GD_tt ?_ | refine GD_ff ?_ | refine GD_tf ?_ | refine GD_ft ?_ | refine CN_true (by first | omega | (simp; done) | (simp; omega)) ?_ | refine CN_false (by first | omega | (simp; done) | (simp; omega)) ?_ | refine GD_true (by first | omega | (simp; done) | (simp; omega)) ?_ | refine GD_true' (by first | omega | (simp; done) | (simp; omega)) ?_ | refine GD_false (by first | omega | (simp; done) | (simp; omega)) ?_ | refine GD_false' (by first | omega | (simp; done) | (simp; omega)) ?_ | refine Sh.crN m ?_ | refine Sh.cr1 m ?_ | refine Sh.svI m (by first | omega | decide) (by first | omega | (simp; done) | (simp; omega)) fun q_ _ hp_ => ?_ | refine Sh.hvI m (by first | omega | decide) (by first | omega | (simp; done) | (simp; omega)) fun q_ _ hp_ => ?_ | refine Sh.svF m fun q_ _ hp_ => ?_ | refine Sh.hvF m fun q_ _ hp_ => ?_))
  refine CN_split (fun h1 => ?_) (fun h1 => ?_)
  · exact ⟨by rw [decide_eq_false]; rintro rfl; exact h1 rfl, m.ch.mono fun _ _ h => by cases h⟩
  have hlen : a.length = b.length := by omega
  refine LP_intro (fun us w => ∃ i : Nat, us = [.int .i64 i] ∧ i ≤ a.length ∧ a.take i = b.take i ∧ St w0 [sl eOp u a, sl eOp v b] w [sl eOp u a, sl eOp v b])
    (fun us _ => match us with | [.int _ t] => a.length - t.toNat | _ => 0) ⟨0, rfl, Nat.zero_le _, rfl, m⟩ ?_
  clear m
  rintro us hus ζ w ⟨i, rfl, hi, hf, m⟩
  unfold s30_l1
  simp only [List.getD_cons_zero, List.getD_cons_succ]
  by_cases hlt : i < a.length
  · have hlt' : i < b.length := by omega
    (repeat (first | refine Sh.sv m ?_ | refine Sh.hv ?_ | (refine Sh.sw m ?_; clear m; intro g_ w m) | (refine Sh.su m ?_; clear m; intro w m) | (refine Sh.suN m ?_; clear m; intro w m) | (refine Sh.hr m ?_; clear m; intro m) | refine Sh.rsS m ?_ | refine Sh.hd m ?_ | refine Sh.rsK [] m ?_ | refine CN_tt ?_ | refine CN_ff ?_ | refine GD_tt ?_ | refine GD_ff ?_ | refine GD_tf ?_ | refine GD_ft ?_ | refine CN_true (by first | omega | (simp; done) | (simp; omega)) ?_ | refine CN_false (by first | omega | (simp; done) | (simp; omega)) ?_ | refine GD_true (by first | omega | (simp; done) | (simp; omega)) ?_ | refine GD_true' (by first | omega | (simp; done) | (simp; omega)) ?_ | refine GD_false (by first | omega | (simp; done) | (simp; omega)) ?_ | refine GD_false' (by first | omega | (simp; done) | (simp; omega)) ?_ | refine Sh.crN m ?_ | refine Sh.cr1 m ?_ | refine Sh.svI m (by first | omega | decide) (by first | omega | (simp; done) | (simp; omega)) fun q_ _ hp_ => ?_ | refine Sh.hvI m (by first | omega | decide) (by first | omega | (simp; done) | (simp; omega)) fun q_ _ hp_ => ?_ | refine Sh.svF m fun q_ _ hp_ => ?_ | refine Sh.hvF m fun q_ _ hp_ => ?_))
    simp only [Int.toNat_natCast]
    cases h2 : decide (a[i] = b[i]) with
    | false =>
      (repeat (first | refine Sh.sv m ?_ | refine Sh.hv ?_ | (refine Sh.sw m ?_; clear m; intro g_ w m) | (refine Sh.su m ?_; clear m; intro w m) | (refine Sh.suN m ?_; clear m; intro w m) | (refine Sh.hr m ?_; clear m; intro m) | refine Sh.rsS m ?_ | refine Sh.hd m ?_ | refine Sh.rsK [] m ?_ | refine CN_tt ?_ | refine CN_ff ?_ | refine GD_tt ?_ | refine GD_ff ?_ | refine GD_tf ?_ | refine GD_ft ?_ | refine CN_true (by first | omega | (simp; done) | (simp; omega)) ?_ | refine CN_false (by first | omega | (simp; done) | (simp; omega)) ?_ | refine GD_true (by first | omega | (simp; done) | (simp; omega)) ?_ | refine GD_true' (by first | omega | (simp; done) | (simp; omega)) ?_ | refine GD_false (by first | omega | (simp; done) | (simp; omega)) ?_ | refine GD_false' (by first | omega | (simp; done) | (simp; omega)) ?_ | refine Sh.crN m ?_ | refine Sh.cr1 m ?_ | refine Sh.svI m (by first | omega | decide) (by first | omega | (simp; done) | (simp; omega)) fun q_ _ hp_ => ?_ | refine Sh.hvI m (by first | omega | decide) (by first | omega | (simp; done) | (simp; omega)) fun q_ _ hp_ => ?_ | refine Sh.svF m fun q_ _ hp_ => ?_ | refine Sh.hvF m fun q_ _ hp_ => ?_))
      refine ⟨by rw [decide_eq_false]; rintro rfl; simp at h2, m.ch.mono fun _ _ h => by cases h⟩
    | true =>
      (repeat (first | refine Sh.sv m ?_ | refine Sh.hv ?_ | (refine Sh.sw m ?_; clear m; intro g_ w m) | (refine Sh.su m ?_; clear m; intro w m) | (refine Sh.suN m ?_; clear m; intro w m) | (refine Sh.hr m ?_; clear m; intro m) | refine Sh.rsS m ?_ | refine Sh.hd m ?_ | refine Sh.rsK [] m ?_ | refine CN_tt ?_ | refine CN_ff ?_ | refine GD_tt ?_ | refine GD_ff ?_ | refine GD_tf ?_ | refine GD_ft ?_ | refine CN_true (by first | omega | (simp; done) | (simp; omega)) ?_ | refine CN_false (by first | omega | (simp; done) | (simp; omega)) ?_ | refine GD_true (by first | omega | (simp; done) | (simp; omega)) ?_ | refine GD_true' (by first | omega | (simp; done) | (simp; omega)) ?_ | refine GD_false (by first | omega | (simp; done) | (simp; omega)) ?_ | refine GD_false' (by first | omega | (simp; done) | (simp; omega)) ?_ | refine Sh.crN m ?_ | refine Sh.cr1 m ?_ | refine Sh.svI m (by first | omega | decide) (by first | omega | (simp; done) | (simp; omega)) fun q_ _ hp_ => ?_ | refine Sh.hvI m (by first | omega | decide) (by first | omega | (simp; done) | (simp; omega)) fun q_ _ hp_ => ?_ | refine Sh.svF m fun q_ _ hp_ => ?_ | refine Sh.hvF m fun q_ _ hp_ => ?_))
      refine ⟨⟨i + 1, rfl, hlt, ?_, m⟩, ?_⟩
      · rw [List.take_succ_eq_append_getElem hlt, List.take_succ_eq_append_getElem hlt', hf, of_decide_eq_true h2]
      · show a.length - ((i : Int) + 1).toNat < a.length - (i : Int).toNat
        omega
  · (repeat (first | refine Sh.sv m ?_ | refine Sh.hv ?_ | (refine Sh.sw m ?_; clear m; intro g_ w m) | (refine Sh.su m ?_; clear m; intro w m) | (refine Sh.suN m ?_; clear m; intro w m) | (refine Sh.hr m ?_; clear m; intro m) | refine Sh.rsS m ?_ | refine Sh.hd m ?_ | refine Sh.rsK [] m ?_ | refine CN_tt ?_ | refine CN_ff ?_ | refine GD_tt ?_ | refine GD_ff ?_ | refine GD_tf ?_ | refine GD_ft ?_ | refine CN_true (by first | omega | (simp; done) | (simp; omega)) ?_ | refine CN_false (by first | omega | (simp; done) | (simp; omega)) ?_ | refine GD_true (by first | omega | (simp; done) | (simp; omega)) ?_ | refine GD_true' (by first | omega | (simp; done) | (simp; omega)) ?_ | refine GD_false (by first | omega | (simp; done) | (simp; omega)) ?_ | refine GD_false' (by first | omega | (simp; done) | (simp; omega)) ?_ | refine Sh.crN m ?_ | refine Sh.cr1 m ?_ | refine Sh.svI m (by first | omega | decide) (by first | omega | (simp; done) | (simp; omega)) fun q_ _ hp_ => ?_ | refine Sh.hvI m (by first | omega | decide) (by first | omega | (simp; done) | (simp; omega)) fun q_ _ hp_ => ?_ | refine Sh.svF m fun q_ _ hp_ => ?_ | refine Sh.hvF m fun q_ _ hp_ => ?_))
    have : a = b := by
      rw [List.take_of_length_le (by omega), List.take_of_length_le (by omega)] at hf; exact hf
    exact ⟨by simp [this], m.ch.mono fun _ _ h => by cases h⟩
end Go.Proofs.YtkdghnbogkbedaaGreatDoor

namespace Go.Sh
open Go Go.RowKit
/-- What of a file must change, by what is found of it. -/
def changeOpt (name : List UInt8) (a b : Option (List UInt8)) : List FileOp := changeOf name (a.getD []) (b.getD []) a.isSome b.isSome

theorem isPre_nil (l : List UInt8) : isPre [] l = true := by simp [isPre]
theorem isPre_self {a b : List UInt8} (h : isPre a b = true) (h2 : b.drop a.length = []) : a = b := by
  simp only [isPre, decide_eq_true_eq] at h
  have : b.length = a.length := by have := List.drop_eq_nil_iff.1 h2; omega
  rw [← h.2, ← this, List.take_length]
theorem rises_drop {l t : List File} {i : Nat} {a : File} (h : Rises l) (hd : l.drop i = a :: t) : (∀ y ∈ t, Op.bytesLess a.name y.name = true) ∧ (∀ x ∈ l.take i, Op.bytesLess x.name a.name = true) := by
  have e : l = l.take i ++ (a :: t) := by rw [← hd, List.take_append_drop]
  unfold Rises at h
  rw [e, List.pairwise_append] at h
  exact ⟨(List.pairwise_cons.1 h.2.1).1, fun x hx => h.2.2 x hx a List.mem_cons_self⟩
theorem findF_drop {l t : List File} {i : Nat} {a : File} (h : Rises l) (hd : l.drop i = a :: t) : findF l a.name = some a.data := by
  have e : l = l.take i ++ (a :: t) := by rw [← hd, List.take_append_drop]
  rw [e]
  exact findF_at fun f hf => blt_ne ((rises_drop h hd).2 f hf)
theorem drop_succ' {l t : List File} {i : Nat} {a : File} (hd : l.drop i = a :: t) : l.drop (i + 1) = t ∧ i < l.length ∧ l.take (i + 1) = l.take i ++ [a] := by
  have hlt : i < l.length := by
    rcases Nat.lt_or_ge i l.length with h | h
    · exact h
    · rw [List.drop_eq_nil_of_le h] at hd; cases hd
  rw [List.drop_eq_getElem_cons hlt] at hd
  injection hd with h1 h2
  exact ⟨h2, hlt, by rw [List.take_succ_eq_append_getElem hlt, h1]⟩
end Go.Sh
namespace Go.Proofs.YtkdghnbogkbedaaGreatDoor
open Go Go.Sh Go.RowKit
set_option maxRecDepth 100000
set_option maxHeartbeats 1000000
set_option linter.unusedSimpArgs false
set_option linter.unusedVariables false

theorem ref_diff {ov nv : Value} {old now : List File} {w0 : World} (h : Mem w0 [sl eFile ov old, sl eFile nv now]) (ho : old.length ≤ 1000000) (hn : now.length ≤ 1000000) (hd : ∀ f ∈ now, f.data.length ≤ 4611686018427387904)
    (hso : Rises old) (hsn : Rises now) :
    Calls Tryz.prog 32 #[ov, nv] w0 (retP fun v w' => St w0 [sl eFile ov old, sl eFile nv now] w' [own eOp v (diffOf old now)]) := by
  have m := St.start h
  refine c32 ?_
  unfold s32
  refine LP_intro (fun us w => ∃ (u v : Value) (acc : List FileOp) (i k : Nat), us = [u, .int .i64 i, .int .i64 k, v] ∧ acc ++ diffOf (old.drop i) (now.drop k) = diffOf old now ∧ i ≤ old.length ∧ k ≤ now.length ∧
      (∀ x ∈ old.take i, ∀ y ∈ now.drop k, Op.bytesLess x.name y.name = true) ∧ (∀ x ∈ now.take k, ∀ y ∈ old.drop i, Op.bytesLess x.name y.name = true) ∧
      St w0 [sl eFile ov old, sl eFile nv now] w [own eOp v acc, sl eFile ov old, sl eFile nv now])
    (fun us _ => match us with | [_, .int _ i, .int _ k, _] => (old.length - i.toNat) + (now.length - k.toNat) | _ => 0)
    ⟨_, _, [], 0, 0, rfl, rfl, Nat.zero_le _, Nat.zero_le _, by simp, by simp, m.nilOwn eOp⟩ ?_
  clear m
  rintro us hus ζ w ⟨u, v, acc, i, k, rfl, hacc, hi, hk, hA, hB, m⟩
  unfold s32_l1
  simp only [List.getD_cons_zero, List.getD_cons_succ]
  have hl := congrArg List.length hacc
  rw [List.length_append] at hl
  have hl2 := diffOf_len old now
  -- what a round is
  have key : ∀ (name : List UInt8) (x y : Option (List UInt8)) (i' k' : Nat) (w : World), findF old name = x → findF now name = y → i' = i + x.isSome.toNat → k' = k + y.isSome.toNat → 
      diffOf (old.drop i) (now.drop k) = changeOpt name x y ++ diffOf (old.drop i') (now.drop k') → i' ≤ old.length → k' ≤ now.length → i + k < i' + k' → (y.getD []).length ≤ 4611686018427387904 →
      (∀ x ∈ old.take i', ∀ y ∈ now.drop k', Op.bytesLess x.name y.name = true) → (∀ x ∈ now.take k', ∀ y ∈ old.drop i', Op.bytesLess x.name y.name = true) →
      St w0 [sl eFile ov old, sl eFile nv now] w [own eOp v acc, sl eFile ov old, sl eFile nv now] →
      s32_j5 Tryz.prog (fun v w' => St w0 [sl eFile ov old, sl eFile nv now] w' [own eOp v (diffOf old now)]) ov nv (.int .i64 i) (.int .i64 k) v (fun us'' w'' => (∃ (u v : Value) (acc : List FileOp) (i k : Nat), us'' = [u, .int .i64 i, .int .i64 k, v] ∧ acc ++ diffOf (old.drop i) (now.drop k) = diffOf old now ∧ i ≤ old.length ∧ k ≤ now.length ∧
      (∀ x ∈ old.take i, ∀ y ∈ now.drop k, Op.bytesLess x.name y.name = true) ∧ (∀ x ∈ now.take k, ∀ y ∈ old.drop i, Op.bytesLess x.name y.name = true) ∧
      St w0 [sl eFile ov old, sl eFile nv now] w'' [own eOp v acc, sl eFile ov old, sl eFile nv now]) ∧
      (match us'' with | [_, .int _ i, .int _ k, _] => (old.length - i.toNat) + (now.length - k.toNat) | _ => 0) < (old.length - i) + (now.length - k)) (str name) w := by
    intro name x y i' k' w hx hy hi' hk' hdf hil hkl hlt hyl hA hB m
    have hc3 : (changeOpt name x y).length ≤ 3 := changeOf_len _ _ _ _ _
    have fin : ∀ (v' : Value) (w : World), St w0 [sl eFile ov old, sl eFile nv now] w [own eOp v' (acc ++ changeOpt name x y), sl eFile ov old, sl eFile nv now] → 
       (∃ (u v : Value) (acc : List FileOp) (i k : Nat), [str name, .int .i64 i', .int .i64 k', v'] = [u, .int .i64 i, .int .i64 k, v] ∧ acc ++ diffOf (old.drop i) (now.drop k) = diffOf old now ∧ i ≤ old.length ∧ k ≤ now.length ∧
      (∀ x ∈ old.take i, ∀ y ∈ now.drop k, Op.bytesLess x.name y.name = true) ∧ (∀ x ∈ now.take k, ∀ y ∈ old.drop i, Op.bytesLess x.name y.name = true) ∧
      St w0 [sl eFile ov old, sl eFile nv now] w [own eOp v acc, sl eFile ov old, sl eFile nv now]) := fun v' w m =>
        ⟨_, v', _, i', k', rfl, by rw [List.append_assoc, ← hdf, hacc], hil, hkl, hA, hB, m⟩
    have := m.isl (v := v)
    unfold s32_j5
    refine n97 (m.ret (ref_find (m.get (by repeat (first | exact Frm.nil | (with_reducible exact Rem.dup) | (with_reducible exact Rem.here) | apply Frm.cons | apply Rem.there))) ho) ?_); clear m; intro w m
    (repeat (first | refine Sh.sv m ?_ | refine Sh.hv ?_ | (refine Sh.sw m ?_; clear m; intro g_ w m) | (refine Sh.su m ?_; clear m; intro w m) | (refine Sh.suN m ?_; clear m; intro w m) | (refine Sh.hr m ?_; clear m; intro m) | refine Sh.rsS m ?_ | refine Sh.hd m ?_ | refine Sh.rsK [] m ?_ | refine CN_tt ?_ | refine CN_ff ?_ | refine GD_tt ?_ | refine GD_ff ?_ | refine GD_tf ?_ | refine GD_ft ?_ | refine CN_true (by first | omega | (simp; done) | (simp; omega)) ?_ | refine CN_false (by first | omega | (simp; done) | (simp; omega)) ?_ | refine GD_true (by first | omega | (simp; done) | (simp; omega)) ?_ | refine GD_true' (by first | omega | (simp; done) | (simp; omega)) ?_ | refine GD_false (by first | omega | (simp; done) | (simp; omega)) ?_ | refine GD_false' (by first | omega | (simp; done) | (simp; omega)) ?_ | refine Sh.crN m ?_ | refine Sh.cr1 m ?_ | refine Sh.svI m (by first | omega | decide) (by first | omega | (simp; done) | (simp; omega)) fun q_ _ hp_ => ?_ | refine Sh.hvI m (by first | omega | decide) (by first | omega | (simp; done) | (simp; omega)) fun q_ _ hp_ => ?_ | refine Sh.svF m fun q_ _ hp_ => ?_ | refine Sh.hvF m fun q_ _ hp_ => ?_))
    refine n97 (m.ret (ref_find (m.get (by repeat (first | exact Frm.nil | (with_reducible exact Rem.dup) | (with_reducible exact Rem.here) | apply Frm.cons | apply Rem.there))) hn) ?_); clear m; intro w m
    (repeat (first | refine Sh.sv m ?_ | refine Sh.hv ?_ | (refine Sh.sw m ?_; clear m; intro g_ w m) | (refine Sh.su m ?_; clear m; intro w m) | (refine Sh.suN m ?_; clear m; intro w m) | (refine Sh.hr m ?_; clear m; intro m) | refine Sh.rsS m ?_ | refine Sh.hd m ?_ | refine Sh.rsK [] m ?_ | refine CN_tt ?_ | refine CN_ff ?_ | refine GD_tt ?_ | refine GD_ff ?_ | refine GD_tf ?_ | refine GD_ft ?_ | refine CN_true (by first | omega | (simp; done) | (simp; omega)) ?_ | refine CN_false (by first | omega | (simp; done) | (simp; omega)) ?_ | refine GD_true (by first | omega | (simp; done) | (simp; omega)) ?_ | refine GD_true' (by first | omega | (simp; done) | (simp; omega)) ?_ | refine GD_false (by first | omega | (simp; done) | (simp; omega)) ?_ | refine GD_false' (by first | omega | (simp; done) | (simp; omega)) ?_ | refine Sh.crN m ?_ | refine Sh.cr1 m ?_ | refine Sh.svI m (by first | omega | decide) (by first | omega | (simp; done) | (simp; omega)) fun q_ _ hp_ => ?_ | refine Sh.hvI m (by first | omega | decide) (by first | omega | (simp; done) | (simp; omega)) fun q_ _ hp_ => ?_ | refine Sh.svF m fun q_ _ hp_ => ?_ | refine Sh.hvF m fun q_ _ hp_ => ?_))
    rw [hx, hy]
    have hal : acc.length ≤ 6000000 := by omega
    simp only [changeOpt] at fin hc3
    cases x with
    | none =>
      cases y with
      | none => simp at hi' hk'; omega
      | some b =>
        simp only [Option.isSome_none, Option.isSome_some, Bool.toNat_false, Bool.toNat_true, Nat.add_zero, Option.getD_none, Option.getD_some] at *
        subst hi' hk'
        refine JP_in ?_; (repeat (first | refine Sh.sv m ?_ | refine Sh.hv ?_ | (refine Sh.sw m ?_; clear m; intro g_ w m) | (refine Sh.su m ?_; clear m; intro w m) | (refine Sh.suN m ?_; clear m; intro w m) | (refine Sh.hr m ?_; clear m; intro m) | refine Sh.rsS m ?_ | refine Sh.hd m ?_ | refine Sh.rsK [] m ?_ | refine CN_tt ?_ | refine CN_ff ?_ | refine GD_tt ?_ | refine GD_ff ?_ | refine GD_tf ?_ | refine GD_ft ?_ | refine CN_true (by first | omega | (simp; done) | (simp; omega)) ?_ | refine CN_false (by first | omega | (simp; done) | (simp; omega)) ?_ | refine GD_true (by first | omega | (simp; done) | (simp; omega)) ?_ | refine GD_true' (by first | omega | (simp; done) | (simp; omega)) ?_ | refine GD_false (by first | omega | (simp; done) | (simp; omega)) ?_ | refine GD_false' (by first | omega | (simp; done) | (simp; omega)) ?_ | refine Sh.crN m ?_ | refine Sh.cr1 m ?_ | refine Sh.svI m (by first | omega | decide) (by first | omega | (simp; done) | (simp; omega)) fun q_ _ hp_ => ?_ | refine Sh.hvI m (by first | omega | decide) (by first | omega | (simp; done) | (simp; omega)) fun q_ _ hp_ => ?_ | refine Sh.svF m fun q_ _ hp_ => ?_ | refine Sh.hvF m fun q_ _ hp_ => ?_)); refine ⟨rfl, fun _ => ?_⟩; unfold s32_j4; simp only [List.getD_cons_zero, List.getD_cons_succ]
        refine JP_in ?_; (repeat (first | refine Sh.sv m ?_ | refine Sh.hv ?_ | (refine Sh.sw m ?_; clear m; intro g_ w m) | (refine Sh.su m ?_; clear m; intro w m) | (refine Sh.suN m ?_; clear m; intro w m) | (refine Sh.hr m ?_; clear m; intro m) | refine Sh.rsS m ?_ | refine Sh.hd m ?_ | refine Sh.rsK [] m ?_ | refine CN_tt ?_ | refine CN_ff ?_ | refine GD_tt ?_ | refine GD_ff ?_ | refine GD_tf ?_ | refine GD_ft ?_ | refine CN_true (by first | omega | (simp; done) | (simp; omega)) ?_ | refine CN_false (by first | omega | (simp; done) | (simp; omega)) ?_ | refine GD_true (by first | omega | (simp; done) | (simp; omega)) ?_ | refine GD_true' (by first | omega | (simp; done) | (simp; omega)) ?_ | refine GD_false (by first | omega | (simp; done) | (simp; omega)) ?_ | refine GD_false' (by first | omega | (simp; done) | (simp; omega)) ?_ | refine Sh.crN m ?_ | refine Sh.cr1 m ?_ | refine Sh.svI m (by first | omega | decide) (by first | omega | (simp; done) | (simp; omega)) fun q_ _ hp_ => ?_ | refine Sh.hvI m (by first | omega | decide) (by first | omega | (simp; done) | (simp; omega)) fun q_ _ hp_ => ?_ | refine Sh.svF m fun q_ _ hp_ => ?_ | refine Sh.hvF m fun q_ _ hp_ => ?_)); refine ⟨rfl, fun _ => ?_⟩; unfold s32_j3; simp only [List.getD_cons_zero, List.getD_cons_succ]
        refine JP_in ?_; (repeat (first | refine Sh.sv m ?_ | refine Sh.hv ?_ | (refine Sh.sw m ?_; clear m; intro g_ w m) | (refine Sh.su m ?_; clear m; intro w m) | (refine Sh.suN m ?_; clear m; intro w m) | (refine Sh.hr m ?_; clear m; intro m) | refine Sh.rsS m ?_ | refine Sh.hd m ?_ | refine Sh.rsK [] m ?_ | refine CN_tt ?_ | refine CN_ff ?_ | refine GD_tt ?_ | refine GD_ff ?_ | refine GD_tf ?_ | refine GD_ft ?_ | refine CN_true (by first | omega | (simp; done) | (simp; omega)) ?_ | refine CN_false (by first | omega | (simp; done) | (simp; omega)) ?_ | refine GD_true (by first | omega | (simp; done) | (simp; omega)) ?_ | refine GD_true' (by first | omega | (simp; done) | (simp; omega)) ?_ | refine GD_false (by first | omega | (simp; done) | (simp; omega)) ?_ | refine GD_false' (by first | omega | (simp; done) | (simp; omega)) ?_ | refine Sh.crN m ?_ | refine Sh.cr1 m ?_ | refine Sh.svI m (by first | omega | decide) (by first | omega | (simp; done) | (simp; omega)) fun q_ _ hp_ => ?_ | refine Sh.hvI m (by first | omega | decide) (by first | omega | (simp; done) | (simp; omega)) fun q_ _ hp_ => ?_ | refine Sh.svF m fun q_ _ hp_ => ?_ | refine Sh.hvF m fun q_ _ hp_ => ?_))
        refine lits eOp [⟨1, name, [], 0⟩] m [_] rfl rfl rfl (by simp) ?_; clear m; intro v1 w _ m
        refine ap m (by simp; omega) (by simp [maxLen]; omega) ?_; clear m; intro v2 w _ m
        (repeat (first | refine Sh.sv m ?_ | refine Sh.hv ?_ | (refine Sh.sw m ?_; clear m; intro g_ w m) | (refine Sh.su m ?_; clear m; intro w m) | (refine Sh.suN m ?_; clear m; intro w m) | (refine Sh.hr m ?_; clear m; intro m) | refine Sh.rsS m ?_ | refine Sh.hd m ?_ | refine Sh.rsK [] m ?_ | refine CN_tt ?_ | refine CN_ff ?_ | refine GD_tt ?_ | refine GD_ff ?_ | refine GD_tf ?_ | refine GD_ft ?_ | refine CN_true (by first | omega | (simp; done) | (simp; omega)) ?_ | refine CN_false (by first | omega | (simp; done) | (simp; omega)) ?_ | refine GD_true (by first | omega | (simp; done) | (simp; omega)) ?_ | refine GD_true' (by first | omega | (simp; done) | (simp; omega)) ?_ | refine GD_false (by first | omega | (simp; done) | (simp; omega)) ?_ | refine GD_false' (by first | omega | (simp; done) | (simp; omega)) ?_ | refine Sh.crN m ?_ | refine Sh.cr1 m ?_ | refine Sh.svI m (by first | omega | decide) (by first | omega | (simp; done) | (simp; omega)) fun q_ _ hp_ => ?_ | refine Sh.hvI m (by first | omega | decide) (by first | omega | (simp; done) | (simp; omega)) fun q_ _ hp_ => ?_ | refine Sh.svF m fun q_ _ hp_ => ?_ | refine Sh.hvF m fun q_ _ hp_ => ?_))
        refine ⟨rfl, fun _ => ?_⟩; unfold s32_j2; simp only [List.getD_cons_zero, List.getD_cons_succ]
        refine JP_in ?_; (repeat (first | refine Sh.sv m ?_ | refine Sh.hv ?_ | (refine Sh.sw m ?_; clear m; intro g_ w m) | (refine Sh.su m ?_; clear m; intro w m) | (refine Sh.suN m ?_; clear m; intro w m) | (refine Sh.hr m ?_; clear m; intro m) | refine Sh.rsS m ?_ | refine Sh.hd m ?_ | refine Sh.rsK [] m ?_ | refine CN_tt ?_ | refine CN_ff ?_ | refine GD_tt ?_ | refine GD_ff ?_ | refine GD_tf ?_ | refine GD_ft ?_ | refine CN_true (by first | omega | (simp; done) | (simp; omega)) ?_ | refine CN_false (by first | omega | (simp; done) | (simp; omega)) ?_ | refine GD_true (by first | omega | (simp; done) | (simp; omega)) ?_ | refine GD_true' (by first | omega | (simp; done) | (simp; omega)) ?_ | refine GD_false (by first | omega | (simp; done) | (simp; omega)) ?_ | refine GD_false' (by first | omega | (simp; done) | (simp; omega)) ?_ | refine Sh.crN m ?_ | refine Sh.cr1 m ?_ | refine Sh.svI m (by first | omega | decide) (by first | omega | (simp; done) | (simp; omega)) fun q_ _ hp_ => ?_ | refine Sh.hvI m (by first | omega | decide) (by first | omega | (simp; done) | (simp; omega)) fun q_ _ hp_ => ?_ | refine Sh.svF m fun q_ _ hp_ => ?_ | refine Sh.hvF m fun q_ _ hp_ => ?_)); refine ⟨rfl, fun _ => ?_⟩; unfold s32_j1; simp only [List.getD_cons_zero, List.getD_cons_succ]
        (repeat (first | refine Sh.sv m ?_ | refine Sh.hv ?_ | (refine Sh.sw m ?_; clear m; intro g_ w m) | (refine Sh.su m ?_; clear m; intro w m) | (refine Sh.suN m ?_; clear m; intro w m) | (refine Sh.hr m ?_; clear m; intro m) | refine Sh.rsS m ?_ | refine Sh.hd m ?_ | refine Sh.rsK [] m ?_ | refine CN_tt ?_ | refine CN_ff ?_ | refine GD_tt ?_ | refine GD_ff ?_ | refine GD_tf ?_ | refine GD_ft ?_ | refine CN_true (by first | omega | (simp; done) | (simp; omega)) ?_ | refine CN_false (by first | omega | (simp; done) | (simp; omega)) ?_ | refine GD_true (by first | omega | (simp; done) | (simp; omega)) ?_ | refine GD_true' (by first | omega | (simp; done) | (simp; omega)) ?_ | refine GD_false (by first | omega | (simp; done) | (simp; omega)) ?_ | refine GD_false' (by first | omega | (simp; done) | (simp; omega)) ?_ | refine Sh.crN m ?_ | refine Sh.cr1 m ?_ | refine Sh.svI m (by first | omega | decide) (by first | omega | (simp; done) | (simp; omega)) fun q_ _ hp_ => ?_ | refine Sh.hvI m (by first | omega | decide) (by first | omega | (simp; done) | (simp; omega)) fun q_ _ hp_ => ?_ | refine Sh.svF m fun q_ _ hp_ => ?_ | refine Sh.hvF m fun q_ _ hp_ => ?_))
        refine n98 (m.ret (ref_begins b [] _) ?_); clear m; intro w m
        refine n98 (m.ret (ref_begins [] b _) ?_); clear m; intro w m
        (repeat (first | refine Sh.sv m ?_ | refine Sh.hv ?_ | (refine Sh.sw m ?_; clear m; intro g_ w m) | (refine Sh.su m ?_; clear m; intro w m) | (refine Sh.suN m ?_; clear m; intro w m) | (refine Sh.hr m ?_; clear m; intro m) | refine Sh.rsS m ?_ | refine Sh.hd m ?_ | refine Sh.rsK [] m ?_ | refine CN_tt ?_ | refine CN_ff ?_ | refine GD_tt ?_ | refine GD_ff ?_ | refine GD_tf ?_ | refine GD_ft ?_ | refine CN_true (by first | omega | (simp; done) | (simp; omega)) ?_ | refine CN_false (by first | omega | (simp; done) | (simp; omega)) ?_ | refine GD_true (by first | omega | (simp; done) | (simp; omega)) ?_ | refine GD_true' (by first | omega | (simp; done) | (simp; omega)) ?_ | refine GD_false (by first | omega | (simp; done) | (simp; omega)) ?_ | refine GD_false' (by first | omega | (simp; done) | (simp; omega)) ?_ | refine Sh.crN m ?_ | refine Sh.cr1 m ?_ | refine Sh.svI m (by first | omega | decide) (by first | omega | (simp; done) | (simp; omega)) fun q_ _ hp_ => ?_ | refine Sh.hvI m (by first | omega | decide) (by first | omega | (simp; done) | (simp; omega)) fun q_ _ hp_ => ?_ | refine Sh.svF m fun q_ _ hp_ => ?_ | refine Sh.hvF m fun q_ _ hp_ => ?_))
        rw [isPre_nil]
        refine CN_split (fun h0 => ?_) (fun h0 => ?_)
        · subst h0
          refine ⟨fin v2 w ?_, by simp; omega⟩
          have h := m.sub (X := [own eOp v2 _, sl eFile ov old, sl eFile nv now]) (by repeat (first | exact Frm.nil | (with_reducible exact Rem.dup) | (with_reducible exact Rem.here) | apply Frm.cons | apply Rem.there))
          simpa [changeOf, isPre_nil] using h
        · (repeat (first | refine Sh.sv m ?_ | refine Sh.hv ?_ | (refine Sh.sw m ?_; clear m; intro g_ w m) | (refine Sh.su m ?_; clear m; intro w m) | (refine Sh.suN m ?_; clear m; intro w m) | (refine Sh.hr m ?_; clear m; intro m) | refine Sh.rsS m ?_ | refine Sh.hd m ?_ | refine Sh.rsK [] m ?_ | refine CN_tt ?_ | refine CN_ff ?_ | refine GD_tt ?_ | refine GD_ff ?_ | refine GD_tf ?_ | refine GD_ft ?_ | refine CN_true (by first | omega | (simp; done) | (simp; omega)) ?_ | refine CN_false (by first | omega | (simp; done) | (simp; omega)) ?_ | refine GD_true (by first | omega | (simp; done) | (simp; omega)) ?_ | refine GD_true' (by first | omega | (simp; done) | (simp; omega)) ?_ | refine GD_false (by first | omega | (simp; done) | (simp; omega)) ?_ | refine GD_false' (by first | omega | (simp; done) | (simp; omega)) ?_ | refine Sh.crN m ?_ | refine Sh.cr1 m ?_ | refine Sh.svI m (by first | omega | decide) (by first | omega | (simp; done) | (simp; omega)) fun q_ _ hp_ => ?_ | refine Sh.hvI m (by first | omega | decide) (by first | omega | (simp; done) | (simp; omega)) fun q_ _ hp_ => ?_ | refine Sh.svF m fun q_ _ hp_ => ?_ | refine Sh.hvF m fun q_ _ hp_ => ?_))
          refine lits eOp [⟨2, name, b, 0⟩] m [_] rfl rfl rfl (by simp) ?_; clear m; intro v1 w _ m
          refine ap m (by simp; omega) (by simp [maxLen]; omega) ?_; clear m; intro v3 w _ m
          (repeat (first | refine Sh.sv m ?_ | refine Sh.hv ?_ | (refine Sh.sw m ?_; clear m; intro g_ w m) | (refine Sh.su m ?_; clear m; intro w m) | (refine Sh.suN m ?_; clear m; intro w m) | (refine Sh.hr m ?_; clear m; intro m) | refine Sh.rsS m ?_ | refine Sh.hd m ?_ | refine Sh.rsK [] m ?_ | refine CN_tt ?_ | refine CN_ff ?_ | refine GD_tt ?_ | refine GD_ff ?_ | refine GD_tf ?_ | refine GD_ft ?_ | refine CN_true (by first | omega | (simp; done) | (simp; omega)) ?_ | refine CN_false (by first | omega | (simp; done) | (simp; omega)) ?_ | refine GD_true (by first | omega | (simp; done) | (simp; omega)) ?_ | refine GD_true' (by first | omega | (simp; done) | (simp; omega)) ?_ | refine GD_false (by first | omega | (simp; done) | (simp; omega)) ?_ | refine GD_false' (by first | omega | (simp; done) | (simp; omega)) ?_ | refine Sh.crN m ?_ | refine Sh.cr1 m ?_ | refine Sh.svI m (by first | omega | decide) (by first | omega | (simp; done) | (simp; omega)) fun q_ _ hp_ => ?_ | refine Sh.hvI m (by first | omega | decide) (by first | omega | (simp; done) | (simp; omega)) fun q_ _ hp_ => ?_ | refine Sh.svF m fun q_ _ hp_ => ?_ | refine Sh.hvF m fun q_ _ hp_ => ?_))
          refine ⟨fin v3 w ?_, by simp; omega⟩
          have h := m.sub (X := [own eOp v3 _, sl eFile ov old, sl eFile nv now]) (by repeat (first | exact Frm.nil | (with_reducible exact Rem.dup) | (with_reducible exact Rem.here) | apply Frm.cons | apply Rem.there))
          have h0' : ¬ b = [] := fun h => h0 h.symm
          simpa [changeOf, isPre_nil, h0'] using h
    | some a =>
      cases y with
      | none =>
        simp only [Option.isSome_none, Option.isSome_some, Bool.toNat_false, Bool.toNat_true, Nat.add_zero, Option.getD_none, Option.getD_some] at *
        subst hi' hk'
        refine JP_in ?_; (repeat (first | refine Sh.sv m ?_ | refine Sh.hv ?_ | (refine Sh.sw m ?_; clear m; intro g_ w m) | (refine Sh.su m ?_; clear m; intro w m) | (refine Sh.suN m ?_; clear m; intro w m) | (refine Sh.hr m ?_; clear m; intro m) | refine Sh.rsS m ?_ | refine Sh.hd m ?_ | refine Sh.rsK [] m ?_ | refine CN_tt ?_ | refine CN_ff ?_ | refine GD_tt ?_ | refine GD_ff ?_ | refine GD_tf ?_ | refine GD_ft ?_ | refine CN_true (by first | omega | (simp; done) | (simp; omega)) ?_ | refine CN_false (by first | omega | (simp; done) | (simp; omega)) ?_ | refine GD_true (by first | omega | (simp; done) | (simp; omega)) ?_ | refine GD_true' (by first | omega | (simp; done) | (simp; omega)) ?_ | refine GD_false (by first | omega | (simp; done) | (simp; omega)) ?_ | refine GD_false' (by first | omega | (simp; done) | (simp; omega)) ?_ | refine Sh.crN m ?_ | refine Sh.cr1 m ?_ | refine Sh.svI m (by first | omega | decide) (by first | omega | (simp; done) | (simp; omega)) fun q_ _ hp_ => ?_ | refine Sh.hvI m (by first | omega | decide) (by first | omega | (simp; done) | (simp; omega)) fun q_ _ hp_ => ?_ | refine Sh.svF m fun q_ _ hp_ => ?_ | refine Sh.hvF m fun q_ _ hp_ => ?_)); refine ⟨rfl, fun _ => ?_⟩; unfold s32_j4; simp only [List.getD_cons_zero, List.getD_cons_succ]
        refine JP_in ?_; (repeat (first | refine Sh.sv m ?_ | refine Sh.hv ?_ | (refine Sh.sw m ?_; clear m; intro g_ w m) | (refine Sh.su m ?_; clear m; intro w m) | (refine Sh.suN m ?_; clear m; intro w m) | (refine Sh.hr m ?_; clear m; intro m) | refine Sh.rsS m ?_ | refine Sh.hd m ?_ | refine Sh.rsK [] m ?_ | refine CN_tt ?_ | refine CN_ff ?_ | refine GD_tt ?_ | refine GD_ff ?_ | refine GD_tf ?_ | refine GD_ft ?_ | refine CN_true (by first | omega | (simp; done) | (simp; omega)) ?_ | refine CN_false (by first | omega | (simp; done) | (simp; omega)) ?_ | refine GD_true (by first | omega | (simp; done) | (simp; omega)) ?_ | refine GD_true' (by first | omega | (simp; done) | (simp; omega)) ?_ | refine GD_false (by first | omega | (simp; done) | (simp; omega)) ?_ | refine GD_false' (by first | omega | (simp; done) | (simp; omega)) ?_ | refine Sh.crN m ?_ | refine Sh.cr1 m ?_ | refine Sh.svI m (by first | omega | decide) (by first | omega | (simp; done) | (simp; omega)) fun q_ _ hp_ => ?_ | refine Sh.hvI m (by first | omega | decide) (by first | omega | (simp; done) | (simp; omega)) fun q_ _ hp_ => ?_ | refine Sh.svF m fun q_ _ hp_ => ?_ | refine Sh.hvF m fun q_ _ hp_ => ?_)); refine ⟨rfl, fun _ => ?_⟩; unfold s32_j3; simp only [List.getD_cons_zero, List.getD_cons_succ]
        refine JP_in ?_; (repeat (first | refine Sh.sv m ?_ | refine Sh.hv ?_ | (refine Sh.sw m ?_; clear m; intro g_ w m) | (refine Sh.su m ?_; clear m; intro w m) | (refine Sh.suN m ?_; clear m; intro w m) | (refine Sh.hr m ?_; clear m; intro m) | refine Sh.rsS m ?_ | refine Sh.hd m ?_ | refine Sh.rsK [] m ?_ | refine CN_tt ?_ | refine CN_ff ?_ | refine GD_tt ?_ | refine GD_ff ?_ | refine GD_tf ?_ | refine GD_ft ?_ | refine CN_true (by first | omega | (simp; done) | (simp; omega)) ?_ | refine CN_false (by first | omega | (simp; done) | (simp; omega)) ?_ | refine GD_true (by first | omega | (simp; done) | (simp; omega)) ?_ | refine GD_true' (by first | omega | (simp; done) | (simp; omega)) ?_ | refine GD_false (by first | omega | (simp; done) | (simp; omega)) ?_ | refine GD_false' (by first | omega | (simp; done) | (simp; omega)) ?_ | refine Sh.crN m ?_ | refine Sh.cr1 m ?_ | refine Sh.svI m (by first | omega | decide) (by first | omega | (simp; done) | (simp; omega)) fun q_ _ hp_ => ?_ | refine Sh.hvI m (by first | omega | decide) (by first | omega | (simp; done) | (simp; omega)) fun q_ _ hp_ => ?_ | refine Sh.svF m fun q_ _ hp_ => ?_ | refine Sh.hvF m fun q_ _ hp_ => ?_)); refine ⟨rfl, fun _ => ?_⟩; unfold s32_j2; simp only [List.getD_cons_zero, List.getD_cons_succ]
        refine JP_in ?_; (repeat (first | refine Sh.sv m ?_ | refine Sh.hv ?_ | (refine Sh.sw m ?_; clear m; intro g_ w m) | (refine Sh.su m ?_; clear m; intro w m) | (refine Sh.suN m ?_; clear m; intro w m) | (refine Sh.hr m ?_; clear m; intro m) | refine Sh.rsS m ?_ | refine Sh.hd m ?_ | refine Sh.rsK [] m ?_ | refine CN_tt ?_ | refine CN_ff ?_ | refine GD_tt ?_ | refine GD_ff ?_ | refine GD_tf ?_ | refine GD_ft ?_ | refine CN_true (by first | omega | (simp; done) | (simp; omega)) ?_ | refine CN_false (by first | omega | (simp; done) | (simp; omega)) ?_ | refine GD_true (by first | omega | (simp; done) | (simp; omega)) ?_ | refine GD_true' (by first | omega | (simp; done) | (simp; omega)) ?_ | refine GD_false (by first | omega | (simp; done) | (simp; omega)) ?_ | refine GD_false' (by first | omega | (simp; done) | (simp; omega)) ?_ | refine Sh.crN m ?_ | refine Sh.cr1 m ?_ | refine Sh.svI m (by first | omega | decide) (by first | omega | (simp; done) | (simp; omega)) fun q_ _ hp_ => ?_ | refine Sh.hvI m (by first | omega | decide) (by first | omega | (simp; done) | (simp; omega)) fun q_ _ hp_ => ?_ | refine Sh.svF m fun q_ _ hp_ => ?_ | refine Sh.hvF m fun q_ _ hp_ => ?_))
        refine CN_split (fun h0 => ?_) (fun h0 => ?_)
        · (repeat (first | refine Sh.sv m ?_ | refine Sh.hv ?_ | (refine Sh.sw m ?_; clear m; intro g_ w m) | (refine Sh.su m ?_; clear m; intro w m) | (refine Sh.suN m ?_; clear m; intro w m) | (refine Sh.hr m ?_; clear m; intro m) | refine Sh.rsS m ?_ | refine Sh.hd m ?_ | refine Sh.rsK [] m ?_ | refine CN_tt ?_ | refine CN_ff ?_ | refine GD_tt ?_ | refine GD_ff ?_ | refine GD_tf ?_ | refine GD_ft ?_ | refine CN_true (by first | omega | (simp; done) | (simp; omega)) ?_ | refine CN_false (by first | omega | (simp; done) | (simp; omega)) ?_ | refine GD_true (by first | omega | (simp; done) | (simp; omega)) ?_ | refine GD_true' (by first | omega | (simp; done) | (simp; omega)) ?_ | refine GD_false (by first | omega | (simp; done) | (simp; omega)) ?_ | refine GD_false' (by first | omega | (simp; done) | (simp; omega)) ?_ | refine Sh.crN m ?_ | refine Sh.cr1 m ?_ | refine Sh.svI m (by first | omega | decide) (by first | omega | (simp; done) | (simp; omega)) fun q_ _ hp_ => ?_ | refine Sh.hvI m (by first | omega | decide) (by first | omega | (simp; done) | (simp; omega)) fun q_ _ hp_ => ?_ | refine Sh.svF m fun q_ _ hp_ => ?_ | refine Sh.hvF m fun q_ _ hp_ => ?_))
          refine lits eOp [⟨3, name, [], 0⟩] m [_] rfl rfl rfl (by simp) ?_; clear m; intro v1 w _ m
          refine ap m (by simp; omega) (by simp [maxLen]; omega) ?_; clear m; intro v2 w _ m
          (repeat (first | refine Sh.sv m ?_ | refine Sh.hv ?_ | (refine Sh.sw m ?_; clear m; intro g_ w m) | (refine Sh.su m ?_; clear m; intro w m) | (refine Sh.suN m ?_; clear m; intro w m) | (refine Sh.hr m ?_; clear m; intro m) | refine Sh.rsS m ?_ | refine Sh.hd m ?_ | refine Sh.rsK [] m ?_ | refine CN_tt ?_ | refine CN_ff ?_ | refine GD_tt ?_ | refine GD_ff ?_ | refine GD_tf ?_ | refine GD_ft ?_ | refine CN_true (by first | omega | (simp; done) | (simp; omega)) ?_ | refine CN_false (by first | omega | (simp; done) | (simp; omega)) ?_ | refine GD_true (by first | omega | (simp; done) | (simp; omega)) ?_ | refine GD_true' (by first | omega | (simp; done) | (simp; omega)) ?_ | refine GD_false (by first | omega | (simp; done) | (simp; omega)) ?_ | refine GD_false' (by first | omega | (simp; done) | (simp; omega)) ?_ | refine Sh.crN m ?_ | refine Sh.cr1 m ?_ | refine Sh.svI m (by first | omega | decide) (by first | omega | (simp; done) | (simp; omega)) fun q_ _ hp_ => ?_ | refine Sh.hvI m (by first | omega | decide) (by first | omega | (simp; done) | (simp; omega)) fun q_ _ hp_ => ?_ | refine Sh.svF m fun q_ _ hp_ => ?_ | refine Sh.hvF m fun q_ _ hp_ => ?_))
          refine ⟨rfl, fun _ => ?_⟩; unfold s32_j1; simp only [List.getD_cons_zero, List.getD_cons_succ]
          (repeat (first | refine Sh.sv m ?_ | refine Sh.hv ?_ | (refine Sh.sw m ?_; clear m; intro g_ w m) | (refine Sh.su m ?_; clear m; intro w m) | (refine Sh.suN m ?_; clear m; intro w m) | (refine Sh.hr m ?_; clear m; intro m) | refine Sh.rsS m ?_ | refine Sh.hd m ?_ | refine Sh.rsK [] m ?_ | refine CN_tt ?_ | refine CN_ff ?_ | refine GD_tt ?_ | refine GD_ff ?_ | refine GD_tf ?_ | refine GD_ft ?_ | refine CN_true (by first | omega | (simp; done) | (simp; omega)) ?_ | refine CN_false (by first | omega | (simp; done) | (simp; omega)) ?_ | refine GD_true (by first | omega | (simp; done) | (simp; omega)) ?_ | refine GD_true' (by first | omega | (simp; done) | (simp; omega)) ?_ | refine GD_false (by first | omega | (simp; done) | (simp; omega)) ?_ | refine GD_false' (by first | omega | (simp; done) | (simp; omega)) ?_ | refine Sh.crN m ?_ | refine Sh.cr1 m ?_ | refine Sh.svI m (by first | omega | decide) (by first | omega | (simp; done) | (simp; omega)) fun q_ _ hp_ => ?_ | refine Sh.hvI m (by first | omega | decide) (by first | omega | (simp; done) | (simp; omega)) fun q_ _ hp_ => ?_ | refine Sh.svF m fun q_ _ hp_ => ?_ | refine Sh.hvF m fun q_ _ hp_ => ?_))
          refine lits eOp [⟨4, name, [], 0⟩] m [_] rfl rfl rfl (by simp) ?_; clear m; intro v1 w _ m
          refine ap m (by simp; omega) (by simp [maxLen]; omega) ?_; clear m; intro v3 w _ m
          (repeat (first | refine Sh.sv m ?_ | refine Sh.hv ?_ | (refine Sh.sw m ?_; clear m; intro g_ w m) | (refine Sh.su m ?_; clear m; intro w m) | (refine Sh.suN m ?_; clear m; intro w m) | (refine Sh.hr m ?_; clear m; intro m) | refine Sh.rsS m ?_ | refine Sh.hd m ?_ | refine Sh.rsK [] m ?_ | refine CN_tt ?_ | refine CN_ff ?_ | refine GD_tt ?_ | refine GD_ff ?_ | refine GD_tf ?_ | refine GD_ft ?_ | refine CN_true (by first | omega | (simp; done) | (simp; omega)) ?_ | refine CN_false (by first | omega | (simp; done) | (simp; omega)) ?_ | refine GD_true (by first | omega | (simp; done) | (simp; omega)) ?_ | refine GD_true' (by first | omega | (simp; done) | (simp; omega)) ?_ | refine GD_false (by first | omega | (simp; done) | (simp; omega)) ?_ | refine GD_false' (by first | omega | (simp; done) | (simp; omega)) ?_ | refine Sh.crN m ?_ | refine Sh.cr1 m ?_ | refine Sh.svI m (by first | omega | decide) (by first | omega | (simp; done) | (simp; omega)) fun q_ _ hp_ => ?_ | refine Sh.hvI m (by first | omega | decide) (by first | omega | (simp; done) | (simp; omega)) fun q_ _ hp_ => ?_ | refine Sh.svF m fun q_ _ hp_ => ?_ | refine Sh.hvF m fun q_ _ hp_ => ?_))
          refine ⟨fin v3 w ?_, by simp; omega⟩
          have h := m.sub (X := [own eOp v3 _, sl eFile ov old, sl eFile nv now]) (by repeat (first | exact Frm.nil | (with_reducible exact Rem.dup) | (with_reducible exact Rem.here) | apply Frm.cons | apply Rem.there))
          simpa [changeOf, h0] using h
        · have h0' : a = [] := by simpa using h0
          subst h0'
          refine ⟨rfl, fun _ => ?_⟩; unfold s32_j1; simp only [List.getD_cons_zero, List.getD_cons_succ]
          (repeat (first | refine Sh.sv m ?_ | refine Sh.hv ?_ | (refine Sh.sw m ?_; clear m; intro g_ w m) | (refine Sh.su m ?_; clear m; intro w m) | (refine Sh.suN m ?_; clear m; intro w m) | (refine Sh.hr m ?_; clear m; intro m) | refine Sh.rsS m ?_ | refine Sh.hd m ?_ | refine Sh.rsK [] m ?_ | refine CN_tt ?_ | refine CN_ff ?_ | refine GD_tt ?_ | refine GD_ff ?_ | refine GD_tf ?_ | refine GD_ft ?_ | refine CN_true (by first | omega | (simp; done) | (simp; omega)) ?_ | refine CN_false (by first | omega | (simp; done) | (simp; omega)) ?_ | refine GD_true (by first | omega | (simp; done) | (simp; omega)) ?_ | refine GD_true' (by first | omega | (simp; done) | (simp; omega)) ?_ | refine GD_false (by first | omega | (simp; done) | (simp; omega)) ?_ | refine GD_false' (by first | omega | (simp; done) | (simp; omega)) ?_ | refine Sh.crN m ?_ | refine Sh.cr1 m ?_ | refine Sh.svI m (by first | omega | decide) (by first | omega | (simp; done) | (simp; omega)) fun q_ _ hp_ => ?_ | refine Sh.hvI m (by first | omega | decide) (by first | omega | (simp; done) | (simp; omega)) fun q_ _ hp_ => ?_ | refine Sh.svF m fun q_ _ hp_ => ?_ | refine Sh.hvF m fun q_ _ hp_ => ?_))
          refine lits eOp [⟨4, name, [], 0⟩] m [_] rfl rfl rfl (by simp) ?_; clear m; intro v1 w _ m
          refine ap m (by simp; omega) (by simp [maxLen]; omega) ?_; clear m; intro v3 w _ m
          (repeat (first | refine Sh.sv m ?_ | refine Sh.hv ?_ | (refine Sh.sw m ?_; clear m; intro g_ w m) | (refine Sh.su m ?_; clear m; intro w m) | (refine Sh.suN m ?_; clear m; intro w m) | (refine Sh.hr m ?_; clear m; intro m) | refine Sh.rsS m ?_ | refine Sh.hd m ?_ | refine Sh.rsK [] m ?_ | refine CN_tt ?_ | refine CN_ff ?_ | refine GD_tt ?_ | refine GD_ff ?_ | refine GD_tf ?_ | refine GD_ft ?_ | refine CN_true (by first | omega | (simp; done) | (simp; omega)) ?_ | refine CN_false (by first | omega | (simp; done) | (simp; omega)) ?_ | refine GD_true (by first | omega | (simp; done) | (simp; omega)) ?_ | refine GD_true' (by first | omega | (simp; done) | (simp; omega)) ?_ | refine GD_false (by first | omega | (simp; done) | (simp; omega)) ?_ | refine GD_false' (by first | omega | (simp; done) | (simp; omega)) ?_ | refine Sh.crN m ?_ | refine Sh.cr1 m ?_ | refine Sh.svI m (by first | omega | decide) (by first | omega | (simp; done) | (simp; omega)) fun q_ _ hp_ => ?_ | refine Sh.hvI m (by first | omega | decide) (by first | omega | (simp; done) | (simp; omega)) fun q_ _ hp_ => ?_ | refine Sh.svF m fun q_ _ hp_ => ?_ | refine Sh.hvF m fun q_ _ hp_ => ?_))
          refine ⟨fin v3 w ?_, by simp; omega⟩
          have h := m.sub (X := [own eOp v3 _, sl eFile ov old, sl eFile nv now]) (by repeat (first | exact Frm.nil | (with_reducible exact Rem.dup) | (with_reducible exact Rem.here) | apply Frm.cons | apply Rem.there))
          simpa [changeOf] using h
      | some b =>
        simp only [Option.isSome_none, Option.isSome_some, Bool.toNat_false, Bool.toNat_true, Nat.add_zero, Option.getD_none, Option.getD_some] at *
        subst hi' hk'
        refine JP_in ?_; (repeat (first | refine Sh.sv m ?_ | refine Sh.hv ?_ | (refine Sh.sw m ?_; clear m; intro g_ w m) | (refine Sh.su m ?_; clear m; intro w m) | (refine Sh.suN m ?_; clear m; intro w m) | (refine Sh.hr m ?_; clear m; intro m) | refine Sh.rsS m ?_ | refine Sh.hd m ?_ | refine Sh.rsK [] m ?_ | refine CN_tt ?_ | refine CN_ff ?_ | refine GD_tt ?_ | refine GD_ff ?_ | refine GD_tf ?_ | refine GD_ft ?_ | refine CN_true (by first | omega | (simp; done) | (simp; omega)) ?_ | refine CN_false (by first | omega | (simp; done) | (simp; omega)) ?_ | refine GD_true (by first | omega | (simp; done) | (simp; omega)) ?_ | refine GD_true' (by first | omega | (simp; done) | (simp; omega)) ?_ | refine GD_false (by first | omega | (simp; done) | (simp; omega)) ?_ | refine GD_false' (by first | omega | (simp; done) | (simp; omega)) ?_ | refine Sh.crN m ?_ | refine Sh.cr1 m ?_ | refine Sh.svI m (by first | omega | decide) (by first | omega | (simp; done) | (simp; omega)) fun q_ _ hp_ => ?_ | refine Sh.hvI m (by first | omega | decide) (by first | omega | (simp; done) | (simp; omega)) fun q_ _ hp_ => ?_ | refine Sh.svF m fun q_ _ hp_ => ?_ | refine Sh.hvF m fun q_ _ hp_ => ?_)); refine ⟨rfl, fun _ => ?_⟩; unfold s32_j4; simp only [List.getD_cons_zero, List.getD_cons_succ]
        refine JP_in ?_; (repeat (first | refine Sh.sv m ?_ | refine Sh.hv ?_ | (refine Sh.sw m ?_; clear m; intro g_ w m) | (refine Sh.su m ?_; clear m; intro w m) | (refine Sh.suN m ?_; clear m; intro w m) | (refine Sh.hr m ?_; clear m; intro m) | refine Sh.rsS m ?_ | refine Sh.hd m ?_ | refine Sh.rsK [] m ?_ | refine CN_tt ?_ | refine CN_ff ?_ | refine GD_tt ?_ | refine GD_ff ?_ | refine GD_tf ?_ | refine GD_ft ?_ | refine CN_true (by first | omega | (simp; done) | (simp; omega)) ?_ | refine CN_false (by first | omega | (simp; done) | (simp; omega)) ?_ | refine GD_true (by first | omega | (simp; done) | (simp; omega)) ?_ | refine GD_true' (by first | omega | (simp; done) | (simp; omega)) ?_ | refine GD_false (by first | omega | (simp; done) | (simp; omega)) ?_ | refine GD_false' (by first | omega | (simp; done) | (simp; omega)) ?_ | refine Sh.crN m ?_ | refine Sh.cr1 m ?_ | refine Sh.svI m (by first | omega | decide) (by first | omega | (simp; done) | (simp; omega)) fun q_ _ hp_ => ?_ | refine Sh.hvI m (by first | omega | decide) (by first | omega | (simp; done) | (simp; omega)) fun q_ _ hp_ => ?_ | refine Sh.svF m fun q_ _ hp_ => ?_ | refine Sh.hvF m fun q_ _ hp_ => ?_)); refine ⟨rfl, fun _ => ?_⟩; unfold s32_j3; simp only [List.getD_cons_zero, List.getD_cons_succ]
        refine JP_in ?_; (repeat (first | refine Sh.sv m ?_ | refine Sh.hv ?_ | (refine Sh.sw m ?_; clear m; intro g_ w m) | (refine Sh.su m ?_; clear m; intro w m) | (refine Sh.suN m ?_; clear m; intro w m) | (refine Sh.hr m ?_; clear m; intro m) | refine Sh.rsS m ?_ | refine Sh.hd m ?_ | refine Sh.rsK [] m ?_ | refine CN_tt ?_ | refine CN_ff ?_ | refine GD_tt ?_ | refine GD_ff ?_ | refine GD_tf ?_ | refine GD_ft ?_ | refine CN_true (by first | omega | (simp; done) | (simp; omega)) ?_ | refine CN_false (by first | omega | (simp; done) | (simp; omega)) ?_ | refine GD_true (by first | omega | (simp; done) | (simp; omega)) ?_ | refine GD_true' (by first | omega | (simp; done) | (simp; omega)) ?_ | refine GD_false (by first | omega | (simp; done) | (simp; omega)) ?_ | refine GD_false' (by first | omega | (simp; done) | (simp; omega)) ?_ | refine Sh.crN m ?_ | refine Sh.cr1 m ?_ | refine Sh.svI m (by first | omega | decide) (by first | omega | (simp; done) | (simp; omega)) fun q_ _ hp_ => ?_ | refine Sh.hvI m (by first | omega | decide) (by first | omega | (simp; done) | (simp; omega)) fun q_ _ hp_ => ?_ | refine Sh.svF m fun q_ _ hp_ => ?_ | refine Sh.hvF m fun q_ _ hp_ => ?_)); refine ⟨rfl, fun _ => ?_⟩; unfold s32_j2; simp only [List.getD_cons_zero, List.getD_cons_succ]
        refine JP_in ?_; (repeat (first | refine Sh.sv m ?_ | refine Sh.hv ?_ | (refine Sh.sw m ?_; clear m; intro g_ w m) | (refine Sh.su m ?_; clear m; intro w m) | (refine Sh.suN m ?_; clear m; intro w m) | (refine Sh.hr m ?_; clear m; intro m) | refine Sh.rsS m ?_ | refine Sh.hd m ?_ | refine Sh.rsK [] m ?_ | refine CN_tt ?_ | refine CN_ff ?_ | refine GD_tt ?_ | refine GD_ff ?_ | refine GD_tf ?_ | refine GD_ft ?_ | refine CN_true (by first | omega | (simp; done) | (simp; omega)) ?_ | refine CN_false (by first | omega | (simp; done) | (simp; omega)) ?_ | refine GD_true (by first | omega | (simp; done) | (simp; omega)) ?_ | refine GD_true' (by first | omega | (simp; done) | (simp; omega)) ?_ | refine GD_false (by first | omega | (simp; done) | (simp; omega)) ?_ | refine GD_false' (by first | omega | (simp; done) | (simp; omega)) ?_ | refine Sh.crN m ?_ | refine Sh.cr1 m ?_ | refine Sh.svI m (by first | omega | decide) (by first | omega | (simp; done) | (simp; omega)) fun q_ _ hp_ => ?_ | refine Sh.hvI m (by first | omega | decide) (by first | omega | (simp; done) | (simp; omega)) fun q_ _ hp_ => ?_ | refine Sh.svF m fun q_ _ hp_ => ?_ | refine Sh.hvF m fun q_ _ hp_ => ?_)); refine ⟨rfl, fun _ => ?_⟩; unfold s32_j1; simp only [List.getD_cons_zero, List.getD_cons_succ]
        (repeat (first | refine Sh.sv m ?_ | refine Sh.hv ?_ | (refine Sh.sw m ?_; clear m; intro g_ w m) | (refine Sh.su m ?_; clear m; intro w m) | (refine Sh.suN m ?_; clear m; intro w m) | (refine Sh.hr m ?_; clear m; intro m) | refine Sh.rsS m ?_ | refine Sh.hd m ?_ | refine Sh.rsK [] m ?_ | refine CN_tt ?_ | refine CN_ff ?_ | refine GD_tt ?_ | refine GD_ff ?_ | refine GD_tf ?_ | refine GD_ft ?_ | refine CN_true (by first | omega | (simp; done) | (simp; omega)) ?_ | refine CN_false (by first | omega | (simp; done) | (simp; omega)) ?_ | refine GD_true (by first | omega | (simp; done) | (simp; omega)) ?_ | refine GD_true' (by first | omega | (simp; done) | (simp; omega)) ?_ | refine GD_false (by first | omega | (simp; done) | (simp; omega)) ?_ | refine GD_false' (by first | omega | (simp; done) | (simp; omega)) ?_ | refine Sh.crN m ?_ | refine Sh.cr1 m ?_ | refine Sh.svI m (by first | omega | decide) (by first | omega | (simp; done) | (simp; omega)) fun q_ _ hp_ => ?_ | refine Sh.hvI m (by first | omega | decide) (by first | omega | (simp; done) | (simp; omega)) fun q_ _ hp_ => ?_ | refine Sh.svF m fun q_ _ hp_ => ?_ | refine Sh.hvF m fun q_ _ hp_ => ?_))
        refine n98 (m.ret (ref_begins b a _) ?_); clear m; intro w m
        refine n98 (m.ret (ref_begins a b _) ?_); clear m; intro w m
        (repeat (first | refine Sh.sv m ?_ | refine Sh.hv ?_ | (refine Sh.sw m ?_; clear m; intro g_ w m) | (refine Sh.su m ?_; clear m; intro w m) | (refine Sh.suN m ?_; clear m; intro w m) | (refine Sh.hr m ?_; clear m; intro m) | refine Sh.rsS m ?_ | refine Sh.hd m ?_ | refine Sh.rsK [] m ?_ | refine CN_tt ?_ | refine CN_ff ?_ | refine GD_tt ?_ | refine GD_ff ?_ | refine GD_tf ?_ | refine GD_ft ?_ | refine CN_true (by first | omega | (simp; done) | (simp; omega)) ?_ | refine CN_false (by first | omega | (simp; done) | (simp; omega)) ?_ | refine GD_true (by first | omega | (simp; done) | (simp; omega)) ?_ | refine GD_true' (by first | omega | (simp; done) | (simp; omega)) ?_ | refine GD_false (by first | omega | (simp; done) | (simp; omega)) ?_ | refine GD_false' (by first | omega | (simp; done) | (simp; omega)) ?_ | refine Sh.crN m ?_ | refine Sh.cr1 m ?_ | refine Sh.svI m (by first | omega | decide) (by first | omega | (simp; done) | (simp; omega)) fun q_ _ hp_ => ?_ | refine Sh.hvI m (by first | omega | decide) (by first | omega | (simp; done) | (simp; omega)) fun q_ _ hp_ => ?_ | refine Sh.svF m fun q_ _ hp_ => ?_ | refine Sh.hvF m fun q_ _ hp_ => ?_))
        refine CN_split (fun h0 => ?_) (fun h0 => ?_)
        · subst h0
          refine ⟨fin v w ?_, by simp; omega⟩
          have h := m.sub (X := [own eOp v _, sl eFile ov old, sl eFile nv now]) (by repeat (first | exact Frm.nil | (with_reducible exact Rem.dup) | (with_reducible exact Rem.here) | apply Frm.cons | apply Rem.there))
          simpa [changeOf, isPre] using h
        · cases h1 : isPre a b with
          | true =>
            have hle : a.length ≤ b.length := by simp [isPre] at h1; exact h1.1
            (repeat (first | refine Sh.sv m ?_ | refine Sh.hv ?_ | (refine Sh.sw m ?_; clear m; intro g_ w m) | (refine Sh.su m ?_; clear m; intro w m) | (refine Sh.suN m ?_; clear m; intro w m) | (refine Sh.hr m ?_; clear m; intro m) | refine Sh.rsS m ?_ | refine Sh.hd m ?_ | refine Sh.rsK [] m ?_ | refine CN_tt ?_ | refine CN_ff ?_ | refine GD_tt ?_ | refine GD_ff ?_ | refine GD_tf ?_ | refine GD_ft ?_ | refine CN_true (by first | omega | (simp; done) | (simp; omega)) ?_ | refine CN_false (by first | omega | (simp; done) | (simp; omega)) ?_ | refine GD_true (by first | omega | (simp; done) | (simp; omega)) ?_ | refine GD_true' (by first | omega | (simp; done) | (simp; omega)) ?_ | refine GD_false (by first | omega | (simp; done) | (simp; omega)) ?_ | refine GD_false' (by first | omega | (simp; done) | (simp; omega)) ?_ | refine Sh.crN m ?_ | refine Sh.cr1 m ?_ | refine Sh.svI m (by first | omega | decide) (by first | omega | (simp; done) | (simp; omega)) fun q_ _ hp_ => ?_ | refine Sh.hvI m (by first | omega | decide) (by first | omega | (simp; done) | (simp; omega)) fun q_ _ hp_ => ?_ | refine Sh.svF m fun q_ _ hp_ => ?_ | refine Sh.hvF m fun q_ _ hp_ => ?_))
            refine lits eOp [⟨2, name, b.drop a.length, 0⟩] m [_] rfl rfl rfl (by simp) ?_; clear m; intro v1 w _ m
            refine ap m (by simp; omega) (by simp [maxLen]; omega) ?_; clear m; intro v3 w _ m
            (repeat (first | refine Sh.sv m ?_ | refine Sh.hv ?_ | (refine Sh.sw m ?_; clear m; intro g_ w m) | (refine Sh.su m ?_; clear m; intro w m) | (refine Sh.suN m ?_; clear m; intro w m) | (refine Sh.hr m ?_; clear m; intro m) | refine Sh.rsS m ?_ | refine Sh.hd m ?_ | refine Sh.rsK [] m ?_ | refine CN_tt ?_ | refine CN_ff ?_ | refine GD_tt ?_ | refine GD_ff ?_ | refine GD_tf ?_ | refine GD_ft ?_ | refine CN_true (by first | omega | (simp; done) | (simp; omega)) ?_ | refine CN_false (by first | omega | (simp; done) | (simp; omega)) ?_ | refine GD_true (by first | omega | (simp; done) | (simp; omega)) ?_ | refine GD_true' (by first | omega | (simp; done) | (simp; omega)) ?_ | refine GD_false (by first | omega | (simp; done) | (simp; omega)) ?_ | refine GD_false' (by first | omega | (simp; done) | (simp; omega)) ?_ | refine Sh.crN m ?_ | refine Sh.cr1 m ?_ | refine Sh.svI m (by first | omega | decide) (by first | omega | (simp; done) | (simp; omega)) fun q_ _ hp_ => ?_ | refine Sh.hvI m (by first | omega | decide) (by first | omega | (simp; done) | (simp; omega)) fun q_ _ hp_ => ?_ | refine Sh.svF m fun q_ _ hp_ => ?_ | refine Sh.hvF m fun q_ _ hp_ => ?_))
            refine ⟨fin v3 w ?_, by simp; omega⟩
            have h := m.sub (X := [own eOp v3 _, sl eFile ov old, sl eFile nv now]) (by repeat (first | exact Frm.nil | (with_reducible exact Rem.dup) | (with_reducible exact Rem.here) | apply Frm.cons | apply Rem.there))
            have h2 : ¬ b.length ≤ a.length := fun h => h0 (isPre_self h1 (List.drop_eq_nil_of_le h))
            simpa [changeOf, h1, h2] using h
          | false =>
            (repeat (first | refine Sh.sv m ?_ | refine Sh.hv ?_ | (refine Sh.sw m ?_; clear m; intro g_ w m) | (refine Sh.su m ?_; clear m; intro w m) | (refine Sh.suN m ?_; clear m; intro w m) | (refine Sh.hr m ?_; clear m; intro m) | refine Sh.rsS m ?_ | refine Sh.hd m ?_ | refine Sh.rsK [] m ?_ | refine CN_tt ?_ | refine CN_ff ?_ | refine GD_tt ?_ | refine GD_ff ?_ | refine GD_tf ?_ | refine GD_ft ?_ | refine CN_true (by first | omega | (simp; done) | (simp; omega)) ?_ | refine CN_false (by first | omega | (simp; done) | (simp; omega)) ?_ | refine GD_true (by first | omega | (simp; done) | (simp; omega)) ?_ | refine GD_true' (by first | omega | (simp; done) | (simp; omega)) ?_ | refine GD_false (by first | omega | (simp; done) | (simp; omega)) ?_ | refine GD_false' (by first | omega | (simp; done) | (simp; omega)) ?_ | refine Sh.crN m ?_ | refine Sh.cr1 m ?_ | refine Sh.svI m (by first | omega | decide) (by first | omega | (simp; done) | (simp; omega)) fun q_ _ hp_ => ?_ | refine Sh.hvI m (by first | omega | decide) (by first | omega | (simp; done) | (simp; omega)) fun q_ _ hp_ => ?_ | refine Sh.svF m fun q_ _ hp_ => ?_ | refine Sh.hvF m fun q_ _ hp_ => ?_))
            cases h2 : isPre b a with
            | true =>
              (repeat (first | refine Sh.sv m ?_ | refine Sh.hv ?_ | (refine Sh.sw m ?_; clear m; intro g_ w m) | (refine Sh.su m ?_; clear m; intro w m) | (refine Sh.suN m ?_; clear m; intro w m) | (refine Sh.hr m ?_; clear m; intro m) | refine Sh.rsS m ?_ | refine Sh.hd m ?_ | refine Sh.rsK [] m ?_ | refine CN_tt ?_ | refine CN_ff ?_ | refine GD_tt ?_ | refine GD_ff ?_ | refine GD_tf ?_ | refine GD_ft ?_ | refine CN_true (by first | omega | (simp; done) | (simp; omega)) ?_ | refine CN_false (by first | omega | (simp; done) | (simp; omega)) ?_ | refine GD_true (by first | omega | (simp; done) | (simp; omega)) ?_ | refine GD_true' (by first | omega | (simp; done) | (simp; omega)) ?_ | refine GD_false (by first | omega | (simp; done) | (simp; omega)) ?_ | refine GD_false' (by first | omega | (simp; done) | (simp; omega)) ?_ | refine Sh.crN m ?_ | refine Sh.cr1 m ?_ | refine Sh.svI m (by first | omega | decide) (by first | omega | (simp; done) | (simp; omega)) fun q_ _ hp_ => ?_ | refine Sh.hvI m (by first | omega | decide) (by first | omega | (simp; done) | (simp; omega)) fun q_ _ hp_ => ?_ | refine Sh.svF m fun q_ _ hp_ => ?_ | refine Sh.hvF m fun q_ _ hp_ => ?_))
              refine lits eOp [⟨3, name, [], b.length⟩] m [_] rfl rfl rfl (by simp) ?_; clear m; intro v1 w _ m
              refine ap m (by simp; omega) (by simp [maxLen]; omega) ?_; clear m; intro v3 w _ m
              (repeat (first | refine Sh.sv m ?_ | refine Sh.hv ?_ | (refine Sh.sw m ?_; clear m; intro g_ w m) | (refine Sh.su m ?_; clear m; intro w m) | (refine Sh.suN m ?_; clear m; intro w m) | (refine Sh.hr m ?_; clear m; intro m) | refine Sh.rsS m ?_ | refine Sh.hd m ?_ | refine Sh.rsK [] m ?_ | refine CN_tt ?_ | refine CN_ff ?_ | refine GD_tt ?_ | refine GD_ff ?_ | refine GD_tf ?_ | refine GD_ft ?_ | refine CN_true (by first | omega | (simp; done) | (simp; omega)) ?_ | refine CN_false (by first | omega | (simp; done) | (simp; omega)) ?_ | refine GD_true (by first | omega | (simp; done) | (simp; omega)) ?_ | refine GD_true' (by first | omega | (simp; done) | (simp; omega)) ?_ | refine GD_false (by first | omega | (simp; done) | (simp; omega)) ?_ | refine GD_false' (by first | omega | (simp; done) | (simp; omega)) ?_ | refine Sh.crN m ?_ | refine Sh.cr1 m ?_ | refine Sh.svI m (by first | omega | decide) (by first | omega | (simp; done) | (simp; omega)) fun q_ _ hp_ => ?_ | refine Sh.hvI m (by first | omega | decide) (by first | omega | (simp; done) | (simp; omega)) fun q_ _ hp_ => ?_ | refine Sh.svF m fun q_ _ hp_ => ?_ | refine Sh.hvF m fun q_ _ hp_ => ?_))
              refine ⟨fin v3 w ?_, by simp; omega⟩
              have h := m.sub (X := [own eOp v3 _, sl eFile ov old, sl eFile nv now]) (by repeat (first | exact Frm.nil | (with_reducible exact Rem.dup) | (with_reducible exact Rem.here) | apply Frm.cons | apply Rem.there))
              simpa [changeOf, h1, h2] using h
            | false =>
              (repeat (first | refine Sh.sv m ?_ | refine Sh.hv ?_ | (refine Sh.sw m ?_; clear m; intro g_ w m) | (refine Sh.su m ?_; clear m; intro w m) | (refine Sh.suN m ?_; clear m; intro w m) | (refine Sh.hr m ?_; clear m; intro m) | refine Sh.rsS m ?_ | refine Sh.hd m ?_ | refine Sh.rsK [] m ?_ | refine CN_tt ?_ | refine CN_ff ?_ | refine GD_tt ?_ | refine GD_ff ?_ | refine GD_tf ?_ | refine GD_ft ?_ | refine CN_true (by first | omega | (simp; done) | (simp; omega)) ?_ | refine CN_false (by first | omega | (simp; done) | (simp; omega)) ?_ | refine GD_true (by first | omega | (simp; done) | (simp; omega)) ?_ | refine GD_true' (by first | omega | (simp; done) | (simp; omega)) ?_ | refine GD_false (by first | omega | (simp; done) | (simp; omega)) ?_ | refine GD_false' (by first | omega | (simp; done) | (simp; omega)) ?_ | refine Sh.crN m ?_ | refine Sh.cr1 m ?_ | refine Sh.svI m (by first | omega | decide) (by first | omega | (simp; done) | (simp; omega)) fun q_ _ hp_ => ?_ | refine Sh.hvI m (by first | omega | decide) (by first | omega | (simp; done) | (simp; omega)) fun q_ _ hp_ => ?_ | refine Sh.svF m fun q_ _ hp_ => ?_ | refine Sh.hvF m fun q_ _ hp_ => ?_))
              refine lits eOp [⟨5, name, b, 0⟩] m [_] rfl rfl rfl (by simp) ?_; clear m; intro v1 w _ m
              refine ap m (by simp; omega) (by simp [maxLen]; omega) ?_; clear m; intro v3 w _ m
              (repeat (first | refine Sh.sv m ?_ | refine Sh.hv ?_ | (refine Sh.sw m ?_; clear m; intro g_ w m) | (refine Sh.su m ?_; clear m; intro w m) | (refine Sh.suN m ?_; clear m; intro w m) | (refine Sh.hr m ?_; clear m; intro m) | refine Sh.rsS m ?_ | refine Sh.hd m ?_ | refine Sh.rsK [] m ?_ | refine CN_tt ?_ | refine CN_ff ?_ | refine GD_tt ?_ | refine GD_ff ?_ | refine GD_tf ?_ | refine GD_ft ?_ | refine CN_true (by first | omega | (simp; done) | (simp; omega)) ?_ | refine CN_false (by first | omega | (simp; done) | (simp; omega)) ?_ | refine GD_true (by first | omega | (simp; done) | (simp; omega)) ?_ | refine GD_true' (by first | omega | (simp; done) | (simp; omega)) ?_ | refine GD_false (by first | omega | (simp; done) | (simp; omega)) ?_ | refine GD_false' (by first | omega | (simp; done) | (simp; omega)) ?_ | refine Sh.crN m ?_ | refine Sh.cr1 m ?_ | refine Sh.svI m (by first | omega | decide) (by first | omega | (simp; done) | (simp; omega)) fun q_ _ hp_ => ?_ | refine Sh.hvI m (by first | omega | decide) (by first | omega | (simp; done) | (simp; omega)) fun q_ _ hp_ => ?_ | refine Sh.svF m fun q_ _ hp_ => ?_ | refine Sh.hvF m fun q_ _ hp_ => ?_))
              refine ⟨fin v3 w ?_, by simp; omega⟩
              have h := m.sub (X := [own eOp v3 _, sl eFile ov old, sl eFile nv now]) (by repeat (first | exact Frm.nil | (with_reducible exact Rem.dup) | (with_reducible exact Rem.here) | apply Frm.cons | apply Rem.there))
              simpa [changeOf, h1, h2] using h
  have memT : ∀ (l : List File) (j : Nat) (f : File), f ∈ l → f ∈ l.take j ∨ f ∈ l.drop j := fun l j f hf => by
    rw [← List.take_append_drop j l] at hf; exact List.mem_append.1 hf
  -- a name of the old ones alone
  have left : ∀ (a : File) (os : List File) (w : World), old.drop i = a :: os → (∀ y ∈ now.drop k, Op.bytesLess a.name y.name = true) → diffOf (old.drop i) (now.drop k) = changeOf a.name a.data [] true false ++ diffOf os (now.drop k) →
      St w0 [sl eFile ov old, sl eFile nv now] w [own eOp v acc, sl eFile ov old, sl eFile nv now] → _ := fun a os w e ha hdf m =>
    key a.name (some a.data) none (i + 1) k w (findF_drop hso e) (findF_none fun f hf => by
        rcases memT now k f hf with h | h
        · exact blt_ne (hB f h a (by rw [e]; exact List.mem_cons_self))
        · exact (blt_ne (ha f h)).symm) rfl rfl (by rw [hdf, (drop_succ' e).1]; rfl) (drop_succ' e).2.1 hk (by omega) (by simp)
      (fun x hx y hy => by
        rw [(drop_succ' e).2.2] at hx
        rcases List.mem_append.1 hx with hx | hx
        · exact hA x hx y hy
        · cases List.mem_singleton.1 hx; exact ha y hy)
      (fun x hx y hy => hB x hx y (by rw [e]; rw [(drop_succ' e).1] at hy; exact List.mem_cons_of_mem _ hy)) m
  have right : ∀ (b : File) (ns : List File) (w : World), now.drop k = b :: ns → (∀ y ∈ old.drop i, Op.bytesLess b.name y.name = true) → diffOf (old.drop i) (now.drop k) = changeOf b.name [] b.data false true ++ diffOf (old.drop i) ns →
      St w0 [sl eFile ov old, sl eFile nv now] w [own eOp v acc, sl eFile ov old, sl eFile nv now] → _ := fun b ns w e hb hdf m =>
    key b.name none (some b.data) i (k + 1) w (findF_none fun f hf => by
        rcases memT old i f hf with h | h
        · exact blt_ne (hA f h b (by rw [e]; exact List.mem_cons_self))
        · exact (blt_ne (hb f h)).symm) (findF_drop hsn e) rfl rfl (by rw [hdf, (drop_succ' e).1]; rfl) hi (drop_succ' e).2.1 (by omega) (hd b (List.mem_of_mem_drop (i := k) (by rw [e]; exact List.mem_cons_self)))
      (fun x hx y hy => hA x hx y (by rw [e]; rw [(drop_succ' e).1] at hy; exact List.mem_cons_of_mem _ hy))
      (fun x hx y hy => by
        rw [(drop_succ' e).2.2] at hx
        rcases List.mem_append.1 hx with hx | hx
        · exact hB x hx y hy
        · cases List.mem_singleton.1 hx; exact hb y hy) m
  have both : ∀ (a b : File) (os ns : List File) (w : World), old.drop i = a :: os → now.drop k = b :: ns → a.name = b.name → diffOf (old.drop i) (now.drop k) = changeOf a.name a.data b.data true true ++ diffOf os ns →
      St w0 [sl eFile ov old, sl eFile nv now] w [own eOp v acc, sl eFile ov old, sl eFile nv now] → _ := fun a b os ns w e e' hab hdf m =>
    key a.name (some a.data) (some b.data) (i + 1) (k + 1) w (findF_drop hso e) (by rw [hab]; exact findF_drop hsn e') rfl rfl (by rw [hdf, (drop_succ' e).1, (drop_succ' e').1]; rfl) (drop_succ' e).2.1 (drop_succ' e').2.1 (by omega) (hd b (List.mem_of_mem_drop (i := k) (by rw [e']; exact List.mem_cons_self)))
      (fun x hx y hy => by
        rw [(drop_succ' e').1] at hy
        rw [(drop_succ' e).2.2] at hx
        rcases List.mem_append.1 hx with hx | hx
        · exact hA x hx y (by rw [e']; exact List.mem_cons_of_mem _ hy)
        · cases List.mem_singleton.1 hx; rw [hab]; exact (rises_drop hsn e').1 y hy)
      (fun x hx y hy => by
        rw [(drop_succ' e).1] at hy
        rw [(drop_succ' e').2.2] at hx
        rcases List.mem_append.1 hx with hx | hx
        · exact hB x hx y (by rw [e]; exact List.mem_cons_of_mem _ hy)
        · cases List.mem_singleton.1 hx; rw [← hab]; exact (rises_drop hso e).1 y hy) m
  clear key
  by_cases hil : i < old.length
  · have e := List.drop_eq_getElem_cons hil
    by_cases hkl : k < now.length
    · have e' := List.drop_eq_getElem_cons hkl
      (repeat (first | refine Sh.sv m ?_ | refine Sh.hv ?_ | (refine Sh.sw m ?_; clear m; intro g_ w m) | (refine Sh.su m ?_; clear m; intro w m) | (refine Sh.suN m ?_; clear m; intro w m) | (refine Sh.hr m ?_; clear m; intro m) | refine Sh.rsS m ?_ | refine Sh.hd m ?_ | refine Sh.rsK [] m ?_ | refine CN_tt ?_ | refine CN_ff ?_ | refine GD_tt ?_ | refine GD_ff ?_ | refine GD_tf ?_ | refine GD_ft ?_ | refine CN_true (by first | omega | (simp; done) | (simp; omega)) ?_ | refine CN_false (by first | omega | (simp; done) | (simp; omega)) ?_ | refine GD_true (by first | omega | (simp; done) | (simp; omega)) ?_ | refine GD_true' (by first | omega | (simp; done) | (simp; omega)) ?_ | refine GD_false (by first | omega | (simp; done) | (simp; omega)) ?_ | refine GD_false' (by first | omega | (simp; done) | (simp; omega)) ?_ | refine Sh.crN m ?_ | refine Sh.cr1 m ?_ | refine Sh.svI m (by first | omega | decide) (by first | omega | (simp; done) | (simp; omega)) fun q_ _ hp_ => ?_ | refine Sh.hvI m (by first | omega | decide) (by first | omega | (simp; done) | (simp; omega)) fun q_ _ hp_ => ?_ | refine Sh.svF m fun q_ _ hp_ => ?_ | refine Sh.hvF m fun q_ _ hp_ => ?_))
      refine JP_in ?_
      have hne : ¬ ((k : Int) = (now.length : Int)) := by omega
      (repeat (first | refine Sh.sv m ?_ | refine Sh.hv ?_ | (refine Sh.sw m ?_; clear m; intro g_ w m) | (refine Sh.su m ?_; clear m; intro w m) | (refine Sh.suN m ?_; clear m; intro w m) | (refine Sh.hr m ?_; clear m; intro m) | refine Sh.rsS m ?_ | refine Sh.hd m ?_ | refine Sh.rsK [] m ?_ | refine CN_tt ?_ | refine CN_ff ?_ | refine GD_tt ?_ | refine GD_ff ?_ | refine GD_tf ?_ | refine GD_ft ?_ | refine CN_true (by first | omega | (simp; done) | (simp; omega)) ?_ | refine CN_false (by first | omega | (simp; done) | (simp; omega)) ?_ | refine GD_true (by first | omega | (simp; done) | (simp; omega)) ?_ | refine GD_true' (by first | omega | (simp; done) | (simp; omega)) ?_ | refine GD_false (by first | omega | (simp; done) | (simp; omega)) ?_ | refine GD_false' (by first | omega | (simp; done) | (simp; omega)) ?_ | refine Sh.crN m ?_ | refine Sh.cr1 m ?_ | refine Sh.svI m (by first | omega | decide) (by first | omega | (simp; done) | (simp; omega)) fun q_ _ hp_ => ?_ | refine Sh.hvI m (by first | omega | decide) (by first | omega | (simp; done) | (simp; omega)) fun q_ _ hp_ => ?_ | refine Sh.svF m fun q_ _ hp_ => ?_ | refine Sh.hvF m fun q_ _ hp_ => ?_))
      simp only [Int.toNat_natCast]
      have hda : ∀ y ∈ old.drop (i + 1), Op.bytesLess old[i].name y.name = true := (rises_drop hso e).1
      have hdb : ∀ y ∈ now.drop (k + 1), Op.bytesLess now[k].name y.name = true := (rises_drop hsn e').1
      rcases blt_tri old[i].name now[k].name with h | h | h
      · rw [h]
        (repeat (first | refine Sh.sv m ?_ | refine Sh.hv ?_ | (refine Sh.sw m ?_; clear m; intro g_ w m) | (refine Sh.su m ?_; clear m; intro w m) | (refine Sh.suN m ?_; clear m; intro w m) | (refine Sh.hr m ?_; clear m; intro m) | refine Sh.rsS m ?_ | refine Sh.hd m ?_ | refine Sh.rsK [] m ?_ | refine CN_tt ?_ | refine CN_ff ?_ | refine GD_tt ?_ | refine GD_ff ?_ | refine GD_tf ?_ | refine GD_ft ?_ | refine CN_true (by first | omega | (simp; done) | (simp; omega)) ?_ | refine CN_false (by first | omega | (simp; done) | (simp; omega)) ?_ | refine GD_true (by first | omega | (simp; done) | (simp; omega)) ?_ | refine GD_true' (by first | omega | (simp; done) | (simp; omega)) ?_ | refine GD_false (by first | omega | (simp; done) | (simp; omega)) ?_ | refine GD_false' (by first | omega | (simp; done) | (simp; omega)) ?_ | refine Sh.crN m ?_ | refine Sh.cr1 m ?_ | refine Sh.svI m (by first | omega | decide) (by first | omega | (simp; done) | (simp; omega)) fun q_ _ hp_ => ?_ | refine Sh.hvI m (by first | omega | decide) (by first | omega | (simp; done) | (simp; omega)) fun q_ _ hp_ => ?_ | refine Sh.svF m fun q_ _ hp_ => ?_ | refine Sh.hvF m fun q_ _ hp_ => ?_))
        refine ⟨rfl, fun _ => left old[i] _ _ e (fun y hy => ?_) ?_ m⟩
        · rw [e'] at hy
          rcases List.mem_cons.1 hy with rfl | hy
          · exact h
          · exact blt_trans h (hdb y hy)
        · rw [e, e', diffOf, if_pos h]
      · have h1 : Op.bytesLess old[i].name now[k].name = false := by rw [h]; exact blt_irr _
        have h2 : Op.bytesLess now[k].name old[i].name = false := by rw [h]; exact blt_irr _
        rw [show (Op.bytesLess old[i].name now[k].name || old[i].name == now[k].name) = true by simp [h]]
        (repeat (first | refine Sh.sv m ?_ | refine Sh.hv ?_ | (refine Sh.sw m ?_; clear m; intro g_ w m) | (refine Sh.su m ?_; clear m; intro w m) | (refine Sh.suN m ?_; clear m; intro w m) | (refine Sh.hr m ?_; clear m; intro m) | refine Sh.rsS m ?_ | refine Sh.hd m ?_ | refine Sh.rsK [] m ?_ | refine CN_tt ?_ | refine CN_ff ?_ | refine GD_tt ?_ | refine GD_ff ?_ | refine GD_tf ?_ | refine GD_ft ?_ | refine CN_true (by first | omega | (simp; done) | (simp; omega)) ?_ | refine CN_false (by first | omega | (simp; done) | (simp; omega)) ?_ | refine GD_true (by first | omega | (simp; done) | (simp; omega)) ?_ | refine GD_true' (by first | omega | (simp; done) | (simp; omega)) ?_ | refine GD_false (by first | omega | (simp; done) | (simp; omega)) ?_ | refine GD_false' (by first | omega | (simp; done) | (simp; omega)) ?_ | refine Sh.crN m ?_ | refine Sh.cr1 m ?_ | refine Sh.svI m (by first | omega | decide) (by first | omega | (simp; done) | (simp; omega)) fun q_ _ hp_ => ?_ | refine Sh.hvI m (by first | omega | decide) (by first | omega | (simp; done) | (simp; omega)) fun q_ _ hp_ => ?_ | refine Sh.svF m fun q_ _ hp_ => ?_ | refine Sh.hvF m fun q_ _ hp_ => ?_))
        refine ⟨rfl, fun _ => both old[i] now[k] _ _ _ e e' h ?_ m⟩
        rw [e, e', diffOf, if_neg (by simp [h1]), if_neg (by simp [h2]), h]
      · have h1 := blt_asymm h
        have h2 : (old[i].name == now[k].name) = false := by simpa using (blt_ne h).symm
        rw [h1, h2]
        (repeat (first | refine Sh.sv m ?_ | refine Sh.hv ?_ | (refine Sh.sw m ?_; clear m; intro g_ w m) | (refine Sh.su m ?_; clear m; intro w m) | (refine Sh.suN m ?_; clear m; intro w m) | (refine Sh.hr m ?_; clear m; intro m) | refine Sh.rsS m ?_ | refine Sh.hd m ?_ | refine Sh.rsK [] m ?_ | refine CN_tt ?_ | refine CN_ff ?_ | refine GD_tt ?_ | refine GD_ff ?_ | refine GD_tf ?_ | refine GD_ft ?_ | refine CN_true (by first | omega | (simp; done) | (simp; omega)) ?_ | refine CN_false (by first | omega | (simp; done) | (simp; omega)) ?_ | refine GD_true (by first | omega | (simp; done) | (simp; omega)) ?_ | refine GD_true' (by first | omega | (simp; done) | (simp; omega)) ?_ | refine GD_false (by first | omega | (simp; done) | (simp; omega)) ?_ | refine GD_false' (by first | omega | (simp; done) | (simp; omega)) ?_ | refine Sh.crN m ?_ | refine Sh.cr1 m ?_ | refine Sh.svI m (by first | omega | decide) (by first | omega | (simp; done) | (simp; omega)) fun q_ _ hp_ => ?_ | refine Sh.hvI m (by first | omega | decide) (by first | omega | (simp; done) | (simp; omega)) fun q_ _ hp_ => ?_ | refine Sh.svF m fun q_ _ hp_ => ?_ | refine Sh.hvF m fun q_ _ hp_ => ?_))
        refine ⟨rfl, fun _ => right now[k] _ _ e' (fun y hy => ?_) ?_ m⟩
        · rw [e] at hy
          rcases List.mem_cons.1 hy with rfl | hy
          · exact h
          · exact blt_trans h (hda y hy)
        · rw [e, e', diffOf, if_neg (by simp [h1]), if_pos h]
    · have hk' : k = now.length := by omega
      have e' : now.drop k = [] := List.drop_eq_nil_of_le (by omega)
      (repeat (first | refine Sh.sv m ?_ | refine Sh.hv ?_ | (refine Sh.sw m ?_; clear m; intro g_ w m) | (refine Sh.su m ?_; clear m; intro w m) | (refine Sh.suN m ?_; clear m; intro w m) | (refine Sh.hr m ?_; clear m; intro m) | refine Sh.rsS m ?_ | refine Sh.hd m ?_ | refine Sh.rsK [] m ?_ | refine CN_tt ?_ | refine CN_ff ?_ | refine GD_tt ?_ | refine GD_ff ?_ | refine GD_tf ?_ | refine GD_ft ?_ | refine CN_true (by first | omega | (simp; done) | (simp; omega)) ?_ | refine CN_false (by first | omega | (simp; done) | (simp; omega)) ?_ | refine GD_true (by first | omega | (simp; done) | (simp; omega)) ?_ | refine GD_true' (by first | omega | (simp; done) | (simp; omega)) ?_ | refine GD_false (by first | omega | (simp; done) | (simp; omega)) ?_ | refine GD_false' (by first | omega | (simp; done) | (simp; omega)) ?_ | refine Sh.crN m ?_ | refine Sh.cr1 m ?_ | refine Sh.svI m (by first | omega | decide) (by first | omega | (simp; done) | (simp; omega)) fun q_ _ hp_ => ?_ | refine Sh.hvI m (by first | omega | decide) (by first | omega | (simp; done) | (simp; omega)) fun q_ _ hp_ => ?_ | refine Sh.svF m fun q_ _ hp_ => ?_ | refine Sh.hvF m fun q_ _ hp_ => ?_))
      refine JP_in ?_
      (repeat (first | refine Sh.sv m ?_ | refine Sh.hv ?_ | (refine Sh.sw m ?_; clear m; intro g_ w m) | (refine Sh.su m ?_; clear m; intro w m) | (refine Sh.suN m ?_; clear m; intro w m) | (refine Sh.hr m ?_; clear m; intro m) | refine Sh.rsS m ?_ | refine Sh.hd m ?_ | refine Sh.rsK [] m ?_ | refine CN_tt ?_ | refine CN_ff ?_ | refine GD_tt ?_ | refine GD_ff ?_ | refine GD_tf ?_ | refine GD_ft ?_ | refine CN_true (by first | omega | (simp; done) | (simp; omega)) ?_ | refine CN_false (by first | omega | (simp; done) | (simp; omega)) ?_ | refine GD_true (by first | omega | (simp; done) | (simp; omega)) ?_ | refine GD_true' (by first | omega | (simp; done) | (simp; omega)) ?_ | refine GD_false (by first | omega | (simp; done) | (simp; omega)) ?_ | refine GD_false' (by first | omega | (simp; done) | (simp; omega)) ?_ | refine Sh.crN m ?_ | refine Sh.cr1 m ?_ | refine Sh.svI m (by first | omega | decide) (by first | omega | (simp; done) | (simp; omega)) fun q_ _ hp_ => ?_ | refine Sh.hvI m (by first | omega | decide) (by first | omega | (simp; done) | (simp; omega)) fun q_ _ hp_ => ?_ | refine Sh.svF m fun q_ _ hp_ => ?_ | refine Sh.hvF m fun q_ _ hp_ => ?_))
      simp only [Int.toNat_natCast]
      refine ⟨rfl, fun _ => left old[i] _ _ e (fun y hy => by rw [e'] at hy; cases hy) ?_ m⟩
      rw [e, e', diffOf]
  · have e : old.drop i = [] := List.drop_eq_nil_of_le (by omega)
    by_cases hkl : k < now.length
    · have e' := List.drop_eq_getElem_cons hkl
      (repeat (first | refine Sh.sv m ?_ | refine Sh.hv ?_ | (refine Sh.sw m ?_; clear m; intro g_ w m) | (refine Sh.su m ?_; clear m; intro w m) | (refine Sh.suN m ?_; clear m; intro w m) | (refine Sh.hr m ?_; clear m; intro m) | refine Sh.rsS m ?_ | refine Sh.hd m ?_ | refine Sh.rsK [] m ?_ | refine CN_tt ?_ | refine CN_ff ?_ | refine GD_tt ?_ | refine GD_ff ?_ | refine GD_tf ?_ | refine GD_ft ?_ | refine CN_true (by first | omega | (simp; done) | (simp; omega)) ?_ | refine CN_false (by first | omega | (simp; done) | (simp; omega)) ?_ | refine GD_true (by first | omega | (simp; done) | (simp; omega)) ?_ | refine GD_true' (by first | omega | (simp; done) | (simp; omega)) ?_ | refine GD_false (by first | omega | (simp; done) | (simp; omega)) ?_ | refine GD_false' (by first | omega | (simp; done) | (simp; omega)) ?_ | refine Sh.crN m ?_ | refine Sh.cr1 m ?_ | refine Sh.svI m (by first | omega | decide) (by first | omega | (simp; done) | (simp; omega)) fun q_ _ hp_ => ?_ | refine Sh.hvI m (by first | omega | decide) (by first | omega | (simp; done) | (simp; omega)) fun q_ _ hp_ => ?_ | refine Sh.svF m fun q_ _ hp_ => ?_ | refine Sh.hvF m fun q_ _ hp_ => ?_))
      refine JP_in ?_
      (repeat (first | refine Sh.sv m ?_ | refine Sh.hv ?_ | (refine Sh.sw m ?_; clear m; intro g_ w m) | (refine Sh.su m ?_; clear m; intro w m) | (refine Sh.suN m ?_; clear m; intro w m) | (refine Sh.hr m ?_; clear m; intro m) | refine Sh.rsS m ?_ | refine Sh.hd m ?_ | refine Sh.rsK [] m ?_ | refine CN_tt ?_ | refine CN_ff ?_ | refine GD_tt ?_ | refine GD_ff ?_ | refine GD_tf ?_ | refine GD_ft ?_ | refine CN_true (by first | omega | (simp; done) | (simp; omega)) ?_ | refine CN_false (by first | omega | (simp; done) | (simp; omega)) ?_ | refine GD_true (by first | omega | (simp; done) | (simp; omega)) ?_ | refine GD_true' (by first | omega | (simp; done) | (simp; omega)) ?_ | refine GD_false (by first | omega | (simp; done) | (simp; omega)) ?_ | refine GD_false' (by first | omega | (simp; done) | (simp; omega)) ?_ | refine Sh.crN m ?_ | refine Sh.cr1 m ?_ | refine Sh.svI m (by first | omega | decide) (by first | omega | (simp; done) | (simp; omega)) fun q_ _ hp_ => ?_ | refine Sh.hvI m (by first | omega | decide) (by first | omega | (simp; done) | (simp; omega)) fun q_ _ hp_ => ?_ | refine Sh.svF m fun q_ _ hp_ => ?_ | refine Sh.hvF m fun q_ _ hp_ => ?_))
      simp only [Int.toNat_natCast]
      refine ⟨rfl, fun _ => right now[k] _ _ e' (fun y hy => by rw [e] at hy; cases hy) ?_ m⟩
      rw [e, e', diffOf]
    · have e' : now.drop k = [] := List.drop_eq_nil_of_le (by omega)
      (repeat (first | refine Sh.sv m ?_ | refine Sh.hv ?_ | (refine Sh.sw m ?_; clear m; intro g_ w m) | (refine Sh.su m ?_; clear m; intro w m) | (refine Sh.suN m ?_; clear m; intro w m) | (refine Sh.hr m ?_; clear m; intro m) | refine Sh.rsS m ?_ | refine Sh.hd m ?_ | refine Sh.rsK [] m ?_ | refine CN_tt ?_ | refine CN_ff ?_ | refine GD_tt ?_ | refine GD_ff ?_ | refine GD_tf ?_ | refine GD_ft ?_ | refine CN_true (by first | omega | (simp; done) | (simp; omega)) ?_ | refine CN_false (by first | omega | (simp; done) | (simp; omega)) ?_ | refine GD_true (by first | omega | (simp; done) | (simp; omega)) ?_ | refine GD_true' (by first | omega | (simp; done) | (simp; omega)) ?_ | refine GD_false (by first | omega | (simp; done) | (simp; omega)) ?_ | refine GD_false' (by first | omega | (simp; done) | (simp; omega)) ?_ | refine Sh.crN m ?_ | refine Sh.cr1 m ?_ | refine Sh.svI m (by first | omega | decide) (by first | omega | (simp; done) | (simp; omega)) fun q_ _ hp_ => ?_ | refine Sh.hvI m (by first | omega | decide) (by first | omega | (simp; done) | (simp; omega)) fun q_ _ hp_ => ?_ | refine Sh.svF m fun q_ _ hp_ => ?_ | refine Sh.hvF m fun q_ _ hp_ => ?_))
      rw [e, e', diffOf, List.append_nil] at hacc
      rw [← hacc]
      exact m.sub (by repeat (first | exact Frm.nil | (with_reducible exact Rem.dup) | (with_reducible exact Rem.here) | apply Frm.cons | apply Rem.there))
end Go.Proofs.YtkdghnbogkbedaaGreatDoor

namespace Go.Proofs.YtkdghnbogkbedaaGreatDoor
open Go Go.Sh
set_option maxRecDepth 100000


theorem mixedXShard : Tryz.prog.follows .mixedOrders = true := by kernel_rfl

/-! ### 62: (*scrinium/shard.Shard).Rows -/

def s62 (P : Program) (k : Value → World → Prop) (a0_s : Value) (w : World) : Prop :=
  SV P (eqS .eql 97 (.tmp 3) (.const (Value.pointer none)) a0_s (Value.pointer none)) w fun t4 w =>
  CN t4
  (k (Value.slice none 0 0) w)
  (SV P (nilS a0_s) w fun t6 w =>
  SV P (Instr.fieldAt 166 t6 3) w fun t7 w =>
  SV P (Instr.loadAt 72 t7) w fun t8 w =>
  SN P (callFunc 122 #[t8]) w fun t9 w =>
  k t9 w)

theorem e62 (k : Value → World → Prop) (a0_s : Value) (w : World) : s62 Tryz.prog k a0_s w = vcF Tryz.prog Tryz.f62 [] [a0_s] k w := by kernel_rfl
theorem c62 {k : Value → World → Prop} {a0_s : Value} {w : World} (h : s62 Tryz.prog k a0_s w) : Calls Tryz.prog 62 #[a0_s] w (retP k) :=
  calls_of_vcF [] mixedXShard Tryz.func62 (by kernel_rfl) (Eq.mp (e62 k a0_s w) h)
theorem n62 {args : Array Value} {w : World} {k : Value → World → Prop} (h : Calls Tryz.prog 62 args w (retP k)) : SN Tryz.prog (callFunc 62 args) w k := sn_call Tryz.func62 (by kernel_rfl) (by kernel_rfl) h

/-! ### 117: (*scrinium/shard.Shard).Copy -/

def s117 (P : Program) (k : Value → World → Prop) (a0_s : Value) (w : World) : Prop :=
  SV P (eqS .eql 97 (.tmp 4) (.const (Value.pointer none)) a0_s (Value.pointer none)) w fun t5 w =>
  CN t5
  (k (Value.pointer none) w)
  (SV P (nilS a0_s) w fun t7 w =>
  SV P (Instr.loadAt 166 t7) w fun t8 w =>
  SV P (Instr.alloc 166 true (.tuple #[])) w fun c3 w =>
  SU P (Instr.storeAt 166 c3 t8) w fun w =>
  HR w fun C w =>
  HV P C (nilS a0_s) fun t10 =>
  HV P C (Instr.fieldAt 166 t10 2) fun t11 =>
  HV P C (Instr.loadAt 24 t11) fun t12 =>
  SN P (callFunc 88 #[t12]) w fun t13 w =>
  RS C w fun C =>
  HV P C (nilS a0_s) fun t15 =>
  HV P C (Instr.fieldAt 166 t15 3) fun t16 =>
  HV P C (Instr.loadAt 72 t16) fun t17 =>
  SN P (callFunc 122 #[t17]) w fun t18 w =>
  RS C w fun C =>
  HV P C (nilS a0_s) fun t20 =>
  HV P C (Instr.fieldAt 166 t20 4) fun t21 =>
  HV P C (Instr.loadAt 25 t21) fun t22 =>
  SN P (callFunc 89 #[t22]) w fun t23 w =>
  RS C w fun C =>
  HV P C (Instr.fieldAt 166 c3 2) fun t24 =>
  SU P (Instr.storeAt 24 t24 t13) w fun w =>
  RS C w fun C =>
  HV P C (Instr.fieldAt 166 c3 3) fun t25 =>
  SU P (Instr.storeAt 72 t25 t18) w fun w =>
  RS C w fun C =>
  HV P C (Instr.fieldAt 166 c3 4) fun t26 =>
  SU P (Instr.storeAt 25 t26 t23) w fun w =>
  k c3 w)

theorem e117 (k : Value → World → Prop) (a0_s : Value) (w : World) : s117 Tryz.prog k a0_s w = vcF Tryz.prog Tryz.f117 [] [a0_s] k w := by kernel_rfl
theorem c117 {k : Value → World → Prop} {a0_s : Value} {w : World} (h : s117 Tryz.prog k a0_s w) : Calls Tryz.prog 117 #[a0_s] w (retP k) :=
  calls_of_vcF [] mixedXShard Tryz.func117 (by kernel_rfl) (Eq.mp (e117 k a0_s w) h)
theorem n117 {args : Array Value} {w : World} {k : Value → World → Prop} (h : Calls Tryz.prog 117 args w (retP k)) : SN Tryz.prog (callFunc 117 args) w k := sn_call Tryz.func117 (by kernel_rfl) (by kernel_rfl) h

end Go.Proofs.YtkdghnbogkbedaaGreatDoor

namespace Go.Sh
open Go Go.RowKit
def eRec : Elt Record := ⟨79, 4, Record.cells, Record.len, Record.ones⟩
instance {x : Record} : EC eRec x x.cells := ⟨rfl⟩
/-- What a shard is. -/
structure ShardD where
  window : Int
  state : Int
  leaves : List Sum
  rows : List Record
  stone : Stone
/-- Where it lies. -/
structure ShardG where
  g : Nat
  gf : Nat
  vl : Value
  vr : Value
  vp : Value
  d : ShardD
abbrev shardCells (gf : Nat) (vl vr : Value) (window state : Int) (stone : Stone) : List Value := .int .i64 window :: .int .i64 state :: vl :: vr :: .pointer (some ⟨gf, 0, none⟩) :: stone.cells
abbrev shardL (s : ShardG) : List Fact :=
  [bk s.g 166 (shardCells s.gf s.vl s.vr s.d.window s.d.state s.d.stone), sl eSum s.vl s.d.leaves, sl eRec s.vr s.d.rows, fr s.gf s.vp s.d.leaves]
abbrev shardF (s : ShardG) : Fact := box (shardL s)
end Go.Sh
namespace Go.Proofs.YtkdghnbogkbedaaGreatDoor
open Go Go.Sh Go.RowKit
set_option maxRecDepth 100000
set_option maxHeartbeats 1000000
set_option linter.unusedSimpArgs false
set_option linter.unusedVariables false

instance : Zer Tryz.prog 166 (.int .i64 0 :: .int .i64 0 :: .slice none 0 0 :: .slice none 0 0 :: .pointer none :: Stone.zero.cells) := ⟨by kernel_rfl, by kernel_rfl⟩
instance : Bld Tryz.prog 166 (fun i => #[(0, 1), (1, 1), (2, 1), (3, 1), (4, 1), (5, 67)][i]?) (.int .i64 0 :: .int .i64 0 :: .slice none 0 0 :: .slice none 0 0 :: .pointer none :: Stone.zero.cells) := ⟨fun _ => by kernel_rfl⟩

theorem clone_rec {v : Value} {l : List Record} {w : World} (h : Mem w [sl eRec v l]) (hn : l.length ≤ 1000000) : Calls Tryz.prog 122 #[v] w (retP fun v' w' => w'.ownsRow w.heap.size eRec.e eRec.sz v' l.length (eRec.all l) ∧ Ch No w w') := by
  obtain ⟨_, hrd⟩ := h.is (sl eRec v l) List.mem_cons_self
  refine c122 ?_
  have h : cloneS 72 Tryz.prog (fun v' w' => w'.ownsRow w.heap.size eRec.e eRec.sz v' l.length (eRec.all l) ∧ Ch No w w') v w :=
    cloneS_ok (e := 79) (sz := 4) hrd (eRec.all_ones l) (by omega) fun v' w' ho hc => ⟨ho, hc⟩
  exact h

theorem fr_copy {g : Nat} {v : Value} {l : List Sum} {w0 : World} (h : Mem w0 [fr g v l]) (hl : l.length < 1099511627776) :
    Calls Tryz.prog 89 #[.pointer (some ⟨g, 0, none⟩)] w0 (retP fun r w' => ∃ g' v', r = .pointer (some ⟨g', 0, none⟩) ∧ St w0 [fr g v l] w' [fr g' v' l, fr g v l]) := by
  have m := St.start h
  replace m := m.open (by repeat (first | exact Frm.nil | (with_reducible exact Rem.dup) | (with_reducible exact Rem.here) | apply Frm.cons | apply Rem.there)); simp only [List.cons_append, List.nil_append] at m
  refine c89 ?_
  unfold s89
  have hpop : popc l.length ≤ 40 := popc_le (by simpa using hl)
  (repeat (first | refine Sh.sv m ?_ | refine Sh.hv ?_ | (refine Sh.sw m ?_; clear m; intro g_ w m) | (refine Sh.su m ?_; clear m; intro w m) | (refine Sh.suN m ?_; clear m; intro w m) | (refine Sh.hr m ?_; clear m; intro m) | refine Sh.rsS m ?_ | refine Sh.hd m ?_ | refine Sh.rsK [] m ?_ | refine CN_tt ?_ | refine CN_ff ?_ | refine GD_tt ?_ | refine GD_ff ?_ | refine GD_tf ?_ | refine GD_ft ?_ | refine CN_true (by first | omega | (simp; done) | (simp; omega)) ?_ | refine CN_false (by first | omega | (simp; done) | (simp; omega)) ?_ | refine GD_true (by first | omega | (simp; done) | (simp; omega)) ?_ | refine GD_true' (by first | omega | (simp; done) | (simp; omega)) ?_ | refine GD_false (by first | omega | (simp; done) | (simp; omega)) ?_ | refine GD_false' (by first | omega | (simp; done) | (simp; omega)) ?_ | refine Sh.crN m ?_ | refine Sh.cr1 m ?_ | refine Sh.svI m (by first | omega | decide) (by first | omega | (simp; done) | (simp; omega)) fun q_ _ hp_ => ?_ | refine Sh.hvI m (by first | omega | decide) (by first | omega | (simp; done) | (simp; omega)) fun q_ _ hp_ => ?_ | refine Sh.svF m fun q_ _ hp_ => ?_ | refine Sh.hvF m fun q_ _ hp_ => ?_))
  refine n88 (m.retOwn (clone_sum (m.get (by repeat (first | exact Frm.nil | (with_reducible exact Rem.dup) | (with_reducible exact Rem.here) | apply Frm.cons | apply Rem.there))) (by rw [peaksOf_len]; omega)) ?_); clear m; intro v2 w _ m
  (repeat (first | refine Sh.sv m ?_ | refine Sh.hv ?_ | (refine Sh.sw m ?_; clear m; intro g_ w m) | (refine Sh.su m ?_; clear m; intro w m) | (refine Sh.suN m ?_; clear m; intro w m) | (refine Sh.hr m ?_; clear m; intro m) | refine Sh.rsS m ?_ | refine Sh.hd m ?_ | refine Sh.rsK [] m ?_ | refine CN_tt ?_ | refine CN_ff ?_ | refine GD_tt ?_ | refine GD_ff ?_ | refine GD_tf ?_ | refine GD_ft ?_ | refine CN_true (by first | omega | (simp; done) | (simp; omega)) ?_ | refine CN_false (by first | omega | (simp; done) | (simp; omega)) ?_ | refine GD_true (by first | omega | (simp; done) | (simp; omega)) ?_ | refine GD_true' (by first | omega | (simp; done) | (simp; omega)) ?_ | refine GD_false (by first | omega | (simp; done) | (simp; omega)) ?_ | refine GD_false' (by first | omega | (simp; done) | (simp; omega)) ?_ | refine Sh.crN m ?_ | refine Sh.cr1 m ?_ | refine Sh.svI m (by first | omega | decide) (by first | omega | (simp; done) | (simp; omega)) fun q_ _ hp_ => ?_ | refine Sh.hvI m (by first | omega | decide) (by first | omega | (simp; done) | (simp; omega)) fun q_ _ hp_ => ?_ | refine Sh.svF m fun q_ _ hp_ => ?_ | refine Sh.hvF m fun q_ _ hp_ => ?_))
  replace m := m.pub v2
  replace m := m.shut (L := [bk g 190 [.int .i64 l.length, v], sl eSum v (peaksOf l)]) (by repeat (first | exact Frm.nil | (with_reducible exact Rem.here) | apply Frm.cons | apply Rem.there))
  replace m := m.shut (L := [bk g_ 190 [.int .i64 l.length, v2], sl eSum v2 (peaksOf l)]) (by repeat (first | exact Frm.nil | (with_reducible exact Rem.here) | apply Frm.cons | apply Rem.there))
  exact ⟨g_, v2, rfl, m⟩

theorem shard_copy {s : ShardG} {w0 : World} (h : Mem w0 [shardF s]) (hl : s.d.leaves.length ≤ 1000000) (hr : s.d.rows.length ≤ 1000000) :
    Calls Tryz.prog 117 #[.pointer (some ⟨s.g, 0, none⟩)] w0 (retP fun r w' => ∃ s' : ShardG, s'.d = s.d ∧ r = .pointer (some ⟨s'.g, 0, none⟩) ∧ St w0 [shardF s] w' [shardF s', shardF s]) := by
  have m := St.start h
  replace m := m.open (by repeat (first | exact Frm.nil | (with_reducible exact Rem.dup) | (with_reducible exact Rem.here) | apply Frm.cons | apply Rem.there)); simp only [List.cons_append, List.nil_append] at m
  have i1 := m.isl (v := s.vl)
  have i2 := m.isl (v := s.vr)
  refine c117 ?_
  unfold s117
  (repeat (first | refine Sh.sv m ?_ | refine Sh.hv ?_ | (refine Sh.sw m ?_; clear m; intro g_ w m) | (refine Sh.su m ?_; clear m; intro w m) | (refine Sh.suN m ?_; clear m; intro w m) | (refine Sh.hr m ?_; clear m; intro m) | refine Sh.rsS m ?_ | refine Sh.hd m ?_ | refine Sh.rsK [] m ?_ | refine CN_tt ?_ | refine CN_ff ?_ | refine GD_tt ?_ | refine GD_ff ?_ | refine GD_tf ?_ | refine GD_ft ?_ | refine CN_true (by first | omega | (simp; done) | (simp; omega)) ?_ | refine CN_false (by first | omega | (simp; done) | (simp; omega)) ?_ | refine GD_true (by first | omega | (simp; done) | (simp; omega)) ?_ | refine GD_true' (by first | omega | (simp; done) | (simp; omega)) ?_ | refine GD_false (by first | omega | (simp; done) | (simp; omega)) ?_ | refine GD_false' (by first | omega | (simp; done) | (simp; omega)) ?_ | refine Sh.crN m ?_ | refine Sh.cr1 m ?_ | refine Sh.svI m (by first | omega | decide) (by first | omega | (simp; done) | (simp; omega)) fun q_ _ hp_ => ?_ | refine Sh.hvI m (by first | omega | decide) (by first | omega | (simp; done) | (simp; omega)) fun q_ _ hp_ => ?_ | refine Sh.svF m fun q_ _ hp_ => ?_ | refine Sh.hvF m fun q_ _ hp_ => ?_))
  refine n88 (m.retOwn (clone_sum (m.get (by repeat (first | exact Frm.nil | (with_reducible exact Rem.dup) | (with_reducible exact Rem.here) | apply Frm.cons | apply Rem.there))) (by omega)) ?_); clear m; intro v2 w _ m
  (repeat (first | refine Sh.sv m ?_ | refine Sh.hv ?_ | (refine Sh.sw m ?_; clear m; intro g_ w m) | (refine Sh.su m ?_; clear m; intro w m) | (refine Sh.suN m ?_; clear m; intro w m) | (refine Sh.hr m ?_; clear m; intro m) | refine Sh.rsS m ?_ | refine Sh.hd m ?_ | refine Sh.rsK [] m ?_ | refine CN_tt ?_ | refine CN_ff ?_ | refine GD_tt ?_ | refine GD_ff ?_ | refine GD_tf ?_ | refine GD_ft ?_ | refine CN_true (by first | omega | (simp; done) | (simp; omega)) ?_ | refine CN_false (by first | omega | (simp; done) | (simp; omega)) ?_ | refine GD_true (by first | omega | (simp; done) | (simp; omega)) ?_ | refine GD_true' (by first | omega | (simp; done) | (simp; omega)) ?_ | refine GD_false (by first | omega | (simp; done) | (simp; omega)) ?_ | refine GD_false' (by first | omega | (simp; done) | (simp; omega)) ?_ | refine Sh.crN m ?_ | refine Sh.cr1 m ?_ | refine Sh.svI m (by first | omega | decide) (by first | omega | (simp; done) | (simp; omega)) fun q_ _ hp_ => ?_ | refine Sh.hvI m (by first | omega | decide) (by first | omega | (simp; done) | (simp; omega)) fun q_ _ hp_ => ?_ | refine Sh.svF m fun q_ _ hp_ => ?_ | refine Sh.hvF m fun q_ _ hp_ => ?_))
  refine n122 (m.retOwn (clone_rec (m.get (by repeat (first | exact Frm.nil | (with_reducible exact Rem.dup) | (with_reducible exact Rem.here) | apply Frm.cons | apply Rem.there))) (by omega)) ?_); clear m; intro v3 w _ m
  (repeat (first | refine Sh.sv m ?_ | refine Sh.hv ?_ | (refine Sh.sw m ?_; clear m; intro g_ w m) | (refine Sh.su m ?_; clear m; intro w m) | (refine Sh.suN m ?_; clear m; intro w m) | (refine Sh.hr m ?_; clear m; intro m) | refine Sh.rsS m ?_ | refine Sh.hd m ?_ | refine Sh.rsK [] m ?_ | refine CN_tt ?_ | refine CN_ff ?_ | refine GD_tt ?_ | refine GD_ff ?_ | refine GD_tf ?_ | refine GD_ft ?_ | refine CN_true (by first | omega | (simp; done) | (simp; omega)) ?_ | refine CN_false (by first | omega | (simp; done) | (simp; omega)) ?_ | refine GD_true (by first | omega | (simp; done) | (simp; omega)) ?_ | refine GD_true' (by first | omega | (simp; done) | (simp; omega)) ?_ | refine GD_false (by first | omega | (simp; done) | (simp; omega)) ?_ | refine GD_false' (by first | omega | (simp; done) | (simp; omega)) ?_ | refine Sh.crN m ?_ | refine Sh.cr1 m ?_ | refine Sh.svI m (by first | omega | decide) (by first | omega | (simp; done) | (simp; omega)) fun q_ _ hp_ => ?_ | refine Sh.hvI m (by first | omega | decide) (by first | omega | (simp; done) | (simp; omega)) fun q_ _ hp_ => ?_ | refine Sh.svF m fun q_ _ hp_ => ?_ | refine Sh.hvF m fun q_ _ hp_ => ?_))
  refine n89 (m.call (fr_copy (m.get (by repeat (first | exact Frm.nil | (with_reducible exact Rem.dup) | (with_reducible exact Rem.here) | apply Frm.cons | apply Rem.there))) (by omega)) ?_); rintro r_ w ⟨g2, vp2, rfl, m1⟩
  replace m := m.fr (by repeat (first | exact Frm.nil | (with_reducible exact Rem.dup) | (with_reducible exact Rem.here) | apply Frm.cons | apply Rem.there)) m1; simp only [List.cons_append, List.nil_append] at m
  (repeat (first | refine Sh.sv m ?_ | refine Sh.hv ?_ | (refine Sh.sw m ?_; clear m; intro g_ w m) | (refine Sh.su m ?_; clear m; intro w m) | (refine Sh.suN m ?_; clear m; intro w m) | (refine Sh.hr m ?_; clear m; intro m) | refine Sh.rsS m ?_ | refine Sh.hd m ?_ | refine Sh.rsK [] m ?_ | refine CN_tt ?_ | refine CN_ff ?_ | refine GD_tt ?_ | refine GD_ff ?_ | refine GD_tf ?_ | refine GD_ft ?_ | refine CN_true (by first | omega | (simp; done) | (simp; omega)) ?_ | refine CN_false (by first | omega | (simp; done) | (simp; omega)) ?_ | refine GD_true (by first | omega | (simp; done) | (simp; omega)) ?_ | refine GD_true' (by first | omega | (simp; done) | (simp; omega)) ?_ | refine GD_false (by first | omega | (simp; done) | (simp; omega)) ?_ | refine GD_false' (by first | omega | (simp; done) | (simp; omega)) ?_ | refine Sh.crN m ?_ | refine Sh.cr1 m ?_ | refine Sh.svI m (by first | omega | decide) (by first | omega | (simp; done) | (simp; omega)) fun q_ _ hp_ => ?_ | refine Sh.hvI m (by first | omega | decide) (by first | omega | (simp; done) | (simp; omega)) fun q_ _ hp_ => ?_ | refine Sh.svF m fun q_ _ hp_ => ?_ | refine Sh.hvF m fun q_ _ hp_ => ?_))
  replace m := (m.pub v2).pub v3
  have m := m.shut (L := shardL ⟨g_, g2, v2, v3, vp2, s.d⟩) (by repeat (first | exact Frm.nil | (with_reducible exact Rem.here) | apply Frm.cons | apply Rem.there))
  have m := m.shut (L := shardL s) (by repeat (first | exact Frm.nil | (with_reducible exact Rem.here) | apply Frm.cons | apply Rem.there))
  exact ⟨⟨g_, g2, v2, v3, vp2, s.d⟩, rfl, rfl, m.sub (by repeat (first | exact Frm.nil | (with_reducible exact Rem.here) | apply Frm.cons | apply Rem.there))⟩
end Go.Proofs.YtkdghnbogkbedaaGreatDoor

namespace Go.Proofs.YtkdghnbogkbedaaGreatDoor
open Go Go.Sh
set_option maxRecDepth 100000


theorem mixedXVault : Tryz.prog.follows .mixedOrders = true := by kernel_rfl

/-! ### 35: scrinium/vault.New -/

def s35 (P : Program) (k : Value → World → Prop) (a0_width : Value) (a1_term : Value) (a2_key : Value) (w : World) : Prop :=
  SV P (binOp .lss 3 a0_width (Value.int .i64 1)) w fun t8 w =>
  GD t8 false
  (SV P (binOp .gtr 3 a0_width (Value.int .i64 1125899906842624)) w fun t11 w =>
  GD t11 false
  (SV P (binOp .lss 3 a1_term (Value.int .i64 0)) w fun t15 w =>
  GD t15 false
  (SV P (binOp .gtr 3 a1_term (Value.int .i64 1125899906842624)) w fun t19 w =>
  GD t19 false
  (SV P (Builtin.len_ #[9] 3 #[a2_key]) w fun t23 w =>
  SV P (binOp .gtr 3 t23 (Value.int .i64 64)) w fun t24 w =>
  CN t24
  (k (Value.pointer none) w)
  (SN P (callFunc 84 #[]) w fun t29 w =>
  SV P (Instr.build 126 #[(0, a0_width), (1, a1_term), (2, a2_key), (5, t29)]) w fun t30 w =>
  SV P (Instr.box 126 t30) w fun t31 w =>
  k t31 w))
  (k (Value.pointer none) w))
  (k (Value.pointer none) w))
  (k (Value.pointer none) w))
  (k (Value.pointer none) w)

theorem e35 (k : Value → World → Prop) (a0_width a1_term a2_key : Value) (w : World) : s35 Tryz.prog k a0_width a1_term a2_key w = vcF Tryz.prog Tryz.f35 [] [a0_width, a1_term, a2_key] k w := by kernel_rfl
theorem c35 {k : Value → World → Prop} {a0_width a1_term a2_key : Value} {w : World} (h : s35 Tryz.prog k a0_width a1_term a2_key w) : Calls Tryz.prog 35 #[a0_width, a1_term, a2_key] w (retP k) :=
  calls_of_vcF [] mixedXVault Tryz.func35 (by kernel_rfl) (Eq.mp (e35 k a0_width a1_term a2_key w) h)
theorem n35 {args : Array Value} {w : World} {k : Value → World → Prop} (h : Calls Tryz.prog 35 args w (retP k)) : SN Tryz.prog (callFunc 35 args) w k := sn_call Tryz.func35 (by kernel_rfl) (by kernel_rfl) h

/-! ### 37: (*scrinium/vault.Vault).Clock -/

def s37 (P : Program) (k : Value → World → Prop) (a0_v : Value) (w : World) : Prop :=
  SV P (eqS .eql 70 (.tmp 3) (.const (Value.pointer none)) a0_v (Value.pointer none)) w fun t4 w =>
  CN t4
  (k (Value.int .i64 0) w)
  (SV P (nilS a0_v) w fun t6 w =>
  SV P (Instr.fieldAt 126 t6 3) w fun t7 w =>
  SV P (Instr.loadAt 3 t7) w fun t8 w =>
  k t8 w)

theorem e37 (k : Value → World → Prop) (a0_v : Value) (w : World) : s37 Tryz.prog k a0_v w = vcF Tryz.prog Tryz.f37 [] [a0_v] k w := by kernel_rfl
theorem c37 {k : Value → World → Prop} {a0_v : Value} {w : World} (h : s37 Tryz.prog k a0_v w) : Calls Tryz.prog 37 #[a0_v] w (retP k) :=
  calls_of_vcF [] mixedXVault Tryz.func37 (by kernel_rfl) (Eq.mp (e37 k a0_v w) h)
theorem n37 {args : Array Value} {w : World} {k : Value → World → Prop} (h : Calls Tryz.prog 37 args w (retP k)) : SN Tryz.prog (callFunc 37 args) w k := sn_call Tryz.func37 (by kernel_rfl) (by kernel_rfl) h

/-! ### 45: (*scrinium/vault.Vault).Shards -/

def s45_l1 (P : Program) (k : Value → World → Prop) (t11 : Value) (t12 : Value) (out3 : Value) (t13 : Value) (next : List Value → World → Prop) (w : World) : Prop :=
  SV P (binOp .lss 3 t13 t12) w fun t14 w =>
  CN t14
  (SV P (Instr.indexAt 95 t11 t13) w fun t15 w =>
  SV P (Instr.loadAt 97 t15) w fun t16 w =>
  SN P (callFunc 117 #[t16]) w fun t19 w =>
  SV P (Instr.buildSlice 95 1 #[(0, t19)]) w fun t20 w =>
  SV P (Builtin.append_ #[95, 95] 95 #[out3, t20]) w fun t21 w =>
  SV P (binOp .add 3 t13 (Value.int .i64 1)) w fun t22 w =>
  next [t21, t22] w)
  (k out3 w)

def s45 (P : Program) (k : Value → World → Prop) (a0_v : Value) (w : World) : Prop :=
  SV P (eqS .eql 70 (.tmp 6) (.const (Value.pointer none)) a0_v (Value.pointer none)) w fun t7 w =>
  CN t7
  (k (Value.slice none 0 0) w)
  (SV P (nilS a0_v) w fun t9 w =>
  SV P (Instr.fieldAt 126 t9 4) w fun t10 w =>
  SV P (Instr.loadAt 95 t10) w fun t11 w =>
  SV P (Builtin.len_ #[95] 3 #[t11]) w fun t12 w =>
  LP 2 [(Value.slice none 0 0), (Value.int .i64 0)] w (fun next _ us w => s45_l1 P k t11 t12 (us.getD 0 undef) (us.getD 1 undef) next w))

theorem e45 (k : Value → World → Prop) (a0_v : Value) (w : World) : s45 Tryz.prog k a0_v w = vcF Tryz.prog Tryz.f45 [3, 13] [a0_v] k w := by kernel_rfl
theorem c45 {k : Value → World → Prop} {a0_v : Value} {w : World} (h : s45 Tryz.prog k a0_v w) : Calls Tryz.prog 45 #[a0_v] w (retP k) :=
  calls_of_vcF [3, 13] mixedXVault Tryz.func45 (by kernel_rfl) (Eq.mp (e45 k a0_v w) h)
theorem n45 {args : Array Value} {w : World} {k : Value → World → Prop} (h : Calls Tryz.prog 45 args w (retP k)) : SN Tryz.prog (callFunc 45 args) w k := sn_call Tryz.func45 (by kernel_rfl) (by kernel_rfl) h

/-! ### 50: (*scrinium/vault.Vault).Width -/

def s50 (P : Program) (k : Value → World → Prop) (a0_v : Value) (w : World) : Prop :=
  SV P (eqS .eql 70 (.tmp 3) (.const (Value.pointer none)) a0_v (Value.pointer none)) w fun t4 w =>
  CN t4
  (k (Value.int .i64 0) w)
  (SV P (nilS a0_v) w fun t6 w =>
  SV P (Instr.fieldAt 126 t6 0) w fun t7 w =>
  SV P (Instr.loadAt 3 t7) w fun t8 w =>
  k t8 w)

theorem e50 (k : Value → World → Prop) (a0_v : Value) (w : World) : s50 Tryz.prog k a0_v w = vcF Tryz.prog Tryz.f50 [] [a0_v] k w := by kernel_rfl
theorem c50 {k : Value → World → Prop} {a0_v : Value} {w : World} (h : s50 Tryz.prog k a0_v w) : Calls Tryz.prog 50 #[a0_v] w (retP k) :=
  calls_of_vcF [] mixedXVault Tryz.func50 (by kernel_rfl) (Eq.mp (e50 k a0_v w) h)
theorem n50 {args : Array Value} {w : World} {k : Value → World → Prop} (h : Calls Tryz.prog 50 args w (retP k)) : SN Tryz.prog (callFunc 50 args) w k := sn_call Tryz.func50 (by kernel_rfl) (by kernel_rfl) h

/-! ### 51: (*scrinium/vault.Vault).Term -/

def s51 (P : Program) (k : Value → World → Prop) (a0_v : Value) (w : World) : Prop :=
  SV P (eqS .eql 70 (.tmp 3) (.const (Value.pointer none)) a0_v (Value.pointer none)) w fun t4 w =>
  CN t4
  (k (Value.int .i64 0) w)
  (SV P (nilS a0_v) w fun t6 w =>
  SV P (Instr.fieldAt 126 t6 1) w fun t7 w =>
  SV P (Instr.loadAt 3 t7) w fun t8 w =>
  k t8 w)

theorem e51 (k : Value → World → Prop) (a0_v : Value) (w : World) : s51 Tryz.prog k a0_v w = vcF Tryz.prog Tryz.f51 [] [a0_v] k w := by kernel_rfl
theorem c51 {k : Value → World → Prop} {a0_v : Value} {w : World} (h : s51 Tryz.prog k a0_v w) : Calls Tryz.prog 51 #[a0_v] w (retP k) :=
  calls_of_vcF [] mixedXVault Tryz.func51 (by kernel_rfl) (Eq.mp (e51 k a0_v w) h)
theorem n51 {args : Array Value} {w : World} {k : Value → World → Prop} (h : Calls Tryz.prog 51 args w (retP k)) : SN Tryz.prog (callFunc 51 args) w k := sn_call Tryz.func51 (by kernel_rfl) (by kernel_rfl) h

/-! ### 70: (*scrinium/vault.Vault).Key -/

def s70 (P : Program) (k : Value → World → Prop) (a0_v : Value) (w : World) : Prop :=
  SV P (eqS .eql 70 (.tmp 3) (.const (Value.pointer none)) a0_v (Value.pointer none)) w fun t4 w =>
  CN t4
  (k (str []) w)
  (SV P (nilS a0_v) w fun t6 w =>
  SV P (Instr.fieldAt 126 t6 2) w fun t7 w =>
  SV P (Instr.loadAt 9 t7) w fun t8 w =>
  k t8 w)

theorem e70 (k : Value → World → Prop) (a0_v : Value) (w : World) : s70 Tryz.prog k a0_v w = vcF Tryz.prog Tryz.f70 [] [a0_v] k w := by kernel_rfl
theorem c70 {k : Value → World → Prop} {a0_v : Value} {w : World} (h : s70 Tryz.prog k a0_v w) : Calls Tryz.prog 70 #[a0_v] w (retP k) :=
  calls_of_vcF [] mixedXVault Tryz.func70 (by kernel_rfl) (Eq.mp (e70 k a0_v w) h)
theorem n70 {args : Array Value} {w : World} {k : Value → World → Prop} (h : Calls Tryz.prog 70 args w (retP k)) : SN Tryz.prog (callFunc 70 args) w k := sn_call Tryz.func70 (by kernel_rfl) (by kernel_rfl) h

end Go.Proofs.YtkdghnbogkbedaaGreatDoor

namespace Go.Proofs.YtkdghnbogkbedaaGreatDoor
open Go Go.Sh
set_option maxRecDepth 100000


theorem mixedXSuper : Tryz.prog.follows .mixedOrders = true := by kernel_rfl

/-! ### 15: (*scrinium/super.Super).Anchor -/

def s15_j1 (P : Program) (k : Value → World → Prop) (a0_s : Value) (f3 : Value) (w : World) : Prop :=
  SV P (Instr.loadAt 31 f3) w fun t55 w =>
  SN P (callFunc 73 #[t55]) w fun t56 w =>
  SV P (Instr.alloc 29 true (.tuple #[])) w fun x8 w =>
  SU P (Instr.storeAt 29 x8 t56) w fun w =>
  HR w fun C w =>
  HV P C (nilS a0_s) fun t59 =>
  HV P C (Instr.fieldAt 27 t59 0) fun t60 =>
  HV P C (Instr.loadAt 23 t60) fun t61 =>
  HV P C (nilS a0_s) fun t63 =>
  HV P C (Instr.fieldAt 27 t63 0) fun t64 =>
  HV P C (Instr.loadAt 23 t64) fun t65 =>
  HV P C (Builtin.len_ #[23] 3 #[t65]) fun t66 =>
  HV P C (nilS a0_s) fun t68 =>
  HV P C (Instr.fieldAt 27 t68 0) fun t69 =>
  HV P C (Instr.loadAt 23 t69) fun t70 =>
  HV P C (Builtin.len_ #[23] 3 #[t70]) fun t71 =>
  HV P C (Instr.sliceAt 23 t61 none (some t66) (some t71)) fun t72 =>
  HV P C (Instr.loadAt 31 f3) fun t73 =>
  SV P (Instr.buildSlice 23 1 #[(0, t73)]) w fun t74 w =>
  C w ∧
  SV P (Builtin.append_ #[23, 23] 23 #[t72, t74]) w fun t75 w =>
  RS C w fun C =>
  HV P C (nilS a0_s) fun t76 =>
  HV P C (Instr.fieldAt 27 t76 0) fun t77 =>
  SU P (Instr.storeAt 23 t77 t75) w fun w =>
  HR w fun C w =>
  HV P C (nilS a0_s) fun t80 =>
  HV P C (Instr.fieldAt 27 t80 1) fun t81 =>
  HV P C (Instr.loadAt 24 t81) fun t82 =>
  HV P C (nilS a0_s) fun t84 =>
  HV P C (Instr.fieldAt 27 t84 1) fun t85 =>
  HV P C (Instr.loadAt 24 t85) fun t86 =>
  HV P C (Builtin.len_ #[24] 3 #[t86]) fun t87 =>
  HV P C (nilS a0_s) fun t89 =>
  HV P C (Instr.fieldAt 27 t89 1) fun t90 =>
  HV P C (Instr.loadAt 24 t90) fun t91 =>
  HV P C (Builtin.len_ #[24] 3 #[t91]) fun t92 =>
  HV P C (Instr.sliceAt 24 t82 none (some t87) (some t92)) fun t93 =>
  HV P C (Instr.loadAt 29 x8) fun t94 =>
  SV P (Instr.buildSlice 24 1 #[(0, t94)]) w fun t95 w =>
  C w ∧
  SV P (Builtin.append_ #[24, 24] 24 #[t93, t95]) w fun t96 w =>
  RS C w fun C =>
  HV P C (nilS a0_s) fun t97 =>
  HV P C (Instr.fieldAt 27 t97 1) fun t98 =>
  SU P (Instr.storeAt 24 t98 t96) w fun w =>
  HR w fun C w =>
  HV P C (nilS a0_s) fun t100 =>
  HV P C (Instr.fieldAt 27 t100 2) fun t101 =>
  HV P C (Instr.loadAt 25 t101) fun t102 =>
  HV P C (Instr.loadAt 29 x8) fun t103 =>
  SN P (callFunc 74 #[t102, t103]) w fun t104 w =>
  RS C w fun C =>
  HV P C (binOp .sub 3 t104 (Value.int .i64 1)) fun t105 =>
  k (.tuple #[t105, (Value.int .i64 0)]) w

def s15 (P : Program) (k : Value → World → Prop) (a0_s : Value) (a1_f : Value) (w : World) : Prop :=
  SV P (Instr.box 31 a1_f) w fun f3 w =>
  SV P (Instr.loadAt 31 f3) w fun t10 w =>
  SN P (callFunc 71 #[t10]) w fun t11 w =>
  SV P (Instr.extract t11 0) w fun _ w =>
  SV P (Instr.extract t11 1) w fun t13 w =>
  SV P (eqS .eql 22 (.tmp 15) (.const (Value.pointer none)) a0_s (Value.pointer none)) w fun t16 w =>
  GD t16 false
  (SV P (eqS .neq 32 (.tmp 18) (.const (Value.int .i64 0)) t13 (Value.int .i64 0)) w fun t19 w =>
  CN t19
  (k (.tuple #[(Value.int .i64 0), (Value.int .i64 1)]) w)
  (HR w fun C w =>
  HV P C (nilS a0_s) fun t23 =>
  HV P C (Instr.fieldAt 27 t23 0) fun t24 =>
  HV P C (Instr.loadAt 23 t24) fun t25 =>
  HV P C (Builtin.len_ #[23] 3 #[t25]) fun t26 =>
  HV P C (binOp .gtr 3 t26 (Value.int .i64 0)) fun t27 =>
  GD t27 true
  (HV P C (Instr.fieldAt 31 f3 0) fun t29 =>
  HV P C (Instr.loadAt 3 t29) fun t30 =>
  HV P C (nilS a0_s) fun t32 =>
  HV P C (Instr.fieldAt 27 t32 0) fun t33 =>
  HV P C (Instr.loadAt 23 t33) fun t34 =>
  HV P C (nilS a0_s) fun t36 =>
  HV P C (Instr.fieldAt 27 t36 0) fun t37 =>
  HV P C (Instr.loadAt 23 t37) fun t38 =>
  HV P C (Builtin.len_ #[23] 3 #[t38]) fun t39 =>
  HV P C (binOp .sub 3 t39 (Value.int .i64 1)) fun t40 =>
  HV P C (Instr.indexAt 23 t34 t40) fun t41 =>
  HV P C (Instr.fieldAt 31 t41 0) fun t42 =>
  HV P C (Instr.loadAt 3 t42) fun t43 =>
  HV P C (binOp .leq 3 t30 t43) fun t44 =>
  CN t44
  (k (.tuple #[(Value.int .i64 0), (Value.int .i64 13)]) w)
  (JP 0 (fun j =>
  SV P (nilS a0_s) w fun t47 w =>
  SV P (Instr.fieldAt 27 t47 2) w fun t48 w =>
  SV P (Instr.loadAt 25 t48) w fun t49 w =>
  SV P (eqS .eql 25 (.tmp 49) (.const (Value.pointer none)) t49 (Value.pointer none)) w fun t50 w =>
  CN t50
  (SN P (callFunc 72 #[]) w fun t52 w =>
  SV P (nilS a0_s) w fun t53 w =>
  SV P (Instr.fieldAt 27 t53 2) w fun t54 w =>
  SU P (Instr.storeAt 25 t54 t52) w fun w =>
  j [] w)
  (j [] w))
  (fun _ _ w => s15_j1 P k a0_s f3 w)))
  (JP 0 (fun j =>
  SV P (nilS a0_s) w fun t47 w =>
  SV P (Instr.fieldAt 27 t47 2) w fun t48 w =>
  SV P (Instr.loadAt 25 t48) w fun t49 w =>
  SV P (eqS .eql 25 (.tmp 49) (.const (Value.pointer none)) t49 (Value.pointer none)) w fun t50 w =>
  CN t50
  (SN P (callFunc 72 #[]) w fun t52 w =>
  SV P (nilS a0_s) w fun t53 w =>
  SV P (Instr.fieldAt 27 t53 2) w fun t54 w =>
  SU P (Instr.storeAt 25 t54 t52) w fun w =>
  j [] w)
  (j [] w))
  (fun _ _ w => s15_j1 P k a0_s f3 w))))
  (k (.tuple #[(Value.int .i64 0), (Value.int .i64 1)]) w)

theorem e15 (k : Value → World → Prop) (a0_s a1_f : Value) (w : World) : s15 Tryz.prog k a0_s a1_f w = vcF Tryz.prog Tryz.f15 [] [a0_s, a1_f] k w := by kernel_rfl
theorem c15 {k : Value → World → Prop} {a0_s a1_f : Value} {w : World} (h : s15 Tryz.prog k a0_s a1_f w) : Calls Tryz.prog 15 #[a0_s, a1_f] w (retP k) :=
  calls_of_vcF [] mixedXSuper Tryz.func15 (by kernel_rfl) (Eq.mp (e15 k a0_s a1_f w) h)
theorem n15 {args : Array Value} {w : World} {k : Value → World → Prop} (h : Calls Tryz.prog 15 args w (retP k)) : SN Tryz.prog (callFunc 15 args) w k := sn_call Tryz.func15 (by kernel_rfl) (by kernel_rfl) h

/-! ### 16: (*scrinium/super.Super).At -/

def s16 (P : Program) (k : Value → World → Prop) (a0_s : Value) (a1_i : Value) (w : World) : Prop :=
  SV P (Instr.alloc 31 true (.tuple #[])) w fun t4 w =>
  SV P (eqS .eql 22 (.tmp 7) (.const (Value.pointer none)) a0_s (Value.pointer none)) w fun t8 w =>
  CN t8
  (SV P (Instr.build 31 #[]) w fun t9 w =>
  SU P (Instr.storeAt 31 t4 t9) w fun w =>
  CR P 31 t4 w fun t4_1 =>
  k (.tuple #[t4_1, (Value.int .i64 1)]) w)
  (SV P (binOp .lss 3 a1_i (Value.int .i64 0)) w fun t12 w =>
  GD t12 false
  (SV P (nilS a0_s) w fun t16 w =>
  SV P (Instr.fieldAt 27 t16 0) w fun t17 w =>
  SV P (Instr.loadAt 23 t17) w fun t18 w =>
  SV P (Builtin.len_ #[23] 3 #[t18]) w fun t19 w =>
  SV P (binOp .geq 3 a1_i t19) w fun t20 w =>
  CN t20
  (SV P (Instr.build 31 #[]) w fun t22 w =>
  SU P (Instr.storeAt 31 t4 t22) w fun w =>
  CR P 31 t4 w fun t4_1 =>
  k (.tuple #[t4_1, (Value.int .i64 19)]) w)
  (SV P (nilS a0_s) w fun t24 w =>
  SV P (Instr.fieldAt 27 t24 0) w fun t25 w =>
  SV P (Instr.loadAt 23 t25) w fun t26 w =>
  SV P (Instr.indexAt 23 t26 a1_i) w fun t28 w =>
  SV P (Instr.loadAt 31 t28) w fun t29 w =>
  SU P (Instr.storeAt 31 t4 t29) w fun w =>
  CR P 31 t4 w fun t4_1 =>
  k (.tuple #[t4_1, (Value.int .i64 0)]) w))
  (SV P (Instr.build 31 #[]) w fun t22 w =>
  SU P (Instr.storeAt 31 t4 t22) w fun w =>
  CR P 31 t4 w fun t4_1 =>
  k (.tuple #[t4_1, (Value.int .i64 19)]) w))

theorem e16 (k : Value → World → Prop) (a0_s a1_i : Value) (w : World) : s16 Tryz.prog k a0_s a1_i w = vcF Tryz.prog Tryz.f16 [] [a0_s, a1_i] k w := by kernel_rfl
theorem c16 {k : Value → World → Prop} {a0_s a1_i : Value} {w : World} (h : s16 Tryz.prog k a0_s a1_i w) : Calls Tryz.prog 16 #[a0_s, a1_i] w (retP k) :=
  calls_of_vcF [] mixedXSuper Tryz.func16 (by kernel_rfl) (Eq.mp (e16 k a0_s a1_i w) h)
theorem n16 {args : Array Value} {w : World} {k : Value → World → Prop} (h : Calls Tryz.prog 16 args w (retP k)) : SN Tryz.prog (callFunc 16 args) w k := sn_call Tryz.func16 (by kernel_rfl) (by kernel_rfl) h

/-! ### 84: scrinium/super.New -/

def s84 (P : Program) (k : Value → World → Prop) (w : World) : Prop :=
  SN P (callFunc 72 #[]) w fun t1 w =>
  SV P (Instr.build 27 #[(2, t1)]) w fun t2 w =>
  SV P (Instr.box 27 t2) w fun t3 w =>
  k t3 w

theorem e84 (k : Value → World → Prop) (w : World) : s84 Tryz.prog k  w = vcF Tryz.prog Tryz.f84 [] [] k w := by kernel_rfl
theorem c84 {k : Value → World → Prop} {w : World} (h : s84 Tryz.prog k  w) : Calls Tryz.prog 84 #[] w (retP k) :=
  calls_of_vcF [] mixedXSuper Tryz.func84 (by kernel_rfl) (Eq.mp (e84 k  w) h)
theorem n84 {args : Array Value} {w : World} {k : Value → World → Prop} (h : Calls Tryz.prog 84 args w (retP k)) : SN Tryz.prog (callFunc 84 args) w k := sn_call Tryz.func84 (by kernel_rfl) (by kernel_rfl) h

end Go.Proofs.YtkdghnbogkbedaaGreatDoor

namespace Go.Sh
open Go Go.RowKit
def eFrz : Elt Freeze := ⟨31, 34, Freeze.cells, Freeze.len, Freeze.ones⟩
instance {x : Freeze} : EC eFrz x x.cells := ⟨rfl⟩
/-- Pointers to shards. -/
def eShard : Elt Nat := ⟨97, 1, fun g => [.pointer (some ⟨g, 0, none⟩)], fun _ => rfl, fun _ => .cons rfl .nil⟩
instance {x : Nat} : EC eShard x [.pointer (some ⟨x, 0, none⟩)] := ⟨rfl⟩

/-- Where a log lies, and its freezes. -/
structure SuperG where
  g : Nat
  gf : Nat
  va : Value
  vl : Value
  vp : Value
  fs : List Freeze
abbrev superL (u : SuperG) : List Fact :=
  [bk u.g 27 [u.va, u.vl, .pointer (some ⟨u.gf, 0, none⟩)], sl eFrz u.va u.fs, sl eSum u.vl (u.fs.map Freeze.leaf), fr u.gf u.vp (u.fs.map Freeze.leaf)]
abbrev superF (u : SuperG) : Fact := box (superL u)

/-- Where a vault lies, and what it has. -/
structure VaultG where
  g : Nat
  sv : Value
  width : Int
  term : Int
  key : List UInt8
  clock : Int
  shards : List ShardG
  log : SuperG
abbrev vaultCells (v : VaultG) : List Value := [.int .i64 v.width, .int .i64 v.term, str v.key, .int .i64 v.clock, v.sv, .pointer (some ⟨v.log.g, 0, none⟩)]
abbrev vaultL (v : VaultG) : List Fact :=
  [bk v.g 126 (vaultCells v), sl eShard v.sv (v.shards.map (·.g)), superF v.log, box (v.shards.map shardF)]
abbrev vaultF (v : VaultG) : Fact := box (vaultL v)
end Go.Sh
namespace Go.Proofs.YtkdghnbogkbedaaGreatDoor
open Go Go.Sh Go.RowKit
set_option maxRecDepth 100000
set_option maxHeartbeats 1000000
set_option linter.unusedSimpArgs false
set_option linter.unusedVariables false

theorem super_new' (w0 : World) : Calls Tryz.prog 84 #[] w0 (retP fun v w' => ∃ u : SuperG, u.fs = [] ∧ v = .pointer (some ⟨u.g, 0, none⟩) ∧ St w0 [] w' [superF u]) := by
  refine c84 ?_
  unfold s84
  have m : St w0 [] w0 [] := St.nil w0
  refine n72 (m.call (fr_new _) ?_); rintro r_ w ⟨gf, rfl, m1⟩
  replace m := m.fr Frm.nil m1; simp only [List.cons_append, List.nil_append] at m
  (repeat (first | refine Sh.sv m ?_ | refine Sh.hv ?_ | (refine Sh.sw m ?_; clear m; intro g_ w m) | (refine Sh.su m ?_; clear m; intro w m) | (refine Sh.suN m ?_; clear m; intro w m) | (refine Sh.hr m ?_; clear m; intro m) | refine Sh.rsS m ?_ | refine Sh.hd m ?_ | refine Sh.rsK [] m ?_ | refine CN_tt ?_ | refine CN_ff ?_ | refine GD_tt ?_ | refine GD_ff ?_ | refine GD_tf ?_ | refine GD_ft ?_ | refine CN_true (by first | omega | (simp; done) | (simp; omega)) ?_ | refine CN_false (by first | omega | (simp; done) | (simp; omega)) ?_ | refine GD_true (by first | omega | (simp; done) | (simp; omega)) ?_ | refine GD_true' (by first | omega | (simp; done) | (simp; omega)) ?_ | refine GD_false (by first | omega | (simp; done) | (simp; omega)) ?_ | refine GD_false' (by first | omega | (simp; done) | (simp; omega)) ?_ | refine Sh.crN m ?_ | refine Sh.cr1 m ?_ | refine Sh.svI m (by first | omega | decide) (by first | omega | (simp; done) | (simp; omega)) fun q_ _ hp_ => ?_ | refine Sh.hvI m (by first | omega | decide) (by first | omega | (simp; done) | (simp; omega)) fun q_ _ hp_ => ?_ | refine Sh.svF m fun q_ _ hp_ => ?_ | refine Sh.hvF m fun q_ _ hp_ => ?_))
  replace m := (m.nilSl eSum).nilSl eFrz
  replace m := m.shut (L := [bk g_ 27 [.slice none 0 0, .slice none 0 0, .pointer (some ⟨gf, 0, none⟩)], sl eFrz (.slice none 0 0) [], sl eSum (.slice none 0 0) [], fr gf (.slice none 0 0) []]) (by repeat (first | exact Frm.nil | (with_reducible exact Rem.here) | apply Frm.cons | apply Rem.there))
  exact ⟨⟨g_, gf, .slice none 0 0, .slice none 0 0, .slice none 0 0, []⟩, rfl, rfl, m⟩

theorem vault_new (width term : Int) (key : List UInt8) (w0 : World) (hk : key.length ≤ 64) (hw : 1 ≤ width ∧ width ≤ 1125899906842624) (ht : 0 ≤ term ∧ term ≤ 1125899906842624) :
    Calls Tryz.prog 35 #[.int .i64 width, .int .i64 term, str key] w0 (retP fun v w' => ∃ x : VaultG, x.width = width ∧ x.term = term ∧ x.key = key ∧ x.clock = 0 ∧ x.shards = [] ∧ x.log.fs = [] ∧ v = .pointer (some ⟨x.g, 0, none⟩) ∧ St w0 [] w' [vaultF x]) := by
  refine c35 ?_
  unfold s35
  have m : St w0 [] w0 [] := St.nil w0
  (repeat (first | refine Sh.sv m ?_ | refine Sh.hv ?_ | (refine Sh.sw m ?_; clear m; intro g_ w m) | (refine Sh.su m ?_; clear m; intro w m) | (refine Sh.suN m ?_; clear m; intro w m) | (refine Sh.hr m ?_; clear m; intro m) | refine Sh.rsS m ?_ | refine Sh.hd m ?_ | refine Sh.rsK [] m ?_ | refine CN_tt ?_ | refine CN_ff ?_ | refine GD_tt ?_ | refine GD_ff ?_ | refine GD_tf ?_ | refine GD_ft ?_ | refine CN_true (by first | omega | (simp; done) | (simp; omega)) ?_ | refine CN_false (by first | omega | (simp; done) | (simp; omega)) ?_ | refine GD_true (by first | omega | (simp; done) | (simp; omega)) ?_ | refine GD_true' (by first | omega | (simp; done) | (simp; omega)) ?_ | refine GD_false (by first | omega | (simp; done) | (simp; omega)) ?_ | refine GD_false' (by first | omega | (simp; done) | (simp; omega)) ?_ | refine Sh.crN m ?_ | refine Sh.cr1 m ?_ | refine Sh.svI m (by first | omega | decide) (by first | omega | (simp; done) | (simp; omega)) fun q_ _ hp_ => ?_ | refine Sh.hvI m (by first | omega | decide) (by first | omega | (simp; done) | (simp; omega)) fun q_ _ hp_ => ?_ | refine Sh.svF m fun q_ _ hp_ => ?_ | refine Sh.hvF m fun q_ _ hp_ => ?_))
  refine n84 (m.call (super_new' _) ?_); rintro r_ w ⟨u, hu, rfl, m1⟩
  replace m := m.fr Frm.nil m1; simp only [List.cons_append, List.nil_append] at m
  (repeat (first | refine Sh.sv m ?_ | refine Sh.hv ?_ | (refine Sh.sw m ?_; clear m; intro g_ w m) | (refine Sh.su m ?_; clear m; intro w m) | (refine Sh.suN m ?_; clear m; intro w m) | (refine Sh.hr m ?_; clear m; intro m) | refine Sh.rsS m ?_ | refine Sh.hd m ?_ | refine Sh.rsK [] m ?_ | refine CN_tt ?_ | refine CN_ff ?_ | refine GD_tt ?_ | refine GD_ff ?_ | refine GD_tf ?_ | refine GD_ft ?_ | refine CN_true (by first | omega | (simp; done) | (simp; omega)) ?_ | refine CN_false (by first | omega | (simp; done) | (simp; omega)) ?_ | refine GD_true (by first | omega | (simp; done) | (simp; omega)) ?_ | refine GD_true' (by first | omega | (simp; done) | (simp; omega)) ?_ | refine GD_false (by first | omega | (simp; done) | (simp; omega)) ?_ | refine GD_false' (by first | omega | (simp; done) | (simp; omega)) ?_ | refine Sh.crN m ?_ | refine Sh.cr1 m ?_ | refine Sh.svI m (by first | omega | decide) (by first | omega | (simp; done) | (simp; omega)) fun q_ _ hp_ => ?_ | refine Sh.hvI m (by first | omega | decide) (by first | omega | (simp; done) | (simp; omega)) fun q_ _ hp_ => ?_ | refine Sh.svF m fun q_ _ hp_ => ?_ | refine Sh.hvF m fun q_ _ hp_ => ?_))
  replace m := m.nilSl eShard
  replace m := m.shut (L := []) Frm.nil
  replace m := m.shut (L := [bk g_ 126 [.int .i64 width, .int .i64 term, str key, .int .i64 0, .slice none 0 0, .pointer (some ⟨u.g, 0, none⟩)], sl eShard (.slice none 0 0) [], superF u, box []]) (by repeat (first | exact Frm.nil | (with_reducible exact Rem.here) | apply Frm.cons | apply Rem.there))
  exact ⟨⟨g_, .slice none 0 0, width, term, key, 0, [], u⟩, rfl, rfl, rfl, rfl, rfl, hu, rfl, m⟩

section
variable {x : VaultG} {w0 : World}
theorem vault_key (h : Mem w0 [vaultF x]) : Ret Tryz.prog 70 #[.pointer (some ⟨x.g, 0, none⟩)] w0 (str x.key) := by
  have m := St.start h
  replace m := m.open (by repeat (first | exact Frm.nil | (with_reducible exact Rem.dup) | (with_reducible exact Rem.here) | apply Frm.cons | apply Rem.there)); simp only [List.cons_append, List.nil_append] at m
  refine c70 ?_
  unfold s70
  (repeat (first | refine Sh.sv m ?_ | refine Sh.hv ?_ | (refine Sh.sw m ?_; clear m; intro g_ w m) | (refine Sh.su m ?_; clear m; intro w m) | (refine Sh.suN m ?_; clear m; intro w m) | (refine Sh.hr m ?_; clear m; intro m) | refine Sh.rsS m ?_ | refine Sh.hd m ?_ | refine Sh.rsK [] m ?_ | refine CN_tt ?_ | refine CN_ff ?_ | refine GD_tt ?_ | refine GD_ff ?_ | refine GD_tf ?_ | refine GD_ft ?_ | refine CN_true (by first | omega | (simp; done) | (simp; omega)) ?_ | refine CN_false (by first | omega | (simp; done) | (simp; omega)) ?_ | refine GD_true (by first | omega | (simp; done) | (simp; omega)) ?_ | refine GD_true' (by first | omega | (simp; done) | (simp; omega)) ?_ | refine GD_false (by first | omega | (simp; done) | (simp; omega)) ?_ | refine GD_false' (by first | omega | (simp; done) | (simp; omega)) ?_ | refine Sh.crN m ?_ | refine Sh.cr1 m ?_ | refine Sh.svI m (by first | omega | decide) (by first | omega | (simp; done) | (simp; omega)) fun q_ _ hp_ => ?_ | refine Sh.hvI m (by first | omega | decide) (by first | omega | (simp; done) | (simp; omega)) fun q_ _ hp_ => ?_ | refine Sh.svF m fun q_ _ hp_ => ?_ | refine Sh.hvF m fun q_ _ hp_ => ?_))
  exact ⟨rfl, Ch.refl _⟩
theorem vault_width (h : Mem w0 [vaultF x]) : Ret Tryz.prog 50 #[.pointer (some ⟨x.g, 0, none⟩)] w0 (.int .i64 x.width) := by
  have m := St.start h
  replace m := m.open (by repeat (first | exact Frm.nil | (with_reducible exact Rem.dup) | (with_reducible exact Rem.here) | apply Frm.cons | apply Rem.there)); simp only [List.cons_append, List.nil_append] at m
  refine c50 ?_
  unfold s50
  (repeat (first | refine Sh.sv m ?_ | refine Sh.hv ?_ | (refine Sh.sw m ?_; clear m; intro g_ w m) | (refine Sh.su m ?_; clear m; intro w m) | (refine Sh.suN m ?_; clear m; intro w m) | (refine Sh.hr m ?_; clear m; intro m) | refine Sh.rsS m ?_ | refine Sh.hd m ?_ | refine Sh.rsK [] m ?_ | refine CN_tt ?_ | refine CN_ff ?_ | refine GD_tt ?_ | refine GD_ff ?_ | refine GD_tf ?_ | refine GD_ft ?_ | refine CN_true (by first | omega | (simp; done) | (simp; omega)) ?_ | refine CN_false (by first | omega | (simp; done) | (simp; omega)) ?_ | refine GD_true (by first | omega | (simp; done) | (simp; omega)) ?_ | refine GD_true' (by first | omega | (simp; done) | (simp; omega)) ?_ | refine GD_false (by first | omega | (simp; done) | (simp; omega)) ?_ | refine GD_false' (by first | omega | (simp; done) | (simp; omega)) ?_ | refine Sh.crN m ?_ | refine Sh.cr1 m ?_ | refine Sh.svI m (by first | omega | decide) (by first | omega | (simp; done) | (simp; omega)) fun q_ _ hp_ => ?_ | refine Sh.hvI m (by first | omega | decide) (by first | omega | (simp; done) | (simp; omega)) fun q_ _ hp_ => ?_ | refine Sh.svF m fun q_ _ hp_ => ?_ | refine Sh.hvF m fun q_ _ hp_ => ?_))
  exact ⟨rfl, Ch.refl _⟩
theorem vault_term (h : Mem w0 [vaultF x]) : Ret Tryz.prog 51 #[.pointer (some ⟨x.g, 0, none⟩)] w0 (.int .i64 x.term) := by
  have m := St.start h
  replace m := m.open (by repeat (first | exact Frm.nil | (with_reducible exact Rem.dup) | (with_reducible exact Rem.here) | apply Frm.cons | apply Rem.there)); simp only [List.cons_append, List.nil_append] at m
  refine c51 ?_
  unfold s51
  (repeat (first | refine Sh.sv m ?_ | refine Sh.hv ?_ | (refine Sh.sw m ?_; clear m; intro g_ w m) | (refine Sh.su m ?_; clear m; intro w m) | (refine Sh.suN m ?_; clear m; intro w m) | (refine Sh.hr m ?_; clear m; intro m) | refine Sh.rsS m ?_ | refine Sh.hd m ?_ | refine Sh.rsK [] m ?_ | refine CN_tt ?_ | refine CN_ff ?_ | refine GD_tt ?_ | refine GD_ff ?_ | refine GD_tf ?_ | refine GD_ft ?_ | refine CN_true (by first | omega | (simp; done) | (simp; omega)) ?_ | refine CN_false (by first | omega | (simp; done) | (simp; omega)) ?_ | refine GD_true (by first | omega | (simp; done) | (simp; omega)) ?_ | refine GD_true' (by first | omega | (simp; done) | (simp; omega)) ?_ | refine GD_false (by first | omega | (simp; done) | (simp; omega)) ?_ | refine GD_false' (by first | omega | (simp; done) | (simp; omega)) ?_ | refine Sh.crN m ?_ | refine Sh.cr1 m ?_ | refine Sh.svI m (by first | omega | decide) (by first | omega | (simp; done) | (simp; omega)) fun q_ _ hp_ => ?_ | refine Sh.hvI m (by first | omega | decide) (by first | omega | (simp; done) | (simp; omega)) fun q_ _ hp_ => ?_ | refine Sh.svF m fun q_ _ hp_ => ?_ | refine Sh.hvF m fun q_ _ hp_ => ?_))
  exact ⟨rfl, Ch.refl _⟩
theorem vault_clock (h : Mem w0 [vaultF x]) : Ret Tryz.prog 37 #[.pointer (some ⟨x.g, 0, none⟩)] w0 (.int .i64 x.clock) := by
  have m := St.start h
  replace m := m.open (by repeat (first | exact Frm.nil | (with_reducible exact Rem.dup) | (with_reducible exact Rem.here) | apply Frm.cons | apply Rem.there)); simp only [List.cons_append, List.nil_append] at m
  refine c37 ?_
  unfold s37
  (repeat (first | refine Sh.sv m ?_ | refine Sh.hv ?_ | (refine Sh.sw m ?_; clear m; intro g_ w m) | (refine Sh.su m ?_; clear m; intro w m) | (refine Sh.suN m ?_; clear m; intro w m) | (refine Sh.hr m ?_; clear m; intro m) | refine Sh.rsS m ?_ | refine Sh.hd m ?_ | refine Sh.rsK [] m ?_ | refine CN_tt ?_ | refine CN_ff ?_ | refine GD_tt ?_ | refine GD_ff ?_ | refine GD_tf ?_ | refine GD_ft ?_ | refine CN_true (by first | omega | (simp; done) | (simp; omega)) ?_ | refine CN_false (by first | omega | (simp; done) | (simp; omega)) ?_ | refine GD_true (by first | omega | (simp; done) | (simp; omega)) ?_ | refine GD_true' (by first | omega | (simp; done) | (simp; omega)) ?_ | refine GD_false (by first | omega | (simp; done) | (simp; omega)) ?_ | refine GD_false' (by first | omega | (simp; done) | (simp; omega)) ?_ | refine Sh.crN m ?_ | refine Sh.cr1 m ?_ | refine Sh.svI m (by first | omega | decide) (by first | omega | (simp; done) | (simp; omega)) fun q_ _ hp_ => ?_ | refine Sh.hvI m (by first | omega | decide) (by first | omega | (simp; done) | (simp; omega)) fun q_ _ hp_ => ?_ | refine Sh.svF m fun q_ _ hp_ => ?_ | refine Sh.hvF m fun q_ _ hp_ => ?_))
  exact ⟨rfl, Ch.refl _⟩

/-- Copies of shards: the same data. -/
theorem vault_shards (h : Mem w0 [vaultF x]) (hn : x.shards.length ≤ 1000) (hl : ∀ s ∈ x.shards, s.d.leaves.length ≤ 1000000 ∧ s.d.rows.length ≤ 1000000) :
    Calls Tryz.prog 45 #[.pointer (some ⟨x.g, 0, none⟩)] w0 (retP fun v w' => ∃ l : List ShardG, l.map (·.d) = x.shards.map (·.d) ∧ St w0 [vaultF x] w' [own eShard v (l.map (·.g)), box (l.map shardF), vaultF x]) := by
  have m := St.start h
  replace m := m.open (by repeat (first | exact Frm.nil | (with_reducible exact Rem.dup) | (with_reducible exact Rem.here) | apply Frm.cons | apply Rem.there)); simp only [List.cons_append, List.nil_append] at m
  refine c45 ?_
  unfold s45
  (repeat (first | refine Sh.sv m ?_ | refine Sh.hv ?_ | (refine Sh.sw m ?_; clear m; intro g_ w m) | (refine Sh.su m ?_; clear m; intro w m) | (refine Sh.suN m ?_; clear m; intro w m) | (refine Sh.hr m ?_; clear m; intro m) | refine Sh.rsS m ?_ | refine Sh.hd m ?_ | refine Sh.rsK [] m ?_ | refine CN_tt ?_ | refine CN_ff ?_ | refine GD_tt ?_ | refine GD_ff ?_ | refine GD_tf ?_ | refine GD_ft ?_ | refine CN_true (by first | omega | (simp; done) | (simp; omega)) ?_ | refine CN_false (by first | omega | (simp; done) | (simp; omega)) ?_ | refine GD_true (by first | omega | (simp; done) | (simp; omega)) ?_ | refine GD_true' (by first | omega | (simp; done) | (simp; omega)) ?_ | refine GD_false (by first | omega | (simp; done) | (simp; omega)) ?_ | refine GD_false' (by first | omega | (simp; done) | (simp; omega)) ?_ | refine Sh.crN m ?_ | refine Sh.cr1 m ?_ | refine Sh.svI m (by first | omega | decide) (by first | omega | (simp; done) | (simp; omega)) fun q_ _ hp_ => ?_ | refine Sh.hvI m (by first | omega | decide) (by first | omega | (simp; done) | (simp; omega)) fun q_ _ hp_ => ?_ | refine Sh.svF m fun q_ _ hp_ => ?_ | refine Sh.hvF m fun q_ _ hp_ => ?_))
  replace m := m.shut (L := []) Frm.nil
  refine LP_intro (fun us w => ∃ (v : Value) (i : Nat) (l : List ShardG), us = [v, .int .i64 i] ∧ i ≤ x.shards.length ∧ l.map (·.d) = (x.shards.take i).map (·.d) ∧
      St w0 [vaultF x] w [own eShard v (l.map (·.g)), box (l.map shardF), bk x.g 126 (vaultCells x), sl eShard x.sv (x.shards.map (·.g)), superF x.log, box (x.shards.map shardF)])
    (fun us _ => match us with | [_, .int _ t] => x.shards.length - t.toNat | _ => 0) ⟨_, 0, [], rfl, Nat.zero_le _, rfl, m.nilOwn eShard⟩ ?_
  clear m
  rintro us hus ζ w ⟨v, i, l, rfl, hi, hd, m⟩
  have hll : l.length = i := by have := congrArg List.length hd; simpa [Nat.min_eq_left hi] using this
  unfold s45_l1
  simp only [List.getD_cons_zero, List.getD_cons_succ]
  by_cases hlt : i < x.shards.length
  · have hs := hl x.shards[i] (List.getElem_mem hlt)
    (repeat (first | refine Sh.sv m ?_ | refine Sh.hv ?_ | (refine Sh.sw m ?_; clear m; intro g_ w m) | (refine Sh.su m ?_; clear m; intro w m) | (refine Sh.suN m ?_; clear m; intro w m) | (refine Sh.hr m ?_; clear m; intro m) | refine Sh.rsS m ?_ | refine Sh.hd m ?_ | refine Sh.rsK [] m ?_ | refine CN_tt ?_ | refine CN_ff ?_ | refine GD_tt ?_ | refine GD_ff ?_ | refine GD_tf ?_ | refine GD_ft ?_ | refine CN_true (by first | omega | (simp; done) | (simp; omega)) ?_ | refine CN_false (by first | omega | (simp; done) | (simp; omega)) ?_ | refine GD_true (by first | omega | (simp; done) | (simp; omega)) ?_ | refine GD_true' (by first | omega | (simp; done) | (simp; omega)) ?_ | refine GD_false (by first | omega | (simp; done) | (simp; omega)) ?_ | refine GD_false' (by first | omega | (simp; done) | (simp; omega)) ?_ | refine Sh.crN m ?_ | refine Sh.cr1 m ?_ | refine Sh.svI m (by first | omega | decide) (by first | omega | (simp; done) | (simp; omega)) fun q_ _ hp_ => ?_ | refine Sh.hvI m (by first | omega | decide) (by first | omega | (simp; done) | (simp; omega)) fun q_ _ hp_ => ?_ | refine Sh.svF m fun q_ _ hp_ => ?_ | refine Sh.hvF m fun q_ _ hp_ => ?_))
    simp only [Int.toNat_natCast, List.getElem_map]
    -- the shard apart
    have e1 := map_split shardF hlt
    rw [e1] at m
    replace m := m.focus (by repeat (first | exact Frm.nil | (with_reducible exact Rem.here) | apply Frm.cons | apply Rem.there))
    refine n117 (m.call (shard_copy (m.get (by repeat (first | exact Frm.nil | (with_reducible exact Rem.dup) | (with_reducible exact Rem.here) | apply Frm.cons | apply Rem.there))) hs.1 hs.2) ?_); rintro r_ w ⟨s', hd', rfl, m1⟩
    replace m := m.fr (by repeat (first | exact Frm.nil | (with_reducible exact Rem.dup) | (with_reducible exact Rem.here) | apply Frm.cons | apply Rem.there)) m1; simp only [List.cons_append, List.nil_append] at m
    replace m := m.unfocus (a := shardF x.shards[i]) (L1 := (x.shards.take i).map shardF) (L2 := (x.shards.drop (i + 1)).map shardF) (by repeat (first | exact Frm.nil | (with_reducible exact Rem.here) | apply Frm.cons | apply Rem.there))
    rw [← e1] at m
    replace m := m.snoc (a := shardF s') (L1 := l.map shardF) (by repeat (first | exact Frm.nil | (with_reducible exact Rem.here) | apply Frm.cons | apply Rem.there))
    refine lits eShard [s'.g] m [_] rfl rfl rfl (by simp) ?_; clear m; intro v5 w _ m
    refine ap m (by simp; omega) (by simp [maxLen]; omega) ?_; clear m; intro v6 w _ m
    (repeat (first | refine Sh.sv m ?_ | refine Sh.hv ?_ | (refine Sh.sw m ?_; clear m; intro g_ w m) | (refine Sh.su m ?_; clear m; intro w m) | (refine Sh.suN m ?_; clear m; intro w m) | (refine Sh.hr m ?_; clear m; intro m) | refine Sh.rsS m ?_ | refine Sh.hd m ?_ | refine Sh.rsK [] m ?_ | refine CN_tt ?_ | refine CN_ff ?_ | refine GD_tt ?_ | refine GD_ff ?_ | refine GD_tf ?_ | refine GD_ft ?_ | refine CN_true (by first | omega | (simp; done) | (simp; omega)) ?_ | refine CN_false (by first | omega | (simp; done) | (simp; omega)) ?_ | refine GD_true (by first | omega | (simp; done) | (simp; omega)) ?_ | refine GD_true' (by first | omega | (simp; done) | (simp; omega)) ?_ | refine GD_false (by first | omega | (simp; done) | (simp; omega)) ?_ | refine GD_false' (by first | omega | (simp; done) | (simp; omega)) ?_ | refine Sh.crN m ?_ | refine Sh.cr1 m ?_ | refine Sh.svI m (by first | omega | decide) (by first | omega | (simp; done) | (simp; omega)) fun q_ _ hp_ => ?_ | refine Sh.hvI m (by first | omega | decide) (by first | omega | (simp; done) | (simp; omega)) fun q_ _ hp_ => ?_ | refine Sh.svF m fun q_ _ hp_ => ?_ | refine Sh.hvF m fun q_ _ hp_ => ?_))
    refine ⟨⟨v6, i + 1, l ++ [s'], rfl, hlt, ?_, ?_⟩, ?_⟩
    · rw [List.take_succ_eq_append_getElem hlt, List.map_append, List.map_append, hd]; simp only [List.map_cons, List.map_nil, hd']
    · have h := m.sub (X := [own eShard v6 (l.map (·.g) ++ [s'.g]), box (l.map shardF ++ [shardF s']), bk x.g 126 (vaultCells x), sl eShard x.sv (x.shards.map (·.g)), superF x.log, box (x.shards.map shardF)]) (by repeat (first | exact Frm.nil | (with_reducible exact Rem.here) | apply Frm.cons | apply Rem.there))
      simpa using h
    · show x.shards.length - ((i : Int) + 1).toNat < x.shards.length - (i : Int).toNat
      omega
  · (repeat (first | refine Sh.sv m ?_ | refine Sh.hv ?_ | (refine Sh.sw m ?_; clear m; intro g_ w m) | (refine Sh.su m ?_; clear m; intro w m) | (refine Sh.suN m ?_; clear m; intro w m) | (refine Sh.hr m ?_; clear m; intro m) | refine Sh.rsS m ?_ | refine Sh.hd m ?_ | refine Sh.rsK [] m ?_ | refine CN_tt ?_ | refine CN_ff ?_ | refine GD_tt ?_ | refine GD_ff ?_ | refine GD_tf ?_ | refine GD_ft ?_ | refine CN_true (by first | omega | (simp; done) | (simp; omega)) ?_ | refine CN_false (by first | omega | (simp; done) | (simp; omega)) ?_ | refine GD_true (by first | omega | (simp; done) | (simp; omega)) ?_ | refine GD_true' (by first | omega | (simp; done) | (simp; omega)) ?_ | refine GD_false (by first | omega | (simp; done) | (simp; omega)) ?_ | refine GD_false' (by first | omega | (simp; done) | (simp; omega)) ?_ | refine Sh.crN m ?_ | refine Sh.cr1 m ?_ | refine Sh.svI m (by first | omega | decide) (by first | omega | (simp; done) | (simp; omega)) fun q_ _ hp_ => ?_ | refine Sh.hvI m (by first | omega | decide) (by first | omega | (simp; done) | (simp; omega)) fun q_ _ hp_ => ?_ | refine Sh.svF m fun q_ _ hp_ => ?_ | refine Sh.hvF m fun q_ _ hp_ => ?_))
    have hi' : i = x.shards.length := by omega
    subst hi'
    rw [List.take_length] at hd
    refine ⟨l, hd, ?_⟩
    have m := m.shut (L := vaultL x) (by repeat (first | exact Frm.nil | (with_reducible exact Rem.here) | apply Frm.cons | apply Rem.there))
    exact m.sub (by repeat (first | exact Frm.nil | (with_reducible exact Rem.here) | apply Frm.cons | apply Rem.there))
end
end Go.Proofs.YtkdghnbogkbedaaGreatDoor
