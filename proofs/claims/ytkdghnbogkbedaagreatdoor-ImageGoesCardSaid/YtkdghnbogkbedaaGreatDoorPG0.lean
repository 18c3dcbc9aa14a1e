/-
  ImageGoes: for every two lists of files, files that are changed by what Diff tells come from the ones to the others: the law answers true and its arguments read as they did. Conditions: the package-level tables hold what the program's text lays. (Part 1 of 8.)
-/
import Derived.Calls
import Derived.Tactics
import Derived.Scope
import Derived.Deep.Quiet
import Derived.Below
import Derived.KernelRfl
import Derived.WalkKit
import Derived.Laws.Tables
import Derived.Laws.IdiomStrings
import Derived.Laws.Strings2
import Derived.Laws.Slices
set_option linter.unusedSimpArgs false
set_option linter.unusedVariables false

namespace Go.Sh
open Go Go.RowKit

/-! ## Environments -/

abbrev Env := List (Nat × Value)

def look : Env → Nat → Value
  | [], _ => undef
  | (j, v) :: E, i => cond (Nat.beq j i) v (look E i)

def ev (E : Env) : Operand → Value
  | .tmp t => look E t
  | .const v => v
  | .global g => .pointer (some ⟨g, 0, none⟩)
  | .func f => .func (.func f) #[] #[]

def putE (E : Env) : Option Tmp → Value → Env
  | some d, v => (d, v) :: E
  | none, _ => E

theorem not_of_ne {b want : Bool} (h : ¬ b = want) : b = !want := by cases b <;> cases want <;> first | rfl | exact absurd rfl h

theorem blt_lt {a b : Nat} (h : Nat.blt a b = true) : a < b := Nat.le_of_ble_eq_true h

theorem look_cons (j : Nat) (v : Value) (E : Env) (i : Nat) : look ((j, v) :: E) i = if j = i then v else look E i := by
  simp only [look]
  by_cases h : j = i
  · subst h; simp
  · have : Nat.beq j i = false := by
      cases hb : Nat.beq j i
      · rfl
      · exact absurd (Nat.eq_of_beq_eq_true hb) h
    simp [this, h]

/-! ## What an operation does -/

inductive OpR where
  | ret (v : Value)
  | val (s : Sem Value)
  | unit (s : Sem Unit)
  | next (s : Sem Next)
  | bad (s : Sem Next)

def OpR.sem : OpR → Sem Next
  | .ret v => pure (.value v)
  | .val s => do pure (.value (← s))
  | .unit s => do s; pure .skip
  | .next s => s
  | .bad s => s

/-- A call of a function value. -/
def callV (f : Value) (args : Array Value) : Sem Next := do
  let d ← Deferred.ofValue f args
  invoke d.target d.args

def calleeR (ρ : Operand → Value) (f : Operand) (args : Array Operand) : Sem Next :=
  match f with
  | .func k => callFunc k (args.map ρ)
  | f => callV (ρ f) (args.map ρ)

def builtinR (b : Builtin) (ats : Array TypeId) (ty : TypeId) (consts : Array Bool) (args : Array Value) : OpR :=
  match b with
  | .append => .val (Builtin.append_ ats ty args)
  | .cap => .val (Builtin.cap_ ats ty args)
  | .copy => .val (Builtin.copy_ ats ty args)
  | .delete => .val (Builtin.delete_ ats ty args)
  | .len => .val (Builtin.len_ ats ty args)
  | .max => .val (Builtin.max_ ats ty args)
  | .min => .val (Builtin.min_ ats ty args)
  | .clear => .val (Builtin.clear_ ats ty args)
  | b => .next (builtin b ats ty consts args)

/-- A nil check. -/
def nilS (v : Value) : Sem Value :=
  match v with
  | .pointer none | .nilIface | .nilFunc => runtimePanic .nilDeref
  | .func (.method name) first captured =>
    match (first[0]? : Option Value) with
    | some .nilIface => runtimePanic .nilDeref
    | some (.iface t w) => do
      if (← nilAhead ((← program).types.size + Made.depth) t w name) != some false then
        unsupported (.noEntry "op/nilCheck.the method's receiver behind this interface value is a nil pointer, or cannot be seen to be none, and the arguments act or may panic (ledger 612)")
      pure (.func (.method name) first captured)
    | _ => pure (.func (.method name) first captured)
  | x => pure x

/-- '==' and '!='. -/
def eqS (op : BinOp) (t : TypeId) (x y : Operand) (a b : Value) : Sem Value := do eqGuard op t x y a b; binOp op t a b

def opR (ρ : Operand → Value) (o : Oper) : OpR :=
  match o.op with
  | .move x | .assign x => .ret (ρ x)
  | .pick c a b => .val (do pure (if ← asBool (ρ c) then ρ a else ρ b))
  | .alloc elem => .val (Instr.alloc elem true (.tuple #[]))
  | .box elem x => .val (Instr.box elem (ρ x))
  | .build t parts => .val (Instr.build t (parts.map fun (i, x) => (i, ρ x)))
  | .buildSlice t len parts => .val (Instr.buildSlice t len (parts.map fun (i, x) => (i, ρ x)))
  | .load t a => .val (Instr.loadAt t (ρ a))
  | .store t a x => .unit (Instr.storeAt t (ρ a) (ρ x))
  | .nilCheck x => .val (nilS (ρ x))
  | .binOp .eql xType x y _ => .val (eqS .eql xType x y (ρ x) (ρ y))
  | .binOp .neq xType x y _ => .val (eqS .neq xType x y (ρ x) (ρ y))
  | .binOp op xType x y _ => .val (binOp op xType (ρ x) (ρ y))
  | .makeInterface xType x => .val (Instr.makeInterface xType (ρ x))
  | .unOp op _ x => .val (Op.unary op (ρ x))
  | .convert src dst x => .val (convert src dst (ρ x))
  | .makeFunc fn first captured => .val (Instr.makeFunc fn (first.map ρ) (captured.map ρ))
  | .makeMap t r => .val (Instr.makeMap t (r.map ρ))
  | .makeSlice t l c => .val (Instr.makeSlice t (ρ l) (ρ c))
  | .slice t x lo hi mx => .val (Instr.sliceAt t (ρ x) (lo.map ρ) (hi.map ρ) (mx.map ρ))
  | .fieldAddr s x f => .val (Instr.fieldAt s (ρ x) f)
  | .field xType x f => .val (Instr.field xType (ρ x) f)
  | .indexAddr t x ix => .val (Instr.indexAt t (ρ x) (ρ ix))
  | .index xType x ix => .val (Instr.index xType (ρ x) (ρ ix))
  | .extract t ix => .val (Instr.extract (ρ t) ix)
  | .lookup xType x ix ok => .val (Instr.lookup xType (ρ x) (ρ ix) ok)
  | .mapUpdate t m k x => .unit (Instr.mapUpdate t (ρ m) (ρ k) (ρ x))
  | .range xType x => .val (Instr.range xType (ρ x))
  | .next it isString => .val (Instr.next (ρ it) isString o.type)
  | .call { callee := .builtin b, args, argTypes } => builtinR b argTypes o.type (args.map fun | .const _ => true | _ => false) (args.map ρ)
  | .call { callee := .value f, args, .. } => .next (calleeR ρ f args)
  | _ => .bad (execOp ρ o)

theorem Sem.bind_pure' {α : Type} (s : Sem α) : Sem.bind s Sem.pure = s := by
  induction s with
  | pure a => rfl
  | halt h => rfl
  | load m a k ih => simp only [Sem.bind]; congr; funext v; exact ih v
  | store m a v k ih => simp only [Sem.bind, ih]
  | new o k ih => simp only [Sem.bind]; congr; funext v; exact ih v
  | shape r k ih => simp only [Sem.bind]; congr; funext v; exact ih v
  | freeze a n k ih => simp only [Sem.bind, ih]
  | frozen a k ih => simp only [Sem.bind]; congr; funext v; exact ih v
  | getObj r k ih => simp only [Sem.bind]; congr; funext v; exact ih v
  | setObj r o k ih => simp only [Sem.bind, ih]
  | choose q k ih => simp only [Sem.bind]; congr; funext v; exact ih v
  | sys c k ih => simp only [Sem.bind]; congr; funext v; exact ih v
  | program k ih => simp only [Sem.bind]; congr; funext v; exact ih v
  | mark m k ih => simp only [Sem.bind, ih]

theorem sem_builtinR (b : Builtin) (ats : Array TypeId) (ty : TypeId) (consts : Array Bool) (args : Array Value) :
    (builtinR b ats ty consts args).sem = builtin b ats ty consts args := by
  cases b <;> rfl

theorem resolve_func (ρ : Operand → Value) (k : FuncId) (args : Array Operand) (argTypes : Array TypeId) (ty : TypeId) :
    (do let d ← resolve ρ { callee := .value (.func k), args, argTypes } ty; invoke d.target d.args) = (do
      let d ← Deferred.ofValue (ρ (.func k)) (args.map ρ); invoke d.target d.args) := rfl

theorem sem_opR (E : Env) (o : Oper) : (opR (ev E) o).sem = execOp (ev E) o := by
  obtain ⟨dst, op, type, pos, after, guard⟩ := o
  cases op with
  | call c =>
    obtain ⟨callee, args, argTypes⟩ := c
    cases callee with
    | value f =>
      cases f with
      | func k =>
        show callFunc k (args.map (ev E)) = _
        simp only [execOp, resolve, ev, Deferred.ofValue, invoke]
        show _ = callFunc k ((#[] ++ args.map (ev E)) ++ #[])
        simp
      | tmp t => rfl
      | const v => rfl
      | global g => rfl
    | invoke r m => rfl
    | builtin b =>
      show (builtinR _ _ _ _ _).sem = _
      rw [sem_builtinR]
      rfl
  | nilCheck x =>
    show OpR.sem (.val (nilS (ev E x))) = execOp (ev E) _
    simp only [execOp]
    generalize ev E x = v
    cases v with
    | func fn first captured =>
      cases fn with
      | method name =>
        simp only [nilS, OpR.sem]
        cases hf : (first[0]? : Option Value) with
        | none => rfl
        | some u => cases u <;> first | rfl | (simp only [bind_assoc]; congr; funext x; congr; funext y; split <;> rfl)
      | _ => rfl
    | pointer a => cases a <;> rfl
    | _ => rfl
  | binOp op t x y yt => cases op <;> rfl
  | pick c a b =>
    show OpR.sem (.val (do pure (if ← asBool (ev E c) then ev E a else ev E b))) = (do pure (.value (if ← asBool (ev E c) then ev E a else ev E b)))
    generalize ev E c = v
    cases v <;> rfl
  | _ => rfl

/-! ## Weakest preconditions -/

/-- A value's run. -/
def SV (P : Program) (s : Sem Value) (w : World) (k : Value → World → Prop) : Prop := ∃ v w', s.run P w = .ok v w' ∧ k v w'
/-- A store's run. -/
def SU (P : Program) (s : Sem Unit) (w : World) (k : World → Prop) : Prop := ∃ w', s.run P w = .ok () w' ∧ k w'

def retP (k : Value → World → Prop) : Ending → World → Prop
  | .returned v, w => k v w
  | _, _ => False

/-- A call's run. -/
def SN (P : Program) (s : Sem Next) (w : World) (k : Value → World → Prop) : Prop :=
  match s.run P w with
  | .ok (.value v) w' => k v w'
  | .ok .skip w' => k undef w'
  | .ok (.enter f args) w' => Calls P f args w' (retP k)
  | _ => False

def opW (P : Program) (r : OpR) (w : World) (k : Value → World → Prop) : Prop :=
  match r with
  | .ret v => k v w
  | .val s => SV P s w k
  | .unit s => SU P s w (k undef)
  | .next s => SN P s w k
  | .bad _ => False

/-- A guarded operation. -/
def GD (v : Value) (want : Bool) (X Y : Prop) : Prop :=
  match v with
  | .bool b => if b = want then X else Y
  | _ => False

/-! ### What is known of temporaries -/

inductive Kn where
  | unk
  | undef
  | bool (b : Bool)

abbrev Dec := List (Nat × Kn)

def kn : Dec → Nat → Kn
  | [], _ => .unk
  | (j, k) :: D, i => cond (Nat.beq j i) k (kn D i)

def knOp (D : Dec) : Operand → Kn
  | .tmp t => kn D t
  | .const (.bool b) => .bool b
  | _ => .unk

def knPut (D : Dec) : Option Tmp → Kn → Dec
  | some d, k => (d, k) :: D
  | none, _ => D

inductive Gd where
  | yes
  | no
  | ask (d : Nat) (want : Bool)

def gdOf (all : List Oper) (D : Dec) (o : Oper) : Gd :=
  match o.guard with
  | none => .yes
  | some (j, want) =>
    match (all[j]?).bind (·.dst) with
    | none => .no
    | some d => match kn D d with
      | .bool true => cond want .yes .no
      | .bool false => cond want .no .yes
      | .undef => .no
      | .unk => .ask d want

def opRK (D : Dec) (ρ : Operand → Value) (o : Oper) : OpR × Kn :=
  match o.op with
  | .move x | .assign x => (.ret (ρ x), knOp D x)
  | .pick c a b => match knOp D c with
    | .bool true => (.ret (ρ a), knOp D a)
    | .bool false => (.ret (ρ b), knOp D b)
    | _ => (opR ρ o, .unk)
  | _ => (opR ρ o, .unk)

def vcOps (P : Program) (all : List Oper) (k : Env → World → Prop) : List Oper → Dec → Env → World → Prop
  | [], _, E, w => k E w
  | o :: rest, D, E, w =>
    match gdOf all D o with
    | .yes => opW P (opRK D (ev E) o).1 w fun v w' => vcOps P all k rest (knPut D o.dst (opRK D (ev E) o).2) (putE E o.dst v) w'
    | .no => vcOps P all k rest (knPut D o.dst .undef) (putE E o.dst undef) w
    | .ask d want => GD (look E d) want
        (opW P (opRK ((d, .bool want) :: D) (ev E) o).1 w fun v w' => vcOps P all k rest (knPut ((d, .bool want) :: D) o.dst (opRK ((d, .bool want) :: D) (ev E) o).2) (putE E o.dst v) w')
        (vcOps P all k rest (knPut ((d, .bool (!want)) :: D) o.dst .undef) (putE E o.dst undef) w)

/-! ### A region that draws its order -/

def loudB (o : Oper) : Bool :=
  match o.op with
  | .store .. | .alloc _ | .box .. | .buildSlice .. | .makeSlice .. | .makeMap .. | .mapUpdate .. => true
  | .call { callee := .builtin b, .. } => (match b with | .len | .cap | .max | .min => false | _ => true)
  | .move _ | .assign _ | .pick .. | .build .. | .load .. | .nilCheck _ | .binOp .. | .unOp .. | .convert .. | .makeFunc .. | .makeInterface .. | .slice .. | .fieldAddr .. | .field .. | .indexAddr .. | .index ..
  | .extract .. | .lookup .. => false
  | _ => true

/-- For each operation, as bits: what stands ahead of it in every order. -/
def ancBits (acc : List Nat) : List Edge → Nat
  | [] => 0
  | e :: es => cond (Region.binds .any e) (2 ^ e.on ||| acc.getD e.on 0 ||| ancBits acc es) (ancBits acc es)

def ancGo : List Nat → List Oper → List Nat
  | acc, [] => acc
  | acc, o :: l => ancGo (acc ++ [ancBits acc o.after.toList]) l

/-- What stands ahead of an operation in every order. -/
def aheadB (b : List Nat) (j i : Nat) : Bool := (b.getD j 0).testBit i

/-- An operation behind which only loud ones may come: all others stand ahead of it. -/
def lastB (ops : List Oper) (b : List Nat) (j : Nat) : Bool := ops.zipIdx.all fun (o, i) => loudB o || Nat.beq i j || aheadB b j i

/-- An operation that asks no world. -/
def idleB (o : Oper) : Bool := match o.op with | .move _ | .assign _ => true | _ => false

/-- An operation that has all still ones listed ahead of it behind it in no order. -/
def freshB (ops : List Oper) (b : List Nat) (j : Nat) : Bool := ops.zipIdx.all fun (o, i) => loudB o || idleB o || !Nat.blt i j || aheadB b j i

/-- The class of worlds may be widened here. -/
def RS (C : World → Prop) (w : World) (F : (World → Prop) → Prop) : Prop := ∃ C' : World → Prop, (∀ w, C w → C' w) ∧ C' w ∧ F C'
theorem RS_same {C : World → Prop} {w : World} {F : (World → Prop) → Prop} (h : C w) (hF : F C) : RS C w F := ⟨C, fun _ h => h, h, hF⟩

/-- A still operation: in each world of the class the same value. -/
def HV (P : Program) (C : World → Prop) (s : Sem Value) (k : Value → Prop) : Prop := ∃ v, (∀ w, C w → s.run P w = .ok v w) ∧ k v
def HN (P : Program) (C : World → Prop) (s : Sem Next) (k : Value → Prop) : Prop := ∃ v, (∀ w, C w → s.run P w = .ok (.value v) w) ∧ k v

def opH (P : Program) (C : World → Prop) (loud last fresh : Bool) (r : OpR) (w : World) (k : (World → Prop) → Value → World → Prop) : Prop :=
  match loud, last, fresh with
  | true, true, _ => opW P r w (k C)
  | true, false, false => opW P r w fun v w' => C w' ∧ k C v w'
  | true, false, true => opW P r w fun v w' => RS C w' fun C' => k C' v w'
  | false, _, _ => match r with
    | .ret v => k C v w
    | .val s => HV P C s fun v => k C v w
    | .next s => HN P C s fun v => k C v w
    | .unit _ => False
    | .bad _ => False

def vcH (P : Program) (all : List Oper) (b : List Nat) (k : Env → World → Prop) : (World → Prop) → Nat → List Oper → Dec → Env → World → Prop
  | _, _, [], _, E, w => k E w
  | C, i, o :: rest, D, E, w =>
    match gdOf all D o with
    | .yes => opH P C (loudB o) (lastB all b i) (freshB all b i) (opRK D (ev E) o).1 w fun C v w' => vcH P all b k C (i + 1) rest (knPut D o.dst (opRK D (ev E) o).2) (putE E o.dst v) w'
    | .no => vcH P all b k C (i + 1) rest (knPut D o.dst .undef) (putE E o.dst undef) w
    | .ask d want => GD (look E d) want
        (opH P C (loudB o) (lastB all b i) (freshB all b i) (opRK ((d, .bool want) :: D) (ev E) o).1 w fun C v w' => vcH P all b k C (i + 1) rest (knPut ((d, .bool want) :: D) o.dst (opRK ((d, .bool want) :: D) (ev E) o).2) (putE E o.dst v) w')
        (vcH P all b k C (i + 1) rest (knPut ((d, .bool (!want)) :: D) o.dst .undef) (putE E o.dst undef) w)

/-- The class of worlds that a region that draws may come by. -/
def HR (w : World) (F : (World → Prop) → World → Prop) : Prop := ∃ C : World → Prop, C w.drew ∧ F C w.drew

def CN (v : Value) (X Y : Prop) : Prop :=
  match v with
  | .bool true => X
  | .bool false => Y
  | _ => False

def AllV : Nat → (List Value → Prop) → Prop
  | 0, p => p []
  | n + 1, p => ∀ v, AllV n fun l => p (v :: l)

theorem AllV.at_ {p : List Value → Prop} : ∀ {n : Nat}, AllV n p → ∀ l : List Value, l.length = n → p l
  | 0, h, [], _ => h
  | n + 1, h, v :: l, hl => AllV.at_ (h v) l (by simpa using hl)

/-- A loop: n values are carried on. -/
def LP (n : Nat) (us0 : List Value) (w : World) (body : (List Value → World → Prop) → (Nat → Value) → List Value → World → Prop) : Prop :=
  ∃ (I : List Value → World → Prop) (μ : List Value → World → Nat), I us0 w ∧
    AllV n fun us => ∀ (ζ : Nat → Value) (w' : World), I us w' → body (fun us'' w'' => I us'' w'' ∧ μ us'' w'' < μ us w') ζ us w'

/-- Where several ways meet: n values are carried on. -/
def JP (n : Nat) (A : (List Value → World → Prop) → Prop) (B : (Nat → Value) → List Value → World → Prop) : Prop :=
  ∃ J : List Value → World → Prop, A J ∧ AllV n fun us => ∀ (ζ : Nat → Value) (w' : World), J us w' → B ζ us w'

/-! ## Code -/

def opDsts : List Oper → List Nat
  | [] => []
  | o :: l => match o.dst with
    | some d => d :: opDsts l
    | none => opDsts l

def memB (i : Nat) : List Nat → Bool
  | [] => false
  | j :: l => cond (Nat.beq i j) true (memB i l)

def addB (i : Nat) (l : List Nat) : List Nat := cond (memB i l) l (i :: l)

def unionB : List Nat → List Nat → List Nat
  | [], m => m
  | i :: l, m => addB i (unionB l m)

def dsts : Code → List Nat
  | .region _ ops _ => opDsts ops.toList
  | .seq a b => unionB (dsts a) (dsts b)
  | .cond _ x y => unionB (dsts x) (dsts y)
  | .block _ b => dsts b
  | .loop b => dsts b
  | .scope b => dsts b
  | _ => []

def exitsTo (id : Nat) : Code → Nat
  | .seq a b => exitsTo id a + exitsTo id b
  | .cond _ x y => exitsTo id x + exitsTo id y
  | .block _ b => exitsTo id b
  | .loop b => exitsTo id b
  | .scope b => exitsTo id b
  | .exit j => cond (Nat.beq id j) 1 0
  | _ => 0

def normals : Code → Nat
  | .skip => 1
  | .region _ _ _ => 1
  | .label _ => 1
  | .seq a b => normals a * normals b
  | .cond _ x y => normals x + normals y
  | .block id b => normals b + exitsTo id b
  | .scope b => normals b
  | _ => 0

inductive Ex where
  | normal
  | exit (id : Nat)
  | ret

def thenE (next : Env → World → Prop) (Q : Ex → Env → World → Prop) : Ex → Env → World → Prop
  | .normal, E, w => next E w
  | e, E, w => Q e E w

def inBlockE (id : Nat) (Q : Ex → Env → World → Prop) : Ex → Env → World → Prop
  | .exit j, E, w => cond (Nat.beq j id) (Q .normal E w) (Q (.exit j) E w)
  | e, E, w => Q e E w

def keepB (L : List Nat) : List Nat → List Nat
  | [] => []
  | d :: l => cond (memB d L) (d :: keepB L l) (keepB L l)

def zipE (us : List Value) : Nat → List Nat → Env → Env
  | _, [], E => E
  | n, i :: ls, E => (i, us.getD n undef) :: zipE us (n + 1) ls E

def deadE (ζ : Nat → Value) : List Nat → Env → Env
  | [], E => E
  | d :: ds, E => (d, ζ d) :: deadE ζ ds E

/-- Carried values laid over an environment: those of ls; the other written ones are not known. -/
def layE (ls : List Nat) (us : List Value) (ds : List Nat) (ζ : Nat → Value) (E : Env) : Env := zipE us 0 ls (deadE ζ ds E)

def vc (P : Program) (L : List Nat) : Code → (Ex → Env → World → Prop) → Env → World → Prop
  | .skip, Q, E, w => Q .normal E w
  | .label _, Q, E, w => Q .normal E w
  | .region _ ops false, Q, E, w => vcOps P ops.toList (Q .normal) ops.toList [] E w
  | .region _ ops true, Q, E, w => HR w fun C w' => vcH P ops.toList (ancGo [] ops.toList) (Q .normal) C 0 ops.toList [] E w'
  | .seq a b, Q, E, w =>
    cond (Nat.ble (normals a) 1) (vc P L a (thenE (vc P L b Q) Q) E w)
      (JP (keepB L (dsts a)).length (fun k => vc P L a (thenE (fun E' w' => k ((keepB L (dsts a)).map (look E')) w') Q) E w)
        (fun ζ us w' => vc P L b Q (layE (keepB L (dsts a)) us (dsts a) ζ E) w'))
  | .cond c x y, Q, E, w => CN (ev E c) (vc P L x Q E w) (vc P L y Q E w)
  | .block id b, Q, E, w => vc P L b (inBlockE id Q) E w
  | .loop b, Q, E, w =>
    LP (keepB L (dsts b)).length ((keepB L (dsts b)).map (look E)) w
      (fun next ζ us w' => vc P L b (thenE (fun E'' w'' => next ((keepB L (dsts b)).map (look E'')) w'') Q) (layE (keepB L (dsts b)) us (dsts b) ζ E) w')
  | .scope b, Q, E, w => vc P L b Q E w
  | .exit id, Q, E, w => Q (.exit id) E w
  | .ret, Q, E, w => Q .ret E w
  | _, _, _, _ => False


/-! ## Soundness: regions that draw their order -/

def pairsB (ops : List Oper) (b : List Nat) : Bool :=
  (ops.zipIdx.all fun (x, i) => (x.after.all fun e => !Region.binds .any e || Nat.blt e.on i) &&
    (ops.zipIdx.all fun (y, j) => !Nat.blt i j ||
      (((y.after.any fun e => Region.binds .any e && Nat.beq e.on i) || x.apart ops.toArray y) && (!loudB x || !loudB y || aheadB b j i))))

def heldB (ops : List Oper) (b : List Nat) : Bool := Region.noSelect ops.toArray && pairsB ops b

section
variable {P : Program} {C : World → Prop} {ops : Array Oper} {b : List Nat} {Q : Exit → Act → World → Prop}

def YH (P : Program) (C : World → Prop) (ops : Array Oper) (o : Oper) (v : Value) (a : Act) : Prop :=
  (Region.wanted o (yielded ops a.tmps) = true ∧ ∀ w, (C w ∨ idleB o = true) → (execOp a.eval o).run P w = .ok (.value v) w) ∨
  (Region.wanted o (yielded ops a.tmps) = false ∧ v = undef)

def loudW (P : Program) (o : Oper) (a : Act) (w : World) (K : Act → World → Prop) : Prop :=
  match (execOp a.eval o).run P w with
  | .ok (.value v) w' => K (a.put o.dst v) w'
  | .ok .skip w' => K (a.put o.dst undef) w'
  | .ok (.enter f args) w' => Calls P f args w' (retP fun v w'' => K (a.put o.dst v) w'')
  | _ => False

def hOp (P : Program) (C : World → Prop) (ops : Array Oper) (b : List Nat) (i : Nat) (o : Oper) (K : (World → Prop) → Act → World → Prop) (a : Act) (w : World) : Prop :=
  if Region.wanted o (yielded ops a.tmps) = true then
    (if loudB o = true then loudW P o a w (fun a' w' => ∃ C' : World → Prop, (∀ w, C w → C' w) ∧ (freshB ops.toList b i = true ∨ C' = C) ∧ (lastB ops.toList b i = true ∨ C' w') ∧ K C' a' w')
      else ∃ v, (∀ w', (C w' ∨ idleB o = true) → (execOp a.eval o).run P w' = .ok (.value v) w') ∧ K C (a.put o.dst v) w)
  else K C (a.put o.dst undef) w

def Wk (P : Program) (ops : Array Oper) (b : List Nat) (Q : Exit → Act → World → Prop) : List Nat → (World → Prop) → Act → World → Prop
  | [], _, a, w => Q .normal a w
  | i :: l, C, a, w => match ops[i]? with
    | none => False
    | some o => hOp P C ops b i o (Wk P ops b Q l) a w

theorem retP_mono {k k' : Value → World → Prop} (h : ∀ v w, k v w → k' v w) (e : Ending) (w : World) (he : retP k e w) : retP k' e w := by
  cases e with
  | returned v => exact h v w he
  | panicked c => exact he.elim
  | outgrown => exact he.elim

theorem calls_ex {f : FuncId} {args : Array Value} {w : World} {k : Value → World → Prop} (h : Calls P f args w (retP k)) : ∃ v w', k v w' := by
  obtain ⟨e, w', fr, hr, _⟩ := h []
  cases e with
  | returned v => exact ⟨v, w', hr⟩
  | panicked c => exact hr.elim
  | outgrown => exact hr.elim

theorem loudW_ex {o : Oper} {a : Act} {w : World} {K : Act → World → Prop} (h : loudW P o a w K) : ∃ v w', K (a.put o.dst v) w' := by
  unfold loudW at h
  generalize (execOp a.eval o).run P w = r at h
  cases r with
  | halt x w' => exact h.elim
  | ok x w' =>
    cases x <;> first | exact h.elim | exact ⟨_, _, h⟩ | exact calls_ex h

theorem loudW_put {oi oj : Oper} {a : Act} {w : World} {v : Value} {K K' : Act → World → Prop} (hs : ∀ cs b, oj.op ≠ .select cs b)
    (h1 : ∀ d, oi.dst = some d → d ∉ oj.looksAt ops) (h : loudW P oj a w K) (hk : ∀ u w', K (a.put oj.dst u) w' → K' ((a.put oi.dst v).put oj.dst u) w') : loudW P oj (a.put oi.dst v) w K' := by
  unfold loudW at *
  rw [execOp_put oj hs a oi.dst v h1]
  generalize (execOp a.eval oj).run P w = r at *
  cases r with
  | halt x w' => exact h.elim
  | ok x w' =>
    cases x <;> first | exact h.elim | exact hk _ _ h | skip
    exact Calls.mono h (retP_mono fun v w hv => hk v w hv)

theorem loudW_unput {oi oj : Oper} {a : Act} {w : World} {v : Value} {K K' : Act → World → Prop} (hs : ∀ cs b, oj.op ≠ .select cs b)
    (h1 : ∀ d, oi.dst = some d → d ∉ oj.looksAt ops) (h : loudW P oj (a.put oi.dst v) w K) (hk : ∀ u w', K ((a.put oi.dst v).put oj.dst u) w' → K' (a.put oj.dst u) w') : loudW P oj a w K' := by
  unfold loudW at *
  rw [execOp_put oj hs a oi.dst v h1] at h
  generalize (execOp a.eval oj).run P w = r at *
  cases r with
  | halt x w' => exact h.elim
  | ok x w' =>
    cases x <;> first | exact h.elim | exact hk _ _ h | skip
    exact Calls.mono h (retP_mono fun v w hv => hk v w hv)

theorem YH.of_same {o : Oper} {v : Value} {a a' : Act} (hy : YH P C ops o v a) (he : execOp a'.eval o = execOp a.eval o)
    (hw : Region.wanted o (yielded ops a'.tmps) = Region.wanted o (yielded ops a.tmps)) : YH P C ops o v a' := by
  unfold YH at *
  rw [he, hw]
  exact hy

theorem YH.sub {C C' : World → Prop} {o : Oper} {v : Value} {a : Act} (hy : YH P C' ops o v a) (h : ∀ w, C w → C' w) : YH P C ops o v a := by
  rcases hy with ⟨h1, h2⟩ | h1
  · exact .inl ⟨h1, fun w hw => h2 w (hw.imp (h w) id)⟩
  · exact .inr h1

theorem YH.uniq {o : Oper} {v v' : Value} {a : Act} {w : World} (hC : C w) (h : YH P C ops o v a) (h' : YH P C ops o v' a) : v = v' := by
  rcases h with ⟨hw, h⟩ | ⟨hw, rfl⟩ <;> rcases h' with ⟨hw', h'⟩ | ⟨hw', rfl⟩
  · have := (h w (.inl hC)).symm.trans (h' w (.inl hC))
    injection this with this
    injection this
  · rw [hw] at hw'; cases hw'
  · rw [hw] at hw'; cases hw'
  · rfl

/-- What is fixed of the region. -/
structure Held (ops : Array Oper) (b : List Nat) : Prop where
  sel : ∀ (j : Nat) (o : Oper) cs b, ops[j]? = some o → o.op ≠ .select cs b
  on : ∀ (i : Nat) (x : Oper), ops[i]? = some x → ∀ e ∈ x.after, Region.binds .any e = true → e.on < i
  apart : ∀ (i j : Nat) (x y : Oper), ops[i]? = some x → ops[j]? = some y → i < j → (∀ e ∈ y.after, Region.binds .any e = true → e.on ≠ i) → x.apart ops y = true
  chain : ∀ (i j : Nat) (x y : Oper), ops[i]? = some x → ops[j]? = some y → i < j → loudB x = true → loudB y = true → aheadB b j i = true
  ahead : ∀ (j i : Nat), aheadB b j i = true → i < j
  /-- What is ahead of what may come up has come up. -/
  closed : ∀ (listed : Array Bool), (∀ i x, ops[i]? = some x → listed.getD i true = true → ∀ e ∈ x.after, Region.binds .any e = true → listed.getD e.on false = true) →
    ∀ j, j ∈ Region.ready .any ops listed → ∀ i, aheadB b j i = true → listed.getD i false = true

theorem commS (H : Held ops b) {i : Nat} {oi : Oper} (hi : ops[i]? = some oi) (hl : loudB oi = false) {q : List Nat} : ∀ (p : List Nat) (C : World → Prop) (a : Act) (w : World),
    (∀ j ∈ p, j < i ∧ ∀ oj, ops[j]? = some oj → oi.apart ops oj = true ∧ lastB ops.toList b j = false) → C w → Wk P ops b Q (p ++ i :: q) C a w →
    ∃ v, YH P C ops oi v a ∧ Wk P ops b Q (p ++ q) C (a.put oi.dst v) w
  | [], C, a, w, _, hC, h => by
    simp only [List.nil_append, Wk, hi, hOp] at h
    by_cases hw : Region.wanted oi (yielded ops a.tmps) = true
    · simp only [hw, if_true, hl, Bool.false_eq_true, if_false] at h
      obtain ⟨v, h1, h2⟩ := h
      exact ⟨v, .inl ⟨hw, h1⟩, h2⟩
    · simp only [hw] at h
      exact ⟨undef, .inr ⟨by simpa using hw, rfl⟩, h⟩
  | j :: p, C, a, w, hp, hC, h => by
    have hp' : ∀ k ∈ p, k < i ∧ ∀ oj, ops[k]? = some oj → oi.apart ops oj = true ∧ lastB ops.toList b k = false := fun k hk => hp k (List.mem_cons_of_mem _ hk)
    simp only [List.cons_append, Wk] at h
    cases hj : ops[j]? with
    | none => simp only [hj] at h
    | some oj =>
      simp only [hj] at h
      obtain ⟨hap, hlast⟩ := (hp j List.mem_cons_self).2 oj hj
      obtain ⟨h1, h2, h3⟩ := Oper.apart_spec hap
      have hsi := fun cs b' => H.sel i oi cs b' hi
      have hsj := fun cs b' => H.sel j oj cs b' hj
      have back : ∀ u v, YH P C ops oi v (a.put oj.dst u) → YH P C ops oi v a := fun u v hy =>
        hy.of_same (execOp_put oi hsi a oj.dst u h3).symm (wanted_put oi a oj.dst u h3).symm
      simp only [List.cons_append, Wk, hj]
      unfold hOp at h ⊢
      by_cases hw : Region.wanted oj (yielded ops a.tmps) = true
      · simp only [hw, if_true] at h
        by_cases hlj : loudB oj = true
        · simp only [hlj, if_true] at h
          have key : ∀ u w', (∃ C' : World → Prop, (∀ w, C w → C' w) ∧ (freshB ops.toList b j = true ∨ C' = C) ∧ (lastB ops.toList b j = true ∨ C' w') ∧ Wk P ops b Q (p ++ i :: q) C' (a.put oj.dst u) w') →
              ∃ v, YH P C ops oi v a ∧ ∃ C' : World → Prop, (∀ w, C w → C' w) ∧ (freshB ops.toList b j = true ∨ C' = C) ∧ (lastB ops.toList b j = true ∨ C' w') ∧ Wk P ops b Q (p ++ q) C' ((a.put oi.dst v).put oj.dst u) w' := by
            rintro u w' ⟨C', hsub, hfr, hc, hk⟩
            have hC' : C' w' := hc.resolve_left (by simp [hlast])
            obtain ⟨v, hy, hk'⟩ := commS H hi hl p C' _ _ hp' hC' hk
            exact ⟨v, (back u v (hy.sub hsub)), C', hsub, hfr, hc, by rw [Act.put_comm a v u h2]; exact hk'⟩
          obtain ⟨u0, w0, h0⟩ := loudW_ex h
          obtain ⟨v0, hy0, _⟩ := key u0 w0 h0
          refine ⟨v0, hy0, ?_⟩
          have hw' : Region.wanted oj (yielded ops (a.put oi.dst v0).tmps) = true := by rw [wanted_put oj a oi.dst v0 h1]; exact hw
          simp only [hw', if_true, hlj]
          refine loudW_put hsj h1 h fun u w' hk => ?_
          obtain ⟨v, hy, h4⟩ := key u w' hk
          cases hy.uniq hC hy0
          exact h4
        · simp only [hlj] at h
          obtain ⟨u, hu, hk⟩ := h
          obtain ⟨v, hy, hk'⟩ := commS H hi hl p _ _ _ hp' hC hk
          refine ⟨v, back u v hy, ?_⟩
          have hw' : Region.wanted oj (yielded ops (a.put oi.dst v).tmps) = true := by rw [wanted_put oj a oi.dst v h1]; exact hw
          simp only [hw', if_true, hlj]
          exact ⟨u, fun w' hw' => by rw [execOp_put oj hsj a oi.dst v h1]; exact hu w' hw', by rw [Act.put_comm a v u h2]; exact hk'⟩
      · simp only [hw] at h
        obtain ⟨v, hy, hk'⟩ := commS H hi hl p _ _ _ hp' hC h
        refine ⟨v, back _ v hy, ?_⟩
        have hw' : Region.wanted oj (yielded ops (a.put oi.dst v).tmps) = false := by rw [wanted_put oj a oi.dst v h1]; simpa using hw
        simp only [hw', Bool.false_eq_true, if_false]
        rw [Act.put_comm a v undef h2]; exact hk'

theorem commL (H : Held ops b) {i : Nat} {oi : Oper} (hi : ops[i]? = some oi) (hl : loudB oi = true) {q : List Nat} {C : World → Prop} : ∀ (p : List Nat) (a : Act) (w : World),
    (∀ j ∈ p, ∀ oj, ops[j]? = some oj → oi.apart ops oj = true ∧ loudB oj = false) → (p = [] ∨ (lastB ops.toList b i = false ∧ (freshB ops.toList b i = false ∨ ∀ j ∈ p, ∀ oj, ops[j]? = some oj → idleB oj = true))) → Wk P ops b Q (p ++ i :: q) C a w →
    hOp P C ops b i oi (Wk P ops b Q (p ++ q)) a w
  | [], a, w, _, _, h => by
    simpa only [List.nil_append, Wk, hi] using h
  | j :: p, a, w, hp, hlast, h => by
    have hp' : ∀ k ∈ p, ∀ oj, ops[k]? = some oj → oi.apart ops oj = true ∧ loudB oj = false := fun k hk => hp k (List.mem_cons_of_mem _ hk)
    have hlast' : lastB ops.toList b i = false ∧ (freshB ops.toList b i = false ∨ ∀ k ∈ j :: p, ∀ ok, ops[k]? = some ok → idleB ok = true) := hlast.resolve_left (by simp)
    have hlast2 : p = [] ∨ (lastB ops.toList b i = false ∧ (freshB ops.toList b i = false ∨ ∀ k ∈ p, ∀ ok, ops[k]? = some ok → idleB ok = true)) :=
      .inr ⟨hlast'.1, hlast'.2.imp id fun h k hk => h k (List.mem_cons_of_mem _ hk)⟩
    simp only [List.cons_append, Wk] at h
    cases hj : ops[j]? with
    | none => simp only [hj] at h
    | some oj =>
      simp only [hj] at h
      obtain ⟨hap, hlj⟩ := hp j List.mem_cons_self oj hj
      obtain ⟨h1, h2, h3⟩ := Oper.apart_spec hap
      have hsi := fun cs b' => H.sel i oi cs b' hi
      have hsj := fun cs b' => H.sel j oj cs b' hj
      -- the one ahead yields u; the loud one goes first
      have hfr0 : ∀ C', (freshB ops.toList b i = true ∨ C' = C) → (C' = C ∨ idleB oj = true) := fun C' h' => by
        rcases h' with h' | h'
        · rcases hlast'.2 with h2 | h2
          · rw [h'] at h2; cases h2
          · exact .inr (h2 j List.mem_cons_self oj hj)
        · exact .inl h'
      have fin : ∀ u, hOp P C ops b i oi (Wk P ops b Q (p ++ q)) (a.put oj.dst u) w →
          (∀ C' v w', (C' = C ∨ idleB oj = true) → Wk P ops b Q (p ++ q) C' ((a.put oi.dst v).put oj.dst u) w' → Wk P ops b Q (j :: (p ++ q)) C' (a.put oi.dst v) w') →
          hOp P C ops b i oi (Wk P ops b Q (j :: (p ++ q))) a w := by
        intro u hO hB
        unfold hOp at hO ⊢
        rw [wanted_put oi a oj.dst u h3] at hO
        by_cases hw : Region.wanted oi (yielded ops a.tmps) = true
        · simp only [hw, if_true, hl] at hO ⊢
          refine loudW_unput hsi h3 hO fun v w' ⟨C', hsub, hfr, hc, hk⟩ => ?_
          refine ⟨C', hsub, hfr, hc, hB C' v w' (hfr0 C' hfr) ?_⟩
          rw [Act.put_comm a v u h2]; exact hk
        · simp only [hw] at hO ⊢
          refine hB C undef w (.inl rfl) ?_
          rw [Act.put_comm a undef u h2]; exact hO
      unfold hOp at h
      by_cases hw : Region.wanted oj (yielded ops a.tmps) = true
      · simp only [hw, if_true, hlj, Bool.false_eq_true, if_false] at h
        obtain ⟨u, hu, hk⟩ := h
        refine fin u (commL H hi hl p _ _ hp' hlast2 hk) fun C' v w' hcc hk' => ?_
        simp only [Wk, hj]
        unfold hOp
        have hw' : Region.wanted oj (yielded ops (a.put oi.dst v).tmps) = true := by rw [wanted_put oj a oi.dst v h1]; exact hw
        simp only [hw', if_true, hlj, Bool.false_eq_true, if_false]
        refine ⟨u, fun w'' hw'' => ?_, hk'⟩
        rw [execOp_put oj hsj a oi.dst v h1]
        refine hu w'' ?_
        rcases hcc with rfl | hcc
        · exact hw''
        · exact .inr hcc
      · simp only [hw] at h
        refine fin undef (commL H hi hl p _ _ hp' hlast2 h) fun C' v w' _ hk' => ?_
        simp only [Wk, hj]
        unfold hOp
        have hw' : Region.wanted oj (yielded ops (a.put oi.dst v).tmps) = false := by rw [wanted_put oj a oi.dst v h1]; simpa using hw
        simp only [hw', Bool.false_eq_true, if_false]
        exact hk'

theorem wp_of_loudW {o : Oper} {a : Act} {w : World} {K : Act → World → Prop} (h : loudW P o a w K) : o.wp P a w K Q := by
  unfold loudW at h
  unfold Oper.wp
  generalize (execOp a.eval o).run P w = r at h ⊢
  cases r with
  | halt x w' => exact h.elim
  | ok x w' =>
    cases x <;> first | exact h.elim | exact h | skip
    refine Calls.mono h ?_
    intro e w'' he
    cases e with
    | returned v => exact he
    | panicked c => exact he.elim
    | outgrown => exact he.elim

theorem lastB_spec {i k : Nat} {x : Oper} (h : lastB ops.toList b i = true) (hk : ops[k]? = some x) (hx : loudB x = false) : k = i ∨ aheadB b i k = true := by
  unfold lastB at h
  rw [List.all_eq_true] at h
  have := h (x, k) (by rw [List.mem_zipIdx_iff_getElem?]; simpa using hk)
  simp only [hx, Bool.false_or, Bool.or_eq_true] at this
  exact this.imp Nat.eq_of_beq_eq_true id

theorem freshB_spec {i k : Nat} {x : Oper} (h : freshB ops.toList b i = true) (hk : ops[k]? = some x) (hx : loudB x = false) (hki : k < i) : idleB x = true ∨ aheadB b i k = true := by
  unfold freshB at h
  rw [List.all_eq_true] at h
  have := h (x, k) (by rw [List.mem_zipIdx_iff_getElem?]; simpa using hk)
  have hb : Nat.blt k i = true := Nat.ble_eq_true_of_le hki
  simpa [hx, hb, Bool.or_eq_true] using this

theorem held_any (H : Held ops b) : ∀ (n : Nat) (l : List Nat) (listed : Array Bool) (C : World → Prop) (a : Act) (w : World), l.length = n →
    (∀ i, i ∈ l ↔ i < ops.size ∧ listed.getD i true = false) → l.Pairwise (· < ·) →
    (∀ i x, ops[i]? = some x → listed.getD i true = true → ∀ e ∈ x.after, Region.binds .any e = true → listed.getD e.on false = true) →
    (C w ∨ ∀ i ∈ l, ∀ x, ops[i]? = some x → loudB x = true) → Wk P ops b Q l C a w → wpAny P .any ops Q n listed a w := by
  intro n
  induction n with
  | zero =>
    intro l listed C a w hn hmem _ _ _ h
    cases List.eq_nil_of_length_eq_zero hn
    refine ⟨?_, h⟩
    rw [List.eq_nil_iff_forall_not_mem]
    intro j hj
    obtain ⟨h0, o, ho, _⟩ := mem_ready.1 hj
    have := (hmem j).2 ⟨(Array.getElem?_eq_some_iff.1 ho).1, h0⟩
    cases this
  | succ n ih =>
    intro l listed C a w hn hmem hs hcl hC h
    have hsize : ∀ i, i < ops.size → ∃ o, ops[i]? = some o := fun i hi => ⟨ops[i], by simp [hi]⟩
    have hgt : ∀ i : Nat, listed.getD i true = false → i < listed.size := fun i hi => by
      rcases Nat.lt_or_ge i listed.size with h' | h'
      · exact h'
      · simp [Array.getElem?_eq_none h'] at hi
    refine ⟨fun h0 => ?_, fun i hi => ?_⟩
    · -- the first one of l is ready
      exfalso
      match l, hn with
      | i :: l, _ =>
        have hi := (hmem i).1 List.mem_cons_self
        obtain ⟨o, ho⟩ := hsize i hi.1
        have : i ∈ Region.ready .any ops listed := by
          refine mem_ready.2 ⟨hi.2, o, ho, fun e he hb => ?_⟩
          have hlt := H.on i o ho e he hb
          cases hl : listed.getD e.on true with
          | true =>
            rcases Nat.lt_or_ge e.on listed.size with h' | h'
            · simp [h'] at hl ⊢; exact hl
            · have := hgt i hi.2; omega
          | false =>
            have hm := (hmem e.on).2 ⟨by omega, hl⟩
            rcases List.mem_cons.1 hm with rfl | hm
            · omega
            · have := (List.pairwise_cons.1 hs).1 _ hm; omega
        rw [h0] at this
        cases this
    · obtain ⟨hun, oi, hoi, hall⟩ := mem_ready.1 hi
      have hil : i ∈ l := (hmem i).2 ⟨(Array.getElem?_eq_some_iff.1 hoi).1, hun⟩
      obtain ⟨p, q, rfl⟩ := List.append_of_mem hil
      have hpw := List.pairwise_append.1 hs
      have hp_lt : ∀ j ∈ p, j < i := fun j hj => hpw.2.2 j hj i List.mem_cons_self
      have hiq : ∀ j ∈ q, i < j := (List.pairwise_cons.1 hpw.2.1).1
      have hlen : (p ++ q).length = n := by simp at hn ⊢; omega
      have hunp : ∀ j ∈ p, listed.getD j true = false := fun j hj => ((hmem j).1 (List.mem_append_left _ hj)).2
      have hlf : ∀ j, listed.getD j true = false → listed.getD j false = false := fun j hj => by
        have := hgt j hj
        simp [this] at hj ⊢
        exact hj
      have hap : ∀ j ∈ p, ∀ oj, ops[j]? = some oj → oi.apart ops oj = true := fun j hj oj hoj => by
        have h1 := H.apart j i oj oi hoj hoi (hp_lt j hj) (fun e he hb heq => by
          have := hall e he hb
          rw [heq, hlf j (hunp j hj)] at this
          cases this)
        simp only [Oper.apart, Bool.and_eq_true] at h1 ⊢
        refine ⟨?_, ?_⟩
        · cases hd : oi.dst with
          | none => rfl
          | some d =>
            have h2 := h1.2
            simp only [hd] at h2
            simp only [h2, Bool.true_and]
            cases hd' : oj.dst with
            | none => rfl
            | some d' =>
              have h3 := h1.1
              simp only [hd', hd, Bool.and_eq_true] at h3
              have h4 := h3.2
              simp only [bne_iff_ne, ne_eq] at h4 ⊢
              exact fun he => h4 he.symm
        · cases hd' : oj.dst with
          | none => rfl
          | some d' =>
            have h3 := h1.1
            simp only [hd', Bool.and_eq_true] at h3
            exact h3.1
      -- what stands behind i
      have hmem' : ∀ j, j ∈ p ++ q ↔ j < ops.size ∧ (listed.setIfInBounds i true).getD j true = false := fun j => by
        by_cases hij : i = j
        · subst hij
          have hlt := hgt i hun
          constructor
          · intro hj
            rcases List.mem_append.1 hj with hj | hj
            · have := hp_lt _ hj; omega
            · have := hiq _ hj; omega
          · rintro ⟨_, h'⟩
            simp [hlt] at h'
        · rw [getD_set_ne true hij]
          rw [← hmem j]
          simp only [List.mem_append, List.mem_cons]
          constructor
          · rintro (hj | hj)
            · exact .inl hj
            · exact .inr (.inr hj)
          · rintro (hj | rfl | hj)
            · exact .inl hj
            · exact absurd rfl hij
            · exact .inr hj
      have hs' : (p ++ q).Pairwise (· < ·) := List.pairwise_append.2 ⟨hpw.1, (List.pairwise_cons.1 hpw.2.1).2, fun x hx y hy => hpw.2.2 x hx y (List.mem_cons_of_mem _ hy)⟩
      have hcl' : ∀ j x, ops[j]? = some x → (listed.setIfInBounds i true).getD j true = true → ∀ e ∈ x.after, Region.binds .any e = true → (listed.setIfInBounds i true).getD e.on false = true := by
        intro j x hx hj e he hb
        by_cases hij : i = j
        · subst hij
          rw [hoi] at hx
          cases hx
          exact getD_set_true (hall e he hb)
        · rw [getD_set_ne true hij] at hj
          exact getD_set_true (hcl j x hx hj e he hb)
      unfold wpOp
      simp only [hoi]
      by_cases hli : loudB oi = true
      · -- a loud one: what stands ahead of it is still
        have hpl : ∀ j ∈ p, ∀ oj, ops[j]? = some oj → oi.apart ops oj = true ∧ loudB oj = false := fun j hj oj hoj => by
          refine ⟨hap j hj oj hoj, ?_⟩
          cases hlj : loudB oj with
          | false => rfl
          | true =>
            have h1 := H.closed listed hcl i hi j (H.chain j i oj oi hoj hoi (hp_lt j hj) hlj hli)
            rw [hlf j (hunp j hj)] at h1
            cases h1
        have hlast : p = [] ∨ (lastB ops.toList b i = false ∧ (freshB ops.toList b i = false ∨ ∀ j ∈ p, ∀ oj, ops[j]? = some oj → idleB oj = true)) := by
          cases p with
          | nil => exact .inl rfl
          | cons j p =>
            refine .inr ⟨?_, ?_⟩
            rotate_left
            · cases hL : freshB ops.toList b i with
              | false => exact .inl rfl
              | true =>
                refine .inr fun k hk ok hok => ?_
                refine (freshB_spec hL hok (hpl k hk ok hok).2 (hp_lt k hk)).resolve_right fun hah => ?_
                have h1 := H.closed listed hcl i hi k hah
                rw [hlf k (hunp k hk)] at h1
                cases h1
            cases hL : lastB ops.toList b i with
            | false => rfl
            | true =>
              have hjm := (hmem j).1 List.mem_cons_self
              obtain ⟨oj, hoj⟩ := hsize j hjm.1
              rcases lastB_spec hL hoj (hpl j List.mem_cons_self oj hoj).2 with rfl | hah
              · have := hp_lt j List.mem_cons_self; omega
              · have h1 := H.closed listed hcl i hi j hah
                rw [hlf j (hunp j List.mem_cons_self)] at h1
                cases h1
        have hO := commL H hoi hli p a w hpl hlast h
        unfold hOp at hO
        by_cases hw : Region.wanted oi (yielded ops a.tmps) = true
        · simp only [hw, if_true, hli] at hO
          rw [if_pos hw]
          refine .inl (wp_of_loudW ?_)
          have : ∀ a' w', (∃ C' : World → Prop, (∀ w, C w → C' w) ∧ (freshB ops.toList b i = true ∨ C' = C) ∧ (lastB ops.toList b i = true ∨ C' w') ∧ Wk P ops b Q (p ++ q) C' a' w') → wpAny P .any ops Q n (listed.setIfInBounds i true) a' w' := by
            rintro a' w' ⟨C', _, _, hc, hk⟩
            refine ih (p ++ q) _ C' a' w' hlen hmem' hs' hcl' ?_ hk
            rcases hc with hL | hc
            · refine .inr fun k hk x hx => ?_
              cases hlx : loudB x with
              | true => rfl
              | false =>
                rcases lastB_spec hL hx hlx with rfl | hah
                · rw [hoi] at hx; cases hx; rw [hli] at hlx; cases hlx
                · have h1 := H.closed listed hcl i hi k hah
                  have h2 : listed.getD k true = false := by
                    refine ((hmem k).1 ?_).2
                    rcases List.mem_append.1 hk with hk | hk
                    · exact List.mem_append_left _ hk
                    · exact List.mem_append_right _ (List.mem_cons_of_mem _ hk)
                  rw [hlf k h2] at h1
                  cases h1
            · exact .inl hc
          unfold loudW at hO ⊢
          generalize (execOp a.eval oi).run P w = r at hO ⊢
          cases r with
          | halt x w' => exact hO.elim
          | ok x w' =>
            cases x <;> first | exact hO.elim | exact this _ _ hO | skip
            exact Calls.mono hO (retP_mono fun v w hv => this _ _ hv)
        · simp only [hw] at hO
          rw [if_neg hw]
          refine ih (p ++ q) _ C _ w hlen hmem' hs' hcl' ?_ hO
          refine hC.imp id fun hC j hj x hx => hC j ?_ x hx
          rcases List.mem_append.1 hj with hj | hj
          · exact List.mem_append_left _ hj
          · exact List.mem_append_right _ (List.mem_cons_of_mem _ hj)
      · have hli' : loudB oi = false := by simpa using hli
        have hCw : C w := hC.resolve_right fun hC => by
          have := hC i hil oi hoi
          rw [hli'] at this
          cases this
        have hp2 : ∀ j ∈ p, j < i ∧ ∀ oj, ops[j]? = some oj → oi.apart ops oj = true ∧ lastB ops.toList b j = false := fun j hj => by
          refine ⟨hp_lt j hj, fun oj hoj => ⟨hap j hj oj hoj, ?_⟩⟩
          cases hL : lastB ops.toList b j with
          | false => rfl
          | true =>
            have := hp_lt j hj
            rcases lastB_spec hL hoi hli' with rfl | hah
            · omega
            · have := H.ahead j i hah; omega
        obtain ⟨v, hy, hk⟩ := commS H hoi hli' p C a w hp2 hCw h
        have next := ih (p ++ q) (listed.setIfInBounds i true) C (a.put oi.dst v) w hlen hmem' hs' hcl' (.inl hCw) hk
        rcases hy with ⟨hw, hv⟩ | ⟨hw, rfl⟩
        · rw [if_pos hw]
          refine .inl ?_
          unfold Oper.wp
          rw [hv w (.inl hCw)]
          exact next
        · rw [if_neg (by simp [hw])]
          exact next

theorem ancBits_spec {acc : List Nat} {i : Nat} : ∀ {es : List Edge}, (ancBits acc es).testBit i = true → ∃ e ∈ es, Region.binds .any e = true ∧ (e.on = i ∨ (acc.getD e.on 0).testBit i = true)
  | [], h => by simp [ancBits] at h
  | e :: es, h => by
    unfold ancBits at h
    cases hb : Region.binds .any e with
    | false =>
      simp only [hb, cond_false] at h
      obtain ⟨e', he', h'⟩ := ancBits_spec h
      exact ⟨e', List.mem_cons_of_mem _ he', h'⟩
    | true =>
      simp only [hb, cond_true, Nat.testBit_or, Bool.or_eq_true] at h
      rcases h with (h | h) | h
      · refine ⟨e, List.mem_cons_self, hb, .inl ?_⟩
        rw [Nat.testBit_two_pow] at h
        simpa using h
      · exact ⟨e, List.mem_cons_self, hb, .inr h⟩
      · obtain ⟨e', he', h'⟩ := ancBits_spec h
        exact ⟨e', List.mem_cons_of_mem _ he', h'⟩

theorem ancGo_spec : ∀ (l done : List Oper) (acc : List Nat), acc.length = done.length →
    (∀ j i, aheadB acc j i = true → ∃ x, done[j]? = some x ∧ ∃ e ∈ x.after.toList, Region.binds .any e = true ∧ (e.on = i ∨ aheadB acc e.on i = true)) →
    ∀ j i, aheadB (ancGo acc l) j i = true → ∃ x, (done ++ l)[j]? = some x ∧ ∃ e ∈ x.after.toList, Region.binds .any e = true ∧ (e.on = i ∨ aheadB (ancGo acc l) e.on i = true)
  | [], done, acc, _, h, j, i, hj => by simpa [ancGo] using h j i hj
  | o :: l, done, acc, hlen, h, j, i, hj => by
    have := ancGo_spec l (done ++ [o]) (acc ++ [ancBits acc o.after.toList]) (by simp [hlen]) ?_ j i hj
    · simpa [ancGo] using this
    · intro j i hj
      have grow : ∀ k, aheadB acc k i = true → aheadB (acc ++ [ancBits acc o.after.toList]) k i = true := by
        intro k hk
        unfold aheadB at *
        rcases Nat.lt_or_ge k acc.length with hlt | hge
        · simp only [List.getD_eq_getElem?_getD, List.getElem?_append_left hlt] at *; exact hk
        · simp [List.getD_eq_getElem?_getD, List.getElem?_eq_none hge] at hk
      rcases Nat.lt_trichotomy j acc.length with hlt | heq | hgt
      · have hj' : aheadB acc j i = true := by
          unfold aheadB at *
          simpa only [List.getD_eq_getElem?_getD, List.getElem?_append_left hlt] using hj
        obtain ⟨x, hx, e, he, hb, h'⟩ := h j i hj'
        refine ⟨x, ?_, e, he, hb, h'.imp id (grow e.on)⟩
        rw [List.getElem?_append_left (by omega)]; exact hx
      · have hj' : (ancBits acc o.after.toList).testBit i = true := by
          unfold aheadB at hj
          simpa [List.getD_eq_getElem?_getD, heq] using hj
        obtain ⟨e, he, hb, h'⟩ := ancBits_spec hj'
        refine ⟨o, ?_, e, he, hb, h'.imp id (grow e.on)⟩
        rw [heq, hlen]; simp
      · unfold aheadB at hj
        rw [List.getD_eq_getElem?_getD, List.getElem?_eq_none (by simp; omega)] at hj
        simp at hj

theorem held_of {l : List Oper} (h : heldB l (ancGo [] l) = true) : Held l.toArray (ancGo [] l) := by
  simp only [heldB, Bool.and_eq_true] at h
  obtain ⟨hsel, hp⟩ := h
  unfold pairsB at hp
  rw [List.all_eq_true] at hp
  have mem : ∀ {i : Nat} {x : Oper}, l.toArray[i]? = some x → (x, i) ∈ l.zipIdx := fun {i x} hx => by
    rw [List.mem_zipIdx_iff_getElem?]; simpa using hx
  have hon : ∀ (i : Nat) (x : Oper), l.toArray[i]? = some x → ∀ e ∈ x.after, Region.binds .any e = true → e.on < i := fun i x hx e he hb => by
    have h1 := hp (x, i) (mem hx)
    simp only [Bool.and_eq_true, Array.all_eq_true_iff_forall_mem] at h1
    have h2 := h1.1 e he
    simp only [hb, Bool.not_true, Bool.false_or] at h2
    exact blt_lt h2
  have hpair : ∀ (i j : Nat) (x y : Oper), l.toArray[i]? = some x → l.toArray[j]? = some y → i < j →
      ((y.after.any fun e => Region.binds .any e && Nat.beq e.on i) || x.apart l.toArray y) = true ∧ (!loudB x || !loudB y || aheadB (ancGo [] l) j i) = true := fun i j x y hx hy hij => by
    have h1 := hp (x, i) (mem hx)
    simp only [Bool.and_eq_true, List.all_eq_true] at h1
    have h2 := h1.2 (y, j) (mem hy)
    have h3 : Nat.blt i j = true := Nat.ble_eq_true_of_le hij
    simp only [h3, Bool.not_true, Bool.false_or, Bool.and_eq_true] at h2
    exact h2
  have hstep : ∀ j i, aheadB (ancGo [] l) j i = true → ∃ x, l.toArray[j]? = some x ∧ ∃ e ∈ x.after, Region.binds .any e = true ∧ (e.on = i ∨ aheadB (ancGo [] l) e.on i = true) := fun j i hj => by
    obtain ⟨x, hx, e, he, h'⟩ := ancGo_spec l [] [] rfl (fun j i hj => by simp [aheadB] at hj) j i hj
    exact ⟨x, by simpa using hx, e, by simpa using he, h'⟩
  refine ⟨Region.noSelect_spec hsel, hon, ?_, ?_, ?_, ?_⟩
  · intro i j x y hx hy hij hno
    have h1 := (hpair i j x y hx hy hij).1
    rw [Bool.or_eq_true] at h1
    refine h1.resolve_left fun h2 => ?_
    rw [Array.any_eq_true'] at h2
    obtain ⟨e, he, h3⟩ := h2
    simp only [Bool.and_eq_true] at h3
    exact hno e he h3.1 (Nat.eq_of_beq_eq_true h3.2)
  · intro i j x y hx hy hij hlx hly
    have h1 := (hpair i j x y hx hy hij).2
    simpa [hlx, hly] using h1
  · intro j
    induction j using Nat.strongRecOn with
    | _ j ih =>
      intro i hj
      obtain ⟨x, hx, e, he, hb, h'⟩ := hstep j i hj
      have hlt := hon j x hx e he hb
      rcases h' with rfl | h'
      · exact hlt
      · have := ih e.on hlt i h'; omega
  · intro listed hcl
    have key : ∀ j, (∀ x, l.toArray[j]? = some x → ∀ e ∈ x.after, Region.binds .any e = true → listed.getD e.on false = true) → ∀ i, aheadB (ancGo [] l) j i = true → listed.getD i false = true := by
      intro j
      induction j using Nat.strongRecOn with
      | _ j ih =>
        intro hall i hj
        obtain ⟨x, hx, e, he, hb, h'⟩ := hstep j i hj
        have h1 := hall x hx e he hb
        rcases h' with rfl | h'
        · exact h1
        · refine ih e.on (hon j x hx e he hb) (fun y hy e' he' hb' => hcl e.on y hy ?_ e' he' hb') i h'
          rcases Nat.lt_or_ge e.on listed.size with h2 | h2
          · simp [h2] at h1 ⊢; exact h1
          · simp [Array.getElem?_eq_none h2] at h1
    intro j hj i hji
    obtain ⟨_, o, ho, hall⟩ := mem_ready.1 hj
    exact key j (fun x hx e he hb => by rw [ho] at hx; cases hx; exact hall e he hb) i hji

/-- A region that draws its order. -/
theorem wp_region_held {l : List Oper} {id : Nat} {a : Act} {w : World} (hm : P.follows .mixedOrders = true) (hh : heldB l (ancGo [] l) = true) (hC : C w.drew)
    (h : Wk P l.toArray (ancGo [] l) Q (List.range l.length) C a w.drew) : (Code.region id l.toArray true).wp P Q a w := by
  refine wp_region_any hm ?_
  have := held_any (Q := Q) (held_of hh) l.length (List.range l.length) (Array.replicate l.toArray.size false) C a w.drew (by simp) (fun i => by simp; intro h; simp [h])
    List.pairwise_lt_range (fun i x hx hi => by
      have hlt : i < l.length := by
        have := (Array.getElem?_eq_some_iff.1 hx).1
        simpa using this
      simp [hlt] at hi) (.inl hC) h
  simpa using this

end

/-! ## Soundness -/

structure Rel (n : Nat) (E : Env) (a : Act) : Prop where
  defers : a.defers = []
  size : a.tmps.size = n
  at_ : ∀ i, a.tmps.getD i undef = look E i

theorem Rel.eval {n : Nat} {E : Env} {a : Act} (h : Rel n E a) : a.eval = ev E := by
  funext x
  cases x with
  | tmp t => exact h.at_ t
  | const v => rfl
  | global g => rfl
  | func f => rfl

theorem Rel.put {n : Nat} {E : Env} {a : Act} (h : Rel n E a) (dst : Option Tmp) (hd : ∀ d, dst = some d → d < n) (v : Value) : Rel n (putE E dst v) (a.put dst v) := by
  cases dst with
  | none => exact h
  | some d =>
    have hlt := hd d rfl
    refine ⟨h.defers, by simp [Act.put, h.size], fun i => ?_⟩
    simp only [Act.put, putE, look_cons]
    have := h.at_ i
    simp only [Array.getD_eq_getD_getElem?, Array.getElem?_setIfInBounds] at this ⊢
    by_cases hi : d = i
    · subst hi; simp [h.size, hlt]
    · simp [hi, this]

theorem Rel.of_look {n : Nat} {E E' : Env} {a : Act} (h : Rel n E a) (he : ∀ i, look E' i = look E i) : Rel n E' a :=
  ⟨h.defers, h.size, fun i => (h.at_ i).trans (he i).symm⟩

def fitsOps (n : Nat) : List Oper → Bool
  | [] => true
  | o :: l => (match o.dst with | some d => Nat.blt d n | none => true) && fitsOps n l

def fits (n : Nat) : Code → Bool
  | .region _ ops d => fitsOps n ops.toList && (!d || heldB ops.toList (ancGo [] ops.toList))
  | .seq a b => fits n a && fits n b
  | .cond _ x y => fits n x && fits n y
  | .block _ b => fits n b
  | .loop b => fits n b
  | .scope b => fits n b
  | _ => true

section
variable {P : Program} {n : Nat}

def Kn.holds (v : Value) : Kn → Prop
  | .unk => True
  | .undef => v = Go.undef
  | .bool b => v = .bool b

def DOk (D : Dec) (E : Env) : Prop := ∀ i, (kn D i).holds (look E i)

theorem DOk.nil (E : Env) : DOk [] E := fun _ => trivial

theorem DOk.cons {D : Dec} {E : Env} (h : DOk D E) {d : Nat} {k : Kn} (hk : k.holds (look E d)) : DOk ((d, k) :: D) E := by
  intro i
  simp only [kn]
  cases hb : Nat.beq d i with
  | true => cases Nat.eq_of_beq_eq_true hb; exact hk
  | false => exact h i

theorem DOk.put {D : Dec} {E : Env} (h : DOk D E) (dst : Option Tmp) {k : Kn} {v : Value} (hk : k.holds v) : DOk (knPut D dst k) (putE E dst v) := by
  cases dst with
  | none => exact h
  | some d =>
    intro i
    simp only [knPut, putE, kn, look]
    cases hb : Nat.beq d i with
    | true => exact hk
    | false => exact h i

theorem DOk.op {D : Dec} {E : Env} (h : DOk D E) (x : Operand) : (knOp D x).holds (ev E x) := by
  cases x with
  | tmp t => exact h t
  | const v => cases v <;> trivial
  | global g => trivial
  | func f => trivial

theorem opRK_ret {D : Dec} {E : Env} (h : DOk D E) (o : Oper) : (∃ v, (opRK D (ev E) o).1 = .ret v ∧ (opRK D (ev E) o).2.holds v ∧ execOp (ev E) o = pure (.value v)) ∨
    ((opRK D (ev E) o).1 = opR (ev E) o ∧ (opRK D (ev E) o).2 = .unk) := by
  obtain ⟨dst, op, type, pos, after, guard⟩ := o
  cases op with
  | move x => exact .inl ⟨_, rfl, h.op x, rfl⟩
  | assign x => exact .inl ⟨_, rfl, h.op x, rfl⟩
  | pick c x y =>
    have hc := h.op c
    simp only [opRK]
    cases hk : knOp D c with
    | unk => exact .inr ⟨rfl, rfl⟩
    | undef => exact .inr ⟨rfl, rfl⟩
    | bool t =>
      rw [hk] at hc
      have hc' : ev E c = .bool t := hc
      cases t with
      | true => exact .inl ⟨_, rfl, h.op x, by simp only [execOp, hc']; rfl⟩
      | false => exact .inl ⟨_, rfl, h.op y, by simp only [execOp, hc']; rfl⟩
  | _ => exact .inr ⟨rfl, rfl⟩

theorem opRK_sem {D : Dec} {E : Env} (h : DOk D E) (o : Oper) : (opRK D (ev E) o).1.sem = execOp (ev E) o := by
  rcases opRK_ret h o with ⟨v, h1, _, h3⟩ | ⟨h1, _⟩
  · rw [h1, h3]; rfl
  · rw [h1, sem_opR]

theorem loud_of_opW {o : Oper} {r : OpR} {a : Act} {w : World} {K : Act → World → Prop} (ha : r.sem = execOp a.eval o)
    (h : opW P r w fun v w' => K (a.put o.dst v) w') : loudW P o a w K := by
  unfold loudW
  rw [← ha]
  cases r with
  | ret v => exact h
  | val s =>
    obtain ⟨v, w', hr, hk⟩ := h
    simp only [OpR.sem, Sem.run_bind, hr, Result.andThen_ok, Sem.run_pure]
    exact hk
  | unit s =>
    obtain ⟨w', hr, hk⟩ := h
    simp only [OpR.sem, Sem.run_bind, hr, Result.andThen_ok, Sem.run_pure]
    exact hk
  | next s => exact h
  | bad s => exact h.elim

theorem yielded_rel {all : List Oper} {E : Env} {a : Act} (h : Rel n E a) (j : Nat) (hf : fitsOps n all = true) :
    yielded all.toArray a.tmps j = match (all[j]?).bind (·.dst) with
      | some d => (match look E d with | .bool b => some b | _ => none)
      | none => none := by
  unfold yielded
  simp only [List.getElem?_toArray]
  cases hd : (all[j]?).bind (·.dst) with
  | none => rfl
  | some d =>
    have hlt : d < n := by
      clear h
      induction all generalizing j with
      | nil => simp at hd
      | cons o l ih =>
        simp only [fitsOps, Bool.and_eq_true] at hf
        cases j with
        | zero =>
          simp at hd
          simp only [hd] at hf
          exact blt_lt hf.1
        | succ j => exact ih j hf.2 (by simpa using hd)
    have h1 := h.at_ d
    simp only [Array.getD_eq_getD_getElem?] at h1
    simp only [Option.bind_some]
    cases ht : a.tmps[d]? with
    | none =>
      have h2 : d < a.tmps.size := by rw [h.size]; exact hlt
      rw [Array.getElem?_eq_getElem h2] at ht
      cases ht
    | some v =>
      rw [ht] at h1
      simp only [Option.getD_some] at h1
      subst h1
      cases look E d <;> rfl

/-- What a guard asks, in both. -/
theorem gd_wanted {all : List Oper} {o : Oper} {D : Dec} {E : Env} {a : Act} (h : Rel n E a) (hD : DOk D E) (hf : fitsOps n all = true) :
    match gdOf all D o with
    | .yes => Region.wanted o (yielded all.toArray a.tmps) = true
    | .no => Region.wanted o (yielded all.toArray a.tmps) = false
    | .ask d want => ∀ b, look E d = .bool b → Region.wanted o (yielded all.toArray a.tmps) = (b == want) := by
  unfold gdOf Region.wanted
  cases hgd : o.guard with
  | none => rfl
  | some p =>
    obtain ⟨j, want⟩ := p
    simp only []
    rw [yielded_rel h j hf]
    cases hd : (all[j]?).bind (·.dst) with
    | none => rfl
    | some d =>
      simp only []
      have hk := hD d
      cases hkn : kn D d with
      | unk =>
        intro b hb
        simp [hb]
      | undef =>
        rw [hkn] at hk
        have hk' : look E d = Go.undef := hk
        rw [hk']
        rfl
      | bool t =>
        rw [hkn] at hk
        have hk' : look E d = .bool t := hk
        rw [hk']
        cases t <;> cases want <;> rfl

def same (ds : List Nat) (E E' : Env) : Prop := ∀ i, memB i ds = false → look E' i = look E i

theorem same.refl (ds : List Nat) (E : Env) : same ds E E := fun _ _ => rfl
theorem same.trans {ds : List Nat} {E E' E'' : Env} (h : same ds E E') (h' : same ds E' E'') : same ds E E'' := fun i hi => (h' i hi).trans (h i hi)

theorem same_put {o : Oper} {l : List Oper} {E : Env} (v : Value) : same (opDsts (o :: l)) E (putE E o.dst v) := by
  intro i hi
  cases hd : o.dst with
  | none => rfl
  | some d =>
    simp only [opDsts, hd, memB] at hi
    simp only [putE, look_cons]
    cases hb : Nat.beq i d with
    | true => simp [hb] at hi
    | false => rw [if_neg]; rintro rfl; simp at hb

theorem same_cons {o : Oper} {l : List Oper} {E E' : Env} (h : same (opDsts l) E E') : same (opDsts (o :: l)) E E' := by
  intro i hi
  refine h i ?_
  simp only [opDsts] at hi
  cases hd : o.dst with
  | none => simpa [hd] using hi
  | some d =>
    simp only [hd, memB] at hi
    cases hb : Nat.beq i d with
    | true => simp [hb] at hi
    | false => simpa [hb] using hi

theorem vcOps_sound {all : List Oper} {Q : Exit → Act → World → Prop} (hf : fitsOps n all = true) : ∀ (l : List Oper) (k : Env → World → Prop), fitsOps n l = true → ∀ (D : Dec) (E : Env) (a : Act) (w : World), Rel n E a → DOk D E →
    vcOps P all k l D E w → (∀ E' a' w', k E' w' → Rel n E' a' → same (opDsts l) E E' → Q .normal a' w') → wpList P all.toArray Q l a w
  | [], k, _, D, E, a, w, hr, _, h, hq => hq E a w h hr (same.refl _ _)
  | o :: l, k, hl, D, E, a, w, hr, hD, h, hq => by
    simp only [fitsOps, Bool.and_eq_true] at hl
    have hd : ∀ d, o.dst = some d → d < n := fun d hd => by
      have := hl.1
      simp only [hd] at this
      exact blt_lt this
    refine wpList_step fun K hK => ?_
    have fin : ∀ D' v w', DOk D' (putE E o.dst v) → vcOps P all k l D' (putE E o.dst v) w' → K (a.put o.dst v) w' := fun D' v w' hD' hv =>
      hK _ _ (vcOps_sound hf l k hl.2 D' _ _ _ (hr.put o.dst hd v) hD' hv fun E' a' w'' hk hr' hs => hq E' a' w'' hk hr' ((same_put v).trans (same_cons hs)))
    have yes : ∀ D, DOk D E → (opW P (opRK D (ev E) o).1 w fun v w' => vcOps P all k l (knPut D o.dst (opRK D (ev E) o).2) (putE E o.dst v) w') → o.wp P a w K Q := by
      intro D hD hx
      refine wp_of_loudW (loud_of_opW (r := (opRK D (ev E) o).1) (by rw [hr.eval]; exact opRK_sem hD o) ?_)
      rcases opRK_ret hD o with ⟨v, h1, h2, _⟩ | ⟨h1, h2⟩
      · rw [h1] at hx ⊢
        exact fin _ v w (hD.put o.dst h2) hx
      · rw [h1] at hx ⊢
        rw [h2] at hx
        generalize opR (ev E) o = r at hx
        have fin' : ∀ v w', vcOps P all k l (knPut D o.dst .unk) (putE E o.dst v) w' → K (a.put o.dst v) w' := fun v w' hv => fin _ v w' (hD.put o.dst (k := .unk) (v := v) trivial) hv
        cases r with
        | ret v => exact fin' v w hx
        | val s => obtain ⟨v, w', h1, h2⟩ := hx; exact ⟨v, w', h1, fin' v w' h2⟩
        | unit s => obtain ⟨w', h1, h2⟩ := hx; exact ⟨w', h1, fin' _ w' h2⟩
        | next s =>
          simp only [opW, SN] at hx ⊢
          generalize s.run P w = r at hx ⊢
          cases r with
          | halt x w' => exact hx.elim
          | ok x w' =>
            cases x <;> first | exact hx.elim | exact fin' _ _ hx | skip
            exact Calls.mono hx (retP_mono fun v w hv => fin' v w hv)
        | bad s => exact hx.elim
    simp only [vcOps] at h
    have hw := gd_wanted (o := o) hr hD hf
    cases hg : gdOf all D o with
    | yes =>
      simp only [hg] at h hw
      rw [if_pos hw]
      exact yes D hD h
    | no =>
      simp only [hg] at h hw
      rw [if_neg (by simp [hw])]
      exact fin _ _ _ (hD.put o.dst (k := .undef) rfl) h
    | ask d want =>
      simp only [hg, GD] at h hw
      cases hv : look E d with
      | bool b =>
        rw [hv] at h
        have hw' := hw b hv
        by_cases hb : b = want
        · subst hb
          simp only [if_true] at h
          rw [if_pos (by simpa using hw')]
          exact yes _ (hD.cons (k := .bool b) hv) h
        · simp only [hb, if_false] at h
          have hbw : b = !want := not_of_ne hb
          rw [if_neg (by simp [hw', hb])]
          exact fin _ _ _ ((hD.cons (k := .bool (!want)) (by rw [hv, hbw]; rfl)).put o.dst (k := .undef) rfl) h
      | _ => rw [hv] at h; exact h.elim

theorem opRK_idle (D : Dec) (ρ : Operand → Value) (o : Oper) (h : idleB o = true) : ∃ v, (opRK D ρ o).1 = .ret v := by
  unfold idleB at h
  split at h
  · rename_i x hx; exact ⟨ρ x, by simp [opRK, hx]⟩
  · rename_i x hx; exact ⟨ρ x, by simp [opRK, hx]⟩
  · cases h

theorem vcH_sound {all : List Oper} {Q : Exit → Act → World → Prop} {b : List Nat} (hf : fitsOps n all = true) : ∀ (l : List Oper) (i : Nat) (k : Env → World → Prop), (∀ j, l[j]? = all[i + j]?) → fitsOps n l = true →
    ∀ (C : World → Prop) (D : Dec) (E : Env) (a : Act) (w : World), Rel n E a → DOk D E →
    vcH P all b k C i l D E w → (∀ E' a' w', k E' w' → Rel n E' a' → same (opDsts l) E E' → Q .normal a' w') → Wk P all.toArray b Q (List.range' i l.length) C a w
  | [], i, k, _, _, C, D, E, a, w, hr, _, h, hq => hq E a w h hr (same.refl _ _)
  | o :: l, i, k, hil, hl, C, D, E, a, w, hr, hD, h, hq => by
    simp only [fitsOps, Bool.and_eq_true] at hl
    have h0 : all.toArray[i]? = some o := by simpa using (hil 0).symm
    have hil' : ∀ j, l[j]? = all[i + 1 + j]? := fun j => by have := hil (j + 1); simpa [Nat.add_assoc, Nat.add_comm 1 j] using this
    have hd : ∀ d, o.dst = some d → d < n := fun d hd => by
      have := hl.1
      simp only [hd] at this
      exact blt_lt this
    have fin : ∀ C D' v w', DOk D' (putE E o.dst v) → vcH P all b k C (i + 1) l D' (putE E o.dst v) w' → Wk P all.toArray b Q (List.range' (i + 1) l.length) C (a.put o.dst v) w' := fun C D' v w' hD' hv =>
      vcH_sound hf l (i + 1) k hil' hl.2 C D' _ _ _ (hr.put o.dst hd v) hD' hv fun E' a' w'' hk hr' hs => hq E' a' w'' hk hr' ((same_put v).trans (same_cons hs))
    simp only [List.length_cons, List.range'_succ, Wk, h0]
    unfold hOp
    have yes : ∀ D, DOk D E → (opH P C (loudB o) (lastB all b i) (freshB all b i) (opRK D (ev E) o).1 w fun C v w' => vcH P all b k C (i + 1) l (knPut D o.dst (opRK D (ev E) o).2) (putE E o.dst v) w') →
        (if loudB o = true then loudW P o a w (fun a' w' => ∃ C' : World → Prop, (∀ w, C w → C' w) ∧ (freshB all b i = true ∨ C' = C) ∧ (lastB all b i = true ∨ C' w') ∧ Wk P all.toArray b Q (List.range' (i + 1) l.length) C' a' w')
          else ∃ v, (∀ w', (C w' ∨ idleB o = true) → (execOp a.eval o).run P w' = .ok (.value v) w') ∧ Wk P all.toArray b Q (List.range' (i + 1) l.length) C (a.put o.dst v) w) := by
      intro D hD hx
      have hsem : (opRK D (ev E) o).1.sem = execOp a.eval o := by rw [hr.eval]; exact opRK_sem hD o
      have hidle : idleB o = true → ∃ v, (opRK D (ev E) o).1 = .ret v := opRK_idle D (ev E) o
      have fin' : (∃ v, (opRK D (ev E) o).1 = .ret v ∧ (opRK D (ev E) o).2.holds v) ∨ (opRK D (ev E) o).2 = .unk := by
        rcases opRK_ret hD o with ⟨v, h1, h2, _⟩ | ⟨h1, h2⟩
        · exact .inl ⟨v, h1, h2⟩
        · exact .inr h2
      generalize opRK D (ev E) o = rk at hx hsem fin' hidle
      obtain ⟨r, kk⟩ := rk
      simp only at hx hsem fin' hidle
      have hkk : ∀ v, (∀ u, r = .ret u → u = v) → kk.holds v := fun v hu => by
        rcases fin' with ⟨u, h1, h2⟩ | h1
        · rw [← hu u h1]; exact h2
        · rw [h1]; trivial
      by_cases hlo : loudB o = true
      · rw [if_pos hlo]
        simp only [hlo] at hx
        refine loud_of_opW hsem ?_
        have fin2 : ∀ C v w', (∀ u, r = .ret u → u = v) → vcH P all b k C (i + 1) l (knPut D o.dst kk) (putE E o.dst v) w' → Wk P all.toArray b Q (List.range' (i + 1) l.length) C (a.put o.dst v) w' :=
          fun C v w' hu hv => fin C _ v w' (hD.put o.dst (hkk v hu)) hv
        have pack : ∀ C' v w', (∀ w, C w → C' w) → (freshB all b i = true ∨ C' = C) → (lastB all b i = true ∨ C' w') → (∀ u, r = .ret u → u = v) → vcH P all b k C' (i + 1) l (knPut D o.dst kk) (putE E o.dst v) w' →
            ∃ C' : World → Prop, (∀ w, C w → C' w) ∧ (freshB all b i = true ∨ C' = C) ∧ (lastB all b i = true ∨ C' w') ∧ Wk P all.toArray b Q (List.range' (i + 1) l.length) C' (a.put o.dst v) w' :=
          fun C' v w' h1 h2 h3 hu hv => ⟨C', h1, h2, h3, fin2 C' v w' hu hv⟩
        have widen : ∃ kk' : Value → World → Prop, opW P r w kk' ∧ ∀ v w', (∀ u, r = .ret u → u = v) → kk' v w' →
            ∃ C' : World → Prop, (∀ w, C w → C' w) ∧ (freshB all b i = true ∨ C' = C) ∧ (lastB all b i = true ∨ C' w') ∧ Wk P all.toArray b Q (List.range' (i + 1) l.length) C' (a.put o.dst v) w' := by
          cases hL : lastB all b i with
          | true =>
            simp only [hL, opH] at hx
            exact ⟨_, hx, fun v w' hu hv => by simpa only [hL] using pack C v w' (fun _ h => h) (.inr rfl) (.inl hL) hu hv⟩
          | false =>
            cases hF : freshB all b i with
            | false =>
              simp only [hL, hF, opH] at hx
              exact ⟨_, hx, fun v w' hu hv => by simpa only [hL, hF] using pack C v w' (fun _ h => h) (.inr rfl) (.inr hv.1) hu hv.2⟩
            | true =>
              simp only [hL, hF, opH] at hx
              refine ⟨_, hx, fun v w' hu hv => ?_⟩
              obtain ⟨C', h1, h2, h3⟩ := hv
              simpa only [hL, hF] using pack C' v w' h1 (.inl hF) (.inr h2) hu h3
        obtain ⟨kk', hx', fin3⟩ := widen
        clear hx
        cases r with
        | ret v => exact fin3 v w (fun u hu => by injection hu with hu; exact hu.symm) hx'
        | val s => obtain ⟨v, w', h1, h2⟩ := hx'; exact ⟨v, w', h1, fin3 v w' (fun u hu => by cases hu) h2⟩
        | unit s => obtain ⟨w', h1, h2⟩ := hx'; exact ⟨w', h1, fin3 _ w' (fun u hu => by cases hu) h2⟩
        | next s =>
          simp only [opW, SN] at hx' ⊢
          generalize s.run P w = rr at hx' ⊢
          cases rr with
          | halt x w' => exact hx'.elim
          | ok x w' =>
            cases x <;> first | exact hx'.elim | exact fin3 _ _ (fun u hu => by cases hu) hx' | skip
            exact Calls.mono hx' (retP_mono fun v w hv => fin3 v w (fun u hu => by cases hu) hv)
        | bad s => exact hx'.elim
      · rw [if_neg hlo]
        have hlo' : loudB o = false := by simpa using hlo
        simp only [hlo', opH] at hx
        cases r with
        | ret v => exact ⟨v, fun w' _ => by rw [← hsem]; rfl, fin C _ v w (hD.put o.dst (hkk v fun u hu => by injection hu with hu; exact hu.symm)) hx⟩
        | val s =>
          obtain ⟨v, h1, h2⟩ := hx
          refine ⟨v, fun w' hw' => ?_, fin C _ v w (hD.put o.dst (hkk v fun u hu => by cases hu)) h2⟩
          rw [← hsem]
          rcases hw' with hw' | hw'
          · simp only [OpR.sem, Sem.run_bind, h1 w' hw', Result.andThen_ok, Sem.run_pure]
          · obtain ⟨_, h⟩ := hidle hw'; cases h
        | unit s => exact hx.elim
        | next s =>
          obtain ⟨v, h1, h2⟩ := hx
          refine ⟨v, fun w' hw' => ?_, fin C _ v w (hD.put o.dst (hkk v fun u hu => by cases hu)) h2⟩
          rcases hw' with hw' | hw'
          · rw [← hsem]; exact h1 w' hw'
          · obtain ⟨_, h⟩ := hidle hw'; cases h
        | bad s => exact hx.elim
    simp only [vcH] at h
    have hw := gd_wanted (o := o) hr hD hf
    cases hg : gdOf all D o with
    | yes =>
      simp only [hg] at h hw
      rw [if_pos hw]
      exact yes D hD h
    | no =>
      simp only [hg] at h hw
      rw [if_neg (by simp [hw])]
      exact fin C _ _ _ (hD.put o.dst (k := .undef) rfl) h
    | ask d want =>
      simp only [hg, GD] at h hw
      cases hv : look E d with
      | bool b =>
        rw [hv] at h
        have hw' := hw b hv
        by_cases hb : b = want
        · subst hb
          simp only [if_true] at h
          rw [if_pos (by simpa using hw')]
          exact yes _ (hD.cons (k := .bool b) hv) h
        · simp only [hb, if_false] at h
          have hbw : b = !want := not_of_ne hb
          rw [if_neg (by simp [hw', hb])]
          exact fin C _ _ _ ((hD.cons (k := .bool (!want)) (by rw [hv, hbw]; rfl)).put o.dst (k := .undef) rfl) h
      | _ => rw [hv] at h; exact h.elim

theorem memB_addB (i j : Nat) (l : List Nat) : memB i (addB j l) = (Nat.beq i j || memB i l) := by
  unfold addB
  cases h : memB j l with
  | true =>
    simp only [cond_true]
    cases hb : Nat.beq i j with
    | true => rw [Nat.eq_of_beq_eq_true hb, h]; rfl
    | false => rfl
  | false =>
    simp only [cond_false, memB]
    cases Nat.beq i j <;> rfl

theorem memB_unionB (i : Nat) (l m : List Nat) : memB i (unionB l m) = (memB i l || memB i m) := by
  induction l with
  | nil => rfl
  | cons j l ih =>
    simp only [unionB, memB_addB, memB, ih]
    cases Nat.beq i j <;> rfl

theorem same.left {l m : List Nat} {E E' : Env} (h : same l E E') : same (unionB l m) E E' := fun i hi => h i (by rw [memB_unionB] at hi; simp at hi; exact hi.1)
theorem same.right {l m : List Nat} {E E' : Env} (h : same m E E') : same (unionB l m) E E' := fun i hi => h i (by rw [memB_unionB] at hi; simp at hi; exact hi.2)

theorem look_deadE (ζ : Nat → Value) (ds : List Nat) (E : Env) (i : Nat) : look (deadE ζ ds E) i = if memB i ds = true then ζ i else look E i := by
  induction ds with
  | nil => simp [deadE, memB]
  | cons d ds ih =>
    simp only [deadE, look_cons, memB, ih]
    by_cases h : d = i
    · subst h; simp
    · have : Nat.beq i d = false := by
        cases hb : Nat.beq i d
        · rfl
        · exact absurd (Nat.eq_of_beq_eq_true hb).symm h
      simp [h, this]

theorem look_zipE (f : Nat → Value) (us : List Value) : ∀ (ls : List Nat) (m : Nat) (E : Env) (i : Nat), (∀ j, j < ls.length → us.getD (m + j) undef = f (ls.getD j 0)) → look (zipE us m ls E) i = if memB i ls = true then f i else look E i
  | [], m, E, i, _ => by simp [zipE, memB]
  | d :: ds, m, E, i, h => by
    have h0 := h 0 (by simp)
    simp only [Nat.add_zero, List.getD_cons_zero] at h0
    simp only [zipE, look_cons, memB]
    rw [look_zipE f us ds (m + 1) E i (fun j hj => by have := h (j + 1) (by simp; omega); simpa [Nat.add_assoc, Nat.add_comm 1 j] using this)]
    by_cases hd : d = i
    · subst hd; simp; exact h0
    · have : Nat.beq i d = false := by
        cases hb : Nat.beq i d
        · rfl
        · exact absurd (Nat.eq_of_beq_eq_true hb).symm hd
      simp [hd, this]

theorem memB_keepB (L : List Nat) (i : Nat) (l : List Nat) : memB i (keepB L l) = true → memB i l = true := by
  induction l with
  | nil => simp [keepB]
  | cons d l ih =>
    simp only [keepB]
    intro h
    cases hd : memB d L with
    | true =>
      simp only [hd, cond_true, memB] at h
      simp only [memB]
      cases hb : Nat.beq i d with
      | true => rfl
      | false => simp only [hb, cond_false] at h ⊢; exact ih h
    | false =>
      simp only [hd, cond_false] at h
      simp only [memB]
      cases Nat.beq i d <;> simp [ih h]

/-- An environment whose carried values are those that it has, is the same. -/
theorem look_layE {L ds : List Nat} {E E' : Env} (h : same ds E E') (i : Nat) :
    look (layE (keepB L ds) ((keepB L ds).map (look E')) ds (look E') E) i = look E' i := by
  unfold layE
  rw [look_zipE (look E') _ _ 0 _ i (fun j hj => by simp [List.getD_eq_getElem?_getD, hj])]
  split
  · rfl
  · rw [look_deadE]
    split
    · rfl
    · rename_i h1
      exact (h i (by simpa using h1)).symm

theorem same_layE (L ds : List Nat) (us : List Value) (ζ : Nat → Value) (E : Env) : same ds E (layE (keepB L ds) us ds ζ E) := by
  intro i hi
  unfold layE
  have hk : memB i (keepB L ds) = false := by
    cases h : memB i (keepB L ds)
    · rfl
    · rw [memB_keepB L i ds h] at hi; cases hi
  have : ∀ (ls : List Nat) (m : Nat) (E' : Env), memB i ls = false → look (zipE us m ls E') i = look E' i := by
    intro ls
    induction ls with
    | nil => intro m E' _; rfl
    | cons d ls ih =>
      intro m E' h
      simp only [memB] at h
      cases hb : Nat.beq i d with
      | true => simp [hb] at h
      | false =>
        simp only [hb, cond_false] at h
        simp only [zipE, look_cons]
        rw [if_neg (by rintro rfl; simp at hb), ih (m + 1) E' h]
  rw [this _ _ _ hk, look_deadE, if_neg (by simp [hi])]

def toEx : Exit → Option Ex
  | .normal => some .normal
  | .exit id => some (.exit id)
  | .ret => some .ret
  | _ => none

/-- What an exit means in both. -/
def Meets (n : Nat) (ds : List Nat) (E : Env) (Q : Ex → Env → World → Prop) (Q' : Exit → Act → World → Prop) : Prop :=
  (∀ E' a' w', Q .normal E' w' → Rel n E' a' → same ds E E' → Q' .normal a' w') ∧
  (∀ id E' a' w', Q (.exit id) E' w' → Rel n E' a' → same ds E E' → Q' (.exit id) a' w') ∧
  (∀ E' a' w', Q .ret E' w' → Rel n E' a' → same ds E E' → Q' .ret a' w')

theorem vc_sound (hm : P.follows .mixedOrders = true) (L : List Nat) : ∀ (c : Code), fits n c = true → ∀ (Q : Ex → Env → World → Prop) (Q' : Exit → Act → World → Prop) (E : Env) (a : Act) (w : World),
    Rel n E a → Meets n (dsts c) E Q Q' → vc P L c Q E w → c.wp P Q' a w := by
  intro c
  induction c with
  | skip => intro _ Q Q' E a w hr hq h; exact wp_skip (hq.1 _ _ _ h hr (same.refl _ _))
  | label l => intro _ Q Q' E a w hr hq h; exact wp_label (hq.1 _ _ _ h hr (same.refl _ _))
  | region id ops d =>
    intro hf Q Q' E a w hr hq h
    simp only [fits, Bool.and_eq_true] at hf
    cases d with
    | false =>
      have h' : vcOps P ops.toList (Q .normal) ops.toList [] E w := h
      refine wp_region_list ?_
      have := vcOps_sound (P := P) (Q := Q') hf.1 ops.toList (Q .normal) hf.1 [] E a w hr (DOk.nil E) h' (fun E' a' w' hk hr' hs => hq.1 E' a' w' hk hr' hs)
      simpa using this
    | true =>
      obtain ⟨C, hC, h'⟩ := h
      have hB : heldB ops.toList (ancGo [] ops.toList) = true := by simpa using hf.2
      have h2 := vcH_sound (P := P) (Q := Q') hf.1 ops.toList 0 (Q .normal) (fun j => by simp) hf.1 _ [] E a w.drew hr (DOk.nil E) h' (fun E' a' w' hk hr' hs => hq.1 E' a' w' hk hr' hs)
      rw [← List.range_eq_range'] at h2
      have := wp_region_held (id := id) hm hB hC h2
      simpa using this
  | seq x y ihx ihy =>
    intro hf Q Q' E a w hr hq h
    simp only [fits, Bool.and_eq_true] at hf
    refine wp_seq ?_
    simp only [vc] at h
    cases hj : Nat.ble (normals x) 1 with
    | true =>
      simp only [hj, cond_true] at h
      refine ihx hf.1 _ _ E a w hr ⟨?_, ?_, ?_⟩ h
      · intro E' a' w' h1 hr' hs
        refine ihy hf.2 Q Q' E' a' w' hr' ⟨?_, ?_, ?_⟩ h1
        · intro E'' a'' w'' h2 hr'' hs'; exact hq.1 _ _ _ h2 hr'' (hs.left.trans hs'.right)
        · intro id E'' a'' w'' h2 hr'' hs'; exact hq.2.1 _ _ _ _ h2 hr'' (hs.left.trans hs'.right)
        · intro E'' a'' w'' h2 hr'' hs'; exact hq.2.2 _ _ _ h2 hr'' (hs.left.trans hs'.right)
      · intro id E' a' w' h1 hr' hs; exact hq.2.1 _ _ _ _ h1 hr' hs.left
      · intro E' a' w' h1 hr' hs; exact hq.2.2 _ _ _ h1 hr' hs.left
    | false =>
      simp only [hj, cond_false] at h
      obtain ⟨J, hA, hB⟩ := h
      refine ihx hf.1 _ _ E a w hr ⟨?_, ?_, ?_⟩ hA
      · intro E' a' w' h1 hr' hs
        have h2 := hB.at_ ((keepB L (dsts x)).map (look E')) (by simp) (look E') w' h1
        have hl := look_layE (L := L) hs
        refine ihy hf.2 Q Q' _ a' w' (hr'.of_look hl) ⟨?_, ?_, ?_⟩ h2
        · intro E'' a'' w'' h2 hr'' hs'; exact hq.1 _ _ _ h2 hr'' (hs.left.trans (fun i hi => (hs'.right i hi).trans (hl i)))
        · intro id E'' a'' w'' h2 hr'' hs'; exact hq.2.1 _ _ _ _ h2 hr'' (hs.left.trans (fun i hi => (hs'.right i hi).trans (hl i)))
        · intro E'' a'' w'' h2 hr'' hs'; exact hq.2.2 _ _ _ h2 hr'' (hs.left.trans (fun i hi => (hs'.right i hi).trans (hl i)))
      · intro id E' a' w' h1 hr' hs; exact hq.2.1 _ _ _ _ h1 hr' hs.left
      · intro E' a' w' h1 hr' hs; exact hq.2.2 _ _ _ h1 hr' hs.left
  | cond c x y ihx ihy =>
    intro hf Q Q' E a w hr hq h
    simp only [fits, Bool.and_eq_true] at hf
    simp only [vc, CN] at h
    have hc : a.eval c = ev E c := by rw [hr.eval]
    cases hv : ev E c with
    | bool b =>
      rw [hv] at h hc
      cases b with
      | true =>
        refine wp_cond_true hc (ihx hf.1 Q Q' E a w hr ⟨?_, ?_, ?_⟩ h)
        · intro E'' a'' w'' h2 hr'' hs'; exact hq.1 _ _ _ h2 hr'' hs'.left
        · intro id E'' a'' w'' h2 hr'' hs'; exact hq.2.1 _ _ _ _ h2 hr'' hs'.left
        · intro E'' a'' w'' h2 hr'' hs'; exact hq.2.2 _ _ _ h2 hr'' hs'.left
      | false =>
        refine wp_cond_false hc (ihy hf.2 Q Q' E a w hr ⟨?_, ?_, ?_⟩ h)
        · intro E'' a'' w'' h2 hr'' hs'; exact hq.1 _ _ _ h2 hr'' hs'.right
        · intro id E'' a'' w'' h2 hr'' hs'; exact hq.2.1 _ _ _ _ h2 hr'' hs'.right
        · intro E'' a'' w'' h2 hr'' hs'; exact hq.2.2 _ _ _ h2 hr'' hs'.right
    | _ => rw [hv] at h; exact h.elim
  | block id b ih =>
    intro hf Q Q' E a w hr hq h
    refine wp_block (ih hf (inBlockE id Q) _ E a w hr ⟨?_, ?_, ?_⟩ h)
    · intro E'' a'' w'' h2 hr'' hs'; exact hq.1 _ _ _ h2 hr'' hs'
    · intro j E'' a'' w'' h2 hr'' hs'
      simp only [inBlockE] at h2
      show (if j = id then Q' .normal a'' w'' else Q' (.exit j) a'' w'')
      cases hb : Nat.beq j id with
      | true =>
        simp only [hb, cond_true] at h2
        rw [if_pos (Nat.eq_of_beq_eq_true hb)]
        exact hq.1 _ _ _ h2 hr'' hs'
      | false =>
        simp only [hb, cond_false] at h2
        rw [if_neg (by rintro rfl; simp at hb)]
        exact hq.2.1 _ _ _ _ h2 hr'' hs'
    · intro E'' a'' w'' h2 hr'' hs'; exact hq.2.2 _ _ _ h2 hr'' hs'
  | loop b ih =>
    intro hf Q Q' E a w hr hq h
    obtain ⟨I, μ, h0, hround⟩ := h
    let ls := keepB L (dsts b)
    refine wp_loop (fun a' w' => ∃ E', Rel n E' a' ∧ same (dsts b) E E' ∧ I (ls.map (look E')) w') (fun a' w' => μ (ls.map fun i => a'.tmps.getD i undef) w') ⟨E, hr, same.refl _ _, h0⟩ ?_
    rintro a' w' ⟨E', hr', hs', hI⟩
    have h2 := hround.at_ (ls.map (look E')) (by simp [ls]) (look E') w' hI
    have hl := look_layE (L := L) hs'
    have hmu : ∀ (E' : Env) (a' : Act), Rel n E' a' → (ls.map fun i => a'.tmps.getD i undef) = ls.map (look E') := fun E' a' hr' => by
      congr 1; funext i; exact hr'.at_ i
    refine ih hf _ _ _ a' w' (hr'.of_look hl) ⟨?_, ?_, ?_⟩ h2
    · intro E'' a'' w'' h3 hr'' hs''
      refine ⟨⟨E'', hr'', hs'.trans (fun i hi => (hs'' i hi).trans (hl i)), h3.1⟩, ?_⟩
      show μ _ _ < μ _ _
      rw [hmu _ _ hr'', hmu _ _ hr']
      exact h3.2
    · intro id E'' a'' w'' h3 hr'' hs''; exact hq.2.1 _ _ _ _ h3 hr'' (hs'.trans (fun i hi => (hs'' i hi).trans (hl i)))
    · intro E'' a'' w'' h3 hr'' hs''; exact hq.2.2 _ _ _ h3 hr'' (hs'.trans (fun i hi => (hs'' i hi).trans (hl i)))
  | scope b ih =>
    intro hf Q Q' E a w hr hq h
    refine wp_scope_straight (ih hf Q _ E a w hr ⟨?_, ?_, ?_⟩ h)
    · exact hq.1
    · exact hq.2.1
    · exact hq.2.2
  | exit id => intro _ Q Q' E a w hr hq h; exact wp_exit (hq.2.1 _ _ _ _ h hr (same.refl _ _))
  | ret => intro _ Q Q' E a w hr hq h; exact wp_ret (hq.2.2 _ _ _ h hr (same.refl _ _))
  | rangeFunc f ps x y _ _ => intro _ Q Q' E a w hr hq h; exact h.elim
  | goto l => intro _ Q Q' E a w hr hq h; exact h.elim
  | refuse s => intro _ Q Q' E a w hr hq h; exact h.elim
end

/-! ## A function -/

def argE : Nat → List Value → Env
  | _, [] => []
  | i, v :: l => (i, v) :: argE (i + 1) l

/-- A result that lies in memory. -/
def CR (P : Program) (t : TypeId) (a : Value) (w : World) (k : Value → Prop) : Prop := ∃ v, (do loadVar t (← asAddr a) : Sem Value).run P w = .ok v w ∧ k v

def finV : List Value → Value
  | [v] => v
  | vs => .tuple vs.toArray

def resGo (P : Program) (E : Env) (w : World) (k : Value → Prop) : List ResultVar → List Value → Prop
  | [], acc => k (finV acc)
  | .tmp t :: l, acc => resGo P E w k l (acc ++ [look E t])
  | .cell a t :: l, acc => CR P t (look E a) w fun v => resGo P E w k l (acc ++ [v])

def resE (P : Program) (rs : List ResultVar) (E : Env) (w : World) (k : Value → World → Prop) : Prop := resGo P E w (fun v => k v w) rs []

def endE (P : Program) (rs : List ResultVar) (k : Value → World → Prop) : Ex → Env → World → Prop
  | .normal, E, w => resE P rs E w k
  | .ret, E, w => resE P rs E w k
  | _, _, _ => False

theorem look_argE (l : List Value) : ∀ (k i : Nat), look (argE k l) i = if k ≤ i then l.getD (i - k) undef else undef := by
  induction l with
  | nil => intro k i; simp [argE, look]
  | cons v l ih =>
    intro k i
    simp only [argE, look_cons, ih]
    by_cases h : k = i
    · subst h; simp
    · by_cases h1 : k ≤ i
      · have : i - k = (i - (k + 1)) + 1 := by omega
        simp [h, h1, this, show k + 1 ≤ i by omega]
      · simp [h, h1, show ¬ k + 1 ≤ i by omega]

theorem run_bind_dot {α β : Type} (s : Sem α) (f : α → Sem β) (P : Program) (w : World) : (Sem.bind s f).run P w = (s.run P w).andThen fun a w' => (f a).run P w' := Sem.run_bind ..

theorem run_resGo {P : Program} {E : Env} {tmps : Array Value} {w : World} {k : Value → Prop} (f : ResultVar → Sem Value) (hE : ∀ t, tmps.getD t undef = look E t) (hf1 : ∀ t, f (.tmp t) = pure (tmps.getD t undef))
    (hf2 : ∀ a t, f (.cell a t) = do loadVar t (← asAddr (tmps.getD a undef))) : ∀ (rs : List ResultVar) (acc : List Value), resGo P E w k rs acc → ∃ vs, (rs.mapM f).run P w = .ok vs w ∧ k (finV (acc ++ vs))
  | [], acc, h => ⟨[], rfl, by simpa [resGo] using h⟩
  | .tmp t :: rs, acc, h => by
    obtain ⟨vs, h1, h2⟩ := run_resGo f hE hf1 hf2 rs _ h
    refine ⟨look E t :: vs, ?_, by simpa using h2⟩
    simp only [List.mapM_cons, Sem.run_bind, hf1, hE, Sem.run_pure, Result.andThen_ok, h1]
  | .cell a t :: rs, acc, h => by
    obtain ⟨v, h0, h⟩ := h
    obtain ⟨vs, h1, h2⟩ := run_resGo f hE hf1 hf2 rs _ h
    refine ⟨v :: vs, ?_, by simpa using h2⟩
    simp only [List.mapM_cons]
    rw [Sem.run_bind, hf2, hE, h0]
    simp only [Sem.run_bind, Sem.run_pure, Result.andThen_ok, h1]

def resF (tmps : Array Value) : ResultVar → Sem Value
  | .tmp t => pure (tmps.getD t undef)
  | .cell a t => do loadVar t (← asAddr (tmps.getD a undef))

theorem results_resF (fn : Func) (tmps : Array Value) : results fn tmps = (do
    let vs ← fn.results.mapM (resF tmps)
    pure (if h : vs.size = 1 then vs[0] else .tuple vs)) := by
  unfold results
  congr 1

theorem run_results {P : Program} {fn : Func} {n : Nat} {E : Env} {a : Act} {w : World} {k : Value → World → Prop} (hr : Rel n E a) (h : resE P fn.results.toList E w k) :
    ∃ v, (results fn a.tmps).run P w = .ok v w ∧ k v w := by
  unfold resE at h
  rw [results_resF]
  simp only [Array.mapM_eq_mapM_toList, Sem.run_bind]
  simp only [Functor.map, run_bind_dot]
  obtain ⟨vs, h1, h2⟩ := run_resGo (tmps := a.tmps) (resF a.tmps) hr.at_ (fun _ => rfl) (fun _ _ => rfl) _ _ h
  rw [h1]
  match vs, h2 with
  | [], h => exact ⟨_, rfl, h⟩
  | [t], h => exact ⟨_, rfl, h⟩
  | t :: u :: ts, h => exact ⟨_, rfl, h⟩

/-- A call of a function comes to what its code's condition says. -/
theorem calls_of_vc {P : Program} {f : FuncId} {fn : Func} {c : Code} {args : List Value} {w : World} {k : Value → World → Prop} (L : List Nat) (hm : P.follows .mixedOrders = true)
    (hf : P.funcs[f]? = some fn) (hb : fn.body = some c) (hfit : (fits fn.ntmps c && Nat.ble args.length fn.ntmps) = true)
    (h : vc P L c (endE P fn.results.toList k) (argE 0 args) w) : Calls P f args.toArray w (retP k) := by
  simp only [Bool.and_eq_true] at hfit
  have hle : args.length ≤ fn.ntmps := Nat.le_of_ble_eq_true hfit.2
  refine calls_of_wp hf hb ?_
  refine vc_sound (n := fn.ntmps) hm L c hfit.1 _ _ (argE 0 args) _ w ⟨rfl, by simp; omega, fun i => ?_⟩ ⟨?_, ?_, ?_⟩ h
  · rw [look_argE]
    simp only [Array.getD_eq_getD_getElem?, Array.getElem?_append, List.size_toArray, List.getElem?_toArray, Array.getElem?_replicate]
    by_cases hi : i < args.length
    · simp [hi]
    · have h1 : args[i]? = none := by simp; omega
      simp only [hi, if_false, Nat.zero_le, if_true, Nat.sub_zero, List.getD_eq_getElem?_getD, h1]
      split <;> rfl
  · intro E' a' w' h1 hr' _
    obtain ⟨v, h2, h3⟩ := run_results hr' h1
    exact ⟨hr'.defers, v, h2, h3⟩
  · intro id E' a' w' h1; exact h1.elim
  · intro E' a' w' h1 hr' _
    obtain ⟨v, h2, h3⟩ := run_results hr' h1
    exact ⟨hr'.defers, v, h2, h3⟩

/-- The code of a function, or none. -/
def bodyOf (fn : Func) : Code := fn.body.getD .skip

/-- The condition that a function's code comes to. -/
def vcF (P : Program) (fn : Func) (L : List Nat) (args : List Value) (k : Value → World → Prop) (w : World) : Prop :=
  vc P L (bodyOf fn) (endE P fn.results.toList k) (argE 0 args) w

theorem calls_of_vcF {P : Program} {f : FuncId} {fn : Func} {args : List Value} {w : World} {k : Value → World → Prop} (L : List Nat) (hm : P.follows .mixedOrders = true)
    (hf : P.funcs[f]? = some fn) (hfit : (fn.body.isSome && fits fn.ntmps (bodyOf fn) && Nat.ble args.length fn.ntmps) = true)
    (h : vcF P fn L args k w) : Calls P f args.toArray w (retP k) := by
  simp only [Bool.and_eq_true] at hfit
  cases hb : fn.body with
  | none => rw [hb] at hfit; simp at hfit
  | some c =>
    have e : bodyOf fn = c := by simp [bodyOf, hb]
    unfold vcF at h
    rw [e] at h hfit
    exact calls_of_vc L hm hf hb (by simp [hfit.1.2, hfit.2]) h

/-- A call of a named function. -/
theorem sn_call {P : Program} {f : FuncId} {fn : Func} (hf : P.funcs[f]? = some fn) (hn : (fn.name == "runtime.NumGoroutine") = false) (hb : fn.body.isNone = false)
    {args : Array Value} {w : World} {k : Value → World → Prop} (h : Calls P f args w (retP k)) : SN P (callFunc f args) w k := by
  have : (callFunc f args).run P w = .ok (.enter f args) w := by
    unfold callFunc
    show Sem.run P (match P.funcs[f]? with | none => _ | some fn => _) w = _
    rw [hf]
    simp only [hn, hb]
    rfl
  unfold SN
  rw [this]
  exact h

end Go.Sh

namespace Go.Sh
open Go Go.RowKit

/-! ## Texts, numbers -/

/-- A text of these bytes. -/
def str (l : List UInt8) : Value := .string ⟨l.toArray⟩
/-- A struct or an array of these cells. -/
def ag (l : List Value) : Value := .agg l.toArray
/-- A byte. -/
def by_ (b : UInt8) : Value := .int .u8 b.toNat

theorem str_inj {a b : List UInt8} (h : str a = str b) : a = b := by
  unfold str at h
  injection h with h
  injection h with h
  injection h

/-! ## Types: what the program's table says of them -/

/-- A variable of one cell. -/
class One (P : Program) (t : TypeId) : Prop where
  agg : ∀ w, (isAgg t).run P w = .ok false w
  size : ∀ w, (sizeOf t).run P w = .ok 1 w

/-- A variable of n cells: a struct or an array. -/
class Many (P : Program) (t : TypeId) (n : outParam Nat) : Prop where
  agg : ∀ w, (isAgg t).run P w = .ok true w
  size : ∀ w, (sizeOf t).run P w = .ok n w

/-- A slice type, its elements' type and their size. -/
class SlT (P : Program) (t : TypeId) (e : outParam TypeId) (n : outParam Nat) : Prop where
  und : P.underlying t = some (.slice e)
  size : ∀ w, (sizeOf e).run P w = .ok n w

class IsStr (P : Program) (t : TypeId) : Prop where
  und : P.underlying t = some .string

class IsInt (P : Program) (t : TypeId) (k : outParam IntKind) : Prop where
  und : P.underlying t = some (.int k)

class IsBool (P : Program) (t : TypeId) : Prop where
  und : P.underlying t = some .bool

class IsPtr (P : Program) (t : TypeId) : Prop where
  und : ∃ e, P.underlying t = some (.pointer e)

class ArT (P : Program) (t : TypeId) (len : outParam Nat) (e : outParam TypeId) (n : outParam Nat) : Prop where
  und : P.underlying t = some (.array len e)
  size : ∀ w, (sizeOf e).run P w = .ok n w

/-- A struct's field: where it lies. -/
class Fld (P : Program) (s : TypeId) (i : Nat) (off : outParam Nat) : Prop where
  run : ∀ (a : Addr) w, (Instr.fieldAt s (.pointer (some a)) i).run P w = .ok (.pointer (some (a.add off))) w

def zeroB (P : Program) (t : TypeId) : Bool := match P.info? t with | some i => i.zero.isSome | none => false
def zeroOf (P : Program) (t : TypeId) : Value := match P.info? t with | some i => i.zero.getD undef | none => undef

/-- The zero value's cells. -/
class Zer (P : Program) (t : TypeId) (zs : outParam (List Value)) : Prop where
  is : zeroB P t = true
  cells : (zeroOf P t).cells = zs.toArray

theorem run_zero {P : Program} {t : TypeId} (h : zeroB P t = true) (w : World) : (zeroValue t).run P w = .ok (zeroOf P t) w := by
  unfold zeroB at h
  unfold zeroOf
  cases hi : P.info? t with
  | none => simp [hi] at h
  | some i =>
    simp only [hi] at h
    cases hz : i.zero with
    | none => simp [hz] at h
    | some z => simp [zeroValue, typeInfo, hi, hz]

/-! ## Operations that touch no memory -/

def Pu (P : Program) (s : Sem Value) (v : Value) : Prop := ∀ w, s.run P w = .ok v w

theorem SV_pu {P : Program} {s : Sem Value} {v : Value} {w : World} {k : Value → World → Prop} (h : Pu P s v) (hk : k v w) : SV P s w k := ⟨v, w, h w, hk⟩
theorem HV_pu {P : Program} {C : World → Prop} {s : Sem Value} {v : Value} {k : Value → Prop} (h : Pu P s v) (hk : k v) : HV P C s k := ⟨v, fun w _ => h w, hk⟩

theorem beq_dec {α : Type} [DecidableEq α] [BEq α] [LawfulBEq α] (a b : α) : (a == b) = decide (a = b) := by
  by_cases h : a = b
  · simp [h]
  · rw [decide_eq_false h]; simpa using h

section
variable {P : Program}

/-- '==' on two values whose comparison goes by the type. -/
theorem run_eql_by {t : TypeId} {a b : Value} {w : World} {r : Bool} (hb : binOp .eql t a b = do pure (.bool (← Op.equal t a b))) (h : ∀ d, (Op.equalIn (d + 1) t a b).run P w = .ok r w) :
    (binOp .eql t a b).run P w = .ok (.bool r) w := by
  rw [hb, Sem.run_bind, show (Op.equal t a b).run P w = .ok r w from h 9999]; rfl
theorem run_neq_by {t : TypeId} {a b : Value} {w : World} {r : Bool} (hb : binOp .neq t a b = do pure (.bool (!(← Op.equal t a b)))) (h : ∀ d, (Op.equalIn (d + 1) t a b).run P w = .ok r w) :
    (binOp .neq t a b).run P w = .ok (.bool (!r)) w := by
  rw [hb, Sem.run_bind, show (Op.equal t a b).run P w = .ok r w from h 9999]; rfl

theorem Pu.of_pure (v : Value) : Pu P (pure v) v := fun _ => rfl

theorem pu_nil {a : Addr} : Pu P (nilS (.pointer (some a))) (.pointer (some a)) := fun _ => rfl
theorem pu_nil_fn {f : FuncId} {x y : Array Value} : Pu P (nilS (.func (.func f) x y)) (.func (.func f) x y) := fun _ => rfl

theorem pu_fld0 {s : TypeId} {i off g : Nat} [h : Fld P s i off] : Pu P (Instr.fieldAt s (.pointer (some ⟨g, 0, none⟩)) i) (.pointer (some ⟨g, off, none⟩)) := fun w => by
  rw [h.run]; simp only [Addr.add]; split <;> simp_all
theorem pu_fld {s : TypeId} {i off g o : Nat} [h : Fld P s i off] : Pu P (Instr.fieldAt s (.pointer (some ⟨g, o, none⟩)) i) (.pointer (some ⟨g, o + off, none⟩)) := fun w => by
  rw [h.run]; simp only [Addr.add]; split <;> simp_all

theorem pu_ext {vs : Array Value} {i : Nat} {v : Value} (h : vs[i]? = some v) : Pu P (Instr.extract (.tuple vs) i) v := fun w => by
  simp [Instr.extract, h]

theorem pu_len {t ty e n : Nat} [h : SlT P t e n] {a : Option Addr} {l c : Nat} : Pu P (Builtin.len_ #[t] ty #[.slice a l c]) (.int .i64 l) := fun w => by
  simp [Builtin.len_, run_underlying h.und, goInt]
theorem pu_len_str {t ty : Nat} [h : IsStr P t] {l : List UInt8} : Pu P (Builtin.len_ #[t] ty #[str l]) (.int .i64 l.length) := fun w => by
  simp [Builtin.len_, run_underlying h.und, goInt, str]; rfl

theorem pu_add {t : TypeId} {k : IntKind} {a b : Int} : Pu P (binOp .add t (.int k a) (.int k b)) (.int k (k.wrap (a + b))) := fun w => by simp [binOp, Op.intArith]
theorem pu_sub {t : TypeId} {k : IntKind} {a b : Int} : Pu P (binOp .sub t (.int k a) (.int k b)) (.int k (k.wrap (a - b))) := fun w => by simp [binOp, Op.intArith]
theorem pu_mul {t : TypeId} {k : IntKind} {a b : Int} : Pu P (binOp .mul t (.int k a) (.int k b)) (.int k (k.wrap (a * b))) := fun w => by simp [binOp, Op.intArith]

theorem wrap_i64 {n : Int} (h : -9223372036854775808 ≤ n ∧ n ≤ 9223372036854775807) : IntKind.i64.wrap n = n := by
  obtain ⟨h1, h2⟩ := h
  rw [IntKind.wrap_i64]; omega

theorem pu_add64 {t : TypeId} {a b : Int} (h : -9223372036854775808 ≤ a + b ∧ a + b ≤ 9223372036854775807) : Pu P (binOp .add t (.int .i64 a) (.int .i64 b)) (.int .i64 (a + b)) := fun w => by
  rw [pu_add w, wrap_i64 h]
theorem pu_sub64 {t : TypeId} {a b : Int} (h : -9223372036854775808 ≤ a - b ∧ a - b ≤ 9223372036854775807) : Pu P (binOp .sub t (.int .i64 a) (.int .i64 b)) (.int .i64 (a - b)) := fun w => by
  rw [pu_sub w, wrap_i64 h]
theorem pu_mul64 {t : TypeId} {a b : Int} (h : -9223372036854775808 ≤ a * b ∧ a * b ≤ 9223372036854775807) : Pu P (binOp .mul t (.int .i64 a) (.int .i64 b)) (.int .i64 (a * b)) := fun w => by
  rw [pu_mul w, wrap_i64 h]
theorem pu_quo64 {t : TypeId} {a b : Int} (ha : 0 ≤ a ∧ a ≤ 9223372036854775807) (hb : 0 < b) : Pu P (binOp .quo t (.int .i64 a) (.int .i64 b)) (.int .i64 (a / b)) := fun w => by
  have hne : b ≠ 0 := by omega
  have h1 : a.tdiv b = a / b := Int.tdiv_eq_ediv_of_nonneg ha.1
  have h2 : 0 ≤ a / b := Int.ediv_nonneg ha.1 (by omega)
  have h3 : a / b ≤ a := Int.ediv_le_self _ ha.1
  simp only [binOp, Op.intDiv, hne]
  simp only [ne_eq, not_true_eq_false, if_false, h1]
  rw [wrap_i64 (by omega)]
  rfl
theorem pu_rem64 {t : TypeId} {a b : Int} (ha : 0 ≤ a) (hb : 0 < b) : Pu P (binOp .rem t (.int .i64 a) (.int .i64 b)) (.int .i64 (a % b)) := fun w => by
  have hne : b ≠ 0 := by omega
  have h1 : a.tmod b = a % b := Int.tmod_eq_emod_of_nonneg ha
  simp only [binOp, Op.intDiv, hne]
  simp only [ne_eq, not_true_eq_false, if_false, h1]
  rfl

theorem pu_lss {t : TypeId} {k : IntKind} {a b : Int} : Pu P (binOp .lss t (.int k a) (.int k b)) (.bool (decide (a < b))) := fun w => by simp [binOp, Op.intCmp]
theorem pu_leq {t : TypeId} {k : IntKind} {a b : Int} : Pu P (binOp .leq t (.int k a) (.int k b)) (.bool (decide (a ≤ b))) := fun w => by simp [binOp, Op.intCmp]
theorem pu_gtr {t : TypeId} {k : IntKind} {a b : Int} : Pu P (binOp .gtr t (.int k a) (.int k b)) (.bool (decide (b < a))) := fun w => by simp [binOp, Op.intCmp]
theorem pu_geq {t : TypeId} {k : IntKind} {a b : Int} : Pu P (binOp .geq t (.int k a) (.int k b)) (.bool (decide (b ≤ a))) := fun w => by simp [binOp, Op.intCmp]
theorem pu_eql {t : TypeId} {k : IntKind} {a b : Int} {x y : Operand} : Pu P (eqS .eql t x y (.int k a) (.int k b)) (.bool (decide (a = b))) := fun w => by
  simp only [eqS, eqGuard_at_int, binOp_eql]; simp [beq_dec]
theorem pu_neq {t : TypeId} {k : IntKind} {a b : Int} {x y : Operand} : Pu P (eqS .neq t x y (.int k a) (.int k b)) (.bool (decide (a ≠ b))) := fun w => by
  simp only [eqS, eqGuard_at_int, binOp_neq]; simp [bne, beq_dec]
theorem pu_eqlb {t : TypeId} [h : IsBool P t] {a b : Bool} {x y : Operand} : Pu P (eqS .eql t x y (.bool a) (.bool b)) (.bool (decide (a = b))) := fun w => by
  simp only [eqS, eqGuard_at_bool, Sem.run_bind, Sem.run_pure, Result.andThen_ok, run_eql_bool w t a b h.und]; congr
theorem pu_neqb {t : TypeId} [h : IsBool P t] {a b : Bool} {x y : Operand} : Pu P (eqS .neq t x y (.bool a) (.bool b)) (.bool (decide (a ≠ b))) := fun w => by
  simp only [eqS, eqGuard_at_bool, Sem.run_bind, Sem.run_pure, Result.andThen_ok, run_neq_bool w t a b h.und]; cases a <;> cases b <;> rfl
theorem toList_str (l : List UInt8) : (ByteArray.mk l.toArray).toList = l := ByteArray.toList_mk l
theorem pu_eqls {t : TypeId} {a b : List UInt8} {x y : Operand} : Pu P (eqS .eql t x y (str a) (str b)) (.bool (decide (a = b))) := fun w => by
  simp only [eqS, str, eqGuard_at_string, binOp_string_eql, toList_str]; simp [beq_dec]
theorem pu_neqs {t : TypeId} {a b : List UInt8} {x y : Operand} : Pu P (eqS .neq t x y (str a) (str b)) (.bool (decide (a ≠ b))) := fun w => by
  simp only [eqS, str, eqGuard_at_string, binOp_string_neq, toList_str]; simp [beq_dec]
theorem eq_np {t : TypeId} [h : IsPtr P t] (w : World) (d : Nat) : (Op.equalIn (d + 1) t (.pointer none) (.pointer none)).run P w = .ok true w := by
  obtain ⟨e, he⟩ := h.und
  simp [Op.equalIn, run_underlying he]
theorem eq_pp {t : TypeId} [h : IsPtr P t] (a : Addr) (w : World) (d : Nat) : (Op.equalIn (d + 1) t (.pointer (some a)) (.pointer none)).run P w = .ok false w := by
  obtain ⟨e, he⟩ := h.und
  simp [Op.equalIn, run_underlying he]
theorem pu_eql_np {t : TypeId} [IsPtr P t] {x y : Operand} : Pu P (eqS .eql t x y (.pointer none) (.pointer none)) (.bool true) := fun w => by
  simp only [eqS, eqGuard_at_pointer]; exact run_eql_by rfl (eq_np w)
theorem pu_eql_pp {t : TypeId} [IsPtr P t] {a : Addr} {x y : Operand} : Pu P (eqS .eql t x y (.pointer (some a)) (.pointer none)) (.bool false) := fun w => by
  simp only [eqS, eqGuard_at_pointer]; exact run_eql_by rfl (eq_pp a w)
theorem pu_neq_np {t : TypeId} [IsPtr P t] {x y : Operand} : Pu P (eqS .neq t x y (.pointer none) (.pointer none)) (.bool false) := fun w => by
  simp only [eqS, eqGuard_at_pointer]; exact run_neq_by rfl (eq_np w)
theorem pu_neq_pp {t : TypeId} [IsPtr P t] {a : Addr} {x y : Operand} : Pu P (eqS .neq t x y (.pointer (some a)) (.pointer none)) (.bool true) := fun w => by
  simp only [eqS, eqGuard_at_pointer]; exact run_neq_by rfl (eq_pp a w)

theorem pu_adds {t : TypeId} {a b : List UInt8} (h : a.length + b.length ≤ 9223372036854775807) : Pu P (binOp .add t (str a) (str b)) (str (a ++ b)) := fun w => by
  have hs : ∀ l : List UInt8, (ByteArray.mk l.toArray).size = l.length := fun l => by simp [ByteArray.size]
  have hlt : ¬ (9223372036854775807 < (((ByteArray.mk a.toArray).size + (ByteArray.mk b.toArray).size : Nat) : Int)) := by rw [hs, hs]; omega
  have e : (ByteArray.mk a.toArray ++ ByteArray.mk b.toArray) = ByteArray.mk (a ++ b).toArray := by
    apply ByteArray.ext
    simp [ByteArray.data_append]
  simp only [str, binOp, Op.stringOp, IntKind.max_i64, gt_iff_lt]
  rw [if_neg hlt, e]
  rfl
theorem pu_not {b : Bool} : Pu P (Op.unary .not (.bool b)) (.bool (!b)) := fun w => by simp [Op.unary]
theorem pu_conv {s d : TypeId} {ks kd k : IntKind} [hs : IsInt P s ks] [hd : IsInt P d kd] {n : Int} : Pu P (convert s d (.int k n)) (.int kd (kd.wrap n)) := fun w => by
  simp [convert, run_underlying hs.und, run_underlying hd.und, Conv.intToInt]
theorem pu_pick {b : Bool} {x y : Value} : Pu P (do pure (if ← asBool (.bool b) then x else y)) (if b then x else y) := fun w => by simp [asBool]
theorem pu_pickt {x y : Value} : Pu P (do pure (if ← asBool (.bool true) then x else y)) x := fun w => by simp [asBool]
theorem pu_pickf {x y : Value} : Pu P (do pure (if ← asBool (.bool false) then x else y)) y := fun w => by simp [asBool]
theorem pu_fn {fn : Fn} {x y : Array Value} : Pu P (Instr.makeFunc fn x y) (.func fn x y) := fun w => by simp [Instr.makeFunc]
theorem pu_max {ts : Array TypeId} {t : TypeId} {k k' : IntKind} {x y : Int} : Pu P (Builtin.max_ ts t #[.int k x, .int k' y]) (.int k (max x y)) := fun w => by
  rw [run_max_int2]; congr 2; omega
theorem pu_min {ts : Array TypeId} {t : TypeId} {k k' : IntKind} {x y : Int} : Pu P (Builtin.min_ ts t #[.int k x, .int k' y]) (.int k (min x y)) := fun w => by
  rw [run_min_int2]; congr 2; omega
theorem pu_idxs {t : TypeId} [h : IsStr P t] {l : List UInt8} {k : IntKind} {i : Int} {b : UInt8} (h0 : 0 ≤ i) (hb : l[i.toNat]? = some b) : Pu P (Instr.index t (str l) (.int k i)) (by_ b) := fun w => by
  have e : (ByteArray.mk l.toArray)[i.toNat]? = some b := by
    obtain ⟨hlt, he⟩ := List.getElem?_eq_some_iff.1 hb
    rw [ByteArray.getElem?_lt' _ _ (by simpa [ByteArray.size] using hlt)]
    congr 1
  simp [Instr.index, str, run_underlying h.und, asIntOf, h0, e, by_]
end

/-! ## Tests -/

theorem CN_true {X Y : Prop} {p : Prop} [Decidable p] (h : p) (hx : X) : CN (.bool (decide p)) X Y := by rw [decide_eq_true h]; exact hx
theorem CN_false {X Y : Prop} {p : Prop} [Decidable p] (h : ¬ p) (hy : Y) : CN (.bool (decide p)) X Y := by rw [decide_eq_false h]; exact hy
theorem CN_split {X Y : Prop} {p : Prop} [Decidable p] (hx : p → X) (hy : ¬ p → Y) : CN (.bool (decide p)) X Y := by
  by_cases h : p
  · exact CN_true h (hx h)
  · exact CN_false h (hy h)
theorem CN_bool {X Y : Prop} {b : Bool} (hx : b = true → X) (hy : b = false → Y) : CN (.bool b) X Y := by
  cases b
  · exact hy rfl
  · exact hx rfl
theorem CN_not {X Y : Prop} {b : Bool} (h : CN (.bool b) Y X) : CN (.bool (!b)) X Y := by cases b <;> exact h
theorem GD_split {X Y : Prop} {p : Prop} [Decidable p] (hx : p → X) (hy : ¬ p → Y) : GD (.bool (decide p)) true X Y := by
  unfold GD
  by_cases h : p
  · rw [decide_eq_true h]; exact hx h
  · rw [decide_eq_false h]; exact hy h
theorem GD_splitf {X Y : Prop} {p : Prop} [Decidable p] (hx : ¬ p → X) (hy : p → Y) : GD (.bool (decide p)) false X Y := by
  unfold GD
  by_cases h : p
  · rw [decide_eq_true h]; exact hy h
  · rw [decide_eq_false h]; exact hx h
theorem GD_true {X Y : Prop} {p : Prop} [Decidable p] (h : p) (hx : X) : GD (.bool (decide p)) true X Y := GD_split (fun _ => hx) (fun h' => absurd h h')
theorem GD_true' {X Y : Prop} {p : Prop} [Decidable p] (h : ¬ p) (hy : Y) : GD (.bool (decide p)) true X Y := GD_split (fun h' => absurd h' h) (fun _ => hy)
theorem GD_false {X Y : Prop} {p : Prop} [Decidable p] (h : ¬ p) (hx : X) : GD (.bool (decide p)) false X Y := GD_splitf (fun _ => hx) (fun h' => absurd h' h)
theorem GD_false' {X Y : Prop} {p : Prop} [Decidable p] (h : p) (hy : Y) : GD (.bool (decide p)) false X Y := GD_splitf (fun h' => absurd h h') (fun _ => hy)
theorem GD_tt {X Y : Prop} (h : X) : GD (.bool true) true X Y := h
theorem GD_ff {X Y : Prop} (h : X) : GD (.bool false) false X Y := h
theorem GD_tf {X Y : Prop} (h : Y) : GD (.bool true) false X Y := h
theorem GD_ft {X Y : Prop} (h : Y) : GD (.bool false) true X Y := h
theorem GD_bool {X Y : Prop} {b c : Bool} (hx : b = c → X) (hy : b = !c → Y) : GD (.bool b) c X Y := by
  unfold GD
  by_cases h : b = c
  · simp only [h, if_true]; exact hx h
  · simp only [h, if_false]; exact hy (not_of_ne h)

/-! ## Calls -/

theorem Calls.ret_mono {P : Program} {f : FuncId} {args : Array Value} {w : World} {k k' : Value → World → Prop} (h : Calls P f args w (retP k)) (hk : ∀ v w', k v w' → k' v w') : Calls P f args w (retP k') :=
  h.mono (retP_mono hk)

theorem SN_fn {P : Program} {f : FuncId} {x y args : Array Value} {w : World} {k : Value → World → Prop} (h : SN P (callFunc f (x ++ args ++ y)) w k) : SN P (callV (.func (.func f) x y) args) w k := h

/-! ## Worlds -/

/-- Of the blocks that were there only those of S may have turned; no block has gone. -/
structure Ch (S : Nat → Prop) (w w' : World) : Prop where
  os : w'.os = w.os
  tape : w'.tape = w.tape
  output : w'.output = w.output
  size : w.heap.size ≤ w'.heap.size
  block : ∀ k, k < w.heap.size → ¬ S k → w'.heap[k]? = w.heap[k]?

def No : Nat → Prop := fun _ => False

theorem Ch.refl {S : Nat → Prop} (w : World) : Ch S w w := ⟨rfl, rfl, rfl, Nat.le_refl _, fun _ _ _ => rfl⟩
theorem Ch.drew {S : Nat → Prop} (w : World) : Ch S w w.drew := ⟨rfl, rfl, rfl, Nat.le_refl _, fun _ _ _ => rfl⟩
theorem Ch.trans {S : Nat → Prop} {a b c : World} (h : Ch S a b) (k : Ch S b c) : Ch S a c :=
  ⟨k.os.trans h.os, k.tape.trans h.tape, k.output.trans h.output, Nat.le_trans h.size k.size, fun i hi hs => (k.block i (Nat.lt_of_lt_of_le hi h.size) hs).trans (h.block i hi hs)⟩
theorem Ch.mono {S T : Nat → Prop} {w w' : World} (h : Ch S w w') (hS : ∀ k, k < w.heap.size → S k → T k) : Ch T w w' := ⟨h.os, h.tape, h.output, h.size, fun k hk ht => h.block k hk fun hs => ht (hS k hk hs)⟩
theorem Ch.no {T : Nat → Prop} {w w' : World} (h : Ch No w w') : Ch T w w' := h.mono fun _ _ h => h.elim
/-- What was new before, may have turned. -/
theorem Ch.trans' {S T : Nat → Prop} {a b c : World} (h : Ch S a b) (k : Ch T b c) (hT : ∀ i, i < a.heap.size → T i → S i) : Ch S a c :=
  ⟨k.os.trans h.os, k.tape.trans h.tape, k.output.trans h.output, Nat.le_trans h.size k.size, fun i hi hs => (k.block i (Nat.lt_of_lt_of_le hi h.size) (fun ht => hs (hT i hi ht))).trans (h.block i hi hs)⟩
theorem Ch.below {w w' : World} (h : Ch No w w') : Below w.heap.size w w' := ⟨h.os, h.tape, h.output, h.size, fun k hk => h.block k hk fun h => h⟩
theorem Ch.of_below {w w' : World} (h : Below w.heap.size w w') : Ch No w w' := ⟨h.os, h.tape, h.output, h.size, fun k hk _ => h.block k hk⟩
theorem Ch.alloc {S : Nat → Prop} (w : World) (o : Obj) : Ch S w (w.alloc o) := ⟨rfl, rfl, rfl, by simp, fun k hk _ => Below.heap_alloc w o k hk⟩
theorem Ch.grown {w w' : World} {row : Option Nat} (h : w.grownBy w' row) : Ch (fun k => row = some k) w w' := ⟨h.os, h.tape, h.output, h.size, fun k hk hs => h.block k hk fun e => hs e.symm⟩

/-- A block that is known whole. -/
def Blk (w : World) (g : Nat) (t : TypeId) (cs : List Value) : Prop := w.heap[g]? = some (.cells cs.toArray t (0, 0))

section
variable {P : Program} {w w' : World} {g : Nat} {t : TypeId} {cs : List Value} {S : Nat → Prop}

theorem Blk.lt (h : Blk w g t cs) : g < w.heap.size := by
  rcases Nat.lt_or_ge g w.heap.size with hlt | hge
  · exact hlt
  · unfold Blk at h; rw [Array.getElem?_eq_none hge] at h; cases h
theorem Blk.ch (h : Blk w g t cs) (hc : Ch S w w') (hS : ¬ S g) : Blk w' g t cs := (hc.block g h.lt hS).trans h
theorem Blk.no (h : Blk w g t cs) (hc : Ch No w w') : Blk w' g t cs := h.ch hc fun h => h
theorem Blk.drew (h : Blk w g t cs) : Blk w.drew g t cs := h
theorem Blk.ne {g' : Nat} {t' : TypeId} {cs' : List Value} (h : Blk w g t cs) (h' : Blk w g' t' cs') (hne : t ≠ t') : g ≠ g' := by
  rintro rfl
  unfold Blk at h h'
  rw [h] at h'
  injection h' with h'
  injection h' with _ ht
  exact hne ht
/-- A block that came later is another. -/
theorem Blk.ne' {g' : Nat} {t' : TypeId} {cs' : List Value} {w0 : World} (_ : Blk w g t cs) (h' : Blk w0 g' t' cs') (hge : w0.heap.size ≤ g) : g ≠ g' := by
  have := h'.lt
  omega
theorem Blk.inj {cs' : List Value} {t' : TypeId} (h : Blk w g t cs) (h' : Blk w g t' cs') : t = t' ∧ cs = cs' := by
  unfold Blk at h h'
  rw [h] at h'
  injection h' with h'
  injection h' with hc ht
  exact ⟨ht, by simpa using hc⟩
theorem Blk.cell (h : Blk w g t cs) (i : Nat) : w.cell? ⟨g, i, none⟩ = cs[i]? := by
  rw [cell_of_row w g i _ t (0, 0) h]; simp
theorem Blk.new (w : World) (t : TypeId) (cs : List Value) : Blk (w.alloc (.cells cs.toArray t)) w.heap.size t cs := heap_alloc_new w _

theorem run_load1 {ty : TypeId} [h1 : One P ty] {a : Addr} {v : Value} (h : w.cell? a = some v) : (Instr.loadAt ty (.pointer (some a))).run P w = .ok v w := by
  simp only [Instr.loadAt, Instr.sureAddr, Sem.run_bind, Sem.run_pure, Result.andThen_ok, loadVar, h1.agg]
  simp [load, Sem.run, h]

theorem SV_load {ty : TypeId} [One P ty] {o : Nat} {v : Value} {k : Value → World → Prop} (h : Blk w g t cs) (hv : cs[o]? = some v) (hk : k v w) : SV P (Instr.loadAt ty (.pointer (some ⟨g, o, none⟩))) w k :=
  ⟨v, w, run_load1 ((h.cell o).trans hv), hk⟩

theorem run_loadN {ty n : TypeId} [h1 : Many P ty n] {a : Addr} {vs : List Value} (hl : vs.length = n) (h : ∀ j v, vs[j]? = some v → w.cell? (a.add j) = some v) : (Instr.loadAt ty (.pointer (some a))).run P w = .ok (ag vs) w := by
  have := run_loadCells_list (P := P) w a vs h
  rw [hl] at this
  simp only [Instr.loadAt, Instr.sureAddr, Sem.run_bind, Sem.run_pure, Result.andThen_ok, loadVar, h1.agg, h1.size, if_true, this]
  rfl

theorem Blk.cells (h : Blk w g t cs) {o n : Nat} {vs : List Value} (hv : (cs.drop o).take n = vs) : ∀ j v, vs[j]? = some v → w.cell? ((⟨g, o, none⟩ : Addr).add j) = some v := by
  intro j v hj
  rw [Addr.add_lit, h.cell]
  subst hv
  rw [List.getElem?_take] at hj
  split at hj
  · rwa [List.getElem?_drop] at hj
  · cases hj

theorem SV_loadN {ty n : TypeId} [Many P ty n] {o : Nat} {vs : List Value} {k : Value → World → Prop} (h : Blk w g t cs) (hv : (cs.drop o).take n = vs) (hl : vs.length = n) (hk : k (ag vs) w) :
    SV P (Instr.loadAt ty (.pointer (some ⟨g, o, none⟩))) w k :=
  ⟨_, w, run_loadN hl (h.cells hv), hk⟩
/-- A whole block. -/
theorem SV_loadB {ty n : TypeId} [Many P ty n] {k : Value → World → Prop} (h : Blk w g t cs) (hl : cs.length = n) (hk : k (ag cs) w) :
    SV P (Instr.loadAt ty (.pointer (some ⟨g, 0, none⟩))) w k :=
  SV_loadN h (by simp [← hl]) hl hk

/-- The worlds in which only blocks of S have turned since w. -/
def Kp (S : Nat → Prop) (w : World) : World → Prop := fun w' => Ch S w w'

theorem HR_kp {F : (World → Prop) → World → Prop} (S : Nat → Prop) (h : F (Kp S w) w.drew) : HR w F := ⟨Kp S w, Ch.drew w, h⟩

theorem HV_load {ty : TypeId} [One P ty] {o : Nat} {v : Value} {k : Value → Prop} (h : Blk w g t cs) (hS : ¬ S g) (hv : cs[o]? = some v) (hk : k v) : HV P (Kp S w) (Instr.loadAt ty (.pointer (some ⟨g, o, none⟩))) k :=
  ⟨v, fun _ hw => run_load1 (((h.ch hw hS).cell o).trans hv), hk⟩
theorem HV_loadN {ty n : TypeId} [Many P ty n] {o : Nat} {vs : List Value} {k : Value → Prop} (h : Blk w g t cs) (hS : ¬ S g) (hv : (cs.drop o).take n = vs) (hl : vs.length = n) (hk : k (ag vs)) :
    HV P (Kp S w) (Instr.loadAt ty (.pointer (some ⟨g, o, none⟩))) k :=
  ⟨_, fun _ hw => run_loadN hl ((h.ch hw hS).cells hv), hk⟩
theorem HV_loadB {ty n : TypeId} [Many P ty n] {k : Value → Prop} (h : Blk w g t cs) (hS : ¬ S g) (hl : cs.length = n) (hk : k (ag cs)) :
    HV P (Kp S w) (Instr.loadAt ty (.pointer (some ⟨g, 0, none⟩))) k :=
  HV_loadN h hS (by simp [← hl]) hl hk

end
end Go.Sh

namespace Go.Sh
open Go Go.RowKit

/-- A type's size, its bytes; its zero value has as many cells. -/
class Inf (P : Program) (t : TypeId) (n : outParam Nat) (b : outParam Nat) : Prop where
  ex : ∃ i z, P.info? t = some i ∧ i.size = n ∧ i.bytes = b ∧ i.zero = some z ∧ z.cells.size = n ∧ 0 < n

def infB (P : Program) (t : TypeId) (n b : Nat) : Bool :=
  match P.info? t with
  | some i => Nat.beq i.size n && Nat.beq i.bytes b && (match i.zero with | some z => Nat.beq z.cells.size n | none => false) && Nat.blt 0 n
  | none => false

theorem Inf.of {P : Program} {t : TypeId} {n b : Nat} (h : infB P t n b = true) : Inf P t n b := by
  unfold infB at h
  cases hi : P.info? t with
  | none => simp [hi] at h
  | some i =>
    simp only [hi, Bool.and_eq_true] at h
    obtain ⟨⟨⟨h1, h2⟩, h3⟩, h4⟩ := h
    cases hz : i.zero with
    | none => simp [hz] at h3
    | some z =>
      simp only [hz] at h3
      exact ⟨⟨i, z, hi, Nat.eq_of_beq_eq_true h1, Nat.eq_of_beq_eq_true h2, hz, Nat.eq_of_beq_eq_true h3, blt_lt h4⟩⟩

/-- All of one cell. -/
def Ones (l : List Value) : Prop := ∀ u ∈ l, u.oneCell' = true

theorem Ones.nil : Ones [] := by intro u h; cases h
theorem Ones.cons {u : Value} {l : List Value} (h : u.oneCell' = true) (hl : Ones l) : Ones (u :: l) := by
  intro x hx
  rcases List.mem_cons.1 hx with rfl | hx
  · exact h
  · exact hl x hx
theorem Ones.append {a b : List Value} (ha : Ones a) (hb : Ones b) : Ones (a ++ b) := by
  intro x hx
  rcases List.mem_append.1 hx with hx | hx
  · exact ha x hx
  · exact hb x hx
theorem Ones.bytes (l : List UInt8) : Ones (l.map by_) := by
  intro x hx
  obtain ⟨b, _, rfl⟩ := List.mem_map.1 hx
  rfl
theorem Ones.flat {α : Type} {c : α → List Value} (h : ∀ x, Ones (c x)) (l : List α) : Ones (l.flatMap c) := by
  intro x hx
  obtain ⟨y, _, hy⟩ := List.mem_flatMap.1 hx
  exact h y x hy

section
variable {P : Program} {w w' : World} {g : Nat} {t : TypeId} {cs : List Value} {S : Nat → Prop}

/-! ## New blocks -/

theorem SV_alloc {ty : TypeId} {zs : List Value} [h : Zer P ty zs] {k : Value → World → Prop}
    (hk : ∀ g w', w.heap.size ≤ g → Blk w' g ty zs → Ch No w w' → k (.pointer (some ⟨g, 0, none⟩)) w') : SV P (Instr.alloc ty true (.tuple #[])) w k := by
  refine ⟨_, w.alloc (.cells zs.toArray ty), ?_, hk w.heap.size _ (Nat.le_refl _) (Blk.new w ty zs) (Ch.alloc w _)⟩
  simp only [Instr.alloc, Sem.run_bind, run_zero h.is, Result.andThen_ok, newVar, newRow, h.cells]
  rfl

theorem SV_box {ty : TypeId} {v : Value} {vs : List Value} (hv : v.cells = vs.toArray) {k : Value → World → Prop}
    (hk : ∀ g w', w.heap.size ≤ g → Blk w' g ty vs → Ch No w w' → k (.pointer (some ⟨g, 0, none⟩)) w') : SV P (Instr.box ty v) w k := by
  refine ⟨_, w.alloc (.cells vs.toArray ty), ?_, hk w.heap.size _ (Nat.le_refl _) (Blk.new w ty vs) (Ch.alloc w _)⟩
  simp only [Instr.box, newVar, newRow, hv]
  rfl

/-! ## Stores -/

theorem setCell_ch (w : World) (g o : Nat) (v : Value) : Ch (· = g) w (w.setCell ⟨g, o, none⟩ v) :=
  ⟨rfl, rfl, rfl, by simp [World.setCell], fun k _ hk => heap_setCell_other w _ k v hk⟩

theorem run_store1 {ty : TypeId} [h1 : One P ty] {o : Nat} {v : Value} (h : Blk w g t cs) (ho : o < cs.length) (hv : v.oneCell' = true) :
    (Instr.storeAt ty (.pointer (some ⟨g, o, none⟩)) v).run P w = .ok () (w.setCell ⟨g, o, none⟩ v) := by
  have hc : w.cell? ⟨g, o, none⟩ = some cs[o] := by rw [h.cell]; exact List.getElem?_eq_getElem ho
  have hf : w.frozen? ⟨g, o, none⟩ = false := frozen_of_row w g o _ t h
  have hcells : v.cells = #[v] := by cases v <;> first | rfl | (simp [Value.oneCell'] at hv)
  have hs : (store ⟨g, o, none⟩ v).run P w = .ok () (w.setCell ⟨g, o, none⟩ v) := by
    cases v <;> first | (simp [Value.oneCell'] at hv; done) | simp [store, Sem.run, hc, hf]
  simp only [Instr.storeAt, Instr.sureAddr, Sem.run_bind, Sem.run_pure, Result.andThen_ok, storeVar, h1.size, hcells]
  simp only [List.size_toArray, List.length_cons, List.length_nil, Nat.zero_add, ne_eq, not_true_eq_false, if_false, Sem.run_bind, Sem.run_pure, Result.andThen_ok, storeCells, Addr.add_zero', hs]

theorem SU_store {ty : TypeId} [One P ty] {o : Nat} {v : Value} {k : World → Prop} (h : Blk w g t cs) (ho : o < cs.length) (hv : v.oneCell' = true)
    (hk : ∀ w', Blk w' g t (cs.set o v) → Ch (· = g) w w' → k w') : SU P (Instr.storeAt ty (.pointer (some ⟨g, o, none⟩)) v) w k := by
  refine ⟨_, run_store1 h ho hv, hk _ ?_ (setCell_ch w g o v)⟩
  have := heap_setCell_same w g o _ t v h
  unfold Blk
  rw [this]
  simp

theorem setRow_ch (w : World) (g : Nat) (cs : Array Value) : Ch (· = g) w (w.setRow g cs) :=
  ⟨rfl, rfl, rfl, by simp, fun k _ hk => setRow_other w g k _ hk⟩

theorem run_storeN {ty n : TypeId} [h1 : Many P ty n] {o : Nat} {vs : List Value} (h : Blk w g t cs) (hl : vs.length = n) (ho : o + n ≤ cs.length) (hv : Ones vs) :
    (Instr.storeAt ty (.pointer (some ⟨g, o, none⟩)) (ag vs)).run P w = .ok () (w.setRow g (cs.take o ++ vs ++ cs.drop (o + n)).toArray) := by
  have hst := run_storeCells_at P g o t vs 0 cs.toArray w h (by simp; omega) hv
  simp only [Nat.add_zero] at hst
  simp only [Instr.storeAt, Instr.sureAddr, Sem.run_bind, Sem.run_pure, Result.andThen_ok, storeVar, h1.size, ag, Value.cells, List.size_toArray, hl, ne_eq, not_true_eq_false, if_false, hst]

theorem SU_storeN {ty n : TypeId} [Many P ty n] {o : Nat} {vs : List Value} {k : World → Prop} (h : Blk w g t cs) (hl : vs.length = n) (ho : o + n ≤ cs.length) (hv : Ones vs)
    (hk : ∀ w', Blk w' g t (cs.take o ++ vs ++ cs.drop (o + n)) → Ch (· = g) w w' → k w') : SU P (Instr.storeAt ty (.pointer (some ⟨g, o, none⟩)) (ag vs)) w k := by
  refine ⟨_, run_storeN h hl ho hv, hk _ ?_ (setRow_ch w g _)⟩
  unfold Blk
  exact setRow_heap w g _ _ t _ h
/-- A whole block. -/
theorem SU_storeB {ty n : TypeId} [Many P ty n] {vs : List Value} {k : World → Prop} (h : Blk w g t cs) (hl : vs.length = n) (hc : cs.length = n) (hv : Ones vs)
    (hk : ∀ w', Blk w' g t vs → Ch (· = g) w w' → k w') : SU P (Instr.storeAt ty (.pointer (some ⟨g, 0, none⟩)) (ag vs)) w k :=
  SU_storeN h hl (by omega) hv fun w' hb hch => hk w' (by have : cs.drop (0 + n) = [] := by simp [hc]
                                                          rw [this] at hb; simpa using hb) hch

/-! ## Slices -/

/-- A slice that reads as these n elements' cells. -/
def Rd (w : World) (e : TypeId) (sz : Nat) (v : Value) (n : Nat) (xs : List Value) : Prop :=
  xs.length = n * sz ∧ n ≤ maxLen ∧ ∃ A c, v = .slice A n c ∧ n ≤ c ∧ (0 < n → ∃ b o C fr, A = some ⟨b, o, none⟩ ∧ w.heap[b]? = some (.cells C e fr) ∧ ∀ (j : Nat) u, xs[j]? = some u → C[o + j]? = some u)

def pBlk : Value → Option Nat
  | .pointer (some a) => some a.block
  | _ => none

/-- A pointer to these cells. -/
def Pt (w : World) (p : Value) (cs : List Value) : Prop := ∃ a, p = .pointer (some a) ∧ ∀ (j : Nat) u, cs[j]? = some u → w.cell? (a.add j) = some u

variable {e T T' : TypeId} {sz n m : Nat} {v : Value} {xs ys : List Value}

theorem Rd.len (h : Rd w e sz v n xs) : xs.length = n * sz := h.1
theorem Rd.form (h : Rd w e sz v n xs) : ∃ A c, v = .slice A n c ∧ n ≤ c := by
  obtain ⟨_, _, A, c, hv, hc, _⟩ := h
  exact ⟨A, c, hv, hc⟩

theorem Rd.ch (h : Rd w e sz v n xs) (hc : Ch S w w') (hS : ∀ b, v.ownBlock = some b → ¬ S b) : Rd w' e sz v n xs := by
  obtain ⟨h1, h2, A, c, rfl, h3, h4⟩ := h
  refine ⟨h1, h2, A, c, rfl, h3, fun hn => ?_⟩
  obtain ⟨b, o, C, fr, rfl, hb, hx⟩ := h4 hn
  refine ⟨b, o, C, fr, rfl, ?_, hx⟩
  have hlt : b < w.heap.size := by
    rcases Nat.lt_or_ge b w.heap.size with h | h
    · exact h
    · rw [Array.getElem?_eq_none h] at hb; cases hb
  rw [hc.block b hlt (hS b rfl)]
  exact hb
theorem Rd.no (h : Rd w e sz v n xs) (hc : Ch No w w') : Rd w' e sz v n xs := h.ch hc fun _ _ h => h
theorem Rd.drew (h : Rd w e sz v n xs) : Rd w.drew e sz v n xs := h
/-- Blocks of other element types do not matter. -/
theorem Rd.ty (h : Rd w e sz v n xs) (hc : Ch S w w') (hS : ∀ b, S b → ∃ C T fr, w.heap[b]? = some (.cells C T fr) ∧ T ≠ e) : Rd w' e sz v n xs := by
  rcases Nat.eq_zero_or_pos n with h0 | hn
  · obtain ⟨h1, h2, A, c, rfl, h3, _⟩ := h
    exact ⟨h1, h2, A, c, rfl, h3, fun h => absurd h (by omega)⟩
  · refine h.ch hc fun b hb hs => ?_
    obtain ⟨_, _, A, c, rfl, _, h4⟩ := h
    obtain ⟨b', o, C, fr, rfl, hb', _⟩ := h4 hn
    have : b' = b := by simpa [Value.ownBlock] using hb
    subst this
    obtain ⟨C', T, fr', hT, hne⟩ := hS b' hs
    rw [hb'] at hT
    injection hT with hT
    injection hT with _ hT
    exact hne hT.symm
theorem Rd.blk (h : Rd w e sz v n xs) (hc : Ch (· = g) w w') (hb : Blk w g t cs) (hne : t ≠ e) : Rd w' e sz v n xs :=
  h.ty hc fun b hb' => ⟨cs.toArray, t, (0, 0), by rw [hb']; exact hb, hne⟩

theorem Rd.nil0 (h : Rd w e sz v 0 xs) : xs = [] := List.eq_nil_of_length_eq_zero (by simpa using h.1)
theorem Rd.zero (A : Option Addr) (c : Nat) : Rd w e sz (.slice A 0 c) 0 [] := ⟨by simp, by unfold maxLen; omega, A, c, rfl, Nat.zero_le _, fun h => absurd h (by omega)⟩

theorem Rd.pt (h : Rd w e sz v n xs) {i : Nat} (hi : i < n) : ∃ b o c, v = .slice (some ⟨b, o, none⟩) n c ∧ Pt w (.pointer (some ⟨b, o + i * sz, none⟩)) ((xs.drop (i * sz)).take sz) := by
  obtain ⟨h1, h2, A, c, rfl, h3, h4⟩ := h
  obtain ⟨b, o, C, fr, rfl, hb, hx⟩ := h4 (by omega)
  refine ⟨b, o, c, rfl, _, rfl, fun j u hj => ?_⟩
  rw [List.getElem?_take] at hj
  split at hj
  · rw [List.getElem?_drop] at hj
    rw [Addr.add_lit, cell_of_row w b _ C e fr hb, Nat.add_assoc]
    exact hx _ u hj
  · cases hj

/-- xs[i]: its address. -/
theorem SV_idx {ty : TypeId} [hT : SlT P ty e sz] {i : Int} {k : Value → World → Prop} (h : Rd w T sz v n xs) (h0 : 0 ≤ i) (hi : i < n)
    (hk : ∀ p, Pt w p ((xs.drop (i.toNat * sz)).take sz) → k p w) : SV P (Instr.indexAt ty v (.int .i64 i)) w k := by
  obtain ⟨b, o, c, rfl, hp⟩ := h.pt (i := i.toNat) (by omega)
  refine ⟨_, w, ?_, hk _ hp⟩
  simp only [Instr.indexAt, Sem.run_bind, asIntOf, Sem.run_pure, Result.andThen_ok, run_underlying hT.und]
  simp only [h0, hi, and_self, if_true, Sem.run_bind, hT.size, Result.andThen_ok, Sem.run_pure, Addr.add_lit]
theorem HV_idx {ty : TypeId} [hT : SlT P ty e sz] {i : Int} {C : World → Prop} {k : Value → Prop} (h : Rd w T sz v n xs) (h0 : 0 ≤ i) (hi : i < n)
    (hk : ∀ p, pBlk p = v.ownBlock → Pt w p ((xs.drop (i.toNat * sz)).take sz) → k p) : HV P C (Instr.indexAt ty v (.int .i64 i)) k := by
  obtain ⟨b, o, c, rfl, hp⟩ := h.pt (i := i.toNat) (by omega)
  refine ⟨_, fun w _ => ?_, hk _ rfl hp⟩
  simp only [Instr.indexAt, Sem.run_bind, asIntOf, Sem.run_pure, Result.andThen_ok, run_underlying hT.und]
  simp only [h0, hi, and_self, if_true, Sem.run_bind, hT.size, Result.andThen_ok, Sem.run_pure, Addr.add_lit]

theorem Pt.ch {p : Value} {cs : List Value} (h : Pt w p cs) (hc : Ch S w w') (hS : ∀ b, pBlk p = some b → ¬ S b) : Pt w' p cs := by
  obtain ⟨a, rfl, h⟩ := h
  refine ⟨a, rfl, fun j u hj => ?_⟩
  have h1 := h j u hj
  have hlt := World.block_lt_of_cell? w _ h1
  have hbl : (a.add j).block = a.block := by unfold Addr.add; split <;> rfl
  rw [World.cell?_of_block (w := w) (hc.block _ hlt (by rw [hbl]; exact hS _ rfl))]
  exact h1
theorem Pt.no {p : Value} {cs : List Value} (h : Pt w p cs) (hc : Ch No w w') : Pt w' p cs := h.ch hc fun _ _ h => h
theorem Pt.of_blk (h : Blk w g t cs) : Pt w (.pointer (some ⟨g, 0, none⟩)) cs := ⟨_, rfl, fun j u hj => by rw [Addr.add_lit, h.cell]; simpa using hj⟩

theorem SV_ptr1 {ty : TypeId} [One P ty] {p u : Value} {k : Value → World → Prop} (h : Pt w p [u]) (hk : k u w) : SV P (Instr.loadAt ty p) w k := by
  obtain ⟨a, rfl, h⟩ := h
  exact ⟨u, w, run_load1 (by have := h 0 u rfl; rwa [Addr.add_zero'] at this), hk⟩
theorem SV_ptrN {ty n : TypeId} [Many P ty n] {p : Value} {us : List Value} {k : Value → World → Prop} (h : Pt w p us) (hl : us.length = n) (hk : k (ag us) w) : SV P (Instr.loadAt ty p) w k := by
  obtain ⟨a, rfl, h⟩ := h
  exact ⟨_, w, run_loadN hl h, hk⟩
theorem HV_ptr1 {ty : TypeId} [One P ty] {p u : Value} {k : Value → Prop} (h : Pt w p [u]) (hS : ∀ b, pBlk p = some b → ¬ S b) (hk : k u) : HV P (Kp S w) (Instr.loadAt ty p) k := by
  refine ⟨u, fun w' hw => ?_, hk⟩
  obtain ⟨a, rfl, h'⟩ := h.ch hw hS
  exact run_load1 (by have := h' 0 u rfl; rwa [Addr.add_zero'] at this)
theorem HV_ptrN {ty n : TypeId} [Many P ty n] {p : Value} {us : List Value} {k : Value → Prop} (h : Pt w p us) (hl : us.length = n) (hS : ∀ b, pBlk p = some b → ¬ S b) (hk : k (ag us)) : HV P (Kp S w) (Instr.loadAt ty p) k := by
  refine ⟨_, fun w' hw => ?_, hk⟩
  obtain ⟨a, rfl, h'⟩ := h.ch hw hS
  exact run_loadN hl h'

/-! ### Cuts -/

theorem elem_of {ty : TypeId} (h : P.underlying ty = some (.slice e)) : P.underlying ty = some (.slice (P.elem ty)) := by
  have : P.elem ty = e := by simp [Program.elem, h]
  rw [this]; exact h

theorem run_sliceAt {ty : TypeId} (h : P.underlying ty = some (.slice e)) (x : Value) (lo hi mx : Option Value) : (Instr.sliceAt ty x lo hi mx).run P w = (Instr.slice ty x lo hi mx).run P w := by
  simp [Instr.sliceAt, run_underlying h]

theorem size_elem {ty : TypeId} [hT : SlT P ty e sz] : (sizeOf (P.elem ty)).run P w = .ok sz w := by
  have : P.elem ty = e := by simp [Program.elem, hT.und]
  rw [this]; exact hT.size w

theorem Rd.sub {A : Option Addr} {c l h' c' : Nat} (h : Rd w e sz (.slice A n c) n xs) (hl : l ≤ h') (hh : h' ≤ n) (hc : h' - l ≤ c') {B : Option Addr} (hB : l < h' → B = A.map (·.add (l * sz))) :
    Rd w e sz (.slice B (h' - l) c') (h' - l) ((xs.drop (l * sz)).take ((h' - l) * sz)) := by
  obtain ⟨h1, h2, A', c0, hv, h3, h4⟩ := h
  injection hv with hA _ hc0
  subst hA
  refine ⟨?_, by omega, B, c', rfl, hc, fun hn => ?_⟩
  · rw [List.length_take, List.length_drop, h1, ← Nat.sub_mul]
    exact Nat.min_eq_left (Nat.mul_le_mul_right _ (by omega))
  · obtain ⟨b, o, C, fr, hA, hb, hx⟩ := h4 (by omega)
    refine ⟨b, o + l * sz, C, fr, ?_, hb, fun j u hj => ?_⟩
    · rw [hB (by omega), hA]
      simp [Addr.add_lit]
    · rw [List.getElem?_take] at hj
      split at hj
      · rw [List.getElem?_drop] at hj
        rw [Nat.add_assoc]; exact hx _ u hj
      · cases hj

/-- xs[:h] -/
theorem Rd.sl_h {ty : TypeId} [hT : SlT P ty e sz] (hr : Rd w T sz v n xs) {h : Int} (h0 : 0 ≤ h) (h1 : h ≤ n) :
    ∃ v', Pu P (Instr.sliceAt ty v none (some (.int .i64 h)) none) v' ∧ Rd w T sz v' h.toNat (xs.take (h.toNat * sz)) ∧ v'.ownBlock = v.ownBlock := by
  obtain ⟨A, c, rfl, hc⟩ := hr.form
  refine ⟨.slice A h.toNat c, fun w => ?_, ?_, by cases A <;> rfl⟩
  · rw [run_sliceAt hT.und, run_slice_h w ty A n c (elem_of hT.und) .i64 h h0 (by omega), size_elem]
    simp [Result.andThen, sliced]
    intro hh
    cases A <;> simp [Addr.add]
  · have := hr.sub (l := 0) (h' := h.toNat) (c' := c) (B := A) (Nat.zero_le _) (by omega) (by omega) (fun _ => by cases A <;> simp [Addr.add])
    simpa using this
/-- xs[:h:m] -/
theorem Rd.sl_hm {ty : TypeId} [hT : SlT P ty e sz] (hr : Rd w T sz v n xs) {h m : Int} (h0 : 0 ≤ h) (h1 : h ≤ n) (h2 : h ≤ m) (h3 : m ≤ n) :
    ∃ A, Pu P (Instr.sliceAt ty v none (some (.int .i64 h)) (some (.int .i64 m))) (.slice A h.toNat m.toNat) ∧ Rd w T sz (.slice A h.toNat m.toNat) h.toNat (xs.take (h.toNat * sz)) ∧
      Value.ownBlock (.slice A h.toNat m.toNat) = v.ownBlock := by
  obtain ⟨A, c, rfl, hc⟩ := hr.form
  refine ⟨A, fun w => ?_, ?_, by cases A <;> rfl⟩
  · rw [run_sliceAt hT.und, run_slice_hm w ty A n c (elem_of hT.und) .i64 .i64 h m h0 h2 (by omega), size_elem]
    simp [Result.andThen, sliced]
    intro hh
    cases A <;> simp [Addr.add]
  · have := hr.sub (l := 0) (h' := h.toNat) (c' := m.toNat) (B := A) (Nat.zero_le _) (by omega) (by omega) (fun _ => by cases A <;> simp [Addr.add])
    simpa using this
/-- xs[l:] -/
theorem Rd.sl_l {ty : TypeId} [hT : SlT P ty e sz] (hr : Rd w T sz v n xs) {l : Int} (h0 : 0 ≤ l) (h1 : l ≤ n) :
    ∃ v', Pu P (Instr.sliceAt ty v (some (.int .i64 l)) none none) v' ∧ Rd w T sz v' (n - l.toNat) (xs.drop (l.toNat * sz)) ∧ v'.ownBlock = v.ownBlock := by
  obtain ⟨A, c, rfl, hc⟩ := hr.form
  refine ⟨sliced A l.toNat n c sz, fun w => ?_, ?_, ?_⟩
  · rw [run_sliceAt hT.und, run_slice_l w ty A n c (elem_of hT.und) .i64 l h0 h1, size_elem]
    rfl
  · have := hr.sub (l := l.toNat) (h' := n) (c' := c - l.toNat) (B := if c = l.toNat then A else A.map (·.add (l.toNat * sz))) (by omega) (Nat.le_refl _) (by omega) (fun hlt => by rw [if_neg (by omega)])
    have e : (xs.drop (l.toNat * sz)).take ((n - l.toNat) * sz) = xs.drop (l.toNat * sz) := by
      apply List.take_of_length_le
      rw [List.length_drop, hr.1, ← Nat.sub_mul]
      exact Nat.le_refl _
    rw [e] at this
    simpa [sliced] using this
  · unfold sliced
    cases A with
    | none => simp [Value.ownBlock]
    | some a =>
      have hbl : ∀ j, (a.add j).block = a.block := fun j => by unfold Addr.add; split <;> rfl
      split <;> simp [Value.ownBlock, hbl]
/-- xs[l:h] -/
theorem Rd.sl_lh {ty : TypeId} [hT : SlT P ty e sz] (hr : Rd w T sz v n xs) {l h : Int} (h0 : 0 ≤ l) (hlh : l ≤ h) (h1 : h ≤ n) :
    ∃ v', Pu P (Instr.sliceAt ty v (some (.int .i64 l)) (some (.int .i64 h)) none) v' ∧ Rd w T sz v' (h.toNat - l.toNat) ((xs.drop (l.toNat * sz)).take ((h.toNat - l.toNat) * sz)) ∧ v'.ownBlock = v.ownBlock := by
  obtain ⟨A, c, rfl, hc⟩ := hr.form
  refine ⟨sliced A l.toNat h.toNat c sz, fun w => ?_, ?_, ?_⟩
  · rw [run_sliceAt hT.und, run_slice_lh w ty A n c (elem_of hT.und) .i64 .i64 l h h0 hlh (by omega), size_elem]
    rfl
  · have := hr.sub (l := l.toNat) (h' := h.toNat) (c' := c - l.toNat) (B := if c = l.toNat then A else A.map (·.add (l.toNat * sz))) (by omega) (by omega) (by omega) (fun hlt => by rw [if_neg (by omega)])
    simpa [sliced] using this
  · unfold sliced
    cases A with
    | none => simp [Value.ownBlock]
    | some a =>
      have hbl : ∀ j, (a.add j).block = a.block := fun j => by unfold Addr.add; split <;> rfl
      split <;> simp [Value.ownBlock, hbl]

/-! ### Slices of one's own -/

theorem Rd.of_own {base : Nat} (h : w.ownsRow base e sz v n xs) : Rd w e sz v n xs := by
  obtain ⟨h1, h2⟩ := h
  rcases h2 with ⟨rfl, rfl⟩ | ⟨g, cap, cur, rfl, hb, hg, hn, hm, hs, ht⟩
  · exact ⟨h1, by unfold maxLen; omega, none, 0, rfl, Nat.le_refl _, fun h => absurd h (by omega)⟩
  · refine ⟨h1, by omega, _, cap, rfl, hn, fun _ => ⟨g, 0, cur, _, rfl, hg, fun j u hj => ?_⟩⟩
    subst ht
    rw [List.getElem?_take] at hj
    split at hj
    · simpa using hj
    · cases hj

theorem own_ch {base : Nat} (h : w.ownsRow base e sz v n xs) (hc : Ch S w w') (hS : ∀ b, v.ownBlock = some b → ¬ S b) : w'.ownsRow base e sz v n xs := by
  obtain ⟨h1, h2⟩ := h
  refine ⟨h1, h2.imp id ?_⟩
  rintro ⟨g, cap, cur, rfl, hb, hg, r⟩
  have hlt : g < w.heap.size := by
    rcases Nat.lt_or_ge g w.heap.size with h | h
    · exact h
    · rw [Array.getElem?_eq_none h] at hg; cases hg
  exact ⟨g, cap, cur, rfl, hb, by rw [hc.block g hlt (hS g rfl)]; exact hg, r⟩
theorem own_no {base : Nat} (h : w.ownsRow base e sz v n xs) (hc : Ch No w w') : w'.ownsRow base e sz v n xs := own_ch h hc fun _ _ h => h
/-- Blocks of other element types do not matter. -/
theorem own_blk {base : Nat} (h : w.ownsRow base e sz v n xs) (hc : Ch (· = g) w w') (hb : Blk w g t cs) (hne : t ≠ e) : w'.ownsRow base e sz v n xs := by
  refine own_ch h hc fun b hbl hbg => ?_
  obtain ⟨_, h2⟩ := h
  rcases h2 with ⟨rfl, _⟩ | ⟨g', cap, cur, rfl, _, hg, _⟩
  · simp [Value.ownBlock] at hbl
  · have : g' = b := by simpa [Value.ownBlock] using hbl
    subst this
    subst hbg
    unfold Blk at hb
    rw [hg] at hb
    injection hb with hb
    injection hb with _ hb
    exact hne hb.symm
theorem own_mono {base base' : Nat} (h : w.ownsRow base e sz v n xs) (hb : base' ≤ base) : w.ownsRow base' e sz v n xs := by
  obtain ⟨h1, h2⟩ := h
  refine ⟨h1, h2.imp id ?_⟩
  rintro ⟨g, cap, cur, rfl, hg, r⟩
  exact ⟨g, cap, cur, rfl, by omega, r⟩
theorem own_nil (w : World) (base : Nat) (e : TypeId) (sz : Nat) : w.ownsRow base e sz (.slice none 0 0) 0 [] := World.ownsRow_nil w base e sz

theorem Rd.cells {a : Addr} {c : Nat} (h : Rd w e sz (.slice (some a) n c) n xs) (hn : 0 < n) : ∀ (j : Nat) u, xs[j]? = some u → w.cell? (a.add j) = some u := by
  obtain ⟨_, _, A, c', hv, _, h4⟩ := h
  injection hv with hA _ _
  subst hA
  obtain ⟨b, o, C, fr, hA, hb, hx⟩ := h4 hn
  injection hA with hA
  subst hA
  intro j u hj
  rw [Addr.add_lit, cell_of_row w b _ C e fr hb]
  exact hx j u hj

/-- append onto a row of one's own. -/
theorem SV_append {base bytes : Nat} {ty rt : TypeId} {u : Value} [hT : SlT P ty e sz] [hI : Inf P e sz bytes] {k : Value → World → Prop}
    (ho : w.ownsRow base e sz v n xs) (hu : Rd w T sz u m ys) (h1 : Ones ys) (hb : (n + m) * bytes ≤ 140737488355328) (hm : n + m ≤ maxLen) (hbase : base ≤ w.heap.size)
    (hk : ∀ v' w', w'.ownsRow base e sz v' (n + m) (xs ++ ys) → Ch (fun b => v.ownBlock = some b) w w' → k v' w') : SV P (Builtin.append_ #[ty, ty] rt #[v, u]) w k := by
  obtain ⟨i, z, hi, hsz, hby, hz, hzs, hpos⟩ := hI.ex
  obtain ⟨A, c, rfl, hc⟩ := hu.form
  rcases Nat.eq_zero_or_pos m with h0 | hpm
  · subst h0
    have hys : ys = [] := hu.nil0
    subst hys
    refine ⟨v, w, ?_, hk v w (by simpa using ho) (Ch.refl w)⟩
    rcases ho.2 with ⟨rfl, rfl⟩ | ⟨g, cap, cur, rfl, _, _, hnc, _⟩
    · cases A <;> simp [Builtin.append_, run_underlying hT.und, sizeOf, typeInfo, hi, Builtin.lenOf, Builtin.firstCells, loadCells, loadCellsFrom]
    · cases A <;> simp [Builtin.append_, run_underlying hT.und, sizeOf, typeInfo, hi, Builtin.lenOf, Builtin.firstCells, loadCells, loadCellsFrom, hnc, storeCells]
  · obtain ⟨_, _, A', c', hv, _, h4⟩ := hu
    injection hv with hA _ _
    subst hA
    obtain ⟨b, o, C, fr, rfl, hbk, hx⟩ := h4 hpm
    obtain ⟨v', w', hrun, h2, h3, _⟩ := run_append_own (P := P) w base ty rt e i z sz bytes hT.und hi hz hsz hby hzs hpos v n xs ho ⟨b, o, none⟩ m c ys (by assumption)
      (fun j u hj => by rw [Addr.add_lit, cell_of_row w b _ C _ fr hbk]; exact hx j u hj) h1 hm hb hbase
    exact ⟨v', w', hrun, hk v' w' h2 ⟨h3.os, h3.tape, h3.output, h3.size, fun k hk hs => h3.block k hk fun e => hs e.symm⟩⟩

/-- append onto a slice that is full: a new row. -/
theorem SV_append_full {bytes : Nat} {ty rt : TypeId} {A : Option Addr} {u : Value} [hT : SlT P ty e sz] [hI : Inf P e sz bytes] {k : Value → World → Prop}
    (ho : Rd w T' sz (.slice A n n) n xs) (hu : Rd w T sz u m ys) (hpm : 0 < m) (hb : (n + m) * bytes ≤ 140737488355328) (hm : n + m ≤ maxLen)
    (hk : ∀ v' w', w'.ownsRow w.heap.size e sz v' (n + m) (xs ++ ys) → Ch No w w' → k v' w') : SV P (Builtin.append_ #[ty, ty] rt #[.slice A n n, u]) w k := by
  obtain ⟨i, z, hi, hsz, hby, hz, hzs, hpos⟩ := hI.ex
  obtain ⟨hyl, _, B, c, rfl, hc, h4⟩ := hu
  obtain ⟨b, o, C, fr, rfl, hbk, hx⟩ := h4 hpm
  have hcells : ∀ (j : Nat) u, ys[j]? = some u → w.cell? ((⟨b, o, none⟩ : Addr).add j) = some u := fun j u hj => by rw [Addr.add_lit, cell_of_row w b _ C _ fr hbk]; exact hx j u hj
  have h63 : n + m ≤ 9223372036854775807 := by unfold maxLen at hm; exact hm
  subst hsz
  have fin : ∀ old, old < n + m → (w.drew.alloc (.cells (xs.toArray ++ ys.toArray ++ Builtin.zeroCells z.cells (grownCap w (n + m) old e - (n + m))) e)).ownsRow w.heap.size e i.size
        (.slice (some ⟨w.heap.size, 0, none⟩) (n + m) (grownCap w (n + m) old e)) (n + m) (xs ++ ys) := by
    intro old ho'
    have hge := grownCap_ge w (n + m) old e
    have hcm : grownCap w (n + m) old e ≤ maxLen := grownCap_le_maxLen w (n + m) old e hm
    refine ⟨by rw [List.length_append, ho.1, hyl, Nat.add_mul], .inr ⟨w.heap.size, _, _, rfl, Nat.le_refl _, heap_alloc_new w.drew _, hge, hcm, ?_, ?_⟩⟩
    · simp only [Array.size_append, List.size_toArray, size_zeroCells, hzs, ho.1, hyl, ← Nat.add_mul]
      congr 1
      omega
    · simp only [Array.toList_append, List.append_assoc]
      rw [← List.append_assoc, show (n + m) * i.size = (xs ++ ys).length by rw [List.length_append, ho.1, hyl, Nat.add_mul]]
      exact List.take_left
  have hch : ∀ o, Ch No w (w.drew.alloc o) := fun o => (Ch.drew w).trans (Ch.alloc _ _)
  cases A with
  | none =>
    have hn0 : n = 0 := by
      rcases Nat.eq_zero_or_pos n with h | h
      · exact h
      · obtain ⟨_, _, A, _, hv, _, h4⟩ := ho
        injection hv with hA
        subst hA
        obtain ⟨_, _, _, _, h, _⟩ := h4 h
        cases h
    subst hn0
    have hxs : xs = [] := ho.nil0
    subst hxs
    have hr := run_append_nil (P := P) w ty rt e i z hT.und hi hz ⟨b, o, none⟩ m c ys hyl hcells hpm (by omega) (by rw [hby]; have hb' := hb; simp only [Nat.zero_add] at hb'; omega)
    have hf := fin 0 (by omega)
    simp only [Nat.zero_add, List.nil_append, Array.empty_append] at hf hk ⊢
    exact ⟨_, _, hr, hk _ _ hf (hch _)⟩
  | some a =>
    have holds : ∀ (j : Nat) u, xs[j]? = some u → w.cell? (a.add j) = some u := by
      rcases Nat.eq_zero_or_pos n with h | h
      · subst h
        have hxs : xs = [] := ho.nil0
        subst hxs
        intro j u hj; simp at hj
      · exact ho.cells h
    have hr := run_append_grow (P := P) w ty rt e i z hT.und hi hz a n n xs ho.1 holds ⟨b, o, none⟩ m c ys hyl hcells (by omega) (by omega) (growslice_fits (by omega) (by rw [hby]; exact hb))
    exact ⟨_, _, hr, hk _ _ (fin n (by omega)) (hch _)⟩

/-! ### A row of literals -/

theorem fill_row (size : Nat) : ∀ (vs : List Value) (css : List (List Value)) (j : Nat) (cells : List Value), (∀ (i : Nat) (v : Value), vs[i]? = some v → ∃ cs : List Value, css[i]? = some cs ∧ v.cells = cs.toArray ∧ cs.length = size) → vs.length = css.length →
    (j + vs.length) * size ≤ cells.length →
    Instr.fill (fun i => some (i * size, size)) cells.toArray ((vs.zipIdx j).map fun (v, i) => (i, v)) = some (cells.take (j * size) ++ css.flatten ++ cells.drop ((j + vs.length) * size)).toArray
  | [], css, j, cells, _, hl, _ => by
    cases List.eq_nil_of_length_eq_zero hl.symm
    simp [Instr.fill]
  | v :: vs, css, j, cells, h, hl, hlen => by
    obtain ⟨cs, hcs, hv, hsz⟩ := h 0 v rfl
    match css, hcs with
    | cs' :: css, hcs =>
      simp only [List.getElem?_cons_zero, Option.some.injEq] at hcs
      subst hcs
      have hj : j * size + size ≤ cells.length := by
        have : (j + 1) * size ≤ (j + (v :: vs).length) * size := Nat.mul_le_mul_right _ (by simp)
        rw [Nat.add_mul, Nat.one_mul] at this; omega
      have hput : ∀ (l : List Value) (k : Nat) (C : Array Value), (l.zipIdx k).foldl (fun cs (c, i) => cs.setIfInBounds (j * size + i) c) C = (C.toList.take (j * size + k) ++ l ++ C.toList.drop (j * size + k + l.length)).toArray ∨ C.size < j * size + k + l.length := by
        intro l
        induction l with
        | nil => intro k C; left; simp
        | cons x l ih =>
          intro k C
          by_cases hC : C.size < j * size + k + (x :: l).length
          · exact .inr hC
          · left
            rcases ih (k + 1) (C.setIfInBounds (j * size + k) x) with ih | ih
            · have e1 : ((x :: l).zipIdx k).foldl (fun cs (c, i) => cs.setIfInBounds (j * size + i) c) C = (l.zipIdx (k + 1)).foldl (fun cs (c, i) => cs.setIfInBounds (j * size + i) c) (C.setIfInBounds (j * size + k) x) := by
                rw [List.zipIdx_cons, List.foldl_cons]
              rw [e1, ih]
              congr 1
              simp only [List.length_cons] at hC
              apply List.ext_getElem?
              intro i
              simp only [Array.toList_setIfInBounds, List.getElem?_append, List.length_append, List.length_take, List.length_set, Array.length_toList, List.getElem?_take, List.getElem?_drop, List.getElem?_set, List.length_cons]
              have m1 : min (j * size + (k + 1)) C.size = j * size + k + 1 := by omega
              have m2 : min (j * size + k) C.size = j * size + k := by omega
              simp only [m1, m2]
              rcases Nat.lt_trichotomy i (j * size + k) with h | h | h
              · simp [show i < j * size + k + 1 + l.length by omega, show i < j * size + k + 1 by omega, show i < j * size + (k + 1) by omega, show i < j * size + k + (l.length + 1) by omega, h, show ¬ j * size + k = i by omega]
              · subst h
                simp [show j * size + k < j * size + k + 1 + l.length by omega, show j * size + k < j * size + (k + 1) by omega, show j * size + k < C.size by omega]
              · by_cases h2 : i < j * size + k + 1 + l.length
                · have e : i - (j * size + k) = (i - (j * size + k + 1)) + 1 := by omega
                  simp [h2, show ¬ i < j * size + k + 1 by omega, show i < j * size + k + (l.length + 1) by omega, show ¬ i < j * size + k by omega, e]
                · have e2 : i - (j * size + k + (l.length + 1)) = i - (j * size + k + 1 + l.length) := by omega
                  simp only [h2, if_false, show ¬ i < j * size + k + (l.length + 1) by omega, e2]
                  have e3 : j * size + (k + 1) + l.length = j * size + k + (l.length + 1) := by omega
                  rw [e3, if_neg (by omega)]
            · simp at ih hC; omega
      have hput' := (hput cs' 0 cells.toArray).resolve_right (by simp; omega)
      simp only [List.zipIdx_cons, List.map_cons, Instr.fill, hv, List.size_toArray, hsz]
      rw [if_neg (by simp; omega), ← Array.foldl_toList, Array.toList_zipIdx, List.toList_toArray, hput']
      have := fill_row size vs css (j + 1) (cells.take (j * size) ++ cs' ++ cells.drop (j * size + size)) (fun i v hi => h (i + 1) v hi) (by simpa using hl) (by
        simp only [List.length_append, List.length_take, List.length_drop, hsz]
        have : (j + 1 + vs.length) * size = (j + (v :: vs).length) * size := by simp; congr 1; omega
        omega)
      simp only [Nat.add_zero, hsz]
      rw [this]
      congr 2
      have l1 : (cells.take (j * size) ++ cs').length = (j + 1) * size := by rw [List.length_append, List.length_take, hsz, Nat.add_mul]; omega
      rw [← l1, List.take_append_of_le_length (Nat.le_refl _), List.take_length]
      simp only [List.flatten_cons, List.append_assoc, List.append_cancel_left_eq]
      rw [show (j + 1 + vs.length) * size = (cells.take (j * size) ++ cs').length + vs.length * size by rw [l1, Nat.add_mul]]
      rw [← List.append_assoc, ← List.drop_drop]
      simp only [List.drop_left, List.drop_drop]
      congr 1
      simp only [List.length_cons, Nat.add_mul, Nat.one_mul]
      omega

/-- []T{v0, v1, ..} -/
theorem SV_lits {ty : TypeId} [hT : SlT P ty e sz] {b : Nat} [hI : Inf P e sz b] {parts : Array (Nat × Value)} {k : Value → World → Prop} (vs : List Value) (css : List (List Value))
    (hp : parts.toList = (vs.zipIdx 0).map fun (v, i) => (i, v)) (hv : ∀ (i : Nat) (v : Value), vs[i]? = some v → ∃ cs : List Value, css[i]? = some cs ∧ v.cells = cs.toArray ∧ cs.length = sz) (hl : vs.length = css.length) (hn : n = vs.length)
    (hlim : vs.length * sz ≤ 16777216) (hk : ∀ g w', w.heap.size ≤ g → Blk w' g e css.flatten → Ch No w w' → w'.ownsRow w.heap.size e sz (.slice (some ⟨g, 0, none⟩) n n) n css.flatten → k (.slice (some ⟨g, 0, none⟩) n n) w') :
    SV P (Instr.buildSlice ty n parts) w k := by
  subst hn
  obtain ⟨i, z, hi, hsz, hby, hz, hzs, hpos⟩ := hI.ex
  have hlen : ((Array.range (vs.length * sz)).map (fun j => z.cells[j % z.cells.size]!)).toList.length = vs.length * sz := by simp
  have hfl : css.flatten.length = vs.length * sz := by
    rw [List.length_flatten, hl]
    have : ∀ (l : List (List Value)), (∀ c ∈ l, c.length = sz) → (l.map List.length).sum = l.length * sz := by
      intro l
      induction l with
      | nil => intro _; simp
      | cons c l ih => intro h; simp [ih (fun c hc => h c (List.mem_cons_of_mem _ hc)), h c List.mem_cons_self, Nat.add_mul]; omega
    refine this css fun c hc => ?_
    obtain ⟨j, hj, rfl⟩ := List.mem_iff_getElem.1 hc
    obtain ⟨cs, h1, _, h3⟩ := hv j (vs[j]'(by omega)) (List.getElem?_eq_getElem (by omega))
    rw [List.getElem?_eq_getElem hj] at h1
    cases h1; exact h3
  have hfill := fill_row sz vs css 0 ((Array.range (vs.length * sz)).map (fun j => z.cells[j % z.cells.size]!)).toList hv hl (by rw [hlen]; simp)
  have hf2 : Instr.fill (fun i => some (i * sz, sz)) ((Array.range (vs.length * sz)).map (fun j => z.cells[j % z.cells.size]!)) parts.toList = some css.flatten.toArray := by
    rw [hp]
    simp only [Array.toArray_toList] at hfill
    rw [hfill]
    congr 2
    rw [Nat.zero_mul, List.take_zero, List.nil_append, Nat.zero_add, List.drop_eq_nil_of_le (by rw [hlen]; exact Nat.le_refl _), List.append_nil]
  have hb : Blk (w.alloc (.cells css.flatten.toArray e)) w.heap.size e css.flatten := Blk.new w e _
  refine ⟨_, w.alloc (.cells css.flatten.toArray e), ?_, hk w.heap.size _ (Nat.le_refl _) hb (Ch.alloc w _) ⟨hfl, .inr ⟨w.heap.size, _, _, rfl, Nat.le_refl _, hb, Nat.le_refl _, ?_, by simp [hfl], by rw [List.toList_toArray, ← hfl]; exact List.take_length⟩⟩⟩
  · have hlim' : ¬ (16777216 < vs.length * sz) := by omega
    by_cases h0 : vs.length * sz = 0
    · have hvs : vs = [] := by
        rcases Nat.mul_eq_zero.1 h0 with h | h
        · exact List.eq_nil_of_length_eq_zero h
        · omega
      subst hvs
      have hcs : css = [] := List.eq_nil_of_length_eq_zero hl.symm
      subst hcs
      have hp' : parts.toList = [] := by simpa using hp
      simp [Instr.buildSlice, run_underlying hT.und, hT.size, hp', Instr.fill, newRow, Array.range_zero']
    · simp only [Instr.buildSlice, Sem.run_bind, run_underlying hT.und, Result.andThen_ok, hT.size]
      simp only [show (2 ^ 24 : Nat) = 16777216 from rfl, gt_iff_lt, hlim', if_false, h0, Sem.run_bind, Sem.run_pure, Result.andThen_ok, zeroValue, typeInfo]
      simp only [program, Sem.run, hi, hz, Sem.run_pure, Result.andThen_ok]
      rw [hf2]
      rfl
  · have : vs.length * 1 ≤ vs.length * sz := Nat.mul_le_mul_left _ hpos
    unfold maxLen; omega
end
end Go.Sh

namespace Go.Sh
open Go Go.RowKit

/-- A hash: 32 bytes. -/
structure Sum where
  l : List UInt8
  h : l.length = 32

theorem Sum.ext {a b : Sum} (h : a.l = b.l) : a = b := by cases a; cases b; cases h; rfl
instance : DecidableEq Sum := fun a b => if h : a.l = b.l then isTrue (Sum.ext h) else isFalse fun e => h (by rw [e])
def Sum.zero : Sum := ⟨List.replicate 32 0, rfl⟩
def Sum.cells (s : Sum) : List Value := s.l.map by_
def Sum.v (s : Sum) : Value := ag s.cells
@[simp] theorem Sum.len (s : Sum) : s.cells.length = 32 := by simp [Sum.cells, s.h]
theorem Sum.ones (s : Sum) : Ones s.cells := Ones.bytes _
theorem by_inj {a b : UInt8} (h : by_ a = by_ b) : a = b := by
  unfold by_ at h
  injection h with _ h
  exact UInt8.toNat_inj.1 (by omega)
theorem Sum.cells_inj {a b : Sum} (h : a.cells = b.cells) : a = b :=
  Sum.ext (List.map_inj_right (fun _ _ h => by_inj h) |>.1 h)

def num (n : Int) : Value := .int .i64 n

structure Record where
  window : Int
  index : Int
  time : Int
  payload : List UInt8
  deriving DecidableEq
def Record.zero : Record := ⟨0, 0, 0, []⟩
def Record.cells (r : Record) : List Value := [.int .i64 r.window, .int .i64 r.index, .int .i64 r.time, str r.payload]
def Record.v (r : Record) : Value := ag r.cells
@[simp] theorem Record.len (r : Record) : r.cells.length = 4 := rfl
theorem Record.ones (r : Record) : Ones r.cells := .cons rfl (.cons rfl (.cons rfl (.cons rfl .nil)))

structure Freeze where
  window : Int
  count : Int
  root : Sum
  deriving DecidableEq
def Freeze.zero : Freeze := ⟨0, 0, Sum.zero⟩
def Freeze.cells (f : Freeze) : List Value := .int .i64 f.window :: .int .i64 f.count :: f.root.cells
def Freeze.v (f : Freeze) : Value := ag f.cells
@[simp] theorem Freeze.len (f : Freeze) : f.cells.length = 34 := by simp [Freeze.cells]
theorem Freeze.ones (f : Freeze) : Ones f.cells := .cons rfl (.cons rfl f.root.ones)

structure Head where
  size : Int
  root : Sum
  clock : Int
  mac : Sum
  deriving DecidableEq
def Head.zero : Head := ⟨0, Sum.zero, 0, Sum.zero⟩
def Head.cells (h : Head) : List Value := .int .i64 h.size :: (h.root.cells ++ .int .i64 h.clock :: h.mac.cells)
def Head.v (h : Head) : Value := ag h.cells
@[simp] theorem Head.len (h : Head) : h.cells.length = 66 := by simp [Head.cells]
theorem Head.ones (h : Head) : Ones h.cells := .cons rfl (.append h.root.ones (.cons rfl h.mac.ones))

structure Stone where
  freeze : Freeze
  at_ : Int
  mac : Sum
  deriving DecidableEq
def Stone.zero : Stone := ⟨Freeze.zero, 0, Sum.zero⟩
def Stone.cells (t : Stone) : List Value := t.freeze.cells ++ .int .i64 t.at_ :: t.mac.cells
def Stone.v (t : Stone) : Value := ag t.cells
@[simp] theorem Stone.len (t : Stone) : t.cells.length = 67 := by simp [Stone.cells]
theorem Stone.ones (t : Stone) : Ones t.cells := .append t.freeze.ones (.cons rfl t.mac.ones)

/-- A cite as it stands in memory: two slices. -/
structure CiteV where
  freeze : Freeze
  path : Value
  place : Int
  super : Value
  head : Head
def CiteV.zero : CiteV := ⟨Freeze.zero, .slice none 0 0, 0, .slice none 0 0, Head.zero⟩
def CiteV.cells (c : CiteV) : List Value := c.freeze.cells ++ c.path :: .int .i64 c.place :: c.super :: c.head.cells
def CiteV.v (c : CiteV) : Value := ag c.cells
@[simp] theorem CiteV.len (c : CiteV) : c.cells.length = 103 := by simp [CiteV.cells]

structure ToldV where
  err : Int
  n : Int
  m : Int
  record : Record
  stone : Stone
  path : Value
  head : Head
  cite : CiteV
def ToldV.zero : ToldV := ⟨0, 0, 0, Record.zero, Stone.zero, .slice none 0 0, Head.zero, CiteV.zero⟩
def ToldV.cells (t : ToldV) : List Value :=
  .int .i64 t.err :: .int .i64 t.n :: .int .i64 t.m :: (t.record.cells ++ (t.stone.cells ++ t.path :: (t.head.cells ++ t.cite.cells)))
def ToldV.v (t : ToldV) : Value := ag t.cells
@[simp] theorem ToldV.len (t : ToldV) : t.cells.length = 244 := by simp [ToldV.cells]

structure Ask where
  op : Int
  a : Int
  b : Int
  c : Int
  data : List UInt8
  deriving DecidableEq
def Ask.zero : Ask := ⟨0, 0, 0, 0, []⟩
def Ask.cells (x : Ask) : List Value := [.int .i64 x.op, .int .i64 x.a, .int .i64 x.b, .int .i64 x.c, str x.data]
def Ask.v (x : Ask) : Value := ag x.cells

structure File where
  name : List UInt8
  data : List UInt8
  deriving DecidableEq
def File.zero : File := ⟨[], []⟩
def File.cells (f : File) : List Value := [str f.name, str f.data]
def File.v (f : File) : Value := ag f.cells

structure FileOp where
  kind : Int
  name : List UInt8
  data : List UInt8
  n : Int
  deriving DecidableEq
def FileOp.zero : FileOp := ⟨0, [], [], 0⟩
def FileOp.cells (o : FileOp) : List Value := [.int .i64 o.kind, str o.name, str o.data, .int .i64 o.n]
def FileOp.v (o : FileOp) : Value := ag o.cells

/-- n words of 32 bits. -/
def words (l : List Nat) : List Value := l.map fun (x : Nat) => .int .u32 (x : Int)

end Go.Sh

namespace Go.Sh
open Go Go.RowKit

def w32 (x : UInt32) : Value := .int .u32 x.toNat
def w64 (n : Nat) : Value := .int .u64 n

def shl32 (x : UInt32) (s : Nat) : UInt32 := UInt32.ofNat (x.toNat * 2 ^ s)
def shr32 (x : UInt32) (s : Nat) : UInt32 := UInt32.ofNat (x.toNat / 2 ^ s)
def not32 (x : UInt32) : UInt32 := 4294967295 ^^^ x
def rotr (x : UInt32) (s : Nat) : UInt32 := shr32 x s ||| shl32 x (32 - s)

theorem w32_lt (x : UInt32) : x.toNat < 4294967296 := x.toNat_lt
theorem w32_ofNat (n : Nat) : (UInt32.ofNat n).toNat = n % 4294967296 := by simp [UInt32.toNat_ofNat']

section
variable {P : Program} {t : TypeId} {x y : UInt32}

theorem pu_w32add : Pu P (binOp .add t (w32 x) (w32 y)) (w32 (x + y)) := fun w => by
  unfold w32
  rw [pu_add w, IntKind.wrap_u32, UInt32.toNat_add]
  congr 2
theorem pu_w32and : Pu P (binOp .and t (w32 x) (w32 y)) (w32 (x &&& y)) := fun w => by
  unfold w32
  rw [binOp_and, intBits_and, u32_and_nat _ _ (w32_lt x) (w32_lt y), UInt32.toNat_and]; rfl
theorem pu_w32or : Pu P (binOp .or t (w32 x) (w32 y)) (w32 (x ||| y)) := fun w => by
  unfold w32
  rw [binOp_or, intBits_or, u32_or_nat _ _ (w32_lt x) (w32_lt y), UInt32.toNat_or]; rfl
theorem pu_w32xor : Pu P (binOp .xor t (w32 x) (w32 y)) (w32 (x ^^^ y)) := fun w => by
  unfold w32
  rw [binOp_xor, intBits_xor, u32_xor_nat _ _ (w32_lt x) (w32_lt y), UInt32.toNat_xor]; rfl
theorem pu_w32not : Pu P (Op.unary .xor (w32 x)) (w32 (not32 x)) := fun w => by
  unfold w32 not32
  rw [unary_xor, intBits_xor]
  have h := u32_xor_nat 4294967295 x.toNat (by decide) (w32_lt x)
  have e : (if IntKind.u32.signed then (-1 : Int) else IntKind.u32.max) = ((4294967295 : Nat) : Int) := by decide
  rw [e, h, UInt32.toNat_xor]; rfl
theorem pu_w32shr {k : IntKind} {s : Int} (h0 : 0 ≤ s) (h1 : s ≤ 32) : Pu P (binOp .shr t (w32 x) (.int k s)) (w32 (shr32 x s.toNat)) := fun w => by
  unfold w32 shr32
  rw [binOp_shr, w32_ofNat]
  have hm : min s.toNat IntKind.u32.bits = s.toNat := by
    have : IntKind.u32.bits = 32 := rfl
    omega
  have hp : (0 : Int) < 2 ^ s.toNat := Int.pow_pos (by decide)
  have e : (x.toNat : Int).fdiv (2 ^ s.toNat) = ((x.toNat / 2 ^ s.toNat : Nat) : Int) := by
    rw [Int.fdiv_eq_ediv_of_nonneg _ (Int.le_of_lt hp)]
    simp
  have hlt : x.toNat / 2 ^ s.toNat < 4294967296 := Nat.lt_of_le_of_lt (Nat.div_le_self _ _) (w32_lt x)
  rw [Nat.mod_eq_of_lt hlt]
  simp only [Op.shift, show ¬ s < 0 by omega, if_false, hm, e]
  rfl
theorem pu_w32shl {k : IntKind} {s : Int} (h0 : 0 ≤ s) (h1 : s ≤ 32) : Pu P (binOp .shl t (w32 x) (.int k s)) (w32 (shl32 x s.toNat)) := fun w => by
  unfold w32 shl32
  rw [binOp_shl, w32_ofNat]
  have hm : min s.toNat IntKind.u32.bits = s.toNat := by
    have : IntKind.u32.bits = 32 := rfl
    omega
  simp only [Op.shift, show ¬ s < 0 by omega, if_false, hm, IntKind.wrap_u32]
  have : ((x.toNat : Int) * 2 ^ s.toNat % 4294967296) = ((x.toNat * 2 ^ s.toNat % 4294967296 : Nat) : Int) := by simp
  rw [this]; rfl
theorem pu_neg {n : Int} (h : -9223372036854775808 ≤ -n ∧ -n ≤ 9223372036854775807) : Pu P (Op.unary .neg (.int .i64 n)) (.int .i64 (-n)) := fun w => by
  rw [unary_neg]
  have : (0 : Int) - n = -n := by omega
  simp only [Op.intArith, this, wrap_i64 h]; first | done | rfl
theorem pu_832 {s d : TypeId} [IsInt P s .u8] [IsInt P d .u32] {b : UInt8} : Pu P (convert s d (by_ b)) (w32 (UInt32.ofNat b.toNat)) := fun w => by
  have := pu_conv (P := P) (s := s) (d := d) (k := .u8) (n := b.toNat) w
  rw [IntKind.wrap_u32] at this
  have hb : b.toNat < 256 := b.toNat_lt
  unfold by_ w32
  rw [this, w32_ofNat, Nat.mod_eq_of_lt (by omega)]
  congr 2
  omega
theorem pu_328 {s d : TypeId} [IsInt P s .u32] [IsInt P d .u8] : Pu P (convert s d (w32 x)) (by_ (UInt8.ofNat x.toNat)) := fun w => by
  have := pu_conv (P := P) (s := s) (d := d) (k := .u32) (n := x.toNat) w
  rw [IntKind.wrap_u8] at this
  unfold by_ w32
  rw [this]
  congr 2

/-! ## Arrays in memory -/

theorem pu_idxA {ty len e n g o : Nat} [h : ArT P ty len e n] {i : Int} (h0 : 0 ≤ i) (h1 : i < len) : Pu P (Instr.indexAt ty (.pointer (some ⟨g, o, none⟩)) (.int .i64 i)) (.pointer (some ⟨g, o + i.toNat * n, none⟩)) := fun w => by
  simp only [Instr.indexAt, Sem.run_bind, asIntOf, Sem.run_pure, Result.andThen_ok, run_underlying h.und, Instr.sureAddr]
  simp only [h0, h1, and_self, if_true, Sem.run_bind, h.size, Result.andThen_ok, Sem.run_pure, Addr.add_lit]
/-- The elements have one cell, the array its own block. -/
theorem pu_idxA1 {ty len e g : Nat} [h : ArT P ty len e 1] {i : Int} (h0 : 0 ≤ i) (h1 : i < len) : Pu P (Instr.indexAt ty (.pointer (some ⟨g, 0, none⟩)) (.int .i64 i)) (.pointer (some ⟨g, i.toNat, none⟩)) := fun w => by
  rw [pu_idxA h0 h1 w]; first | done | simp
/-- An array by value. -/
theorem pu_idxV {ty len e : Nat} [h : ArT P ty len e 1] [h1 : One P e] {i : Int} {l : List Value} {v : Value} (h0 : 0 ≤ i) (hi : i < len) (hv : l[i.toNat]? = some v) : Pu P (Instr.index ty (ag l) (.int .i64 i)) v := fun w => by
  simp only [Instr.index, ag, Sem.run_bind, asIntOf, Sem.run_pure, Result.andThen_ok, run_underlying h.und]
  simp only [h0, hi, and_self, if_true, Sem.run_bind, h.size, Result.andThen_ok, part, h1.agg, Nat.mul_one, List.getElem?_toArray, hv]
  rfl
theorem pu_slA {ty len e n : Nat} [h : ArT P ty len e n] {a : Addr} : Pu P (Instr.sliceAt ty (.pointer (some a)) none none none) (.slice (some a) len len) := fun w => by
  have h0 : (0 : Nat) ≤ len := Nat.zero_le _
  simp [Instr.sliceAt, run_underlying h.und, Instr.sureAddr, Instr.sliceBounds, h.size]
  intro hl
  simp [hl, Addr.add]

/-- A whole array, as a slice. -/
theorem Rd.of_blk {w : World} {g T len sz : Nat} {cs : List Value} (h : Blk w g T cs) (hl : cs.length = len * sz) (hm : len ≤ maxLen) : Rd w T sz (.slice (some ⟨g, 0, none⟩) len len) len cs :=
  ⟨hl, hm, _, len, rfl, Nat.le_refl _, fun _ => ⟨g, 0, _, _, rfl, h, fun j u hj => by simpa using hj⟩⟩

/-- copy onto a block's beginning. -/
theorem SV_copy {ty rt e T sz g t d c m : Nat} [hT : SlT P ty e sz] {w : World} {cs ys : List Value} {u : Value} {k : Value → World → Prop} (h : Blk w g t cs) (hu : Rd w T sz u m ys) (hm : m ≤ d) (hfit : m * sz ≤ cs.length) (h1 : Ones ys)
    (hk : ∀ w', Blk w' g t (ys ++ cs.drop (m * sz)) → Ch (· = g) w w' → k (.int .i64 m) w') : SV P (Builtin.copy_ #[ty, ty] rt #[.slice (some ⟨g, 0, none⟩) d c, u]) w k := by
  obtain ⟨hyl, _, A, c', rfl, hc, h4⟩ := hu
  have hmin : Nat.min m d = m := Nat.min_eq_left hm
  have hst := run_storeCells_at P g 0 t ys 0 cs.toArray w h (by simp [hyl]; exact hfit) h1
  simp only [Nat.add_zero, Nat.zero_add] at hst
  have hf : (Builtin.firstCells sz m (.slice A m c')).run P w = .ok ys.toArray w := by
    rcases Nat.eq_zero_or_pos m with h0 | hp
    · subst h0
      have : ys = [] := List.eq_nil_of_length_eq_zero (by simpa using hyl)
      subst this
      cases A <;> simp [Builtin.firstCells, loadCells, loadCellsFrom]
    · obtain ⟨b, o, C, fr, rfl, hb, hx⟩ := h4 hp
      exact run_firstCells_some (P := P) w sz m ⟨b, o, none⟩ m c' ys hyl (fun j v hj => by rw [Addr.add_lit, cell_of_row w b _ C _ fr hb]; exact hx j v hj)
  refine ⟨_, w.setRow g (ys ++ cs.drop (m * sz)).toArray, ?_, hk _ (by unfold Blk; exact setRow_heap w g _ _ t _ h) (setRow_ch w g _)⟩
  have e1 : (cs.toArray.toList.take 0 ++ ys ++ cs.toArray.toList.drop ys.length).toArray = (ys ++ cs.drop (m * sz)).toArray := by simp [hyl]
  rw [e1] at hst
  simp [Builtin.copy_, run_underlying hT.und, hT.size, Builtin.lenOf, hmin, hf, hst]
  rfl
end
end Go.Sh

namespace Go.Sh
open Go Go.RowKit

/-! ## Built values -/

/-- A value's cells. -/
class Cl (v : Value) (cs : outParam (List Value)) (n : outParam Nat) : Prop where
  cells : v.cells = cs.toArray
  len : cs.length = n
  ones : Ones cs

instance {k : IntKind} {n : Int} : Cl (.int k n) [.int k n] 1 := ⟨rfl, rfl, .cons rfl .nil⟩
instance {b : Bool} : Cl (.bool b) [.bool b] 1 := ⟨rfl, rfl, .cons rfl .nil⟩
instance {l : List UInt8} : Cl (str l) [str l] 1 := ⟨rfl, rfl, .cons rfl .nil⟩
instance {a : Option Addr} : Cl (.pointer a) [.pointer a] 1 := ⟨rfl, rfl, .cons rfl .nil⟩
instance {a : Option Addr} {l c : Nat} : Cl (.slice a l c) [.slice a l c] 1 := ⟨rfl, rfl, .cons rfl .nil⟩
instance {x : UInt32} : Cl (w32 x) [w32 x] 1 := ⟨rfl, rfl, .cons rfl .nil⟩
instance {x : Int} : Cl (num x) [num x] 1 := ⟨rfl, rfl, .cons rfl .nil⟩
instance {x : UInt8} : Cl (by_ x) [by_ x] 1 := ⟨rfl, rfl, .cons rfl .nil⟩
instance {s : Sum} : Cl s.v s.cells 32 := ⟨rfl, s.len, s.ones⟩
instance {s : Sum} : Cl (ag s.cells) s.cells 32 := ⟨rfl, s.len, s.ones⟩
instance {s : Record} : Cl s.v s.cells 4 := ⟨rfl, s.len, s.ones⟩
instance {s : Record} : Cl (ag s.cells) s.cells 4 := ⟨rfl, s.len, s.ones⟩
instance {s : Freeze} : Cl s.v s.cells 34 := ⟨rfl, s.len, s.ones⟩
instance {s : Freeze} : Cl (ag s.cells) s.cells 34 := ⟨rfl, s.len, s.ones⟩
instance {s : Head} : Cl s.v s.cells 66 := ⟨rfl, s.len, s.ones⟩
instance {s : Head} : Cl (ag s.cells) s.cells 66 := ⟨rfl, s.len, s.ones⟩
instance {s : Stone} : Cl s.v s.cells 67 := ⟨rfl, s.len, s.ones⟩
instance {s : Stone} : Cl (ag s.cells) s.cells 67 := ⟨rfl, s.len, s.ones⟩
theorem Ask.ones (x : Ask) : Ones x.cells := .cons rfl (.cons rfl (.cons rfl (.cons rfl (.cons rfl .nil))))
instance {s : Ask} : Cl s.v s.cells 5 := ⟨rfl, rfl, s.ones⟩
instance {s : Ask} : Cl (ag s.cells) s.cells 5 := ⟨rfl, rfl, s.ones⟩
theorem File.ones (x : File) : Ones x.cells := .cons rfl (.cons rfl .nil)
instance {s : File} : Cl s.v s.cells 2 := ⟨rfl, rfl, s.ones⟩
instance {s : File} : Cl (ag s.cells) s.cells 2 := ⟨rfl, rfl, s.ones⟩
theorem FileOp.ones (x : FileOp) : Ones x.cells := .cons rfl (.cons rfl (.cons rfl (.cons rfl .nil)))
instance {s : FileOp} : Cl s.v s.cells 4 := ⟨rfl, rfl, s.ones⟩
instance {s : FileOp} : Cl (ag s.cells) s.cells 4 := ⟨rfl, rfl, s.ones⟩

/-- Where a type's parts lie, and the zero value's cells. -/
class Bld (P : Program) (t : TypeId) (pl : outParam (Nat → Option (Nat × Nat))) (zs : outParam (List Value)) : Prop where
  is : ∀ parts, P.built t parts = Instr.fill pl zs.toArray parts

theorem put_cells (off : Nat) : ∀ (l : List Value) (k : Nat) (C : Array Value), off + k + l.length ≤ C.size → (l.zipIdx k).foldl (fun cs (c, i) => cs.setIfInBounds (off + i) c) C = (C.toList.take (off + k) ++ l ++ C.toList.drop (off + k + l.length)).toArray := by
  intro l
  induction l with
  | nil => intro k C _; simp
  | cons x l ih =>
    intro k C hC
    simp only [List.length_cons] at hC
    have e1 : ((x :: l).zipIdx k).foldl (fun cs (c, i) => cs.setIfInBounds (off + i) c) C = (l.zipIdx (k + 1)).foldl (fun cs (c, i) => cs.setIfInBounds (off + i) c) (C.setIfInBounds (off + k) x) := by
      rw [List.zipIdx_cons, List.foldl_cons]
    rw [e1, ih (k + 1) _ (by simp; omega)]
    congr 1
    apply List.ext_getElem?
    intro i
    simp only [Array.toList_setIfInBounds, List.getElem?_append, List.length_append, List.length_take, List.length_set, Array.length_toList, List.getElem?_take, List.getElem?_drop, List.getElem?_set, List.length_cons]
    have m1 : min (off + (k + 1)) C.size = off + k + 1 := by omega
    have m2 : min (off + k) C.size = off + k := by omega
    simp only [m1, m2]
    rcases Nat.lt_trichotomy i (off + k) with h | h | h
    · simp [show i < off + k + 1 + l.length by omega, show i < off + k + 1 by omega, show i < off + (k + 1) by omega, show i < off + k + (l.length + 1) by omega, h, show ¬ off + k = i by omega]
    · subst h
      simp [show off + k < off + k + 1 + l.length by omega, show off + k < off + (k + 1) by omega, show off + k < C.size by omega]
    · by_cases h2 : i < off + k + 1 + l.length
      · have e : i - (off + k) = (i - (off + k + 1)) + 1 := by omega
        simp [h2, show ¬ i < off + k + 1 by omega, show i < off + k + (l.length + 1) by omega, show ¬ i < off + k by omega, e]
      · have e2 : i - (off + k + (l.length + 1)) = i - (off + k + 1 + l.length) := by omega
        simp only [h2, if_false, show ¬ i < off + k + (l.length + 1) by omega, e2]
        have e3 : off + (k + 1) + l.length = off + k + (l.length + 1) := by omega
        rw [e3, if_neg (by omega)]

/-- The cells with these parts laid in, one behind the other. -/
def fillS (zs : List Value) : Nat → List (Nat × List Value × Nat) → List Value
  | p, [] => zs.drop p
  | p, (off, cs, n) :: r => (zs.drop p).take (off - p) ++ (cs ++ fillS zs (off + n) r)

inductive FillOk (pl : Nat → Option (Nat × Nat)) (N : Nat) : Nat → List (Nat × Value) → List (Nat × List Value × Nat) → Prop
  | nil (p : Nat) : FillOk pl N p [] []
  | cons' {p i off n : Nat} {v : Value} {cs : List Value} {r : List (Nat × Value)} {l : List (Nat × List Value × Nat)} (h : pl i = some (off, n)) (hv : v.cells = cs.toArray) (hl : cs.length = n) (hp : p ≤ off) (hn : off + n ≤ N)
    (hr : FillOk pl N (off + n) r l) : FillOk pl N p ((i, v) :: r) ((off, cs, n) :: l)

theorem FillOk.cons {pl : Nat → Option (Nat × Nat)} {N p i off n : Nat} {v : Value} {cs : List Value} {r : List (Nat × Value)} {l : List (Nat × List Value × Nat)} [hc : Cl v cs n] (h : pl i = some (off, n)) (hp : Nat.ble p off = true) (hn : Nat.ble (off + n) N = true)
    (hr : FillOk pl N (off + n) r l) : FillOk pl N p ((i, v) :: r) ((off, cs, n) :: l) :=
  .cons' h hc.cells hc.len (Nat.le_of_ble_eq_true hp) (Nat.le_of_ble_eq_true hn) hr

theorem fill_ok {pl : Nat → Option (Nat × Nat)} {zs : List Value} : ∀ (parts : List (Nat × Value)) (p : Nat) (l : List (Nat × List Value × Nat)) (done : List Value), FillOk pl zs.length p parts l → done.length = p → p ≤ zs.length →
    Instr.fill pl (done ++ zs.drop p).toArray parts = some (done ++ fillS zs p l).toArray
  | [], p, l, done, h, _, _ => by
    cases h
    rfl
  | (i, v) :: r, p, l, done, h, hd, hpz => by
    cases h with
    | @cons' _ _ off n _ cs _ l' hpl hv hl hp hn hr =>
      have hsz : (done ++ zs.drop p).length = zs.length := by rw [List.length_append, List.length_drop, hd]; omega
      have hput := put_cells off cs 0 (done ++ zs.drop p).toArray (by rw [List.size_toArray, hsz]; omega)
      have hkeep : (done ++ zs.drop p).take off = done ++ (zs.drop p).take (off - p) := by
        rw [List.take_append, hd, List.take_of_length_le (by omega)]
      have hdrop : (done ++ zs.drop p).drop (off + n) = zs.drop (off + n) := by
        rw [List.drop_append, hd, List.drop_eq_nil_of_le (by omega), List.nil_append, List.drop_drop]
        congr 1; omega
      have := fill_ok r (off + n) l' (done ++ (zs.drop p).take (off - p) ++ cs) hr (by simp only [List.length_append, List.length_take, List.length_drop, hd, hl]; omega) hn
      simp only [Instr.fill, hpl, hv, List.size_toArray, hl, hsz]
      rw [if_neg (by simp; omega), ← Array.foldl_toList, Array.toList_zipIdx, List.toList_toArray, hput]
      simp only [Nat.add_zero, hl, List.toList_toArray, hkeep, hdrop]
      rw [this]
      simp [fillS, List.append_assoc]

section
variable {P : Program}

theorem pu_build {t : TypeId} {pl : Nat → Option (Nat × Nat)} {zs : List Value} [hb : Bld P t pl zs] {parts : List (Nat × Value)} {l : List (Nat × List Value × Nat)} (h : FillOk pl zs.length 0 parts l) :
    Pu P (Instr.build t parts.toArray) (ag (fillS zs 0 l)) := fun w =>
  run_build w t parts.toArray _ (by rw [hb.is]; exact fill_ok parts 0 l [] h rfl (Nat.zero_le _))

/-! ## Results that lie in memory -/

variable {w : World} {g t : Nat} {cs : List Value}

theorem CR_N {ty n : TypeId} [hm : Many P ty n] {k : Value → Prop} (h : Blk w g t cs) (hl : cs.length = n) (hk : k (ag cs)) : CR P ty (.pointer (some ⟨g, 0, none⟩)) w k := by
  refine ⟨_, ?_, hk⟩
  exact run_loadN (P := P) (ty := ty) (a := ⟨g, 0, none⟩) hl (h.cells (o := 0) (n := n) (by simp [← hl]))
theorem CR_1 {ty : TypeId} [h1 : One P ty] {k : Value → Prop} {v : Value} (h : Blk w g t [v]) (hk : k v) : CR P ty (.pointer (some ⟨g, 0, none⟩)) w k := by
  refine ⟨_, ?_, hk⟩
  exact run_load1 (P := P) (ty := ty) (a := ⟨g, 0, none⟩) (h.cell 0)

/-! ## Texts -/

theorem run_bstr {s d e T n : Nat} [hs : SlT P s e 1] [he : IsInt P e .u8] [hd : IsStr P d] {v : Value} {l : List UInt8} (h : Rd w T 1 v n (l.map by_)) : (convert s d v).run P w = .ok (str l) w := by
  obtain ⟨h1, _, A, c, rfl, _, h4⟩ := h
  have hln : l.length = n := by simpa using h1
  rcases Nat.eq_zero_or_pos n with h0 | hp
  · subst h0
    have : l = [] := List.eq_nil_of_length_eq_zero hln
    subst this
    cases A with
    | none => rw [run_convert_bytes_nil w s e hs.und he.und 0 c d hd.und]; rfl
    | some a =>
      have := run_convert_bytes_back (P := P) w s d e a c [] hs.und he.und hd.und (fun j hj => absurd hj (by simp))
      exact this
  · obtain ⟨b, o, C, fr, rfl, hb, hx⟩ := h4 hp
    subst hln
    refine run_convert_bytes_back (P := P) w s d e _ c l hs.und he.und hd.und fun j hj => ?_
    rw [Addr.add_lit, cell_of_row w b _ C T fr hb]
    have := hx j (by_ l[j]) (by simp [hj])
    rw [this]; rfl
theorem SV_bstr {s d e T n : Nat} [SlT P s e 1] [IsInt P e .u8] [IsStr P d] {v : Value} {l : List UInt8} {k : Value → World → Prop} (h : Rd w T 1 v n (l.map by_)) (hk : k (str l) w) : SV P (convert s d v) w k := ⟨_, w, run_bstr h, hk⟩
theorem HV_bstr {s d e T n : Nat} [SlT P s e 1] [IsInt P e .u8] [IsStr P d] {v : Value} {l : List UInt8} {S : Nat → Prop} {k : Value → Prop} (h : Rd w T 1 v n (l.map by_)) (hS : ∀ b, v.ownBlock = some b → ¬ S b) (hk : k (str l)) : HV P (Kp S w) (convert s d v) k :=
  ⟨_, fun _ hw => run_bstr (h.ch hw hS), hk⟩

theorem size_str (l : List UInt8) : (ByteArray.mk l.toArray).size = l.length := by simp [ByteArray.size]

theorem pu_sls_l {t : TypeId} [h : IsStr P t] {l : List UInt8} {a : Int} (h0 : 0 ≤ a) (h1 : a ≤ l.length) : Pu P (Instr.sliceAt t (str l) (some (.int .i64 a)) none none) (str (l.drop a.toNat)) := fun w => by
  rw [run_sliceAt_string w t _ _ _ _ h.und]
  unfold str
  rw [run_slice_string_l w t _ h.und .i64 a h0 (by rw [size_str]; exact h1), ByteArray.extract_mk, size_str, List.take_of_length_le (by simp)]
theorem pu_sls_h {t : TypeId} [h : IsStr P t] {l : List UInt8} {b : Int} (h0 : 0 ≤ b) (h1 : b ≤ l.length) : Pu P (Instr.sliceAt t (str l) none (some (.int .i64 b)) none) (str (l.take b.toNat)) := fun w => by
  rw [run_sliceAt_string w t _ _ _ _ h.und]
  unfold str
  rw [run_slice_string_h w t _ h.und .i64 b h0 (by rw [size_str]; exact h1), ByteArray.extract_mk, List.drop_zero, Nat.sub_zero]
theorem pu_sls_lh {t : TypeId} [h : IsStr P t] {l : List UInt8} {a b : Int} (h0 : 0 ≤ a) (hab : a ≤ b) (h1 : b ≤ l.length) :
    Pu P (Instr.sliceAt t (str l) (some (.int .i64 a)) (some (.int .i64 b)) none) (str ((l.drop a.toNat).take (b.toNat - a.toNat))) := fun w => by
  rw [run_sliceAt_string w t _ _ _ _ h.und]
  unfold str
  rw [run_slice_string (P := P) (w := w) t _ .i64 .i64 a b h.und (by omega) hab (by rw [size_str]; exact h1), ByteArray.extract_mk]
end
end Go.Sh

namespace Go.Sh
open Go Go.RowKit

/-- A step that touches no memory, what it yields, and what it asks. -/
class PuC (P : Program) (s : Sem Value) (v : outParam Value) (side : outParam Prop) : Prop where
  is : side → Pu P s v

section
variable {P : Program}
theorem SV_p {s : Sem Value} {v : Value} {side : Prop} {w : World} {k : Value → World → Prop} [h : PuC P s v side] (hs : side) (hk : k v w) : SV P s w k := SV_pu (h.is hs) hk
theorem HV_p {C : World → Prop} {s : Sem Value} {v : Value} {side : Prop} {k : Value → Prop} [h : PuC P s v side] (hs : side) (hk : k v) : HV P C s k := HV_pu (h.is hs) hk

instance {a : Addr} : PuC P (nilS (.pointer (some a))) (.pointer (some a)) True := ⟨fun _ => pu_nil⟩
instance {f : FuncId} {x y : Array Value} : PuC P (nilS (.func (.func f) x y)) (.func (.func f) x y) True := ⟨fun _ => pu_nil_fn⟩
instance {s : TypeId} {i off g : Nat} [h : Fld P s i off] : PuC P (Instr.fieldAt s (.pointer (some ⟨g, 0, none⟩)) i) (.pointer (some ⟨g, off, none⟩)) True := ⟨fun _ => pu_fld0⟩
instance (priority := 500) {s : TypeId} {i off g o : Nat} [h : Fld P s i off] : PuC P (Instr.fieldAt s (.pointer (some ⟨g, o, none⟩)) i) (.pointer (some ⟨g, o + off, none⟩)) True := ⟨fun _ => pu_fld⟩
instance {t ty e n : Nat} [h : SlT P t e n] {a : Option Addr} {l c : Nat} : PuC P (Builtin.len_ #[t] ty #[.slice a l c]) (.int .i64 l) True := ⟨fun _ => pu_len⟩
instance {t ty : Nat} [h : IsStr P t] {l : List UInt8} : PuC P (Builtin.len_ #[t] ty #[str l]) (.int .i64 l.length) True := ⟨fun _ => pu_len_str⟩
instance {t : TypeId} {a b : Int} : PuC P (binOp .add t (.int .i64 a) (.int .i64 b)) (.int .i64 (a + b)) (-9223372036854775808 ≤ a + b ∧ a + b ≤ 9223372036854775807) := ⟨pu_add64⟩
instance {t : TypeId} {a b : Int} : PuC P (binOp .sub t (.int .i64 a) (.int .i64 b)) (.int .i64 (a - b)) (-9223372036854775808 ≤ a - b ∧ a - b ≤ 9223372036854775807) := ⟨pu_sub64⟩
instance {t : TypeId} {a b : Int} : PuC P (binOp .mul t (.int .i64 a) (.int .i64 b)) (.int .i64 (a * b)) (-9223372036854775808 ≤ a * b ∧ a * b ≤ 9223372036854775807) := ⟨pu_mul64⟩
instance {t : TypeId} {a b : Int} : PuC P (binOp .quo t (.int .i64 a) (.int .i64 b)) (.int .i64 (a / b)) ((0 ≤ a ∧ a ≤ 9223372036854775807) ∧ 0 < b) := ⟨fun h => pu_quo64 h.1 h.2⟩
instance {t : TypeId} {a b : Int} : PuC P (binOp .rem t (.int .i64 a) (.int .i64 b)) (.int .i64 (a % b)) (0 ≤ a ∧ 0 < b) := ⟨fun h => pu_rem64 h.1 h.2⟩
instance {t : TypeId} {k : IntKind} {a b : Int} : PuC P (binOp .lss t (.int k a) (.int k b)) (.bool (decide (a < b))) True := ⟨fun _ => pu_lss⟩
instance {t : TypeId} {k : IntKind} {a b : Int} : PuC P (binOp .leq t (.int k a) (.int k b)) (.bool (decide (a ≤ b))) True := ⟨fun _ => pu_leq⟩
instance {t : TypeId} {k : IntKind} {a b : Int} : PuC P (binOp .gtr t (.int k a) (.int k b)) (.bool (decide (b < a))) True := ⟨fun _ => pu_gtr⟩
instance {t : TypeId} {k : IntKind} {a b : Int} : PuC P (binOp .geq t (.int k a) (.int k b)) (.bool (decide (b ≤ a))) True := ⟨fun _ => pu_geq⟩
instance {t : TypeId} {k : IntKind} {a b : Int} {x y : Operand} : PuC P (eqS .eql t x y (.int k a) (.int k b)) (.bool (decide (a = b))) True := ⟨fun _ => pu_eql⟩
instance {t : TypeId} {k : IntKind} {a b : Int} {x y : Operand} : PuC P (eqS .neq t x y (.int k a) (.int k b)) (.bool (decide (a ≠ b))) True := ⟨fun _ => pu_neq⟩
instance {t : TypeId} [h : IsBool P t] {a b : Bool} {x y : Operand} : PuC P (eqS .eql t x y (.bool a) (.bool b)) (.bool (decide (a = b))) True := ⟨fun _ => pu_eqlb⟩
instance {t : TypeId} [h : IsBool P t] {a b : Bool} {x y : Operand} : PuC P (eqS .neq t x y (.bool a) (.bool b)) (.bool (decide (a ≠ b))) True := ⟨fun _ => pu_neqb⟩
instance {t : TypeId} {a b : List UInt8} {x y : Operand} : PuC P (eqS .eql t x y (str a) (str b)) (.bool (decide (a = b))) True := ⟨fun _ => pu_eqls⟩
instance {t : TypeId} {a b : List UInt8} {x y : Operand} : PuC P (eqS .neq t x y (str a) (str b)) (.bool (decide (a ≠ b))) True := ⟨fun _ => pu_neqs⟩
instance {t : TypeId} [IsPtr P t] {x y : Operand} : PuC P (eqS .eql t x y (.pointer none) (.pointer none)) (.bool true) True := ⟨fun _ => pu_eql_np⟩
instance {t : TypeId} [IsPtr P t] {a : Addr} {x y : Operand} : PuC P (eqS .eql t x y (.pointer (some a)) (.pointer none)) (.bool false) True := ⟨fun _ => pu_eql_pp⟩
instance {t : TypeId} [IsPtr P t] {x y : Operand} : PuC P (eqS .neq t x y (.pointer none) (.pointer none)) (.bool false) True := ⟨fun _ => pu_neq_np⟩
instance {t : TypeId} [IsPtr P t] {a : Addr} {x y : Operand} : PuC P (eqS .neq t x y (.pointer (some a)) (.pointer none)) (.bool true) True := ⟨fun _ => pu_neq_pp⟩
instance {t : TypeId} {a b : List UInt8} : PuC P (binOp .add t (str a) (str b)) (str (a ++ b)) (a.length + b.length ≤ 9223372036854775807) := ⟨pu_adds⟩
instance {b : Bool} : PuC P (Op.unary .not (.bool b)) (.bool (!b)) True := ⟨fun _ => pu_not⟩
instance {n : Int} : PuC P (Op.unary .neg (.int .i64 n)) (.int .i64 (-n)) (-9223372036854775808 ≤ -n ∧ -n ≤ 9223372036854775807) := ⟨pu_neg⟩
instance {x y : Value} : PuC P (do pure (if ← asBool (.bool true) then x else y)) x True := ⟨fun _ => pu_pickt⟩
instance {x y : Value} : PuC P (do pure (if ← asBool (.bool false) then x else y)) y True := ⟨fun _ => pu_pickf⟩
instance (priority := 500) {b : Bool} {x y : Value} : PuC P (do pure (if ← asBool (.bool b) then x else y)) (if b then x else y) True := ⟨fun _ => pu_pick⟩
instance {fn : Fn} {x y : Array Value} : PuC P (Instr.makeFunc fn x y) (.func fn x y) True := ⟨fun _ => pu_fn⟩
instance {ts : Array TypeId} {t : TypeId} {k k' : IntKind} {x y : Int} : PuC P (Builtin.max_ ts t #[.int k x, .int k' y]) (.int k (max x y)) True := ⟨fun _ => pu_max⟩
instance {ts : Array TypeId} {t : TypeId} {k k' : IntKind} {x y : Int} : PuC P (Builtin.min_ ts t #[.int k x, .int k' y]) (.int k (min x y)) True := ⟨fun _ => pu_min⟩
instance {t : TypeId} {x y : UInt32} : PuC P (binOp .add t (w32 x) (w32 y)) (w32 (x + y)) True := ⟨fun _ => pu_w32add⟩
instance {t : TypeId} {x y : UInt32} : PuC P (binOp .and t (w32 x) (w32 y)) (w32 (x &&& y)) True := ⟨fun _ => pu_w32and⟩
instance {t : TypeId} {x y : UInt32} : PuC P (binOp .or t (w32 x) (w32 y)) (w32 (x ||| y)) True := ⟨fun _ => pu_w32or⟩
instance {t : TypeId} {x y : UInt32} : PuC P (binOp .xor t (w32 x) (w32 y)) (w32 (x ^^^ y)) True := ⟨fun _ => pu_w32xor⟩
instance {x : UInt32} : PuC P (Op.unary .xor (w32 x)) (w32 (not32 x)) True := ⟨fun _ => pu_w32not⟩
instance {t : TypeId} {x : UInt32} {k : IntKind} {s : Int} : PuC P (binOp .shr t (w32 x) (.int k s)) (w32 (shr32 x s.toNat)) (0 ≤ s ∧ s ≤ 32) := ⟨fun h => pu_w32shr h.1 h.2⟩
instance {t : TypeId} {x : UInt32} {k : IntKind} {s : Int} : PuC P (binOp .shl t (w32 x) (.int k s)) (w32 (shl32 x s.toNat)) (0 ≤ s ∧ s ≤ 32) := ⟨fun h => pu_w32shl h.1 h.2⟩
instance {s d : TypeId} [IsInt P s .u8] [IsInt P d .u32] {b : UInt8} : PuC P (convert s d (by_ b)) (w32 (UInt32.ofNat b.toNat)) True := ⟨fun _ => pu_832⟩
instance {s d : TypeId} [IsInt P s .u32] [IsInt P d .u8] {x : UInt32} : PuC P (convert s d (w32 x)) (by_ (UInt8.ofNat x.toNat)) True := ⟨fun _ => pu_328⟩
instance (priority := 400) {s d : TypeId} {ks kd k : IntKind} [hs : IsInt P s ks] [hd : IsInt P d kd] {n : Int} : PuC P (convert s d (.int k n)) (.int kd (kd.wrap n)) True := ⟨fun _ => pu_conv⟩
instance {t len e n : Nat} [h : ArT P t len e n] {a : Addr} : PuC P (Instr.sliceAt t (.pointer (some a)) none none none) (.slice (some a) len len) True := ⟨fun _ => pu_slA⟩
instance {t len e g : Nat} [h : ArT P t len e 1] {i : Int} : PuC P (Instr.indexAt t (.pointer (some ⟨g, 0, none⟩)) (.int .i64 i)) (.pointer (some ⟨g, i.toNat, none⟩)) (0 ≤ i ∧ i < len) := ⟨fun h => pu_idxA1 h.1 h.2⟩
instance (priority := 500) {t len e n g o : Nat} [h : ArT P t len e n] {i : Int} : PuC P (Instr.indexAt t (.pointer (some ⟨g, o, none⟩)) (.int .i64 i)) (.pointer (some ⟨g, o + i.toNat * n, none⟩)) (0 ≤ i ∧ i < len) := ⟨fun h => pu_idxA h.1 h.2⟩
instance {t : TypeId} [h : IsStr P t] {l : List UInt8} {a : Int} : PuC P (Instr.sliceAt t (str l) (some (.int .i64 a)) none none) (str (l.drop a.toNat)) (0 ≤ a ∧ a ≤ l.length) := ⟨fun h => pu_sls_l h.1 h.2⟩
instance {t : TypeId} [h : IsStr P t] {l : List UInt8} {b : Int} : PuC P (Instr.sliceAt t (str l) none (some (.int .i64 b)) none) (str (l.take b.toNat)) (0 ≤ b ∧ b ≤ l.length) := ⟨fun h => pu_sls_h h.1 h.2⟩
instance {t : TypeId} [h : IsStr P t] {l : List UInt8} {a b : Int} : PuC P (Instr.sliceAt t (str l) (some (.int .i64 a)) (some (.int .i64 b)) none) (str ((l.drop a.toNat).take (b.toNat - a.toNat))) (0 ≤ a ∧ a ≤ b ∧ b ≤ l.length) := ⟨fun h => pu_sls_lh h.1 h.2.1 h.2.2⟩
instance {a : Value} : PuC P (Instr.extract (.tuple #[a]) 0) a True := ⟨fun _ => pu_ext rfl⟩
instance {a b : Value} : PuC P (Instr.extract (.tuple #[a, b]) 0) a True := ⟨fun _ => pu_ext rfl⟩
instance {a b : Value} : PuC P (Instr.extract (.tuple #[a, b]) 1) b True := ⟨fun _ => pu_ext rfl⟩
instance {a b c : Value} : PuC P (Instr.extract (.tuple #[a, b, c]) 0) a True := ⟨fun _ => pu_ext rfl⟩
instance {a b c : Value} : PuC P (Instr.extract (.tuple #[a, b, c]) 1) b True := ⟨fun _ => pu_ext rfl⟩
instance {a b c : Value} : PuC P (Instr.extract (.tuple #[a, b, c]) 2) c True := ⟨fun _ => pu_ext rfl⟩
end
end Go.Sh

namespace Go.Sh
open Go Go.RowKit

structure Fact where
  fp : List Nat
  ro : Nat → Prop
  is : World → Prop
  lt : ∀ w, is w → ∀ b, (b ∈ fp ∨ ro b) → b < w.heap.size
  loc : ∀ w w', is w → (∀ b, (b ∈ fp ∨ ro b) → w'.heap[b]? = w.heap[b]?) → is w'

def Hold (F : List Fact) (w : World) : Prop := ∀ f ∈ F, f.is w
def fps (F : List Fact) : List Nat := F.flatMap Fact.fp
def ros (F : List Fact) (b : Nat) : Prop := ∃ f ∈ F, f.ro b

structure Mem (w : World) (F : List Fact) : Prop where
  is : Hold F w
  nd : (fps F).Nodup
  ap : ∀ b ∈ fps F, ¬ ros F b

/-- From the world w0, in which A was known, to the world w, in which F is. -/
structure St (w0 : World) (A : List Fact) (w : World) (F : List Fact) : Prop where
  mem : Mem w F
  ch : Ch (· ∈ fps A) w0 w
  fp : ∀ b ∈ fps F, b ∈ fps A ∨ w0.heap.size ≤ b
  ro : ∀ b, ros F b → ros A b ∨ b ∈ fps A ∨ w0.heap.size ≤ b

theorem fps_cons (f : Fact) (F : List Fact) : fps (f :: F) = f.fp ++ fps F := rfl
theorem fps_append (F G : List Fact) : fps (F ++ G) = fps F ++ fps G := by simp [fps]
theorem ros_append {F G : List Fact} {b : Nat} : ros (F ++ G) b ↔ ros F b ∨ ros G b := by
  unfold ros
  constructor
  · rintro ⟨f, hf, h⟩
    rcases List.mem_append.1 hf with hf | hf
    · exact .inl ⟨f, hf, h⟩
    · exact .inr ⟨f, hf, h⟩
  · rintro (⟨f, hf, h⟩ | ⟨f, hf, h⟩)
    · exact ⟨f, List.mem_append_left _ hf, h⟩
    · exact ⟨f, List.mem_append_right _ hf, h⟩
theorem mem_fps {F : List Fact} {b : Nat} : b ∈ fps F ↔ ∃ f ∈ F, b ∈ f.fp := by simp [fps]

section
variable {w0 w w' : World} {A F R X Y : List Fact}

theorem Hold.fp_lt (h : Hold F w) {b : Nat} (hb : b ∈ fps F) : b < w.heap.size := by
  obtain ⟨f, hf, hb⟩ := mem_fps.1 hb
  exact f.lt w (h f hf) b (.inl hb)
theorem Hold.ro_lt (h : Hold F w) {b : Nat} (hb : ros F b) : b < w.heap.size := by
  obtain ⟨f, hf, hb⟩ := hb
  exact f.lt w (h f hf) b (.inr hb)

theorem St.start (h : Mem w A) : St w A w A := ⟨h, Ch.refl w, fun _ h => .inl h, fun _ h => .inl h⟩

/-- The frame rule: X becomes Y, R stays. -/
theorem St.core (m : St w0 A w F) (hX : ∀ f ∈ X, f ∈ F) (hR : ∀ f ∈ R, f ∈ F) (hp : (fps F).Perm (fps X ++ fps R)) (x : St w X w' Y) : St w0 A w' (Y ++ R) := by
  have hnd : (fps X ++ fps R).Nodup := hp.nodup_iff.1 m.mem.nd
  obtain ⟨hndX, hndR, hdj⟩ := List.nodup_append.1 hnd
  have dj : ∀ b, b ∈ fps X → b ∈ fps R → False := fun b h1 h2 => hdj b h1 b h2 rfl
  have fX : ∀ b, b ∈ fps X → b ∈ fps F := fun b h => hp.mem_iff.2 (List.mem_append_left _ h)
  have fR : ∀ b, b ∈ fps R → b ∈ fps F := fun b h => hp.mem_iff.2 (List.mem_append_right _ h)
  have rX : ∀ b, ros X b → ros F b := fun b ⟨f, hf, h⟩ => ⟨f, hX f hf, h⟩
  have rR : ∀ b, ros R b → ros F b := fun b ⟨f, hf, h⟩ => ⟨f, hR f hf, h⟩
  have hRw : Hold R w := fun f hf => m.mem.is f (hR f hf)
  have lR : ∀ b, b ∈ fps R → b < w.heap.size := fun b h => hRw.fp_lt h
  have lrR : ∀ b, ros R b → b < w.heap.size := fun b h => hRw.ro_lt h
  have z := m.ch.size
  refine ⟨⟨?_, ?_, ?_⟩, m.ch.trans' x.ch ?_, ?_, ?_⟩
  · intro f hf
    rcases List.mem_append.1 hf with hf | hf
    · exact x.mem.is f hf
    · refine f.loc w w' (hRw f hf) fun b hb => x.ch.block b (f.lt w (hRw f hf) b hb) fun hbX => ?_
      rcases hb with hb | hb
      · exact dj b hbX (mem_fps.2 ⟨f, hf, hb⟩)
      · exact m.mem.ap b (fX b hbX) (rR b ⟨f, hf, hb⟩)
  · rw [fps_append]
    refine List.nodup_append.2 ⟨x.mem.nd, hndR, fun a ha b hb hab => ?_⟩
    subst hab
    rcases x.fp a ha with h | h
    · exact dj a h hb
    · have := lR a hb; omega
  · intro b hb hr
    rw [fps_append] at hb
    rcases List.mem_append.1 hb with hb | hb <;> rcases ros_append.1 hr with hr | hr
    · exact x.mem.ap b hb hr
    · rcases x.fp b hb with h | h
      · exact m.mem.ap b (fX b h) (rR b hr)
      · have := lrR b hr; omega
    · rcases x.ro b hr with h | h | h
      · exact m.mem.ap b (fR b hb) (rX b h)
      · exact dj b h hb
      · have := lR b hb; omega
    · exact m.mem.ap b (fR b hb) (rR b hr)
  · intro i hi hiX
    rcases m.fp i (fX i hiX) with h | h
    · exact h
    · omega
  · intro b hb
    rw [fps_append] at hb
    rcases List.mem_append.1 hb with hb | hb
    · rcases x.fp b hb with h | h
      · exact m.fp b (fX b h)
      · exact .inr (by omega)
    · exact m.fp b (fR b hb)
  · intro b hb
    rcases ros_append.1 hb with hb | hb
    · rcases x.ro b hb with h | h | h
      · exact m.ro b (rX b h)
      · exact .inr (m.fp b (fX b h))
      · exact .inr (.inr (by omega))
    · exact m.ro b (rR b hb)

/-! ## Parts of a list of facts -/

/-- f is in F; R is the rest (all of F, if f owns nothing). -/
inductive Rem : List Fact → Fact → List Fact → Prop
  | keep {f : Fact} {F : List Fact} (h : f.fp = []) : Rem (f :: F) f (f :: F)
  | here {f : Fact} {F : List Fact} : Rem (f :: F) f F
  | there {f g : Fact} {F R : List Fact} (h : Rem F f R) : Rem (g :: F) f (g :: R)

inductive Frm : List Fact → List Fact → List Fact → Prop
  | nil {F : List Fact} : Frm F [] F
  | cons {f : Fact} {F G X R : List Fact} (h : Rem F f G) (h' : Frm G X R) : Frm F (f :: X) R

theorem Rem.mem {f : Fact} {F R : List Fact} (h : Rem F f R) : f ∈ F ∧ (∀ g ∈ R, g ∈ F) ∧ (fps F).Perm (f.fp ++ fps R) := by
  induction h with
  | keep h => exact ⟨List.mem_cons_self, fun g hg => hg, by rw [h]; exact List.Perm.refl _⟩
  | here => exact ⟨List.mem_cons_self, fun g hg => List.mem_cons_of_mem _ hg, List.Perm.refl _⟩
  | @there f g F R _ ih =>
    refine ⟨List.mem_cons_of_mem _ ih.1, fun x hx => ?_, ?_⟩
    · rcases List.mem_cons.1 hx with rfl | hx
      · exact List.mem_cons_self
      · exact List.mem_cons_of_mem _ (ih.2.1 x hx)
    · rw [fps_cons, fps_cons]
      refine (List.Perm.append_left _ ih.2.2).trans ?_
      rw [← List.append_assoc, ← List.append_assoc]
      exact List.Perm.append_right _ List.perm_append_comm

theorem Frm.mem {F X R : List Fact} (h : Frm F X R) : (∀ f ∈ X, f ∈ F) ∧ (∀ g ∈ R, g ∈ F) ∧ (fps F).Perm (fps X ++ fps R) := by
  induction h with
  | nil => exact ⟨fun f hf => (by cases hf), fun g hg => hg, List.Perm.refl _⟩
  | @cons f F G X R h _ ih =>
    obtain ⟨h1, h2, h3⟩ := h.mem
    obtain ⟨k1, k2, k3⟩ := ih
    refine ⟨fun x hx => ?_, fun g hg => h2 g (k2 g hg), ?_⟩
    · rcases List.mem_cons.1 hx with rfl | hx
      · exact h1
      · exact h2 x (k1 x hx)
    · rw [fps_cons, List.append_assoc]
      exact h3.trans (List.Perm.append_left _ k3)

theorem Mem.sub (h : Mem w F) (hf : Frm F X R) : Mem w X := by
  obtain ⟨h1, _, h3⟩ := hf.mem
  refine ⟨fun f hf => h.is f (h1 f hf), (List.nodup_append.1 (h3.nodup_iff.1 h.nd)).1, fun b hb ⟨f, hf, hr⟩ => h.ap b (h3.mem_iff.2 (List.mem_append_left _ hb)) ⟨f, h1 f hf, hr⟩⟩

theorem St.fr (m : St w0 A w F) (hf : Frm F X R) (x : St w X w' Y) : St w0 A w' (Y ++ R) := m.core hf.mem.1 hf.mem.2.1 hf.mem.2.2 x
/-- What is not asked any more is dropped. -/
theorem St.sub (m : St w0 A w F) (hf : Frm F X R) : St w0 A w X := by
  obtain ⟨h1, _, h3⟩ := hf.mem
  exact ⟨m.mem.sub hf, m.ch, fun b hb => m.fp b (h3.mem_iff.2 (List.mem_append_left _ hb)), fun b ⟨f, hf, hr⟩ => m.ro b ⟨f, h1 f hf, hr⟩⟩
theorem St.get (m : St w0 A w F) (hf : Frm F X R) : Mem w X := m.mem.sub hf

theorem St.no (m : St w0 A w F) (h : Ch No w w') : St w0 A w' F :=
  St.core (X := []) (Y := []) m (fun _ h => (by cases h)) (fun _ h => h) (List.Perm.refl _)
    ⟨⟨fun _ h => (by cases h), List.nodup_nil, fun _ h => (by cases h)⟩, h.mono fun _ _ h => h.elim, fun _ h => (by cases h), fun _ ⟨_, h, _⟩ => (by cases h)⟩
theorem St.drew (m : St w0 A w F) : St w0 A w.drew F := m.no (Ch.drew w)
theorem St.size (m : St w0 A w F) : w0.heap.size ≤ w.heap.size := m.ch.size
theorem St.chNo (m : St w0 [] w F) : Ch No w0 w := m.ch.mono fun _ _ h => by cases h

theorem fps_one (f : Fact) : fps [f] = f.fp := by simp [fps]
theorem ros_one {f : Fact} {b : Nat} : ros [f] b ↔ f.ro b := by simp [ros]

/-- One new fact. -/
theorem St.new (m : St w0 A w F) {f : Fact} (h : Ch No w w') (hf : f.is w') (hn : f.fp.Nodup) (hfp : ∀ b ∈ f.fp, w.heap.size ≤ b) (hro : ∀ b, f.ro b → ros F b ∨ w.heap.size ≤ b) (hap : ∀ b ∈ f.fp, ¬ f.ro b) : St w0 A w' (f :: F) := by
  have m' := m.no h
  have z := m.ch.size
  have z' := h.size
  refine ⟨⟨?_, ?_, ?_⟩, m'.ch, ?_, ?_⟩
  · intro g hg
    rcases List.mem_cons.1 hg with rfl | hg
    · exact hf
    · exact m'.mem.is g hg
  · rw [fps_cons]
    refine List.nodup_append.2 ⟨hn, m.mem.nd, fun a ha b hb hab => ?_⟩
    subst hab
    have := hfp a ha
    have := m.mem.is.fp_lt hb
    omega
  · intro b hb hr
    have hr' : f.ro b ∨ ros F b := by
      obtain ⟨g, hg, hr⟩ := hr
      rcases List.mem_cons.1 hg with rfl | hg
      · exact .inl hr
      · exact .inr ⟨g, hg, hr⟩
    rw [fps_cons] at hb
    rcases List.mem_append.1 hb with hb | hb
    · rcases hr' with hr | hr
      · exact hap b hb hr
      · have := hfp b hb
        have := m.mem.is.ro_lt hr
        omega
    · rcases hr' with hr | hr
      · rcases hro b hr with hr | hr
        · exact m.mem.ap b hb hr
        · have := m.mem.is.fp_lt hb
          omega
      · exact m.mem.ap b hb hr
  · intro b hb
    rw [fps_cons] at hb
    rcases List.mem_append.1 hb with hb | hb
    · have := hfp b hb
      exact .inr (by omega)
    · exact m.fp b hb
  · rintro b ⟨g, hg, hr⟩
    rcases List.mem_cons.1 hg with rfl | hg
    · rcases hro b hr with hr | hr
      · exact m.ro b hr
      · exact .inr (.inr (by omega))
    · exact m.ro b ⟨g, hg, hr⟩

/-- A fact turned where it stands. -/
class Rep (F : List Fact) (f f' : Fact) (F' : outParam (List Fact)) : Prop where
  ex : ∃ G, F.Perm (f :: G) ∧ F'.Perm (f' :: G)
instance (priority := 1100) {F : List Fact} {f f' : Fact} : Rep (f :: F) f f' (f' :: F) := ⟨F, List.Perm.refl _, List.Perm.refl _⟩
instance (priority := 900) {F F' : List Fact} {f f' g : Fact} [h : Rep F f f' F'] : Rep (g :: F) f f' (g :: F') := by
  obtain ⟨G, h1, h2⟩ := h.ex
  exact ⟨g :: G, (List.Perm.cons g h1).trans (List.Perm.swap _ _ _), (List.Perm.cons g h2).trans (List.Perm.swap _ _ _)⟩

theorem fps_perm {F G : List Fact} (h : F.Perm G) : (fps F).Perm (fps G) := List.Perm.flatMap_right _ h
theorem St.perm (m : St w0 A w F) {G : List Fact} (h : F.Perm G) : St w0 A w G := by
  have hr : ∀ b, ros G b → ros F b := fun b ⟨f, hf, hr⟩ => ⟨f, h.mem_iff.2 hf, hr⟩
  have hp := fps_perm h
  exact ⟨⟨fun f hf => m.mem.is f (h.mem_iff.2 hf), hp.nodup_iff.1 m.mem.nd, fun b hb hr' => m.mem.ap b (hp.mem_iff.2 hb) (hr b hr')⟩, m.ch, fun b hb => m.fp b (hp.mem_iff.2 hb), fun b hb => m.ro b (hr b hb)⟩
theorem St.rep {f f' : Fact} {F' : List Fact} (m : St w0 A w F) [h : Rep F f f' F'] (x : St w [f] w' [f']) : St w0 A w' F' := by
  obtain ⟨G, h1, h2⟩ := h.ex
  have := St.core (X := [f]) (Y := [f']) (R := G) (m.perm h1) (fun g hg => by cases List.mem_singleton.1 hg; exact List.mem_cons_self) (fun g hg => List.mem_cons_of_mem _ hg) (by rw [fps_one]; exact List.Perm.refl _) x
  exact this.perm h2.symm
theorem Rep.mem {f f' : Fact} {F' : List Fact} (h : Rep F f f' F') : f ∈ F := by
  obtain ⟨G, h1, _⟩ := h.ex
  exact h1.mem_iff.2 List.mem_cons_self

theorem St.one {f f' : Fact} (hf : f'.is w') (hc : Ch (· ∈ f.fp) w w') (hn : f'.fp.Nodup) (hfp : ∀ b ∈ f'.fp, b ∈ f.fp ∨ w.heap.size ≤ b) (hro : ∀ b, f'.ro b → f.ro b ∨ b ∈ f.fp ∨ w.heap.size ≤ b) (hap : ∀ b ∈ f'.fp, ¬ f'.ro b) : St w [f] w' [f'] := by
  refine ⟨⟨fun g hg => by cases List.mem_singleton.1 hg; exact hf, by rw [fps_one]; exact hn, fun b hb => ?_⟩, by rw [fps_one]; exact hc, fun b hb => ?_, fun b hb => ?_⟩
  · rw [fps_one] at hb; rw [ros_one]; exact hap b hb
  · rw [fps_one] at hb ⊢; exact hfp b hb
  · rw [fps_one, ros_one]; exact hro b (ros_one.1 hb)
end

/-! ## Facts -/

section
variable {α : Type}

theorem heap_lt {w : World} {g : Nat} {o : Obj} (h : w.heap[g]? = some o) : g < w.heap.size := by
  rcases Nat.lt_or_ge g w.heap.size with h' | h'
  · exact h'
  · rw [Array.getElem?_eq_none h'] at h; cases h

/-- A block that is known whole. -/
def bk (g t : Nat) (cs : List Value) : Fact where
  fp := [g]
  ro := fun _ => False
  is := fun w => Blk w g t cs
  lt := fun w h b hb => by
    rcases hb with hb | hb
    · cases List.mem_singleton.1 hb; exact h.lt
    · exact hb.elim
  loc := fun w w' h hb => (hb g (.inl (List.mem_singleton.2 rfl))).trans h

/-- A block that is only read. -/
def rk (g t : Nat) (cs : List Value) : Fact where
  fp := []
  ro := fun b => b = g
  is := fun w => Blk w g t cs
  lt := fun w h b hb => by
    rcases hb with hb | rfl
    · cases hb
    · exact h.lt
  loc := fun w w' h hb => (hb g (.inr rfl)).trans h

/-- A type of elements. -/
structure Elt (α : Type) where
  e : Nat
  sz : Nat
  c : α → List Value
  len : ∀ x, (c x).length = sz
  ones : ∀ x, Ones (c x)

def Elt.all (E : Elt α) (l : List α) : List Value := l.flatMap E.c
theorem Elt.all_len (E : Elt α) (l : List α) : (E.all l).length = l.length * E.sz := by
  induction l with
  | nil => simp [Elt.all]
  | cons a l ih => unfold Elt.all at *; rw [List.flatMap_cons, List.length_append, E.len, ih, List.length_cons, Nat.add_mul]; omega
theorem Elt.all_drop (E : Elt α) (l : List α) (i : Nat) : (E.all l).drop (i * E.sz) = E.all (l.drop i) := by
  unfold Elt.all
  induction l generalizing i with
  | nil => simp
  | cons a l ih =>
    cases i with
    | zero => simp
    | succ i =>
      have : (i + 1) * E.sz = (E.c a).length + i * E.sz := by rw [E.len, Nat.add_mul]; omega
      rw [List.flatMap_cons, this, List.drop_length_add_append, ih i]
      rfl
theorem Elt.all_take (E : Elt α) (l : List α) (i : Nat) : (E.all l).take (i * E.sz) = E.all (l.take i) := by
  unfold Elt.all
  induction l generalizing i with
  | nil => simp
  | cons a l ih =>
    cases i with
    | zero => simp
    | succ i =>
      have : (i + 1) * E.sz = (E.c a).length + i * E.sz := by rw [E.len, Nat.add_mul]; omega
      rw [List.flatMap_cons, this, List.take_length_add_append, ih i]
      rfl
theorem Elt.all_at (E : Elt α) {l : List α} {i : Nat} (h : i < l.length) : ((E.all l).drop (i * E.sz)).take E.sz = E.c l[i] := by
  rw [E.all_drop, List.drop_eq_getElem_cons h]
  unfold Elt.all
  rw [List.flatMap_cons]
  exact List.take_left' (E.len _)
theorem Elt.all_append (E : Elt α) (l m : List α) : E.all (l ++ m) = E.all l ++ E.all m := by simp [Elt.all]
theorem Elt.all_ones (E : Elt α) (l : List α) : Ones (E.all l) := Ones.flat E.ones l

theorem Rd.blk_lt {w : World} {e sz n : Nat} {v : Value} {xs : List Value} (h : Rd w e sz v n xs) (hn : 0 < n) {b : Nat} (hb : v.ownBlock = some b) : b < w.heap.size := by
  obtain ⟨_, _, A, c, rfl, _, h4⟩ := h
  obtain ⟨b', o, C, fr, rfl, hb', _⟩ := h4 hn
  have : b' = b := by simpa [Value.ownBlock] using hb
  subst this
  exact heap_lt hb'
theorem Rd.loc {w w' : World} {e sz n : Nat} {v : Value} {xs : List Value} (h : Rd w e sz v n xs) (hb : ∀ b, 0 < n → v.ownBlock = some b → w'.heap[b]? = w.heap[b]?) : Rd w' e sz v n xs := by
  obtain ⟨h1, h2, A, c, rfl, h3, h4⟩ := h
  refine ⟨h1, h2, A, c, rfl, h3, fun hn => ?_⟩
  obtain ⟨b, o, C, fr, rfl, hb', hx⟩ := h4 hn
  exact ⟨b, o, C, fr, rfl, by rw [hb b hn rfl]; exact hb', hx⟩

/-- A slice that is only read. -/
def sl (E : Elt α) (v : Value) (l : List α) : Fact where
  fp := []
  ro := fun b => 0 < l.length ∧ v.ownBlock = some b
  is := fun w => ∃ T, Rd w T E.sz v l.length (E.all l)
  lt := fun w h b hb => by
    obtain ⟨T, h⟩ := h
    rcases hb with hb | hb
    · cases hb
    · exact h.blk_lt hb.1 hb.2
  loc := fun w w' h hb => by
    obtain ⟨T, h⟩ := h
    exact ⟨T, h.loc fun b hn hv => hb b (.inr ⟨hn, hv⟩)⟩

/-- A slice of one's own. -/
def own (E : Elt α) (v : Value) (l : List α) : Fact where
  fp := v.ownBlock.toList
  ro := fun _ => False
  is := fun w => w.ownsRow 0 E.e E.sz v l.length (E.all l)
  lt := fun w h b hb => by
    rcases hb with hb | hb
    · exact (h.lt b (by simpa using hb)).2
    · exact hb.elim
  loc := fun w w' h hb => by
    obtain ⟨h1, h2⟩ := h
    refine ⟨h1, h2.imp id ?_⟩
    rintro ⟨g, cap, cur, rfl, hg, hh, r⟩
    exact ⟨g, cap, cur, rfl, hg, by rw [hb g (.inl (by simp [Value.ownBlock]))]; exact hh, r⟩

/-- Cells at a pointer. -/
def pt (p : Value) (cs : List Value) : Fact where
  fp := []
  ro := fun b => 0 < cs.length ∧ pBlk p = some b
  is := fun w => Pt w p cs
  lt := fun w h b hb => by
    rcases hb with hb | ⟨hn, hb⟩
    · cases hb
    · obtain ⟨a, rfl, h⟩ := h
      have hbl : a.block = b := by simpa [pBlk] using hb
      have := h 0 cs[0] (by simp [hn])
      rw [Addr.add_zero'] at this
      have := World.block_lt_of_cell? w _ this
      omega
  loc := fun w w' h hb => by
    obtain ⟨a, rfl, h⟩ := h
    refine ⟨a, rfl, fun j u hj => ?_⟩
    have hbl : (a.add j).block = a.block := by unfold Addr.add; split <;> rfl
    have hpos : 0 < cs.length := by
      rcases Nat.eq_zero_or_pos cs.length with h0 | h0
      · rw [List.eq_nil_of_length_eq_zero h0] at hj; simp at hj
      · exact h0
    rw [World.cell?_of_block (w := w) (by rw [hbl]; exact hb _ (.inr ⟨hpos, rfl⟩))]
    exact h j u hj

/-! ## Looking facts up -/

class HasB (F : List Fact) (g : Nat) (t : outParam Nat) (cs : outParam (List Value)) : Prop where
  mem : bk g t cs ∈ F
instance (priority := 1100) {F : List Fact} {g t : Nat} {cs : List Value} : HasB (bk g t cs :: F) g t cs := ⟨List.mem_cons_self⟩
instance (priority := 900) {F : List Fact} {g t : Nat} {cs : List Value} {f : Fact} [h : HasB F g t cs] : HasB (f :: F) g t cs := ⟨List.mem_cons_of_mem _ h.mem⟩

/-- A block that may be read. -/
class HasR (F : List Fact) (g : Nat) (t : outParam Nat) (cs : outParam (List Value)) : Prop where
  is : ∀ w, (∀ f ∈ F, f.is w) → Blk w g t cs
instance (priority := 1100) {F : List Fact} {g t : Nat} {cs : List Value} : HasR (bk g t cs :: F) g t cs := ⟨fun _ h => h _ List.mem_cons_self⟩
instance (priority := 1100) {F : List Fact} {g t : Nat} {cs : List Value} : HasR (rk g t cs :: F) g t cs := ⟨fun _ h => h _ List.mem_cons_self⟩
instance (priority := 900) {F : List Fact} {g t : Nat} {cs : List Value} {f : Fact} [h : HasR F g t cs] : HasR (f :: F) g t cs := ⟨fun w hw => h.is w fun f hf => hw f (List.mem_cons_of_mem _ hf)⟩

class HasS {α : outParam Type} (F : List Fact) (v : Value) (E : outParam (Elt α)) (l : outParam (List α)) : Prop where
  rd : ∀ w, Hold F w → ∃ T, Rd w T E.sz v l.length (E.all l)
theorem Hold.tail {f : Fact} {F : List Fact} {w : World} (h : Hold (f :: F) w) : Hold F w := fun g hg => h g (List.mem_cons_of_mem _ hg)
theorem Hold.head {f : Fact} {F : List Fact} {w : World} (h : Hold (f :: F) w) : f.is w := h f List.mem_cons_self
instance (priority := 1100) {F : List Fact} {E : Elt α} {v : Value} {l : List α} : HasS (sl E v l :: F) v E l := ⟨fun _ h => h.head⟩
instance (priority := 1100) {F : List Fact} {E : Elt α} {v : Value} {l : List α} : HasS (own E v l :: F) v E l := ⟨fun _ h => ⟨_, Rd.of_own h.head⟩⟩
instance (priority := 900) {F : List Fact} {E : Elt α} {v : Value} {l : List α} {f : Fact} [h : HasS F v E l] : HasS (f :: F) v E l := ⟨fun w hw => h.rd w hw.tail⟩

/-- A slice that is only read, by its fact. -/
class HasL {α : outParam Type} (F : List Fact) (v : Value) (E : outParam (Elt α)) (l : outParam (List α)) : Prop where
  mem : sl E v l ∈ F
instance (priority := 1100) {F : List Fact} {E : Elt α} {v : Value} {l : List α} : HasL (sl E v l :: F) v E l := ⟨List.mem_cons_self⟩
instance (priority := 900) {F : List Fact} {E : Elt α} {v : Value} {l : List α} {f : Fact} [h : HasL F v E l] : HasL (f :: F) v E l := ⟨List.mem_cons_of_mem _ h.mem⟩

class HasO {α : outParam Type} (F : List Fact) (v : Value) (E : outParam (Elt α)) (l : outParam (List α)) : Prop where
  mem : own E v l ∈ F
instance (priority := 1100) {F : List Fact} {E : Elt α} {v : Value} {l : List α} : HasO (own E v l :: F) v E l := ⟨List.mem_cons_self⟩
instance (priority := 900) {F : List Fact} {E : Elt α} {v : Value} {l : List α} {f : Fact} [h : HasO F v E l] : HasO (f :: F) v E l := ⟨List.mem_cons_of_mem _ h.mem⟩

/-- A part of a list of facts. -/
class SubF (K F : List Fact) : Prop where
  sub : ∀ f ∈ K, f ∈ F
class InF (f : Fact) (F : List Fact) : Prop where
  mem : f ∈ F
instance (priority := 1100) {F : List Fact} {f : Fact} : InF f (f :: F) := ⟨List.mem_cons_self⟩
instance (priority := 900) {F : List Fact} {f g : Fact} [h : InF f F] : InF f (g :: F) := ⟨List.mem_cons_of_mem _ h.mem⟩
instance (priority := 1200) {F : List Fact} : SubF F F := ⟨fun _ h => h⟩
instance (priority := 1100) {F : List Fact} : SubF [] F := ⟨fun _ h => (by cases h)⟩
instance (priority := 1000) {K F : List Fact} {g : Fact} [h : SubF K F] : SubF K (g :: F) := ⟨fun f hf => List.mem_cons_of_mem _ (h.sub f hf)⟩
instance (priority := 900) {K F : List Fact} {f : Fact} [h1 : InF f F] [h2 : SubF K F] : SubF (f :: K) F := ⟨fun g hg => by
  rcases List.mem_cons.1 hg with rfl | hg
  · exact h1.mem
  · exact h2.sub g hg⟩

/-- The cell at a place. -/
class GetC (cs : List Value) (o : Nat) (v : outParam Value) : Prop where
  is : cs[o]? = some v
instance {a : Value} {l : List Value} : GetC (a :: l) 0 a := ⟨rfl⟩
instance {a v : Value} {l : List Value} {k : Nat} [h : GetC l k v] : GetC (a :: l) (k + 1) v := ⟨h.is⟩
/-- The cells of a part. -/
class Prt (cs : List Value) (o n : Nat) (vs : outParam (List Value)) : Prop where
  is : (cs.drop o).take n = vs
  len : vs.length = n
/-- How many cells there are. -/
class LenC (cs : List Value) (n : outParam Nat) : Prop where
  is : cs.length = n
instance (priority := 100) {cs : List Value} {n : Nat} [h : LenC cs n] : Prt cs 0 n cs := ⟨by rw [← h.is]; simp, h.is⟩
/-- The cells with one turned. -/
class SetC (cs : List Value) (o : Nat) (v : Value) (cs' : outParam (List Value)) : Prop where
  is : cs.set o v = cs'
  lt : o < cs.length
instance {a v : Value} {l : List Value} : SetC (a :: l) 0 v (v :: l) := ⟨rfl, by simp⟩
instance {a v : Value} {l l' : List Value} {k : Nat} [h : SetC l k v l'] : SetC (a :: l) (k + 1) v (a :: l') := ⟨by simp [h.is], by simp [h.lt]⟩
/-- One cell's value. -/
class One1 (v : Value) : Prop where
  is : v.oneCell' = true
instance {k : IntKind} {n : Int} : One1 (.int k n) := ⟨rfl⟩
instance {b : Bool} : One1 (.bool b) := ⟨rfl⟩
instance {l : List UInt8} : One1 (str l) := ⟨rfl⟩
instance {a : Option Addr} : One1 (.pointer a) := ⟨rfl⟩
instance {a : Option Addr} {l c : Nat} : One1 (.slice a l c) := ⟨rfl⟩
end
end Go.Sh
