/-
  The engine: a weakest-precondition calculus over named values, computed from a function's code, and its soundness.
-/
import Derived.Calls
import Derived.Tactics
import Derived.Scope
import Derived.Deep.Quiet
import Derived.Below
import Derived.KernelRfl
namespace Go.Sh
open Go Go.RowKit

/-! ## Environments -/

abbrev Env := List (Nat × Value)

def look : Env → Nat → Value
  | [], _ => undef
  | (j, v) :: E, i => cond (Nat.beq j i) v (look E i)

def ev (E : Env) : Operand → Value
  | .tmp t => look E t
  | .const v => v
  | .global g => .pointer (some ⟨g, 0, none⟩)
  | .func f => .func (.func f) #[] #[]

def putE (E : Env) : Option Tmp → Value → Env
  | some d, v => (d, v) :: E
  | none, _ => E

theorem not_of_ne {b want : Bool} (h : ¬ b = want) : b = !want := by cases b <;> cases want <;> first | rfl | exact absurd rfl h

theorem blt_lt {a b : Nat} (h : Nat.blt a b = true) : a < b := Nat.le_of_ble_eq_true h

theorem look_cons (j : Nat) (v : Value) (E : Env) (i : Nat) : look ((j, v) :: E) i = if j = i then v else look E i := by
  simp only [look]
  by_cases h : j = i
  · subst h; simp
  · have : Nat.beq j i = false := by
      cases hb : Nat.beq j i
      · rfl
      · exact absurd (Nat.eq_of_beq_eq_true hb) h
    simp [this, h]

/-! ## What an operation does -/

inductive OpR where
  | ret (v : Value)
  | val (s : Sem Value)
  | unit (s : Sem Unit)
  | next (s : Sem Next)
  | bad (s : Sem Next)

def OpR.sem : OpR → Sem Next
  | .ret v => pure (.value v)
  | .val s => do pure (.value (← s))
  | .unit s => do s; pure .skip
  | .next s => s
  | .bad s => s

/-- A call of a function value. -/
def callV (f : Value) (args : Array Value) : Sem Next := do
  let d ← Deferred.ofValue f args
  invoke d.target d.args

def calleeR (ρ : Operand → Value) (f : Operand) (args : Array Operand) : Sem Next :=
  match f with
  | .func k => callFunc k (args.map ρ)
  | f => callV (ρ f) (args.map ρ)

def builtinR (b : Builtin) (ats : Array TypeId) (ty : TypeId) (consts : Array Bool) (args : Array Value) : OpR :=
  match b with
  | .append => .val (Builtin.append_ ats ty args)
  | .cap => .val (Builtin.cap_ ats ty args)
  | .copy => .val (Builtin.copy_ ats ty args)
  | .delete => .val (Builtin.delete_ ats ty args)
  | .len => .val (Builtin.len_ ats ty args)
  | .max => .val (Builtin.max_ ats ty args)
  | .min => .val (Builtin.min_ ats ty args)
  | .clear => .val (Builtin.clear_ ats ty args)
  | b => .next (builtin b ats ty consts args)

/-- A nil check. -/
def nilS (v : Value) : Sem Value :=
  match v with
  | .pointer none | .nilIface | .nilFunc => runtimePanic .nilDeref
  | .func (.method name) first captured =>
    match (first[0]? : Option Value) with
    | some .nilIface => runtimePanic .nilDeref
    | some (.iface t w) => do
      if (← nilAhead ((← program).types.size + Made.depth) t w name) != some false then
        unsupported (.noEntry "op/nilCheck.the method's receiver behind this interface value is a nil pointer, or cannot be seen to be none, and the arguments act or may panic (ledger 612)")
      pure (.func (.method name) first captured)
    | _ => pure (.func (.method name) first captured)
  | x => pure x

/-- '==' and '!='. -/
def eqS (op : BinOp) (t : TypeId) (x y : Operand) (a b : Value) : Sem Value := do eqGuard op t x y a b; binOp op t a b

def opR (ρ : Operand → Value) (o : Oper) : OpR :=
  match o.op with
  | .move x | .assign x => .ret (ρ x)
  | .pick c a b => .val (do pure (if ← asBool (ρ c) then ρ a else ρ b))
  | .alloc elem => .val (Instr.alloc elem true (.tuple #[]))
  | .box elem x => .val (Instr.box elem (ρ x))
  | .build t parts => .val (Instr.build t (parts.map fun (i, x) => (i, ρ x)))
  | .buildSlice t len parts => .val (Instr.buildSlice t len (parts.map fun (i, x) => (i, ρ x)))
  | .load t a => .val (Instr.loadAt t (ρ a))
  | .store t a x => .unit (Instr.storeAt t (ρ a) (ρ x))
  | .nilCheck x => .val (nilS (ρ x))
  | .binOp .eql xType x y _ => .val (eqS .eql xType x y (ρ x) (ρ y))
  | .binOp .neq xType x y _ => .val (eqS .neq xType x y (ρ x) (ρ y))
  | .binOp op xType x y _ => .val (binOp op xType (ρ x) (ρ y))
  | .makeInterface xType x => .val (Instr.makeInterface xType (ρ x))
  | .unOp op _ x => .val (Op.unary op (ρ x))
  | .convert src dst x => .val (convert src dst (ρ x))
  | .makeFunc fn first captured => .val (Instr.makeFunc fn (first.map ρ) (captured.map ρ))
  | .makeMap t r => .val (Instr.makeMap t (r.map ρ))
  | .makeSlice t l c => .val (Instr.makeSlice t (ρ l) (ρ c))
  | .slice t x lo hi mx => .val (Instr.sliceAt t (ρ x) (lo.map ρ) (hi.map ρ) (mx.map ρ))
  | .fieldAddr s x f => .val (Instr.fieldAt s (ρ x) f)
  | .field xType x f => .val (Instr.field xType (ρ x) f)
  | .indexAddr t x ix => .val (Instr.indexAt t (ρ x) (ρ ix))
  | .index xType x ix => .val (Instr.index xType (ρ x) (ρ ix))
  | .extract t ix => .val (Instr.extract (ρ t) ix)
  | .lookup xType x ix ok => .val (Instr.lookup xType (ρ x) (ρ ix) ok)
  | .mapUpdate t m k x => .unit (Instr.mapUpdate t (ρ m) (ρ k) (ρ x))
  | .range xType x => .val (Instr.range xType (ρ x))
  | .next it isString => .val (Instr.next (ρ it) isString o.type)
  | .call { callee := .builtin b, args, argTypes } => builtinR b argTypes o.type (args.map fun | .const _ => true | _ => false) (args.map ρ)
  | .call { callee := .value f, args, .. } => .next (calleeR ρ f args)
  | _ => .bad (execOp ρ o)

theorem Sem.bind_pure' {α : Type} (s : Sem α) : Sem.bind s Sem.pure = s := by
  induction s with
  | pure a => rfl
  | halt h => rfl
  | load m a k ih => simp only [Sem.bind]; congr; funext v; exact ih v
  | store m a v k ih => simp only [Sem.bind, ih]
  | new o k ih => simp only [Sem.bind]; congr; funext v; exact ih v
  | shape r k ih => simp only [Sem.bind]; congr; funext v; exact ih v
  | freeze a n k ih => simp only [Sem.bind, ih]
  | frozen a k ih => simp only [Sem.bind]; congr; funext v; exact ih v
  | getObj r k ih => simp only [Sem.bind]; congr; funext v; exact ih v
  | setObj r o k ih => simp only [Sem.bind, ih]
  | choose q k ih => simp only [Sem.bind]; congr; funext v; exact ih v
  | sys c k ih => simp only [Sem.bind]; congr; funext v; exact ih v
  | program k ih => simp only [Sem.bind]; congr; funext v; exact ih v
  | mark m k ih => simp only [Sem.bind, ih]

theorem sem_builtinR (b : Builtin) (ats : Array TypeId) (ty : TypeId) (consts : Array Bool) (args : Array Value) :
    (builtinR b ats ty consts args).sem = builtin b ats ty consts args := by
  cases b <;> rfl

theorem resolve_func (ρ : Operand → Value) (k : FuncId) (args : Array Operand) (argTypes : Array TypeId) (ty : TypeId) :
    (do let d ← resolve ρ { callee := .value (.func k), args, argTypes } ty; invoke d.target d.args) = (do
      let d ← Deferred.ofValue (ρ (.func k)) (args.map ρ); invoke d.target d.args) := rfl

theorem sem_opR (E : Env) (o : Oper) : (opR (ev E) o).sem = execOp (ev E) o := by
  obtain ⟨dst, op, type, pos, after, guard⟩ := o
  cases op with
  | call c =>
    obtain ⟨callee, args, argTypes⟩ := c
    cases callee with
    | value f =>
      cases f with
      | func k =>
        show callFunc k (args.map (ev E)) = _
        simp only [execOp, resolve, ev, Deferred.ofValue, invoke]
        show _ = callFunc k ((#[] ++ args.map (ev E)) ++ #[])
        simp
      | tmp t => rfl
      | const v => rfl
      | global g => rfl
    | invoke r m => rfl
    | builtin b =>
      show (builtinR _ _ _ _ _).sem = _
      rw [sem_builtinR]
      rfl
  | nilCheck x =>
    show OpR.sem (.val (nilS (ev E x))) = execOp (ev E) _
    simp only [execOp]
    generalize ev E x = v
    cases v with
    | func fn first captured =>
      cases fn with
      | method name =>
        simp only [nilS, OpR.sem]
        cases hf : (first[0]? : Option Value) with
        | none => rfl
        | some u => cases u <;> first | rfl | (simp only [bind_assoc]; congr; funext x; congr; funext y; split <;> rfl)
      | _ => rfl
    | pointer a => cases a <;> rfl
    | _ => rfl
  | binOp op t x y yt => cases op <;> rfl
  | pick c a b =>
    show OpR.sem (.val (do pure (if ← asBool (ev E c) then ev E a else ev E b))) = (do pure (.value (if ← asBool (ev E c) then ev E a else ev E b)))
    generalize ev E c = v
    cases v <;> rfl
  | _ => rfl

/-! ## Weakest preconditions -/

/-- A value's run. -/
def SV (P : Program) (s : Sem Value) (w : World) (k : Value → World → Prop) : Prop := ∃ v w', s.run P w = .ok v w' ∧ k v w'
/-- A store's run. -/
def SU (P : Program) (s : Sem Unit) (w : World) (k : World → Prop) : Prop := ∃ w', s.run P w = .ok () w' ∧ k w'

def retP (k : Value → World → Prop) : Ending → World → Prop
  | .returned v, w => k v w
  | _, _ => False

/-- A call's run. -/
def SN (P : Program) (s : Sem Next) (w : World) (k : Value → World → Prop) : Prop :=
  match s.run P w with
  | .ok (.value v) w' => k v w'
  | .ok .skip w' => k undef w'
  | .ok (.enter f args) w' => Calls P f args w' (retP k)
  | _ => False

def opW (P : Program) (r : OpR) (w : World) (k : Value → World → Prop) : Prop :=
  match r with
  | .ret v => k v w
  | .val s => SV P s w k
  | .unit s => SU P s w (k undef)
  | .next s => SN P s w k
  | .bad _ => False

/-- A guarded operation. -/
def GD (v : Value) (want : Bool) (X Y : Prop) : Prop :=
  match v with
  | .bool b => if b = want then X else Y
  | _ => False

/-! ### What is known of temporaries -/

inductive Kn where
  | unk
  | undef
  | bool (b : Bool)

abbrev Dec := List (Nat × Kn)

def kn : Dec → Nat → Kn
  | [], _ => .unk
  | (j, k) :: D, i => cond (Nat.beq j i) k (kn D i)

def knOp (D : Dec) : Operand → Kn
  | .tmp t => kn D t
  | .const (.bool b) => .bool b
  | _ => .unk

def knPut (D : Dec) : Option Tmp → Kn → Dec
  | some d, k => (d, k) :: D
  | none, _ => D

inductive Gd where
  | yes
  | no
  | ask (d : Nat) (want : Bool)

def gdOf (all : List Oper) (D : Dec) (o : Oper) : Gd :=
  match o.guard with
  | none => .yes
  | some (j, want) =>
    match (all[j]?).bind (·.dst) with
    | none => .no
    | some d => match kn D d with
      | .bool true => cond want .yes .no
      | .bool false => cond want .no .yes
      | .undef => .no
      | .unk => .ask d want

def opRK (D : Dec) (ρ : Operand → Value) (o : Oper) : OpR × Kn :=
  match o.op with
  | .move x | .assign x => (.ret (ρ x), knOp D x)
  | .pick c a b => match knOp D c with
    | .bool true => (.ret (ρ a), knOp D a)
    | .bool false => (.ret (ρ b), knOp D b)
    | _ => (opR ρ o, .unk)
  | _ => (opR ρ o, .unk)

def vcOps (P : Program) (all : List Oper) (k : Env → World → Prop) : List Oper → Dec → Env → World → Prop
  | [], _, E, w => k E w
  | o :: rest, D, E, w =>
    match gdOf all D o with
    | .yes => opW P (opRK D (ev E) o).1 w fun v w' => vcOps P all k rest (knPut D o.dst (opRK D (ev E) o).2) (putE E o.dst v) w'
    | .no => vcOps P all k rest (knPut D o.dst .undef) (putE E o.dst undef) w
    | .ask d want => GD (look E d) want
        (opW P (opRK ((d, .bool want) :: D) (ev E) o).1 w fun v w' => vcOps P all k rest (knPut ((d, .bool want) :: D) o.dst (opRK ((d, .bool want) :: D) (ev E) o).2) (putE E o.dst v) w')
        (vcOps P all k rest (knPut ((d, .bool (!want)) :: D) o.dst .undef) (putE E o.dst undef) w)

/-! ### A region that draws its order -/

def loudB (o : Oper) : Bool :=
  match o.op with
  | .store .. | .alloc _ | .box .. | .buildSlice .. | .makeSlice .. | .makeMap .. | .mapUpdate .. => true
  | .call { callee := .builtin b, .. } => (match b with | .len | .cap | .max | .min => false | _ => true)
  | .move _ | .assign _ | .pick .. | .build .. | .load .. | .nilCheck _ | .binOp .. | .unOp .. | .convert .. | .makeFunc .. | .makeInterface .. | .slice .. | .fieldAddr .. | .field .. | .indexAddr .. | .index ..
  | .extract .. | .lookup .. => false
  | _ => true

/-- For each operation, as bits: what stands ahead of it in every order. -/
def ancBits (acc : List Nat) : List Edge → Nat
  | [] => 0
  | e :: es => cond (Region.binds .any e) (2 ^ e.on ||| acc.getD e.on 0 ||| ancBits acc es) (ancBits acc es)

def ancGo : List Nat → List Oper → List Nat
  | acc, [] => acc
  | acc, o :: l => ancGo (acc ++ [ancBits acc o.after.toList]) l

/-- What stands ahead of an operation in every order. -/
def aheadB (b : List Nat) (j i : Nat) : Bool := (b.getD j 0).testBit i

/-- An operation behind which only loud ones may come: all others stand ahead of it. -/
def lastB (ops : List Oper) (b : List Nat) (j : Nat) : Bool := ops.zipIdx.all fun (o, i) => loudB o || Nat.beq i j || aheadB b j i

/-- An operation that asks no world. -/
def idleB (o : Oper) : Bool := match o.op with | .move _ | .assign _ => true | _ => false

/-- An operation that has all still ones listed ahead of it behind it in no order. -/
def freshB (ops : List Oper) (b : List Nat) (j : Nat) : Bool := ops.zipIdx.all fun (o, i) => loudB o || idleB o || !Nat.blt i j || aheadB b j i

/-- The class of worlds may be widened here. -/
def RS (C : World → Prop) (w : World) (F : (World → Prop) → Prop) : Prop := ∃ C' : World → Prop, (∀ w, C w → C' w) ∧ C' w ∧ F C'
theorem RS_same {C : World → Prop} {w : World} {F : (World → Prop) → Prop} (h : C w) (hF : F C) : RS C w F := ⟨C, fun _ h => h, h, hF⟩

/-- A still operation: in each world of the class the same value. -/
def HV (P : Program) (C : World → Prop) (s : Sem Value) (k : Value → Prop) : Prop := ∃ v, (∀ w, C w → s.run P w = .ok v w) ∧ k v
def HN (P : Program) (C : World → Prop) (s : Sem Next) (k : Value → Prop) : Prop := ∃ v, (∀ w, C w → s.run P w = .ok (.value v) w) ∧ k v

def opH (P : Program) (C : World → Prop) (loud last fresh : Bool) (r : OpR) (w : World) (k : (World → Prop) → Value → World → Prop) : Prop :=
  match loud, last, fresh with
  | true, true, _ => opW P r w (k C)
  | true, false, false => opW P r w fun v w' => C w' ∧ k C v w'
  | true, false, true => opW P r w fun v w' => RS C w' fun C' => k C' v w'
  | false, _, _ => match r with
    | .ret v => k C v w
    | .val s => HV P C s fun v => k C v w
    | .next s => HN P C s fun v => k C v w
    | .unit _ => False
    | .bad _ => False

def vcH (P : Program) (all : List Oper) (b : List Nat) (k : Env → World → Prop) : (World → Prop) → Nat → List Oper → Dec → Env → World → Prop
  | _, _, [], _, E, w => k E w
  | C, i, o :: rest, D, E, w =>
    match gdOf all D o with
    | .yes => opH P C (loudB o) (lastB all b i) (freshB all b i) (opRK D (ev E) o).1 w fun C v w' => vcH P all b k C (i + 1) rest (knPut D o.dst (opRK D (ev E) o).2) (putE E o.dst v) w'
    | .no => vcH P all b k C (i + 1) rest (knPut D o.dst .undef) (putE E o.dst undef) w
    | .ask d want => GD (look E d) want
        (opH P C (loudB o) (lastB all b i) (freshB all b i) (opRK ((d, .bool want) :: D) (ev E) o).1 w fun C v w' => vcH P all b k C (i + 1) rest (knPut ((d, .bool want) :: D) o.dst (opRK ((d, .bool want) :: D) (ev E) o).2) (putE E o.dst v) w')
        (vcH P all b k C (i + 1) rest (knPut ((d, .bool (!want)) :: D) o.dst .undef) (putE E o.dst undef) w)

/-- The class of worlds that a region that draws may come by. -/
def HR (w : World) (F : (World → Prop) → World → Prop) : Prop := ∃ C : World → Prop, C w.drew ∧ F C w.drew

def CN (v : Value) (X Y : Prop) : Prop :=
  match v with
  | .bool true => X
  | .bool false => Y
  | _ => False

def AllV : Nat → (List Value → Prop) → Prop
  | 0, p => p []
  | n + 1, p => ∀ v, AllV n fun l => p (v :: l)

theorem AllV.at_ {p : List Value → Prop} : ∀ {n : Nat}, AllV n p → ∀ l : List Value, l.length = n → p l
  | 0, h, [], _ => h
  | n + 1, h, v :: l, hl => AllV.at_ (h v) l (by simpa using hl)

/-- A loop: n values are carried on. -/
def LP (n : Nat) (us0 : List Value) (w : World) (body : (List Value → World → Prop) → (Nat → Value) → List Value → World → Prop) : Prop :=
  ∃ (I : List Value → World → Prop) (μ : List Value → World → Nat), I us0 w ∧
    AllV n fun us => ∀ (ζ : Nat → Value) (w' : World), I us w' → body (fun us'' w'' => I us'' w'' ∧ μ us'' w'' < μ us w') ζ us w'

/-- Where several ways meet: n values are carried on. -/
def JP (n : Nat) (A : (List Value → World → Prop) → Prop) (B : (Nat → Value) → List Value → World → Prop) : Prop :=
  ∃ J : List Value → World → Prop, A J ∧ AllV n fun us => ∀ (ζ : Nat → Value) (w' : World), J us w' → B ζ us w'

/-! ## Code -/

def opDsts : List Oper → List Nat
  | [] => []
  | o :: l => match o.dst with
    | some d => d :: opDsts l
    | none => opDsts l

def memB (i : Nat) : List Nat → Bool
  | [] => false
  | j :: l => cond (Nat.beq i j) true (memB i l)

def addB (i : Nat) (l : List Nat) : List Nat := cond (memB i l) l (i :: l)

def unionB : List Nat → List Nat → List Nat
  | [], m => m
  | i :: l, m => addB i (unionB l m)

def dsts : Code → List Nat
  | .region _ ops _ => opDsts ops.toList
  | .seq a b => unionB (dsts a) (dsts b)
  | .cond _ x y => unionB (dsts x) (dsts y)
  | .block _ b => dsts b
  | .loop b => dsts b
  | .scope b => dsts b
  | _ => []

def exitsTo (id : Nat) : Code → Nat
  | .seq a b => exitsTo id a + exitsTo id b
  | .cond _ x y => exitsTo id x + exitsTo id y
  | .block _ b => exitsTo id b
  | .loop b => exitsTo id b
  | .scope b => exitsTo id b
  | .exit j => cond (Nat.beq id j) 1 0
  | _ => 0

def normals : Code → Nat
  | .skip => 1
  | .region _ _ _ => 1
  | .label _ => 1
  | .seq a b => normals a * normals b
  | .cond _ x y => normals x + normals y
  | .block id b => normals b + exitsTo id b
  | .scope b => normals b
  | _ => 0

inductive Ex where
  | normal
  | exit (id : Nat)
  | ret

def thenE (next : Env → World → Prop) (Q : Ex → Env → World → Prop) : Ex → Env → World → Prop
  | .normal, E, w => next E w
  | e, E, w => Q e E w

def inBlockE (id : Nat) (Q : Ex → Env → World → Prop) : Ex → Env → World → Prop
  | .exit j, E, w => cond (Nat.beq j id) (Q .normal E w) (Q (.exit j) E w)
  | e, E, w => Q e E w

def keepB (L : List Nat) : List Nat → List Nat
  | [] => []
  | d :: l => cond (memB d L) (d :: keepB L l) (keepB L l)

def zipE (us : List Value) : Nat → List Nat → Env → Env
  | _, [], E => E
  | n, i :: ls, E => (i, us.getD n undef) :: zipE us (n + 1) ls E

def deadE (ζ : Nat → Value) : List Nat → Env → Env
  | [], E => E
  | d :: ds, E => (d, ζ d) :: deadE ζ ds E

/-- Carried values laid over an environment: those of ls; the other written ones are not known. -/
def layE (ls : List Nat) (us : List Value) (ds : List Nat) (ζ : Nat → Value) (E : Env) : Env := zipE us 0 ls (deadE ζ ds E)

def vc (P : Program) (L : List Nat) : Code → (Ex → Env → World → Prop) → Env → World → Prop
  | .skip, Q, E, w => Q .normal E w
  | .label _, Q, E, w => Q .normal E w
  | .region _ ops false, Q, E, w => vcOps P ops.toList (Q .normal) ops.toList [] E w
  | .region _ ops true, Q, E, w => HR w fun C w' => vcH P ops.toList (ancGo [] ops.toList) (Q .normal) C 0 ops.toList [] E w'
  | .seq a b, Q, E, w =>
    cond (Nat.ble (normals a) 1) (vc P L a (thenE (vc P L b Q) Q) E w)
      (JP (keepB L (dsts a)).length (fun k => vc P L a (thenE (fun E' w' => k ((keepB L (dsts a)).map (look E')) w') Q) E w)
        (fun ζ us w' => vc P L b Q (layE (keepB L (dsts a)) us (dsts a) ζ E) w'))
  | .cond c x y, Q, E, w => CN (ev E c) (vc P L x Q E w) (vc P L y Q E w)
  | .block id b, Q, E, w => vc P L b (inBlockE id Q) E w
  | .loop b, Q, E, w =>
    LP (keepB L (dsts b)).length ((keepB L (dsts b)).map (look E)) w
      (fun next ζ us w' => vc P L b (thenE (fun E'' w'' => next ((keepB L (dsts b)).map (look E'')) w'') Q) (layE (keepB L (dsts b)) us (dsts b) ζ E) w')
  | .scope b, Q, E, w => vc P L b Q E w
  | .exit id, Q, E, w => Q (.exit id) E w
  | .ret, Q, E, w => Q .ret E w
  | _, _, _, _ => False


/-! ## Soundness: regions that draw their order -/

def pairsB (ops : List Oper) (b : List Nat) : Bool :=
  (ops.zipIdx.all fun (x, i) => (x.after.all fun e => !Region.binds .any e || Nat.blt e.on i) &&
    (ops.zipIdx.all fun (y, j) => !Nat.blt i j ||
      (((y.after.any fun e => Region.binds .any e && Nat.beq e.on i) || x.apart ops.toArray y) && (!loudB x || !loudB y || aheadB b j i))))

def heldB (ops : List Oper) (b : List Nat) : Bool := Region.noSelect ops.toArray && pairsB ops b

section
variable {P : Program} {C : World → Prop} {ops : Array Oper} {b : List Nat} {Q : Exit → Act → World → Prop}

def YH (P : Program) (C : World → Prop) (ops : Array Oper) (o : Oper) (v : Value) (a : Act) : Prop :=
  (Region.wanted o (yielded ops a.tmps) = true ∧ ∀ w, (C w ∨ idleB o = true) → (execOp a.eval o).run P w = .ok (.value v) w) ∨
  (Region.wanted o (yielded ops a.tmps) = false ∧ v = undef)

def loudW (P : Program) (o : Oper) (a : Act) (w : World) (K : Act → World → Prop) : Prop :=
  match (execOp a.eval o).run P w with
  | .ok (.value v) w' => K (a.put o.dst v) w'
  | .ok .skip w' => K (a.put o.dst undef) w'
  | .ok (.enter f args) w' => Calls P f args w' (retP fun v w'' => K (a.put o.dst v) w'')
  | _ => False

def hOp (P : Program) (C : World → Prop) (ops : Array Oper) (b : List Nat) (i : Nat) (o : Oper) (K : (World → Prop) → Act → World → Prop) (a : Act) (w : World) : Prop :=
  if Region.wanted o (yielded ops a.tmps) = true then
    (if loudB o = true then loudW P o a w (fun a' w' => ∃ C' : World → Prop, (∀ w, C w → C' w) ∧ (freshB ops.toList b i = true ∨ C' = C) ∧ (lastB ops.toList b i = true ∨ C' w') ∧ K C' a' w')
      else ∃ v, (∀ w', (C w' ∨ idleB o = true) → (execOp a.eval o).run P w' = .ok (.value v) w') ∧ K C (a.put o.dst v) w)
  else K C (a.put o.dst undef) w

def Wk (P : Program) (ops : Array Oper) (b : List Nat) (Q : Exit → Act → World → Prop) : List Nat → (World → Prop) → Act → World → Prop
  | [], _, a, w => Q .normal a w
  | i :: l, C, a, w => match ops[i]? with
    | none => False
    | some o => hOp P C ops b i o (Wk P ops b Q l) a w

theorem retP_mono {k k' : Value → World → Prop} (h : ∀ v w, k v w → k' v w) (e : Ending) (w : World) (he : retP k e w) : retP k' e w := by
  cases e with
  | returned v => exact h v w he
  | panicked c => exact he.elim
  | outgrown => exact he.elim

theorem calls_ex {f : FuncId} {args : Array Value} {w : World} {k : Value → World → Prop} (h : Calls P f args w (retP k)) : ∃ v w', k v w' := by
  obtain ⟨e, w', fr, hr, _⟩ := h []
  cases e with
  | returned v => exact ⟨v, w', hr⟩
  | panicked c => exact hr.elim
  | outgrown => exact hr.elim

theorem loudW_ex {o : Oper} {a : Act} {w : World} {K : Act → World → Prop} (h : loudW P o a w K) : ∃ v w', K (a.put o.dst v) w' := by
  unfold loudW at h
  generalize (execOp a.eval o).run P w = r at h
  cases r with
  | halt x w' => exact h.elim
  | ok x w' =>
    cases x <;> first | exact h.elim | exact ⟨_, _, h⟩ | exact calls_ex h

theorem loudW_put {oi oj : Oper} {a : Act} {w : World} {v : Value} {K K' : Act → World → Prop} (hs : ∀ cs b, oj.op ≠ .select cs b)
    (h1 : ∀ d, oi.dst = some d → d ∉ oj.looksAt ops) (h : loudW P oj a w K) (hk : ∀ u w', K (a.put oj.dst u) w' → K' ((a.put oi.dst v).put oj.dst u) w') : loudW P oj (a.put oi.dst v) w K' := by
  unfold loudW at *
  rw [execOp_put oj hs a oi.dst v h1]
  generalize (execOp a.eval oj).run P w = r at *
  cases r with
  | halt x w' => exact h.elim
  | ok x w' =>
    cases x <;> first | exact h.elim | exact hk _ _ h | skip
    exact Calls.mono h (retP_mono fun v w hv => hk v w hv)

theorem loudW_unput {oi oj : Oper} {a : Act} {w : World} {v : Value} {K K' : Act → World → Prop} (hs : ∀ cs b, oj.op ≠ .select cs b)
    (h1 : ∀ d, oi.dst = some d → d ∉ oj.looksAt ops) (h : loudW P oj (a.put oi.dst v) w K) (hk : ∀ u w', K ((a.put oi.dst v).put oj.dst u) w' → K' (a.put oj.dst u) w') : loudW P oj a w K' := by
  unfold loudW at *
  rw [execOp_put oj hs a oi.dst v h1] at h
  generalize (execOp a.eval oj).run P w = r at *
  cases r with
  | halt x w' => exact h.elim
  | ok x w' =>
    cases x <;> first | exact h.elim | exact hk _ _ h | skip
    exact Calls.mono h (retP_mono fun v w hv => hk v w hv)

theorem YH.of_same {o : Oper} {v : Value} {a a' : Act} (hy : YH P C ops o v a) (he : execOp a'.eval o = execOp a.eval o)
    (hw : Region.wanted o (yielded ops a'.tmps) = Region.wanted o (yielded ops a.tmps)) : YH P C ops o v a' := by
  unfold YH at *
  rw [he, hw]
  exact hy

theorem YH.sub {C C' : World → Prop} {o : Oper} {v : Value} {a : Act} (hy : YH P C' ops o v a) (h : ∀ w, C w → C' w) : YH P C ops o v a := by
  rcases hy with ⟨h1, h2⟩ | h1
  · exact .inl ⟨h1, fun w hw => h2 w (hw.imp (h w) id)⟩
  · exact .inr h1

theorem YH.uniq {o : Oper} {v v' : Value} {a : Act} {w : World} (hC : C w) (h : YH P C ops o v a) (h' : YH P C ops o v' a) : v = v' := by
  rcases h with ⟨hw, h⟩ | ⟨hw, rfl⟩ <;> rcases h' with ⟨hw', h'⟩ | ⟨hw', rfl⟩
  · have := (h w (.inl hC)).symm.trans (h' w (.inl hC))
    injection this with this
    injection this
  · rw [hw] at hw'; cases hw'
  · rw [hw] at hw'; cases hw'
  · rfl

/-- What is fixed of the region. -/
structure Held (ops : Array Oper) (b : List Nat) : Prop where
  sel : ∀ (j : Nat) (o : Oper) cs b, ops[j]? = some o → o.op ≠ .select cs b
  on : ∀ (i : Nat) (x : Oper), ops[i]? = some x → ∀ e ∈ x.after, Region.binds .any e = true → e.on < i
  apart : ∀ (i j : Nat) (x y : Oper), ops[i]? = some x → ops[j]? = some y → i < j → (∀ e ∈ y.after, Region.binds .any e = true → e.on ≠ i) → x.apart ops y = true
  chain : ∀ (i j : Nat) (x y : Oper), ops[i]? = some x → ops[j]? = some y → i < j → loudB x = true → loudB y = true → aheadB b j i = true
  ahead : ∀ (j i : Nat), aheadB b j i = true → i < j
  /-- What is ahead of what may come up has come up. -/
  closed : ∀ (listed : Array Bool), (∀ i x, ops[i]? = some x → listed.getD i true = true → ∀ e ∈ x.after, Region.binds .any e = true → listed.getD e.on false = true) →
    ∀ j, j ∈ Region.ready .any ops listed → ∀ i, aheadB b j i = true → listed.getD i false = true

theorem commS (H : Held ops b) {i : Nat} {oi : Oper} (hi : ops[i]? = some oi) (hl : loudB oi = false) {q : List Nat} : ∀ (p : List Nat) (C : World → Prop) (a : Act) (w : World),
    (∀ j ∈ p, j < i ∧ ∀ oj, ops[j]? = some oj → oi.apart ops oj = true ∧ lastB ops.toList b j = false) → C w → Wk P ops b Q (p ++ i :: q) C a w →
    ∃ v, YH P C ops oi v a ∧ Wk P ops b Q (p ++ q) C (a.put oi.dst v) w
  | [], C, a, w, _, hC, h => by
    simp only [List.nil_append, Wk, hi, hOp] at h
    by_cases hw : Region.wanted oi (yielded ops a.tmps) = true
    · simp only [hw, if_true, hl, Bool.false_eq_true, if_false] at h
      obtain ⟨v, h1, h2⟩ := h
      exact ⟨v, .inl ⟨hw, h1⟩, h2⟩
    · simp only [hw] at h
      exact ⟨undef, .inr ⟨by simpa using hw, rfl⟩, h⟩
  | j :: p, C, a, w, hp, hC, h => by
    have hp' : ∀ k ∈ p, k < i ∧ ∀ oj, ops[k]? = some oj → oi.apart ops oj = true ∧ lastB ops.toList b k = false := fun k hk => hp k (List.mem_cons_of_mem _ hk)
    simp only [List.cons_append, Wk] at h
    cases hj : ops[j]? with
    | none => simp only [hj] at h
    | some oj =>
      simp only [hj] at h
      obtain ⟨hap, hlast⟩ := (hp j List.mem_cons_self).2 oj hj
      obtain ⟨h1, h2, h3⟩ := Oper.apart_spec hap
      have hsi := fun cs b' => H.sel i oi cs b' hi
      have hsj := fun cs b' => H.sel j oj cs b' hj
      have back : ∀ u v, YH P C ops oi v (a.put oj.dst u) → YH P C ops oi v a := fun u v hy =>
        hy.of_same (execOp_put oi hsi a oj.dst u h3).symm (wanted_put oi a oj.dst u h3).symm
      simp only [List.cons_append, Wk, hj]
      unfold hOp at h ⊢
      by_cases hw : Region.wanted oj (yielded ops a.tmps) = true
      · simp only [hw, if_true] at h
        by_cases hlj : loudB oj = true
        · simp only [hlj, if_true] at h
          have key : ∀ u w', (∃ C' : World → Prop, (∀ w, C w → C' w) ∧ (freshB ops.toList b j = true ∨ C' = C) ∧ (lastB ops.toList b j = true ∨ C' w') ∧ Wk P ops b Q (p ++ i :: q) C' (a.put oj.dst u) w') →
              ∃ v, YH P C ops oi v a ∧ ∃ C' : World → Prop, (∀ w, C w → C' w) ∧ (freshB ops.toList b j = true ∨ C' = C) ∧ (lastB ops.toList b j = true ∨ C' w') ∧ Wk P ops b Q (p ++ q) C' ((a.put oi.dst v).put oj.dst u) w' := by
            rintro u w' ⟨C', hsub, hfr, hc, hk⟩
            have hC' : C' w' := hc.resolve_left (by simp [hlast])
            obtain ⟨v, hy, hk'⟩ := commS H hi hl p C' _ _ hp' hC' hk
            exact ⟨v, (back u v (hy.sub hsub)), C', hsub, hfr, hc, by rw [Act.put_comm a v u h2]; exact hk'⟩
          obtain ⟨u0, w0, h0⟩ := loudW_ex h
          obtain ⟨v0, hy0, _⟩ := key u0 w0 h0
          refine ⟨v0, hy0, ?_⟩
          have hw' : Region.wanted oj (yielded ops (a.put oi.dst v0).tmps) = true := by rw [wanted_put oj a oi.dst v0 h1]; exact hw
          simp only [hw', if_true, hlj]
          refine loudW_put hsj h1 h fun u w' hk => ?_
          obtain ⟨v, hy, h4⟩ := key u w' hk
          cases hy.uniq hC hy0
          exact h4
        · simp only [hlj] at h
          obtain ⟨u, hu, hk⟩ := h
          obtain ⟨v, hy, hk'⟩ := commS H hi hl p _ _ _ hp' hC hk
          refine ⟨v, back u v hy, ?_⟩
          have hw' : Region.wanted oj (yielded ops (a.put oi.dst v).tmps) = true := by rw [wanted_put oj a oi.dst v h1]; exact hw
          simp only [hw', if_true, hlj]
          exact ⟨u, fun w' hw' => by rw [execOp_put oj hsj a oi.dst v h1]; exact hu w' hw', by rw [Act.put_comm a v u h2]; exact hk'⟩
      · simp only [hw] at h
        obtain ⟨v, hy, hk'⟩ := commS H hi hl p _ _ _ hp' hC h
        refine ⟨v, back _ v hy, ?_⟩
        have hw' : Region.wanted oj (yielded ops (a.put oi.dst v).tmps) = false := by rw [wanted_put oj a oi.dst v h1]; simpa using hw
        simp only [hw', Bool.false_eq_true, if_false]
        rw [Act.put_comm a v undef h2]; exact hk'

theorem commL (H : Held ops b) {i : Nat} {oi : Oper} (hi : ops[i]? = some oi) (hl : loudB oi = true) {q : List Nat} {C : World → Prop} : ∀ (p : List Nat) (a : Act) (w : World),
    (∀ j ∈ p, ∀ oj, ops[j]? = some oj → oi.apart ops oj = true ∧ loudB oj = false) → (p = [] ∨ (lastB ops.toList b i = false ∧ (freshB ops.toList b i = false ∨ ∀ j ∈ p, ∀ oj, ops[j]? = some oj → idleB oj = true))) → Wk P ops b Q (p ++ i :: q) C a w →
    hOp P C ops b i oi (Wk P ops b Q (p ++ q)) a w
  | [], a, w, _, _, h => by
    simpa only [List.nil_append, Wk, hi] using h
  | j :: p, a, w, hp, hlast, h => by
    have hp' : ∀ k ∈ p, ∀ oj, ops[k]? = some oj → oi.apart ops oj = true ∧ loudB oj = false := fun k hk => hp k (List.mem_cons_of_mem _ hk)
    have hlast' : lastB ops.toList b i = false ∧ (freshB ops.toList b i = false ∨ ∀ k ∈ j :: p, ∀ ok, ops[k]? = some ok → idleB ok = true) := hlast.resolve_left (by simp)
    have hlast2 : p = [] ∨ (lastB ops.toList b i = false ∧ (freshB ops.toList b i = false ∨ ∀ k ∈ p, ∀ ok, ops[k]? = some ok → idleB ok = true)) :=
      .inr ⟨hlast'.1, hlast'.2.imp id fun h k hk => h k (List.mem_cons_of_mem _ hk)⟩
    simp only [List.cons_append, Wk] at h
    cases hj : ops[j]? with
    | none => simp only [hj] at h
    | some oj =>
      simp only [hj] at h
      obtain ⟨hap, hlj⟩ := hp j List.mem_cons_self oj hj
      obtain ⟨h1, h2, h3⟩ := Oper.apart_spec hap
      have hsi := fun cs b' => H.sel i oi cs b' hi
      have hsj := fun cs b' => H.sel j oj cs b' hj
      -- the one ahead yields u; the loud one goes first
      have hfr0 : ∀ C', (freshB ops.toList b i = true ∨ C' = C) → (C' = C ∨ idleB oj = true) := fun C' h' => by
        rcases h' with h' | h'
        · rcases hlast'.2 with h2 | h2
          · rw [h'] at h2; cases h2
          · exact .inr (h2 j List.mem_cons_self oj hj)
        · exact .inl h'
      have fin : ∀ u, hOp P C ops b i oi (Wk P ops b Q (p ++ q)) (a.put oj.dst u) w →
          (∀ C' v w', (C' = C ∨ idleB oj = true) → Wk P ops b Q (p ++ q) C' ((a.put oi.dst v).put oj.dst u) w' → Wk P ops b Q (j :: (p ++ q)) C' (a.put oi.dst v) w') →
          hOp P C ops b i oi (Wk P ops b Q (j :: (p ++ q))) a w := by
        intro u hO hB
        unfold hOp at hO ⊢
        rw [wanted_put oi a oj.dst u h3] at hO
        by_cases hw : Region.wanted oi (yielded ops a.tmps) = true
        · simp only [hw, if_true, hl] at hO ⊢
          refine loudW_unput hsi h3 hO fun v w' ⟨C', hsub, hfr, hc, hk⟩ => ?_
          refine ⟨C', hsub, hfr, hc, hB C' v w' (hfr0 C' hfr) ?_⟩
          rw [Act.put_comm a v u h2]; exact hk
        · simp only [hw] at hO ⊢
          refine hB C undef w (.inl rfl) ?_
          rw [Act.put_comm a undef u h2]; exact hO
      unfold hOp at h
      by_cases hw : Region.wanted oj (yielded ops a.tmps) = true
      · simp only [hw, if_true, hlj, Bool.false_eq_true, if_false] at h
        obtain ⟨u, hu, hk⟩ := h
        refine fin u (commL H hi hl p _ _ hp' hlast2 hk) fun C' v w' hcc hk' => ?_
        simp only [Wk, hj]
        unfold hOp
        have hw' : Region.wanted oj (yielded ops (a.put oi.dst v).tmps) = true := by rw [wanted_put oj a oi.dst v h1]; exact hw
        simp only [hw', if_true, hlj, Bool.false_eq_true, if_false]
        refine ⟨u, fun w'' hw'' => ?_, hk'⟩
        rw [execOp_put oj hsj a oi.dst v h1]
        refine hu w'' ?_
        rcases hcc with rfl | hcc
        · exact hw''
        · exact .inr hcc
      · simp only [hw] at h
        refine fin undef (commL H hi hl p _ _ hp' hlast2 h) fun C' v w' _ hk' => ?_
        simp only [Wk, hj]
        unfold hOp
        have hw' : Region.wanted oj (yielded ops (a.put oi.dst v).tmps) = false := by rw [wanted_put oj a oi.dst v h1]; simpa using hw
        simp only [hw', Bool.false_eq_true, if_false]
        exact hk'

theorem wp_of_loudW {o : Oper} {a : Act} {w : World} {K : Act → World → Prop} (h : loudW P o a w K) : o.wp P a w K Q := by
  unfold loudW at h
  unfold Oper.wp
  generalize (execOp a.eval o).run P w = r at h ⊢
  cases r with
  | halt x w' => exact h.elim
  | ok x w' =>
    cases x <;> first | exact h.elim | exact h | skip
    refine Calls.mono h ?_
    intro e w'' he
    cases e with
    | returned v => exact he
    | panicked c => exact he.elim
    | outgrown => exact he.elim

theorem lastB_spec {i k : Nat} {x : Oper} (h : lastB ops.toList b i = true) (hk : ops[k]? = some x) (hx : loudB x = false) : k = i ∨ aheadB b i k = true := by
  unfold lastB at h
  rw [List.all_eq_true] at h
  have := h (x, k) (by rw [List.mem_zipIdx_iff_getElem?]; simpa using hk)
  simp only [hx, Bool.false_or, Bool.or_eq_true] at this
  exact this.imp Nat.eq_of_beq_eq_true id

theorem freshB_spec {i k : Nat} {x : Oper} (h : freshB ops.toList b i = true) (hk : ops[k]? = some x) (hx : loudB x = false) (hki : k < i) : idleB x = true ∨ aheadB b i k = true := by
  unfold freshB at h
  rw [List.all_eq_true] at h
  have := h (x, k) (by rw [List.mem_zipIdx_iff_getElem?]; simpa using hk)
  have hb : Nat.blt k i = true := Nat.ble_eq_true_of_le hki
  simpa [hx, hb, Bool.or_eq_true] using this

theorem held_any (H : Held ops b) : ∀ (n : Nat) (l : List Nat) (listed : Array Bool) (C : World → Prop) (a : Act) (w : World), l.length = n →
    (∀ i, i ∈ l ↔ i < ops.size ∧ listed.getD i true = false) → l.Pairwise (· < ·) →
    (∀ i x, ops[i]? = some x → listed.getD i true = true → ∀ e ∈ x.after, Region.binds .any e = true → listed.getD e.on false = true) →
    (C w ∨ ∀ i ∈ l, ∀ x, ops[i]? = some x → loudB x = true) → Wk P ops b Q l C a w → wpAny P .any ops Q n listed a w := by
  intro n
  induction n with
  | zero =>
    intro l listed C a w hn hmem _ _ _ h
    cases List.eq_nil_of_length_eq_zero hn
    refine ⟨?_, h⟩
    rw [List.eq_nil_iff_forall_not_mem]
    intro j hj
    obtain ⟨h0, o, ho, _⟩ := mem_ready.1 hj
    have := (hmem j).2 ⟨(Array.getElem?_eq_some_iff.1 ho).1, h0⟩
    cases this
  | succ n ih =>
    intro l listed C a w hn hmem hs hcl hC h
    have hsize : ∀ i, i < ops.size → ∃ o, ops[i]? = some o := fun i hi => ⟨ops[i], by simp [hi]⟩
    have hgt : ∀ i : Nat, listed.getD i true = false → i < listed.size := fun i hi => by
      rcases Nat.lt_or_ge i listed.size with h' | h'
      · exact h'
      · simp [Array.getElem?_eq_none h'] at hi
    refine ⟨fun h0 => ?_, fun i hi => ?_⟩
    · -- the first one of l is ready
      exfalso
      match l, hn with
      | i :: l, _ =>
        have hi := (hmem i).1 List.mem_cons_self
        obtain ⟨o, ho⟩ := hsize i hi.1
        have : i ∈ Region.ready .any ops listed := by
          refine mem_ready.2 ⟨hi.2, o, ho, fun e he hb => ?_⟩
          have hlt := H.on i o ho e he hb
          cases hl : listed.getD e.on true with
          | true =>
            rcases Nat.lt_or_ge e.on listed.size with h' | h'
            · simp [h'] at hl ⊢; exact hl
            · have := hgt i hi.2; omega
          | false =>
            have hm := (hmem e.on).2 ⟨by omega, hl⟩
            rcases List.mem_cons.1 hm with rfl | hm
            · omega
            · have := (List.pairwise_cons.1 hs).1 _ hm; omega
        rw [h0] at this
        cases this
    · obtain ⟨hun, oi, hoi, hall⟩ := mem_ready.1 hi
      have hil : i ∈ l := (hmem i).2 ⟨(Array.getElem?_eq_some_iff.1 hoi).1, hun⟩
      obtain ⟨p, q, rfl⟩ := List.append_of_mem hil
      have hpw := List.pairwise_append.1 hs
      have hp_lt : ∀ j ∈ p, j < i := fun j hj => hpw.2.2 j hj i List.mem_cons_self
      have hiq : ∀ j ∈ q, i < j := (List.pairwise_cons.1 hpw.2.1).1
      have hlen : (p ++ q).length = n := by simp at hn ⊢; omega
      have hunp : ∀ j ∈ p, listed.getD j true = false := fun j hj => ((hmem j).1 (List.mem_append_left _ hj)).2
      have hlf : ∀ j, listed.getD j true = false → listed.getD j false = false := fun j hj => by
        have := hgt j hj
        simp [this] at hj ⊢
        exact hj
      have hap : ∀ j ∈ p, ∀ oj, ops[j]? = some oj → oi.apart ops oj = true := fun j hj oj hoj => by
        have h1 := H.apart j i oj oi hoj hoi (hp_lt j hj) (fun e he hb heq => by
          have := hall e he hb
          rw [heq, hlf j (hunp j hj)] at this
          cases this)
        simp only [Oper.apart, Bool.and_eq_true] at h1 ⊢
        refine ⟨?_, ?_⟩
        · cases hd : oi.dst with
          | none => rfl
          | some d =>
            have h2 := h1.2
            simp only [hd] at h2
            simp only [h2, Bool.true_and]
            cases hd' : oj.dst with
            | none => rfl
            | some d' =>
              have h3 := h1.1
              simp only [hd', hd, Bool.and_eq_true] at h3
              have h4 := h3.2
              simp only [bne_iff_ne, ne_eq] at h4 ⊢
              exact fun he => h4 he.symm
        · cases hd' : oj.dst with
          | none => rfl
          | some d' =>
            have h3 := h1.1
            simp only [hd', Bool.and_eq_true] at h3
            exact h3.1
      -- what stands behind i
      have hmem' : ∀ j, j ∈ p ++ q ↔ j < ops.size ∧ (listed.setIfInBounds i true).getD j true = false := fun j => by
        by_cases hij : i = j
        · subst hij
          have hlt := hgt i hun
          constructor
          · intro hj
            rcases List.mem_append.1 hj with hj | hj
            · have := hp_lt _ hj; omega
            · have := hiq _ hj; omega
          · rintro ⟨_, h'⟩
            simp [hlt] at h'
        · rw [getD_set_ne true hij]
          rw [← hmem j]
          simp only [List.mem_append, List.mem_cons]
          constructor
          · rintro (hj | hj)
            · exact .inl hj
            · exact .inr (.inr hj)
          · rintro (hj | rfl | hj)
            · exact .inl hj
            · exact absurd rfl hij
            · exact .inr hj
      have hs' : (p ++ q).Pairwise (· < ·) := List.pairwise_append.2 ⟨hpw.1, (List.pairwise_cons.1 hpw.2.1).2, fun x hx y hy => hpw.2.2 x hx y (List.mem_cons_of_mem _ hy)⟩
      have hcl' : ∀ j x, ops[j]? = some x → (listed.setIfInBounds i true).getD j true = true → ∀ e ∈ x.after, Region.binds .any e = true → (listed.setIfInBounds i true).getD e.on false = true := by
        intro j x hx hj e he hb
        by_cases hij : i = j
        · subst hij
          rw [hoi] at hx
          cases hx
          exact getD_set_true (hall e he hb)
        · rw [getD_set_ne true hij] at hj
          exact getD_set_true (hcl j x hx hj e he hb)
      unfold wpOp
      simp only [hoi]
      by_cases hli : loudB oi = true
      · -- a loud one: what stands ahead of it is still
        have hpl : ∀ j ∈ p, ∀ oj, ops[j]? = some oj → oi.apart ops oj = true ∧ loudB oj = false := fun j hj oj hoj => by
          refine ⟨hap j hj oj hoj, ?_⟩
          cases hlj : loudB oj with
          | false => rfl
          | true =>
            have h1 := H.closed listed hcl i hi j (H.chain j i oj oi hoj hoi (hp_lt j hj) hlj hli)
            rw [hlf j (hunp j hj)] at h1
            cases h1
        have hlast : p = [] ∨ (lastB ops.toList b i = false ∧ (freshB ops.toList b i = false ∨ ∀ j ∈ p, ∀ oj, ops[j]? = some oj → idleB oj = true)) := by
          cases p with
          | nil => exact .inl rfl
          | cons j p =>
            refine .inr ⟨?_, ?_⟩
            rotate_left
            · cases hL : freshB ops.toList b i with
              | false => exact .inl rfl
              | true =>
                refine .inr fun k hk ok hok => ?_
                refine (freshB_spec hL hok (hpl k hk ok hok).2 (hp_lt k hk)).resolve_right fun hah => ?_
                have h1 := H.closed listed hcl i hi k hah
                rw [hlf k (hunp k hk)] at h1
                cases h1
            cases hL : lastB ops.toList b i with
            | false => rfl
            | true =>
              have hjm := (hmem j).1 List.mem_cons_self
              obtain ⟨oj, hoj⟩ := hsize j hjm.1
              rcases lastB_spec hL hoj (hpl j List.mem_cons_self oj hoj).2 with rfl | hah
              · have := hp_lt j List.mem_cons_self; omega
              · have h1 := H.closed listed hcl i hi j hah
                rw [hlf j (hunp j List.mem_cons_self)] at h1
                cases h1
        have hO := commL H hoi hli p a w hpl hlast h
        unfold hOp at hO
        by_cases hw : Region.wanted oi (yielded ops a.tmps) = true
        · simp only [hw, if_true, hli] at hO
          rw [if_pos hw]
          refine .inl (wp_of_loudW ?_)
          have : ∀ a' w', (∃ C' : World → Prop, (∀ w, C w → C' w) ∧ (freshB ops.toList b i = true ∨ C' = C) ∧ (lastB ops.toList b i = true ∨ C' w') ∧ Wk P ops b Q (p ++ q) C' a' w') → wpAny P .any ops Q n (listed.setIfInBounds i true) a' w' := by
            rintro a' w' ⟨C', _, _, hc, hk⟩
            refine ih (p ++ q) _ C' a' w' hlen hmem' hs' hcl' ?_ hk
            rcases hc with hL | hc
            · refine .inr fun k hk x hx => ?_
              cases hlx : loudB x with
              | true => rfl
              | false =>
                rcases lastB_spec hL hx hlx with rfl | hah
                · rw [hoi] at hx; cases hx; rw [hli] at hlx; cases hlx
                · have h1 := H.closed listed hcl i hi k hah
                  have h2 : listed.getD k true = false := by
                    refine ((hmem k).1 ?_).2
                    rcases List.mem_append.1 hk with hk | hk
                    · exact List.mem_append_left _ hk
                    · exact List.mem_append_right _ (List.mem_cons_of_mem _ hk)
                  rw [hlf k h2] at h1
                  cases h1
            · exact .inl hc
          unfold loudW at hO ⊢
          generalize (execOp a.eval oi).run P w = r at hO ⊢
          cases r with
          | halt x w' => exact hO.elim
          | ok x w' =>
            cases x <;> first | exact hO.elim | exact this _ _ hO | skip
            exact Calls.mono hO (retP_mono fun v w hv => this _ _ hv)
        · simp only [hw] at hO
          rw [if_neg hw]
          refine ih (p ++ q) _ C _ w hlen hmem' hs' hcl' ?_ hO
          refine hC.imp id fun hC j hj x hx => hC j ?_ x hx
          rcases List.mem_append.1 hj with hj | hj
          · exact List.mem_append_left _ hj
          · exact List.mem_append_right _ (List.mem_cons_of_mem _ hj)
      · have hli' : loudB oi = false := by simpa using hli
        have hCw : C w := hC.resolve_right fun hC => by
          have := hC i hil oi hoi
          rw [hli'] at this
          cases this
        have hp2 : ∀ j ∈ p, j < i ∧ ∀ oj, ops[j]? = some oj → oi.apart ops oj = true ∧ lastB ops.toList b j = false := fun j hj => by
          refine ⟨hp_lt j hj, fun oj hoj => ⟨hap j hj oj hoj, ?_⟩⟩
          cases hL : lastB ops.toList b j with
          | false => rfl
          | true =>
            have := hp_lt j hj
            rcases lastB_spec hL hoi hli' with rfl | hah
            · omega
            · have := H.ahead j i hah; omega
        obtain ⟨v, hy, hk⟩ := commS H hoi hli' p C a w hp2 hCw h
        have next := ih (p ++ q) (listed.setIfInBounds i true) C (a.put oi.dst v) w hlen hmem' hs' hcl' (.inl hCw) hk
        rcases hy with ⟨hw, hv⟩ | ⟨hw, rfl⟩
        · rw [if_pos hw]
          refine .inl ?_
          unfold Oper.wp
          rw [hv w (.inl hCw)]
          exact next
        · rw [if_neg (by simp [hw])]
          exact next

theorem ancBits_spec {acc : List Nat} {i : Nat} : ∀ {es : List Edge}, (ancBits acc es).testBit i = true → ∃ e ∈ es, Region.binds .any e = true ∧ (e.on = i ∨ (acc.getD e.on 0).testBit i = true)
  | [], h => by simp [ancBits] at h
  | e :: es, h => by
    unfold ancBits at h
    cases hb : Region.binds .any e with
    | false =>
      simp only [hb, cond_false] at h
      obtain ⟨e', he', h'⟩ := ancBits_spec h
      exact ⟨e', List.mem_cons_of_mem _ he', h'⟩
    | true =>
      simp only [hb, cond_true, Nat.testBit_or, Bool.or_eq_true] at h
      rcases h with (h | h) | h
      · refine ⟨e, List.mem_cons_self, hb, .inl ?_⟩
        rw [Nat.testBit_two_pow] at h
        simpa using h
      · exact ⟨e, List.mem_cons_self, hb, .inr h⟩
      · obtain ⟨e', he', h'⟩ := ancBits_spec h
        exact ⟨e', List.mem_cons_of_mem _ he', h'⟩

theorem ancGo_spec : ∀ (l done : List Oper) (acc : List Nat), acc.length = done.length →
    (∀ j i, aheadB acc j i = true → ∃ x, done[j]? = some x ∧ ∃ e ∈ x.after.toList, Region.binds .any e = true ∧ (e.on = i ∨ aheadB acc e.on i = true)) →
    ∀ j i, aheadB (ancGo acc l) j i = true → ∃ x, (done ++ l)[j]? = some x ∧ ∃ e ∈ x.after.toList, Region.binds .any e = true ∧ (e.on = i ∨ aheadB (ancGo acc l) e.on i = true)
  | [], done, acc, _, h, j, i, hj => by simpa [ancGo] using h j i hj
  | o :: l, done, acc, hlen, h, j, i, hj => by
    have := ancGo_spec l (done ++ [o]) (acc ++ [ancBits acc o.after.toList]) (by simp [hlen]) ?_ j i hj
    · simpa [ancGo] using this
    · intro j i hj
      have grow : ∀ k, aheadB acc k i = true → aheadB (acc ++ [ancBits acc o.after.toList]) k i = true := by
        intro k hk
        unfold aheadB at *
        rcases Nat.lt_or_ge k acc.length with hlt | hge
        · simp only [List.getD_eq_getElem?_getD, List.getElem?_append_left hlt] at *; exact hk
        · simp [List.getD_eq_getElem?_getD, List.getElem?_eq_none hge] at hk
      rcases Nat.lt_trichotomy j acc.length with hlt | heq | hgt
      · have hj' : aheadB acc j i = true := by
          unfold aheadB at *
          simpa only [List.getD_eq_getElem?_getD, List.getElem?_append_left hlt] using hj
        obtain ⟨x, hx, e, he, hb, h'⟩ := h j i hj'
        refine ⟨x, ?_, e, he, hb, h'.imp id (grow e.on)⟩
        rw [List.getElem?_append_left (by omega)]; exact hx
      · have hj' : (ancBits acc o.after.toList).testBit i = true := by
          unfold aheadB at hj
          simpa [List.getD_eq_getElem?_getD, heq] using hj
        obtain ⟨e, he, hb, h'⟩ := ancBits_spec hj'
        refine ⟨o, ?_, e, he, hb, h'.imp id (grow e.on)⟩
        rw [heq, hlen]; simp
      · unfold aheadB at hj
        rw [List.getD_eq_getElem?_getD, List.getElem?_eq_none (by simp; omega)] at hj
        simp at hj

theorem held_of {l : List Oper} (h : heldB l (ancGo [] l) = true) : Held l.toArray (ancGo [] l) := by
  simp only [heldB, Bool.and_eq_true] at h
  obtain ⟨hsel, hp⟩ := h
  unfold pairsB at hp
  rw [List.all_eq_true] at hp
  have mem : ∀ {i : Nat} {x : Oper}, l.toArray[i]? = some x → (x, i) ∈ l.zipIdx := fun {i x} hx => by
    rw [List.mem_zipIdx_iff_getElem?]; simpa using hx
  have hon : ∀ (i : Nat) (x : Oper), l.toArray[i]? = some x → ∀ e ∈ x.after, Region.binds .any e = true → e.on < i := fun i x hx e he hb => by
    have h1 := hp (x, i) (mem hx)
    simp only [Bool.and_eq_true, Array.all_eq_true_iff_forall_mem] at h1
    have h2 := h1.1 e he
    simp only [hb, Bool.not_true, Bool.false_or] at h2
    exact blt_lt h2
  have hpair : ∀ (i j : Nat) (x y : Oper), l.toArray[i]? = some x → l.toArray[j]? = some y → i < j →
      ((y.after.any fun e => Region.binds .any e && Nat.beq e.on i) || x.apart l.toArray y) = true ∧ (!loudB x || !loudB y || aheadB (ancGo [] l) j i) = true := fun i j x y hx hy hij => by
    have h1 := hp (x, i) (mem hx)
    simp only [Bool.and_eq_true, List.all_eq_true] at h1
    have h2 := h1.2 (y, j) (mem hy)
    have h3 : Nat.blt i j = true := Nat.ble_eq_true_of_le hij
    simp only [h3, Bool.not_true, Bool.false_or, Bool.and_eq_true] at h2
    exact h2
  have hstep : ∀ j i, aheadB (ancGo [] l) j i = true → ∃ x, l.toArray[j]? = some x ∧ ∃ e ∈ x.after, Region.binds .any e = true ∧ (e.on = i ∨ aheadB (ancGo [] l) e.on i = true) := fun j i hj => by
    obtain ⟨x, hx, e, he, h'⟩ := ancGo_spec l [] [] rfl (fun j i hj => by simp [aheadB] at hj) j i hj
    exact ⟨x, by simpa using hx, e, by simpa using he, h'⟩
  refine ⟨Region.noSelect_spec hsel, hon, ?_, ?_, ?_, ?_⟩
  · intro i j x y hx hy hij hno
    have h1 := (hpair i j x y hx hy hij).1
    rw [Bool.or_eq_true] at h1
    refine h1.resolve_left fun h2 => ?_
    rw [Array.any_eq_true'] at h2
    obtain ⟨e, he, h3⟩ := h2
    simp only [Bool.and_eq_true] at h3
    exact hno e he h3.1 (Nat.eq_of_beq_eq_true h3.2)
  · intro i j x y hx hy hij hlx hly
    have h1 := (hpair i j x y hx hy hij).2
    simpa [hlx, hly] using h1
  · intro j
    induction j using Nat.strongRecOn with
    | _ j ih =>
      intro i hj
      obtain ⟨x, hx, e, he, hb, h'⟩ := hstep j i hj
      have hlt := hon j x hx e he hb
      rcases h' with rfl | h'
      · exact hlt
      · have := ih e.on hlt i h'; omega
  · intro listed hcl
    have key : ∀ j, (∀ x, l.toArray[j]? = some x → ∀ e ∈ x.after, Region.binds .any e = true → listed.getD e.on false = true) → ∀ i, aheadB (ancGo [] l) j i = true → listed.getD i false = true := by
      intro j
      induction j using Nat.strongRecOn with
      | _ j ih =>
        intro hall i hj
        obtain ⟨x, hx, e, he, hb, h'⟩ := hstep j i hj
        have h1 := hall x hx e he hb
        rcases h' with rfl | h'
        · exact h1
        · refine ih e.on (hon j x hx e he hb) (fun y hy e' he' hb' => hcl e.on y hy ?_ e' he' hb') i h'
          rcases Nat.lt_or_ge e.on listed.size with h2 | h2
          · simp [h2] at h1 ⊢; exact h1
          · simp [Array.getElem?_eq_none h2] at h1
    intro j hj i hji
    obtain ⟨_, o, ho, hall⟩ := mem_ready.1 hj
    exact key j (fun x hx e he hb => by rw [ho] at hx; cases hx; exact hall e he hb) i hji

/-- A region that draws its order. -/
theorem wp_region_held {l : List Oper} {id : Nat} {a : Act} {w : World} (hm : P.follows .mixedOrders = true) (hh : heldB l (ancGo [] l) = true) (hC : C w.drew)
    (h : Wk P l.toArray (ancGo [] l) Q (List.range l.length) C a w.drew) : (Code.region id l.toArray true).wp P Q a w := by
  refine wp_region_any hm ?_
  have := held_any (Q := Q) (held_of hh) l.length (List.range l.length) (Array.replicate l.toArray.size false) C a w.drew (by simp) (fun i => by simp; intro h; simp [h])
    List.pairwise_lt_range (fun i x hx hi => by
      have hlt : i < l.length := by
        have := (Array.getElem?_eq_some_iff.1 hx).1
        simpa using this
      simp [hlt] at hi) (.inl hC) h
  simpa using this

end

/-! ## Soundness -/

structure Rel (n : Nat) (E : Env) (a : Act) : Prop where
  defers : a.defers = []
  size : a.tmps.size = n
  at_ : ∀ i, a.tmps.getD i undef = look E i

theorem Rel.eval {n : Nat} {E : Env} {a : Act} (h : Rel n E a) : a.eval = ev E := by
  funext x
  cases x with
  | tmp t => exact h.at_ t
  | const v => rfl
  | global g => rfl
  | func f => rfl

theorem Rel.put {n : Nat} {E : Env} {a : Act} (h : Rel n E a) (dst : Option Tmp) (hd : ∀ d, dst = some d → d < n) (v : Value) : Rel n (putE E dst v) (a.put dst v) := by
  cases dst with
  | none => exact h
  | some d =>
    have hlt := hd d rfl
    refine ⟨h.defers, by simp [Act.put, h.size], fun i => ?_⟩
    simp only [Act.put, putE, look_cons]
    have := h.at_ i
    simp only [Array.getD_eq_getD_getElem?, Array.getElem?_setIfInBounds] at this ⊢
    by_cases hi : d = i
    · subst hi; simp [h.size, hlt]
    · simp [hi, this]

theorem Rel.of_look {n : Nat} {E E' : Env} {a : Act} (h : Rel n E a) (he : ∀ i, look E' i = look E i) : Rel n E' a :=
  ⟨h.defers, h.size, fun i => (h.at_ i).trans (he i).symm⟩

def fitsOps (n : Nat) : List Oper → Bool
  | [] => true
  | o :: l => (match o.dst with | some d => Nat.blt d n | none => true) && fitsOps n l

def fits (n : Nat) : Code → Bool
  | .region _ ops d => fitsOps n ops.toList && (!d || heldB ops.toList (ancGo [] ops.toList))
  | .seq a b => fits n a && fits n b
  | .cond _ x y => fits n x && fits n y
  | .block _ b => fits n b
  | .loop b => fits n b
  | .scope b => fits n b
  | _ => true

section
variable {P : Program} {n : Nat}

def Kn.holds (v : Value) : Kn → Prop
  | .unk => True
  | .undef => v = Go.undef
  | .bool b => v = .bool b

def DOk (D : Dec) (E : Env) : Prop := ∀ i, (kn D i).holds (look E i)

theorem DOk.nil (E : Env) : DOk [] E := fun _ => trivial

theorem DOk.cons {D : Dec} {E : Env} (h : DOk D E) {d : Nat} {k : Kn} (hk : k.holds (look E d)) : DOk ((d, k) :: D) E := by
  intro i
  simp only [kn]
  cases hb : Nat.beq d i with
  | true => cases Nat.eq_of_beq_eq_true hb; exact hk
  | false => exact h i

theorem DOk.put {D : Dec} {E : Env} (h : DOk D E) (dst : Option Tmp) {k : Kn} {v : Value} (hk : k.holds v) : DOk (knPut D dst k) (putE E dst v) := by
  cases dst with
  | none => exact h
  | some d =>
    intro i
    simp only [knPut, putE, kn, look]
    cases hb : Nat.beq d i with
    | true => exact hk
    | false => exact h i

theorem DOk.op {D : Dec} {E : Env} (h : DOk D E) (x : Operand) : (knOp D x).holds (ev E x) := by
  cases x with
  | tmp t => exact h t
  | const v => cases v <;> trivial
  | global g => trivial
  | func f => trivial

theorem opRK_ret {D : Dec} {E : Env} (h : DOk D E) (o : Oper) : (∃ v, (opRK D (ev E) o).1 = .ret v ∧ (opRK D (ev E) o).2.holds v ∧ execOp (ev E) o = pure (.value v)) ∨
    ((opRK D (ev E) o).1 = opR (ev E) o ∧ (opRK D (ev E) o).2 = .unk) := by
  obtain ⟨dst, op, type, pos, after, guard⟩ := o
  cases op with
  | move x => exact .inl ⟨_, rfl, h.op x, rfl⟩
  | assign x => exact .inl ⟨_, rfl, h.op x, rfl⟩
  | pick c x y =>
    have hc := h.op c
    simp only [opRK]
    cases hk : knOp D c with
    | unk => exact .inr ⟨rfl, rfl⟩
    | undef => exact .inr ⟨rfl, rfl⟩
    | bool t =>
      rw [hk] at hc
      have hc' : ev E c = .bool t := hc
      cases t with
      | true => exact .inl ⟨_, rfl, h.op x, by simp only [execOp, hc']; rfl⟩
      | false => exact .inl ⟨_, rfl, h.op y, by simp only [execOp, hc']; rfl⟩
  | _ => exact .inr ⟨rfl, rfl⟩

theorem opRK_sem {D : Dec} {E : Env} (h : DOk D E) (o : Oper) : (opRK D (ev E) o).1.sem = execOp (ev E) o := by
  rcases opRK_ret h o with ⟨v, h1, _, h3⟩ | ⟨h1, _⟩
  · rw [h1, h3]; rfl
  · rw [h1, sem_opR]

theorem loud_of_opW {o : Oper} {r : OpR} {a : Act} {w : World} {K : Act → World → Prop} (ha : r.sem = execOp a.eval o)
    (h : opW P r w fun v w' => K (a.put o.dst v) w') : loudW P o a w K := by
  unfold loudW
  rw [← ha]
  cases r with
  | ret v => exact h
  | val s =>
    obtain ⟨v, w', hr, hk⟩ := h
    simp only [OpR.sem, Sem.run_bind, hr, Result.andThen_ok, Sem.run_pure]
    exact hk
  | unit s =>
    obtain ⟨w', hr, hk⟩ := h
    simp only [OpR.sem, Sem.run_bind, hr, Result.andThen_ok, Sem.run_pure]
    exact hk
  | next s => exact h
  | bad s => exact h.elim

theorem yielded_rel {all : List Oper} {E : Env} {a : Act} (h : Rel n E a) (j : Nat) (hf : fitsOps n all = true) :
    yielded all.toArray a.tmps j = match (all[j]?).bind (·.dst) with
      | some d => (match look E d with | .bool b => some b | _ => none)
      | none => none := by
  unfold yielded
  simp only [List.getElem?_toArray]
  cases hd : (all[j]?).bind (·.dst) with
  | none => rfl
  | some d =>
    have hlt : d < n := by
      clear h
      induction all generalizing j with
      | nil => simp at hd
      | cons o l ih =>
        simp only [fitsOps, Bool.and_eq_true] at hf
        cases j with
        | zero =>
          simp at hd
          simp only [hd] at hf
          exact blt_lt hf.1
        | succ j => exact ih j hf.2 (by simpa using hd)
    have h1 := h.at_ d
    simp only [Array.getD_eq_getD_getElem?] at h1
    simp only [Option.bind_some]
    cases ht : a.tmps[d]? with
    | none =>
      have h2 : d < a.tmps.size := by rw [h.size]; exact hlt
      rw [Array.getElem?_eq_getElem h2] at ht
      cases ht
    | some v =>
      rw [ht] at h1
      simp only [Option.getD_some] at h1
      subst h1
      cases look E d <;> rfl

/-- What a guard asks, in both. -/
theorem gd_wanted {all : List Oper} {o : Oper} {D : Dec} {E : Env} {a : Act} (h : Rel n E a) (hD : DOk D E) (hf : fitsOps n all = true) :
    match gdOf all D o with
    | .yes => Region.wanted o (yielded all.toArray a.tmps) = true
    | .no => Region.wanted o (yielded all.toArray a.tmps) = false
    | .ask d want => ∀ b, look E d = .bool b → Region.wanted o (yielded all.toArray a.tmps) = (b == want) := by
  unfold gdOf Region.wanted
  cases hgd : o.guard with
  | none => rfl
  | some p =>
    obtain ⟨j, want⟩ := p
    simp only []
    rw [yielded_rel h j hf]
    cases hd : (all[j]?).bind (·.dst) with
    | none => rfl
    | some d =>
      simp only []
      have hk := hD d
      cases hkn : kn D d with
      | unk =>
        intro b hb
        simp [hb]
      | undef =>
        rw [hkn] at hk
        have hk' : look E d = Go.undef := hk
        rw [hk']
        rfl
      | bool t =>
        rw [hkn] at hk
        have hk' : look E d = .bool t := hk
        rw [hk']
        cases t <;> cases want <;> rfl

def same (ds : List Nat) (E E' : Env) : Prop := ∀ i, memB i ds = false → look E' i = look E i

theorem same.refl (ds : List Nat) (E : Env) : same ds E E := fun _ _ => rfl
theorem same.trans {ds : List Nat} {E E' E'' : Env} (h : same ds E E') (h' : same ds E' E'') : same ds E E'' := fun i hi => (h' i hi).trans (h i hi)

theorem same_put {o : Oper} {l : List Oper} {E : Env} (v : Value) : same (opDsts (o :: l)) E (putE E o.dst v) := by
  intro i hi
  cases hd : o.dst with
  | none => rfl
  | some d =>
    simp only [opDsts, hd, memB] at hi
    simp only [putE, look_cons]
    cases hb : Nat.beq i d with
    | true => simp [hb] at hi
    | false => rw [if_neg]; rintro rfl; simp at hb

theorem same_cons {o : Oper} {l : List Oper} {E E' : Env} (h : same (opDsts l) E E') : same (opDsts (o :: l)) E E' := by
  intro i hi
  refine h i ?_
  simp only [opDsts] at hi
  cases hd : o.dst with
  | none => simpa [hd] using hi
  | some d =>
    simp only [hd, memB] at hi
    cases hb : Nat.beq i d with
    | true => simp [hb] at hi
    | false => simpa [hb] using hi

theorem vcOps_sound {all : List Oper} {Q : Exit → Act → World → Prop} (hf : fitsOps n all = true) : ∀ (l : List Oper) (k : Env → World → Prop), fitsOps n l = true → ∀ (D : Dec) (E : Env) (a : Act) (w : World), Rel n E a → DOk D E →
    vcOps P all k l D E w → (∀ E' a' w', k E' w' → Rel n E' a' → same (opDsts l) E E' → Q .normal a' w') → wpList P all.toArray Q l a w
  | [], k, _, D, E, a, w, hr, _, h, hq => hq E a w h hr (same.refl _ _)
  | o :: l, k, hl, D, E, a, w, hr, hD, h, hq => by
    simp only [fitsOps, Bool.and_eq_true] at hl
    have hd : ∀ d, o.dst = some d → d < n := fun d hd => by
      have := hl.1
      simp only [hd] at this
      exact blt_lt this
    refine wpList_step fun K hK => ?_
    have fin : ∀ D' v w', DOk D' (putE E o.dst v) → vcOps P all k l D' (putE E o.dst v) w' → K (a.put o.dst v) w' := fun D' v w' hD' hv =>
      hK _ _ (vcOps_sound hf l k hl.2 D' _ _ _ (hr.put o.dst hd v) hD' hv fun E' a' w'' hk hr' hs => hq E' a' w'' hk hr' ((same_put v).trans (same_cons hs)))
    have yes : ∀ D, DOk D E → (opW P (opRK D (ev E) o).1 w fun v w' => vcOps P all k l (knPut D o.dst (opRK D (ev E) o).2) (putE E o.dst v) w') → o.wp P a w K Q := by
      intro D hD hx
      refine wp_of_loudW (loud_of_opW (r := (opRK D (ev E) o).1) (by rw [hr.eval]; exact opRK_sem hD o) ?_)
      rcases opRK_ret hD o with ⟨v, h1, h2, _⟩ | ⟨h1, h2⟩
      · rw [h1] at hx ⊢
        exact fin _ v w (hD.put o.dst h2) hx
      · rw [h1] at hx ⊢
        rw [h2] at hx
        generalize opR (ev E) o = r at hx
        have fin' : ∀ v w', vcOps P all k l (knPut D o.dst .unk) (putE E o.dst v) w' → K (a.put o.dst v) w' := fun v w' hv => fin _ v w' (hD.put o.dst (k := .unk) (v := v) trivial) hv
        cases r with
        | ret v => exact fin' v w hx
        | val s => obtain ⟨v, w', h1, h2⟩ := hx; exact ⟨v, w', h1, fin' v w' h2⟩
        | unit s => obtain ⟨w', h1, h2⟩ := hx; exact ⟨w', h1, fin' _ w' h2⟩
        | next s =>
          simp only [opW, SN] at hx ⊢
          generalize s.run P w = r at hx ⊢
          cases r with
          | halt x w' => exact hx.elim
          | ok x w' =>
            cases x <;> first | exact hx.elim | exact fin' _ _ hx | skip
            exact Calls.mono hx (retP_mono fun v w hv => fin' v w hv)
        | bad s => exact hx.elim
    simp only [vcOps] at h
    have hw := gd_wanted (o := o) hr hD hf
    cases hg : gdOf all D o with
    | yes =>
      simp only [hg] at h hw
      rw [if_pos hw]
      exact yes D hD h
    | no =>
      simp only [hg] at h hw
      rw [if_neg (by simp [hw])]
      exact fin _ _ _ (hD.put o.dst (k := .undef) rfl) h
    | ask d want =>
      simp only [hg, GD] at h hw
      cases hv : look E d with
      | bool b =>
        rw [hv] at h
        have hw' := hw b hv
        by_cases hb : b = want
        · subst hb
          simp only [if_true] at h
          rw [if_pos (by simpa using hw')]
          exact yes _ (hD.cons (k := .bool b) hv) h
        · simp only [hb, if_false] at h
          have hbw : b = !want := not_of_ne hb
          rw [if_neg (by simp [hw', hb])]
          exact fin _ _ _ ((hD.cons (k := .bool (!want)) (by rw [hv, hbw]; rfl)).put o.dst (k := .undef) rfl) h
      | _ => rw [hv] at h; exact h.elim

theorem opRK_idle (D : Dec) (ρ : Operand → Value) (o : Oper) (h : idleB o = true) : ∃ v, (opRK D ρ o).1 = .ret v := by
  unfold idleB at h
  split at h
  · rename_i x hx; exact ⟨ρ x, by simp [opRK, hx]⟩
  · rename_i x hx; exact ⟨ρ x, by simp [opRK, hx]⟩
  · cases h

theorem vcH_sound {all : List Oper} {Q : Exit → Act → World → Prop} {b : List Nat} (hf : fitsOps n all = true) : ∀ (l : List Oper) (i : Nat) (k : Env → World → Prop), (∀ j, l[j]? = all[i + j]?) → fitsOps n l = true →
    ∀ (C : World → Prop) (D : Dec) (E : Env) (a : Act) (w : World), Rel n E a → DOk D E →
    vcH P all b k C i l D E w → (∀ E' a' w', k E' w' → Rel n E' a' → same (opDsts l) E E' → Q .normal a' w') → Wk P all.toArray b Q (List.range' i l.length) C a w
  | [], i, k, _, _, C, D, E, a, w, hr, _, h, hq => hq E a w h hr (same.refl _ _)
  | o :: l, i, k, hil, hl, C, D, E, a, w, hr, hD, h, hq => by
    simp only [fitsOps, Bool.and_eq_true] at hl
    have h0 : all.toArray[i]? = some o := by simpa using (hil 0).symm
    have hil' : ∀ j, l[j]? = all[i + 1 + j]? := fun j => by have := hil (j + 1); simpa [Nat.add_assoc, Nat.add_comm 1 j] using this
    have hd : ∀ d, o.dst = some d → d < n := fun d hd => by
      have := hl.1
      simp only [hd] at this
      exact blt_lt this
    have fin : ∀ C D' v w', DOk D' (putE E o.dst v) → vcH P all b k C (i + 1) l D' (putE E o.dst v) w' → Wk P all.toArray b Q (List.range' (i + 1) l.length) C (a.put o.dst v) w' := fun C D' v w' hD' hv =>
      vcH_sound hf l (i + 1) k hil' hl.2 C D' _ _ _ (hr.put o.dst hd v) hD' hv fun E' a' w'' hk hr' hs => hq E' a' w'' hk hr' ((same_put v).trans (same_cons hs))
    simp only [List.length_cons, List.range'_succ, Wk, h0]
    unfold hOp
    have yes : ∀ D, DOk D E → (opH P C (loudB o) (lastB all b i) (freshB all b i) (opRK D (ev E) o).1 w fun C v w' => vcH P all b k C (i + 1) l (knPut D o.dst (opRK D (ev E) o).2) (putE E o.dst v) w') →
        (if loudB o = true then loudW P o a w (fun a' w' => ∃ C' : World → Prop, (∀ w, C w → C' w) ∧ (freshB all b i = true ∨ C' = C) ∧ (lastB all b i = true ∨ C' w') ∧ Wk P all.toArray b Q (List.range' (i + 1) l.length) C' a' w')
          else ∃ v, (∀ w', (C w' ∨ idleB o = true) → (execOp a.eval o).run P w' = .ok (.value v) w') ∧ Wk P all.toArray b Q (List.range' (i + 1) l.length) C (a.put o.dst v) w) := by
      intro D hD hx
      have hsem : (opRK D (ev E) o).1.sem = execOp a.eval o := by rw [hr.eval]; exact opRK_sem hD o
      have hidle : idleB o = true → ∃ v, (opRK D (ev E) o).1 = .ret v := opRK_idle D (ev E) o
      have fin' : (∃ v, (opRK D (ev E) o).1 = .ret v ∧ (opRK D (ev E) o).2.holds v) ∨ (opRK D (ev E) o).2 = .unk := by
        rcases opRK_ret hD o with ⟨v, h1, h2, _⟩ | ⟨h1, h2⟩
        · exact .inl ⟨v, h1, h2⟩
        · exact .inr h2
      generalize opRK D (ev E) o = rk at hx hsem fin' hidle
      obtain ⟨r, kk⟩ := rk
      simp only at hx hsem fin' hidle
      have hkk : ∀ v, (∀ u, r = .ret u → u = v) → kk.holds v := fun v hu => by
        rcases fin' with ⟨u, h1, h2⟩ | h1
        · rw [← hu u h1]; exact h2
        · rw [h1]; trivial
      by_cases hlo : loudB o = true
      · rw [if_pos hlo]
        simp only [hlo] at hx
        refine loud_of_opW hsem ?_
        have fin2 : ∀ C v w', (∀ u, r = .ret u → u = v) → vcH P all b k C (i + 1) l (knPut D o.dst kk) (putE E o.dst v) w' → Wk P all.toArray b Q (List.range' (i + 1) l.length) C (a.put o.dst v) w' :=
          fun C v w' hu hv => fin C _ v w' (hD.put o.dst (hkk v hu)) hv
        have pack : ∀ C' v w', (∀ w, C w → C' w) → (freshB all b i = true ∨ C' = C) → (lastB all b i = true ∨ C' w') → (∀ u, r = .ret u → u = v) → vcH P all b k C' (i + 1) l (knPut D o.dst kk) (putE E o.dst v) w' →
            ∃ C' : World → Prop, (∀ w, C w → C' w) ∧ (freshB all b i = true ∨ C' = C) ∧ (lastB all b i = true ∨ C' w') ∧ Wk P all.toArray b Q (List.range' (i + 1) l.length) C' (a.put o.dst v) w' :=
          fun C' v w' h1 h2 h3 hu hv => ⟨C', h1, h2, h3, fin2 C' v w' hu hv⟩
        have widen : ∃ kk' : Value → World → Prop, opW P r w kk' ∧ ∀ v w', (∀ u, r = .ret u → u = v) → kk' v w' →
            ∃ C' : World → Prop, (∀ w, C w → C' w) ∧ (freshB all b i = true ∨ C' = C) ∧ (lastB all b i = true ∨ C' w') ∧ Wk P all.toArray b Q (List.range' (i + 1) l.length) C' (a.put o.dst v) w' := by
          cases hL : lastB all b i with
          | true =>
            simp only [hL, opH] at hx
            exact ⟨_, hx, fun v w' hu hv => by simpa only [hL] using pack C v w' (fun _ h => h) (.inr rfl) (.inl hL) hu hv⟩
          | false =>
            cases hF : freshB all b i with
            | false =>
              simp only [hL, hF, opH] at hx
              exact ⟨_, hx, fun v w' hu hv => by simpa only [hL, hF] using pack C v w' (fun _ h => h) (.inr rfl) (.inr hv.1) hu hv.2⟩
            | true =>
              simp only [hL, hF, opH] at hx
              refine ⟨_, hx, fun v w' hu hv => ?_⟩
              obtain ⟨C', h1, h2, h3⟩ := hv
              simpa only [hL, hF] using pack C' v w' h1 (.inl hF) (.inr h2) hu h3
        obtain ⟨kk', hx', fin3⟩ := widen
        clear hx
        cases r with
        | ret v => exact fin3 v w (fun u hu => by injection hu with hu; exact hu.symm) hx'
        | val s => obtain ⟨v, w', h1, h2⟩ := hx'; exact ⟨v, w', h1, fin3 v w' (fun u hu => by cases hu) h2⟩
        | unit s => obtain ⟨w', h1, h2⟩ := hx'; exact ⟨w', h1, fin3 _ w' (fun u hu => by cases hu) h2⟩
        | next s =>
          simp only [opW, SN] at hx' ⊢
          generalize s.run P w = rr at hx' ⊢
          cases rr with
          | halt x w' => exact hx'.elim
          | ok x w' =>
            cases x <;> first | exact hx'.elim | exact fin3 _ _ (fun u hu => by cases hu) hx' | skip
            exact Calls.mono hx' (retP_mono fun v w hv => fin3 v w (fun u hu => by cases hu) hv)
        | bad s => exact hx'.elim
      · rw [if_neg hlo]
        have hlo' : loudB o = false := by simpa using hlo
        simp only [hlo', opH] at hx
        cases r with
        | ret v => exact ⟨v, fun w' _ => by rw [← hsem]; rfl, fin C _ v w (hD.put o.dst (hkk v fun u hu => by injection hu with hu; exact hu.symm)) hx⟩
        | val s =>
          obtain ⟨v, h1, h2⟩ := hx
          refine ⟨v, fun w' hw' => ?_, fin C _ v w (hD.put o.dst (hkk v fun u hu => by cases hu)) h2⟩
          rw [← hsem]
          rcases hw' with hw' | hw'
          · simp only [OpR.sem, Sem.run_bind, h1 w' hw', Result.andThen_ok, Sem.run_pure]
          · obtain ⟨_, h⟩ := hidle hw'; cases h
        | unit s => exact hx.elim
        | next s =>
          obtain ⟨v, h1, h2⟩ := hx
          refine ⟨v, fun w' hw' => ?_, fin C _ v w (hD.put o.dst (hkk v fun u hu => by cases hu)) h2⟩
          rcases hw' with hw' | hw'
          · rw [← hsem]; exact h1 w' hw'
          · obtain ⟨_, h⟩ := hidle hw'; cases h
        | bad s => exact hx.elim
    simp only [vcH] at h
    have hw := gd_wanted (o := o) hr hD hf
    cases hg : gdOf all D o with
    | yes =>
      simp only [hg] at h hw
      rw [if_pos hw]
      exact yes D hD h
    | no =>
      simp only [hg] at h hw
      rw [if_neg (by simp [hw])]
      exact fin C _ _ _ (hD.put o.dst (k := .undef) rfl) h
    | ask d want =>
      simp only [hg, GD] at h hw
      cases hv : look E d with
      | bool b =>
        rw [hv] at h
        have hw' := hw b hv
        by_cases hb : b = want
        · subst hb
          simp only [if_true] at h
          rw [if_pos (by simpa using hw')]
          exact yes _ (hD.cons (k := .bool b) hv) h
        · simp only [hb, if_false] at h
          have hbw : b = !want := not_of_ne hb
          rw [if_neg (by simp [hw', hb])]
          exact fin C _ _ _ ((hD.cons (k := .bool (!want)) (by rw [hv, hbw]; rfl)).put o.dst (k := .undef) rfl) h
      | _ => rw [hv] at h; exact h.elim

theorem memB_addB (i j : Nat) (l : List Nat) : memB i (addB j l) = (Nat.beq i j || memB i l) := by
  unfold addB
  cases h : memB j l with
  | true =>
    simp only [cond_true]
    cases hb : Nat.beq i j with
    | true => rw [Nat.eq_of_beq_eq_true hb, h]; rfl
    | false => rfl
  | false =>
    simp only [cond_false, memB]
    cases Nat.beq i j <;> rfl

theorem memB_unionB (i : Nat) (l m : List Nat) : memB i (unionB l m) = (memB i l || memB i m) := by
  induction l with
  | nil => rfl
  | cons j l ih =>
    simp only [unionB, memB_addB, memB, ih]
    cases Nat.beq i j <;> rfl

theorem same.left {l m : List Nat} {E E' : Env} (h : same l E E') : same (unionB l m) E E' := fun i hi => h i (by rw [memB_unionB] at hi; simp at hi; exact hi.1)
theorem same.right {l m : List Nat} {E E' : Env} (h : same m E E') : same (unionB l m) E E' := fun i hi => h i (by rw [memB_unionB] at hi; simp at hi; exact hi.2)

theorem look_deadE (ζ : Nat → Value) (ds : List Nat) (E : Env) (i : Nat) : look (deadE ζ ds E) i = if memB i ds = true then ζ i else look E i := by
  induction ds with
  | nil => simp [deadE, memB]
  | cons d ds ih =>
    simp only [deadE, look_cons, memB, ih]
    by_cases h : d = i
    · subst h; simp
    · have : Nat.beq i d = false := by
        cases hb : Nat.beq i d
        · rfl
        · exact absurd (Nat.eq_of_beq_eq_true hb).symm h
      simp [h, this]

theorem look_zipE (f : Nat → Value) (us : List Value) : ∀ (ls : List Nat) (m : Nat) (E : Env) (i : Nat), (∀ j, j < ls.length → us.getD (m + j) undef = f (ls.getD j 0)) → look (zipE us m ls E) i = if memB i ls = true then f i else look E i
  | [], m, E, i, _ => by simp [zipE, memB]
  | d :: ds, m, E, i, h => by
    have h0 := h 0 (by simp)
    simp only [Nat.add_zero, List.getD_cons_zero] at h0
    simp only [zipE, look_cons, memB]
    rw [look_zipE f us ds (m + 1) E i (fun j hj => by have := h (j + 1) (by simp; omega); simpa [Nat.add_assoc, Nat.add_comm 1 j] using this)]
    by_cases hd : d = i
    · subst hd; simp; exact h0
    · have : Nat.beq i d = false := by
        cases hb : Nat.beq i d
        · rfl
        · exact absurd (Nat.eq_of_beq_eq_true hb).symm hd
      simp [hd, this]

theorem memB_keepB (L : List Nat) (i : Nat) (l : List Nat) : memB i (keepB L l) = true → memB i l = true := by
  induction l with
  | nil => simp [keepB]
  | cons d l ih =>
    simp only [keepB]
    intro h
    cases hd : memB d L with
    | true =>
      simp only [hd, cond_true, memB] at h
      simp only [memB]
      cases hb : Nat.beq i d with
      | true => rfl
      | false => simp only [hb, cond_false] at h ⊢; exact ih h
    | false =>
      simp only [hd, cond_false] at h
      simp only [memB]
      cases Nat.beq i d <;> simp [ih h]

/-- An environment whose carried values are those that it has, is the same. -/
theorem look_layE {L ds : List Nat} {E E' : Env} (h : same ds E E') (i : Nat) :
    look (layE (keepB L ds) ((keepB L ds).map (look E')) ds (look E') E) i = look E' i := by
  unfold layE
  rw [look_zipE (look E') _ _ 0 _ i (fun j hj => by simp [List.getD_eq_getElem?_getD, hj])]
  split
  · rfl
  · rw [look_deadE]
    split
    · rfl
    · rename_i h1
      exact (h i (by simpa using h1)).symm

theorem same_layE (L ds : List Nat) (us : List Value) (ζ : Nat → Value) (E : Env) : same ds E (layE (keepB L ds) us ds ζ E) := by
  intro i hi
  unfold layE
  have hk : memB i (keepB L ds) = false := by
    cases h : memB i (keepB L ds)
    · rfl
    · rw [memB_keepB L i ds h] at hi; cases hi
  have : ∀ (ls : List Nat) (m : Nat) (E' : Env), memB i ls = false → look (zipE us m ls E') i = look E' i := by
    intro ls
    induction ls with
    | nil => intro m E' _; rfl
    | cons d ls ih =>
      intro m E' h
      simp only [memB] at h
      cases hb : Nat.beq i d with
      | true => simp [hb] at h
      | false =>
        simp only [hb, cond_false] at h
        simp only [zipE, look_cons]
        rw [if_neg (by rintro rfl; simp at hb), ih (m + 1) E' h]
  rw [this _ _ _ hk, look_deadE, if_neg (by simp [hi])]

def toEx : Exit → Option Ex
  | .normal => some .normal
  | .exit id => some (.exit id)
  | .ret => some .ret
  | _ => none

/-- What an exit means in both. -/
def Meets (n : Nat) (ds : List Nat) (E : Env) (Q : Ex → Env → World → Prop) (Q' : Exit → Act → World → Prop) : Prop :=
  (∀ E' a' w', Q .normal E' w' → Rel n E' a' → same ds E E' → Q' .normal a' w') ∧
  (∀ id E' a' w', Q (.exit id) E' w' → Rel n E' a' → same ds E E' → Q' (.exit id) a' w') ∧
  (∀ E' a' w', Q .ret E' w' → Rel n E' a' → same ds E E' → Q' .ret a' w')

theorem vc_sound (hm : P.follows .mixedOrders = true) (L : List Nat) : ∀ (c : Code), fits n c = true → ∀ (Q : Ex → Env → World → Prop) (Q' : Exit → Act → World → Prop) (E : Env) (a : Act) (w : World),
    Rel n E a → Meets n (dsts c) E Q Q' → vc P L c Q E w → c.wp P Q' a w := by
  intro c
  induction c with
  | skip => intro _ Q Q' E a w hr hq h; exact wp_skip (hq.1 _ _ _ h hr (same.refl _ _))
  | label l => intro _ Q Q' E a w hr hq h; exact wp_label (hq.1 _ _ _ h hr (same.refl _ _))
  | region id ops d =>
    intro hf Q Q' E a w hr hq h
    simp only [fits, Bool.and_eq_true] at hf
    cases d with
    | false =>
      have h' : vcOps P ops.toList (Q .normal) ops.toList [] E w := h
      refine wp_region_list ?_
      have := vcOps_sound (P := P) (Q := Q') hf.1 ops.toList (Q .normal) hf.1 [] E a w hr (DOk.nil E) h' (fun E' a' w' hk hr' hs => hq.1 E' a' w' hk hr' hs)
      simpa using this
    | true =>
      obtain ⟨C, hC, h'⟩ := h
      have hB : heldB ops.toList (ancGo [] ops.toList) = true := by simpa using hf.2
      have h2 := vcH_sound (P := P) (Q := Q') hf.1 ops.toList 0 (Q .normal) (fun j => by simp) hf.1 _ [] E a w.drew hr (DOk.nil E) h' (fun E' a' w' hk hr' hs => hq.1 E' a' w' hk hr' hs)
      rw [← List.range_eq_range'] at h2
      have := wp_region_held (id := id) hm hB hC h2
      simpa using this
  | seq x y ihx ihy =>
    intro hf Q Q' E a w hr hq h
    simp only [fits, Bool.and_eq_true] at hf
    refine wp_seq ?_
    simp only [vc] at h
    cases hj : Nat.ble (normals x) 1 with
    | true =>
      simp only [hj, cond_true] at h
      refine ihx hf.1 _ _ E a w hr ⟨?_, ?_, ?_⟩ h
      · intro E' a' w' h1 hr' hs
        refine ihy hf.2 Q Q' E' a' w' hr' ⟨?_, ?_, ?_⟩ h1
        · intro E'' a'' w'' h2 hr'' hs'; exact hq.1 _ _ _ h2 hr'' (hs.left.trans hs'.right)
        · intro id E'' a'' w'' h2 hr'' hs'; exact hq.2.1 _ _ _ _ h2 hr'' (hs.left.trans hs'.right)
        · intro E'' a'' w'' h2 hr'' hs'; exact hq.2.2 _ _ _ h2 hr'' (hs.left.trans hs'.right)
      · intro id E' a' w' h1 hr' hs; exact hq.2.1 _ _ _ _ h1 hr' hs.left
      · intro E' a' w' h1 hr' hs; exact hq.2.2 _ _ _ h1 hr' hs.left
    | false =>
      simp only [hj, cond_false] at h
      obtain ⟨J, hA, hB⟩ := h
      refine ihx hf.1 _ _ E a w hr ⟨?_, ?_, ?_⟩ hA
      · intro E' a' w' h1 hr' hs
        have h2 := hB.at_ ((keepB L (dsts x)).map (look E')) (by simp) (look E') w' h1
        have hl := look_layE (L := L) hs
        refine ihy hf.2 Q Q' _ a' w' (hr'.of_look hl) ⟨?_, ?_, ?_⟩ h2
        · intro E'' a'' w'' h2 hr'' hs'; exact hq.1 _ _ _ h2 hr'' (hs.left.trans (fun i hi => (hs'.right i hi).trans (hl i)))
        · intro id E'' a'' w'' h2 hr'' hs'; exact hq.2.1 _ _ _ _ h2 hr'' (hs.left.trans (fun i hi => (hs'.right i hi).trans (hl i)))
        · intro E'' a'' w'' h2 hr'' hs'; exact hq.2.2 _ _ _ h2 hr'' (hs.left.trans (fun i hi => (hs'.right i hi).trans (hl i)))
      · intro id E' a' w' h1 hr' hs; exact hq.2.1 _ _ _ _ h1 hr' hs.left
      · intro E' a' w' h1 hr' hs; exact hq.2.2 _ _ _ h1 hr' hs.left
  | cond c x y ihx ihy =>
    intro hf Q Q' E a w hr hq h
    simp only [fits, Bool.and_eq_true] at hf
    simp only [vc, CN] at h
    have hc : a.eval c = ev E c := by rw [hr.eval]
    cases hv : ev E c with
    | bool b =>
      rw [hv] at h hc
      cases b with
      | true =>
        refine wp_cond_true hc (ihx hf.1 Q Q' E a w hr ⟨?_, ?_, ?_⟩ h)
        · intro E'' a'' w'' h2 hr'' hs'; exact hq.1 _ _ _ h2 hr'' hs'.left
        · intro id E'' a'' w'' h2 hr'' hs'; exact hq.2.1 _ _ _ _ h2 hr'' hs'.left
        · intro E'' a'' w'' h2 hr'' hs'; exact hq.2.2 _ _ _ h2 hr'' hs'.left
      | false =>
        refine wp_cond_false hc (ihy hf.2 Q Q' E a w hr ⟨?_, ?_, ?_⟩ h)
        · intro E'' a'' w'' h2 hr'' hs'; exact hq.1 _ _ _ h2 hr'' hs'.right
        · intro id E'' a'' w'' h2 hr'' hs'; exact hq.2.1 _ _ _ _ h2 hr'' hs'.right
        · intro E'' a'' w'' h2 hr'' hs'; exact hq.2.2 _ _ _ h2 hr'' hs'.right
    | _ => rw [hv] at h; exact h.elim
  | block id b ih =>
    intro hf Q Q' E a w hr hq h
    refine wp_block (ih hf (inBlockE id Q) _ E a w hr ⟨?_, ?_, ?_⟩ h)
    · intro E'' a'' w'' h2 hr'' hs'; exact hq.1 _ _ _ h2 hr'' hs'
    · intro j E'' a'' w'' h2 hr'' hs'
      simp only [inBlockE] at h2
      show (if j = id then Q' .normal a'' w'' else Q' (.exit j) a'' w'')
      cases hb : Nat.beq j id with
      | true =>
        simp only [hb, cond_true] at h2
        rw [if_pos (Nat.eq_of_beq_eq_true hb)]
        exact hq.1 _ _ _ h2 hr'' hs'
      | false =>
        simp only [hb, cond_false] at h2
        rw [if_neg (by rintro rfl; simp at hb)]
        exact hq.2.1 _ _ _ _ h2 hr'' hs'
    · intro E'' a'' w'' h2 hr'' hs'; exact hq.2.2 _ _ _ h2 hr'' hs'
  | loop b ih =>
    intro hf Q Q' E a w hr hq h
    obtain ⟨I, μ, h0, hround⟩ := h
    let ls := keepB L (dsts b)
    refine wp_loop (fun a' w' => ∃ E', Rel n E' a' ∧ same (dsts b) E E' ∧ I (ls.map (look E')) w') (fun a' w' => μ (ls.map fun i => a'.tmps.getD i undef) w') ⟨E, hr, same.refl _ _, h0⟩ ?_
    rintro a' w' ⟨E', hr', hs', hI⟩
    have h2 := hround.at_ (ls.map (look E')) (by simp [ls]) (look E') w' hI
    have hl := look_layE (L := L) hs'
    have hmu : ∀ (E' : Env) (a' : Act), Rel n E' a' → (ls.map fun i => a'.tmps.getD i undef) = ls.map (look E') := fun E' a' hr' => by
      congr 1; funext i; exact hr'.at_ i
    refine ih hf _ _ _ a' w' (hr'.of_look hl) ⟨?_, ?_, ?_⟩ h2
    · intro E'' a'' w'' h3 hr'' hs''
      refine ⟨⟨E'', hr'', hs'.trans (fun i hi => (hs'' i hi).trans (hl i)), h3.1⟩, ?_⟩
      show μ _ _ < μ _ _
      rw [hmu _ _ hr'', hmu _ _ hr']
      exact h3.2
    · intro id E'' a'' w'' h3 hr'' hs''; exact hq.2.1 _ _ _ _ h3 hr'' (hs'.trans (fun i hi => (hs'' i hi).trans (hl i)))
    · intro E'' a'' w'' h3 hr'' hs''; exact hq.2.2 _ _ _ h3 hr'' (hs'.trans (fun i hi => (hs'' i hi).trans (hl i)))
  | scope b ih =>
    intro hf Q Q' E a w hr hq h
    refine wp_scope_straight (ih hf Q _ E a w hr ⟨?_, ?_, ?_⟩ h)
    · exact hq.1
    · exact hq.2.1
    · exact hq.2.2
  | exit id => intro _ Q Q' E a w hr hq h; exact wp_exit (hq.2.1 _ _ _ _ h hr (same.refl _ _))
  | ret => intro _ Q Q' E a w hr hq h; exact wp_ret (hq.2.2 _ _ _ h hr (same.refl _ _))
  | rangeFunc f ps x y _ _ => intro _ Q Q' E a w hr hq h; exact h.elim
  | goto l => intro _ Q Q' E a w hr hq h; exact h.elim
  | refuse s => intro _ Q Q' E a w hr hq h; exact h.elim
end

/-! ## A function -/

def argE : Nat → List Value → Env
  | _, [] => []
  | i, v :: l => (i, v) :: argE (i + 1) l

/-- A result that lies in memory. -/
def CR (P : Program) (t : TypeId) (a : Value) (w : World) (k : Value → Prop) : Prop := ∃ v, (do loadVar t (← asAddr a) : Sem Value).run P w = .ok v w ∧ k v

def finV : List Value → Value
  | [v] => v
  | vs => .tuple vs.toArray

def resGo (P : Program) (E : Env) (w : World) (k : Value → Prop) : List ResultVar → List Value → Prop
  | [], acc => k (finV acc)
  | .tmp t :: l, acc => resGo P E w k l (acc ++ [look E t])
  | .cell a t :: l, acc => CR P t (look E a) w fun v => resGo P E w k l (acc ++ [v])

def resE (P : Program) (rs : List ResultVar) (E : Env) (w : World) (k : Value → World → Prop) : Prop := resGo P E w (fun v => k v w) rs []

def endE (P : Program) (rs : List ResultVar) (k : Value → World → Prop) : Ex → Env → World → Prop
  | .normal, E, w => resE P rs E w k
  | .ret, E, w => resE P rs E w k
  | _, _, _ => False

theorem look_argE (l : List Value) : ∀ (k i : Nat), look (argE k l) i = if k ≤ i then l.getD (i - k) undef else undef := by
  induction l with
  | nil => intro k i; simp [argE, look]
  | cons v l ih =>
    intro k i
    simp only [argE, look_cons, ih]
    by_cases h : k = i
    · subst h; simp
    · by_cases h1 : k ≤ i
      · have : i - k = (i - (k + 1)) + 1 := by omega
        simp [h, h1, this, show k + 1 ≤ i by omega]
      · simp [h, h1, show ¬ k + 1 ≤ i by omega]

theorem run_bind_dot {α β : Type} (s : Sem α) (f : α → Sem β) (P : Program) (w : World) : (Sem.bind s f).run P w = (s.run P w).andThen fun a w' => (f a).run P w' := Sem.run_bind ..

theorem run_resGo {P : Program} {E : Env} {tmps : Array Value} {w : World} {k : Value → Prop} (f : ResultVar → Sem Value) (hE : ∀ t, tmps.getD t undef = look E t) (hf1 : ∀ t, f (.tmp t) = pure (tmps.getD t undef))
    (hf2 : ∀ a t, f (.cell a t) = do loadVar t (← asAddr (tmps.getD a undef))) : ∀ (rs : List ResultVar) (acc : List Value), resGo P E w k rs acc → ∃ vs, (rs.mapM f).run P w = .ok vs w ∧ k (finV (acc ++ vs))
  | [], acc, h => ⟨[], rfl, by simpa [resGo] using h⟩
  | .tmp t :: rs, acc, h => by
    obtain ⟨vs, h1, h2⟩ := run_resGo f hE hf1 hf2 rs _ h
    refine ⟨look E t :: vs, ?_, by simpa using h2⟩
    simp only [List.mapM_cons, Sem.run_bind, hf1, hE, Sem.run_pure, Result.andThen_ok, h1]
  | .cell a t :: rs, acc, h => by
    obtain ⟨v, h0, h⟩ := h
    obtain ⟨vs, h1, h2⟩ := run_resGo f hE hf1 hf2 rs _ h
    refine ⟨v :: vs, ?_, by simpa using h2⟩
    simp only [List.mapM_cons]
    rw [Sem.run_bind, hf2, hE, h0]
    simp only [Sem.run_bind, Sem.run_pure, Result.andThen_ok, h1]

def resF (tmps : Array Value) : ResultVar → Sem Value
  | .tmp t => pure (tmps.getD t undef)
  | .cell a t => do loadVar t (← asAddr (tmps.getD a undef))

theorem results_resF (fn : Func) (tmps : Array Value) : results fn tmps = (do
    let vs ← fn.results.mapM (resF tmps)
    pure (if h : vs.size = 1 then vs[0] else .tuple vs)) := by
  unfold results
  congr 1

theorem run_results {P : Program} {fn : Func} {n : Nat} {E : Env} {a : Act} {w : World} {k : Value → World → Prop} (hr : Rel n E a) (h : resE P fn.results.toList E w k) :
    ∃ v, (results fn a.tmps).run P w = .ok v w ∧ k v w := by
  unfold resE at h
  rw [results_resF]
  simp only [Array.mapM_eq_mapM_toList, Sem.run_bind]
  simp only [Functor.map, run_bind_dot]
  obtain ⟨vs, h1, h2⟩ := run_resGo (tmps := a.tmps) (resF a.tmps) hr.at_ (fun _ => rfl) (fun _ _ => rfl) _ _ h
  rw [h1]
  match vs, h2 with
  | [], h => exact ⟨_, rfl, h⟩
  | [t], h => exact ⟨_, rfl, h⟩
  | t :: u :: ts, h => exact ⟨_, rfl, h⟩

/-- A call of a function comes to what its code's condition says. -/
theorem calls_of_vc {P : Program} {f : FuncId} {fn : Func} {c : Code} {args : List Value} {w : World} {k : Value → World → Prop} (L : List Nat) (hm : P.follows .mixedOrders = true)
    (hf : P.funcs[f]? = some fn) (hb : fn.body = some c) (hfit : (fits fn.ntmps c && Nat.ble args.length fn.ntmps) = true)
    (h : vc P L c (endE P fn.results.toList k) (argE 0 args) w) : Calls P f args.toArray w (retP k) := by
  simp only [Bool.and_eq_true] at hfit
  have hle : args.length ≤ fn.ntmps := Nat.le_of_ble_eq_true hfit.2
  refine calls_of_wp hf hb ?_
  refine vc_sound (n := fn.ntmps) hm L c hfit.1 _ _ (argE 0 args) _ w ⟨rfl, by simp; omega, fun i => ?_⟩ ⟨?_, ?_, ?_⟩ h
  · rw [look_argE]
    simp only [Array.getD_eq_getD_getElem?, Array.getElem?_append, List.size_toArray, List.getElem?_toArray, Array.getElem?_replicate]
    by_cases hi : i < args.length
    · simp [hi]
    · have h1 : args[i]? = none := by simp; omega
      simp only [hi, if_false, Nat.zero_le, if_true, Nat.sub_zero, List.getD_eq_getElem?_getD, h1]
      split <;> rfl
  · intro E' a' w' h1 hr' _
    obtain ⟨v, h2, h3⟩ := run_results hr' h1
    exact ⟨hr'.defers, v, h2, h3⟩
  · intro id E' a' w' h1; exact h1.elim
  · intro E' a' w' h1 hr' _
    obtain ⟨v, h2, h3⟩ := run_results hr' h1
    exact ⟨hr'.defers, v, h2, h3⟩

/-- The code of a function, or none. -/
def bodyOf (fn : Func) : Code := fn.body.getD .skip

/-- The condition that a function's code comes to. -/
def vcF (P : Program) (fn : Func) (L : List Nat) (args : List Value) (k : Value → World → Prop) (w : World) : Prop :=
  vc P L (bodyOf fn) (endE P fn.results.toList k) (argE 0 args) w

theorem calls_of_vcF {P : Program} {f : FuncId} {fn : Func} {args : List Value} {w : World} {k : Value → World → Prop} (L : List Nat) (hm : P.follows .mixedOrders = true)
    (hf : P.funcs[f]? = some fn) (hfit : (fn.body.isSome && fits fn.ntmps (bodyOf fn) && Nat.ble args.length fn.ntmps) = true)
    (h : vcF P fn L args k w) : Calls P f args.toArray w (retP k) := by
  simp only [Bool.and_eq_true] at hfit
  cases hb : fn.body with
  | none => rw [hb] at hfit; simp at hfit
  | some c =>
    have e : bodyOf fn = c := by simp [bodyOf, hb]
    unfold vcF at h
    rw [e] at h hfit
    exact calls_of_vc L hm hf hb (by simp [hfit.1.2, hfit.2]) h

/-- A call of a named function. -/
theorem sn_call {P : Program} {f : FuncId} {fn : Func} (hf : P.funcs[f]? = some fn) (hn : (fn.name == "runtime.NumGoroutine") = false) (hb : fn.body.isNone = false)
    {args : Array Value} {w : World} {k : Value → World → Prop} (h : Calls P f args w (retP k)) : SN P (callFunc f args) w k := by
  have : (callFunc f args).run P w = .ok (.enter f args) w := by
    unfold callFunc
    show Sem.run P (match P.funcs[f]? with | none => _ | some fn => _) w = _
    rw [hf]
    simp only [hn, hb]
    rfl
  unfold SN
  rw [this]
  exact h

end Go.Sh
