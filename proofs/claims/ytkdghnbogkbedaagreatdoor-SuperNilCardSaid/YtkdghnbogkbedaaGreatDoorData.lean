/-
  The program's data, and the cells that it takes.
-/
import Derived.Test.YtkdghnbogkbedaaGreatDoorMem
namespace Go.Sh
open Go Go.RowKit

/-- A hash: 32 bytes. -/
structure Sum where
  l : List UInt8
  h : l.length = 32

theorem Sum.ext {a b : Sum} (h : a.l = b.l) : a = b := by cases a; cases b; cases h; rfl
instance : DecidableEq Sum := fun a b => if h : a.l = b.l then isTrue (Sum.ext h) else isFalse fun e => h (by rw [e])
def Sum.zero : Sum := ⟨List.replicate 32 0, rfl⟩
def Sum.cells (s : Sum) : List Value := s.l.map by_
def Sum.v (s : Sum) : Value := ag s.cells
@[simp] theorem Sum.len (s : Sum) : s.cells.length = 32 := by simp [Sum.cells, s.h]
theorem Sum.ones (s : Sum) : Ones s.cells := Ones.bytes _
theorem by_inj {a b : UInt8} (h : by_ a = by_ b) : a = b := by
  unfold by_ at h
  injection h with _ h
  exact UInt8.toNat_inj.1 (by omega)
theorem Sum.cells_inj {a b : Sum} (h : a.cells = b.cells) : a = b :=
  Sum.ext (List.map_inj_right (fun _ _ h => by_inj h) |>.1 h)

def num (n : Int) : Value := .int .i64 n

structure Record where
  window : Int
  index : Int
  time : Int
  payload : List UInt8
  deriving DecidableEq
def Record.zero : Record := ⟨0, 0, 0, []⟩
def Record.cells (r : Record) : List Value := [.int .i64 r.window, .int .i64 r.index, .int .i64 r.time, str r.payload]
def Record.v (r : Record) : Value := ag r.cells
@[simp] theorem Record.len (r : Record) : r.cells.length = 4 := rfl
theorem Record.ones (r : Record) : Ones r.cells := .cons rfl (.cons rfl (.cons rfl (.cons rfl .nil)))

structure Freeze where
  window : Int
  count : Int
  root : Sum
  deriving DecidableEq
def Freeze.zero : Freeze := ⟨0, 0, Sum.zero⟩
def Freeze.cells (f : Freeze) : List Value := .int .i64 f.window :: .int .i64 f.count :: f.root.cells
def Freeze.v (f : Freeze) : Value := ag f.cells
@[simp] theorem Freeze.len (f : Freeze) : f.cells.length = 34 := by simp [Freeze.cells]
theorem Freeze.ones (f : Freeze) : Ones f.cells := .cons rfl (.cons rfl f.root.ones)

structure Head where
  size : Int
  root : Sum
  clock : Int
  mac : Sum
  deriving DecidableEq
def Head.zero : Head := ⟨0, Sum.zero, 0, Sum.zero⟩
def Head.cells (h : Head) : List Value := .int .i64 h.size :: (h.root.cells ++ .int .i64 h.clock :: h.mac.cells)
def Head.v (h : Head) : Value := ag h.cells
@[simp] theorem Head.len (h : Head) : h.cells.length = 66 := by simp [Head.cells]
theorem Head.ones (h : Head) : Ones h.cells := .cons rfl (.append h.root.ones (.cons rfl h.mac.ones))

structure Stone where
  freeze : Freeze
  at_ : Int
  mac : Sum
  deriving DecidableEq
def Stone.zero : Stone := ⟨Freeze.zero, 0, Sum.zero⟩
def Stone.cells (t : Stone) : List Value := t.freeze.cells ++ .int .i64 t.at_ :: t.mac.cells
def Stone.v (t : Stone) : Value := ag t.cells
@[simp] theorem Stone.len (t : Stone) : t.cells.length = 67 := by simp [Stone.cells]
theorem Stone.ones (t : Stone) : Ones t.cells := .append t.freeze.ones (.cons rfl t.mac.ones)

/-- A cite as it stands in memory: two slices. -/
structure CiteV where
  freeze : Freeze
  path : Value
  place : Int
  super : Value
  head : Head
def CiteV.zero : CiteV := ⟨Freeze.zero, .slice none 0 0, 0, .slice none 0 0, Head.zero⟩
def CiteV.cells (c : CiteV) : List Value := c.freeze.cells ++ c.path :: .int .i64 c.place :: c.super :: c.head.cells
def CiteV.v (c : CiteV) : Value := ag c.cells
@[simp] theorem CiteV.len (c : CiteV) : c.cells.length = 103 := by simp [CiteV.cells]

structure ToldV where
  err : Int
  n : Int
  m : Int
  record : Record
  stone : Stone
  path : Value
  head : Head
  cite : CiteV
def ToldV.zero : ToldV := ⟨0, 0, 0, Record.zero, Stone.zero, .slice none 0 0, Head.zero, CiteV.zero⟩
def ToldV.cells (t : ToldV) : List Value :=
  .int .i64 t.err :: .int .i64 t.n :: .int .i64 t.m :: (t.record.cells ++ (t.stone.cells ++ t.path :: (t.head.cells ++ t.cite.cells)))
def ToldV.v (t : ToldV) : Value := ag t.cells
@[simp] theorem ToldV.len (t : ToldV) : t.cells.length = 244 := by simp [ToldV.cells]

structure Ask where
  op : Int
  a : Int
  b : Int
  c : Int
  data : List UInt8
  deriving DecidableEq
def Ask.zero : Ask := ⟨0, 0, 0, 0, []⟩
def Ask.cells (x : Ask) : List Value := [.int .i64 x.op, .int .i64 x.a, .int .i64 x.b, .int .i64 x.c, str x.data]
def Ask.v (x : Ask) : Value := ag x.cells

structure File where
  name : List UInt8
  data : List UInt8
  deriving DecidableEq
def File.zero : File := ⟨[], []⟩
def File.cells (f : File) : List Value := [str f.name, str f.data]
def File.v (f : File) : Value := ag f.cells

structure FileOp where
  kind : Int
  name : List UInt8
  data : List UInt8
  n : Int
  deriving DecidableEq
def FileOp.zero : FileOp := ⟨0, [], [], 0⟩
def FileOp.cells (o : FileOp) : List Value := [.int .i64 o.kind, str o.name, str o.data, .int .i64 o.n]
def FileOp.v (o : FileOp) : Value := ag o.cells

/-- n words of 32 bits. -/
def words (l : List Nat) : List Value := l.map fun (x : Nat) => .int .u32 (x : Int)

end Go.Sh
