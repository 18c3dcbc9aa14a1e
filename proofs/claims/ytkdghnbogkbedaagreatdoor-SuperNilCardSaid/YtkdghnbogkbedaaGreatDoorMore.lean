/-
  Built structs and arrays, texts out of bytes, cut texts, results that lie in memory.
-/
import Derived.Test.YtkdghnbogkbedaaGreatDoorWords
import Derived.Laws.Tables
import Derived.Laws.IdiomStrings
import Derived.Laws.Strings2
import Derived.Laws.Slices
namespace Go.Sh
open Go Go.RowKit

/-! ## Built values -/

/-- A value's cells. -/
class Cl (v : Value) (cs : outParam (List Value)) (n : outParam Nat) : Prop where
  cells : v.cells = cs.toArray
  len : cs.length = n
  ones : Ones cs

instance {k : IntKind} {n : Int} : Cl (.int k n) [.int k n] 1 := ⟨rfl, rfl, .cons rfl .nil⟩
instance {b : Bool} : Cl (.bool b) [.bool b] 1 := ⟨rfl, rfl, .cons rfl .nil⟩
instance {l : List UInt8} : Cl (str l) [str l] 1 := ⟨rfl, rfl, .cons rfl .nil⟩
instance {a : Option Addr} : Cl (.pointer a) [.pointer a] 1 := ⟨rfl, rfl, .cons rfl .nil⟩
instance {a : Option Addr} {l c : Nat} : Cl (.slice a l c) [.slice a l c] 1 := ⟨rfl, rfl, .cons rfl .nil⟩
instance {x : UInt32} : Cl (w32 x) [w32 x] 1 := ⟨rfl, rfl, .cons rfl .nil⟩
instance {x : Int} : Cl (num x) [num x] 1 := ⟨rfl, rfl, .cons rfl .nil⟩
instance {x : UInt8} : Cl (by_ x) [by_ x] 1 := ⟨rfl, rfl, .cons rfl .nil⟩
instance {s : Sum} : Cl s.v s.cells 32 := ⟨rfl, s.len, s.ones⟩
instance {s : Sum} : Cl (ag s.cells) s.cells 32 := ⟨rfl, s.len, s.ones⟩
instance {s : Record} : Cl s.v s.cells 4 := ⟨rfl, s.len, s.ones⟩
instance {s : Record} : Cl (ag s.cells) s.cells 4 := ⟨rfl, s.len, s.ones⟩
instance {s : Freeze} : Cl s.v s.cells 34 := ⟨rfl, s.len, s.ones⟩
instance {s : Freeze} : Cl (ag s.cells) s.cells 34 := ⟨rfl, s.len, s.ones⟩
instance {s : Head} : Cl s.v s.cells 66 := ⟨rfl, s.len, s.ones⟩
instance {s : Head} : Cl (ag s.cells) s.cells 66 := ⟨rfl, s.len, s.ones⟩
instance {s : Stone} : Cl s.v s.cells 67 := ⟨rfl, s.len, s.ones⟩
instance {s : Stone} : Cl (ag s.cells) s.cells 67 := ⟨rfl, s.len, s.ones⟩
theorem Ask.ones (x : Ask) : Ones x.cells := .cons rfl (.cons rfl (.cons rfl (.cons rfl (.cons rfl .nil))))
instance {s : Ask} : Cl s.v s.cells 5 := ⟨rfl, rfl, s.ones⟩
instance {s : Ask} : Cl (ag s.cells) s.cells 5 := ⟨rfl, rfl, s.ones⟩
theorem File.ones (x : File) : Ones x.cells := .cons rfl (.cons rfl .nil)
instance {s : File} : Cl s.v s.cells 2 := ⟨rfl, rfl, s.ones⟩
instance {s : File} : Cl (ag s.cells) s.cells 2 := ⟨rfl, rfl, s.ones⟩
theorem FileOp.ones (x : FileOp) : Ones x.cells := .cons rfl (.cons rfl (.cons rfl (.cons rfl .nil)))
instance {s : FileOp} : Cl s.v s.cells 4 := ⟨rfl, rfl, s.ones⟩
instance {s : FileOp} : Cl (ag s.cells) s.cells 4 := ⟨rfl, rfl, s.ones⟩

/-- Where a type's parts lie, and the zero value's cells. -/
class Bld (P : Program) (t : TypeId) (pl : outParam (Nat → Option (Nat × Nat))) (zs : outParam (List Value)) : Prop where
  is : ∀ parts, P.built t parts = Instr.fill pl zs.toArray parts

theorem put_cells (off : Nat) : ∀ (l : List Value) (k : Nat) (C : Array Value), off + k + l.length ≤ C.size → (l.zipIdx k).foldl (fun cs (c, i) => cs.setIfInBounds (off + i) c) C = (C.toList.take (off + k) ++ l ++ C.toList.drop (off + k + l.length)).toArray := by
  intro l
  induction l with
  | nil => intro k C _; simp
  | cons x l ih =>
    intro k C hC
    simp only [List.length_cons] at hC
    have e1 : ((x :: l).zipIdx k).foldl (fun cs (c, i) => cs.setIfInBounds (off + i) c) C = (l.zipIdx (k + 1)).foldl (fun cs (c, i) => cs.setIfInBounds (off + i) c) (C.setIfInBounds (off + k) x) := by
      rw [List.zipIdx_cons, List.foldl_cons]
    rw [e1, ih (k + 1) _ (by simp; omega)]
    congr 1
    apply List.ext_getElem?
    intro i
    simp only [Array.toList_setIfInBounds, List.getElem?_append, List.length_append, List.length_take, List.length_set, Array.length_toList, List.getElem?_take, List.getElem?_drop, List.getElem?_set, List.length_cons]
    have m1 : min (off + (k + 1)) C.size = off + k + 1 := by omega
    have m2 : min (off + k) C.size = off + k := by omega
    simp only [m1, m2]
    rcases Nat.lt_trichotomy i (off + k) with h | h | h
    · simp [show i < off + k + 1 + l.length by omega, show i < off + k + 1 by omega, show i < off + (k + 1) by omega, show i < off + k + (l.length + 1) by omega, h, show ¬ off + k = i by omega]
    · subst h
      simp [show off + k < off + k + 1 + l.length by omega, show off + k < off + (k + 1) by omega, show off + k < C.size by omega]
    · by_cases h2 : i < off + k + 1 + l.length
      · have e : i - (off + k) = (i - (off + k + 1)) + 1 := by omega
        simp [h2, show ¬ i < off + k + 1 by omega, show i < off + k + (l.length + 1) by omega, show ¬ i < off + k by omega, e]
      · have e2 : i - (off + k + (l.length + 1)) = i - (off + k + 1 + l.length) := by omega
        simp only [h2, if_false, show ¬ i < off + k + (l.length + 1) by omega, e2]
        have e3 : off + (k + 1) + l.length = off + k + (l.length + 1) := by omega
        rw [e3, if_neg (by omega)]

/-- The cells with these parts laid in, one behind the other. -/
def fillS (zs : List Value) : Nat → List (Nat × List Value × Nat) → List Value
  | p, [] => zs.drop p
  | p, (off, cs, n) :: r => (zs.drop p).take (off - p) ++ (cs ++ fillS zs (off + n) r)

inductive FillOk (pl : Nat → Option (Nat × Nat)) (N : Nat) : Nat → List (Nat × Value) → List (Nat × List Value × Nat) → Prop
  | nil (p : Nat) : FillOk pl N p [] []
  | cons' {p i off n : Nat} {v : Value} {cs : List Value} {r : List (Nat × Value)} {l : List (Nat × List Value × Nat)} (h : pl i = some (off, n)) (hv : v.cells = cs.toArray) (hl : cs.length = n) (hp : p ≤ off) (hn : off + n ≤ N)
    (hr : FillOk pl N (off + n) r l) : FillOk pl N p ((i, v) :: r) ((off, cs, n) :: l)

theorem FillOk.cons {pl : Nat → Option (Nat × Nat)} {N p i off n : Nat} {v : Value} {cs : List Value} {r : List (Nat × Value)} {l : List (Nat × List Value × Nat)} [hc : Cl v cs n] (h : pl i = some (off, n)) (hp : Nat.ble p off = true) (hn : Nat.ble (off + n) N = true)
    (hr : FillOk pl N (off + n) r l) : FillOk pl N p ((i, v) :: r) ((off, cs, n) :: l) :=
  .cons' h hc.cells hc.len (Nat.le_of_ble_eq_true hp) (Nat.le_of_ble_eq_true hn) hr

theorem fill_ok {pl : Nat → Option (Nat × Nat)} {zs : List Value} : ∀ (parts : List (Nat × Value)) (p : Nat) (l : List (Nat × List Value × Nat)) (done : List Value), FillOk pl zs.length p parts l → done.length = p → p ≤ zs.length →
    Instr.fill pl (done ++ zs.drop p).toArray parts = some (done ++ fillS zs p l).toArray
  | [], p, l, done, h, _, _ => by
    cases h
    rfl
  | (i, v) :: r, p, l, done, h, hd, hpz => by
    cases h with
    | @cons' _ _ off n _ cs _ l' hpl hv hl hp hn hr =>
      have hsz : (done ++ zs.drop p).length = zs.length := by rw [List.length_append, List.length_drop, hd]; omega
      have hput := put_cells off cs 0 (done ++ zs.drop p).toArray (by rw [List.size_toArray, hsz]; omega)
      have hkeep : (done ++ zs.drop p).take off = done ++ (zs.drop p).take (off - p) := by
        rw [List.take_append, hd, List.take_of_length_le (by omega)]
      have hdrop : (done ++ zs.drop p).drop (off + n) = zs.drop (off + n) := by
        rw [List.drop_append, hd, List.drop_eq_nil_of_le (by omega), List.nil_append, List.drop_drop]
        congr 1; omega
      have := fill_ok r (off + n) l' (done ++ (zs.drop p).take (off - p) ++ cs) hr (by simp only [List.length_append, List.length_take, List.length_drop, hd, hl]; omega) hn
      simp only [Instr.fill, hpl, hv, List.size_toArray, hl, hsz]
      rw [if_neg (by simp; omega), ← Array.foldl_toList, Array.toList_zipIdx, List.toList_toArray, hput]
      simp only [Nat.add_zero, hl, List.toList_toArray, hkeep, hdrop]
      rw [this]
      simp [fillS, List.append_assoc]

section
variable {P : Program}

theorem pu_build {t : TypeId} {pl : Nat → Option (Nat × Nat)} {zs : List Value} [hb : Bld P t pl zs] {parts : List (Nat × Value)} {l : List (Nat × List Value × Nat)} (h : FillOk pl zs.length 0 parts l) :
    Pu P (Instr.build t parts.toArray) (ag (fillS zs 0 l)) := fun w =>
  run_build w t parts.toArray _ (by rw [hb.is]; exact fill_ok parts 0 l [] h rfl (Nat.zero_le _))

/-! ## Results that lie in memory -/

variable {w : World} {g t : Nat} {cs : List Value}

theorem CR_N {ty n : TypeId} [hm : Many P ty n] {k : Value → Prop} (h : Blk w g t cs) (hl : cs.length = n) (hk : k (ag cs)) : CR P ty (.pointer (some ⟨g, 0, none⟩)) w k := by
  refine ⟨_, ?_, hk⟩
  exact run_loadN (P := P) (ty := ty) (a := ⟨g, 0, none⟩) hl (h.cells (o := 0) (n := n) (by simp [← hl]))
theorem CR_1 {ty : TypeId} [h1 : One P ty] {k : Value → Prop} {v : Value} (h : Blk w g t [v]) (hk : k v) : CR P ty (.pointer (some ⟨g, 0, none⟩)) w k := by
  refine ⟨_, ?_, hk⟩
  exact run_load1 (P := P) (ty := ty) (a := ⟨g, 0, none⟩) (h.cell 0)

/-! ## Texts -/

theorem run_bstr {s d e T n : Nat} [hs : SlT P s e 1] [he : IsInt P e .u8] [hd : IsStr P d] {v : Value} {l : List UInt8} (h : Rd w T 1 v n (l.map by_)) : (convert s d v).run P w = .ok (str l) w := by
  obtain ⟨h1, _, A, c, rfl, _, h4⟩ := h
  have hln : l.length = n := by simpa using h1
  rcases Nat.eq_zero_or_pos n with h0 | hp
  · subst h0
    have : l = [] := List.eq_nil_of_length_eq_zero hln
    subst this
    cases A with
    | none => rw [run_convert_bytes_nil w s e hs.und he.und 0 c d hd.und]; rfl
    | some a =>
      have := run_convert_bytes_back (P := P) w s d e a c [] hs.und he.und hd.und (fun j hj => absurd hj (by simp))
      exact this
  · obtain ⟨b, o, C, fr, rfl, hb, hx⟩ := h4 hp
    subst hln
    refine run_convert_bytes_back (P := P) w s d e _ c l hs.und he.und hd.und fun j hj => ?_
    rw [Addr.add_lit, cell_of_row w b _ C T fr hb]
    have := hx j (by_ l[j]) (by simp [hj])
    rw [this]; rfl
theorem SV_bstr {s d e T n : Nat} [SlT P s e 1] [IsInt P e .u8] [IsStr P d] {v : Value} {l : List UInt8} {k : Value → World → Prop} (h : Rd w T 1 v n (l.map by_)) (hk : k (str l) w) : SV P (convert s d v) w k := ⟨_, w, run_bstr h, hk⟩
theorem HV_bstr {s d e T n : Nat} [SlT P s e 1] [IsInt P e .u8] [IsStr P d] {v : Value} {l : List UInt8} {S : Nat → Prop} {k : Value → Prop} (h : Rd w T 1 v n (l.map by_)) (hS : ∀ b, v.ownBlock = some b → ¬ S b) (hk : k (str l)) : HV P (Kp S w) (convert s d v) k :=
  ⟨_, fun _ hw => run_bstr (h.ch hw hS), hk⟩

theorem size_str (l : List UInt8) : (ByteArray.mk l.toArray).size = l.length := by simp [ByteArray.size]

theorem pu_sls_l {t : TypeId} [h : IsStr P t] {l : List UInt8} {a : Int} (h0 : 0 ≤ a) (h1 : a ≤ l.length) : Pu P (Instr.sliceAt t (str l) (some (.int .i64 a)) none none) (str (l.drop a.toNat)) := fun w => by
  rw [run_sliceAt_string w t _ _ _ _ h.und]
  unfold str
  rw [run_slice_string_l w t _ h.und .i64 a h0 (by rw [size_str]; exact h1), ByteArray.extract_mk, size_str, List.take_of_length_le (by simp)]
theorem pu_sls_h {t : TypeId} [h : IsStr P t] {l : List UInt8} {b : Int} (h0 : 0 ≤ b) (h1 : b ≤ l.length) : Pu P (Instr.sliceAt t (str l) none (some (.int .i64 b)) none) (str (l.take b.toNat)) := fun w => by
  rw [run_sliceAt_string w t _ _ _ _ h.und]
  unfold str
  rw [run_slice_string_h w t _ h.und .i64 b h0 (by rw [size_str]; exact h1), ByteArray.extract_mk, List.drop_zero, Nat.sub_zero]
theorem pu_sls_lh {t : TypeId} [h : IsStr P t] {l : List UInt8} {a b : Int} (h0 : 0 ≤ a) (hab : a ≤ b) (h1 : b ≤ l.length) :
    Pu P (Instr.sliceAt t (str l) (some (.int .i64 a)) (some (.int .i64 b)) none) (str ((l.drop a.toNat).take (b.toNat - a.toNat))) := fun w => by
  rw [run_sliceAt_string w t _ _ _ _ h.und]
  unfold str
  rw [run_slice_string (P := P) (w := w) t _ .i64 .i64 a b h.und (by omega) hab (by rw [size_str]; exact h1), ByteArray.extract_mk]
end
end Go.Sh
