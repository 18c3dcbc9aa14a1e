/-
  SHA-256 as a function on bytes.
-/
import Derived.Test.YtkdghnbogkbedaaGreatDoorWords
namespace Go.Sh
open Go

def mix (x : UInt32) (a b c : Nat) : UInt32 := rotr x a ^^^ rotr x b ^^^ shr32 x c
def turn (x : UInt32) (a b c : Nat) : UInt32 := rotr x a ^^^ rotr x b ^^^ rotr x c

def wAt (w : List UInt32) (i : Nat) : UInt32 := w.getD i 0

/-- The next word of a schedule. -/
def nextW (w : List UInt32) (t : Nat) : UInt32 := mix (wAt w (t - 2)) 17 19 10 + wAt w (t - 7) + mix (wAt w (t - 15)) 7 18 3 + wAt w (t - 16)

def schedGo : Nat → List UInt32 → List UInt32
  | 0, w => w
  | n + 1, w => schedGo n (w ++ [nextW w w.length])

def sched (blk : List UInt32) : List UInt32 := schedGo 48 blk

theorem schedGo_len (n : Nat) (w : List UInt32) : (schedGo n w).length = w.length + n := by
  induction n generalizing w with
  | zero => rfl
  | succ n ih => simp only [schedGo, ih]; simp; omega

def keys : List UInt32 := [
  0x428a2f98, 0x71374491, 0xb5c0fbcf, 0xe9b5dba5, 0x3956c25b, 0x59f111f1, 0x923f82a4, 0xab1c5ed5,
  0xd807aa98, 0x12835b01, 0x243185be, 0x550c7dc3, 0x72be5d74, 0x80deb1fe, 0x9bdc06a7, 0xc19bf174,
  0xe49b69c1, 0xefbe4786, 0x0fc19dc6, 0x240ca1cc, 0x2de92c6f, 0x4a7484aa, 0x5cb0a9dc, 0x76f988da,
  0x983e5152, 0xa831c66d, 0xb00327c8, 0xbf597fc7, 0xc6e00bf3, 0xd5a79147, 0x06ca6351, 0x14292967,
  0x27b70a85, 0x2e1b2138, 0x4d2c6dfc, 0x53380d13, 0x650a7354, 0x766a0abb, 0x81c2c92e, 0x92722c85,
  0xa2bfe8a1, 0xa81a664b, 0xc24b8b70, 0xc76c51a3, 0xd192e819, 0xd6990624, 0xf40e3585, 0x106aa070,
  0x19a4c116, 0x1e376c08, 0x2748774c, 0x34b0bcb5, 0x391c0cb3, 0x4ed8aa4a, 0x5b9cca4f, 0x682e6ff3,
  0x748f82ee, 0x78a5636f, 0x84c87814, 0x8cc70208, 0x90befffa, 0xa4506ceb, 0xbef9a3f7, 0xc67178f2]

structure S8 where
  a : UInt32
  b : UInt32
  c : UInt32
  d : UInt32
  e : UInt32
  f : UInt32
  g : UInt32
  h : UInt32
  deriving DecidableEq

def S8.l (s : S8) : List UInt32 := [s.a, s.b, s.c, s.d, s.e, s.f, s.g, s.h]
def S8.start : S8 := ⟨0x6a09e667, 0xbb67ae85, 0x3c6ef372, 0xa54ff53a, 0x510e527f, 0x9b05688c, 0x1f83d9ab, 0x5be0cd19⟩
def S8.add (s t : S8) : S8 := ⟨s.a + t.a, s.b + t.b, s.c + t.c, s.d + t.d, s.e + t.e, s.f + t.f, s.g + t.g, s.h + t.h⟩

def one (s : S8) (k w : UInt32) : UInt32 := s.h + turn s.e 6 11 25 + (s.e &&& s.f ^^^ not32 s.e &&& s.g) + k + w
def two (s : S8) : UInt32 := turn s.a 2 13 22 + (s.a &&& s.b ^^^ s.a &&& s.c ^^^ s.b &&& s.c)
def round (s : S8) (k w : UInt32) : S8 := ⟨one s k w + two s, s.a, s.b, s.c, s.d + one s k w, s.e, s.f, s.g⟩

/-- The state behind the first t rounds. -/
def rounds (s : S8) (w : List UInt32) : Nat → S8
  | 0 => s
  | t + 1 => round (rounds s w t) (wAt keys t) (wAt w t)

def sstep (s : S8) (blk : List UInt32) : S8 := s.add (rounds s (sched blk) 64)

/-- A word put together of the bytes at 4j, of which the first i of the text are read. -/
def pw (l : List UInt8) (i j : Nat) : UInt32 := (((l.take i).drop (4 * j)).take 4).foldl (fun a b => shl32 a 8 ||| UInt32.ofNat b.toNat) 0

/-- A block's words. -/
def blkOf (l : List UInt8) : List UInt32 := (List.range 16).map (pw l 64)

/-- The state behind whole blocks, and what is left. -/
def blocks (s : S8) (l : List UInt8) : S8 × List UInt8 :=
  if 64 ≤ l.length then blocks (sstep s (blkOf l)) (l.drop 64) else (s, l)
termination_by l.length
decreasing_by simp; omega

theorem blocks_lt {s : S8} {l : List UInt8} (h : l.length < 64) : blocks s l = (s, l) := by
  rw [blocks, if_neg (by omega)]
theorem blocks_ge {s : S8} {l : List UInt8} (h : 64 ≤ l.length) : blocks s l = blocks (sstep s (blkOf l)) (l.drop 64) := by
  rw [blocks, if_pos h]

theorem blkOf_append {l m : List UInt8} (h : 64 ≤ l.length) : blkOf (l ++ m) = blkOf l := by
  unfold blkOf
  apply List.map_congr_left
  intro j _
  unfold pw
  rw [List.take_append_of_le_length h]

theorem blocks_append (s : S8) (l m : List UInt8) : blocks s (l ++ m) = blocks (blocks s l).1 ((blocks s l).2 ++ m) := by
  induction hn : l.length using Nat.strongRecOn generalizing s l with
  | _ n ih =>
    by_cases h : 64 ≤ l.length
    · rw [blocks_ge h, blocks_ge (l := l ++ m) (by simp; omega), blkOf_append h, List.drop_append_of_le_length h]
      exact ih (l.drop 64).length (by simp; omega) _ _ rfl
    · rw [blocks_lt (l := l) (by omega)]

theorem blocks_rest (s : S8) (l : List UInt8) : (blocks s l).2.length < 64 := by
  induction hn : l.length using Nat.strongRecOn generalizing s l with
  | _ n ih =>
    by_cases h : 64 ≤ l.length
    · rw [blocks_ge h]
      exact ih (l.drop 64).length (by simp; omega) _ _ rfl
    · rw [blocks_lt (by omega)]; simp; omega

theorem blocks_len (s : S8) (l : List UInt8) : (blocks s l).2.length = l.length % 64 := by
  induction hn : l.length using Nat.strongRecOn generalizing s l with
  | _ n ih =>
    by_cases h : 64 ≤ l.length
    · rw [blocks_ge h, ih (l.drop 64).length (by simp; omega) _ _ rfl]
      simp; omega
    · rw [blocks_lt (by omega)]; simp; omega

/-- The bytes of a number of bits, the greatest first. -/
def lenBytes (n : Nat) : List UInt8 := (List.range 8).map fun i => UInt8.ofNat (n / 2 ^ (8 * (7 - i)))

def padOf (n : Nat) : List UInt8 := 128 :: (List.replicate ((119 - n % 64) % 64) 0 ++ lenBytes (8 * n % 18446744073709551616))

/-- A state's bytes. -/
def outOf (s : S8) : List UInt8 := (List.range 32).map fun i => UInt8.ofNat (shr32 (wAt s.l (i / 4)) (24 - 8 * (i % 4))).toNat

/-- SHA-256. -/
def sha (l : List UInt8) : Sum := ⟨outOf (blocks S8.start (l ++ padOf l.length)).1, by simp [outOf]⟩

theorem sha_of (l : List UInt8) : sha l = ⟨outOf (blocks (blocks S8.start l).1 ((blocks S8.start l).2 ++ padOf l.length)).1, by simp [outOf]⟩ := by
  apply Sum.ext
  show outOf (blocks S8.start (l ++ padOf l.length)).1 = _
  rw [blocks_append]

/-! ## Facts on words of blocks -/

theorem pw_succ {l : List UInt8} {i : Nat} (h : i < l.length) : pw l (i + 1) (i / 4) = shl32 (pw l i (i / 4)) 8 ||| UInt32.ofNat l[i].toNat := by
  unfold pw
  rw [List.take_succ_eq_append_getElem h]
  have hl : (l.take i).length = i := by simp; omega
  rw [List.drop_append_of_le_length (by omega)]
  have hd : ((l.take i).drop (4 * (i / 4))).length < 4 := by rw [List.length_drop, hl]; omega
  rw [List.take_of_length_le (l := (l.take i).drop (4 * (i / 4))) (by omega), List.take_of_length_le (by simp only [List.length_append, List.length_cons, List.length_nil]; omega), List.foldl_append]
  rfl
theorem pw_other {l : List UInt8} {i j : Nat} (h : i < l.length) (hj : j ≠ i / 4) : pw l (i + 1) j = pw l i j := by
  unfold pw
  rw [List.take_succ_eq_append_getElem h]
  have hl : (l.take i).length = i := by simp; omega
  congr 1
  by_cases h1 : 4 * j ≤ i
  · rw [List.drop_append_of_le_length (by omega)]
    have hd : 4 ≤ ((l.take i).drop (4 * j)).length := by rw [List.length_drop, hl]; omega
    rw [List.take_append_of_le_length hd]
  · rw [List.drop_eq_nil_of_le (by rw [List.length_append, hl]; simp; omega), List.drop_eq_nil_of_le (by omega)]
theorem pw_zero (l : List UInt8) (j : Nat) : pw l 0 j = 0 := by simp [pw]

/-- The words behind one byte more. -/
theorem pw_set {l : List UInt8} {i : Nat} (h : i < l.length) : ((List.range 16).map (pw l i)).set (i / 4) (shl32 (pw l i (i / 4)) 8 ||| UInt32.ofNat l[i].toNat) = (List.range 16).map (pw l (i + 1)) := by
  apply List.ext_getElem
  · simp
  · intro j h1 h2
    simp only [List.length_set, List.length_map, List.length_range] at h1
    rw [List.getElem_set]
    simp only [List.getElem_map, List.getElem_range]
    split
    · rename_i he; subst he; rw [pw_succ h]
    · rename_i he; rw [pw_other h (by omega)]
end Go.Sh
