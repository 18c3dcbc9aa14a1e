/-
  The package sha: whole blocks, a hash that is begun, what it comes to.
-/
import Derived.Test.YtkdghnbogkbedaaGreatDoorSha3
import Derived.Test.YtkdghnbogkbedaaGreatDoorShelf
namespace Go.Sh
open Go Go.RowKit

/-- What turned is new. -/
theorem Ch.own {a b c : World} {g : Nat} {S : Nat → Prop} (h : Ch S a b) (k : Ch (· = g) b c) (hg : a.heap.size ≤ g) : Ch S a c := h.trans' k fun i hi hi' => by subst hi'; omega
theorem CN_tt {X Y : Prop} (h : X) : CN (.bool true) X Y := h
theorem CN_ff {X Y : Prop} (h : Y) : CN (.bool false) X Y := h

theorem blkOf_len (l : List UInt8) : (blkOf l).length = 16 := by simp [blkOf]
/-- A block's words, of which i bytes are read. -/
def pRow (l : List UInt8) (i : Nat) : List UInt32 := (List.range 16).map (pw l i)
theorem pRow_len (l : List UInt8) (i : Nat) : (pRow l i).length = 16 := by simp [pRow]
theorem pRow_zero (l : List UInt8) : pRow l 0 = List.replicate 16 0 := by
  have : pw l 0 = fun _ => 0 := funext fun j => pw_zero l j
  unfold pRow
  rw [this, List.map_const', List.length_range]
theorem pRow_end (l : List UInt8) : pRow l 64 = blkOf l := rfl
theorem pRow_at {l : List UInt8} {i j : Nat} (h : j < 16) : wAt (pRow l i) j = pw l i j := by simp [pRow, wAt, List.getD, h]
theorem pRow_next {l : List UInt8} {i : Nat} (h : i < l.length) : (pRow l i).set (i / 4) (shl32 (wAt (pRow l i) (i / 4)) 8 ||| UInt32.ofNat (l.getD i 0).toNat) = pRow l (i + 1) := by
  by_cases h4 : i / 4 < 16
  · rw [pRow_at h4]
    have : l.getD i 0 = l[i] := by simp [List.getD, h]
    rw [this]
    exact pw_set h
  · rw [List.set_eq_of_length_le (by rw [pRow_len]; omega)]
    unfold pRow
    apply List.map_congr_left
    intro j hj
    rw [pw_other h (by have := List.mem_range.1 hj; omega)]

/-- A hash as it stands in memory. -/
structure HashV where
  begun : Bool
  s : S8
  rest : List UInt8
  size : Int
def S8.zero : S8 := ⟨0, 0, 0, 0, 0, 0, 0, 0⟩
def HashV.cells (h : HashV) : List Value := .bool h.begun :: (wv h.s.l ++ [str h.rest, .int .i64 h.size])
theorem HashV.len (h : HashV) : h.cells.length = 11 := by unfold HashV.cells; simp [S8.l_len]
/-- It has hashed m. -/
def HashV.is (h : HashV) (m : List UInt8) : Prop := (h = ⟨false, S8.zero, [], 0⟩ ∧ m = []) ∨ (h.begun = true ∧ (h.s, h.rest) = blocks S8.start m ∧ h.size = m.length)
def HashAt (w : World) (g : Nat) (t : TypeId) (m : List UInt8) : Prop := ∃ h : HashV, Blk w g t h.cells ∧ h.is m
theorem HashAt.ch {w w' : World} {g t : Nat} {m : List UInt8} {S : Nat → Prop} (h : HashAt w g t m) (hc : Ch S w w') (hS : ¬ S g) : HashAt w' g t m := by
  obtain ⟨v, h1, h2⟩ := h
  exact ⟨v, h1.ch hc hS, h2⟩
theorem HashAt.no {w w' : World} {g t : Nat} {m : List UInt8} (h : HashAt w g t m) (hc : Ch No w w') : HashAt w' g t m := h.ch hc fun h => h
theorem HashAt.lt {w : World} {g t : Nat} {m : List UInt8} (h : HashAt w g t m) : g < w.heap.size := by
  obtain ⟨v, h1, _⟩ := h
  exact h1.lt

theorem HashV.fld (h : HashV) : h.cells = [.bool h.begun, w32 h.s.a, w32 h.s.b, w32 h.s.c, w32 h.s.d, w32 h.s.e, w32 h.s.f, w32 h.s.g, w32 h.s.h, str h.rest, .int .i64 h.size] := rfl
end Go.Sh
namespace Go.Proofs.YtkdghnbogkbedaaGreatDoor
open Go Go.Sh Go.RowKit
set_option maxRecDepth 100000

theorem sha_blocks (s : S8) (l : List UInt8) (w : World) (hk : KeysAt w) (hll : l.length ≤ 9223372036854775807) :
    Ret Tryz.prog 267 #[ag (wv s.l), str l] w (.tuple #[ag (wv (blocks s l).1.l), str (blocks s l).2]) := by
  refine c267 ?_
  unfold s267
  refine SV_box (vs := wv s.l) rfl fun g1 w1 hg1 b1 h1 => ?_
  refine SV_alloc fun g2 w2 hg2 b2 h2 => ?_
  have n12 : g2 ≠ g1 := b2.ne' b1 hg2
  have h12 := h1.size
  refine LP_intro (fun us w' => ∃ (u : Value) (st : S8) (r : List UInt8), us = [u, str r] ∧ blocks st r = blocks s l ∧ r.length ≤ l.length ∧ Blk w' g1 200 (wv st.l) ∧ Blk w' g2 200 (List.replicate 8 (.int .u32 0)) ∧ Ch No w w')
    (fun us _ => match us with | [_, .string b] => b.size | _ => 0)
    ⟨_, s, l, rfl, rfl, Nat.le_refl _, b1.no h2, b2, h1.trans h2⟩ ?_
  rintro us hus ζ w3 ⟨u, st, r, rfl, hst, hrl, b1, b2, h3⟩
  unfold s267_l2
  simp only [List.getD_cons_zero, List.getD_cons_succ]
  (first | refine SV_p (by first | exact True.intro | omega) ?_ | refine HV_p (by first | exact True.intro | omega) ?_)
  (first | refine SV_p (by first | exact True.intro | omega) ?_ | refine HV_p (by first | exact True.intro | omega) ?_)
  refine CN_split (fun hge => ?_) (fun hlt => ?_)
  · refine SV_alloc fun g6 w4 hg6 b6 h4 => ?_
    have n61 : g6 ≠ g1 := b6.ne' b1 hg6
    have n62 : g6 ≠ g2 := b6.ne' b2 hg6
    refine LP_intro (fun us w' => ∃ i : Nat, us = [.int .i64 i] ∧ i ≤ 64 ∧ Blk w' g6 202 (wv (pRow r i)) ∧ Blk w' g1 200 (wv st.l) ∧ Blk w' g2 200 (List.replicate 8 (.int .u32 0)) ∧ Ch No w w')
      (fun us _ => match us with | [.int _ t] => (64 - t).toNat | _ => 0)
      ⟨0, rfl, by decide, by rw [pRow_zero, ← wv_zero]; exact b6, b1.no h4, b2.no h4, h3.trans h4⟩ ?_
    rintro us hus ζ w5 ⟨i, rfl, hi, c6, c1, c2, h5⟩
    unfold s267_l1
    simp only [List.getD_cons_zero, List.getD_cons_succ]
    (first | refine SV_p (by first | exact True.intro | omega) ?_ | refine HV_p (by first | exact True.intro | omega) ?_)
    refine CN_split (fun hlt => ?_) (fun hge => ?_)
    · have hil : i < r.length := by omega
      have hpl := pRow_len r i
      refine HR_kp No ?_
      (first | refine SV_p (by first | exact True.intro | omega) ?_ | refine HV_p (by first | exact True.intro | omega) ?_)
      (first | refine SV_p (by first | exact True.intro | omega) ?_ | refine HV_p (by first | exact True.intro | omega) ?_)
      (first | refine SV_p (by first | exact True.intro | omega) ?_ | refine HV_p (by first | exact True.intro | omega) ?_)
      refine HV_load c6 (fun h => h) (wv_get (by omega)) ?_
      (first | refine SV_p (by first | exact True.intro | omega) ?_ | refine HV_p (by first | exact True.intro | omega) ?_)
      (first | refine SV_p (by first | exact True.intro | omega) ?_ | refine HV_p (by first | exact True.intro | omega) ?_)
      (first | refine SV_p (by first | exact True.intro | omega) ?_ | refine HV_p (by first | exact True.intro | omega) ?_)
      (first | refine SV_p (by first | exact True.intro | omega) ?_ | refine HV_p (by first | exact True.intro | omega) ?_)
      (first | refine SV_p (by first | exact True.intro | omega) ?_ | refine HV_p (by first | exact True.intro | omega) ?_)
      refine SU_store c6.drew (by rw [wv_len]; omega) rfl fun w6 d6 h6 => ?_
      (first | refine SV_p (by first | exact True.intro | omega) ?_ | refine HV_p (by first | exact True.intro | omega) ?_)
      have e4 : ((i : Int) / 4).toNat = i / 4 := by omega
      rw [e4, Int.toNat_natCast, wv_set, show (8 : Int).toNat = 8 from rfl, pRow_next hil] at d6
      have h6' : Ch (· = g6) w5 w6 := (Ch.drew w5).trans h6
      refine ⟨⟨i + 1, rfl, by omega, d6, c1.ch h6' n61.symm, c2.ch h6' n62.symm, h5.own h6' (by have := h2.size; have := h3.size; omega)⟩, ?_⟩
      show (64 - ((i : Int) + 1)).toNat < (64 - (i : Int)).toNat
      omega
    · have : i = 64 := by omega
      subst this
      rw [pRow_end] at c6
      refine SV_loadB c1 (by rw [wv_len]; rfl) ?_
      refine SV_loadB c6 (by rw [wv_len, blkOf_len]) ?_
      refine n290 ((sha_step st (blkOf r) (blkOf_len r) _ (hk.no h5)).use fun w6 h6 => ?_)
      refine SU_storeB (c1.no h6) (by rw [wv_len]; rfl) (by rw [wv_len]; rfl) (wv_ones _) fun w7 d1 h7 => ?_
      (first | refine SV_p (by first | exact True.intro | omega) ?_ | refine HV_p (by first | exact True.intro | omega) ?_)
      have hr64 : 64 ≤ r.length := by omega
      refine ⟨⟨_, sstep st (blkOf r), r.drop 64, rfl, ?_, by simp; omega, d1, (c2.no h6).ch h7 n12, (h5.trans h6).own h7 hg1⟩, ?_⟩
      · rw [← hst, blocks_ge hr64]
      · show (ByteArray.mk (r.drop 64).toArray).size < (ByteArray.mk r.toArray).size
        rw [size_str, size_str]; simp; omega
  · refine SV_loadB b1 (by rw [wv_len]; rfl) ?_
    refine SU_storeB b2 (by rw [wv_len]; rfl) rfl (wv_ones _) fun w6 d2 h6 => ?_
    refine CR_N d2 (by rw [wv_len]; rfl) ?_
    rw [← hst, blocks_lt (by omega)]
    exact ⟨rfl, h3.own h6 (by omega)⟩

theorem sha_new (w : World) : Calls Tryz.prog 231 #[] w (retP fun v w' => ∃ g, v = .pointer (some ⟨g, 0, none⟩) ∧ w.heap.size ≤ g ∧ HashAt w' g 282 [] ∧ Ch No w w') := by
  refine c231 ?_
  unfold s231
  refine SV_pu (pu_build (FillOk.nil _)) ?_
  refine SV_box (vs := HashV.cells ⟨false, S8.zero, [], 0⟩) rfl fun g1 w1 hg1 b1 h1 => ?_
  exact ⟨g1, rfl, hg1, ⟨_, b1, .inl ⟨rfl, rfl⟩⟩, h1⟩

theorem sha_write {g : Nat} {m l : List UInt8} {w : World} (hk : KeysAt w) (h1g : 1 < g) (h : HashAt w g 282 m) (hb : m.length + l.length ≤ 4611686018427387904) :
    Calls Tryz.prog 232 #[.pointer (some ⟨g, 0, none⟩), str l] w (retP fun _ w' => HashAt w' g 282 (m ++ l) ∧ Ch (· = g) w w') := by
  obtain ⟨h0, b0, hi⟩ := h
  refine c232 ?_
  unfold s232
  (first | refine SV_p (by first | exact True.intro | omega) ?_ | refine HV_p (by first | exact True.intro | omega) ?_)
  refine CN_ff ?_
  refine JP_cut (fun _ w' => ∃ h : HashV, Blk w' g 282 h.cells ∧ h.begun = true ∧ (h.s, h.rest) = blocks S8.start m ∧ h.size = m.length ∧ Ch (· = g) w w') ?_ ?_
  · (first | refine SV_p (by first | exact True.intro | omega) ?_ | refine HV_p (by first | exact True.intro | omega) ?_)
    (first | refine SV_p (by first | exact True.intro | omega) ?_ | refine HV_p (by first | exact True.intro | omega) ?_)
    refine SV_load b0 rfl ?_
    (first | refine SV_p (by first | exact True.intro | omega) ?_ | refine HV_p (by first | exact True.intro | omega) ?_)
    rcases hi with ⟨rfl, rfl⟩ | ⟨hbg, hst, hsz⟩
    · refine CN_tt ?_
      refine n266 ((sha_start w).use fun w1 h1 => ?_)
      (first | refine SV_p (by first | exact True.intro | omega) ?_ | refine HV_p (by first | exact True.intro | omega) ?_)
      (first | refine SV_p (by first | exact True.intro | omega) ?_ | refine HV_p (by first | exact True.intro | omega) ?_)
      refine SU_store (b0.no h1) (by rw [HashV.len]; omega) rfl fun w2 b2 h2 => ?_
      (first | refine SV_p (by first | exact True.intro | omega) ?_ | refine HV_p (by first | exact True.intro | omega) ?_)
      (first | refine SV_p (by first | exact True.intro | omega) ?_ | refine HV_p (by first | exact True.intro | omega) ?_)
      refine SU_storeN b2 (by rw [wv_len]; rfl) (by rw [List.length_set, HashV.len]; omega) (wv_ones _) fun w3 b3 h3 => ?_
      exact ⟨⟨true, S8.start, [], 0⟩, b3, rfl, by rw [blocks_lt (by simp)], rfl, h1.no.trans (h2.trans h3)⟩
    · rw [hbg]
      refine CN_ff ?_
      exact ⟨h0, b0, hbg, hst, hsz, Ch.refl w⟩
  · rintro us hus ζ w1 ⟨h1, b1, hbg, hst, hsz, hc1⟩
    unfold s232_j1
    (first | refine SV_p (by first | exact True.intro | omega) ?_ | refine HV_p (by first | exact True.intro | omega) ?_)
    (first | refine SV_p (by first | exact True.intro | omega) ?_ | refine HV_p (by first | exact True.intro | omega) ?_)
    refine SV_load b1 rfl ?_
    (first | refine SV_p (by first | exact True.intro | omega) ?_ | refine HV_p (by first | exact True.intro | omega) ?_)
    (first | refine SV_p (by first | exact True.intro | omega) ?_ | refine HV_p (by first | exact True.intro | omega) ?_)
    (first | refine SV_p (by first | exact True.intro | omega) ?_ | refine HV_p (by first | exact True.intro | omega) ?_)
    (first | refine SV_p (by first | exact True.intro | omega) ?_ | refine HV_p (by first | exact True.intro | omega) ?_)
    refine SU_store b1 (by rw [HashV.len]; omega) rfl fun w2 b2 h2 => ?_
    have b2' : Blk w2 g 282 (HashV.cells ⟨h1.begun, h1.s, h1.rest, h1.size + l.length⟩) := b2
    refine HR_kp No ?_
    (first | refine SV_p (by first | exact True.intro | omega) ?_ | refine HV_p (by first | exact True.intro | omega) ?_)
    (first | refine SV_p (by first | exact True.intro | omega) ?_ | refine HV_p (by first | exact True.intro | omega) ?_)
    refine HV_loadN b2' (fun h => h) (vs := wv h1.s.l) rfl (by rw [wv_len]; rfl) ?_
    (first | refine SV_p (by first | exact True.intro | omega) ?_ | refine HV_p (by first | exact True.intro | omega) ?_)
    (first | refine SV_p (by first | exact True.intro | omega) ?_ | refine HV_p (by first | exact True.intro | omega) ?_)
    refine HV_load b2' (fun h => h) (v := str h1.rest) rfl ?_
    have hrl : h1.rest.length ≤ m.length := by
      have := congrArg Prod.snd hst
      simp only at this
      rw [this, blocks_len]; omega
    (first | refine SV_p (by first | exact True.intro | omega) ?_ | refine HV_p (by first | exact True.intro | omega) ?_)
    have hk2 : KeysAt w2.drew := ((hk.ch hc1 (by omega)).ch h2 (by omega)).no (Ch.drew _)
    refine n267 ((sha_blocks h1.s (h1.rest ++ l) _ hk2 (by rw [List.length_append]; omega)).use fun w3 h3 => ?_)
    have h3' : Ch (· = g) w2 w3 := ((Ch.drew _).trans h3).no
    refine ⟨Kp (· = g) w2, fun _ h => Ch.no h, h3', ?_⟩
    (first | refine SV_p (by first | exact True.intro | omega) ?_ | refine HV_p (by first | exact True.intro | omega) ?_)
    (first | refine SV_p (by first | exact True.intro | omega) ?_ | refine HV_p (by first | exact True.intro | omega) ?_)
    (first | refine SV_p (by first | exact True.intro | omega) ?_ | refine HV_p (by first | exact True.intro | omega) ?_)
    (first | refine SV_p (by first | exact True.intro | omega) ?_ | refine HV_p (by first | exact True.intro | omega) ?_)
    have b3 := (b2'.drew).no h3
    refine SU_storeN b3 (by rw [wv_len]; rfl) (by rw [HashV.len]; omega) (wv_ones _) fun w4 b4 h4 => ?_
    (first | refine RS_same (h3'.trans h4) ?_ | refine ⟨h3'.trans h4, ?_⟩)
    (first | refine SV_p (by first | exact True.intro | omega) ?_ | refine HV_p (by first | exact True.intro | omega) ?_)
    (first | refine SV_p (by first | exact True.intro | omega) ?_ | refine HV_p (by first | exact True.intro | omega) ?_)
    refine SU_store b4 (by simp [HashV.len, S8.l_len]) rfl fun w5 b5 h5 => ?_
    (first | refine SV_p (by first | exact True.intro | omega) ?_ | refine HV_p (by first | exact True.intro | omega) ?_)
    refine ⟨⟨⟨h1.begun, (blocks h1.s (h1.rest ++ l)).1, (blocks h1.s (h1.rest ++ l)).2, h1.size + l.length⟩, b5, .inr ⟨hbg, ?_, ?_⟩⟩, hc1.trans (h2.trans (h3'.trans (h4.trans h5)))⟩
    · rw [blocks_append S8.start m l, ← hst]
    · rw [List.length_append, hsz]; simp
end Go.Proofs.YtkdghnbogkbedaaGreatDoor
