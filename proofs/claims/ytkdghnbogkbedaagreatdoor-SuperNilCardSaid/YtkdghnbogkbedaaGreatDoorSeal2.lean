/-
  Leaves, nodes; heads.
-/
import Derived.Test.YtkdghnbogkbedaaGreatDoorSeal
namespace Go.Sh
open Go Go.RowKit

def leafOf (l : List UInt8) : Sum := sha (0 :: l)
def nodeOf (a b : Sum) : Sum := sha ([1] ++ a.l ++ b.l)
def emptyOf : Sum := sha []
/-- The leaf of a freeze. -/
def Freeze.leaf (f : Freeze) : Sum := leafOf (if f.ok then f.bytes else [])
theorem Freeze.bytes_len {f : Freeze} (h : f.ok) : f.bytes.length ≤ 100 := by
  have l1 := numB_len h.1.2
  have l2 := numB_len (n := f.count) (by have := h.2; omega)
  have l3 := sumB_len f.root
  simp only [Freeze.bytes, List.length_append, List.length_cons, List.length_nil]
  omega
def Freeze.says (f : Freeze) : List UInt8 := if f.ok then f.bytes else []
def Freeze.err (f : Freeze) : Int := if f.ok then 0 else 1
theorem Freeze.says_len (f : Freeze) : f.says.length ≤ 100 := by
  unfold Freeze.says
  split
  · exact Freeze.bytes_len (by assumption)
  · simp
theorem headBytes_len {size clock : Int} {root : Sum} (h : headOk size clock) : (headBytes size root clock).length ≤ 100 := by
  have l1 := numB_len (n := size) (by have := h.1; omega)
  have l2 := numB_len (n := clock) h.2.2
  have l3 := sumB_len root
  simp only [headBytes, List.length_append, List.length_cons, List.length_nil]
  omega
end Go.Sh
namespace Go.Proofs.YtkdghnbogkbedaaGreatDoor
open Go Go.Sh Go.RowKit
set_option maxRecDepth 100000
set_option maxHeartbeats 1000000
set_option linter.unusedSimpArgs false
set_option linter.unusedVariables false

theorem leaf_leaf (l : List UInt8) (hl : l.length ≤ 4611686018000000000) (w : World) (hK : KeysAt w) (h1s : 1 < w.heap.size) : Ret Tryz.prog 141 #[str l] w (leafOf l).v := by
  refine c141 ?_
  unfold s141
  refine SV_alloc fun g1 w1 hg1 b1 h1 => ?_
  refine SV_strs [[0], l] rfl rfl (by simp) fun v w2 h2 hr => ?_
  have hc := h1.trans h2
  have z := hc.size
  refine n151 ((sha_of_ (hK.no hc) (by omega) hr (by simp; omega)).use fun w3 h3 => ?_)
  refine SU_storeB ((b1.no h2).no h3) (Sum.len _) Sum.zero.len (Sum.ones _) fun w4 b4 h4 => ?_
  refine CR_N b4 (Sum.len _) ?_
  refine ⟨?_, (hc.trans h3).own h4 hg1⟩
  simp [leafOf, Sum.v]

theorem leaf_preimage (a b : Sum) (w : World) : Ret Tryz.prog 220 #[a.v, b.v] w (str ([1] ++ a.l ++ b.l)) := by
  refine c220 ?_
  unfold s220
  refine SV_box (vs := a.cells) rfl fun g1 w1 hg1 b1 h1 => ?_
  refine SV_box (vs := b.cells) rfl fun g2 w2 hg2 b2 h2 => ?_
  refine HR_kp No ?_
  refine HV_loadB (b1.no h2) (fun h => h) a.len ?_
  refine n163 ((sha_bytes a _).use fun w3 h3 => ?_)
  have h3' : Ch No w2 w3 := (Ch.drew _).trans h3
  (first | refine RS_same (h3') ?_ | refine ⟨h3', ?_⟩)
  have la := a.h
  have lb := b.h
  (first | refine SV_p (by first | exact True.intro | omega | (simp only [List.length_append, List.length_cons, List.length_nil, List.length_replicate, List.length_map]; omega)) ?_ | refine HV_p (by first | exact True.intro | omega | (simp only [List.length_append, List.length_cons, List.length_nil, List.length_replicate, List.length_map]; omega)) ?_)
  refine HV_loadB b2 (fun h => h) b.len ?_
  refine n163 ((sha_bytes b _).use fun w4 h4 => ?_)
  (first | refine RS_same (h3'.trans h4) ?_ | refine ⟨h3'.trans h4, ?_⟩)
  (first | refine SV_p (by first | exact True.intro | omega | (simp only [List.length_append, List.length_cons, List.length_nil, List.length_replicate, List.length_map]; omega)) ?_ | refine HV_p (by first | exact True.intro | omega | (simp only [List.length_append, List.length_cons, List.length_nil, List.length_replicate, List.length_map]; omega)) ?_)
  exact ⟨rfl, h1.trans (h2.trans (h3'.trans h4))⟩

theorem leaf_node (a b : Sum) (w : World) (hK : KeysAt w) (h1s : 1 < w.heap.size) : Ret Tryz.prog 142 #[a.v, b.v] w (nodeOf a b).v := by
  refine c142 ?_
  unfold s142
  refine SV_box (vs := a.cells) rfl fun g1 w1 hg1 b1 h1 => ?_
  refine SV_box (vs := b.cells) rfl fun g2 w2 hg2 b2 h2 => ?_
  refine SV_alloc fun g3 w3 hg3 b3 h3 => ?_
  refine SV_loadB ((b1.no h2).no h3) a.len ?_
  refine SV_loadB (b2.no h3) b.len ?_
  refine n220 ((leaf_preimage a b _).use fun w4 h4 => ?_)
  refine SV_strs [[1] ++ a.l ++ b.l] rfl rfl (by simp) fun v w5 h5 hr => ?_
  have hc := h1.trans (h2.trans (h3.trans (h4.trans h5)))
  have z := hc.size
  have z1 := h1.size
  have z2 := h2.size
  have la := a.h
  have lb := b.h
  refine n151 ((sha_of_ (hK.no hc) (by omega) hr (by simp; omega)).use fun w6 h6 => ?_)
  refine SU_storeB (((b3.no h4).no h5).no h6) (Sum.len _) Sum.zero.len (Sum.ones _) fun w7 b7 h7 => ?_
  refine CR_N b7 (Sum.len _) ?_
  refine ⟨?_, (hc.trans h6).own h7 (by omega)⟩
  simp [nodeOf, Sum.v]

theorem leaf_empty (w : World) (hK : KeysAt w) (h1s : 1 < w.heap.size) : Ret Tryz.prog 86 #[] w emptyOf.v := by
  refine c86 ?_
  unfold s86
  refine SV_alloc fun g1 w1 hg1 b1 h1 => ?_
  have z := h1.size
  refine n151 ((sha_of_ (T := 9) (parts := []) (hK.no h1) (by omega) (Rd.zero none 0) (by simp)).use fun w3 h3 => ?_)
  refine SU_storeB (b1.no h3) (Sum.len _) Sum.zero.len (Sum.ones _) fun w4 b4 h4 => ?_
  refine CR_N b4 (Sum.len _) ?_
  exact ⟨rfl, (h1.trans h3).own h4 hg1⟩

theorem freeze_says (f : Freeze) (w : World) : Ret Tryz.prog 71 #[f.v] w (.tuple #[str f.says, .int .i64 f.err]) := by
  have h := freeze_bytes f w
  by_cases ho : f.ok
  · rw [if_pos ho] at h
    simp only [Freeze.says, Freeze.err, if_pos ho]
    exact h
  · rw [if_neg ho] at h
    simp only [Freeze.says, Freeze.err, if_neg ho]
    exact h

theorem freeze_leaf (f : Freeze) (w : World) (hK : KeysAt w) (h1s : 1 < w.heap.size) : Ret Tryz.prog 73 #[f.v] w f.leaf.v := by
  refine c73 ?_
  unfold s73
  refine SV_box (vs := f.cells) rfl fun g1 w1 hg1 b1 h1 => ?_
  refine SV_alloc fun g2 w2 hg2 b2 h2 => ?_
  refine SV_loadB (b1.no h2) f.len ?_
  refine n71 ((freeze_says f _).use fun w3 h3 => ?_)
  have hc := h1.trans (h2.trans h3)
  have z := hc.size
  have z1 := h1.size
  have hl := f.says_len
  (first | refine SV_p (by first | exact True.intro | omega | (simp only [List.length_append, List.length_cons, List.length_nil, List.length_replicate, List.length_map]; omega)) ?_ | refine HV_p (by first | exact True.intro | omega | (simp only [List.length_append, List.length_cons, List.length_nil, List.length_replicate, List.length_map]; omega)) ?_)
  (first | refine SV_p (by first | exact True.intro | omega | (simp only [List.length_append, List.length_cons, List.length_nil, List.length_replicate, List.length_map]; omega)) ?_ | refine HV_p (by first | exact True.intro | omega | (simp only [List.length_append, List.length_cons, List.length_nil, List.length_replicate, List.length_map]; omega)) ?_)
  refine n141 ((leaf_leaf _ (by omega) _ (hK.no hc) (by omega)).use fun w4 h4 => ?_)
  refine SU_storeB ((b2.no h3).no h4) (Sum.len _) Sum.zero.len (Sum.ones _) fun w5 b5 h5 => ?_
  refine CR_N b5 (Sum.len _) ?_
  exact ⟨rfl, (hc.trans h4).own h5 (by omega)⟩

theorem seal_headSays (h : Head) (w : World) : Ret Tryz.prog 154 #[h.v] w (if headOk h.size h.clock then .tuple #[str (headBytes h.size h.root h.clock), .int .i64 0] else .tuple #[str [], .int .i64 1]) := by
  refine c154 ?_
  unfold s154
  have f0 : h.cells[0]? = some (.int .i64 h.size) := rfl
  have f2 : h.cells[33]? = some (.int .i64 h.clock) := by
    have : h.cells[33]? = (h.root.cells ++ .int .i64 h.clock :: h.mac.cells)[32]? := rfl
    rw [this, List.getElem?_append_right (by rw [h.root.len]; exact Nat.le_refl _), h.root.len]
    rfl
  have f1 : (h.cells.drop 1).take 32 = h.root.cells := by
    show (h.root.cells ++ .int .i64 h.clock :: h.mac.cells).take 32 = _
    exact List.take_left' h.root.len
  refine SV_box (vs := h.cells) rfl fun g1 w1 hg1 b1 h1 => ?_
  (first | refine SV_p (by first | exact True.intro | omega | (simp only [List.length_append, List.length_cons, List.length_nil, List.length_replicate, List.length_map]; omega)) ?_ | refine HV_p (by first | exact True.intro | omega | (simp only [List.length_append, List.length_cons, List.length_nil, List.length_replicate, List.length_map]; omega)) ?_)
  refine SV_load b1 f0 ?_
  refine n137 ((seal_within _ _ _).use fun w2 h2 => ?_)
  have b2 := b1.no h2
  (first | refine SV_p (by first | exact True.intro | omega | (simp only [List.length_append, List.length_cons, List.length_nil, List.length_replicate, List.length_map]; omega)) ?_ | refine HV_p (by first | exact True.intro | omega | (simp only [List.length_append, List.length_cons, List.length_nil, List.length_replicate, List.length_map]; omega)) ?_)
  refine GD_bool (fun hw => ?_) (fun hw => ?_)
  · have hw' : 0 ≤ h.size ∧ h.size ≤ 1099511627776 := by simpa using hw
    (first | refine SV_p (by first | exact True.intro | omega | (simp only [List.length_append, List.length_cons, List.length_nil, List.length_replicate, List.length_map]; omega)) ?_ | refine HV_p (by first | exact True.intro | omega | (simp only [List.length_append, List.length_cons, List.length_nil, List.length_replicate, List.length_map]; omega)) ?_)
    refine SV_load b2 f2 ?_
    refine n137 ((seal_within _ _ _).use fun w3 h3 => ?_)
    have b3 := b2.no h3
    (first | refine SV_p (by first | exact True.intro | omega | (simp only [List.length_append, List.length_cons, List.length_nil, List.length_replicate, List.length_map]; omega)) ?_ | refine HV_p (by first | exact True.intro | omega | (simp only [List.length_append, List.length_cons, List.length_nil, List.length_replicate, List.length_map]; omega)) ?_)
    refine CN_bool (fun hw2 => ?_) (fun hw2 => ?_)
    · have hnot : ¬ headOk h.size h.clock := fun h => by
        have h2 := h.2
        simp at hw2
        omega
      rw [if_neg hnot]
      exact ⟨rfl, h1.trans (h2.trans h3)⟩
    · have hw2' : 0 ≤ h.clock ∧ h.clock ≤ 1125899906842624 := by simpa using hw2
      rw [if_pos (show headOk h.size h.clock from ⟨hw', hw2'⟩)]
      have hc3 := h1.trans (h2.trans h3)
      refine HR_kp No ?_
      (first | refine SV_p (by first | exact True.intro | omega | (simp only [List.length_append, List.length_cons, List.length_nil, List.length_replicate, List.length_map]; omega)) ?_ | refine HV_p (by first | exact True.intro | omega | (simp only [List.length_append, List.length_cons, List.length_nil, List.length_replicate, List.length_map]; omega)) ?_)
      refine HV_load b3 (fun h => h) f0 ?_
      refine n139 ((seal_number _ hw'.1 (by omega) _).use fun w4 h4 => ?_)
      have h4' : Ch No w3 w4 := (Ch.drew _).trans h4
      (first | refine RS_same (h4') ?_ | refine ⟨h4', ?_⟩)
      (first | refine SV_p (by first | exact True.intro | omega | (simp only [List.length_append, List.length_cons, List.length_nil, List.length_replicate, List.length_map]; omega)) ?_ | refine HV_p (by first | exact True.intro | omega | (simp only [List.length_append, List.length_cons, List.length_nil, List.length_replicate, List.length_map]; omega)) ?_)
      refine HV_loadN b3 (fun h => h) f1 h.root.len ?_
      refine n140 ((seal_sum h.root _).use fun w5 h5 => ?_)
      have h5' := h4'.trans h5
      (first | refine RS_same (h5') ?_ | refine ⟨h5', ?_⟩)
      (first | refine SV_p (by first | exact True.intro | omega | (simp only [List.length_append, List.length_cons, List.length_nil, List.length_replicate, List.length_map]; omega)) ?_ | refine HV_p (by first | exact True.intro | omega | (simp only [List.length_append, List.length_cons, List.length_nil, List.length_replicate, List.length_map]; omega)) ?_)
      refine HV_load b3 (fun h => h) f2 ?_
      refine n139 ((seal_number _ hw2'.1 hw2'.2 _).use fun w6 h6 => ?_)
      have h6' := h5'.trans h6
      (first | refine RS_same (h6') ?_ | refine ⟨h6', ?_⟩)
      refine SV_strs [[72], numB h.size, sumB h.root, numB h.clock] rfl rfl (by simp) fun v w7 h7 hr => ?_
      have h7' := h6'.trans h7
      (first | refine RS_same (h7') ?_ | refine ⟨h7', ?_⟩)
      have l1 := numB_len (n := h.size) (by omega)
      have l2 := numB_len (n := h.clock) (by omega)
      have l3 := sumB_len h.root
      refine n138 ((seal_says hr (by decide) (by simp only [List.flatten_cons, List.flatten_nil, List.length_append, List.length_cons, List.length_nil]; omega) (by decide)).use fun w8 h8 => ?_)
      have h8' := h7'.trans h8
      (first | refine RS_same (h8') ?_ | refine ⟨h8', ?_⟩)
      refine ⟨?_, hc3.trans h8'⟩
      simp [headBytes]
  · have hnot : ¬ headOk h.size h.clock := fun h => by
      have h2 := h.1
      simp at hw
      omega
    rw [if_neg hnot]
    exact ⟨rfl, h1.trans h2⟩

theorem Head.set_mac (h : Head) (m : Sum) : h.cells.take 34 ++ m.cells ++ h.cells.drop (34 + 32) = ({ h with mac := m } : Head).cells := by
  have e : ∀ m : Sum, ({ h with mac := m } : Head).cells = (.int .i64 h.size :: (h.root.cells ++ [.int .i64 h.clock])) ++ m.cells := fun m => by simp [Head.cells]
  have e1 := e h.mac
  have hl : (Value.int .i64 h.size :: (h.root.cells ++ [Value.int .i64 h.clock])).length = 34 := by simp
  rw [e m]
  have e2 : h.cells = (.int .i64 h.size :: (h.root.cells ++ [.int .i64 h.clock])) ++ h.mac.cells := e1
  rw [e2, List.take_left' hl, List.drop_eq_nil_of_le (by rw [List.length_append, hl, h.mac.len]; exact Nat.le_refl _), List.append_nil]

theorem seal_signed (key s : List UInt8) (e : Int) (hk : key.length ≤ 1000000000) (hs : s.length ≤ 1000000000) (w : World) (hK : KeysAt w) (h1s : 1 < w.heap.size) : Ret Tryz.prog 155 #[str key, str s, .int .i64 e] w (if e = 0 then hmac key s else Sum.zero).v := by
  refine c155 ?_
  unfold s155
  refine SV_alloc fun g1 w1 hg1 b1 h1 => ?_
  (first | refine SV_p (by first | exact True.intro | omega | (simp only [List.length_append, List.length_cons, List.length_nil, List.length_replicate, List.length_map]; omega)) ?_ | refine HV_p (by first | exact True.intro | omega | (simp only [List.length_append, List.length_cons, List.length_nil, List.length_replicate, List.length_map]; omega)) ?_)
  refine CN_split (fun hne => ?_) (fun heq => ?_)
  · rw [if_neg hne]
    refine SV_pu (pu_build (FillOk.nil _)) ?_
    refine SU_storeB b1 (vs := Sum.zero.cells) Sum.zero.len Sum.zero.len Sum.zero.ones fun w2 b2 h2 => ?_
    refine CR_N b2 Sum.zero.len ?_
    exact ⟨rfl, h1.own h2 hg1⟩
  · have he : e = 0 := by omega
    rw [if_pos he]
    refine SV_strs [s] rfl rfl (by simp) fun v w2 h2 hr => ?_
    have hc := h1.trans h2
    have z := hc.size
    refine n235 ((mac_of hk (hK.no hc) (by omega) hr (by simp; omega)).use fun w3 h3 => ?_)
    rw [str_singleton_flat]
    refine SU_storeB ((b1.no h2).no h3) (Sum.len _) Sum.zero.len (Sum.ones _) fun w4 b4 h4 => ?_
    refine CR_N b4 (Sum.len _) ?_
    exact ⟨rfl, (hc.trans h3).own h4 hg1⟩

theorem seal_head (key : List UInt8) (hk : key.length ≤ 1000000000) (size : Int) (root : Sum) (clock : Int) (w : World) (hK : KeysAt w) (h1s : 1 < w.heap.size) :
    Ret Tryz.prog 90 #[str key, .int .i64 size, root.v, .int .i64 clock] w (headOf key size root clock).v := by
  refine c90 ?_
  unfold s90
  refine SV_box (vs := root.cells) rfl fun g1 w1 hg1 b1 h1 => ?_
  refine SV_alloc fun g2 w2 hg2 b2 h2 => ?_
  refine SV_loadB (b1.no h2) root.len ?_
  refine SV_pu (pu_build (FillOk.cons rfl rfl rfl (FillOk.cons rfl rfl rfl (FillOk.cons rfl rfl rfl (FillOk.nil _))))) ?_
  have hcells : fillS Head.zero.cells 0 [(0, [Value.int .i64 size], 1), (1, root.cells, 32), (33, [Value.int .i64 clock], 1)] = (⟨size, root, clock, Sum.zero⟩ : Head).cells := rfl
  rw [hcells]
  refine SV_alloc fun g3 w3 hg3 b3 h3 => ?_
  refine SU_storeB b3 (Head.len _) (Head.len _) (Head.ones _) fun w4 b4 h4 => ?_
  refine SV_loadB b4 (Head.len _) ?_
  refine n154 ((seal_headSays ⟨size, root, clock, Sum.zero⟩ _).use fun w5 h5 => ?_)
  have z1 := h1.size
  have z2 := h2.size
  have z3 := h3.size
  have z4 := h4.size
  have z5 := h5.size
  have l2 := b2.lt
  have hc5 : Ch No w w5 := ((h1.trans (h2.trans h3)).own h4 (by omega)).trans h5
  have b2 := ((b2.no h3).ch h4 (by omega)).no h5
  have b4 := b4.no h5
  by_cases ho : headOk size clock
  · rw [if_pos ho]
    (first | refine SV_p (by first | exact True.intro | omega | (simp only [List.length_append, List.length_cons, List.length_nil, List.length_replicate, List.length_map]; omega)) ?_ | refine HV_p (by first | exact True.intro | omega | (simp only [List.length_append, List.length_cons, List.length_nil, List.length_replicate, List.length_map]; omega)) ?_)
    (first | refine SV_p (by first | exact True.intro | omega | (simp only [List.length_append, List.length_cons, List.length_nil, List.length_replicate, List.length_map]; omega)) ?_ | refine HV_p (by first | exact True.intro | omega | (simp only [List.length_append, List.length_cons, List.length_nil, List.length_replicate, List.length_map]; omega)) ?_)
    have hl := headBytes_len (root := root) ho
    refine n155 ((seal_signed _ _ 0 hk (by show (headBytes size root clock).length ≤ _; omega) _ (hK.no hc5) (by omega)).use fun w6 h6 => ?_)
    rw [if_pos rfl]
    (first | refine SV_p (by first | exact True.intro | omega | (simp only [List.length_append, List.length_cons, List.length_nil, List.length_replicate, List.length_map]; omega)) ?_ | refine HV_p (by first | exact True.intro | omega | (simp only [List.length_append, List.length_cons, List.length_nil, List.length_replicate, List.length_map]; omega)) ?_)
    refine SU_storeN (b4.no h6) (Sum.len _) (by rw [Head.len]; decide) (Sum.ones _) fun w7 b7 h7 => ?_
    rw [Head.set_mac] at b7
    refine SV_loadB b7 (Head.len _) ?_
    refine SU_storeB ((b2.no h6).ch h7 (by omega)) (Head.len _) (Head.len _) (Head.ones _) fun w8 b8 h8 => ?_
    refine CR_N b8 (Head.len _) ?_
    refine ⟨?_, ((hc5.trans h6).own h7 (by omega)).own h8 (by omega)⟩
    unfold headOf
    rw [if_pos ho]
    rfl
  · rw [if_neg ho]
    (first | refine SV_p (by first | exact True.intro | omega | (simp only [List.length_append, List.length_cons, List.length_nil, List.length_replicate, List.length_map]; omega)) ?_ | refine HV_p (by first | exact True.intro | omega | (simp only [List.length_append, List.length_cons, List.length_nil, List.length_replicate, List.length_map]; omega)) ?_)
    (first | refine SV_p (by first | exact True.intro | omega | (simp only [List.length_append, List.length_cons, List.length_nil, List.length_replicate, List.length_map]; omega)) ?_ | refine HV_p (by first | exact True.intro | omega | (simp only [List.length_append, List.length_cons, List.length_nil, List.length_replicate, List.length_map]; omega)) ?_)
    refine n155 ((seal_signed _ _ 1 hk (by simp) _ (hK.no hc5) (by omega)).use fun w6 h6 => ?_)
    rw [if_neg (by decide)]
    (first | refine SV_p (by first | exact True.intro | omega | (simp only [List.length_append, List.length_cons, List.length_nil, List.length_replicate, List.length_map]; omega)) ?_ | refine HV_p (by first | exact True.intro | omega | (simp only [List.length_append, List.length_cons, List.length_nil, List.length_replicate, List.length_map]; omega)) ?_)
    refine SU_storeN (b4.no h6) (Sum.len _) (by rw [Head.len]; decide) (Sum.ones _) fun w7 b7 h7 => ?_
    rw [Head.set_mac] at b7
    refine SV_loadB b7 (Head.len _) ?_
    refine SU_storeB ((b2.no h6).ch h7 (by omega)) (Head.len _) (Head.len _) (Head.ones _) fun w8 b8 h8 => ?_
    refine CR_N b8 (Head.len _) ?_
    refine ⟨?_, ((hc5.trans h6).own h7 (by omega)).own h8 (by omega)⟩
    unfold headOf
    rw [if_neg ho]
    rfl

/-! ## The reference's -/

theorem ref_sum (s : Sum) (w : World) : Ret Tryz.prog 157 #[s.v] w (str (sumB s)) := by
  refine c157 ?_
  unfold s157
  refine SV_box (vs := s.cells) rfl fun g1 w1 hg1 b1 h1 => ?_
  refine SV_loadB b1 s.len ?_
  refine n160 ((ref_bytes s _).use fun w2 h2 => ?_)
  refine n191 ((ref_text _ (by rw [s.h]; decide) _).use fun w3 h3 => ?_)
  exact ⟨rfl, h1.trans (h2.trans h3)⟩

theorem ref_headSays (h : Head) (w : World) : Ret Tryz.prog 91 #[h.v] w (if headOk h.size h.clock then .tuple #[str (headBytes h.size h.root h.clock), .bool true] else .tuple #[str [], .bool false]) := by
  refine c91 ?_
  unfold s91
  have f0 : h.cells[0]? = some (.int .i64 h.size) := rfl
  have f2 : h.cells[33]? = some (.int .i64 h.clock) := by
    have : h.cells[33]? = (h.root.cells ++ .int .i64 h.clock :: h.mac.cells)[32]? := rfl
    rw [this, List.getElem?_append_right (by rw [h.root.len]; exact Nat.le_refl _), h.root.len]
    rfl
  have f1 : (h.cells.drop 1).take 32 = h.root.cells := by
    show (h.root.cells ++ .int .i64 h.clock :: h.mac.cells).take 32 = _
    exact List.take_left' h.root.len
  have bad : ¬ headOk h.size h.clock → ∀ w1, Ch No w w1 → (fun v' w' => v' = (if headOk h.size h.clock then Value.tuple #[str (headBytes h.size h.root h.clock), .bool true] else .tuple #[str [], .bool false]) ∧ Ch No w w') (Value.tuple #[str [], .bool false]) w1 := fun hn w1 h1 => ⟨by rw [if_neg hn], h1⟩
  refine SV_box (vs := h.cells) rfl fun g1 w1 hg1 b1 h1 => ?_
  (first | refine SV_p (by first | exact True.intro | omega | (simp only [List.length_append, List.length_cons, List.length_nil, List.length_replicate, List.length_map]; omega)) ?_ | refine HV_p (by first | exact True.intro | omega | (simp only [List.length_append, List.length_cons, List.length_nil, List.length_replicate, List.length_map]; omega)) ?_)
  refine SV_load b1 f0 ?_
  (first | refine SV_p (by first | exact True.intro | omega | (simp only [List.length_append, List.length_cons, List.length_nil, List.length_replicate, List.length_map]; omega)) ?_ | refine HV_p (by first | exact True.intro | omega | (simp only [List.length_append, List.length_cons, List.length_nil, List.length_replicate, List.length_map]; omega)) ?_)
  refine GD_splitf (fun ha => ?_) (fun ha => bad (fun ho => by have := ho.1; omega) _ h1)
  (first | refine SV_p (by first | exact True.intro | omega | (simp only [List.length_append, List.length_cons, List.length_nil, List.length_replicate, List.length_map]; omega)) ?_ | refine HV_p (by first | exact True.intro | omega | (simp only [List.length_append, List.length_cons, List.length_nil, List.length_replicate, List.length_map]; omega)) ?_)
  refine SV_load b1 f0 ?_
  (first | refine SV_p (by first | exact True.intro | omega | (simp only [List.length_append, List.length_cons, List.length_nil, List.length_replicate, List.length_map]; omega)) ?_ | refine HV_p (by first | exact True.intro | omega | (simp only [List.length_append, List.length_cons, List.length_nil, List.length_replicate, List.length_map]; omega)) ?_)
  refine GD_splitf (fun hb => ?_) (fun hb => bad (fun ho => by have := ho.1; omega) _ h1)
  (first | refine SV_p (by first | exact True.intro | omega | (simp only [List.length_append, List.length_cons, List.length_nil, List.length_replicate, List.length_map]; omega)) ?_ | refine HV_p (by first | exact True.intro | omega | (simp only [List.length_append, List.length_cons, List.length_nil, List.length_replicate, List.length_map]; omega)) ?_)
  refine SV_load b1 f2 ?_
  (first | refine SV_p (by first | exact True.intro | omega | (simp only [List.length_append, List.length_cons, List.length_nil, List.length_replicate, List.length_map]; omega)) ?_ | refine HV_p (by first | exact True.intro | omega | (simp only [List.length_append, List.length_cons, List.length_nil, List.length_replicate, List.length_map]; omega)) ?_)
  refine GD_splitf (fun hc => ?_) (fun hc => bad (fun ho => by have := ho.2; omega) _ h1)
  (first | refine SV_p (by first | exact True.intro | omega | (simp only [List.length_append, List.length_cons, List.length_nil, List.length_replicate, List.length_map]; omega)) ?_ | refine HV_p (by first | exact True.intro | omega | (simp only [List.length_append, List.length_cons, List.length_nil, List.length_replicate, List.length_map]; omega)) ?_)
  refine SV_load b1 f2 ?_
  (first | refine SV_p (by first | exact True.intro | omega | (simp only [List.length_append, List.length_cons, List.length_nil, List.length_replicate, List.length_map]; omega)) ?_ | refine HV_p (by first | exact True.intro | omega | (simp only [List.length_append, List.length_cons, List.length_nil, List.length_replicate, List.length_map]; omega)) ?_)
  refine CN_split (fun hd => bad (fun ho => by have := ho.2; omega) _ h1) (fun hd => ?_)
  have ho : headOk h.size h.clock := ⟨⟨by omega, by omega⟩, ⟨by omega, by omega⟩⟩
  rw [if_pos ho]
  have l1 := numB_len (n := h.size) (by omega)
  have l2 := numB_len (n := h.clock) (by omega)
  have l3 := sumB_len h.root
  have p1 : putN h.size.toNat = numB h.size := rfl
  have p2 : putN h.clock.toNat = numB h.clock := rfl
  refine HR_kp No ?_
  (first | refine SV_p (by first | exact True.intro | omega | (simp only [List.length_append, List.length_cons, List.length_nil, List.length_replicate, List.length_map]; omega)) ?_ | refine HV_p (by first | exact True.intro | omega | (simp only [List.length_append, List.length_cons, List.length_nil, List.length_replicate, List.length_map]; omega)) ?_)
  refine HV_load b1 (fun h => h) f0 ?_
  refine HV_pu (pu_idw (by omega) (by omega)) ?_
  refine n156 ((ref_put _ (by omega) _).use fun w2 h2 => ?_)
  rw [p1]
  have h2' : Ch No w1 w2 := (Ch.drew _).trans h2
  (first | refine RS_same (h2') ?_ | refine ⟨h2', ?_⟩)
  (first | refine SV_p (by first | exact True.intro | omega | (simp only [List.length_append, List.length_cons, List.length_nil, List.length_replicate, List.length_map]; omega)) ?_ | refine HV_p (by first | exact True.intro | omega | (simp only [List.length_append, List.length_cons, List.length_nil, List.length_replicate, List.length_map]; omega)) ?_)
  (first | refine SV_p (by first | exact True.intro | omega | (simp only [List.length_append, List.length_cons, List.length_nil, List.length_replicate, List.length_map]; omega)) ?_ | refine HV_p (by first | exact True.intro | omega | (simp only [List.length_append, List.length_cons, List.length_nil, List.length_replicate, List.length_map]; omega)) ?_)
  refine HV_loadN b1 (fun h => h) f1 h.root.len ?_
  refine n157 ((ref_sum h.root _).use fun w3 h3 => ?_)
  (first | refine RS_same (h2'.trans h3) ?_ | refine ⟨h2'.trans h3, ?_⟩)
  (first | refine SV_p (by first | exact True.intro | omega | (simp only [List.length_append, List.length_cons, List.length_nil, List.length_replicate, List.length_map]; omega)) ?_ | refine HV_p (by first | exact True.intro | omega | (simp only [List.length_append, List.length_cons, List.length_nil, List.length_replicate, List.length_map]; omega)) ?_)
  (first | refine SV_p (by first | exact True.intro | omega | (simp only [List.length_append, List.length_cons, List.length_nil, List.length_replicate, List.length_map]; omega)) ?_ | refine HV_p (by first | exact True.intro | omega | (simp only [List.length_append, List.length_cons, List.length_nil, List.length_replicate, List.length_map]; omega)) ?_)
  refine HV_load b1 (fun h => h) f2 ?_
  refine HV_pu (pu_idw (by omega) (by omega)) ?_
  refine n156 ((ref_put _ (by omega) _).use fun w4 h4 => ?_)
  rw [p2]
  (first | refine RS_same (h2'.trans (h3.trans h4)) ?_ | refine ⟨h2'.trans (h3.trans h4), ?_⟩)
  (first | refine SV_p (by first | exact True.intro | omega | (simp only [List.length_append, List.length_cons, List.length_nil, List.length_replicate, List.length_map]; omega)) ?_ | refine HV_p (by first | exact True.intro | omega | (simp only [List.length_append, List.length_cons, List.length_nil, List.length_replicate, List.length_map]; omega)) ?_)
  exact ⟨rfl, h1.trans (h2'.trans (h3.trans h4))⟩

theorem ref_head (key : List UInt8) (hk : key.length ≤ 1000000000) (size : Int) (root : Sum) (clock : Int) (w : World) :
    Ret Tryz.prog 27 #[str key, .int .i64 size, root.v, .int .i64 clock] w (headOf key size root clock).v := by
  refine c27 ?_
  unfold s27
  refine SV_box (vs := root.cells) rfl fun g1 w1 hg1 b1 h1 => ?_
  refine SV_alloc fun g2 w2 hg2 b2 h2 => ?_
  refine SV_loadB (b1.no h2) root.len ?_
  refine SV_pu (pu_build (FillOk.cons rfl rfl rfl (FillOk.cons rfl rfl rfl (FillOk.cons rfl rfl rfl (FillOk.nil _))))) ?_
  have hcells : fillS Head.zero.cells 0 [(0, [Value.int .i64 size], 1), (1, root.cells, 32), (33, [Value.int .i64 clock], 1)] = (⟨size, root, clock, Sum.zero⟩ : Head).cells := rfl
  rw [hcells]
  refine SV_alloc fun g3 w3 hg3 b3 h3 => ?_
  refine SU_storeB b3 (Head.len _) (Head.len _) (Head.ones _) fun w4 b4 h4 => ?_
  refine SV_loadB b4 (Head.len _) ?_
  refine n91 ((ref_headSays ⟨size, root, clock, Sum.zero⟩ _).use fun w5 h5 => ?_)
  have z1 := h1.size
  have z2 := h2.size
  have z3 := h3.size
  have z4 := h4.size
  have z5 := h5.size
  have l2 := b2.lt
  have hc5 : Ch No w w5 := ((h1.trans (h2.trans h3)).own h4 (by omega)).trans h5
  have b2 := ((b2.no h3).ch h4 (by omega)).no h5
  have b4 := b4.no h5
  have fin : ∀ w6, Blk w6 g3 48 (headOf key size root clock).cells → Blk w6 g2 48 Head.zero.cells → Ch No w w6 → s27_j1 Tryz.prog (fun v' w' => v' = (headOf key size root clock).v ∧ Ch No w w') (.pointer (some ⟨g2, 0, none⟩)) (.pointer (some ⟨g3, 0, none⟩)) w6 := by
    intro w6 b3 b2 hc
    unfold s27_j1
    refine SV_loadB b3 (Head.len _) ?_
    refine SU_storeB b2 (Head.len _) (Head.len _) (Head.ones _) fun w8 b8 h8 => ?_
    refine CR_N b8 (Head.len _) ?_
    exact ⟨rfl, hc.own h8 (by omega)⟩
  by_cases ho : headOk size clock
  · rw [if_pos ho]
    (first | refine SV_p (by first | exact True.intro | omega | (simp only [List.length_append, List.length_cons, List.length_nil, List.length_replicate, List.length_map]; omega)) ?_ | refine HV_p (by first | exact True.intro | omega | (simp only [List.length_append, List.length_cons, List.length_nil, List.length_replicate, List.length_map]; omega)) ?_)
    (first | refine SV_p (by first | exact True.intro | omega | (simp only [List.length_append, List.length_cons, List.length_nil, List.length_replicate, List.length_map]; omega)) ?_ | refine HV_p (by first | exact True.intro | omega | (simp only [List.length_append, List.length_cons, List.length_nil, List.length_replicate, List.length_map]; omega)) ?_)
    refine JP_in ?_
    refine CN_tt ?_
    have hl := headBytes_len (root := root) ho
    refine n92 ((ref_mac _ _ hk (by show (headBytes size root clock).length ≤ _; omega) _).use fun w6 h6 => ?_)
    (first | refine SV_p (by first | exact True.intro | omega | (simp only [List.length_append, List.length_cons, List.length_nil, List.length_replicate, List.length_map]; omega)) ?_ | refine HV_p (by first | exact True.intro | omega | (simp only [List.length_append, List.length_cons, List.length_nil, List.length_replicate, List.length_map]; omega)) ?_)
    refine SU_storeN (b4.no h6) (Sum.len _) (by rw [Head.len]; decide) (Sum.ones _) fun w7 b7 h7 => ?_
    rw [Head.set_mac] at b7
    refine ⟨rfl, fun _ => fin w7 ?_ ((b2.no h6).ch h7 (by omega)) ((hc5.trans h6).own h7 (by omega))⟩
    unfold headOf
    rw [if_pos ho]
    exact b7
  · rw [if_neg ho]
    (first | refine SV_p (by first | exact True.intro | omega | (simp only [List.length_append, List.length_cons, List.length_nil, List.length_replicate, List.length_map]; omega)) ?_ | refine HV_p (by first | exact True.intro | omega | (simp only [List.length_append, List.length_cons, List.length_nil, List.length_replicate, List.length_map]; omega)) ?_)
    (first | refine SV_p (by first | exact True.intro | omega | (simp only [List.length_append, List.length_cons, List.length_nil, List.length_replicate, List.length_map]; omega)) ?_ | refine HV_p (by first | exact True.intro | omega | (simp only [List.length_append, List.length_cons, List.length_nil, List.length_replicate, List.length_map]; omega)) ?_)
    refine JP_in ?_
    refine CN_ff ?_
    refine ⟨rfl, fun _ => fin w5 ?_ b2 hc5⟩
    unfold headOf
    rw [if_neg ho]
    exact b4
end Go.Proofs.YtkdghnbogkbedaaGreatDoor
