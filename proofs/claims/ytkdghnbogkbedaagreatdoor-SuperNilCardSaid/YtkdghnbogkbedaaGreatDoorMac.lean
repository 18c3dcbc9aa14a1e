/-
  HMAC: the package mac, the reference's.
-/
import Derived.Test.YtkdghnbogkbedaaGreatDoorNum
import Derived.Test.YtkdghnbogkbedaaGreatDoorXMac
import Derived.Test.YtkdghnbogkbedaaGreatDoorXRef03
import Derived.Lib.BufferMore
namespace Go.Sh
open Go Go.RowKit

def key64 (k : List UInt8) : List UInt8 := (if 64 < k.length then (sha k).l else k) ++ List.replicate (64 - (if 64 < k.length then (sha k).l else k).length) 0
theorem key64_len (k : List UInt8) : (key64 k).length = 64 := by
  unfold key64
  split
  · rw [List.length_append, (sha k).h]; simp
  · simp; omega
def xorAll (c : UInt8) (l : List UInt8) : List UInt8 := l.map (· ^^^ c)
@[simp] theorem xorAll_len (c : UInt8) (l : List UInt8) : (xorAll c l).length = l.length := by simp [xorAll]
def hmac (k m : List UInt8) : Sum := sha (xorAll 92 (key64 k) ++ (sha (xorAll 54 (key64 k) ++ m)).l)

/-- A row of bytes that came of a text: its mark lies behind it. -/
def MBlk (w : World) (g : Nat) (t : TypeId) (cs : List Value) : Prop := ∃ fr : Nat × Nat, w.heap[g]? = some (.cells cs.toArray t fr) ∧ cs.length ≤ fr.1

section
variable {P : Program} {w : World} {g t : Nat} {cs : List Value}
theorem MBlk.ch {w' : World} {S : Nat → Prop} (h : MBlk w g t cs) (hc : Ch S w w') (hS : ¬ S g) : MBlk w' g t cs := by
  obtain ⟨fr, h1, h2⟩ := h
  refine ⟨fr, ?_, h2⟩
  have hlt : g < w.heap.size := by
    rcases Nat.lt_or_ge g w.heap.size with hlt | hge
    · exact hlt
    · rw [Array.getElem?_eq_none hge] at h1; cases h1
  exact (hc.block g hlt hS).trans h1
theorem MBlk.cell (h : MBlk w g t cs) (i : Nat) : w.cell? ⟨g, i, none⟩ = cs[i]? := by
  obtain ⟨fr, h1, h2⟩ := h
  rw [cell_of_row w g i _ t fr h1]; simp
theorem SV_loadM {ty : TypeId} [One P ty] {o : Nat} {v : Value} {k : Value → World → Prop} (h : MBlk w g t cs) (hv : cs[o]? = some v) (hk : k v w) : SV P (Instr.loadAt ty (.pointer (some ⟨g, o, none⟩))) w k :=
  ⟨v, w, run_load1 ((h.cell o).trans hv), hk⟩
theorem SU_storeM {ty : TypeId} [h1 : One P ty] {o : Nat} {v : Value} {k : World → Prop} (h : MBlk w g t cs) (ho : o < cs.length) (hv : v.oneCell' = true)
    (hk : ∀ w', MBlk w' g t (cs.set o v) → Ch (· = g) w w' → k w') : SU P (Instr.storeAt ty (.pointer (some ⟨g, o, none⟩)) v) w k := by
  have hc : w.cell? ⟨g, o, none⟩ = some cs[o] := by rw [h.cell]; exact List.getElem?_eq_getElem ho
  obtain ⟨fr, hb, hfr⟩ := h
  have hf : w.frozen? ⟨g, o, none⟩ = false := by
    unfold World.frozen?
    simp only [hb]
    have : ¬ fr.1 ≤ o := by omega
    simp [this]
  have hcells : v.cells = #[v] := by cases v <;> first | rfl | (simp [Value.oneCell'] at hv)
  have hs : (store ⟨g, o, none⟩ v).run P w = .ok () (w.setCell ⟨g, o, none⟩ v) := by
    cases v <;> first | (simp [Value.oneCell'] at hv; done) | simp [store, Sem.run, hc, hf]
  refine ⟨w.setCell ⟨g, o, none⟩ v, ?_, hk _ ⟨fr, ?_, by simpa using hfr⟩ (setCell_ch w g o v)⟩
  · simp only [Instr.storeAt, Instr.sureAddr, Sem.run_bind, Sem.run_pure, Result.andThen_ok, storeVar, h1.size, hcells]
    simp only [List.size_toArray, List.length_cons, List.length_nil, Nat.zero_add, ne_eq, not_true_eq_false, if_false, Sem.run_bind, Sem.run_pure, Result.andThen_ok, storeCells, Addr.add_zero', hs]
  · have : (w.setCell ⟨g, o, none⟩ v).heap[g]? = some (.cells (cs.toArray.setIfInBounds o v) t fr) := by simp [World.setCell, Array.getElem?_modify, hb]
    rw [this]
    simp
/-- []byte(s) -/
theorem SV_sbytes {s d e : Nat} [hs : IsStr P s] [hd : SlT P d e 1] [he : IsInt P e .u8] {l : List UInt8} {k : Value → World → Prop}
    (hk : ∀ g c z w', w.heap.size ≤ g → l.length ≤ c → MBlk w' g e (l.map by_ ++ z) → Ch No w w' → k (.slice (some ⟨g, 0, none⟩) l.length c) w') : SV P (convert s d (str l)) w k := by
  have h := run_bytes_of_string (P := P) w s d e ⟨l.toArray⟩ hs.und hd.und he.und
  rw [size_str] at h
  have hge := grownCap_ge w l.length 0 e
  have e1 : bytesRow ⟨l.toArray⟩ (grownCap w l.length 0 e) = (l.map by_ ++ List.replicate (grownCap w l.length 0 e - l.length) (Value.int .u8 0)).toArray := by
    unfold bytesRow
    rw [size_str]
    apply Array.ext'
    simp [by_]
  have hm : MBlk (w.drew.alloc (.cells (bytesRow ⟨l.toArray⟩ (grownCap w l.length 0 e)) e ((bytesRow ⟨l.toArray⟩ (grownCap w l.length 0 e)).size, (bytesRow ⟨l.toArray⟩ (grownCap w l.length 0 e)).size + 1))) w.heap.size e
      (l.map by_ ++ List.replicate (grownCap w l.length 0 e - l.length) (Value.int .u8 0)) := by
    refine ⟨((bytesRow ⟨l.toArray⟩ (grownCap w l.length 0 e)).size, (bytesRow ⟨l.toArray⟩ (grownCap w l.length 0 e)).size + 1), ?_, ?_⟩
    · rw [← e1]; exact heap_alloc_new w.drew _
    · rw [e1]; simp
  exact ⟨_, _, h, hk _ _ _ _ (Nat.le_refl _) hge hm ((Ch.drew w).trans (Ch.alloc _ _))⟩
theorem pu_bxor {t : TypeId} {x y : UInt8} : Pu P (binOp .xor t (by_ x) (by_ y)) (by_ (x ^^^ y)) := fun w => by
  unfold by_
  rw [binOp_xor, intBits_xor, u8_xor_nat _ _ x.toNat_lt y.toNat_lt, UInt8.toNat_xor]; rfl
instance {t : TypeId} {x y : UInt8} : PuC P (binOp .xor t (by_ x) (by_ y)) (by_ (x ^^^ y)) True := ⟨fun _ => pu_bxor⟩
theorem Rd.of_mblk {T len : Nat} {xs z : List Value} {c : Nat} (h : MBlk w g T (xs ++ z)) (hl : xs.length = len) (hc : len ≤ c) (hm : len ≤ maxLen) : Rd w T 1 (.slice (some ⟨g, 0, none⟩) len c) len xs := by
  obtain ⟨fr, h1, _⟩ := h
  refine ⟨by omega, hm, _, c, rfl, hc, fun _ => ⟨g, 0, _, fr, rfl, h1, fun j u hj => ?_⟩⟩
  obtain ⟨hj1, hj2⟩ := List.getElem?_eq_some_iff.1 hj
  simp [List.getElem?_append_left hj1, hj]
end
end Go.Sh
namespace Go.Proofs.YtkdghnbogkbedaaGreatDoor
open Go Go.Sh Go.RowKit
set_option maxRecDepth 100000
set_option maxHeartbeats 1000000
set_option linter.unusedSimpArgs false
set_option linter.unusedVariables false

/-! ## The reference's -/

theorem ref_pad (k : List UInt8) (hk : k.length ≤ 1000000000) (w : World) : Ret Tryz.prog 158 #[str k] w (str (key64 k)) := by
  refine c158 ?_
  unfold s158
  have fin : ∀ (p : List UInt8) (w1 : World), p.length ≤ 64 → Ch No w w1 → p ++ List.replicate (64 - p.length) 0 = key64 k → s158_j1 Tryz.prog (fun v' w' => v' = str (key64 k) ∧ Ch No w w') (str p) w1 := by
    intro p w1 hp hc he
    unfold s158_j1
    refine LP_intro (fun us w' => ∃ j : Nat, us = [str (p ++ List.replicate j 0)] ∧ j ≤ 64 - p.length ∧ w1 = w') (fun us _ => match us with | [.string b] => 65 - b.size | _ => 0)
      ⟨0, by simp, Nat.zero_le _, rfl⟩ ?_
    rintro us hus ζ _ ⟨j, rfl, hj, rfl⟩
    unfold s158_l1
    simp only [List.getD_cons_zero, List.getD_cons_succ]
    have hlen : (p ++ List.replicate j (0 : UInt8)).length = p.length + j := by simp
    (first | refine SV_p (by first | exact True.intro | omega | (simp only [List.length_append, List.length_cons, List.length_nil, List.length_replicate, List.length_map]; omega)) ?_ | refine HV_p (by first | exact True.intro | omega | (simp only [List.length_append, List.length_cons, List.length_nil, List.length_replicate, List.length_map]; omega)) ?_)
    (first | refine SV_p (by first | exact True.intro | omega | (simp only [List.length_append, List.length_cons, List.length_nil, List.length_replicate, List.length_map]; omega)) ?_ | refine HV_p (by first | exact True.intro | omega | (simp only [List.length_append, List.length_cons, List.length_nil, List.length_replicate, List.length_map]; omega)) ?_)
    rw [hlen]
    refine CN_split (fun hlt => ?_) (fun hge => ?_)
    · (first | refine SV_p (by first | exact True.intro | omega | (simp only [List.length_append, List.length_cons, List.length_nil, List.length_replicate, List.length_map]; omega)) ?_ | refine HV_p (by first | exact True.intro | omega | (simp only [List.length_append, List.length_cons, List.length_nil, List.length_replicate, List.length_map]; omega)) ?_)
      refine ⟨⟨j + 1, ?_, by omega, rfl⟩, ?_⟩
      · rw [List.replicate_succ', List.append_assoc]
      · show 65 - (ByteArray.mk (p ++ List.replicate j 0 ++ [0]).toArray).size < 65 - (ByteArray.mk (p ++ List.replicate j 0).toArray).size
        rw [size_str, size_str, List.length_append, hlen]
        simp only [List.length_cons, List.length_nil]
        omega
    · have : j = 64 - p.length := by omega
      subst this
      exact ⟨by rw [he], hc⟩
  refine JP_in ?_
  (first | refine SV_p (by first | exact True.intro | omega | (simp only [List.length_append, List.length_cons, List.length_nil, List.length_replicate, List.length_map]; omega)) ?_ | refine HV_p (by first | exact True.intro | omega | (simp only [List.length_append, List.length_cons, List.length_nil, List.length_replicate, List.length_map]; omega)) ?_)
  (first | refine SV_p (by first | exact True.intro | omega | (simp only [List.length_append, List.length_cons, List.length_nil, List.length_replicate, List.length_map]; omega)) ?_ | refine HV_p (by first | exact True.intro | omega | (simp only [List.length_append, List.length_cons, List.length_nil, List.length_replicate, List.length_map]; omega)) ?_)
  refine CN_split (fun hgt => ?_) (fun hle => ?_)
  · refine n81 ((ref_of k w hk).use fun w1 h1 => ?_)
    refine n160 ((ref_bytes _ w1).use fun w2 h2 => ?_)
    refine ⟨rfl, fun _ => ?_⟩
    exact fin _ _ (by rw [(sha k).h]; omega) (h1.trans h2) (by unfold key64; rw [if_pos (by omega)])
  · exact ⟨rfl, fun _ => fin _ _ (by omega) (Ch.refl _) (by unfold key64; rw [if_neg (by omega)])⟩

theorem ref_xor (l : List UInt8) (c : UInt8) (hl : l.length ≤ 1000000000) (w : World) : Ret Tryz.prog 159 #[str l, by_ c] w (str (xorAll c l)) := by
  refine c159 ?_
  unfold s159
  (first | refine SV_p (by first | exact True.intro | omega | (simp only [List.length_append, List.length_cons, List.length_nil, List.length_replicate, List.length_map]; omega)) ?_ | refine HV_p (by first | exact True.intro | omega | (simp only [List.length_append, List.length_cons, List.length_nil, List.length_replicate, List.length_map]; omega)) ?_)
  refine SV_make1 (by omega) (by omega) fun g w1 hg b1 h1 => ?_
  have hxl : ((xorAll c l).map by_).length = l.length := by simp
  have hzl : (List.replicate l.length (Value.int .u8 0)).length = l.length := by simp
  refine LP_intro (fun us w' => ∃ i : Nat, us = [.int .i64 i] ∧ i ≤ l.length ∧ Blk w' g 5 (((xorAll c l).map by_).take i ++ (List.replicate l.length (Value.int .u8 0)).drop i) ∧ Ch (· = g) w1 w') (fun us _ => match us with | [.int _ t] => (l.length - t).toNat | _ => 0)
    ⟨0, rfl, by omega, by rw [mix_zero]; exact b1, Ch.refl _⟩ ?_
  rintro us hus ζ w2 ⟨i, rfl, hi, b2, h2⟩
  unfold s159_l1
  simp only [List.getD_cons_zero, List.getD_cons_succ]
  (first | refine SV_p (by first | exact True.intro | omega | (simp only [List.length_append, List.length_cons, List.length_nil, List.length_replicate, List.length_map]; omega)) ?_ | refine HV_p (by first | exact True.intro | omega | (simp only [List.length_append, List.length_cons, List.length_nil, List.length_replicate, List.length_map]; omega)) ?_)
  (first | refine SV_p (by first | exact True.intro | omega | (simp only [List.length_append, List.length_cons, List.length_nil, List.length_replicate, List.length_map]; omega)) ?_ | refine HV_p (by first | exact True.intro | omega | (simp only [List.length_append, List.length_cons, List.length_nil, List.length_replicate, List.length_map]; omega)) ?_)
  refine CN_split (fun hlt => ?_) (fun hge => ?_)
  · (first | refine SV_p (by first | exact True.intro | omega | (simp only [List.length_append, List.length_cons, List.length_nil, List.length_replicate, List.length_map]; omega)) ?_ | refine HV_p (by first | exact True.intro | omega | (simp only [List.length_append, List.length_cons, List.length_nil, List.length_replicate, List.length_map]; omega)) ?_)
    (first | refine SV_p (by first | exact True.intro | omega | (simp only [List.length_append, List.length_cons, List.length_nil, List.length_replicate, List.length_map]; omega)) ?_ | refine HV_p (by first | exact True.intro | omega | (simp only [List.length_append, List.length_cons, List.length_nil, List.length_replicate, List.length_map]; omega)) ?_)
    (first | refine SV_p (by first | exact True.intro | omega | (simp only [List.length_append, List.length_cons, List.length_nil, List.length_replicate, List.length_map]; omega)) ?_ | refine HV_p (by first | exact True.intro | omega | (simp only [List.length_append, List.length_cons, List.length_nil, List.length_replicate, List.length_map]; omega)) ?_)
    refine SU_store b2 (by rw [mix_len hzl hxl hi]; omega) rfl fun w3 b3 h3 => ?_
    (first | refine SV_p (by first | exact True.intro | omega | (simp only [List.length_append, List.length_cons, List.length_nil, List.length_replicate, List.length_map]; omega)) ?_ | refine HV_p (by first | exact True.intro | omega | (simp only [List.length_append, List.length_cons, List.length_nil, List.length_replicate, List.length_map]; omega)) ?_)
    have hi' : i < l.length := by omega
    rw [Int.toNat_natCast, set_mix (by rw [hzl, hxl]) (by simp [xorAll, List.getD, hi'])] at b3
    refine ⟨⟨i + 1, rfl, by omega, b3, h2.trans h3⟩, ?_⟩
    show ((l.length : Int) - ((i : Int) + 1)).toNat < ((l.length : Int) - (i : Int)).toNat
    omega
  · have : i = l.length := by omega
    subst this
    rw [mix_all hzl hxl] at b2
    refine SV_bstr (l := xorAll c l) (Rd.of_blk b2 (by simp) (by unfold maxLen; omega)) ?_
    exact ⟨rfl, h1.own h2 hg⟩

theorem ref_mac (k m : List UInt8) (hk : k.length ≤ 1000000000) (hm : m.length ≤ 900000000) (w : World) : Ret Tryz.prog 92 #[str k, str m] w (hmac k m).v := by
  refine c92 ?_
  unfold s92
  have h64 := key64_len k
  refine SV_alloc fun g1 w1 hg1 b1 h1 => ?_
  refine n158 ((ref_pad k hk _).use fun w2 h2 => ?_)
  have e54 : Value.int .u8 54 = by_ 54 := rfl
  have e92 : Value.int .u8 92 = by_ 92 := rfl
  rw [e54, e92]
  refine n159 ((ref_xor (key64 k) 54 (by omega) _).use fun w3 h3 => ?_)
  have hx := xorAll_len 54 (key64 k)
  have hx2 := xorAll_len 92 (key64 k)
  (first | refine SV_p (by first | exact True.intro | omega | (simp only [List.length_append, List.length_cons, List.length_nil, List.length_replicate, List.length_map]; omega)) ?_ | refine HV_p (by first | exact True.intro | omega | (simp only [List.length_append, List.length_cons, List.length_nil, List.length_replicate, List.length_map]; omega)) ?_)
  refine n81 ((ref_of _ _ (by rw [List.length_append]; omega)).use fun w4 h4 => ?_)
  refine SV_alloc fun g5 w5 hg5 b5 h5 => ?_
  refine SU_storeB b5 (Sum.len _) Sum.zero.len (Sum.ones _) fun w6 b6 h6 => ?_
  have z1 := h1.size
  have z2 := h2.size
  have z3 := h3.size
  have z4 := h4.size
  have z5 := h5.size
  have z6 := h6.size
  have l1 := b1.lt
  have l6 := b6.lt
  have b1 := ((((b1.no h2).no h3).no h4).no h5).ch h6 (by omega)
  have hc6 : Ch No w w6 := (h1.trans (h2.trans (h3.trans (h4.trans h5)))).own h6 (by omega)
  refine HR_kp No ?_
  refine n159 ((ref_xor (key64 k) 92 (by omega) _).use fun w7 h7 => ?_)
  have h7' : Ch No w6 w7 := (Ch.drew _).trans h7
  (first | refine RS_same (h7') ?_ | refine ⟨h7', ?_⟩)
  refine HV_loadB b6 (fun h => h) (Sum.len _) ?_
  refine n160 ((ref_bytes _ w7).use fun w8 h8 => ?_)
  have h8' : Ch No w6 w8 := h7'.trans h8
  (first | refine RS_same (h8') ?_ | refine ⟨h8', ?_⟩)
  have hsl := (sha (xorAll 54 (key64 k) ++ m)).h
  (first | refine SV_p (by first | exact True.intro | omega | (simp only [List.length_append, List.length_cons, List.length_nil, List.length_replicate, List.length_map]; omega)) ?_ | refine HV_p (by first | exact True.intro | omega | (simp only [List.length_append, List.length_cons, List.length_nil, List.length_replicate, List.length_map]; omega)) ?_)
  refine n81 ((ref_of _ _ (by rw [List.length_append]; omega)).use fun w9 h9 => ?_)
  have b1 := (b1.no h8').no h9
  refine SU_storeB b1 (Sum.len _) Sum.zero.len (Sum.ones _) fun w10 b10 h10 => ?_
  refine CR_N b10 (Sum.len _) ?_
  exact ⟨rfl, ((hc6.trans h8').trans h9).own h10 (by omega)⟩
end Go.Proofs.YtkdghnbogkbedaaGreatDoor
