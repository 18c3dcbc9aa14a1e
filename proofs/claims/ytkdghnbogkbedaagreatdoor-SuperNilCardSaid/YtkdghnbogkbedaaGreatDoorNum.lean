/-
  Numbers and texts as octets.
-/
import Derived.Test.YtkdghnbogkbedaaGreatDoorRef02c
import Derived.Test.YtkdghnbogkbedaaGreatDoorXOctet
import Derived.Test.YtkdghnbogkbedaaGreatDoorXRef01
import Derived.Laws.MakeOwn
import Derived.Lib.BitFns
namespace Go.Sh
open Go Go.RowKit

/-- A number's octets, the greatest first. -/
def be (n : Nat) : List UInt8 := if n = 0 then [] else be (n / 256) ++ [UInt8.ofNat n]
termination_by n
decreasing_by omega

theorem be_zero : be 0 = [] := by rw [be]; rfl
theorem be_pos {n : Nat} (h : n ≠ 0) : be n = be (n / 256) ++ [UInt8.ofNat n] := by rw [be, if_neg h]

theorem be_len {n : Nat} (h : n < 18446744073709551616) : (be n).length = (Lib.bitLen n + 7) / 8 := by
  induction n using Nat.strongRecOn with
  | _ n ih =>
    by_cases h0 : n = 0
    · subst h0; rw [be_zero]; decide +kernel
    · rw [be_pos h0, List.length_append, ih (n / 256) (by omega) (by omega)]
      by_cases h1 : 256 ≤ n
      · rw [Lib.bitLen_shift8 n h1 h]; simp; omega
      · have h2 : n / 256 = 0 := by omega
        have h3 : Lib.bitLen n ≤ 8 := Lib.bitLen_le8 ⟨n, by omega⟩
        have h4 : 0 < Lib.bitLen n := by rw [Lib.bitLen_half n h0 h]; omega
        have h5 : Lib.bitLen 0 = 0 := by decide +kernel
        rw [h2, h5]; simp; omega
theorem be_len_le {n : Nat} (h : n < 18446744073709551616) : (be n).length ≤ 8 := by
  have step : ∀ k n, n < 256 ^ k → (be n).length ≤ k := by
    intro k
    induction k with
    | zero => intro n hn; have : n = 0 := by simpa using hn
              subst this; rw [be_zero]; simp
    | succ k ih =>
      intro n hn
      by_cases h0 : n = 0
      · subst h0; rw [be_zero]; simp
      · rw [be_pos h0, List.length_append]
        have := ih (n / 256) (by rw [Nat.pow_succ] at hn; exact Nat.div_lt_of_lt_mul (by rw [Nat.mul_comm]; exact hn))
        simp; omega
  exact step 8 n (by simpa using h)
theorem be_at {n i : Nat} (h : i < (be n).length) : (be n)[(be n).length - 1 - i]? = some (UInt8.ofNat (n / 2 ^ (8 * i))) := by
  induction i generalizing n with
  | zero =>
    by_cases h0 : n = 0
    · subst h0; rw [be_zero] at h; simp at h
    · rw [be_pos h0]; simp
  | succ i ih =>
    by_cases h0 : n = 0
    · subst h0; rw [be_zero] at h; simp at h
    · rw [be_pos h0] at h ⊢
      simp only [List.length_append, List.length_cons, List.length_nil] at h ⊢
      have h1 : i < (be (n / 256)).length := by omega
      rw [List.getElem?_append_left (by omega), show (be (n / 256)).length + (0 + 1) - 1 - (i + 1) = (be (n / 256)).length - 1 - i by omega, ih h1, Nat.div_div_eq_div_mul]
      have e : 256 * 2 ^ (8 * i) = 2 ^ (8 * (i + 1)) := by rw [show (256 : Nat) = 2 ^ 8 from rfl, ← Nat.pow_add]; congr 1; omega
      rw [e]

def putN (n : Nat) : List UInt8 := UInt8.ofNat (be n).length :: be n
def textN (l : List UInt8) : List UInt8 := putN l.length ++ l
theorem putN_len {n : Nat} (h : n < 18446744073709551616) : (putN n).length ≤ 9 := by have := be_len_le h; simp [putN]; omega

section
variable {P : Program} {w : World}
theorem pu_idxS {ty e sz : Nat} [hT : SlT P ty e sz] {g o n c : Nat} {i : Int} (h0 : 0 ≤ i) (h1 : i < n) : Pu P (Instr.indexAt ty (.slice (some ⟨g, o, none⟩) n c) (.int .i64 i)) (.pointer (some ⟨g, o + i.toNat * sz, none⟩)) := fun w => by
  simp only [Instr.indexAt, Sem.run_bind, asIntOf, Sem.run_pure, Result.andThen_ok, run_underlying hT.und]
  simp only [h0, h1, and_self, if_true, Sem.run_bind, hT.size, Result.andThen_ok, Sem.run_pure, Addr.add_lit]
instance {ty e : Nat} [hT : SlT P ty e 1] {g n c : Nat} {i : Int} : PuC P (Instr.indexAt ty (.slice (some ⟨g, 0, none⟩) n c) (.int .i64 i)) (.pointer (some ⟨g, i.toNat, none⟩)) (0 ≤ i ∧ i < n) :=
  ⟨fun h w => by have := pu_idxS (P := P) (ty := ty) (g := g) (o := 0) (c := c) h.1 h.2 w; simpa using this⟩

theorem SV_make1 {ty e b : Nat} {z0 : Value} [hT : SlT P ty e 1] [hI : Inf P e 1 b] [hz : Zer P e [z0]] {kl kc : IntKind} {n : Nat} {k : Value → World → Prop} (hb : n * b ≤ 140737488355328) (hn : n ≤ 140737488355328)
    (hk : ∀ g w', w.heap.size ≤ g → Blk w' g e (List.replicate n z0) → Ch No w w' → k (.slice (some ⟨g, 0, none⟩) n n) w') : SV P (Instr.makeSlice ty (.int kl n) (.int kc n)) w k := by
  obtain ⟨i, z, hi, hsz, hby, hzz, hzs, hpos⟩ := hI.ex
  have hz0 : zeroOf P e = z := by simp [zeroOf, hi, hzz]
  have hzc : z.cells = #[z0] := by rw [← hz0]; exact hz.cells
  have hbb : (i.bytes : Int) * (n : Int) ≤ 281474976710656 := by
    rw [hby, ← Int.natCast_mul, Nat.mul_comm]; omega
  have hrun := run_make w ty e i z hT.und hi hzz kl kc n n (by omega) (by omega) hbb (by omega)
  have hm : madeCells z.cells (((n : Nat) : Int).toNat * i.size) = (List.replicate n z0).toArray := by
    apply Array.ext
    · simp [madeCells, hsz]
    · intro j h1 h2
      simp [madeCells, hzc, Nat.mod_one]
  rw [hm, Int.toNat_natCast] at hrun
  exact ⟨_, _, hrun, hk w.heap.size _ (Nat.le_refl _) (Blk.new w e _) (Ch.alloc w _)⟩
theorem pu_n8 {s d : TypeId} {k0 k : IntKind} [IsInt P s k0] [IsInt P d .u8] {n : Nat} : Pu P (convert s d (.int k n)) (by_ (UInt8.ofNat n)) := fun w => by
  have := pu_conv (P := P) (s := s) (d := d) (k := k) (n := n) w
  rw [IntKind.wrap_u8] at this
  unfold by_
  rw [this]
  congr 2
theorem pu_quou {t : TypeId} {k : IntKind} {a b : Nat} (hb : 0 < b) (hk : k.wrap ((a / b : Nat) : Int) = ((a / b : Nat) : Int)) : Pu P (binOp .quo t (.int k a) (.int k b)) (.int k (a / b : Nat)) := fun w => by
  have hne : (b : Int) ≠ 0 := by omega
  have h1 : (a : Int).tdiv b = ((a / b : Nat) : Int) := by rw [Int.tdiv_eq_ediv_of_nonneg (by omega)]; simp
  simp only [binOp, Op.intDiv, hne]
  simp only [ne_eq, not_true_eq_false, if_false, h1, hk]
  rfl
theorem pu_remu {t : TypeId} {k : IntKind} {a b : Nat} (hb : 0 < b) : Pu P (binOp .rem t (.int k a) (.int k b)) (.int k (a % b : Nat)) := fun w => by
  have hne : (b : Int) ≠ 0 := by omega
  have h1 : (a : Int).tmod b = ((a % b : Nat) : Int) := by rw [Int.tmod_eq_emod_of_nonneg (by omega)]; simp
  simp only [binOp, Op.intDiv, hne]
  simp only [ne_eq, not_true_eq_false, if_false, h1]
  rfl
/-- string([]byte{x}) -/
theorem SV_byte {ty e d : Nat} [hT : SlT P ty e 1] [hI : Inf P e 1 1] [he : IsInt P e .u8] [hd : IsStr P d] {x : UInt8} {k : Value → World → Prop} (hk : ∀ w', Ch No w w' → k (str [x]) w') :
    SV P (Instr.buildSlice ty 1 #[(0, by_ x)]) w fun t w => SV P (convert ty d t) w k := by
  refine SV_lits (e := e) (sz := 1) [by_ x] [[by_ x]] rfl (fun i v hv => ?_) rfl rfl (by simp) fun g3 w3 hg3 b3 h3 ho => ?_
  · match i, hv with
    | 0, hv => simp only [List.getElem?_cons_zero, Option.some.injEq] at hv; subst hv; exact ⟨[by_ x], rfl, rfl, rfl⟩
    | i + 1, hv => simp at hv
  exact SV_bstr (l := [x]) (Rd.of_own ho) (hk _ h3)
end
end Go.Sh
namespace Go.Proofs.YtkdghnbogkbedaaGreatDoor
open Go Go.Sh Go.RowKit
set_option maxRecDepth 100000
set_option maxHeartbeats 1000000
set_option linter.unusedSimpArgs false
set_option linter.unusedVariables false

theorem wrapu {n : Nat} (h : n < 18446744073709551616) : IntKind.u64.wrap (n : Int) = n := by rw [IntKind.wrap_u64]; omega

theorem ref_put (n : Nat) (hn : n < 18446744073709551616) (w : World) : Ret Tryz.prog 156 #[.int .u64 n] w (str (putN n)) := by
  refine c156 ?_
  unfold s156
  refine LP_intro (fun us w' => ∃ (r : Nat) (s : List UInt8), us = [str s, .int .u64 r] ∧ r ≤ n ∧ be n = be r ++ s ∧ Ch No w w') (fun us _ => match us with | [_, .int _ t] => t.toNat | _ => 0)
    ⟨n, [], rfl, Nat.le_refl _, by simp, Ch.refl _⟩ ?_
  rintro us hus ζ w1 ⟨r, s, rfl, hr, hs, h1⟩
  unfold s156_l1
  simp only [List.getD_cons_zero, List.getD_cons_succ]
  have hl8 := be_len_le hn
  have hsl : s.length ≤ 8 := by rw [hs, List.length_append] at hl8; omega
  (first | refine SV_p (by first | exact True.intro | omega | (simp only [List.length_append, List.length_cons, List.length_nil, List.length_replicate, List.length_map]; omega)) ?_ | refine HV_p (by first | exact True.intro | omega | (simp only [List.length_append, List.length_cons, List.length_nil, List.length_replicate, List.length_map]; omega)) ?_)
  refine CN_split (fun hlt => ?_) (fun hge => ?_)
  · have hr0 : r ≠ 0 := by omega
    refine SV_pu (pu_remu (b := 256) (by omega)) ?_
    refine SV_pu pu_n8 ?_
    refine SV_byte fun w2 h2 => ?_
    (first | refine SV_p (by first | exact True.intro | omega | (simp only [List.length_append, List.length_cons, List.length_nil, List.length_replicate, List.length_map]; omega)) ?_ | refine HV_p (by first | exact True.intro | omega | (simp only [List.length_append, List.length_cons, List.length_nil, List.length_replicate, List.length_map]; omega)) ?_)
    refine SV_pu (pu_quou (b := 256) (by omega) (wrapu (by omega))) ?_
    have e : UInt8.ofNat (r % 256) = UInt8.ofNat r := by
      apply UInt8.toNat_inj.1
      simp
    refine ⟨⟨r / 256, _, rfl, by omega, ?_, h1.trans h2⟩, ?_⟩
    · rw [hs, be_pos hr0, e, List.append_assoc]
    · show ((r / 256 : Nat) : Int).toNat < ((r : Nat) : Int).toNat
      omega
  · have hr0 : r = 0 := by omega
    subst hr0
    rw [be_zero, List.nil_append] at hs
    subst hs
    (first | refine SV_p (by first | exact True.intro | omega | (simp only [List.length_append, List.length_cons, List.length_nil, List.length_replicate, List.length_map]; omega)) ?_ | refine HV_p (by first | exact True.intro | omega | (simp only [List.length_append, List.length_cons, List.length_nil, List.length_replicate, List.length_map]; omega)) ?_)
    refine SV_pu pu_n8 ?_
    refine SV_byte fun w2 h2 => ?_
    (first | refine SV_p (by first | exact True.intro | omega | (simp only [List.length_append, List.length_cons, List.length_nil, List.length_replicate, List.length_map]; omega)) ?_ | refine HV_p (by first | exact True.intro | omega | (simp only [List.length_append, List.length_cons, List.length_nil, List.length_replicate, List.length_map]; omega)) ?_)
    exact ⟨rfl, h1.trans h2⟩

theorem ref_text (l : List UInt8) (hl : l.length ≤ 4611686018427387904) (w : World) : Ret Tryz.prog 191 #[str l] w (str (textN l)) := by
  refine c191 ?_
  unfold s191
  (first | refine SV_p (by first | exact True.intro | omega | (simp only [List.length_append, List.length_cons, List.length_nil, List.length_replicate, List.length_map]; omega)) ?_ | refine HV_p (by first | exact True.intro | omega | (simp only [List.length_append, List.length_cons, List.length_nil, List.length_replicate, List.length_map]; omega)) ?_)
  refine SV_pu (w64_conv (by omega) (by omega)) ?_
  refine n156 ((ref_put l.length (by omega) w).use fun w1 h1 => ?_)
  have := putN_len (n := l.length) (by omega)
  (first | refine SV_p (by first | exact True.intro | omega | (simp only [List.length_append, List.length_cons, List.length_nil, List.length_replicate, List.length_map]; omega)) ?_ | refine HV_p (by first | exact True.intro | omega | (simp only [List.length_append, List.length_cons, List.length_nil, List.length_replicate, List.length_map]; omega)) ?_)
  exact ⟨rfl, h1⟩

theorem oct_need (n : Nat) (hn : n < 18446744073709551616) (w : World) : Ret Tryz.prog 262 #[.int .u64 n] w (.int .i64 (be n).length) := by
  refine c262 ?_
  unfold s262
  refine n283 ((Ret.of_same (Tryz.bits_Len64 n w (by omega) (by omega))).use fun w1 h1 => ?_)
  rw [Int.toNat_natCast]
  have hb : Lib.bitLen n ≤ 64 := by
    have := be_len hn
    have := be_len_le hn
    omega
  (first | refine SV_p (by first | exact True.intro | omega | (simp only [List.length_append, List.length_cons, List.length_nil, List.length_replicate, List.length_map]; omega)) ?_ | refine HV_p (by first | exact True.intro | omega | (simp only [List.length_append, List.length_cons, List.length_nil, List.length_replicate, List.length_map]; omega)) ?_)
  (first | refine SV_p (by first | exact True.intro | omega | (simp only [List.length_append, List.length_cons, List.length_nil, List.length_replicate, List.length_map]; omega)) ?_ | refine HV_p (by first | exact True.intro | omega | (simp only [List.length_append, List.length_cons, List.length_nil, List.length_replicate, List.length_map]; omega)) ?_)
  (first | refine SV_p (by first | exact True.intro | omega | (simp only [List.length_append, List.length_cons, List.length_nil, List.length_replicate, List.length_map]; omega)) ?_ | refine HV_p (by first | exact True.intro | omega | (simp only [List.length_append, List.length_cons, List.length_nil, List.length_replicate, List.length_map]; omega)) ?_)
  refine ⟨?_, h1⟩
  rw [be_len hn]
  congr 1
  omega

theorem oct_put (n : Nat) (hn : n < 18446744073709551616) (w : World) : Ret Tryz.prog 218 #[.int .u64 n] w (str (putN n)) := by
  refine c218 ?_
  unfold s218
  refine n262 ((oct_need n hn w).use fun w1 h1 => ?_)
  have hl8 := be_len_le hn
  generalize hk : (be n).length = m at hl8 ⊢
  (first | refine SV_p (by first | exact True.intro | omega | (simp only [List.length_append, List.length_cons, List.length_nil, List.length_replicate, List.length_map]; omega)) ?_ | refine HV_p (by first | exact True.intro | omega | (simp only [List.length_append, List.length_cons, List.length_nil, List.length_replicate, List.length_map]; omega)) ?_)
  have e1 : (1 : Int) + (m : Int) = ((m + 1 : Nat) : Int) := by omega
  rw [e1]
  refine SV_make1 (by omega) (by omega) fun g w2 hg b2 h2 => ?_
  refine SV_pu pu_n8 ?_
  (first | refine SV_p (by first | exact True.intro | omega | (simp only [List.length_append, List.length_cons, List.length_nil, List.length_replicate, List.length_map]; omega)) ?_ | refine HV_p (by first | exact True.intro | omega | (simp only [List.length_append, List.length_cons, List.length_nil, List.length_replicate, List.length_map]; omega)) ?_)
  refine SU_store b2 (by simp) rfl fun w3 b3 h3 => ?_
  have z1 := h1.size
  have hpl : ((putN n).map by_).length = m + 1 := by simp [putN, hk]
  -- from the end: the first place, the zeros, the last i octets
  refine LP_intro (fun us w' => ∃ i : Nat, us = [.int .i64 i] ∧ i ≤ m ∧ Blk w' g 5 (by_ (UInt8.ofNat m) :: (List.replicate (m - i) (Value.int .u8 0) ++ ((be n).map by_).drop (m - i))) ∧ Ch (· = g) w2 w') (fun us _ => match us with | [.int _ t] => (m - t).toNat | _ => 0)
    ⟨0, rfl, by omega, by
      have : ((be n).map by_).drop (m - 0) = [] := List.drop_eq_nil_of_le (by simp [hk])
      rw [this, List.append_nil]
      exact b3, h3⟩ ?_
  rintro us hus ζ w4 ⟨i, rfl, hi, b4, h4⟩
  unfold s218_l1
  simp only [List.getD_cons_zero, List.getD_cons_succ]
  (first | refine SV_p (by first | exact True.intro | omega | (simp only [List.length_append, List.length_cons, List.length_nil, List.length_replicate, List.length_map]; omega)) ?_ | refine HV_p (by first | exact True.intro | omega | (simp only [List.length_append, List.length_cons, List.length_nil, List.length_replicate, List.length_map]; omega)) ?_)
  refine CN_split (fun hlt => ?_) (fun hge => ?_)
  · (first | refine SV_p (by first | exact True.intro | omega | (simp only [List.length_append, List.length_cons, List.length_nil, List.length_replicate, List.length_map]; omega)) ?_ | refine HV_p (by first | exact True.intro | omega | (simp only [List.length_append, List.length_cons, List.length_nil, List.length_replicate, List.length_map]; omega)) ?_)
    (first | refine SV_p (by first | exact True.intro | omega | (simp only [List.length_append, List.length_cons, List.length_nil, List.length_replicate, List.length_map]; omega)) ?_ | refine HV_p (by first | exact True.intro | omega | (simp only [List.length_append, List.length_cons, List.length_nil, List.length_replicate, List.length_map]; omega)) ?_)
    refine SV_pu (pu_w64shr (by omega) (by omega)) ?_
    refine SV_pu pu_n8 ?_
    (first | refine SV_p (by first | exact True.intro | omega | (simp only [List.length_append, List.length_cons, List.length_nil, List.length_replicate, List.length_map]; omega)) ?_ | refine HV_p (by first | exact True.intro | omega | (simp only [List.length_append, List.length_cons, List.length_nil, List.length_replicate, List.length_map]; omega)) ?_)
    have e2 : ((m : Int) - (i : Int)).toNat = (m - (i + 1)) + 1 := by omega
    have e3 : ((8 : Int) * (i : Int)).toNat = 8 * i := by omega
    rw [e2, e3]
    have hbl : ((be n).map by_).length = m := by simp [hk]
    refine SU_store b4 (by simp [hk]; omega) rfl fun w5 b5 h5 => ?_
    (first | refine SV_p (by first | exact True.intro | omega | (simp only [List.length_append, List.length_cons, List.length_nil, List.length_replicate, List.length_map]; omega)) ?_ | refine HV_p (by first | exact True.intro | omega | (simp only [List.length_append, List.length_cons, List.length_nil, List.length_replicate, List.length_map]; omega)) ?_)
    refine ⟨⟨i + 1, rfl, by omega, ?_, h4.trans h5⟩, ?_⟩
    · have hat : ((be n).map by_)[m - (i + 1)]? = some (by_ (UInt8.ofNat (n / 2 ^ (8 * i)))) := by
        rw [List.getElem?_map, show m - (i + 1) = (be n).length - 1 - i by omega, be_at (by omega)]; rfl
      obtain ⟨hlt2, hge2⟩ := List.getElem?_eq_some_iff.1 hat
      have hd : ((be n).map by_).drop (m - (i + 1)) = by_ (UInt8.ofNat (n / 2 ^ (8 * i))) :: ((be n).map by_).drop (m - i) := by
        rw [List.drop_eq_getElem_cons hlt2, hge2, show m - (i + 1) + 1 = m - i by omega]
      have hset : (by_ (UInt8.ofNat m) :: (List.replicate (m - i) (Value.int .u8 0) ++ ((be n).map by_).drop (m - i))).set (m - (i + 1) + 1) (by_ (UInt8.ofNat (n / 2 ^ (8 * i)))) =
          by_ (UInt8.ofNat m) :: (List.replicate (m - (i + 1)) (Value.int .u8 0) ++ ((be n).map by_).drop (m - (i + 1))) := by
        rw [hd, List.set_cons_succ, show m - i = (m - (i + 1)) + 1 by omega, List.replicate_succ', List.append_assoc, List.set_append_right _ _ (by simp)]
        simp
      rw [hset] at b5
      exact b5
    · show ((m : Int) - ((i : Int) + 1)).toNat < m - (i + 1) + 1
      omega
  · have : i = m := by omega
    subst this
    have e5 : (by_ (UInt8.ofNat i) :: (List.replicate (i - i) (Value.int .u8 0) ++ ((be n).map by_).drop (i - i))) = (putN n).map by_ := by
      rw [Nat.sub_self]
      simp [putN, hk]
    rw [e5] at b4
    refine SV_bstr (l := putN n) (Rd.of_blk b4 (by rw [hpl]; omega) (by unfold maxLen; omega)) ?_
    exact ⟨rfl, (h1.trans (Ch.own (h2) h4 hg))⟩

theorem oct_text (l : List UInt8) (hl : l.length ≤ 4611686018427387904) (w : World) : Ret Tryz.prog 219 #[str l] w (str (textN l)) := by
  refine c219 ?_
  unfold s219
  (first | refine SV_p (by first | exact True.intro | omega | (simp only [List.length_append, List.length_cons, List.length_nil, List.length_replicate, List.length_map]; omega)) ?_ | refine HV_p (by first | exact True.intro | omega | (simp only [List.length_append, List.length_cons, List.length_nil, List.length_replicate, List.length_map]; omega)) ?_)
  refine SV_pu (w64_conv (by omega) (by omega)) ?_
  refine n218 ((oct_put l.length (by omega) w).use fun w1 h1 => ?_)
  have := putN_len (n := l.length) (by omega)
  (first | refine SV_p (by first | exact True.intro | omega | (simp only [List.length_append, List.length_cons, List.length_nil, List.length_replicate, List.length_map]; omega)) ?_ | refine HV_p (by first | exact True.intro | omega | (simp only [List.length_append, List.length_cons, List.length_nil, List.length_replicate, List.length_map]; omega)) ?_)
  exact ⟨rfl, h1⟩
end Go.Proofs.YtkdghnbogkbedaaGreatDoor
