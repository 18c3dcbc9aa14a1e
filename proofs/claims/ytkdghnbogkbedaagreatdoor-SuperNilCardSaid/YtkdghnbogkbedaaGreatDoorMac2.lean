/-
  HMAC: the package mac.
-/
import Derived.Test.YtkdghnbogkbedaaGreatDoorMac
namespace Go.Sh
open Go Go.RowKit

/-- A maker of the key k. -/
def MacAt (w : World) (g : Nat) (tm th : TypeId) (k : List UInt8) : Prop :=
  ∃ gi go, Blk w g tm [.pointer (some ⟨gi, 0, none⟩), .pointer (some ⟨go, 0, none⟩)] ∧ HashAt w gi th (xorAll 54 (key64 k)) ∧ HashAt w go th (xorAll 92 (key64 k))
theorem MacAt.no {w w' : World} {g tm th : Nat} {k : List UInt8} (h : MacAt w g tm th k) (hc : Ch No w w') : MacAt w' g tm th k := by
  obtain ⟨gi, go, h1, h2, h3⟩ := h
  exact ⟨gi, go, h1.no hc, h2.no hc, h3.no hc⟩
instance {P : Program} {f : FuncId} {x y : Array Value} : PuC P (Instr.makeFunc (.func f) x y) (.func (.func f) x y) True := ⟨fun _ => pu_fn⟩
theorem str_singleton_flat (l : List UInt8) : [l].flatten = l := by simp
/-- []string{s} -/
theorem SV_str1 {P : Program} {ty e b : Nat} [hT : SlT P ty e 1] [hI : Inf P e 1 b] {l : List UInt8} {w : World} {k : Value → World → Prop} (hk : ∀ v w', Ch No w w' → Rd w' e 1 v 1 [str l] → k v w') : SV P (Instr.buildSlice ty 1 #[(0, str l)]) w k := by
  refine SV_lits (e := e) (sz := 1) [str l] [[str l]] rfl (fun i v hv => ?_) rfl rfl (by simp) fun g3 w3 hg3 b3 h3 ho => ?_
  · match i, hv with
    | 0, hv => simp only [List.getElem?_cons_zero, Option.some.injEq] at hv; subst hv; exact ⟨[str l], rfl, rfl, rfl⟩
    | i + 1, hv => simp at hv
  exact hk _ _ h3 (Rd.of_own ho)
end Go.Sh
namespace Go.Proofs.YtkdghnbogkbedaaGreatDoor
open Go Go.Sh Go.RowKit
set_option maxRecDepth 100000
set_option maxHeartbeats 1000000
set_option linter.unusedSimpArgs false
set_option linter.unusedVariables false

theorem mac_pad (k : List UInt8) (hk : k.length ≤ 1000000000) (w : World) (hK : KeysAt w) (h1s : 1 < w.heap.size) : Ret Tryz.prog 292 #[str k] w (str (key64 k)) := by
  refine c292 ?_
  unfold s292
  have fin : ∀ (p : List UInt8) (w1 : World), p.length ≤ 64 → Ch No w w1 → p ++ List.replicate (64 - p.length) 0 = key64 k → s292_j1 Tryz.prog (fun v' w' => v' = str (key64 k) ∧ Ch No w w') (str p) w1 := by
    intro p w1 hp hc he
    unfold s292_j1
    (first | refine SV_p (by first | exact True.intro | omega | (simp only [List.length_append, List.length_cons, List.length_nil, List.length_replicate, List.length_map]; omega)) ?_ | refine HV_p (by first | exact True.intro | omega | (simp only [List.length_append, List.length_cons, List.length_nil, List.length_replicate, List.length_map]; omega)) ?_)
    (first | refine SV_p (by first | exact True.intro | omega | (simp only [List.length_append, List.length_cons, List.length_nil, List.length_replicate, List.length_map]; omega)) ?_ | refine HV_p (by first | exact True.intro | omega | (simp only [List.length_append, List.length_cons, List.length_nil, List.length_replicate, List.length_map]; omega)) ?_)
    have e : (64 : Int) - (p.length : Int) = ((64 - p.length : Nat) : Int) := by omega
    rw [e]
    refine n242 ((str_repeat0 _ _ (by omega)).use fun w2 h2 => ?_)
    (first | refine SV_p (by first | exact True.intro | omega | (simp only [List.length_append, List.length_cons, List.length_nil, List.length_replicate, List.length_map]; omega)) ?_ | refine HV_p (by first | exact True.intro | omega | (simp only [List.length_append, List.length_cons, List.length_nil, List.length_replicate, List.length_map]; omega)) ?_)
    exact ⟨by rw [he], hc.trans h2⟩
  refine JP_in ?_
  (first | refine SV_p (by first | exact True.intro | omega | (simp only [List.length_append, List.length_cons, List.length_nil, List.length_replicate, List.length_map]; omega)) ?_ | refine HV_p (by first | exact True.intro | omega | (simp only [List.length_append, List.length_cons, List.length_nil, List.length_replicate, List.length_map]; omega)) ?_)
  (first | refine SV_p (by first | exact True.intro | omega | (simp only [List.length_append, List.length_cons, List.length_nil, List.length_replicate, List.length_map]; omega)) ?_ | refine HV_p (by first | exact True.intro | omega | (simp only [List.length_append, List.length_cons, List.length_nil, List.length_replicate, List.length_map]; omega)) ?_)
  refine CN_split (fun hgt => ?_) (fun hle => ?_)
  · refine SV_str1 fun v w0 h0 hr => ?_
    have z0 := h0.size
    refine n151 ((sha_of_ (parts := [k]) (hK.no h0) (by omega) hr (by simp; omega)).use fun w1 h1 => ?_)
    rw [str_singleton_flat]
    refine n163 ((sha_bytes _ w1).use fun w2 h2 => ?_)
    refine ⟨rfl, fun _ => ?_⟩
    exact fin _ _ (by rw [(sha k).h]; omega) (h0.trans (h1.trans h2)) (by unfold key64; rw [if_pos (by omega)])
  · exact ⟨rfl, fun _ => fin _ _ (by omega) (Ch.refl _) (by unfold key64; rw [if_neg (by omega)])⟩

theorem mac_begun1 (l : List UInt8) (c : UInt8) (gp : Nat) (hl : l.length ≤ 1000000000) (w : World) (hK : KeysAt w) (h1s : 1 < w.heap.size) (hp : Blk w gp 9 [str l]) :
    Calls Tryz.prog 293 #[by_ c, .pointer (some ⟨gp, 0, none⟩)] w (retP fun v w' => ∃ g, v = .pointer (some ⟨g, 0, none⟩) ∧ w.heap.size ≤ g ∧ HashAt w' g 282 (xorAll c l) ∧ Ch No w w') := by
  refine c293 ?_
  unfold s293
  refine SV_load hp rfl ?_
  refine SV_sbytes fun g cp z w1 hg hcp b1 h1 => ?_
  (first | refine SV_p (by first | exact True.intro | omega | (simp only [List.length_append, List.length_cons, List.length_nil, List.length_replicate, List.length_map]; omega)) ?_ | refine HV_p (by first | exact True.intro | omega | (simp only [List.length_append, List.length_cons, List.length_nil, List.length_replicate, List.length_map]; omega)) ?_)
  have hxl : ((xorAll c l).map by_).length = l.length := by simp
  have hll : (l.map by_).length = l.length := by simp
  have z1 := h1.size
  refine LP_intro (fun us w' => ∃ i : Nat, us = [.int .i64 i] ∧ i ≤ l.length ∧ MBlk w' g 5 ((((xorAll c l).map by_).take i ++ (l.map by_).drop i) ++ z) ∧ Ch (· = g) w1 w') (fun us _ => match us with | [.int _ t] => (l.length - t).toNat | _ => 0)
    ⟨0, rfl, by omega, by rw [mix_zero]; exact b1, Ch.refl _⟩ ?_
  rintro us hus ζ w2 ⟨i, rfl, hi, b2, h2⟩
  unfold s293_l1
  simp only [List.getD_cons_zero, List.getD_cons_succ]
  have z2 := h2.size
  (first | refine SV_p (by first | exact True.intro | omega | (simp only [List.length_append, List.length_cons, List.length_nil, List.length_replicate, List.length_map]; omega)) ?_ | refine HV_p (by first | exact True.intro | omega | (simp only [List.length_append, List.length_cons, List.length_nil, List.length_replicate, List.length_map]; omega)) ?_)
  refine CN_split (fun hlt => ?_) (fun hge => ?_)
  · have hi' : i < l.length := by omega
    have hml := mix_len hll hxl hi
    (first | refine SV_p (by first | exact True.intro | omega | (simp only [List.length_append, List.length_cons, List.length_nil, List.length_replicate, List.length_map]; omega)) ?_ | refine HV_p (by first | exact True.intro | omega | (simp only [List.length_append, List.length_cons, List.length_nil, List.length_replicate, List.length_map]; omega)) ?_)
    have hat : ((((xorAll c l).map by_).take i ++ (l.map by_).drop i) ++ z)[i]? = some (by_ (l.getD i 0)) := by
      rw [List.getElem?_append_left (by omega), List.getElem?_append_right (by simp; omega)]
      simp [List.getD, hi', Nat.min_eq_left hi]
    refine SV_loadM b2 hat ?_
    (first | refine SV_p (by first | exact True.intro | omega | (simp only [List.length_append, List.length_cons, List.length_nil, List.length_replicate, List.length_map]; omega)) ?_ | refine HV_p (by first | exact True.intro | omega | (simp only [List.length_append, List.length_cons, List.length_nil, List.length_replicate, List.length_map]; omega)) ?_)
    (first | refine SV_p (by first | exact True.intro | omega | (simp only [List.length_append, List.length_cons, List.length_nil, List.length_replicate, List.length_map]; omega)) ?_ | refine HV_p (by first | exact True.intro | omega | (simp only [List.length_append, List.length_cons, List.length_nil, List.length_replicate, List.length_map]; omega)) ?_)
    refine SU_storeM b2 (by rw [List.length_append]; omega) rfl fun w3 b3 h3 => ?_
    (first | refine SV_p (by first | exact True.intro | omega | (simp only [List.length_append, List.length_cons, List.length_nil, List.length_replicate, List.length_map]; omega)) ?_ | refine HV_p (by first | exact True.intro | omega | (simp only [List.length_append, List.length_cons, List.length_nil, List.length_replicate, List.length_map]; omega)) ?_)
    rw [Int.toNat_natCast, List.set_append_left _ _ (by omega), set_mix (by rw [hll, hxl]) (by simp [xorAll, List.getD, hi'])] at b3
    refine ⟨⟨i + 1, rfl, by omega, b3, h2.trans h3⟩, ?_⟩
    show ((l.length : Int) - ((i : Int) + 1)).toNat < ((l.length : Int) - (i : Int)).toNat
    omega
  · have : i = l.length := by omega
    subst this
    rw [mix_all hll hxl] at b2
    have hc2 : Ch No w w2 := h1.own h2 hg
    refine n231 (Calls.ret_mono (sha_new w2) ?_)
    rintro _ w3 ⟨g3, rfl, hg3, hat, h3⟩
    have hne : g ≠ g3 := by
      obtain ⟨fr, hb, _⟩ := b2
      rcases Nat.lt_or_ge g w2.heap.size with hlt | hge
      · omega
      · rw [Array.getElem?_eq_none hge] at hb; cases hb
    refine SV_bstr (l := xorAll c l) (Rd.of_mblk (b2.ch h3 (fun h => h)) hxl hcp (by unfold maxLen; omega)) ?_
    refine n232 (Calls.ret_mono (sha_write (hK.no (hc2.trans h3)) (by omega) hat (by simp; omega)) ?_)
    rintro _ w4 ⟨hat4, h4⟩
    exact ⟨g3, rfl, by omega, hat4, (hc2.trans h3).own h4 (by omega)⟩

theorem mac_begun (k : List UInt8) (hk : k.length ≤ 1000000000) (w : World) (hK : KeysAt w) (h1s : 1 < w.heap.size) :
    Calls Tryz.prog 269 #[str k] w (retP fun v w' => ∃ gi go, v = .tuple #[.pointer (some ⟨gi, 0, none⟩), .pointer (some ⟨go, 0, none⟩)] ∧ w.heap.size ≤ gi ∧ w.heap.size ≤ go ∧ HashAt w' gi 282 (xorAll 54 (key64 k)) ∧ HashAt w' go 282 (xorAll 92 (key64 k)) ∧ Ch No w w') := by
  refine c269 ?_
  unfold s269
  have h64 := key64_len k
  refine n292 ((mac_pad k hk w hK h1s).use fun w1 h1 => ?_)
  refine SV_alloc fun g2 w2 hg2 b2 h2 => ?_
  refine SU_store b2 (by decide) rfl fun w3 b3 h3 => ?_
  (first | refine SV_p (by first | exact True.intro | omega | (simp only [List.length_append, List.length_cons, List.length_nil, List.length_replicate, List.length_map]; omega)) ?_ | refine HV_p (by first | exact True.intro | omega | (simp only [List.length_append, List.length_cons, List.length_nil, List.length_replicate, List.length_map]; omega)) ?_)
  have z1 := h1.size
  have z2 := h2.size
  have z3 := h3.size
  have hc3 : Ch No w w3 := (h1.trans h2).own h3 (by omega)
  have e54 : Value.int .u8 54 = by_ 54 := rfl
  have e92 : Value.int .u8 92 = by_ 92 := rfl
  rw [e54, e92]
  refine SN_fn (n293 (Calls.ret_mono (mac_begun1 (key64 k) 54 g2 (by omega) w3 (hK.no hc3) (by omega) b3) ?_))
  rintro _ w4 ⟨gi, rfl, hgi, hi, h4⟩
  have z4 := h4.size
  refine SN_fn (n293 (Calls.ret_mono (mac_begun1 (key64 k) 92 g2 (by omega) w4 (hK.no (hc3.trans h4)) (by omega) (b3.no h4)) ?_))
  rintro _ w5 ⟨go, rfl, hgo, ho, h5⟩
  exact ⟨gi, go, rfl, by omega, by omega, hi.no h5, ho, hc3.trans (h4.trans h5)⟩

theorem mac_new (k : List UInt8) (hk : k.length ≤ 1000000000) (w : World) (hK : KeysAt w) (h1s : 1 < w.heap.size) :
    Calls Tryz.prog 237 #[str k] w (retP fun v w' => ∃ g, v = .pointer (some ⟨g, 0, none⟩) ∧ w.heap.size ≤ g ∧ MacAt w' g 289 282 k ∧ Ch No w w') := by
  refine c237 ?_
  unfold s237
  refine n269 (Calls.ret_mono (mac_begun k hk w hK h1s) ?_)
  rintro _ w1 ⟨gi, go, rfl, hgi, hgo, hi, ho, h1⟩
  (first | refine SV_p (by first | exact True.intro | omega | (simp only [List.length_append, List.length_cons, List.length_nil, List.length_replicate, List.length_map]; omega)) ?_ | refine HV_p (by first | exact True.intro | omega | (simp only [List.length_append, List.length_cons, List.length_nil, List.length_replicate, List.length_map]; omega)) ?_)
  (first | refine SV_p (by first | exact True.intro | omega | (simp only [List.length_append, List.length_cons, List.length_nil, List.length_replicate, List.length_map]; omega)) ?_ | refine HV_p (by first | exact True.intro | omega | (simp only [List.length_append, List.length_cons, List.length_nil, List.length_replicate, List.length_map]; omega)) ?_)
  refine SV_pu (pu_build (FillOk.cons rfl rfl rfl (FillOk.cons rfl rfl rfl (FillOk.nil _)))) ?_
  refine SV_box (vs := [.pointer (some ⟨gi, 0, none⟩), .pointer (some ⟨go, 0, none⟩)]) rfl fun g w2 hg b2 h2 => ?_
  have z1 := h1.size
  exact ⟨g, rfl, by omega, ⟨gi, go, b2, hi.no h2, ho.no h2⟩, h1.trans h2⟩

theorem mac_sum {T n g : Nat} {v : Value} {k : List UInt8} {parts : List (List UInt8)} {w : World} (hK : KeysAt w) (h1s : 1 < w.heap.size) (hm : MacAt w g 289 282 k) (hr : Rd w T 1 v n (parts.map str)) (hb : parts.flatten.length ≤ 4611686018000000000) :
    Ret Tryz.prog 268 #[.pointer (some ⟨g, 0, none⟩), v] w (hmac k parts.flatten).v := by
  have hn : parts.length = n := by have := hr.len; simpa using this
  obtain ⟨A, c, rfl, _⟩ := hr.form
  refine c268 ?_
  unfold s268
  refine SV_alloc fun g1 w1 hg1 b1 h1 => ?_
  obtain ⟨gi, go, bm, hi, ho⟩ := hm.no h1
  (first | refine SV_p (by first | exact True.intro | omega | (simp only [List.length_append, List.length_cons, List.length_nil, List.length_replicate, List.length_map]; omega)) ?_ | refine HV_p (by first | exact True.intro | omega | (simp only [List.length_append, List.length_cons, List.length_nil, List.length_replicate, List.length_map]; omega)) ?_)
  refine CN_ff ?_
  refine HR_kp No ?_
  (first | refine SV_p (by first | exact True.intro | omega | (simp only [List.length_append, List.length_cons, List.length_nil, List.length_replicate, List.length_map]; omega)) ?_ | refine HV_p (by first | exact True.intro | omega | (simp only [List.length_append, List.length_cons, List.length_nil, List.length_replicate, List.length_map]; omega)) ?_)
  (first | refine SV_p (by first | exact True.intro | omega | (simp only [List.length_append, List.length_cons, List.length_nil, List.length_replicate, List.length_map]; omega)) ?_ | refine HV_p (by first | exact True.intro | omega | (simp only [List.length_append, List.length_cons, List.length_nil, List.length_replicate, List.length_map]; omega)) ?_)
  refine HV_load bm (fun h => h) (v := .pointer (some ⟨gi, 0, none⟩)) rfl ?_
  (first | refine SV_p (by first | exact True.intro | omega | (simp only [List.length_append, List.length_cons, List.length_nil, List.length_replicate, List.length_map]; omega)) ?_ | refine HV_p (by first | exact True.intro | omega | (simp only [List.length_append, List.length_cons, List.length_nil, List.length_replicate, List.length_map]; omega)) ?_)
  (first | refine SV_p (by first | exact True.intro | omega | (simp only [List.length_append, List.length_cons, List.length_nil, List.length_replicate, List.length_map]; omega)) ?_ | refine HV_p (by first | exact True.intro | omega | (simp only [List.length_append, List.length_cons, List.length_nil, List.length_replicate, List.length_map]; omega)) ?_)
  refine HV_load bm (fun h => h) (v := .pointer (some ⟨go, 0, none⟩)) rfl ?_
  refine JP_in ?_
  (first | refine SV_p (by first | exact True.intro | omega | (simp only [List.length_append, List.length_cons, List.length_nil, List.length_replicate, List.length_map]; omega)) ?_ | refine HV_p (by first | exact True.intro | omega | (simp only [List.length_append, List.length_cons, List.length_nil, List.length_replicate, List.length_map]; omega)) ?_)
  refine CN_ff ?_
  refine ⟨rfl, fun ζ => ?_⟩
  unfold s268_j1
  simp only [List.getD_cons_zero, List.getD_cons_succ]
  have hd : Ch No w1 w1.drew := Ch.drew _
  have z1 := h1.size
  have hx := key64_len k
  have hx1 := xorAll_len 54 (key64 k)
  have hx2 := xorAll_len 92 (key64 k)
  refine n291 (Calls.ret_mono (sha_copy (hi.no hd)) ?_)
  rintro _ w2 ⟨g2, rfl, hg2, hat, h2⟩
  have hc2 : Ch No w w2 := h1.trans (hd.trans h2)
  have hg2' : w1.heap.size ≤ g2 := hg2
  have l1 := b1.lt
  have lo := ho.lt
  have z2 := h2.size
  have z2' : w1.heap.size ≤ w2.heap.size := z2
  (first | refine SV_p (by first | exact True.intro | omega | (simp only [List.length_append, List.length_cons, List.length_nil, List.length_replicate, List.length_map]; omega)) ?_ | refine HV_p (by first | exact True.intro | omega | (simp only [List.length_append, List.length_cons, List.length_nil, List.length_replicate, List.length_map]; omega)) ?_)
  refine LP_intro (fun us w' => ∃ i : Nat, us = [.int .i64 i] ∧ i ≤ n ∧ HashAt w' g2 282 (xorAll 54 (key64 k) ++ (parts.take i).flatten) ∧ Ch (· = g2) w2 w') (fun us _ => match us with | [.int _ t] => (n - t).toNat | _ => 0)
    ⟨0, rfl, by omega, by simpa using hat, Ch.refl _⟩ ?_
  rintro us hus ζ w3 ⟨i, rfl, hin, hat, h3⟩
  unfold s268_l1
  simp only [List.getD_cons_zero, List.getD_cons_succ]
  have hmax := hr.2.1
  unfold maxLen at hmax
  have hc3 : Ch No w w3 := hc2.own h3 (by omega)
  have hki := hK.no hc3
  (first | refine SV_p (by first | exact True.intro | omega | (simp only [List.length_append, List.length_cons, List.length_nil, List.length_replicate, List.length_map]; omega)) ?_ | refine HV_p (by first | exact True.intro | omega | (simp only [List.length_append, List.length_cons, List.length_nil, List.length_replicate, List.length_map]; omega)) ?_)
  refine CN_split (fun hlt => ?_) (fun hge => ?_)
  · have hip : i < parts.length := by omega
    refine SV_idx (T := T) (hr.no hc3) (by omega) (by omega) fun p hp => ?_
    have hp' : Pt w3 p [str parts[i]] := by
      have : (((parts.map str).drop ((i : Int).toNat * 1)).take 1) = [str parts[i]] := by
        rw [Int.toNat_natCast, Nat.mul_one, List.drop_eq_getElem_cons (by simpa using hip)]; simp
      rw [← this]; exact hp
    refine SV_ptr1 hp' ?_
    have hfl : (parts.take i).flatten.length + parts[i].length ≤ 4611686018000000000 := by
      have := len_flat parts (i + 1)
      rw [flat_succ hip, List.length_append] at this
      omega
    refine n232 (Calls.ret_mono (sha_write hki (by omega) hat (by rw [List.length_append]; omega)) ?_)
    rintro _ w4 ⟨hat4, h4⟩
    (first | refine SV_p (by first | exact True.intro | omega | (simp only [List.length_append, List.length_cons, List.length_nil, List.length_replicate, List.length_map]; omega)) ?_ | refine HV_p (by first | exact True.intro | omega | (simp only [List.length_append, List.length_cons, List.length_nil, List.length_replicate, List.length_map]; omega)) ?_)
    rw [List.append_assoc, ← flat_succ hip] at hat4
    refine ⟨⟨i + 1, rfl, by omega, hat4, h3.trans h4⟩, ?_⟩
    show ((n : Int) - ((i : Int) + 1)).toNat < ((n : Int) - (i : Int)).toNat
    omega
  · have : i = parts.length := by omega
    subst this
    rw [List.take_length] at hat
    have z3 := h3.size
    have ho3 := ((ho.no (hd.trans h2)).ch h3 (by omega))
    refine n291 (Calls.ret_mono (sha_copy ho3) ?_)
    rintro _ w4 ⟨g4, rfl, hg4, hat4, h4⟩
    have z4 := h4.size
    have hlt2 := hat.lt
    refine n233 ((sha_sum (hki.no h4) (hat.no h4) (by rw [List.length_append]; omega)).use fun w5 h5 => ?_)
    refine n163 ((sha_bytes _ w5).use fun w6 h6 => ?_)
    have hsl := (sha (xorAll 54 (key64 k) ++ parts.flatten)).h
    have h46 : Ch No w3 w6 := h4.trans (h5.trans h6)
    refine n232 (Calls.ret_mono (sha_write (hki.no h46) (by omega) ((hat4.no h5).no h6) (by omega)) ?_)
    rintro _ w7 ⟨hat7, h7⟩
    have hc7 : Ch No w w7 := (hc3.trans h46).own h7 (by omega)
    refine n233 ((sha_sum (hK.no hc7) hat7 (by rw [List.length_append]; omega)).use fun w8 h8 => ?_)
    have b1' : Blk w8 g1 29 Sum.zero.cells := (((((b1.no (hd.trans h2)).ch h3 (by omega)).no h46).ch h7 (by omega)).no h8)
    refine SU_storeB b1' (Sum.len _) Sum.zero.len (Sum.ones _) fun w9 b9 h9 => ?_
    refine CR_N b9 (Sum.len _) ?_
    exact ⟨rfl, (hc7.trans h8).own h9 (by omega)⟩

theorem mac_of {T n : Nat} {v : Value} {k : List UInt8} {parts : List (List UInt8)} {w : World} (hk : k.length ≤ 1000000000) (hK : KeysAt w) (h1s : 1 < w.heap.size) (hr : Rd w T 1 v n (parts.map str)) (hb : parts.flatten.length ≤ 4611686018000000000) :
    Ret Tryz.prog 235 #[str k, v] w (hmac k parts.flatten).v := by
  refine c235 ?_
  unfold s235
  refine SV_alloc fun g1 w1 hg1 b1 h1 => ?_
  have z1 := h1.size
  refine n237 (Calls.ret_mono (mac_new k hk w1 (hK.no h1) (by omega)) ?_)
  rintro _ w2 ⟨g, rfl, hg, hat, h2⟩
  have z2 := h2.size
  have hc2 := h1.trans h2
  refine n268 ((mac_sum (hK.no hc2) (by omega) hat (hr.no hc2) hb).use fun w3 h3 => ?_)
  refine SU_storeB ((b1.no h2).no h3) (Sum.len _) Sum.zero.len (Sum.ones _) fun w9 b9 h9 => ?_
  refine CR_N b9 (Sum.len _) ?_
  exact ⟨rfl, (hc2.trans h3).own h9 (by omega)⟩
end Go.Proofs.YtkdghnbogkbedaaGreatDoor
