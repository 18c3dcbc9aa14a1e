/-
  The package sha: the hash of texts.
-/
import Derived.Test.YtkdghnbogkbedaaGreatDoorSha5
namespace Go.Proofs.YtkdghnbogkbedaaGreatDoor
open Go Go.Sh Go.RowKit
set_option maxRecDepth 100000
set_option linter.unusedSimpArgs false
set_option linter.unusedVariables false

theorem sha_bytes (s : Sum) (w : World) : Ret Tryz.prog 163 #[s.v] w (str s.l) := by
  refine c163 ?_
  unfold s163
  refine SV_box (vs := s.cells) rfl fun g1 w1 hg1 b1 h1 => ?_
  (first | refine SV_p (by first | exact True.intro | omega | (simp only [List.length_append, List.length_cons, List.length_nil, List.length_replicate, List.length_map]; omega)) ?_ | refine HV_p (by first | exact True.intro | omega | (simp only [List.length_append, List.length_cons, List.length_nil, List.length_replicate, List.length_map]; omega)) ?_)
  refine SV_bstr (Rd.of_blk b1 s.len (by decide)) ?_
  exact ⟨rfl, h1⟩

theorem sha_copy {g : Nat} {m : List UInt8} {w : World} (h : HashAt w g 282 m) :
    Calls Tryz.prog 291 #[.pointer (some ⟨g, 0, none⟩)] w (retP fun v w' => ∃ g', v = .pointer (some ⟨g', 0, none⟩) ∧ w.heap.size ≤ g' ∧ HashAt w' g' 282 m ∧ Ch No w w') := by
  obtain ⟨h0, b0, hi⟩ := h
  refine c291 ?_
  unfold s291
  (first | refine SV_p (by first | exact True.intro | omega | (simp only [List.length_append, List.length_cons, List.length_nil, List.length_replicate, List.length_map]; omega)) ?_ | refine HV_p (by first | exact True.intro | omega | (simp only [List.length_append, List.length_cons, List.length_nil, List.length_replicate, List.length_map]; omega)) ?_)
  refine CN_ff ?_
  (first | refine SV_p (by first | exact True.intro | omega | (simp only [List.length_append, List.length_cons, List.length_nil, List.length_replicate, List.length_map]; omega)) ?_ | refine HV_p (by first | exact True.intro | omega | (simp only [List.length_append, List.length_cons, List.length_nil, List.length_replicate, List.length_map]; omega)) ?_)
  refine SV_loadB b0 h0.len ?_
  refine SV_alloc fun g1 w1 hg1 b1 h1 => ?_
  refine SU_storeB b1 h0.len rfl (.cons rfl (.append (wv_ones _) (.cons rfl (.cons rfl .nil)))) fun w2 b2 h2 => ?_
  exact ⟨g1, rfl, hg1, ⟨h0, b2, hi⟩, h1.own h2 hg1⟩

theorem len_flat (l : List (List UInt8)) (i : Nat) : (l.take i).flatten.length ≤ l.flatten.length := by
  have : l.flatten = (l.take i).flatten ++ (l.drop i).flatten := by rw [← List.flatten_append, List.take_append_drop]
  rw [this, List.length_append]; omega
theorem flat_succ {l : List (List UInt8)} {i : Nat} (h : i < l.length) : (l.take (i + 1)).flatten = (l.take i).flatten ++ l[i] := by
  rw [List.take_succ_eq_append_getElem h]
  simp only [List.flatten_append, List.flatten_cons, List.flatten_nil, List.append_nil]

theorem sha_of_ {T n : Nat} {v : Value} {parts : List (List UInt8)} {w : World} (hk : KeysAt w) (h1s : 1 < w.heap.size) (hr : Rd w T 1 v n (parts.map str)) (hb : parts.flatten.length ≤ 4611686018427387904) : Ret Tryz.prog 151 #[v] w (sha parts.flatten).v := by
  have hn : parts.length = n := by have := hr.len; simpa using this
  obtain ⟨A, c, rfl, _⟩ := hr.form
  refine c151 ?_
  unfold s151
  refine SV_alloc fun g1 w1 hg1 b1 h1 => ?_
  refine n231 (Calls.ret_mono (sha_new w1) ?_)
  rintro _ w2 ⟨g, rfl, hg, hat, h2⟩
  have s1 := h1.size
  have n1 : g ≠ g1 := by have := b1.lt; omega
  (first | refine SV_p (by first | exact True.intro | omega | (simp only [List.length_append, List.length_cons, List.length_nil, List.length_replicate, List.length_map]; omega)) ?_ | refine HV_p (by first | exact True.intro | omega | (simp only [List.length_append, List.length_cons, List.length_nil, List.length_replicate, List.length_map]; omega)) ?_)
  refine LP_intro (fun us w' => ∃ i : Nat, us = [.int .i64 i] ∧ i ≤ n ∧ HashAt w' g 282 (parts.take i).flatten ∧ Blk w' g1 29 Sum.zero.cells ∧ Ch No w w') (fun us _ => match us with | [.int _ t] => (n - t).toNat | _ => 0)
    ⟨0, rfl, by omega, hat, b1.no h2, h1.trans h2⟩ ?_
  rintro us hus ζ w3 ⟨i, rfl, hi, hat, b1, h3⟩
  unfold s151_l1
  simp only [List.getD_cons_zero, List.getD_cons_succ]
  have hmax := hr.2.1
  unfold maxLen at hmax
  have hki := hk.no h3
  have hlf := len_flat parts i
  (first | refine SV_p (by first | exact True.intro | omega | (simp only [List.length_append, List.length_cons, List.length_nil, List.length_replicate, List.length_map]; omega)) ?_ | refine HV_p (by first | exact True.intro | omega | (simp only [List.length_append, List.length_cons, List.length_nil, List.length_replicate, List.length_map]; omega)) ?_)
  refine CN_split (fun hlt => ?_) (fun hge => ?_)
  · have hip : i < parts.length := by omega
    refine SV_idx (T := T) (hr.no h3) (by omega) (by omega) fun p hp => ?_
    have hp' : Pt w3 p [str parts[i]] := by
      have : (((parts.map str).drop ((i : Int).toNat * 1)).take 1) = [str parts[i]] := by
        rw [Int.toNat_natCast, Nat.mul_one, List.drop_eq_getElem_cons (by simpa using hip)]; simp
      rw [← this]; exact hp
    refine SV_ptr1 hp' ?_
    have hfl : (parts.take i).flatten.length + parts[i].length ≤ 4611686018427387904 := by
      have := len_flat parts (i + 1)
      rw [flat_succ hip, List.length_append] at this
      omega
    refine n232 (Calls.ret_mono (sha_write hki (by omega) hat hfl) ?_)
    rintro _ w4 ⟨hat4, h4⟩
    (first | refine SV_p (by first | exact True.intro | omega | (simp only [List.length_append, List.length_cons, List.length_nil, List.length_replicate, List.length_map]; omega)) ?_ | refine HV_p (by first | exact True.intro | omega | (simp only [List.length_append, List.length_cons, List.length_nil, List.length_replicate, List.length_map]; omega)) ?_)
    rw [← flat_succ hip] at hat4
    refine ⟨⟨i + 1, rfl, by omega, hat4, b1.ch h4 n1.symm, h3.own h4 (by omega)⟩, ?_⟩
    show ((n : Int) - ((i : Int) + 1)).toNat < ((n : Int) - (i : Int)).toNat
    omega
  · have : i = parts.length := by omega
    subst this
    rw [List.take_length] at hat
    refine n233 ((sha_sum hki hat hb).use fun w4 h4 => ?_)
    refine SU_storeB (b1.no h4) (Sum.len _) Sum.zero.len (Sum.ones _) fun w5 b5 h5 => ?_
    refine CR_N b5 (Sum.len _) ?_
    exact ⟨rfl, (h3.trans h4).own h5 hg1⟩
end Go.Proofs.YtkdghnbogkbedaaGreatDoor
