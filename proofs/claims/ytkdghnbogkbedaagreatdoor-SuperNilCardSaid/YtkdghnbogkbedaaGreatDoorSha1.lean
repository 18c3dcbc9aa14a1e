/-
  The package sha's inner functions: rotation, a block's schedule, a step.
-/
import Derived.Test.YtkdghnbogkbedaaGreatDoorShaSpec
import Derived.Test.YtkdghnbogkbedaaGreatDoorXBits
import Derived.Test.YtkdghnbogkbedaaGreatDoorXSha
namespace Go.Sh
open Go Go.RowKit

/-- A call that hands back v and turns nothing that was there. -/
def Ret (P : Program) (f : FuncId) (args : Array Value) (w : World) (v : Value) : Prop := Calls P f args w (retP fun v' w' => v' = v ∧ Ch No w w')

theorem Ret.use {P : Program} {f : FuncId} {args : Array Value} {w : World} {v : Value} {k : Value → World → Prop} (h : Ret P f args w v) (hk : ∀ w', Ch No w w' → k v w') : Calls P f args w (retP k) :=
  Calls.ret_mono h fun v' w' ⟨hv, hw⟩ => by subst hv; exact hk w' hw

theorem LP_intro {n : Nat} {us0 : List Value} {w : World} {body : (List Value → World → Prop) → (Nat → Value) → List Value → World → Prop} (I : List Value → World → Prop) (μ : List Value → World → Nat) (h0 : I us0 w)
    (hr : ∀ us, us.length = n → ∀ ζ w', I us w' → body (fun us'' w'' => I us'' w'' ∧ μ us'' w'' < μ us w') ζ us w') : LP n us0 w body := by
  refine ⟨I, μ, h0, ?_⟩
  have : ∀ (m : Nat) (p : List Value → Prop), (∀ us, us.length = m → p us) → AllV m p := by
    intro m
    induction m with
    | zero => intro p h; exact h [] rfl
    | succ m ih => intro p h v; exact ih _ fun us hus => h (v :: us) (by simp [hus])
  exact this n _ fun us hus ζ w' hI => hr us hus ζ w' hI

theorem JP_in {n : Nat} {A : (List Value → World → Prop) → Prop} {B : (Nat → Value) → List Value → World → Prop} (h : A fun us w => us.length = n ∧ ∀ ζ, B ζ us w) : JP n A B := by
  refine ⟨_, h, ?_⟩
  have : ∀ (m : Nat) (p : List Value → Prop), (∀ us, us.length = m → p us) → AllV m p := by
    intro m
    induction m with
    | zero => intro p h; exact h [] rfl
    | succ m ih => intro p h v; exact ih _ fun us hus => h (v :: us) (by simp [hus])
  exact this n _ fun us _ ζ w' hI => hI.2 ζ
theorem JP_cut {n : Nat} {A : (List Value → World → Prop) → Prop} {B : (Nat → Value) → List Value → World → Prop} (J : List Value → World → Prop) (hA : A J) (hB : ∀ us, us.length = n → ∀ ζ w, J us w → B ζ us w) : JP n A B := by
  refine ⟨J, hA, ?_⟩
  have : ∀ (m : Nat) (p : List Value → Prop), (∀ us, us.length = m → p us) → AllV m p := by
    intro m
    induction m with
    | zero => intro p h; exact h [] rfl
    | succ m ih => intro p h v; exact ih _ fun us hus => h (v :: us) (by simp [hus])
  exact this n _ fun us hus ζ w hJ => hB us hus ζ w hJ

theorem w64_conv {P : Program} {s d : TypeId} [IsInt P s .i64] [IsInt P d .u64] {n : Int} (h0 : 0 ≤ n) (h1 : n ≤ 9223372036854775807) : Pu P (convert s d (.int .i64 n)) (.int .u64 n) := fun w => by
  rw [pu_conv w, IntKind.wrap_u64]; congr 2; omega

end Go.Sh
namespace Go.Proofs.YtkdghnbogkbedaaGreatDoor
open Go Go.Sh Go.RowKit
set_option maxRecDepth 100000

theorem rot_and : ∀ a ∈ List.range 32, a ≠ 0 → bits .and .u64 (IntKind.u64.wrap (-(a : Int))) 31 = 32 - (a : Int) := by decide +kernel

theorem rotl (x : UInt32) (a : Nat) (h0 : a ≠ 0) (h1 : a < 32) (w : World) : Ret Tryz.prog 313 #[w32 x, .int .i64 (-(a : Int))] w (w32 (rotr x a)) := by
  refine c313 ?_
  unfold s313
  have hb := rot_and a (List.mem_range.2 h1) h0
  refine SV_pu pu_conv ?_
  refine SV_pu (v := .int .u64 (32 - (a : Int))) (fun w => by rw [binOp_and, intBits_and, hb]; rfl) ?_
  refine SV_pu (pu_w32shl (by omega) (by omega)) ?_
  refine SV_pu (v := .int .u64 a) (fun w => by rw [pu_sub w, IntKind.wrap_u64]; congr 2; omega) ?_
  refine SV_pu (pu_w32shr (by omega) (by omega)) ?_
  refine SV_pu pu_w32or ?_
  have e1 : ((32 : Int) - (a : Int)).toNat = 32 - a := by omega
  refine ⟨?_, Ch.refl w⟩
  rw [e1, UInt32.or_comm]
  rfl

theorem sha_turn (x : UInt32) (a b c : Nat) (ha : a ≠ 0 ∧ a < 32) (hb : b ≠ 0 ∧ b < 32) (hc : c ≠ 0 ∧ c < 32) (w : World) :
    Ret Tryz.prog 306 #[w32 x, .int .i64 a, .int .i64 b, .int .i64 c] w (w32 (turn x a b c)) := by
  refine c306 ?_
  unfold s306
  refine SV_pu (pu_neg (by omega)) ?_
  refine n313 ((rotl x a ha.1 ha.2 w).use fun w1 h1 => ?_)
  refine SV_pu (pu_neg (by omega)) ?_
  refine n313 ((rotl x b hb.1 hb.2 w1).use fun w2 h2 => ?_)
  refine SV_pu pu_w32xor ?_
  refine SV_pu (pu_neg (by omega)) ?_
  refine n313 ((rotl x c hc.1 hc.2 w2).use fun w3 h3 => ?_)
  refine SV_pu pu_w32xor ?_
  exact ⟨rfl, h1.trans (h2.trans h3)⟩

theorem sha_mix (x : UInt32) (a b c : Nat) (ha : a ≠ 0 ∧ a < 32) (hb : b ≠ 0 ∧ b < 32) (hc : c < 32) (w : World) :
    Ret Tryz.prog 312 #[w32 x, .int .i64 a, .int .i64 b, .int .i64 c] w (w32 (mix x a b c)) := by
  refine c312 ?_
  unfold s312
  refine HR_kp No ?_
  refine HV_pu (pu_neg (by omega)) ?_
  refine n313 ((rotl x a ha.1 ha.2 _).use fun w1 h1 => ?_)
  have h1' : Ch No w w1 := (Ch.drew w).trans h1
  (first | refine RS_same (h1') ?_ | refine ⟨h1', ?_⟩)
  refine HV_pu (pu_neg (by omega)) ?_
  refine n313 ((rotl x b hb.1 hb.2 _).use fun w2 h2 => ?_)
  (first | refine RS_same (h1'.trans h2) ?_ | refine ⟨h1'.trans h2, ?_⟩)
  refine HV_pu pu_w32xor ?_
  refine HV_pu (pu_w32shr (by omega) (by omega)) ?_
  refine HV_pu pu_w32xor ?_
  exact ⟨rfl, h1'.trans h2⟩
end Go.Proofs.YtkdghnbogkbedaaGreatDoor
