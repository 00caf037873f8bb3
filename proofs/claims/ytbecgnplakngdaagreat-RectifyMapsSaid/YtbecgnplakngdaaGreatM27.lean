/- Part 27 of a proof: rules, plain facts, and functions walked. -/
import Derived.Test.YtbecgnplakngdaaGreatM22
set_option linter.unusedVariables false
set_option linter.unusedSimpArgs false
namespace Go.Fid
theorem hH {q : Rat} (h : ¬ vJ q ≤ 0) : q ≠ 0 := fun e => h (by rw [show vJ q = 0 from mH.2 e]; decide)
theorem sgn_pos {q : Rat} : ¬ vJ q ≤ 0 ↔ 0 < q := by
  unfold vJ; rw [signI_le]
  have h := Rat.num_nonneg (q := -q)
  rw [Rat.neg_num] at h
  refine ⟨fun h1 => Rat.not_le.1 (fun h2 => h1 ?_), fun h1 h2 => ?_⟩
  · have h3 := h.2 (by grind); omega
  · have h3 := h.1 (by omega); grind
theorem yE {a b c : Rat} (h : xM a b c = false) : jD a b c a b c ≠ 0 := fun e => aR h (eS.1 e)
theorem zaddq (x : Rat) : ((0 : Int) : Rat) + x = x := by rw [Rat.intCast_zero, Rat.zero_add]
theorem gC (a b c x y z : Rat) : a * x + b * y + c * z = jD a b c x y z := rfl
theorem div_mul_q (f v x : Rat) : f / v * x = f * x / v := by rw [Rat.div_def, Rat.div_def]; grind
def dZ (x y : jQ) : Bool := decide (((digR x : Nat) : Int) ≤ 8) && decide (((digR y : Nat) : Int) ≤ 8)
theorem lens0 (x y : Rat) (u : Int) : jD ((1 : Int) : Rat) ((0 : Int) : Rat) ((-u : Int) : Rat) x y ((1 : Int) : Rat) = x - ((u : Int) : Rat) := by
  unfold jD; rw [Rat.intCast_neg, Rat.intCast_one, Rat.intCast_zero]; grind
theorem lens1 (x y : Rat) (u : Int) : jD ((0 : Int) : Rat) ((1 : Int) : Rat) ((-u : Int) : Rat) x y ((1 : Int) : Rat) = y - ((u : Int) : Rat) := by
  unfold jD; rw [Rat.intCast_neg, Rat.intCast_one, Rat.intCast_zero]; grind
theorem lens2 (x y : Rat) (f : Int) : jD ((0 : Int) : Rat) ((0 : Int) : Rat) ((f : Int) : Rat) x y ((1 : Int) : Rat) = ((f : Int) : Rat) := by
  unfold jD; rw [Rat.intCast_one, Rat.intCast_zero]; grind
end Go.Fid
