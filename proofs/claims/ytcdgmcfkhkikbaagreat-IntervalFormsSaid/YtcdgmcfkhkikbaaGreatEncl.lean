import Derived.Test.YtcdgmcfkhkikbaaGreatIv
/-
  Elements of intervals make elements of the results. Plain Lean.
-/
namespace Go.Fid
def hasQ (p q x : Rat) : Bool := decide (p ≤ x) && decide (x ≤ q)
theorem hasQ_eq (p q x : Rat) : (decide (cmpQ p x ≤ 0) && decide (cmpQ x q ≤ 0)) = hasQ p q x := by
  unfold hasQ
  rw [Bool.eq_iff_iff, Bool.and_eq_true, Bool.and_eq_true, decide_eq_true_eq, decide_eq_true_eq, decide_eq_true_eq, decide_eq_true_eq, cmpQ_le, cmpQ_le]
theorem hasQ_iff {p q x : Rat} : hasQ p q x = true ↔ p ≤ x ∧ x ≤ q := by
  unfold hasQ; rw [Bool.and_eq_true, decide_eq_true_eq, decide_eq_true_eq]
end Go.Fid
