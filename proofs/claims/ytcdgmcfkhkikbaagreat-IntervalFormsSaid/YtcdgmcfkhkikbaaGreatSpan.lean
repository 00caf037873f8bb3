import Derived.Test.YtcdgmcfkhkikbaaGreatEncl
import Derived.Test.YtcdgmcfkhkikbaaGreatFid16
/-
  The least and the greatest of a list of numbers, from its first on. Private slices of structs as data. Plain Lean.
-/
namespace Go.Fid
def insQ (p q r s : Rat) : Bool := decide (r ≤ p) && decide (q ≤ s)
theorem insQ_eq (p q r s : Rat) : (decide (cmpQ r p ≤ 0) && decide (cmpQ q s ≤ 0)) = insQ p q r s := by
  unfold insQ
  rw [Bool.eq_iff_iff, Bool.and_eq_true, Bool.and_eq_true, decide_eq_true_eq, decide_eq_true_eq, decide_eq_true_eq, decide_eq_true_eq, cmpQ_le, cmpQ_le]
end Go.Fid
