import Derived.Test.YtcdgmcfkhkikbaaGreatSpan
/-
  Hull and meet as join and meet of the order 'inside'. Plain Lean.
-/
namespace Go.Fid
def zeroR (x : RRat) : Bool := ((!x.num.neg && !x.den.neg) && (((x.num.gs.length : Nat) : Int) == 0)) && (((x.den.gs.length : Nat) : Int) == 0)
theorem insQ_iff {p q r s : Rat} : insQ p q r s = true ↔ r ≤ p ∧ q ≤ s := by
  unfold insQ; rw [Bool.and_eq_true, decide_eq_true_eq, decide_eq_true_eq]
end Go.Fid
