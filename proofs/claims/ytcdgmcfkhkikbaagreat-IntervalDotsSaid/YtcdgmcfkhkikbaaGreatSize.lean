import Derived.Test.YtcdgmcfkhkikbaaGreatBound
/-
  Width, middle, magnitude, sign of an interval. Plain Lean.
-/
namespace Go.Fid
theorem sameR_self (p : Rat) : sameR (ofQ p) (ofQ p) = true := by rw [sameR_of]; simp
theorem two_ne : ((2 : Int) : Rat) ≠ 0 := by decide
theorem mid_eq (p q : Rat) : Rat.divInt 1 2 * (p + q) = (p + q) / ((2 : Int) : Rat) := by
  rw [Rat.div_def, Rat.mul_comm]
  congr 1
  decide +kernel
def sgG (p q : Rat) : Int := if signQ p = signQ q then signQ p else 2
theorem sgG_yes {p q : Rat} (h : signQ p = signQ q) : sgG p q = signQ p := if_pos h
theorem sgG_no {p q : Rat} (h : signQ p ≠ signQ q) : sgG p q = 2 := if_neg h
theorem one_no {a : RRng} (h : List.all [a] validG = false) : validG a = false := by simpa using h
theorem qok_nil : QOk ⟨⟨false, []⟩, ⟨false, []⟩⟩ (toQ ⟨⟨false, []⟩, ⟨false, []⟩⟩) 4294967296 := qok_raw (by decide) (Nat.zero_le _) (Nat.zero_le _)
end Go.Fid
