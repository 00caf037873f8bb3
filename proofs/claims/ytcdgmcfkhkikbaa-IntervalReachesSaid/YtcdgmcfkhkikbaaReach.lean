import Derived.Test.YtcdgmcfkhkikbaaIv
/-
  Which ends of the arguments make the ends of a product and of a quotient. Plain Lean.
-/
namespace Go.Fid
theorem mem3 {a b c d x : Rat} (h : x = a ∨ x ∈ [b, c, d]) : x = a ∨ x = b ∨ x = c ∨ x = d := by simpa using h
theorem reach_mul {p q r s : Rat} (m : Rat) (h : m = p * r ∨ m = p * s ∨ m = q * r ∨ m = q * s) : anyP (fun x y => decide (x * y = m)) [p, q] [r, s] 2 0 = true := by
  simp only [anyP, List.take, List.any_cons, List.any_nil, Bool.or_false]
  rcases h with h | h | h | h <;> simp [← h]
theorem reach_div {p q r s : Rat} (hr : r ≠ 0) (hs : s ≠ 0) (m : Rat) (h : m = p / r ∨ m = p / s ∨ m = q / r ∨ m = q / s) : anyP (fun x y => sameR (divR x y) (ofQ m)) [p, q] [r, s] 2 0 = true := by
  simp only [anyP, List.take, List.any_cons, List.any_nil, Bool.or_false, sameR_ofdiv hr, sameR_ofdiv hs]
  rcases h with h | h | h | h <;> simp [← h]
end Go.Fid
