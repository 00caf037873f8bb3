import Derived.Test.YtcdgmcfkhkikbaaGreatSize
/-
  Images of intervals: negatives, squares, quotients by reciprocals; sums of products; raw arguments. Plain Lean.
-/
set_option linter.unusedVariables false
namespace Go.Fid
theorem sameG_raw {x y : RRat} (h1 : validR x = true) (h2 : validR y = true) (h : toQ x ≤ toQ y) : sameG ⟨x, y⟩ ⟨x, y⟩ = true := by
  unfold sameG validG sameR
  simp [h1, h2, h]
theorem ins_has {p q r s : Rat} (h : p ≤ q) : (hasQ r s p && hasQ r s q) = insQ p q r s := by
  rw [Bool.eq_iff_iff, Bool.and_eq_true, hasQ_iff, hasQ_iff, insQ_iff]
  exact ⟨fun ⟨a, b⟩ => ⟨a.1, b.2⟩, fun ⟨a, b⟩ => ⟨⟨a, Rat.le_trans h b⟩, Rat.le_trans a h, b⟩⟩
theorem qok_get {l : List RRat} {n j : Nat} {d : RRat} (h : ∀ a ∈ l, QOk a (toQ a) n) (hj : j < l.length) : QOk (l.getD j d) (toQ (l.getD j d)) n := by
  rw [List.getD, List.getElem?_eq_getElem hj]
  exact h _ (List.getElem_mem hj)
def briefR (x : RRat) : Bool := decide (digR x ≤ 16)
end Go.Fid
