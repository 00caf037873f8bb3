import Derived.Test.YtadkkhdnccljcaaGreatRat
import Derived.Test.YtadkkhdnccljcaaGreatFid15
/-
  Intervals, as they are laid out and as what they stand for. Plain Lean.
-/
namespace Go.Fid
theorem all_take {α : Type} {f : α → Bool} {l : List α} {i : Nat} {d : α} (h : i < l.length) (h1 : (l.take i).all f = true) (h2 : f (l.getD i d) = true) : (l.take (i + 1)).all f = true := by
  rw [List.take_succ_eq_append_getElem h, List.all_append, h1]
  simp [List.getD, List.getElem?_eq_getElem h] at h2
  simp [h2]
theorem all_not {α : Type} {f : α → Bool} {l : List α} {i : Nat} {d : α} (h : i < l.length) (h2 : f (l.getD i d) = false) : l.all f = false := by
  rw [List.all_eq_false]
  refine ⟨l[i], List.getElem_mem h, ?_⟩
  simp [List.getD, List.getElem?_eq_getElem h] at h2
  simp [h2]
end Go.Fid
