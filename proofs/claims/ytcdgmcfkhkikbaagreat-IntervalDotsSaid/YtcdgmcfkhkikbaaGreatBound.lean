import Derived.Test.YtcdgmcfkhkikbaaGreatSpan
/-
  Hull and meet as join and meet of the order 'inside'. Plain Lean.
-/
namespace Go.Fid
def apQ (p q r s : Rat) : Bool := decide (q < r) || decide (s < p)
theorem apQ_eq (p q r s : Rat) : (decide (cmpQ q r < 0) || decide (cmpQ s p < 0)) = apQ p q r s := by
  unfold apQ
  rw [Bool.eq_iff_iff, Bool.or_eq_true, Bool.or_eq_true, decide_eq_true_eq, decide_eq_true_eq, decide_eq_true_eq, decide_eq_true_eq, cmpQ_lt, cmpQ_lt]
def zeroR (x : RRat) : Bool := ((!x.num.neg && !x.den.neg) && (((x.num.gs.length : Nat) : Int) == 0)) && (((x.den.gs.length : Nat) : Int) == 0)
theorem sameG_self {p q : Rat} (h : p ≤ q) : sameG ⟨ofQ p, ofQ q⟩ ⟨ofQ p, ofQ q⟩ = true := by rw [sameG_of]; simp [h]
theorem insQ_iff {p q r s : Rat} : insQ p q r s = true ↔ r ≤ p ∧ q ≤ s := by
  unfold insQ; rw [Bool.and_eq_true, decide_eq_true_eq, decide_eq_true_eq]
theorem insQ_hull {p q r s x y : Rat} (h1 : p ≤ q) (h2 : r ≤ s) : insQ (mnL p [q, r, s]) (mxL p [q, r, s]) x y = (insQ p q x y && insQ r s x y) := by
  rw [Bool.eq_iff_iff, Bool.and_eq_true, insQ_iff, insQ_iff, insQ_iff]
  obtain ⟨l1, l2, l3, l4⟩ := low4 p q r s
  obtain ⟨u1, u2, u3, u4⟩ := upp4 p q r s
  constructor
  · rintro ⟨a, b⟩
    exact ⟨⟨Rat.le_trans a l1, Rat.le_trans u2 b⟩, Rat.le_trans a l3, Rat.le_trans u4 b⟩
  · rintro ⟨⟨a, b⟩, c, d⟩
    refine ⟨mnL_ge_all a ?_, mxL_le_all (Rat.le_trans h1 b) ?_⟩ <;> intro z hz <;> simp at hz <;> rcases hz with e | e | e <;> rw [e]
    · exact Rat.le_trans a h1
    · exact c
    · exact Rat.le_trans c h2
    · exact b
    · exact Rat.le_trans h2 d
    · exact d
theorem apQ_no {p q r s x y : Rat} (hxy : x ≤ y) (h : apQ p q r s = true) : (insQ x y p q && insQ x y r s) = false := by
  rw [Bool.eq_false_iff]
  intro h2
  rw [Bool.and_eq_true, insQ_iff, insQ_iff] at h2
  obtain ⟨⟨a, b⟩, c, d⟩ := h2
  unfold apQ at h
  rw [Bool.or_eq_true, decide_eq_true_eq, decide_eq_true_eq] at h
  rcases h with h | h
  · exact absurd (Rat.le_trans c (Rat.le_trans hxy b)) (Rat.not_le.2 h)
  · exact absurd (Rat.le_trans a (Rat.le_trans hxy d)) (Rat.not_le.2 h)
theorem insQ_meet (p q r s x y : Rat) : insQ x y (mxL p [r]) (mnL q [s]) = (insQ x y p q && insQ x y r s) := by
  rw [Bool.eq_iff_iff, Bool.and_eq_true, insQ_iff, insQ_iff, insQ_iff]
  have u := mxL_upp [r] p
  have l := mnL_low [s] q
  constructor
  · rintro ⟨a, b⟩
    exact ⟨⟨Rat.le_trans u.1 a, Rat.le_trans b l.1⟩, Rat.le_trans (u.2 r (by simp)) a, Rat.le_trans b (l.2 s (by simp))⟩
  · rintro ⟨⟨a, b⟩, c, d⟩
    exact ⟨mxL_le_all a (fun z hz => by rw [List.mem_singleton] at hz; rw [hz]; exact c), mnL_ge_all b (fun z hz => by rw [List.mem_singleton] at hz; rw [hz]; exact d)⟩
theorem meet_valid {p q r s : Rat} (h1 : p ≤ q) (h2 : r ≤ s) (h : apQ p q r s = false) : mxL p [r] ≤ mnL q [s] := by
  unfold apQ at h
  rw [Bool.or_eq_false_iff, decide_eq_false_iff_not, decide_eq_false_iff_not, Rat.not_lt, Rat.not_lt] at h
  refine mxL_le_all (mnL_ge_all h1 ?_) ?_ <;> intro z hz <;> rw [List.mem_singleton] at hz <;> rw [hz]
  · exact h.2
  · exact mnL_ge_all h.1 (fun z hz => by rw [List.mem_singleton] at hz; rw [hz]; exact h2)
end Go.Fid
