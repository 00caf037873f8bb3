import Derived.Test.YtcdgmcfkhkikbaaGreatEncl
import Derived.Test.YtcdgmcfkhkikbaaGreatFid16
/-
  The least and the greatest of a list of numbers, from its first on. Private slices of structs as data. Plain Lean.
-/
namespace Go.Fid
theorem mnL_self (p : Rat) (l : List Rat) : mnL p (p :: l) = mnL p l := by
  show mnL (min p p) l = mnL p l
  rw [Rat.min_def]; split <;> rfl
theorem mxL_self (p : Rat) (l : List Rat) : mxL p (p :: l) = mxL p l := by
  show mxL (max p p) l = mxL p l
  rw [Rat.max_def]; split <;> rfl
theorem least_start {l : List Rat} (h : 0 < l.length) : l.getD 0 0 = mnL (l.getD 0 0) (l.take 1) := by
  cases l with
  | nil => cases h
  | cons p l => show p = mnL p (p :: l.take 0); rw [mnL_self]; rfl
theorem neg_min (a b : Rat) : -(min (-a) (-b)) = max a b := by
  rw [Rat.min_def, Rat.max_def]
  by_cases h : a ≤ b
  · rw [if_pos h]
    split
    · rename_i h2
      rw [Rat.neg_neg]
      exact Rat.le_antisymm h (Rat.neg_le_neg_iff.1 h2)
    · rw [Rat.neg_neg]
  · rw [if_neg h, if_pos (Rat.neg_le_neg (Rat.le_of_lt (Rat.not_le.1 h))), Rat.neg_neg]
theorem neg_mnL (l : List Rat) : ∀ p : Rat, -(mnL (-p) (l.map (fun q => -q))) = mxL p l := by
  induction l with
  | nil => intro p; exact Rat.neg_neg p
  | cons q l ih =>
    intro p
    show -(mnL (min (-p) (-q)) (l.map (fun q => -q))) = mxL (max p q) l
    rw [← ih (max p q), ← neg_min p q, Rat.neg_neg]
theorem great_eq {l : List Rat} (h : 0 < l.length) : -(mnL ((l.map (fun q => -q)).getD 0 0) (l.map (fun q => -q))) = mxL (l.getD 0 0) l := by
  cases l with
  | nil => cases h
  | cons p l => exact neg_mnL (p :: l) p
theorem ql_negs {l : List Rat} {n : Nat} (h : ∀ q ∈ l, QL q n) : ∀ q ∈ l.map (fun q => -q), QL q n := by
  intro q hq
  obtain ⟨r, hr, rfl⟩ := List.mem_map.1 hq
  exact ql_neg (h r hr)
theorem neg_push {l : List Rat} {i : Nat} {o : List RRat} (hi : i < l.length) (h : o = List.map ofQ (List.map (fun q => -q) (l.take i))) : o ++ [ofQ (-(l.getD i 0))] = List.map ofQ (List.map (fun q => -q) (l.take (i + 1))) := by
  rw [h, take_getD hi, List.map_append, List.map_append]; rfl
theorem pubs_cells {α : Type} {s : Nat} (F : α → Dat) (L : List α) (hF : ∀ g, (F g).cells.length = s) : ∀ e ∈ L.map F, e.cells.length = s := by
  intro e he
  obtain ⟨g, _, rfl⟩ := List.mem_map.1 he
  exact hF g
theorem pubs_take {α : Type} {s : Nat} (F : α → Dat) (L : List α) (hF : ∀ g, (F g).cells.length = s) {m : Nat} (h : L.length = m) : (bxs F L).take (m * s) = (flat (L.map F)).map .d := by
  refine List.take_of_length_le ?_
  rw [List.length_map, flat_maplen F hF, h]
  exact Nat.le_refl _
theorem inside_of {p q r s : Rat} (h : r ≤ p ∧ q ≤ s) : (decide (r ≤ p) && decide (q ≤ s)) = true := by rw [decide_eq_true h.1, decide_eq_true h.2]; rfl
def insQ (p q r s : Rat) : Bool := decide (r ≤ p) && decide (q ≤ s)
theorem insQ_eq (p q r s : Rat) : (decide (cmpQ r p ≤ 0) && decide (cmpQ q s ≤ 0)) = insQ p q r s := by
  unfold insQ
  rw [Bool.eq_iff_iff, Bool.and_eq_true, Bool.and_eq_true, decide_eq_true_eq, decide_eq_true_eq, decide_eq_true_eq, decide_eq_true_eq, cmpQ_le, cmpQ_le]
theorem insQ_of {p q r s : Rat} (h1 : r ≤ p) (h2 : q ≤ s) : insQ p q r s = true := inside_of ⟨h1, h2⟩
/-- what lies between two numbers of a list -/
theorem mnL_ge_all {l : List Rat} {p x : Rat} (h0 : x ≤ p) (h : ∀ q ∈ l, x ≤ q) : x ≤ mnL p l := by
  rcases mnL_mem l p with e | e
  · rw [e]; exact h0
  · exact h _ e
theorem mxL_le_all {l : List Rat} {p x : Rat} (h0 : p ≤ x) (h : ∀ q ∈ l, q ≤ x) : mxL p l ≤ x := by
  rcases mxL_mem l p with e | e
  · rw [e]; exact h0
  · exact h _ e
/-- the hull of two elements lies within -/
theorem hull_in {p q x y : Rat} (hx : p ≤ x ∧ x ≤ q) (hy : p ≤ y ∧ y ≤ q) : p ≤ mnL x [x, y, y] ∧ mxL x [x, y, y] ≤ q := by
  refine ⟨mnL_ge_all hx.1 ?_, mxL_le_all hx.2 ?_⟩ <;> intro z hz <;> simp at hz <;> rcases hz with e | e <;> rw [e]
  · exact hx.1
  · exact hy.1
  · exact hx.2
  · exact hy.2
theorem mono_mul {p q r s a b c d : Rat} (h1 : p ≤ a ∧ b ≤ q) (h2 : r ≤ c ∧ d ≤ s) (hab : a ≤ b) (hcd : c ≤ d) :
    insQ (mnL (a * c) [(a * d), (b * c), (b * d)]) (mxL (a * c) [(a * d), (b * c), (b * d)]) (mnL (p * r) [(p * s), (q * r), (q * s)]) (mxL (p * r) [(p * s), (q * r), (q * s)]) = true := by
  have ha : p ≤ a ∧ a ≤ q := ⟨h1.1, Rat.le_trans hab h1.2⟩
  have hb : p ≤ b ∧ b ≤ q := ⟨Rat.le_trans h1.1 hab, h1.2⟩
  have hc : r ≤ c ∧ c ≤ s := ⟨h2.1, Rat.le_trans hcd h2.2⟩
  have hd : r ≤ d ∧ d ≤ s := ⟨Rat.le_trans h2.1 hcd, h2.2⟩
  have m1 := hasQ_iff.1 (has_mul ha hc)
  have m2 := hasQ_iff.1 (has_mul ha hd)
  have m3 := hasQ_iff.1 (has_mul hb hc)
  have m4 := hasQ_iff.1 (has_mul hb hd)
  refine insQ_of (mnL_ge_all m1.1 ?_) (mxL_le_all m1.2 ?_) <;> intro z hz <;> simp at hz <;> rcases hz with e | e | e <;> rw [e]
  · exact m2.1
  · exact m3.1
  · exact m4.1
  · exact m2.2
  · exact m3.2
  · exact m4.2
theorem mono_div {p q r s a b c d : Rat} (hz : zeroG r s = false) (h1 : p ≤ a ∧ b ≤ q) (h2 : r ≤ c ∧ d ≤ s) (hab : a ≤ b) (hcd : c ≤ d) :
    insQ (mnL (a / c) [(a / d), (b / c), (b / d)]) (mxL (a / c) [(a / d), (b / c), (b / d)]) (mnL (p / r) [(p / s), (q / r), (q / s)]) (mxL (p / r) [(p / s), (q / r), (q / s)]) = true := by
  have ha : p ≤ a ∧ a ≤ q := ⟨h1.1, Rat.le_trans hab h1.2⟩
  have hb : p ≤ b ∧ b ≤ q := ⟨Rat.le_trans h1.1 hab, h1.2⟩
  have hc : r ≤ c ∧ c ≤ s := ⟨h2.1, Rat.le_trans hcd h2.2⟩
  have hd : r ≤ d ∧ d ≤ s := ⟨Rat.le_trans h2.1 hcd, h2.2⟩
  have m1 := hasQ_iff.1 (has_div hz ha hc)
  have m2 := hasQ_iff.1 (has_div hz ha hd)
  have m3 := hasQ_iff.1 (has_div hz hb hc)
  have m4 := hasQ_iff.1 (has_div hz hb hd)
  refine insQ_of (mnL_ge_all m1.1 ?_) (mxL_le_all m1.2 ?_) <;> intro z hz <;> simp at hz <;> rcases hz with e | e | e <;> rw [e]
  · exact m2.1
  · exact m3.1
  · exact m4.1
  · exact m2.2
  · exact m3.2
  · exact m4.2
theorem mono_sub {p q r s a b c d : Rat} (h1 : p ≤ a ∧ b ≤ q) (h2 : r ≤ c ∧ d ≤ s) : insQ (a - d) (b - c) (p - s) (q - r) = true := by
  rw [Rat.sub_eq_add_neg, Rat.sub_eq_add_neg, Rat.sub_eq_add_neg, Rat.sub_eq_add_neg]
  exact insQ_of (add_valid h1.1 (Rat.neg_le_neg h2.2)) (add_valid h1.2 (Rat.neg_le_neg h2.1))
theorem zeroG_sub {r s c d : Rat} (hz : zeroG r s = false) (h2 : r ≤ c ∧ d ≤ s) : zeroG c d = false := by
  unfold zeroG
  rw [Bool.and_eq_false_iff, decide_eq_false_iff_not, decide_eq_false_iff_not, Rat.not_le, Rat.not_le]
  rcases zeroG_sides hz with h | h
  · exact .inl (Std.lt_of_lt_of_le h h2.1)
  · exact .inr (Std.lt_of_le_of_lt h2.2 h)
theorem mono_sq {p q a b : Rat} (h1 : p ≤ a ∧ b ≤ q) (hab : a ≤ b) : insQ (sqL a b) (sqH a b) (sqL p q) (sqH p q) = true := by
  have ha : p ≤ a ∧ a ≤ q := ⟨h1.1, Rat.le_trans hab h1.2⟩
  have hb : p ≤ b ∧ b ≤ q := ⟨Rat.le_trans h1.1 hab, h1.2⟩
  have m1 := hasQ_iff.1 (has_sq ha)
  have m2 := hasQ_iff.1 (has_sq hb)
  refine insQ_of ?_ (mxL_le_all m1.2 (fun z hz => by rw [List.mem_singleton] at hz; rw [hz]; exact m2.2))
  have low : ∀ x : Rat, a ≤ x ∧ x ≤ b → sqL p q ≤ x * x := fun x hx => (hasQ_iff.1 (has_sq ⟨Rat.le_trans h1.1 hx.1, Rat.le_trans hx.2 h1.2⟩)).1
  show sqL p q ≤ sqL a b
  by_cases hz : zeroG a b = true
  · have h0 := hz
    unfold zeroG at h0
    rw [Bool.and_eq_true, decide_eq_true_eq, decide_eq_true_eq] at h0
    rw [show sqL a b = _ from if_pos hz]
    have := low 0 h0
    rwa [Rat.mul_zero] at this
  · rw [show sqL a b = _ from if_neg hz]
    exact mnL_ge_all (low a ⟨Rat.le_refl, hab⟩) (fun z hz => by rw [List.mem_singleton] at hz; rw [hz]; exact low b ⟨hab, Rat.le_refl⟩)
end Go.Fid
