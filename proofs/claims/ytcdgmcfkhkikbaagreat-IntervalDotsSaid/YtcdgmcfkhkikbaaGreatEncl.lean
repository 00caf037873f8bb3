import Derived.Test.YtcdgmcfkhkikbaaGreatIv
/-
  Elements of intervals make elements of the results. Plain Lean.
-/
namespace Go.Fid
def hasQ (p q x : Rat) : Bool := decide (p ≤ x) && decide (x ≤ q)
theorem hasQ_eq (p q x : Rat) : (decide (cmpQ p x ≤ 0) && decide (cmpQ x q ≤ 0)) = hasQ p q x := by
  unfold hasQ
  rw [Bool.eq_iff_iff, Bool.and_eq_true, Bool.and_eq_true, decide_eq_true_eq, decide_eq_true_eq, decide_eq_true_eq, decide_eq_true_eq, cmpQ_le, cmpQ_le]
theorem hasQ_of {p q x : Rat} (h1 : p ≤ x) (h2 : x ≤ q) : hasQ p q x = true := by
  unfold hasQ; rw [decide_eq_true h1, decide_eq_true h2]; rfl
theorem hasQ_iff {p q x : Rat} : hasQ p q x = true ↔ p ≤ x ∧ x ≤ q := by
  unfold hasQ; rw [Bool.and_eq_true, decide_eq_true_eq, decide_eq_true_eq]
theorem mul_anti_r {a b c : Rat} (h : a ≤ b) (hc : c ≤ 0) : b * c ≤ a * c := by
  have h1 := Rat.mul_le_mul_of_nonneg_right h (c := -c) (by rw [← Rat.neg_zero]; exact Rat.neg_le_neg hc)
  rw [Rat.mul_neg, Rat.mul_neg] at h1
  exact Rat.neg_le_neg_iff.1 h1
theorem mul_anti_l {a b c : Rat} (h : a ≤ b) (hc : c ≤ 0) : c * b ≤ c * a := by
  rw [Rat.mul_comm c b, Rat.mul_comm c a]; exact mul_anti_r h hc
theorem side_r {p q x : Rat} (y : Rat) (h1 : p ≤ x) (h2 : x ≤ q) : (p * y ≤ x * y ∧ x * y ≤ q * y) ∨ (q * y ≤ x * y ∧ x * y ≤ p * y) := by
  rcases Rat.le_total (a := 0) (b := y) with h | h
  · exact .inl ⟨Rat.mul_le_mul_of_nonneg_right h1 h, Rat.mul_le_mul_of_nonneg_right h2 h⟩
  · exact .inr ⟨mul_anti_r h2 h, mul_anti_r h1 h⟩
theorem side_l {r s y : Rat} (x : Rat) (h1 : r ≤ y) (h2 : y ≤ s) : (x * r ≤ x * y ∧ x * y ≤ x * s) ∨ (x * s ≤ x * y ∧ x * y ≤ x * r) := by
  rw [Rat.mul_comm x r, Rat.mul_comm x y, Rat.mul_comm x s]
  exact side_r x h1 h2
theorem mnL_low (l : List Rat) : ∀ p : Rat, mnL p l ≤ p ∧ ∀ x ∈ l, mnL p l ≤ x := by
  induction l with
  | nil => intro p; exact ⟨Rat.le_refl, fun x h => by cases h⟩
  | cons q l ih =>
    intro p
    have h : mnL p (q :: l) = mnL (min p q) l := rfl
    obtain ⟨a, b⟩ := ih (min p q)
    rw [h]
    have c1 : min p q ≤ p := by
      rw [Rat.min_def]; split
      · exact Rat.le_refl
      · exact Rat.le_of_lt (Rat.not_le.1 (by assumption))
    have c2 : min p q ≤ q := by
      rw [Rat.min_def]; split
      · assumption
      · exact Rat.le_refl
    refine ⟨Rat.le_trans a c1, fun x hx => ?_⟩
    rcases List.mem_cons.1 hx with e | e
    · rw [e]; exact Rat.le_trans a c2
    · exact b x e
theorem mxL_upp (l : List Rat) : ∀ p : Rat, p ≤ mxL p l ∧ ∀ x ∈ l, x ≤ mxL p l := by
  induction l with
  | nil => intro p; exact ⟨Rat.le_refl, fun x h => by cases h⟩
  | cons q l ih =>
    intro p
    have h : mxL p (q :: l) = mxL (max p q) l := rfl
    obtain ⟨a, b⟩ := ih (max p q)
    rw [h]
    have c1 : p ≤ max p q := by
      rw [Rat.max_def]; split
      · assumption
      · exact Rat.le_refl
    have c2 : q ≤ max p q := by
      rw [Rat.max_def]; split
      · exact Rat.le_refl
      · exact Rat.le_of_lt (Rat.not_le.1 (by assumption))
    refine ⟨Rat.le_trans c1 a, fun x hx => ?_⟩
    rcases List.mem_cons.1 hx with e | e
    · rw [e]; exact Rat.le_trans c2 a
    · exact b x e
theorem low4 (a b c d : Rat) : mnL a [b, c, d] ≤ a ∧ mnL a [b, c, d] ≤ b ∧ mnL a [b, c, d] ≤ c ∧ mnL a [b, c, d] ≤ d := by
  obtain ⟨h, g⟩ := mnL_low [b, c, d] a
  exact ⟨h, g b (by simp), g c (by simp), g d (by simp)⟩
theorem upp4 (a b c d : Rat) : a ≤ mxL a [b, c, d] ∧ b ≤ mxL a [b, c, d] ∧ c ≤ mxL a [b, c, d] ∧ d ≤ mxL a [b, c, d] := by
  obtain ⟨h, g⟩ := mxL_upp [b, c, d] a
  exact ⟨h, g b (by simp), g c (by simp), g d (by simp)⟩
/-- a product lies between two of the four corners -/
theorem mul_between {p q r s x y l h : Rat} (hx1 : p ≤ x) (hx2 : x ≤ q) (hy1 : r ≤ y) (hy2 : y ≤ s) (hl : l ≤ p * r ∧ l ≤ p * s ∧ l ≤ q * r ∧ l ≤ q * s) (hh : p * r ≤ h ∧ p * s ≤ h ∧ q * r ≤ h ∧ q * s ≤ h) : l ≤ x * y ∧ x * y ≤ h := by
  obtain ⟨l1, l2, l3, l4⟩ := hl
  obtain ⟨k1, k2, k3, k4⟩ := hh
  have hp : l ≤ p * y ∧ p * y ≤ h := by
    rcases side_l p hy1 hy2 with ⟨a, b⟩ | ⟨a, b⟩
    · exact ⟨Rat.le_trans l1 a, Rat.le_trans b k2⟩
    · exact ⟨Rat.le_trans l2 a, Rat.le_trans b k1⟩
  have hq : l ≤ q * y ∧ q * y ≤ h := by
    rcases side_l q hy1 hy2 with ⟨a, b⟩ | ⟨a, b⟩
    · exact ⟨Rat.le_trans l3 a, Rat.le_trans b k4⟩
    · exact ⟨Rat.le_trans l4 a, Rat.le_trans b k3⟩
  rcases side_r y hx1 hx2 with ⟨a, b⟩ | ⟨a, b⟩
  · exact ⟨Rat.le_trans hp.1 a, Rat.le_trans b hq.2⟩
  · exact ⟨Rat.le_trans hq.1 a, Rat.le_trans b hp.2⟩
theorem has_mul {p q r s x y : Rat} (hx : p ≤ x ∧ x ≤ q) (hy : r ≤ y ∧ y ≤ s) : hasQ (mnL (p * r) [(p * s), (q * r), (q * s)]) (mxL (p * r) [(p * s), (q * r), (q * s)]) (x * y) = true := by
  obtain ⟨a, b⟩ := mul_between hx.1 hx.2 hy.1 hy.2 (low4 _ _ _ _) (upp4 _ _ _ _)
  exact hasQ_of a b
theorem has_add {p q r s x y : Rat} (hx : p ≤ x ∧ x ≤ q) (hy : r ≤ y ∧ y ≤ s) : hasQ (p + r) (q + s) (x + y) = true :=
  hasQ_of (Rat.le_trans (Rat.add_le_add_right.2 hx.1) (Rat.add_le_add_left.2 hy.1)) (Rat.le_trans (Rat.add_le_add_right.2 hx.2) (Rat.add_le_add_left.2 hy.2))
theorem has_sub {p q r s x y : Rat} (hx : p ≤ x ∧ x ≤ q) (hy : r ≤ y ∧ y ≤ s) : hasQ (p - s) (q - r) (x - y) = true := by
  rw [Rat.sub_eq_add_neg, Rat.sub_eq_add_neg, Rat.sub_eq_add_neg]
  exact has_add hx ⟨Rat.neg_le_neg hy.2, Rat.neg_le_neg hy.1⟩
theorem inv_anti {a b : Rat} (h : a ≤ b) (hp : 0 < a * b) (ha : a ≠ 0) (hb : b ≠ 0) : b⁻¹ ≤ a⁻¹ := by
  refine Rat.le_of_mul_le_mul_right (c := a * b) ?_ hp
  rw [Rat.mul_comm a b, ← Rat.mul_assoc, Rat.inv_mul_cancel b hb, Rat.one_mul, Rat.mul_comm b a, ← Rat.mul_assoc, Rat.inv_mul_cancel a ha, Rat.one_mul]
  exact h
theorem neg_pos_mul {a b : Rat} (ha : a < 0) (hb : b < 0) : 0 < a * b := by
  have h := Rat.mul_pos (a := -a) (b := -b) (Rat.neg_zero ▸ Rat.neg_lt_neg ha) (Rat.neg_zero ▸ Rat.neg_lt_neg hb)
  rwa [Rat.neg_mul, Rat.mul_neg, Rat.neg_neg] at h
theorem zeroG_sides {r s : Rat} (hz : zeroG r s = false) : 0 < r ∨ s < 0 := by
  unfold zeroG at hz
  rw [Bool.and_eq_false_iff, decide_eq_false_iff_not, decide_eq_false_iff_not, Rat.not_le, Rat.not_le] at hz
  exact hz
theorem zeroG_in {r s y : Rat} (hz : zeroG r s = false) (hy : r ≤ y ∧ y ≤ s) : y ≠ 0 := by
  intro e
  subst e
  rcases zeroG_sides hz with h | h
  · exact absurd hy.1 (Rat.not_le.2 h)
  · exact absurd hy.2 (Rat.not_le.2 h)
theorem inv_in {r s y : Rat} (hz : zeroG r s = false) (hy : r ≤ y ∧ y ≤ s) : s⁻¹ ≤ y⁻¹ ∧ y⁻¹ ≤ r⁻¹ := by
  have hy0 := zeroG_in hz hy
  obtain ⟨hr0, hs0⟩ := zeroG_ne (Rat.le_trans hy.1 hy.2) hz
  rcases zeroG_sides hz with h | h
  · have h1 : 0 < y := Std.lt_of_lt_of_le h hy.1
    have h2 : 0 < s := Std.lt_of_lt_of_le h1 hy.2
    exact ⟨inv_anti hy.2 (Rat.mul_pos h1 h2) hy0 hs0, inv_anti hy.1 (Rat.mul_pos h h1) hr0 hy0⟩
  · have h1 : y < 0 := Std.lt_of_le_of_lt hy.2 h
    have h2 : r < 0 := Std.lt_of_le_of_lt hy.1 h1
    exact ⟨inv_anti hy.2 (neg_pos_mul h1 h) hy0 hs0, inv_anti hy.1 (neg_pos_mul h2 h1) hr0 hy0⟩
theorem has_div {p q r s x y : Rat} (hz : zeroG r s = false) (hx : p ≤ x ∧ x ≤ q) (hy : r ≤ y ∧ y ≤ s) : hasQ (mnL (p / r) [(p / s), (q / r), (q / s)]) (mxL (p / r) [(p / s), (q / r), (q / s)]) (x / y) = true := by
  obtain ⟨i1, i2⟩ := inv_in hz hy
  obtain ⟨a1, a2, a3, a4⟩ := low4 (p / r) (p / s) (q / r) (q / s)
  obtain ⟨b1, b2, b3, b4⟩ := upp4 (p / r) (p / s) (q / r) (q / s)
  obtain ⟨a, b⟩ := mul_between (p := p) (q := q) (r := s⁻¹) (s := r⁻¹) (x := x) (y := y⁻¹) hx.1 hx.2 i1 i2 ⟨a2, a1, a4, a3⟩ ⟨b2, b1, b4, b3⟩
  exact hasQ_of a b
theorem has_sq {p q x : Rat} (hx : p ≤ x ∧ x ≤ q) : hasQ (sqL p q) (sqH p q) (x * x) = true := by
  have lo := mnL_low [q * q] (p * p)
  have hi := mxL_upp [q * q] (p * p)
  refine hasQ_of ?_ ?_
  · unfold sqL
    split
    · exact rat_sq x
    · rename_i hz
      rcases zeroG_sides (Bool.eq_false_iff.2 hz) with h | h
      · have h0 : 0 ≤ x := Rat.le_trans (Rat.le_of_lt h) hx.1
        refine Rat.le_trans lo.1 (Rat.le_trans (Rat.mul_le_mul_of_nonneg_right hx.1 (Rat.le_of_lt h)) (Rat.mul_le_mul_of_nonneg_left hx.1 h0))
      · have h0 : x ≤ 0 := Rat.le_trans hx.2 (Rat.le_of_lt h)
        exact Rat.le_trans (lo.2 _ (by simp)) (Rat.le_trans (mul_anti_r hx.2 (Rat.le_of_lt h)) (mul_anti_l hx.2 h0))
  · unfold sqH
    rcases Rat.le_total (a := 0) (b := x) with h | h
    · exact Rat.le_trans (Rat.le_trans (Rat.mul_le_mul_of_nonneg_left hx.2 h) (Rat.mul_le_mul_of_nonneg_right hx.2 (Rat.le_trans h hx.2))) (hi.2 _ (by simp))
    · exact Rat.le_trans (Rat.le_trans (mul_anti_r hx.1 h) (mul_anti_l hx.1 (Rat.le_trans hx.1 h))) hi.1
/-- the element that divides an interval -/
def atQ (p q : Rat) (k : Nat) : Rat := p + Rat.divInt ((k % 17 : Nat) : Int) 16 * (q - p)
theorem part_in (k : Nat) : 0 ≤ Rat.divInt ((k % 17 : Nat) : Int) 16 ∧ Rat.divInt ((k % 17 : Nat) : Int) 16 ≤ 1 := by
  have h : k % 17 < 17 := Nat.mod_lt _ (by decide)
  generalize k % 17 = m at h
  have h2 : ∀ m : Fin 17, 0 ≤ Rat.divInt ((m.1 : Nat) : Int) 16 ∧ Rat.divInt ((m.1 : Nat) : Int) 16 ≤ 1 := by decide +kernel
  exact h2 ⟨m, h⟩
theorem at_in {p q : Rat} (h : p ≤ q) (k : Nat) : p ≤ atQ p q k ∧ atQ p q k ≤ q := by
  obtain ⟨a, b⟩ := part_in k
  have h0 : 0 ≤ q - p := (Rat.le_iff_sub_nonneg p q).1 h
  unfold atQ
  generalize Rat.divInt ((k % 17 : Nat) : Int) 16 = t at a b
  constructor
  · have h1 := Rat.add_le_add_left (c := p).2 (Rat.mul_nonneg a h0)
    rwa [Rat.add_zero] at h1
  · have h1 := Rat.add_le_add_left (c := p).2 (Rat.mul_le_mul_of_nonneg_right b h0)
    rwa [Rat.one_mul, Rat.add_comm p (q - p), Rat.sub_add_cancel] at h1
theorem add_valid {p q r s : Rat} (h1 : p ≤ q) (h2 : r ≤ s) : p + r ≤ q + s := Rat.le_trans (Rat.add_le_add_right.2 h1) (Rat.add_le_add_left.2 h2)
theorem sub_valid {p q r s : Rat} (h1 : p ≤ q) (h2 : r ≤ s) : p - s ≤ q - r := by
  rw [Rat.sub_eq_add_neg, Rat.sub_eq_add_neg]; exact add_valid h1 (Rat.neg_le_neg h2)
theorem ql_at {p q : Rat} {m n : Nat} (k : Nat) (hp : QL p m) (hq : QL q n) : QL (atQ p q k) (m + (3 + (m + n + 1)) + 1) := by
  unfold atQ
  have h : k % 17 < 17 := Nat.mod_lt _ (by decide)
  refine ql_add hp (ql_mul (ql_divInt (n := 3) (lenZ_int (by omega) (by omega)) (lenZ_int (by decide) (by decide)) (by decide)) (ql_sub (k := m + n + 1) hq hp (by omega)) (Nat.le_refl _)) (Nat.le_refl _)
end Go.Fid
