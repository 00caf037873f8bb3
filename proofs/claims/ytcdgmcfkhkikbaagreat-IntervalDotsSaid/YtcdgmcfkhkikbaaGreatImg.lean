import Derived.Test.YtcdgmcfkhkikbaaGreatSize
/-
  Images of intervals: negatives, squares, quotients by reciprocals; sums of products; raw arguments. Plain Lean.
-/
set_option linter.unusedVariables false
namespace Go.Fid
theorem neg_valid {p q : Rat} (h : p ≤ q) : -q ≤ -p := Rat.neg_le_neg h
theorem hasQ_zero (p q : Rat) : hasQ p q ((0 : Int) : Rat) = zeroG p q := rfl
theorem mn3 (a b c : Rat) : mnL a [b, c] = min (min a b) c := rfl
theorem mx3 (a b c : Rat) : mxL a [b, c] = max (max a b) c := rfl
theorem sq_noL {p q : Rat} (h : hasQ p q ((0 : Int) : Rat) = false) : sqL p q = mnL (p * p) [q * q] := if_neg (by rw [← hasQ_zero, h]; simp)
theorem sq_hasL {p q : Rat} (h : hasQ p q ((0 : Int) : Rat) = true) : sqL p q = mnL (p * p) [q * q, ((0 : Int) : Rat)] := by
  rw [hasQ_zero] at h
  rw [show sqL p q = ((0 : Int) : Rat) from if_pos h]
  refine Rat.le_antisymm (mnL_ge_all (rat_sq p) ?_) ((mnL_low [q * q, ((0 : Int) : Rat)] (p * p)).2 _ (by simp))
  intro x hx
  simp at hx
  rcases hx with e | e
  · rw [e]; exact rat_sq q
  · rw [e]; exact Rat.le_refl
theorem sq_hasH (p q : Rat) : sqH p q = mxL (p * p) [q * q, ((0 : Int) : Rat)] := by
  have u := mxL_upp [q * q] (p * p)
  refine Rat.le_antisymm (mxL_le_all (mxL_upp [q * q, ((0 : Int) : Rat)] (p * p)).1 (fun x hx => (mxL_upp [q * q, ((0 : Int) : Rat)] (p * p)).2 x (by simp at hx; simp [hx]))) (mxL_le_all u.1 ?_)
  intro x hx
  simp at hx
  rcases hx with e | e
  · rw [e]; exact u.2 _ (by simp)
  · rw [e]; exact Rat.le_trans (rat_sq p) u.1
theorem mn4_perm (a b c d : Rat) : mnL b [a, d, c] = mnL a [b, c, d] := by
  obtain ⟨l1, l2, l3, l4⟩ := low4 a b c d
  obtain ⟨k1, k2, k3, k4⟩ := low4 b a d c
  exact Rat.le_antisymm (mnL_ge_all k2 (by intro x hx; simp at hx; rcases hx with e | e | e <;> rw [e] <;> assumption)) (mnL_ge_all l2 (by intro x hx; simp at hx; rcases hx with e | e | e <;> rw [e] <;> assumption))
theorem mx4_perm (a b c d : Rat) : mxL b [a, d, c] = mxL a [b, c, d] := by
  obtain ⟨l1, l2, l3, l4⟩ := upp4 a b c d
  obtain ⟨k1, k2, k3, k4⟩ := upp4 b a d c
  exact Rat.le_antisymm (mxL_le_all l2 (by intro x hx; simp at hx; rcases hx with e | e | e <;> rw [e] <;> assumption)) (mxL_le_all k2 (by intro x hx; simp at hx; rcases hx with e | e | e <;> rw [e] <;> assumption))
theorem one_div_mul (p r : Rat) : p * (((1 : Int) : Rat) / r) = p / r := by
  rw [Rat.div_def, Rat.div_def, show ((1 : Int) : Rat) = 1 from rfl, Rat.one_mul]
theorem recip_lo (p q r s : Rat) : mnL (p * (((1 : Int) : Rat) / s)) [(p * (((1 : Int) : Rat) / r)), (q * (((1 : Int) : Rat) / s)), (q * (((1 : Int) : Rat) / r))] = mnL (p / r) [(p / s), (q / r), (q / s)] := by
  rw [one_div_mul, one_div_mul, one_div_mul, one_div_mul]; exact mn4_perm _ _ _ _
theorem recip_hi (p q r s : Rat) : mxL (p * (((1 : Int) : Rat) / s)) [(p * (((1 : Int) : Rat) / r)), (q * (((1 : Int) : Rat) / s)), (q * (((1 : Int) : Rat) / r))] = mxL (p / r) [(p / s), (q / r), (q / s)] := by
  rw [one_div_mul, one_div_mul, one_div_mul, one_div_mul]; exact mx4_perm _ _ _ _
/-! ### lists of intervals -/
def ofG (x : Rat × Rat) : RRng := ⟨ofQ x.1, ofQ x.2⟩
def GL (n : Nat) (x : Rat × Rat) : Prop := QL x.1 n ∧ QL x.2 n ∧ x.1 ≤ x.2
theorem gokl_up {l : List RRng} {m n : Nat} (h : ∀ a ∈ l, GOk m a) (hm : m ≤ n) : ∀ a ∈ l, GOk n a := fun a ha => gok_up (h a ha) hm
theorem gok_map {L : List (Rat × Rat)} {n : Nat} (h : ∀ x ∈ L, GL n x) : ∀ a ∈ List.map ofG L, GOk n a := by
  intro a ha
  obtain ⟨x, hx, rfl⟩ := List.mem_map.1 ha
  have := h x hx
  exact ⟨qok_self (qok_of this.1), qok_self (qok_of this.2.1)⟩
theorem valid_map {L : List (Rat × Rat)} {n : Nat} (h : ∀ x ∈ L, GL n x) : List.all (List.map ofG L) validG = true := by
  rw [List.all_eq_true]
  intro a ha
  obtain ⟨x, hx, rfl⟩ := List.mem_map.1 ha
  exact validG_of (h x hx).2.2
theorem gl_getD {L : List (Rat × Rat)} {n : Nat} (h : ∀ x ∈ L, GL n x) (h1 : 1 ≤ n) (j : Nat) : GL n (L.getD j (0, 0)) := by
  rw [List.getD]
  cases hj : L[j]? with
  | none => exact ⟨ql_up ql_zero h1, ql_up ql_zero h1, Rat.le_refl⟩
  | some q => exact h q (List.mem_of_getElem? hj)
theorem list_form {l : List RRng} (hv : List.all l validG = true) (hs : List.all l shortG = true) : ∃ L : List (Rat × Rat), l = List.map ofG L ∧ ∀ x ∈ L, GL 16 x := by
  induction l with
  | nil => exact ⟨[], rfl, by simp⟩
  | cons a l ih =>
    simp only [List.all_cons, Bool.and_eq_true] at hv hs
    obtain ⟨L, e, h⟩ := ih hv.2 hs.2
    obtain ⟨e1, l1⟩ := validG_form hv.1
    have hs1 := hs.1
    rw [e1] at hs1
    obtain ⟨q1, q2⟩ := shortG_ql hs1
    refine ⟨(toQ a.lo, toQ a.hi) :: L, by rw [List.map_cons, ← e]; congr 1, ?_⟩
    intro x hx
    rcases List.mem_cons.1 hx with rfl | hx
    · exact ⟨q1, q2, l1⟩
    · exact h x hx
def mulLo (x y : Rat × Rat) : Rat := mnL (x.1 * y.1) [(x.1 * y.2), (x.2 * y.1), (x.2 * y.2)]
def mulHi (x y : Rat × Rat) : Rat := mxL (x.1 * y.1) [(x.1 * y.2), (x.2 * y.1), (x.2 * y.2)]
def dotF (L M : List (Rat × Rat)) : Nat → Rat × Rat
  | 0 => (((0 : Int) : Rat), ((0 : Int) : Rat))
  | i + 1 => ((dotF L M i).1 + mulLo (L.getD i (0, 0)) (M.getD i (0, 0)), (dotF L M i).2 + mulHi (L.getD i (0, 0)) (M.getD i (0, 0)))
theorem mul_gl {x y : Rat × Rat} (hx : GL 16 x) (hy : GL 16 y) : QL (mulLo x y) 32 ∧ QL (mulHi x y) 32 ∧ mulLo x y ≤ mulHi x y := by
  have m1 := ql_mul (k := 32) hx.1 hy.1 (by decide)
  have m2 := ql_mul (k := 32) hx.1 hy.2.1 (by decide)
  have m3 := ql_mul (k := 32) hx.2.1 hy.1 (by decide)
  have m4 := ql_mul (k := 32) hx.2.1 hy.2.1 (by decide)
  have ml : ∀ z ∈ [(x.1 * y.2), (x.2 * y.1), (x.2 * y.2)], QL z 32 := by
    intro z hz; simp at hz; rcases hz with e | e | e <;> rw [e] <;> assumption
  exact ⟨ql_mnL m1 ml, ql_mxL m1 ml, mnL_le_mxL _ _⟩
theorem dot_ql1 {L M : List (Rat × Rat)} (hL : ∀ x ∈ L, GL 16 x) (hM : ∀ x ∈ M, GL 16 x) (i : Nat) : QL (dotF L M i).1 (33 * i + 1) ∧ QL (dotF L M i).2 (33 * i + 1) ∧ (dotF L M i).1 ≤ (dotF L M i).2 := by
  induction i with
  | zero => exact ⟨ql_int (z := 0) (lenZ_one (by decide)) (by decide), ql_int (z := 0) (lenZ_one (by decide)) (by decide), Rat.le_refl⟩
  | succ i ih =>
    obtain ⟨m1, m2, m3⟩ := mul_gl (gl_getD hL (by decide) i) (gl_getD hM (by decide) i)
    exact ⟨ql_add ih.1 m1 (by omega), ql_add ih.2.1 m2 (by omega), add_valid ih.2.2 m3⟩
theorem dot_ql {L M : List (Rat × Rat)} (hL : ∀ x ∈ L, GL 16 x) (hM : ∀ x ∈ M, GL 16 x) {i : Nat} (hi : i ≤ 8) : QL (dotF L M i).1 300 ∧ QL (dotF L M i).2 300 ∧ (dotF L M i).1 ≤ (dotF L M i).2 := by
  have := dot_ql1 hL hM i
  exact ⟨ql_up this.1 (by omega), ql_up this.2.1 (by omega), this.2.2⟩
/-! ### raw arguments -/
theorem sameG_raw {x y : RRat} (h1 : validR x = true) (h2 : validR y = true) (h : toQ x ≤ toQ y) : sameG ⟨x, y⟩ ⟨x, y⟩ = true := by
  unfold sameG validG sameR
  simp [h1, h2, h]
theorem ins_has {p q r s : Rat} (h : p ≤ q) : (hasQ r s p && hasQ r s q) = insQ p q r s := by
  rw [Bool.eq_iff_iff, Bool.and_eq_true, hasQ_iff, hasQ_iff, insQ_iff]
  exact ⟨fun ⟨a, b⟩ => ⟨a.1, b.2⟩, fun ⟨a, b⟩ => ⟨⟨a, Rat.le_trans h b⟩, Rat.le_trans a h, b⟩⟩
theorem qok_get {l : List RRat} {n j : Nat} {d : RRat} (h : ∀ a ∈ l, QOk a (toQ a) n) (hj : j < l.length) : QOk (l.getD j d) (toQ (l.getD j d)) n := by
  rw [List.getD, List.getElem?_eq_getElem hj]
  exact h _ (List.getElem_mem hj)
def briefR (x : RRat) : Bool := decide (digR x ≤ 16)
end Go.Fid
