/- Part 10 of a proof: rules, plain facts, and functions walked. -/
import Derived.Test.YtbecgnplakngdaaGreatM8
import Derived.Test.YtbecgnplakngdaaGreatM9
import Derived.Test.YtbecgnplakngdaaGreatM7
import Derived.Test.YtbecgnplakngdaaGreatM4
set_option linter.unusedVariables false
set_option linter.unusedSimpArgs false
namespace Go.Fid
def nq (a b c d : Int) : Int := (((a * a) + (b * b)) + (c * c)) + (d * d)
def N4 (a b c d : Int) : Rat := ((nq a b c d : Int) : Rat)
def r00 (a b c d : Int) : Int := (((a * a) + (b * b)) - (c * c)) - (d * d)
def R00 (a b c d : Int) : Rat := ((r00 a b c d : Int) : Rat)
def Q00 (a b c d : Int) : Rat := Rat.divInt (r00 a b c d) (nq a b c d)
def r01 (a b c d : Int) : Int := 2 * ((b * c) - (a * d))
def R01 (a b c d : Int) : Rat := ((r01 a b c d : Int) : Rat)
def Q01 (a b c d : Int) : Rat := Rat.divInt (r01 a b c d) (nq a b c d)
def r02 (a b c d : Int) : Int := 2 * ((b * d) + (a * c))
def R02 (a b c d : Int) : Rat := ((r02 a b c d : Int) : Rat)
def Q02 (a b c d : Int) : Rat := Rat.divInt (r02 a b c d) (nq a b c d)
def r10 (a b c d : Int) : Int := 2 * ((b * c) + (a * d))
def R10 (a b c d : Int) : Rat := ((r10 a b c d : Int) : Rat)
def Q10 (a b c d : Int) : Rat := Rat.divInt (r10 a b c d) (nq a b c d)
def r11 (a b c d : Int) : Int := (((a * a) - (b * b)) + (c * c)) - (d * d)
def R11 (a b c d : Int) : Rat := ((r11 a b c d : Int) : Rat)
def Q11 (a b c d : Int) : Rat := Rat.divInt (r11 a b c d) (nq a b c d)
def r12 (a b c d : Int) : Int := 2 * ((c * d) - (a * b))
def R12 (a b c d : Int) : Rat := ((r12 a b c d : Int) : Rat)
def Q12 (a b c d : Int) : Rat := Rat.divInt (r12 a b c d) (nq a b c d)
def r20 (a b c d : Int) : Int := 2 * ((b * d) - (a * c))
def R20 (a b c d : Int) : Rat := ((r20 a b c d : Int) : Rat)
def Q20 (a b c d : Int) : Rat := Rat.divInt (r20 a b c d) (nq a b c d)
def r21 (a b c d : Int) : Int := 2 * ((c * d) + (a * b))
def R21 (a b c d : Int) : Rat := ((r21 a b c d : Int) : Rat)
def Q21 (a b c d : Int) : Rat := Rat.divInt (r21 a b c d) (nq a b c d)
def r22 (a b c d : Int) : Int := (((a * a) - (b * b)) - (c * c)) + (d * d)
def R22 (a b c d : Int) : Rat := ((r22 a b c d : Int) : Rat)
def Q22 (a b c d : Int) : Rat := Rat.divInt (r22 a b c d) (nq a b c d)
theorem rotC_ok {a b c d : Int} (h : rotC a b c d = 0) : (-1048576 ≤ a ∧ a ≤ 1048576) ∧ (-1048576 ≤ b ∧ b ≤ 1048576) ∧ (-1048576 ≤ c ∧ c ≤ 1048576) ∧ (-1048576 ≤ d ∧ d ≤ 1048576) ∧ ¬ (a = 0 ∧ b = 0 ∧ c = 0 ∧ d = 0) := by
  unfold rotC at h
  split at h
  · cases h
  · rename_i h0
    split at h
    · rename_i h1; exact ⟨h1.1, h1.2.1, h1.2.2.1, h1.2.2.2, h0⟩
    · cases h
theorem stnC_ok {x y z u v f a b c d : Int} (h : stnC x y z u v f a b c d = 0) : (-1048576 ≤ x ∧ x ≤ 1048576) ∧ (-1048576 ≤ y ∧ y ≤ 1048576) ∧ (-1048576 ≤ z ∧ z ≤ 1048576) ∧ (-1048576 ≤ u ∧ u ≤ 1048576) ∧ (-1048576 ≤ v ∧ v ≤ 1048576) ∧ (1 ≤ f ∧ f ≤ 1048576) ∧ rotC a b c d = 0 := by
  unfold stnC at h
  split at h
  · rename_i hp; exact ⟨hp.1, hp.2.1, hp.2.2.1, hp.2.2.2.1, hp.2.2.2.2.1, hp.2.2.2.2.2, h⟩
  · cases h
theorem sq_nn (a : Int) : 0 ≤ a * a := by
  rcases Int.le_total 0 a with h | h
  · exact Int.mul_nonneg h h
  · exact Int.mul_nonneg_of_nonpos_of_nonpos h h
theorem sq_pos {a : Int} (h : a ≠ 0) : 0 < a * a := by
  rcases Int.lt_or_gt_of_ne h with h | h
  · exact Int.mul_pos_of_neg_of_neg h h
  · exact Int.mul_pos h h
theorem nq_pos {a b c d : Int} (h : rotC a b c d = 0) : 0 < nq a b c d := by
  have h0 := (rotC_ok h).2.2.2.2
  have ha := sq_nn a; have hb := sq_nn b; have hc := sq_nn c; have hd := sq_nn d
  unfold nq
  by_cases e1 : a = 0
  · by_cases e2 : b = 0
    · by_cases e3 : c = 0
      · by_cases e4 : d = 0
        · exact absurd ⟨e1, e2, e3, e4⟩ h0
        · have := sq_pos e4; omega
      · have := sq_pos e3; omega
    · have := sq_pos e2; omega
  · have := sq_pos e1; omega
theorem nq_ne {a b c d : Int} (h : rotC a b c d = 0) : nq a b c d ≠ 0 := by have := nq_pos h; omega
theorem nq_b {a b c d : Int} (ha : (-1048576 ≤ a ∧ a ≤ 1048576)) (hb : (-1048576 ≤ b ∧ b ≤ 1048576)) (hc : (-1048576 ≤ c ∧ c ≤ 1048576)) (hd : (-1048576 ≤ d ∧ d ≤ 1048576)) : -9223372036854775808 ≤ nq a b c d ∧ nq a b c d ≤ 9223372036854775807 := by
  have h1 := sq_b ha ha; have h2 := sq_b hb hb; have h3 := sq_b hc hc; have h4 := sq_b hd hd
  unfold nq; omega
theorem ql_N4 {a b c d : Int} (ha : (-1048576 ≤ a ∧ a ≤ 1048576)) (hb : (-1048576 ≤ b ∧ b ≤ 1048576)) (hc : (-1048576 ≤ c ∧ c ≤ 1048576)) (hd : (-1048576 ≤ d ∧ d ≤ 1048576)) : QL (N4 a b c d) 3 := by
  have h := nq_b ha hb hc hd
  exact ql_int (lenZ_int h.1 h.2) (by decide)
theorem divInt_cancel {z n : Int} (hn : n ≠ 0) : Rat.divInt z n * (n : Rat) = (z : Rat) := by
  rw [Rat.divInt_eq_div]
  exact Rat.div_mul_cancel (fun h => hn (Rat.intCast_eq_zero_iff.1 h))
theorem r00_b {a b c d : Int} (ha : (-1048576 ≤ a ∧ a ≤ 1048576)) (hb : (-1048576 ≤ b ∧ b ≤ 1048576)) (hc : (-1048576 ≤ c ∧ c ≤ 1048576)) (hd : (-1048576 ≤ d ∧ d ≤ 1048576)) : -9223372036854775808 ≤ r00 a b c d ∧ r00 a b c d ≤ 9223372036854775807 := by
  have h0 := sq_b ha ha; have h1 := sq_b hb hb; have h2 := sq_b hc hc; have h3 := sq_b hd hd
  unfold r00; omega
theorem ql_R00 {a b c d : Int} (ha : (-1048576 ≤ a ∧ a ≤ 1048576)) (hb : (-1048576 ≤ b ∧ b ≤ 1048576)) (hc : (-1048576 ≤ c ∧ c ≤ 1048576)) (hd : (-1048576 ≤ d ∧ d ≤ 1048576)) : QL (R00 a b c d) 3 := by
  have h := r00_b ha hb hc hd
  exact ql_int (lenZ_int h.1 h.2) (by decide)
theorem ql_Q00 {a b c d : Int} (ha : (-1048576 ≤ a ∧ a ≤ 1048576)) (hb : (-1048576 ≤ b ∧ b ≤ 1048576)) (hc : (-1048576 ≤ c ∧ c ≤ 1048576)) (hd : (-1048576 ≤ d ∧ d ≤ 1048576)) : QL (Q00 a b c d) 3 := by
  have h := r00_b ha hb hc hd; have h2 := nq_b ha hb hc hd
  exact ql_divInt (lenZ_int h.1 h.2) (lenZ_int h2.1 h2.2) (by decide)
theorem Q00_n {a b c d : Int} (h : nq a b c d ≠ 0) : Q00 a b c d * N4 a b c d = R00 a b c d := divInt_cancel h
theorem r01_b {a b c d : Int} (ha : (-1048576 ≤ a ∧ a ≤ 1048576)) (hb : (-1048576 ≤ b ∧ b ≤ 1048576)) (hc : (-1048576 ≤ c ∧ c ≤ 1048576)) (hd : (-1048576 ≤ d ∧ d ≤ 1048576)) : -9223372036854775808 ≤ r01 a b c d ∧ r01 a b c d ≤ 9223372036854775807 := by
  have h0 := sq_b hb hc; have h1 := sq_b ha hd
  unfold r01; omega
theorem ql_R01 {a b c d : Int} (ha : (-1048576 ≤ a ∧ a ≤ 1048576)) (hb : (-1048576 ≤ b ∧ b ≤ 1048576)) (hc : (-1048576 ≤ c ∧ c ≤ 1048576)) (hd : (-1048576 ≤ d ∧ d ≤ 1048576)) : QL (R01 a b c d) 3 := by
  have h := r01_b ha hb hc hd
  exact ql_int (lenZ_int h.1 h.2) (by decide)
theorem ql_Q01 {a b c d : Int} (ha : (-1048576 ≤ a ∧ a ≤ 1048576)) (hb : (-1048576 ≤ b ∧ b ≤ 1048576)) (hc : (-1048576 ≤ c ∧ c ≤ 1048576)) (hd : (-1048576 ≤ d ∧ d ≤ 1048576)) : QL (Q01 a b c d) 3 := by
  have h := r01_b ha hb hc hd; have h2 := nq_b ha hb hc hd
  exact ql_divInt (lenZ_int h.1 h.2) (lenZ_int h2.1 h2.2) (by decide)
theorem Q01_n {a b c d : Int} (h : nq a b c d ≠ 0) : Q01 a b c d * N4 a b c d = R01 a b c d := divInt_cancel h
theorem r02_b {a b c d : Int} (ha : (-1048576 ≤ a ∧ a ≤ 1048576)) (hb : (-1048576 ≤ b ∧ b ≤ 1048576)) (hc : (-1048576 ≤ c ∧ c ≤ 1048576)) (hd : (-1048576 ≤ d ∧ d ≤ 1048576)) : -9223372036854775808 ≤ r02 a b c d ∧ r02 a b c d ≤ 9223372036854775807 := by
  have h0 := sq_b hb hd; have h1 := sq_b ha hc
  unfold r02; omega
theorem ql_R02 {a b c d : Int} (ha : (-1048576 ≤ a ∧ a ≤ 1048576)) (hb : (-1048576 ≤ b ∧ b ≤ 1048576)) (hc : (-1048576 ≤ c ∧ c ≤ 1048576)) (hd : (-1048576 ≤ d ∧ d ≤ 1048576)) : QL (R02 a b c d) 3 := by
  have h := r02_b ha hb hc hd
  exact ql_int (lenZ_int h.1 h.2) (by decide)
theorem ql_Q02 {a b c d : Int} (ha : (-1048576 ≤ a ∧ a ≤ 1048576)) (hb : (-1048576 ≤ b ∧ b ≤ 1048576)) (hc : (-1048576 ≤ c ∧ c ≤ 1048576)) (hd : (-1048576 ≤ d ∧ d ≤ 1048576)) : QL (Q02 a b c d) 3 := by
  have h := r02_b ha hb hc hd; have h2 := nq_b ha hb hc hd
  exact ql_divInt (lenZ_int h.1 h.2) (lenZ_int h2.1 h2.2) (by decide)
theorem Q02_n {a b c d : Int} (h : nq a b c d ≠ 0) : Q02 a b c d * N4 a b c d = R02 a b c d := divInt_cancel h
theorem r10_b {a b c d : Int} (ha : (-1048576 ≤ a ∧ a ≤ 1048576)) (hb : (-1048576 ≤ b ∧ b ≤ 1048576)) (hc : (-1048576 ≤ c ∧ c ≤ 1048576)) (hd : (-1048576 ≤ d ∧ d ≤ 1048576)) : -9223372036854775808 ≤ r10 a b c d ∧ r10 a b c d ≤ 9223372036854775807 := by
  have h0 := sq_b hb hc; have h1 := sq_b ha hd
  unfold r10; omega
theorem ql_R10 {a b c d : Int} (ha : (-1048576 ≤ a ∧ a ≤ 1048576)) (hb : (-1048576 ≤ b ∧ b ≤ 1048576)) (hc : (-1048576 ≤ c ∧ c ≤ 1048576)) (hd : (-1048576 ≤ d ∧ d ≤ 1048576)) : QL (R10 a b c d) 3 := by
  have h := r10_b ha hb hc hd
  exact ql_int (lenZ_int h.1 h.2) (by decide)
theorem ql_Q10 {a b c d : Int} (ha : (-1048576 ≤ a ∧ a ≤ 1048576)) (hb : (-1048576 ≤ b ∧ b ≤ 1048576)) (hc : (-1048576 ≤ c ∧ c ≤ 1048576)) (hd : (-1048576 ≤ d ∧ d ≤ 1048576)) : QL (Q10 a b c d) 3 := by
  have h := r10_b ha hb hc hd; have h2 := nq_b ha hb hc hd
  exact ql_divInt (lenZ_int h.1 h.2) (lenZ_int h2.1 h2.2) (by decide)
theorem Q10_n {a b c d : Int} (h : nq a b c d ≠ 0) : Q10 a b c d * N4 a b c d = R10 a b c d := divInt_cancel h
theorem r11_b {a b c d : Int} (ha : (-1048576 ≤ a ∧ a ≤ 1048576)) (hb : (-1048576 ≤ b ∧ b ≤ 1048576)) (hc : (-1048576 ≤ c ∧ c ≤ 1048576)) (hd : (-1048576 ≤ d ∧ d ≤ 1048576)) : -9223372036854775808 ≤ r11 a b c d ∧ r11 a b c d ≤ 9223372036854775807 := by
  have h0 := sq_b ha ha; have h1 := sq_b hb hb; have h2 := sq_b hc hc; have h3 := sq_b hd hd
  unfold r11; omega
theorem ql_R11 {a b c d : Int} (ha : (-1048576 ≤ a ∧ a ≤ 1048576)) (hb : (-1048576 ≤ b ∧ b ≤ 1048576)) (hc : (-1048576 ≤ c ∧ c ≤ 1048576)) (hd : (-1048576 ≤ d ∧ d ≤ 1048576)) : QL (R11 a b c d) 3 := by
  have h := r11_b ha hb hc hd
  exact ql_int (lenZ_int h.1 h.2) (by decide)
theorem ql_Q11 {a b c d : Int} (ha : (-1048576 ≤ a ∧ a ≤ 1048576)) (hb : (-1048576 ≤ b ∧ b ≤ 1048576)) (hc : (-1048576 ≤ c ∧ c ≤ 1048576)) (hd : (-1048576 ≤ d ∧ d ≤ 1048576)) : QL (Q11 a b c d) 3 := by
  have h := r11_b ha hb hc hd; have h2 := nq_b ha hb hc hd
  exact ql_divInt (lenZ_int h.1 h.2) (lenZ_int h2.1 h2.2) (by decide)
theorem Q11_n {a b c d : Int} (h : nq a b c d ≠ 0) : Q11 a b c d * N4 a b c d = R11 a b c d := divInt_cancel h
theorem r12_b {a b c d : Int} (ha : (-1048576 ≤ a ∧ a ≤ 1048576)) (hb : (-1048576 ≤ b ∧ b ≤ 1048576)) (hc : (-1048576 ≤ c ∧ c ≤ 1048576)) (hd : (-1048576 ≤ d ∧ d ≤ 1048576)) : -9223372036854775808 ≤ r12 a b c d ∧ r12 a b c d ≤ 9223372036854775807 := by
  have h0 := sq_b hc hd; have h1 := sq_b ha hb
  unfold r12; omega
theorem ql_R12 {a b c d : Int} (ha : (-1048576 ≤ a ∧ a ≤ 1048576)) (hb : (-1048576 ≤ b ∧ b ≤ 1048576)) (hc : (-1048576 ≤ c ∧ c ≤ 1048576)) (hd : (-1048576 ≤ d ∧ d ≤ 1048576)) : QL (R12 a b c d) 3 := by
  have h := r12_b ha hb hc hd
  exact ql_int (lenZ_int h.1 h.2) (by decide)
theorem ql_Q12 {a b c d : Int} (ha : (-1048576 ≤ a ∧ a ≤ 1048576)) (hb : (-1048576 ≤ b ∧ b ≤ 1048576)) (hc : (-1048576 ≤ c ∧ c ≤ 1048576)) (hd : (-1048576 ≤ d ∧ d ≤ 1048576)) : QL (Q12 a b c d) 3 := by
  have h := r12_b ha hb hc hd; have h2 := nq_b ha hb hc hd
  exact ql_divInt (lenZ_int h.1 h.2) (lenZ_int h2.1 h2.2) (by decide)
theorem Q12_n {a b c d : Int} (h : nq a b c d ≠ 0) : Q12 a b c d * N4 a b c d = R12 a b c d := divInt_cancel h
theorem r20_b {a b c d : Int} (ha : (-1048576 ≤ a ∧ a ≤ 1048576)) (hb : (-1048576 ≤ b ∧ b ≤ 1048576)) (hc : (-1048576 ≤ c ∧ c ≤ 1048576)) (hd : (-1048576 ≤ d ∧ d ≤ 1048576)) : -9223372036854775808 ≤ r20 a b c d ∧ r20 a b c d ≤ 9223372036854775807 := by
  have h0 := sq_b hb hd; have h1 := sq_b ha hc
  unfold r20; omega
theorem ql_R20 {a b c d : Int} (ha : (-1048576 ≤ a ∧ a ≤ 1048576)) (hb : (-1048576 ≤ b ∧ b ≤ 1048576)) (hc : (-1048576 ≤ c ∧ c ≤ 1048576)) (hd : (-1048576 ≤ d ∧ d ≤ 1048576)) : QL (R20 a b c d) 3 := by
  have h := r20_b ha hb hc hd
  exact ql_int (lenZ_int h.1 h.2) (by decide)
theorem ql_Q20 {a b c d : Int} (ha : (-1048576 ≤ a ∧ a ≤ 1048576)) (hb : (-1048576 ≤ b ∧ b ≤ 1048576)) (hc : (-1048576 ≤ c ∧ c ≤ 1048576)) (hd : (-1048576 ≤ d ∧ d ≤ 1048576)) : QL (Q20 a b c d) 3 := by
  have h := r20_b ha hb hc hd; have h2 := nq_b ha hb hc hd
  exact ql_divInt (lenZ_int h.1 h.2) (lenZ_int h2.1 h2.2) (by decide)
theorem Q20_n {a b c d : Int} (h : nq a b c d ≠ 0) : Q20 a b c d * N4 a b c d = R20 a b c d := divInt_cancel h
theorem r21_b {a b c d : Int} (ha : (-1048576 ≤ a ∧ a ≤ 1048576)) (hb : (-1048576 ≤ b ∧ b ≤ 1048576)) (hc : (-1048576 ≤ c ∧ c ≤ 1048576)) (hd : (-1048576 ≤ d ∧ d ≤ 1048576)) : -9223372036854775808 ≤ r21 a b c d ∧ r21 a b c d ≤ 9223372036854775807 := by
  have h0 := sq_b hc hd; have h1 := sq_b ha hb
  unfold r21; omega
theorem ql_R21 {a b c d : Int} (ha : (-1048576 ≤ a ∧ a ≤ 1048576)) (hb : (-1048576 ≤ b ∧ b ≤ 1048576)) (hc : (-1048576 ≤ c ∧ c ≤ 1048576)) (hd : (-1048576 ≤ d ∧ d ≤ 1048576)) : QL (R21 a b c d) 3 := by
  have h := r21_b ha hb hc hd
  exact ql_int (lenZ_int h.1 h.2) (by decide)
theorem ql_Q21 {a b c d : Int} (ha : (-1048576 ≤ a ∧ a ≤ 1048576)) (hb : (-1048576 ≤ b ∧ b ≤ 1048576)) (hc : (-1048576 ≤ c ∧ c ≤ 1048576)) (hd : (-1048576 ≤ d ∧ d ≤ 1048576)) : QL (Q21 a b c d) 3 := by
  have h := r21_b ha hb hc hd; have h2 := nq_b ha hb hc hd
  exact ql_divInt (lenZ_int h.1 h.2) (lenZ_int h2.1 h2.2) (by decide)
theorem Q21_n {a b c d : Int} (h : nq a b c d ≠ 0) : Q21 a b c d * N4 a b c d = R21 a b c d := divInt_cancel h
theorem r22_b {a b c d : Int} (ha : (-1048576 ≤ a ∧ a ≤ 1048576)) (hb : (-1048576 ≤ b ∧ b ≤ 1048576)) (hc : (-1048576 ≤ c ∧ c ≤ 1048576)) (hd : (-1048576 ≤ d ∧ d ≤ 1048576)) : -9223372036854775808 ≤ r22 a b c d ∧ r22 a b c d ≤ 9223372036854775807 := by
  have h0 := sq_b ha ha; have h1 := sq_b hb hb; have h2 := sq_b hc hc; have h3 := sq_b hd hd
  unfold r22; omega
theorem ql_R22 {a b c d : Int} (ha : (-1048576 ≤ a ∧ a ≤ 1048576)) (hb : (-1048576 ≤ b ∧ b ≤ 1048576)) (hc : (-1048576 ≤ c ∧ c ≤ 1048576)) (hd : (-1048576 ≤ d ∧ d ≤ 1048576)) : QL (R22 a b c d) 3 := by
  have h := r22_b ha hb hc hd
  exact ql_int (lenZ_int h.1 h.2) (by decide)
theorem ql_Q22 {a b c d : Int} (ha : (-1048576 ≤ a ∧ a ≤ 1048576)) (hb : (-1048576 ≤ b ∧ b ≤ 1048576)) (hc : (-1048576 ≤ c ∧ c ≤ 1048576)) (hd : (-1048576 ≤ d ∧ d ≤ 1048576)) : QL (Q22 a b c d) 3 := by
  have h := r22_b ha hb hc hd; have h2 := nq_b ha hb hc hd
  exact ql_divInt (lenZ_int h.1 h.2) (lenZ_int h2.1 h2.2) (by decide)
theorem Q22_n {a b c d : Int} (h : nq a b c d ≠ 0) : Q22 a b c d * N4 a b c d = R22 a b c d := divInt_cancel h
theorem ql_eqz {x y : Rat} {n : Nat} (h : x = y) (hy : QL y n) : QL x n := h ▸ hy
def zeroV (a b c : Rat) : Bool := decide (a = 0) && (decide (b = 0) && decide (c = 0))
theorem zeroV_no {a b c : Rat} (h : zeroV a b c = false) : ¬ (a = 0 ∧ b = 0 ∧ c = 0) := by
  rintro ⟨rfl, rfl, rfl⟩; simp [zeroV] at h
theorem zeroV_yes {a b c : Rat} (h : zeroV a b c = true) : a = 0 ∧ b = 0 ∧ c = 0 := by
  simp [zeroV] at h; exact h
theorem zeroV_of {a b c : Rat} (h : a = 0 ∧ b = 0 ∧ c = 0) : zeroV a b c = true := by
  simp [zeroV, h]
theorem zeroV_not {a b c : Rat} (h : ¬ (a = 0 ∧ b = 0 ∧ c = 0)) : zeroV a b c = false := by
  rcases e : zeroV a b c with _ | _
  · rfl
  · exact absurd (zeroV_yes e) h
theorem rsq_nn (a : Rat) : 0 ≤ a * a := by
  rcases Rat.le_total (a := 0) (b := a) with h | h
  · exact Rat.mul_nonneg h h
  · have : 0 ≤ (-a) * (-a) := Rat.mul_nonneg (by grind) (by grind)
    grind
theorem rsq_zero {a : Rat} (h : a * a = 0) : a = 0 := by
  rcases Rat.mul_eq_zero.1 h with h | h <;> exact h
theorem dot3_self {a b c : Rat} : dot3 a b c a b c = 0 ↔ (a = 0 ∧ b = 0 ∧ c = 0) := by
  unfold dot3
  refine ⟨fun h => ?_, fun ⟨h1, h2, h3⟩ => by rw [h1, h2, h3]; grind⟩
  have ha := rsq_nn a; have hb := rsq_nn b; have hc := rsq_nn c
  exact ⟨rsq_zero (by grind), rsq_zero (by grind), rsq_zero (by grind)⟩
theorem zeroV_dot (a b c : Rat) : (signQ (dot3 a b c a b c) == 0) = zeroV a b c := by
  rcases e : zeroV a b c with _ | _
  · exact beq_eq_false_iff_ne.2 (fun h => zeroV_no e (dot3_self.1 (signQ_zero.1 h)))
  · exact beq_iff_eq.2 (signQ_zero.2 (dot3_self.2 (zeroV_yes e)))
theorem zeroV_sgn (a b c : Rat) : zeroV a b c = (((signQ a == 0) && (signQ b == 0)) && (signQ c == 0)) := by
  have h : ∀ x : Rat, (signQ x == 0) = decide (x = 0) := fun x => by
    by_cases e : x = 0
    · rw [decide_eq_true e]; exact beq_iff_eq.2 (signQ_zero.2 e)
    · rw [decide_eq_false e]; exact beq_eq_false_iff_ne.2 (fun q => e (signQ_zero.1 q))
  rw [h, h, h, Bool.and_assoc]; rfl
def gcd3 (a b c : Rat) : Int := ((Int.gcd a.num ((Int.gcd b.num c.num : Nat) : Int) : Nat) : Int)
theorem gcd3_ref (a b c : Rat) : ((Int.gcd (((Int.gcd (((Int.gcd 0 a.num : Nat)) : Int) b.num : Nat)) : Int) c.num : Nat) : Int) = gcd3 a b c := by
  unfold gcd3
  rw [Int.gcd_zero_left]
  have h1 : ∀ (x : Int) (y : Int), Int.gcd ((x.natAbs : Nat) : Int) y = Int.gcd x y := fun x y => by
    unfold Int.gcd; rw [Int.natAbs_natCast]
  rw [h1, Int.gcd_assoc]
theorem gcd3_ne {a b c : Rat} (h : zeroV a b c = false) : gcd3 a b c ≠ 0 := fun e => by
  unfold gcd3 at e
  have e0 : Int.gcd a.num ((Int.gcd b.num c.num : Nat) : Int) = 0 := by omega
  obtain ⟨e1, e2⟩ := Int.gcd_eq_zero_iff.1 e0
  obtain ⟨e3, e4⟩ := Int.gcd_eq_zero_iff.1 (show Int.gcd b.num c.num = 0 by omega)
  exact zeroV_no h ⟨Rat.num_eq_zero.1 e1, Rat.num_eq_zero.1 e3, Rat.num_eq_zero.1 e4⟩
def redK (a b c : Rat) : Rat := Rat.divInt 1 (gcd3 a b c)
theorem lenZ_gcd0 {a b : Int} {n : Nat} (ha : lenZ a ≤ n) (hb : lenZ b ≤ n) : lenZ ((Int.gcd a b : Nat) : Int) ≤ n := by
  by_cases h : b = 0
  · rw [h, Int.gcd_zero_right]; exact Nat.le_trans (lenZ_of_le (by omega)) ha
  · exact lenZ_gcd h hb
theorem ql_redK {a b c : Rat} {n k : Nat} (ha : QL a n) (hb : QL b n) (hc : QL c n) (h : n ≤ k) (h1 : 1 ≤ n) : QL (redK a b c) k :=
  ql_up (ql_divInt (Nat.le_trans (lenZ_one (by decide)) h1) (lenZ_gcd0 ha.1 (lenZ_gcd0 hb.1 hc.1)) h1) h
theorem redK_ne {a b c : Rat} (h : zeroV a b c = false) : redK a b c ≠ 0 := by
  have h1 := gcd3_ne h
  unfold redK
  rw [Rat.divInt_eq_div]
  intro e
  have h2 : ((gcd3 a b c : Int) : Rat) ≠ 0 := fun q => h1 (Rat.intCast_eq_zero_iff.1 q)
  have h3 := Rat.div_mul_cancel (a := ((1 : Int) : Rat)) h2
  rw [e, Rat.zero_mul] at h3
  exact absurd h3 (by decide)
theorem dot3_001 (a b c : Rat) : dot3 a b c ((0 : Int) : Rat) ((0 : Int) : Rat) ((1 : Int) : Rat) = c := by
  unfold dot3
  rw [Rat.intCast_zero, Rat.intCast_one, Rat.mul_zero, Rat.mul_zero, Rat.mul_one, Rat.zero_add, Rat.zero_add]
def dq0 (a b c d p q r s : Int) : Rat := (R02 a b c d * N4 p q r s) + (R02 p q r s * N4 a b c d)
theorem dq0_eq (a b c d p q r s : Int) : (R02 a b c d * N4 p q r s) + (R02 p q r s * N4 a b c d) = dq0 a b c d p q r s := rfl
def dq1 (a b c d p q r s : Int) : Rat := (R12 a b c d * N4 p q r s) + (R12 p q r s * N4 a b c d)
theorem dq1_eq (a b c d p q r s : Int) : (R12 a b c d * N4 p q r s) + (R12 p q r s * N4 a b c d) = dq1 a b c d p q r s := rfl
def dq2 (a b c d p q r s : Int) : Rat := (R22 a b c d * N4 p q r s) + (R22 p q r s * N4 a b c d)
theorem dq2_eq (a b c d p q r s : Int) : (R22 a b c d * N4 p q r s) + (R22 p q r s * N4 a b c d) = dq2 a b c d p q r s := rfl
def RFr (lx ly lz la lb lc ld rx ry rz ra rb rc rd : Int) (b0 b1 b2 e00 e01 e02 e10 e11 e12 e20 e21 e22 : Rat) : Prop :=
  (((rx - lx) : Int) : Rat) = b0 ∧
  (((ry - ly) : Int) : Rat) = b1 ∧
  (((rz - lz) : Int) : Rat) = b2 ∧
  b0 * redK b0 b1 b2 = e00 ∧
  b1 * redK b0 b1 b2 = e01 ∧
  b2 * redK b0 b1 b2 = e02 ∧
  (((dq1 la lb lc ld ra rb rc rd) * e02) - ((dq2 la lb lc ld ra rb rc rd) * e01)) * redK (((dq1 la lb lc ld ra rb rc rd) * e02) - ((dq2 la lb lc ld ra rb rc rd) * e01)) (((dq2 la lb lc ld ra rb rc rd) * e00) - ((dq0 la lb lc ld ra rb rc rd) * e02)) (((dq0 la lb lc ld ra rb rc rd) * e01) - ((dq1 la lb lc ld ra rb rc rd) * e00)) = e10 ∧
  (((dq2 la lb lc ld ra rb rc rd) * e00) - ((dq0 la lb lc ld ra rb rc rd) * e02)) * redK (((dq1 la lb lc ld ra rb rc rd) * e02) - ((dq2 la lb lc ld ra rb rc rd) * e01)) (((dq2 la lb lc ld ra rb rc rd) * e00) - ((dq0 la lb lc ld ra rb rc rd) * e02)) (((dq0 la lb lc ld ra rb rc rd) * e01) - ((dq1 la lb lc ld ra rb rc rd) * e00)) = e11 ∧
  (((dq0 la lb lc ld ra rb rc rd) * e01) - ((dq1 la lb lc ld ra rb rc rd) * e00)) * redK (((dq1 la lb lc ld ra rb rc rd) * e02) - ((dq2 la lb lc ld ra rb rc rd) * e01)) (((dq2 la lb lc ld ra rb rc rd) * e00) - ((dq0 la lb lc ld ra rb rc rd) * e02)) (((dq0 la lb lc ld ra rb rc rd) * e01) - ((dq1 la lb lc ld ra rb rc rd) * e00)) = e12 ∧
  ((e01 * e12) - (e02 * e11)) * redK ((e01 * e12) - (e02 * e11)) ((e02 * e10) - (e00 * e12)) ((e00 * e11) - (e01 * e10)) = e20 ∧
  ((e02 * e10) - (e00 * e12)) * redK ((e01 * e12) - (e02 * e11)) ((e02 * e10) - (e00 * e12)) ((e00 * e11) - (e01 * e10)) = e21 ∧
  ((e00 * e11) - (e01 * e10)) * redK ((e01 * e12) - (e02 * e11)) ((e02 * e10) - (e00 * e12)) ((e00 * e11) - (e01 * e10)) = e22
instance {lx ly lz la lb lc ld rx ry rz ra rb rc rd : Int} {b0 b1 b2 e00 e01 e02 e10 e11 e12 e20 e21 e22 : Rat} : Decidable (RFr lx ly lz la lb lc ld rx ry rz ra rb rc rd b0 b1 b2 e00 e01 e02 e10 e11 e12 e20 e21 e22) := by unfold RFr; infer_instance
def upV (la lb lc ld ra rb rc rd : Int) (b0 b1 b2 : Rat) : Bool := zeroV (((dq1 la lb lc ld ra rb rc rd) * b2) - ((dq2 la lb lc ld ra rb rc rd) * b1)) (((dq2 la lb lc ld ra rb rc rd) * b0) - ((dq0 la lb lc ld ra rb rc rd) * b2)) (((dq0 la lb lc ld ra rb rc rd) * b1) - ((dq1 la lb lc ld ra rb rc rd) * b0))
def stn2 (m n : Nat) : Nat := if m = 0 then n else m
theorem stn2_l {m n c : Nat} (h : ((m : Nat) : Int) ≠ ((0 : Nat) : Int)) (hc : stn2 m n = c) : m = c := by
  unfold stn2 at hc; rw [if_neg (by omega)] at hc; exact hc
theorem stn2_r {m n c : Nat} (h : ((m : Nat) : Int) = ((0 : Nat) : Int)) (hc : stn2 m n = c) : n = c := by
  unfold stn2 at hc; rw [if_pos (by omega)] at hc; exact hc
theorem stn2_0 {m n c : Nat} (h : ((m : Nat) : Int) = ((0 : Nat) : Int)) (h2 : ((n : Nat) : Int) = ((0 : Nat) : Int)) (hc : stn2 m n = c) : c = 0 := by
  rw [← stn2_r h hc]; omega
theorem cross_k (d0 d1 d2 a b c k : Rat) : (d1 * (c * k)) - (d2 * (b * k)) = (d1 * c - d2 * b) * k ∧ (d2 * (a * k)) - (d0 * (c * k)) = (d2 * a - d0 * c) * k ∧ (d0 * (b * k)) - (d1 * (a * k)) = (d0 * b - d1 * a) * k := by
  refine ⟨?_, ?_, ?_⟩ <;> grind
theorem zeroV_k {a b c k : Rat} (hk : k ≠ 0) : zeroV (a * k) (b * k) (c * k) = zeroV a b c := by
  have h : ∀ x : Rat, x * k = 0 ↔ x = 0 := fun x => ⟨fun e => (Rat.mul_eq_zero.1 e).resolve_right hk, fun e => by rw [e, Rat.zero_mul]⟩
  unfold zeroV
  simp only [h]
theorem upV_base {la lb lc ld ra rb rc rd : Int} {b0 b1 b2 : Rat} (h : upV la lb lc ld ra rb rc rd b0 b1 b2 = false) : zeroV b0 b1 b2 = false := by
  refine zeroV_not (fun ⟨h1, h2, h3⟩ => ?_)
  subst h1; subst h2; subst h3
  have h9 := zeroV_no h
  exact h9 ⟨by grind, by grind, by grind⟩
theorem up_zs {la lb lc ld ra rb rc rd : Int} {b0 b1 b2 : Rat} {v : Bool} (hz : zeroV b0 b1 b2 = false) (h : upV la lb lc ld ra rb rc rd b0 b1 b2 = v) : zeroV (((dq1 la lb lc ld ra rb rc rd) * (b2 * (redK b0 b1 b2))) - ((dq2 la lb lc ld ra rb rc rd) * (b1 * (redK b0 b1 b2)))) (((dq2 la lb lc ld ra rb rc rd) * (b0 * (redK b0 b1 b2))) - ((dq0 la lb lc ld ra rb rc rd) * (b2 * (redK b0 b1 b2)))) (((dq0 la lb lc ld ra rb rc rd) * (b1 * (redK b0 b1 b2))) - ((dq1 la lb lc ld ra rb rc rd) * (b0 * (redK b0 b1 b2)))) = v := by
  have hc := cross_k (dq0 la lb lc ld ra rb rc rd) (dq1 la lb lc ld ra rb rc rd) (dq2 la lb lc ld ra rb rc rd) b0 b1 b2 (redK b0 b1 b2)
  rw [hc.1, hc.2.1, hc.2.2, zeroV_k (redK_ne hz)]
  exact h
section
variable {lx ly lz la lb lc ld rx ry rz ra rb rc rd : Int} {b0 b1 b2 e00 e01 e02 e10 e11 e12 e20 e21 e22 : Rat}
theorem fr_zb (hF : RFr lx ly lz la lb lc ld rx ry rz ra rb rc rd b0 b1 b2 e00 e01 e02 e10 e11 e12 e20 e21 e22) (hup : upV la lb lc ld ra rb rc rd b0 b1 b2 = false) : zeroV b0 b1 b2 = false := upV_base hup
theorem fr_zs (hF : RFr lx ly lz la lb lc ld rx ry rz ra rb rc rd b0 b1 b2 e00 e01 e02 e10 e11 e12 e20 e21 e22) (hup : upV la lb lc ld ra rb rc rd b0 b1 b2 = false) : zeroV (((dq1 la lb lc ld ra rb rc rd) * e02) - ((dq2 la lb lc ld ra rb rc rd) * e01)) (((dq2 la lb lc ld ra rb rc rd) * e00) - ((dq0 la lb lc ld ra rb rc rd) * e02)) (((dq0 la lb lc ld ra rb rc rd) * e01) - ((dq1 la lb lc ld ra rb rc rd) * e00)) = false := by
  have h := up_zs (upV_base hup) hup
  obtain ⟨-, -, -, he0, he1, he2, -⟩ := hF
  rw [he0, he1, he2] at h
  exact h
theorem orth_cross (a b c d0 d1 d2 : Rat) : dot3 a b c ((d1 * c) - (d2 * b)) ((d2 * a) - (d0 * c)) ((d0 * b) - (d1 * a)) = 0 := by unfold dot3; grind
theorem dot3_k (a b c x y z k : Rat) : dot3 a b c (x * k) (y * k) (z * k) = dot3 a b c x y z * k := by unfold dot3; grind
theorem fr_01 (hF : RFr lx ly lz la lb lc ld rx ry rz ra rb rc rd b0 b1 b2 e00 e01 e02 e10 e11 e12 e20 e21 e22) : dot3 e00 e01 e02 e10 e11 e12 = 0 := by
  obtain ⟨-, -, -, -, -, -, he0, he1, he2, -⟩ := hF
  rw [← he0, ← he1, ← he2, dot3_k, orth_cross, Rat.zero_mul]
theorem lagr (a b c x y z : Rat) : dot3 (b * z - c * y) (c * x - a * z) (a * y - b * x) (b * z - c * y) (c * x - a * z) (a * y - b * x) = dot3 a b c a b c * dot3 x y z x y z - dot3 a b c x y z * dot3 a b c x y z := by
  unfold dot3; grind
theorem fr_z0 (hF : RFr lx ly lz la lb lc ld rx ry rz ra rb rc rd b0 b1 b2 e00 e01 e02 e10 e11 e12 e20 e21 e22) (hup : upV la lb lc ld ra rb rc rd b0 b1 b2 = false) : zeroV e00 e01 e02 = false := by
  have h := upV_base hup
  obtain ⟨-, -, -, he0, he1, he2, -⟩ := hF
  rw [← zeroV_k (redK_ne h), he0, he1, he2] at h
  exact h
theorem fr_z1 (hF : RFr lx ly lz la lb lc ld rx ry rz ra rb rc rd b0 b1 b2 e00 e01 e02 e10 e11 e12 e20 e21 e22) (hup : upV la lb lc ld ra rb rc rd b0 b1 b2 = false) : zeroV e10 e11 e12 = false := by
  have h := fr_zs hF hup
  obtain ⟨-, -, -, -, -, -, he0, he1, he2, -⟩ := hF
  rw [← zeroV_k (redK_ne h), he0, he1, he2] at h
  exact h
theorem fr_zt (hF : RFr lx ly lz la lb lc ld rx ry rz ra rb rc rd b0 b1 b2 e00 e01 e02 e10 e11 e12 e20 e21 e22) (hup : upV la lb lc ld ra rb rc rd b0 b1 b2 = false) : zeroV ((e01 * e12) - (e02 * e11)) ((e02 * e10) - (e00 * e12)) ((e00 * e11) - (e01 * e10)) = false := by
  refine zeroV_not (fun hz => ?_)
  have h1 := dot3_self.2 hz
  rw [lagr, fr_01 hF, Rat.zero_mul, Rat.sub_eq_add_neg, Rat.neg_zero, Rat.add_zero] at h1
  rcases Rat.mul_eq_zero.1 h1 with h2 | h2
  · exact zeroV_no (fr_z0 hF hup) (dot3_self.1 h2)
  · exact zeroV_no (fr_z1 hF hup) (dot3_self.1 h2)
theorem fr_z2 (hF : RFr lx ly lz la lb lc ld rx ry rz ra rb rc rd b0 b1 b2 e00 e01 e02 e10 e11 e12 e20 e21 e22) (hup : upV la lb lc ld ra rb rc rd b0 b1 b2 = false) : zeroV e20 e21 e22 = false := by
  have h := fr_zt hF hup
  obtain ⟨-, -, -, -, -, -, -, -, -, he0, he1, he2⟩ := hF
  rw [← zeroV_k (redK_ne h), he0, he1, he2] at h
  exact h
end
theorem zb_ne {lx ly lz rx ry rz : Int} {b0 b1 b2 : Rat} (h0 : ((rx - lx : Int) : Rat) = b0) (h1 : ((ry - ly : Int) : Rat) = b1) (h2 : ((rz - lz : Int) : Rat) = b2) (h : ¬ ([lx, ly, lz] = [rx, ry, rz])) : zeroV b0 b1 b2 = false := by
  refine zeroV_not (fun ⟨q0, q1, q2⟩ => h ?_)
  rw [← h0] at q0; rw [← h1] at q1; rw [← h2] at q2
  have q0 := Rat.intCast_eq_zero_iff.1 q0; have q1 := Rat.intCast_eq_zero_iff.1 q1; have q2 := Rat.intCast_eq_zero_iff.1 q2
  rw [show lx = rx by omega, show ly = ry by omega, show lz = rz by omega]
theorem zb_eq {lx ly lz rx ry rz : Int} {b0 b1 b2 : Rat} (h0 : ((rx - lx : Int) : Rat) = b0) (h1 : ((ry - ly : Int) : Rat) = b1) (h2 : ((rz - lz : Int) : Rat) = b2) (h : [lx, ly, lz] = [rx, ry, rz]) : zeroV b0 b1 b2 = true := by
  simp only [List.cons.injEq, and_true] at h
  refine zeroV_of ⟨?_, ?_, ?_⟩
  · rw [← h0]; exact Rat.intCast_eq_zero_iff.2 (by omega)
  · rw [← h1]; exact Rat.intCast_eq_zero_iff.2 (by omega)
  · rw [← h2]; exact Rat.intCast_eq_zero_iff.2 (by omega)
end Go.Fid
namespace Go.Proofs.YtbecgnplakngdaaGreat
open Go.Fid
set_option maxRecDepth 4000
set_option linter.unusedVariables false
set_option linter.unusedSimpArgs false
theorem cb77 : callB Tryz.prog 77 = true := by kernel_rfl
theorem cb126 : callB Tryz.prog 126 = true := by kernel_rfl
theorem cb169 : callB Tryz.prog 169 = true := by kernel_rfl
theorem cb172 : callB Tryz.prog 172 = true := by kernel_rfl
theorem q_norm (a b c d : Int) (ha : -1048576 ≤ a ∧ a ≤ 1048576) (hb : -1048576 ≤ b ∧ b ≤ 1048576) (hc : -1048576 ≤ c ∧ c ≤ 1048576) (hd : -1048576 ≤ d ∧ d ≤ 1048576) : Takes Tryz.prog 126 [(encQuat (RQuat.mk a b c d))] (.val (.int .i64 ((nq a b c d)))) := by
  have saa := sq_b ha ha
  have sab := sq_b ha hb
  have sac := sq_b ha hc
  have sad := sq_b ha hd
  have sbb := sq_b hb hb
  have sbc := sq_b hb hc
  have sbd := sq_b hb hd
  have scc := sq_b hc hc
  have scd := sq_b hc hd
  have sdd := sq_b hd hd
  refine fn_intro Tryz.func126 rfl cb126 rfl ?_
  show PWp _ _ _ _ ⟨[(0, (.d (encQuat (RQuat.mk a b c d))))], []⟩
  refine pwp_seq <| kx [(1, (.ref 0 0))] [(0, some (bx (encQuat (RQuat.mk a b c d))))] (zN (oBx 0) <| zM <| zZ) ?_
  refine pwp_seq <| kx [(2, (vi ((((a * a) + (b * b)) + (c * c)) + (d * d))))] [] (zE (oFr fo25_0) <| zR (oL1 sh3) <| zE (oFr fo25_0) <| zR (oL1 sh3) <| zE (zMl (a * a) (hr := by exact (wAny rfl (by simp only [kLo]; omega) (by simp only [kHi]; omega)))) <| zE (oFr fo25_1) <| zR (oL1 sh3) <| zE (oFr fo25_1) <| zR (oL1 sh3) <| zE (zMl (b * b) (hr := by exact (wAny rfl (by simp only [kLo]; omega) (by simp only [kHi]; omega)))) <| zE (zAd ((a * a) + (b * b)) (hr := by exact (wAny rfl (by simp only [kLo]; omega) (by simp only [kHi]; omega)))) <| zE (oFr fo25_2) <| zR (oL1 sh3) <| zE (oFr fo25_2) <| zR (oL1 sh3) <| zE (zMl (c * c) (hr := by exact (wAny rfl (by simp only [kLo]; omega) (by simp only [kHi]; omega)))) <| zE (zAd (((a * a) + (b * b)) + (c * c)) (hr := by exact (wAny rfl (by simp only [kLo]; omega) (by simp only [kHi]; omega)))) <| zE (oFr fo25_3) <| zR (oL1 sh3) <| zE (oFr fo25_3) <| zR (oL1 sh3) <| zE (zMl (d * d) (hr := by exact (wAny rfl (by simp only [kLo]; omega) (by simp only [kHi]; omega)))) <| zE (zAd ((((a * a) + (b * b)) + (c * c)) + (d * d)) (hr := by exact (wAny rfl (by simp only [kLo]; omega) (by simp only [kHi]; omega)))) <| zM <| zZ) ?_
  refine pwp_ret ⟨_, (.tmp (d := (.val (.int .i64 (((((a * a) + (b * b)) + (c * c)) + (d * d)))))) rfl .nil), ?_⟩
  rfl
theorem qr_norm (a b c d : Int) (ha : -1048576 ≤ a ∧ a ≤ 1048576) (hb : -1048576 ≤ b ∧ b ≤ 1048576) (hc : -1048576 ≤ c ∧ c ≤ 1048576) (hd : -1048576 ≤ d ∧ d ≤ 1048576) : Takes Tryz.prog 169 [(encQuat (RQuat.mk a b c d))] (.val (.int .i64 ((nq a b c d)))) := by
  have saa := sq_b ha ha
  have sab := sq_b ha hb
  have sac := sq_b ha hc
  have sad := sq_b ha hd
  have sbb := sq_b hb hb
  have sbc := sq_b hb hc
  have sbd := sq_b hb hd
  have scc := sq_b hc hc
  have scd := sq_b hc hd
  have sdd := sq_b hd hd
  refine fn_intro Tryz.func169 rfl cb169 rfl ?_
  show PWp _ _ _ _ ⟨[(0, (.d (encQuat (RQuat.mk a b c d))))], []⟩
  refine pwp_seq <| kx [(1, (.ref 0 0))] [(0, some (bx (encQuat (RQuat.mk a b c d))))] (zN (oBx 0) <| zM <| zZ) ?_
  refine pwp_seq <| kx [(2, (vi ((((a * a) + (b * b)) + (c * c)) + (d * d))))] [] (zE (oFr fo25_0) <| zR (oL1 sh3) <| zE (oFr fo25_0) <| zR (oL1 sh3) <| zE (zMl (a * a) (hr := by exact (wAny rfl (by simp only [kLo]; omega) (by simp only [kHi]; omega)))) <| zE (oFr fo25_1) <| zR (oL1 sh3) <| zE (oFr fo25_1) <| zR (oL1 sh3) <| zE (zMl (b * b) (hr := by exact (wAny rfl (by simp only [kLo]; omega) (by simp only [kHi]; omega)))) <| zE (zAd ((a * a) + (b * b)) (hr := by exact (wAny rfl (by simp only [kLo]; omega) (by simp only [kHi]; omega)))) <| zE (oFr fo25_2) <| zR (oL1 sh3) <| zE (oFr fo25_2) <| zR (oL1 sh3) <| zE (zMl (c * c) (hr := by exact (wAny rfl (by simp only [kLo]; omega) (by simp only [kHi]; omega)))) <| zE (zAd (((a * a) + (b * b)) + (c * c)) (hr := by exact (wAny rfl (by simp only [kLo]; omega) (by simp only [kHi]; omega)))) <| zE (oFr fo25_3) <| zR (oL1 sh3) <| zE (oFr fo25_3) <| zR (oL1 sh3) <| zE (zMl (d * d) (hr := by exact (wAny rfl (by simp only [kLo]; omega) (by simp only [kHi]; omega)))) <| zE (zAd ((((a * a) + (b * b)) + (c * c)) + (d * d)) (hr := by exact (wAny rfl (by simp only [kLo]; omega) (by simp only [kHi]; omega)))) <| zM <| zZ) ?_
  refine pwp_ret ⟨_, (.tmp (d := (.val (.int .i64 (((((a * a) + (b * b)) + (c * c)) + (d * d)))))) rfl .nil), ?_⟩
  rfl
theorem q8_norm (a b c d : Int) (ha : -1048576 ≤ a ∧ a ≤ 1048576) (hb : -1048576 ≤ b ∧ b ≤ 1048576) (hc : -1048576 ≤ c ∧ c ≤ 1048576) (hd : -1048576 ≤ d ∧ d ≤ 1048576) : Takes Tryz.prog 172 [(encQuat (RQuat.mk a b c d))] (.val (.int .i64 ((nq a b c d)))) := by
  have saa := sq_b ha ha
  have sab := sq_b ha hb
  have sac := sq_b ha hc
  have sad := sq_b ha hd
  have sbb := sq_b hb hb
  have sbc := sq_b hb hc
  have sbd := sq_b hb hd
  have scc := sq_b hc hc
  have scd := sq_b hc hd
  have sdd := sq_b hd hd
  refine fn_intro Tryz.func172 rfl cb172 rfl ?_
  show PWp _ _ _ _ ⟨[(0, (.d (encQuat (RQuat.mk a b c d))))], []⟩
  refine pwp_seq <| kx [(1, (.ref 0 0))] [(0, some (bx (encQuat (RQuat.mk a b c d))))] (zN (oBx 0) <| zM <| zZ) ?_
  refine pwp_seq <| kx [(2, (vi ((((a * a) + (b * b)) + (c * c)) + (d * d))))] [] (zE (oFr fo25_0) <| zR (oL1 sh3) <| zE (oFr fo25_0) <| zR (oL1 sh3) <| zE (zMl (a * a) (hr := by exact (wAny rfl (by simp only [kLo]; omega) (by simp only [kHi]; omega)))) <| zE (oFr fo25_1) <| zR (oL1 sh3) <| zE (oFr fo25_1) <| zR (oL1 sh3) <| zE (zMl (b * b) (hr := by exact (wAny rfl (by simp only [kLo]; omega) (by simp only [kHi]; omega)))) <| zE (zAd ((a * a) + (b * b)) (hr := by exact (wAny rfl (by simp only [kLo]; omega) (by simp only [kHi]; omega)))) <| zE (oFr fo25_2) <| zR (oL1 sh3) <| zE (oFr fo25_2) <| zR (oL1 sh3) <| zE (zMl (c * c) (hr := by exact (wAny rfl (by simp only [kLo]; omega) (by simp only [kHi]; omega)))) <| zE (zAd (((a * a) + (b * b)) + (c * c)) (hr := by exact (wAny rfl (by simp only [kLo]; omega) (by simp only [kHi]; omega)))) <| zE (oFr fo25_3) <| zR (oL1 sh3) <| zE (oFr fo25_3) <| zR (oL1 sh3) <| zE (zMl (d * d) (hr := by exact (wAny rfl (by simp only [kLo]; omega) (by simp only [kHi]; omega)))) <| zE (zAd ((((a * a) + (b * b)) + (c * c)) + (d * d)) (hr := by exact (wAny rfl (by simp only [kLo]; omega) (by simp only [kHi]; omega)))) <| zM <| zZ) ?_
  refine pwp_ret ⟨_, (.tmp (d := (.val (.int .i64 (((((a * a) + (b * b)) + (c * c)) + (d * d)))))) rfl .nil), ?_⟩
  rfl
theorem qs_norm (a b c d : Int) (ha : -1048576 ≤ a ∧ a ≤ 1048576) (hb : -1048576 ≤ b ∧ b ≤ 1048576) (hc : -1048576 ≤ c ∧ c ≤ 1048576) (hd : -1048576 ≤ d ∧ d ≤ 1048576) : Takes Tryz.prog 77 [(encQuat (RQuat.mk a b c d))] (encR (ofQ (N4 a b c d))) := by
  have saa := sq_b ha ha
  have sab := sq_b ha hb
  have sac := sq_b ha hc
  have sad := sq_b ha hd
  have sbb := sq_b hb hb
  have sbc := sq_b hb hc
  have sbd := sq_b hb hd
  have scc := sq_b hc hc
  have scd := sq_b hc hd
  have sdd := sq_b hd hd
  refine fn_intro Tryz.func77 rfl cb77 rfl ?_
  show PWp _ _ _ _ ⟨[(0, (.d (encQuat (RQuat.mk a b c d))))], []⟩
  refine pwp_seq <| kx [(1, (.ref 0 0)), (2, (.ref 1 0))] [(0, some (bx (encQuat (RQuat.mk a b c d)))), (1, some (bx (encR (RRat.mk (RInt.mk false []) (RInt.mk false [])))))] (zN (oBx 0) <| zN (oAl 1 ze42 zo42) <| zZ) ?_
  refine pwp_seq <| kx [] [(1, some (bx (encR (ofQ (((((a * a) + (b * b)) + (c * c)) + (d * d) : Int) : Rat)))))] (zE (oFr fo25_0) <| zR (oL1 sh3) <| zE (oFr fo25_0) <| zR (oL1 sh3) <| zE (zMl (a * a) (hr := by exact (wAny rfl (by simp only [kLo]; omega) (by simp only [kHi]; omega)))) <| zE (oFr fo25_1) <| zR (oL1 sh3) <| zE (oFr fo25_1) <| zR (oL1 sh3) <| zE (zMl (b * b) (hr := by exact (wAny rfl (by simp only [kLo]; omega) (by simp only [kHi]; omega)))) <| zE (zAd ((a * a) + (b * b)) (hr := by exact (wAny rfl (by simp only [kLo]; omega) (by simp only [kHi]; omega)))) <| zE (oFr fo25_2) <| zR (oL1 sh3) <| zE (oFr fo25_2) <| zR (oL1 sh3) <| zE (zMl (c * c) (hr := by exact (wAny rfl (by simp only [kLo]; omega) (by simp only [kHi]; omega)))) <| zE (zAd (((a * a) + (b * b)) + (c * c)) (hr := by exact (wAny rfl (by simp only [kLo]; omega) (by simp only [kHi]; omega)))) <| zE (oFr fo25_3) <| zR (oL1 sh3) <| zE (oFr fo25_3) <| zR (oL1 sh3) <| zE (zMl (d * d) (hr := by exact (wAny rfl (by simp only [kLo]; omega) (by simp only [kHi]; omega)))) <| zE (zAd ((((a * a) + (b * b)) + (c * c)) + (d * d)) (hr := by exact (wAny rfl (by simp only [kLo]; omega) (by simp only [kHi]; omega)))) <| zE (oCl (g_whole ((((a * a) + (b * b)) + (c * c)) + (d * d)) (by omega) (by omega))) <| zT (oSt sh42) <| zZ) ?_
  refine pwp_ret ⟨_, (res_a (cs := (bx (encR (ofQ (((((a * a) + (b * b)) + (c * c)) + (d * d) : Int) : Rat))))) (d := (encR (ofQ (((((a * a) + (b * b)) + (c * c)) + (d * d) : Int) : Rat)))) rfl rfl sh42 rfl rfl .nil), ?_⟩
  rfl
end Go.Proofs.YtbecgnplakngdaaGreat
namespace Go.Proofs.YtbecgnplakngdaaGreat
open Go.Fid
set_option maxRecDepth 4000
set_option linter.unusedVariables false
set_option linter.unusedSimpArgs false
end Go.Proofs.YtbecgnplakngdaaGreat
namespace Go.Proofs.YtbecgnplakngdaaGreat
open Go.Fid
set_option maxRecDepth 4000
set_option linter.unusedVariables false
set_option linter.unusedSimpArgs false
end Go.Proofs.YtbecgnplakngdaaGreat
namespace Go.Proofs.YtbecgnplakngdaaGreat
open Go.Fid
set_option maxRecDepth 4000
set_option linter.unusedVariables false
set_option linter.unusedSimpArgs false
end Go.Proofs.YtbecgnplakngdaaGreat
namespace Go.Proofs.YtbecgnplakngdaaGreat
open Go.Fid
set_option maxRecDepth 4000
set_option linter.unusedVariables false
set_option linter.unusedSimpArgs false
end Go.Proofs.YtbecgnplakngdaaGreat
set_option linter.unusedVariables false
set_option linter.unusedSimpArgs false
namespace Go.Fid
end Go.Fid
set_option linter.unusedVariables false
set_option linter.unusedSimpArgs false
namespace Go.Fid
end Go.Fid
set_option linter.unusedVariables false
set_option linter.unusedSimpArgs false
namespace Go.Fid
theorem den_pos (u : Rat) : ((u.den : Nat) : Int) ≠ 0 := by have := u.den_pos; omega
end Go.Fid
namespace Go.Proofs.YtbecgnplakngdaaGreat
open Go.Fid
set_option maxRecDepth 4000
set_option linter.unusedVariables false
set_option linter.unusedSimpArgs false
theorem cb36 : callB Tryz.prog 36 = true := by kernel_rfl
theorem cb167 : callB Tryz.prog 167 = true := by kernel_rfl
theorem cb204 : callB Tryz.prog 204 = true := by kernel_rfl
theorem fo56_0 : fieldB Tryz.prog 56 0 = some 0 := by kernel_rfl
theorem fo56_1 : fieldB Tryz.prog 56 1 = some 4 := by kernel_rfl
theorem pl56 : placesB Tryz.prog 56 = some [(0, 4), (4, 4)] := by kernel_rfl
theorem sh56 : shapeB Tryz.prog 56 = some (true, 8) := by kernel_rfl
theorem ze56 : zeroB Tryz.prog 56 = some [.bool false, .slice none 0 0, .bool false, .slice none 0 0, .bool false, .slice none 0 0, .bool false, .slice none 0 0] := by kernel_rfl
theorem zo56 : ZOk [.bool false, .slice none 0 0, .bool false, .slice none 0 0, .bool false, .slice none 0 0, .bool false, .slice none 0 0] [.val (.bool false), .sl 152 1 [], .val (.bool false), .sl 152 1 [], .val (.bool false), .sl 152 1 [], .val (.bool false), .sl 152 1 []] := by simp [ZOk, Value.oneCell']
theorem f_counted (x : RInt) (a : Int) (hx : IOk x a 68719476736) : Takes Tryz.prog 204 [(encI x)] (encI (ofZ a)) := by
  refine fn_intro Tryz.func204 rfl cb204 rfl ?_
  show PWp _ _ _ _ ⟨[(0, (.d (encI x)))], []⟩
  refine pwp_seq <| kx [(1, (.ref 0 0)), (2, (.ref 1 0))] [(0, some (bx (encI x))), (1, some (bx (encI (RInt.mk false []))))] (zN (oBx 0) <| zN (oAl 1 ze40 zo40) <| zZ) ?_
  refine pwp_seq <| pwp_seq <| kx [(4, (vb (validI x)))] [] (zR (oLa sh40) <| zE (oCl (t_valid x (Nat.le_trans hx.l (by decide)))) <| zZ) ?_
  refine pwp_cond (b := (validI x)) rfl (fun h1 => ?_) (fun h1 => ?_)
  · refine pwp_seq <| kx [] [(1, some (bx (encI x)))] (zR (oLa sh40) <| zT (oSt sh40) <| zZ) ?_
    refine pwp_ret ⟨_, (res_a (cs := (bx (encI x))) (d := (encI x)) rfl rfl sh40 rfl rfl .nil), ?_⟩
    rw [← hx.v, ofZ_toZ h1]; rfl
  · refine pwp_skip <| pwp_seq <| kx [] [(1, some (bx (encI (ofZ 0))))] (zE (oCl (t_of 0 (by decide) (by decide))) <| zT (oSt sh40) <| zZ) ?_
    refine pwp_ret ⟨_, (res_a (cs := (bx (encI (ofZ 0)))) (d := (encI (ofZ 0))) rfl rfl sh40 rfl rfl .nil), ?_⟩
    rw [← hx.v, toZ_bad h1, ofZ_zero]; rfl
theorem f_newO (num : RInt) (a : Int) (hnum : IOk num a 68719476736) (den : RInt) (b : Int) (hden : IOk den b 68719476736) (hb : b ≠ 0) : Takes Tryz.prog 167 [(encI num), (encI den)] (.tup [(encR (ofQ (Rat.divInt a b))), (.val (.int .i64 (0)))]) := by
  refine fn_intro Tryz.func167 rfl cb167 rfl ?_
  show PWp _ _ _ _ ⟨[(0, (.d (encI num))), (1, (.d (encI den)))], []⟩
  refine pwp_seq <| kx [(2, (.ref 0 0)), (3, (.ref 1 0)), (4, (.ref 2 0))] [(0, some (bx (encI num))), (1, some (bx (encI den))), (2, some (bx (encR (RRat.mk (RInt.mk false []) (RInt.mk false [])))))] (zN (oBx 0) <| zN (oBx 1) <| zN (oAl 2 ze42 zo42) <| zM <| zZ) ?_
  refine pwp_seq <| kd [] [(0, some (bx (encI (ofZ a)))), (1, some (bx (encI (ofZ b))))] mo (wR (oLa sh40) <| wE (oCl (f_counted num a hnum)) <| wR (oLa sh40) <| wE (oCl (f_counted den b hden)) <| wT (oSt sh40) <| wT (oSt sh40) <| wZ) ?_
  refine pwp_seq <| pwp_seq <| kx [(12, (vb false))] [] (zR (oLa sh40) <| zE (oCl (s_sign (iok_of (IOk.ln hden)) (by decide))) <| zE (oBk false oEq (by exact beq_eq_false_iff_ne.2 (signI_ne hb))) <| zZ) ?_
  refine pwp_cond (b := false) (by kernel_rfl) (fun h => by cases h) (fun _ => ?_)
  refine pwp_skip <| pwp_seq <| kx [(5, (vin 0))] [(2, some (bx (encR (ofQ (Rat.divInt a b)))))] (zR (oLa sh40) <| zR (oLa sh40) <| zE (oCl (f_reduced (ofZ a) (ofZ b) a b (iok_of (IOk.ln hnum)) (iok_of (IOk.ln hden)) (by assumption))) <| zT (oSt sh42) <| zM <| zZ) ?_
  refine pwp_ret ⟨_, (res_a (cs := (bx (encR (ofQ (Rat.divInt a b))))) (d := (encR (ofQ (Rat.divInt a b)))) rfl rfl sh42 rfl rfl (.tmp (d := (.val (.int .i64 (0)))) rfl .nil)), ?_⟩
  rfl
theorem g_newO (num : RInt) (a : Int) (hnum : IOk num a 68719476736) (den : RInt) (b : Int) (hden : IOk den b 68719476736) (hb : b ≠ 0) : Takes Tryz.prog 26 [(encI num), (encI den)] (.tup [(encR (ofQ (Rat.divInt a b))), (.val (.int .i64 (0)))]) := by
  refine fn_intro Tryz.func26 rfl cb26 rfl ?_
  show PWp _ _ _ _ ⟨[(0, (.d (encI num))), (1, (.d (encI den)))], []⟩
  refine pwp_seq <| kx [(2, (.ref 0 0)), (3, (.ref 1 0)), (4, (.ref 2 0))] [(0, some (bx (encI num))), (1, some (bx (encI den))), (2, some (bx (encR (RRat.mk (RInt.mk false []) (RInt.mk false [])))))] (zN (oBx 0) <| zN (oBx 1) <| zN (oAl 2 ze42 zo42) <| zM <| zZ) ?_
  refine pwp_seq <| pwp_seq <| kx [(8, (vb false))] [] (zR (oLa sh40) <| zE (oCl (rs_sign hden (by decide))) <| zE (oBk false oEq (by exact beq_eq_false_iff_ne.2 (signI_ne hb))) <| zZ) ?_
  refine pwp_cond (b := false) (by kernel_rfl) (fun h => by cases h) (fun _ => ?_)
  refine pwp_skip <| pwp_seq <| kx [(5, (vin 0))] [(2, some (bx (encR (ofQ (Rat.divInt a b)))))] (zR (oLa sh40) <| zR (oLa sh40) <| zE (oCl (g_reduced num den a b hnum hden (by assumption))) <| zT (oSt sh42) <| zM <| zZ) ?_
  refine pwp_ret ⟨_, (res_a (cs := (bx (encR (ofQ (Rat.divInt a b))))) (d := (encR (ofQ (Rat.divInt a b)))) rfl rfl sh42 rfl rfl (.tmp (d := (.val (.int .i64 (0)))) rfl .nil)), ?_⟩
  rfl
theorem g_zeroT  : Takes Tryz.prog 36 [(encR (RRat.mk (RInt.mk false []) (RInt.mk false [])))] (.val (.bool (true))) := by
  refine fn_intro Tryz.func36 rfl cb36 rfl ?_
  show PWp _ _ _ _ ⟨[(0, (.d (encR (RRat.mk (RInt.mk false []) (RInt.mk false [])))))], []⟩
  refine pwp_seq <| kx [(1, (.ref 0 0))] [(0, some (bx (encR (RRat.mk (RInt.mk false []) (RInt.mk false [])))))] (zN (oBx 0) <| zM <| zZ) ?_
  refine pwp_seq <| kx [(2, (vb true))] [] (zE (oFr fo42_0) <| zE (oFr fo40_0) <| zR (oL1 sh4) <| zE oNt <| zM <| zE (oFr fo42_1) <| zE (oFr fo40_0) <| zR (oL1 sh4) <| zE oNt <| zE oPt <| zM <| zE (oFr fo42_0) <| zE (oFr fo40_1) <| zR (oL1 sh38) <| zE (oLn el38 0) <| zE oEq <| zE oPt <| zM <| zE (oFr fo42_1) <| zE (oFr fo40_1) <| zR (oL1 sh38) <| zE (oLn el38 0) <| zE oEq <| zE oPt <| zM <| zZ) ?_
  refine pwp_ret ⟨_, (.tmp (d := (.val (.bool (true)))) rfl .nil), ?_⟩
  rfl
end Go.Proofs.YtbecgnplakngdaaGreat
namespace Go.Fid
end Go.Fid
namespace Go.Proofs.YtbecgnplakngdaaGreat
open Go.Fid
set_option maxRecDepth 4000
set_option linter.unusedVariables false
set_option linter.unusedSimpArgs false
theorem cb63 : callB Tryz.prog 63 = true := by kernel_rfl
end Go.Proofs.YtbecgnplakngdaaGreat
namespace Go.Proofs.YtbecgnplakngdaaGreat
open Go.Fid
set_option maxRecDepth 4000
set_option linter.unusedVariables false
set_option linter.unusedSimpArgs false
theorem ar203 : arrB Tryz.prog 203 = some (3, 3, 1) := by kernel_rfl
theorem ar204 : arrB Tryz.prog 204 = some (3, 203, 3) := by kernel_rfl
theorem by42 : bytesB Tryz.prog 42 = some 64 := by kernel_rfl
theorem by52 : bytesB Tryz.prog 52 = some 24 := by kernel_rfl
theorem cb124 : callB Tryz.prog 124 = true := by kernel_rfl
theorem cb129 : callB Tryz.prog 129 = true := by kernel_rfl
theorem cb132 : callB Tryz.prog 132 = true := by kernel_rfl
theorem el34 : elemB Tryz.prog 34 = some (52, 1) := by kernel_rfl
theorem el109 : elemB Tryz.prog 109 = some (74, 1) := by kernel_rfl
theorem sh74 : shapeB Tryz.prog 74 = some (false, 1) := by kernel_rfl
theorem sh203 : shapeB Tryz.prog 203 = some (true, 3) := by kernel_rfl
theorem sh204 : shapeB Tryz.prog 204 = some (true, 9) := by kernel_rfl
theorem ze52 : zeroB Tryz.prog 52 = some [.slice none 0 0] := by kernel_rfl
theorem ze74 : zeroB Tryz.prog 74 = some [.slice none 0 0] := by kernel_rfl
theorem ze203 : zeroB Tryz.prog 203 = some [.int .i64 0, .int .i64 0, .int .i64 0] := by kernel_rfl
theorem ze204 : zeroB Tryz.prog 204 = some [.int .i64 0, .int .i64 0, .int .i64 0, .int .i64 0, .int .i64 0, .int .i64 0, .int .i64 0, .int .i64 0, .int .i64 0] := by kernel_rfl
theorem zo52 : ZOk [.slice none 0 0] [.sl 42 4 []] := by simp [ZOk, Value.oneCell']
theorem zo74 : ZOk [.slice none 0 0] [.sl 3 1 []] := by simp [ZOk, Value.oneCell']
theorem zo203 : ZOk [.int .i64 0, .int .i64 0, .int .i64 0] [.val (.int .i64 0), .val (.int .i64 0), .val (.int .i64 0)] := by simp [ZOk, Value.oneCell']
theorem zo204 : ZOk [.int .i64 0, .int .i64 0, .int .i64 0, .int .i64 0, .int .i64 0, .int .i64 0, .int .i64 0, .int .i64 0, .int .i64 0] [.val (.int .i64 0), .val (.int .i64 0), .val (.int .i64 0), .val (.int .i64 0), .val (.int .i64 0), .val (.int .i64 0), .val (.int .i64 0), .val (.int .i64 0), .val (.int .i64 0)] := by simp [ZOk, Value.oneCell']
theorem q_of (n : Int) (hnl : -9223372036854775808 ≤ n) (hnh : n ≤ 9223372036854775807) (d : Int) (hdl : -9223372036854775808 ≤ d) (hdh : d ≤ 9223372036854775807) (hd : d ≠ 0) : Takes Tryz.prog 124 [(.val (.int .i64 (n))), (.val (.int .i64 (d)))] (.tup [(encR (ofQ (Rat.divInt n d))), (.val (.int .i64 (0)))]) := by
  refine fn_intro Tryz.func124 rfl cb124 rfl ?_
  show PWp _ _ _ _ ⟨[(0, (vi n)), (1, (vi d))], []⟩
  refine pwp_seq <| kx [(4, (.ref 0 0))] [(0, some (bx (encR (RRat.mk (RInt.mk false []) (RInt.mk false [])))))] (zN (oAl 0 ze42 zo42) <| zM <| zZ) ?_
  refine pwp_seq <| kx [(5, (vi 0))] [(0, some (bx (encR (ofQ (Rat.divInt n d)))))] (zM <| zE (oCl (t_of n (by omega) (by omega))) <| zM <| zE (oCl (t_of d (by omega) (by omega))) <| zE (oCl (f_newO (ofZ n) n (iok_up (iok_int (z := n) (by omega) (by omega)) (by decide)) (ofZ d) d (iok_up (iok_int (z := d) (by omega) (by omega)) (by decide)) hd)) <| zE oEx <| zE oEx <| zT (oSt sh42) <| zM <| zZ) ?_
  refine pwp_ret ⟨_, (res_a (cs := (bx (encR (ofQ (Rat.divInt n d))))) (d := (encR (ofQ (Rat.divInt n d)))) rfl rfl sh42 rfl rfl (.tmp (d := (.val (.int .i64 (0)))) rfl .nil)), ?_⟩
  rfl
theorem qs_of (n : Int) (hnl : -9223372036854775808 ≤ n) (hnh : n ≤ 9223372036854775807) (d : Int) (hdl : -9223372036854775808 ≤ d) (hdh : d ≤ 9223372036854775807) (hd : d ≠ 0) : Takes Tryz.prog 63 [(.val (.int .i64 (n))), (.val (.int .i64 (d)))] (.tup [(encR (ofQ (Rat.divInt n d))), (.val (.int .i64 (0)))]) := by
  refine fn_intro Tryz.func63 rfl cb63 rfl ?_
  show PWp _ _ _ _ ⟨[(0, (vi n)), (1, (vi d))], []⟩
  refine pwp_seq <| kx [(4, (.ref 0 0))] [(0, some (bx (encR (RRat.mk (RInt.mk false []) (RInt.mk false [])))))] (zN (oAl 0 ze42 zo42) <| zM <| zZ) ?_
  refine pwp_seq <| kx [(5, (vi 0))] [(0, some (bx (encR (ofQ (Rat.divInt n d)))))] (zM <| zE (oCl (g_whole1 n (by omega) (by omega))) <| zM <| zE (oCl (g_whole1 d (by omega) (by omega))) <| zE (oCl (g_newO (ofZ n) n (iok_up (iok_int (z := n) (by omega) (by omega)) (by decide)) (ofZ d) d (iok_up (iok_int (z := d) (by omega) (by omega)) (by decide)) hd)) <| zE oEx <| zE oEx <| zT (oSt sh42) <| zM <| zZ) ?_
  refine pwp_ret ⟨_, (res_a (cs := (bx (encR (ofQ (Rat.divInt n d))))) (d := (encR (ofQ (Rat.divInt n d)))) rfl rfl sh42 rfl rfl (.tmp (d := (.val (.int .i64 (0)))) rfl .nil)), ?_⟩
  rfl
theorem q_rmat (a b c d : Int) (ha : -1048576 ≤ a ∧ a ≤ 1048576) (hb : -1048576 ≤ b ∧ b ≤ 1048576) (hc : -1048576 ≤ c ∧ c ≤ 1048576) (hd : -1048576 ≤ d ∧ d ≤ 1048576) (hq : rotC a b c d = 0) (hn0 : nq a b c d ≠ 0) : Takes Tryz.prog 129 [(encQuat (RQuat.mk a b c d))] (.tup [(.sl 52 1 (List.map enc_sl_52 [[(ofQ (Q00 a b c d)), (ofQ (Q01 a b c d)), (ofQ (Q02 a b c d))], [(ofQ (Q10 a b c d)), (ofQ (Q11 a b c d)), (ofQ (Q12 a b c d))], [(ofQ (Q20 a b c d)), (ofQ (Q21 a b c d)), (ofQ (Q22 a b c d))]])), (.val (.int .i64 (0)))]) := by
  have saa := sq_b ha ha
  have sab := sq_b ha hb
  have sac := sq_b ha hc
  have sad := sq_b ha hd
  have sbb := sq_b hb hb
  have sbc := sq_b hb hc
  have sbd := sq_b hb hd
  have scc := sq_b hc hc
  have scd := sq_b hc hd
  have sdd := sq_b hd hd
  have hnq := nq_b ha hb hc hd
  let y13 := (ofQ (Rat.divInt (2 * ((c * d) + (a * b))) (nq a b c d)))
  let y12 := (ofQ (Rat.divInt (2 * ((b * d) - (a * c))) (nq a b c d)))
  let y11 := (ofQ (Rat.divInt (2 * ((c * d) - (a * b))) (nq a b c d)))
  let y10 := (ofQ (Rat.divInt (2 * ((b * c) + (a * d))) (nq a b c d)))
  let y9 := (ofQ (Rat.divInt (2 * ((b * d) + (a * c))) (nq a b c d)))
  let y8 := (ofQ (Rat.divInt (2 * ((b * c) - (a * d))) (nq a b c d)))
  let y7 := (ofQ (Rat.divInt ((((a * a) - (b * b)) - (c * c)) + (d * d)) (nq a b c d)))
  let y6 := (ofQ (Rat.divInt ((((a * a) - (b * b)) + (c * c)) - (d * d)) (nq a b c d)))
  let y5 := (ofQ (Rat.divInt ((((a * a) + (b * b)) - (c * c)) - (d * d)) (nq a b c d)))
  let y4 := (encA203 (A3.mk (((2 : Nat) : Int) * ((b * d) - (a * c))) (((2 : Nat) : Int) * ((c * d) + (a * b))) ((((a * a) - (b * b)) - (c * c)) + (d * d))))
  let y3 := (encA203 (A3.mk (((2 : Nat) : Int) * ((b * c) + (a * d))) ((((a * a) - (b * b)) + (c * c)) - (d * d)) (((2 : Nat) : Int) * ((c * d) - (a * b)))))
  let y2 := (encA203 (A3.mk ((((a * a) + (b * b)) - (c * c)) - (d * d)) (((2 : Nat) : Int) * ((b * c) - (a * d))) (((2 : Nat) : Int) * ((b * d) + (a * c)))))
  let y1 := (encA204 (A3.mk (A3.mk ((((a * a) + (b * b)) - (c * c)) - (d * d)) (((2 : Nat) : Int) * ((b * c) - (a * d))) (((2 : Nat) : Int) * ((b * d) + (a * c)))) (A3.mk (((2 : Nat) : Int) * ((b * c) + (a * d))) ((((a * a) - (b * b)) + (c * c)) - (d * d)) (((2 : Nat) : Int) * ((c * d) - (a * b)))) (A3.mk (((2 : Nat) : Int) * ((b * d) - (a * c))) (((2 : Nat) : Int) * ((c * d) + (a * b))) ((((a * a) - (b * b)) - (c * c)) + (d * d)))))
  refine fn_intro Tryz.func129 rfl cb129 rfl ?_
  show PWp _ _ _ _ ⟨[(0, (.d (encQuat (RQuat.mk a b c d))))], []⟩
  refine pwp_seq <| kx [(1, (.ref 0 0))] [(0, some (bx (encQuat (RQuat.mk a b c d))))] (zN (oBx 0) <| zE (oNl 52 1) <| zM <| zZ) ?_
  refine pwp_seq <| pwp_seq <| kx [(4, (vin (rotC a b c d)))] [] (zR (oLa sh25) <| zE (oCl (q_chk a b c d)) <| zM <| zZ) ?_
  refine pwp_seq <| kx [(21, (vb false))] [] (zM <| zE (oBk false oNe (by exact bne_eq_false_iff_eq.2 (by rw [show (rotC a b c d) = 0 from hq]; rfl))) <| zZ) ?_
  refine pwp_cond (b := false) (by kernel_rfl) (fun h => by cases h) (fun _ => ?_)
  refine pwp_skip <| pwp_seq <| kd [(5, (vi a)), (6, (vi b)), (7, (vi c)), (8, (vi d))] [] mo (wE (oFr fo25_0) <| wR (oL1 sh3) <| wE (oFr fo25_1) <| wR (oL1 sh3) <| wE (oFr fo25_2) <| wR (oL1 sh3) <| wE (oFr fo25_3) <| wR (oL1 sh3) <| wM <| wM <| wM <| wM <| wZ) ?_
  refine pwp_seq <| kx [(9, (.ref 1 0))] [(1, some (bx y1))] (zM <| zM <| zE (zMl (a * a) (hr := by exact (wAny rfl (by simp only [kLo]; omega) (by simp only [kHi]; omega)))) <| zM <| zM <| zE (zMl (b * b) (hr := by exact (wAny rfl (by simp only [kLo]; omega) (by simp only [kHi]; omega)))) <| zE (zAd ((a * a) + (b * b)) (hr := by exact (wAny rfl (by simp only [kLo]; omega) (by simp only [kHi]; omega)))) <| zM <| zM <| zE (zMl (c * c) (hr := by exact (wAny rfl (by simp only [kLo]; omega) (by simp only [kHi]; omega)))) <| zE (zSb (((a * a) + (b * b)) - (c * c)) (hr := by exact (wAny rfl (by simp only [kLo]; omega) (by simp only [kHi]; omega)))) <| zM <| zM <| zE (zMl (d * d) (hr := by exact (wAny rfl (by simp only [kLo]; omega) (by simp only [kHi]; omega)))) <| zE (zSb ((((a * a) + (b * b)) - (c * c)) - (d * d)) (hr := by exact (wAny rfl (by simp only [kLo]; omega) (by simp only [kHi]; omega)))) <| zM <| zM <| zE (zMl (b * c) (hr := by exact (wAny rfl (by simp only [kLo]; omega) (by simp only [kHi]; omega)))) <| zM <| zM <| zE (zMl (a * d) (hr := by exact (wAny rfl (by simp only [kLo]; omega) (by simp only [kHi]; omega)))) <| zE (zSb ((b * c) - (a * d)) (hr := by exact (wAny rfl (by simp only [kLo]; omega) (by simp only [kHi]; omega)))) <| zE (zMl (((2 : Nat) : Int) * ((b * c) - (a * d))) (hr := by exact (wAny rfl (by simp only [kLo]; omega) (by simp only [kHi]; omega)))) <| zM <| zM <| zE (zMl (b * d) (hr := by exact (wAny rfl (by simp only [kLo]; omega) (by simp only [kHi]; omega)))) <| zM <| zM <| zE (zMl (a * c) (hr := by exact (wAny rfl (by simp only [kLo]; omega) (by simp only [kHi]; omega)))) <| zE (zAd ((b * d) + (a * c)) (hr := by exact (wAny rfl (by simp only [kLo]; omega) (by simp only [kHi]; omega)))) <| zE (zMl (((2 : Nat) : Int) * ((b * d) + (a * c))) (hr := by exact (wAny rfl (by simp only [kLo]; omega) (by simp only [kHi]; omega)))) <| zE (oBf ar203 ze203 zo203) <| zM <| zM <| zE (zMl (b * c) (hr := by exact (wAny rfl (by simp only [kLo]; omega) (by simp only [kHi]; omega)))) <| zM <| zM <| zE (zMl (a * d) (hr := by exact (wAny rfl (by simp only [kLo]; omega) (by simp only [kHi]; omega)))) <| zE (zAd ((b * c) + (a * d)) (hr := by exact (wAny rfl (by simp only [kLo]; omega) (by simp only [kHi]; omega)))) <| zE (zMl (((2 : Nat) : Int) * ((b * c) + (a * d))) (hr := by exact (wAny rfl (by simp only [kLo]; omega) (by simp only [kHi]; omega)))) <| zM <| zM <| zE (zMl (a * a) (hr := by exact (wAny rfl (by simp only [kLo]; omega) (by simp only [kHi]; omega)))) <| zM <| zM <| zE (zMl (b * b) (hr := by exact (wAny rfl (by simp only [kLo]; omega) (by simp only [kHi]; omega)))) <| zE (zSb ((a * a) - (b * b)) (hr := by exact (wAny rfl (by simp only [kLo]; omega) (by simp only [kHi]; omega)))) <| zM <| zM <| zE (zMl (c * c) (hr := by exact (wAny rfl (by simp only [kLo]; omega) (by simp only [kHi]; omega)))) <| zE (zAd (((a * a) - (b * b)) + (c * c)) (hr := by exact (wAny rfl (by simp only [kLo]; omega) (by simp only [kHi]; omega)))) <| zM <| zM <| zE (zMl (d * d) (hr := by exact (wAny rfl (by simp only [kLo]; omega) (by simp only [kHi]; omega)))) <| zE (zSb ((((a * a) - (b * b)) + (c * c)) - (d * d)) (hr := by exact (wAny rfl (by simp only [kLo]; omega) (by simp only [kHi]; omega)))) <| zM <| zM <| zE (zMl (c * d) (hr := by exact (wAny rfl (by simp only [kLo]; omega) (by simp only [kHi]; omega)))) <| zM <| zM <| zE (zMl (a * b) (hr := by exact (wAny rfl (by simp only [kLo]; omega) (by simp only [kHi]; omega)))) <| zE (zSb ((c * d) - (a * b)) (hr := by exact (wAny rfl (by simp only [kLo]; omega) (by simp only [kHi]; omega)))) <| zE (zMl (((2 : Nat) : Int) * ((c * d) - (a * b))) (hr := by exact (wAny rfl (by simp only [kLo]; omega) (by simp only [kHi]; omega)))) <| zE (oBf ar203 ze203 zo203) <| zM <| zM <| zE (zMl (b * d) (hr := by exact (wAny rfl (by simp only [kLo]; omega) (by simp only [kHi]; omega)))) <| zM <| zM <| zE (zMl (a * c) (hr := by exact (wAny rfl (by simp only [kLo]; omega) (by simp only [kHi]; omega)))) <| zE (zSb ((b * d) - (a * c)) (hr := by exact (wAny rfl (by simp only [kLo]; omega) (by simp only [kHi]; omega)))) <| zE (zMl (((2 : Nat) : Int) * ((b * d) - (a * c))) (hr := by exact (wAny rfl (by simp only [kLo]; omega) (by simp only [kHi]; omega)))) <| zM <| zM <| zE (zMl (c * d) (hr := by exact (wAny rfl (by simp only [kLo]; omega) (by simp only [kHi]; omega)))) <| zM <| zM <| zE (zMl (a * b) (hr := by exact (wAny rfl (by simp only [kLo]; omega) (by simp only [kHi]; omega)))) <| zE (zAd ((c * d) + (a * b)) (hr := by exact (wAny rfl (by simp only [kLo]; omega) (by simp only [kHi]; omega)))) <| zE (zMl (((2 : Nat) : Int) * ((c * d) + (a * b))) (hr := by exact (wAny rfl (by simp only [kLo]; omega) (by simp only [kHi]; omega)))) <| zM <| zM <| zE (zMl (a * a) (hr := by exact (wAny rfl (by simp only [kLo]; omega) (by simp only [kHi]; omega)))) <| zM <| zM <| zE (zMl (b * b) (hr := by exact (wAny rfl (by simp only [kLo]; omega) (by simp only [kHi]; omega)))) <| zE (zSb ((a * a) - (b * b)) (hr := by exact (wAny rfl (by simp only [kLo]; omega) (by simp only [kHi]; omega)))) <| zM <| zM <| zE (zMl (c * c) (hr := by exact (wAny rfl (by simp only [kLo]; omega) (by simp only [kHi]; omega)))) <| zE (zSb (((a * a) - (b * b)) - (c * c)) (hr := by exact (wAny rfl (by simp only [kLo]; omega) (by simp only [kHi]; omega)))) <| zM <| zM <| zE (zMl (d * d) (hr := by exact (wAny rfl (by simp only [kLo]; omega) (by simp only [kHi]; omega)))) <| zE (zAd ((((a * a) - (b * b)) - (c * c)) + (d * d)) (hr := by exact (wAny rfl (by simp only [kLo]; omega) (by simp only [kHi]; omega)))) <| zE (oBf ar203 ze203 zo203) <| zE (oBf ar204 ze204 zo204) <| zN (oAl 1 ze204 zo204) <| zT (oSt sh204) <| zZ) ?_
  refine pwp_seq <| kx [(10, (.own 2 52 1 0))] [(2, some (bm enc_sl_52 []))] (zO 2 52 1 <| zZ) ?_
  refine pwp_seq <| pwp_seq <| kx [(128, (.d y1)), (129, (vin 0))] [] (zR (oLa sh204) <| zM <| zZ) ?_
  refine pwp_block <| pwp_rounds 20 ?_
  refine pwp_round <| pwp_seq <| kx [(130, (vb true))] [] (zE (oBk true oLt) <| zZ) ?_
  refine pwp_seq <| pwp_cond (b := true) (by kernel_rfl) (fun _ => ?_) (fun h => by cases h)
  refine pwp_skip <| pwp_seq <| pwp_block <| pwp_seq <| kx [(12, (.ref 3 0))] [(3, some (bx y2))] (zE (oXa ar204 sh203 (fun h => by cases h) 0) <| zH (oAl 3 ze203 zo203) <| zT (oSt sh203) <| zZ) ?_
  refine pwp_seq <| kx [(13, (.own 4 42 4 0))] [(4, some (bxs encR []))] (zO 4 42 4 <| zZ) ?_
  refine pwp_seq <| pwp_seq <| kx [(132, (.d y2)), (133, (vin 0))] [] (zR (oLa sh203) <| zM <| zZ) ?_
  refine pwp_block <| pwp_rounds 20 ?_
  refine pwp_round <| pwp_seq <| kx [(134, (vb true))] [] (zE (oBk true oLt) <| zZ) ?_
  refine pwp_seq <| pwp_cond (b := true) (by kernel_rfl) (fun _ => ?_) (fun h => by cases h)
  refine pwp_skip <| pwp_seq <| pwp_block <| pwp_seq <| kx [(15, (vi ((((a * a) + (b * b)) - (c * c)) - (d * d))))] [] (zE (oXa ar203 sh3 (fun _ => rfl) 0) <| zM <| zZ) ?_
  refine pwp_seq ?_
  have bn1 : QL (Rat.divInt ((((a * a) + (b * b)) - (c * c)) - (d * d)) (nq a b c d)) 3 := (ql_divInt (n := 3) (lenZ_int (by omega) (by omega)) (lenZ_int (by omega) (by omega)) (by decide))
  refine kx [(16, (.ref 5 0))] [(5, some (bx (encR y5)))] (zM <| zR (oLa sh25) <| zE (oCl (qr_norm a b c d (by omega) (by omega) (by omega) (by omega))) <| zE (oCl (q_of ((((a * a) + (b * b)) - (c * c)) - (d * d)) (by omega) (by omega) (nq a b c d) (by omega) (by omega) hn0)) <| zM <| zE oEx <| zE oEx <| zH (oAl 5 ze42 zo42) <| zT (oSt sh42) <| zM <| zZ) ?_
  refine pwp_sim (wk (l := [(1, (.ref 0 0)), (10, (.own 2 52 1 0)), (13, (.own 4 42 4 0)), (16, (.ref 5 0)), (128, (.d y1)), (129, (vin 0)), (132, (.d y2)), (133, (vin 0))]) (b := [(0, some (bx (encQuat (RQuat.mk a b c d)))), (2, some (bm enc_sl_52 [])), (4, some (bxs encR [])), (5, some (bx (encR y5)))])) ?_
  refine kf [(13, (.own 4 42 4 (([] ++ [y5]).length)))] [(4, some (bxs encR ([] ++ [y5])))] (zM <| zR (oLa sh42) <| zE (oBs el52 ze42 zo42) <| zAS encR [] [y5] rfl el52 ze42 by42 (hbig := by exact (by simp +zetaDelta [maxLen] <;> omega)) (hbig' := by exact (by simp +zetaDelta <;> omega)) <| zM <| zF) ?_
  refine kx [(133, (vin 1))] [] (zE (oAd 1 (hr := by decide)) <| zM <| zZ) ?_
  refine pwp_again (SimImp.refl _) ?_
  refine pwp_seq <| kx [(134, (vb true))] [] (zE (oBk true oLt) <| zZ) ?_
  refine pwp_seq <| pwp_cond (b := true) (by kernel_rfl) (fun _ => ?_) (fun h => by cases h)
  refine pwp_skip <| pwp_seq <| pwp_block <| pwp_seq <| kx [(15, (vi (((2 : Nat) : Int) * ((b * c) - (a * d)))))] [] (zE (oXa ar203 sh3 (fun _ => rfl) 1) <| zM <| zZ) ?_
  refine pwp_seq ?_
  have bn2 : QL (Rat.divInt (2 * ((b * c) - (a * d))) (nq a b c d)) 3 := (ql_divInt (n := 3) (lenZ_int (by omega) (by omega)) (lenZ_int (by omega) (by omega)) (by decide))
  refine kx [(16, (.ref 6 0))] [(6, some (bx (encR y8)))] (zM <| zR (oLa sh25) <| zE (oCl (qr_norm a b c d (by omega) (by omega) (by omega) (by omega))) <| zE (oCl (q_of (((2 : Nat) : Int) * ((b * c) - (a * d))) (by omega) (by omega) (nq a b c d) (by omega) (by omega) hn0)) <| zM <| zE oEx <| zE oEx <| zH (oAl 6 ze42 zo42) <| zT (oSt sh42) <| zM <| zZ) ?_
  refine kf [(13, (.own 4 42 4 ((([] ++ [y5]) ++ [y8]).length)))] [(4, some (bxs encR (([] ++ [y5]) ++ [y8])))] (zM <| zR (oLa sh42) <| zE (oBs el52 ze42 zo42) <| zAS encR ([] ++ [y5]) [y8] rfl el52 ze42 by42 (hbig := by exact (by simp +zetaDelta [maxLen] <;> omega)) (hbig' := by exact (by simp +zetaDelta <;> omega)) <| zM <| zF) ?_
  refine kx [(133, (vin 2))] [] (zE (oAd 2 (hr := by decide)) <| zM <| zZ) ?_
  refine pwp_again (SimImp.refl _) ?_
  refine pwp_seq <| kx [(134, (vb true))] [] (zE (oBk true oLt) <| zZ) ?_
  refine pwp_seq <| pwp_cond (b := true) (by kernel_rfl) (fun _ => ?_) (fun h => by cases h)
  refine pwp_skip <| pwp_seq <| pwp_block <| pwp_seq <| kx [(15, (vi (((2 : Nat) : Int) * ((b * d) + (a * c)))))] [] (zE (oXa ar203 sh3 (fun _ => rfl) 2) <| zM <| zZ) ?_
  refine pwp_seq ?_
  have bn3 : QL (Rat.divInt (2 * ((b * d) + (a * c))) (nq a b c d)) 3 := (ql_divInt (n := 3) (lenZ_int (by omega) (by omega)) (lenZ_int (by omega) (by omega)) (by decide))
  refine kx [(16, (.ref 7 0))] [(7, some (bx (encR y9)))] (zM <| zR (oLa sh25) <| zE (oCl (qr_norm a b c d (by omega) (by omega) (by omega) (by omega))) <| zE (oCl (q_of (((2 : Nat) : Int) * ((b * d) + (a * c))) (by omega) (by omega) (nq a b c d) (by omega) (by omega) hn0)) <| zM <| zE oEx <| zE oEx <| zH (oAl 7 ze42 zo42) <| zT (oSt sh42) <| zM <| zZ) ?_
  refine kf [(13, (.own 4 42 4 (((([] ++ [y5]) ++ [y8]) ++ [y9]).length)))] [(4, some (bxs encR ((([] ++ [y5]) ++ [y8]) ++ [y9])))] (zM <| zR (oLa sh42) <| zE (oBs el52 ze42 zo42) <| zAS encR (([] ++ [y5]) ++ [y8]) [y9] rfl el52 ze42 by42 (hbig := by exact (by simp +zetaDelta [maxLen] <;> omega)) (hbig' := by exact (by simp +zetaDelta <;> omega)) <| zM <| zF) ?_
  refine kx [(133, (vin 3))] [] (zE (oAd 3 (hr := by decide)) <| zM <| zZ) ?_
  refine pwp_again (SimImp.refl _) ?_
  refine pwp_seq <| kx [(134, (vb false))] [] (zE (oBk false oLt) <| zZ) ?_
  refine pwp_seq <| pwp_cond (b := false) (by kernel_rfl) (fun h => by cases h) (fun _ => ?_)
  refine pwp_exit <| pwp_sim (publish (t := 13) (k := 4) (es := List.map encR ((([] ++ [y5]) ++ [y8]) ++ [y9])) rfl rfl (pubs_cells _ _ (fun _ => rfl)) (map_len _ _ rfl) (pubs_take encR ((([] ++ [y5]) ++ [y8]) ++ [y9]) (fun _ => rfl) rfl)) ?_
  refine kf [(10, (.own 2 52 1 (([] ++ [((([] ++ [y5]) ++ [y8]) ++ [y9])]).length)))] [(2, some (bm enc_sl_52 ([] ++ [((([] ++ [y5]) ++ [y8]) ++ [y9])])))] (zM <| zM <| zE (oBs el34 ze52 zo52) <| zA enc_sl_52 [] [((([] ++ [y5]) ++ [y8]) ++ [y9])] rfl el34 ze52 by52 (hbig := by exact (by simp +zetaDelta [maxLen] <;> omega)) (hbig' := by exact (by simp +zetaDelta <;> omega)) <| zM <| zF) ?_
  refine pwp_sim (wk (l := [(1, (.ref 0 0)), (10, (.own 2 52 1 (([] ++ [((([] ++ [y5]) ++ [y8]) ++ [y9])]).length))), (128, (.d y1)), (129, (vin 0))]) (b := [(0, some (bx (encQuat (RQuat.mk a b c d)))), (2, some (bm enc_sl_52 ([] ++ [((([] ++ [y5]) ++ [y8]) ++ [y9])])))])) ?_
  refine kx [(129, (vin 1))] [] (zE (oAd 1 (hr := by decide)) <| zM <| zZ) ?_
  refine pwp_again (SimImp.refl _) ?_
  refine pwp_seq <| kx [(130, (vb true))] [] (zE (oBk true oLt) <| zZ) ?_
  refine pwp_seq <| pwp_cond (b := true) (by kernel_rfl) (fun _ => ?_) (fun h => by cases h)
  refine pwp_skip <| pwp_seq <| pwp_block <| pwp_seq <| kx [(12, (.ref 8 0))] [(8, some (bx y3))] (zE (oXa ar204 sh203 (fun h => by cases h) 1) <| zH (oAl 8 ze203 zo203) <| zT (oSt sh203) <| zZ) ?_
  refine pwp_seq <| kx [(13, (.own 9 42 4 0))] [(9, some (bxs encR []))] (zO 9 42 4 <| zZ) ?_
  refine pwp_seq <| pwp_seq <| kx [(132, (.d y3)), (133, (vin 0))] [] (zR (oLa sh203) <| zM <| zZ) ?_
  refine pwp_block <| pwp_rounds 20 ?_
  refine pwp_round <| pwp_seq <| kx [(134, (vb true))] [] (zE (oBk true oLt) <| zZ) ?_
  refine pwp_seq <| pwp_cond (b := true) (by kernel_rfl) (fun _ => ?_) (fun h => by cases h)
  refine pwp_skip <| pwp_seq <| pwp_block <| pwp_seq <| kx [(15, (vi (((2 : Nat) : Int) * ((b * c) + (a * d)))))] [] (zE (oXa ar203 sh3 (fun _ => rfl) 0) <| zM <| zZ) ?_
  refine pwp_seq ?_
  have bn4 : QL (Rat.divInt (2 * ((b * c) + (a * d))) (nq a b c d)) 3 := (ql_divInt (n := 3) (lenZ_int (by omega) (by omega)) (lenZ_int (by omega) (by omega)) (by decide))
  refine kx [(16, (.ref 10 0))] [(10, some (bx (encR y10)))] (zM <| zR (oLa sh25) <| zE (oCl (qr_norm a b c d (by omega) (by omega) (by omega) (by omega))) <| zE (oCl (q_of (((2 : Nat) : Int) * ((b * c) + (a * d))) (by omega) (by omega) (nq a b c d) (by omega) (by omega) hn0)) <| zM <| zE oEx <| zE oEx <| zH (oAl 10 ze42 zo42) <| zT (oSt sh42) <| zM <| zZ) ?_
  refine kf [(13, (.own 9 42 4 (([] ++ [y10]).length)))] [(9, some (bxs encR ([] ++ [y10])))] (zM <| zR (oLa sh42) <| zE (oBs el52 ze42 zo42) <| zAS encR [] [y10] rfl el52 ze42 by42 (hbig := by exact (by simp +zetaDelta [maxLen] <;> omega)) (hbig' := by exact (by simp +zetaDelta <;> omega)) <| zM <| zF) ?_
  refine kx [(133, (vin 1))] [] (zE (oAd 1 (hr := by decide)) <| zM <| zZ) ?_
  refine pwp_again (SimImp.refl _) ?_
  refine pwp_seq <| kx [(134, (vb true))] [] (zE (oBk true oLt) <| zZ) ?_
  refine pwp_seq <| pwp_cond (b := true) (by kernel_rfl) (fun _ => ?_) (fun h => by cases h)
  refine pwp_skip <| pwp_seq <| pwp_block <| pwp_seq <| kx [(15, (vi ((((a * a) - (b * b)) + (c * c)) - (d * d))))] [] (zE (oXa ar203 sh3 (fun _ => rfl) 1) <| zM <| zZ) ?_
  refine pwp_seq ?_
  have bn5 : QL (Rat.divInt ((((a * a) - (b * b)) + (c * c)) - (d * d)) (nq a b c d)) 3 := (ql_divInt (n := 3) (lenZ_int (by omega) (by omega)) (lenZ_int (by omega) (by omega)) (by decide))
  refine kx [(16, (.ref 11 0))] [(11, some (bx (encR y6)))] (zM <| zR (oLa sh25) <| zE (oCl (qr_norm a b c d (by omega) (by omega) (by omega) (by omega))) <| zE (oCl (q_of ((((a * a) - (b * b)) + (c * c)) - (d * d)) (by omega) (by omega) (nq a b c d) (by omega) (by omega) hn0)) <| zM <| zE oEx <| zE oEx <| zH (oAl 11 ze42 zo42) <| zT (oSt sh42) <| zM <| zZ) ?_
  refine kf [(13, (.own 9 42 4 ((([] ++ [y10]) ++ [y6]).length)))] [(9, some (bxs encR (([] ++ [y10]) ++ [y6])))] (zM <| zR (oLa sh42) <| zE (oBs el52 ze42 zo42) <| zAS encR ([] ++ [y10]) [y6] rfl el52 ze42 by42 (hbig := by exact (by simp +zetaDelta [maxLen] <;> omega)) (hbig' := by exact (by simp +zetaDelta <;> omega)) <| zM <| zF) ?_
  refine pwp_sim (wk (l := [(1, (.ref 0 0)), (10, (.own 2 52 1 (([] ++ [((([] ++ [y5]) ++ [y8]) ++ [y9])]).length))), (13, (.own 9 42 4 ((([] ++ [y10]) ++ [y6]).length))), (128, (.d y1)), (129, (vin 1)), (132, (.d y3)), (133, (vin 1))]) (b := [(0, some (bx (encQuat (RQuat.mk a b c d)))), (2, some (bm enc_sl_52 ([] ++ [((([] ++ [y5]) ++ [y8]) ++ [y9])]))), (9, some (bxs encR (([] ++ [y10]) ++ [y6])))])) ?_
  refine kx [(133, (vin 2))] [] (zE (oAd 2 (hr := by decide)) <| zM <| zZ) ?_
  refine pwp_again (SimImp.refl _) ?_
  refine pwp_seq <| kx [(134, (vb true))] [] (zE (oBk true oLt) <| zZ) ?_
  refine pwp_seq <| pwp_cond (b := true) (by kernel_rfl) (fun _ => ?_) (fun h => by cases h)
  refine pwp_skip <| pwp_seq <| pwp_block <| pwp_seq <| kx [(15, (vi (((2 : Nat) : Int) * ((c * d) - (a * b)))))] [] (zE (oXa ar203 sh3 (fun _ => rfl) 2) <| zM <| zZ) ?_
  refine pwp_seq ?_
  have bn6 : QL (Rat.divInt (2 * ((c * d) - (a * b))) (nq a b c d)) 3 := (ql_divInt (n := 3) (lenZ_int (by omega) (by omega)) (lenZ_int (by omega) (by omega)) (by decide))
  refine kx [(16, (.ref 12 0))] [(12, some (bx (encR y11)))] (zM <| zR (oLa sh25) <| zE (oCl (qr_norm a b c d (by omega) (by omega) (by omega) (by omega))) <| zE (oCl (q_of (((2 : Nat) : Int) * ((c * d) - (a * b))) (by omega) (by omega) (nq a b c d) (by omega) (by omega) hn0)) <| zM <| zE oEx <| zE oEx <| zH (oAl 12 ze42 zo42) <| zT (oSt sh42) <| zM <| zZ) ?_
  refine kf [(13, (.own 9 42 4 (((([] ++ [y10]) ++ [y6]) ++ [y11]).length)))] [(9, some (bxs encR ((([] ++ [y10]) ++ [y6]) ++ [y11])))] (zM <| zR (oLa sh42) <| zE (oBs el52 ze42 zo42) <| zAS encR (([] ++ [y10]) ++ [y6]) [y11] rfl el52 ze42 by42 (hbig := by exact (by simp +zetaDelta [maxLen] <;> omega)) (hbig' := by exact (by simp +zetaDelta <;> omega)) <| zM <| zF) ?_
  refine kx [(133, (vin 3))] [] (zE (oAd 3 (hr := by decide)) <| zM <| zZ) ?_
  refine pwp_again (SimImp.refl _) ?_
  refine pwp_seq <| kx [(134, (vb false))] [] (zE (oBk false oLt) <| zZ) ?_
  refine pwp_seq <| pwp_cond (b := false) (by kernel_rfl) (fun h => by cases h) (fun _ => ?_)
  refine pwp_exit <| pwp_sim (publish (t := 13) (k := 9) (es := List.map encR ((([] ++ [y10]) ++ [y6]) ++ [y11])) rfl rfl (pubs_cells _ _ (fun _ => rfl)) (map_len _ _ rfl) (pubs_take encR ((([] ++ [y10]) ++ [y6]) ++ [y11]) (fun _ => rfl) rfl)) ?_
  refine kf [(10, (.own 2 52 1 ((([] ++ [((([] ++ [y5]) ++ [y8]) ++ [y9])]) ++ [((([] ++ [y10]) ++ [y6]) ++ [y11])]).length)))] [(2, some (bm enc_sl_52 (([] ++ [((([] ++ [y5]) ++ [y8]) ++ [y9])]) ++ [((([] ++ [y10]) ++ [y6]) ++ [y11])])))] (zM <| zM <| zE (oBs el34 ze52 zo52) <| zA enc_sl_52 ([] ++ [((([] ++ [y5]) ++ [y8]) ++ [y9])]) [((([] ++ [y10]) ++ [y6]) ++ [y11])] rfl el34 ze52 by52 (hbig := by exact (by simp +zetaDelta [maxLen] <;> omega)) (hbig' := by exact (by simp +zetaDelta <;> omega)) <| zM <| zF) ?_
  refine kx [(129, (vin 2))] [] (zE (oAd 2 (hr := by decide)) <| zM <| zZ) ?_
  refine pwp_again (SimImp.refl _) ?_
  refine pwp_seq <| kx [(130, (vb true))] [] (zE (oBk true oLt) <| zZ) ?_
  refine pwp_seq <| pwp_cond (b := true) (by kernel_rfl) (fun _ => ?_) (fun h => by cases h)
  refine pwp_skip <| pwp_seq <| pwp_block <| pwp_seq <| kx [(12, (.ref 13 0))] [(13, some (bx y4))] (zE (oXa ar204 sh203 (fun h => by cases h) 2) <| zH (oAl 13 ze203 zo203) <| zT (oSt sh203) <| zZ) ?_
  refine pwp_seq <| kx [(13, (.own 14 42 4 0))] [(14, some (bxs encR []))] (zO 14 42 4 <| zZ) ?_
  refine pwp_seq <| pwp_seq <| kx [(132, (.d y4)), (133, (vin 0))] [] (zR (oLa sh203) <| zM <| zZ) ?_
  refine pwp_block <| pwp_rounds 20 ?_
  refine pwp_round <| pwp_seq <| kx [(134, (vb true))] [] (zE (oBk true oLt) <| zZ) ?_
  refine pwp_seq <| pwp_cond (b := true) (by kernel_rfl) (fun _ => ?_) (fun h => by cases h)
  refine pwp_skip <| pwp_seq <| pwp_block <| pwp_seq <| pwp_sim (wk (l := [(1, (.ref 0 0)), (10, (.own 2 52 1 ((([] ++ [((([] ++ [y5]) ++ [y8]) ++ [y9])]) ++ [((([] ++ [y10]) ++ [y6]) ++ [y11])]).length))), (13, (.own 14 42 4 0)), (128, (.d y1)), (129, (vin 2)), (132, (.d y4)), (133, (vin 0)), (134, (vb true))]) (b := [(0, some (bx (encQuat (RQuat.mk a b c d)))), (14, some (bxs encR [])), (2, some (bm enc_sl_52 (([] ++ [((([] ++ [y5]) ++ [y8]) ++ [y9])]) ++ [((([] ++ [y10]) ++ [y6]) ++ [y11])])))])) ?_
  refine kx [(15, (vi (((2 : Nat) : Int) * ((b * d) - (a * c)))))] [] (zE (oXa ar203 sh3 (fun _ => rfl) 0) <| zM <| zZ) ?_
  refine pwp_seq ?_
  have bn7 : QL (Rat.divInt (2 * ((b * d) - (a * c))) (nq a b c d)) 3 := (ql_divInt (n := 3) (lenZ_int (by omega) (by omega)) (lenZ_int (by omega) (by omega)) (by decide))
  refine kx [(16, (.ref 15 0))] [(15, some (bx (encR y12)))] (zM <| zR (oLa sh25) <| zE (oCl (qr_norm a b c d (by omega) (by omega) (by omega) (by omega))) <| zE (oCl (q_of (((2 : Nat) : Int) * ((b * d) - (a * c))) (by omega) (by omega) (nq a b c d) (by omega) (by omega) hn0)) <| zM <| zE oEx <| zE oEx <| zH (oAl 15 ze42 zo42) <| zT (oSt sh42) <| zM <| zZ) ?_
  refine kf [(13, (.own 14 42 4 (([] ++ [y12]).length)))] [(14, some (bxs encR ([] ++ [y12])))] (zM <| zR (oLa sh42) <| zE (oBs el52 ze42 zo42) <| zAS encR [] [y12] rfl el52 ze42 by42 (hbig := by exact (by simp +zetaDelta [maxLen] <;> omega)) (hbig' := by exact (by simp +zetaDelta <;> omega)) <| zM <| zF) ?_
  refine kx [(133, (vin 1))] [] (zE (oAd 1 (hr := by decide)) <| zM <| zZ) ?_
  refine pwp_again (SimImp.refl _) ?_
  refine pwp_seq <| kx [(134, (vb true))] [] (zE (oBk true oLt) <| zZ) ?_
  refine pwp_seq <| pwp_cond (b := true) (by kernel_rfl) (fun _ => ?_) (fun h => by cases h)
  refine pwp_skip <| pwp_seq <| pwp_block <| pwp_seq <| kx [(15, (vi (((2 : Nat) : Int) * ((c * d) + (a * b)))))] [] (zE (oXa ar203 sh3 (fun _ => rfl) 1) <| zM <| zZ) ?_
  refine pwp_seq ?_
  have bn8 : QL (Rat.divInt (2 * ((c * d) + (a * b))) (nq a b c d)) 3 := (ql_divInt (n := 3) (lenZ_int (by omega) (by omega)) (lenZ_int (by omega) (by omega)) (by decide))
  refine kx [(16, (.ref 16 0))] [(16, some (bx (encR y13)))] (zM <| zR (oLa sh25) <| zE (oCl (qr_norm a b c d (by omega) (by omega) (by omega) (by omega))) <| zE (oCl (q_of (((2 : Nat) : Int) * ((c * d) + (a * b))) (by omega) (by omega) (nq a b c d) (by omega) (by omega) hn0)) <| zM <| zE oEx <| zE oEx <| zH (oAl 16 ze42 zo42) <| zT (oSt sh42) <| zM <| zZ) ?_
  refine kf [(13, (.own 14 42 4 ((([] ++ [y12]) ++ [y13]).length)))] [(14, some (bxs encR (([] ++ [y12]) ++ [y13])))] (zM <| zR (oLa sh42) <| zE (oBs el52 ze42 zo42) <| zAS encR ([] ++ [y12]) [y13] rfl el52 ze42 by42 (hbig := by exact (by simp +zetaDelta [maxLen] <;> omega)) (hbig' := by exact (by simp +zetaDelta <;> omega)) <| zM <| zF) ?_
  refine kx [(133, (vin 2))] [] (zE (oAd 2 (hr := by decide)) <| zM <| zZ) ?_
  refine pwp_again (SimImp.refl _) ?_
  refine pwp_seq <| kx [(134, (vb true))] [] (zE (oBk true oLt) <| zZ) ?_
  refine pwp_seq <| pwp_cond (b := true) (by kernel_rfl) (fun _ => ?_) (fun h => by cases h)
  refine pwp_skip <| pwp_seq <| pwp_block <| pwp_seq <| kx [(15, (vi ((((a * a) - (b * b)) - (c * c)) + (d * d))))] [] (zE (oXa ar203 sh3 (fun _ => rfl) 2) <| zM <| zZ) ?_
  refine pwp_seq ?_
  have bn9 : QL (Rat.divInt ((((a * a) - (b * b)) - (c * c)) + (d * d)) (nq a b c d)) 3 := (ql_divInt (n := 3) (lenZ_int (by omega) (by omega)) (lenZ_int (by omega) (by omega)) (by decide))
  refine kx [(16, (.ref 17 0))] [(17, some (bx (encR y7)))] (zM <| zR (oLa sh25) <| zE (oCl (qr_norm a b c d (by omega) (by omega) (by omega) (by omega))) <| zE (oCl (q_of ((((a * a) - (b * b)) - (c * c)) + (d * d)) (by omega) (by omega) (nq a b c d) (by omega) (by omega) hn0)) <| zM <| zE oEx <| zE oEx <| zH (oAl 17 ze42 zo42) <| zT (oSt sh42) <| zM <| zZ) ?_
  refine kf [(13, (.own 14 42 4 (((([] ++ [y12]) ++ [y13]) ++ [y7]).length)))] [(14, some (bxs encR ((([] ++ [y12]) ++ [y13]) ++ [y7])))] (zM <| zR (oLa sh42) <| zE (oBs el52 ze42 zo42) <| zAS encR (([] ++ [y12]) ++ [y13]) [y7] rfl el52 ze42 by42 (hbig := by exact (by simp +zetaDelta [maxLen] <;> omega)) (hbig' := by exact (by simp +zetaDelta <;> omega)) <| zM <| zF) ?_
  refine kx [(133, (vin 3))] [] (zE (oAd 3 (hr := by decide)) <| zM <| zZ) ?_
  refine pwp_again (SimImp.refl _) ?_
  refine pwp_seq <| pwp_sim (wk (l := [(1, (.ref 0 0)), (10, (.own 2 52 1 ((([] ++ [((([] ++ [y5]) ++ [y8]) ++ [y9])]) ++ [((([] ++ [y10]) ++ [y6]) ++ [y11])]).length))), (13, (.own 14 42 4 (((([] ++ [y12]) ++ [y13]) ++ [y7]).length))), (128, (.d y1)), (129, (vin 2)), (132, (.d y4)), (133, (vin 3))]) (b := [(0, some (bx (encQuat (RQuat.mk a b c d)))), (14, some (bxs encR ((([] ++ [y12]) ++ [y13]) ++ [y7]))), (2, some (bm enc_sl_52 (([] ++ [((([] ++ [y5]) ++ [y8]) ++ [y9])]) ++ [((([] ++ [y10]) ++ [y6]) ++ [y11])])))])) ?_
  refine kx [(134, (vb false))] [] (zE (oBk false oLt) <| zZ) ?_
  refine pwp_seq <| pwp_cond (b := false) (by kernel_rfl) (fun h => by cases h) (fun _ => ?_)
  refine pwp_exit <| pwp_sim (publish (t := 13) (k := 14) (es := List.map encR ((([] ++ [y12]) ++ [y13]) ++ [y7])) rfl rfl (pubs_cells _ _ (fun _ => rfl)) (map_len _ _ rfl) (pubs_take encR ((([] ++ [y12]) ++ [y13]) ++ [y7]) (fun _ => rfl) rfl)) ?_
  refine kf [(10, (.own 2 52 1 (((([] ++ [((([] ++ [y5]) ++ [y8]) ++ [y9])]) ++ [((([] ++ [y10]) ++ [y6]) ++ [y11])]) ++ [((([] ++ [y12]) ++ [y13]) ++ [y7])]).length)))] [(2, some (bm enc_sl_52 ((([] ++ [((([] ++ [y5]) ++ [y8]) ++ [y9])]) ++ [((([] ++ [y10]) ++ [y6]) ++ [y11])]) ++ [((([] ++ [y12]) ++ [y13]) ++ [y7])])))] (zM <| zM <| zE (oBs el34 ze52 zo52) <| zA enc_sl_52 (([] ++ [((([] ++ [y5]) ++ [y8]) ++ [y9])]) ++ [((([] ++ [y10]) ++ [y6]) ++ [y11])]) [((([] ++ [y12]) ++ [y13]) ++ [y7])] rfl el34 ze52 by52 (hbig := by exact (by simp +zetaDelta [maxLen] <;> omega)) (hbig' := by exact (by simp +zetaDelta <;> omega)) <| zM <| zF) ?_
  refine kx [(129, (vin 3))] [] (zE (oAd 3 (hr := by decide)) <| zM <| zZ) ?_
  refine pwp_again (SimImp.refl _) ?_
  refine pwp_seq <| kx [(130, (vb false))] [] (zE (oBk false oLt) <| zZ) ?_
  refine pwp_seq <| pwp_cond (b := false) (by kernel_rfl) (fun h => by cases h) (fun _ => ?_)
  refine pwp_exit <| pwp_seq <| pwp_sim (publish (t := 10) (k := 2) (es := List.map enc_sl_52 ((([] ++ [((([] ++ [y5]) ++ [y8]) ++ [y9])]) ++ [((([] ++ [y10]) ++ [y6]) ++ [y11])]) ++ [((([] ++ [y12]) ++ [y13]) ++ [y7])])) rfl rfl (pub_cells _ _ (fun _ => rfl)) (map_len _ _ rfl) (pub_take _ _ (fun _ => rfl) rfl)) ?_
  refine kx [(2, (vl 52 1 enc_sl_52 ((([] ++ [((([] ++ [y5]) ++ [y8]) ++ [y9])]) ++ [((([] ++ [y10]) ++ [y6]) ++ [y11])]) ++ [((([] ++ [y12]) ++ [y13]) ++ [y7])]))), (3, (vin 0))] [] (zM <| zM <| zM <| zZ) ?_
  refine pwp_ret ⟨_, (.tmp (d := (.sl 52 1 (List.map enc_sl_52 ((([] ++ [((([] ++ [(ofQ (Rat.divInt ((((a * a) + (b * b)) - (c * c)) - (d * d)) (nq a b c d)))]) ++ [(ofQ (Rat.divInt (2 * ((b * c) - (a * d))) (nq a b c d)))]) ++ [(ofQ (Rat.divInt (2 * ((b * d) + (a * c))) (nq a b c d)))])]) ++ [((([] ++ [(ofQ (Rat.divInt (2 * ((b * c) + (a * d))) (nq a b c d)))]) ++ [(ofQ (Rat.divInt ((((a * a) - (b * b)) + (c * c)) - (d * d)) (nq a b c d)))]) ++ [(ofQ (Rat.divInt (2 * ((c * d) - (a * b))) (nq a b c d)))])]) ++ [((([] ++ [(ofQ (Rat.divInt (2 * ((b * d) - (a * c))) (nq a b c d)))]) ++ [(ofQ (Rat.divInt (2 * ((c * d) + (a * b))) (nq a b c d)))]) ++ [(ofQ (Rat.divInt ((((a * a) - (b * b)) - (c * c)) + (d * d)) (nq a b c d)))])])))) rfl (.tmp (d := (.val (.int .i64 (((0 : Nat) : Int))))) rfl .nil)), ?_⟩
  rfl
theorem qs_rmat (a b c d : Int) (ha : -1048576 ≤ a ∧ a ≤ 1048576) (hb : -1048576 ≤ b ∧ b ≤ 1048576) (hc : -1048576 ≤ c ∧ c ≤ 1048576) (hd : -1048576 ≤ d ∧ d ≤ 1048576) (hq : rotC a b c d = 0) (hn0 : nq a b c d ≠ 0) : Takes Tryz.prog 132 [(encQuat (RQuat.mk a b c d))] (.tup [(.sl 52 1 (List.map enc_sl_52 [[(ofQ (Q00 a b c d)), (ofQ (Q01 a b c d)), (ofQ (Q02 a b c d))], [(ofQ (Q10 a b c d)), (ofQ (Q11 a b c d)), (ofQ (Q12 a b c d))], [(ofQ (Q20 a b c d)), (ofQ (Q21 a b c d)), (ofQ (Q22 a b c d))]])), (.val (.int .i64 (0)))]) := by
  have saa := sq_b ha ha
  have sab := sq_b ha hb
  have sac := sq_b ha hc
  have sad := sq_b ha hd
  have sbb := sq_b hb hb
  have sbc := sq_b hb hc
  have sbd := sq_b hb hd
  have scc := sq_b hc hc
  have scd := sq_b hc hd
  have sdd := sq_b hd hd
  have hnq := nq_b ha hb hc hd
  let y13 := (ofQ (Rat.divInt (2 * ((b * d) - (a * c))) (nq a b c d)))
  let y12 := (ofQ (Rat.divInt (2 * ((b * c) + (a * d))) (nq a b c d)))
  let y11 := (ofQ (Rat.divInt ((((a * a) - (b * b)) + (c * c)) - (d * d)) (nq a b c d)))
  let y10 := (ofQ (Rat.divInt ((((a * a) + (b * b)) - (c * c)) - (d * d)) (nq a b c d)))
  let y9 := [y13, (ofQ (Rat.divInt (2 * ((c * d) + (a * b))) (nq a b c d)))]
  let y8 := [(((2 : Nat) : Int) * ((b * d) - (a * c))), (((2 : Nat) : Int) * ((c * d) + (a * b))), ((((a * a) - (b * b)) - (c * c)) + (d * d))]
  let y7 := [(((2 : Nat) : Int) * ((b * c) + (a * d))), ((((a * a) - (b * b)) + (c * c)) - (d * d)), (((2 : Nat) : Int) * ((c * d) - (a * b)))]
  let y6 := [((((a * a) + (b * b)) - (c * c)) - (d * d)), (((2 : Nat) : Int) * ((b * c) - (a * d))), (((2 : Nat) : Int) * ((b * d) + (a * c)))]
  let y5 := [y12, y11]
  let y4 := [y10, (ofQ (Rat.divInt (2 * ((b * c) - (a * d))) (nq a b c d)))]
  let y3 := [y13, (ofQ (Rat.divInt (2 * ((c * d) + (a * b))) (nq a b c d))), (ofQ (Rat.divInt ((((a * a) - (b * b)) - (c * c)) + (d * d)) (nq a b c d)))]
  let y2 := [y12, y11, (ofQ (Rat.divInt (2 * ((c * d) - (a * b))) (nq a b c d)))]
  let y1 := [y10, (ofQ (Rat.divInt (2 * ((b * c) - (a * d))) (nq a b c d))), (ofQ (Rat.divInt (2 * ((b * d) + (a * c))) (nq a b c d)))]
  refine fn_intro Tryz.func132 rfl cb132 rfl ?_
  show PWp _ _ _ _ ⟨[(0, (.d (encQuat (RQuat.mk a b c d))))], []⟩
  refine pwp_seq <| kx [(1, (.ref 0 0))] [(0, some (bx (encQuat (RQuat.mk a b c d))))] (zN (oBx 0) <| zE (oNl 52 1) <| zM <| zZ) ?_
  refine pwp_seq <| kx [(4, (vin (rotC a b c d)))] [] (zR (oLa sh25) <| zE (oCl (qs_chk a b c d)) <| zM <| zZ) ?_
  refine pwp_seq <| pwp_seq <| kx [(19, (vb false))] [] (zM <| zE (oBk false oNe (by exact bne_eq_false_iff_eq.2 (by rw [show (rotC a b c d) = 0 from hq]; rfl))) <| zZ) ?_
  refine pwp_cond (b := false) (by kernel_rfl) (fun h => by cases h) (fun _ => ?_)
  refine pwp_skip <| pwp_seq <| kx [(5, (vi a))] [] (zE (oFr fo25_0) <| zR (oL1 sh3) <| zM <| zZ) ?_
  refine pwp_seq <| kx [(6, (vi b))] [] (zE (oFr fo25_1) <| zR (oL1 sh3) <| zM <| zZ) ?_
  refine pwp_seq <| kx [(7, (vi c))] [] (zE (oFr fo25_2) <| zR (oL1 sh3) <| zM <| zZ) ?_
  refine pwp_seq <| kx [(8, (vi d))] [] (zE (oFr fo25_3) <| zR (oL1 sh3) <| zM <| zZ) ?_
  refine pwp_seq <| kx [(9, (vl 74 1 enc_sl_74 [y6, y7, y8]))] [] (zM <| zM <| zE (zMl (a * a) (hr := by exact (wAny rfl (by simp only [kLo]; omega) (by simp only [kHi]; omega)))) <| zM <| zM <| zE (zMl (b * b) (hr := by exact (wAny rfl (by simp only [kLo]; omega) (by simp only [kHi]; omega)))) <| zE (zAd ((a * a) + (b * b)) (hr := by exact (wAny rfl (by simp only [kLo]; omega) (by simp only [kHi]; omega)))) <| zM <| zM <| zE (zMl (c * c) (hr := by exact (wAny rfl (by simp only [kLo]; omega) (by simp only [kHi]; omega)))) <| zE (zSb (((a * a) + (b * b)) - (c * c)) (hr := by exact (wAny rfl (by simp only [kLo]; omega) (by simp only [kHi]; omega)))) <| zM <| zM <| zE (zMl (d * d) (hr := by exact (wAny rfl (by simp only [kLo]; omega) (by simp only [kHi]; omega)))) <| zE (zSb ((((a * a) + (b * b)) - (c * c)) - (d * d)) (hr := by exact (wAny rfl (by simp only [kLo]; omega) (by simp only [kHi]; omega)))) <| zM <| zM <| zE (zMl (b * c) (hr := by exact (wAny rfl (by simp only [kLo]; omega) (by simp only [kHi]; omega)))) <| zM <| zM <| zE (zMl (a * d) (hr := by exact (wAny rfl (by simp only [kLo]; omega) (by simp only [kHi]; omega)))) <| zE (zSb ((b * c) - (a * d)) (hr := by exact (wAny rfl (by simp only [kLo]; omega) (by simp only [kHi]; omega)))) <| zE (zMl (((2 : Nat) : Int) * ((b * c) - (a * d))) (hr := by exact (wAny rfl (by simp only [kLo]; omega) (by simp only [kHi]; omega)))) <| zM <| zM <| zE (zMl (b * d) (hr := by exact (wAny rfl (by simp only [kLo]; omega) (by simp only [kHi]; omega)))) <| zM <| zM <| zE (zMl (a * c) (hr := by exact (wAny rfl (by simp only [kLo]; omega) (by simp only [kHi]; omega)))) <| zE (zAd ((b * d) + (a * c)) (hr := by exact (wAny rfl (by simp only [kLo]; omega) (by simp only [kHi]; omega)))) <| zE (zMl (((2 : Nat) : Int) * ((b * d) + (a * c))) (hr := by exact (wAny rfl (by simp only [kLo]; omega) (by simp only [kHi]; omega)))) <| zE (oBs el74 ze3 zo3) <| zM <| zM <| zE (zMl (b * c) (hr := by exact (wAny rfl (by simp only [kLo]; omega) (by simp only [kHi]; omega)))) <| zM <| zM <| zE (zMl (a * d) (hr := by exact (wAny rfl (by simp only [kLo]; omega) (by simp only [kHi]; omega)))) <| zE (zAd ((b * c) + (a * d)) (hr := by exact (wAny rfl (by simp only [kLo]; omega) (by simp only [kHi]; omega)))) <| zE (zMl (((2 : Nat) : Int) * ((b * c) + (a * d))) (hr := by exact (wAny rfl (by simp only [kLo]; omega) (by simp only [kHi]; omega)))) <| zM <| zM <| zE (zMl (a * a) (hr := by exact (wAny rfl (by simp only [kLo]; omega) (by simp only [kHi]; omega)))) <| zM <| zM <| zE (zMl (b * b) (hr := by exact (wAny rfl (by simp only [kLo]; omega) (by simp only [kHi]; omega)))) <| zE (zSb ((a * a) - (b * b)) (hr := by exact (wAny rfl (by simp only [kLo]; omega) (by simp only [kHi]; omega)))) <| zM <| zM <| zE (zMl (c * c) (hr := by exact (wAny rfl (by simp only [kLo]; omega) (by simp only [kHi]; omega)))) <| zE (zAd (((a * a) - (b * b)) + (c * c)) (hr := by exact (wAny rfl (by simp only [kLo]; omega) (by simp only [kHi]; omega)))) <| zM <| zM <| zE (zMl (d * d) (hr := by exact (wAny rfl (by simp only [kLo]; omega) (by simp only [kHi]; omega)))) <| zE (zSb ((((a * a) - (b * b)) + (c * c)) - (d * d)) (hr := by exact (wAny rfl (by simp only [kLo]; omega) (by simp only [kHi]; omega)))) <| zM <| zM <| zE (zMl (c * d) (hr := by exact (wAny rfl (by simp only [kLo]; omega) (by simp only [kHi]; omega)))) <| zM <| zM <| zE (zMl (a * b) (hr := by exact (wAny rfl (by simp only [kLo]; omega) (by simp only [kHi]; omega)))) <| zE (zSb ((c * d) - (a * b)) (hr := by exact (wAny rfl (by simp only [kLo]; omega) (by simp only [kHi]; omega)))) <| zE (zMl (((2 : Nat) : Int) * ((c * d) - (a * b))) (hr := by exact (wAny rfl (by simp only [kLo]; omega) (by simp only [kHi]; omega)))) <| zE (oBs el74 ze3 zo3) <| zM <| zM <| zE (zMl (b * d) (hr := by exact (wAny rfl (by simp only [kLo]; omega) (by simp only [kHi]; omega)))) <| zM <| zM <| zE (zMl (a * c) (hr := by exact (wAny rfl (by simp only [kLo]; omega) (by simp only [kHi]; omega)))) <| zE (zSb ((b * d) - (a * c)) (hr := by exact (wAny rfl (by simp only [kLo]; omega) (by simp only [kHi]; omega)))) <| zE (zMl (((2 : Nat) : Int) * ((b * d) - (a * c))) (hr := by exact (wAny rfl (by simp only [kLo]; omega) (by simp only [kHi]; omega)))) <| zM <| zM <| zE (zMl (c * d) (hr := by exact (wAny rfl (by simp only [kLo]; omega) (by simp only [kHi]; omega)))) <| zM <| zM <| zE (zMl (a * b) (hr := by exact (wAny rfl (by simp only [kLo]; omega) (by simp only [kHi]; omega)))) <| zE (zAd ((c * d) + (a * b)) (hr := by exact (wAny rfl (by simp only [kLo]; omega) (by simp only [kHi]; omega)))) <| zE (zMl (((2 : Nat) : Int) * ((c * d) + (a * b))) (hr := by exact (wAny rfl (by simp only [kLo]; omega) (by simp only [kHi]; omega)))) <| zM <| zM <| zE (zMl (a * a) (hr := by exact (wAny rfl (by simp only [kLo]; omega) (by simp only [kHi]; omega)))) <| zM <| zM <| zE (zMl (b * b) (hr := by exact (wAny rfl (by simp only [kLo]; omega) (by simp only [kHi]; omega)))) <| zE (zSb ((a * a) - (b * b)) (hr := by exact (wAny rfl (by simp only [kLo]; omega) (by simp only [kHi]; omega)))) <| zM <| zM <| zE (zMl (c * c) (hr := by exact (wAny rfl (by simp only [kLo]; omega) (by simp only [kHi]; omega)))) <| zE (zSb (((a * a) - (b * b)) - (c * c)) (hr := by exact (wAny rfl (by simp only [kLo]; omega) (by simp only [kHi]; omega)))) <| zM <| zM <| zE (zMl (d * d) (hr := by exact (wAny rfl (by simp only [kLo]; omega) (by simp only [kHi]; omega)))) <| zE (zAd ((((a * a) - (b * b)) - (c * c)) + (d * d)) (hr := by exact (wAny rfl (by simp only [kLo]; omega) (by simp only [kHi]; omega)))) <| zE (oBs el74 ze3 zo3) <| zE (oBs el109 ze74 zo74) <| zM <| zZ) ?_
  refine pwp_seq <| kx [(10, (.own 1 52 1 0))] [(1, some (bm enc_sl_52 []))] (zN (oBo 1 el34 ze52 zo52) <| zM <| zZ) ?_
  refine pwp_seq <| pwp_seq <| kx [(11, (vin 0))] [] (zM <| zZ) ?_
  refine pwp_block <| pwp_rounds 20 ?_
  refine pwp_round <| pwp_seq <| pwp_seq <| kx [(128, (vb true))] [] (zM <| zE (oBk true oLt) <| zZ) ?_
  refine pwp_cond (b := true) (by kernel_rfl) (fun _ => ?_) (fun h => by cases h)
  refine pwp_skip <| pwp_seq <| pwp_block <| pwp_seq <| kx [(12, (.own 2 42 4 0))] [(2, some (bxs encR []))] (zH (oBo 2 el52 ze42 zo42) <| zM <| zZ) ?_
  refine pwp_seq <| pwp_seq <| kx [(13, (vin 0))] [] (zM <| zZ) ?_
  refine pwp_block <| pwp_rounds 20 ?_
  refine pwp_round <| pwp_seq <| pwp_seq <| kx [(133, (vb true))] [] (zM <| zE (oBk true oLt) <| zZ) ?_
  refine pwp_cond (b := true) (by kernel_rfl) (fun _ => ?_) (fun h => by cases h)
  refine pwp_skip <| pwp_seq <| pwp_block <| pwp_seq <| pwp_sim (wk (l := [(1, (.ref 0 0)), (9, (vl 74 1 enc_sl_74 [y6, y7, y8])), (10, (.own 1 52 1 0)), (11, (vin 0)), (12, (.own 2 42 4 0)), (13, (vin 0)), (133, (vb true))]) (b := [(0, some (bx (encQuat (RQuat.mk a b c d)))), (1, some (bm enc_sl_52 [])), (2, some (bxs encR []))])) ?_
  have bn1 : QL (Rat.divInt ((((a * a) + (b * b)) - (c * c)) - (d * d)) (nq a b c d)) 3 := (ql_divInt (n := 3) (lenZ_int (by omega) (by omega)) (lenZ_int (by omega) (by omega)) (by decide))
  refine kd [(14, (.ref 3 0))] [(3, some (bx (encR y10)))] mo (wM <| wM <| wE (oXs el109 0) <| wE (oC1 sh74) <| wM <| wE (oXs el74 0) <| wE (oC1 sh3) <| wR (oLa sh25) <| wE (oCl (q8_norm a b c d (by omega) (by omega) (by omega) (by omega))) <| wE (oCl (qs_of ((((a * a) + (b * b)) - (c * c)) - (d * d)) (by omega) (by omega) (nq a b c d) (by omega) (by omega) hn0)) <| wM <| wE oEx <| wE oEx <| wH (hc := by kernel_rfl) (oAl 3 ze42 zo42) <| wT (oSt sh42) <| wM <| wZ) ?_
  refine kf [(12, (.own 2 42 4 ([y10].length)))] [(2, some (bxs encR [y10]))] (zM <| zR (oLa sh42) <| zE (oBs el52 ze42 zo42) <| zAS encR [] [y10] rfl el52 ze42 by42 (hbig := by exact (by simp +zetaDelta [maxLen] <;> omega)) (hbig' := by exact (by simp +zetaDelta <;> omega)) <| zM <| zF) ?_
  refine kx [(13, (vin 1))] [] (zM <| zE (oAd 1 (hr := by decide)) <| zM <| zZ) ?_
  refine pwp_again (SimImp.refl _) ?_
  refine pwp_seq <| pwp_seq <| kx [(133, (vb true))] [] (zM <| zE (oBk true oLt) <| zZ) ?_
  refine pwp_cond (b := true) (by kernel_rfl) (fun _ => ?_) (fun h => by cases h)
  refine pwp_skip <| pwp_seq <| pwp_block <| pwp_seq ?_
  have bn2 : QL (Rat.divInt (2 * ((b * c) - (a * d))) (nq a b c d)) 3 := (ql_divInt (n := 3) (lenZ_int (by omega) (by omega)) (lenZ_int (by omega) (by omega)) (by decide))
  refine kd [(14, (.ref 4 0))] [(4, some (bx (encR (ofQ (Rat.divInt (2 * ((b * c) - (a * d))) (nq a b c d))))))] mo (wM <| wM <| wE (oXs el109 0) <| wE (oC1 sh74) <| wM <| wE (oXs el74 1) <| wE (oC1 sh3) <| wR (oLa sh25) <| wE (oCl (q8_norm a b c d (by omega) (by omega) (by omega) (by omega))) <| wE (oCl (qs_of (((2 : Nat) : Int) * ((b * c) - (a * d))) (by omega) (by omega) (nq a b c d) (by omega) (by omega) hn0)) <| wM <| wE oEx <| wE oEx <| wH (hc := by kernel_rfl) (oAl 4 ze42 zo42) <| wT (oSt sh42) <| wM <| wZ) ?_
  refine kf [(12, (.own 2 42 4 (y4.length)))] [(2, some (bxs encR y4))] (zM <| zR (oLa sh42) <| zE (oBs el52 ze42 zo42) <| zAS encR [y10] [(ofQ (Rat.divInt (2 * ((b * c) - (a * d))) (nq a b c d)))] rfl el52 ze42 by42 (hbig := by exact (by simp +zetaDelta [maxLen] <;> omega)) (hbig' := by exact (by simp +zetaDelta <;> omega)) <| zM <| zF) ?_
  refine kx [(13, (vin 2))] [] (zM <| zE (oAd 2 (hr := by decide)) <| zM <| zZ) ?_
  refine pwp_again (SimImp.refl _) ?_
  refine pwp_seq <| pwp_seq <| kx [(133, (vb true))] [] (zM <| zE (oBk true oLt) <| zZ) ?_
  refine pwp_cond (b := true) (by kernel_rfl) (fun _ => ?_) (fun h => by cases h)
  refine pwp_skip <| pwp_seq <| pwp_block <| pwp_seq ?_
  have bn3 : QL (Rat.divInt (2 * ((b * d) + (a * c))) (nq a b c d)) 3 := (ql_divInt (n := 3) (lenZ_int (by omega) (by omega)) (lenZ_int (by omega) (by omega)) (by decide))
  refine kd [(14, (.ref 5 0))] [(5, some (bx (encR (ofQ (Rat.divInt (2 * ((b * d) + (a * c))) (nq a b c d))))))] mo (wM <| wM <| wE (oXs el109 0) <| wE (oC1 sh74) <| wM <| wE (oXs el74 2) <| wE (oC1 sh3) <| wR (oLa sh25) <| wE (oCl (q8_norm a b c d (by omega) (by omega) (by omega) (by omega))) <| wE (oCl (qs_of (((2 : Nat) : Int) * ((b * d) + (a * c))) (by omega) (by omega) (nq a b c d) (by omega) (by omega) hn0)) <| wM <| wE oEx <| wE oEx <| wH (hc := by kernel_rfl) (oAl 5 ze42 zo42) <| wT (oSt sh42) <| wM <| wZ) ?_
  refine kf [(12, (.own 2 42 4 (y1.length)))] [(2, some (bxs encR y1))] (zM <| zR (oLa sh42) <| zE (oBs el52 ze42 zo42) <| zAS encR y4 [(ofQ (Rat.divInt (2 * ((b * d) + (a * c))) (nq a b c d)))] rfl el52 ze42 by42 (hbig := by exact (by simp +zetaDelta [maxLen] <;> omega)) (hbig' := by exact (by simp +zetaDelta <;> omega)) <| zM <| zF) ?_
  refine kx [(13, (vin 3))] [] (zM <| zE (oAd 3 (hr := by decide)) <| zM <| zZ) ?_
  refine pwp_again (SimImp.refl _) ?_
  refine pwp_seq <| pwp_seq <| kx [(133, (vb false))] [] (zM <| zE (oBk false oLt) <| zZ) ?_
  refine pwp_cond (b := false) (by kernel_rfl) (fun h => by cases h) (fun _ => ?_)
  refine pwp_exit <| pwp_sim (publish (t := 12) (k := 2) (es := List.map encR y1) rfl rfl (pubs_cells _ _ (fun _ => rfl)) (map_len _ _ rfl) (pubs_take encR y1 (fun _ => rfl) rfl)) ?_
  refine kf [(10, (.own 1 52 1 ([y1].length)))] [(1, some (bm enc_sl_52 [y1]))] (zM <| zM <| zE (oBs el34 ze52 zo52) <| zA enc_sl_52 [] [y1] rfl el34 ze52 by52 (hbig := by exact (by simp +zetaDelta [maxLen] <;> omega)) (hbig' := by exact (by simp +zetaDelta <;> omega)) <| zM <| zF) ?_
  refine kx [(11, (vin 1))] [] (zM <| zE (oAd 1 (hr := by decide)) <| zM <| zZ) ?_
  refine pwp_again (SimImp.refl _) ?_
  refine pwp_seq <| pwp_seq <| pwp_sim (wk (l := [(1, (.ref 0 0)), (9, (vl 74 1 enc_sl_74 [y6, y7, y8])), (10, (.own 1 52 1 ([y1].length))), (11, (vin 1))]) (b := [(0, some (bx (encQuat (RQuat.mk a b c d)))), (1, some (bm enc_sl_52 [y1]))])) ?_
  refine kx [(128, (vb true))] [] (zM <| zE (oBk true oLt) <| zZ) ?_
  refine pwp_cond (b := true) (by kernel_rfl) (fun _ => ?_) (fun h => by cases h)
  refine pwp_skip <| pwp_seq <| pwp_block <| pwp_seq <| kx [(12, (.own 6 42 4 0))] [(6, some (bxs encR []))] (zH (oBo 6 el52 ze42 zo42) <| zM <| zZ) ?_
  refine pwp_seq <| pwp_seq <| kx [(13, (vin 0))] [] (zM <| zZ) ?_
  refine pwp_block <| pwp_rounds 20 ?_
  refine pwp_round <| pwp_seq <| pwp_seq <| kx [(133, (vb true))] [] (zM <| zE (oBk true oLt) <| zZ) ?_
  refine pwp_cond (b := true) (by kernel_rfl) (fun _ => ?_) (fun h => by cases h)
  refine pwp_skip <| pwp_seq <| pwp_block <| pwp_seq ?_
  have bn4 : QL (Rat.divInt (2 * ((b * c) + (a * d))) (nq a b c d)) 3 := (ql_divInt (n := 3) (lenZ_int (by omega) (by omega)) (lenZ_int (by omega) (by omega)) (by decide))
  refine kd [(14, (.ref 7 0))] [(7, some (bx (encR y12)))] mo (wM <| wM <| wE (oXs el109 1) <| wE (oC1 sh74) <| wM <| wE (oXs el74 0) <| wE (oC1 sh3) <| wR (oLa sh25) <| wE (oCl (q8_norm a b c d (by omega) (by omega) (by omega) (by omega))) <| wE (oCl (qs_of (((2 : Nat) : Int) * ((b * c) + (a * d))) (by omega) (by omega) (nq a b c d) (by omega) (by omega) hn0)) <| wM <| wE oEx <| wE oEx <| wH (hc := by kernel_rfl) (oAl 7 ze42 zo42) <| wT (oSt sh42) <| wM <| wZ) ?_
  refine kf [(12, (.own 6 42 4 ([y12].length)))] [(6, some (bxs encR [y12]))] (zM <| zR (oLa sh42) <| zE (oBs el52 ze42 zo42) <| zAS encR [] [y12] rfl el52 ze42 by42 (hbig := by exact (by simp +zetaDelta [maxLen] <;> omega)) (hbig' := by exact (by simp +zetaDelta <;> omega)) <| zM <| zF) ?_
  refine kx [(13, (vin 1))] [] (zM <| zE (oAd 1 (hr := by decide)) <| zM <| zZ) ?_
  refine pwp_again (SimImp.refl _) ?_
  refine pwp_seq <| pwp_seq <| kx [(133, (vb true))] [] (zM <| zE (oBk true oLt) <| zZ) ?_
  refine pwp_cond (b := true) (by kernel_rfl) (fun _ => ?_) (fun h => by cases h)
  refine pwp_skip <| pwp_seq <| pwp_block <| pwp_seq ?_
  have bn5 : QL (Rat.divInt ((((a * a) - (b * b)) + (c * c)) - (d * d)) (nq a b c d)) 3 := (ql_divInt (n := 3) (lenZ_int (by omega) (by omega)) (lenZ_int (by omega) (by omega)) (by decide))
  refine kd [(14, (.ref 8 0))] [(8, some (bx (encR y11)))] mo (wM <| wM <| wE (oXs el109 1) <| wE (oC1 sh74) <| wM <| wE (oXs el74 1) <| wE (oC1 sh3) <| wR (oLa sh25) <| wE (oCl (q8_norm a b c d (by omega) (by omega) (by omega) (by omega))) <| wE (oCl (qs_of ((((a * a) - (b * b)) + (c * c)) - (d * d)) (by omega) (by omega) (nq a b c d) (by omega) (by omega) hn0)) <| wM <| wE oEx <| wE oEx <| wH (hc := by kernel_rfl) (oAl 8 ze42 zo42) <| wT (oSt sh42) <| wM <| wZ) ?_
  refine kf [(12, (.own 6 42 4 (y5.length)))] [(6, some (bxs encR y5))] (zM <| zR (oLa sh42) <| zE (oBs el52 ze42 zo42) <| zAS encR [y12] [y11] rfl el52 ze42 by42 (hbig := by exact (by simp +zetaDelta [maxLen] <;> omega)) (hbig' := by exact (by simp +zetaDelta <;> omega)) <| zM <| zF) ?_
  refine kx [(13, (vin 2))] [] (zM <| zE (oAd 2 (hr := by decide)) <| zM <| zZ) ?_
  refine pwp_again (SimImp.refl _) ?_
  refine pwp_seq <| pwp_seq <| kx [(133, (vb true))] [] (zM <| zE (oBk true oLt) <| zZ) ?_
  refine pwp_cond (b := true) (by kernel_rfl) (fun _ => ?_) (fun h => by cases h)
  refine pwp_skip <| pwp_seq <| pwp_block <| pwp_seq ?_
  have bn6 : QL (Rat.divInt (2 * ((c * d) - (a * b))) (nq a b c d)) 3 := (ql_divInt (n := 3) (lenZ_int (by omega) (by omega)) (lenZ_int (by omega) (by omega)) (by decide))
  refine kd [(14, (.ref 9 0))] [(9, some (bx (encR (ofQ (Rat.divInt (2 * ((c * d) - (a * b))) (nq a b c d))))))] mo (wM <| wM <| wE (oXs el109 1) <| wE (oC1 sh74) <| wM <| wE (oXs el74 2) <| wE (oC1 sh3) <| wR (oLa sh25) <| wE (oCl (q8_norm a b c d (by omega) (by omega) (by omega) (by omega))) <| wE (oCl (qs_of (((2 : Nat) : Int) * ((c * d) - (a * b))) (by omega) (by omega) (nq a b c d) (by omega) (by omega) hn0)) <| wM <| wE oEx <| wE oEx <| wH (hc := by kernel_rfl) (oAl 9 ze42 zo42) <| wT (oSt sh42) <| wM <| wZ) ?_
  refine kf [(12, (.own 6 42 4 (y2.length)))] [(6, some (bxs encR y2))] (zM <| zR (oLa sh42) <| zE (oBs el52 ze42 zo42) <| zAS encR y5 [(ofQ (Rat.divInt (2 * ((c * d) - (a * b))) (nq a b c d)))] rfl el52 ze42 by42 (hbig := by exact (by simp +zetaDelta [maxLen] <;> omega)) (hbig' := by exact (by simp +zetaDelta <;> omega)) <| zM <| zF) ?_
  refine pwp_sim (wk (l := [(1, (.ref 0 0)), (9, (vl 74 1 enc_sl_74 [y6, y7, y8])), (10, (.own 1 52 1 ([y1].length))), (11, (vin 1)), (12, (.own 6 42 4 (y2.length))), (13, (vin 2))]) (b := [(0, some (bx (encQuat (RQuat.mk a b c d)))), (1, some (bm enc_sl_52 [y1])), (6, some (bxs encR y2))])) ?_
  refine kx [(13, (vin 3))] [] (zM <| zE (oAd 3 (hr := by decide)) <| zM <| zZ) ?_
  refine pwp_again (SimImp.refl _) ?_
  refine pwp_seq <| pwp_seq <| kx [(133, (vb false))] [] (zM <| zE (oBk false oLt) <| zZ) ?_
  refine pwp_cond (b := false) (by kernel_rfl) (fun h => by cases h) (fun _ => ?_)
  refine pwp_exit <| pwp_sim (publish (t := 12) (k := 6) (es := List.map encR y2) rfl rfl (pubs_cells _ _ (fun _ => rfl)) (map_len _ _ rfl) (pubs_take encR y2 (fun _ => rfl) rfl)) ?_
  refine kf [(10, (.own 1 52 1 ([y1, y2].length)))] [(1, some (bm enc_sl_52 [y1, y2]))] (zM <| zM <| zE (oBs el34 ze52 zo52) <| zA enc_sl_52 [y1] [y2] rfl el34 ze52 by52 (hbig := by exact (by simp +zetaDelta [maxLen] <;> omega)) (hbig' := by exact (by simp +zetaDelta <;> omega)) <| zM <| zF) ?_
  refine kx [(11, (vin 2))] [] (zM <| zE (oAd 2 (hr := by decide)) <| zM <| zZ) ?_
  refine pwp_again (SimImp.refl _) ?_
  refine pwp_seq <| pwp_seq <| kx [(128, (vb true))] [] (zM <| zE (oBk true oLt) <| zZ) ?_
  refine pwp_cond (b := true) (by kernel_rfl) (fun _ => ?_) (fun h => by cases h)
  refine pwp_skip <| pwp_seq <| pwp_block <| pwp_seq <| kx [(12, (.own 10 42 4 0))] [(10, some (bxs encR []))] (zH (oBo 10 el52 ze42 zo42) <| zM <| zZ) ?_
  refine pwp_seq <| pwp_seq <| kx [(13, (vin 0))] [] (zM <| zZ) ?_
  refine pwp_block <| pwp_rounds 20 ?_
  refine pwp_round <| pwp_seq <| pwp_seq <| kx [(133, (vb true))] [] (zM <| zE (oBk true oLt) <| zZ) ?_
  refine pwp_cond (b := true) (by kernel_rfl) (fun _ => ?_) (fun h => by cases h)
  refine pwp_skip <| pwp_seq <| pwp_block <| pwp_seq ?_
  have bn7 : QL (Rat.divInt (2 * ((b * d) - (a * c))) (nq a b c d)) 3 := (ql_divInt (n := 3) (lenZ_int (by omega) (by omega)) (lenZ_int (by omega) (by omega)) (by decide))
  refine kd [(14, (.ref 11 0))] [(11, some (bx (encR y13)))] mo (wM <| wM <| wE (oXs el109 2) <| wE (oC1 sh74) <| wM <| wE (oXs el74 0) <| wE (oC1 sh3) <| wR (oLa sh25) <| wE (oCl (q8_norm a b c d (by omega) (by omega) (by omega) (by omega))) <| wE (oCl (qs_of (((2 : Nat) : Int) * ((b * d) - (a * c))) (by omega) (by omega) (nq a b c d) (by omega) (by omega) hn0)) <| wM <| wE oEx <| wE oEx <| wH (hc := by kernel_rfl) (oAl 11 ze42 zo42) <| wT (oSt sh42) <| wM <| wZ) ?_
  refine kf [(12, (.own 10 42 4 ([y13].length)))] [(10, some (bxs encR [y13]))] (zM <| zR (oLa sh42) <| zE (oBs el52 ze42 zo42) <| zAS encR [] [y13] rfl el52 ze42 by42 (hbig := by exact (by simp +zetaDelta [maxLen] <;> omega)) (hbig' := by exact (by simp +zetaDelta <;> omega)) <| zM <| zF) ?_
  refine kx [(13, (vin 1))] [] (zM <| zE (oAd 1 (hr := by decide)) <| zM <| zZ) ?_
  refine pwp_again (SimImp.refl _) ?_
  refine pwp_seq <| pwp_seq <| kx [(133, (vb true))] [] (zM <| zE (oBk true oLt) <| zZ) ?_
  refine pwp_cond (b := true) (by kernel_rfl) (fun _ => ?_) (fun h => by cases h)
  refine pwp_skip <| pwp_seq <| pwp_block <| pwp_seq ?_
  have bn8 : QL (Rat.divInt (2 * ((c * d) + (a * b))) (nq a b c d)) 3 := (ql_divInt (n := 3) (lenZ_int (by omega) (by omega)) (lenZ_int (by omega) (by omega)) (by decide))
  refine kd [(14, (.ref 12 0))] [(12, some (bx (encR (ofQ (Rat.divInt (2 * ((c * d) + (a * b))) (nq a b c d))))))] mo (wM <| wM <| wE (oXs el109 2) <| wE (oC1 sh74) <| wM <| wE (oXs el74 1) <| wE (oC1 sh3) <| wR (oLa sh25) <| wE (oCl (q8_norm a b c d (by omega) (by omega) (by omega) (by omega))) <| wE (oCl (qs_of (((2 : Nat) : Int) * ((c * d) + (a * b))) (by omega) (by omega) (nq a b c d) (by omega) (by omega) hn0)) <| wM <| wE oEx <| wE oEx <| wH (hc := by kernel_rfl) (oAl 12 ze42 zo42) <| wT (oSt sh42) <| wM <| wZ) ?_
  refine kf [(12, (.own 10 42 4 (y9.length)))] [(10, some (bxs encR y9))] (zM <| zR (oLa sh42) <| zE (oBs el52 ze42 zo42) <| zAS encR [y13] [(ofQ (Rat.divInt (2 * ((c * d) + (a * b))) (nq a b c d)))] rfl el52 ze42 by42 (hbig := by exact (by simp +zetaDelta [maxLen] <;> omega)) (hbig' := by exact (by simp +zetaDelta <;> omega)) <| zM <| zF) ?_
  refine pwp_sim (wk (l := [(1, (.ref 0 0)), (9, (vl 74 1 enc_sl_74 [y6, y7, y8])), (10, (.own 1 52 1 ([y1, y2].length))), (11, (vin 2)), (12, (.own 10 42 4 (y9.length))), (13, (vin 1))]) (b := [(0, some (bx (encQuat (RQuat.mk a b c d)))), (1, some (bm enc_sl_52 [y1, y2])), (10, some (bxs encR y9))])) ?_
  refine kx [(13, (vin 2))] [] (zM <| zE (oAd 2 (hr := by decide)) <| zM <| zZ) ?_
  refine pwp_again (SimImp.refl _) ?_
  refine pwp_seq <| pwp_seq <| kx [(133, (vb true))] [] (zM <| zE (oBk true oLt) <| zZ) ?_
  refine pwp_cond (b := true) (by kernel_rfl) (fun _ => ?_) (fun h => by cases h)
  refine pwp_skip <| pwp_seq <| pwp_block <| pwp_seq ?_
  have bn9 : QL (Rat.divInt ((((a * a) - (b * b)) - (c * c)) + (d * d)) (nq a b c d)) 3 := (ql_divInt (n := 3) (lenZ_int (by omega) (by omega)) (lenZ_int (by omega) (by omega)) (by decide))
  refine kd [(14, (.ref 13 0))] [(13, some (bx (encR (ofQ (Rat.divInt ((((a * a) - (b * b)) - (c * c)) + (d * d)) (nq a b c d))))))] mo (wM <| wM <| wE (oXs el109 2) <| wE (oC1 sh74) <| wM <| wE (oXs el74 2) <| wE (oC1 sh3) <| wR (oLa sh25) <| wE (oCl (q8_norm a b c d (by omega) (by omega) (by omega) (by omega))) <| wE (oCl (qs_of ((((a * a) - (b * b)) - (c * c)) + (d * d)) (by omega) (by omega) (nq a b c d) (by omega) (by omega) hn0)) <| wM <| wE oEx <| wE oEx <| wH (hc := by kernel_rfl) (oAl 13 ze42 zo42) <| wT (oSt sh42) <| wM <| wZ) ?_
  refine kf [(12, (.own 10 42 4 (y3.length)))] [(10, some (bxs encR y3))] (zM <| zR (oLa sh42) <| zE (oBs el52 ze42 zo42) <| zAS encR y9 [(ofQ (Rat.divInt ((((a * a) - (b * b)) - (c * c)) + (d * d)) (nq a b c d)))] rfl el52 ze42 by42 (hbig := by exact (by simp +zetaDelta [maxLen] <;> omega)) (hbig' := by exact (by simp +zetaDelta <;> omega)) <| zM <| zF) ?_
  refine kx [(13, (vin 3))] [] (zM <| zE (oAd 3 (hr := by decide)) <| zM <| zZ) ?_
  refine pwp_again (SimImp.refl _) ?_
  refine pwp_seq <| pwp_seq <| kx [(133, (vb false))] [] (zM <| zE (oBk false oLt) <| zZ) ?_
  refine pwp_cond (b := false) (by kernel_rfl) (fun h => by cases h) (fun _ => ?_)
  refine pwp_exit <| pwp_sim (publish (t := 12) (k := 10) (es := List.map encR y3) rfl rfl (pubs_cells _ _ (fun _ => rfl)) (map_len _ _ rfl) (pubs_take encR y3 (fun _ => rfl) rfl)) ?_
  refine kf [(10, (.own 1 52 1 ([y1, y2, y3].length)))] [(1, some (bm enc_sl_52 [y1, y2, y3]))] (zM <| zM <| zE (oBs el34 ze52 zo52) <| zA enc_sl_52 [y1, y2] [y3] rfl el34 ze52 by52 (hbig := by exact (by simp +zetaDelta [maxLen] <;> omega)) (hbig' := by exact (by simp +zetaDelta <;> omega)) <| zM <| zF) ?_
  refine kx [(11, (vin 3))] [] (zM <| zE (oAd 3 (hr := by decide)) <| zM <| zZ) ?_
  refine pwp_again (SimImp.refl _) ?_
  refine pwp_seq <| pwp_seq <| kx [(128, (vb false))] [] (zM <| zE (oBk false oLt) <| zZ) ?_
  refine pwp_cond (b := false) (by kernel_rfl) (fun h => by cases h) (fun _ => ?_)
  refine pwp_exit <| pwp_seq <| pwp_sim (publish (t := 10) (k := 1) (es := List.map enc_sl_52 [y1, y2, y3]) rfl rfl (pub_cells _ _ (fun _ => rfl)) (map_len _ _ rfl) (pub_take _ _ (fun _ => rfl) rfl)) ?_
  refine kx [(2, (vl 52 1 enc_sl_52 [y1, y2, y3])), (3, (vin 0))] [] (zM <| zM <| zM <| zZ) ?_
  refine pwp_ret ⟨_, (.tmp (d := (.sl 52 1 (List.map enc_sl_52 [[(ofQ (Rat.divInt ((((a * a) + (b * b)) - (c * c)) - (d * d)) (nq a b c d))), (ofQ (Rat.divInt (2 * ((b * c) - (a * d))) (nq a b c d))), (ofQ (Rat.divInt (2 * ((b * d) + (a * c))) (nq a b c d)))], [(ofQ (Rat.divInt (2 * ((b * c) + (a * d))) (nq a b c d))), (ofQ (Rat.divInt ((((a * a) - (b * b)) + (c * c)) - (d * d)) (nq a b c d))), (ofQ (Rat.divInt (2 * ((c * d) - (a * b))) (nq a b c d)))], [(ofQ (Rat.divInt (2 * ((b * d) - (a * c))) (nq a b c d))), (ofQ (Rat.divInt (2 * ((c * d) + (a * b))) (nq a b c d))), (ofQ (Rat.divInt ((((a * a) - (b * b)) - (c * c)) + (d * d)) (nq a b c d)))]]))) rfl (.tmp (d := (.val (.int .i64 (((0 : Nat) : Int))))) rfl .nil)), ?_⟩
  rfl
end Go.Proofs.YtbecgnplakngdaaGreat
