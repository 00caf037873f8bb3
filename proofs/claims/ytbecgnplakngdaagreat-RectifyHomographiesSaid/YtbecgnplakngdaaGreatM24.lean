/- Part 24 of a proof: rules, plain facts, and functions walked. -/
import Derived.Test.YtbecgnplakngdaaGreatM20
import Derived.Test.YtbecgnplakngdaaGreatM23
import Derived.Test.YtbecgnplakngdaaGreatM19
import Derived.Test.YtbecgnplakngdaaGreatM21
set_option linter.unusedVariables false
set_option linter.unusedSimpArgs false
namespace Go.Fid
def nq (a b c d : Int) : Int := (((a * a) + (b * b)) + (c * c)) + (d * d)
def N4 (a b c d : Int) : Rat := ((nq a b c d : Int) : Rat)
def r00 (a b c d : Int) : Int := (((a * a) + (b * b)) - (c * c)) - (d * d)
def gD (a b c d : Int) : Rat := ((r00 a b c d : Int) : Rat)
def Q00 (a b c d : Int) : Rat := Rat.divInt (r00 a b c d) (nq a b c d)
def r01 (a b c d : Int) : Int := 2 * ((b * c) - (a * d))
def gE (a b c d : Int) : Rat := ((r01 a b c d : Int) : Rat)
def Q01 (a b c d : Int) : Rat := Rat.divInt (r01 a b c d) (nq a b c d)
def r02 (a b c d : Int) : Int := 2 * ((b * d) + (a * c))
def zJ (a b c d : Int) : Rat := ((r02 a b c d : Int) : Rat)
def Q02 (a b c d : Int) : Rat := Rat.divInt (r02 a b c d) (nq a b c d)
def r10 (a b c d : Int) : Int := 2 * ((b * c) + (a * d))
def gK (a b c d : Int) : Rat := ((r10 a b c d : Int) : Rat)
def Q10 (a b c d : Int) : Rat := Rat.divInt (r10 a b c d) (nq a b c d)
def r11 (a b c d : Int) : Int := (((a * a) - (b * b)) + (c * c)) - (d * d)
def gJ (a b c d : Int) : Rat := ((r11 a b c d : Int) : Rat)
def Q11 (a b c d : Int) : Rat := Rat.divInt (r11 a b c d) (nq a b c d)
def r12 (a b c d : Int) : Int := 2 * ((c * d) - (a * b))
def yA (a b c d : Int) : Rat := ((r12 a b c d : Int) : Rat)
def Q12 (a b c d : Int) : Rat := Rat.divInt (r12 a b c d) (nq a b c d)
def r20 (a b c d : Int) : Int := 2 * ((b * d) - (a * c))
def gO (a b c d : Int) : Rat := ((r20 a b c d : Int) : Rat)
def Q20 (a b c d : Int) : Rat := Rat.divInt (r20 a b c d) (nq a b c d)
def r21 (a b c d : Int) : Int := 2 * ((c * d) + (a * b))
def gP (a b c d : Int) : Rat := ((r21 a b c d : Int) : Rat)
def Q21 (a b c d : Int) : Rat := Rat.divInt (r21 a b c d) (nq a b c d)
def r22 (a b c d : Int) : Int := (((a * a) - (b * b)) - (c * c)) + (d * d)
def yB (a b c d : Int) : Rat := ((r22 a b c d : Int) : Rat)
def Q22 (a b c d : Int) : Rat := Rat.divInt (r22 a b c d) (nq a b c d)
theorem xG {a b c d : Int} (h : gU a b c d = 0) : (-1048576 ≤ a ∧ a ≤ 1048576) ∧ (-1048576 ≤ b ∧ b ≤ 1048576) ∧ (-1048576 ≤ c ∧ c ≤ 1048576) ∧ (-1048576 ≤ d ∧ d ≤ 1048576) ∧ ¬ (a = 0 ∧ b = 0 ∧ c = 0 ∧ d = 0) := by
  unfold gU at h
  split at h
  · cases h
  · rename_i h0
    split at h
    · rename_i h1; exact ⟨h1.1, h1.2.1, h1.2.2.1, h1.2.2.2, h0⟩
    · cases h
theorem xF {x y z u v f a b c d : Int} (h : uL x y z u v f a b c d = 0) : (-1048576 ≤ x ∧ x ≤ 1048576) ∧ (-1048576 ≤ y ∧ y ≤ 1048576) ∧ (-1048576 ≤ z ∧ z ≤ 1048576) ∧ (-1048576 ≤ u ∧ u ≤ 1048576) ∧ (-1048576 ≤ v ∧ v ≤ 1048576) ∧ (1 ≤ f ∧ f ≤ 1048576) ∧ gU a b c d = 0 := by
  unfold uL at h
  split at h
  · rename_i hp; exact ⟨hp.1, hp.2.1, hp.2.2.1, hp.2.2.2.1, hp.2.2.2.2.1, hp.2.2.2.2.2, h⟩
  · cases h
theorem sq_nn (a : Int) : 0 ≤ a * a := by
  rcases Int.le_total 0 a with h | h
  · exact Int.mul_nonneg h h
  · exact Int.mul_nonneg_of_nonpos_of_nonpos h h
theorem sq_pos {a : Int} (h : a ≠ 0) : 0 < a * a := by
  rcases Int.lt_or_gt_of_ne h with h | h
  · exact Int.mul_pos_of_neg_of_neg h h
  · exact Int.mul_pos h h
theorem nq_pos {a b c d : Int} (h : gU a b c d = 0) : 0 < nq a b c d := by
  have h0 := (xG h).2.2.2.2
  have ha := sq_nn a; have hb := sq_nn b; have hc := sq_nn c; have hd := sq_nn d
  unfold nq
  by_cases e1 : a = 0
  · by_cases e2 : b = 0
    · by_cases e3 : c = 0
      · by_cases e4 : d = 0
        · exact absurd ⟨e1, e2, e3, e4⟩ h0
        · have := sq_pos e4; omega
      · have := sq_pos e3; omega
    · have := sq_pos e2; omega
  · have := sq_pos e1; omega
theorem nq_ne {a b c d : Int} (h : gU a b c d = 0) : nq a b c d ≠ 0 := by have := nq_pos h; omega
theorem nA {a b c d : Int} (ha : (-1048576 ≤ a ∧ a ≤ 1048576)) (hb : (-1048576 ≤ b ∧ b ≤ 1048576)) (hc : (-1048576 ≤ c ∧ c ≤ 1048576)) (hd : (-1048576 ≤ d ∧ d ≤ 1048576)) : -9223372036854775808 ≤ nq a b c d ∧ nq a b c d ≤ 9223372036854775807 := by
  have h1 := vJ ha ha; have h2 := vJ hb hb; have h3 := vJ hc hc; have h4 := vJ hd hd
  unfold nq; omega
theorem ql_N4 {a b c d : Int} (ha : (-1048576 ≤ a ∧ a ≤ 1048576)) (hb : (-1048576 ≤ b ∧ b ≤ 1048576)) (hc : (-1048576 ≤ c ∧ c ≤ 1048576)) (hd : (-1048576 ≤ d ∧ d ≤ 1048576)) : QL (N4 a b c d) 3 := by
  have h := nA ha hb hc hd
  exact qC (jU h.1 h.2) (by decide)
theorem yK {z n : Int} (hn : n ≠ 0) : Rat.divInt z n * (n : Rat) = (z : Rat) := by
  rw [Rat.divInt_eq_div]
  exact Rat.div_mul_cancel (fun h => hn (Rat.intCast_eq_zero_iff.1 h))
theorem r00_b {a b c d : Int} (ha : (-1048576 ≤ a ∧ a ≤ 1048576)) (hb : (-1048576 ≤ b ∧ b ≤ 1048576)) (hc : (-1048576 ≤ c ∧ c ≤ 1048576)) (hd : (-1048576 ≤ d ∧ d ≤ 1048576)) : -9223372036854775808 ≤ r00 a b c d ∧ r00 a b c d ≤ 9223372036854775807 := by
  have h0 := vJ ha ha; have h1 := vJ hb hb; have h2 := vJ hc hc; have h3 := vJ hd hd
  unfold r00; omega
theorem ql_R00 {a b c d : Int} (ha : (-1048576 ≤ a ∧ a ≤ 1048576)) (hb : (-1048576 ≤ b ∧ b ≤ 1048576)) (hc : (-1048576 ≤ c ∧ c ≤ 1048576)) (hd : (-1048576 ≤ d ∧ d ≤ 1048576)) : QL (gD a b c d) 3 := by
  have h := r00_b ha hb hc hd
  exact qC (jU h.1 h.2) (by decide)
theorem ql_Q00 {a b c d : Int} (ha : (-1048576 ≤ a ∧ a ≤ 1048576)) (hb : (-1048576 ≤ b ∧ b ≤ 1048576)) (hc : (-1048576 ≤ c ∧ c ≤ 1048576)) (hd : (-1048576 ≤ d ∧ d ≤ 1048576)) : QL (Q00 a b c d) 3 := by
  have h := r00_b ha hb hc hd; have h2 := nA ha hb hc hd
  exact qO (jU h.1 h.2) (jU h2.1 h2.2) (by decide)
theorem Q00_n {a b c d : Int} (h : nq a b c d ≠ 0) : Q00 a b c d * N4 a b c d = gD a b c d := yK h
theorem r01_b {a b c d : Int} (ha : (-1048576 ≤ a ∧ a ≤ 1048576)) (hb : (-1048576 ≤ b ∧ b ≤ 1048576)) (hc : (-1048576 ≤ c ∧ c ≤ 1048576)) (hd : (-1048576 ≤ d ∧ d ≤ 1048576)) : -9223372036854775808 ≤ r01 a b c d ∧ r01 a b c d ≤ 9223372036854775807 := by
  have h0 := vJ hb hc; have h1 := vJ ha hd
  unfold r01; omega
theorem ql_R01 {a b c d : Int} (ha : (-1048576 ≤ a ∧ a ≤ 1048576)) (hb : (-1048576 ≤ b ∧ b ≤ 1048576)) (hc : (-1048576 ≤ c ∧ c ≤ 1048576)) (hd : (-1048576 ≤ d ∧ d ≤ 1048576)) : QL (gE a b c d) 3 := by
  have h := r01_b ha hb hc hd
  exact qC (jU h.1 h.2) (by decide)
theorem ql_Q01 {a b c d : Int} (ha : (-1048576 ≤ a ∧ a ≤ 1048576)) (hb : (-1048576 ≤ b ∧ b ≤ 1048576)) (hc : (-1048576 ≤ c ∧ c ≤ 1048576)) (hd : (-1048576 ≤ d ∧ d ≤ 1048576)) : QL (Q01 a b c d) 3 := by
  have h := r01_b ha hb hc hd; have h2 := nA ha hb hc hd
  exact qO (jU h.1 h.2) (jU h2.1 h2.2) (by decide)
theorem Q01_n {a b c d : Int} (h : nq a b c d ≠ 0) : Q01 a b c d * N4 a b c d = gE a b c d := yK h
theorem r02_b {a b c d : Int} (ha : (-1048576 ≤ a ∧ a ≤ 1048576)) (hb : (-1048576 ≤ b ∧ b ≤ 1048576)) (hc : (-1048576 ≤ c ∧ c ≤ 1048576)) (hd : (-1048576 ≤ d ∧ d ≤ 1048576)) : -9223372036854775808 ≤ r02 a b c d ∧ r02 a b c d ≤ 9223372036854775807 := by
  have h0 := vJ hb hd; have h1 := vJ ha hc
  unfold r02; omega
theorem ql_R02 {a b c d : Int} (ha : (-1048576 ≤ a ∧ a ≤ 1048576)) (hb : (-1048576 ≤ b ∧ b ≤ 1048576)) (hc : (-1048576 ≤ c ∧ c ≤ 1048576)) (hd : (-1048576 ≤ d ∧ d ≤ 1048576)) : QL (zJ a b c d) 3 := by
  have h := r02_b ha hb hc hd
  exact qC (jU h.1 h.2) (by decide)
theorem ql_Q02 {a b c d : Int} (ha : (-1048576 ≤ a ∧ a ≤ 1048576)) (hb : (-1048576 ≤ b ∧ b ≤ 1048576)) (hc : (-1048576 ≤ c ∧ c ≤ 1048576)) (hd : (-1048576 ≤ d ∧ d ≤ 1048576)) : QL (Q02 a b c d) 3 := by
  have h := r02_b ha hb hc hd; have h2 := nA ha hb hc hd
  exact qO (jU h.1 h.2) (jU h2.1 h2.2) (by decide)
theorem Q02_n {a b c d : Int} (h : nq a b c d ≠ 0) : Q02 a b c d * N4 a b c d = zJ a b c d := yK h
theorem r10_b {a b c d : Int} (ha : (-1048576 ≤ a ∧ a ≤ 1048576)) (hb : (-1048576 ≤ b ∧ b ≤ 1048576)) (hc : (-1048576 ≤ c ∧ c ≤ 1048576)) (hd : (-1048576 ≤ d ∧ d ≤ 1048576)) : -9223372036854775808 ≤ r10 a b c d ∧ r10 a b c d ≤ 9223372036854775807 := by
  have h0 := vJ hb hc; have h1 := vJ ha hd
  unfold r10; omega
theorem ql_R10 {a b c d : Int} (ha : (-1048576 ≤ a ∧ a ≤ 1048576)) (hb : (-1048576 ≤ b ∧ b ≤ 1048576)) (hc : (-1048576 ≤ c ∧ c ≤ 1048576)) (hd : (-1048576 ≤ d ∧ d ≤ 1048576)) : QL (gK a b c d) 3 := by
  have h := r10_b ha hb hc hd
  exact qC (jU h.1 h.2) (by decide)
theorem ql_Q10 {a b c d : Int} (ha : (-1048576 ≤ a ∧ a ≤ 1048576)) (hb : (-1048576 ≤ b ∧ b ≤ 1048576)) (hc : (-1048576 ≤ c ∧ c ≤ 1048576)) (hd : (-1048576 ≤ d ∧ d ≤ 1048576)) : QL (Q10 a b c d) 3 := by
  have h := r10_b ha hb hc hd; have h2 := nA ha hb hc hd
  exact qO (jU h.1 h.2) (jU h2.1 h2.2) (by decide)
theorem Q10_n {a b c d : Int} (h : nq a b c d ≠ 0) : Q10 a b c d * N4 a b c d = gK a b c d := yK h
theorem r11_b {a b c d : Int} (ha : (-1048576 ≤ a ∧ a ≤ 1048576)) (hb : (-1048576 ≤ b ∧ b ≤ 1048576)) (hc : (-1048576 ≤ c ∧ c ≤ 1048576)) (hd : (-1048576 ≤ d ∧ d ≤ 1048576)) : -9223372036854775808 ≤ r11 a b c d ∧ r11 a b c d ≤ 9223372036854775807 := by
  have h0 := vJ ha ha; have h1 := vJ hb hb; have h2 := vJ hc hc; have h3 := vJ hd hd
  unfold r11; omega
theorem ql_R11 {a b c d : Int} (ha : (-1048576 ≤ a ∧ a ≤ 1048576)) (hb : (-1048576 ≤ b ∧ b ≤ 1048576)) (hc : (-1048576 ≤ c ∧ c ≤ 1048576)) (hd : (-1048576 ≤ d ∧ d ≤ 1048576)) : QL (gJ a b c d) 3 := by
  have h := r11_b ha hb hc hd
  exact qC (jU h.1 h.2) (by decide)
theorem ql_Q11 {a b c d : Int} (ha : (-1048576 ≤ a ∧ a ≤ 1048576)) (hb : (-1048576 ≤ b ∧ b ≤ 1048576)) (hc : (-1048576 ≤ c ∧ c ≤ 1048576)) (hd : (-1048576 ≤ d ∧ d ≤ 1048576)) : QL (Q11 a b c d) 3 := by
  have h := r11_b ha hb hc hd; have h2 := nA ha hb hc hd
  exact qO (jU h.1 h.2) (jU h2.1 h2.2) (by decide)
theorem Q11_n {a b c d : Int} (h : nq a b c d ≠ 0) : Q11 a b c d * N4 a b c d = gJ a b c d := yK h
theorem r12_b {a b c d : Int} (ha : (-1048576 ≤ a ∧ a ≤ 1048576)) (hb : (-1048576 ≤ b ∧ b ≤ 1048576)) (hc : (-1048576 ≤ c ∧ c ≤ 1048576)) (hd : (-1048576 ≤ d ∧ d ≤ 1048576)) : -9223372036854775808 ≤ r12 a b c d ∧ r12 a b c d ≤ 9223372036854775807 := by
  have h0 := vJ hc hd; have h1 := vJ ha hb
  unfold r12; omega
theorem ql_R12 {a b c d : Int} (ha : (-1048576 ≤ a ∧ a ≤ 1048576)) (hb : (-1048576 ≤ b ∧ b ≤ 1048576)) (hc : (-1048576 ≤ c ∧ c ≤ 1048576)) (hd : (-1048576 ≤ d ∧ d ≤ 1048576)) : QL (yA a b c d) 3 := by
  have h := r12_b ha hb hc hd
  exact qC (jU h.1 h.2) (by decide)
theorem ql_Q12 {a b c d : Int} (ha : (-1048576 ≤ a ∧ a ≤ 1048576)) (hb : (-1048576 ≤ b ∧ b ≤ 1048576)) (hc : (-1048576 ≤ c ∧ c ≤ 1048576)) (hd : (-1048576 ≤ d ∧ d ≤ 1048576)) : QL (Q12 a b c d) 3 := by
  have h := r12_b ha hb hc hd; have h2 := nA ha hb hc hd
  exact qO (jU h.1 h.2) (jU h2.1 h2.2) (by decide)
theorem Q12_n {a b c d : Int} (h : nq a b c d ≠ 0) : Q12 a b c d * N4 a b c d = yA a b c d := yK h
theorem r20_b {a b c d : Int} (ha : (-1048576 ≤ a ∧ a ≤ 1048576)) (hb : (-1048576 ≤ b ∧ b ≤ 1048576)) (hc : (-1048576 ≤ c ∧ c ≤ 1048576)) (hd : (-1048576 ≤ d ∧ d ≤ 1048576)) : -9223372036854775808 ≤ r20 a b c d ∧ r20 a b c d ≤ 9223372036854775807 := by
  have h0 := vJ hb hd; have h1 := vJ ha hc
  unfold r20; omega
theorem ql_R20 {a b c d : Int} (ha : (-1048576 ≤ a ∧ a ≤ 1048576)) (hb : (-1048576 ≤ b ∧ b ≤ 1048576)) (hc : (-1048576 ≤ c ∧ c ≤ 1048576)) (hd : (-1048576 ≤ d ∧ d ≤ 1048576)) : QL (gO a b c d) 3 := by
  have h := r20_b ha hb hc hd
  exact qC (jU h.1 h.2) (by decide)
theorem ql_Q20 {a b c d : Int} (ha : (-1048576 ≤ a ∧ a ≤ 1048576)) (hb : (-1048576 ≤ b ∧ b ≤ 1048576)) (hc : (-1048576 ≤ c ∧ c ≤ 1048576)) (hd : (-1048576 ≤ d ∧ d ≤ 1048576)) : QL (Q20 a b c d) 3 := by
  have h := r20_b ha hb hc hd; have h2 := nA ha hb hc hd
  exact qO (jU h.1 h.2) (jU h2.1 h2.2) (by decide)
theorem Q20_n {a b c d : Int} (h : nq a b c d ≠ 0) : Q20 a b c d * N4 a b c d = gO a b c d := yK h
theorem r21_b {a b c d : Int} (ha : (-1048576 ≤ a ∧ a ≤ 1048576)) (hb : (-1048576 ≤ b ∧ b ≤ 1048576)) (hc : (-1048576 ≤ c ∧ c ≤ 1048576)) (hd : (-1048576 ≤ d ∧ d ≤ 1048576)) : -9223372036854775808 ≤ r21 a b c d ∧ r21 a b c d ≤ 9223372036854775807 := by
  have h0 := vJ hc hd; have h1 := vJ ha hb
  unfold r21; omega
theorem ql_R21 {a b c d : Int} (ha : (-1048576 ≤ a ∧ a ≤ 1048576)) (hb : (-1048576 ≤ b ∧ b ≤ 1048576)) (hc : (-1048576 ≤ c ∧ c ≤ 1048576)) (hd : (-1048576 ≤ d ∧ d ≤ 1048576)) : QL (gP a b c d) 3 := by
  have h := r21_b ha hb hc hd
  exact qC (jU h.1 h.2) (by decide)
theorem ql_Q21 {a b c d : Int} (ha : (-1048576 ≤ a ∧ a ≤ 1048576)) (hb : (-1048576 ≤ b ∧ b ≤ 1048576)) (hc : (-1048576 ≤ c ∧ c ≤ 1048576)) (hd : (-1048576 ≤ d ∧ d ≤ 1048576)) : QL (Q21 a b c d) 3 := by
  have h := r21_b ha hb hc hd; have h2 := nA ha hb hc hd
  exact qO (jU h.1 h.2) (jU h2.1 h2.2) (by decide)
theorem Q21_n {a b c d : Int} (h : nq a b c d ≠ 0) : Q21 a b c d * N4 a b c d = gP a b c d := yK h
theorem r22_b {a b c d : Int} (ha : (-1048576 ≤ a ∧ a ≤ 1048576)) (hb : (-1048576 ≤ b ∧ b ≤ 1048576)) (hc : (-1048576 ≤ c ∧ c ≤ 1048576)) (hd : (-1048576 ≤ d ∧ d ≤ 1048576)) : -9223372036854775808 ≤ r22 a b c d ∧ r22 a b c d ≤ 9223372036854775807 := by
  have h0 := vJ ha ha; have h1 := vJ hb hb; have h2 := vJ hc hc; have h3 := vJ hd hd
  unfold r22; omega
theorem ql_R22 {a b c d : Int} (ha : (-1048576 ≤ a ∧ a ≤ 1048576)) (hb : (-1048576 ≤ b ∧ b ≤ 1048576)) (hc : (-1048576 ≤ c ∧ c ≤ 1048576)) (hd : (-1048576 ≤ d ∧ d ≤ 1048576)) : QL (yB a b c d) 3 := by
  have h := r22_b ha hb hc hd
  exact qC (jU h.1 h.2) (by decide)
theorem ql_Q22 {a b c d : Int} (ha : (-1048576 ≤ a ∧ a ≤ 1048576)) (hb : (-1048576 ≤ b ∧ b ≤ 1048576)) (hc : (-1048576 ≤ c ∧ c ≤ 1048576)) (hd : (-1048576 ≤ d ∧ d ≤ 1048576)) : QL (Q22 a b c d) 3 := by
  have h := r22_b ha hb hc hd; have h2 := nA ha hb hc hd
  exact qO (jU h.1 h.2) (jU h2.1 h2.2) (by decide)
theorem Q22_n {a b c d : Int} (h : nq a b c d ≠ 0) : Q22 a b c d * N4 a b c d = yB a b c d := yK h
theorem jX {x y : Rat} {n : Nat} (h : x = y) (hy : QL y n) : QL x n := h ▸ hy
def yU (a b c : Rat) : Bool := decide (a = 0) && (decide (b = 0) && decide (c = 0))
theorem bR {a b c : Rat} (h : yU a b c = false) : ¬ (a = 0 ∧ b = 0 ∧ c = 0) := by
  rintro ⟨rfl, rfl, rfl⟩; simp [yU] at h
theorem zeroV_yes {a b c : Rat} (h : yU a b c = true) : a = 0 ∧ b = 0 ∧ c = 0 := by
  simp [yU] at h; exact h
theorem zeroV_of {a b c : Rat} (h : a = 0 ∧ b = 0 ∧ c = 0) : yU a b c = true := by
  simp [yU, h]
theorem zeroV_not {a b c : Rat} (h : ¬ (a = 0 ∧ b = 0 ∧ c = 0)) : yU a b c = false := by
  rcases e : yU a b c with _ | _
  · rfl
  · exact absurd (zeroV_yes e) h
theorem rsq_nn (a : Rat) : 0 ≤ a * a := by
  rcases Rat.le_total (a := 0) (b := a) with h | h
  · exact Rat.mul_nonneg h h
  · have : 0 ≤ (-a) * (-a) := Rat.mul_nonneg (by grind) (by grind)
    grind
theorem rsq_zero {a : Rat} (h : a * a = 0) : a = 0 := by
  rcases Rat.mul_eq_zero.1 h with h | h <;> exact h
theorem fX {a b c : Rat} : jM a b c a b c = 0 ↔ (a = 0 ∧ b = 0 ∧ c = 0) := by
  unfold jM
  refine ⟨fun h => ?_, fun ⟨h1, h2, h3⟩ => by rw [h1, h2, h3]; grind⟩
  have ha := rsq_nn a; have hb := rsq_nn b; have hc := rsq_nn c
  exact ⟨rsq_zero (by grind), rsq_zero (by grind), rsq_zero (by grind)⟩
theorem zeroV_dot (a b c : Rat) : (yT (jM a b c a b c) == 0) = yU a b c := by
  rcases e : yU a b c with _ | _
  · exact beq_eq_false_iff_ne.2 (fun h => bR e (fX.1 (cB.1 h)))
  · exact beq_iff_eq.2 (cB.2 (fX.2 (zeroV_yes e)))
theorem zeroV_sgn (a b c : Rat) : yU a b c = (((yT a == 0) && (yT b == 0)) && (yT c == 0)) := by
  have h : ∀ x : Rat, (yT x == 0) = decide (x = 0) := fun x => by
    by_cases e : x = 0
    · rw [decide_eq_true e]; exact beq_iff_eq.2 (cB.2 e)
    · rw [decide_eq_false e]; exact beq_eq_false_iff_ne.2 (fun q => e (cB.1 q))
  rw [h, h, h, Bool.and_assoc]; rfl
def eU (a b c : Rat) : Int := ((Int.gcd a.num ((Int.gcd b.num c.num : Nat) : Int) : Nat) : Int)
theorem gcd3_ref (a b c : Rat) : ((Int.gcd (((Int.gcd (((Int.gcd 0 a.num : Nat)) : Int) b.num : Nat)) : Int) c.num : Nat) : Int) = eU a b c := by
  unfold eU
  rw [Int.gcd_zero_left]
  have h1 : ∀ (x : Int) (y : Int), Int.gcd ((x.natAbs : Nat) : Int) y = Int.gcd x y := fun x y => by
    unfold Int.gcd; rw [Int.natAbs_natCast]
  rw [h1, Int.gcd_assoc]
theorem gcd3_ne {a b c : Rat} (h : yU a b c = false) : eU a b c ≠ 0 := fun e => by
  unfold eU at e
  have e0 : Int.gcd a.num ((Int.gcd b.num c.num : Nat) : Int) = 0 := by omega
  obtain ⟨e1, e2⟩ := Int.gcd_eq_zero_iff.1 e0
  obtain ⟨e3, e4⟩ := Int.gcd_eq_zero_iff.1 (show Int.gcd b.num c.num = 0 by omega)
  exact bR h ⟨Rat.num_eq_zero.1 e1, Rat.num_eq_zero.1 e3, Rat.num_eq_zero.1 e4⟩
def yC (a b c : Rat) : Rat := Rat.divInt 1 (eU a b c)
theorem lenZ_gcd0 {a b : Int} {n : Nat} (ha : yL a ≤ n) (hb : yL b ≤ n) : yL ((Int.gcd a b : Nat) : Int) ≤ n := by
  by_cases h : b = 0
  · rw [h, Int.gcd_zero_right]; exact Nat.le_trans (cA (by omega)) ha
  · exact lenZ_gcd h hb
theorem zC {a b c : Rat} {n k : Nat} (ha : QL a n) (hb : QL b n) (hc : QL c n) (h : n ≤ k) (h1 : 1 ≤ n) : QL (yC a b c) k :=
  kB (qO (Nat.le_trans (xA (by decide)) h1) (lenZ_gcd0 ha.1 (lenZ_gcd0 hb.1 hc.1)) h1) h
theorem redK_ne {a b c : Rat} (h : yU a b c = false) : yC a b c ≠ 0 := by
  have h1 := gcd3_ne h
  unfold yC
  rw [Rat.divInt_eq_div]
  intro e
  have h2 : ((eU a b c : Int) : Rat) ≠ 0 := fun q => h1 (Rat.intCast_eq_zero_iff.1 q)
  have h3 := Rat.div_mul_cancel (a := ((1 : Int) : Rat)) h2
  rw [e, Rat.zero_mul] at h3
  exact absurd h3 (by decide)
theorem xE (a b c : Rat) : jM a b c ((0 : Int) : Rat) ((0 : Int) : Rat) ((1 : Int) : Rat) = c := by
  unfold jM
  rw [Rat.intCast_zero, Rat.intCast_one, Rat.mul_zero, Rat.mul_zero, Rat.mul_one, Rat.zero_add, Rat.zero_add]
def cK (a b c d p q r s : Int) : Rat := (zJ a b c d * N4 p q r s) + (zJ p q r s * N4 a b c d)
theorem dq0_eq (a b c d p q r s : Int) : (zJ a b c d * N4 p q r s) + (zJ p q r s * N4 a b c d) = cK a b c d p q r s := rfl
def cJ (a b c d p q r s : Int) : Rat := (yA a b c d * N4 p q r s) + (yA p q r s * N4 a b c d)
theorem dq1_eq (a b c d p q r s : Int) : (yA a b c d * N4 p q r s) + (yA p q r s * N4 a b c d) = cJ a b c d p q r s := rfl
def cM (a b c d p q r s : Int) : Rat := (yB a b c d * N4 p q r s) + (yB p q r s * N4 a b c d)
theorem dq2_eq (a b c d p q r s : Int) : (yB a b c d * N4 p q r s) + (yB p q r s * N4 a b c d) = cM a b c d p q r s := rfl
def RFr (lx ly lz la lb lc ld rx ry rz ra rb rc rd : Int) (b0 b1 b2 e00 e01 e02 e10 e11 e12 e20 e21 e22 : Rat) : Prop :=
  (((rx - lx) : Int) : Rat) = b0 ∧
  (((ry - ly) : Int) : Rat) = b1 ∧
  (((rz - lz) : Int) : Rat) = b2 ∧
  b0 * yC b0 b1 b2 = e00 ∧
  b1 * yC b0 b1 b2 = e01 ∧
  b2 * yC b0 b1 b2 = e02 ∧
  (((cJ la lb lc ld ra rb rc rd) * e02) - ((cM la lb lc ld ra rb rc rd) * e01)) * yC (((cJ la lb lc ld ra rb rc rd) * e02) - ((cM la lb lc ld ra rb rc rd) * e01)) (((cM la lb lc ld ra rb rc rd) * e00) - ((cK la lb lc ld ra rb rc rd) * e02)) (((cK la lb lc ld ra rb rc rd) * e01) - ((cJ la lb lc ld ra rb rc rd) * e00)) = e10 ∧
  (((cM la lb lc ld ra rb rc rd) * e00) - ((cK la lb lc ld ra rb rc rd) * e02)) * yC (((cJ la lb lc ld ra rb rc rd) * e02) - ((cM la lb lc ld ra rb rc rd) * e01)) (((cM la lb lc ld ra rb rc rd) * e00) - ((cK la lb lc ld ra rb rc rd) * e02)) (((cK la lb lc ld ra rb rc rd) * e01) - ((cJ la lb lc ld ra rb rc rd) * e00)) = e11 ∧
  (((cK la lb lc ld ra rb rc rd) * e01) - ((cJ la lb lc ld ra rb rc rd) * e00)) * yC (((cJ la lb lc ld ra rb rc rd) * e02) - ((cM la lb lc ld ra rb rc rd) * e01)) (((cM la lb lc ld ra rb rc rd) * e00) - ((cK la lb lc ld ra rb rc rd) * e02)) (((cK la lb lc ld ra rb rc rd) * e01) - ((cJ la lb lc ld ra rb rc rd) * e00)) = e12 ∧
  ((e01 * e12) - (e02 * e11)) * yC ((e01 * e12) - (e02 * e11)) ((e02 * e10) - (e00 * e12)) ((e00 * e11) - (e01 * e10)) = e20 ∧
  ((e02 * e10) - (e00 * e12)) * yC ((e01 * e12) - (e02 * e11)) ((e02 * e10) - (e00 * e12)) ((e00 * e11) - (e01 * e10)) = e21 ∧
  ((e00 * e11) - (e01 * e10)) * yC ((e01 * e12) - (e02 * e11)) ((e02 * e10) - (e00 * e12)) ((e00 * e11) - (e01 * e10)) = e22
instance {lx ly lz la lb lc ld rx ry rz ra rb rc rd : Int} {b0 b1 b2 e00 e01 e02 e10 e11 e12 e20 e21 e22 : Rat} : Decidable (RFr lx ly lz la lb lc ld rx ry rz ra rb rc rd b0 b1 b2 e00 e01 e02 e10 e11 e12 e20 e21 e22) := by unfold RFr; infer_instance
def upV (la lb lc ld ra rb rc rd : Int) (b0 b1 b2 : Rat) : Bool := yU (((cJ la lb lc ld ra rb rc rd) * b2) - ((cM la lb lc ld ra rb rc rd) * b1)) (((cM la lb lc ld ra rb rc rd) * b0) - ((cK la lb lc ld ra rb rc rd) * b2)) (((cK la lb lc ld ra rb rc rd) * b1) - ((cJ la lb lc ld ra rb rc rd) * b0))
def stn2 (m n : Nat) : Nat := if m = 0 then n else m
theorem stn2_l {m n c : Nat} (h : ((m : Nat) : Int) ≠ ((0 : Nat) : Int)) (hc : stn2 m n = c) : m = c := by
  unfold stn2 at hc; rw [if_neg (by omega)] at hc; exact hc
theorem stn2_r {m n c : Nat} (h : ((m : Nat) : Int) = ((0 : Nat) : Int)) (hc : stn2 m n = c) : n = c := by
  unfold stn2 at hc; rw [if_pos (by omega)] at hc; exact hc
theorem stn2_0 {m n c : Nat} (h : ((m : Nat) : Int) = ((0 : Nat) : Int)) (h2 : ((n : Nat) : Int) = ((0 : Nat) : Int)) (hc : stn2 m n = c) : c = 0 := by
  rw [← stn2_r h hc]; omega
theorem cross_k (d0 d1 d2 a b c k : Rat) : (d1 * (c * k)) - (d2 * (b * k)) = (d1 * c - d2 * b) * k ∧ (d2 * (a * k)) - (d0 * (c * k)) = (d2 * a - d0 * c) * k ∧ (d0 * (b * k)) - (d1 * (a * k)) = (d0 * b - d1 * a) * k := by
  refine ⟨?_, ?_, ?_⟩ <;> grind
theorem zeroV_k {a b c k : Rat} (hk : k ≠ 0) : yU (a * k) (b * k) (c * k) = yU a b c := by
  have h : ∀ x : Rat, x * k = 0 ↔ x = 0 := fun x => ⟨fun e => (Rat.mul_eq_zero.1 e).resolve_right hk, fun e => by rw [e, Rat.zero_mul]⟩
  unfold yU
  simp only [h]
theorem upV_base {la lb lc ld ra rb rc rd : Int} {b0 b1 b2 : Rat} (h : upV la lb lc ld ra rb rc rd b0 b1 b2 = false) : yU b0 b1 b2 = false := by
  refine zeroV_not (fun ⟨h1, h2, h3⟩ => ?_)
  subst h1; subst h2; subst h3
  have h9 := bR h
  exact h9 ⟨by grind, by grind, by grind⟩
theorem up_zs {la lb lc ld ra rb rc rd : Int} {b0 b1 b2 : Rat} {v : Bool} (hz : yU b0 b1 b2 = false) (h : upV la lb lc ld ra rb rc rd b0 b1 b2 = v) : yU (((cJ la lb lc ld ra rb rc rd) * (b2 * (yC b0 b1 b2))) - ((cM la lb lc ld ra rb rc rd) * (b1 * (yC b0 b1 b2)))) (((cM la lb lc ld ra rb rc rd) * (b0 * (yC b0 b1 b2))) - ((cK la lb lc ld ra rb rc rd) * (b2 * (yC b0 b1 b2)))) (((cK la lb lc ld ra rb rc rd) * (b1 * (yC b0 b1 b2))) - ((cJ la lb lc ld ra rb rc rd) * (b0 * (yC b0 b1 b2)))) = v := by
  have hc := cross_k (cK la lb lc ld ra rb rc rd) (cJ la lb lc ld ra rb rc rd) (cM la lb lc ld ra rb rc rd) b0 b1 b2 (yC b0 b1 b2)
  rw [hc.1, hc.2.1, hc.2.2, zeroV_k (redK_ne hz)]
  exact h
section
variable {lx ly lz la lb lc ld rx ry rz ra rb rc rd : Int} {b0 b1 b2 e00 e01 e02 e10 e11 e12 e20 e21 e22 : Rat}
theorem fr_zb (hF : RFr lx ly lz la lb lc ld rx ry rz ra rb rc rd b0 b1 b2 e00 e01 e02 e10 e11 e12 e20 e21 e22) (hup : upV la lb lc ld ra rb rc rd b0 b1 b2 = false) : yU b0 b1 b2 = false := upV_base hup
theorem fr_zs (hF : RFr lx ly lz la lb lc ld rx ry rz ra rb rc rd b0 b1 b2 e00 e01 e02 e10 e11 e12 e20 e21 e22) (hup : upV la lb lc ld ra rb rc rd b0 b1 b2 = false) : yU (((cJ la lb lc ld ra rb rc rd) * e02) - ((cM la lb lc ld ra rb rc rd) * e01)) (((cM la lb lc ld ra rb rc rd) * e00) - ((cK la lb lc ld ra rb rc rd) * e02)) (((cK la lb lc ld ra rb rc rd) * e01) - ((cJ la lb lc ld ra rb rc rd) * e00)) = false := by
  have h := up_zs (upV_base hup) hup
  obtain ⟨-, -, -, he0, he1, he2, -⟩ := hF
  rw [he0, he1, he2] at h
  exact h
theorem orth_cross (a b c d0 d1 d2 : Rat) : jM a b c ((d1 * c) - (d2 * b)) ((d2 * a) - (d0 * c)) ((d0 * b) - (d1 * a)) = 0 := by unfold jM; grind
theorem dot3_k (a b c x y z k : Rat) : jM a b c (x * k) (y * k) (z * k) = jM a b c x y z * k := by unfold jM; grind
theorem fr_01 (hF : RFr lx ly lz la lb lc ld rx ry rz ra rb rc rd b0 b1 b2 e00 e01 e02 e10 e11 e12 e20 e21 e22) : jM e00 e01 e02 e10 e11 e12 = 0 := by
  obtain ⟨-, -, -, -, -, -, he0, he1, he2, -⟩ := hF
  rw [← he0, ← he1, ← he2, dot3_k, orth_cross, Rat.zero_mul]
theorem lagr (a b c x y z : Rat) : jM (b * z - c * y) (c * x - a * z) (a * y - b * x) (b * z - c * y) (c * x - a * z) (a * y - b * x) = jM a b c a b c * jM x y z x y z - jM a b c x y z * jM a b c x y z := by
  unfold jM; grind
theorem fr_z0 (hF : RFr lx ly lz la lb lc ld rx ry rz ra rb rc rd b0 b1 b2 e00 e01 e02 e10 e11 e12 e20 e21 e22) (hup : upV la lb lc ld ra rb rc rd b0 b1 b2 = false) : yU e00 e01 e02 = false := by
  have h := upV_base hup
  obtain ⟨-, -, -, he0, he1, he2, -⟩ := hF
  rw [← zeroV_k (redK_ne h), he0, he1, he2] at h
  exact h
theorem fr_z1 (hF : RFr lx ly lz la lb lc ld rx ry rz ra rb rc rd b0 b1 b2 e00 e01 e02 e10 e11 e12 e20 e21 e22) (hup : upV la lb lc ld ra rb rc rd b0 b1 b2 = false) : yU e10 e11 e12 = false := by
  have h := fr_zs hF hup
  obtain ⟨-, -, -, -, -, -, he0, he1, he2, -⟩ := hF
  rw [← zeroV_k (redK_ne h), he0, he1, he2] at h
  exact h
theorem fr_zt (hF : RFr lx ly lz la lb lc ld rx ry rz ra rb rc rd b0 b1 b2 e00 e01 e02 e10 e11 e12 e20 e21 e22) (hup : upV la lb lc ld ra rb rc rd b0 b1 b2 = false) : yU ((e01 * e12) - (e02 * e11)) ((e02 * e10) - (e00 * e12)) ((e00 * e11) - (e01 * e10)) = false := by
  refine zeroV_not (fun hz => ?_)
  have h1 := fX.2 hz
  rw [lagr, fr_01 hF, Rat.zero_mul, Rat.sub_eq_add_neg, Rat.neg_zero, Rat.add_zero] at h1
  rcases Rat.mul_eq_zero.1 h1 with h2 | h2
  · exact bR (fr_z0 hF hup) (fX.1 h2)
  · exact bR (fr_z1 hF hup) (fX.1 h2)
theorem fr_z2 (hF : RFr lx ly lz la lb lc ld rx ry rz ra rb rc rd b0 b1 b2 e00 e01 e02 e10 e11 e12 e20 e21 e22) (hup : upV la lb lc ld ra rb rc rd b0 b1 b2 = false) : yU e20 e21 e22 = false := by
  have h := fr_zt hF hup
  obtain ⟨-, -, -, -, -, -, -, -, -, he0, he1, he2⟩ := hF
  rw [← zeroV_k (redK_ne h), he0, he1, he2] at h
  exact h
end
theorem zb_ne {lx ly lz rx ry rz : Int} {b0 b1 b2 : Rat} (h0 : ((rx - lx : Int) : Rat) = b0) (h1 : ((ry - ly : Int) : Rat) = b1) (h2 : ((rz - lz : Int) : Rat) = b2) (h : ¬ ([lx, ly, lz] = [rx, ry, rz])) : yU b0 b1 b2 = false := by
  refine zeroV_not (fun ⟨q0, q1, q2⟩ => h ?_)
  rw [← h0] at q0; rw [← h1] at q1; rw [← h2] at q2
  have q0 := Rat.intCast_eq_zero_iff.1 q0; have q1 := Rat.intCast_eq_zero_iff.1 q1; have q2 := Rat.intCast_eq_zero_iff.1 q2
  rw [show lx = rx by omega, show ly = ry by omega, show lz = rz by omega]
theorem zb_eq {lx ly lz rx ry rz : Int} {b0 b1 b2 : Rat} (h0 : ((rx - lx : Int) : Rat) = b0) (h1 : ((ry - ly : Int) : Rat) = b1) (h2 : ((rz - lz : Int) : Rat) = b2) (h : [lx, ly, lz] = [rx, ry, rz]) : yU b0 b1 b2 = true := by
  simp only [List.cons.injEq, and_true] at h
  refine zeroV_of ⟨?_, ?_, ?_⟩
  · rw [← h0]; exact Rat.intCast_eq_zero_iff.2 (by omega)
  · rw [← h1]; exact Rat.intCast_eq_zero_iff.2 (by omega)
  · rw [← h2]; exact Rat.intCast_eq_zero_iff.2 (by omega)
section
variable {a b c d : Int} (ha : -1048576 ≤ a ∧ a ≤ 1048576 := by first | assumption | omega) (hb : -1048576 ≤ b ∧ b ≤ 1048576 := by first | assumption | omega) (hc : -1048576 ≤ c ∧ c ≤ 1048576 := by first | assumption | omega) (hd : -1048576 ≤ d ∧ d ≤ 1048576 := by first | assumption | omega)
include ha hb hc hd
theorem fM : QL (gD a b c d) 3 := ql_R00 ha hb hc hd
theorem fO : QL (gE a b c d) 3 := ql_R01 ha hb hc hd
theorem fJ : QL (zJ a b c d) 3 := ql_R02 ha hb hc hd
theorem eZ : QL (gK a b c d) 3 := ql_R10 ha hb hc hd
theorem fG : QL (gJ a b c d) 3 := ql_R11 ha hb hc hd
theorem fA : QL (yA a b c d) 3 := ql_R12 ha hb hc hd
theorem fH : QL (gO a b c d) 3 := ql_R20 ha hb hc hd
theorem fP : QL (gP a b c d) 3 := ql_R21 ha hb hc hd
theorem fF : QL (yB a b c d) 3 := ql_R22 ha hb hc hd
theorem kQ00 : QL (Q00 a b c d) 3 := ql_Q00 ha hb hc hd
theorem kQ01 : QL (Q01 a b c d) 3 := ql_Q01 ha hb hc hd
theorem kQ02 : QL (Q02 a b c d) 3 := ql_Q02 ha hb hc hd
theorem kQ10 : QL (Q10 a b c d) 3 := ql_Q10 ha hb hc hd
theorem kQ11 : QL (Q11 a b c d) 3 := ql_Q11 ha hb hc hd
theorem kQ12 : QL (Q12 a b c d) 3 := ql_Q12 ha hb hc hd
theorem kQ20 : QL (Q20 a b c d) 3 := ql_Q20 ha hb hc hd
theorem kQ21 : QL (Q21 a b c d) 3 := ql_Q21 ha hb hc hd
theorem kQ22 : QL (Q22 a b c d) 3 := ql_Q22 ha hb hc hd
theorem kN4 : QL (N4 a b c d) 3 := ql_N4 ha hb hc hd
end
end Go.Fid
namespace Go.Proofs.YtbecgnplakngdaaGreat
open Go.Fid
set_option maxRecDepth 4000
set_option linter.unusedVariables false
set_option linter.unusedSimpArgs false
theorem cb77 : callB Tryz.prog 77 = true := by kernel_rfl
theorem cb126 : callB Tryz.prog 126 = true := by kernel_rfl
theorem cb169 : callB Tryz.prog 169 = true := by kernel_rfl
theorem cb172 : callB Tryz.prog 172 = true := by kernel_rfl
theorem q_norm (a b c d : Int) (ha : -1048576 ≤ a ∧ a ≤ 1048576) (hb : -1048576 ≤ b ∧ b ≤ 1048576) (hc : -1048576 ≤ c ∧ c ≤ 1048576) (hd : -1048576 ≤ d ∧ d ≤ 1048576) : kF Tryz.prog 126 [(uI (jN.mk a b c d))] (.val (.int .i64 ((nq a b c d)))) := by
 have saa := vJ ha ha
 have sab := vJ ha hb
 have sac := vJ ha hc
 have sad := vJ ha hd
 have sbb := vJ hb hb
 have sbc := vJ hb hc
 have sbd := vJ hb hd
 have scc := vJ hc hc
 have scd := vJ hc hd
 have sdd := vJ hd hd
 refine jL Tryz.func126 rfl cb126 rfl ?_
 show uK _ _ _ _ ⟨[(0, (.d (uI (jN.mk a b c d))))], []⟩
 refine jA <| kx [(1, (.ref 0 0))] [(0, some (bx (uI (jN.mk a b c d))))] (zN (uX 0) <| zM <| zZ) ?_
 refine jA <| kx [(2, (vi ((((a * a) + (b * b)) + (c * c)) + (d * d))))] [] (zE (kU dG) <| zR (uM vW) <| zE (kU dG) <| zR (uM vW) <| zE (nI (a * a) (hr := by exact (qV rfl (by simp only [xM]; omega) (by simp only [xN]; omega)))) <| zE (kU dJ) <| zR (uM vW) <| zE (kU dJ) <| zR (uM vW) <| zE (nI (b * b) (hr := by exact (qV rfl (by simp only [xM]; omega) (by simp only [xN]; omega)))) <| zE (zAd ((a * a) + (b * b)) (hr := by exact (qV rfl (by simp only [xM]; omega) (by simp only [xN]; omega)))) <| zE (kU dK) <| zR (uM vW) <| zE (kU dK) <| zR (uM vW) <| zE (nI (c * c) (hr := by exact (qV rfl (by simp only [xM]; omega) (by simp only [xN]; omega)))) <| zE (zAd (((a * a) + (b * b)) + (c * c)) (hr := by exact (qV rfl (by simp only [xM]; omega) (by simp only [xN]; omega)))) <| zE (kU dF) <| zR (uM vW) <| zE (kU dF) <| zR (uM vW) <| zE (nI (d * d) (hr := by exact (qV rfl (by simp only [xM]; omega) (by simp only [xN]; omega)))) <| zE (zAd ((((a * a) + (b * b)) + (c * c)) + (d * d)) (hr := by exact (qV rfl (by simp only [xM]; omega) (by simp only [xN]; omega)))) <| zM <| zZ) ?_
 refine jG ⟨_, (.tmp (d := (.val (.int .i64 (((((a * a) + (b * b)) + (c * c)) + (d * d)))))) rfl .nil), ?_⟩
 rfl
theorem fN (a b c d : Int) (ha : -1048576 ≤ a ∧ a ≤ 1048576) (hb : -1048576 ≤ b ∧ b ≤ 1048576) (hc : -1048576 ≤ c ∧ c ≤ 1048576) (hd : -1048576 ≤ d ∧ d ≤ 1048576) : kF Tryz.prog 169 [(uI (jN.mk a b c d))] (.val (.int .i64 ((nq a b c d)))) := by
 have saa := vJ ha ha
 have sab := vJ ha hb
 have sac := vJ ha hc
 have sad := vJ ha hd
 have sbb := vJ hb hb
 have sbc := vJ hb hc
 have sbd := vJ hb hd
 have scc := vJ hc hc
 have scd := vJ hc hd
 have sdd := vJ hd hd
 refine jL Tryz.func169 rfl cb169 rfl ?_
 show uK _ _ _ _ ⟨[(0, (.d (uI (jN.mk a b c d))))], []⟩
 refine jA <| kx [(1, (.ref 0 0))] [(0, some (bx (uI (jN.mk a b c d))))] (zN (uX 0) <| zM <| zZ) ?_
 refine jA <| kx [(2, (vi ((((a * a) + (b * b)) + (c * c)) + (d * d))))] [] (zE (kU dG) <| zR (uM vW) <| zE (kU dG) <| zR (uM vW) <| zE (nI (a * a) (hr := by exact (qV rfl (by simp only [xM]; omega) (by simp only [xN]; omega)))) <| zE (kU dJ) <| zR (uM vW) <| zE (kU dJ) <| zR (uM vW) <| zE (nI (b * b) (hr := by exact (qV rfl (by simp only [xM]; omega) (by simp only [xN]; omega)))) <| zE (zAd ((a * a) + (b * b)) (hr := by exact (qV rfl (by simp only [xM]; omega) (by simp only [xN]; omega)))) <| zE (kU dK) <| zR (uM vW) <| zE (kU dK) <| zR (uM vW) <| zE (nI (c * c) (hr := by exact (qV rfl (by simp only [xM]; omega) (by simp only [xN]; omega)))) <| zE (zAd (((a * a) + (b * b)) + (c * c)) (hr := by exact (qV rfl (by simp only [xM]; omega) (by simp only [xN]; omega)))) <| zE (kU dF) <| zR (uM vW) <| zE (kU dF) <| zR (uM vW) <| zE (nI (d * d) (hr := by exact (qV rfl (by simp only [xM]; omega) (by simp only [xN]; omega)))) <| zE (zAd ((((a * a) + (b * b)) + (c * c)) + (d * d)) (hr := by exact (qV rfl (by simp only [xM]; omega) (by simp only [xN]; omega)))) <| zM <| zZ) ?_
 refine jG ⟨_, (.tmp (d := (.val (.int .i64 (((((a * a) + (b * b)) + (c * c)) + (d * d)))))) rfl .nil), ?_⟩
 rfl
theorem fS (a b c d : Int) (ha : -1048576 ≤ a ∧ a ≤ 1048576) (hb : -1048576 ≤ b ∧ b ≤ 1048576) (hc : -1048576 ≤ c ∧ c ≤ 1048576) (hd : -1048576 ≤ d ∧ d ≤ 1048576) : kF Tryz.prog 172 [(uI (jN.mk a b c d))] (.val (.int .i64 ((nq a b c d)))) := by
 have saa := vJ ha ha
 have sab := vJ ha hb
 have sac := vJ ha hc
 have sad := vJ ha hd
 have sbb := vJ hb hb
 have sbc := vJ hb hc
 have sbd := vJ hb hd
 have scc := vJ hc hc
 have scd := vJ hc hd
 have sdd := vJ hd hd
 refine jL Tryz.func172 rfl cb172 rfl ?_
 show uK _ _ _ _ ⟨[(0, (.d (uI (jN.mk a b c d))))], []⟩
 refine jA <| kx [(1, (.ref 0 0))] [(0, some (bx (uI (jN.mk a b c d))))] (zN (uX 0) <| zM <| zZ) ?_
 refine jA <| kx [(2, (vi ((((a * a) + (b * b)) + (c * c)) + (d * d))))] [] (zE (kU dG) <| zR (uM vW) <| zE (kU dG) <| zR (uM vW) <| zE (nI (a * a) (hr := by exact (qV rfl (by simp only [xM]; omega) (by simp only [xN]; omega)))) <| zE (kU dJ) <| zR (uM vW) <| zE (kU dJ) <| zR (uM vW) <| zE (nI (b * b) (hr := by exact (qV rfl (by simp only [xM]; omega) (by simp only [xN]; omega)))) <| zE (zAd ((a * a) + (b * b)) (hr := by exact (qV rfl (by simp only [xM]; omega) (by simp only [xN]; omega)))) <| zE (kU dK) <| zR (uM vW) <| zE (kU dK) <| zR (uM vW) <| zE (nI (c * c) (hr := by exact (qV rfl (by simp only [xM]; omega) (by simp only [xN]; omega)))) <| zE (zAd (((a * a) + (b * b)) + (c * c)) (hr := by exact (qV rfl (by simp only [xM]; omega) (by simp only [xN]; omega)))) <| zE (kU dF) <| zR (uM vW) <| zE (kU dF) <| zR (uM vW) <| zE (nI (d * d) (hr := by exact (qV rfl (by simp only [xM]; omega) (by simp only [xN]; omega)))) <| zE (zAd ((((a * a) + (b * b)) + (c * c)) + (d * d)) (hr := by exact (qV rfl (by simp only [xM]; omega) (by simp only [xN]; omega)))) <| zM <| zZ) ?_
 refine jG ⟨_, (.tmp (d := (.val (.int .i64 (((((a * a) + (b * b)) + (c * c)) + (d * d)))))) rfl .nil), ?_⟩
 rfl
theorem iH (a b c d : Int) (ha : -1048576 ≤ a ∧ a ≤ 1048576) (hb : -1048576 ≤ b ∧ b ≤ 1048576) (hc : -1048576 ≤ c ∧ c ≤ 1048576) (hd : -1048576 ≤ d ∧ d ≤ 1048576) : kF Tryz.prog 77 [(uI (jN.mk a b c d))] (jO (jC (N4 a b c d))) := by
 have saa := vJ ha ha
 have sab := vJ ha hb
 have sac := vJ ha hc
 have sad := vJ ha hd
 have sbb := vJ hb hb
 have sbc := vJ hb hc
 have sbd := vJ hb hd
 have scc := vJ hc hc
 have scd := vJ hc hd
 have sdd := vJ hd hd
 refine jL Tryz.func77 rfl cb77 rfl ?_
 show uK _ _ _ _ ⟨[(0, (.d (uI (jN.mk a b c d))))], []⟩
 refine jA <| kx [(1, (.ref 0 0)), (2, (.ref 1 0))] [(0, some (bx (uI (jN.mk a b c d)))), (1, some (bx (jO (kG.mk (jF.mk false []) (jF.mk false [])))))] (zN (uX 0) <| zN (qH 1 qM qR) <| zZ) ?_
 refine jA <| kx [] [(1, some (bx (jO (jC (((((a * a) + (b * b)) + (c * c)) + (d * d) : Int) : Rat)))))] (zE (kU dG) <| zR (uM vW) <| zE (kU dG) <| zR (uM vW) <| zE (nI (a * a) (hr := by exact (qV rfl (by simp only [xM]; omega) (by simp only [xN]; omega)))) <| zE (kU dJ) <| zR (uM vW) <| zE (kU dJ) <| zR (uM vW) <| zE (nI (b * b) (hr := by exact (qV rfl (by simp only [xM]; omega) (by simp only [xN]; omega)))) <| zE (zAd ((a * a) + (b * b)) (hr := by exact (qV rfl (by simp only [xM]; omega) (by simp only [xN]; omega)))) <| zE (kU dK) <| zR (uM vW) <| zE (kU dK) <| zR (uM vW) <| zE (nI (c * c) (hr := by exact (qV rfl (by simp only [xM]; omega) (by simp only [xN]; omega)))) <| zE (zAd (((a * a) + (b * b)) + (c * c)) (hr := by exact (qV rfl (by simp only [xM]; omega) (by simp only [xN]; omega)))) <| zE (kU dF) <| zR (uM vW) <| zE (kU dF) <| zR (uM vW) <| zE (nI (d * d) (hr := by exact (qV rfl (by simp only [xM]; omega) (by simp only [xN]; omega)))) <| zE (zAd ((((a * a) + (b * b)) + (c * c)) + (d * d)) (hr := by exact (qV rfl (by simp only [xM]; omega) (by simp only [xN]; omega)))) <| zE (kC (mJ ((((a * a) + (b * b)) + (c * c)) + (d * d)) (by omega) (by omega))) <| zT (kR jS) <| zZ) ?_
 refine jG ⟨_, (qB (cs := (bx (jO (jC (((((a * a) + (b * b)) + (c * c)) + (d * d) : Int) : Rat))))) (d := (jO (jC (((((a * a) + (b * b)) + (c * c)) + (d * d) : Int) : Rat)))) rfl rfl jS rfl rfl .nil), ?_⟩
 rfl
end Go.Proofs.YtbecgnplakngdaaGreat
namespace Go.Proofs.YtbecgnplakngdaaGreat
open Go.Fid
set_option maxRecDepth 4000
set_option linter.unusedVariables false
set_option linter.unusedSimpArgs false
theorem cb162 : callB Tryz.prog 162 = true := by kernel_rfl
theorem cb197 : callB Tryz.prog 197 = true := by kernel_rfl
theorem cb201 : callB Tryz.prog 201 = true := by kernel_rfl
theorem cb214 : callB Tryz.prog 214 = true := by kernel_rfl
theorem cb217 : callB Tryz.prog 217 = true := by kernel_rfl
theorem vP : vX Tryz.prog 193 = some (40, 2) := by kernel_rfl
theorem d_divisor (tau : Nat) (l : List jF) (zs : List Int) (hl : LOk 1000000 l zs) (hb : l.length ≤ 1000000) (hv : List.all l uG = true) : kF Tryz.prog 197 [(.sl tau 2 (List.map jH l))] (.tup [(jH (jK (nF zs))), (.val (.bool ((vK zs != 0))))]) := by
 have vD := hl.len
 refine jL Tryz.func197 rfl cb197 rfl ?_
 show uK _ _ _ _ ⟨[(0, (vl tau 2 jH l))], []⟩
 refine jA <| kx [(2, (.ref 0 0))] [(0, some (bx (jH (jF.mk false []))))] (zN (qH 0 uD uE) <| zM <| zZ) ?_
 refine jA <| kx [(4, (.ref 1 0))] [(1, some (bx (jH (jK 0))))] (zE (kC (t_of 0 (by decide) (by decide))) <| zN (qH 1 uD uE) <| zT (kR jI) <| zZ) ?_
 refine jA <| kx [(5, (kE 0))] [] (zM <| zZ) ?_
 refine jA <| jA <| kx [(9, (vl tau 2 jH l)), (10, (kE l.length)), (11, (kE 0))] [] (zM <| zE (nC vP) <| zM <| zZ) ?_
 refine jE <| uA (α := Nat × Nat × Int) (fun (i, g, s) => ⟨[(2, (.ref 0 0)), (4, (.ref 1 0)), (5, (vi s)), (9, (vl tau 2 jH l)), (10, (kE l.length)), (11, (kE i))], [(0, some (bx (jH (jF.mk false [])))), (1, some (bx (jH (jK ((g : Nat) : Int)))))]⟩) (fun (i, g, s) => i ≤ l.length ∧ g = gcdL (zs.take i) ∧ s = vK (zs.take i)) (fun (i, g, s) => l.length - i) (0, 0, 0) wk ⟨Nat.zero_le _, rfl, rfl⟩ ?_
 rintro ⟨i, g, s⟩ ⟨hi, hgv, hsv⟩
 have hg : kZ (jK ((g : Nat) : Int)) ((g : Nat) : Int) 1000000 := by rw [hgv]; exact iU hl.all i
 refine jA <| kx [(12, (vb (decide (((i : Nat) : Int) < ((l.length : Nat) : Int)))))] [] (zE qS <| zZ) ?_
 refine jA <| jQ rfl (fun h1 => ?_) (fun h1 => ?_)
 ·replace h1 := of_decide_eq_true h1
  refine jD <| jA <| jE <| jA <| kx [(7, (.ref 2 0))] [(2, some (bx (jH (l.getD i (jF.mk false [])))))] (zE (eP vP i (jF.mk false [])) <| zE (gZ jI) <| zN (qH 2 uD uE) <| zT (kR jI) <| zZ) ?_
  refine jA <| jA <| kx [(17, (vb false))] [] (zR (kA jI) <| zE (qY true (kC (t_valid (l.getD i (jF.mk false [])) (Nat.le_trans (hl.get i).l (by decide)))) (by exact (all_getD hv (by omega)))) <| zE eX <| zZ) ?_
  refine kO ?_
  refine jD <| jA <| kx [] [(1, some (bx (jH (jK ((Int.gcd ((g : Nat) : Int) (zs.getD i 0) : Nat) : Int)))))] (zR (kA jI) <| zR (kA jI) <| zE (kC (s_gcd hg (hl.get i) (by decide) (by decide))) <| zT (kR jI) <| zZ) ?_
  refine jA <| kx [(23, (vb (s == 0)))] [] (zM <| zE aO <| zZ) ?_
  refine jQ (b := (s == 0)) rfl (fun h2 => ?_) (fun h2 => ?_)
  ·replace h2 := eq_of_beq h2
   refine kx [(5, (vi (qX (zs.getD i 0))))] [] (zR (kA jI) <| zE (kC (s_sign (hl.get i) (by decide))) <| zM <| zZ) ?_
   refine kx [(11, (kE (i + 1)))] [] (zE (qQ (i + 1)) <| zM <| zZ) ?_
   exact ⟨(i + 1, Int.gcd ((g : Nat) : Int) (zs.getD i 0), qX (zs.getD i 0)), wk, ⟨by omega, by rw [hgv]; exact (fY (by omega)).symm, sgnL_step0 (by omega) hsv h2⟩, (by first | omega | (dsimp only; omega))⟩
  ·replace h2 := ne_of_beq_false h2
   refine jD <| kx [(11, (kE (i + 1)))] [] (zE (qQ (i + 1)) <| zM <| zZ) ?_
   exact ⟨(i + 1, Int.gcd ((g : Nat) : Int) (zs.getD i 0), s), wk, ⟨by omega, by rw [hgv]; exact (fY (by omega)).symm, sgnL_step1 (by omega) hsv h2⟩, (by first | omega | (dsimp only; omega))⟩
 ·replace h1 := of_decide_eq_false h1
  have hie : i = l.length := by omega
  rw [hie, vD, List.take_length] at hgv hsv
  refine kQ <| jA <| jA <| kx [(28, (vb (decide (s < 0))))] [] (zM <| zE qS <| zZ) ?_
  refine jQ (b := decide (s < 0)) rfl (fun h3 => ?_) (fun h3 => ?_)
  ·replace h3 := of_decide_eq_true h3
   refine kx [] [(1, some (bx (jH (jK (-((g : Nat) : Int))))))] (zR (kA jI) <| zE (kC (s_neg hg (by decide))) <| zT (kR jI) <| zZ) ?_
   refine jA <| kx [(3, (vb (s != 0)))] [(0, some (bx (jH (jK (-((g : Nat) : Int))))))] (zR (kA jI) <| zM <| zE mR <| zT (kR jI) <| zM <| zZ) ?_
   refine jG ⟨_, (qB (cs := (bx (jH (jK (-((g : Nat) : Int)))))) (d := (jH (jK (-((g : Nat) : Int))))) rfl rfl jI rfl rfl (.tmp (d := (.val (.bool ((s != 0))))) rfl .nil)), ?_⟩
   rw [dv_neg hsv hgv h3, ← hsv]; rfl
  ·replace h3 := of_decide_eq_false h3
   refine jD <| jA <| kx [(3, (vb (s != 0)))] [(0, some (bx (jH (jK ((g : Nat) : Int)))))] (zR (kA jI) <| zM <| zE mR <| zT (kR jI) <| zM <| zZ) ?_
   refine jG ⟨_, (qB (cs := (bx (jH (jK ((g : Nat) : Int))))) (d := (jH (jK ((g : Nat) : Int)))) rfl rfl jI rfl rfl (.tmp (d := (.val (.bool ((s != 0))))) rfl .nil)), ?_⟩
   rw [dv_pos hsv hgv h3, ← hsv]; rfl
theorem d_sum (tau : Nat) (l : List jF) (zs : List Int) (hl : LOk 4000000000 l zs) (hb : l.length ≤ 1000) : kF Tryz.prog 214 [(.sl tau 2 (List.map jH l))] (jH (jK (sumL zs))) := by
 have vD := hl.len
 refine jL Tryz.func214 rfl cb214 rfl ?_
 show uK _ _ _ _ ⟨[(0, (vl tau 2 jH l))], []⟩
 refine jA <| kx [(2, (.ref 0 0))] [(0, some (bx (jH (jF.mk false []))))] (zN (qH 0 uD uE) <| zZ) ?_
 refine jA <| kx [(3, (.ref 1 0))] [(1, some (bx (jH (jK 0))))] (zE (kC (t_of 0 (by decide) (by decide))) <| zN (qH 1 uD uE) <| zT (kR jI) <| zZ) ?_
 refine jA <| jA <| kx [(7, (vl tau 2 jH l)), (8, (kE l.length)), (9, (kE 0))] [] (zM <| zE (nC vP) <| zM <| zZ) ?_
 refine jE <| uA (α := Nat × Int) (fun (i, s) => ⟨[(2, (.ref 0 0)), (3, (.ref 1 0)), (7, (vl tau 2 jH l)), (8, (kE l.length)), (9, (kE i))], [(0, some (bx (jH (jF.mk false [])))), (1, some (bx (jH (jK s))))]⟩) (fun (i, s) => i ≤ l.length ∧ s = sumL (zs.take i)) (fun (i, s) => l.length - i) (0, 0) wk ⟨Nat.zero_le _, rfl⟩ ?_
 rintro ⟨i, s⟩ ⟨hi, hsv⟩
 have hg : kZ (jK s) s 5000000000 := by rw [hsv]; exact qJ (nL (sumL_len hl.all (by omega))) (by decide)
 refine jA <| kx [(10, (vb (decide (((i : Nat) : Int) < ((l.length : Nat) : Int)))))] [] (zE qS <| zZ) ?_
 refine jA <| jQ rfl (fun h1 => ?_) (fun h1 => ?_)
 ·replace h1 := of_decide_eq_true h1
  refine jD <| jA <| jE <| jA <| kx [(5, (.ref 2 0))] [(2, some (bx (jH (l.getD i (jF.mk false [])))))] (zE (eP vP i (jF.mk false [])) <| zE (gZ jI) <| zN (qH 2 uD uE) <| zT (kR jI) <| zZ) ?_
  refine kx [] [(1, some (bx (jH (jK (s + (zs.getD i 0))))))] (zR (kA jI) <| zR (kA jI) <| zE (kC (s_add hg (hl.get i) (by decide) (by decide))) <| zT (kR jI) <| zZ) ?_
  refine kx [(9, (kE (i + 1)))] [] (zE (qQ (i + 1)) <| zM <| zZ) ?_
  exact ⟨(i + 1, (s + (zs.getD i 0))), wk, ⟨by omega, by rw [hsv]; exact (sumL_step (by omega)).symm⟩, (by first | omega | (dsimp only; omega))⟩
 ·replace h1 := of_decide_eq_false h1
  have hie : i = l.length := by omega
  rw [hie, vD, List.take_length] at hsv
  refine kQ <| jA <| kx [] [(0, some (bx (jH (jK s))))] (zR (kA jI) <| zT (kR jI) <| zZ) ?_
  refine jG ⟨_, (qB (cs := (bx (jH (jK s)))) (d := (jH (jK s))) rfl rfl jI rfl rfl .nil), ?_⟩
  rw [hsv]; rfl
theorem l_plus (x : jF) (a : Int) (hx : kZ x a 4000000000) (y : jF) (b : Int) (hy : kZ y b 4000000000) : kF Tryz.prog 201 [(jH x), (jH y)] (jH (jK (a + b))) := by
 refine jL Tryz.func201 rfl cb201 rfl ?_
 show uK _ _ _ _ ⟨[(0, (.d (jH x))), (1, (.d (jH y)))], []⟩
 refine jA <| kx [(2, (.ref 0 0)), (3, (.ref 1 0)), (4, (.ref 2 0))] [(0, some (bx (jH x))), (1, some (bx (jH y))), (2, some (bx (jH (jF.mk false []))))] (zN (uX 0) <| zN (uX 1) <| zN (qH 2 uD uE) <| zZ) ?_
 refine jA <| kx [] [(2, some (bx (jH (jK (a + b)))))] (zR (kA jI) <| zR (kA jI) <| zE (kC (rs_add hx hy (by decide) (by decide))) <| zT (kR jI) <| zZ) ?_
 refine jG ⟨_, (qB (cs := (bx (jH (jK (a + b))))) (d := (jH (jK (a + b)))) rfl rfl jI rfl rfl .nil), ?_⟩
 rfl
theorem l_minus (x : jF) (a : Int) (hx : kZ x a 4000000000) (y : jF) (b : Int) (hy : kZ y b 4000000000) : kF Tryz.prog 217 [(jH x), (jH y)] (jH (jK (a - b))) := by
 refine jL Tryz.func217 rfl cb217 rfl ?_
 show uK _ _ _ _ ⟨[(0, (.d (jH x))), (1, (.d (jH y)))], []⟩
 refine jA <| kx [(2, (.ref 0 0)), (3, (.ref 1 0)), (4, (.ref 2 0))] [(0, some (bx (jH x))), (1, some (bx (jH y))), (2, some (bx (jH (jF.mk false []))))] (zN (uX 0) <| zN (uX 1) <| zN (qH 2 uD uE) <| zZ) ?_
 refine jA <| kx [] [(2, some (bx (jH (jK (a - b)))))] (zR (kA jI) <| zR (kA jI) <| zE (kC (rs_sub hx hy (by decide) (by decide))) <| zT (kR jI) <| zZ) ?_
 refine jG ⟨_, (qB (cs := (bx (jH (jK (a - b))))) (d := (jH (jK (a - b)))) rfl rfl jI rfl rfl .nil), ?_⟩
 rfl
theorem mY (x : jF) (a : Int) (hx : kZ x a 4000000000) (y : jF) (b : Int) (hy : kZ y b 4000000000) : kF Tryz.prog 162 [(jH x), (jH y)] (jH (jK (a * b))) := by
 refine jL Tryz.func162 rfl cb162 rfl ?_
 show uK _ _ _ _ ⟨[(0, (.d (jH x))), (1, (.d (jH y)))], []⟩
 refine jA <| kx [(2, (.ref 0 0)), (3, (.ref 1 0)), (4, (.ref 2 0))] [(0, some (bx (jH x))), (1, some (bx (jH y))), (2, some (bx (jH (jF.mk false []))))] (zN (uX 0) <| zN (uX 1) <| zN (qH 2 uD uE) <| zZ) ?_
 refine jA <| kx [] [(2, some (bx (jH (jK (a * b)))))] (zR (kA jI) <| zR (kA jI) <| zE (kC (rs_mul hx hy (by decide) (by decide))) <| zT (kR jI) <| zZ) ?_
 refine jG ⟨_, (qB (cs := (bx (jH (jK (a * b))))) (d := (jH (jK (a * b)))) rfl rfl jI rfl rfl .nil), ?_⟩
 rfl
end Go.Proofs.YtbecgnplakngdaaGreat
