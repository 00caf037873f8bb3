/- Part 10 of a proof: rules, plain facts, and functions walked. -/
import Derived.Test.YtbecgnplakngdaaGreatM8
import Derived.Test.YtbecgnplakngdaaGreatM9
import Derived.Test.YtbecgnplakngdaaGreatM7
set_option linter.unusedVariables false
set_option linter.unusedSimpArgs false
namespace Go.Fid
def nq (a b c d : Int) : Int := (((a * a) + (b * b)) + (c * c)) + (d * d)
def N4 (a b c d : Int) : Rat := ((nq a b c d : Int) : Rat)
def r00 (a b c d : Int) : Int := (((a * a) + (b * b)) - (c * c)) - (d * d)
def gD (a b c d : Int) : Rat := ((r00 a b c d : Int) : Rat)
def Q00 (a b c d : Int) : Rat := Rat.divInt (r00 a b c d) (nq a b c d)
def r01 (a b c d : Int) : Int := 2 * ((b * c) - (a * d))
def gE (a b c d : Int) : Rat := ((r01 a b c d : Int) : Rat)
def Q01 (a b c d : Int) : Rat := Rat.divInt (r01 a b c d) (nq a b c d)
def r02 (a b c d : Int) : Int := 2 * ((b * d) + (a * c))
def zJ (a b c d : Int) : Rat := ((r02 a b c d : Int) : Rat)
def Q02 (a b c d : Int) : Rat := Rat.divInt (r02 a b c d) (nq a b c d)
def r10 (a b c d : Int) : Int := 2 * ((b * c) + (a * d))
def gL (a b c d : Int) : Rat := ((r10 a b c d : Int) : Rat)
def Q10 (a b c d : Int) : Rat := Rat.divInt (r10 a b c d) (nq a b c d)
def r11 (a b c d : Int) : Int := (((a * a) - (b * b)) + (c * c)) - (d * d)
def gK (a b c d : Int) : Rat := ((r11 a b c d : Int) : Rat)
def Q11 (a b c d : Int) : Rat := Rat.divInt (r11 a b c d) (nq a b c d)
def r12 (a b c d : Int) : Int := 2 * ((c * d) - (a * b))
def zY (a b c d : Int) : Rat := ((r12 a b c d : Int) : Rat)
def Q12 (a b c d : Int) : Rat := Rat.divInt (r12 a b c d) (nq a b c d)
def r20 (a b c d : Int) : Int := 2 * ((b * d) - (a * c))
def gP (a b c d : Int) : Rat := ((r20 a b c d : Int) : Rat)
def Q20 (a b c d : Int) : Rat := Rat.divInt (r20 a b c d) (nq a b c d)
def r21 (a b c d : Int) : Int := 2 * ((c * d) + (a * b))
def gO (a b c d : Int) : Rat := ((r21 a b c d : Int) : Rat)
def Q21 (a b c d : Int) : Rat := Rat.divInt (r21 a b c d) (nq a b c d)
def r22 (a b c d : Int) : Int := (((a * a) - (b * b)) - (c * c)) + (d * d)
def yB (a b c d : Int) : Rat := ((r22 a b c d : Int) : Rat)
def Q22 (a b c d : Int) : Rat := Rat.divInt (r22 a b c d) (nq a b c d)
theorem xG {a b c d : Int} (h : gS a b c d = 0) : (-1048576 ≤ a ∧ a ≤ 1048576) ∧ (-1048576 ≤ b ∧ b ≤ 1048576) ∧ (-1048576 ≤ c ∧ c ≤ 1048576) ∧ (-1048576 ≤ d ∧ d ≤ 1048576) ∧ ¬ (a = 0 ∧ b = 0 ∧ c = 0 ∧ d = 0) := by
  unfold gS at h
  split at h
  · cases h
  · rename_i h0
    split at h
    · rename_i h1; exact ⟨h1.1, h1.2.1, h1.2.2.1, h1.2.2.2, h0⟩
    · cases h
theorem xE {x y z u v f a b c d : Int} (h : uL x y z u v f a b c d = 0) : (-1048576 ≤ x ∧ x ≤ 1048576) ∧ (-1048576 ≤ y ∧ y ≤ 1048576) ∧ (-1048576 ≤ z ∧ z ≤ 1048576) ∧ (-1048576 ≤ u ∧ u ≤ 1048576) ∧ (-1048576 ≤ v ∧ v ≤ 1048576) ∧ (1 ≤ f ∧ f ≤ 1048576) ∧ gS a b c d = 0 := by
  unfold uL at h
  split at h
  · rename_i hp; exact ⟨hp.1, hp.2.1, hp.2.2.1, hp.2.2.2.1, hp.2.2.2.2.1, hp.2.2.2.2.2, h⟩
  · cases h
theorem sq_nn (a : Int) : 0 ≤ a * a := by
  rcases Int.le_total 0 a with h | h
  · exact Int.mul_nonneg h h
  · exact Int.mul_nonneg_of_nonpos_of_nonpos h h
theorem sq_pos {a : Int} (h : a ≠ 0) : 0 < a * a := by
  rcases Int.lt_or_gt_of_ne h with h | h
  · exact Int.mul_pos_of_neg_of_neg h h
  · exact Int.mul_pos h h
theorem nq_pos {a b c d : Int} (h : gS a b c d = 0) : 0 < nq a b c d := by
  have h0 := (xG h).2.2.2.2
  have ha := sq_nn a; have hb := sq_nn b; have hc := sq_nn c; have hd := sq_nn d
  unfold nq
  by_cases e1 : a = 0
  · by_cases e2 : b = 0
    · by_cases e3 : c = 0
      · by_cases e4 : d = 0
        · exact absurd ⟨e1, e2, e3, e4⟩ h0
        · have := sq_pos e4; omega
      · have := sq_pos e3; omega
    · have := sq_pos e2; omega
  · have := sq_pos e1; omega
theorem nq_ne {a b c d : Int} (h : gS a b c d = 0) : nq a b c d ≠ 0 := by have := nq_pos h; omega
theorem nB {a b c d : Int} (ha : (-1048576 ≤ a ∧ a ≤ 1048576)) (hb : (-1048576 ≤ b ∧ b ≤ 1048576)) (hc : (-1048576 ≤ c ∧ c ≤ 1048576)) (hd : (-1048576 ≤ d ∧ d ≤ 1048576)) : -9223372036854775808 ≤ nq a b c d ∧ nq a b c d ≤ 9223372036854775807 := by
  have h1 := vJ ha ha; have h2 := vJ hb hb; have h3 := vJ hc hc; have h4 := vJ hd hd
  unfold nq; omega
theorem ql_N4 {a b c d : Int} (ha : (-1048576 ≤ a ∧ a ≤ 1048576)) (hb : (-1048576 ≤ b ∧ b ≤ 1048576)) (hc : (-1048576 ≤ c ∧ c ≤ 1048576)) (hd : (-1048576 ≤ d ∧ d ≤ 1048576)) : QL (N4 a b c d) 3 := by
  have h := nB ha hb hc hd
  exact qC (jU h.1 h.2) (by decide)
theorem yK {z n : Int} (hn : n ≠ 0) : Rat.divInt z n * (n : Rat) = (z : Rat) := by
  rw [Rat.divInt_eq_div]
  exact Rat.div_mul_cancel (fun h => hn (Rat.intCast_eq_zero_iff.1 h))
theorem r00_b {a b c d : Int} (ha : (-1048576 ≤ a ∧ a ≤ 1048576)) (hb : (-1048576 ≤ b ∧ b ≤ 1048576)) (hc : (-1048576 ≤ c ∧ c ≤ 1048576)) (hd : (-1048576 ≤ d ∧ d ≤ 1048576)) : -9223372036854775808 ≤ r00 a b c d ∧ r00 a b c d ≤ 9223372036854775807 := by
  have h0 := vJ ha ha; have h1 := vJ hb hb; have h2 := vJ hc hc; have h3 := vJ hd hd
  unfold r00; omega
theorem ql_R00 {a b c d : Int} (ha : (-1048576 ≤ a ∧ a ≤ 1048576)) (hb : (-1048576 ≤ b ∧ b ≤ 1048576)) (hc : (-1048576 ≤ c ∧ c ≤ 1048576)) (hd : (-1048576 ≤ d ∧ d ≤ 1048576)) : QL (gD a b c d) 3 := by
  have h := r00_b ha hb hc hd
  exact qC (jU h.1 h.2) (by decide)
theorem ql_Q00 {a b c d : Int} (ha : (-1048576 ≤ a ∧ a ≤ 1048576)) (hb : (-1048576 ≤ b ∧ b ≤ 1048576)) (hc : (-1048576 ≤ c ∧ c ≤ 1048576)) (hd : (-1048576 ≤ d ∧ d ≤ 1048576)) : QL (Q00 a b c d) 3 := by
  have h := r00_b ha hb hc hd; have h2 := nB ha hb hc hd
  exact qO (jU h.1 h.2) (jU h2.1 h2.2) (by decide)
theorem Q00_n {a b c d : Int} (h : nq a b c d ≠ 0) : Q00 a b c d * N4 a b c d = gD a b c d := yK h
theorem r01_b {a b c d : Int} (ha : (-1048576 ≤ a ∧ a ≤ 1048576)) (hb : (-1048576 ≤ b ∧ b ≤ 1048576)) (hc : (-1048576 ≤ c ∧ c ≤ 1048576)) (hd : (-1048576 ≤ d ∧ d ≤ 1048576)) : -9223372036854775808 ≤ r01 a b c d ∧ r01 a b c d ≤ 9223372036854775807 := by
  have h0 := vJ hb hc; have h1 := vJ ha hd
  unfold r01; omega
theorem ql_R01 {a b c d : Int} (ha : (-1048576 ≤ a ∧ a ≤ 1048576)) (hb : (-1048576 ≤ b ∧ b ≤ 1048576)) (hc : (-1048576 ≤ c ∧ c ≤ 1048576)) (hd : (-1048576 ≤ d ∧ d ≤ 1048576)) : QL (gE a b c d) 3 := by
  have h := r01_b ha hb hc hd
  exact qC (jU h.1 h.2) (by decide)
theorem ql_Q01 {a b c d : Int} (ha : (-1048576 ≤ a ∧ a ≤ 1048576)) (hb : (-1048576 ≤ b ∧ b ≤ 1048576)) (hc : (-1048576 ≤ c ∧ c ≤ 1048576)) (hd : (-1048576 ≤ d ∧ d ≤ 1048576)) : QL (Q01 a b c d) 3 := by
  have h := r01_b ha hb hc hd; have h2 := nB ha hb hc hd
  exact qO (jU h.1 h.2) (jU h2.1 h2.2) (by decide)
theorem Q01_n {a b c d : Int} (h : nq a b c d ≠ 0) : Q01 a b c d * N4 a b c d = gE a b c d := yK h
theorem r02_b {a b c d : Int} (ha : (-1048576 ≤ a ∧ a ≤ 1048576)) (hb : (-1048576 ≤ b ∧ b ≤ 1048576)) (hc : (-1048576 ≤ c ∧ c ≤ 1048576)) (hd : (-1048576 ≤ d ∧ d ≤ 1048576)) : -9223372036854775808 ≤ r02 a b c d ∧ r02 a b c d ≤ 9223372036854775807 := by
  have h0 := vJ hb hd; have h1 := vJ ha hc
  unfold r02; omega
theorem ql_R02 {a b c d : Int} (ha : (-1048576 ≤ a ∧ a ≤ 1048576)) (hb : (-1048576 ≤ b ∧ b ≤ 1048576)) (hc : (-1048576 ≤ c ∧ c ≤ 1048576)) (hd : (-1048576 ≤ d ∧ d ≤ 1048576)) : QL (zJ a b c d) 3 := by
  have h := r02_b ha hb hc hd
  exact qC (jU h.1 h.2) (by decide)
theorem ql_Q02 {a b c d : Int} (ha : (-1048576 ≤ a ∧ a ≤ 1048576)) (hb : (-1048576 ≤ b ∧ b ≤ 1048576)) (hc : (-1048576 ≤ c ∧ c ≤ 1048576)) (hd : (-1048576 ≤ d ∧ d ≤ 1048576)) : QL (Q02 a b c d) 3 := by
  have h := r02_b ha hb hc hd; have h2 := nB ha hb hc hd
  exact qO (jU h.1 h.2) (jU h2.1 h2.2) (by decide)
theorem Q02_n {a b c d : Int} (h : nq a b c d ≠ 0) : Q02 a b c d * N4 a b c d = zJ a b c d := yK h
theorem r10_b {a b c d : Int} (ha : (-1048576 ≤ a ∧ a ≤ 1048576)) (hb : (-1048576 ≤ b ∧ b ≤ 1048576)) (hc : (-1048576 ≤ c ∧ c ≤ 1048576)) (hd : (-1048576 ≤ d ∧ d ≤ 1048576)) : -9223372036854775808 ≤ r10 a b c d ∧ r10 a b c d ≤ 9223372036854775807 := by
  have h0 := vJ hb hc; have h1 := vJ ha hd
  unfold r10; omega
theorem ql_R10 {a b c d : Int} (ha : (-1048576 ≤ a ∧ a ≤ 1048576)) (hb : (-1048576 ≤ b ∧ b ≤ 1048576)) (hc : (-1048576 ≤ c ∧ c ≤ 1048576)) (hd : (-1048576 ≤ d ∧ d ≤ 1048576)) : QL (gL a b c d) 3 := by
  have h := r10_b ha hb hc hd
  exact qC (jU h.1 h.2) (by decide)
theorem ql_Q10 {a b c d : Int} (ha : (-1048576 ≤ a ∧ a ≤ 1048576)) (hb : (-1048576 ≤ b ∧ b ≤ 1048576)) (hc : (-1048576 ≤ c ∧ c ≤ 1048576)) (hd : (-1048576 ≤ d ∧ d ≤ 1048576)) : QL (Q10 a b c d) 3 := by
  have h := r10_b ha hb hc hd; have h2 := nB ha hb hc hd
  exact qO (jU h.1 h.2) (jU h2.1 h2.2) (by decide)
theorem Q10_n {a b c d : Int} (h : nq a b c d ≠ 0) : Q10 a b c d * N4 a b c d = gL a b c d := yK h
theorem r11_b {a b c d : Int} (ha : (-1048576 ≤ a ∧ a ≤ 1048576)) (hb : (-1048576 ≤ b ∧ b ≤ 1048576)) (hc : (-1048576 ≤ c ∧ c ≤ 1048576)) (hd : (-1048576 ≤ d ∧ d ≤ 1048576)) : -9223372036854775808 ≤ r11 a b c d ∧ r11 a b c d ≤ 9223372036854775807 := by
  have h0 := vJ ha ha; have h1 := vJ hb hb; have h2 := vJ hc hc; have h3 := vJ hd hd
  unfold r11; omega
theorem ql_R11 {a b c d : Int} (ha : (-1048576 ≤ a ∧ a ≤ 1048576)) (hb : (-1048576 ≤ b ∧ b ≤ 1048576)) (hc : (-1048576 ≤ c ∧ c ≤ 1048576)) (hd : (-1048576 ≤ d ∧ d ≤ 1048576)) : QL (gK a b c d) 3 := by
  have h := r11_b ha hb hc hd
  exact qC (jU h.1 h.2) (by decide)
theorem ql_Q11 {a b c d : Int} (ha : (-1048576 ≤ a ∧ a ≤ 1048576)) (hb : (-1048576 ≤ b ∧ b ≤ 1048576)) (hc : (-1048576 ≤ c ∧ c ≤ 1048576)) (hd : (-1048576 ≤ d ∧ d ≤ 1048576)) : QL (Q11 a b c d) 3 := by
  have h := r11_b ha hb hc hd; have h2 := nB ha hb hc hd
  exact qO (jU h.1 h.2) (jU h2.1 h2.2) (by decide)
theorem Q11_n {a b c d : Int} (h : nq a b c d ≠ 0) : Q11 a b c d * N4 a b c d = gK a b c d := yK h
theorem r12_b {a b c d : Int} (ha : (-1048576 ≤ a ∧ a ≤ 1048576)) (hb : (-1048576 ≤ b ∧ b ≤ 1048576)) (hc : (-1048576 ≤ c ∧ c ≤ 1048576)) (hd : (-1048576 ≤ d ∧ d ≤ 1048576)) : -9223372036854775808 ≤ r12 a b c d ∧ r12 a b c d ≤ 9223372036854775807 := by
  have h0 := vJ hc hd; have h1 := vJ ha hb
  unfold r12; omega
theorem ql_R12 {a b c d : Int} (ha : (-1048576 ≤ a ∧ a ≤ 1048576)) (hb : (-1048576 ≤ b ∧ b ≤ 1048576)) (hc : (-1048576 ≤ c ∧ c ≤ 1048576)) (hd : (-1048576 ≤ d ∧ d ≤ 1048576)) : QL (zY a b c d) 3 := by
  have h := r12_b ha hb hc hd
  exact qC (jU h.1 h.2) (by decide)
theorem ql_Q12 {a b c d : Int} (ha : (-1048576 ≤ a ∧ a ≤ 1048576)) (hb : (-1048576 ≤ b ∧ b ≤ 1048576)) (hc : (-1048576 ≤ c ∧ c ≤ 1048576)) (hd : (-1048576 ≤ d ∧ d ≤ 1048576)) : QL (Q12 a b c d) 3 := by
  have h := r12_b ha hb hc hd; have h2 := nB ha hb hc hd
  exact qO (jU h.1 h.2) (jU h2.1 h2.2) (by decide)
theorem Q12_n {a b c d : Int} (h : nq a b c d ≠ 0) : Q12 a b c d * N4 a b c d = zY a b c d := yK h
theorem r20_b {a b c d : Int} (ha : (-1048576 ≤ a ∧ a ≤ 1048576)) (hb : (-1048576 ≤ b ∧ b ≤ 1048576)) (hc : (-1048576 ≤ c ∧ c ≤ 1048576)) (hd : (-1048576 ≤ d ∧ d ≤ 1048576)) : -9223372036854775808 ≤ r20 a b c d ∧ r20 a b c d ≤ 9223372036854775807 := by
  have h0 := vJ hb hd; have h1 := vJ ha hc
  unfold r20; omega
theorem ql_R20 {a b c d : Int} (ha : (-1048576 ≤ a ∧ a ≤ 1048576)) (hb : (-1048576 ≤ b ∧ b ≤ 1048576)) (hc : (-1048576 ≤ c ∧ c ≤ 1048576)) (hd : (-1048576 ≤ d ∧ d ≤ 1048576)) : QL (gP a b c d) 3 := by
  have h := r20_b ha hb hc hd
  exact qC (jU h.1 h.2) (by decide)
theorem ql_Q20 {a b c d : Int} (ha : (-1048576 ≤ a ∧ a ≤ 1048576)) (hb : (-1048576 ≤ b ∧ b ≤ 1048576)) (hc : (-1048576 ≤ c ∧ c ≤ 1048576)) (hd : (-1048576 ≤ d ∧ d ≤ 1048576)) : QL (Q20 a b c d) 3 := by
  have h := r20_b ha hb hc hd; have h2 := nB ha hb hc hd
  exact qO (jU h.1 h.2) (jU h2.1 h2.2) (by decide)
theorem Q20_n {a b c d : Int} (h : nq a b c d ≠ 0) : Q20 a b c d * N4 a b c d = gP a b c d := yK h
theorem r21_b {a b c d : Int} (ha : (-1048576 ≤ a ∧ a ≤ 1048576)) (hb : (-1048576 ≤ b ∧ b ≤ 1048576)) (hc : (-1048576 ≤ c ∧ c ≤ 1048576)) (hd : (-1048576 ≤ d ∧ d ≤ 1048576)) : -9223372036854775808 ≤ r21 a b c d ∧ r21 a b c d ≤ 9223372036854775807 := by
  have h0 := vJ hc hd; have h1 := vJ ha hb
  unfold r21; omega
theorem ql_R21 {a b c d : Int} (ha : (-1048576 ≤ a ∧ a ≤ 1048576)) (hb : (-1048576 ≤ b ∧ b ≤ 1048576)) (hc : (-1048576 ≤ c ∧ c ≤ 1048576)) (hd : (-1048576 ≤ d ∧ d ≤ 1048576)) : QL (gO a b c d) 3 := by
  have h := r21_b ha hb hc hd
  exact qC (jU h.1 h.2) (by decide)
theorem ql_Q21 {a b c d : Int} (ha : (-1048576 ≤ a ∧ a ≤ 1048576)) (hb : (-1048576 ≤ b ∧ b ≤ 1048576)) (hc : (-1048576 ≤ c ∧ c ≤ 1048576)) (hd : (-1048576 ≤ d ∧ d ≤ 1048576)) : QL (Q21 a b c d) 3 := by
  have h := r21_b ha hb hc hd; have h2 := nB ha hb hc hd
  exact qO (jU h.1 h.2) (jU h2.1 h2.2) (by decide)
theorem Q21_n {a b c d : Int} (h : nq a b c d ≠ 0) : Q21 a b c d * N4 a b c d = gO a b c d := yK h
theorem r22_b {a b c d : Int} (ha : (-1048576 ≤ a ∧ a ≤ 1048576)) (hb : (-1048576 ≤ b ∧ b ≤ 1048576)) (hc : (-1048576 ≤ c ∧ c ≤ 1048576)) (hd : (-1048576 ≤ d ∧ d ≤ 1048576)) : -9223372036854775808 ≤ r22 a b c d ∧ r22 a b c d ≤ 9223372036854775807 := by
  have h0 := vJ ha ha; have h1 := vJ hb hb; have h2 := vJ hc hc; have h3 := vJ hd hd
  unfold r22; omega
theorem ql_R22 {a b c d : Int} (ha : (-1048576 ≤ a ∧ a ≤ 1048576)) (hb : (-1048576 ≤ b ∧ b ≤ 1048576)) (hc : (-1048576 ≤ c ∧ c ≤ 1048576)) (hd : (-1048576 ≤ d ∧ d ≤ 1048576)) : QL (yB a b c d) 3 := by
  have h := r22_b ha hb hc hd
  exact qC (jU h.1 h.2) (by decide)
theorem ql_Q22 {a b c d : Int} (ha : (-1048576 ≤ a ∧ a ≤ 1048576)) (hb : (-1048576 ≤ b ∧ b ≤ 1048576)) (hc : (-1048576 ≤ c ∧ c ≤ 1048576)) (hd : (-1048576 ≤ d ∧ d ≤ 1048576)) : QL (Q22 a b c d) 3 := by
  have h := r22_b ha hb hc hd; have h2 := nB ha hb hc hd
  exact qO (jU h.1 h.2) (jU h2.1 h2.2) (by decide)
theorem Q22_n {a b c d : Int} (h : nq a b c d ≠ 0) : Q22 a b c d * N4 a b c d = yB a b c d := yK h
theorem jX {x y : Rat} {n : Nat} (h : x = y) (hy : QL y n) : QL x n := h ▸ hy
def yV (a b c : Rat) : Bool := decide (a = 0) && (decide (b = 0) && decide (c = 0))
theorem bP {a b c : Rat} (h : yV a b c = false) : ¬ (a = 0 ∧ b = 0 ∧ c = 0) := by
  rintro ⟨rfl, rfl, rfl⟩; simp [yV] at h
theorem zeroV_yes {a b c : Rat} (h : yV a b c = true) : a = 0 ∧ b = 0 ∧ c = 0 := by
  simp [yV] at h; exact h
theorem zeroV_of {a b c : Rat} (h : a = 0 ∧ b = 0 ∧ c = 0) : yV a b c = true := by
  simp [yV, h]
theorem zeroV_not {a b c : Rat} (h : ¬ (a = 0 ∧ b = 0 ∧ c = 0)) : yV a b c = false := by
  rcases e : yV a b c with _ | _
  · rfl
  · exact absurd (zeroV_yes e) h
theorem rsq_nn (a : Rat) : 0 ≤ a * a := by
  rcases Rat.le_total (a := 0) (b := a) with h | h
  · exact Rat.mul_nonneg h h
  · have : 0 ≤ (-a) * (-a) := Rat.mul_nonneg (by grind) (by grind)
    grind
theorem rsq_zero {a : Rat} (h : a * a = 0) : a = 0 := by
  rcases Rat.mul_eq_zero.1 h with h | h <;> exact h
theorem fX {a b c : Rat} : jM a b c a b c = 0 ↔ (a = 0 ∧ b = 0 ∧ c = 0) := by
  unfold jM
  refine ⟨fun h => ?_, fun ⟨h1, h2, h3⟩ => by rw [h1, h2, h3]; grind⟩
  have ha := rsq_nn a; have hb := rsq_nn b; have hc := rsq_nn c
  exact ⟨rsq_zero (by grind), rsq_zero (by grind), rsq_zero (by grind)⟩
theorem zeroV_dot (a b c : Rat) : (yT (jM a b c a b c) == 0) = yV a b c := by
  rcases e : yV a b c with _ | _
  · exact beq_eq_false_iff_ne.2 (fun h => bP e (fX.1 (cB.1 h)))
  · exact beq_iff_eq.2 (cB.2 (fX.2 (zeroV_yes e)))
theorem zeroV_sgn (a b c : Rat) : yV a b c = (((yT a == 0) && (yT b == 0)) && (yT c == 0)) := by
  have h : ∀ x : Rat, (yT x == 0) = decide (x = 0) := fun x => by
    by_cases e : x = 0
    · rw [decide_eq_true e]; exact beq_iff_eq.2 (cB.2 e)
    · rw [decide_eq_false e]; exact beq_eq_false_iff_ne.2 (fun q => e (cB.1 q))
  rw [h, h, h, Bool.and_assoc]; rfl
def eU (a b c : Rat) : Int := ((Int.gcd a.num ((Int.gcd b.num c.num : Nat) : Int) : Nat) : Int)
theorem gcd3_ref (a b c : Rat) : ((Int.gcd (((Int.gcd (((Int.gcd 0 a.num : Nat)) : Int) b.num : Nat)) : Int) c.num : Nat) : Int) = eU a b c := by
  unfold eU
  rw [Int.gcd_zero_left]
  have h1 : ∀ (x : Int) (y : Int), Int.gcd ((x.natAbs : Nat) : Int) y = Int.gcd x y := fun x y => by
    unfold Int.gcd; rw [Int.natAbs_natCast]
  rw [h1, Int.gcd_assoc]
theorem gcd3_ne {a b c : Rat} (h : yV a b c = false) : eU a b c ≠ 0 := fun e => by
  unfold eU at e
  have e0 : Int.gcd a.num ((Int.gcd b.num c.num : Nat) : Int) = 0 := by omega
  obtain ⟨e1, e2⟩ := Int.gcd_eq_zero_iff.1 e0
  obtain ⟨e3, e4⟩ := Int.gcd_eq_zero_iff.1 (show Int.gcd b.num c.num = 0 by omega)
  exact bP h ⟨Rat.num_eq_zero.1 e1, Rat.num_eq_zero.1 e3, Rat.num_eq_zero.1 e4⟩
def yC (a b c : Rat) : Rat := Rat.divInt 1 (eU a b c)
theorem lenZ_gcd0 {a b : Int} {n : Nat} (ha : yM a ≤ n) (hb : yM b ≤ n) : yM ((Int.gcd a b : Nat) : Int) ≤ n := by
  by_cases h : b = 0
  · rw [h, Int.gcd_zero_right]; exact Nat.le_trans (cA (by omega)) ha
  · exact lenZ_gcd h hb
theorem zC {a b c : Rat} {n k : Nat} (ha : QL a n) (hb : QL b n) (hc : QL c n) (h : n ≤ k) (h1 : 1 ≤ n) : QL (yC a b c) k :=
  kB (qO (Nat.le_trans (vZ (by decide)) h1) (lenZ_gcd0 ha.1 (lenZ_gcd0 hb.1 hc.1)) h1) h
theorem redK_ne {a b c : Rat} (h : yV a b c = false) : yC a b c ≠ 0 := by
  have h1 := gcd3_ne h
  unfold yC
  rw [Rat.divInt_eq_div]
  intro e
  have h2 : ((eU a b c : Int) : Rat) ≠ 0 := fun q => h1 (Rat.intCast_eq_zero_iff.1 q)
  have h3 := Rat.div_mul_cancel (a := ((1 : Int) : Rat)) h2
  rw [e, Rat.zero_mul] at h3
  exact absurd h3 (by decide)
theorem xC (a b c : Rat) : jM a b c ((0 : Int) : Rat) ((0 : Int) : Rat) ((1 : Int) : Rat) = c := by
  unfold jM
  rw [Rat.intCast_zero, Rat.intCast_one, Rat.mul_zero, Rat.mul_zero, Rat.mul_one, Rat.zero_add, Rat.zero_add]
def cK (a b c d p q r s : Int) : Rat := (zJ a b c d * N4 p q r s) + (zJ p q r s * N4 a b c d)
theorem dq0_eq (a b c d p q r s : Int) : (zJ a b c d * N4 p q r s) + (zJ p q r s * N4 a b c d) = cK a b c d p q r s := rfl
def cM (a b c d p q r s : Int) : Rat := (zY a b c d * N4 p q r s) + (zY p q r s * N4 a b c d)
theorem dq1_eq (a b c d p q r s : Int) : (zY a b c d * N4 p q r s) + (zY p q r s * N4 a b c d) = cM a b c d p q r s := rfl
def cJ (a b c d p q r s : Int) : Rat := (yB a b c d * N4 p q r s) + (yB p q r s * N4 a b c d)
theorem dq2_eq (a b c d p q r s : Int) : (yB a b c d * N4 p q r s) + (yB p q r s * N4 a b c d) = cJ a b c d p q r s := rfl
def RFr (lx ly lz la lb lc ld rx ry rz ra rb rc rd : Int) (b0 b1 b2 e00 e01 e02 e10 e11 e12 e20 e21 e22 : Rat) : Prop :=
  (((rx - lx) : Int) : Rat) = b0 ∧
  (((ry - ly) : Int) : Rat) = b1 ∧
  (((rz - lz) : Int) : Rat) = b2 ∧
  b0 * yC b0 b1 b2 = e00 ∧
  b1 * yC b0 b1 b2 = e01 ∧
  b2 * yC b0 b1 b2 = e02 ∧
  (((cM la lb lc ld ra rb rc rd) * e02) - ((cJ la lb lc ld ra rb rc rd) * e01)) * yC (((cM la lb lc ld ra rb rc rd) * e02) - ((cJ la lb lc ld ra rb rc rd) * e01)) (((cJ la lb lc ld ra rb rc rd) * e00) - ((cK la lb lc ld ra rb rc rd) * e02)) (((cK la lb lc ld ra rb rc rd) * e01) - ((cM la lb lc ld ra rb rc rd) * e00)) = e10 ∧
  (((cJ la lb lc ld ra rb rc rd) * e00) - ((cK la lb lc ld ra rb rc rd) * e02)) * yC (((cM la lb lc ld ra rb rc rd) * e02) - ((cJ la lb lc ld ra rb rc rd) * e01)) (((cJ la lb lc ld ra rb rc rd) * e00) - ((cK la lb lc ld ra rb rc rd) * e02)) (((cK la lb lc ld ra rb rc rd) * e01) - ((cM la lb lc ld ra rb rc rd) * e00)) = e11 ∧
  (((cK la lb lc ld ra rb rc rd) * e01) - ((cM la lb lc ld ra rb rc rd) * e00)) * yC (((cM la lb lc ld ra rb rc rd) * e02) - ((cJ la lb lc ld ra rb rc rd) * e01)) (((cJ la lb lc ld ra rb rc rd) * e00) - ((cK la lb lc ld ra rb rc rd) * e02)) (((cK la lb lc ld ra rb rc rd) * e01) - ((cM la lb lc ld ra rb rc rd) * e00)) = e12 ∧
  ((e01 * e12) - (e02 * e11)) * yC ((e01 * e12) - (e02 * e11)) ((e02 * e10) - (e00 * e12)) ((e00 * e11) - (e01 * e10)) = e20 ∧
  ((e02 * e10) - (e00 * e12)) * yC ((e01 * e12) - (e02 * e11)) ((e02 * e10) - (e00 * e12)) ((e00 * e11) - (e01 * e10)) = e21 ∧
  ((e00 * e11) - (e01 * e10)) * yC ((e01 * e12) - (e02 * e11)) ((e02 * e10) - (e00 * e12)) ((e00 * e11) - (e01 * e10)) = e22
instance {lx ly lz la lb lc ld rx ry rz ra rb rc rd : Int} {b0 b1 b2 e00 e01 e02 e10 e11 e12 e20 e21 e22 : Rat} : Decidable (RFr lx ly lz la lb lc ld rx ry rz ra rb rc rd b0 b1 b2 e00 e01 e02 e10 e11 e12 e20 e21 e22) := by unfold RFr; infer_instance
def upV (la lb lc ld ra rb rc rd : Int) (b0 b1 b2 : Rat) : Bool := yV (((cM la lb lc ld ra rb rc rd) * b2) - ((cJ la lb lc ld ra rb rc rd) * b1)) (((cJ la lb lc ld ra rb rc rd) * b0) - ((cK la lb lc ld ra rb rc rd) * b2)) (((cK la lb lc ld ra rb rc rd) * b1) - ((cM la lb lc ld ra rb rc rd) * b0))
def stn2 (m n : Nat) : Nat := if m = 0 then n else m
theorem stn2_l {m n c : Nat} (h : ((m : Nat) : Int) ≠ ((0 : Nat) : Int)) (hc : stn2 m n = c) : m = c := by
  unfold stn2 at hc; rw [if_neg (by omega)] at hc; exact hc
theorem stn2_r {m n c : Nat} (h : ((m : Nat) : Int) = ((0 : Nat) : Int)) (hc : stn2 m n = c) : n = c := by
  unfold stn2 at hc; rw [if_pos (by omega)] at hc; exact hc
theorem stn2_0 {m n c : Nat} (h : ((m : Nat) : Int) = ((0 : Nat) : Int)) (h2 : ((n : Nat) : Int) = ((0 : Nat) : Int)) (hc : stn2 m n = c) : c = 0 := by
  rw [← stn2_r h hc]; omega
theorem cross_k (d0 d1 d2 a b c k : Rat) : (d1 * (c * k)) - (d2 * (b * k)) = (d1 * c - d2 * b) * k ∧ (d2 * (a * k)) - (d0 * (c * k)) = (d2 * a - d0 * c) * k ∧ (d0 * (b * k)) - (d1 * (a * k)) = (d0 * b - d1 * a) * k := by
  refine ⟨?_, ?_, ?_⟩ <;> grind
theorem zeroV_k {a b c k : Rat} (hk : k ≠ 0) : yV (a * k) (b * k) (c * k) = yV a b c := by
  have h : ∀ x : Rat, x * k = 0 ↔ x = 0 := fun x => ⟨fun e => (Rat.mul_eq_zero.1 e).resolve_right hk, fun e => by rw [e, Rat.zero_mul]⟩
  unfold yV
  simp only [h]
theorem upV_base {la lb lc ld ra rb rc rd : Int} {b0 b1 b2 : Rat} (h : upV la lb lc ld ra rb rc rd b0 b1 b2 = false) : yV b0 b1 b2 = false := by
  refine zeroV_not (fun ⟨h1, h2, h3⟩ => ?_)
  subst h1; subst h2; subst h3
  have h9 := bP h
  exact h9 ⟨by grind, by grind, by grind⟩
theorem up_zs {la lb lc ld ra rb rc rd : Int} {b0 b1 b2 : Rat} {v : Bool} (hz : yV b0 b1 b2 = false) (h : upV la lb lc ld ra rb rc rd b0 b1 b2 = v) : yV (((cM la lb lc ld ra rb rc rd) * (b2 * (yC b0 b1 b2))) - ((cJ la lb lc ld ra rb rc rd) * (b1 * (yC b0 b1 b2)))) (((cJ la lb lc ld ra rb rc rd) * (b0 * (yC b0 b1 b2))) - ((cK la lb lc ld ra rb rc rd) * (b2 * (yC b0 b1 b2)))) (((cK la lb lc ld ra rb rc rd) * (b1 * (yC b0 b1 b2))) - ((cM la lb lc ld ra rb rc rd) * (b0 * (yC b0 b1 b2)))) = v := by
  have hc := cross_k (cK la lb lc ld ra rb rc rd) (cM la lb lc ld ra rb rc rd) (cJ la lb lc ld ra rb rc rd) b0 b1 b2 (yC b0 b1 b2)
  rw [hc.1, hc.2.1, hc.2.2, zeroV_k (redK_ne hz)]
  exact h
section
variable {lx ly lz la lb lc ld rx ry rz ra rb rc rd : Int} {b0 b1 b2 e00 e01 e02 e10 e11 e12 e20 e21 e22 : Rat}
theorem fr_zb (hF : RFr lx ly lz la lb lc ld rx ry rz ra rb rc rd b0 b1 b2 e00 e01 e02 e10 e11 e12 e20 e21 e22) (hup : upV la lb lc ld ra rb rc rd b0 b1 b2 = false) : yV b0 b1 b2 = false := upV_base hup
theorem fr_zs (hF : RFr lx ly lz la lb lc ld rx ry rz ra rb rc rd b0 b1 b2 e00 e01 e02 e10 e11 e12 e20 e21 e22) (hup : upV la lb lc ld ra rb rc rd b0 b1 b2 = false) : yV (((cM la lb lc ld ra rb rc rd) * e02) - ((cJ la lb lc ld ra rb rc rd) * e01)) (((cJ la lb lc ld ra rb rc rd) * e00) - ((cK la lb lc ld ra rb rc rd) * e02)) (((cK la lb lc ld ra rb rc rd) * e01) - ((cM la lb lc ld ra rb rc rd) * e00)) = false := by
  have h := up_zs (upV_base hup) hup
  obtain ⟨-, -, -, he0, he1, he2, -⟩ := hF
  rw [he0, he1, he2] at h
  exact h
theorem orth_cross (a b c d0 d1 d2 : Rat) : jM a b c ((d1 * c) - (d2 * b)) ((d2 * a) - (d0 * c)) ((d0 * b) - (d1 * a)) = 0 := by unfold jM; grind
theorem dot3_k (a b c x y z k : Rat) : jM a b c (x * k) (y * k) (z * k) = jM a b c x y z * k := by unfold jM; grind
theorem fr_01 (hF : RFr lx ly lz la lb lc ld rx ry rz ra rb rc rd b0 b1 b2 e00 e01 e02 e10 e11 e12 e20 e21 e22) : jM e00 e01 e02 e10 e11 e12 = 0 := by
  obtain ⟨-, -, -, -, -, -, he0, he1, he2, -⟩ := hF
  rw [← he0, ← he1, ← he2, dot3_k, orth_cross, Rat.zero_mul]
theorem lagr (a b c x y z : Rat) : jM (b * z - c * y) (c * x - a * z) (a * y - b * x) (b * z - c * y) (c * x - a * z) (a * y - b * x) = jM a b c a b c * jM x y z x y z - jM a b c x y z * jM a b c x y z := by
  unfold jM; grind
theorem fr_z0 (hF : RFr lx ly lz la lb lc ld rx ry rz ra rb rc rd b0 b1 b2 e00 e01 e02 e10 e11 e12 e20 e21 e22) (hup : upV la lb lc ld ra rb rc rd b0 b1 b2 = false) : yV e00 e01 e02 = false := by
  have h := upV_base hup
  obtain ⟨-, -, -, he0, he1, he2, -⟩ := hF
  rw [← zeroV_k (redK_ne h), he0, he1, he2] at h
  exact h
theorem fr_z1 (hF : RFr lx ly lz la lb lc ld rx ry rz ra rb rc rd b0 b1 b2 e00 e01 e02 e10 e11 e12 e20 e21 e22) (hup : upV la lb lc ld ra rb rc rd b0 b1 b2 = false) : yV e10 e11 e12 = false := by
  have h := fr_zs hF hup
  obtain ⟨-, -, -, -, -, -, he0, he1, he2, -⟩ := hF
  rw [← zeroV_k (redK_ne h), he0, he1, he2] at h
  exact h
theorem fr_zt (hF : RFr lx ly lz la lb lc ld rx ry rz ra rb rc rd b0 b1 b2 e00 e01 e02 e10 e11 e12 e20 e21 e22) (hup : upV la lb lc ld ra rb rc rd b0 b1 b2 = false) : yV ((e01 * e12) - (e02 * e11)) ((e02 * e10) - (e00 * e12)) ((e00 * e11) - (e01 * e10)) = false := by
  refine zeroV_not (fun hz => ?_)
  have h1 := fX.2 hz
  rw [lagr, fr_01 hF, Rat.zero_mul, Rat.sub_eq_add_neg, Rat.neg_zero, Rat.add_zero] at h1
  rcases Rat.mul_eq_zero.1 h1 with h2 | h2
  · exact bP (fr_z0 hF hup) (fX.1 h2)
  · exact bP (fr_z1 hF hup) (fX.1 h2)
theorem fr_z2 (hF : RFr lx ly lz la lb lc ld rx ry rz ra rb rc rd b0 b1 b2 e00 e01 e02 e10 e11 e12 e20 e21 e22) (hup : upV la lb lc ld ra rb rc rd b0 b1 b2 = false) : yV e20 e21 e22 = false := by
  have h := fr_zt hF hup
  obtain ⟨-, -, -, -, -, -, -, -, -, he0, he1, he2⟩ := hF
  rw [← zeroV_k (redK_ne h), he0, he1, he2] at h
  exact h
end
theorem zb_ne {lx ly lz rx ry rz : Int} {b0 b1 b2 : Rat} (h0 : ((rx - lx : Int) : Rat) = b0) (h1 : ((ry - ly : Int) : Rat) = b1) (h2 : ((rz - lz : Int) : Rat) = b2) (h : ¬ ([lx, ly, lz] = [rx, ry, rz])) : yV b0 b1 b2 = false := by
  refine zeroV_not (fun ⟨q0, q1, q2⟩ => h ?_)
  rw [← h0] at q0; rw [← h1] at q1; rw [← h2] at q2
  have q0 := Rat.intCast_eq_zero_iff.1 q0; have q1 := Rat.intCast_eq_zero_iff.1 q1; have q2 := Rat.intCast_eq_zero_iff.1 q2
  rw [show lx = rx by omega, show ly = ry by omega, show lz = rz by omega]
theorem zb_eq {lx ly lz rx ry rz : Int} {b0 b1 b2 : Rat} (h0 : ((rx - lx : Int) : Rat) = b0) (h1 : ((ry - ly : Int) : Rat) = b1) (h2 : ((rz - lz : Int) : Rat) = b2) (h : [lx, ly, lz] = [rx, ry, rz]) : yV b0 b1 b2 = true := by
  simp only [List.cons.injEq, and_true] at h
  refine zeroV_of ⟨?_, ?_, ?_⟩
  · rw [← h0]; exact Rat.intCast_eq_zero_iff.2 (by omega)
  · rw [← h1]; exact Rat.intCast_eq_zero_iff.2 (by omega)
  · rw [← h2]; exact Rat.intCast_eq_zero_iff.2 (by omega)
section
variable {a b c d : Int} (ha : -1048576 ≤ a ∧ a ≤ 1048576 := by first | assumption | omega) (hb : -1048576 ≤ b ∧ b ≤ 1048576 := by first | assumption | omega) (hc : -1048576 ≤ c ∧ c ≤ 1048576 := by first | assumption | omega) (hd : -1048576 ≤ d ∧ d ≤ 1048576 := by first | assumption | omega)
include ha hb hc hd
theorem fR : QL (gD a b c d) 3 := ql_R00 ha hb hc hd
theorem fM : QL (gE a b c d) 3 := ql_R01 ha hb hc hd
theorem fJ : QL (zJ a b c d) 3 := ql_R02 ha hb hc hd
theorem fP : QL (gL a b c d) 3 := ql_R10 ha hb hc hd
theorem fL : QL (gK a b c d) 3 := ql_R11 ha hb hc hd
theorem fA : QL (zY a b c d) 3 := ql_R12 ha hb hc hd
theorem fK : QL (gP a b c d) 3 := ql_R20 ha hb hc hd
theorem fN : QL (gO a b c d) 3 := ql_R21 ha hb hc hd
theorem fH : QL (yB a b c d) 3 := ql_R22 ha hb hc hd
theorem kQ00 : QL (Q00 a b c d) 3 := ql_Q00 ha hb hc hd
theorem kQ01 : QL (Q01 a b c d) 3 := ql_Q01 ha hb hc hd
theorem kQ02 : QL (Q02 a b c d) 3 := ql_Q02 ha hb hc hd
theorem kQ10 : QL (Q10 a b c d) 3 := ql_Q10 ha hb hc hd
theorem kQ11 : QL (Q11 a b c d) 3 := ql_Q11 ha hb hc hd
theorem kQ12 : QL (Q12 a b c d) 3 := ql_Q12 ha hb hc hd
theorem kQ20 : QL (Q20 a b c d) 3 := ql_Q20 ha hb hc hd
theorem kQ21 : QL (Q21 a b c d) 3 := ql_Q21 ha hb hc hd
theorem kQ22 : QL (Q22 a b c d) 3 := ql_Q22 ha hb hc hd
theorem kN4 : QL (N4 a b c d) 3 := ql_N4 ha hb hc hd
end
end Go.Fid
namespace Go.Proofs.YtbecgnplakngdaaGreat
open Go.Fid
set_option maxRecDepth 4000
set_option linter.unusedVariables false
set_option linter.unusedSimpArgs false
theorem cb77 : callB Tryz.prog 77 = true := by kernel_rfl
theorem cb126 : callB Tryz.prog 126 = true := by kernel_rfl
theorem cb169 : callB Tryz.prog 169 = true := by kernel_rfl
theorem cb172 : callB Tryz.prog 172 = true := by kernel_rfl
theorem q_norm (a b c d : Int) (ha : -1048576 ≤ a ∧ a ≤ 1048576) (hb : -1048576 ≤ b ∧ b ≤ 1048576) (hc : -1048576 ≤ c ∧ c ≤ 1048576) (hd : -1048576 ≤ d ∧ d ≤ 1048576) : kF Tryz.prog 126 [(uI (jN.mk a b c d))] (.val (.int .i64 ((nq a b c d)))) := by
 have saa := vJ ha ha
 have sab := vJ ha hb
 have sac := vJ ha hc
 have sad := vJ ha hd
 have sbb := vJ hb hb
 have sbc := vJ hb hc
 have sbd := vJ hb hd
 have scc := vJ hc hc
 have scd := vJ hc hd
 have sdd := vJ hd hd
 refine jL Tryz.func126 rfl cb126 rfl ?_
 show uK _ _ _ _ ⟨[(0, (.d (uI (jN.mk a b c d))))], []⟩
 refine jA <| kx [(1, (.ref 0 0))] [(0, some (bx (uI (jN.mk a b c d))))] (zN (uX 0) <| zM <| zZ) ?_
 refine jA <| kx [(2, (vi ((((a * a) + (b * b)) + (c * c)) + (d * d))))] [] (zE (kU dH) <| zR (uM vW) <| zE (kU dH) <| zR (uM vW) <| zE (nI (a * a) (hr := by exact (qV rfl (by simp only [xM]; omega) (by simp only [xN]; omega)))) <| zE (kU dI) <| zR (uM vW) <| zE (kU dI) <| zR (uM vW) <| zE (nI (b * b) (hr := by exact (qV rfl (by simp only [xM]; omega) (by simp only [xN]; omega)))) <| zE (zAd ((a * a) + (b * b)) (hr := by exact (qV rfl (by simp only [xM]; omega) (by simp only [xN]; omega)))) <| zE (kU dF) <| zR (uM vW) <| zE (kU dF) <| zR (uM vW) <| zE (nI (c * c) (hr := by exact (qV rfl (by simp only [xM]; omega) (by simp only [xN]; omega)))) <| zE (zAd (((a * a) + (b * b)) + (c * c)) (hr := by exact (qV rfl (by simp only [xM]; omega) (by simp only [xN]; omega)))) <| zE (kU dC) <| zR (uM vW) <| zE (kU dC) <| zR (uM vW) <| zE (nI (d * d) (hr := by exact (qV rfl (by simp only [xM]; omega) (by simp only [xN]; omega)))) <| zE (zAd ((((a * a) + (b * b)) + (c * c)) + (d * d)) (hr := by exact (qV rfl (by simp only [xM]; omega) (by simp only [xN]; omega)))) <| zM <| zZ) ?_
 refine jG ⟨_, (.tmp (d := (.val (.int .i64 (((((a * a) + (b * b)) + (c * c)) + (d * d)))))) rfl .nil), ?_⟩
 rfl
theorem fD (a b c d : Int) (ha : -1048576 ≤ a ∧ a ≤ 1048576) (hb : -1048576 ≤ b ∧ b ≤ 1048576) (hc : -1048576 ≤ c ∧ c ≤ 1048576) (hd : -1048576 ≤ d ∧ d ≤ 1048576) : kF Tryz.prog 169 [(uI (jN.mk a b c d))] (.val (.int .i64 ((nq a b c d)))) := by
 have saa := vJ ha ha
 have sab := vJ ha hb
 have sac := vJ ha hc
 have sad := vJ ha hd
 have sbb := vJ hb hb
 have sbc := vJ hb hc
 have sbd := vJ hb hd
 have scc := vJ hc hc
 have scd := vJ hc hd
 have sdd := vJ hd hd
 refine jL Tryz.func169 rfl cb169 rfl ?_
 show uK _ _ _ _ ⟨[(0, (.d (uI (jN.mk a b c d))))], []⟩
 refine jA <| kx [(1, (.ref 0 0))] [(0, some (bx (uI (jN.mk a b c d))))] (zN (uX 0) <| zM <| zZ) ?_
 refine jA <| kx [(2, (vi ((((a * a) + (b * b)) + (c * c)) + (d * d))))] [] (zE (kU dH) <| zR (uM vW) <| zE (kU dH) <| zR (uM vW) <| zE (nI (a * a) (hr := by exact (qV rfl (by simp only [xM]; omega) (by simp only [xN]; omega)))) <| zE (kU dI) <| zR (uM vW) <| zE (kU dI) <| zR (uM vW) <| zE (nI (b * b) (hr := by exact (qV rfl (by simp only [xM]; omega) (by simp only [xN]; omega)))) <| zE (zAd ((a * a) + (b * b)) (hr := by exact (qV rfl (by simp only [xM]; omega) (by simp only [xN]; omega)))) <| zE (kU dF) <| zR (uM vW) <| zE (kU dF) <| zR (uM vW) <| zE (nI (c * c) (hr := by exact (qV rfl (by simp only [xM]; omega) (by simp only [xN]; omega)))) <| zE (zAd (((a * a) + (b * b)) + (c * c)) (hr := by exact (qV rfl (by simp only [xM]; omega) (by simp only [xN]; omega)))) <| zE (kU dC) <| zR (uM vW) <| zE (kU dC) <| zR (uM vW) <| zE (nI (d * d) (hr := by exact (qV rfl (by simp only [xM]; omega) (by simp only [xN]; omega)))) <| zE (zAd ((((a * a) + (b * b)) + (c * c)) + (d * d)) (hr := by exact (qV rfl (by simp only [xM]; omega) (by simp only [xN]; omega)))) <| zM <| zZ) ?_
 refine jG ⟨_, (.tmp (d := (.val (.int .i64 (((((a * a) + (b * b)) + (c * c)) + (d * d)))))) rfl .nil), ?_⟩
 rfl
theorem fG (a b c d : Int) (ha : -1048576 ≤ a ∧ a ≤ 1048576) (hb : -1048576 ≤ b ∧ b ≤ 1048576) (hc : -1048576 ≤ c ∧ c ≤ 1048576) (hd : -1048576 ≤ d ∧ d ≤ 1048576) : kF Tryz.prog 172 [(uI (jN.mk a b c d))] (.val (.int .i64 ((nq a b c d)))) := by
 have saa := vJ ha ha
 have sab := vJ ha hb
 have sac := vJ ha hc
 have sad := vJ ha hd
 have sbb := vJ hb hb
 have sbc := vJ hb hc
 have sbd := vJ hb hd
 have scc := vJ hc hc
 have scd := vJ hc hd
 have sdd := vJ hd hd
 refine jL Tryz.func172 rfl cb172 rfl ?_
 show uK _ _ _ _ ⟨[(0, (.d (uI (jN.mk a b c d))))], []⟩
 refine jA <| kx [(1, (.ref 0 0))] [(0, some (bx (uI (jN.mk a b c d))))] (zN (uX 0) <| zM <| zZ) ?_
 refine jA <| kx [(2, (vi ((((a * a) + (b * b)) + (c * c)) + (d * d))))] [] (zE (kU dH) <| zR (uM vW) <| zE (kU dH) <| zR (uM vW) <| zE (nI (a * a) (hr := by exact (qV rfl (by simp only [xM]; omega) (by simp only [xN]; omega)))) <| zE (kU dI) <| zR (uM vW) <| zE (kU dI) <| zR (uM vW) <| zE (nI (b * b) (hr := by exact (qV rfl (by simp only [xM]; omega) (by simp only [xN]; omega)))) <| zE (zAd ((a * a) + (b * b)) (hr := by exact (qV rfl (by simp only [xM]; omega) (by simp only [xN]; omega)))) <| zE (kU dF) <| zR (uM vW) <| zE (kU dF) <| zR (uM vW) <| zE (nI (c * c) (hr := by exact (qV rfl (by simp only [xM]; omega) (by simp only [xN]; omega)))) <| zE (zAd (((a * a) + (b * b)) + (c * c)) (hr := by exact (qV rfl (by simp only [xM]; omega) (by simp only [xN]; omega)))) <| zE (kU dC) <| zR (uM vW) <| zE (kU dC) <| zR (uM vW) <| zE (nI (d * d) (hr := by exact (qV rfl (by simp only [xM]; omega) (by simp only [xN]; omega)))) <| zE (zAd ((((a * a) + (b * b)) + (c * c)) + (d * d)) (hr := by exact (qV rfl (by simp only [xM]; omega) (by simp only [xN]; omega)))) <| zM <| zZ) ?_
 refine jG ⟨_, (.tmp (d := (.val (.int .i64 (((((a * a) + (b * b)) + (c * c)) + (d * d)))))) rfl .nil), ?_⟩
 rfl
theorem lA (a b c d : Int) (ha : -1048576 ≤ a ∧ a ≤ 1048576) (hb : -1048576 ≤ b ∧ b ≤ 1048576) (hc : -1048576 ≤ c ∧ c ≤ 1048576) (hd : -1048576 ≤ d ∧ d ≤ 1048576) : kF Tryz.prog 77 [(uI (jN.mk a b c d))] (jO (jC (N4 a b c d))) := by
 have saa := vJ ha ha
 have sab := vJ ha hb
 have sac := vJ ha hc
 have sad := vJ ha hd
 have sbb := vJ hb hb
 have sbc := vJ hb hc
 have sbd := vJ hb hd
 have scc := vJ hc hc
 have scd := vJ hc hd
 have sdd := vJ hd hd
 refine jL Tryz.func77 rfl cb77 rfl ?_
 show uK _ _ _ _ ⟨[(0, (.d (uI (jN.mk a b c d))))], []⟩
 refine jA <| kx [(1, (.ref 0 0)), (2, (.ref 1 0))] [(0, some (bx (uI (jN.mk a b c d)))), (1, some (bx (jO (kG.mk (jF.mk false []) (jF.mk false [])))))] (zN (uX 0) <| zN (qI 1 qM qR) <| zZ) ?_
 refine jA <| kx [] [(1, some (bx (jO (jC (((((a * a) + (b * b)) + (c * c)) + (d * d) : Int) : Rat)))))] (zE (kU dH) <| zR (uM vW) <| zE (kU dH) <| zR (uM vW) <| zE (nI (a * a) (hr := by exact (qV rfl (by simp only [xM]; omega) (by simp only [xN]; omega)))) <| zE (kU dI) <| zR (uM vW) <| zE (kU dI) <| zR (uM vW) <| zE (nI (b * b) (hr := by exact (qV rfl (by simp only [xM]; omega) (by simp only [xN]; omega)))) <| zE (zAd ((a * a) + (b * b)) (hr := by exact (qV rfl (by simp only [xM]; omega) (by simp only [xN]; omega)))) <| zE (kU dF) <| zR (uM vW) <| zE (kU dF) <| zR (uM vW) <| zE (nI (c * c) (hr := by exact (qV rfl (by simp only [xM]; omega) (by simp only [xN]; omega)))) <| zE (zAd (((a * a) + (b * b)) + (c * c)) (hr := by exact (qV rfl (by simp only [xM]; omega) (by simp only [xN]; omega)))) <| zE (kU dC) <| zR (uM vW) <| zE (kU dC) <| zR (uM vW) <| zE (nI (d * d) (hr := by exact (qV rfl (by simp only [xM]; omega) (by simp only [xN]; omega)))) <| zE (zAd ((((a * a) + (b * b)) + (c * c)) + (d * d)) (hr := by exact (qV rfl (by simp only [xM]; omega) (by simp only [xN]; omega)))) <| zE (kC (mK ((((a * a) + (b * b)) + (c * c)) + (d * d)) (by omega) (by omega))) <| zT (kR jS) <| zZ) ?_
 refine jG ⟨_, (qB (cs := (bx (jO (jC (((((a * a) + (b * b)) + (c * c)) + (d * d) : Int) : Rat))))) (d := (jO (jC (((((a * a) + (b * b)) + (c * c)) + (d * d) : Int) : Rat)))) rfl rfl jS rfl rfl .nil), ?_⟩
 rfl
end Go.Proofs.YtbecgnplakngdaaGreat
namespace Go.Proofs.YtbecgnplakngdaaGreat
open Go.Fid
set_option maxRecDepth 4000
set_option linter.unusedVariables false
set_option linter.unusedSimpArgs false
theorem cb162 : callB Tryz.prog 162 = true := by kernel_rfl
theorem cb197 : callB Tryz.prog 197 = true := by kernel_rfl
theorem cb201 : callB Tryz.prog 201 = true := by kernel_rfl
theorem cb214 : callB Tryz.prog 214 = true := by kernel_rfl
theorem cb217 : callB Tryz.prog 217 = true := by kernel_rfl
theorem vP : vX Tryz.prog 193 = some (40, 2) := by kernel_rfl
theorem d_divisor (tau : Nat) (l : List jF) (zs : List Int) (hl : LOk 1000000 l zs) (hb : l.length ≤ 1000000) (hv : List.all l uF = true) : kF Tryz.prog 197 [(.sl tau 2 (List.map jH l))] (.tup [(jH (jK (nF zs))), (.val (.bool ((vK zs != 0))))]) := by
 have vD := hl.len
 refine jL Tryz.func197 rfl cb197 rfl ?_
 show uK _ _ _ _ ⟨[(0, (vl tau 2 jH l))], []⟩
 refine jA <| kx [(2, (.ref 0 0))] [(0, some (bx (jH (jF.mk false []))))] (zN (qI 0 uD uE) <| zM <| zZ) ?_
 refine jA <| kx [(4, (.ref 1 0))] [(1, some (bx (jH (jK 0))))] (zE (kC (t_of 0 (by decide) (by decide))) <| zN (qI 1 uD uE) <| zT (kR jI) <| zZ) ?_
 refine jA <| kx [(5, (kE 0))] [] (zM <| zZ) ?_
 refine jA <| jA <| kx [(9, (vl tau 2 jH l)), (10, (kE l.length)), (11, (kE 0))] [] (zM <| zE (nC vP) <| zM <| zZ) ?_
 refine jE <| uB (α := Nat × Nat × Int) (fun (i, g, s) => ⟨[(2, (.ref 0 0)), (4, (.ref 1 0)), (5, (vi s)), (9, (vl tau 2 jH l)), (10, (kE l.length)), (11, (kE i))], [(0, some (bx (jH (jF.mk false [])))), (1, some (bx (jH (jK ((g : Nat) : Int)))))]⟩) (fun (i, g, s) => i ≤ l.length ∧ g = gcdL (zs.take i) ∧ s = vK (zs.take i)) (fun (i, g, s) => l.length - i) (0, 0, 0) wk ⟨Nat.zero_le _, rfl, rfl⟩ ?_
 rintro ⟨i, g, s⟩ ⟨hi, hgv, hsv⟩
 have hg : kZ (jK ((g : Nat) : Int)) ((g : Nat) : Int) 1000000 := by rw [hgv]; exact iJ hl.all i
 refine jA <| kx [(12, (vb (decide (((i : Nat) : Int) < ((l.length : Nat) : Int)))))] [] (zE qS <| zZ) ?_
 refine jA <| jQ rfl (fun h1 => ?_) (fun h1 => ?_)
 ·replace h1 := of_decide_eq_true h1
  refine jD <| jA <| jE <| jA <| kx [(7, (.ref 2 0))] [(2, some (bx (jH (l.getD i (jF.mk false [])))))] (zE (eK vP i (jF.mk false [])) <| zE (gY jI) <| zN (qI 2 uD uE) <| zT (kR jI) <| zZ) ?_
  refine jA <| jA <| kx [(17, (vb false))] [] (zR (kA jI) <| zE (qY true (kC (t_valid (l.getD i (jF.mk false [])) (Nat.le_trans (hl.get i).l (by decide)))) (by exact (all_getD hv (by omega)))) <| zE eX <| zZ) ?_
  refine kO ?_
  refine jD <| jA <| kx [] [(1, some (bx (jH (jK ((Int.gcd ((g : Nat) : Int) (zs.getD i 0) : Nat) : Int)))))] (zR (kA jI) <| zR (kA jI) <| zE (kC (s_gcd hg (hl.get i) (by decide) (by decide))) <| zT (kR jI) <| zZ) ?_
  refine jA <| kx [(23, (vb (s == 0)))] [] (zM <| zE aL <| zZ) ?_
  refine jQ (b := (s == 0)) rfl (fun h2 => ?_) (fun h2 => ?_)
  ·replace h2 := eq_of_beq h2
   refine kx [(5, (vi (qX (zs.getD i 0))))] [] (zR (kA jI) <| zE (kC (s_sign (hl.get i) (by decide))) <| zM <| zZ) ?_
   refine kx [(11, (kE (i + 1)))] [] (zE (qQ (i + 1)) <| zM <| zZ) ?_
   exact ⟨(i + 1, Int.gcd ((g : Nat) : Int) (zs.getD i 0), qX (zs.getD i 0)), wk, ⟨by omega, by rw [hgv]; exact (fW (by omega)).symm, sgnL_step0 (by omega) hsv h2⟩, (by first | omega | (dsimp only; omega))⟩
  ·replace h2 := ne_of_beq_false h2
   refine jD <| kx [(11, (kE (i + 1)))] [] (zE (qQ (i + 1)) <| zM <| zZ) ?_
   exact ⟨(i + 1, Int.gcd ((g : Nat) : Int) (zs.getD i 0), s), wk, ⟨by omega, by rw [hgv]; exact (fW (by omega)).symm, sgnL_step1 (by omega) hsv h2⟩, (by first | omega | (dsimp only; omega))⟩
 ·replace h1 := of_decide_eq_false h1
  have hie : i = l.length := by omega
  rw [hie, vD, List.take_length] at hgv hsv
  refine kQ <| jA <| jA <| kx [(28, (vb (decide (s < 0))))] [] (zM <| zE qS <| zZ) ?_
  refine jQ (b := decide (s < 0)) rfl (fun h3 => ?_) (fun h3 => ?_)
  ·replace h3 := of_decide_eq_true h3
   refine kx [] [(1, some (bx (jH (jK (-((g : Nat) : Int))))))] (zR (kA jI) <| zE (kC (s_neg hg (by decide))) <| zT (kR jI) <| zZ) ?_
   refine jA <| kx [(3, (vb (s != 0)))] [(0, some (bx (jH (jK (-((g : Nat) : Int))))))] (zR (kA jI) <| zM <| zE mR <| zT (kR jI) <| zM <| zZ) ?_
   refine jG ⟨_, (qB (cs := (bx (jH (jK (-((g : Nat) : Int)))))) (d := (jH (jK (-((g : Nat) : Int))))) rfl rfl jI rfl rfl (.tmp (d := (.val (.bool ((s != 0))))) rfl .nil)), ?_⟩
   rw [dv_neg hsv hgv h3, ← hsv]; rfl
  ·replace h3 := of_decide_eq_false h3
   refine jD <| jA <| kx [(3, (vb (s != 0)))] [(0, some (bx (jH (jK ((g : Nat) : Int)))))] (zR (kA jI) <| zM <| zE mR <| zT (kR jI) <| zM <| zZ) ?_
   refine jG ⟨_, (qB (cs := (bx (jH (jK ((g : Nat) : Int))))) (d := (jH (jK ((g : Nat) : Int)))) rfl rfl jI rfl rfl (.tmp (d := (.val (.bool ((s != 0))))) rfl .nil)), ?_⟩
   rw [dv_pos hsv hgv h3, ← hsv]; rfl
theorem d_sum (tau : Nat) (l : List jF) (zs : List Int) (hl : LOk 4000000000 l zs) (hb : l.length ≤ 1000) : kF Tryz.prog 214 [(.sl tau 2 (List.map jH l))] (jH (jK (sumL zs))) := by
 have vD := hl.len
 refine jL Tryz.func214 rfl cb214 rfl ?_
 show uK _ _ _ _ ⟨[(0, (vl tau 2 jH l))], []⟩
 refine jA <| kx [(2, (.ref 0 0))] [(0, some (bx (jH (jF.mk false []))))] (zN (qI 0 uD uE) <| zZ) ?_
 refine jA <| kx [(3, (.ref 1 0))] [(1, some (bx (jH (jK 0))))] (zE (kC (t_of 0 (by decide) (by decide))) <| zN (qI 1 uD uE) <| zT (kR jI) <| zZ) ?_
 refine jA <| jA <| kx [(7, (vl tau 2 jH l)), (8, (kE l.length)), (9, (kE 0))] [] (zM <| zE (nC vP) <| zM <| zZ) ?_
 refine jE <| uB (α := Nat × Int) (fun (i, s) => ⟨[(2, (.ref 0 0)), (3, (.ref 1 0)), (7, (vl tau 2 jH l)), (8, (kE l.length)), (9, (kE i))], [(0, some (bx (jH (jF.mk false [])))), (1, some (bx (jH (jK s))))]⟩) (fun (i, s) => i ≤ l.length ∧ s = sumL (zs.take i)) (fun (i, s) => l.length - i) (0, 0) wk ⟨Nat.zero_le _, rfl⟩ ?_
 rintro ⟨i, s⟩ ⟨hi, hsv⟩
 have hg : kZ (jK s) s 5000000000 := by rw [hsv]; exact qJ (nJ (sumL_len hl.all (by omega))) (by decide)
 refine jA <| kx [(10, (vb (decide (((i : Nat) : Int) < ((l.length : Nat) : Int)))))] [] (zE qS <| zZ) ?_
 refine jA <| jQ rfl (fun h1 => ?_) (fun h1 => ?_)
 ·replace h1 := of_decide_eq_true h1
  refine jD <| jA <| jE <| jA <| kx [(5, (.ref 2 0))] [(2, some (bx (jH (l.getD i (jF.mk false [])))))] (zE (eK vP i (jF.mk false [])) <| zE (gY jI) <| zN (qI 2 uD uE) <| zT (kR jI) <| zZ) ?_
  refine kx [] [(1, some (bx (jH (jK (s + (zs.getD i 0))))))] (zR (kA jI) <| zR (kA jI) <| zE (kC (s_add hg (hl.get i) (by decide) (by decide))) <| zT (kR jI) <| zZ) ?_
  refine kx [(9, (kE (i + 1)))] [] (zE (qQ (i + 1)) <| zM <| zZ) ?_
  exact ⟨(i + 1, (s + (zs.getD i 0))), wk, ⟨by omega, by rw [hsv]; exact (sumL_step (by omega)).symm⟩, (by first | omega | (dsimp only; omega))⟩
 ·replace h1 := of_decide_eq_false h1
  have hie : i = l.length := by omega
  rw [hie, vD, List.take_length] at hsv
  refine kQ <| jA <| kx [] [(0, some (bx (jH (jK s))))] (zR (kA jI) <| zT (kR jI) <| zZ) ?_
  refine jG ⟨_, (qB (cs := (bx (jH (jK s)))) (d := (jH (jK s))) rfl rfl jI rfl rfl .nil), ?_⟩
  rw [hsv]; rfl
theorem l_plus (x : jF) (a : Int) (hx : kZ x a 4000000000) (y : jF) (b : Int) (hy : kZ y b 4000000000) : kF Tryz.prog 201 [(jH x), (jH y)] (jH (jK (a + b))) := by
 refine jL Tryz.func201 rfl cb201 rfl ?_
 show uK _ _ _ _ ⟨[(0, (.d (jH x))), (1, (.d (jH y)))], []⟩
 refine jA <| kx [(2, (.ref 0 0)), (3, (.ref 1 0)), (4, (.ref 2 0))] [(0, some (bx (jH x))), (1, some (bx (jH y))), (2, some (bx (jH (jF.mk false []))))] (zN (uX 0) <| zN (uX 1) <| zN (qI 2 uD uE) <| zZ) ?_
 refine jA <| kx [] [(2, some (bx (jH (jK (a + b)))))] (zR (kA jI) <| zR (kA jI) <| zE (kC (rs_add hx hy (by decide) (by decide))) <| zT (kR jI) <| zZ) ?_
 refine jG ⟨_, (qB (cs := (bx (jH (jK (a + b))))) (d := (jH (jK (a + b)))) rfl rfl jI rfl rfl .nil), ?_⟩
 rfl
theorem l_minus (x : jF) (a : Int) (hx : kZ x a 4000000000) (y : jF) (b : Int) (hy : kZ y b 4000000000) : kF Tryz.prog 217 [(jH x), (jH y)] (jH (jK (a - b))) := by
 refine jL Tryz.func217 rfl cb217 rfl ?_
 show uK _ _ _ _ ⟨[(0, (.d (jH x))), (1, (.d (jH y)))], []⟩
 refine jA <| kx [(2, (.ref 0 0)), (3, (.ref 1 0)), (4, (.ref 2 0))] [(0, some (bx (jH x))), (1, some (bx (jH y))), (2, some (bx (jH (jF.mk false []))))] (zN (uX 0) <| zN (uX 1) <| zN (qI 2 uD uE) <| zZ) ?_
 refine jA <| kx [] [(2, some (bx (jH (jK (a - b)))))] (zR (kA jI) <| zR (kA jI) <| zE (kC (rs_sub hx hy (by decide) (by decide))) <| zT (kR jI) <| zZ) ?_
 refine jG ⟨_, (qB (cs := (bx (jH (jK (a - b))))) (d := (jH (jK (a - b)))) rfl rfl jI rfl rfl .nil), ?_⟩
 rfl
theorem mV (x : jF) (a : Int) (hx : kZ x a 4000000000) (y : jF) (b : Int) (hy : kZ y b 4000000000) : kF Tryz.prog 162 [(jH x), (jH y)] (jH (jK (a * b))) := by
 refine jL Tryz.func162 rfl cb162 rfl ?_
 show uK _ _ _ _ ⟨[(0, (.d (jH x))), (1, (.d (jH y)))], []⟩
 refine jA <| kx [(2, (.ref 0 0)), (3, (.ref 1 0)), (4, (.ref 2 0))] [(0, some (bx (jH x))), (1, some (bx (jH y))), (2, some (bx (jH (jF.mk false []))))] (zN (uX 0) <| zN (uX 1) <| zN (qI 2 uD uE) <| zZ) ?_
 refine jA <| kx [] [(2, some (bx (jH (jK (a * b)))))] (zR (kA jI) <| zR (kA jI) <| zE (kC (rs_mul hx hy (by decide) (by decide))) <| zT (kR jI) <| zZ) ?_
 refine jG ⟨_, (qB (cs := (bx (jH (jK (a * b))))) (d := (jH (jK (a * b)))) rfl rfl jI rfl rfl .nil), ?_⟩
 rfl
end Go.Proofs.YtbecgnplakngdaaGreat
namespace Go.Proofs.YtbecgnplakngdaaGreat
open Go.Fid
set_option maxRecDepth 4000
set_option linter.unusedVariables false
set_option linter.unusedSimpArgs false
theorem yW : dA Tryz.prog 98 = some (9, 40, 2) := by kernel_rfl
theorem vQ : dA Tryz.prog 168 = some (3, 40, 2) := by kernel_rfl
theorem cb153 : callB Tryz.prog 153 = true := by kernel_rfl
theorem cb159 : callB Tryz.prog 159 = true := by kernel_rfl
theorem cb161 : callB Tryz.prog 161 = true := by kernel_rfl
theorem cb195 : callB Tryz.prog 195 = true := by kernel_rfl
theorem cb196 : callB Tryz.prog 196 = true := by kernel_rfl
theorem cb200 : callB Tryz.prog 200 = true := by kernel_rfl
theorem yD : uG Tryz.prog 168 = some (true, 6) := by kernel_rfl
theorem nS : xH Tryz.prog 168 = some [.bool false, .slice none 0 0, .bool false, .slice none 0 0, .bool false, .slice none 0 0] := by kernel_rfl
theorem nV : mP [.bool false, .slice none 0 0, .bool false, .slice none 0 0, .bool false, .slice none 0 0] [.val (.bool false), .sl 152 1 [], .val (.bool false), .sl 152 1 [], .val (.bool false), .sl 152 1 []] := by simp [mP, Value.oneCell']
theorem d_cross (p : A3 jF) (p0 p1 p2 : Int) (hp0 : kZ p.a0 p0 1000000000) (hp1 : kZ p.a1 p1 1000000000) (hp2 : kZ p.a2 p2 1000000000) (q : A3 jF) (q0 q1 q2 : Int) (hq0 : kZ q.a0 q0 1000000000) (hq1 : kZ q.a1 q1 1000000000) (hq2 : kZ q.a2 q2 1000000000) : kF Tryz.prog 196 [(kS p), (kS q)] (kS (A3.mk (jK ((p1 * q2) - (p2 * q1))) (jK ((p2 * q0) - (p0 * q2))) (jK ((p0 * q1) - (p1 * q0))))) := by
 refine jL Tryz.func196 rfl cb196 rfl ?_
 show uK _ _ _ _ ⟨[(0, (.d (kS p))), (1, (.d (kS q)))], []⟩
 refine jA <| kx [(2, (.ref 0 0)), (3, (.ref 1 0)), (4, (.ref 2 0))] [(0, some (bx (kS p))), (1, some (bx (kS q))), (2, some (bx (kS (A3.mk (jF.mk false []) (jF.mk false []) (jF.mk false [])))))] (zN (uX 0) <| zN (uX 1) <| zN (qI 2 nS nV) <| zZ) ?_
 refine jA <| kx [(5, (.ref 3 0))] [(3, some (bx (kS (A3.mk (jF.mk false []) (jF.mk false []) (jF.mk false [])))))] (zN (qI 3 nS nV) <| zZ) ?_
 refine jA <| jA <| kx [(9, (kE 0))] [] (zM <| zZ) ?_
 refine jE <| qE 20 ?_
 refine qK <| jA <| kx [(10, (vb true))] [] (zE (qY true qS) <| zZ) ?_
 refine jA <| kD ?_
 refine jD <| jA <| jE <| jA <| kx [(6, (kE 0))] [] (zM <| zM <| zZ) ?_
 refine jA <| kx [(7, (kE 1)), (8, (kE 2))] [] (zM <| zE (qQ 1 (hr := by decide)) <| zE (aI 1 (hr := by decide)) <| zM <| zE (qQ 2 (hr := by decide)) <| zE (aI 2 (hr := by decide)) <| zM <| zM <| zZ) ?_
 refine kd [] [(3, some (bx (kS (A3.mk (jK ((p1 * q2) - (p2 * q1))) (jF.mk false []) (jF.mk false [])))))] mo (wM <| wM <| wE (uJ vQ 1) <| wR (kA jI) <| wM <| wE (uJ vQ 2) <| wR (kA jI) <| wE (kC (yP hp1 hq2 (by decide) (by decide))) <| wM <| wE (uJ vQ 2) <| wR (kA jI) <| wM <| wE (uJ vQ 1) <| wR (kA jI) <| wE (kC (yP hp2 hq1 (by decide) (by decide))) <| wE (kC (s_sub (jP (k := 2000000000) hp1 hq2 (by decide)) (jP (k := 2000000000) hp2 hq1 (by decide)) (by decide) (by decide))) <| wE (uJ vQ 0) <| wT (kR jI) <| wZ) ?_
 refine kx [(9, (kE 1))] [] (zE (qQ 1 (hr := by decide)) <| zM <| zZ) ?_
 refine jJ (jZ.refl _) ?_
 refine jA <| kx [(10, (vb true))] [] (zE (qY true qS) <| zZ) ?_
 refine jA <| kD ?_
 refine jD <| jA <| jE <| jA <| kx [(6, (kE 1))] [] (zM <| zM <| zZ) ?_
 refine jA <| kx [(7, (kE 2)), (8, (kE 0))] [] (zM <| zE (qQ 2 (hr := by decide)) <| zE (aI 2 (hr := by decide)) <| zM <| zE (qQ 3 (hr := by decide)) <| zE (aI 0 (hr := by decide)) <| zM <| zM <| zZ) ?_
 refine kd [] [(3, some (bx (kS (A3.mk (jK ((p1 * q2) - (p2 * q1))) (jK ((p2 * q0) - (p0 * q2))) (jF.mk false [])))))] mo (wM <| wM <| wE (uJ vQ 2) <| wR (kA jI) <| wM <| wE (uJ vQ 0) <| wR (kA jI) <| wE (kC (yP hp2 hq0 (by decide) (by decide))) <| wM <| wE (uJ vQ 0) <| wR (kA jI) <| wM <| wE (uJ vQ 2) <| wR (kA jI) <| wE (kC (yP hp0 hq2 (by decide) (by decide))) <| wE (kC (s_sub (jP (k := 2000000000) hp2 hq0 (by decide)) (jP (k := 2000000000) hp0 hq2 (by decide)) (by decide) (by decide))) <| wE (uJ vQ 1) <| wT (kR jI) <| wZ) ?_
 refine kx [(9, (kE 2))] [] (zE (qQ 2 (hr := by decide)) <| zM <| zZ) ?_
 refine jJ (jZ.refl _) ?_
 refine jA <| kx [(10, (vb true))] [] (zE (qY true qS) <| zZ) ?_
 refine jA <| kD ?_
 refine jD <| jA <| jE <| jA <| kX (wk (l := [(2, (.ref 0 0)), (3, (.ref 1 0)), (4, (.ref 2 0)), (5, (.ref 3 0)), (9, (kE 2)), (10, (vb true))]) (b := [(0, some (bx (kS p))), (1, some (bx (kS q))), (2, some (bx (kS (A3.mk (jF.mk false []) (jF.mk false []) (jF.mk false []))))), (3, some (bx (kS (A3.mk (jK ((p1 * q2) - (p2 * q1))) (jK ((p2 * q0) - (p0 * q2))) (jF.mk false [])))))])) ?_
 refine kx [(6, (kE 2))] [] (zM <| zM <| zZ) ?_
 refine jA <| kx [(7, (kE 0)), (8, (kE 1))] [] (zM <| zE (qQ 3 (hr := by decide)) <| zE (aI 0 (hr := by decide)) <| zM <| zE (qQ 4 (hr := by decide)) <| zE (aI 1 (hr := by decide)) <| zM <| zM <| zZ) ?_
 refine kd [] [(3, some (bx (kS (A3.mk (jK ((p1 * q2) - (p2 * q1))) (jK ((p2 * q0) - (p0 * q2))) (jK ((p0 * q1) - (p1 * q0)))))))] mo (wM <| wM <| wE (uJ vQ 0) <| wR (kA jI) <| wM <| wE (uJ vQ 1) <| wR (kA jI) <| wE (kC (yP hp0 hq1 (by decide) (by decide))) <| wM <| wE (uJ vQ 1) <| wR (kA jI) <| wM <| wE (uJ vQ 0) <| wR (kA jI) <| wE (kC (yP hp1 hq0 (by decide) (by decide))) <| wE (kC (s_sub (jP (k := 2000000000) hp0 hq1 (by decide)) (jP (k := 2000000000) hp1 hq0 (by decide)) (by decide) (by decide))) <| wE (uJ vQ 2) <| wT (kR jI) <| wZ) ?_
 refine kx [(9, (kE 3))] [] (zE (qQ 3 (hr := by decide)) <| zM <| zZ) ?_
 refine jJ (jZ.refl _) ?_
 refine jA <| kx [(10, (vb false))] [] (zE (qY false qS) <| zZ) ?_
 refine jA <| kO ?_
 refine kQ <| jA <| kx [] [(2, some (bx (kS (A3.mk (jK ((p1 * q2) - (p2 * q1))) (jK ((p2 * q0) - (p0 * q2))) (jK ((p0 * q1) - (p1 * q0)))))))] (zR (kA yD) <| zT (kR yD) <| zZ) ?_
 refine jG ⟨_, (qB (cs := (bx (kS (A3.mk (jK ((p1 * q2) - (p2 * q1))) (jK ((p2 * q0) - (p0 * q2))) (jK ((p0 * q1) - (p1 * q0))))))) (d := (kS (A3.mk (jK ((p1 * q2) - (p2 * q1))) (jK ((p2 * q0) - (p0 * q2))) (jK ((p0 * q1) - (p1 * q0)))))) rfl rfl yD rfl rfl .nil), ?_⟩
 rfl
theorem l_cross (p : A3 jF) (p0 p1 p2 : Int) (hp0 : kZ p.a0 p0 1000000000) (hp1 : kZ p.a1 p1 1000000000) (hp2 : kZ p.a2 p2 1000000000) (q : A3 jF) (q0 q1 q2 : Int) (hq0 : kZ q.a0 q0 1000000000) (hq1 : kZ q.a1 q1 1000000000) (hq2 : kZ q.a2 q2 1000000000) : kF Tryz.prog 200 [(kS p), (kS q)] (kS (A3.mk (jK ((p1 * q2) - (p2 * q1))) (jK ((p2 * q0) - (p0 * q2))) (jK ((p0 * q1) - (p1 * q0))))) := by
 refine jL Tryz.func200 rfl cb200 rfl ?_
 show uK _ _ _ _ ⟨[(0, (.d (kS p))), (1, (.d (kS q)))], []⟩
 refine jA <| kx [(2, (.ref 0 0)), (3, (.ref 1 0)), (4, (.ref 2 0))] [(0, some (bx (kS p))), (1, some (bx (kS q))), (2, some (bx (kS (A3.mk (jF.mk false []) (jF.mk false []) (jF.mk false [])))))] (zN (uX 0) <| zN (uX 1) <| zN (qI 2 nS nV) <| zZ) ?_
 refine jA <| kd [] [(2, some (bx (kS (A3.mk (jK ((p1 * q2) - (p2 * q1))) (jK ((p2 * q0) - (p0 * q2))) (jK ((p0 * q1) - (p1 * q0)))))))] mo (wE (uJ vQ 1) <| wR (kA jI) <| wE (uJ vQ 2) <| wR (kA jI) <| wE (kC (mV p.a1 p1 (iu hp1) q.a2 q2 (iu hq2))) <| wE (uJ vQ 2) <| wR (kA jI) <| wE (uJ vQ 1) <| wR (kA jI) <| wE (kC (mV p.a2 p2 (iu hp2) q.a1 q1 (iu hq1))) <| wE (kC (l_minus (jK (p1 * q2)) (p1 * q2) (qJ (jP (k := 2000000000) hp1 hq2 (by decide)) (by decide)) (jK (p2 * q1)) (p2 * q1) (qJ (jP (k := 2000000000) hp2 hq1 (by decide)) (by decide)))) <| wE (uJ vQ 2) <| wR (kA jI) <| wE (uJ vQ 0) <| wR (kA jI) <| wE (kC (mV p.a2 p2 (iu hp2) q.a0 q0 (iu hq0))) <| wE (uJ vQ 0) <| wR (kA jI) <| wE (uJ vQ 2) <| wR (kA jI) <| wE (kC (mV p.a0 p0 (iu hp0) q.a2 q2 (iu hq2))) <| wE (kC (l_minus (jK (p2 * q0)) (p2 * q0) (qJ (jP (k := 2000000000) hp2 hq0 (by decide)) (by decide)) (jK (p0 * q2)) (p0 * q2) (qJ (jP (k := 2000000000) hp0 hq2 (by decide)) (by decide)))) <| wE (uJ vQ 0) <| wR (kA jI) <| wE (uJ vQ 1) <| wR (kA jI) <| wE (kC (mV p.a0 p0 (iu hp0) q.a1 q1 (iu hq1))) <| wE (uJ vQ 1) <| wR (kA jI) <| wE (uJ vQ 0) <| wR (kA jI) <| wE (kC (mV p.a1 p1 (iu hp1) q.a0 q0 (iu hq0))) <| wE (kC (l_minus (jK (p0 * q1)) (p0 * q1) (qJ (jP (k := 2000000000) hp0 hq1 (by decide)) (by decide)) (jK (p1 * q0)) (p1 * q0) (qJ (jP (k := 2000000000) hp1 hq0 (by decide)) (by decide)))) <| wE (oBf vQ nS nV) <| wT (kR yD) <| wZ) ?_
 refine jG ⟨_, (qB (cs := (bx (kS (A3.mk (jK ((p1 * q2) - (p2 * q1))) (jK ((p2 * q0) - (p0 * q2))) (jK ((p0 * q1) - (p1 * q0))))))) (d := (kS (A3.mk (jK ((p1 * q2) - (p2 * q1))) (jK ((p2 * q0) - (p0 * q2))) (jK ((p0 * q1) - (p1 * q0)))))) rfl rfl yD rfl rfl .nil), ?_⟩
 rfl
theorem d_dot (p : A3 jF) (p0 p1 p2 : Int) (hp0 : kZ p.a0 p0 1000000000) (hp1 : kZ p.a1 p1 1000000000) (hp2 : kZ p.a2 p2 1000000000) (q : A3 jF) (q0 q1 q2 : Int) (hq0 : kZ q.a0 q0 1000000000) (hq1 : kZ q.a1 q1 1000000000) (hq2 : kZ q.a2 q2 1000000000) : kF Tryz.prog 195 [(kS p), (kS q)] (jH (jK (((p0 * q0) + (p1 * q1)) + (p2 * q2)))) := by
 refine jL Tryz.func195 rfl cb195 rfl ?_
 show uK _ _ _ _ ⟨[(0, (.d (kS p))), (1, (.d (kS q)))], []⟩
 refine jA <| kx [(2, (.ref 0 0)), (3, (.ref 1 0)), (4, (.ref 2 0))] [(0, some (bx (kS p))), (1, some (bx (kS q))), (2, some (bx (jH (jF.mk false []))))] (zN (uX 0) <| zN (uX 1) <| zN (qI 2 uD uE) <| zZ) ?_
 refine jA <| kd [] [(2, some (bx (jH (jK (((p0 * q0) + (p1 * q1)) + (p2 * q2))))))] mo (wE (uJ vQ 0) <| wR (kA jI) <| wE (uJ vQ 0) <| wR (kA jI) <| wE (kC (yP hp0 hq0 (by decide) (by decide))) <| wE (uJ vQ 1) <| wR (kA jI) <| wE (uJ vQ 1) <| wR (kA jI) <| wE (kC (yP hp1 hq1 (by decide) (by decide))) <| wE (uJ vQ 2) <| wR (kA jI) <| wE (uJ vQ 2) <| wR (kA jI) <| wE (kC (yP hp2 hq2 (by decide) (by decide))) <| wE (cX vP uD uE) <| wE (kC (by have h := d_sum 40 [(jK (p0 * q0)), (jK (p1 * q1)), (jK (p2 * q2))] [(p0 * q0), (p1 * q1), (p2 * q2)] (.cons (qJ (jP (k := 2000000000) hp0 hq0 (by decide)) (by decide)) (.cons (qJ (jP (k := 2000000000) hp1 hq1 (by decide)) (by decide)) (.cons (qJ (jP (k := 2000000000) hp2 hq2 (by decide)) (by decide)) .nil))) (by simp); rw [sumL3] at h; exact h)) <| wT (kR jI) <| wZ) ?_
 refine jG ⟨_, (qB (cs := (bx (jH (jK (((p0 * q0) + (p1 * q1)) + (p2 * q2)))))) (d := (jH (jK (((p0 * q0) + (p1 * q1)) + (p2 * q2))))) rfl rfl jI rfl rfl .nil), ?_⟩
 rfl
theorem d_row0 (h : A9 jF) (h0 h1 h2 h3 h4 h5 h6 h7 h8 : Int) (hh0 : kZ h.a0 h0 1000000000) (hh1 : kZ h.a1 h1 1000000000) (hh2 : kZ h.a2 h2 1000000000) (hh3 : kZ h.a3 h3 1000000000) (hh4 : kZ h.a4 h4 1000000000) (hh5 : kZ h.a5 h5 1000000000) (hh6 : kZ h.a6 h6 1000000000) (hh7 : kZ h.a7 h7 1000000000) (hh8 : kZ h.a8 h8 1000000000) : kF Tryz.prog 153 [(qL h), (.val (.int .i64 (((0 : Nat) : Int))))] (kS (A3.mk h.a0 h.a1 h.a2)) := by
 refine jL Tryz.func153 rfl cb153 rfl ?_
 show uK _ _ _ _ ⟨[(0, (.d (qL h))), (1, (kE 0))], []⟩
 refine jA <| kx [(2, (.ref 0 0)), (4, (.ref 1 0))] [(0, some (bx (qL h))), (1, some (bx (kS (A3.mk (jF.mk false []) (jF.mk false []) (jF.mk false [])))))] (zN (uX 0) <| zN (qI 1 nS nV) <| zZ) ?_
 refine jA <| kd [] [(1, some (bx (kS (A3.mk h.a0 h.a1 h.a2))))] mo (wM <| wE (oMl 0 (hr := by decide)) <| wE (uJ yW 0) <| wR (kA jI) <| wM <| wE (oMl 0 (hr := by decide)) <| wE (qQ 1 (hr := by decide)) <| wE (uJ yW 1) <| wR (kA jI) <| wM <| wE (oMl 0 (hr := by decide)) <| wE (qQ 2 (hr := by decide)) <| wE (uJ yW 2) <| wR (kA jI) <| wE (oBf vQ nS nV) <| wT (kR yD) <| wZ) ?_
 refine jG ⟨_, (qB (cs := (bx (kS (A3.mk h.a0 h.a1 h.a2)))) (d := (kS (A3.mk h.a0 h.a1 h.a2))) rfl rfl yD rfl rfl .nil), ?_⟩
 rfl
theorem d_row1 (h : A9 jF) (h0 h1 h2 h3 h4 h5 h6 h7 h8 : Int) (hh0 : kZ h.a0 h0 1000000000) (hh1 : kZ h.a1 h1 1000000000) (hh2 : kZ h.a2 h2 1000000000) (hh3 : kZ h.a3 h3 1000000000) (hh4 : kZ h.a4 h4 1000000000) (hh5 : kZ h.a5 h5 1000000000) (hh6 : kZ h.a6 h6 1000000000) (hh7 : kZ h.a7 h7 1000000000) (hh8 : kZ h.a8 h8 1000000000) : kF Tryz.prog 153 [(qL h), (.val (.int .i64 (((1 : Nat) : Int))))] (kS (A3.mk h.a3 h.a4 h.a5)) := by
 refine jL Tryz.func153 rfl cb153 rfl ?_
 show uK _ _ _ _ ⟨[(0, (.d (qL h))), (1, (kE 1))], []⟩
 refine jA <| kx [(2, (.ref 0 0)), (4, (.ref 1 0))] [(0, some (bx (qL h))), (1, some (bx (kS (A3.mk (jF.mk false []) (jF.mk false []) (jF.mk false [])))))] (zN (uX 0) <| zN (qI 1 nS nV) <| zZ) ?_
 refine jA <| kd [] [(1, some (bx (kS (A3.mk h.a3 h.a4 h.a5))))] mo (wM <| wE (oMl 3 (hr := by decide)) <| wE (uJ yW 3) <| wR (kA jI) <| wM <| wE (oMl 3 (hr := by decide)) <| wE (qQ 4 (hr := by decide)) <| wE (uJ yW 4) <| wR (kA jI) <| wM <| wE (oMl 3 (hr := by decide)) <| wE (qQ 5 (hr := by decide)) <| wE (uJ yW 5) <| wR (kA jI) <| wE (oBf vQ nS nV) <| wT (kR yD) <| wZ) ?_
 refine jG ⟨_, (qB (cs := (bx (kS (A3.mk h.a3 h.a4 h.a5)))) (d := (kS (A3.mk h.a3 h.a4 h.a5))) rfl rfl yD rfl rfl .nil), ?_⟩
 rfl
theorem d_row2 (h : A9 jF) (h0 h1 h2 h3 h4 h5 h6 h7 h8 : Int) (hh0 : kZ h.a0 h0 1000000000) (hh1 : kZ h.a1 h1 1000000000) (hh2 : kZ h.a2 h2 1000000000) (hh3 : kZ h.a3 h3 1000000000) (hh4 : kZ h.a4 h4 1000000000) (hh5 : kZ h.a5 h5 1000000000) (hh6 : kZ h.a6 h6 1000000000) (hh7 : kZ h.a7 h7 1000000000) (hh8 : kZ h.a8 h8 1000000000) : kF Tryz.prog 153 [(qL h), (.val (.int .i64 (((2 : Nat) : Int))))] (kS (A3.mk h.a6 h.a7 h.a8)) := by
 refine jL Tryz.func153 rfl cb153 rfl ?_
 show uK _ _ _ _ ⟨[(0, (.d (qL h))), (1, (kE 2))], []⟩
 refine jA <| kx [(2, (.ref 0 0)), (4, (.ref 1 0))] [(0, some (bx (qL h))), (1, some (bx (kS (A3.mk (jF.mk false []) (jF.mk false []) (jF.mk false [])))))] (zN (uX 0) <| zN (qI 1 nS nV) <| zZ) ?_
 refine jA <| kd [] [(1, some (bx (kS (A3.mk h.a6 h.a7 h.a8))))] mo (wM <| wE (oMl 6 (hr := by decide)) <| wE (uJ yW 6) <| wR (kA jI) <| wM <| wE (oMl 6 (hr := by decide)) <| wE (qQ 7 (hr := by decide)) <| wE (uJ yW 7) <| wR (kA jI) <| wM <| wE (oMl 6 (hr := by decide)) <| wE (qQ 8 (hr := by decide)) <| wE (uJ yW 8) <| wR (kA jI) <| wE (oBf vQ nS nV) <| wT (kR yD) <| wZ) ?_
 refine jG ⟨_, (qB (cs := (bx (kS (A3.mk h.a6 h.a7 h.a8)))) (d := (kS (A3.mk h.a6 h.a7 h.a8))) rfl rfl yD rfl rfl .nil), ?_⟩
 rfl
theorem l_dot (p : A3 jF) (p0 p1 p2 : Int) (hp0 : kZ p.a0 p0 1000000000) (hp1 : kZ p.a1 p1 1000000000) (hp2 : kZ p.a2 p2 1000000000) (q : A3 jF) (q0 q1 q2 : Int) (hq0 : kZ q.a0 q0 1000000000) (hq1 : kZ q.a1 q1 1000000000) (hq2 : kZ q.a2 q2 1000000000) : kF Tryz.prog 161 [(kS p), (kS q)] (jH (jK (((p0 * q0) + (p1 * q1)) + (p2 * q2)))) := by
 refine jL Tryz.func161 rfl cb161 rfl ?_
 show uK _ _ _ _ ⟨[(0, (.d (kS p))), (1, (.d (kS q)))], []⟩
 refine jA <| kx [(2, (.ref 0 0)), (3, (.ref 1 0)), (4, (.ref 2 0))] [(0, some (bx (kS p))), (1, some (bx (kS q))), (2, some (bx (jH (jF.mk false []))))] (zN (uX 0) <| zN (uX 1) <| zN (qI 2 uD uE) <| zZ) ?_
 refine jA <| kd [] [(2, some (bx (jH (jK (((p0 * q0) + (p1 * q1)) + (p2 * q2))))))] mo (wE (uJ vQ 0) <| wR (kA jI) <| wE (uJ vQ 0) <| wR (kA jI) <| wE (kC (mV p.a0 p0 (iu hp0) q.a0 q0 (iu hq0))) <| wE (uJ vQ 1) <| wR (kA jI) <| wE (uJ vQ 1) <| wR (kA jI) <| wE (kC (mV p.a1 p1 (iu hp1) q.a1 q1 (iu hq1))) <| wE (kC (l_plus (jK (p0 * q0)) (p0 * q0) (qJ (jP (k := 2000000000) hp0 hq0 (by decide)) (by decide)) (jK (p1 * q1)) (p1 * q1) (qJ (jP (k := 2000000000) hp1 hq1 (by decide)) (by decide)))) <| wE (uJ vQ 2) <| wR (kA jI) <| wE (uJ vQ 2) <| wR (kA jI) <| wE (kC (mV p.a2 p2 (iu hp2) q.a2 q2 (iu hq2))) <| wE (kC (l_plus (jK ((p0 * q0) + (p1 * q1))) ((p0 * q0) + (p1 * q1)) (qJ (xO (k := 2000000001) (jP (k := 2000000000) hp0 hq0 (by decide)) (jP (k := 2000000000) hp1 hq1 (by decide)) (by decide)) (by decide)) (jK (p2 * q2)) (p2 * q2) (qJ (jP (k := 2000000000) hp2 hq2 (by decide)) (by decide)))) <| wT (kR jI) <| wZ) ?_
 refine jG ⟨_, (qB (cs := (bx (jH (jK (((p0 * q0) + (p1 * q1)) + (p2 * q2)))))) (d := (jH (jK (((p0 * q0) + (p1 * q1)) + (p2 * q2))))) rfl rfl jI rfl rfl .nil), ?_⟩
 rfl
theorem l_row0 (h : A9 jF) (h0 h1 h2 h3 h4 h5 h6 h7 h8 : Int) (hh0 : kZ h.a0 h0 1000000000) (hh1 : kZ h.a1 h1 1000000000) (hh2 : kZ h.a2 h2 1000000000) (hh3 : kZ h.a3 h3 1000000000) (hh4 : kZ h.a4 h4 1000000000) (hh5 : kZ h.a5 h5 1000000000) (hh6 : kZ h.a6 h6 1000000000) (hh7 : kZ h.a7 h7 1000000000) (hh8 : kZ h.a8 h8 1000000000) : kF Tryz.prog 159 [(qL h), (.val (.int .i64 (((0 : Nat) : Int))))] (kS (A3.mk h.a0 h.a1 h.a2)) := by
 refine jL Tryz.func159 rfl cb159 rfl ?_
 show uK _ _ _ _ ⟨[(0, (.d (qL h))), (1, (kE 0))], []⟩
 refine jA <| kx [(2, (.ref 0 0)), (4, (.ref 1 0))] [(0, some (bx (qL h))), (1, some (bx (kS (A3.mk (jF.mk false []) (jF.mk false []) (jF.mk false [])))))] (zN (uX 0) <| zN (qI 1 nS nV) <| zZ) ?_
 refine jA <| kd [] [(1, some (bx (kS (A3.mk h.a0 h.a1 h.a2))))] mo (wM <| wE (oMl 0 (hr := by decide)) <| wE (uJ yW 0) <| wR (kA jI) <| wM <| wE (oMl 0 (hr := by decide)) <| wE (qQ 1 (hr := by decide)) <| wE (uJ yW 1) <| wR (kA jI) <| wM <| wE (oMl 0 (hr := by decide)) <| wE (qQ 2 (hr := by decide)) <| wE (uJ yW 2) <| wR (kA jI) <| wE (oBf vQ nS nV) <| wT (kR yD) <| wZ) ?_
 refine jG ⟨_, (qB (cs := (bx (kS (A3.mk h.a0 h.a1 h.a2)))) (d := (kS (A3.mk h.a0 h.a1 h.a2))) rfl rfl yD rfl rfl .nil), ?_⟩
 rfl
theorem l_row1 (h : A9 jF) (h0 h1 h2 h3 h4 h5 h6 h7 h8 : Int) (hh0 : kZ h.a0 h0 1000000000) (hh1 : kZ h.a1 h1 1000000000) (hh2 : kZ h.a2 h2 1000000000) (hh3 : kZ h.a3 h3 1000000000) (hh4 : kZ h.a4 h4 1000000000) (hh5 : kZ h.a5 h5 1000000000) (hh6 : kZ h.a6 h6 1000000000) (hh7 : kZ h.a7 h7 1000000000) (hh8 : kZ h.a8 h8 1000000000) : kF Tryz.prog 159 [(qL h), (.val (.int .i64 (((1 : Nat) : Int))))] (kS (A3.mk h.a3 h.a4 h.a5)) := by
 refine jL Tryz.func159 rfl cb159 rfl ?_
 show uK _ _ _ _ ⟨[(0, (.d (qL h))), (1, (kE 1))], []⟩
 refine jA <| kx [(2, (.ref 0 0)), (4, (.ref 1 0))] [(0, some (bx (qL h))), (1, some (bx (kS (A3.mk (jF.mk false []) (jF.mk false []) (jF.mk false [])))))] (zN (uX 0) <| zN (qI 1 nS nV) <| zZ) ?_
 refine jA <| kd [] [(1, some (bx (kS (A3.mk h.a3 h.a4 h.a5))))] mo (wM <| wE (oMl 3 (hr := by decide)) <| wE (uJ yW 3) <| wR (kA jI) <| wM <| wE (oMl 3 (hr := by decide)) <| wE (qQ 4 (hr := by decide)) <| wE (uJ yW 4) <| wR (kA jI) <| wM <| wE (oMl 3 (hr := by decide)) <| wE (qQ 5 (hr := by decide)) <| wE (uJ yW 5) <| wR (kA jI) <| wE (oBf vQ nS nV) <| wT (kR yD) <| wZ) ?_
 refine jG ⟨_, (qB (cs := (bx (kS (A3.mk h.a3 h.a4 h.a5)))) (d := (kS (A3.mk h.a3 h.a4 h.a5))) rfl rfl yD rfl rfl .nil), ?_⟩
 rfl
theorem l_row2 (h : A9 jF) (h0 h1 h2 h3 h4 h5 h6 h7 h8 : Int) (hh0 : kZ h.a0 h0 1000000000) (hh1 : kZ h.a1 h1 1000000000) (hh2 : kZ h.a2 h2 1000000000) (hh3 : kZ h.a3 h3 1000000000) (hh4 : kZ h.a4 h4 1000000000) (hh5 : kZ h.a5 h5 1000000000) (hh6 : kZ h.a6 h6 1000000000) (hh7 : kZ h.a7 h7 1000000000) (hh8 : kZ h.a8 h8 1000000000) : kF Tryz.prog 159 [(qL h), (.val (.int .i64 (((2 : Nat) : Int))))] (kS (A3.mk h.a6 h.a7 h.a8)) := by
 refine jL Tryz.func159 rfl cb159 rfl ?_
 show uK _ _ _ _ ⟨[(0, (.d (qL h))), (1, (kE 2))], []⟩
 refine jA <| kx [(2, (.ref 0 0)), (4, (.ref 1 0))] [(0, some (bx (qL h))), (1, some (bx (kS (A3.mk (jF.mk false []) (jF.mk false []) (jF.mk false [])))))] (zN (uX 0) <| zN (qI 1 nS nV) <| zZ) ?_
 refine jA <| kd [] [(1, some (bx (kS (A3.mk h.a6 h.a7 h.a8))))] mo (wM <| wE (oMl 6 (hr := by decide)) <| wE (uJ yW 6) <| wR (kA jI) <| wM <| wE (oMl 6 (hr := by decide)) <| wE (qQ 7 (hr := by decide)) <| wE (uJ yW 7) <| wR (kA jI) <| wM <| wE (oMl 6 (hr := by decide)) <| wE (qQ 8 (hr := by decide)) <| wE (uJ yW 8) <| wR (kA jI) <| wE (oBf vQ nS nV) <| wT (kR yD) <| wZ) ?_
 refine jG ⟨_, (qB (cs := (bx (kS (A3.mk h.a6 h.a7 h.a8)))) (d := (kS (A3.mk h.a6 h.a7 h.a8))) rfl rfl yD rfl rfl .nil), ?_⟩
 rfl
end Go.Proofs.YtbecgnplakngdaaGreat
namespace Go.Proofs.YtbecgnplakngdaaGreat
open Go.Fid
set_option maxRecDepth 4000
set_option linter.unusedVariables false
set_option linter.unusedSimpArgs false
theorem cb152 : callB Tryz.prog 152 = true := by kernel_rfl
theorem cb154 : callB Tryz.prog 154 = true := by kernel_rfl
theorem cb155 : callB Tryz.prog 155 = true := by kernel_rfl
theorem mJ : uG Tryz.prog 98 = some (true, 18) := by kernel_rfl
theorem ze98 : xH Tryz.prog 98 = some [.bool false, .slice none 0 0, .bool false, .slice none 0 0, .bool false, .slice none 0 0, .bool false, .slice none 0 0, .bool false, .slice none 0 0, .bool false, .slice none 0 0, .bool false, .slice none 0 0, .bool false, .slice none 0 0, .bool false, .slice none 0 0] := by kernel_rfl
theorem zo98 : mP [.bool false, .slice none 0 0, .bool false, .slice none 0 0, .bool false, .slice none 0 0, .bool false, .slice none 0 0, .bool false, .slice none 0 0, .bool false, .slice none 0 0, .bool false, .slice none 0 0, .bool false, .slice none 0 0, .bool false, .slice none 0 0] [.val (.bool false), .sl 152 1 [], .val (.bool false), .sl 152 1 [], .val (.bool false), .sl 152 1 [], .val (.bool false), .sl 152 1 [], .val (.bool false), .sl 152 1 [], .val (.bool false), .sl 152 1 [], .val (.bool false), .sl 152 1 [], .val (.bool false), .sl 152 1 [], .val (.bool false), .sl 152 1 []] := by simp [mP, Value.oneCell']
theorem d_nine (b q : Nat) : kF Tryz.prog 155 [(.val (.pointer (some ⟨b, q, none⟩)))] (.val (.slice (some ⟨b, q, none⟩) 9 9)) := by
 refine jL Tryz.func155 rfl cb155 rfl ?_
 show uK _ _ _ _ ⟨[(0, (.d (.val (.pointer (some ⟨b, q, none⟩)))))], []⟩
 refine jA <| kx [] [] (zE (oNl 40 2) <| zZ) ?_
 refine jA <| kx [(2, (.d (.val (.slice (some ⟨b, q, none⟩) 9 9))))] [] (zM <| zE oNp <| zE (e_slp (by exact rfl) yW (by exact rfl) (by kernel_rfl)) <| zM <| zZ) ?_
 refine jG ⟨_, (.tmp (d := (.val (.slice (some ⟨b, q, none⟩) 9 9))) rfl .nil), ?_⟩
 rfl
theorem d_det (p : A3 jF) (p0 p1 p2 : Int) (hp0 : kZ p.a0 p0 1000000) (hp1 : kZ p.a1 p1 1000000) (hp2 : kZ p.a2 p2 1000000) (q : A3 jF) (q0 q1 q2 : Int) (hq0 : kZ q.a0 q0 1000000) (hq1 : kZ q.a1 q1 1000000) (hq2 : kZ q.a2 q2 1000000) (r : A3 jF) (r0 r1 r2 : Int) (hr0 : kZ r.a0 r0 1000000) (hr1 : kZ r.a1 r1 1000000) (hr2 : kZ r.a2 r2 1000000) : kF Tryz.prog 152 [(kS p), (kS q), (kS r)] (jH (jK (gM p0 p1 p2 q0 q1 q2 r0 r1 r2))) := by
 refine jL Tryz.func152 rfl cb152 rfl ?_
 show uK _ _ _ _ ⟨[(0, (.d (kS p))), (1, (.d (kS q))), (2, (.d (kS r)))], []⟩
 refine jA <| kx [(3, (.ref 0 0)), (4, (.ref 1 0)), (5, (.ref 2 0)), (6, (.ref 3 0))] [(0, some (bx (kS p))), (1, some (bx (kS q))), (2, some (bx (kS r))), (3, some (bx (jH (jF.mk false []))))] (zN (uX 0) <| zN (uX 1) <| zN (uX 2) <| zN (qI 3 uD uE) <| zZ) ?_
 refine jA ?_
 have bn1 : kZ (jK ((p1 * q2) - (p2 * q1))) ((p1 * q2) - (p2 * q1)) 2000001 := (iZ (k := 2000001) (jP (k := 2000000) hp1 hq2 (by decide)) (jP (k := 2000000) hp2 hq1 (by decide)) (by decide))
 have bn2 : kZ (jK ((p2 * q0) - (p0 * q2))) ((p2 * q0) - (p0 * q2)) 2000001 := (iZ (k := 2000001) (jP (k := 2000000) hp2 hq0 (by decide)) (jP (k := 2000000) hp0 hq2 (by decide)) (by decide))
 have bn3 : kZ (jK ((p0 * q1) - (p1 * q0))) ((p0 * q1) - (p1 * q0)) 2000001 := (iZ (k := 2000001) (jP (k := 2000000) hp0 hq1 (by decide)) (jP (k := 2000000) hp1 hq0 (by decide)) (by decide))
 have bn4 : kZ (jK (((((p1 * q2) - (p2 * q1)) * r0) + (((p2 * q0) - (p0 * q2)) * r1)) + (((p0 * q1) - (p1 * q0)) * r2))) (((((p1 * q2) - (p2 * q1)) * r0) + (((p2 * q0) - (p0 * q2)) * r1)) + (((p0 * q1) - (p1 * q0)) * r2)) 3000003 := (xO (k := 3000003) (xO (k := 3000002) (jP (k := 3000001) bn1 hr0 (by decide)) (jP (k := 3000001) bn2 hr1 (by decide)) (by decide)) (jP (k := 3000001) bn3 hr2 (by decide)) (by decide))
 refine kd [] [(3, some (bx (jH (jK (((((p1 * q2) - (p2 * q1)) * r0) + (((p2 * q0) - (p0 * q2)) * r1)) + (((p0 * q1) - (p1 * q0)) * r2))))))] mo (wR (kA yD) <| wR (kA yD) <| wE (kC (d_cross p p0 p1 p2 (iu hp0) (iu hp1) (iu hp2) q q0 q1 q2 (iu hq0) (iu hq1) (iu hq2))) <| wR (kA yD) <| wE (kC (d_dot (A3.mk (jK ((p1 * q2) - (p2 * q1))) (jK ((p2 * q0) - (p0 * q2))) (jK ((p0 * q1) - (p1 * q0)))) ((p1 * q2) - (p2 * q1)) ((p2 * q0) - (p0 * q2)) ((p0 * q1) - (p1 * q0)) (iu bn1) (iu bn2) (iu bn3) r r0 r1 r2 (iu hr0) (iu hr1) (iu hr2))) <| wT (kR jI) <| wZ) ?_
 refine jG ⟨_, (qB (cs := (bx (jH (jK (((((p1 * q2) - (p2 * q1)) * r0) + (((p2 * q0) - (p0 * q2)) * r1)) + (((p0 * q1) - (p1 * q0)) * r2)))))) (d := (jH (jK (((((p1 * q2) - (p2 * q1)) * r0) + (((p2 * q0) - (p0 * q2)) * r1)) + (((p0 * q1) - (p1 * q0)) * r2))))) rfl rfl jI rfl rfl .nil), ?_⟩
 rw [det3_cr]; rfl
theorem d_red9 (z0 z1 z2 z3 z4 z5 z6 z7 z8 : Int) (hz0 : kZ (jK z0) z0 1000000) (hz1 : kZ (jK z1) z1 1000000) (hz2 : kZ (jK z2) z2 1000000) (hz3 : kZ (jK z3) z3 1000000) (hz4 : kZ (jK z4) z4 1000000) (hz5 : kZ (jK z5) z5 1000000) (hz6 : kZ (jK z6) z6 1000000) (hz7 : kZ (jK z7) z7 1000000) (hz8 : kZ (jK z8) z8 1000000) (c0 c1 c2 c3 c4 c5 c6 c7 c8 : Int) (hc : xB [z0, z1, z2, z3, z4, z5, z6, z7, z8] = [c0, c1, c2, c3, c4, c5, c6, c7, c8]) (hnz : vK [z0, z1, z2, z3, z4, z5, z6, z7, z8] ≠ 0) : kF Tryz.prog 154 [(qL (A9.mk (jK z0) (jK z1) (jK z2) (jK z3) (jK z4) (jK z5) (jK z6) (jK z7) (jK z8))), (.val (.func (.func 155) #[] #[]))] (qL (A9.mk (jK c0) (jK c1) (jK c2) (jK c3) (jK c4) (jK c5) (jK c6) (jK c7) (jK c8))) := by
 have hd0 := lC hnz
 have e := hc
 simp only [xB, List.map_cons, List.map_nil, List.cons.injEq, and_true] at e
 obtain ⟨e0, e1, e2, e3, e4, e5, e6, e7, e8⟩ := e
 let y12 := [z0, z1, z2, z3, z4, z5, z6, z7, z8]
 let y11 := (jK (z5.fdiv (nF y12)))
 let y10 := (jK (z4.fdiv (nF y12)))
 let y9 := (jK (z3.fdiv (nF y12)))
 let y8 := (jK (z2.fdiv (nF y12)))
 let y7 := (jK (z1.fdiv (nF y12)))
 let y6 := (jK (z0.fdiv (nF y12)))
 let y5 := (qL (A9.mk (jK z0) (jK z1) (jK z2) (jK z3) (jK z4) (jK z5) (jK z6) (jK z7) (jK z8)))
 let y4 := (bx (qL (A9.mk (jF.mk false []) (jF.mk false []) (jF.mk false []) (jF.mk false []) (jF.mk false []) (jF.mk false []) (jF.mk false []) (jF.mk false []) (jF.mk false []))))
 let y3 := (bx (qL (A9.mk y6 y7 (jK z2) (jK z3) (jK z4) (jK z5) (jK z6) (jK z7) (jK z8))))
 let y2 := (bx (qL (A9.mk y6 y7 y8 y9 y10 y11 (jK z6) (jK z7) (jK z8))))
 let y1 := (bx (qL (A9.mk y6 y7 y8 y9 y10 y11 (jK (z6.fdiv (nF y12))) (jK (z7.fdiv (nF y12))) (jK (z8.fdiv (nF y12))))))
 refine jL Tryz.func154 rfl cb154 rfl ?_
 show uK _ _ _ _ ⟨[(0, (.d y5)), (1, (.d (.val (.func (.func 155) #[] #[]))))], []⟩
 refine jA <| kx [(2, (.ref 0 0)), (4, (.ref 1 0))] [(0, some (bx y5)), (1, some y4)] (zN (uX 0) <| zN (qI 1 ze98 zo98) <| zZ) ?_
 refine jA <| kx [(5, (.view 0 0 9))] [] (zM <| zE (oCp (fun b => d_nine b 0)) <| zM <| zZ) ?_
 refine jA ?_
 have bn1 : kZ (jK (nF [z0, z1, z2, z3, z4, z5, z6, z7, z8])) (nF [z0, z1, z2, z3, z4, z5, z6, z7, z8]) 1000000 := (nJ (dvL_len (LOk.all (n := 1000000) (.cons hz0 (.cons hz1 (.cons hz2 (.cons hz3 (.cons hz4 (.cons hz5 (.cons hz6 (.cons hz7 (.cons hz8 .nil))))))))))))
 refine kx [(6, (.ref 2 0))] [(2, some (bx (jH (jK (nF y12)))))] (zM <| zR ⟨(bx y5), e_clv (es := List.map jH [(jK z0), (jK z1), (jK z2), (jK z3), (jK z4), (jK z5), (jK z6), (jK z7), (jK z8)]) (d_divisor 1000000 [(jK z0), (jK z1), (jK z2), (jK z3), (jK z4), (jK z5), (jK z6), (jK z7), (jK z8)] y12 (.cons hz0 (.cons hz1 (.cons hz2 (.cons hz3 (.cons hz4 (.cons hz5 (.cons hz6 (.cons hz7 (.cons hz8 .nil))))))))) (Nat.le_of_ble_eq_true rfl) (by simp only [List.all_cons, List.all_nil, iV, Bool.and_self])) (by exact rfl) (by kernel_rfl) (by exact rfl) (.v .nil) (xZ _ _ (fun _ => rfl)) (by kernel_rfl) (by kernel_rfl) (.tup (nG (avo_encI (by decide) _) (nG (.val _) avo_nil))), by kernel_rfl⟩ <| zM <| zE uH <| zE uH <| zN (qI 2 uD uE) <| zT (kR jI) <| zM <| zZ) ?_
 refine jA <| jA <| kx [(17, (.view 0 0 9)), (18, (kE 9)), (19, (kE 0))] [] (zM <| zE (oLv vP) <| zM <| zZ) ?_
 refine jE <| qE 20 ?_
 refine qK <| jA <| kx [(20, (vb true))] [] (zE (qY true qS) <| zZ) ?_
 refine jA <| kD ?_
 refine jD <| jA <| jE <| jA <| kx [(8, (kE 0)), (9, (.ref 3 0))] [(3, some (bx (jH (jK z0))))] (zM <| zE (oXv vP 0) <| zR (kA jI) <| zN (qI 3 uD uE) <| zM <| zT (kR jI) <| zZ) ?_
 refine kx [] [(0, some (bx (qL (A9.mk y6 (jK z1) (jK z2) (jK z3) (jK z4) (jK z5) (jK z6) (jK z7) (jK z8)))))] (zM <| zM <| zR (kA jI) <| zR (kA jI) <| zE (kC (xP hz0 bn1 (by decide) (by decide) hd0)) <| zM <| zE uH <| zE uH <| zE uH <| zE (oXv vP 0) <| zT (kR jI) <| zZ) ?_
 refine kx [(19, (kE 1))] [] (zE (qQ 1 (hr := by decide)) <| zM <| zZ) ?_
 refine jJ (jZ.refl _) ?_
 refine jA <| kx [(20, (vb true))] [] (zE (qY true qS) <| zZ) ?_
 refine jA <| kD ?_
 refine jD <| jA <| jE <| jA <| kx [(8, (kE 1)), (9, (.ref 4 0))] [(4, some (bx (jH (jK z1))))] (zM <| zE (oXv vP 1) <| zR (kA jI) <| zN (qI 4 uD uE) <| zM <| zT (kR jI) <| zZ) ?_
 refine kx [] [(0, some y3)] (zM <| zM <| zR (kA jI) <| zR (kA jI) <| zE (kC (xP hz1 bn1 (by decide) (by decide) hd0)) <| zM <| zE uH <| zE uH <| zE uH <| zE (oXv vP 1) <| zT (kR jI) <| zZ) ?_
 refine kx [(19, (kE 2))] [] (zE (qQ 2 (hr := by decide)) <| zM <| zZ) ?_
 refine jJ (jZ.refl _) ?_
 refine jA <| kx [(20, (vb true))] [] (zE (qY true qS) <| zZ) ?_
 refine jA <| kD ?_
 refine jD <| jA <| jE <| jA <| kx [(8, (kE 2)), (9, (.ref 5 0))] [(5, some (bx (jH (jK z2))))] (zM <| zE (oXv vP 2) <| zR (kA jI) <| zN (qI 5 uD uE) <| zM <| zT (kR jI) <| zZ) ?_
 refine kX (wk (l := [(2, (.ref 0 0)), (4, (.ref 1 0)), (5, (.view 0 0 9)), (6, (.ref 2 0)), (8, (kE 2)), (9, (.ref 5 0)), (17, (.view 0 0 9)), (18, (kE 9)), (19, (kE 2))]) (b := [(0, some y3), (1, some y4), (2, some (bx (jH (jK (nF y12))))), (5, some (bx (jH (jK z2))))])) ?_
 refine kx [] [(0, some (bx (qL (A9.mk y6 y7 y8 (jK z3) (jK z4) (jK z5) (jK z6) (jK z7) (jK z8)))))] (zM <| zM <| zR (kA jI) <| zR (kA jI) <| zE (kC (xP hz2 bn1 (by decide) (by decide) hd0)) <| zM <| zE uH <| zE uH <| zE uH <| zE (oXv vP 2) <| zT (kR jI) <| zZ) ?_
 refine kx [(19, (kE 3))] [] (zE (qQ 3 (hr := by decide)) <| zM <| zZ) ?_
 refine jJ (jZ.refl _) ?_
 refine jA <| kx [(20, (vb true))] [] (zE (qY true qS) <| zZ) ?_
 refine jA <| kD ?_
 refine jD <| jA <| jE <| jA <| kx [(8, (kE 3)), (9, (.ref 6 0))] [(6, some (bx (jH (jK z3))))] (zM <| zE (oXv vP 3) <| zR (kA jI) <| zN (qI 6 uD uE) <| zM <| zT (kR jI) <| zZ) ?_
 refine kx [] [(0, some (bx (qL (A9.mk y6 y7 y8 y9 (jK z4) (jK z5) (jK z6) (jK z7) (jK z8)))))] (zM <| zM <| zR (kA jI) <| zR (kA jI) <| zE (kC (xP hz3 bn1 (by decide) (by decide) hd0)) <| zM <| zE uH <| zE uH <| zE uH <| zE (oXv vP 3) <| zT (kR jI) <| zZ) ?_
 refine kx [(19, (kE 4))] [] (zE (qQ 4 (hr := by decide)) <| zM <| zZ) ?_
 refine jJ (jZ.refl _) ?_
 refine jA <| kx [(20, (vb true))] [] (zE (qY true qS) <| zZ) ?_
 refine jA <| kD ?_
 refine jD <| jA <| jE <| jA <| kx [(8, (kE 4)), (9, (.ref 7 0))] [(7, some (bx (jH (jK z4))))] (zM <| zE (oXv vP 4) <| zR (kA jI) <| zN (qI 7 uD uE) <| zM <| zT (kR jI) <| zZ) ?_
 refine kx [] [(0, some (bx (qL (A9.mk y6 y7 y8 y9 y10 (jK z5) (jK z6) (jK z7) (jK z8)))))] (zM <| zM <| zR (kA jI) <| zR (kA jI) <| zE (kC (xP hz4 bn1 (by decide) (by decide) hd0)) <| zM <| zE uH <| zE uH <| zE uH <| zE (oXv vP 4) <| zT (kR jI) <| zZ) ?_
 refine kx [(19, (kE 5))] [] (zE (qQ 5 (hr := by decide)) <| zM <| zZ) ?_
 refine jJ (jZ.refl _) ?_
 refine jA <| kx [(20, (vb true))] [] (zE (qY true qS) <| zZ) ?_
 refine jA <| kD ?_
 refine jD <| jA <| jE <| jA <| kx [(8, (kE 5)), (9, (.ref 8 0))] [(8, some (bx (jH (jK z5))))] (zM <| zE (oXv vP 5) <| zR (kA jI) <| zN (qI 8 uD uE) <| zM <| zT (kR jI) <| zZ) ?_
 refine kx [] [(0, some y2)] (zM <| zM <| zR (kA jI) <| zR (kA jI) <| zE (kC (xP hz5 bn1 (by decide) (by decide) hd0)) <| zM <| zE uH <| zE uH <| zE uH <| zE (oXv vP 5) <| zT (kR jI) <| zZ) ?_
 refine kx [(19, (kE 6))] [] (zE (qQ 6 (hr := by decide)) <| zM <| zZ) ?_
 refine jJ (jZ.refl _) ?_
 refine jA <| kX (wk (l := [(2, (.ref 0 0)), (4, (.ref 1 0)), (5, (.view 0 0 9)), (6, (.ref 2 0)), (17, (.view 0 0 9)), (18, (kE 9)), (19, (kE 6))]) (b := [(0, some y2), (1, some y4), (2, some (bx (jH (jK (nF y12)))))])) ?_
 refine kx [(20, (vb true))] [] (zE (qY true qS) <| zZ) ?_
 refine jA <| kD ?_
 refine jD <| jA <| jE <| jA <| kx [(8, (kE 6)), (9, (.ref 9 0))] [(9, some (bx (jH (jK z6))))] (zM <| zE (oXv vP 6) <| zR (kA jI) <| zN (qI 9 uD uE) <| zM <| zT (kR jI) <| zZ) ?_
 refine kx [] [(0, some (bx (qL (A9.mk y6 y7 y8 y9 y10 y11 (jK (z6.fdiv (nF y12))) (jK z7) (jK z8)))))] (zM <| zM <| zR (kA jI) <| zR (kA jI) <| zE (kC (xP hz6 bn1 (by decide) (by decide) hd0)) <| zM <| zE uH <| zE uH <| zE uH <| zE (oXv vP 6) <| zT (kR jI) <| zZ) ?_
 refine kx [(19, (kE 7))] [] (zE (qQ 7 (hr := by decide)) <| zM <| zZ) ?_
 refine jJ (jZ.refl _) ?_
 refine jA <| kx [(20, (vb true))] [] (zE (qY true qS) <| zZ) ?_
 refine jA <| kD ?_
 refine jD <| jA <| jE <| jA <| kx [(8, (kE 7)), (9, (.ref 10 0))] [(10, some (bx (jH (jK z7))))] (zM <| zE (oXv vP 7) <| zR (kA jI) <| zN (qI 10 uD uE) <| zM <| zT (kR jI) <| zZ) ?_
 refine kx [] [(0, some (bx (qL (A9.mk y6 y7 y8 y9 y10 y11 (jK (z6.fdiv (nF y12))) (jK (z7.fdiv (nF y12))) (jK z8)))))] (zM <| zM <| zR (kA jI) <| zR (kA jI) <| zE (kC (xP hz7 bn1 (by decide) (by decide) hd0)) <| zM <| zE uH <| zE uH <| zE uH <| zE (oXv vP 7) <| zT (kR jI) <| zZ) ?_
 refine kx [(19, (kE 8))] [] (zE (qQ 8 (hr := by decide)) <| zM <| zZ) ?_
 refine jJ (jZ.refl _) ?_
 refine jA <| kx [(20, (vb true))] [] (zE (qY true qS) <| zZ) ?_
 refine jA <| kD ?_
 refine jD <| jA <| jE <| jA <| kx [(8, (kE 8)), (9, (.ref 11 0))] [(11, some (bx (jH (jK z8))))] (zM <| zE (oXv vP 8) <| zR (kA jI) <| zN (qI 11 uD uE) <| zM <| zT (kR jI) <| zZ) ?_
 refine kx [] [(0, some y1)] (zM <| zM <| zR (kA jI) <| zR (kA jI) <| zE (kC (xP hz8 bn1 (by decide) (by decide) hd0)) <| zM <| zE uH <| zE uH <| zE uH <| zE (oXv vP 8) <| zT (kR jI) <| zZ) ?_
 refine kx [(19, (kE 9))] [] (zE (qQ 9 (hr := by decide)) <| zM <| zZ) ?_
 refine jJ (jZ.refl _) ?_
 refine jA <| kx [(20, (vb false))] [] (zE (qY false qS) <| zZ) ?_
 refine jA <| kO ?_
 refine kQ <| jA <| kx [] [(1, some y1)] (zR (kA mJ) <| zT (kR mJ) <| zZ) ?_
 refine jG ⟨_, (qB (cs := (bx (qL (A9.mk (jK (z0.fdiv (nF [z0, z1, z2, z3, z4, z5, z6, z7, z8]))) (jK (z1.fdiv (nF [z0, z1, z2, z3, z4, z5, z6, z7, z8]))) (jK (z2.fdiv (nF [z0, z1, z2, z3, z4, z5, z6, z7, z8]))) (jK (z3.fdiv (nF [z0, z1, z2, z3, z4, z5, z6, z7, z8]))) (jK (z4.fdiv (nF [z0, z1, z2, z3, z4, z5, z6, z7, z8]))) (jK (z5.fdiv (nF [z0, z1, z2, z3, z4, z5, z6, z7, z8]))) (jK (z6.fdiv (nF [z0, z1, z2, z3, z4, z5, z6, z7, z8]))) (jK (z7.fdiv (nF [z0, z1, z2, z3, z4, z5, z6, z7, z8]))) (jK (z8.fdiv (nF [z0, z1, z2, z3, z4, z5, z6, z7, z8]))))))) (d := (qL (A9.mk (jK (z0.fdiv (nF [z0, z1, z2, z3, z4, z5, z6, z7, z8]))) (jK (z1.fdiv (nF [z0, z1, z2, z3, z4, z5, z6, z7, z8]))) (jK (z2.fdiv (nF [z0, z1, z2, z3, z4, z5, z6, z7, z8]))) (jK (z3.fdiv (nF [z0, z1, z2, z3, z4, z5, z6, z7, z8]))) (jK (z4.fdiv (nF [z0, z1, z2, z3, z4, z5, z6, z7, z8]))) (jK (z5.fdiv (nF [z0, z1, z2, z3, z4, z5, z6, z7, z8]))) (jK (z6.fdiv (nF [z0, z1, z2, z3, z4, z5, z6, z7, z8]))) (jK (z7.fdiv (nF [z0, z1, z2, z3, z4, z5, z6, z7, z8]))) (jK (z8.fdiv (nF [z0, z1, z2, z3, z4, z5, z6, z7, z8])))))) rfl rfl mJ rfl rfl .nil), ?_⟩
 rw [e0, e1, e2, e3, e4, e5, e6, e7, e8]; rfl
end Go.Proofs.YtbecgnplakngdaaGreat
