import Derived.Test.YtadkkhdnccljcaaGreatHom
/-
  Matrices and vectors of three integers: images are not 0, products, inverses. Plain Lean.
-/
set_option linter.unusedVariables false
set_option linter.unusedSimpArgs false
namespace Go.Fid
theorem sgnL_zero {zs : List Int} : sgnL zs = 0 ↔ ∀ z ∈ zs, z = 0 := by
  constructor
  · intro h z hz
    rcases Int.decEq z 0 with h0 | h0
    · exact absurd h (sgnL_of hz h0)
    · exact h0
  · intro h
    rcases Int.decEq (sgnL zs) 0 with h0 | h0
    · obtain ⟨z, hz, h1⟩ := sgnL_ne h0
      exact absurd (h z hz) h1
    · exact h0
theorem sgn3_zero {a b c : Int} : sgnL [a, b, c] = 0 ↔ a = 0 ∧ b = 0 ∧ c = 0 := by rw [sgnL_zero]; simp
theorem valH_det {l : List RInt} {d : Int} (h : valH l d = true) : d ≠ 0 := fun e => by
  unfold valH at h; rw [e] at h; simp [signI_zero] at h
theorem redB_nz {l : List RInt} (h : redB l = true) : sgnL (l.map toZ) ≠ 0 := by
  unfold redB at h
  rw [Bool.and_eq_true, Bool.and_eq_true, decide_eq_true_eq] at h
  exact h.2.1
theorem mul_zero_of {d z : Int} (hd : d ≠ 0) (h : d * z = 0) : z = 0 := by
  rcases Int.mul_eq_zero.1 h with h | h
  · exact absurd h hd
  · exact h
theorem app_nz {h0 h1 h2 h3 h4 h5 h6 h7 h8 p0 p1 p2 : Int} (hd : det3 h0 h1 h2 h3 h4 h5 h6 h7 h8 ≠ 0) (hp : sgnL [p0, p1, p2] ≠ 0) :
    sgnL [h0 * p0 + h1 * p1 + h2 * p2, h3 * p0 + h4 * p1 + h5 * p2, h6 * p0 + h7 * p1 + h8 * p2] ≠ 0 := fun e => by
  obtain ⟨e0, e1, e2⟩ := sgn3_zero.1 e
  refine hp (sgn3_zero.2 ⟨mul_zero_of hd ?_, mul_zero_of hd ?_, mul_zero_of hd ?_⟩)
  · have : det3 h0 h1 h2 h3 h4 h5 h6 h7 h8 * p0 = (h4 * h8 - h5 * h7) * (h0 * p0 + h1 * p1 + h2 * p2) + (h2 * h7 - h1 * h8) * (h3 * p0 + h4 * p1 + h5 * p2) + (h1 * h5 - h2 * h4) * (h6 * p0 + h7 * p1 + h8 * p2) := by unfold det3; grind
    rw [this, e0, e1, e2]; simp
  · have : det3 h0 h1 h2 h3 h4 h5 h6 h7 h8 * p1 = (h5 * h6 - h3 * h8) * (h0 * p0 + h1 * p1 + h2 * p2) + (h0 * h8 - h2 * h6) * (h3 * p0 + h4 * p1 + h5 * p2) + (h2 * h3 - h0 * h5) * (h6 * p0 + h7 * p1 + h8 * p2) := by unfold det3; grind
    rw [this, e0, e1, e2]; simp
  · have : det3 h0 h1 h2 h3 h4 h5 h6 h7 h8 * p2 = (h3 * h7 - h4 * h6) * (h0 * p0 + h1 * p1 + h2 * p2) + (h1 * h6 - h0 * h7) * (h3 * p0 + h4 * p1 + h5 * p2) + (h0 * h4 - h1 * h3) * (h6 * p0 + h7 * p1 + h8 * p2) := by unfold det3; grind
    rw [this, e0, e1, e2]; simp
theorem cof_det (h0 h1 h2 h3 h4 h5 h6 h7 h8 : Int) : det3 (h4 * h8 - h5 * h7) (h5 * h6 - h3 * h8) (h3 * h7 - h4 * h6) (h7 * h2 - h8 * h1) (h8 * h0 - h6 * h2) (h6 * h1 - h7 * h0) (h1 * h5 - h2 * h4) (h2 * h3 - h0 * h5) (h0 * h4 - h1 * h3)
    = det3 h0 h1 h2 h3 h4 h5 h6 h7 h8 * det3 h0 h1 h2 h3 h4 h5 h6 h7 h8 := by unfold det3; grind
theorem cof_ne {h0 h1 h2 h3 h4 h5 h6 h7 h8 : Int} (hd : det3 h0 h1 h2 h3 h4 h5 h6 h7 h8 ≠ 0) : det3 (h4 * h8 - h5 * h7) (h5 * h6 - h3 * h8) (h3 * h7 - h4 * h6) (h7 * h2 - h8 * h1) (h8 * h0 - h6 * h2) (h6 * h1 - h7 * h0) (h1 * h5 - h2 * h4) (h2 * h3 - h0 * h5) (h0 * h4 - h1 * h3) ≠ 0 := by
  rw [cof_det]; exact Int.mul_ne_zero hd hd
theorem short4_len {x : RInt} (h : short4 x = true) : x.gs.length ≤ 4 := of_decide_eq_true h
theorem iok_short {x : RInt} (h : short4 x = true) : IOk x (toZ x) 4 := iok_raw (short4_len h)
end Go.Fid
