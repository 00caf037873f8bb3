import Derived.Test.YtadkkhdnccljcaaGreatHom
/-
  Matrices and vectors of three integers: images are not 0, products, inverses. Plain Lean.
-/
set_option linter.unusedVariables false
set_option linter.unusedSimpArgs false
namespace Go.Fid
theorem sgnL_zero {zs : List Int} : sgnL zs = 0 ↔ ∀ z ∈ zs, z = 0 := by
  constructor
  · intro h z hz
    rcases Int.decEq z 0 with h0 | h0
    · exact absurd h (sgnL_of hz h0)
    · exact h0
  · intro h
    rcases Int.decEq (sgnL zs) 0 with h0 | h0
    · obtain ⟨z, hz, h1⟩ := sgnL_ne h0
      exact absurd (h z hz) h1
    · exact h0
theorem sgn3_zero {a b c : Int} : sgnL [a, b, c] = 0 ↔ a = 0 ∧ b = 0 ∧ c = 0 := by rw [sgnL_zero]; simp
theorem valH_det {l : List RInt} {d : Int} (h : valH l d = true) : d ≠ 0 := fun e => by
  unfold valH at h; rw [e] at h; simp [signI_zero] at h
theorem redB_nz {l : List RInt} (h : redB l = true) : sgnL (l.map toZ) ≠ 0 := by
  unfold redB at h
  rw [Bool.and_eq_true, Bool.and_eq_true, decide_eq_true_eq] at h
  exact h.2.1
theorem redB_one {l : List RInt} (h : redB l = true) : dvL (l.map toZ) = 1 := by
  unfold redB at h
  rw [Bool.and_eq_true, Bool.and_eq_true, decide_eq_true_eq, decide_eq_true_eq] at h
  exact h.2.2
theorem redB_val {l : List RInt} (h : redB l = true) : List.all l validI = true := by
  unfold redB at h
  rw [Bool.and_eq_true] at h
  exact h.1
theorem mul_zero_of {d z : Int} (hd : d ≠ 0) (h : d * z = 0) : z = 0 := by
  rcases Int.mul_eq_zero.1 h with h | h
  · exact absurd h hd
  · exact h
theorem app_nz {h0 h1 h2 h3 h4 h5 h6 h7 h8 p0 p1 p2 : Int} (hd : det3 h0 h1 h2 h3 h4 h5 h6 h7 h8 ≠ 0) (hp : sgnL [p0, p1, p2] ≠ 0) :
    sgnL [h0 * p0 + h1 * p1 + h2 * p2, h3 * p0 + h4 * p1 + h5 * p2, h6 * p0 + h7 * p1 + h8 * p2] ≠ 0 := fun e => by
  obtain ⟨e0, e1, e2⟩ := sgn3_zero.1 e
  refine hp (sgn3_zero.2 ⟨mul_zero_of hd ?_, mul_zero_of hd ?_, mul_zero_of hd ?_⟩)
  · have : det3 h0 h1 h2 h3 h4 h5 h6 h7 h8 * p0 = (h4 * h8 - h5 * h7) * (h0 * p0 + h1 * p1 + h2 * p2) + (h2 * h7 - h1 * h8) * (h3 * p0 + h4 * p1 + h5 * p2) + (h1 * h5 - h2 * h4) * (h6 * p0 + h7 * p1 + h8 * p2) := by unfold det3; grind
    rw [this, e0, e1, e2]; simp
  · have : det3 h0 h1 h2 h3 h4 h5 h6 h7 h8 * p1 = (h5 * h6 - h3 * h8) * (h0 * p0 + h1 * p1 + h2 * p2) + (h0 * h8 - h2 * h6) * (h3 * p0 + h4 * p1 + h5 * p2) + (h2 * h3 - h0 * h5) * (h6 * p0 + h7 * p1 + h8 * p2) := by unfold det3; grind
    rw [this, e0, e1, e2]; simp
  · have : det3 h0 h1 h2 h3 h4 h5 h6 h7 h8 * p2 = (h3 * h7 - h4 * h6) * (h0 * p0 + h1 * p1 + h2 * p2) + (h1 * h6 - h0 * h7) * (h3 * p0 + h4 * p1 + h5 * p2) + (h0 * h4 - h1 * h3) * (h6 * p0 + h7 * p1 + h8 * p2) := by unfold det3; grind
    rw [this, e0, e1, e2]; simp
theorem cof_det (h0 h1 h2 h3 h4 h5 h6 h7 h8 : Int) : det3 (h4 * h8 - h5 * h7) (h5 * h6 - h3 * h8) (h3 * h7 - h4 * h6) (h7 * h2 - h8 * h1) (h8 * h0 - h6 * h2) (h6 * h1 - h7 * h0) (h1 * h5 - h2 * h4) (h2 * h3 - h0 * h5) (h0 * h4 - h1 * h3)
    = det3 h0 h1 h2 h3 h4 h5 h6 h7 h8 * det3 h0 h1 h2 h3 h4 h5 h6 h7 h8 := by unfold det3; grind
theorem cof_ne {h0 h1 h2 h3 h4 h5 h6 h7 h8 : Int} (hd : det3 h0 h1 h2 h3 h4 h5 h6 h7 h8 ≠ 0) : det3 (h4 * h8 - h5 * h7) (h5 * h6 - h3 * h8) (h3 * h7 - h4 * h6) (h7 * h2 - h8 * h1) (h8 * h0 - h6 * h2) (h6 * h1 - h7 * h0) (h1 * h5 - h2 * h4) (h2 * h3 - h0 * h5) (h0 * h4 - h1 * h3) ≠ 0 := by
  rw [cof_det]; exact Int.mul_ne_zero hd hd
theorem short4_len {x : RInt} (h : short4 x = true) : x.gs.length ≤ 4 := of_decide_eq_true h
theorem iok_short {x : RInt} (h : short4 x = true) : IOk x (toZ x) 4 := iok_raw (short4_len h)
theorem prop_red {P Q : List Int} {k m : Int} (hk : k ≠ 0) (hm : m ≠ 0) (h : P.map (m * ·) = Q.map (k * ·)) (hP : sgnL P ≠ 0) (hQ : sgnL Q ≠ 0) : redL P = redL Q := by
  rw [← redL_scale hm hP, h, redL_scale hk hQ]
theorem prop_nz {P Q : List Int} {k m : Int} (hk : k ≠ 0) (hm : m ≠ 0) (h : P.map (m * ·) = Q.map (k * ·)) (hP : sgnL P ≠ 0) : sgnL Q ≠ 0 := fun e => by
  have h1 := ((sgnL_scale hk Q).1).2 e
  rw [← h] at h1
  exact hP (((sgnL_scale hm P).1).1 h1)
theorem cross_same {p0 p1 p2 q0 q1 q2 : Int} (hP : sgnL [p0, p1, p2] ≠ 0) (hQ : sgnL [q0, q1, q2] ≠ 0) (dP : dvL [p0, p1, p2] = 1) (dQ : dvL [q0, q1, q2] = 1)
    (h : sgnL [p1 * q2 - p2 * q1, p2 * q0 - p0 * q2, p0 * q1 - p1 * q0] = 0) : p0 = q0 ∧ p1 = q1 ∧ p2 = q2 := by
  obtain ⟨e0, e1, e2⟩ := sgn3_zero.1 h
  have key : ∀ k m : Int, k ≠ 0 → (m = 0 → q0 = 0 ∧ q1 = 0 ∧ q2 = 0) → m * p0 = k * q0 → m * p1 = k * q1 → m * p2 = k * q2 → p0 = q0 ∧ p1 = q1 ∧ p2 = q2 := by
    intro k m hk hm a b c
    have hm0 : m ≠ 0 := fun e => hQ (sgn3_zero.2 (hm e))
    have hr := prop_red (P := [p0, p1, p2]) (Q := [q0, q1, q2]) hk hm0 (by simp [a, b, c]) hP hQ
    rw [redL_one dP, redL_one dQ] at hr
    simpa using hr
  by_cases h0 : p0 = 0
  · by_cases h1 : p1 = 0
    · have h2 : p2 ≠ 0 := fun h2 => hP (sgn3_zero.2 ⟨h0, h1, h2⟩)
      refine key p2 q2 h2 (fun e => ⟨?_, ?_, e⟩) (by grind) (by grind) (by grind)
      · exact mul_zero_of h2 (by grind)
      · exact mul_zero_of h2 (by grind)
    · refine key p1 q1 h1 (fun e => ⟨?_, e, ?_⟩) (by grind) (by grind) (by grind)
      · exact mul_zero_of h1 (by grind)
      · exact mul_zero_of h1 (by grind)
  · refine key p0 q0 h0 (fun e => ⟨e, ?_, ?_⟩) (by grind) (by grind) (by grind)
    · exact mul_zero_of h0 (by grind)
    · exact mul_zero_of h0 (by grind)
theorem red3_back {z0 z1 z2 c0 c1 c2 : Int} (hnz : sgnL [z0, z1, z2] ≠ 0) (hc : redL [z0, z1, z2] = [c0, c1, c2]) : ∃ d : Int, d ≠ 0 ∧ z0 = d * c0 ∧ z1 = d * c1 ∧ z2 = d * c2 ∧ sgnL [c0, c1, c2] ≠ 0 ∧ dvL [c0, c1, c2] = 1 := by
  refine ⟨dvL [z0, z1, z2], dvL_ne hnz, ?_⟩
  have h1 := redL_back hnz
  rw [hc] at h1
  simp only [List.map_cons, List.map_nil, List.cons.injEq, and_true] at h1
  exact ⟨h1.1.symm, h1.2.1.symm, h1.2.2.symm, hc ▸ redL_ne hnz, hc ▸ dvL_red hnz⟩
theorem red3_redB {c0 c1 c2 : Int} (h : sgnL [c0, c1, c2] ≠ 0) (hd : dvL [c0, c1, c2] = 1) : redB [ofZ c0, ofZ c1, ofZ c2] = true := redB_closed [c0, c1, c2] ⟨h, hd⟩
theorem lag (a b c d e f p0 p1 p2 q0 q1 q2 : Int) : (b * f - c * e) * (p1 * q2 - p2 * q1) + (c * d - a * f) * (p2 * q0 - p0 * q2) + (a * e - b * d) * (p0 * q1 - p1 * q0) = (a * p0 + b * p1 + c * p2) * (d * q0 + e * q1 + f * q2) - (d * p0 + e * p1 + f * p2) * (a * q0 + b * q1 + c * q2) := by grind
theorem lines_eq {h0 h1 h2 h3 h4 h5 h6 h7 h8 p0 p1 p2 q0 q1 q2 l0 l1 l2 a0 a1 a2 b0 b1 b2 : Int} (hd : det3 h0 h1 h2 h3 h4 h5 h6 h7 h8 ≠ 0)
    (hL : sgnL [p1 * q2 - p2 * q1, p2 * q0 - p0 * q2, p0 * q1 - p1 * q0] ≠ 0) (el : redL [p1 * q2 - p2 * q1, p2 * q0 - p0 * q2, p0 * q1 - p1 * q0] = [l0, l1, l2])
    (hA : sgnL [h0 * p0 + h1 * p1 + h2 * p2, h3 * p0 + h4 * p1 + h5 * p2, h6 * p0 + h7 * p1 + h8 * p2] ≠ 0) (ea : redL [h0 * p0 + h1 * p1 + h2 * p2, h3 * p0 + h4 * p1 + h5 * p2, h6 * p0 + h7 * p1 + h8 * p2] = [a0, a1, a2])
    (hB : sgnL [h0 * q0 + h1 * q1 + h2 * q2, h3 * q0 + h4 * q1 + h5 * q2, h6 * q0 + h7 * q1 + h8 * q2] ≠ 0) (eb : redL [h0 * q0 + h1 * q1 + h2 * q2, h3 * q0 + h4 * q1 + h5 * q2, h6 * q0 + h7 * q1 + h8 * q2] = [b0, b1, b2]) :
    let M := [(h4 * h8 - h5 * h7) * l0 + (h5 * h6 - h3 * h8) * l1 + (h3 * h7 - h4 * h6) * l2, (h7 * h2 - h8 * h1) * l0 + (h8 * h0 - h6 * h2) * l1 + (h6 * h1 - h7 * h0) * l2, (h1 * h5 - h2 * h4) * l0 + (h2 * h3 - h0 * h5) * l1 + (h0 * h4 - h1 * h3) * l2]
    let N := [a1 * b2 - a2 * b1, a2 * b0 - a0 * b2, a0 * b1 - a1 * b0]
    sgnL M ≠ 0 ∧ sgnL N ≠ 0 ∧ redL N = redL M := by
  intro M N
  obtain ⟨dl, nl, x0, x1, x2, sl, _⟩ := red3_back hL el
  obtain ⟨da, na, y0, y1, y2, _, _⟩ := red3_back hA ea
  obtain ⟨db, nb, w0, w1, w2, _, _⟩ := red3_back hB eb
  have hM : sgnL M ≠ 0 := app_nz (cof_ne hd) sl
  have e : M.map (dl * ·) = N.map (da * db * ·) := by
    simp only [M, N, List.map_cons, List.map_nil, List.cons.injEq, and_true]
    refine ⟨?_, ?_, ?_⟩
    · have : da * db * (a1 * b2 - a2 * b1) = (da * a1) * (db * b2) - (da * a2) * (db * b1) := by grind
      rw [this, ← y1, ← y2, ← w1, ← w2]
      have : dl * ((h4 * h8 - h5 * h7) * l0 + (h5 * h6 - h3 * h8) * l1 + (h3 * h7 - h4 * h6) * l2) = (h4 * h8 - h5 * h7) * (dl * l0) + (h5 * h6 - h3 * h8) * (dl * l1) + (h3 * h7 - h4 * h6) * (dl * l2) := by grind
      rw [this, ← x0, ← x1, ← x2]; exact lag _ _ _ _ _ _ _ _ _ _ _ _
    · have : da * db * (a2 * b0 - a0 * b2) = (da * a2) * (db * b0) - (da * a0) * (db * b2) := by grind
      rw [this, ← y0, ← y2, ← w0, ← w2]
      have : dl * ((h7 * h2 - h8 * h1) * l0 + (h8 * h0 - h6 * h2) * l1 + (h6 * h1 - h7 * h0) * l2) = (h7 * h2 - h8 * h1) * (dl * l0) + (h8 * h0 - h6 * h2) * (dl * l1) + (h6 * h1 - h7 * h0) * (dl * l2) := by grind
      rw [this, ← x0, ← x1, ← x2]; exact lag _ _ _ _ _ _ _ _ _ _ _ _
    · have : da * db * (a0 * b1 - a1 * b0) = (da * a0) * (db * b1) - (da * a1) * (db * b0) := by grind
      rw [this, ← y0, ← y1, ← w0, ← w1]
      have : dl * ((h1 * h5 - h2 * h4) * l0 + (h2 * h3 - h0 * h5) * l1 + (h0 * h4 - h1 * h3) * l2) = (h1 * h5 - h2 * h4) * (dl * l0) + (h2 * h3 - h0 * h5) * (dl * l1) + (h0 * h4 - h1 * h3) * (dl * l2) := by grind
      rw [this, ← x0, ← x1, ← x2]; exact lag _ _ _ _ _ _ _ _ _ _ _ _
  have hab : da * db ≠ 0 := Int.mul_ne_zero na nb
  have hN := prop_nz hab nl e hM
  exact ⟨hM, hN, (prop_red hab nl e hM hN).symm⟩
theorem iok_ex {x : RInt} (h : short4 x = true) : ∃ z, toZ x = z ∧ IOk x z 4 := ⟨_, rfl, iok_short h⟩
theorem redB3 {x0 x1 x2 : RInt} {p0 p1 p2 : Int} (e0 : toZ x0 = p0) (e1 : toZ x1 = p1) (e2 : toZ x2 = p2) (h : redB [x0, x1, x2] = true) : sgnL [p0, p1, p2] ≠ 0 ∧ dvL [p0, p1, p2] = 1 ∧ (x0 = ofZ p0 ∧ x1 = ofZ p1 ∧ x2 = ofZ p2) ∧ validI x0 = true ∧ validI x1 = true ∧ validI x2 = true := by
  have h1 := redB_nz h
  have h2 := redB_one h
  have h3 := redB_val h
  simp only [List.map_cons, List.map_nil, e0, e1, e2] at h1 h2
  simp only [List.all_cons, List.all_nil, Bool.and_true, Bool.and_eq_true] at h3
  exact ⟨h1, h2, ⟨by rw [← e0, ofZ_toZ h3.1], by rw [← e1, ofZ_toZ h3.2.1], by rw [← e2, ofZ_toZ h3.2.2]⟩, h3⟩
theorem same_false {x y : RInt} (h : sameI x y = false) : x ≠ y := fun e => by rw [e, sameI_self] at h; cases h
end Go.Fid
