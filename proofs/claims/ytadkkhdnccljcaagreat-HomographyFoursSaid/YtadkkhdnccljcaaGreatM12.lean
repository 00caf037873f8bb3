/- Part 12 of a proof: rules, plain facts, and functions walked. -/
import Derived.Test.YtadkkhdnccljcaaGreatM11
set_option linter.unusedVariables false
set_option linter.unusedSimpArgs false
namespace Go.Fid
theorem sign_nz {k : Int} (h : signI k ≠ 0) : k ≠ 0 := fun e => h (by rw [e]; rfl)
theorem basis_abs {k0 k1 k2 k3 : Int} (hz : k0 * k1 * k2 * k3 = 0) (h0 : signI k0 ≠ 0) (h1 : signI k1 ≠ 0) (h2 : signI k2 ≠ 0) (h3 : signI k3 ≠ 0) : False :=
  Int.mul_ne_zero (Int.mul_ne_zero (Int.mul_ne_zero (sign_nz h0) (sign_nz h1)) (sign_nz h2)) (sign_nz h3) hz
theorem lbasis_abs {k0 k1 k2 k3 : Int} (hz : k0 * k1 * k2 * k3 = 0) (h : (((signI k0 == 0) || (signI k1 == 0)) || (signI k2 == 0) || (signI k3 == 0)) = false) : False := by
  simp only [Bool.or_eq_false_iff, beq_eq_false_iff_ne] at h
  exact basis_abs hz h.1.1.1 h.1.1.2 h.1.2 h.2
theorem inR_iff {x y : Int} (h : inR x y = true) : (-1048576 ≤ x ∧ x ≤ 1048576) ∧ (-1048576 ≤ y ∧ y ≤ 1048576) := by
  unfold inR at h
  simp only [Bool.and_eq_true, decide_eq_true_eq] at h
  exact ⟨⟨h.1.1.1, h.1.1.2⟩, h.1.2, h.2⟩
theorem inR4 {x y u v : Int} (h : (!(inR x y) || !(inR u v)) = false) : (-1048576 ≤ x ∧ x ≤ 1048576) ∧ (-1048576 ≤ y ∧ y ≤ 1048576) ∧ (-1048576 ≤ u ∧ u ≤ 1048576) ∧ (-1048576 ≤ v ∧ v ≤ 1048576) := by
  simp only [Bool.or_eq_false_iff, Bool.not_eq_false'] at h
  obtain ⟨a, b⟩ := inR_iff h.1
  obtain ⟨c, d⟩ := inR_iff h.2
  exact ⟨a, b, c, d⟩
theorem four_abs {a b c d e f g h : Bool} (hr : ((a && b) && (c && d) && (e && f) && (g && h)) = false) (h1 : (!a || !b) = false) (h2 : (!c || !d) = false) (h3 : (!e || !f) = false) (h4 : (!g || !h) = false) : False := by
  simp only [Bool.or_eq_false_iff, Bool.not_eq_false'] at h1 h2 h3 h4
  rw [h1.1, h1.2, h2.1, h2.2, h3.1, h3.2, h4.1, h4.2] at hr
  cases hr
def inC (z : Int) : Bool := !(decide (z < -1048576) || decide (1048576 < z))
def rgC (c : Int) (l : List Int) : Int := if l.all inC = true then c else 2
theorem rgC_bad {c : Int} {l : List Int} {j : Nat} (hj : j < l.length) (h : (decide (l.getD j 0 < -1048576) || decide (1048576 < l.getD j 0)) = true) : 2 = rgC c (l.take (j + 1)) := by
  unfold rgC
  rw [takeZ hj, List.all_append]
  have : inC (l.getD j 0) = false := by unfold inC; rw [h]; rfl
  simp only [List.all_cons, List.all_nil, this, Bool.false_and, Bool.and_false]
  rfl
theorem rgC_good {c x : Int} {l : List Int} {j : Nat} (hj : j < l.length) (hc : x = rgC c (l.take j)) (h : (decide (l.getD j 0 < -1048576) || decide (1048576 < l.getD j 0)) = false) : x = rgC c (l.take (j + 1)) := by
  rw [hc]
  unfold rgC
  rw [takeZ hj, List.all_append]
  have : inC (l.getD j 0) = true := by unfold inC; rw [h]; rfl
  simp only [List.all_cons, List.all_nil, this, Bool.and_true]
theorem inC_iff {z : Int} : inC z = (decide (-1048576 ≤ z) && decide (z ≤ 1048576)) := by
  unfold inC
  rw [Bool.eq_iff_iff]
  simp only [Bool.not_eq_true', Bool.or_eq_false_iff, decide_eq_false_iff_not, Bool.and_eq_true, decide_eq_true_eq]
  omega
theorem rgC_in (c x y u v : Int) : rgC c [x, y, u, v] = if (inR x y && inR u v) = true then c else 2 := by
  unfold rgC inR
  simp only [List.all_cons, List.all_nil, Bool.and_true, inC_iff, Bool.and_assoc]
theorem rg_all {x0 y0 u0 v0 x1 y1 u1 v1 x2 y2 u2 v2 x3 y3 u3 v3 : Int} (h : ((inR x0 y0 && inR u0 v0) && (inR x1 y1 && inR u1 v1) && (inR x2 y2 && inR u2 v2) && (inR x3 y3 && inR u3 v3)) = false) :
    2 = rgC (rgC (rgC (rgC 0 [x0, y0, u0, v0]) [x1, y1, u1, v1]) [x2, y2, u2, v2]) [x3, y3, u3, v3] := by
  rw [rgC_in, rgC_in, rgC_in, rgC_in]
  generalize (inR x0 y0 && inR u0 v0) = a at *
  generalize (inR x1 y1 && inR u1 v1) = b at *
  generalize (inR x2 y2 && inR u2 v2) = c at *
  generalize (inR x3 y3 && inR u3 v3) = d at *
  revert h
  cases a <;> cases b <;> cases c <;> cases d <;> intro h <;> first | (simp; done) | simp at h
theorem adj_row0 (a0 a1 a2 a3 a4 a5 a6 a7 a8 w0 w1 w2 : Int) : (a4 * a8 - a5 * a7) * (a0 * w0 + a1 * w1 + a2 * w2) + (a7 * a2 - a8 * a1) * (a3 * w0 + a4 * w1 + a5 * w2) + (a1 * a5 - a2 * a4) * (a6 * w0 + a7 * w1 + a8 * w2) = det3 a0 a1 a2 a3 a4 a5 a6 a7 a8 * w0 := by unfold det3; grind
theorem adj_row1 (a0 a1 a2 a3 a4 a5 a6 a7 a8 w0 w1 w2 : Int) : (a5 * a6 - a3 * a8) * (a0 * w0 + a1 * w1 + a2 * w2) + (a8 * a0 - a6 * a2) * (a3 * w0 + a4 * w1 + a5 * w2) + (a2 * a3 - a0 * a5) * (a6 * w0 + a7 * w1 + a8 * w2) = det3 a0 a1 a2 a3 a4 a5 a6 a7 a8 * w1 := by unfold det3; grind
theorem adj_row2 (a0 a1 a2 a3 a4 a5 a6 a7 a8 w0 w1 w2 : Int) : (a3 * a7 - a4 * a6) * (a0 * w0 + a1 * w1 + a2 * w2) + (a6 * a1 - a7 * a0) * (a3 * w0 + a4 * w1 + a5 * w2) + (a0 * a4 - a1 * a3) * (a6 * w0 + a7 * w1 + a8 * w2) = det3 a0 a1 a2 a3 a4 a5 a6 a7 a8 * w2 := by unfold det3; grind
theorem img_lin (b0 b1 b2 t0 t1 t2 t3 t4 t5 t6 t7 t8 u0 u1 u2 : Int) : (b0 * t0 + b1 * t3 + b2 * t6) * u0 + (b0 * t1 + b1 * t4 + b2 * t7) * u1 + (b0 * t2 + b1 * t5 + b2 * t8) * u2 = b0 * (t0 * u0 + t1 * u1 + t2 * u2) + b1 * (t3 * u0 + t4 * u1 + t5 * u2) + b2 * (t6 * u0 + t7 * u1 + t8 * u2) := by grind
theorem img_of0 (a0 a1 a2 a3 a4 a5 a6 a7 a8 b0 b1 b2 b3 b4 b5 b6 b7 b8 w0 w1 w2 : Int) : (b0 * (a4 * a8 - a5 * a7) + b1 * (a5 * a6 - a3 * a8) + b2 * (a3 * a7 - a4 * a6)) * (a0 * w0 + a1 * w1 + a2 * w2) + (b0 * (a7 * a2 - a8 * a1) + b1 * (a8 * a0 - a6 * a2) + b2 * (a6 * a1 - a7 * a0)) * (a3 * w0 + a4 * w1 + a5 * w2) + (b0 * (a1 * a5 - a2 * a4) + b1 * (a2 * a3 - a0 * a5) + b2 * (a0 * a4 - a1 * a3)) * (a6 * w0 + a7 * w1 + a8 * w2) = det3 a0 a1 a2 a3 a4 a5 a6 a7 a8 * (b0 * w0 + b1 * w1 + b2 * w2) := by
  rw [img_lin, adj_row0, adj_row1, adj_row2]; grind
theorem img_of1 (a0 a1 a2 a3 a4 a5 a6 a7 a8 b0 b1 b2 b3 b4 b5 b6 b7 b8 w0 w1 w2 : Int) : (b3 * (a4 * a8 - a5 * a7) + b4 * (a5 * a6 - a3 * a8) + b5 * (a3 * a7 - a4 * a6)) * (a0 * w0 + a1 * w1 + a2 * w2) + (b3 * (a7 * a2 - a8 * a1) + b4 * (a8 * a0 - a6 * a2) + b5 * (a6 * a1 - a7 * a0)) * (a3 * w0 + a4 * w1 + a5 * w2) + (b3 * (a1 * a5 - a2 * a4) + b4 * (a2 * a3 - a0 * a5) + b5 * (a0 * a4 - a1 * a3)) * (a6 * w0 + a7 * w1 + a8 * w2) = det3 a0 a1 a2 a3 a4 a5 a6 a7 a8 * (b3 * w0 + b4 * w1 + b5 * w2) := by
  rw [img_lin, adj_row0, adj_row1, adj_row2]; grind
theorem img_of2 (a0 a1 a2 a3 a4 a5 a6 a7 a8 b0 b1 b2 b3 b4 b5 b6 b7 b8 w0 w1 w2 : Int) : (b6 * (a4 * a8 - a5 * a7) + b7 * (a5 * a6 - a3 * a8) + b8 * (a3 * a7 - a4 * a6)) * (a0 * w0 + a1 * w1 + a2 * w2) + (b6 * (a7 * a2 - a8 * a1) + b7 * (a8 * a0 - a6 * a2) + b8 * (a6 * a1 - a7 * a0)) * (a3 * w0 + a4 * w1 + a5 * w2) + (b6 * (a1 * a5 - a2 * a4) + b7 * (a2 * a3 - a0 * a5) + b8 * (a0 * a4 - a1 * a3)) * (a6 * w0 + a7 * w1 + a8 * w2) = det3 a0 a1 a2 a3 a4 a5 a6 a7 a8 * (b6 * w0 + b7 * w1 + b8 * w2) := by
  rw [img_lin, adj_row0, adj_row1, adj_row2]; grind
theorem cramer (p0 p1 p2 q0 q1 q2 r0 r1 r2 s0 s1 s2 : Int) :
    det3 s0 s1 s2 q0 q1 q2 r0 r1 r2 * p0 + det3 p0 p1 p2 s0 s1 s2 r0 r1 r2 * q0 + det3 p0 p1 p2 q0 q1 q2 s0 s1 s2 * r0 = det3 p0 p1 p2 q0 q1 q2 r0 r1 r2 * s0 ∧
    det3 s0 s1 s2 q0 q1 q2 r0 r1 r2 * p1 + det3 p0 p1 p2 s0 s1 s2 r0 r1 r2 * q1 + det3 p0 p1 p2 q0 q1 q2 s0 s1 s2 * r1 = det3 p0 p1 p2 q0 q1 q2 r0 r1 r2 * s1 ∧
    det3 s0 s1 s2 q0 q1 q2 r0 r1 r2 * p2 + det3 p0 p1 p2 s0 s1 s2 r0 r1 r2 * q2 + det3 p0 p1 p2 q0 q1 q2 s0 s1 s2 * r2 = det3 p0 p1 p2 q0 q1 q2 r0 r1 r2 * s2 := by
  refine ⟨?_, ?_, ?_⟩ <;> (unfold det3; grind)
theorem det_scale3 (d e f a0 a1 a2 b0 b1 b2 c0 c1 c2 : Int) : det3 (d * a0) (d * a1) (d * a2) (e * b0) (e * b1) (e * b2) (f * c0) (f * c1) (f * c2) = d * e * f * det3 a0 a1 a2 b0 b1 b2 c0 c1 c2 := by unfold det3; grind
theorem bas_det (k0 k1 k2 p0 p1 p2 q0 q1 q2 r0 r1 r2 : Int) : det3 (k0 * p0) (k1 * q0) (k2 * r0) (k0 * p1) (k1 * q1) (k2 * r1) (k0 * p2) (k1 * q2) (k2 * r2) = k0 * k1 * k2 * det3 p0 p1 p2 q0 q1 q2 r0 r1 r2 := by unfold det3; grind
theorem side_red {x0 x1 x2 x3 y0 y1 y2 y3 f0 f1 f2 g0 g1 g2 h0 h1 h2 i0 i1 i2 : Int} (hf : redL [x0, y0, 1] = [f0, f1, f2]) (hg : redL [x1, y1, 1] = [g0, g1, g2]) (hh : redL [x2, y2, 1] = [h0, h1, h2]) (hi : redL [x3, y3, 1] = [i0, i1, i2]) :
    ((det3 i0 i1 i2 g0 g1 g2 h0 h1 h2 = 0 ↔ det3 x3 y3 1 x1 y1 1 x2 y2 1 = 0) ∧ (det3 f0 f1 f2 i0 i1 i2 h0 h1 h2 = 0 ↔ det3 x0 y0 1 x3 y3 1 x2 y2 1 = 0) ∧ (det3 f0 f1 f2 g0 g1 g2 i0 i1 i2 = 0 ↔ det3 x0 y0 1 x1 y1 1 x3 y3 1 = 0) ∧ (det3 f0 f1 f2 g0 g1 g2 h0 h1 h2 = 0 ↔ det3 x0 y0 1 x1 y1 1 x2 y2 1 = 0)) ∧ (∃ D : Int, D ≠ 0 ∧ D * ((det3 i0 i1 i2 g0 g1 g2 h0 h1 h2) * f0) = (det3 x3 y3 1 x1 y1 1 x2 y2 1) * x0 ∧ D * ((det3 f0 f1 f2 i0 i1 i2 h0 h1 h2) * g0) = (det3 x0 y0 1 x3 y3 1 x2 y2 1) * x1 ∧ D * ((det3 f0 f1 f2 g0 g1 g2 i0 i1 i2) * h0) = (det3 x0 y0 1 x1 y1 1 x3 y3 1) * x2 ∧ D * ((det3 i0 i1 i2 g0 g1 g2 h0 h1 h2) * f1) = (det3 x3 y3 1 x1 y1 1 x2 y2 1) * y0 ∧ D * ((det3 f0 f1 f2 i0 i1 i2 h0 h1 h2) * g1) = (det3 x0 y0 1 x3 y3 1 x2 y2 1) * y1 ∧ D * ((det3 f0 f1 f2 g0 g1 g2 i0 i1 i2) * h1) = (det3 x0 y0 1 x1 y1 1 x3 y3 1) * y2 ∧ D * ((det3 i0 i1 i2 g0 g1 g2 h0 h1 h2) * f2) = (det3 x3 y3 1 x1 y1 1 x2 y2 1) * 1 ∧ D * ((det3 f0 f1 f2 i0 i1 i2 h0 h1 h2) * g2) = (det3 x0 y0 1 x3 y3 1 x2 y2 1) * 1 ∧ D * ((det3 f0 f1 f2 g0 g1 g2 i0 i1 i2) * h2) = (det3 x0 y0 1 x1 y1 1 x3 y3 1) * 1) := by
  obtain ⟨d0, n0, ex0, ey0, ez0, _, _⟩ := red3_back (one_nz x0 y0) hf
  obtain ⟨d1, n1, ex1, ey1, ez1, _, _⟩ := red3_back (one_nz x1 y1) hg
  obtain ⟨d2, n2, ex2, ey2, ez2, _, _⟩ := red3_back (one_nz x2 y2) hh
  obtain ⟨d3, n3, ex3, ey3, ez3, _, _⟩ := red3_back (one_nz x3 y3) hi
  have K0 : det3 x3 y3 1 x1 y1 1 x2 y2 1 = d3 * d1 * d2 * det3 i0 i1 i2 g0 g1 g2 h0 h1 h2 := by rw [← det_scale3, ← ex3, ← ey3, ← ez3, ← ex1, ← ey1, ← ez1, ← ex2, ← ey2, ← ez2]
  have K1 : det3 x0 y0 1 x3 y3 1 x2 y2 1 = d0 * d3 * d2 * det3 f0 f1 f2 i0 i1 i2 h0 h1 h2 := by rw [← det_scale3, ← ex0, ← ey0, ← ez0, ← ex3, ← ey3, ← ez3, ← ex2, ← ey2, ← ez2]
  have K2 : det3 x0 y0 1 x1 y1 1 x3 y3 1 = d0 * d1 * d3 * det3 f0 f1 f2 g0 g1 g2 i0 i1 i2 := by rw [← det_scale3, ← ex0, ← ey0, ← ez0, ← ex1, ← ey1, ← ez1, ← ex3, ← ey3, ← ez3]
  have K3 : det3 x0 y0 1 x1 y1 1 x2 y2 1 = d0 * d1 * d2 * det3 f0 f1 f2 g0 g1 g2 h0 h1 h2 := by rw [← det_scale3, ← ex0, ← ey0, ← ez0, ← ex1, ← ey1, ← ez1, ← ex2, ← ey2, ← ez2]
  refine ⟨⟨?_, ?_, ?_, ?_⟩, d0 * d1 * d2 * d3, Int.mul_ne_zero (Int.mul_ne_zero (Int.mul_ne_zero n0 n1) n2) n3, ?_, ?_, ?_, ?_, ?_, ?_, ?_, ?_, ?_⟩
  · rw [K0]; exact ⟨fun e => by rw [e, Int.mul_zero], fun e => mul_zero_of (Int.mul_ne_zero (Int.mul_ne_zero n3 n1) n2) e⟩
  · rw [K1]; exact ⟨fun e => by rw [e, Int.mul_zero], fun e => mul_zero_of (Int.mul_ne_zero (Int.mul_ne_zero n0 n3) n2) e⟩
  · rw [K2]; exact ⟨fun e => by rw [e, Int.mul_zero], fun e => mul_zero_of (Int.mul_ne_zero (Int.mul_ne_zero n0 n1) n3) e⟩
  · rw [K3]; exact ⟨fun e => by rw [e, Int.mul_zero], fun e => mul_zero_of (Int.mul_ne_zero (Int.mul_ne_zero n0 n1) n2) e⟩
  · rw [K0, ex0]; grind
  · rw [K1, ex1]; grind
  · rw [K2, ex2]; grind
  · rw [K0, ey0]; grind
  · rw [K1, ey1]; grind
  · rw [K2, ey2]; grind
  · rw [K0]; conv => rhs; rw [ez0]
    grind
  · rw [K1]; conv => rhs; rw [ez1]
    grind
  · rw [K2]; conv => rhs; rw [ez2]
    grind
theorem ring_img {ρ c0 c1 c2 κ d f0 f1 f2 δ m q : Int} (h : ρ * c0 * (κ * (d * f0)) + ρ * c1 * (κ * (d * f1)) + ρ * c2 * (κ * (d * f2)) = δ * (m * q)) : ρ * d * κ * (c0 * f0 + c1 * f1 + c2 * f2) = δ * m * q := by
  rw [Int.mul_assoc δ, ← h]; grind
theorem ring_sc1 {β α γ b0 b1 b2 e0 e1 e2 t0 t1 t2 : Int} (h0 : γ * e0 = t0) (h1 : γ * e1 = t1) (h2 : γ * e2 = t2) : β * α * α * γ * (b0 * e0 + b1 * e1 + b2 * e2) = β * α * α * (b0 * t0 + b1 * t1 + b2 * t2) := by
  subst h0; subst h1; subst h2; grind
theorem ring_sc2 (β α b0 b1 b2 p q r s t u v w x y z k : Int) : β * α * α * (b0 * (p * q - r * s) + b1 * (t * u - v * w) + b2 * (x * y - z * k)) = β * b0 * (α * p * (α * q) - α * r * (α * s)) + β * b1 * (α * t * (α * u) - α * v * (α * w)) + β * b2 * (α * x * (α * y) - α * z * (α * k)) := by grind
theorem four_imgs {a0 a1 a2 a3 a4 a5 a6 a7 a8 b0 b1 b2 b3 b4 b5 b6 b7 b8 c0 c1 c2 c3 c4 c5 c6 c7 c8 ρ d κ f0 f1 f2 w0 w1 w2 m q0 q1 q2 : Int} (hc0 : ρ * c0 = b0 * (a4 * a8 - a5 * a7) + b1 * (a5 * a6 - a3 * a8) + b2 * (a3 * a7 - a4 * a6)) (hc1 : ρ * c1 = b0 * (a7 * a2 - a8 * a1) + b1 * (a8 * a0 - a6 * a2) + b2 * (a6 * a1 - a7 * a0)) (hc2 : ρ * c2 = b0 * (a1 * a5 - a2 * a4) + b1 * (a2 * a3 - a0 * a5) + b2 * (a0 * a4 - a1 * a3)) (hc3 : ρ * c3 = b3 * (a4 * a8 - a5 * a7) + b4 * (a5 * a6 - a3 * a8) + b5 * (a3 * a7 - a4 * a6)) (hc4 : ρ * c4 = b3 * (a7 * a2 - a8 * a1) + b4 * (a8 * a0 - a6 * a2) + b5 * (a6 * a1 - a7 * a0)) (hc5 : ρ * c5 = b3 * (a1 * a5 - a2 * a4) + b4 * (a2 * a3 - a0 * a5) + b5 * (a0 * a4 - a1 * a3)) (hc6 : ρ * c6 = b6 * (a4 * a8 - a5 * a7) + b7 * (a5 * a6 - a3 * a8) + b8 * (a3 * a7 - a4 * a6)) (hc7 : ρ * c7 = b6 * (a7 * a2 - a8 * a1) + b7 * (a8 * a0 - a6 * a2) + b8 * (a6 * a1 - a7 * a0)) (hc8 : ρ * c8 = b6 * (a1 * a5 - a2 * a4) + b7 * (a2 * a3 - a0 * a5) + b8 * (a0 * a4 - a1 * a3)) (hw0 : a0 * w0 + a1 * w1 + a2 * w2 = κ * (d * f0)) (hw1 : a3 * w0 + a4 * w1 + a5 * w2 = κ * (d * f1)) (hw2 : a6 * w0 + a7 * w1 + a8 * w2 = κ * (d * f2)) (hz0 : b0 * w0 + b1 * w1 + b2 * w2 = m * q0) (hz1 : b3 * w0 + b4 * w1 + b5 * w2 = m * q1) (hz2 : b6 * w0 + b7 * w1 + b8 * w2 = m * q2) :
    ρ * d * κ * (c0 * f0 + c1 * f1 + c2 * f2) = det3 a0 a1 a2 a3 a4 a5 a6 a7 a8 * m * q0 ∧ ρ * d * κ * (c3 * f0 + c4 * f1 + c5 * f2) = det3 a0 a1 a2 a3 a4 a5 a6 a7 a8 * m * q1 ∧ ρ * d * κ * (c6 * f0 + c7 * f1 + c8 * f2) = det3 a0 a1 a2 a3 a4 a5 a6 a7 a8 * m * q2 := by
  refine ⟨?_, ?_, ?_⟩
  · have h := img_of0 a0 a1 a2 a3 a4 a5 a6 a7 a8 b0 b1 b2 b3 b4 b5 b6 b7 b8 w0 w1 w2
    rw [hw0, hw1, hw2, hz0, ← hc0, ← hc1, ← hc2] at h
    exact ring_img h
  · have h := img_of1 a0 a1 a2 a3 a4 a5 a6 a7 a8 b0 b1 b2 b3 b4 b5 b6 b7 b8 w0 w1 w2
    rw [hw0, hw1, hw2, hz1, ← hc3, ← hc4, ← hc5] at h
    exact ring_img h
  · have h := img_of2 a0 a1 a2 a3 a4 a5 a6 a7 a8 b0 b1 b2 b3 b4 b5 b6 b7 b8 w0 w1 w2
    rw [hw0, hw1, hw2, hz2, ← hc6, ← hc7, ← hc8] at h
    exact ring_img h
theorem four_scale {a_0 a_1 a_2 a_3 a_4 a_5 a_6 a_7 a_8 b_0 b_1 b_2 b_3 b_4 b_5 b_6 b_7 b_8 α β γ e0 e1 e2 e3 e4 e5 e6 e7 e8 : Int} (he0 : γ * e0 = a_4 * a_8 - a_5 * a_7) (he1 : γ * e1 = a_7 * a_2 - a_8 * a_1) (he2 : γ * e2 = a_1 * a_5 - a_2 * a_4) (he3 : γ * e3 = a_5 * a_6 - a_3 * a_8) (he4 : γ * e4 = a_8 * a_0 - a_6 * a_2) (he5 : γ * e5 = a_2 * a_3 - a_0 * a_5) (he6 : γ * e6 = a_3 * a_7 - a_4 * a_6) (he7 : γ * e7 = a_6 * a_1 - a_7 * a_0) (he8 : γ * e8 = a_0 * a_4 - a_1 * a_3) : (β * α * α * γ * (b_0 * e0 + b_1 * e3 + b_2 * e6) = (β * b_0) * ((α * a_4) * (α * a_8) - (α * a_5) * (α * a_7)) + (β * b_1) * ((α * a_5) * (α * a_6) - (α * a_3) * (α * a_8)) + (β * b_2) * ((α * a_3) * (α * a_7) - (α * a_4) * (α * a_6)) ∧ β * α * α * γ * (b_0 * e1 + b_1 * e4 + b_2 * e7) = (β * b_0) * ((α * a_7) * (α * a_2) - (α * a_8) * (α * a_1)) + (β * b_1) * ((α * a_8) * (α * a_0) - (α * a_6) * (α * a_2)) + (β * b_2) * ((α * a_6) * (α * a_1) - (α * a_7) * (α * a_0)) ∧ β * α * α * γ * (b_0 * e2 + b_1 * e5 + b_2 * e8) = (β * b_0) * ((α * a_1) * (α * a_5) - (α * a_2) * (α * a_4)) + (β * b_1) * ((α * a_2) * (α * a_3) - (α * a_0) * (α * a_5)) + (β * b_2) * ((α * a_0) * (α * a_4) - (α * a_1) * (α * a_3)) ∧ β * α * α * γ * (b_3 * e0 + b_4 * e3 + b_5 * e6) = (β * b_3) * ((α * a_4) * (α * a_8) - (α * a_5) * (α * a_7)) + (β * b_4) * ((α * a_5) * (α * a_6) - (α * a_3) * (α * a_8)) + (β * b_5) * ((α * a_3) * (α * a_7) - (α * a_4) * (α * a_6)) ∧ β * α * α * γ * (b_3 * e1 + b_4 * e4 + b_5 * e7) = (β * b_3) * ((α * a_7) * (α * a_2) - (α * a_8) * (α * a_1)) + (β * b_4) * ((α * a_8) * (α * a_0) - (α * a_6) * (α * a_2)) + (β * b_5) * ((α * a_6) * (α * a_1) - (α * a_7) * (α * a_0)) ∧ β * α * α * γ * (b_3 * e2 + b_4 * e5 + b_5 * e8) = (β * b_3) * ((α * a_1) * (α * a_5) - (α * a_2) * (α * a_4)) + (β * b_4) * ((α * a_2) * (α * a_3) - (α * a_0) * (α * a_5)) + (β * b_5) * ((α * a_0) * (α * a_4) - (α * a_1) * (α * a_3)) ∧ β * α * α * γ * (b_6 * e0 + b_7 * e3 + b_8 * e6) = (β * b_6) * ((α * a_4) * (α * a_8) - (α * a_5) * (α * a_7)) + (β * b_7) * ((α * a_5) * (α * a_6) - (α * a_3) * (α * a_8)) + (β * b_8) * ((α * a_3) * (α * a_7) - (α * a_4) * (α * a_6)) ∧ β * α * α * γ * (b_6 * e1 + b_7 * e4 + b_8 * e7) = (β * b_6) * ((α * a_7) * (α * a_2) - (α * a_8) * (α * a_1)) + (β * b_7) * ((α * a_8) * (α * a_0) - (α * a_6) * (α * a_2)) + (β * b_8) * ((α * a_6) * (α * a_1) - (α * a_7) * (α * a_0)) ∧ β * α * α * γ * (b_6 * e2 + b_7 * e5 + b_8 * e8) = (β * b_6) * ((α * a_1) * (α * a_5) - (α * a_2) * (α * a_4)) + (β * b_7) * ((α * a_2) * (α * a_3) - (α * a_0) * (α * a_5)) + (β * b_8) * ((α * a_0) * (α * a_4) - (α * a_1) * (α * a_3))) := by
  refine ⟨?_, ?_, ?_, ?_, ?_, ?_, ?_, ?_, ?_⟩
  · exact (ring_sc1 he0 he3 he6).trans (ring_sc2 _ _ _ _ _ _ _ _ _ _ _ _ _ _ _ _ _)
  · exact (ring_sc1 he1 he4 he7).trans (ring_sc2 _ _ _ _ _ _ _ _ _ _ _ _ _ _ _ _ _)
  · exact (ring_sc1 he2 he5 he8).trans (ring_sc2 _ _ _ _ _ _ _ _ _ _ _ _ _ _ _ _ _)
  · exact (ring_sc1 he0 he3 he6).trans (ring_sc2 _ _ _ _ _ _ _ _ _ _ _ _ _ _ _ _ _)
  · exact (ring_sc1 he1 he4 he7).trans (ring_sc2 _ _ _ _ _ _ _ _ _ _ _ _ _ _ _ _ _)
  · exact (ring_sc1 he2 he5 he8).trans (ring_sc2 _ _ _ _ _ _ _ _ _ _ _ _ _ _ _ _ _)
  · exact (ring_sc1 he0 he3 he6).trans (ring_sc2 _ _ _ _ _ _ _ _ _ _ _ _ _ _ _ _ _)
  · exact (ring_sc1 he1 he4 he7).trans (ring_sc2 _ _ _ _ _ _ _ _ _ _ _ _ _ _ _ _ _)
  · exact (ring_sc1 he2 he5 he8).trans (ring_sc2 _ _ _ _ _ _ _ _ _ _ _ _ _ _ _ _ _)
theorem four_one {x0 x1 x2 x3 y0 y1 y2 y3 u0 u1 u2 u3 v0 v1 v2 v3 f0 f1 f2 g0 g1 g2 h0 h1 h2 i0 i1 i2 p0 p1 p2 q0 q1 q2 s0 s1 s2 t0 t1 t2 k0 k1 k2 k3 m0 m1 m2 m3 a0 a1 a2 a3 a4 a5 a6 a7 a8 b0 b1 b2 b3 b4 b5 b6 b7 b8 : Int} (hf : redL [x0, y0, 1] = [f0, f1, f2]) (hg : redL [x1, y1, 1] = [g0, g1, g2]) (hh : redL [x2, y2, 1] = [h0, h1, h2]) (hi : redL [x3, y3, 1] = [i0, i1, i2]) (hp : redL [u0, v0, 1] = [p0, p1, p2]) (hq : redL [u1, v1, 1] = [q0, q1, q2]) (hs : redL [u2, v2, 1] = [s0, s1, s2]) (ht : redL [u3, v3, 1] = [t0, t1, t2]) (hk0 : det3 x3 y3 1 x1 y1 1 x2 y2 1 = k0) (hk1 : det3 x0 y0 1 x3 y3 1 x2 y2 1 = k1) (hk2 : det3 x0 y0 1 x1 y1 1 x3 y3 1 = k2) (hk3 : det3 x0 y0 1 x1 y1 1 x2 y2 1 = k3) (hm0 : det3 u3 v3 1 u1 v1 1 u2 v2 1 = m0) (hm1 : det3 u0 v0 1 u3 v3 1 u2 v2 1 = m1) (hm2 : det3 u0 v0 1 u1 v1 1 u3 v3 1 = m2) (hm3 : det3 u0 v0 1 u1 v1 1 u2 v2 1 = m3) (ha0 : k0 * x0 = a0) (ha1 : k1 * x1 = a1) (ha2 : k2 * x2 = a2) (ha3 : k0 * y0 = a3) (ha4 : k1 * y1 = a4) (ha5 : k2 * y2 = a5) (ha6 : k0 * 1 = a6) (ha7 : k1 * 1 = a7) (ha8 : k2 * 1 = a8) (hb0 : m0 * u0 = b0) (hb1 : m1 * u1 = b1) (hb2 : m2 * u2 = b2) (hb3 : m0 * v0 = b3) (hb4 : m1 * v1 = b4) (hb5 : m2 * v2 = b5) (hb6 : m0 * 1 = b6) (hb7 : m1 * 1 = b7) (hb8 : m2 * 1 = b8) (nk0 : k0 ≠ 0) (nk1 : k1 ≠ 0) (nk2 : k2 ≠ 0) (nk3 : k3 ≠ 0) (nm0 : m0 ≠ 0) (nm1 : m1 ≠ 0) (nm2 : m2 ≠ 0) (nm3 : m3 ≠ 0) :
    det3 a0 a1 a2 a3 a4 a5 a6 a7 a8 = k0 * k1 * k2 * k3 ∧ det3 b0 b1 b2 b3 b4 b5 b6 b7 b8 = m0 * m1 * m2 * m3 ∧ (det3 i0 i1 i2 g0 g1 g2 h0 h1 h2 ≠ 0 ∧ det3 f0 f1 f2 i0 i1 i2 h0 h1 h2 ≠ 0 ∧ det3 f0 f1 f2 g0 g1 g2 i0 i1 i2 ≠ 0 ∧ det3 f0 f1 f2 g0 g1 g2 h0 h1 h2 ≠ 0 ∧ sgnL [det3 i0 i1 i2 g0 g1 g2 h0 h1 h2 * f0, det3 f0 f1 f2 i0 i1 i2 h0 h1 h2 * g0, det3 f0 f1 f2 g0 g1 g2 i0 i1 i2 * h0, det3 i0 i1 i2 g0 g1 g2 h0 h1 h2 * f1, det3 f0 f1 f2 i0 i1 i2 h0 h1 h2 * g1, det3 f0 f1 f2 g0 g1 g2 i0 i1 i2 * h1, det3 i0 i1 i2 g0 g1 g2 h0 h1 h2 * f2, det3 f0 f1 f2 i0 i1 i2 h0 h1 h2 * g2, det3 f0 f1 f2 g0 g1 g2 i0 i1 i2 * h2] ≠ 0 ∧ signI (det3 (det3 i0 i1 i2 g0 g1 g2 h0 h1 h2 * f0) (det3 f0 f1 f2 i0 i1 i2 h0 h1 h2 * g0) (det3 f0 f1 f2 g0 g1 g2 i0 i1 i2 * h0) (det3 i0 i1 i2 g0 g1 g2 h0 h1 h2 * f1) (det3 f0 f1 f2 i0 i1 i2 h0 h1 h2 * g1) (det3 f0 f1 f2 g0 g1 g2 i0 i1 i2 * h1) (det3 i0 i1 i2 g0 g1 g2 h0 h1 h2 * f2) (det3 f0 f1 f2 i0 i1 i2 h0 h1 h2 * g2) (det3 f0 f1 f2 g0 g1 g2 i0 i1 i2 * h2)) ≠ 0) ∧ (det3 t0 t1 t2 q0 q1 q2 s0 s1 s2 ≠ 0 ∧ det3 p0 p1 p2 t0 t1 t2 s0 s1 s2 ≠ 0 ∧ det3 p0 p1 p2 q0 q1 q2 t0 t1 t2 ≠ 0 ∧ det3 p0 p1 p2 q0 q1 q2 s0 s1 s2 ≠ 0 ∧ sgnL [det3 t0 t1 t2 q0 q1 q2 s0 s1 s2 * p0, det3 p0 p1 p2 t0 t1 t2 s0 s1 s2 * q0, det3 p0 p1 p2 q0 q1 q2 t0 t1 t2 * s0, det3 t0 t1 t2 q0 q1 q2 s0 s1 s2 * p1, det3 p0 p1 p2 t0 t1 t2 s0 s1 s2 * q1, det3 p0 p1 p2 q0 q1 q2 t0 t1 t2 * s1, det3 t0 t1 t2 q0 q1 q2 s0 s1 s2 * p2, det3 p0 p1 p2 t0 t1 t2 s0 s1 s2 * q2, det3 p0 p1 p2 q0 q1 q2 t0 t1 t2 * s2] ≠ 0 ∧ signI (det3 (det3 t0 t1 t2 q0 q1 q2 s0 s1 s2 * p0) (det3 p0 p1 p2 t0 t1 t2 s0 s1 s2 * q0) (det3 p0 p1 p2 q0 q1 q2 t0 t1 t2 * s0) (det3 t0 t1 t2 q0 q1 q2 s0 s1 s2 * p1) (det3 p0 p1 p2 t0 t1 t2 s0 s1 s2 * q1) (det3 p0 p1 p2 q0 q1 q2 t0 t1 t2 * s1) (det3 t0 t1 t2 q0 q1 q2 s0 s1 s2 * p2) (det3 p0 p1 p2 t0 t1 t2 s0 s1 s2 * q2) (det3 p0 p1 p2 q0 q1 q2 t0 t1 t2 * s2)) ≠ 0) ∧ sgnL [b0 * (a4 * a8 - a5 * a7) + b1 * (a5 * a6 - a3 * a8) + b2 * (a3 * a7 - a4 * a6), b0 * (a7 * a2 - a8 * a1) + b1 * (a8 * a0 - a6 * a2) + b2 * (a6 * a1 - a7 * a0), b0 * (a1 * a5 - a2 * a4) + b1 * (a2 * a3 - a0 * a5) + b2 * (a0 * a4 - a1 * a3), b3 * (a4 * a8 - a5 * a7) + b4 * (a5 * a6 - a3 * a8) + b5 * (a3 * a7 - a4 * a6), b3 * (a7 * a2 - a8 * a1) + b4 * (a8 * a0 - a6 * a2) + b5 * (a6 * a1 - a7 * a0), b3 * (a1 * a5 - a2 * a4) + b4 * (a2 * a3 - a0 * a5) + b5 * (a0 * a4 - a1 * a3), b6 * (a4 * a8 - a5 * a7) + b7 * (a5 * a6 - a3 * a8) + b8 * (a3 * a7 - a4 * a6), b6 * (a7 * a2 - a8 * a1) + b7 * (a8 * a0 - a6 * a2) + b8 * (a6 * a1 - a7 * a0), b6 * (a1 * a5 - a2 * a4) + b7 * (a2 * a3 - a0 * a5) + b8 * (a0 * a4 - a1 * a3)] ≠ 0 := by
  have da : det3 a0 a1 a2 a3 a4 a5 a6 a7 a8 = k0 * k1 * k2 * k3 := by
    rw [← ha0, ← ha1, ← ha2, ← ha3, ← ha4, ← ha5, ← ha6, ← ha7, ← ha8, bas_det, hk3]
  have db : det3 b0 b1 b2 b3 b4 b5 b6 b7 b8 = m0 * m1 * m2 * m3 := by
    rw [← hb0, ← hb1, ← hb2, ← hb3, ← hb4, ← hb5, ← hb6, ← hb7, ← hb8, bas_det, hm3]
  have okF : det3 i0 i1 i2 g0 g1 g2 h0 h1 h2 ≠ 0 ∧ det3 f0 f1 f2 i0 i1 i2 h0 h1 h2 ≠ 0 ∧ det3 f0 f1 f2 g0 g1 g2 i0 i1 i2 ≠ 0 ∧ det3 f0 f1 f2 g0 g1 g2 h0 h1 h2 ≠ 0 ∧ sgnL [det3 i0 i1 i2 g0 g1 g2 h0 h1 h2 * f0, det3 f0 f1 f2 i0 i1 i2 h0 h1 h2 * g0, det3 f0 f1 f2 g0 g1 g2 i0 i1 i2 * h0, det3 i0 i1 i2 g0 g1 g2 h0 h1 h2 * f1, det3 f0 f1 f2 i0 i1 i2 h0 h1 h2 * g1, det3 f0 f1 f2 g0 g1 g2 i0 i1 i2 * h1, det3 i0 i1 i2 g0 g1 g2 h0 h1 h2 * f2, det3 f0 f1 f2 i0 i1 i2 h0 h1 h2 * g2, det3 f0 f1 f2 g0 g1 g2 i0 i1 i2 * h2] ≠ 0 ∧ signI (det3 (det3 i0 i1 i2 g0 g1 g2 h0 h1 h2 * f0) (det3 f0 f1 f2 i0 i1 i2 h0 h1 h2 * g0) (det3 f0 f1 f2 g0 g1 g2 i0 i1 i2 * h0) (det3 i0 i1 i2 g0 g1 g2 h0 h1 h2 * f1) (det3 f0 f1 f2 i0 i1 i2 h0 h1 h2 * g1) (det3 f0 f1 f2 g0 g1 g2 i0 i1 i2 * h1) (det3 i0 i1 i2 g0 g1 g2 h0 h1 h2 * f2) (det3 f0 f1 f2 i0 i1 i2 h0 h1 h2 * g2) (det3 f0 f1 f2 g0 g1 g2 i0 i1 i2 * h2)) ≠ 0 := by
    obtain ⟨⟨I0, I1, I2, I3⟩, D, hD, _⟩ := side_red hf hg hh hi
    have z0 : det3 i0 i1 i2 g0 g1 g2 h0 h1 h2 ≠ 0 := fun e => nk0 (hk0 ▸ I0.1 e)
    have z1 : det3 f0 f1 f2 i0 i1 i2 h0 h1 h2 ≠ 0 := fun e => nk1 (hk1 ▸ I1.1 e)
    have z2 : det3 f0 f1 f2 g0 g1 g2 i0 i1 i2 ≠ 0 := fun e => nk2 (hk2 ▸ I2.1 e)
    have z3 : det3 f0 f1 f2 g0 g1 g2 h0 h1 h2 ≠ 0 := fun e => nk3 (hk3 ▸ I3.1 e)
    have hd : det3 (det3 i0 i1 i2 g0 g1 g2 h0 h1 h2 * f0) (det3 f0 f1 f2 i0 i1 i2 h0 h1 h2 * g0) (det3 f0 f1 f2 g0 g1 g2 i0 i1 i2 * h0) (det3 i0 i1 i2 g0 g1 g2 h0 h1 h2 * f1) (det3 f0 f1 f2 i0 i1 i2 h0 h1 h2 * g1) (det3 f0 f1 f2 g0 g1 g2 i0 i1 i2 * h1) (det3 i0 i1 i2 g0 g1 g2 h0 h1 h2 * f2) (det3 f0 f1 f2 i0 i1 i2 h0 h1 h2 * g2) (det3 f0 f1 f2 g0 g1 g2 i0 i1 i2 * h2) ≠ 0 := by
      rw [bas_det]; exact Int.mul_ne_zero (Int.mul_ne_zero (Int.mul_ne_zero z0 z1) z2) z3
    exact ⟨z0, z1, z2, z3, det_nz9 hd, signI_ne hd⟩
  have okT : det3 t0 t1 t2 q0 q1 q2 s0 s1 s2 ≠ 0 ∧ det3 p0 p1 p2 t0 t1 t2 s0 s1 s2 ≠ 0 ∧ det3 p0 p1 p2 q0 q1 q2 t0 t1 t2 ≠ 0 ∧ det3 p0 p1 p2 q0 q1 q2 s0 s1 s2 ≠ 0 ∧ sgnL [det3 t0 t1 t2 q0 q1 q2 s0 s1 s2 * p0, det3 p0 p1 p2 t0 t1 t2 s0 s1 s2 * q0, det3 p0 p1 p2 q0 q1 q2 t0 t1 t2 * s0, det3 t0 t1 t2 q0 q1 q2 s0 s1 s2 * p1, det3 p0 p1 p2 t0 t1 t2 s0 s1 s2 * q1, det3 p0 p1 p2 q0 q1 q2 t0 t1 t2 * s1, det3 t0 t1 t2 q0 q1 q2 s0 s1 s2 * p2, det3 p0 p1 p2 t0 t1 t2 s0 s1 s2 * q2, det3 p0 p1 p2 q0 q1 q2 t0 t1 t2 * s2] ≠ 0 ∧ signI (det3 (det3 t0 t1 t2 q0 q1 q2 s0 s1 s2 * p0) (det3 p0 p1 p2 t0 t1 t2 s0 s1 s2 * q0) (det3 p0 p1 p2 q0 q1 q2 t0 t1 t2 * s0) (det3 t0 t1 t2 q0 q1 q2 s0 s1 s2 * p1) (det3 p0 p1 p2 t0 t1 t2 s0 s1 s2 * q1) (det3 p0 p1 p2 q0 q1 q2 t0 t1 t2 * s1) (det3 t0 t1 t2 q0 q1 q2 s0 s1 s2 * p2) (det3 p0 p1 p2 t0 t1 t2 s0 s1 s2 * q2) (det3 p0 p1 p2 q0 q1 q2 t0 t1 t2 * s2)) ≠ 0 := by
    obtain ⟨⟨I0, I1, I2, I3⟩, D, hD, _⟩ := side_red hp hq hs ht
    have z0 : det3 t0 t1 t2 q0 q1 q2 s0 s1 s2 ≠ 0 := fun e => nm0 (hm0 ▸ I0.1 e)
    have z1 : det3 p0 p1 p2 t0 t1 t2 s0 s1 s2 ≠ 0 := fun e => nm1 (hm1 ▸ I1.1 e)
    have z2 : det3 p0 p1 p2 q0 q1 q2 t0 t1 t2 ≠ 0 := fun e => nm2 (hm2 ▸ I2.1 e)
    have z3 : det3 p0 p1 p2 q0 q1 q2 s0 s1 s2 ≠ 0 := fun e => nm3 (hm3 ▸ I3.1 e)
    have hd : det3 (det3 t0 t1 t2 q0 q1 q2 s0 s1 s2 * p0) (det3 p0 p1 p2 t0 t1 t2 s0 s1 s2 * q0) (det3 p0 p1 p2 q0 q1 q2 t0 t1 t2 * s0) (det3 t0 t1 t2 q0 q1 q2 s0 s1 s2 * p1) (det3 p0 p1 p2 t0 t1 t2 s0 s1 s2 * q1) (det3 p0 p1 p2 q0 q1 q2 t0 t1 t2 * s1) (det3 t0 t1 t2 q0 q1 q2 s0 s1 s2 * p2) (det3 p0 p1 p2 t0 t1 t2 s0 s1 s2 * q2) (det3 p0 p1 p2 q0 q1 q2 t0 t1 t2 * s2) ≠ 0 := by
      rw [bas_det]; exact Int.mul_ne_zero (Int.mul_ne_zero (Int.mul_ne_zero z0 z1) z2) z3
    exact ⟨z0, z1, z2, z3, det_nz9 hd, signI_ne hd⟩
  have na : det3 a0 a1 a2 a3 a4 a5 a6 a7 a8 ≠ 0 := by rw [da]; exact Int.mul_ne_zero (Int.mul_ne_zero (Int.mul_ne_zero nk0 nk1) nk2) nk3
  have nb : det3 b0 b1 b2 b3 b4 b5 b6 b7 b8 ≠ 0 := by rw [db]; exact Int.mul_ne_zero (Int.mul_ne_zero (Int.mul_ne_zero nm0 nm1) nm2) nm3
  exact ⟨da, db, okF, okT, det_nz9 (det_prod_ne nb (adj_ne na))⟩
set_option maxHeartbeats 4000000 in
theorem four_two {x0 x1 x2 x3 y0 y1 y2 y3 u0 u1 u2 u3 v0 v1 v2 v3 f0 f1 f2 g0 g1 g2 h0 h1 h2 i0 i1 i2 p0 p1 p2 q0 q1 q2 s0 s1 s2 t0 t1 t2 k0 k1 k2 k3 m0 m1 m2 m3 a0 a1 a2 a3 a4 a5 a6 a7 a8 b0 b1 b2 b3 b4 b5 b6 b7 b8 a_0 a_1 a_2 a_3 a_4 a_5 a_6 a_7 a_8 b_0 b_1 b_2 b_3 b_4 b_5 b_6 b_7 b_8 e0 e1 e2 e3 e4 e5 e6 e7 e8 c0 c1 c2 c3 c4 c5 c6 c7 c8 : Int} (hf : redL [x0, y0, 1] = [f0, f1, f2]) (hg : redL [x1, y1, 1] = [g0, g1, g2]) (hh : redL [x2, y2, 1] = [h0, h1, h2]) (hi : redL [x3, y3, 1] = [i0, i1, i2]) (hp : redL [u0, v0, 1] = [p0, p1, p2]) (hq : redL [u1, v1, 1] = [q0, q1, q2]) (hs : redL [u2, v2, 1] = [s0, s1, s2]) (ht : redL [u3, v3, 1] = [t0, t1, t2]) (hk0 : det3 x3 y3 1 x1 y1 1 x2 y2 1 = k0) (hk1 : det3 x0 y0 1 x3 y3 1 x2 y2 1 = k1) (hk2 : det3 x0 y0 1 x1 y1 1 x3 y3 1 = k2) (hk3 : det3 x0 y0 1 x1 y1 1 x2 y2 1 = k3) (hm0 : det3 u3 v3 1 u1 v1 1 u2 v2 1 = m0) (hm1 : det3 u0 v0 1 u3 v3 1 u2 v2 1 = m1) (hm2 : det3 u0 v0 1 u1 v1 1 u3 v3 1 = m2) (hm3 : det3 u0 v0 1 u1 v1 1 u2 v2 1 = m3) (ha0 : k0 * x0 = a0) (ha1 : k1 * x1 = a1) (ha2 : k2 * x2 = a2) (ha3 : k0 * y0 = a3) (ha4 : k1 * y1 = a4) (ha5 : k2 * y2 = a5) (ha6 : k0 * 1 = a6) (ha7 : k1 * 1 = a7) (ha8 : k2 * 1 = a8) (hb0 : m0 * u0 = b0) (hb1 : m1 * u1 = b1) (hb2 : m2 * u2 = b2) (hb3 : m0 * v0 = b3) (hb4 : m1 * v1 = b4) (hb5 : m2 * v2 = b5) (hb6 : m0 * 1 = b6) (hb7 : m1 * 1 = b7) (hb8 : m2 * 1 = b8) (nk0 : k0 ≠ 0) (nk1 : k1 ≠ 0) (nk2 : k2 ≠ 0) (nk3 : k3 ≠ 0) (nm0 : m0 ≠ 0) (nm1 : m1 ≠ 0) (nm2 : m2 ≠ 0) (nm3 : m3 ≠ 0) (hA : redL [det3 i0 i1 i2 g0 g1 g2 h0 h1 h2 * f0, det3 f0 f1 f2 i0 i1 i2 h0 h1 h2 * g0, det3 f0 f1 f2 g0 g1 g2 i0 i1 i2 * h0, det3 i0 i1 i2 g0 g1 g2 h0 h1 h2 * f1, det3 f0 f1 f2 i0 i1 i2 h0 h1 h2 * g1, det3 f0 f1 f2 g0 g1 g2 i0 i1 i2 * h1, det3 i0 i1 i2 g0 g1 g2 h0 h1 h2 * f2, det3 f0 f1 f2 i0 i1 i2 h0 h1 h2 * g2, det3 f0 f1 f2 g0 g1 g2 i0 i1 i2 * h2] = [a_0, a_1, a_2, a_3, a_4, a_5, a_6, a_7, a_8]) (hB : redL [det3 t0 t1 t2 q0 q1 q2 s0 s1 s2 * p0, det3 p0 p1 p2 t0 t1 t2 s0 s1 s2 * q0, det3 p0 p1 p2 q0 q1 q2 t0 t1 t2 * s0, det3 t0 t1 t2 q0 q1 q2 s0 s1 s2 * p1, det3 p0 p1 p2 t0 t1 t2 s0 s1 s2 * q1, det3 p0 p1 p2 q0 q1 q2 t0 t1 t2 * s1, det3 t0 t1 t2 q0 q1 q2 s0 s1 s2 * p2, det3 p0 p1 p2 t0 t1 t2 s0 s1 s2 * q2, det3 p0 p1 p2 q0 q1 q2 t0 t1 t2 * s2] = [b_0, b_1, b_2, b_3, b_4, b_5, b_6, b_7, b_8]) (he : redL [a_4 * a_8 - a_5 * a_7, a_7 * a_2 - a_8 * a_1, a_1 * a_5 - a_2 * a_4, a_5 * a_6 - a_3 * a_8, a_8 * a_0 - a_6 * a_2, a_2 * a_3 - a_0 * a_5, a_3 * a_7 - a_4 * a_6, a_6 * a_1 - a_7 * a_0, a_0 * a_4 - a_1 * a_3] = [e0, e1, e2, e3, e4, e5, e6, e7, e8]) (hc : redL [b0 * (a4 * a8 - a5 * a7) + b1 * (a5 * a6 - a3 * a8) + b2 * (a3 * a7 - a4 * a6), b0 * (a7 * a2 - a8 * a1) + b1 * (a8 * a0 - a6 * a2) + b2 * (a6 * a1 - a7 * a0), b0 * (a1 * a5 - a2 * a4) + b1 * (a2 * a3 - a0 * a5) + b2 * (a0 * a4 - a1 * a3), b3 * (a4 * a8 - a5 * a7) + b4 * (a5 * a6 - a3 * a8) + b5 * (a3 * a7 - a4 * a6), b3 * (a7 * a2 - a8 * a1) + b4 * (a8 * a0 - a6 * a2) + b5 * (a6 * a1 - a7 * a0), b3 * (a1 * a5 - a2 * a4) + b4 * (a2 * a3 - a0 * a5) + b5 * (a0 * a4 - a1 * a3), b6 * (a4 * a8 - a5 * a7) + b7 * (a5 * a6 - a3 * a8) + b8 * (a3 * a7 - a4 * a6), b6 * (a7 * a2 - a8 * a1) + b7 * (a8 * a0 - a6 * a2) + b8 * (a6 * a1 - a7 * a0), b6 * (a1 * a5 - a2 * a4) + b7 * (a2 * a3 - a0 * a5) + b8 * (a0 * a4 - a1 * a3)] = [c0, c1, c2, c3, c4, c5, c6, c7, c8]) :
    sgnL [a_4 * a_8 - a_5 * a_7, a_7 * a_2 - a_8 * a_1, a_1 * a_5 - a_2 * a_4, a_5 * a_6 - a_3 * a_8, a_8 * a_0 - a_6 * a_2, a_2 * a_3 - a_0 * a_5, a_3 * a_7 - a_4 * a_6, a_6 * a_1 - a_7 * a_0, a_0 * a_4 - a_1 * a_3] ≠ 0 ∧ signI (det3 (a_4 * a_8 - a_5 * a_7) (a_7 * a_2 - a_8 * a_1) (a_1 * a_5 - a_2 * a_4) (a_5 * a_6 - a_3 * a_8) (a_8 * a_0 - a_6 * a_2) (a_2 * a_3 - a_0 * a_5) (a_3 * a_7 - a_4 * a_6) (a_6 * a_1 - a_7 * a_0) (a_0 * a_4 - a_1 * a_3)) ≠ 0 ∧ sgnL [b_0 * e0 + b_1 * e3 + b_2 * e6, b_0 * e1 + b_1 * e4 + b_2 * e7, b_0 * e2 + b_1 * e5 + b_2 * e8, b_3 * e0 + b_4 * e3 + b_5 * e6, b_3 * e1 + b_4 * e4 + b_5 * e7, b_3 * e2 + b_4 * e5 + b_5 * e8, b_6 * e0 + b_7 * e3 + b_8 * e6, b_6 * e1 + b_7 * e4 + b_8 * e7, b_6 * e2 + b_7 * e5 + b_8 * e8] ≠ 0 ∧ signI (det3 (b_0 * e0 + b_1 * e3 + b_2 * e6) (b_0 * e1 + b_1 * e4 + b_2 * e7) (b_0 * e2 + b_1 * e5 + b_2 * e8) (b_3 * e0 + b_4 * e3 + b_5 * e6) (b_3 * e1 + b_4 * e4 + b_5 * e7) (b_3 * e2 + b_4 * e5 + b_5 * e8) (b_6 * e0 + b_7 * e3 + b_8 * e6) (b_6 * e1 + b_7 * e4 + b_8 * e7) (b_6 * e2 + b_7 * e5 + b_8 * e8)) ≠ 0 ∧ redL [b_0 * e0 + b_1 * e3 + b_2 * e6, b_0 * e1 + b_1 * e4 + b_2 * e7, b_0 * e2 + b_1 * e5 + b_2 * e8, b_3 * e0 + b_4 * e3 + b_5 * e6, b_3 * e1 + b_4 * e4 + b_5 * e7, b_3 * e2 + b_4 * e5 + b_5 * e8, b_6 * e0 + b_7 * e3 + b_8 * e6, b_6 * e1 + b_7 * e4 + b_8 * e7, b_6 * e2 + b_7 * e5 + b_8 * e8] = [c0, c1, c2, c3, c4, c5, c6, c7, c8] ∧ (sgnL [c0 * f0 + c1 * f1 + c2 * f2, c3 * f0 + c4 * f1 + c5 * f2, c6 * f0 + c7 * f1 + c8 * f2] ≠ 0 ∧ redL [c0 * f0 + c1 * f1 + c2 * f2, c3 * f0 + c4 * f1 + c5 * f2, c6 * f0 + c7 * f1 + c8 * f2] = [p0, p1, p2]) ∧ (sgnL [c0 * g0 + c1 * g1 + c2 * g2, c3 * g0 + c4 * g1 + c5 * g2, c6 * g0 + c7 * g1 + c8 * g2] ≠ 0 ∧ redL [c0 * g0 + c1 * g1 + c2 * g2, c3 * g0 + c4 * g1 + c5 * g2, c6 * g0 + c7 * g1 + c8 * g2] = [q0, q1, q2]) ∧ (sgnL [c0 * h0 + c1 * h1 + c2 * h2, c3 * h0 + c4 * h1 + c5 * h2, c6 * h0 + c7 * h1 + c8 * h2] ≠ 0 ∧ redL [c0 * h0 + c1 * h1 + c2 * h2, c3 * h0 + c4 * h1 + c5 * h2, c6 * h0 + c7 * h1 + c8 * h2] = [s0, s1, s2]) ∧ (sgnL [c0 * i0 + c1 * i1 + c2 * i2, c3 * i0 + c4 * i1 + c5 * i2, c6 * i0 + c7 * i1 + c8 * i2] ≠ 0 ∧ redL [c0 * i0 + c1 * i1 + c2 * i2, c3 * i0 + c4 * i1 + c5 * i2, c6 * i0 + c7 * i1 + c8 * i2] = [t0, t1, t2]) := by
  obtain ⟨da, db, ⟨f0_, f1_, f2_, f3_, fnz, fdz⟩, ⟨t0_, t1_, t2_, t3_, tnz, tdz⟩, hnz⟩ := four_one hf hg hh hi hp hq hs ht hk0 hk1 hk2 hk3 hm0 hm1 hm2 hm3 ha0 ha1 ha2 ha3 ha4 ha5 ha6 ha7 ha8 hb0 hb1 hb2 hb3 hb4 hb5 hb6 hb7 hb8 nk0 nk1 nk2 nk3 nm0 nm1 nm2 nm3
  have na : det3 a0 a1 a2 a3 a4 a5 a6 a7 a8 ≠ 0 := by rw [da]; exact Int.mul_ne_zero (Int.mul_ne_zero (Int.mul_ne_zero nk0 nk1) nk2) nk3
  have nb : det3 b0 b1 b2 b3 b4 b5 b6 b7 b8 ≠ 0 := by rw [db]; exact Int.mul_ne_zero (Int.mul_ne_zero (Int.mul_ne_zero nm0 nm1) nm2) nm3
  obtain ⟨_, D, hD, S0, S1, S2, S3, S4, S5, S6, S7, S8⟩ := side_red hf hg hh hi
  obtain ⟨_, G, hG, W0, W1, W2, W3, W4, W5, W6, W7, W8⟩ := side_red hp hq hs ht
  obtain ⟨ea, nea, ⟨xa0, xa1, xa2, xa3, xa4, xa5, xa6, xa7, xa8⟩, dA, _⟩ := red9 (sign_nz fdz) hA
  obtain ⟨eb, neb, ⟨xb0, xb1, xb2, xb3, xb4, xb5, xb6, xb7, xb8⟩, dB, _⟩ := red9 (sign_nz tdz) hB
  obtain ⟨γ, nγ, ⟨xe0, xe1, xe2, xe3, xe4, xe5, xe6, xe7, xe8⟩, dE, _⟩ := red9 (adj_ne dA) he
  obtain ⟨ρ, nρ, ⟨xc0, xc1, xc2, xc3, xc4, xc5, xc6, xc7, xc8⟩, dC, _⟩ := red9 (det_prod_ne nb (adj_ne na)) hc
  have A0 : (D * ea) * a_0 = a0 := by rw [Int.mul_assoc, xa0, S0, hk0, ha0]
  have B0 : (G * eb) * b_0 = b0 := by rw [Int.mul_assoc, xb0, W0, hm0, hb0]
  have A1 : (D * ea) * a_1 = a1 := by rw [Int.mul_assoc, xa1, S1, hk1, ha1]
  have B1 : (G * eb) * b_1 = b1 := by rw [Int.mul_assoc, xb1, W1, hm1, hb1]
  have A2 : (D * ea) * a_2 = a2 := by rw [Int.mul_assoc, xa2, S2, hk2, ha2]
  have B2 : (G * eb) * b_2 = b2 := by rw [Int.mul_assoc, xb2, W2, hm2, hb2]
  have A3 : (D * ea) * a_3 = a3 := by rw [Int.mul_assoc, xa3, S3, hk0, ha3]
  have B3 : (G * eb) * b_3 = b3 := by rw [Int.mul_assoc, xb3, W3, hm0, hb3]
  have A4 : (D * ea) * a_4 = a4 := by rw [Int.mul_assoc, xa4, S4, hk1, ha4]
  have B4 : (G * eb) * b_4 = b4 := by rw [Int.mul_assoc, xb4, W4, hm1, hb4]
  have A5 : (D * ea) * a_5 = a5 := by rw [Int.mul_assoc, xa5, S5, hk2, ha5]
  have B5 : (G * eb) * b_5 = b5 := by rw [Int.mul_assoc, xb5, W5, hm2, hb5]
  have A6 : (D * ea) * a_6 = a6 := by rw [Int.mul_assoc, xa6, S6, hk0, ha6]
  have B6 : (G * eb) * b_6 = b6 := by rw [Int.mul_assoc, xb6, W6, hm0, hb6]
  have A7 : (D * ea) * a_7 = a7 := by rw [Int.mul_assoc, xa7, S7, hk1, ha7]
  have B7 : (G * eb) * b_7 = b7 := by rw [Int.mul_assoc, xb7, W7, hm1, hb7]
  have A8 : (D * ea) * a_8 = a8 := by rw [Int.mul_assoc, xa8, S8, hk2, ha8]
  have B8 : (G * eb) * b_8 = b8 := by rw [Int.mul_assoc, xb8, W8, hm2, hb8]
  obtain ⟨y0_, y1_, y2_, y3_, y4_, y5_, y6_, y7_, y8_⟩ := four_scale (α := D * ea) (β := G * eb) (b_0 := b_0) (b_1 := b_1) (b_2 := b_2) (b_3 := b_3) (b_4 := b_4) (b_5 := b_5) (b_6 := b_6) (b_7 := b_7) (b_8 := b_8) xe0 xe1 xe2 xe3 xe4 xe5 xe6 xe7 xe8
  simp only [A0, A1, A2, A3, A4, A5, A6, A7, A8, B0, B1, B2, B3, B4, B5, B6, B7, B8] at y0_
  simp only [A0, A1, A2, A3, A4, A5, A6, A7, A8, B0, B1, B2, B3, B4, B5, B6, B7, B8] at y1_
  simp only [A0, A1, A2, A3, A4, A5, A6, A7, A8, B0, B1, B2, B3, B4, B5, B6, B7, B8] at y2_
  simp only [A0, A1, A2, A3, A4, A5, A6, A7, A8, B0, B1, B2, B3, B4, B5, B6, B7, B8] at y3_
  simp only [A0, A1, A2, A3, A4, A5, A6, A7, A8, B0, B1, B2, B3, B4, B5, B6, B7, B8] at y4_
  simp only [A0, A1, A2, A3, A4, A5, A6, A7, A8, B0, B1, B2, B3, B4, B5, B6, B7, B8] at y5_
  simp only [A0, A1, A2, A3, A4, A5, A6, A7, A8, B0, B1, B2, B3, B4, B5, B6, B7, B8] at y6_
  simp only [A0, A1, A2, A3, A4, A5, A6, A7, A8, B0, B1, B2, B3, B4, B5, B6, B7, B8] at y7_
  simp only [A0, A1, A2, A3, A4, A5, A6, A7, A8, B0, B1, B2, B3, B4, B5, B6, B7, B8] at y8_
  have hP : redL [b_0 * e0 + b_1 * e3 + b_2 * e6, b_0 * e1 + b_1 * e4 + b_2 * e7, b_0 * e2 + b_1 * e5 + b_2 * e8, b_3 * e0 + b_4 * e3 + b_5 * e6, b_3 * e1 + b_4 * e4 + b_5 * e7, b_3 * e2 + b_4 * e5 + b_5 * e8, b_6 * e0 + b_7 * e3 + b_8 * e6, b_6 * e1 + b_7 * e4 + b_8 * e7, b_6 * e2 + b_7 * e5 + b_8 * e8] = [c0, c1, c2, c3, c4, c5, c6, c7, c8] := by
    rw [← hc]
    refine prop_red (k := 1) (m := G * eb * (D * ea) * (D * ea) * γ) (by decide) ?_ ?_ (det_nz9 (det_prod_ne dB dE)) hnz
    · exact Int.mul_ne_zero (Int.mul_ne_zero (Int.mul_ne_zero (Int.mul_ne_zero hG neb) (Int.mul_ne_zero hD nea)) (Int.mul_ne_zero hD nea)) nγ
    · simp only [List.map_cons, List.map_nil, Int.one_mul, List.cons.injEq, and_true]
      exact ⟨y0_, y1_, y2_, y3_, y4_, y5_, y6_, y7_, y8_⟩
  obtain ⟨d0, n0, ex0, ey0, ez0, fs0, _⟩ := red3_back (one_nz x0 y0) hf
  obtain ⟨d1, n1, ex1, ey1, ez1, fs1, _⟩ := red3_back (one_nz x1 y1) hg
  obtain ⟨d2, n2, ex2, ey2, ez2, fs2, _⟩ := red3_back (one_nz x2 y2) hh
  obtain ⟨d3, n3, ex3, ey3, ez3, fs3, _⟩ := red3_back (one_nz x3 y3) hi
  refine ⟨det_nz9 (adj_ne dA), signI_ne (adj_ne dA), det_nz9 (det_prod_ne dB dE), signI_ne (det_prod_ne dB dE), hP, ?_, ?_, ?_, ?_⟩
  · have hz : sgnL [c0 * f0 + c1 * f1 + c2 * f2, c3 * f0 + c4 * f1 + c5 * f2, c6 * f0 + c7 * f1 + c8 * f2] ≠ 0 := app_nz dC fs0
    obtain ⟨R0, R1, R2⟩ := four_imgs (w0 := 1) (w1 := 0) (w2 := 0) (d := d0) (κ := k0) (f0 := f0) (f1 := f1) (f2 := f2) (m := m0) (q0 := u0) (q1 := v0) (q2 := 1) xc0 xc1 xc2 xc3 xc4 xc5 xc6 xc7 xc8 (by rw [← ex0]; rw [← ha0, ← ha1, ← ha2]; simp) (by rw [← ey0]; rw [← ha3, ← ha4, ← ha5]; simp) (by rw [← ez0]; rw [← ha6, ← ha7, ← ha8]; simp) (by rw [← hb0, ← hb1, ← hb2]; simp) (by rw [← hb3, ← hb4, ← hb5]; simp) (by rw [← hb6, ← hb7, ← hb8]; simp)
    refine ⟨hz, ?_⟩
    rw [← hp]
    exact prop_red (P := [c0 * f0 + c1 * f1 + c2 * f2, c3 * f0 + c4 * f1 + c5 * f2, c6 * f0 + c7 * f1 + c8 * f2]) (Q := [u0, v0, 1]) (k := det3 a0 a1 a2 a3 a4 a5 a6 a7 a8 * m0) (m := ρ * d0 * k0) (Int.mul_ne_zero na nm0) (Int.mul_ne_zero (Int.mul_ne_zero nρ n0) nk0) (by simp only [List.map_cons, List.map_nil, List.cons.injEq, and_true]; exact ⟨R0, R1, R2⟩) hz (one_nz u0 v0)
  · have hz : sgnL [c0 * g0 + c1 * g1 + c2 * g2, c3 * g0 + c4 * g1 + c5 * g2, c6 * g0 + c7 * g1 + c8 * g2] ≠ 0 := app_nz dC fs1
    obtain ⟨R0, R1, R2⟩ := four_imgs (w0 := 0) (w1 := 1) (w2 := 0) (d := d1) (κ := k1) (f0 := g0) (f1 := g1) (f2 := g2) (m := m1) (q0 := u1) (q1 := v1) (q2 := 1) xc0 xc1 xc2 xc3 xc4 xc5 xc6 xc7 xc8 (by rw [← ex1]; rw [← ha0, ← ha1, ← ha2]; simp) (by rw [← ey1]; rw [← ha3, ← ha4, ← ha5]; simp) (by rw [← ez1]; rw [← ha6, ← ha7, ← ha8]; simp) (by rw [← hb0, ← hb1, ← hb2]; simp) (by rw [← hb3, ← hb4, ← hb5]; simp) (by rw [← hb6, ← hb7, ← hb8]; simp)
    refine ⟨hz, ?_⟩
    rw [← hq]
    exact prop_red (P := [c0 * g0 + c1 * g1 + c2 * g2, c3 * g0 + c4 * g1 + c5 * g2, c6 * g0 + c7 * g1 + c8 * g2]) (Q := [u1, v1, 1]) (k := det3 a0 a1 a2 a3 a4 a5 a6 a7 a8 * m1) (m := ρ * d1 * k1) (Int.mul_ne_zero na nm1) (Int.mul_ne_zero (Int.mul_ne_zero nρ n1) nk1) (by simp only [List.map_cons, List.map_nil, List.cons.injEq, and_true]; exact ⟨R0, R1, R2⟩) hz (one_nz u1 v1)
  · have hz : sgnL [c0 * h0 + c1 * h1 + c2 * h2, c3 * h0 + c4 * h1 + c5 * h2, c6 * h0 + c7 * h1 + c8 * h2] ≠ 0 := app_nz dC fs2
    obtain ⟨R0, R1, R2⟩ := four_imgs (w0 := 0) (w1 := 0) (w2 := 1) (d := d2) (κ := k2) (f0 := h0) (f1 := h1) (f2 := h2) (m := m2) (q0 := u2) (q1 := v2) (q2 := 1) xc0 xc1 xc2 xc3 xc4 xc5 xc6 xc7 xc8 (by rw [← ex2]; rw [← ha0, ← ha1, ← ha2]; simp) (by rw [← ey2]; rw [← ha3, ← ha4, ← ha5]; simp) (by rw [← ez2]; rw [← ha6, ← ha7, ← ha8]; simp) (by rw [← hb0, ← hb1, ← hb2]; simp) (by rw [← hb3, ← hb4, ← hb5]; simp) (by rw [← hb6, ← hb7, ← hb8]; simp)
    refine ⟨hz, ?_⟩
    rw [← hs]
    exact prop_red (P := [c0 * h0 + c1 * h1 + c2 * h2, c3 * h0 + c4 * h1 + c5 * h2, c6 * h0 + c7 * h1 + c8 * h2]) (Q := [u2, v2, 1]) (k := det3 a0 a1 a2 a3 a4 a5 a6 a7 a8 * m2) (m := ρ * d2 * k2) (Int.mul_ne_zero na nm2) (Int.mul_ne_zero (Int.mul_ne_zero nρ n2) nk2) (by simp only [List.map_cons, List.map_nil, List.cons.injEq, and_true]; exact ⟨R0, R1, R2⟩) hz (one_nz u2 v2)
  · have hz : sgnL [c0 * i0 + c1 * i1 + c2 * i2, c3 * i0 + c4 * i1 + c5 * i2, c6 * i0 + c7 * i1 + c8 * i2] ≠ 0 := app_nz dC fs3
    obtain ⟨cr0, cr1, cr2⟩ := cramer x0 y0 1 x1 y1 1 x2 y2 1 x3 y3 1
    obtain ⟨cs0, cs1, cs2⟩ := cramer u0 v0 1 u1 v1 1 u2 v2 1 u3 v3 1
    rw [hk0, hk1, hk2, hk3] at cr0 cr1 cr2
    rw [hm0, hm1, hm2, hm3] at cs0 cs1 cs2
    obtain ⟨R0, R1, R2⟩ := four_imgs (w0 := 1) (w1 := 1) (w2 := 1) (d := d3) (κ := k3) (f0 := i0) (f1 := i1) (f2 := i2) (m := m3) (q0 := u3) (q1 := v3) (q2 := 1) xc0 xc1 xc2 xc3 xc4 xc5 xc6 xc7 xc8 (by rw [← ex3, ← ha0, ← ha1, ← ha2]; simpa using cr0) (by rw [← ey3, ← ha3, ← ha4, ← ha5]; simpa using cr1) (by rw [← ez3, ← ha6, ← ha7, ← ha8]; simpa using cr2) (by rw [← hb0, ← hb1, ← hb2]; simpa using cs0) (by rw [← hb3, ← hb4, ← hb5]; simpa using cs1) (by rw [← hb6, ← hb7, ← hb8]; simpa using cs2)
    refine ⟨hz, ?_⟩
    rw [← ht]
    exact prop_red (P := [c0 * i0 + c1 * i1 + c2 * i2, c3 * i0 + c4 * i1 + c5 * i2, c6 * i0 + c7 * i1 + c8 * i2]) (Q := [u3, v3, 1]) (k := det3 a0 a1 a2 a3 a4 a5 a6 a7 a8 * m3) (m := ρ * d3 * k3) (Int.mul_ne_zero na nm3) (Int.mul_ne_zero (Int.mul_ne_zero nρ n3) nk3) (by simp only [List.map_cons, List.map_nil, List.cons.injEq, and_true]; exact ⟨R0, R1, R2⟩) hz (one_nz u3 v3)
end Go.Fid
