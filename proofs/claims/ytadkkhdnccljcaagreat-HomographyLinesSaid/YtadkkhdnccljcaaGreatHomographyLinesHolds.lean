/- The law HomographyLines returns true for every input, and its arguments read afterwards as before. No condition. -/
import Derived.Test.YtadkkhdnccljcaaGreatLawHoB
import Derived.Test.YtadkkhdnccljcaaGreatHol
import Derived.Test.YtadkkhdnccljcaaGreatForm
import Derived.Test.YtadkkhdnccljcaaGreatRows
import Derived.JoinedOf
namespace Go.Proofs.YtadkkhdnccljcaaGreat
open Go.Fid Go.RowKit Go.ChangeShapes Go.WideShapes
theorem takes_law (h : A9 RInt) (p q : A3 RInt) (lh : Len31 h) (lp : Len43 p) (lq : Len43 q) : Takes Tryz.prog 5 [encA31 h, encA43 p, encA43 q] (.val (.bool true)) := by
  obtain ⟨l0, l1, l2, l3, l4, l5, l6, l7, l8⟩ := lh
  obtain ⟨m0, m1, m2⟩ := lp
  obtain ⟨n0, n1, n2⟩ := lq
  rcases hb0 : List.all [h.a0, h.a1, h.a2, h.a3, h.a4, h.a5, h.a6, h.a7, h.a8] short4 with _ | _
  · exact w_linN0 h _ _ _ _ _ _ _ _ _ (iok_raw l0.2.2) (iok_raw l1.2.2) (iok_raw l2.2.2) (iok_raw l3.2.2) (iok_raw l4.2.2) (iok_raw l5.2.2) (iok_raw l6.2.2) (iok_raw l7.2.2) (iok_raw l8.2.2) p _ _ _ (iok_raw m0.2.2) (iok_raw m1.2.2) (iok_raw m2.2.2) q _ _ _ (iok_raw n0.2.2) (iok_raw n1.2.2) (iok_raw n2.2.2) hb0
  rcases hb1 : List.all [p.a0, p.a1, p.a2] short4 with _ | _
  · exact w_linN1 h _ _ _ _ _ _ _ _ _ (iok_raw l0.2.2) (iok_raw l1.2.2) (iok_raw l2.2.2) (iok_raw l3.2.2) (iok_raw l4.2.2) (iok_raw l5.2.2) (iok_raw l6.2.2) (iok_raw l7.2.2) (iok_raw l8.2.2) p _ _ _ (iok_raw m0.2.2) (iok_raw m1.2.2) (iok_raw m2.2.2) q _ _ _ (iok_raw n0.2.2) (iok_raw n1.2.2) (iok_raw n2.2.2) hb0 hb1
  rcases hb2 : List.all [q.a0, q.a1, q.a2] short4 with _ | _
  · exact w_linN2 h _ _ _ _ _ _ _ _ _ (iok_raw l0.2.2) (iok_raw l1.2.2) (iok_raw l2.2.2) (iok_raw l3.2.2) (iok_raw l4.2.2) (iok_raw l5.2.2) (iok_raw l6.2.2) (iok_raw l7.2.2) (iok_raw l8.2.2) p _ _ _ (iok_raw m0.2.2) (iok_raw m1.2.2) (iok_raw m2.2.2) q _ _ _ (iok_raw n0.2.2) (iok_raw n1.2.2) (iok_raw n2.2.2) hb0 hb1 hb2
  have s0 := hb0
  have s1 := hb1
  have s2 := hb2
  simp only [List.all_cons, List.all_nil, Bool.and_true, Bool.and_eq_true] at s0 s1 s2
  obtain ⟨s00, s01, s02, s03, s04, s05, s06, s07, s08⟩ := s0
  obtain ⟨s10, s11, s12⟩ := s1
  obtain ⟨s20, s21, s22⟩ := s2
  obtain ⟨h0, e0, k0⟩ := iok_ex s00
  obtain ⟨h1, e1, k1⟩ := iok_ex s01
  obtain ⟨h2, e2, k2⟩ := iok_ex s02
  obtain ⟨h3, e3, k3⟩ := iok_ex s03
  obtain ⟨h4, e4, k4⟩ := iok_ex s04
  obtain ⟨h5, e5, k5⟩ := iok_ex s05
  obtain ⟨h6, e6, k6⟩ := iok_ex s06
  obtain ⟨h7, e7, k7⟩ := iok_ex s07
  obtain ⟨h8, e8, k8⟩ := iok_ex s08
  obtain ⟨p0, f0, u0⟩ := iok_ex s10
  obtain ⟨p1, f1, u1⟩ := iok_ex s11
  obtain ⟨p2, f2, u2⟩ := iok_ex s12
  obtain ⟨q0, g0, v0⟩ := iok_ex s20
  obtain ⟨q1, g1, v1⟩ := iok_ex s21
  obtain ⟨q2, g2, v2⟩ := iok_ex s22
  rcases hv : valH [h.a0, h.a1, h.a2, h.a3, h.a4, h.a5, h.a6, h.a7, h.a8] (det3 h0 h1 h2 h3 h4 h5 h6 h7 h8) with _ | _
  · exact w_linE0 h _ _ _ _ _ _ _ _ _ k0 k1 k2 k3 k4 k5 k6 k7 k8 p _ _ _ u0 u1 u2 q _ _ _ v0 v1 v2 hb0 hb1 hb2 hv
  rcases hwp : redB [p.a0, p.a1, p.a2] with _ | _
  · exact w_linE1 h _ _ _ _ _ _ _ _ _ k0 k1 k2 k3 k4 k5 k6 k7 k8 p _ _ _ u0 u1 u2 q _ _ _ v0 v1 v2 hb0 hb1 hb2 hv hwp
  rcases hwq : redB [q.a0, q.a1, q.a2] with _ | _
  · exact w_linE2 h _ _ _ _ _ _ _ _ _ k0 k1 k2 k3 k4 k5 k6 k7 k8 p _ _ _ u0 u1 u2 q _ _ _ v0 v1 v2 hb0 hb1 hb2 hv hwp hwq
  obtain ⟨sp, dp, ⟨xp0, xp1, xp2⟩, vp0, vp1, vp2⟩ := redB3 f0 f1 f2 hwp
  obtain ⟨sq, dq, ⟨xq0, xq1, xq2⟩, _⟩ := redB3 g0 g1 g2 hwq
  have hd := valH_det hv
  have main : ¬ (p0 = q0 ∧ p1 = q1 ∧ p2 = q2) → ∃ l0 l1 l2 a0 a1 a2 b0 b1 b2 m0 m1 m2 : Int, redL [p1 * q2 - p2 * q1, p2 * q0 - p0 * q2, p0 * q1 - p1 * q0] = [l0, l1, l2] ∧ redL [h0 * p0 + h1 * p1 + h2 * p2, h3 * p0 + h4 * p1 + h5 * p2, h6 * p0 + h7 * p1 + h8 * p2] = [a0, a1, a2] ∧ redL [h0 * q0 + h1 * q1 + h2 * q2, h3 * q0 + h4 * q1 + h5 * q2, h6 * q0 + h7 * q1 + h8 * q2] = [b0, b1, b2] ∧
      redL [(h4 * h8 - h5 * h7) * l0 + (h5 * h6 - h3 * h8) * l1 + (h3 * h7 - h4 * h6) * l2, (h7 * h2 - h8 * h1) * l0 + (h8 * h0 - h6 * h2) * l1 + (h6 * h1 - h7 * h0) * l2, (h1 * h5 - h2 * h4) * l0 + (h2 * h3 - h0 * h5) * l1 + (h0 * h4 - h1 * h3) * l2] = [m0, m1, m2] ∧
      sgnL [p1 * q2 - p2 * q1, p2 * q0 - p0 * q2, p0 * q1 - p1 * q0] ≠ 0 ∧ sgnL [h0 * p0 + h1 * p1 + h2 * p2, h3 * p0 + h4 * p1 + h5 * p2, h6 * p0 + h7 * p1 + h8 * p2] ≠ 0 ∧ sgnL [h0 * q0 + h1 * q1 + h2 * q2, h3 * q0 + h4 * q1 + h5 * q2, h6 * q0 + h7 * q1 + h8 * q2] ≠ 0 ∧
      sgnL [(h4 * h8 - h5 * h7) * l0 + (h5 * h6 - h3 * h8) * l1 + (h3 * h7 - h4 * h6) * l2, (h7 * h2 - h8 * h1) * l0 + (h8 * h0 - h6 * h2) * l1 + (h6 * h1 - h7 * h0) * l2, (h1 * h5 - h2 * h4) * l0 + (h2 * h3 - h0 * h5) * l1 + (h0 * h4 - h1 * h3) * l2] ≠ 0 ∧
      sgnL [a1 * b2 - a2 * b1, a2 * b0 - a0 * b2, a0 * b1 - a1 * b0] ≠ 0 ∧ redB [ofZ l0, ofZ l1, ofZ l2] = true ∧ redB [ofZ a0, ofZ a1, ofZ a2] = true ∧ redB [ofZ b0, ofZ b1, ofZ b2] = true ∧ redL [a1 * b2 - a2 * b1, a2 * b0 - a0 * b2, a0 * b1 - a1 * b0] = [m0, m1, m2] := by
    intro hne
    have hL : sgnL [p1 * q2 - p2 * q1, p2 * q0 - p0 * q2, p0 * q1 - p1 * q0] ≠ 0 := fun e => hne (cross_same sp sq dp dq e)
    have hA := app_nz hd sp
    have hB := app_nz hd sq
    obtain ⟨M1, N1, E1⟩ := lines_eq hd hL rfl hA rfl hB rfl
    obtain ⟨_, _, _, _, _, sl, dl⟩ := red3_back hL rfl
    obtain ⟨_, _, _, _, _, sa, da⟩ := red3_back hA rfl
    obtain ⟨_, _, _, _, _, sb, db⟩ := red3_back hB rfl
    exact ⟨_, _, _, _, _, _, _, _, _, _, _, _, rfl, rfl, rfl, rfl, hL, hA, hB, M1, N1, red3_redB sl dl, red3_redB sa da, red3_redB sb db, E1⟩
  rcases hs0 : sameI p.a0 q.a0 with _ | _
  · obtain ⟨l0, l1, l2, a0, a1, a2, b0, b1, b2, m0, m1, m2, r1, r2, r3, r4, z1, z2, z3, z4, z5, z6, z7, z8, z9⟩ := main (fun e => same_false hs0 (by rw [xp0, xq0, e.1]))
    exact w_lin_0 h _ _ _ _ _ _ _ _ _ k0 k1 k2 k3 k4 k5 k6 k7 k8 p _ _ _ u0 u1 u2 q _ _ _ v0 v1 v2 l0 l1 l2 r1 a0 a1 a2 r2 b0 b1 b2 r3 m0 m1 m2 r4 hb0 hb1 hb2 hv hwp hwq vp0  hs0 z1 z2 z3 z4 z5 z6 z7 z8 z9
  rcases hs1 : sameI p.a1 q.a1 with _ | _
  · obtain ⟨l0, l1, l2, a0, a1, a2, b0, b1, b2, m0, m1, m2, r1, r2, r3, r4, z1, z2, z3, z4, z5, z6, z7, z8, z9⟩ := main (fun e => same_false hs1 (by rw [xp1, xq1, e.2.1]))
    exact w_lin_1 h _ _ _ _ _ _ _ _ _ k0 k1 k2 k3 k4 k5 k6 k7 k8 p _ _ _ u0 u1 u2 q _ _ _ v0 v1 v2 l0 l1 l2 r1 a0 a1 a2 r2 b0 b1 b2 r3 m0 m1 m2 r4 hb0 hb1 hb2 hv hwp hwq vp0 vp1 hs0 hs1 z1 z2 z3 z4 z5 z6 z7 z8 z9
  rcases hs2 : sameI p.a2 q.a2 with _ | _
  · obtain ⟨l0, l1, l2, a0, a1, a2, b0, b1, b2, m0, m1, m2, r1, r2, r3, r4, z1, z2, z3, z4, z5, z6, z7, z8, z9⟩ := main (fun e => same_false hs2 (by rw [xp2, xq2, e.2.2]))
    exact w_lin_2 h _ _ _ _ _ _ _ _ _ k0 k1 k2 k3 k4 k5 k6 k7 k8 p _ _ _ u0 u1 u2 q _ _ _ v0 v1 v2 l0 l1 l2 r1 a0 a1 a2 r2 b0 b1 b2 r3 m0 m1 m2 r4 hb0 hb1 hb2 hv hwp hwq vp0 vp1 vp2 hs0 hs1 hs2 z1 z2 z3 z4 z5 z6 z7 z8 z9
  exact w_linS h _ _ _ _ _ _ _ _ _ k0 k1 k2 k3 k4 k5 k6 k7 k8 p _ _ _ u0 u1 u2 q _ _ _ v0 v1 v2 hb0 hb1 hb2 hv hwp hwq vp0 vp1 vp2 hs0 hs1 hs2
theorem laidOut : laidOutB Tryz.prog = true := by kernel_rfl
set_option maxRecDepth 100000 in
theorem law_lifted (os : Os) (started : os.Started) (H : Type) (enc : TypeId × Value → H) :
    ReturnsInHanded {} Tryz.checked os 5 .any (Rows.homographyLinesSpec.pre6 enc Tryz.prog Tryz.f5 Rows.homographyLinesRow.domain false) (Rows.homographyLinesSpec.post enc Tryz.prog Tryz.f5 false true false false) := by
  refine returnsInHanded_of_change_sized (C := Tryz.checked) (by kernel_rfl) started (by kernel_rfl) Tryz.func5
    (ChangeSpec.witness6 (enc := enc) (C := Tryz.checked) false ⟨#[], #[.agg #[.bool false, .slice none 0 0, .bool false, .slice none 0 0, .bool false, .slice none 0 0, .bool false, .slice none 0 0, .bool false, .slice none 0 0, .bool false, .slice none 0 0, .bool false, .slice none 0 0, .bool false, .slice none 0 0, .bool false, .slice none 0 0], .agg #[.bool false, .slice none 0 0, .bool false, .slice none 0 0, .bool false, .slice none 0 0], .agg #[.bool false, .slice none 0 0, .bool false, .slice none 0 0, .bool false, .slice none 0 0]], []⟩ 8 (by kernel_rfl) (by kernel_rfl) (by kernel_rfl) (by kernel_rfl)) ?_
  intro W base args ds gs before hval hW _ hwt _
  refine law_contract (tys := [ty31, ty43, ty43]) (B := 4) laidOut rfl (by kernel_rfl) (by kernel_rfl) (by kernel_rfl) (by kernel_rfl) ?_ ?_ W base args ds gs before hval hW hwt
  · intro ds hl
    have hl2 : ds.length = 3 := hl
    match ds, hl2 with
    | [d1, d2, d3], _ => exact ⟨rfl, rfl, rfl⟩
  · intro dss h
    cases h with
    | cons h1 r =>
      cases r with
      | cons h2 r =>
        cases r with
        | cons h3 r =>
          cases r with
          | nil =>
            obtain ⟨h, e1, lh⟩ := sh31_ h1
            obtain ⟨p, e2, lp⟩ := sh43_ h2
            obtain ⟨q, e3, lq⟩ := sh43_ h3
            simp only [mkAll]
            rw [e1, e2, e3]
            exact takes_law h p q lh lp lq
theorem law_holds : Rows.HomographyLinesSaid :=
  OpenClaim.holds_of_wide 5 Tryz.f5 rfl rfl rfl rfl rfl rfl rfl ⟨rfl, rfl, rfl, rfl, rfl⟩ rfl rfl rfl rfl rfl (by kernel_rfl) Tryz.func5 (by kernel_rfl)
    (of_decide_eq_true (by kernel_rfl)) (by unfold Func.isWrapper; rw [if_neg (by decide +kernel)]; exact ⟨rfl, rfl⟩)
    (fun os started H enc _ => law_lifted os started H enc)
end Go.Proofs.YtadkkhdnccljcaaGreat
