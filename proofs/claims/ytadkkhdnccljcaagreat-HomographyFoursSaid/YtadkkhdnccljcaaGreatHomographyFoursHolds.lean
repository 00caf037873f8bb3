/- The law HomographyFours returns true for every input, and its argument reads afterwards as before. No condition. -/
import Derived.Test.YtadkkhdnccljcaaGreatM14
import Derived.Test.YtadkkhdnccljcaaGreatM12
import Derived.Test.YtadkkhdnccljcaaGreatM15
import Derived.Test.YtadkkhdnccljcaaGreatRows
import Derived.JoinedOf
namespace Go.Proofs.YtadkkhdnccljcaaGreat
open Go.Fid Go.RowKit Go.ChangeShapes Go.WideShapes
theorem takes_law (l : A4 RPair) (_ll : Len26 l) : Takes Tryz.prog 3 [encA26 l] (.val (.bool true)) := by
  obtain ⟨⟨⟨x0, y0⟩, ⟨u0, v0⟩⟩, ⟨⟨x1, y1⟩, ⟨u1, v1⟩⟩, ⟨⟨x2, y2⟩, ⟨u2, v2⟩⟩, ⟨⟨x3, y3⟩, ⟨u3, v3⟩⟩⟩ := l
  rcases hr : ((inR x0 y0 && inR u0 v0) && (inR x1 y1 && inR u1 v1) && (inR x2 y2 && inR u2 v2) && (inR x3 y3 && inR u3 v3)) with _ | _
  · exact w_fouR x0 y0 u0 v0 x1 y1 u1 v1 x2 y2 u2 v2 x3 y3 u3 v3 hr (rg_all hr) (by rw [← rg_all hr]; decide)
  simp only [Bool.and_eq_true] at hr
  obtain ⟨⟨⟨⟨r0, s0⟩, ⟨r1, s1⟩⟩, ⟨r2, s2⟩⟩, ⟨r3, s3⟩⟩ := hr
  obtain ⟨hx0, hy0⟩ := inR_iff r0
  obtain ⟨hu0, hv0⟩ := inR_iff s0
  obtain ⟨hx1, hy1⟩ := inR_iff r1
  obtain ⟨hu1, hv1⟩ := inR_iff s1
  obtain ⟨hx2, hy2⟩ := inR_iff r2
  obtain ⟨hu2, hv2⟩ := inR_iff s2
  obtain ⟨hx3, hy3⟩ := inR_iff r3
  obtain ⟨hu3, hv3⟩ := inR_iff s3
  obtain ⟨k0, hk0⟩ : ∃ k, det3 x3 y3 1 x1 y1 1 x2 y2 1 = k := ⟨_, rfl⟩
  obtain ⟨k1, hk1⟩ : ∃ k, det3 x0 y0 1 x3 y3 1 x2 y2 1 = k := ⟨_, rfl⟩
  obtain ⟨k2, hk2⟩ : ∃ k, det3 x0 y0 1 x1 y1 1 x3 y3 1 = k := ⟨_, rfl⟩
  obtain ⟨k3, hk3⟩ : ∃ k, det3 x0 y0 1 x1 y1 1 x2 y2 1 = k := ⟨_, rfl⟩
  obtain ⟨m0, hm0⟩ : ∃ k, det3 u3 v3 1 u1 v1 1 u2 v2 1 = k := ⟨_, rfl⟩
  obtain ⟨m1, hm1⟩ : ∃ k, det3 u0 v0 1 u3 v3 1 u2 v2 1 = k := ⟨_, rfl⟩
  obtain ⟨m2, hm2⟩ : ∃ k, det3 u0 v0 1 u1 v1 1 u3 v3 1 = k := ⟨_, rfl⟩
  obtain ⟨m3, hm3⟩ : ∃ k, det3 u0 v0 1 u1 v1 1 u2 v2 1 = k := ⟨_, rfl⟩
  obtain ⟨a0, ha0⟩ : ∃ z, k0 * x0 = z := ⟨_, rfl⟩
  obtain ⟨a1, ha1⟩ : ∃ z, k1 * x1 = z := ⟨_, rfl⟩
  obtain ⟨a2, ha2⟩ : ∃ z, k2 * x2 = z := ⟨_, rfl⟩
  obtain ⟨a3, ha3⟩ : ∃ z, k0 * y0 = z := ⟨_, rfl⟩
  obtain ⟨a4, ha4⟩ : ∃ z, k1 * y1 = z := ⟨_, rfl⟩
  obtain ⟨a5, ha5⟩ : ∃ z, k2 * y2 = z := ⟨_, rfl⟩
  obtain ⟨a6, ha6⟩ : ∃ z, k0 * 1 = z := ⟨_, rfl⟩
  obtain ⟨a7, ha7⟩ : ∃ z, k1 * 1 = z := ⟨_, rfl⟩
  obtain ⟨a8, ha8⟩ : ∃ z, k2 * 1 = z := ⟨_, rfl⟩
  obtain ⟨b0, hb0⟩ : ∃ z, m0 * u0 = z := ⟨_, rfl⟩
  obtain ⟨b1, hb1⟩ : ∃ z, m1 * u1 = z := ⟨_, rfl⟩
  obtain ⟨b2, hb2⟩ : ∃ z, m2 * u2 = z := ⟨_, rfl⟩
  obtain ⟨b3, hb3⟩ : ∃ z, m0 * v0 = z := ⟨_, rfl⟩
  obtain ⟨b4, hb4⟩ : ∃ z, m1 * v1 = z := ⟨_, rfl⟩
  obtain ⟨b5, hb5⟩ : ∃ z, m2 * v2 = z := ⟨_, rfl⟩
  obtain ⟨b6, hb6⟩ : ∃ z, m0 * 1 = z := ⟨_, rfl⟩
  obtain ⟨b7, hb7⟩ : ∃ z, m1 * 1 = z := ⟨_, rfl⟩
  obtain ⟨b8, hb8⟩ : ∃ z, m2 * 1 = z := ⟨_, rfl⟩
  obtain ⟨f0, f1, f2, hf⟩ : ∃ a b c, redL [x0, y0, 1] = [a, b, c] := ⟨_, _, _, rfl⟩
  obtain ⟨g0, g1, g2, hg⟩ : ∃ a b c, redL [x1, y1, 1] = [a, b, c] := ⟨_, _, _, rfl⟩
  obtain ⟨h0, h1, h2, hh⟩ : ∃ a b c, redL [x2, y2, 1] = [a, b, c] := ⟨_, _, _, rfl⟩
  obtain ⟨i0, i1, i2, hi⟩ : ∃ a b c, redL [x3, y3, 1] = [a, b, c] := ⟨_, _, _, rfl⟩
  obtain ⟨p0, p1, p2, hp⟩ : ∃ a b c, redL [u0, v0, 1] = [a, b, c] := ⟨_, _, _, rfl⟩
  obtain ⟨q0, q1, q2, hq⟩ : ∃ a b c, redL [u1, v1, 1] = [a, b, c] := ⟨_, _, _, rfl⟩
  obtain ⟨s0, s1, s2, hs⟩ : ∃ a b c, redL [u2, v2, 1] = [a, b, c] := ⟨_, _, _, rfl⟩
  obtain ⟨t0, t1, t2, ht⟩ : ∃ a b c, redL [u3, v3, 1] = [a, b, c] := ⟨_, _, _, rfl⟩
  obtain ⟨⟨F0, F1, F2, F3⟩, _⟩ := side_red hf hg hh hi
  obtain ⟨⟨T0, T1, T2, T3⟩, _⟩ := side_red hp hq hs ht
  have zF : k0 * k1 * k2 * k3 = 0 → det3 i0 i1 i2 g0 g1 g2 h0 h1 h2 * det3 f0 f1 f2 i0 i1 i2 h0 h1 h2 * det3 f0 f1 f2 g0 g1 g2 i0 i1 i2 * det3 f0 f1 f2 g0 g1 g2 h0 h1 h2 = 0 := fun e => by
    by_cases e0 : k0 = 0
    · rw [F0.2 (hk0.trans e0)]; simp
    by_cases e1 : k1 = 0
    · rw [F1.2 (hk1.trans e1)]; simp
    by_cases e2 : k2 = 0
    · rw [F2.2 (hk2.trans e2)]; simp
    by_cases e3 : k3 = 0
    · rw [F3.2 (hk3.trans e3)]; simp
    exact absurd e (Int.mul_ne_zero (Int.mul_ne_zero (Int.mul_ne_zero e0 e1) e2) e3)
  have oF : k0 * k1 * k2 * k3 ≠ 0 → (det3 i0 i1 i2 g0 g1 g2 h0 h1 h2 ≠ 0 ∧ det3 f0 f1 f2 i0 i1 i2 h0 h1 h2 ≠ 0 ∧ det3 f0 f1 f2 g0 g1 g2 i0 i1 i2 ≠ 0 ∧ det3 f0 f1 f2 g0 g1 g2 h0 h1 h2 ≠ 0) ∧ (k0 ≠ 0 ∧ k1 ≠ 0 ∧ k2 ≠ 0 ∧ k3 ≠ 0) := fun e => by
    have e0 : k0 ≠ 0 := fun h => e (by rw [h]; simp)
    have e1 : k1 ≠ 0 := fun h => e (by rw [h]; simp)
    have e2 : k2 ≠ 0 := fun h => e (by rw [h]; simp)
    have e3 : k3 ≠ 0 := fun h => e (by rw [h]; simp)
    exact ⟨⟨fun h => e0 (hk0 ▸ F0.1 h), fun h => e1 (hk1 ▸ F1.1 h), fun h => e2 (hk2 ▸ F2.1 h), fun h => e3 (hk3 ▸ F3.1 h)⟩, e0, e1, e2, e3⟩
  have zT : m0 * m1 * m2 * m3 = 0 → det3 t0 t1 t2 q0 q1 q2 s0 s1 s2 * det3 p0 p1 p2 t0 t1 t2 s0 s1 s2 * det3 p0 p1 p2 q0 q1 q2 t0 t1 t2 * det3 p0 p1 p2 q0 q1 q2 s0 s1 s2 = 0 := fun e => by
    by_cases e0 : m0 = 0
    · rw [T0.2 (hm0.trans e0)]; simp
    by_cases e1 : m1 = 0
    · rw [T1.2 (hm1.trans e1)]; simp
    by_cases e2 : m2 = 0
    · rw [T2.2 (hm2.trans e2)]; simp
    by_cases e3 : m3 = 0
    · rw [T3.2 (hm3.trans e3)]; simp
    exact absurd e (Int.mul_ne_zero (Int.mul_ne_zero (Int.mul_ne_zero e0 e1) e2) e3)
  have oT : m0 * m1 * m2 * m3 ≠ 0 → (det3 t0 t1 t2 q0 q1 q2 s0 s1 s2 ≠ 0 ∧ det3 p0 p1 p2 t0 t1 t2 s0 s1 s2 ≠ 0 ∧ det3 p0 p1 p2 q0 q1 q2 t0 t1 t2 ≠ 0 ∧ det3 p0 p1 p2 q0 q1 q2 s0 s1 s2 ≠ 0) ∧ (m0 ≠ 0 ∧ m1 ≠ 0 ∧ m2 ≠ 0 ∧ m3 ≠ 0) := fun e => by
    have e0 : m0 ≠ 0 := fun h => e (by rw [h]; simp)
    have e1 : m1 ≠ 0 := fun h => e (by rw [h]; simp)
    have e2 : m2 ≠ 0 := fun h => e (by rw [h]; simp)
    have e3 : m3 ≠ 0 := fun h => e (by rw [h]; simp)
    exact ⟨⟨fun h => e0 (hm0 ▸ T0.1 h), fun h => e1 (hm1 ▸ T1.1 h), fun h => e2 (hm2 ▸ T2.1 h), fun h => e3 (hm3 ▸ T3.1 h)⟩, e0, e1, e2, e3⟩
  by_cases nk : k0 * k1 * k2 * k3 = 0
  · by_cases nm : m0 * m1 * m2 * m3 = 0
    · exact w_fouFF x0 y0 u0 v0 x1 y1 u1 v1 x2 y2 u2 v2 x3 y3 u3 v3 hx0 hy0 hu0 hv0 hx1 hy1 hu1 hv1 hx2 hy2 hu2 hv2 hx3 hy3 hu3 hv3 k0 hk0 k1 hk1 k2 hk2 k3 hk3 m0 hm0 m1 hm1 m2 hm2 m3 hm3 a0 ha0 a1 ha1 a2 ha2 a3 ha3 a4 ha4 a5 ha5 a6 ha6 a7 ha7 a8 ha8 b0 hb0 b1 hb1 b2 hb2 b3 hb3 b4 hb4 b5 hb5 b6 hb6 b7 hb7 b8 hb8 f0 f1 f2 hf g0 g1 g2 hg h0 h1 h2 hh i0 i1 i2 hi p0 p1 p2 hp q0 q1 q2 hq s0 s1 s2 hs t0 t1 t2 ht nk nm (zF nk) (zT nm)
    · obtain ⟨cT, eT⟩ := oT nm
      have dT := Int.mul_ne_zero (Int.mul_ne_zero (Int.mul_ne_zero cT.1 cT.2.1) cT.2.2.1) cT.2.2.2
      rw [← bas_det] at dT
      exact w_fouFO x0 y0 u0 v0 x1 y1 u1 v1 x2 y2 u2 v2 x3 y3 u3 v3 hx0 hy0 hu0 hv0 hx1 hy1 hu1 hv1 hx2 hy2 hu2 hv2 hx3 hy3 hu3 hv3 k0 hk0 k1 hk1 k2 hk2 k3 hk3 m0 hm0 m1 hm1 m2 hm2 m3 hm3 a0 ha0 a1 ha1 a2 ha2 a3 ha3 a4 ha4 a5 ha5 a6 ha6 a7 ha7 a8 ha8 b0 hb0 b1 hb1 b2 hb2 b3 hb3 b4 hb4 b5 hb5 b6 hb6 b7 hb7 b8 hb8 f0 f1 f2 hf g0 g1 g2 hg h0 h1 h2 hh i0 i1 i2 hi p0 p1 p2 hp q0 q1 q2 hq s0 s1 s2 hs t0 t1 t2 ht _ _ _ _ _ _ _ _ _ rfl nk eT.1 eT.2.1 eT.2.2.1 eT.2.2.2 (zF nk) cT.1 cT.2.1 cT.2.2.1 cT.2.2.2 (det_nz9 dT) (signI_ne dT)
  obtain ⟨cF, eF⟩ := oF nk
  by_cases nm : m0 * m1 * m2 * m3 = 0
  · · skip
      have dF := Int.mul_ne_zero (Int.mul_ne_zero (Int.mul_ne_zero cF.1 cF.2.1) cF.2.2.1) cF.2.2.2
      rw [← bas_det] at dF
      exact w_fouOF x0 y0 u0 v0 x1 y1 u1 v1 x2 y2 u2 v2 x3 y3 u3 v3 hx0 hy0 hu0 hv0 hx1 hy1 hu1 hv1 hx2 hy2 hu2 hv2 hx3 hy3 hu3 hv3 k0 hk0 k1 hk1 k2 hk2 k3 hk3 m0 hm0 m1 hm1 m2 hm2 m3 hm3 a0 ha0 a1 ha1 a2 ha2 a3 ha3 a4 ha4 a5 ha5 a6 ha6 a7 ha7 a8 ha8 b0 hb0 b1 hb1 b2 hb2 b3 hb3 b4 hb4 b5 hb5 b6 hb6 b7 hb7 b8 hb8 f0 f1 f2 hf g0 g1 g2 hg h0 h1 h2 hh i0 i1 i2 hi p0 p1 p2 hp q0 q1 q2 hq s0 s1 s2 hs t0 t1 t2 ht _ _ _ _ _ _ _ _ _ rfl eF.1 eF.2.1 eF.2.2.1 eF.2.2.2 nm cF.1 cF.2.1 cF.2.2.1 cF.2.2.2 (det_nz9 dF) (signI_ne dF) (zT nm)
  obtain ⟨cT, eT⟩ := oT nm
  obtain ⟨_, _, ⟨f0_, f1_, f2_, f3_, fn, fd⟩, ⟨t0_, t1_, t2_, t3_, tn, td⟩, nz⟩ := four_one hf hg hh hi hp hq hs ht hk0 hk1 hk2 hk3 hm0 hm1 hm2 hm3 ha0 ha1 ha2 ha3 ha4 ha5 ha6 ha7 ha8 hb0 hb1 hb2 hb3 hb4 hb5 hb6 hb7 hb8 eF.1 eF.2.1 eF.2.2.1 eF.2.2.2 eT.1 eT.2.1 eT.2.2.1 eT.2.2.2
  obtain ⟨j1, j2, j3, j4, j5, ⟨n0, p0_⟩, ⟨n1, p1_⟩, ⟨n2, p2_⟩, ⟨n3, p3_⟩⟩ := four_two hf hg hh hi hp hq hs ht hk0 hk1 hk2 hk3 hm0 hm1 hm2 hm3 ha0 ha1 ha2 ha3 ha4 ha5 ha6 ha7 ha8 hb0 hb1 hb2 hb3 hb4 hb5 hb6 hb7 hb8 eF.1 eF.2.1 eF.2.2.1 eF.2.2.2 eT.1 eT.2.1 eT.2.2.1 eT.2.2.2 rfl rfl rfl rfl
  exact w_fou x0 y0 u0 v0 x1 y1 u1 v1 x2 y2 u2 v2 x3 y3 u3 v3 hx0 hy0 hu0 hv0 hx1 hy1 hu1 hv1 hx2 hy2 hu2 hv2 hx3 hy3 hu3 hv3 k0 hk0 k1 hk1 k2 hk2 k3 hk3 m0 hm0 m1 hm1 m2 hm2 m3 hm3 a0 ha0 a1 ha1 a2 ha2 a3 ha3 a4 ha4 a5 ha5 a6 ha6 a7 ha7 a8 ha8 b0 hb0 b1 hb1 b2 hb2 b3 hb3 b4 hb4 b5 hb5 b6 hb6 b7 hb7 b8 hb8 f0 f1 f2 hf g0 g1 g2 hg h0 h1 h2 hh i0 i1 i2 hi p0 p1 p2 hp q0 q1 q2 hq s0 s1 s2 hs t0 t1 t2 ht _ _ _ _ _ _ _ _ _ rfl _ _ _ _ _ _ _ _ _ rfl _ _ _ _ _ _ _ _ _ rfl _ _ _ _ _ _ _ _ _ rfl eF.1 eF.2.1 eF.2.2.1 eF.2.2.2 eT.1 eT.2.1 eT.2.2.1 eT.2.2.2 nz f0_ f1_ f2_ f3_ fn fd t0_ t1_ t2_ t3_ tn td j1 j2 j3 j4 j5 n0 p0_ n1 p1_ n2 p2_ n3 p3_
theorem laidOut : laidOutB Tryz.prog = true := by kernel_rfl
set_option maxRecDepth 100000 in
theorem law_lifted (os : Os) (started : os.Started) (H : Type) (enc : TypeId × Value → H) :
    ReturnsInHanded {} Tryz.checked os 3 .any (Rows.homographyFoursSpec.pre6 enc Tryz.prog Tryz.f3 Rows.homographyFoursRow.domain false) (Rows.homographyFoursSpec.post enc Tryz.prog Tryz.f3 false true false false) := by
  refine returnsInHanded_of_change_sized (C := Tryz.checked) (by kernel_rfl) started (by kernel_rfl) Tryz.func3
    (ChangeSpec.witness6 (enc := enc) (C := Tryz.checked) false ⟨#[], #[.agg #[.int .i64 0, .int .i64 0, .int .i64 0, .int .i64 0, .int .i64 0, .int .i64 0, .int .i64 0, .int .i64 0, .int .i64 0, .int .i64 0, .int .i64 0, .int .i64 0, .int .i64 0, .int .i64 0, .int .i64 0, .int .i64 0]], []⟩ 8 (by kernel_rfl) (by kernel_rfl) (by kernel_rfl) (by kernel_rfl)) ?_
  intro W base args ds gs before hval hW _ hwt _
  refine law_contract (tys := [ty26]) (B := 4) laidOut rfl (by kernel_rfl) (by kernel_rfl) (by kernel_rfl) (by kernel_rfl) ?_ ?_ W base args ds gs before hval hW hwt
  · intro ds hl
    have hl2 : ds.length = 1 := hl
    match ds, hl2 with
    | [d1], _ => exact ⟨rfl, rfl, rfl⟩
  · intro dss h
    cases h with
    | cons h1 r =>
      cases r with
      | nil =>
        obtain ⟨l, e1, ll⟩ := sh26_ h1
        simp only [mkAll]
        rw [e1]
        exact takes_law l ll
theorem law_holds : Rows.HomographyFoursSaid :=
  OpenClaim.holds_of_wide 3 Tryz.f3 rfl rfl rfl rfl rfl rfl rfl ⟨rfl, rfl, rfl, rfl, rfl⟩ rfl rfl rfl rfl rfl (by kernel_rfl) Tryz.func3 (by kernel_rfl)
    (of_decide_eq_true (by kernel_rfl)) (by unfold Func.isWrapper; rw [if_neg (by decide +kernel)]; exact ⟨rfl, rfl⟩)
    (fun os started H enc _ => law_lifted os started H enc)
end Go.Proofs.YtadkkhdnccljcaaGreat
