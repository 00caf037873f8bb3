/- The law HomographyPoints returns true for every input, and its arguments read afterwards as before. No condition. -/
import Derived.Test.YtadkkhdnccljcaaGreatM13
import Derived.Test.YtadkkhdnccljcaaGreatM11
import Derived.Test.YtadkkhdnccljcaaGreatM14
import Derived.Test.YtadkkhdnccljcaaGreatRows
import Derived.JoinedOf
namespace Go.Proofs.YtadkkhdnccljcaaGreat
open Go.Fid Go.RowKit Go.ChangeShapes Go.WideShapes
theorem takes_law (x : RPlace) (p q : A3 RInt) (lx : Len90 x) (lp : Len43 p) (lq : Len43 q) : Takes Tryz.prog 9 [encPlace x, encA43 p, encA43 q] (.val (.bool true)) := by
  obtain ⟨lp0, lp1, lp2⟩ := lp
  obtain ⟨lq0, lq1, lq2⟩ := lq
  rcases hb0 : List.all [p.a0, p.a1, p.a2] short4 with _ | _
  · exact w_ptsN0 x _ _ (qok_raw (by decide) lx.1.1.2.2 lx.1.2.2.2) (qok_raw (by decide) lx.2.1.2.2 lx.2.2.2.2) p _ _ _ (iok_raw lp0.2.2) (iok_raw lp1.2.2) (iok_raw lp2.2.2) q _ _ _ (iok_raw lq0.2.2) (iok_raw lq1.2.2) (iok_raw lq2.2.2) hb0
  rcases hb1 : List.all [q.a0, q.a1, q.a2] short4 with _ | _
  · exact w_ptsN1 x _ _ (qok_raw (by decide) lx.1.1.2.2 lx.1.2.2.2) (qok_raw (by decide) lx.2.1.2.2 lx.2.2.2.2) p _ _ _ (iok_raw lp0.2.2) (iok_raw lp1.2.2) (iok_raw lp2.2.2) q _ _ _ (iok_raw lq0.2.2) (iok_raw lq1.2.2) (iok_raw lq2.2.2) hb0 hb1
  have s0 := hb0
  simp only [List.all_cons, List.all_nil, Bool.and_true, Bool.and_eq_true] at s0
  obtain ⟨s00, s01, s02⟩ := s0
  obtain ⟨p0, ep0, kp0⟩ := iok_ex s00
  obtain ⟨p1, ep1, kp1⟩ := iok_ex s01
  obtain ⟨p2, ep2, kp2⟩ := iok_ex s02
  have s1 := hb1
  simp only [List.all_cons, List.all_nil, Bool.and_true, Bool.and_eq_true] at s1
  obtain ⟨s10, s11, s12⟩ := s1
  obtain ⟨q0, eq0, kq0⟩ := iok_ex s10
  obtain ⟨q1, eq1, kq1⟩ := iok_ex s11
  obtain ⟨q2, eq2, kq2⟩ := iok_ex s12
  by_cases hd0 : (8 : Int) < (((digR x.x) : Nat) : Int)
  · exact w_ptsX0 x _ _ (qok_raw (by decide) lx.1.1.2.2 lx.1.2.2.2) (qok_raw (by decide) lx.2.1.2.2 lx.2.2.2.2) p _ _ _ kp0 kp1 kp2 q _ _ _ kq0 kq1 kq2 hb0 hb1 hd0
  by_cases hd1 : (8 : Int) < (((digR x.y) : Nat) : Int)
  · exact w_ptsX1 x _ _ (qok_raw (by decide) lx.1.1.2.2 lx.1.2.2.2) (qok_raw (by decide) lx.2.1.2.2 lx.2.2.2.2) p _ _ _ kp0 kp1 kp2 q _ _ _ kq0 kq1 kq2 hb0 hb1 hd0 hd1
  rcases hvx : validR x.x with _ | _
  · rcases hwp : redB [p.a0, p.a1, p.a2] with _ | _
    · by_cases hz : p2 = 0
      · exact w_pts0E0 x _ _ (qok_raw (by decide) (by unfold digR at hd0; omega) (by unfold digR at hd0; omega)) (qok_raw (by decide) (by unfold digR at hd1; omega) (by unfold digR at hd1; omega)) p _ _ _ kp0 kp1 kp2 q _ _ _ kq0 kq1 kq2  hb0 hb1 hd0 hd1 hvx hwp hz
      · exact w_pts0EN x _ _ (qok_raw (by decide) (by unfold digR at hd0; omega) (by unfold digR at hd0; omega)) (qok_raw (by decide) (by unfold digR at hd1; omega) (by unfold digR at hd1; omega)) p _ _ _ kp0 kp1 kp2 q _ _ _ kq0 kq1 kq2  hb0 hb1 hd0 hd1 hvx hwp hz
    rcases hwq : redB [q.a0, q.a1, q.a2] with _ | _
    · by_cases hz : p2 = 0
      · exact w_pts00E x _ _ (qok_raw (by decide) (by unfold digR at hd0; omega) (by unfold digR at hd0; omega)) (qok_raw (by decide) (by unfold digR at hd1; omega) (by unfold digR at hd1; omega)) p _ _ _ kp0 kp1 kp2 q _ _ _ kq0 kq1 kq2  hb0 hb1 hd0 hd1 hvx hwp hz hwq
      · exact w_pts0OE x _ _ (qok_raw (by decide) (by unfold digR at hd0; omega) (by unfold digR at hd0; omega)) (qok_raw (by decide) (by unfold digR at hd1; omega) (by unfold digR at hd1; omega)) p _ _ _ kp0 kp1 kp2 q _ _ _ kq0 kq1 kq2  hb0 hb1 hd0 hd1 hvx hwp hz hwq
    by_cases hj : sgnL [p1 * q2 - p2 * q1, p2 * q0 - p0 * q2, p0 * q1 - p1 * q0] = 0
    · by_cases hz : p2 = 0
      · exact w_pts00D x _ _ (qok_raw (by decide) (by unfold digR at hd0; omega) (by unfold digR at hd0; omega)) (qok_raw (by decide) (by unfold digR at hd1; omega) (by unfold digR at hd1; omega)) p _ _ _ kp0 kp1 kp2 q _ _ _ kq0 kq1 kq2  hb0 hb1 hd0 hd1 hvx hwp hz hwq hj
      · exact w_pts0OD x _ _ (qok_raw (by decide) (by unfold digR at hd0; omega) (by unfold digR at hd0; omega)) (qok_raw (by decide) (by unfold digR at hd1; omega) (by unfold digR at hd1; omega)) p _ _ _ kp0 kp1 kp2 q _ _ _ kq0 kq1 kq2  hb0 hb1 hd0 hd1 hvx hwp hz hwq hj
    obtain ⟨on1, on2⟩ := join_on hj rfl
    by_cases hz : p2 = 0
    · exact w_pts00O x _ _ (qok_raw (by decide) (by unfold digR at hd0; omega) (by unfold digR at hd0; omega)) (qok_raw (by decide) (by unfold digR at hd1; omega) (by unfold digR at hd1; omega)) p _ _ _ kp0 kp1 kp2 q _ _ _ kq0 kq1 kq2  _ _ _ rfl hb0 hb1 hd0 hd1 hvx hwp hz hwq hj on1 on2
    · exact w_pts0OO x _ _ (qok_raw (by decide) (by unfold digR at hd0; omega) (by unfold digR at hd0; omega)) (qok_raw (by decide) (by unfold digR at hd1; omega) (by unfold digR at hd1; omega)) p _ _ _ kp0 kp1 kp2 q _ _ _ kq0 kq1 kq2  _ _ _ rfl hb0 hb1 hd0 hd1 hvx hwp hz hwq hj on1 on2
  rcases hvy : validR x.y with _ | _
  · rcases hwp : redB [p.a0, p.a1, p.a2] with _ | _
    · by_cases hz : p2 = 0
      · exact w_pts1E0 x _ _ (qok_raw (by decide) (by unfold digR at hd0; omega) (by unfold digR at hd0; omega)) (qok_raw (by decide) (by unfold digR at hd1; omega) (by unfold digR at hd1; omega)) p _ _ _ kp0 kp1 kp2 q _ _ _ kq0 kq1 kq2  hb0 hb1 hd0 hd1 hvx hvy hwp hz
      · exact w_pts1EN x _ _ (qok_raw (by decide) (by unfold digR at hd0; omega) (by unfold digR at hd0; omega)) (qok_raw (by decide) (by unfold digR at hd1; omega) (by unfold digR at hd1; omega)) p _ _ _ kp0 kp1 kp2 q _ _ _ kq0 kq1 kq2  hb0 hb1 hd0 hd1 hvx hvy hwp hz
    rcases hwq : redB [q.a0, q.a1, q.a2] with _ | _
    · by_cases hz : p2 = 0
      · exact w_pts10E x _ _ (qok_raw (by decide) (by unfold digR at hd0; omega) (by unfold digR at hd0; omega)) (qok_raw (by decide) (by unfold digR at hd1; omega) (by unfold digR at hd1; omega)) p _ _ _ kp0 kp1 kp2 q _ _ _ kq0 kq1 kq2  hb0 hb1 hd0 hd1 hvx hvy hwp hz hwq
      · exact w_pts1OE x _ _ (qok_raw (by decide) (by unfold digR at hd0; omega) (by unfold digR at hd0; omega)) (qok_raw (by decide) (by unfold digR at hd1; omega) (by unfold digR at hd1; omega)) p _ _ _ kp0 kp1 kp2 q _ _ _ kq0 kq1 kq2  hb0 hb1 hd0 hd1 hvx hvy hwp hz hwq
    by_cases hj : sgnL [p1 * q2 - p2 * q1, p2 * q0 - p0 * q2, p0 * q1 - p1 * q0] = 0
    · by_cases hz : p2 = 0
      · exact w_pts10D x _ _ (qok_raw (by decide) (by unfold digR at hd0; omega) (by unfold digR at hd0; omega)) (qok_raw (by decide) (by unfold digR at hd1; omega) (by unfold digR at hd1; omega)) p _ _ _ kp0 kp1 kp2 q _ _ _ kq0 kq1 kq2  hb0 hb1 hd0 hd1 hvx hvy hwp hz hwq hj
      · exact w_pts1OD x _ _ (qok_raw (by decide) (by unfold digR at hd0; omega) (by unfold digR at hd0; omega)) (qok_raw (by decide) (by unfold digR at hd1; omega) (by unfold digR at hd1; omega)) p _ _ _ kp0 kp1 kp2 q _ _ _ kq0 kq1 kq2  hb0 hb1 hd0 hd1 hvx hvy hwp hz hwq hj
    obtain ⟨on1, on2⟩ := join_on hj rfl
    by_cases hz : p2 = 0
    · exact w_pts10O x _ _ (qok_raw (by decide) (by unfold digR at hd0; omega) (by unfold digR at hd0; omega)) (qok_raw (by decide) (by unfold digR at hd1; omega) (by unfold digR at hd1; omega)) p _ _ _ kp0 kp1 kp2 q _ _ _ kq0 kq1 kq2  _ _ _ rfl hb0 hb1 hd0 hd1 hvx hvy hwp hz hwq hj on1 on2
    · exact w_pts1OO x _ _ (qok_raw (by decide) (by unfold digR at hd0; omega) (by unfold digR at hd0; omega)) (qok_raw (by decide) (by unfold digR at hd1; omega) (by unfold digR at hd1; omega)) p _ _ _ kp0 kp1 kp2 q _ _ _ kq0 kq1 kq2  _ _ _ rfl hb0 hb1 hd0 hd1 hvx hvy hwp hz hwq hj on1 on2
  obtain ⟨a, b⟩ := x
  obtain ⟨u, rfl⟩ : ∃ u, a = ofQ u := ⟨toQ a, (ofQ_toQ hvx).symm⟩
  obtain ⟨v, rfl⟩ : ∃ v, b = ofQ v := ⟨toQ b, (ofQ_toQ hvy).symm⟩
  have hd0 : ¬ (8 : Int) < (((digR (ofQ u)) : Nat) : Int) := hd0
  have hd1 : ¬ (8 : Int) < (((digR (ofQ v)) : Nat) : Int) := hd1
  have hu : QL u 8 := by unfold digR at hd0; exact ⟨(show (ofQ u).num.gs.length ≤ 8 by omega), (show (ofQ u).den.gs.length ≤ 8 by omega)⟩
  have hv : QL v 8 := by unfold digR at hd1; exact ⟨(show (ofQ v).num.gs.length ≤ 8 by omega), (show (ofQ v).den.gs.length ≤ 8 by omega)⟩
  obtain ⟨m1, m2, m3, m4⟩ := point_back (u := u) (v := v) rfl
  rcases hwp : redB [p.a0, p.a1, p.a2] with _ | _
  · by_cases hz : p2 = 0
    · exact w_ptsVE0 u v hu hv p _ _ _ kp0 kp1 kp2 q _ _ _ kq0 kq1 kq2 _ _ _ rfl hb0 hb1 hd0 hd1 (point_nz u v) m1 m2 m3 m4 hwp hz
    · exact w_ptsVEN u v hu hv p _ _ _ kp0 kp1 kp2 q _ _ _ kq0 kq1 kq2 _ _ _ rfl hb0 hb1 hd0 hd1 (point_nz u v) m1 m2 m3 m4 hwp hz
  rcases hwq : redB [q.a0, q.a1, q.a2] with _ | _
  · by_cases hz : p2 = 0
    · exact w_ptsV0E u v hu hv p _ _ _ kp0 kp1 kp2 q _ _ _ kq0 kq1 kq2 _ _ _ rfl hb0 hb1 hd0 hd1 (point_nz u v) m1 m2 m3 m4 hwp hz hwq
    · exact w_ptsVOE u v hu hv p _ _ _ kp0 kp1 kp2 q _ _ _ kq0 kq1 kq2 _ _ _ rfl hb0 hb1 hd0 hd1 (point_nz u v) m1 m2 m3 m4 hwp hz hwq
  by_cases hj : sgnL [p1 * q2 - p2 * q1, p2 * q0 - p0 * q2, p0 * q1 - p1 * q0] = 0
  · by_cases hz : p2 = 0
    · exact w_ptsV0D u v hu hv p _ _ _ kp0 kp1 kp2 q _ _ _ kq0 kq1 kq2 _ _ _ rfl hb0 hb1 hd0 hd1 (point_nz u v) m1 m2 m3 m4 hwp hz hwq hj
    · exact w_ptsVOD u v hu hv p _ _ _ kp0 kp1 kp2 q _ _ _ kq0 kq1 kq2 _ _ _ rfl hb0 hb1 hd0 hd1 (point_nz u v) m1 m2 m3 m4 hwp hz hwq hj
  obtain ⟨on1, on2⟩ := join_on hj rfl
  by_cases hz : p2 = 0
  · exact w_ptsV0O u v hu hv p _ _ _ kp0 kp1 kp2 q _ _ _ kq0 kq1 kq2 _ _ _ rfl _ _ _ rfl hb0 hb1 hd0 hd1 (point_nz u v) m1 m2 m3 m4 hwp hz hwq hj on1 on2
  · exact w_ptsVOO u v hu hv p _ _ _ kp0 kp1 kp2 q _ _ _ kq0 kq1 kq2 _ _ _ rfl _ _ _ rfl hb0 hb1 hd0 hd1 (point_nz u v) m1 m2 m3 m4 hwp hz hwq hj on1 on2
theorem laidOut : laidOutB Tryz.prog = true := by kernel_rfl
set_option maxRecDepth 100000 in
theorem law_lifted (os : Os) (started : os.Started) (H : Type) (enc : TypeId × Value → H) :
    ReturnsInHanded {} Tryz.checked os 9 .any (Rows.homographyPointsSpec.pre6 enc Tryz.prog Tryz.f9 Rows.homographyPointsRow.domain false) (Rows.homographyPointsSpec.post enc Tryz.prog Tryz.f9 false true false false) := by
  refine returnsInHanded_of_change_sized (C := Tryz.checked) (by kernel_rfl) started (by kernel_rfl) Tryz.func9
    (ChangeSpec.witness6 (enc := enc) (C := Tryz.checked) false ⟨#[], #[.agg #[.bool false, .slice none 0 0, .bool false, .slice none 0 0, .bool false, .slice none 0 0, .bool false, .slice none 0 0], .agg #[.bool false, .slice none 0 0, .bool false, .slice none 0 0, .bool false, .slice none 0 0], .agg #[.bool false, .slice none 0 0, .bool false, .slice none 0 0, .bool false, .slice none 0 0]], []⟩ 8 (by kernel_rfl) (by kernel_rfl) (by kernel_rfl) (by kernel_rfl)) ?_
  intro W base args ds gs before hval hW _ hwt _
  refine law_contract (tys := [ty90, ty43, ty43]) (B := 4) laidOut rfl (by kernel_rfl) (by kernel_rfl) (by kernel_rfl) (by kernel_rfl) ?_ ?_ W base args ds gs before hval hW hwt
  · intro ds hl
    have hl2 : ds.length = 3 := hl
    match ds, hl2 with
    | [d1, d2, d3], _ => exact ⟨rfl, rfl, rfl⟩
  · intro dss h
    cases h with
    | cons h1 r =>
      cases r with
      | cons h2 r =>
        cases r with
        | cons h3 r =>
          cases r with
          | nil =>
            obtain ⟨x, e1, lx⟩ := sh90_ h1
            obtain ⟨p, e2, lp⟩ := sh43_ h2
            obtain ⟨q, e3, lq⟩ := sh43_ h3
            simp only [mkAll]
            rw [e1, e2, e3]
            exact takes_law x p q lx lp lq
theorem law_holds : Rows.HomographyPointsSaid :=
  OpenClaim.holds_of_wide 9 Tryz.f9 rfl rfl rfl rfl rfl rfl rfl ⟨rfl, rfl, rfl, rfl, rfl⟩ rfl rfl rfl rfl rfl (by kernel_rfl) Tryz.func9 (by kernel_rfl)
    (of_decide_eq_true (by kernel_rfl)) (by unfold Func.isWrapper; rw [if_neg (by decide +kernel)]; exact ⟨rfl, rfl⟩)
    (fun os started H enc _ => law_lifted os started H enc)
end Go.Proofs.YtadkkhdnccljcaaGreat
