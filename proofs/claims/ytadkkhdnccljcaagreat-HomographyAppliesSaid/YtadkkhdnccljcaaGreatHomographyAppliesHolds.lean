/- The law HomographyApplies returns true for every input, and its arguments read afterwards as before. No condition. -/
import Derived.Test.YtadkkhdnccljcaaGreatLawHoA
import Derived.Test.YtadkkhdnccljcaaGreatHol
import Derived.Test.YtadkkhdnccljcaaGreatForm
import Derived.Test.YtadkkhdnccljcaaGreatRows
import Derived.JoinedOf
namespace Go.Proofs.YtadkkhdnccljcaaGreat
open Go.Fid Go.RowKit Go.ChangeShapes Go.WideShapes
theorem takes_law (h : A9 RInt) (p : A3 RInt) (lh : Len31 h) (lp : Len43 p) : Takes Tryz.prog 4 [encA31 h, encA43 p] (.val (.bool true)) := by
  obtain ⟨l0, l1, l2, l3, l4, l5, l6, l7, l8⟩ := lh
  obtain ⟨m0, m1, m2⟩ := lp
  rcases hb0 : List.all [h.a0, h.a1, h.a2, h.a3, h.a4, h.a5, h.a6, h.a7, h.a8] short4 with _ | _
  · exact w_appN0 h _ _ _ _ _ _ _ _ _ (iok_raw l0.2.2) (iok_raw l1.2.2) (iok_raw l2.2.2) (iok_raw l3.2.2) (iok_raw l4.2.2) (iok_raw l5.2.2) (iok_raw l6.2.2) (iok_raw l7.2.2) (iok_raw l8.2.2) p _ _ _ (iok_raw m0.2.2) (iok_raw m1.2.2) (iok_raw m2.2.2) hb0
  rcases hb1 : List.all [p.a0, p.a1, p.a2] short4 with _ | _
  · exact w_appN1 h _ _ _ _ _ _ _ _ _ (iok_raw l0.2.2) (iok_raw l1.2.2) (iok_raw l2.2.2) (iok_raw l3.2.2) (iok_raw l4.2.2) (iok_raw l5.2.2) (iok_raw l6.2.2) (iok_raw l7.2.2) (iok_raw l8.2.2) p _ _ _ (iok_raw m0.2.2) (iok_raw m1.2.2) (iok_raw m2.2.2) hb0 hb1
  have s0 := hb0
  have s1 := hb1
  simp only [List.all_cons, List.all_nil, Bool.and_true, Bool.and_eq_true] at s0 s1
  obtain ⟨s00, s01, s02, s03, s04, s05, s06, s07, s08⟩ := s0
  obtain ⟨s10, s11, s12⟩ := s1
  rcases hv : valH [h.a0, h.a1, h.a2, h.a3, h.a4, h.a5, h.a6, h.a7, h.a8] (det3 (toZ h.a0) (toZ h.a1) (toZ h.a2) (toZ h.a3) (toZ h.a4) (toZ h.a5) (toZ h.a6) (toZ h.a7) (toZ h.a8)) with _ | _
  · exact w_appE0 h _ _ _ _ _ _ _ _ _ (iok_short s00) (iok_short s01) (iok_short s02) (iok_short s03) (iok_short s04) (iok_short s05) (iok_short s06) (iok_short s07) (iok_short s08) p _ _ _ (iok_short s10) (iok_short s11) (iok_short s12) hb0 hb1 hv
  rcases hw : redB [p.a0, p.a1, p.a2] with _ | _
  · exact w_appE1 h _ _ _ _ _ _ _ _ _ (iok_short s00) (iok_short s01) (iok_short s02) (iok_short s03) (iok_short s04) (iok_short s05) (iok_short s06) (iok_short s07) (iok_short s08) p _ _ _ (iok_short s10) (iok_short s11) (iok_short s12) hb0 hb1 hv hw
  exact w_app h _ _ _ _ _ _ _ _ _ (iok_short s00) (iok_short s01) (iok_short s02) (iok_short s03) (iok_short s04) (iok_short s05) (iok_short s06) (iok_short s07) (iok_short s08) p _ _ _ (iok_short s10) (iok_short s11) (iok_short s12) _ _ _ rfl _ _ _ rfl hb0 hb1 hv hw
    (app_nz (valH_det hv) (redB_nz hw)) (app_nz (cof_ne (valH_det hv)) (redB_nz hw))
theorem laidOut : laidOutB Tryz.prog = true := by kernel_rfl
set_option maxRecDepth 100000 in
theorem law_lifted (os : Os) (started : os.Started) (H : Type) (enc : TypeId × Value → H) :
    ReturnsInHanded {} Tryz.checked os 4 .any (Rows.homographyAppliesSpec.pre6 enc Tryz.prog Tryz.f4 Rows.homographyAppliesRow.domain false) (Rows.homographyAppliesSpec.post enc Tryz.prog Tryz.f4 false true false false) := by
  refine returnsInHanded_of_change_sized (C := Tryz.checked) (by kernel_rfl) started (by kernel_rfl) Tryz.func4
    (ChangeSpec.witness6 (enc := enc) (C := Tryz.checked) false ⟨#[], #[.agg #[.bool false, .slice none 0 0, .bool false, .slice none 0 0, .bool false, .slice none 0 0, .bool false, .slice none 0 0, .bool false, .slice none 0 0, .bool false, .slice none 0 0, .bool false, .slice none 0 0, .bool false, .slice none 0 0, .bool false, .slice none 0 0], .agg #[.bool false, .slice none 0 0, .bool false, .slice none 0 0, .bool false, .slice none 0 0]], []⟩ 8 (by kernel_rfl) (by kernel_rfl) (by kernel_rfl) (by kernel_rfl)) ?_
  intro W base args ds gs before hval hW _ hwt _
  refine law_contract (tys := [ty31, ty43]) (B := 4) laidOut rfl (by kernel_rfl) (by kernel_rfl) (by kernel_rfl) (by kernel_rfl) ?_ ?_ W base args ds gs before hval hW hwt
  · intro ds hl
    have hl2 : ds.length = 2 := hl
    match ds, hl2 with
    | [d1, d2], _ => exact ⟨rfl, rfl, rfl⟩
  · intro dss h
    cases h with
    | cons h1 r =>
      cases r with
      | cons h2 r =>
        cases r with
        | nil =>
          obtain ⟨h, e1, lh⟩ := sh31_ h1
          obtain ⟨p, e2, lp⟩ := sh43_ h2
          simp only [mkAll]
          rw [e1, e2]
          exact takes_law h p lh lp
theorem law_holds : Rows.HomographyAppliesSaid :=
  OpenClaim.holds_of_wide 4 Tryz.f4 rfl rfl rfl rfl rfl rfl rfl ⟨rfl, rfl, rfl, rfl, rfl⟩ rfl rfl rfl rfl rfl (by kernel_rfl) Tryz.func4 (by kernel_rfl)
    (of_decide_eq_true (by kernel_rfl)) (by unfold Func.isWrapper; rw [if_neg (by decide +kernel)]; exact ⟨rfl, rfl⟩)
    (fun os started H enc _ => law_lifted os started H enc)
end Go.Proofs.YtadkkhdnccljcaaGreat
