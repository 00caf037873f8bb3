/- The law HomographyErrors returns true for every input, and its arguments read afterwards as before. No condition. -/
import Derived.Test.YtadkkhdnccljcaaGreatM13
import Derived.Test.YtadkkhdnccljcaaGreatM14
import Derived.Test.YtadkkhdnccljcaaGreatRows
import Derived.JoinedOf
namespace Go.Proofs.YtadkkhdnccljcaaGreat
open Go.Fid Go.RowKit Go.ChangeShapes Go.WideShapes
theorem takes_law (h : A9 RInt) (p : RPair) (lh : Len31 h) (_lp : Len24 p) : Takes Tryz.prog 10 [encA31 h, encPair p] (.val (.bool true)) := by
  obtain ⟨⟨fx, fy⟩, ⟨tx, ty⟩⟩ := p
  obtain ⟨lh0, lh1, lh2, lh3, lh4, lh5, lh6, lh7, lh8⟩ := lh
  rcases hb0 : List.all [h.a0, h.a1, h.a2, h.a3, h.a4, h.a5, h.a6, h.a7, h.a8] short4 with _ | _
  · exact w_errN0 h _ _ _ _ _ _ _ _ _ (iok_raw lh0.2.2) (iok_raw lh1.2.2) (iok_raw lh2.2.2) (iok_raw lh3.2.2) (iok_raw lh4.2.2) (iok_raw lh5.2.2) (iok_raw lh6.2.2) (iok_raw lh7.2.2) (iok_raw lh8.2.2) fx fy tx ty hb0
  have s0 := hb0
  simp only [List.all_cons, List.all_nil, Bool.and_true, Bool.and_eq_true] at s0
  obtain ⟨s00, s01, s02, s03, s04, s05, s06, s07, s08⟩ := s0
  obtain ⟨h0, eh0, kh0⟩ := iok_ex s00
  obtain ⟨h1, eh1, kh1⟩ := iok_ex s01
  obtain ⟨h2, eh2, kh2⟩ := iok_ex s02
  obtain ⟨h3, eh3, kh3⟩ := iok_ex s03
  obtain ⟨h4, eh4, kh4⟩ := iok_ex s04
  obtain ⟨h5, eh5, kh5⟩ := iok_ex s05
  obtain ⟨h6, eh6, kh6⟩ := iok_ex s06
  obtain ⟨h7, eh7, kh7⟩ := iok_ex s07
  obtain ⟨h8, eh8, kh8⟩ := iok_ex s08
  rcases hv : valH [h.a0, h.a1, h.a2, h.a3, h.a4, h.a5, h.a6, h.a7, h.a8] (det3 h0 h1 h2 h3 h4 h5 h6 h7 h8) with _ | _
  · exact w_errE h _ _ _ _ _ _ _ _ _ kh0 kh1 kh2 kh3 kh4 kh5 kh6 kh7 kh8 fx fy tx ty hb0 hv
  have hd := valH_det hv
  by_cases hl : fx < -1048576
  · exact w_errR00 h _ _ _ _ _ _ _ _ _ kh0 kh1 kh2 kh3 kh4 kh5 kh6 kh7 kh8 fx fy tx ty hb0 hv  hl (inR_no (by omega))
  by_cases hg : 1048576 < fx
  · exact w_errR01 h _ _ _ _ _ _ _ _ _ kh0 kh1 kh2 kh3 kh4 kh5 kh6 kh7 kh8 fx fy tx ty hb0 hv  hl hg (inR_no (by omega))
  have hfx : -1048576 ≤ fx ∧ fx ≤ 1048576 := by omega
  clear hl hg
  by_cases hl : fy < -1048576
  · exact w_errR10 h _ _ _ _ _ _ _ _ _ kh0 kh1 kh2 kh3 kh4 kh5 kh6 kh7 kh8 fx fy tx ty hb0 hv  hfx hl (inR_no (by omega))
  by_cases hg : 1048576 < fy
  · exact w_errR11 h _ _ _ _ _ _ _ _ _ kh0 kh1 kh2 kh3 kh4 kh5 kh6 kh7 kh8 fx fy tx ty hb0 hv  hfx hl hg (inR_no (by omega))
  have hfy : -1048576 ≤ fy ∧ fy ≤ 1048576 := by omega
  clear hl hg
  by_cases hl : tx < -1048576
  · exact w_errR20 h _ _ _ _ _ _ _ _ _ kh0 kh1 kh2 kh3 kh4 kh5 kh6 kh7 kh8 fx fy tx ty hb0 hv  hfx hfy hl (inR_no (by omega))
  by_cases hg : 1048576 < tx
  · exact w_errR21 h _ _ _ _ _ _ _ _ _ kh0 kh1 kh2 kh3 kh4 kh5 kh6 kh7 kh8 fx fy tx ty hb0 hv  hfx hfy hl hg (inR_no (by omega))
  have htx : -1048576 ≤ tx ∧ tx ≤ 1048576 := by omega
  clear hl hg
  by_cases hl : ty < -1048576
  · exact w_errR30 h _ _ _ _ _ _ _ _ _ kh0 kh1 kh2 kh3 kh4 kh5 kh6 kh7 kh8 fx fy tx ty hb0 hv  hfx hfy htx hl (inR_no (by omega))
  by_cases hg : 1048576 < ty
  · exact w_errR31 h _ _ _ _ _ _ _ _ _ kh0 kh1 kh2 kh3 kh4 kh5 kh6 kh7 kh8 fx fy tx ty hb0 hv  hfx hfy htx hl hg (inR_no (by omega))
  have hty : -1048576 ≤ ty ∧ ty ≤ 1048576 := by omega
  clear hl hg
  obtain ⟨f0, f1, f2, hf⟩ : ∃ f0 f1 f2, redL [fx, fy, 1] = [f0, f1, f2] := ⟨_, _, _, rfl⟩
  obtain ⟨a0, a1, a2, hA⟩ : ∃ a0 a1 a2, redL [h0 * f0 + h1 * f1 + h2 * f2, h3 * f0 + h4 * f1 + h5 * f2, h6 * f0 + h7 * f1 + h8 * f2] = [a0, a1, a2] := ⟨_, _, _, rfl⟩
  obtain ⟨g0, g1, g2, hg⟩ : ∃ g0 g1 g2, redL [tx, ty, 1] = [g0, g1, g2] := ⟨_, _, _, rfl⟩
  obtain ⟨nw, sa, da, c, hc, z0, z1, z2⟩ := img_red hd hf hA
  by_cases ha : a2 = 0
  · exact w_errI h _ _ _ _ _ _ _ _ _ kh0 kh1 kh2 kh3 kh4 kh5 kh6 kh7 kh8 fx fy tx ty f0 f1 f2 hf a0 a1 a2 hA hb0 hv hfx hfy htx hty (by rw [z2, ha, Int.mul_zero]) nw ha
  have hz : h6 * fx + h7 * fy + h8 * 1 ≠ 0 := fun e => Int.mul_ne_zero hc ha (z2 ▸ e)
  have hab : (Rat.divInt (h0 * fx + h1 * fy + h2 * 1) (h6 * fx + h7 * fy + h8 * 1) - ((tx : Int) : Rat)) * (Rat.divInt (h0 * fx + h1 * fy + h2 * 1) (h6 * fx + h7 * fy + h8 * 1) - ((tx : Int) : Rat)) + (Rat.divInt (h3 * fx + h4 * fy + h5 * 1) (h6 * fx + h7 * fy + h8 * 1) - ((ty : Int) : Rat)) * (Rat.divInt (h3 * fx + h4 * fy + h5 * 1) (h6 * fx + h7 * fy + h8 * 1) - ((ty : Int) : Rat)) = (Rat.divInt a0 a2 - ((tx : Int) : Rat)) * (Rat.divInt a0 a2 - ((tx : Int) : Rat)) + (Rat.divInt a1 a2 - ((ty : Int) : Rat)) * (Rat.divInt a1 a2 - ((ty : Int) : Rat)) := by rw [z0, z1, z2, divInt_scale hc ha, divInt_scale hc ha]
  have hiff := img_same (x := tx) (y := ty) ha sa da hg
  by_cases hs : a0 = g0 ∧ a1 = g1 ∧ a2 = g2
  · exact w_errS h _ _ _ _ _ _ _ _ _ kh0 kh1 kh2 kh3 kh4 kh5 kh6 kh7 kh8 fx fy tx ty f0 f1 f2 hf a0 a1 a2 hA g0 g1 g2 hg hb0 hv hfx hfy htx hty hz nw ha hab (signQ_zero.2 (hab.trans (err_zero.2 (hiff.2 hs)))) (sameI_ofZ.2 hs.1) (sameI_ofZ.2 hs.2.1) (sameI_ofZ.2 hs.2.2)
  have hn := fun e => hs (hiff.1 (err_zero.1 (hab.symm.trans (signQ_zero.1 e))))
  by_cases e0 : a0 = g0
  · by_cases e1 : a1 = g1
    · exact w_err_2 h _ _ _ _ _ _ _ _ _ kh0 kh1 kh2 kh3 kh4 kh5 kh6 kh7 kh8 fx fy tx ty f0 f1 f2 hf a0 a1 a2 hA g0 g1 g2 hg hb0 hv hfx hfy htx hty hz nw ha hab hn (sameI_ofZ.2 e0) (sameI_ofZ.2 e1) (not_same fun e2 => hs ⟨e0, e1, e2⟩)
    · exact w_err_1 h _ _ _ _ _ _ _ _ _ kh0 kh1 kh2 kh3 kh4 kh5 kh6 kh7 kh8 fx fy tx ty f0 f1 f2 hf a0 a1 a2 hA g0 g1 g2 hg hb0 hv hfx hfy htx hty hz nw ha hab hn (sameI_ofZ.2 e0) (not_same e1)
  · exact w_err_0 h _ _ _ _ _ _ _ _ _ kh0 kh1 kh2 kh3 kh4 kh5 kh6 kh7 kh8 fx fy tx ty f0 f1 f2 hf a0 a1 a2 hA g0 g1 g2 hg hb0 hv hfx hfy htx hty hz nw ha hab hn (not_same e0)
theorem laidOut : laidOutB Tryz.prog = true := by kernel_rfl
set_option maxRecDepth 100000 in
theorem law_lifted (os : Os) (started : os.Started) (H : Type) (enc : TypeId × Value → H) :
    ReturnsInHanded {} Tryz.checked os 10 .any (Rows.homographyErrorsSpec.pre6 enc Tryz.prog Tryz.f10 Rows.homographyErrorsRow.domain false) (Rows.homographyErrorsSpec.post enc Tryz.prog Tryz.f10 false true false false) := by
  refine returnsInHanded_of_change_sized (C := Tryz.checked) (by kernel_rfl) started (by kernel_rfl) Tryz.func10
    (ChangeSpec.witness6 (enc := enc) (C := Tryz.checked) false ⟨#[], #[.agg #[.bool false, .slice none 0 0, .bool false, .slice none 0 0, .bool false, .slice none 0 0, .bool false, .slice none 0 0, .bool false, .slice none 0 0, .bool false, .slice none 0 0, .bool false, .slice none 0 0, .bool false, .slice none 0 0, .bool false, .slice none 0 0], .agg #[.int .i64 0, .int .i64 0, .int .i64 0, .int .i64 0]], []⟩ 8 (by kernel_rfl) (by kernel_rfl) (by kernel_rfl) (by kernel_rfl)) ?_
  intro W base args ds gs before hval hW _ hwt _
  refine law_contract (tys := [ty31, ty24]) (B := 4) laidOut rfl (by kernel_rfl) (by kernel_rfl) (by kernel_rfl) (by kernel_rfl) ?_ ?_ W base args ds gs before hval hW hwt
  · intro ds hl
    have hl2 : ds.length = 2 := hl
    match ds, hl2 with
    | [d1, d2], _ => exact ⟨rfl, rfl, rfl⟩
  · intro dss h
    cases h with
    | cons h1 r =>
      cases r with
      | cons h2 r =>
        cases r with
        | nil =>
          obtain ⟨h, e1, lh⟩ := sh31_ h1
          obtain ⟨p, e2, lp⟩ := sh24_ h2
          simp only [mkAll]
          rw [e1, e2]
          exact takes_law h p lh lp
theorem law_holds : Rows.HomographyErrorsSaid :=
  OpenClaim.holds_of_wide 10 Tryz.f10 rfl rfl rfl rfl rfl rfl rfl ⟨rfl, rfl, rfl, rfl, rfl⟩ rfl rfl rfl rfl rfl (by kernel_rfl) Tryz.func10 (by kernel_rfl)
    (of_decide_eq_true (by kernel_rfl)) (by unfold Func.isWrapper; rw [if_neg (by decide +kernel)]; exact ⟨rfl, rfl⟩)
    (fun os started H enc _ => law_lifted os started H enc)
end Go.Proofs.YtadkkhdnccljcaaGreat
