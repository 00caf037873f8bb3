/- The law HomographyGroup returns true for every input, and its arguments read afterwards as before. No condition. -/
import Derived.Test.YtadkkhdnccljcaaGreatM13
import Derived.Test.YtadkkhdnccljcaaGreatM14
import Derived.Test.YtadkkhdnccljcaaGreatRows
import Derived.JoinedOf
namespace Go.Proofs.YtadkkhdnccljcaaGreat
open Go.Fid Go.RowKit Go.ChangeShapes Go.WideShapes
theorem takes_law (f : A9 RInt) (g : A9 RInt) (h : A9 RInt) (lf : Len31 f) (lg : Len31 g) (lh : Len31 h) : Takes Tryz.prog 6 [encA31 f, encA31 g, encA31 h] (.val (.bool true)) := by
  obtain ⟨lf0, lf1, lf2, lf3, lf4, lf5, lf6, lf7, lf8⟩ := lf
  obtain ⟨lg0, lg1, lg2, lg3, lg4, lg5, lg6, lg7, lg8⟩ := lg
  obtain ⟨lh0, lh1, lh2, lh3, lh4, lh5, lh6, lh7, lh8⟩ := lh
  rcases hb0 : List.all [f.a0, f.a1, f.a2, f.a3, f.a4, f.a5, f.a6, f.a7, f.a8] short4 with _ | _
  · exact w_grpN0 f _ _ _ _ _ _ _ _ _ (iok_raw lf0.2.2) (iok_raw lf1.2.2) (iok_raw lf2.2.2) (iok_raw lf3.2.2) (iok_raw lf4.2.2) (iok_raw lf5.2.2) (iok_raw lf6.2.2) (iok_raw lf7.2.2) (iok_raw lf8.2.2) g _ _ _ _ _ _ _ _ _ (iok_raw lg0.2.2) (iok_raw lg1.2.2) (iok_raw lg2.2.2) (iok_raw lg3.2.2) (iok_raw lg4.2.2) (iok_raw lg5.2.2) (iok_raw lg6.2.2) (iok_raw lg7.2.2) (iok_raw lg8.2.2) h _ _ _ _ _ _ _ _ _ (iok_raw lh0.2.2) (iok_raw lh1.2.2) (iok_raw lh2.2.2) (iok_raw lh3.2.2) (iok_raw lh4.2.2) (iok_raw lh5.2.2) (iok_raw lh6.2.2) (iok_raw lh7.2.2) (iok_raw lh8.2.2) hb0
  rcases hb1 : List.all [g.a0, g.a1, g.a2, g.a3, g.a4, g.a5, g.a6, g.a7, g.a8] short4 with _ | _
  · exact w_grpN1 f _ _ _ _ _ _ _ _ _ (iok_raw lf0.2.2) (iok_raw lf1.2.2) (iok_raw lf2.2.2) (iok_raw lf3.2.2) (iok_raw lf4.2.2) (iok_raw lf5.2.2) (iok_raw lf6.2.2) (iok_raw lf7.2.2) (iok_raw lf8.2.2) g _ _ _ _ _ _ _ _ _ (iok_raw lg0.2.2) (iok_raw lg1.2.2) (iok_raw lg2.2.2) (iok_raw lg3.2.2) (iok_raw lg4.2.2) (iok_raw lg5.2.2) (iok_raw lg6.2.2) (iok_raw lg7.2.2) (iok_raw lg8.2.2) h _ _ _ _ _ _ _ _ _ (iok_raw lh0.2.2) (iok_raw lh1.2.2) (iok_raw lh2.2.2) (iok_raw lh3.2.2) (iok_raw lh4.2.2) (iok_raw lh5.2.2) (iok_raw lh6.2.2) (iok_raw lh7.2.2) (iok_raw lh8.2.2) hb0 hb1
  rcases hb2 : List.all [h.a0, h.a1, h.a2, h.a3, h.a4, h.a5, h.a6, h.a7, h.a8] short4 with _ | _
  · exact w_grpN2 f _ _ _ _ _ _ _ _ _ (iok_raw lf0.2.2) (iok_raw lf1.2.2) (iok_raw lf2.2.2) (iok_raw lf3.2.2) (iok_raw lf4.2.2) (iok_raw lf5.2.2) (iok_raw lf6.2.2) (iok_raw lf7.2.2) (iok_raw lf8.2.2) g _ _ _ _ _ _ _ _ _ (iok_raw lg0.2.2) (iok_raw lg1.2.2) (iok_raw lg2.2.2) (iok_raw lg3.2.2) (iok_raw lg4.2.2) (iok_raw lg5.2.2) (iok_raw lg6.2.2) (iok_raw lg7.2.2) (iok_raw lg8.2.2) h _ _ _ _ _ _ _ _ _ (iok_raw lh0.2.2) (iok_raw lh1.2.2) (iok_raw lh2.2.2) (iok_raw lh3.2.2) (iok_raw lh4.2.2) (iok_raw lh5.2.2) (iok_raw lh6.2.2) (iok_raw lh7.2.2) (iok_raw lh8.2.2) hb0 hb1 hb2
  have s0 := hb0
  simp only [List.all_cons, List.all_nil, Bool.and_true, Bool.and_eq_true] at s0
  obtain ⟨s00, s01, s02, s03, s04, s05, s06, s07, s08⟩ := s0
  obtain ⟨f0, ef0, kf0⟩ := iok_ex s00
  obtain ⟨f1, ef1, kf1⟩ := iok_ex s01
  obtain ⟨f2, ef2, kf2⟩ := iok_ex s02
  obtain ⟨f3, ef3, kf3⟩ := iok_ex s03
  obtain ⟨f4, ef4, kf4⟩ := iok_ex s04
  obtain ⟨f5, ef5, kf5⟩ := iok_ex s05
  obtain ⟨f6, ef6, kf6⟩ := iok_ex s06
  obtain ⟨f7, ef7, kf7⟩ := iok_ex s07
  obtain ⟨f8, ef8, kf8⟩ := iok_ex s08
  have s1 := hb1
  simp only [List.all_cons, List.all_nil, Bool.and_true, Bool.and_eq_true] at s1
  obtain ⟨s10, s11, s12, s13, s14, s15, s16, s17, s18⟩ := s1
  obtain ⟨g0, eg0, kg0⟩ := iok_ex s10
  obtain ⟨g1, eg1, kg1⟩ := iok_ex s11
  obtain ⟨g2, eg2, kg2⟩ := iok_ex s12
  obtain ⟨g3, eg3, kg3⟩ := iok_ex s13
  obtain ⟨g4, eg4, kg4⟩ := iok_ex s14
  obtain ⟨g5, eg5, kg5⟩ := iok_ex s15
  obtain ⟨g6, eg6, kg6⟩ := iok_ex s16
  obtain ⟨g7, eg7, kg7⟩ := iok_ex s17
  obtain ⟨g8, eg8, kg8⟩ := iok_ex s18
  have s2 := hb2
  simp only [List.all_cons, List.all_nil, Bool.and_true, Bool.and_eq_true] at s2
  obtain ⟨s20, s21, s22, s23, s24, s25, s26, s27, s28⟩ := s2
  obtain ⟨h0, eh0, kh0⟩ := iok_ex s20
  obtain ⟨h1, eh1, kh1⟩ := iok_ex s21
  obtain ⟨h2, eh2, kh2⟩ := iok_ex s22
  obtain ⟨h3, eh3, kh3⟩ := iok_ex s23
  obtain ⟨h4, eh4, kh4⟩ := iok_ex s24
  obtain ⟨h5, eh5, kh5⟩ := iok_ex s25
  obtain ⟨h6, eh6, kh6⟩ := iok_ex s26
  obtain ⟨h7, eh7, kh7⟩ := iok_ex s27
  obtain ⟨h8, eh8, kh8⟩ := iok_ex s28
  rcases hvf : valH [f.a0, f.a1, f.a2, f.a3, f.a4, f.a5, f.a6, f.a7, f.a8] (det3 f0 f1 f2 f3 f4 f5 f6 f7 f8) with _ | _
  · exact w_grpE f _ _ _ _ _ _ _ _ _ kf0 kf1 kf2 kf3 kf4 kf5 kf6 kf7 kf8 g _ _ _ _ _ _ _ _ _ kg0 kg1 kg2 kg3 kg4 kg5 kg6 kg7 kg8 h _ _ _ _ _ _ _ _ _ kh0 kh1 kh2 kh3 kh4 kh5 kh6 kh7 kh8 hb0 hb1 hb2 hvf
  have df := valH_det hvf
  have nf := det_nz9 (adj_ne df)
  have sf := signI_ne (adj_ne df)
  rcases hvg : valH [g.a0, g.a1, g.a2, g.a3, g.a4, g.a5, g.a6, g.a7, g.a8] (det3 g0 g1 g2 g3 g4 g5 g6 g7 g8) with _ | _
  · exact w_grpG f _ _ _ _ _ _ _ _ _ kf0 kf1 kf2 kf3 kf4 kf5 kf6 kf7 kf8 g _ _ _ _ _ _ _ _ _ kg0 kg1 kg2 kg3 kg4 kg5 kg6 kg7 kg8 h _ _ _ _ _ _ _ _ _ kh0 kh1 kh2 kh3 kh4 kh5 kh6 kh7 kh8 _ _ _ _ _ _ _ _ _ rfl hb0 hb1 hb2 hvf hvg nf sf
  have dg := valH_det hvg
  have dp := det_prod_ne df dg
  obtain ⟨_, _, _, nb, vb⟩ := red9 (adj_ne df) rfl
  obtain ⟨_, _, _, na, va⟩ := red9 dp rfl
  have one := inv_prod df rfl
  rcases hvh : valH [h.a0, h.a1, h.a2, h.a3, h.a4, h.a5, h.a6, h.a7, h.a8] (det3 h0 h1 h2 h3 h4 h5 h6 h7 h8) with _ | _
  · exact w_grpH f _ _ _ _ _ _ _ _ _ kf0 kf1 kf2 kf3 kf4 kf5 kf6 kf7 kf8 g _ _ _ _ _ _ _ _ _ kg0 kg1 kg2 kg3 kg4 kg5 kg6 kg7 kg8 h _ _ _ _ _ _ _ _ _ kh0 kh1 kh2 kh3 kh4 kh5 kh6 kh7 kh8 _ _ _ _ _ _ _ _ _ rfl _ _ _ _ _ _ _ _ _ rfl hb0 hb1 hb2 hvf hvg hvh nf sf (det_nz9 dp) (signI_ne dp) vb (det_nz9 (det_prod_ne df nb)) one
  have dh := valH_det hvh
  obtain ⟨_, _, _, ny, vy⟩ := red9 (det_prod_ne dg dh) rfl
  exact w_grp f _ _ _ _ _ _ _ _ _ kf0 kf1 kf2 kf3 kf4 kf5 kf6 kf7 kf8 g _ _ _ _ _ _ _ _ _ kg0 kg1 kg2 kg3 kg4 kg5 kg6 kg7 kg8 h _ _ _ _ _ _ _ _ _ kh0 kh1 kh2 kh3 kh4 kh5 kh6 kh7 kh8 _ _ _ _ _ _ _ _ _ rfl _ _ _ _ _ _ _ _ _ rfl _ _ _ _ _ _ _ _ _ rfl _ _ _ _ _ _ _ _ _ rfl hb0 hb1 hb2 hvf hvg hvh nf sf (det_nz9 dp) (signI_ne dp) vb (det_nz9 (det_prod_ne df nb)) one va (det_nz9 (det_prod_ne na dh)) (det_nz9 (det_prod_ne dg dh)) vy (det_nz9 (det_prod_ne df ny)) (assoc_red df dg dh rfl rfl)
theorem laidOut : laidOutB Tryz.prog = true := by kernel_rfl
set_option maxRecDepth 100000 in
theorem law_lifted (os : Os) (started : os.Started) (H : Type) (enc : TypeId × Value → H) :
    ReturnsInHanded {} Tryz.checked os 6 .any (Rows.homographyGroupSpec.pre6 enc Tryz.prog Tryz.f6 Rows.homographyGroupRow.domain false) (Rows.homographyGroupSpec.post enc Tryz.prog Tryz.f6 false true false false) := by
  refine returnsInHanded_of_change_sized (C := Tryz.checked) (by kernel_rfl) started (by kernel_rfl) Tryz.func6
    (ChangeSpec.witness6 (enc := enc) (C := Tryz.checked) false ⟨#[], #[.agg #[.bool false, .slice none 0 0, .bool false, .slice none 0 0, .bool false, .slice none 0 0, .bool false, .slice none 0 0, .bool false, .slice none 0 0, .bool false, .slice none 0 0, .bool false, .slice none 0 0, .bool false, .slice none 0 0, .bool false, .slice none 0 0], .agg #[.bool false, .slice none 0 0, .bool false, .slice none 0 0, .bool false, .slice none 0 0, .bool false, .slice none 0 0, .bool false, .slice none 0 0, .bool false, .slice none 0 0, .bool false, .slice none 0 0, .bool false, .slice none 0 0, .bool false, .slice none 0 0], .agg #[.bool false, .slice none 0 0, .bool false, .slice none 0 0, .bool false, .slice none 0 0, .bool false, .slice none 0 0, .bool false, .slice none 0 0, .bool false, .slice none 0 0, .bool false, .slice none 0 0, .bool false, .slice none 0 0, .bool false, .slice none 0 0]], []⟩ 8 (by kernel_rfl) (by kernel_rfl) (by kernel_rfl) (by kernel_rfl)) ?_
  intro W base args ds gs before hval hW _ hwt _
  refine law_contract (tys := [ty31, ty31, ty31]) (B := 4) laidOut rfl (by kernel_rfl) (by kernel_rfl) (by kernel_rfl) (by kernel_rfl) ?_ ?_ W base args ds gs before hval hW hwt
  · intro ds hl
    have hl2 : ds.length = 3 := hl
    match ds, hl2 with
    | [d1, d2, d3], _ => exact ⟨rfl, rfl, rfl⟩
  · intro dss h
    cases h with
    | cons h1 r =>
      cases r with
      | cons h2 r =>
        cases r with
        | cons h3 r =>
          cases r with
          | nil =>
            obtain ⟨f, e1, lf⟩ := sh31_ h1
            obtain ⟨g, e2, lg⟩ := sh31_ h2
            obtain ⟨h, e3, lh⟩ := sh31_ h3
            simp only [mkAll]
            rw [e1, e2, e3]
            exact takes_law f g h lf lg lh
theorem law_holds : Rows.HomographyGroupSaid :=
  OpenClaim.holds_of_wide 6 Tryz.f6 rfl rfl rfl rfl rfl rfl rfl ⟨rfl, rfl, rfl, rfl, rfl⟩ rfl rfl rfl rfl rfl (by kernel_rfl) Tryz.func6 (by kernel_rfl)
    (of_decide_eq_true (by kernel_rfl)) (by unfold Func.isWrapper; rw [if_neg (by decide +kernel)]; exact ⟨rfl, rfl⟩)
    (fun os started H enc _ => law_lifted os started H enc)
end Go.Proofs.YtadkkhdnccljcaaGreat
