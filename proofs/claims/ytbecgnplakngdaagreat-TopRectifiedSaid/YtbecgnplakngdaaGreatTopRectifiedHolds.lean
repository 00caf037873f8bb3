/- The law TopRectified returns true for every input, and its arguments read afterwards as before. No condition. -/
import Derived.Test.YtbecgnplakngdaaGreatM11
import Derived.Test.YtbecgnplakngdaaGreatM12
import Derived.Test.YtbecgnplakngdaaGreatRows
import Derived.JoinedOf
namespace Go.Proofs.YtbecgnplakngdaaGreat
open Go.Fid Go.RowKit Go.ChangeShapes Go.WideShapes
theorem takes_law (base : Int) (focal : Int) (p : RSpot) (_lbase : Len_i64 base) (_lfocal : Len_i64 focal) (_lp : Len22 p) : Takes Tryz.prog 11 [.val (.int .i64 base), .val (.int .i64 focal), encSpot p] (.val (.bool true)) := by
  obtain ⟨px, py, pz⟩ := p
  by_cases hg : ((((((decide (base < 1) || decide (32768 < base)) || decide (focal < 1)) || decide (32768 < focal)) || decide (pz < 1)) || decide (32768 < (max (max px py) pz))) || decide ((min px py) < -32768)) = true
  · exact w_topN (hg := hg.symm) ..
  rw [Bool.not_eq_true] at hg
  simp only [Bool.or_eq_false_iff, decide_eq_false_iff_not] at hg
  obtain ⟨⟨⟨⟨⟨⟨g1, g2⟩, g3⟩, g4⟩, g5⟩, g6⟩, g7⟩ := hg
  have hb : 1 ≤ base ∧ base ≤ 32768 := by omega
  have hf : 1 ≤ focal ∧ focal ≤ 32768 := by omega
  have hpx : -32768 ≤ px ∧ px ≤ 32768 := by omega
  have hpy : -32768 ≤ py ∧ py ≤ 32768 := by omega
  have hpz : 1 ≤ pz ∧ pz ≤ 32768 := by omega
  have hl : stnC 0 0 0 0 0 focal 1 0 0 0 = 0 := (stnC_q (by unfold stnP; omega)).trans (by decide)
  have hr : stnC base 0 0 0 0 focal 1 0 0 0 = 0 := (stnC_q (by unfold stnP; omega)).trans (by decide)
  obtain ⟨b0, b1, b2, e00, e01, e02, e10, e11, e12, e20, e21, e22, hF, hup, hqb0, hqb1, hqb2, hqe00, hqe01, hqe02, hqe10, hqe11, hqe12, hqe20, hqe21, hqe22, vb0, vb1, vb2, ve00, ve01, ve02, ve10, ve11, ve12, ve20, ve21, ve22⟩ : ∃ b0 b1 b2 e00 e01 e02 e10 e11 e12 e20 e21 e22 : Rat, RFr 0 0 0 1 0 0 0 base 0 0 1 0 0 0 b0 b1 b2 e00 e01 e02 e10 e11 e12 e20 e21 e22 ∧ upV 1 0 0 0 1 0 0 0 b0 b1 b2 = false ∧ QL b0 3 ∧ QL b1 3 ∧ QL b2 3 ∧ QL e00 400 ∧ QL e01 400 ∧ QL e02 400 ∧ QL e10 400 ∧ QL e11 400 ∧ QL e12 400 ∧ QL e20 400 ∧ QL e21 400 ∧ QL e22 400 ∧ b0 = ((base : Int) : Rat) ∧ b1 = ((0 : Int) : Rat) ∧ b2 = ((0 : Int) : Rat) ∧ e00 = ((1 : Int) : Rat) ∧ e01 = ((0 : Int) : Rat) ∧ e02 = ((0 : Int) : Rat) ∧ e10 = ((0 : Int) : Rat) ∧ e11 = ((1 : Int) : Rat) ∧ e12 = ((0 : Int) : Rat) ∧ e20 = ((0 : Int) : Rat) ∧ e21 = ((0 : Int) : Rat) ∧ e22 = ((1 : Int) : Rat) := ⟨((base : Int) : Rat), ((0 : Int) : Rat), ((0 : Int) : Rat), ((1 : Int) : Rat), ((0 : Int) : Rat), ((0 : Int) : Rat), ((0 : Int) : Rat), ((1 : Int) : Rat), ((0 : Int) : Rat), ((0 : Int) : Rat), ((0 : Int) : Rat), ((1 : Int) : Rat), top_fr hb.1, top_up hb.1, (ql_int (z := base) (n := 3) (Nat.le_trans (lenZ_int (by omega) (by omega)) (by decide)) (by decide)), (ql_int (z := 0) (n := 3) (Nat.le_trans (lenZ_int (by omega) (by omega)) (by decide)) (by decide)), (ql_int (z := 0) (n := 3) (Nat.le_trans (lenZ_int (by omega) (by omega)) (by decide)) (by decide)), (ql_int (z := 1) (n := 400) (Nat.le_trans (lenZ_int (by omega) (by omega)) (by decide)) (by decide)), (ql_int (z := 0) (n := 400) (Nat.le_trans (lenZ_int (by omega) (by omega)) (by decide)) (by decide)), (ql_int (z := 0) (n := 400) (Nat.le_trans (lenZ_int (by omega) (by omega)) (by decide)) (by decide)), (ql_int (z := 0) (n := 400) (Nat.le_trans (lenZ_int (by omega) (by omega)) (by decide)) (by decide)), (ql_int (z := 1) (n := 400) (Nat.le_trans (lenZ_int (by omega) (by omega)) (by decide)) (by decide)), (ql_int (z := 0) (n := 400) (Nat.le_trans (lenZ_int (by omega) (by omega)) (by decide)) (by decide)), (ql_int (z := 0) (n := 400) (Nat.le_trans (lenZ_int (by omega) (by omega)) (by decide)) (by decide)), (ql_int (z := 0) (n := 400) (Nat.le_trans (lenZ_int (by omega) (by omega)) (by decide)) (by decide)), (ql_int (z := 1) (n := 400) (Nat.le_trans (lenZ_int (by omega) (by omega)) (by decide)) (by decide)), rfl, rfl, rfl, rfl, rfl, rfl, rfl, rfl, rfl, rfl, rfl, rfl⟩
  obtain ⟨r0, hr0⟩ : ∃ q : Rat, ((px - 0 : Int) : Rat) = q := ⟨_, rfl⟩
  obtain ⟨r1, hr1⟩ : ∃ q : Rat, ((py - 0 : Int) : Rat) = q := ⟨_, rfl⟩
  obtain ⟨r2, hr2⟩ : ∃ q : Rat, ((pz - 0 : Int) : Rat) = q := ⟨_, rfl⟩
  have hd : ¬ (signQ (dot3 e20 e21 e22 r0 r1 r2)) ≤ 0 := by
    rw [ve20, ve21, ve22]
    have e2 : dot3 ((0 : Int) : Rat) ((0 : Int) : Rat) ((1 : Int) : Rat) r0 r1 r2 = r2 := by unfold dot3; grind
    rw [e2, ← hr2, Int.sub_zero]
    exact sgn_pos.2 (by rw [← Rat.intCast_zero]; exact Rat.intCast_lt_intCast.2 (by omega))
  obtain ⟨g0, hg0⟩ : ∃ q : Rat, (((e00 * (((dot3 e00 e01 e02 r0 r1 r2) / (dot3 e20 e21 e22 r0 r1 r2)) / (dot3 e00 e01 e02 e00 e01 e02))) + (e10 * (((dot3 e10 e11 e12 r0 r1 r2) / (dot3 e20 e21 e22 r0 r1 r2)) / (dot3 e10 e11 e12 e10 e11 e12)))) + (e20 * (((1 : Int) : Rat) / (dot3 e20 e21 e22 e20 e21 e22)))) = q := ⟨_, rfl⟩
  obtain ⟨g1, hg1⟩ : ∃ q : Rat, (((e01 * (((dot3 e00 e01 e02 r0 r1 r2) / (dot3 e20 e21 e22 r0 r1 r2)) / (dot3 e00 e01 e02 e00 e01 e02))) + (e11 * (((dot3 e10 e11 e12 r0 r1 r2) / (dot3 e20 e21 e22 r0 r1 r2)) / (dot3 e10 e11 e12 e10 e11 e12)))) + (e21 * (((1 : Int) : Rat) / (dot3 e20 e21 e22 e20 e21 e22)))) = q := ⟨_, rfl⟩
  obtain ⟨g2, hg2⟩ : ∃ q : Rat, (((e02 * (((dot3 e00 e01 e02 r0 r1 r2) / (dot3 e20 e21 e22 r0 r1 r2)) / (dot3 e00 e01 e02 e00 e01 e02))) + (e12 * (((dot3 e10 e11 e12 r0 r1 r2) / (dot3 e20 e21 e22 r0 r1 r2)) / (dot3 e10 e11 e12 e10 e11 e12)))) + (e22 * (((1 : Int) : Rat) / (dot3 e20 e21 e22 e20 e21 e22)))) = q := ⟨_, rfl⟩
  obtain ⟨pix, hpix⟩ : ∃ q : Int, IntKind.wrap .i64 ((((2 * focal) * base) + (64 * pz)).tdiv (128 * pz)) = q := ⟨_, rfl⟩
  obtain ⟨hp0, hp1, hA, hB⟩ := top_pix hf hb hpz hpix
  have hpb : 0 ≤ pix ∧ pix ≤ 4294967296 := ⟨hp0, hp1⟩
  have hdq : ((dot3 e00 e01 e02 b0 b1 b2) / (dot3 e20 e21 e22 r0 r1 r2)) = ((base : Int) : Rat) / ((pz : Int) : Rat) := by rw [ve00, ve01, ve02, ve20, ve21, ve22, vb0, vb1, vb2]; exact top_d hr2
  have hcmp := top_cmp hdq hpz.1 hA hB
  rcases ho : (decide (pix < 1) || decide (1048576 < pix)) with _ | _
  · simp only [Bool.or_eq_false_iff, decide_eq_false_iff_not] at ho
    have hi : 1 ≤ pix ∧ pix ≤ 1048576 := by omega
    exact w_top (hpx := hpx) (hpy := hpy) (hpz := hpz) (hbasel := hb.1) (hbaseh := hb.2) (hfocall := hf.1) (hfocalh := hf.2) (hF := hF) (hqb0 := hqb0) (hqb1 := hqb1) (hqb2 := hqb2) (hqe00 := hqe00) (hqe01 := hqe01) (hqe02 := hqe02) (hqe10 := hqe10) (hqe11 := hqe11) (hqe12 := hqe12) (hqe20 := hqe20) (hqe21 := hqe21) (hqe22 := hqe22) (hl := hl) (hr := hr) (hup := hup) (hr0 := hr0) (hr1 := hr1) (hr2 := hr2) (hg0 := hg0) (hg1 := hg1) (hg2 := hg2) (hd := hd) (hsd_ := (pos_div (fr_e0b hF hup) (sgn_pos.1 hd))) (hpx_ := (pts_x (py := py) (pz := pz) hF hup hr0 (sgn_ne hd) hg0)) (hpy_ := (pts_y (px := px) (pz := pz) hF hup hr1 (sgn_ne hd) hg1)) (hpz_ := (pts_z (px := px) (py := py) hF hup hr2 (sgn_ne hd) hg2)) (hpix := hpix) (hpb := hpb) (hcmp := hcmp) (hi := hi) (hlo := (top_lo hi.1 hB)) (hhi := (top_hi hi.1 hA)) ..
  · exact w_topO (hpx := hpx) (hpy := hpy) (hpz := hpz) (hbasel := hb.1) (hbaseh := hb.2) (hfocall := hf.1) (hfocalh := hf.2) (hF := hF) (hqb0 := hqb0) (hqb1 := hqb1) (hqb2 := hqb2) (hqe00 := hqe00) (hqe01 := hqe01) (hqe02 := hqe02) (hqe10 := hqe10) (hqe11 := hqe11) (hqe12 := hqe12) (hqe20 := hqe20) (hqe21 := hqe21) (hqe22 := hqe22) (hl := hl) (hr := hr) (hup := hup) (hr0 := hr0) (hr1 := hr1) (hr2 := hr2) (hg0 := hg0) (hg1 := hg1) (hg2 := hg2) (hd := hd) (hsd_ := (pos_div (fr_e0b hF hup) (sgn_pos.1 hd))) (hpx_ := (pts_x (py := py) (pz := pz) hF hup hr0 (sgn_ne hd) hg0)) (hpy_ := (pts_y (px := px) (pz := pz) hF hup hr1 (sgn_ne hd) hg1)) (hpz_ := (pts_z (px := px) (py := py) hF hup hr2 (sgn_ne hd) hg2)) (hpix := hpix) (hpb := hpb) (hcmp := hcmp) (ho := ho.symm) ..
theorem laidOut : laidOutB Tryz.prog = true := by kernel_rfl
set_option maxRecDepth 100000 in
theorem law_lifted (os : Os) (started : os.Started) (H : Type) (enc : TypeId × Value → H) :
    ReturnsInHanded {} Tryz.checked os 11 .any (Rows.topRectifiedSpec.pre6 enc Tryz.prog Tryz.f11 Rows.topRectifiedRow.domain false) (Rows.topRectifiedSpec.post enc Tryz.prog Tryz.f11 false true false false) := by
  refine returnsInHanded_of_change_sized (C := Tryz.checked) (by kernel_rfl) started (by kernel_rfl) Tryz.func11
    (ChangeSpec.witness6 (enc := enc) (C := Tryz.checked) false ⟨#[], #[.int .i64 0, .int .i64 0, .agg #[.int .i64 0, .int .i64 0, .int .i64 0]], []⟩ 8 (by kernel_rfl) (by kernel_rfl) (by kernel_rfl) (by kernel_rfl)) ?_
  intro W base args ds gs before hval hW _ hwt _
  refine law_contract (tys := [(.int .i64), (.int .i64), ty22]) (B := 4) laidOut rfl (by kernel_rfl) (by kernel_rfl) (by kernel_rfl) (by kernel_rfl) ?_ ?_ W base args ds gs before hval hW hwt
  · intro ds hl
    have hl2 : ds.length = 3 := hl
    match ds, hl2 with
    | [d1, d2, d3], _ => exact ⟨rfl, rfl, rfl⟩
  · intro dss h
    cases h with
    | cons h1 r =>
      cases r with
      | cons h2 r =>
        cases r with
        | cons h3 r =>
          cases r with
          | nil =>
            obtain ⟨base, e1, lbase⟩ := sh_i64 h1
            obtain ⟨focal, e2, lfocal⟩ := sh_i64 h2
            obtain ⟨p, e3, lp⟩ := sh22_ h3
            simp only [mkAll]
            rw [e1, e2, e3]
            exact takes_law base focal p lbase lfocal lp
theorem law_holds : Rows.TopRectifiedSaid :=
  OpenClaim.holds_of_wide 11 Tryz.f11 rfl rfl rfl rfl rfl rfl rfl ⟨rfl, rfl, rfl, rfl, rfl⟩ rfl rfl rfl rfl rfl (by kernel_rfl) Tryz.func11 (by kernel_rfl)
    (of_decide_eq_true (by kernel_rfl)) (by unfold Func.isWrapper; rw [if_neg (by decide +kernel)]; exact ⟨rfl, rfl⟩)
    (fun os started H enc _ => law_lifted os started H enc)
end Go.Proofs.YtbecgnplakngdaaGreat
