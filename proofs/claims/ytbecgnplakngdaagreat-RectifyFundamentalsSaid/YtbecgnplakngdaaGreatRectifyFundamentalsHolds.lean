/- The law RectifyFundamentals returns true for every input, and its arguments read afterwards as before. No condition. -/
import Derived.Test.YtbecgnplakngdaaGreatM31
import Derived.Test.YtbecgnplakngdaaGreatM29
import Derived.Test.YtbecgnplakngdaaGreatM32
import Derived.Test.YtbecgnplakngdaaGreatRows
import Derived.JoinedOf
namespace Go.Proofs.YtbecgnplakngdaaGreat
open Go.Fid Go.RowKit Go.ChangeShapes Go.WideShapes
theorem takes_law (s : kX) (p : jW) (_ls : Len30 s) (_lp : Len22 p) : kH Tryz.prog 3 [qJ s, uX p] (.val (.bool true)) := by
  obtain ⟨⟨⟨lx, ly, lz⟩, ⟨la, lb, lc, ld⟩, lf, ⟨lu, lv⟩⟩, ⟨⟨rx, ry, rz⟩, ⟨ra, rb, rc, rd⟩, rf, ⟨ru, rv⟩⟩⟩ := s
  obtain ⟨px, py, pz⟩ := p
  rcases pair_cases lx ly lz la lb lc ld lf lu lv rx ry rz ra rb rc rd rf ru rv with ⟨c, hc, hc0⟩ | ⟨hl, hr, b0, b1, b2, ⟨hb0, hb1, hb2⟩, ⟨uM, uN, uO⟩, hup⟩ | ⟨hl, hr, b0, b1, b2, e00, e01, e02, e10, e11, e12, e20, e21, e22, hF, hup, ⟨uM, uN, uO⟩, xU, xW, xS, xY, xZ, zB, xV, xR, xT⟩
  · exact w_funE1 (hc := hc) (hc0 := hc0) ..
  · exact w_funE2 (uM := uM) (uN := uN) (uO := uO) (hl := hl) (hr := hr) (hb0 := hb0) (hb1 := hb1) (hb2 := hb2) (hup := hup) ..
  obtain ⟨p00, mX⟩ : ∃ q : Rat, (jG ((1 : Int) : Rat) ((0 : Int) : Rat) ((0 : Int) : Rat) (uY la lb lc ld) (vA la lb lc ld) (qN la lb lc ld)) = q := ⟨_, rfl⟩
  obtain ⟨p01, mM⟩ : ∃ q : Rat, (jG ((0 : Int) : Rat) ((1 : Int) : Rat) ((0 : Int) : Rat) (uY la lb lc ld) (vA la lb lc ld) (qN la lb lc ld)) = q := ⟨_, rfl⟩
  obtain ⟨p02, mV⟩ : ∃ q : Rat, (jG ((-lu : Int) : Rat) ((-lv : Int) : Rat) ((lf : Int) : Rat) (uY la lb lc ld) (vA la lb lc ld) (qN la lb lc ld)) = q := ⟨_, rfl⟩
  obtain ⟨p10, mP⟩ : ∃ q : Rat, (jG ((1 : Int) : Rat) ((0 : Int) : Rat) ((0 : Int) : Rat) (vD la lb lc ld) (vC la lb lc ld) (qO la lb lc ld)) = q := ⟨_, rfl⟩
  obtain ⟨p11, mL⟩ : ∃ q : Rat, (jG ((0 : Int) : Rat) ((1 : Int) : Rat) ((0 : Int) : Rat) (vD la lb lc ld) (vC la lb lc ld) (qO la lb lc ld)) = q := ⟨_, rfl⟩
  obtain ⟨p12, mJ⟩ : ∃ q : Rat, (jG ((-lu : Int) : Rat) ((-lv : Int) : Rat) ((lf : Int) : Rat) (vD la lb lc ld) (vC la lb lc ld) (qO la lb lc ld)) = q := ⟨_, rfl⟩
  obtain ⟨p20, mW⟩ : ∃ q : Rat, (jG ((1 : Int) : Rat) ((0 : Int) : Rat) ((0 : Int) : Rat) (vH la lb lc ld) (vG la lb lc ld) (qQ la lb lc ld)) = q := ⟨_, rfl⟩
  obtain ⟨p21, mT⟩ : ∃ q : Rat, (jG ((0 : Int) : Rat) ((1 : Int) : Rat) ((0 : Int) : Rat) (vH la lb lc ld) (vG la lb lc ld) (qQ la lb lc ld)) = q := ⟨_, rfl⟩
  obtain ⟨p22, mH⟩ : ∃ q : Rat, (jG ((-lu : Int) : Rat) ((-lv : Int) : Rat) ((lf : Int) : Rat) (vH la lb lc ld) (vG la lb lc ld) (qQ la lb lc ld)) = q := ⟨_, rfl⟩
  obtain ⟨q00, mK⟩ : ∃ q : Rat, (jG ((1 : Int) : Rat) ((0 : Int) : Rat) ((0 : Int) : Rat) (uY ra rb rc rd) (vA ra rb rc rd) (qN ra rb rc rd)) = q := ⟨_, rfl⟩
  obtain ⟨q01, mR⟩ : ∃ q : Rat, (jG ((0 : Int) : Rat) ((1 : Int) : Rat) ((0 : Int) : Rat) (uY ra rb rc rd) (vA ra rb rc rd) (qN ra rb rc rd)) = q := ⟨_, rfl⟩
  obtain ⟨q02, mO⟩ : ∃ q : Rat, (jG ((-ru : Int) : Rat) ((-rv : Int) : Rat) ((rf : Int) : Rat) (uY ra rb rc rd) (vA ra rb rc rd) (qN ra rb rc rd)) = q := ⟨_, rfl⟩
  obtain ⟨q10, mS⟩ : ∃ q : Rat, (jG ((1 : Int) : Rat) ((0 : Int) : Rat) ((0 : Int) : Rat) (vD ra rb rc rd) (vC ra rb rc rd) (qO ra rb rc rd)) = q := ⟨_, rfl⟩
  obtain ⟨q11, mI⟩ : ∃ q : Rat, (jG ((0 : Int) : Rat) ((1 : Int) : Rat) ((0 : Int) : Rat) (vD ra rb rc rd) (vC ra rb rc rd) (qO ra rb rc rd)) = q := ⟨_, rfl⟩
  obtain ⟨q12, mU⟩ : ∃ q : Rat, (jG ((-ru : Int) : Rat) ((-rv : Int) : Rat) ((rf : Int) : Rat) (vD ra rb rc rd) (vC ra rb rc rd) (qO ra rb rc rd)) = q := ⟨_, rfl⟩
  obtain ⟨q20, mQ⟩ : ∃ q : Rat, (jG ((1 : Int) : Rat) ((0 : Int) : Rat) ((0 : Int) : Rat) (vH ra rb rc rd) (vG ra rb rc rd) (qQ ra rb rc rd)) = q := ⟨_, rfl⟩
  obtain ⟨q21, mY⟩ : ∃ q : Rat, (jG ((0 : Int) : Rat) ((1 : Int) : Rat) ((0 : Int) : Rat) (vH ra rb rc rd) (vG ra rb rc rd) (qQ ra rb rc rd)) = q := ⟨_, rfl⟩
  obtain ⟨q22, mN⟩ : ∃ q : Rat, (jG ((-ru : Int) : Rat) ((-rv : Int) : Rat) ((rf : Int) : Rat) (vH ra rb rc rd) (vG ra rb rc rd) (qQ ra rb rc rd)) = q := ⟨_, rfl⟩
  obtain ⟨s00, nB⟩ : ∃ q : Rat, ((b1 * p20) - (b2 * p10)) = q := ⟨_, rfl⟩
  obtain ⟨s01, hP⟩ : ∃ q : Rat, ((b1 * p21) - (b2 * p11)) = q := ⟨_, rfl⟩
  obtain ⟨s02, nC⟩ : ∃ q : Rat, ((b1 * p22) - (b2 * p12)) = q := ⟨_, rfl⟩
  obtain ⟨s10, nD⟩ : ∃ q : Rat, ((b2 * p00) - (b0 * p20)) = q := ⟨_, rfl⟩
  obtain ⟨s11, hO⟩ : ∃ q : Rat, ((b2 * p01) - (b0 * p21)) = q := ⟨_, rfl⟩
  obtain ⟨s12, hN⟩ : ∃ q : Rat, ((b2 * p02) - (b0 * p22)) = q := ⟨_, rfl⟩
  obtain ⟨s20, hC⟩ : ∃ q : Rat, ((b0 * p10) - (b1 * p00)) = q := ⟨_, rfl⟩
  obtain ⟨s21, hZ⟩ : ∃ q : Rat, ((b0 * p11) - (b1 * p01)) = q := ⟨_, rfl⟩
  obtain ⟨s22, nH⟩ : ∃ q : Rat, ((b0 * p12) - (b1 * p02)) = q := ⟨_, rfl⟩
  obtain ⟨f00, gY⟩ : ∃ q : Rat, (jG s00 s10 s20 q00 q10 q20) = q := ⟨_, rfl⟩
  obtain ⟨f01, hM⟩ : ∃ q : Rat, (jG s01 s11 s21 q00 q10 q20) = q := ⟨_, rfl⟩
  obtain ⟨f02, hH⟩ : ∃ q : Rat, (jG s02 s12 s22 q00 q10 q20) = q := ⟨_, rfl⟩
  obtain ⟨f10, nE⟩ : ∃ q : Rat, (jG s00 s10 s20 q01 q11 q21) = q := ⟨_, rfl⟩
  obtain ⟨f11, nI⟩ : ∃ q : Rat, (jG s01 s11 s21 q01 q11 q21) = q := ⟨_, rfl⟩
  obtain ⟨f12, nG⟩ : ∃ q : Rat, (jG s02 s12 s22 q01 q11 q21) = q := ⟨_, rfl⟩
  obtain ⟨f20, gZ⟩ : ∃ q : Rat, (jG s00 s10 s20 q02 q12 q22) = q := ⟨_, rfl⟩
  obtain ⟨f21, nF⟩ : ∃ q : Rat, (jG s01 s11 s21 q02 q12 q22) = q := ⟨_, rfl⟩
  obtain ⟨f22, nA⟩ : ∃ q : Rat, (jG s02 s12 s22 q02 q12 q22) = q := ⟨_, rfl⟩
  have iK := sgn0 (fund_det nB hP nC nD hO hN hC hZ nH gY hM hH nE nI nG gZ nF nA)
  by_cases hg : (decide (1048576 < (max (max px py) pz)) || decide ((min (min px py) pz) < -1048576)) = true
  · exact w_funR (hF := hF) (uM := uM) (uN := uN) (uO := uO) (xU := xU) (xW := xW) (xS := xS) (xY := xY) (xZ := xZ) (zB := zB) (xV := xV) (xR := xR) (xT := xT) (hl := hl) (hr := hr) (hup := hup) (mX := mX) (mM := mM) (mV := mV) (mP := mP) (mL := mL) (mJ := mJ) (mW := mW) (mT := mT) (mH := mH) (mK := mK) (mR := mR) (mO := mO) (mS := mS) (mI := mI) (mU := mU) (mQ := mQ) (mY := mY) (mN := mN) (nB := nB) (hP := hP) (nC := nC) (nD := nD) (hO := hO) (hN := hN) (hC := hC) (hZ := hZ) (nH := nH) (gY := gY) (hM := hM) (hH := hH) (nE := nE) (nI := nI) (nG := nG) (gZ := gZ) (nF := nF) (nA := nA) (iK := iK) (hg := hg.symm) ..
  rw [Bool.not_eq_true] at hg
  simp only [Bool.or_eq_false_iff, decide_eq_false_iff_not] at hg
  have hpx : -1048576 ≤ px ∧ px ≤ 1048576 := by omega
  have hpy : -1048576 ≤ py ∧ py ≤ 1048576 := by omega
  have hpz : -1048576 ≤ pz ∧ pz ≤ 1048576 := by omega
  obtain ⟨r0, hr0⟩ : ∃ q : Rat, ((px - lx : Int) : Rat) = q := ⟨_, rfl⟩
  obtain ⟨r1, hr1⟩ : ∃ q : Rat, ((py - ly : Int) : Rat) = q := ⟨_, rfl⟩
  obtain ⟨r2, hr2⟩ : ∃ q : Rat, ((pz - lz : Int) : Rat) = q := ⟨_, rfl⟩
  obtain ⟨q0, hq0⟩ : ∃ q : Rat, ((px - rx : Int) : Rat) = q := ⟨_, rfl⟩
  obtain ⟨q1, hq1⟩ : ∃ q : Rat, ((py - ry : Int) : Rat) = q := ⟨_, rfl⟩
  obtain ⟨q2, hq2⟩ : ∃ q : Rat, ((pz - rz : Int) : Rat) = q := ⟨_, rfl⟩
  by_cases hvl : (uI (jG (qN la lb lc ld) (qO la lb lc ld) (qQ la lb lc ld) r0 r1 r2)) ≤ 0
  · by_cases hvr : (uI (jG (qN ra rb rc rd) (qO ra rb rc rd) (qQ ra rb rc rd) q0 q1 q2)) ≤ 0
    · exact w_fun00 (hF := hF) (uM := uM) (uN := uN) (uO := uO) (xU := xU) (xW := xW) (xS := xS) (xY := xY) (xZ := xZ) (zB := zB) (xV := xV) (xR := xR) (xT := xT) (hl := hl) (hr := hr) (hup := hup) (mX := mX) (mM := mM) (mV := mV) (mP := mP) (mL := mL) (mJ := mJ) (mW := mW) (mT := mT) (mH := mH) (mK := mK) (mR := mR) (mO := mO) (mS := mS) (mI := mI) (mU := mU) (mQ := mQ) (mY := mY) (mN := mN) (nB := nB) (hP := hP) (nC := nC) (nD := nD) (hO := hO) (hN := hN) (hC := hC) (hZ := hZ) (nH := nH) (gY := gY) (hM := hM) (hH := hH) (nE := nE) (nI := nI) (nG := nG) (gZ := gZ) (nF := nF) (nA := nA) (iK := iK) (hpx := hpx) (hpy := hpy) (hpz := hpz) (hr0 := hr0) (hr1 := hr1) (hr2 := hr2) (hq0 := hq0) (hq1 := hq1) (hq2 := hq2) (hvl := hvl) (hvr := hvr) ..
    · exact w_fun01 (hF := hF) (uM := uM) (uN := uN) (uO := uO) (xU := xU) (xW := xW) (xS := xS) (xY := xY) (xZ := xZ) (zB := zB) (xV := xV) (xR := xR) (xT := xT) (hl := hl) (hr := hr) (hup := hup) (mX := mX) (mM := mM) (mV := mV) (mP := mP) (mL := mL) (mJ := mJ) (mW := mW) (mT := mT) (mH := mH) (mK := mK) (mR := mR) (mO := mO) (mS := mS) (mI := mI) (mU := mU) (mQ := mQ) (mY := mY) (mN := mN) (nB := nB) (hP := hP) (nC := nC) (nD := nD) (hO := hO) (hN := hN) (hC := hC) (hZ := hZ) (nH := nH) (gY := gY) (hM := hM) (hH := hH) (nE := nE) (nI := nI) (nG := nG) (gZ := gZ) (nF := nF) (nA := nA) (iK := iK) (hpx := hpx) (hpy := hpy) (hpz := hpz) (hr0 := hr0) (hr1 := hr1) (hr2 := hr2) (hq0 := hq0) (hq1 := hq1) (hq2 := hq2) (hvl := hvl) (hvr := hvr) ..
  by_cases hvr : (uI (jG (qN ra rb rc rd) (qO ra rb rc rd) (qQ ra rb rc rd) q0 q1 q2)) ≤ 0
  · exact w_fun10 (hF := hF) (uM := uM) (uN := uN) (uO := uO) (xU := xU) (xW := xW) (xS := xS) (xY := xY) (xZ := xZ) (zB := zB) (xV := xV) (xR := xR) (xT := xT) (hl := hl) (hr := hr) (hup := hup) (mX := mX) (mM := mM) (mV := mV) (mP := mP) (mL := mL) (mJ := mJ) (mW := mW) (mT := mT) (mH := mH) (mK := mK) (mR := mR) (mO := mO) (mS := mS) (mI := mI) (mU := mU) (mQ := mQ) (mY := mY) (mN := mN) (nB := nB) (hP := hP) (nC := nC) (nD := nD) (hO := hO) (hN := hN) (hC := hC) (hZ := hZ) (nH := nH) (gY := gY) (hM := hM) (hH := hH) (nE := nE) (nI := nI) (nG := nG) (gZ := gZ) (nF := nF) (nA := nA) (iK := iK) (hpx := hpx) (hpy := hpy) (hpz := hpz) (hr0 := hr0) (hr1 := hr1) (hr2 := hr2) (hq0 := hq0) (hq1 := hq1) (hq2 := hq2) (hvl := hvl) (hvr := hvr) ..
  have hF2 := hF
  obtain ⟨hb0, hb1, hb2, -⟩ := hF2
  have hz0 : q0 = r0 - b0 := by rw [← hq0, ← hr0, ← hb0, ← Rat.intCast_sub]; exact congrArg Int.cast (by omega)
  have hz1 : q1 = r1 - b1 := by rw [← hq1, ← hr1, ← hb1, ← Rat.intCast_sub]; exact congrArg Int.cast (by omega)
  have hz2 : q2 = r2 - b2 := by rw [← hq2, ← hr2, ← hb2, ← Rat.intCast_sub]; exact congrArg Int.cast (by omega)
  exact w_fun11 (hF := hF) (uM := uM) (uN := uN) (uO := uO) (xU := xU) (xW := xW) (xS := xS) (xY := xY) (xZ := xZ) (zB := zB) (xV := xV) (xR := xR) (xT := xT) (hl := hl) (hr := hr) (hup := hup) (mX := mX) (mM := mM) (mV := mV) (mP := mP) (mL := mL) (mJ := mJ) (mW := mW) (mT := mT) (mH := mH) (mK := mK) (mR := mR) (mO := mO) (mS := mS) (mI := mI) (mU := mU) (mQ := mQ) (mY := mY) (mN := mN) (nB := nB) (hP := hP) (nC := nC) (nD := nD) (hO := hO) (hN := hN) (hC := hC) (hZ := hZ) (nH := nH) (gY := gY) (hM := hM) (hH := hH) (nE := nE) (nI := nI) (nG := nG) (gZ := gZ) (nF := nF) (nA := nA) (iK := iK) (hpx := hpx) (hpy := hpy) (hpz := hpz) (hr0 := hr0) (hr1 := hr1) (hr2 := hr2) (hq0 := hq0) (hq1 := hq1) (hq2 := hq2) (hvl := hvl) (hvr := hvr) (hfin := (sgn0 (fund_fin nB hP nC nD hO hN hC hZ nH gY hM hH nE nI nG gZ nF nA (by rw [← mX, ← mM, ← mV, lens_v]; exact seen0 (eB hvl)) (by rw [← mP, ← mL, ← mJ, lens_v]; exact seen1 (eB hvl)) (by rw [← mW, ← mT, ← mH, lens_v]; exact seen2 (eB hvl)) (by rw [← mK, ← mR, ← mO, lens_v]; exact seen0 (eB hvr)) (by rw [← mS, ← mI, ← mU, lens_v]; exact seen1 (eB hvr)) (by rw [← mQ, ← mY, ← mN, lens_v]; exact seen2 (eB hvr)) hz0 hz1 hz2))) ..
theorem laidOut : laidOutB Tryz.prog = true := by kernel_rfl
set_option maxRecDepth 100000 in
theorem law_lifted (os : Os) (started : os.Started) (H : Type) (enc : TypeId × Value → H) :
    ReturnsInHanded {} Tryz.checked os 3 .any (Rows.rectifyFundamentalsSpec.pre6 enc Tryz.prog Tryz.f3 Rows.rectifyFundamentalsRow.domain false) (Rows.rectifyFundamentalsSpec.post enc Tryz.prog Tryz.f3 false true false false) := by
  refine returnsInHanded_of_change_sized (C := Tryz.checked) (by kernel_rfl) started (by kernel_rfl) Tryz.func3
    (ChangeSpec.witness6 (enc := enc) (C := Tryz.checked) false ⟨#[], #[.agg #[.int .i64 0, .int .i64 0, .int .i64 0, .int .i64 0, .int .i64 0, .int .i64 0, .int .i64 0, .int .i64 0, .int .i64 0, .int .i64 0, .int .i64 0, .int .i64 0, .int .i64 0, .int .i64 0, .int .i64 0, .int .i64 0, .int .i64 0, .int .i64 0, .int .i64 0, .int .i64 0], .agg #[.int .i64 0, .int .i64 0, .int .i64 0]], []⟩ 8 (by kernel_rfl) (by kernel_rfl) (by kernel_rfl) (by kernel_rfl)) ?_
  intro W base args ds gs before hval hW _ hwt _
  refine law_contract (tys := [ty30, ty22]) (B := 4) laidOut rfl (by kernel_rfl) (by kernel_rfl) (by kernel_rfl) (by kernel_rfl) ?_ ?_ W base args ds gs before hval hW hwt
  · intro ds hl
    have hl2 : ds.length = 2 := hl
    match ds, hl2 with
    | [d1, d2], _ => exact ⟨rfl, rfl, rfl⟩
  · intro dss h
    cases h with
    | cons h1 r =>
      cases r with
      | cons h2 r =>
        cases r with
        | nil =>
          obtain ⟨s, e1, ls⟩ := sh30_ h1
          obtain ⟨p, e2, lp⟩ := sh22_ h2
          simp only [mkAll]
          rw [e1, e2]
          exact takes_law s p ls lp
theorem law_holds : Rows.RectifyFundamentalsSaid :=
  OpenClaim.holds_of_wide 3 Tryz.f3 rfl rfl rfl rfl rfl rfl rfl ⟨rfl, rfl, rfl, rfl, rfl⟩ rfl rfl rfl rfl rfl (by kernel_rfl) Tryz.func3 (by kernel_rfl)
    (of_decide_eq_true (by kernel_rfl)) (by unfold Func.isWrapper; rw [if_neg (by decide +kernel)]; exact ⟨rfl, rfl⟩)
    (fun os started H enc _ => law_lifted os started H enc)
end Go.Proofs.YtbecgnplakngdaaGreat
