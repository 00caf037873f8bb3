/- The law RectifyRows returns true for every input, and its arguments read afterwards as before. No condition. -/
import Derived.Test.YtbecgnplakngdaaGreatM13
import Derived.Test.YtbecgnplakngdaaGreatM14
import Derived.Test.YtbecgnplakngdaaGreatRows
import Derived.JoinedOf
namespace Go.Proofs.YtbecgnplakngdaaGreat
open Go.Fid Go.RowKit Go.ChangeShapes Go.WideShapes
theorem takes_law (s : kT) (p : jL) (_ls : Len30 s) (_lp : Len22 p) : kD Tryz.prog 5 [qA s, qE p] (.val (.bool true)) := by
  obtain ⟨⟨⟨lx, ly, lz⟩, ⟨la, lb, lc, ld⟩, lf, ⟨lu, lv⟩⟩, ⟨⟨rx, ry, rz⟩, ⟨ra, rb, rc, rd⟩, rf, ⟨ru, rv⟩⟩⟩ := s
  obtain ⟨px, py, pz⟩ := p
  rcases pair_cases lx ly lz la lb lc ld lf lu lv rx ry rz ra rb rc rd rf ru rv with ⟨c, hc, hc0⟩ | ⟨hl, hr, b0, b1, b2, ⟨hb0, hb1, hb2⟩, ⟨vJ, vH, vI⟩, hup⟩ | ⟨hl, hr, b0, b1, b2, e00, e01, e02, e10, e11, e12, e20, e21, e22, hF, hup, ⟨vJ, vH, vI⟩, qV, qW, qU, uC, uE, uD, qJ, qI, qK⟩
  · exact w_rowsE1 (hc := hc) (hc0 := hc0) ..
  · exact w_rowsE2 (vJ := vJ) (vH := vH) (vI := vI) (hl := hl) (hr := hr) (hb0 := hb0) (hb1 := hb1) (hb2 := hb2) (hup := hup) ..
  rcases hr_ : spotB px py pz with _ | _
  · exact w_rowsR (hr_ := hr_) (hF := hF) (vJ := vJ) (vH := vH) (vI := vI) (qV := qV) (qW := qW) (qU := qU) (uC := uC) (uE := uE) (uD := uD) (qJ := qJ) (qI := qI) (qK := qK) (hl := hl) (hr := hr) (hup := hup) ..
  obtain ⟨hpx, hpy, hpz⟩ := of_decide_eq_true hr_
  obtain ⟨r0, hr0⟩ : ∃ q : Rat, ((px - lx : Int) : Rat) = q := ⟨_, rfl⟩
  obtain ⟨r1, hr1⟩ : ∃ q : Rat, ((py - ly : Int) : Rat) = q := ⟨_, rfl⟩
  obtain ⟨r2, hr2⟩ : ∃ q : Rat, ((pz - lz : Int) : Rat) = q := ⟨_, rfl⟩
  obtain ⟨q0, hq0⟩ : ∃ q : Rat, ((px - rx : Int) : Rat) = q := ⟨_, rfl⟩
  obtain ⟨q1, hq1⟩ : ∃ q : Rat, ((py - ry : Int) : Rat) = q := ⟨_, rfl⟩
  obtain ⟨q2, hq2⟩ : ∃ q : Rat, ((pz - rz : Int) : Rat) = q := ⟨_, rfl⟩
  by_cases hvl : (qZ (jF (uK la lb lc ld) (uL la lb lc ld) (uO la lb lc ld) r0 r1 r2)) ≤ 0
  · by_cases hvr : (qZ (jF (uK ra rb rc rd) (uL ra rb rc rd) (uO ra rb rc rd) q0 q1 q2)) ≤ 0
    · by_cases hd : (qZ (jF e20 e21 e22 r0 r1 r2)) ≤ 0
      · exact w_rows000 (hpx := hpx) (hpy := hpy) (hpz := hpz) (hr0 := hr0) (hr1 := hr1) (hr2 := hr2) (hF := hF) (vJ := vJ) (vH := vH) (vI := vI) (qV := qV) (qW := qW) (qU := qU) (uC := uC) (uE := uE) (uD := uD) (qJ := qJ) (qI := qI) (qK := qK) (hl := hl) (hr := hr) (hup := hup) (hq0 := hq0) (hq1 := hq1) (hq2 := hq2) (hvl := hvl) (hvr := hvr) (hd := hd) ..
      exact w_rows001 (hpx := hpx) (hpy := hpy) (hpz := hpz) (hr0 := hr0) (hr1 := hr1) (hr2 := hr2) (hF := hF) (vJ := vJ) (vH := vH) (vI := vI) (qV := qV) (qW := qW) (qU := qU) (uC := uC) (uE := uE) (uD := uD) (qJ := qJ) (qI := qI) (qK := qK) (hl := hl) (hr := hr) (hup := hup) (hq0 := hq0) (hq1 := hq1) (hq2 := hq2) (hvl := hvl) (hvr := hvr) (hd := hd) ..
    by_cases hd : (qZ (jF e20 e21 e22 r0 r1 r2)) ≤ 0
    · exact w_rows010 (hpx := hpx) (hpy := hpy) (hpz := hpz) (hr0 := hr0) (hr1 := hr1) (hr2 := hr2) (hF := hF) (vJ := vJ) (vH := vH) (vI := vI) (qV := qV) (qW := qW) (qU := qU) (uC := uC) (uE := uE) (uD := uD) (qJ := qJ) (qI := qI) (qK := qK) (hl := hl) (hr := hr) (hup := hup) (hq0 := hq0) (hq1 := hq1) (hq2 := hq2) (hvl := hvl) (hvr := hvr) (hd := hd) ..
    exact w_rows011 (hpx := hpx) (hpy := hpy) (hpz := hpz) (hr0 := hr0) (hr1 := hr1) (hr2 := hr2) (hF := hF) (vJ := vJ) (vH := vH) (vI := vI) (qV := qV) (qW := qW) (qU := qU) (uC := uC) (uE := uE) (uD := uD) (qJ := qJ) (qI := qI) (qK := qK) (hl := hl) (hr := hr) (hup := hup) (hq0 := hq0) (hq1 := hq1) (hq2 := hq2) (hvl := hvl) (hvr := hvr) (hd := hd) ..
  by_cases hvr : (qZ (jF (uK ra rb rc rd) (uL ra rb rc rd) (uO ra rb rc rd) q0 q1 q2)) ≤ 0
  · by_cases hd : (qZ (jF e20 e21 e22 r0 r1 r2)) ≤ 0
    · exact w_rows100 (hpx := hpx) (hpy := hpy) (hpz := hpz) (hr0 := hr0) (hr1 := hr1) (hr2 := hr2) (hF := hF) (vJ := vJ) (vH := vH) (vI := vI) (qV := qV) (qW := qW) (qU := qU) (uC := uC) (uE := uE) (uD := uD) (qJ := qJ) (qI := qI) (qK := qK) (hl := hl) (hr := hr) (hup := hup) (hq0 := hq0) (hq1 := hq1) (hq2 := hq2) (hvl := hvl) (hvr := hvr) (hd := hd) ..
    exact w_rows101 (hpx := hpx) (hpy := hpy) (hpz := hpz) (hr0 := hr0) (hr1 := hr1) (hr2 := hr2) (hF := hF) (vJ := vJ) (vH := vH) (vI := vI) (qV := qV) (qW := qW) (qU := qU) (uC := uC) (uE := uE) (uD := uD) (qJ := qJ) (qI := qI) (qK := qK) (hl := hl) (hr := hr) (hup := hup) (hq0 := hq0) (hq1 := hq1) (hq2 := hq2) (hvl := hvl) (hvr := hvr) (hd := hd) ..
  by_cases hd : (qZ (jF e20 e21 e22 r0 r1 r2)) ≤ 0
  · exact w_rows110 (hpx := hpx) (hpy := hpy) (hpz := hpz) (hr0 := hr0) (hr1 := hr1) (hr2 := hr2) (hF := hF) (vJ := vJ) (vH := vH) (vI := vI) (qV := qV) (qW := qW) (qU := qU) (uC := uC) (uE := uE) (uD := uD) (qJ := qJ) (qI := qI) (qK := qK) (hl := hl) (hr := hr) (hup := hup) (hq0 := hq0) (hq1 := hq1) (hq2 := hq2) (hvl := hvl) (hvr := hvr) (hd := hd) ..
  obtain ⟨m0, hm0⟩ : ∃ q : Rat, (jF (xY la lb lc ld) (xW la lb lc ld) (uK la lb lc ld) ((((lu : Int) : Rat) + ((((lf : Int) : Rat) * (jF (xY la lb lc ld) (zC la lb lc ld) (zI la lb lc ld) r0 r1 r2)) / (jF (uK la lb lc ld) (uL la lb lc ld) (uO la lb lc ld) r0 r1 r2))) - ((lu : Int) : Rat)) ((((lv : Int) : Rat) + ((((lf : Int) : Rat) * (jF (xW la lb lc ld) (zD la lb lc ld) (zG la lb lc ld) r0 r1 r2)) / (jF (uK la lb lc ld) (uL la lb lc ld) (uO la lb lc ld) r0 r1 r2))) - ((lv : Int) : Rat)) ((lf : Int) : Rat)) = q := ⟨_, rfl⟩
  obtain ⟨m1, hm1⟩ : ∃ q : Rat, (jF (zC la lb lc ld) (zD la lb lc ld) (uL la lb lc ld) ((((lu : Int) : Rat) + ((((lf : Int) : Rat) * (jF (xY la lb lc ld) (zC la lb lc ld) (zI la lb lc ld) r0 r1 r2)) / (jF (uK la lb lc ld) (uL la lb lc ld) (uO la lb lc ld) r0 r1 r2))) - ((lu : Int) : Rat)) ((((lv : Int) : Rat) + ((((lf : Int) : Rat) * (jF (xW la lb lc ld) (zD la lb lc ld) (zG la lb lc ld) r0 r1 r2)) / (jF (uK la lb lc ld) (uL la lb lc ld) (uO la lb lc ld) r0 r1 r2))) - ((lv : Int) : Rat)) ((lf : Int) : Rat)) = q := ⟨_, rfl⟩
  obtain ⟨m2, hm2⟩ : ∃ q : Rat, (jF (zI la lb lc ld) (zG la lb lc ld) (uO la lb lc ld) ((((lu : Int) : Rat) + ((((lf : Int) : Rat) * (jF (xY la lb lc ld) (zC la lb lc ld) (zI la lb lc ld) r0 r1 r2)) / (jF (uK la lb lc ld) (uL la lb lc ld) (uO la lb lc ld) r0 r1 r2))) - ((lu : Int) : Rat)) ((((lv : Int) : Rat) + ((((lf : Int) : Rat) * (jF (xW la lb lc ld) (zD la lb lc ld) (zG la lb lc ld) r0 r1 r2)) / (jF (uK la lb lc ld) (uL la lb lc ld) (uO la lb lc ld) r0 r1 r2))) - ((lv : Int) : Rat)) ((lf : Int) : Rat)) = q := ⟨_, rfl⟩
  obtain ⟨n0, hn0⟩ : ∃ q : Rat, (jF (xY ra rb rc rd) (xW ra rb rc rd) (uK ra rb rc rd) ((((ru : Int) : Rat) + ((((rf : Int) : Rat) * (jF (xY ra rb rc rd) (zC ra rb rc rd) (zI ra rb rc rd) q0 q1 q2)) / (jF (uK ra rb rc rd) (uL ra rb rc rd) (uO ra rb rc rd) q0 q1 q2))) - ((ru : Int) : Rat)) ((((rv : Int) : Rat) + ((((rf : Int) : Rat) * (jF (xW ra rb rc rd) (zD ra rb rc rd) (zG ra rb rc rd) q0 q1 q2)) / (jF (uK ra rb rc rd) (uL ra rb rc rd) (uO ra rb rc rd) q0 q1 q2))) - ((rv : Int) : Rat)) ((rf : Int) : Rat)) = q := ⟨_, rfl⟩
  obtain ⟨n1, hn1⟩ : ∃ q : Rat, (jF (zC ra rb rc rd) (zD ra rb rc rd) (uL ra rb rc rd) ((((ru : Int) : Rat) + ((((rf : Int) : Rat) * (jF (xY ra rb rc rd) (zC ra rb rc rd) (zI ra rb rc rd) q0 q1 q2)) / (jF (uK ra rb rc rd) (uL ra rb rc rd) (uO ra rb rc rd) q0 q1 q2))) - ((ru : Int) : Rat)) ((((rv : Int) : Rat) + ((((rf : Int) : Rat) * (jF (xW ra rb rc rd) (zD ra rb rc rd) (zG ra rb rc rd) q0 q1 q2)) / (jF (uK ra rb rc rd) (uL ra rb rc rd) (uO ra rb rc rd) q0 q1 q2))) - ((rv : Int) : Rat)) ((rf : Int) : Rat)) = q := ⟨_, rfl⟩
  obtain ⟨n2, hn2⟩ : ∃ q : Rat, (jF (zI ra rb rc rd) (zG ra rb rc rd) (uO ra rb rc rd) ((((ru : Int) : Rat) + ((((rf : Int) : Rat) * (jF (xY ra rb rc rd) (zC ra rb rc rd) (zI ra rb rc rd) q0 q1 q2)) / (jF (uK ra rb rc rd) (uL ra rb rc rd) (uO ra rb rc rd) q0 q1 q2))) - ((ru : Int) : Rat)) ((((rv : Int) : Rat) + ((((rf : Int) : Rat) * (jF (xW ra rb rc rd) (zD ra rb rc rd) (zG ra rb rc rd) q0 q1 q2)) / (jF (uK ra rb rc rd) (uL ra rb rc rd) (uO ra rb rc rd) q0 q1 q2))) - ((rv : Int) : Rat)) ((rf : Int) : Rat)) = q := ⟨_, rfl⟩
  have hbl := uS hl
  have hbr := uS hr
  have kl := seenK hbl.2.2.2.2.2.2 hbl.2.2.2.2.2.1.1 hvl
  have kr := seenK hbr.2.2.2.2.2.2 hbr.2.2.2.2.2.1.1 hvr
  have hF2 := hF
  obtain ⟨hb0, hb1, hb2, -⟩ := hF2
  have hz0 : q0 = r0 - b0 := by rw [← hq0, ← hr0, ← hb0, ← Rat.intCast_sub]; exact congrArg Int.cast (by omega)
  have hz1 : q1 = r1 - b1 := by rw [← hq1, ← hr1, ← hb1, ← Rat.intCast_sub]; exact congrArg Int.cast (by omega)
  have hz2 : q2 = r2 - b2 := by rw [← hq2, ← hr2, ← hb2, ← Rat.intCast_sub]; exact congrArg Int.cast (by omega)
  obtain ⟨x1, x2, x3, x4, x5, x6, x7⟩ := rows_all hF hup hz0 hz1 hz2 kl kr ((seen0 (nY hvl)).symm.trans hm0) ((seen1 (nY hvl)).symm.trans hm1) ((seen2 (nY hvl)).symm.trans hm2) ((seen0 (nY hvr)).symm.trans hn0) ((seen1 (nY hvr)).symm.trans hn1) ((seen2 (nY hvr)).symm.trans hn2) hd
  exact w_rows (hpx := hpx) (hpy := hpy) (hpz := hpz) (hr0 := hr0) (hr1 := hr1) (hr2 := hr2) (hF := hF) (vJ := vJ) (vH := vH) (vI := vI) (qV := qV) (qW := qW) (qU := qU) (uC := uC) (uE := uE) (uD := uD) (qJ := qJ) (qI := qI) (qK := qK) (hl := hl) (hr := hr) (hup := hup) (hq0 := hq0) (hq1 := hq1) (hq2 := hq2) (hvl := hvl) (hvr := hvr) (hd := hd) (hm0 := hm0) (hm1 := hm1) (hm2 := hm2) (hn0 := hn0) (hn1 := hn1) (hn2 := hn2) (hdm := x1) (hdn := x2) (hx1 := x3) (hy1 := x4) (hy2 := x5) (hx2 := x6) (hdp := x7) ..
theorem laidOut : laidOutB Tryz.prog = true := by kernel_rfl
set_option maxRecDepth 100000 in
theorem law_lifted (os : Os) (started : os.Started) (H : Type) (enc : TypeId × Value → H) :
    ReturnsInHanded {} Tryz.checked os 5 .any (Rows.rectifyRowsSpec.pre6 enc Tryz.prog Tryz.f5 Rows.rectifyRowsRow.domain false) (Rows.rectifyRowsSpec.post enc Tryz.prog Tryz.f5 false true false false) := by
  refine returnsInHanded_of_change_sized (C := Tryz.checked) (by kernel_rfl) started (by kernel_rfl) Tryz.func5
    (ChangeSpec.witness6 (enc := enc) (C := Tryz.checked) false ⟨#[], #[.agg #[.int .i64 0, .int .i64 0, .int .i64 0, .int .i64 0, .int .i64 0, .int .i64 0, .int .i64 0, .int .i64 0, .int .i64 0, .int .i64 0, .int .i64 0, .int .i64 0, .int .i64 0, .int .i64 0, .int .i64 0, .int .i64 0, .int .i64 0, .int .i64 0, .int .i64 0, .int .i64 0], .agg #[.int .i64 0, .int .i64 0, .int .i64 0]], []⟩ 8 (by kernel_rfl) (by kernel_rfl) (by kernel_rfl) (by kernel_rfl)) ?_
  intro W base args ds gs before hval hW _ hwt _
  refine law_contract (tys := [ty30, ty22]) (B := 4) laidOut rfl (by kernel_rfl) (by kernel_rfl) (by kernel_rfl) (by kernel_rfl) ?_ ?_ W base args ds gs before hval hW hwt
  · intro ds hl
    have hl2 : ds.length = 2 := hl
    match ds, hl2 with
    | [d1, d2], _ => exact ⟨rfl, rfl, rfl⟩
  · intro dss h
    cases h with
    | cons h1 r =>
      cases r with
      | cons h2 r =>
        cases r with
        | nil =>
          obtain ⟨s, e1, ls⟩ := sh30_ h1
          obtain ⟨p, e2, lp⟩ := sh22_ h2
          simp only [mkAll]
          rw [e1, e2]
          exact takes_law s p ls lp
theorem law_holds : Rows.RectifyRowsSaid :=
  OpenClaim.holds_of_wide 5 Tryz.f5 rfl rfl rfl rfl rfl rfl rfl ⟨rfl, rfl, rfl, rfl, rfl⟩ rfl rfl rfl rfl rfl (by kernel_rfl) Tryz.func5 (by kernel_rfl)
    (of_decide_eq_true (by kernel_rfl)) (by unfold Func.isWrapper; rw [if_neg (by decide +kernel)]; exact ⟨rfl, rfl⟩)
    (fun os started H enc _ => law_lifted os started H enc)
end Go.Proofs.YtbecgnplakngdaaGreat
