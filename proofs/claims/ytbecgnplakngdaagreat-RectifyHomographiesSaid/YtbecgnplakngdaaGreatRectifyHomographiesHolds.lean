/- The law RectifyHomographies returns true for every input, and its arguments read afterwards as before. No condition. -/
import Derived.Test.YtbecgnplakngdaaGreatM35
import Derived.Test.YtbecgnplakngdaaGreatM36
import Derived.Test.YtbecgnplakngdaaGreatM37
import Derived.Test.YtbecgnplakngdaaGreatRows
import Derived.JoinedOf
namespace Go.Proofs.YtbecgnplakngdaaGreat
open Go.Fid Go.RowKit Go.ChangeShapes Go.WideShapes
theorem takes_law (s : kY) (right : Bool) (p : qI) (_ls : Len30 s) (_lr : Len_bool right) (lp : Len55 p) : kF Tryz.prog 9 [qP s, .val (.bool right), kI p] (.val (.bool true)) := by
  obtain ⟨⟨⟨lx, ly, lz⟩, ⟨la, lb, lc, ld⟩, lf, ⟨lu, lv⟩⟩, ⟨⟨rx, ry, rz⟩, ⟨ra, rb, rc, rd⟩, rf, ⟨ru, rv⟩⟩⟩ := s
  rcases hbr : bM p.x p.y with _ | _
  · exact w_homN (hx := (aW (by decide) lp.1.1.2.2 lp.1.2.2.2)) (hy := (aW (by decide) lp.2.1.2.2 lp.2.2.2.2)) (hbr := hbr) ..
  obtain ⟨hx, hy⟩ := briefP_ok hbr
  rcases pair_cases lx ly lz la lb lc ld lf lu lv rx ry rz ra rb rc rd rf ru rv with ⟨c, hc, hc0⟩ | ⟨hl, hr, b0, b1, b2, ⟨hb0, hb1, hb2⟩, ⟨zW, zV, zU⟩, hup⟩ | ⟨hl, hr, b0, b1, b2, e00, e01, e02, e10, e11, e12, e20, e21, e22, hF, hup, ⟨zW, zV, zU⟩, vF, vG, vE, vL, vM, vN, vA, vB, vC⟩
  · exact w_homE1 (hx := (aW (by decide) lp.1.1.2.2 lp.1.2.2.2)) (hy := (aW (by decide) lp.2.1.2.2 lp.2.2.2.2)) (hbr := hbr) (hc := hc) (hc0 := hc0) ..
  · exact w_homE2 (hx := (aW (by decide) lp.1.1.2.2 lp.1.2.2.2)) (hy := (aW (by decide) lp.2.1.2.2 lp.2.2.2.2)) (hbr := hbr) (zW := zW) (zV := zV) (zU := zU) (hl := hl) (hr := hr) (hb0 := hb0) (hb1 := hb1) (hb2 := hb2) (hup := hup) ..
  obtain ⟨tx, ty, tz, ta, tb, tc, td, tf, tu, tv, hsd, hst⟩ : ∃ tx ty tz ta tb tc td tf tu tv : Int, (bif right then (kJ.mk (jT.mk rx ry rz) (jN.mk ra rb rc rd) rf (kM.mk ru rv)) else (kJ.mk (jT.mk lx ly lz) (jN.mk la lb lc ld) lf (kM.mk lu lv))) = (kJ.mk (jT.mk tx ty tz) (jN.mk ta tb tc td) tf (kM.mk tu tv)) ∧ uL tx ty tz tu tv tf ta tb tc td = 0 := by
    cases right
    · exact ⟨_, _, _, _, _, _, _, _, _, _, rfl, hl⟩
    · exact ⟨_, _, _, _, _, _, _, _, _, _, rfl, hr⟩
  obtain ⟨x00, dW⟩ : ∃ q : Rat, (jM (gD ta tb tc td) (gK ta tb tc td) (gO ta tb tc td) e00 e01 e02) = q := ⟨_, rfl⟩
  obtain ⟨x01, dS⟩ : ∃ q : Rat, (jM (gE ta tb tc td) (gJ ta tb tc td) (gP ta tb tc td) e00 e01 e02) = q := ⟨_, rfl⟩
  obtain ⟨x02, dP⟩ : ∃ q : Rat, (jM (zJ ta tb tc td) (yA ta tb tc td) (yB ta tb tc td) e00 e01 e02) = q := ⟨_, rfl⟩
  obtain ⟨x10, dU⟩ : ∃ q : Rat, (jM (gD ta tb tc td) (gK ta tb tc td) (gO ta tb tc td) e10 e11 e12) = q := ⟨_, rfl⟩
  obtain ⟨x11, dT⟩ : ∃ q : Rat, (jM (gE ta tb tc td) (gJ ta tb tc td) (gP ta tb tc td) e10 e11 e12) = q := ⟨_, rfl⟩
  obtain ⟨x12, dR⟩ : ∃ q : Rat, (jM (zJ ta tb tc td) (yA ta tb tc td) (yB ta tb tc td) e10 e11 e12) = q := ⟨_, rfl⟩
  obtain ⟨x20, dQ⟩ : ∃ q : Rat, (jM (gD ta tb tc td) (gK ta tb tc td) (gO ta tb tc td) e20 e21 e22) = q := ⟨_, rfl⟩
  obtain ⟨x21, dN⟩ : ∃ q : Rat, (jM (gE ta tb tc td) (gJ ta tb tc td) (gP ta tb tc td) e20 e21 e22) = q := ⟨_, rfl⟩
  obtain ⟨x22, dV⟩ : ∃ q : Rat, (jM (zJ ta tb tc td) (yA ta tb tc td) (yB ta tb tc td) e20 e21 e22) = q := ⟨_, rfl⟩
  obtain ⟨a00, mB⟩ : ∃ q : Rat, (jM ((1 : Int) : Rat) ((0 : Int) : Rat) ((0 : Int) : Rat) x00 x01 x02) = q := ⟨_, rfl⟩
  obtain ⟨a01, mD⟩ : ∃ q : Rat, (jM ((0 : Int) : Rat) ((1 : Int) : Rat) ((0 : Int) : Rat) x00 x01 x02) = q := ⟨_, rfl⟩
  obtain ⟨a02, mC⟩ : ∃ q : Rat, (jM ((-tu : Int) : Rat) ((-tv : Int) : Rat) ((tf : Int) : Rat) x00 x01 x02) = q := ⟨_, rfl⟩
  obtain ⟨a10, nW⟩ : ∃ q : Rat, (jM ((1 : Int) : Rat) ((0 : Int) : Rat) ((0 : Int) : Rat) x10 x11 x12) = q := ⟨_, rfl⟩
  obtain ⟨a11, mE⟩ : ∃ q : Rat, (jM ((0 : Int) : Rat) ((1 : Int) : Rat) ((0 : Int) : Rat) x10 x11 x12) = q := ⟨_, rfl⟩
  obtain ⟨a12, nY⟩ : ∃ q : Rat, (jM ((-tu : Int) : Rat) ((-tv : Int) : Rat) ((tf : Int) : Rat) x10 x11 x12) = q := ⟨_, rfl⟩
  obtain ⟨a20, nX⟩ : ∃ q : Rat, (jM ((1 : Int) : Rat) ((0 : Int) : Rat) ((0 : Int) : Rat) x20 x21 x22) = q := ⟨_, rfl⟩
  obtain ⟨a21, mA⟩ : ∃ q : Rat, (jM ((0 : Int) : Rat) ((1 : Int) : Rat) ((0 : Int) : Rat) x20 x21 x22) = q := ⟨_, rfl⟩
  obtain ⟨a22, nZ⟩ : ∃ q : Rat, (jM ((-tu : Int) : Rat) ((-tv : Int) : Rat) ((tf : Int) : Rat) x20 x21 x22) = q := ⟨_, rfl⟩
  obtain ⟨k0, hk0⟩ : ∃ q : Int, (1 * (a00.den : Int)) = q := ⟨_, rfl⟩
  obtain ⟨k1, hk1⟩ : ∃ q : Int, (k0 * (a01.den : Int)) = q := ⟨_, rfl⟩
  obtain ⟨k2, hk2⟩ : ∃ q : Int, (k1 * (a02.den : Int)) = q := ⟨_, rfl⟩
  obtain ⟨k3, hk3⟩ : ∃ q : Int, (k2 * (a10.den : Int)) = q := ⟨_, rfl⟩
  obtain ⟨k4, hk4⟩ : ∃ q : Int, (k3 * (a11.den : Int)) = q := ⟨_, rfl⟩
  obtain ⟨k5, hk5⟩ : ∃ q : Int, (k4 * (a12.den : Int)) = q := ⟨_, rfl⟩
  obtain ⟨k6, hk6⟩ : ∃ q : Int, (k5 * (a20.den : Int)) = q := ⟨_, rfl⟩
  obtain ⟨k7, hk7⟩ : ∃ q : Int, (k6 * (a21.den : Int)) = q := ⟨_, rfl⟩
  obtain ⟨k8, hk8⟩ : ∃ q : Int, (k7 * (a22.den : Int)) = q := ⟨_, rfl⟩
  obtain ⟨v0, hv0⟩ : ∃ q : Int, ((k8.fdiv (a00.den : Int)) * a00.num) = q := ⟨_, rfl⟩
  obtain ⟨v1, hv1⟩ : ∃ q : Int, ((k8.fdiv (a01.den : Int)) * a01.num) = q := ⟨_, rfl⟩
  obtain ⟨v2, hv2⟩ : ∃ q : Int, ((k8.fdiv (a02.den : Int)) * a02.num) = q := ⟨_, rfl⟩
  obtain ⟨v3, hv3⟩ : ∃ q : Int, ((k8.fdiv (a10.den : Int)) * a10.num) = q := ⟨_, rfl⟩
  obtain ⟨v4, hv4⟩ : ∃ q : Int, ((k8.fdiv (a11.den : Int)) * a11.num) = q := ⟨_, rfl⟩
  obtain ⟨v5, hv5⟩ : ∃ q : Int, ((k8.fdiv (a12.den : Int)) * a12.num) = q := ⟨_, rfl⟩
  obtain ⟨v6, hv6⟩ : ∃ q : Int, ((k8.fdiv (a20.den : Int)) * a20.num) = q := ⟨_, rfl⟩
  obtain ⟨v7, hv7⟩ : ∃ q : Int, ((k8.fdiv (a21.den : Int)) * a21.num) = q := ⟨_, rfl⟩
  obtain ⟨v8, hv8⟩ : ∃ q : Int, ((k8.fdiv (a22.den : Int)) * a22.num) = q := ⟨_, rfl⟩
  have ht_ := xF hst
  have hz_ := hom_isz hF dW dS dP dU dT dR dQ dN dV mB mD mC nW mE nY nX mA nZ
  have he_ := hom_v hz_ hk0 hk1 hk2 hk3 hk4 hk5 hk6 hk7 hk8 hv0 hv1 hv2 hv3 hv4 hv5 hv6 hv7 hv8
  have hda := hom_det hF hup ht_.2.2.2.2.2.2 ht_.2.2.2.2.2.1.1 dW dS dP dU dT dR dQ dN dV mB mD mC nW mE nY nX mA nZ
  have hdz := hom_dz he_ hda
  have hnz := det_nz9 hdz
  have hdv := eK hdz
  obtain ⟨c0, c1, c2, c3, c4, c5, c6, c7, c8, hc⟩ : ∃ c0 c1 c2 c3 c4 c5 c6 c7 c8 : Int, xB [v0, v1, v2, v3, v4, v5, v6, v7, v8] = [c0, c1, c2, c3, c4, c5, c6, c7, c8] := ⟨_, _, _, _, _, _, _, _, _, rfl⟩
  obtain ⟨-, -, -, hcd, bN⟩ := red9 hdz hc
  rcases hv : (uV p.x && uV p.y) with _ | _
  · exact w_homF (hx := hx) (hy := hy) (hbr := hbr) (hv := hv) (hF := hF) (zW := zW) (zV := zV) (zU := zU) (vF := vF) (vG := vG) (vE := vE) (vL := vL) (vM := vM) (vN := vN) (vA := vA) (vB := vB) (vC := vC) (hl := hl) (hr := hr) (hup := hup) (hsd := hsd) (hst := hst) (dW := dW) (dS := dS) (dP := dP) (dU := dU) (dT := dT) (dR := dR) (dQ := dQ) (dN := dN) (dV := dV) (mB := mB) (mD := mD) (mC := mC) (nW := nW) (mE := mE) (nY := nY) (nX := nX) (mA := mA) (nZ := nZ) (hk0 := hk0) (hk1 := hk1) (hk2 := hk2) (hk3 := hk3) (hk4 := hk4) (hk5 := hk5) (hk6 := hk6) (hk7 := hk7) (hk8 := hk8) (hv0 := hv0) (hv1 := hv1) (hv2 := hv2) (hv3 := hv3) (hv4 := hv4) (hv5 := hv5) (hv6 := hv6) (hv7 := hv7) (hv8 := hv8) (hc := hc) (hnz := hnz) (hdv := hdv) (bN := bN) ..
  rw [Bool.and_eq_true] at hv
  obtain ⟨px, py⟩ := p
  dsimp only at hx hy hv hbr
  obtain ⟨x, rfl, qx⟩ := valid_ex hv.1 hx
  obtain ⟨y, rfl, qy⟩ := valid_ex hv.2 hy
  clear hx hy
  have hx := qx
  have hy := qy
  obtain ⟨w0, hw0⟩ : ∃ q : Rat, (jM (gD ta tb tc td) (gE ta tb tc td) (zJ ta tb tc td) (x - ((tu : Int) : Rat)) (y - ((tv : Int) : Rat)) ((tf : Int) : Rat)) = q := ⟨_, rfl⟩
  obtain ⟨w1, hw1⟩ : ∃ q : Rat, (jM (gK ta tb tc td) (gJ ta tb tc td) (yA ta tb tc td) (x - ((tu : Int) : Rat)) (y - ((tv : Int) : Rat)) ((tf : Int) : Rat)) = q := ⟨_, rfl⟩
  obtain ⟨w2, hw2⟩ : ∃ q : Rat, (jM (gO ta tb tc td) (gP ta tb tc td) (yB ta tb tc td) (x - ((tu : Int) : Rat)) (y - ((tv : Int) : Rat)) ((tf : Int) : Rat)) = q := ⟨_, rfl⟩
  by_cases hdw : (yT (jM e20 e21 e22 w0 w1 w2)) ≤ 0
  · exact w_homB (hx := hx) (hy := hy) (hbr := hbr) (hsd := hsd) (hst := hst) (hw0 := hw0) (hw1 := hw1) (hw2 := hw2) (hF := hF) (zW := zW) (zV := zV) (zU := zU) (vF := vF) (vG := vG) (vE := vE) (vL := vL) (vM := vM) (vN := vN) (vA := vA) (vB := vB) (vC := vC) (hl := hl) (hr := hr) (hup := hup) (dW := dW) (dS := dS) (dP := dP) (dU := dU) (dT := dT) (dR := dR) (dQ := dQ) (dN := dN) (dV := dV) (mB := mB) (mD := mD) (mC := mC) (nW := nW) (mE := mE) (nY := nY) (nX := nX) (mA := mA) (nZ := nZ) (hk0 := hk0) (hk1 := hk1) (hk2 := hk2) (hk3 := hk3) (hk4 := hk4) (hk5 := hk5) (hk6 := hk6) (hk7 := hk7) (hk8 := hk8) (hv0 := hv0) (hv1 := hv1) (hv2 := hv2) (hv3 := hv3) (hv4 := hv4) (hv5 := hv5) (hv6 := hv6) (hv7 := hv7) (hv8 := hv8) (hc := hc) (hnz := hnz) (hdv := hdv) (bN := bN) (hd := hdw) ..
  obtain ⟨p0, p1, p2, hp⟩ : ∃ p0 p1 p2 : Int, xB [(x.num * (y.den : Int)), (y.num * (x.den : Int)), ((x.den : Int) * (y.den : Int))] = [p0, p1, p2] := ⟨_, _, _, rfl⟩
  obtain ⟨t0, t1, t2, ht⟩ : ∃ t0 t1 t2 : Int, xB [(((c0 * p0) + (c1 * p1)) + (c2 * p2)), (((c3 * p0) + (c4 * p1)) + (c5 * p2)), (((c6 * p0) + (c7 * p1)) + (c8 * p2))] = [t0, t1, t2] := ⟨_, _, _, rfl⟩
  obtain ⟨hnt, ht2, hix, hiy⟩ := hom_img he_ hdz hc hp ht (hom_L0 dW dS dP mB mD mC hw0 hw1 hw2) (hom_L1 dU dT dR nW mE nY hw0 hw1 hw2) (hom_L2 dQ dN dV nX mA nZ hw0 hw1 hw2) (aE hdw)
  have hnp := point_nz x y
  exact w_homO (hx := hx) (hy := hy) (hbr := hbr) (hsd := hsd) (hst := hst) (hw0 := hw0) (hw1 := hw1) (hw2 := hw2) (hF := hF) (zW := zW) (zV := zV) (zU := zU) (vF := vF) (vG := vG) (vE := vE) (vL := vL) (vM := vM) (vN := vN) (vA := vA) (vB := vB) (vC := vC) (hl := hl) (hr := hr) (hup := hup) (dW := dW) (dS := dS) (dP := dP) (dU := dU) (dT := dT) (dR := dR) (dQ := dQ) (dN := dN) (dV := dV) (mB := mB) (mD := mD) (mC := mC) (nW := nW) (mE := mE) (nY := nY) (nX := nX) (mA := mA) (nZ := nZ) (hk0 := hk0) (hk1 := hk1) (hk2 := hk2) (hk3 := hk3) (hk4 := hk4) (hk5 := hk5) (hk6 := hk6) (hk7 := hk7) (hk8 := hk8) (hv0 := hv0) (hv1 := hv1) (hv2 := hv2) (hv3 := hv3) (hv4 := hv4) (hv5 := hv5) (hv6 := hv6) (hv7 := hv7) (hv8 := hv8) (hc := hc) (hnz := hnz) (hdv := hdv) (bN := bN) (hd := hdw) (hp := hp) (ht := ht) (hnp := hnp) (hnzt := hnt) (ht2 := ht2) (hix := hix) (hiy := hiy) ..
theorem laidOut : laidOutB Tryz.prog = true := by kernel_rfl
set_option maxRecDepth 100000 in
theorem law_lifted (os : Os) (started : os.Started) (H : Type) (enc : TypeId × Value → H) :
    ReturnsInHanded {} Tryz.checked os 9 .any (Rows.rectifyHomographiesSpec.pre6 enc Tryz.prog Tryz.f9 Rows.rectifyHomographiesRow.domain false) (Rows.rectifyHomographiesSpec.post enc Tryz.prog Tryz.f9 false true false false) := by
  refine returnsInHanded_of_change_sized (C := Tryz.checked) (by kernel_rfl) started (by kernel_rfl) Tryz.func9
    (ChangeSpec.witness6 (enc := enc) (C := Tryz.checked) false ⟨#[], #[.agg #[.int .i64 0, .int .i64 0, .int .i64 0, .int .i64 0, .int .i64 0, .int .i64 0, .int .i64 0, .int .i64 0, .int .i64 0, .int .i64 0, .int .i64 0, .int .i64 0, .int .i64 0, .int .i64 0, .int .i64 0, .int .i64 0, .int .i64 0, .int .i64 0, .int .i64 0, .int .i64 0], .bool false, .agg #[.bool false, .slice none 0 0, .bool false, .slice none 0 0, .bool false, .slice none 0 0, .bool false, .slice none 0 0]], []⟩ 8 (by kernel_rfl) (by kernel_rfl) (by kernel_rfl) (by kernel_rfl)) ?_
  intro W base args ds gs before bN hW _ hwt _
  refine law_contract (tys := [ty30, .bool, ty55]) (B := 4) laidOut rfl (by kernel_rfl) (by kernel_rfl) (by kernel_rfl) (by kernel_rfl) ?_ ?_ W base args ds gs before bN hW hwt
  · intro ds hl
    have hl2 : ds.length = 3 := hl
    match ds, hl2 with
    | [d1, d2, d3], _ => exact ⟨rfl, rfl, rfl⟩
  · intro dss h
    cases h with
    | cons h1 r =>
      cases r with
      | cons h2 r =>
        cases r with
        | cons h3 r =>
          cases r with
          | nil =>
            obtain ⟨s, e1, ls⟩ := sh30_ h1
            obtain ⟨right, e2, lright⟩ := sh_bool h2
            obtain ⟨p, e3, lp⟩ := sh55_ h3
            simp only [mkAll]
            rw [e1, e2, e3]
            exact takes_law s right p ls lright lp
theorem law_holds : Rows.RectifyHomographiesSaid :=
  OpenClaim.holds_of_wide 9 Tryz.f9 rfl rfl rfl rfl rfl rfl rfl ⟨rfl, rfl, rfl, rfl, rfl⟩ rfl rfl rfl rfl rfl (by kernel_rfl) Tryz.func9 (by kernel_rfl)
    (of_decide_eq_true (by kernel_rfl)) (by unfold Func.isWrapper; rw [if_neg (by decide +kernel)]; exact ⟨rfl, rfl⟩)
    (fun os started H enc _ => law_lifted os started H enc)
end Go.Proofs.YtbecgnplakngdaaGreat
