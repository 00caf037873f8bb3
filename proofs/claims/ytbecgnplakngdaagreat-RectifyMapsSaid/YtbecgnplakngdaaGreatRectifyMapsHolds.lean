/- The law RectifyMaps returns true for every input, and its arguments read afterwards as before. No condition. -/
import Derived.Test.YtbecgnplakngdaaGreatM32
import Derived.Test.YtbecgnplakngdaaGreatM33
import Derived.Test.YtbecgnplakngdaaGreatM34
import Derived.Test.YtbecgnplakngdaaGreatRows
import Derived.JoinedOf
namespace Go.Proofs.YtbecgnplakngdaaGreat
open Go.Fid Go.RowKit Go.ChangeShapes Go.WideShapes
theorem takes_law (s : kV) (right : Bool) (p : jS) (_ls : Len30 s) (_lr : Len_bool right) (lp : Len55 p) : kE Tryz.prog 8 [qA s, .val (.bool right), jI p] (.val (.bool true)) := by
  obtain ⟨⟨⟨lx, ly, lz⟩, ⟨la, lb, lc, ld⟩, lf, ⟨lu, lv⟩⟩, ⟨⟨rx, ry, rz⟩, ⟨ra, rb, rc, rd⟩, rf, ⟨ru, rv⟩⟩⟩ := s
  rcases hbr : dZ p.x p.y with _ | _
  · exact w_mapN (hx := (qok_raw (by decide) lp.1.1.2.2 lp.1.2.2.2)) (hy := (qok_raw (by decide) lp.2.1.2.2 lp.2.2.2.2)) (hbr := hbr) ..
  obtain ⟨hx, hy⟩ := briefP_ok hbr
  rcases pair_cases lx ly lz la lb lc ld lf lu lv rx ry rz ra rb rc rd rf ru rv with ⟨c, hc, hc0⟩ | ⟨hl, hr, b0, b1, b2, ⟨hb0, hb1, hb2⟩, ⟨uR, uP, uQ⟩, hup⟩ | ⟨hl, hr, b0, b1, b2, e00, e01, e02, e10, e11, e12, e20, e21, e22, hF, hup, ⟨uR, uP, uQ⟩, kM, kK, kL, kO, kP, kN, kH, kG, kI⟩
  · exact w_mapE1 (hx := hx) (hy := hy) (hbr := hbr) (hc := hc) (hc0 := hc0) ..
  · exact w_mapE2 (hx := hx) (hy := hy) (hbr := hbr) (uR := uR) (uP := uP) (uQ := uQ) (hl := hl) (hr := hr) (hb0 := hb0) (hb1 := hb1) (hb2 := hb2) (hup := hup) ..
  rcases hv : (uC p.x && uC p.y) with _ | _
  · exact w_mapF (hx := hx) (hy := hy) (hbr := hbr) (hv := hv) (hF := hF) (uR := uR) (uP := uP) (uQ := uQ) (kM := kM) (kK := kK) (kL := kL) (kO := kO) (kP := kP) (kN := kN) (kH := kH) (kG := kG) (kI := kI) (hl := hl) (hr := hr) (hup := hup) ..
  rw [Bool.and_eq_true] at hv
  obtain ⟨px, py⟩ := p
  dsimp only at hx hy hv hbr
  obtain ⟨x, rfl, qx⟩ := valid_ex hv.1 hx
  obtain ⟨y, rfl, qy⟩ := valid_ex hv.2 hy
  clear hx hy
  have hx := qx
  have hy := qy
  obtain ⟨tx, ty, tz, ta, tb, tc, td, tf, tu, tv, hsd, hst⟩ : ∃ tx ty tz ta tb tc td tf tu tv : Int, (bif right then (jX.mk (jM.mk rx ry rz) (jK.mk ra rb rc rd) rf (jZ.mk ru rv)) else (jX.mk (jM.mk lx ly lz) (jK.mk la lb lc ld) lf (jZ.mk lu lv))) = (jX.mk (jM.mk tx ty tz) (jK.mk ta tb tc td) tf (jZ.mk tu tv)) ∧ qV tx ty tz tu tv tf ta tb tc td = 0 := by
    cases right
    · exact ⟨_, _, _, _, _, _, _, _, _, _, rfl, hl⟩
    · exact ⟨_, _, _, _, _, _, _, _, _, _, rfl, hr⟩
  obtain ⟨w0, hw0⟩ : ∃ q : Rat, (jD (vY ta tb tc td) (vX ta tb tc td) (uL ta tb tc td) (x - ((tu : Int) : Rat)) (y - ((tv : Int) : Rat)) ((tf : Int) : Rat)) = q := ⟨_, rfl⟩
  obtain ⟨w1, hw1⟩ : ∃ q : Rat, (jD (xA ta tb tc td) (xB ta tb tc td) (uN ta tb tc td) (x - ((tu : Int) : Rat)) (y - ((tv : Int) : Rat)) ((tf : Int) : Rat)) = q := ⟨_, rfl⟩
  obtain ⟨w2, hw2⟩ : ∃ q : Rat, (jD (xD ta tb tc td) (xF ta tb tc td) (uO ta tb tc td) (x - ((tu : Int) : Rat)) (y - ((tv : Int) : Rat)) ((tf : Int) : Rat)) = q := ⟨_, rfl⟩
  obtain ⟨d0, hd0⟩ : ∃ q : Rat, (((e00 * (x / (jD e00 e01 e02 e00 e01 e02))) + (e10 * (y / (jD e10 e11 e12 e10 e11 e12)))) + (e20 * (((1 : Int) : Rat) / (jD e20 e21 e22 e20 e21 e22)))) = q := ⟨_, rfl⟩
  obtain ⟨d1, hd1⟩ : ∃ q : Rat, (((e01 * (x / (jD e00 e01 e02 e00 e01 e02))) + (e11 * (y / (jD e10 e11 e12 e10 e11 e12)))) + (e21 * (((1 : Int) : Rat) / (jD e20 e21 e22 e20 e21 e22)))) = q := ⟨_, rfl⟩
  obtain ⟨d2, hd2⟩ : ∃ q : Rat, (((e02 * (x / (jD e00 e01 e02 e00 e01 e02))) + (e12 * (y / (jD e10 e11 e12 e10 e11 e12)))) + (e22 * (((1 : Int) : Rat) / (jD e20 e21 e22 e20 e21 e22)))) = q := ⟨_, rfl⟩
  have ht := uB hst
  by_cases hdw : (vJ (jD e20 e21 e22 w0 w1 w2)) ≤ 0
  · by_cases hs2 : (vJ (jD (uL ta tb tc td) (uN ta tb tc td) (uO ta tb tc td) d0 d1 d2)) ≤ 0
    · exact w_mapBB (hx := hx) (hy := hy) (hbr := hbr) (hsd := hsd) (hst := hst) (hw0 := hw0) (hw1 := hw1) (hw2 := hw2) (hd0 := hd0) (hd1 := hd1) (hd2 := hd2) (hF := hF) (uR := uR) (uP := uP) (uQ := uQ) (kM := kM) (kK := kK) (kL := kL) (kO := kO) (kP := kP) (kN := kN) (kH := kH) (kG := kG) (kI := kI) (hl := hl) (hr := hr) (hup := hup) (hd := hdw) (hs2 := hs2) ..
    · exact w_mapBO (hx := hx) (hy := hy) (hbr := hbr) (hsd := hsd) (hst := hst) (hw0 := hw0) (hw1 := hw1) (hw2 := hw2) (hd0 := hd0) (hd1 := hd1) (hd2 := hd2) (hF := hF) (uR := uR) (uP := uP) (uQ := uQ) (kM := kM) (kK := kK) (kL := kL) (kO := kO) (kP := kP) (kN := kN) (kH := kH) (kG := kG) (kI := kI) (hl := hl) (hr := hr) (hup := hup) (hd := hdw) (hs2 := hs2) ..
  obtain ⟨g0, hg0⟩ : ∃ q : Rat, (((e00 * (((jD e00 e01 e02 w0 w1 w2) / (jD e20 e21 e22 w0 w1 w2)) / (jD e00 e01 e02 e00 e01 e02))) + (e10 * (((jD e10 e11 e12 w0 w1 w2) / (jD e20 e21 e22 w0 w1 w2)) / (jD e10 e11 e12 e10 e11 e12)))) + (e20 * (((1 : Int) : Rat) / (jD e20 e21 e22 e20 e21 e22)))) = q := ⟨_, rfl⟩
  obtain ⟨g1, hg1⟩ : ∃ q : Rat, (((e01 * (((jD e00 e01 e02 w0 w1 w2) / (jD e20 e21 e22 w0 w1 w2)) / (jD e00 e01 e02 e00 e01 e02))) + (e11 * (((jD e10 e11 e12 w0 w1 w2) / (jD e20 e21 e22 w0 w1 w2)) / (jD e10 e11 e12 e10 e11 e12)))) + (e21 * (((1 : Int) : Rat) / (jD e20 e21 e22 e20 e21 e22)))) = q := ⟨_, rfl⟩
  obtain ⟨g2, hg2⟩ : ∃ q : Rat, (((e02 * (((jD e00 e01 e02 w0 w1 w2) / (jD e20 e21 e22 w0 w1 w2)) / (jD e00 e01 e02 e00 e01 e02))) + (e12 * (((jD e10 e11 e12 w0 w1 w2) / (jD e20 e21 e22 w0 w1 w2)) / (jD e10 e11 e12 e10 e11 e12)))) + (e22 * (((1 : Int) : Rat) / (jD e20 e21 e22 e20 e21 e22)))) = q := ⟨_, rfl⟩
  by_cases hs2 : (vJ (jD (uL ta tb tc td) (uN ta tb tc td) (uO ta tb tc td) d0 d1 d2)) ≤ 0
  · exact w_mapOB (hx := hx) (hy := hy) (hbr := hbr) (hsd := hsd) (hst := hst) (hw0 := hw0) (hw1 := hw1) (hw2 := hw2) (hd0 := hd0) (hd1 := hd1) (hd2 := hd2) (hF := hF) (uR := uR) (uP := uP) (uQ := uQ) (kM := kM) (kK := kK) (kL := kL) (kO := kO) (kP := kP) (kN := kN) (kH := kH) (kG := kG) (kI := kI) (hl := hl) (hr := hr) (hup := hup) (hd := hdw) (hg0 := hg0) (hg1 := hg1) (hg2 := hg2) (hg := (sgn_pos.2 (map_pos hF hup hw0 hw1 hw2 hdw hg0 hg1 hg2 ht.2.2.2.2.2.2 ht.2.2.2.2.2.1.1))) (hgx := (map_x hF hup hw0 hw1 hw2 hdw hg0 hg1 hg2 ht.2.2.2.2.2.2 ht.2.2.2.2.2.1.1)) (hgy := (map_y hF hup hw0 hw1 hw2 hdw hg0 hg1 hg2 ht.2.2.2.2.2.2 ht.2.2.2.2.2.1.1)) (hs2 := hs2) ..
  · exact w_mapOO (hx := hx) (hy := hy) (hbr := hbr) (hsd := hsd) (hst := hst) (hw0 := hw0) (hw1 := hw1) (hw2 := hw2) (hd0 := hd0) (hd1 := hd1) (hd2 := hd2) (hF := hF) (uR := uR) (uP := uP) (uQ := uQ) (kM := kM) (kK := kK) (kL := kL) (kO := kO) (kP := kP) (kN := kN) (kH := kH) (kG := kG) (kI := kI) (hl := hl) (hr := hr) (hup := hup) (hd := hdw) (hg0 := hg0) (hg1 := hg1) (hg2 := hg2) (hg := (sgn_pos.2 (map_pos hF hup hw0 hw1 hw2 hdw hg0 hg1 hg2 ht.2.2.2.2.2.2 ht.2.2.2.2.2.1.1))) (hgx := (map_x hF hup hw0 hw1 hw2 hdw hg0 hg1 hg2 ht.2.2.2.2.2.2 ht.2.2.2.2.2.1.1)) (hgy := (map_y hF hup hw0 hw1 hw2 hdw hg0 hg1 hg2 ht.2.2.2.2.2.2 ht.2.2.2.2.2.1.1)) (hs2 := hs2) ..
theorem laidOut : laidOutB Tryz.prog = true := by kernel_rfl
set_option maxRecDepth 100000 in
theorem law_lifted (os : Os) (started : os.Started) (H : Type) (enc : TypeId × Value → H) :
    ReturnsInHanded {} Tryz.checked os 8 .any (Rows.rectifyMapsSpec.pre6 enc Tryz.prog Tryz.f8 Rows.rectifyMapsRow.domain false) (Rows.rectifyMapsSpec.post enc Tryz.prog Tryz.f8 false true false false) := by
  refine returnsInHanded_of_change_sized (C := Tryz.checked) (by kernel_rfl) started (by kernel_rfl) Tryz.func8
    (ChangeSpec.witness6 (enc := enc) (C := Tryz.checked) false ⟨#[], #[.agg #[.int .i64 0, .int .i64 0, .int .i64 0, .int .i64 0, .int .i64 0, .int .i64 0, .int .i64 0, .int .i64 0, .int .i64 0, .int .i64 0, .int .i64 0, .int .i64 0, .int .i64 0, .int .i64 0, .int .i64 0, .int .i64 0, .int .i64 0, .int .i64 0, .int .i64 0, .int .i64 0], .bool false, .agg #[.bool false, .slice none 0 0, .bool false, .slice none 0 0, .bool false, .slice none 0 0, .bool false, .slice none 0 0]], []⟩ 8 (by kernel_rfl) (by kernel_rfl) (by kernel_rfl) (by kernel_rfl)) ?_
  intro W base args ds gs before hval hW _ hwt _
  refine law_contract (tys := [ty30, .bool, ty55]) (B := 4) laidOut rfl (by kernel_rfl) (by kernel_rfl) (by kernel_rfl) (by kernel_rfl) ?_ ?_ W base args ds gs before hval hW hwt
  · intro ds hl
    have hl2 : ds.length = 3 := hl
    match ds, hl2 with
    | [d1, d2, d3], _ => exact ⟨rfl, rfl, rfl⟩
  · intro dss h
    cases h with
    | cons h1 r =>
      cases r with
      | cons h2 r =>
        cases r with
        | cons h3 r =>
          cases r with
          | nil =>
            obtain ⟨s, e1, ls⟩ := sh30_ h1
            obtain ⟨right, e2, lright⟩ := sh_bool h2
            obtain ⟨p, e3, lp⟩ := sh55_ h3
            simp only [mkAll]
            rw [e1, e2, e3]
            exact takes_law s right p ls lright lp
theorem law_holds : Rows.RectifyMapsSaid :=
  OpenClaim.holds_of_wide 8 Tryz.f8 rfl rfl rfl rfl rfl rfl rfl ⟨rfl, rfl, rfl, rfl, rfl⟩ rfl rfl rfl rfl rfl (by kernel_rfl) Tryz.func8 (by kernel_rfl)
    (of_decide_eq_true (by kernel_rfl)) (by unfold Func.isWrapper; rw [if_neg (by decide +kernel)]; exact ⟨rfl, rfl⟩)
    (fun os started H enc _ => law_lifted os started H enc)
end Go.Proofs.YtbecgnplakngdaaGreat
