/- The law RectifyPoints returns true for every input, and its arguments read afterwards as before. No condition. -/
import Derived.Test.YtbecgnplakngdaaGreatM14
import Derived.Test.YtbecgnplakngdaaGreatM15
import Derived.Test.YtbecgnplakngdaaGreatRows
import Derived.JoinedOf
namespace Go.Proofs.YtbecgnplakngdaaGreat
open Go.Fid Go.RowKit Go.ChangeShapes Go.WideShapes
theorem takes_law (s : RStereo) (p : RSpot) (_ls : Len30 s) (_lp : Len22 p) : Takes Tryz.prog 6 [encStereo s, encSpot p] (.val (.bool true)) := by
  obtain ⟨⟨⟨lx, ly, lz⟩, ⟨la, lb, lc, ld⟩, lf, ⟨lu, lv⟩⟩, ⟨⟨rx, ry, rz⟩, ⟨ra, rb, rc, rd⟩, rf, ⟨ru, rv⟩⟩⟩ := s
  obtain ⟨px, py, pz⟩ := p
  rcases pair_cases lx ly lz la lb lc ld lf lu lv rx ry rz ra rb rc rd rf ru rv with ⟨c, hc, hc0⟩ | ⟨hl, hr, b0, b1, b2, ⟨hb0, hb1, hb2⟩, ⟨hqb0, hqb1, hqb2⟩, hup⟩ | ⟨hl, hr, b0, b1, b2, e00, e01, e02, e10, e11, e12, e20, e21, e22, hF, hup, ⟨hqb0, hqb1, hqb2⟩, hqe00, hqe01, hqe02, hqe10, hqe11, hqe12, hqe20, hqe21, hqe22⟩
  · exact w_ptsE1 (hc := hc) (hc0 := hc0) ..
  · exact w_ptsE2 (hqb0 := hqb0) (hqb1 := hqb1) (hqb2 := hqb2) (hl := hl) (hr := hr) (hb0 := hb0) (hb1 := hb1) (hb2 := hb2) (hup := hup) ..
  rcases hr_ : spotB px py pz with _ | _
  · exact w_ptsR (hr_ := hr_) (hF := hF) (hqb0 := hqb0) (hqb1 := hqb1) (hqb2 := hqb2) (hqe00 := hqe00) (hqe01 := hqe01) (hqe02 := hqe02) (hqe10 := hqe10) (hqe11 := hqe11) (hqe12 := hqe12) (hqe20 := hqe20) (hqe21 := hqe21) (hqe22 := hqe22) (hl := hl) (hr := hr) (hup := hup) ..
  obtain ⟨hpx, hpy, hpz⟩ := of_decide_eq_true hr_
  obtain ⟨r0, hr0⟩ : ∃ q : Rat, ((px - lx : Int) : Rat) = q := ⟨_, rfl⟩
  obtain ⟨r1, hr1⟩ : ∃ q : Rat, ((py - ly : Int) : Rat) = q := ⟨_, rfl⟩
  obtain ⟨r2, hr2⟩ : ∃ q : Rat, ((pz - lz : Int) : Rat) = q := ⟨_, rfl⟩
  by_cases hd : (signQ (dot3 e20 e21 e22 r0 r1 r2)) ≤ 0
  · exact w_ptsN (hpx := hpx) (hpy := hpy) (hpz := hpz) (hr0 := hr0) (hr1 := hr1) (hr2 := hr2) (hF := hF) (hqb0 := hqb0) (hqb1 := hqb1) (hqb2 := hqb2) (hqe00 := hqe00) (hqe01 := hqe01) (hqe02 := hqe02) (hqe10 := hqe10) (hqe11 := hqe11) (hqe12 := hqe12) (hqe20 := hqe20) (hqe21 := hqe21) (hqe22 := hqe22) (hl := hl) (hr := hr) (hup := hup) (hd := hd) ..
  obtain ⟨g0, hg0⟩ : ∃ q : Rat, (((e00 * (((dot3 e00 e01 e02 r0 r1 r2) / (dot3 e20 e21 e22 r0 r1 r2)) / (dot3 e00 e01 e02 e00 e01 e02))) + (e10 * (((dot3 e10 e11 e12 r0 r1 r2) / (dot3 e20 e21 e22 r0 r1 r2)) / (dot3 e10 e11 e12 e10 e11 e12)))) + (e20 * (((1 : Int) : Rat) / (dot3 e20 e21 e22 e20 e21 e22)))) = q := ⟨_, rfl⟩
  obtain ⟨g1, hg1⟩ : ∃ q : Rat, (((e01 * (((dot3 e00 e01 e02 r0 r1 r2) / (dot3 e20 e21 e22 r0 r1 r2)) / (dot3 e00 e01 e02 e00 e01 e02))) + (e11 * (((dot3 e10 e11 e12 r0 r1 r2) / (dot3 e20 e21 e22 r0 r1 r2)) / (dot3 e10 e11 e12 e10 e11 e12)))) + (e21 * (((1 : Int) : Rat) / (dot3 e20 e21 e22 e20 e21 e22)))) = q := ⟨_, rfl⟩
  obtain ⟨g2, hg2⟩ : ∃ q : Rat, (((e02 * (((dot3 e00 e01 e02 r0 r1 r2) / (dot3 e20 e21 e22 r0 r1 r2)) / (dot3 e00 e01 e02 e00 e01 e02))) + (e12 * (((dot3 e10 e11 e12 r0 r1 r2) / (dot3 e20 e21 e22 r0 r1 r2)) / (dot3 e10 e11 e12 e10 e11 e12)))) + (e22 * (((1 : Int) : Rat) / (dot3 e20 e21 e22 e20 e21 e22)))) = q := ⟨_, rfl⟩
  exact w_pts (hpx := hpx) (hpy := hpy) (hpz := hpz) (hr0 := hr0) (hr1 := hr1) (hr2 := hr2) (hF := hF) (hqb0 := hqb0) (hqb1 := hqb1) (hqb2 := hqb2) (hqe00 := hqe00) (hqe01 := hqe01) (hqe02 := hqe02) (hqe10 := hqe10) (hqe11 := hqe11) (hqe12 := hqe12) (hqe20 := hqe20) (hqe21 := hqe21) (hqe22 := hqe22) (hl := hl) (hr := hr) (hup := hup) (hd := hd) (hg0 := hg0) (hg1 := hg1) (hg2 := hg2) (hsd_ := (pos_div (fr_e0b hF hup) (sgn_pos.1 hd))) (hpx_ := (pts_x (py := py) (pz := pz) hF hup hr0 (sgn_ne hd) hg0)) (hpy_ := (pts_y (px := px) (pz := pz) hF hup hr1 (sgn_ne hd) hg1)) (hpz_ := (pts_z (px := px) (py := py) hF hup hr2 (sgn_ne hd) hg2)) ..
theorem laidOut : laidOutB Tryz.prog = true := by kernel_rfl
set_option maxRecDepth 100000 in
theorem law_lifted (os : Os) (started : os.Started) (H : Type) (enc : TypeId × Value → H) :
    ReturnsInHanded {} Tryz.checked os 6 .any (Rows.rectifyPointsSpec.pre6 enc Tryz.prog Tryz.f6 Rows.rectifyPointsRow.domain false) (Rows.rectifyPointsSpec.post enc Tryz.prog Tryz.f6 false true false false) := by
  refine returnsInHanded_of_change_sized (C := Tryz.checked) (by kernel_rfl) started (by kernel_rfl) Tryz.func6
    (ChangeSpec.witness6 (enc := enc) (C := Tryz.checked) false ⟨#[], #[.agg #[.int .i64 0, .int .i64 0, .int .i64 0, .int .i64 0, .int .i64 0, .int .i64 0, .int .i64 0, .int .i64 0, .int .i64 0, .int .i64 0, .int .i64 0, .int .i64 0, .int .i64 0, .int .i64 0, .int .i64 0, .int .i64 0, .int .i64 0, .int .i64 0, .int .i64 0, .int .i64 0], .agg #[.int .i64 0, .int .i64 0, .int .i64 0]], []⟩ 8 (by kernel_rfl) (by kernel_rfl) (by kernel_rfl) (by kernel_rfl)) ?_
  intro W base args ds gs before hval hW _ hwt _
  refine law_contract (tys := [ty30, ty22]) (B := 4) laidOut rfl (by kernel_rfl) (by kernel_rfl) (by kernel_rfl) (by kernel_rfl) ?_ ?_ W base args ds gs before hval hW hwt
  · intro ds hl
    have hl2 : ds.length = 2 := hl
    match ds, hl2 with
    | [d1, d2], _ => exact ⟨rfl, rfl, rfl⟩
  · intro dss h
    cases h with
    | cons h1 r =>
      cases r with
      | cons h2 r =>
        cases r with
        | nil =>
          obtain ⟨s, e1, ls⟩ := sh30_ h1
          obtain ⟨p, e2, lp⟩ := sh22_ h2
          simp only [mkAll]
          rw [e1, e2]
          exact takes_law s p ls lp
theorem law_holds : Rows.RectifyPointsSaid :=
  OpenClaim.holds_of_wide 6 Tryz.f6 rfl rfl rfl rfl rfl rfl rfl ⟨rfl, rfl, rfl, rfl, rfl⟩ rfl rfl rfl rfl rfl (by kernel_rfl) Tryz.func6 (by kernel_rfl)
    (of_decide_eq_true (by kernel_rfl)) (by unfold Func.isWrapper; rw [if_neg (by decide +kernel)]; exact ⟨rfl, rfl⟩)
    (fun os started H enc _ => law_lifted os started H enc)
end Go.Proofs.YtbecgnplakngdaaGreat
