/- The law RectifyDepths returns true for every input, and its arguments read afterwards as before. No condition. -/
import Derived.Test.YtbecgnplakngdaaGreatM14
import Derived.Test.YtbecgnplakngdaaGreatM15
import Derived.Test.YtbecgnplakngdaaGreatRows
import Derived.JoinedOf
namespace Go.Proofs.YtbecgnplakngdaaGreat
open Go.Fid Go.RowKit Go.ChangeShapes Go.WideShapes
theorem takes_law (s : RStereo) (p : RPlace) (z : RRat) (_ls : Len30 s) (lp : Len55 p) (kz : Len41 z) : Takes Tryz.prog 7 [encStereo s, encPlace p, encR z] (.val (.bool true)) := by
  obtain ⟨⟨⟨lx, ly, lz⟩, ⟨la, lb, lc, ld⟩, lf, ⟨lu, lv⟩⟩, ⟨⟨rx, ry, rz⟩, ⟨ra, rb, rc, rd⟩, rf, ⟨ru, rv⟩⟩⟩ := s
  rcases hbr : briefP p.x p.y with _ | _
  · exact w_depN (hx := (qok_raw (by decide) lp.1.1.2.2 lp.1.2.2.2)) (hy := (qok_raw (by decide) lp.2.1.2.2 lp.2.2.2.2)) (hbr := hbr) (hdl := (qok_raw (by decide) kz.1.2.2 kz.2.2.2)) ..
  by_cases hdg : ((8 : Nat) : Int) < (((digR z) : Nat) : Int)
  · exact w_depM (hx := (qok_raw (by decide) lp.1.1.2.2 lp.1.2.2.2)) (hy := (qok_raw (by decide) lp.2.1.2.2 lp.2.2.2.2)) (hdl := (qok_raw (by decide) kz.1.2.2 kz.2.2.2)) (hbr := hbr) (hdg := hdg) ..
  have hdl := digR_ok hdg
  obtain ⟨hx, hy⟩ := briefP_ok hbr
  rcases pair_cases lx ly lz la lb lc ld lf lu lv rx ry rz ra rb rc rd rf ru rv with ⟨c, hc, hc0⟩ | ⟨hl, hr, b0, b1, b2, ⟨hb0, hb1, hb2⟩, ⟨hqb0, hqb1, hqb2⟩, hup⟩ | ⟨hl, hr, b0, b1, b2, e00, e01, e02, e10, e11, e12, e20, e21, e22, hF, hup, ⟨hqb0, hqb1, hqb2⟩, hqe00, hqe01, hqe02, hqe10, hqe11, hqe12, hqe20, hqe21, hqe22⟩
  · exact w_depE1 (hx := hx) (hy := hy) (hdl := hdl) (hbr := hbr) (hdg := hdg) (hc := hc) (hc0 := hc0) ..
  · exact w_depE2 (hx := hx) (hy := hy) (hdl := hdl) (hbr := hbr) (hdg := hdg) (hqb0 := hqb0) (hqb1 := hqb1) (hqb2 := hqb2) (hl := hl) (hr := hr) (hb0 := hb0) (hb1 := hb1) (hb2 := hb2) (hup := hup) ..
  rcases hv : (validR p.x && validR p.y) with _ | _
  · exact w_depF (hx := hx) (hy := hy) (hbr := hbr) (hv := hv) (hF := hF) (hqb0 := hqb0) (hqb1 := hqb1) (hqb2 := hqb2) (hqe00 := hqe00) (hqe01 := hqe01) (hqe02 := hqe02) (hqe10 := hqe10) (hqe11 := hqe11) (hqe12 := hqe12) (hqe20 := hqe20) (hqe21 := hqe21) (hqe22 := hqe22) (hl := hl) (hr := hr) (hup := hup) (hdl := hdl) (hdg := hdg) ..
  rw [Bool.and_eq_true] at hv
  obtain ⟨px, py⟩ := p
  dsimp only at hx hy hv hbr
  obtain ⟨x, rfl, qx⟩ := valid_ex hv.1 hx
  obtain ⟨y, rfl, qy⟩ := valid_ex hv.2 hy
  clear hx hy
  have hx := qx
  have hy := qy
  rcases hvz : validR z with _ | _
  · exact w_depG (hx := hx) (hy := hy) (hdl := hdl) (hbr := hbr) (hdg := hdg) (hv := hvz) (hF := hF) (hqb0 := hqb0) (hqb1 := hqb1) (hqb2 := hqb2) (hqe00 := hqe00) (hqe01 := hqe01) (hqe02 := hqe02) (hqe10 := hqe10) (hqe11 := hqe11) (hqe12 := hqe12) (hqe20 := hqe20) (hqe21 := hqe21) (hqe22 := hqe22) (hl := hl) (hr := hr) (hup := hup) ..
  obtain ⟨dl, rfl, qdl⟩ := valid_ex hvz hdl
  clear hdl
  have hdl := qdl
  by_cases hs : (signQ dl) ≤ 0
  · exact w_depS (hx := hx) (hy := hy) (hdl := hdl) (hbr := hbr) (hdg := hdg) (hs := hs) (hF := hF) (hqb0 := hqb0) (hqb1 := hqb1) (hqb2 := hqb2) (hqe00 := hqe00) (hqe01 := hqe01) (hqe02 := hqe02) (hqe10 := hqe10) (hqe11 := hqe11) (hqe12 := hqe12) (hqe20 := hqe20) (hqe21 := hqe21) (hqe22 := hqe22) (hl := hl) (hr := hr) (hup := hup) ..
  · exact w_dep (hx := hx) (hy := hy) (hdl := hdl) (hbr := hbr) (hdg := hdg) (hs := hs) (hd0 := rfl) (hd1 := rfl) (hd2 := rfl) (hF := hF) (hqb0 := hqb0) (hqb1 := hqb1) (hqb2 := hqb2) (hqe00 := hqe00) (hqe01 := hqe01) (hqe02 := hqe02) (hqe10 := hqe10) (hqe11 := hqe11) (hqe12 := hqe12) (hqe20 := hqe20) (hqe21 := hqe21) (hqe22 := hqe22) (hl := hl) (hr := hr) (hup := hup) ..
theorem laidOut : laidOutB Tryz.prog = true := by kernel_rfl
set_option maxRecDepth 100000 in
theorem law_lifted (os : Os) (started : os.Started) (H : Type) (enc : TypeId × Value → H) :
    ReturnsInHanded {} Tryz.checked os 7 .any (Rows.rectifyDepthsSpec.pre6 enc Tryz.prog Tryz.f7 Rows.rectifyDepthsRow.domain false) (Rows.rectifyDepthsSpec.post enc Tryz.prog Tryz.f7 false true false false) := by
  refine returnsInHanded_of_change_sized (C := Tryz.checked) (by kernel_rfl) started (by kernel_rfl) Tryz.func7
    (ChangeSpec.witness6 (enc := enc) (C := Tryz.checked) false ⟨#[], #[.agg #[.int .i64 0, .int .i64 0, .int .i64 0, .int .i64 0, .int .i64 0, .int .i64 0, .int .i64 0, .int .i64 0, .int .i64 0, .int .i64 0, .int .i64 0, .int .i64 0, .int .i64 0, .int .i64 0, .int .i64 0, .int .i64 0, .int .i64 0, .int .i64 0, .int .i64 0, .int .i64 0], .agg #[.bool false, .slice none 0 0, .bool false, .slice none 0 0, .bool false, .slice none 0 0, .bool false, .slice none 0 0], .agg #[.bool false, .slice none 0 0, .bool false, .slice none 0 0]], []⟩ 8 (by kernel_rfl) (by kernel_rfl) (by kernel_rfl) (by kernel_rfl)) ?_
  intro W base args ds gs before hval hW _ hwt _
  refine law_contract (tys := [ty30, ty55, ty41]) (B := 4) laidOut rfl (by kernel_rfl) (by kernel_rfl) (by kernel_rfl) (by kernel_rfl) ?_ ?_ W base args ds gs before hval hW hwt
  · intro ds hl
    have hl2 : ds.length = 3 := hl
    match ds, hl2 with
    | [d1, d2, d3], _ => exact ⟨rfl, rfl, rfl⟩
  · intro dss h
    cases h with
    | cons h1 r =>
      cases r with
      | cons h2 r =>
        cases r with
        | cons h3 r =>
          cases r with
          | nil =>
            obtain ⟨s, e1, ls⟩ := sh30_ h1
            obtain ⟨p, e2, lp⟩ := sh55_ h2
            obtain ⟨z, e3, lz⟩ := sh41_ h3
            simp only [mkAll]
            rw [e1, e2, e3]
            exact takes_law s p z ls lp lz
theorem law_holds : Rows.RectifyDepthsSaid :=
  OpenClaim.holds_of_wide 7 Tryz.f7 rfl rfl rfl rfl rfl rfl rfl ⟨rfl, rfl, rfl, rfl, rfl⟩ rfl rfl rfl rfl rfl (by kernel_rfl) Tryz.func7 (by kernel_rfl)
    (of_decide_eq_true (by kernel_rfl)) (by unfold Func.isWrapper; rw [if_neg (by decide +kernel)]; exact ⟨rfl, rfl⟩)
    (fun os started H enc _ => law_lifted os started H enc)
end Go.Proofs.YtbecgnplakngdaaGreat
