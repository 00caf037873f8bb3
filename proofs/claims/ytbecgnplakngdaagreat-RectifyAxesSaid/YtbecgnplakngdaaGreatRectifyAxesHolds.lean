/- The law RectifyAxes returns true for every input, and its argument reads afterwards as before. No condition. -/
import Derived.Test.YtbecgnplakngdaaGreatM14
import Derived.Test.YtbecgnplakngdaaGreatRows
import Derived.JoinedOf
namespace Go.Proofs.YtbecgnplakngdaaGreat
open Go.Fid Go.RowKit Go.ChangeShapes Go.WideShapes
theorem takes_law (s : RStereo) (_ls : Len30 s) : Takes Tryz.prog 4 [encStereo s] (.val (.bool true)) := by
  obtain ⟨⟨⟨lx, ly, lz⟩, ⟨la, lb, lc, ld⟩, lf, ⟨lu, lv⟩⟩, ⟨⟨rx, ry, rz⟩, ⟨ra, rb, rc, rd⟩, rf, ⟨ru, rv⟩⟩⟩ := s
  rcases pair_cases lx ly lz la lb lc ld lf lu lv rx ry rz ra rb rc rd rf ru rv with ⟨c, hc, hc0⟩ | ⟨hl, hr, b0, b1, b2, ⟨hb0, hb1, hb2⟩, ⟨hqb0, hqb1, hqb2⟩, hup⟩ | ⟨hl, hr, b0, b1, b2, e00, e01, e02, e10, e11, e12, e20, e21, e22, hF, hup, ⟨hqb0, hqb1, hqb2⟩, hqe00, hqe01, hqe02, hqe10, hqe11, hqe12, hqe20, hqe21, hqe22⟩
  · exact w_axsE1 (hc := hc) (hc0 := hc0) ..
  · exact w_axsE2 (hqb0 := hqb0) (hqb1 := hqb1) (hqb2 := hqb2) (hl := hl) (hr := hr) (hb0 := hb0) (hb1 := hb1) (hb2 := hb2) (hup := hup) ..
  obtain ⟨ze00, ze01, ze02, ze10, ze11, ze12, ze20, ze21, ze22⟩ := fr_isz hF
  exact w_axs (hF := hF) (hqb0 := hqb0) (hqb1 := hqb1) (hqb2 := hqb2) (hqe00 := hqe00) (hqe01 := hqe01) (hqe02 := hqe02) (hqe10 := hqe10) (hqe11 := hqe11) (hqe12 := hqe12) (hqe20 := hqe20) (hqe21 := hqe21) (hqe22 := hqe22) (hl := hl) (hr := hr) (hup := hup) (hi00 := ze00.div1) (hi01 := ze01.div1) (hi02 := ze02.div1) (hi10 := ze10.div1) (hi11 := ze11.div1) (hi12 := ze12.div1) (hi20 := ze20.div1) (hi21 := ze21.div1) (hi22 := ze22.div1) ..
theorem laidOut : laidOutB Tryz.prog = true := by kernel_rfl
set_option maxRecDepth 100000 in
theorem law_lifted (os : Os) (started : os.Started) (H : Type) (enc : TypeId × Value → H) :
    ReturnsInHanded {} Tryz.checked os 4 .any (Rows.rectifyAxesSpec.pre6 enc Tryz.prog Tryz.f4 Rows.rectifyAxesRow.domain false) (Rows.rectifyAxesSpec.post enc Tryz.prog Tryz.f4 false true false false) := by
  refine returnsInHanded_of_change_sized (C := Tryz.checked) (by kernel_rfl) started (by kernel_rfl) Tryz.func4
    (ChangeSpec.witness6 (enc := enc) (C := Tryz.checked) false ⟨#[], #[.agg #[.int .i64 0, .int .i64 0, .int .i64 0, .int .i64 0, .int .i64 0, .int .i64 0, .int .i64 0, .int .i64 0, .int .i64 0, .int .i64 0, .int .i64 0, .int .i64 0, .int .i64 0, .int .i64 0, .int .i64 0, .int .i64 0, .int .i64 0, .int .i64 0, .int .i64 0, .int .i64 0]], []⟩ 8 (by kernel_rfl) (by kernel_rfl) (by kernel_rfl) (by kernel_rfl)) ?_
  intro W base args ds gs before hval hW _ hwt _
  refine law_contract (tys := [ty30]) (B := 4) laidOut rfl (by kernel_rfl) (by kernel_rfl) (by kernel_rfl) (by kernel_rfl) ?_ ?_ W base args ds gs before hval hW hwt
  · intro ds hl
    have hl2 : ds.length = 1 := hl
    match ds, hl2 with
    | [d1], _ => exact ⟨rfl, rfl, rfl⟩
  · intro dss h
    cases h with
    | cons h1 r =>
      cases r with
      | nil =>
        obtain ⟨s, e1, ls⟩ := sh30_ h1
        simp only [mkAll]
        rw [e1]
        exact takes_law s ls
theorem law_holds : Rows.RectifyAxesSaid :=
  OpenClaim.holds_of_wide 4 Tryz.f4 rfl rfl rfl rfl rfl rfl rfl ⟨rfl, rfl, rfl, rfl, rfl⟩ rfl rfl rfl rfl rfl (by kernel_rfl) Tryz.func4 (by kernel_rfl)
    (of_decide_eq_true (by kernel_rfl)) (by unfold Func.isWrapper; rw [if_neg (by decide +kernel)]; exact ⟨rfl, rfl⟩)
    (fun os started H enc _ => law_lifted os started H enc)
end Go.Proofs.YtbecgnplakngdaaGreat
