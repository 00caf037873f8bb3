/- The law RectifyResamples returns true for every input, and its arguments read afterwards as before. No condition. -/
import Derived.Test.YtapjldagikfcmaaGreatM36
import Derived.Test.YtapjldagikfcmaaGreatM32
import Derived.Test.YtapjldagikfcmaaGreatM37
import Derived.Test.YtapjldagikfcmaaGreatRows
import Derived.JoinedOf
namespace Go.Proofs.YtapjldagikfcmaaGreat
open Go.Fid Go.RowKit Go.ChangeShapes Go.WideShapes
theorem takes_law (s : kT) (rs : xA) (wd : eO) (_ls : Len96 s) (_lrs : Len23 rs) (lw : Len98 wd) : kH Tryz.prog 8 [qQ s, qW rs, gV wd] (.val (.bool true)) := by
  obtain ⟨⟨⟨lx, ly, lz⟩, ⟨la, lb, lc, ld⟩, lf, ⟨lu, lv⟩⟩, ⟨⟨rx, ry, rz⟩, ⟨ra, rb, rc, rd⟩, rf, ⟨ru, rv⟩⟩⟩ := s
  obtain ⟨w, h, mx, px⟩ := rs
  obtain ⟨right, ⟨wx, wy⟩, ⟨vx, vy⟩, z⟩ := wd
  have kz := lw.2.2.2
  by_cases hpx : 100 < px.length
  · exact w_rsN1 (hom := (qok_raw (by decide) kz.1.2.2 kz.2.2.2)) (hpx := hpx) ..
  by_cases hdg : ((8 : Nat) : Int) < (((digR z) : Nat) : Int)
  · exact w_rsN2 (hom := (qok_raw (by decide) kz.1.2.2 kz.2.2.2)) (hpx := hpx) (hdg := hdg) ..
  have hom := digR_ok hdg
  rcases pair_cases lx ly lz la lb lc ld lf lu lv rx ry rz ra rb rc rd rf ru rv with ⟨c, hc, hc0⟩ | ⟨hl, hr, b0, b1, b2, ⟨hb0, hb1, hb2⟩, ⟨xI, xH, xJ⟩, hup⟩ | ⟨hl, hr, b0, b1, b2, e00, e01, e02, e10, e11, e12, e20, e21, e22, hF, hup, ⟨xI, xH, xJ⟩, qE, kZ, qA, qJ, qK, qI, qD, qB, qC⟩
  · exact w_rsE1 (hpx := hpx) (hdg := hdg) (hom := hom) (hc := hc) (hc0 := hc0) ..
  · exact w_rsE2 (hpx := hpx) (hdg := hdg) (hom := hom) (xI := xI) (xH := xH) (xJ := xJ) (hl := hl) (hr := hr) (hb0 := hb0) (hb1 := hb1) (hb2 := hb2) (hup := hup) ..
  by_cases hck : gM w h mx px ≠ 0
  · exact w_rsC (hck := hck) (hck1 := (chk_ko hck)) (hne := (by rw [cdk (om := toQ z) hck]; exact hck)) (hk := (cdk hck)) (hpx := hpx) (hdg := hdg) (hom := hom) (hF := hF) (xI := xI) (xH := xH) (xJ := xJ) (qE := qE) (kZ := kZ) (qA := qA) (qJ := qJ) (qK := qK) (qI := qI) (qD := qD) (qB := qB) (qC := qC) (hl := hl) (hr := hr) (hup := hup) ..
  have hck := Classical.not_not.1 hck
  by_cases hne : xT w h mx px z (toQ z) wx wy vx vy ≠ 0
  · exact w_rsX (hne := hne) (hck := hck) (hpx := hpx) (hdg := hdg) (hom := hom) (hF := hF) (xI := xI) (xH := xH) (xJ := xJ) (qE := qE) (kZ := kZ) (qA := qA) (qJ := qJ) (qK := qK) (qI := qI) (qD := qD) (qB := qB) (qC := qC) (hl := hl) (hr := hr) (hup := hup) ..
  have hne := Classical.not_not.1 hne
  obtain ⟨-, hvz, hs, ⟨hwwx, hwwy, hwvx, hwvy⟩, ⟨hodx, hody⟩, hlmx, hlmy⟩ := rsC_0 hne
  clear hne
  obtain ⟨a, b, rfl, rfl, hv, -⟩ := chk_rst hck
  obtain ⟨om, rfl, qom⟩ := valid_ex hvz hom
  clear hom
  have hom := qom
  rw [toQ_ofQ] at hs
  by_cases hcn : 100 < (((vx - wx) + 1) * ((vy - wy) + 1))
  · exact w_rsB (hodx := hodx) (hody := hody) (hlmx := hlmx) (hlmy := hlmy) (hcn := hcn) (hpx := hpx) (hdg := hdg) (hom := hom) (hF := hF) (xI := xI) (xH := xH) (xJ := xJ) (qE := qE) (kZ := kZ) (qA := qA) (qJ := qJ) (qK := qK) (qI := qI) (qD := qD) (qB := qB) (qC := qC) (hl := hl) (hr := hr) (hup := hup) (hck := hck) (hs := hs) (hwwx := hwwx) (hwwy := hwwy) (hwvx := hwvx) (hwvy := hwvy) ..
  obtain ⟨tx, ty, tz, ta, tb, tc, td, tf, tu, tv, hsd, hst⟩ : ∃ tx ty tz ta tb tc td tf tu tv : Int, (bif right then (kG.mk (jQ.mk rx ry rz) (jL.mk ra rb rc rd) rf (jU.mk ru rv)) else (kG.mk (jQ.mk lx ly lz) (jL.mk la lb lc ld) lf (jU.mk lu lv))) = (kG.mk (jQ.mk tx ty tz) (jL.mk ta tb tc td) tf (jU.mk tu tv)) ∧ uQ tx ty tz tu tv tf ta tb tc td = 0 := by
    cases right
    · exact ⟨_, _, _, _, _, _, _, _, _, _, rfl, hl⟩
    · exact ⟨_, _, _, _, _, _, _, _, _, _, rfl, hr⟩
  exact w_rs (hv := hv) (hsd := hsd) (hst := hst) (hodx := hodx) (hody := hody) (hlmx := hlmx) (hlmy := hlmy) (hcn := hcn) (hpx := hpx) (hdg := hdg) (hom := hom) (hF := hF) (xI := xI) (xH := xH) (xJ := xJ) (qE := qE) (kZ := kZ) (qA := qA) (qJ := qJ) (qK := qK) (qI := qI) (qD := qD) (qB := qB) (qC := qC) (hl := hl) (hr := hr) (hup := hup) (hck := hck) (hs := hs) (hwwx := hwwx) (hwwy := hwwy) (hwvx := hwvx) (hwvy := hwvy) ..
theorem laidOut : laidOutB Tryz.prog = true := by kernel_rfl
set_option maxRecDepth 100000 in
theorem law_lifted (os : Os) (started : os.Started) (H : Type) (enc : TypeId × Value → H) :
    ReturnsInHanded {} Tryz.checked os 8 .any (Rows.rectifyResamplesSpec.pre6 enc Tryz.prog Tryz.f8 Rows.rectifyResamplesRow.domain false) (Rows.rectifyResamplesSpec.post enc Tryz.prog Tryz.f8 false true false false) := by
  refine returnsInHanded_of_change_sized (C := Tryz.checked) (by kernel_rfl) started (by kernel_rfl) Tryz.func8
    (ChangeSpec.witness6 (enc := enc) (C := Tryz.checked) false ⟨#[], #[.agg #[.int .i64 0, .int .i64 0, .int .i64 0, .int .i64 0, .int .i64 0, .int .i64 0, .int .i64 0, .int .i64 0, .int .i64 0, .int .i64 0, .int .i64 0, .int .i64 0, .int .i64 0, .int .i64 0, .int .i64 0, .int .i64 0, .int .i64 0, .int .i64 0, .int .i64 0, .int .i64 0], .agg #[.int .i64 0, .int .i64 0, .int .i64 0, .slice none 0 0], .agg #[.bool false, .int .i64 0, .int .i64 0, .int .i64 0, .int .i64 0, .bool false, .slice none 0 0, .bool false, .slice none 0 0]], []⟩ 8 (by kernel_rfl) (by kernel_rfl) (by kernel_rfl) (by kernel_rfl)) ?_
  intro W base args ds gs before hval hW _ hwt _
  refine law_contract (tys := [ty96, ty23, ty98]) (B := 4) laidOut rfl (by kernel_rfl) (by kernel_rfl) (by kernel_rfl) (by kernel_rfl) ?_ ?_ W base args ds gs before hval hW hwt
  · intro ds hl
    have hl2 : ds.length = 3 := hl
    match ds, hl2 with
    | [d1, d2, d3], _ => exact ⟨rfl, rfl, rfl⟩
  · intro dss h
    cases h with
    | cons h1 r =>
      cases r with
      | cons h2 r =>
        cases r with
        | cons h3 r =>
          cases r with
          | nil =>
            obtain ⟨s, e1, ls⟩ := sh96_ h1
            obtain ⟨rs, e2, lrs⟩ := sh23_ h2
            obtain ⟨wd, e3, lwd⟩ := sh98_ h3
            simp only [mkAll]
            rw [e1, e2, e3]
            exact takes_law s rs wd ls lrs lwd
set_option maxHeartbeats 8000000 in
theorem closed_facts : joinedFacts Tryz.prog 8 Tryz.f8 Rows.rectifyResamplesSpec Rows.rectifyResamplesRow = true := by
  unfold joinedFacts
  simp only [Bool.and_eq_true]
  repeat' apply And.intro
  all_goals as_aux_lemma => kernel_rfl
theorem law_holds : Rows.RectifyResamplesSaid :=
  OpenClaim.holds_of_wide 8 Tryz.f8 rfl rfl rfl rfl rfl rfl rfl ⟨rfl, rfl, rfl, rfl, rfl⟩ rfl rfl rfl rfl rfl (by kernel_rfl) Tryz.func8 closed_facts
    (of_decide_eq_true (by kernel_rfl)) (by unfold Func.isWrapper; rw [if_neg (by decide +kernel)]; exact ⟨rfl, rfl⟩)
    (fun os started H enc _ => law_lifted os started H enc)
end Go.Proofs.YtapjldagikfcmaaGreat
