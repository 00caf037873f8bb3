/- The law HomographyForms returns true for every input, and its arguments read afterwards as before. No condition. -/
import Derived.Test.YtadkkhdnccljcaaGreatM13
import Derived.Test.YtadkkhdnccljcaaGreatM11
import Derived.Test.YtadkkhdnccljcaaGreatM14
import Derived.Test.YtadkkhdnccljcaaGreatRows
import Derived.JoinedOf
namespace Go.Proofs.YtadkkhdnccljcaaGreat
open Go.Fid Go.RowKit Go.ChangeShapes Go.WideShapes
theorem takes_law (h : A9 RInt) (p : A3 RInt) (m : List (List RRat)) (lh : Len31 h) (lp : Len43 p) (lm : Len75 m) : Takes Tryz.prog 8 [encA31 h, encA43 p, .sl 82 1 (List.map enc_sl_82 m)] (.val (.bool true)) := by
  obtain ⟨lh0, lh1, lh2, lh3, lh4, lh5, lh6, lh7, lh8⟩ := lh
  obtain ⟨lp0, lp1, lp2⟩ := lp
  have hm : MatOk 140737488355328 m := ⟨fun r hr => ⟨fun a ha => qok_raw (by decide) ((lm.1 r hr).1 a ha).1.2.2 ((lm.1 r hr).1 a ha).2.2.2, (lm.1 r hr).2⟩, lm.2⟩
  rcases hb0 : List.all [h.a0, h.a1, h.a2, h.a3, h.a4, h.a5, h.a6, h.a7, h.a8] short4 with _ | _
  · exact w_frmN0 h _ _ _ _ _ _ _ _ _ (iok_raw lh0.2.2) (iok_raw lh1.2.2) (iok_raw lh2.2.2) (iok_raw lh3.2.2) (iok_raw lh4.2.2) (iok_raw lh5.2.2) (iok_raw lh6.2.2) (iok_raw lh7.2.2) (iok_raw lh8.2.2) p _ _ _ (iok_raw lp0.2.2) (iok_raw lp1.2.2) (iok_raw lp2.2.2) m hm hb0
  rcases hb1 : List.all [p.a0, p.a1, p.a2] short4 with _ | _
  · exact w_frmN1 h _ _ _ _ _ _ _ _ _ (iok_raw lh0.2.2) (iok_raw lh1.2.2) (iok_raw lh2.2.2) (iok_raw lh3.2.2) (iok_raw lh4.2.2) (iok_raw lh5.2.2) (iok_raw lh6.2.2) (iok_raw lh7.2.2) (iok_raw lh8.2.2) p _ _ _ (iok_raw lp0.2.2) (iok_raw lp1.2.2) (iok_raw lp2.2.2) m hm hb0 hb1
  rcases hs : shortMat m with _ | _
  · exact w_frmN2 h _ _ _ _ _ _ _ _ _ (iok_raw lh0.2.2) (iok_raw lh1.2.2) (iok_raw lh2.2.2) (iok_raw lh3.2.2) (iok_raw lh4.2.2) (iok_raw lh5.2.2) (iok_raw lh6.2.2) (iok_raw lh7.2.2) (iok_raw lh8.2.2) p _ _ _ (iok_raw lp0.2.2) (iok_raw lp1.2.2) (iok_raw lp2.2.2) m hm hb0 hb1 hs
  have s0 := hb0
  simp only [List.all_cons, List.all_nil, Bool.and_true, Bool.and_eq_true] at s0
  obtain ⟨s00, s01, s02, s03, s04, s05, s06, s07, s08⟩ := s0
  obtain ⟨h0, eh0, kh0⟩ := iok_ex s00
  obtain ⟨h1, eh1, kh1⟩ := iok_ex s01
  obtain ⟨h2, eh2, kh2⟩ := iok_ex s02
  obtain ⟨h3, eh3, kh3⟩ := iok_ex s03
  obtain ⟨h4, eh4, kh4⟩ := iok_ex s04
  obtain ⟨h5, eh5, kh5⟩ := iok_ex s05
  obtain ⟨h6, eh6, kh6⟩ := iok_ex s06
  obtain ⟨h7, eh7, kh7⟩ := iok_ex s07
  obtain ⟨h8, eh8, kh8⟩ := iok_ex s08
  have s1 := hb1
  simp only [List.all_cons, List.all_nil, Bool.and_true, Bool.and_eq_true] at s1
  obtain ⟨s10, s11, s12⟩ := s1
  obtain ⟨p0, ep0, kp0⟩ := iok_ex s10
  obtain ⟨p1, ep1, kp1⟩ := iok_ex s11
  obtain ⟨p2, ep2, kp2⟩ := iok_ex s12
  have hm8 := mat_short hs
  rcases hv : m.all vRow with _ | _
  · exact w_frmE h _ _ _ _ _ _ _ _ _ kh0 kh1 kh2 kh3 kh4 kh5 kh6 kh7 kh8 p _ _ _ kp0 kp1 kp2 m hm8 hb0 hb1 hs hv
  rcases hf : fitB m with _ | _
  · exact w_frmM h _ _ _ _ _ _ _ _ _ kh0 kh1 kh2 kh3 kh4 kh5 kh6 kh7 kh8 p _ _ _ kp0 kp1 kp2 m hm8 hb0 hb1 hs hv hf
  obtain ⟨x0, x1, x2, x3, x4, x5, x6, x7, x8, rfl⟩ := fit_ex hf
  obtain ⟨⟨t0, t1, t2, t3, t4, t5, t6, t7, t8⟩, ⟨v0, v1, v2, v3, v4, v5, v6, v7, v8⟩⟩ := mat_nine hs hv
  obtain ⟨n0, d0, rfl, kn0, kd0, z0⟩ := fr_ex v0 t0
  obtain ⟨n1, d1, rfl, kn1, kd1, z1⟩ := fr_ex v1 t1
  obtain ⟨n2, d2, rfl, kn2, kd2, z2⟩ := fr_ex v2 t2
  obtain ⟨n3, d3, rfl, kn3, kd3, z3⟩ := fr_ex v3 t3
  obtain ⟨n4, d4, rfl, kn4, kd4, z4⟩ := fr_ex v4 t4
  obtain ⟨n5, d5, rfl, kn5, kd5, z5⟩ := fr_ex v5 t5
  obtain ⟨n6, d6, rfl, kn6, kd6, z6⟩ := fr_ex v6 t6
  obtain ⟨n7, d7, rfl, kn7, kd7, z7⟩ := fr_ex v7 t7
  obtain ⟨n8, d8, rfl, kn8, kd8, z8⟩ := fr_ex v8 t8
  obtain ⟨e0, he0⟩ : ∃ z, 1 * d0 = z := ⟨_, rfl⟩
  obtain ⟨e1, he1⟩ : ∃ z, e0 * d1 = z := ⟨_, rfl⟩
  obtain ⟨e2, he2⟩ : ∃ z, e1 * d2 = z := ⟨_, rfl⟩
  obtain ⟨e3, he3⟩ : ∃ z, e2 * d3 = z := ⟨_, rfl⟩
  obtain ⟨e4, he4⟩ : ∃ z, e3 * d4 = z := ⟨_, rfl⟩
  obtain ⟨e5, he5⟩ : ∃ z, e4 * d5 = z := ⟨_, rfl⟩
  obtain ⟨e6, he6⟩ : ∃ z, e5 * d6 = z := ⟨_, rfl⟩
  obtain ⟨e7, he7⟩ : ∃ z, e6 * d7 = z := ⟨_, rfl⟩
  obtain ⟨e8, he8⟩ : ∃ z, e7 * d8 = z := ⟨_, rfl⟩
  obtain ⟨w0, hw0⟩ : ∃ z, e8.fdiv d0 * n0 = z := ⟨_, rfl⟩
  obtain ⟨w1, hw1⟩ : ∃ z, e8.fdiv d1 * n1 = z := ⟨_, rfl⟩
  obtain ⟨w2, hw2⟩ : ∃ z, e8.fdiv d2 * n2 = z := ⟨_, rfl⟩
  obtain ⟨w3, hw3⟩ : ∃ z, e8.fdiv d3 * n3 = z := ⟨_, rfl⟩
  obtain ⟨w4, hw4⟩ : ∃ z, e8.fdiv d4 * n4 = z := ⟨_, rfl⟩
  obtain ⟨w5, hw5⟩ : ∃ z, e8.fdiv d5 * n5 = z := ⟨_, rfl⟩
  obtain ⟨w6, hw6⟩ : ∃ z, e8.fdiv d6 * n6 = z := ⟨_, rfl⟩
  obtain ⟨w7, hw7⟩ : ∃ z, e8.fdiv d7 * n7 = z := ⟨_, rfl⟩
  obtain ⟨w8, hw8⟩ : ∃ z, e8.fdiv d8 * n8 = z := ⟨_, rfl⟩
  have q0 := (quo_eq (n := n0) z0 (dvd_go (dvd_go (dvd_go (dvd_go (dvd_go (dvd_go (dvd_go (dvd_go (dvd_at he0) he1) he2) he3) he4) he5) he6) he7) he8)).trans hw0
  have q1 := (quo_eq (n := n1) z1 (dvd_go (dvd_go (dvd_go (dvd_go (dvd_go (dvd_go (dvd_go (dvd_at he1) he2) he3) he4) he5) he6) he7) he8)).trans hw1
  have q2 := (quo_eq (n := n2) z2 (dvd_go (dvd_go (dvd_go (dvd_go (dvd_go (dvd_go (dvd_at he2) he3) he4) he5) he6) he7) he8)).trans hw2
  have q3 := (quo_eq (n := n3) z3 (dvd_go (dvd_go (dvd_go (dvd_go (dvd_go (dvd_at he3) he4) he5) he6) he7) he8)).trans hw3
  have q4 := (quo_eq (n := n4) z4 (dvd_go (dvd_go (dvd_go (dvd_go (dvd_at he4) he5) he6) he7) he8)).trans hw4
  have q5 := (quo_eq (n := n5) z5 (dvd_go (dvd_go (dvd_go (dvd_at he5) he6) he7) he8)).trans hw5
  have q6 := (quo_eq (n := n6) z6 (dvd_go (dvd_go (dvd_at he6) he7) he8)).trans hw6
  have q7 := (quo_eq (n := n7) z7 (dvd_go (dvd_at he7) he8)).trans hw7
  have q8 := (quo_eq (n := n8) z8 (dvd_at he8)).trans hw8
  by_cases hd : det3 w0 w1 w2 w3 w4 w5 w6 w7 w8 = 0
  · by_cases hz : sgnL [w0, w1, w2, w3, w4, w5, w6, w7, w8] = 0
    · exact w_frmZ h _ _ _ _ _ _ _ _ _ kh0 kh1 kh2 kh3 kh4 kh5 kh6 kh7 kh8 p _ _ _ kp0 kp1 kp2 n0 d0 n1 d1 n2 d2 n3 d3 n4 d4 n5 d5 n6 d6 n7 d7 n8 d8 kn0 kd0 kn1 kd1 kn2 kd2 kn3 kd3 kn4 kd4 kn5 kd5 kn6 kd6 kn7 kd7 kn8 kd8 hm8 e0 he0 e1 he1 e2 he2 e3 he3 e4 he4 e5 he5 e6 he6 e7 he7 e8 he8 w0 hw0 w1 hw1 w2 hw2 w3 hw3 w4 hw4 w5 hw5 w6 hw6 w7 hw7 w8 hw8 hb0 hb1 hs v0 v1 v2 v3 v4 v5 v6 v7 v8 z0 z1 z2 z3 z4 z5 z6 z7 z8 (row3 v0 v1 v2) (row3 v3 v4 v5) (row3 v6 v7 v8) q0 q1 q2 q3 q4 q5 q6 q7 q8 hz (by rw [hd]; rfl)
    · exact w_frmS h _ _ _ _ _ _ _ _ _ kh0 kh1 kh2 kh3 kh4 kh5 kh6 kh7 kh8 p _ _ _ kp0 kp1 kp2 n0 d0 n1 d1 n2 d2 n3 d3 n4 d4 n5 d5 n6 d6 n7 d7 n8 d8 kn0 kd0 kn1 kd1 kn2 kd2 kn3 kd3 kn4 kd4 kn5 kd5 kn6 kd6 kn7 kd7 kn8 kd8 hm8 e0 he0 e1 he1 e2 he2 e3 he3 e4 he4 e5 he5 e6 he6 e7 he7 e8 he8 w0 hw0 w1 hw1 w2 hw2 w3 hw3 w4 hw4 w5 hw5 w6 hw6 w7 hw7 w8 hw8 hb0 hb1 hs v0 v1 v2 v3 v4 v5 v6 v7 v8 z0 z1 z2 z3 z4 z5 z6 z7 z8 (row3 v0 v1 v2) (row3 v3 v4 v5) (row3 v6 v7 v8) q0 q1 q2 q3 q4 q5 q6 q7 q8 hz (by rw [hd]; rfl)
  · exact w_frm h _ _ _ _ _ _ _ _ _ kh0 kh1 kh2 kh3 kh4 kh5 kh6 kh7 kh8 p _ _ _ kp0 kp1 kp2 n0 d0 n1 d1 n2 d2 n3 d3 n4 d4 n5 d5 n6 d6 n7 d7 n8 d8 kn0 kd0 kn1 kd1 kn2 kd2 kn3 kd3 kn4 kd4 kn5 kd5 kn6 kd6 kn7 kd7 kn8 kd8 hm8 e0 he0 e1 he1 e2 he2 e3 he3 e4 he4 e5 he5 e6 he6 e7 he7 e8 he8 w0 hw0 w1 hw1 w2 hw2 w3 hw3 w4 hw4 w5 hw5 w6 hw6 w7 hw7 w8 hw8 _ _ _ _ _ _ _ _ _ rfl hb0 hb1 hs v0 v1 v2 v3 v4 v5 v6 v7 v8 z0 z1 z2 z3 z4 z5 z6 z7 z8 (row3 v0 v1 v2) (row3 v3 v4 v5) (row3 v6 v7 v8) q0 q1 q2 q3 q4 q5 q6 q7 q8 (det_nz9 hd) (signI_ne hd)
theorem laidOut : laidOutB Tryz.prog = true := by kernel_rfl
set_option maxRecDepth 100000 in
theorem law_lifted (os : Os) (started : os.Started) (H : Type) (enc : TypeId × Value → H) :
    ReturnsInHanded {} Tryz.checked os 8 .any (Rows.homographyFormsSpec.pre6 enc Tryz.prog Tryz.f8 Rows.homographyFormsRow.domain false) (Rows.homographyFormsSpec.post enc Tryz.prog Tryz.f8 false true false false) := by
  refine returnsInHanded_of_change_sized (C := Tryz.checked) (by kernel_rfl) started (by kernel_rfl) Tryz.func8
    (ChangeSpec.witness6 (enc := enc) (C := Tryz.checked) false ⟨#[], #[.agg #[.bool false, .slice none 0 0, .bool false, .slice none 0 0, .bool false, .slice none 0 0, .bool false, .slice none 0 0, .bool false, .slice none 0 0, .bool false, .slice none 0 0, .bool false, .slice none 0 0, .bool false, .slice none 0 0, .bool false, .slice none 0 0], .agg #[.bool false, .slice none 0 0, .bool false, .slice none 0 0, .bool false, .slice none 0 0], .slice none 0 0], []⟩ 8 (by kernel_rfl) (by kernel_rfl) (by kernel_rfl) (by kernel_rfl)) ?_
  intro W base args ds gs before hval hW _ hwt _
  refine law_contract (tys := [ty31, ty43, ty75]) (B := 4) laidOut rfl (by kernel_rfl) (by kernel_rfl) (by kernel_rfl) (by kernel_rfl) ?_ ?_ W base args ds gs before hval hW hwt
  · intro ds hl
    have hl2 : ds.length = 3 := hl
    match ds, hl2 with
    | [d1, d2, d3], _ => exact ⟨rfl, rfl, rfl⟩
  · intro dss h
    cases h with
    | cons h1 r =>
      cases r with
      | cons h2 r =>
        cases r with
        | cons h3 r =>
          cases r with
          | nil =>
            obtain ⟨h, e1, lh⟩ := sh31_ h1
            obtain ⟨p, e2, lp⟩ := sh43_ h2
            obtain ⟨m, e3, lm⟩ := sh75_ h3
            simp only [mkAll]
            rw [e1, e2, e3]
            exact takes_law h p m lh lp lm
theorem law_holds : Rows.HomographyFormsSaid :=
  OpenClaim.holds_of_wide 8 Tryz.f8 rfl rfl rfl rfl rfl rfl rfl ⟨rfl, rfl, rfl, rfl, rfl⟩ rfl rfl rfl rfl rfl (by kernel_rfl) Tryz.func8 (by kernel_rfl)
    (of_decide_eq_true (by kernel_rfl)) (by unfold Func.isWrapper; rw [if_neg (by decide +kernel)]; exact ⟨rfl, rfl⟩)
    (fun os started H enc _ => law_lifted os started H enc)
end Go.Proofs.YtadkkhdnccljcaaGreat
