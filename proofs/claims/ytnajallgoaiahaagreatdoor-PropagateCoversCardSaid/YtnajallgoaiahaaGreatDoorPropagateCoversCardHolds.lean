/- The law PropagateCovers returns true for every input, and its arguments read afterwards as before. No condition. -/
import Derived.Test.YtnajallgoaiahaaGreatDoorM37
import Derived.Test.YtnajallgoaiahaaGreatDoorM38
import Derived.Test.YtnajallgoaiahaaGreatDoorRows
import Derived.Test.YtnajallgoaiahaaGreatDoorCards
import Derived.Test.YtnajallgoaiahaaGreatDoorTie
import Derived.JoinedOf
import Derived.LaidMore
import Derived.SevenTiedAt
namespace Go.Proofs.YtnajallgoaiahaaGreatDoor
open Go.Fid Go.RowKit Go.ChangeShapes Go.WideShapes
theorem q16 {x : jJ} (h : ¬ 16 < xE x) : yT x (kH x) 16 := by
  unfold xE at h
  exact qok_raw (by decide) (by omega) (by omega)
theorem takes_law (x y : jJ) (v : A2 jJ) (lx : Len44 x) (ly : Len44 y) (lv : Len52 v) : jW Tryz.prog 5 [jL x, jL y, gP v] (.val (.bool true)) := by
  by_cases hl : 16 < xE x ∨ 16 < xE y ∨ 16 < xE v.a0 ∨ 16 < xE v.a1
  · exact w_cvL x _ (qok_raw (by decide) lx.1.2.2 lx.2.2.2) y _ (qok_raw (by decide) ly.1.2.2 ly.2.2.2) v (qok_raw (by decide) lv.1.1.2.2 lv.1.2.2.2) (qok_raw (by decide) lv.2.1.2.2 lv.2.2.2.2) hl
  · have hx := q16 (x := x) (by omega)
    have hy := q16 (x := y) (by omega)
    have h0 := q16 (x := v.a0) (by omega)
    have h1 := q16 (x := v.a1) (by omega)
    rcases hv : (((jX x && jX v.a0) && jX v.a1) && jX y) with _ | _
    · exact w_cvI x _ hx y _ hy v h0 h1 (by omega) (by omega) (by omega) (by omega) hv
    · have hw := hv
      simp only [Bool.and_eq_true] at hw
      obtain ⟨⟨⟨g1, g2⟩, g3⟩, g4⟩ := hw
      rcases hn : (decide ((vT (kH v.a0)) < 0) || decide ((vT (kH v.a1)) < 0)) with _ | _
      · rw [Bool.or_eq_false_iff, decide_eq_false_iff_not, decide_eq_false_iff_not] at hn
        exact w_cv x _ hx y _ hy v h0 h1 (by omega) (by omega) (by omega) (by omega) g1 g4 g2 g3 hn.1 hn.2
      · exact w_cvN x _ hx y _ hy v h0 h1 (by omega) (by omega) (by omega) (by omega) g1 g4 g2 g3 hn
theorem laidOut : laidOutB Tryz.prog = true := by kernel_rfl
theorem door_met (os : Os) (args : Array Value) : laidMetH Tryz.prog Rows.propagateCoversRow.laid ((World.doorLaid Tryz.prog 400 os).forCall (fun _ _ => 0) ⟨#[], args, []⟩).memory :=
  laidMetH_of_parts3 (fuel := 8) (laidMet_of_run' 8 (by kernel_rfl) (by kernel_rfl)) (by kernel_rfl) (by kernel_rfl)
set_option maxRecDepth 100000 in
theorem law_lifted (os : Os) (started : os.Started) (H : Type) (enc : TypeId × Value → H) :
    ReturnsInHanded {} Tryz.checked os 5 .any (fun w args => (Rows.propagateCoversSpec.pre enc Tryz.prog Tryz.f5 Rows.propagateCoversRow.domain false w args ∧ laidMetH Tryz.prog Rows.propagateCoversRow.laid w) ∧ sizedMet enc Tryz.prog Tryz.f5 (OpenSpec.ofChange Rows.propagateCoversSpec) false w args)
      (Rows.propagateCoversSpec.post enc Tryz.prog Tryz.f5 false true false false) := by
  refine returnsInHanded_of_change_and (C := Tryz.checked) (X := fun w _ => laidMetH Tryz.prog Rows.propagateCoversRow.laid w) (fun _ _ _ hh h => h.of_heap hh) (by kernel_rfl) started (by kernel_rfl) Tryz.func5
    (ChangeSpec.witness_shaped (enc := enc) (C := Tryz.checked) (os := os) (X := fun w _ => laidMetH Tryz.prog Rows.propagateCoversRow.laid w) false (World.doorLaid Tryz.prog 400 os) #[.agg #[.bool false, .slice none 0 0, .bool false, .slice none 0 0], .agg #[.bool false, .slice none 0 0, .bool false, .slice none 0 0], .agg #[.bool false, .slice none 0 0, .bool false, .slice none 0 0, .bool false, .slice none 0 0, .bool false, .slice none 0 0]] 8 rfl (World.shaped_of_RefB (by kernel_rfl) (by kernel_rfl)) (by kernel_rfl) (by kernel_rfl) (by kernel_rfl) (door_met os _)) ?_
  intro W base args ds gs before hval hW _ hwt _ _
  refine law_contract (tys := [ty44, ty44, ty52]) (B := 4) laidOut rfl (by kernel_rfl) (by kernel_rfl) (by kernel_rfl) (by kernel_rfl) ?_ ?_ W base args ds gs before hval hW hwt
  · intro ds hl
    have hl2 : ds.length = 3 := hl
    match ds, hl2 with
    | [d1, d2, d3], _ => exact ⟨rfl, rfl, rfl⟩
  · intro dss h
    cases h with
    | cons h1 r =>
      cases r with
      | cons h2 r =>
        cases r with
        | cons h3 r =>
          cases r with
          | nil =>
            obtain ⟨x, e1, lx⟩ := sh44_ h1
            obtain ⟨y, e2, ly⟩ := sh44_ h2
            obtain ⟨v, e3, lv⟩ := sh52_ h3
            simp only [mkAll]
            rw [e1, e2, e3]
            exact takes_law x y v lx ly lv
set_option maxHeartbeats 8000000 in
theorem closed_facts : joinedFacts Tryz.prog 5 Tryz.f5 Rows.propagateCoversSpec Rows.propagateCoversRow = true := by
  unfold joinedFacts
  simp only [Bool.and_eq_true]
  repeat' apply And.intro
  all_goals as_aux_lemma => kernel_rfl
theorem row_holds : Rows.PropagateCoversSaid :=
  OpenClaim.holds_of_wide 5 Tryz.f5 rfl rfl rfl rfl rfl rfl rfl ⟨rfl, rfl, rfl, rfl, rfl⟩ rfl rfl rfl rfl rfl (by kernel_rfl) Tryz.func5 closed_facts
    (of_decide_eq_true (by kernel_rfl)) (by unfold Func.isWrapper; rw [if_neg (by decide +kernel)]; exact ⟨rfl, rfl⟩)
    (fun os started H enc _ => law_lifted os started H enc)
theorem pm0 : Tryz.f5.params[0]? = some 45 := by kernel_rfl
theorem pm1 : Tryz.f5.params[1]? = some 45 := by kernel_rfl
theorem pm2 : Tryz.f5.params[2]? = some 52 := by kernel_rfl
theorem pmz : Tryz.f5.params.size = 3 := by kernel_rfl
theorem law_holds : Rows.PropagateCoversCardSaid :=
  Claim7.holds_tied_plain_at .later [] [.data, .data, .data] true (true, "de003654cfae3caa1481ad000d337601fd35236b95f0707223ec46fb23597483") false
    row_holds (fun _ h => by cases h) (by kernel_rfl) (fun _ h => by cases h) propagateCovers_row_tie rfl ⟨rfl, rfl⟩ (by kernel_rfl) rfl
    (fun f fn hf hfn => by
      obtain rfl : f = 5 := Option.some.inj ((show Tryz.prog.funcNamed "fiducial/fiduciallaw39.PropagateCovers" = some 5 by kernel_rfl).symm.trans hf) |>.symm
      obtain rfl : fn = Tryz.f5 := (Option.some.inj (Tryz.func5.symm.trans hfn)).symm
      exact ⟨by kernel_rfl, fun j t ht => by
        rcases j with _ | _ | _ | j
        · obtain rfl := Option.some.inj (pm0.symm.trans ht)
          exact (show Tryz.prog.wantsStandIn 45 = false by kernel_rfl)
        · obtain rfl := Option.some.inj (pm1.symm.trans ht)
          exact (show Tryz.prog.wantsStandIn 45 = false by kernel_rfl)
        · obtain rfl := Option.some.inj (pm2.symm.trans ht)
          exact (show Tryz.prog.wantsStandIn 52 = false by kernel_rfl)
        · rw [Array.getElem?_eq_none (by rw [pmz]; omega)] at ht
          cases ht⟩)
    (by kernel_rfl)
end Go.Proofs.YtnajallgoaiahaaGreatDoor
