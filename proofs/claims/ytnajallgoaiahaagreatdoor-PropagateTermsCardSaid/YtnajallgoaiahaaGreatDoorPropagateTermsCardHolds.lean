/- The law PropagateTerms returns true for every input, and its arguments read afterwards as before. No condition. -/
import Derived.Test.YtnajallgoaiahaaGreatDoorM38
import Derived.Test.YtnajallgoaiahaaGreatDoorM39
import Derived.Test.YtnajallgoaiahaaGreatDoorRows
import Derived.Test.YtnajallgoaiahaaGreatDoorCards
import Derived.Test.YtnajallgoaiahaaGreatDoorTie
import Derived.JoinedOf
import Derived.LaidMore
import Derived.SevenTiedAt
namespace Go.Proofs.YtnajallgoaiahaaGreatDoor
open Go.Fid Go.RowKit Go.ChangeShapes Go.WideShapes
theorem takes_law (x : RPlc) (v : A9 Int) (lx : Len104 x) (lv : Len107 v) : jT Tryz.prog 10 [cQ x, eD v] (.val (.bool true)) := by
  obtain ⟨l0, l1, l2, l3, l4, l5, l6, l7, l8⟩ := lv
  exact w_tm x v l0 l1 l2 l3 l4 l5 l6 l7 l8 lx.1.2 lx.2.1.2 lx.2.2.1.2
theorem laidOut : laidOutB Tryz.prog = true := by kernel_rfl
theorem door_met (os : Os) (args : Array Value) : laidMetH Tryz.prog Rows.propagateTermsRow.laid ((World.doorLaid Tryz.prog 400 os).forCall (fun _ _ => 0) ⟨#[], args, []⟩).memory :=
  laidMetH_of_parts3 (fuel := 8) (laidMet_of_run' 8 (by kernel_rfl) (by kernel_rfl)) (by kernel_rfl) (by kernel_rfl)
set_option maxRecDepth 100000 in
theorem law_lifted (os : Os) (started : os.Started) (H : Type) (enc : TypeId × Value → H) :
    ReturnsInHanded {} Tryz.checked os 10 .any (fun w args => (Rows.propagateTermsSpec.pre enc Tryz.prog Tryz.f10 Rows.propagateTermsRow.domain false w args ∧ laidMetH Tryz.prog Rows.propagateTermsRow.laid w) ∧ sizedMet enc Tryz.prog Tryz.f10 (OpenSpec.ofChange Rows.propagateTermsSpec) false w args)
      (Rows.propagateTermsSpec.post enc Tryz.prog Tryz.f10 false true false false) := by
  refine returnsInHanded_of_change_and (C := Tryz.checked) (X := fun w _ => laidMetH Tryz.prog Rows.propagateTermsRow.laid w) (fun _ _ _ hh h => h.of_heap hh) (by kernel_rfl) started (by kernel_rfl) Tryz.func10
    (ChangeSpec.witness_shaped (enc := enc) (C := Tryz.checked) (os := os) (X := fun w _ => laidMetH Tryz.prog Rows.propagateTermsRow.laid w) false (World.doorLaid Tryz.prog 400 os) #[.agg #[.slice none 0 0, .slice none 0 0, .slice none 0 0, .int .i64 0, .int .i64 0, .int .i64 0, .int .i64 0, .int .i64 0, .int .i64 0], .agg #[.int .i16 0, .int .i16 0, .int .i16 0, .int .i16 0, .int .i16 0, .int .i16 0, .int .i16 0, .int .i16 0, .int .i16 0]] 8 rfl (World.shaped_of_RefB (by kernel_rfl) (by kernel_rfl)) (by kernel_rfl) (by kernel_rfl) (by kernel_rfl) (door_met os _)) ?_
  intro W base args ds gs before hval hW _ hwt _ _
  refine law_contract (tys := [ty104, ty107]) (B := 4) laidOut rfl (by kernel_rfl) (by kernel_rfl) (by kernel_rfl) (by kernel_rfl) ?_ ?_ W base args ds gs before hval hW hwt
  · intro ds hl
    have hl2 : ds.length = 2 := hl
    match ds, hl2 with
    | [d1, d2], _ => exact ⟨rfl, rfl, rfl⟩
  · intro dss h
    cases h with
    | cons h1 r =>
      cases r with
      | cons h2 r =>
        cases r with
        | nil =>
          obtain ⟨x, e1, lx⟩ := sh104_ h1
          obtain ⟨v, e2, lv⟩ := sh107_ h2
          simp only [mkAll]
          rw [e1, e2]
          exact takes_law x v lx lv
set_option maxHeartbeats 8000000 in
theorem closed_facts : joinedFacts Tryz.prog 10 Tryz.f10 Rows.propagateTermsSpec Rows.propagateTermsRow = true := by
  unfold joinedFacts
  simp only [Bool.and_eq_true]
  repeat' apply And.intro
  all_goals as_aux_lemma => kernel_rfl
theorem row_holds : Rows.PropagateTermsSaid :=
  OpenClaim.holds_of_wide 10 Tryz.f10 rfl rfl rfl rfl rfl rfl rfl ⟨rfl, rfl, rfl, rfl, rfl⟩ rfl rfl rfl rfl rfl (by kernel_rfl) Tryz.func10 closed_facts
    (of_decide_eq_true (by kernel_rfl)) (by unfold Func.isWrapper; rw [if_neg (by decide +kernel)]; exact ⟨rfl, rfl⟩)
    (fun os started H enc _ => law_lifted os started H enc)
theorem pm0 : Tryz.f10.params[0]? = some 105 := by kernel_rfl
theorem pm1 : Tryz.f10.params[1]? = some 107 := by kernel_rfl
theorem pmz : Tryz.f10.params.size = 2 := by kernel_rfl
theorem law_holds : Rows.PropagateTermsCardSaid :=
  Claim7.holds_tied_plain_at .later [] [.data, .data, .data] true (true, "de003654cfae3caa1481ad000d337601fd35236b95f0707223ec46fb23597483") false
    row_holds (fun _ h => by cases h) (by kernel_rfl) (fun _ h => by cases h) propagateTerms_row_tie rfl ⟨rfl, rfl⟩ (by kernel_rfl) rfl
    (fun f fn hf hfn => by
      obtain rfl : f = 10 := Option.some.inj ((show Tryz.prog.funcNamed "fiducial/fiduciallaw39.PropagateTerms" = some 10 by kernel_rfl).symm.trans hf) |>.symm
      obtain rfl : fn = Tryz.f10 := (Option.some.inj (Tryz.func10.symm.trans hfn)).symm
      exact ⟨by kernel_rfl, fun j t ht => by
        rcases j with _ | _ | j
        · obtain rfl := Option.some.inj (pm0.symm.trans ht)
          exact (show Tryz.prog.wantsStandIn 105 = false by kernel_rfl)
        · obtain rfl := Option.some.inj (pm1.symm.trans ht)
          exact (show Tryz.prog.wantsStandIn 107 = false by kernel_rfl)
        · rw [Array.getElem?_eq_none (by rw [pmz]; omega)] at ht
          cases ht⟩)
    (by kernel_rfl)
end Go.Proofs.YtnajallgoaiahaaGreatDoor
