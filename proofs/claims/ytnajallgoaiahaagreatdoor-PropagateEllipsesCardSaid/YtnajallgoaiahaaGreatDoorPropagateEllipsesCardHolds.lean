/- The law PropagateEllipses returns true for every input, and its arguments read afterwards as before. No condition. -/
import Derived.Test.YtnajallgoaiahaaGreatDoorM36
import Derived.Test.YtnajallgoaiahaaGreatDoorM37
import Derived.Test.YtnajallgoaiahaaGreatDoorRows
import Derived.Test.YtnajallgoaiahaaGreatDoorCards
import Derived.Test.YtnajallgoaiahaaGreatDoorTie
import Derived.JoinedOf
import Derived.LaidMore
import Derived.SevenTiedAt
namespace Go.Proofs.YtnajallgoaiahaaGreatDoor
open Go.Fid Go.RowKit Go.ChangeShapes Go.WideShapes
theorem takes_law (m : List (List jE)) (v : A2 Int) (k : Int) (lm : Len33 m) (_lv : Len59 v) (_lk : -9223372036854775808 ≤ k ∧ k ≤ 9223372036854775807) : jV Tryz.prog 6 [.sl 24 1 (m.map jL), gX v, .val (.int .i64 k)] (.val (.bool true)) := by
  have hm : vR 140737488355328 m := ⟨fun r hr => ⟨fun a ha => qok_raw (by decide) ((lm.1 r hr).1 a ha).1.2.2 ((lm.1 r hr).1 a ha).2.2.2, (lm.1 r hr).2⟩, lm.2⟩
  rcases hs : shM 5 6 m with _ | _
  · exact w_elT m hm v k hs
  have h6 : vR 6 m := shM_ok hs (by decide) (by decide)
  by_cases h1 : nE m = 0
  · by_cases h2 : gJ m m.length = 0
    · rcases h3 : elB m v.a0 v.a1 k with _ | _
      · obtain ⟨i0, i1, j0, j1, ij, k0, k1⟩ := elB_of h3
        obtain ⟨i, hi⟩ := nat_of i0
        obtain ⟨j, hj⟩ := nat_of j0
        obtain ⟨q, rfl⟩ := nat_of k0
        obtain ⟨a, b⟩ := v
        dsimp only at *
        subst hi; subst hj
        exact w_el m h6 i j q (by omega) hs h1 h2 (by omega) (by omega) (by omega)
      · exact w_el3 m h6 v k hs h1 h2 h3 (ell_3 (by omega) (by omega) h3)
    · exact w_el2 m h6 v k hs h1 h2 (ell_2 (by omega) (by omega))
  · exact w_el1 m h6 v k hs h1 (ell_1 (by omega))
theorem laidOut : laidOutB Tryz.prog = true := by kernel_rfl
theorem door_met (os : Os) (args : Array Value) : laidMetH Tryz.prog Rows.propagateEllipsesRow.laid ((World.doorLaid Tryz.prog 400 os).forCall (fun _ _ => 0) ⟨#[], args, []⟩).memory :=
  laidMetH_of_parts3 (fuel := 8) (laidMet_of_run' 8 (by kernel_rfl) (by kernel_rfl)) (by kernel_rfl) (by kernel_rfl)
set_option maxRecDepth 100000 in
theorem law_lifted (os : Os) (started : os.Started) (H : Type) (enc : TypeId × Value → H) :
    ReturnsInHanded {} Tryz.checked os 6 .any (fun w args => (Rows.propagateEllipsesSpec.pre enc Tryz.prog Tryz.f6 Rows.propagateEllipsesRow.domain false w args ∧ laidMetH Tryz.prog Rows.propagateEllipsesRow.laid w) ∧ sizedMet enc Tryz.prog Tryz.f6 (OpenSpec.ofChange Rows.propagateEllipsesSpec) false w args)
      (Rows.propagateEllipsesSpec.post enc Tryz.prog Tryz.f6 false true false false) := by
  refine returnsInHanded_of_change_and (C := Tryz.checked) (X := fun w _ => laidMetH Tryz.prog Rows.propagateEllipsesRow.laid w) (fun _ _ _ hh h => h.of_heap hh) (by kernel_rfl) started (by kernel_rfl) Tryz.func6
    (ChangeSpec.witness_shaped (enc := enc) (C := Tryz.checked) (os := os) (X := fun w _ => laidMetH Tryz.prog Rows.propagateEllipsesRow.laid w) false (World.doorLaid Tryz.prog 400 os) #[.slice none 0 0, .agg #[.int .i64 0, .int .i64 0], .int .i64 0] 8 rfl (World.shaped_of_RefB (by kernel_rfl) (by kernel_rfl)) (by kernel_rfl) (by kernel_rfl) (by kernel_rfl) (door_met os _)) ?_
  intro W base args ds gs before hval hW _ hwt _ _
  refine law_contract (tys := [ty33, ty59, (.int .i64)]) (B := 4) laidOut rfl (by kernel_rfl) (by kernel_rfl) (by kernel_rfl) (by kernel_rfl) ?_ ?_ W base args ds gs before hval hW hwt
  · intro ds hl
    have hl2 : ds.length = 3 := hl
    match ds, hl2 with
    | [d1, d2, d3], _ => exact ⟨rfl, rfl, rfl⟩
  · intro dss h
    cases h with
    | cons h1 r =>
      cases r with
      | cons h2 r =>
        cases r with
        | cons h3 r =>
          cases r with
          | nil =>
            obtain ⟨m, e1, lm⟩ := sh33_ h1
            obtain ⟨v, e2, lv⟩ := sh59_ h2
            obtain ⟨k, e3, lk⟩ := sh_i64 h3
            simp only [mkAll]
            rw [e1, e2, e3]
            exact takes_law m v k lm lv lk
set_option maxHeartbeats 8000000 in
theorem closed_facts : joinedFacts Tryz.prog 6 Tryz.f6 Rows.propagateEllipsesSpec Rows.propagateEllipsesRow = true := by
  unfold joinedFacts
  simp only [Bool.and_eq_true]
  repeat' apply And.intro
  all_goals as_aux_lemma => kernel_rfl
theorem row_holds : Rows.PropagateEllipsesSaid :=
  OpenClaim.holds_of_wide 6 Tryz.f6 rfl rfl rfl rfl rfl rfl rfl ⟨rfl, rfl, rfl, rfl, rfl⟩ rfl rfl rfl rfl rfl (by kernel_rfl) Tryz.func6 closed_facts
    (of_decide_eq_true (by kernel_rfl)) (by unfold Func.isWrapper; rw [if_neg (by decide +kernel)]; exact ⟨rfl, rfl⟩)
    (fun os started H enc _ => law_lifted os started H enc)
theorem pm0 : Tryz.f6.params[0]? = some 34 := by kernel_rfl
theorem pm1 : Tryz.f6.params[1]? = some 59 := by kernel_rfl
theorem pm2 : Tryz.f6.params[2]? = some 3 := by kernel_rfl
theorem pmz : Tryz.f6.params.size = 3 := by kernel_rfl
theorem law_holds : Rows.PropagateEllipsesCardSaid :=
  Claim7.holds_tied_plain_at .later [] [.data, .data, .data] true (true, "de003654cfae3caa1481ad000d337601fd35236b95f0707223ec46fb23597483") false
    row_holds (fun _ h => by cases h) (by kernel_rfl) (fun _ h => by cases h) propagateEllipses_row_tie rfl ⟨rfl, rfl⟩ (by kernel_rfl) rfl
    (fun f fn hf hfn => by
      obtain rfl : f = 6 := Option.some.inj ((show Tryz.prog.funcNamed "fiducial/fiduciallaw39.PropagateEllipses" = some 6 by kernel_rfl).symm.trans hf) |>.symm
      obtain rfl : fn = Tryz.f6 := (Option.some.inj (Tryz.func6.symm.trans hfn)).symm
      exact ⟨by kernel_rfl, fun j t ht => by
        rcases j with _ | _ | _ | j
        · obtain rfl := Option.some.inj (pm0.symm.trans ht)
          exact (show Tryz.prog.wantsStandIn 34 = false by kernel_rfl)
        · obtain rfl := Option.some.inj (pm1.symm.trans ht)
          exact (show Tryz.prog.wantsStandIn 59 = false by kernel_rfl)
        · obtain rfl := Option.some.inj (pm2.symm.trans ht)
          exact (show Tryz.prog.wantsStandIn 3 = false by kernel_rfl)
        · rw [Array.getElem?_eq_none (by rw [pmz]; omega)] at ht
          cases ht⟩)
    (by kernel_rfl)
end Go.Proofs.YtnajallgoaiahaaGreatDoor
