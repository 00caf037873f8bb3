/- The law IntervalRounds returns true for every input, and its arguments read afterwards as before: the row, and the card that ties what it lists to the program's text. -/
import Derived.Test.YtiooafhcpkdhcaaGreatDoorM26
import Derived.Test.YtiooafhcpkdhcaaGreatDoorM27
import Derived.Test.YtiooafhcpkdhcaaGreatDoorRows
import Derived.Test.YtiooafhcpkdhcaaGreatDoorCards
import Derived.Test.YtiooafhcpkdhcaaGreatDoorTie
import Derived.JoinedOf
import Derived.LaidMore
import Derived.SevenTiedAt
namespace Go.Proofs.YtiooafhcpkdhcaaGreatDoor
open Go.Fid Go.RowKit Go.ChangeShapes Go.WideShapes
theorem sgn_neg {p : Rat} (h : ¬ 0 ≤ p) : (signQ p) < 0 := by
  have h2 : ¬ 0 ≤ p.num := fun hh => h (Rat.num_nonneg.1 hh)
  unfold signQ signI
  rw [if_neg (by omega), if_pos (by omega)]; decide
theorem takes_law (a : RRng) (ha : LenG a) (k : Int) : Takes Tryz.prog 3 [encG a, .val (.int .i64 k)] (.val (.bool true)) := by
  rcases hs : List.all [a] shortG with _ | _
  · exact w_rdL (ha := gok_len ha) (hk := hs) ..
  · have h2 := hs
    simp only [List.all_cons, List.all_nil, Bool.and_true] at h2
    rcases hv : List.all [a] validG with _ | _
    · exact w_rdV (ha := gok_short h2) (hs := hs) (hk := hv) (hk1 := by simpa using hv) ..
    · simp only [List.all_cons, List.all_nil, Bool.and_true] at hv
      obtain ⟨e1, l1⟩ := validG_form hv
      generalize toQ a.lo = p at e1 l1
      generalize toQ a.hi = q at e1 l1
      subst e1
      obtain ⟨hp, hq⟩ := shortG_ql h2
      by_cases hk : 0 ≤ k ∧ k ≤ 512
      · obtain ⟨n, rfl⟩ := Int.eq_ofNat_of_zero_le hk.1
        have hn : n ≤ 512 := by omega
        by_cases hp0 : 0 ≤ p
        · exact w_rd (hp := hp) (hq := hq) (hpq := l1) (hk := hn) (hsh := hs) (hp0_ := hp0) ..
        · exact w_rdN (hp := hp) (hq := hq) (hpq := l1) (hk := hn) (hsh := hs) (hpn := sgn_neg hp0) ..
      · exact w_rdR (hp := hp) (hq := hq) (hpq := l1) (hsh := hs) (hkr := hk) ..
theorem laidOut : laidOutB Tryz.prog = true := by kernel_rfl
theorem door_met (os : Os) (args : Array Value) : laidMetH Tryz.prog Rows.intervalRoundsRow.laid ((World.doorLaid Tryz.prog 400 os).forCall (fun _ _ => 0) ⟨#[], args, []⟩).memory :=
  laidMetH_of_parts3 (fuel := 8) (laidMet_of_run' 8 (by kernel_rfl) (by kernel_rfl)) (by kernel_rfl) (by kernel_rfl)
set_option maxRecDepth 100000 in
theorem law_lifted (os : Os) (started : os.Started) (H : Type) (enc : TypeId × Value → H) :
    ReturnsInHanded {} Tryz.checked os 3 .any (fun w args => (Rows.intervalRoundsSpec.pre enc Tryz.prog Tryz.f3 Rows.intervalRoundsRow.domain false w args ∧ laidMetH Tryz.prog Rows.intervalRoundsRow.laid w) ∧ sizedMet enc Tryz.prog Tryz.f3 (OpenSpec.ofChange Rows.intervalRoundsSpec) false w args)
      (Rows.intervalRoundsSpec.post enc Tryz.prog Tryz.f3 false true false false) := by
  refine returnsInHanded_of_change_and (C := Tryz.checked) (X := fun w _ => laidMetH Tryz.prog Rows.intervalRoundsRow.laid w) (fun _ _ _ hh h => h.of_heap hh) (by kernel_rfl) started (by kernel_rfl) Tryz.func3
    (ChangeSpec.witness_shaped (enc := enc) (C := Tryz.checked) (os := os) (X := fun w _ => laidMetH Tryz.prog Rows.intervalRoundsRow.laid w) false (World.doorLaid Tryz.prog 400 os) #[.agg #[.bool false, .slice none 0 0, .bool false, .slice none 0 0, .bool false, .slice none 0 0, .bool false, .slice none 0 0], .int .i64 0] 8 rfl (World.shaped_of_RefB (by kernel_rfl) (by kernel_rfl)) (by kernel_rfl) (by kernel_rfl) (by kernel_rfl) (door_met os _)) ?_
  intro W base args ds gs before hval hW _ hwt _ _
  refine law_contract (tys := [tyG, .int .i64]) (B := 4) laidOut rfl (by kernel_rfl) (by kernel_rfl) (by kernel_rfl) (by kernel_rfl) ?_ ?_ W base args ds gs before hval hW hwt
  · intro ds hl
    have hl2 : ds.length = 2 := hl
    match ds, hl2 with
    | [d1, d2], _ => exact ⟨rfl, rfl, rfl⟩
  · intro dss h
    cases h with
    | cons h1 r =>
      cases r with
      | cons h2 r =>
        cases r with
        | nil =>
          obtain ⟨a, ea, la⟩ := sh_G h1
          obtain ⟨k, ek, lk⟩ := sh_i64 h2
          simp only [mkAll]
          rw [ea, ek]
          exact takes_law a la k
set_option maxHeartbeats 8000000 in
theorem closed_facts : joinedFacts Tryz.prog 3 Tryz.f3 Rows.intervalRoundsSpec Rows.intervalRoundsRow = true := by
  unfold joinedFacts
  simp only [Bool.and_eq_true]
  repeat' apply And.intro
  all_goals as_aux_lemma => kernel_rfl
theorem row_holds : Rows.IntervalRoundsSaid :=
  OpenClaim.holds_of_wide 3 Tryz.f3 rfl rfl rfl rfl rfl rfl rfl ⟨rfl, rfl, rfl, rfl, rfl⟩ rfl rfl rfl rfl rfl (by kernel_rfl) Tryz.func3 closed_facts
    (of_decide_eq_true (by kernel_rfl)) (by unfold Func.isWrapper; rw [if_neg (by decide +kernel)]; exact ⟨rfl, rfl⟩)
    (fun os started H enc _ => law_lifted os started H enc)
theorem pm0 : Tryz.f3.params[0]? = some 28 := by kernel_rfl
theorem pm1 : Tryz.f3.params[1]? = some 3 := by kernel_rfl
theorem pmz : Tryz.f3.params.size = 2 := by kernel_rfl
theorem law_holds : Rows.IntervalRoundsCardSaid :=
  Claim7.holds_tied_plain_at .later [] [.data, .data, .data] true (true, "316106162a2f2c1932d893cc8df28d8cfa242f221fa06e32000b901484f26020") false
    row_holds (fun _ h => by cases h) (by kernel_rfl) (fun _ h => by cases h) intervalRounds_row_tie rfl ⟨rfl, rfl⟩ (by kernel_rfl) rfl
    (fun f fn hf hfn => by
      obtain rfl : f = 3 := Option.some.inj ((show Tryz.prog.funcNamed "fiducial/fiduciallaw03.IntervalRounds" = some 3 by kernel_rfl).symm.trans hf) |>.symm
      obtain rfl : fn = Tryz.f3 := (Option.some.inj (Tryz.func3.symm.trans hfn)).symm
      exact ⟨by kernel_rfl, fun j t ht => by
        rcases j with _ | _ | j
        · obtain rfl := Option.some.inj (pm0.symm.trans ht)
          exact (show Tryz.prog.wantsStandIn 28 = false by kernel_rfl)
        · obtain rfl := Option.some.inj (pm1.symm.trans ht)
          exact (show Tryz.prog.wantsStandIn 3 = false by kernel_rfl)
        · rw [Array.getElem?_eq_none (by rw [pmz]; omega)] at ht
          cases ht⟩)
    (by kernel_rfl)
end Go.Proofs.YtiooafhcpkdhcaaGreatDoor
