/- The law IntervalReaches returns true for every input, and its arguments read afterwards as before. No condition. -/
import Derived.Test.YtcdgmcfkhkikbaaLawA
import Derived.Test.YtcdgmcfkhkikbaaForms
import Derived.Test.YtcdgmcfkhkikbaaRows
import Derived.JoinedOf
namespace Go.Proofs.Ytcdgmcfkhkikbaa
open Go.Fid Go.RowKit Go.ChangeShapes Go.WideShapes
theorem takes_reach (a b : RRng) (ha : LenG a) (hb : LenG b) : Takes Try.prog 3 [encG a, encG b] (.val (.bool true)) := by
  rcases hs : List.all [a, b] shortG with _ | _
  · exact w_reachL a b (gok_len ha) (gok_len hb) hs
  · have h2 := hs
    simp only [List.all_cons, List.all_nil, Bool.and_true, Bool.and_eq_true] at h2
    rcases hv : List.all [a, b] validG with _ | _
    · exact w_reachV a b (gok_short h2.1) (gok_short h2.2) hs hv
    · simp only [List.all_cons, List.all_nil, Bool.and_true, Bool.and_eq_true] at hv
      obtain ⟨e1, l1⟩ := validG_form hv.1
      obtain ⟨e2, l2⟩ := validG_form hv.2
      generalize toQ a.lo = p at e1 l1
      generalize toQ a.hi = q at e1 l1
      generalize toQ b.lo = r at e2 l2
      generalize toQ b.hi = s at e2 l2
      subst e1
      subst e2
      obtain ⟨hp, hq⟩ := shortG_ql h2.1
      obtain ⟨hr, hs'⟩ := shortG_ql h2.2
      rcases hz : zeroG r s with _ | _
      · exact w_reach p q r s hp hq hr hs' l1 l2 hs hz
      · exact w_reachZ p q r s hp hq hr hs' l1 l2 hs hz
theorem laidOut : laidOutB Try.prog = true := by kernel_rfl
set_option maxRecDepth 100000 in
theorem reach_lifted (os : Os) (started : os.Started) (H : Type) (enc : TypeId × Value → H) :
    ReturnsInHanded {} Try.checked os 3 .any (Rows.intervalReachesSpec.pre6 enc Try.prog Try.f3 Rows.intervalReachesRow.domain false) (Rows.intervalReachesSpec.post enc Try.prog Try.f3 false true false false) := by
  refine returnsInHanded_of_change_sized (C := Try.checked) (by kernel_rfl) started (by kernel_rfl) Try.func3
    (ChangeSpec.witness6 (enc := enc) (C := Try.checked) false ⟨#[], #[.agg #[.bool false, .slice none 0 0, .bool false, .slice none 0 0, .bool false, .slice none 0 0, .bool false, .slice none 0 0], .agg #[.bool false, .slice none 0 0, .bool false, .slice none 0 0, .bool false, .slice none 0 0, .bool false, .slice none 0 0]], []⟩ 8 (by kernel_rfl) (by kernel_rfl) (by kernel_rfl) (by kernel_rfl)) ?_
  intro W base args ds gs before hval hW _ hwt _
  refine law_contract (tys := [tyG, tyG]) (B := 4) laidOut rfl (by kernel_rfl) (by kernel_rfl) (by kernel_rfl) (by kernel_rfl) ?_ ?_ W base args ds gs before hval hW hwt
  · intro ds hl
    have hl2 : ds.length = 2 := hl
    match ds, hl2 with
    | [d1, d2], _ => exact ⟨rfl, rfl, rfl⟩
  · intro dss h
    cases h with
    | cons h1 r =>
      cases r with
      | cons h2 r =>
        cases r with
        | nil =>
          obtain ⟨a, ea, la⟩ := sh_G h1
          obtain ⟨b, eb, lb⟩ := sh_G h2
          simp only [mkAll]
          rw [ea, eb]
          exact takes_reach a b la lb
theorem reaches_holds : Rows.IntervalReachesSaid :=
  OpenClaim.holds_of_wide 3 Try.f3 rfl rfl rfl rfl rfl rfl rfl ⟨rfl, rfl, rfl, rfl, rfl⟩ rfl rfl rfl rfl rfl (by kernel_rfl) Try.func3 (by kernel_rfl)
    (of_decide_eq_true (by kernel_rfl)) (by unfold Func.isWrapper; rw [if_neg (by decide +kernel)]; exact ⟨rfl, rfl⟩)
    (fun os started H enc _ => reach_lifted os started H enc)
end Go.Proofs.Ytcdgmcfkhkikbaa
