/- The law IntervalSizes returns true for every input, and its argument reads afterwards as before. No condition. -/
import Derived.Test.YtcdgmcfkhkikbaaGreatLawE
import Derived.Test.YtcdgmcfkhkikbaaGreatForms
import Derived.Test.YtcdgmcfkhkikbaaGreatRows
import Derived.JoinedOf
namespace Go.Proofs.YtcdgmcfkhkikbaaGreat
open Go.Fid Go.RowKit Go.ChangeShapes Go.WideShapes
theorem takes_sizes (a : RRng) (ha : LenG a) : Takes Tryz.prog 9 [encG a] (.val (.bool true)) := by
  rcases hs : List.all [a] shortG with _ | _
  · exact w_sizeL a (gok_len ha) hs
  · have h2 := hs
    simp only [List.all_cons, List.all_nil, Bool.and_true] at h2
    rcases hv : List.all [a] validG with _ | _
    · exact w_sizeV a (gok_short h2) hs hv
    · simp only [List.all_cons, List.all_nil, Bool.and_true] at hv
      obtain ⟨e1, l1⟩ := validG_form hv
      generalize toQ a.lo = p at e1 l1
      generalize toQ a.hi = q at e1 l1
      subst e1
      obtain ⟨hp, hq⟩ := shortG_ql h2
      exact w_size p q hp hq l1 hs
theorem laidOut : laidOutB Tryz.prog = true := by kernel_rfl
set_option maxRecDepth 100000 in
theorem sizes_lifted (os : Os) (started : os.Started) (H : Type) (enc : TypeId × Value → H) :
    ReturnsInHanded {} Tryz.checked os 9 .any (Rows.intervalSizesSpec.pre6 enc Tryz.prog Tryz.f9 Rows.intervalSizesRow.domain false) (Rows.intervalSizesSpec.post enc Tryz.prog Tryz.f9 false true false false) := by
  refine returnsInHanded_of_change_sized (C := Tryz.checked) (by kernel_rfl) started (by kernel_rfl) Tryz.func9
    (ChangeSpec.witness6 (enc := enc) (C := Tryz.checked) false ⟨#[], #[.agg #[.bool false, .slice none 0 0, .bool false, .slice none 0 0, .bool false, .slice none 0 0, .bool false, .slice none 0 0]], []⟩ 8 (by kernel_rfl) (by kernel_rfl) (by kernel_rfl) (by kernel_rfl)) ?_
  intro W base args ds gs before hval hW _ hwt _
  refine law_contract (tys := [tyG]) (B := 4) laidOut rfl (by kernel_rfl) (by kernel_rfl) (by kernel_rfl) (by kernel_rfl) ?_ ?_ W base args ds gs before hval hW hwt
  · intro ds hl
    have hl2 : ds.length = 1 := hl
    match ds, hl2 with
    | [d1], _ => exact ⟨rfl, rfl, rfl⟩
  · intro dss h
    cases h with
    | cons h1 r =>
      cases r with
      | nil =>
        obtain ⟨a, ea, la⟩ := sh_G h1
        simp only [mkAll]
        rw [ea]
        exact takes_sizes a la
theorem sizes_holds : Rows.IntervalSizesSaid :=
  OpenClaim.holds_of_wide 9 Tryz.f9 rfl rfl rfl rfl rfl rfl rfl ⟨rfl, rfl, rfl, rfl, rfl⟩ rfl rfl rfl rfl rfl (by kernel_rfl) Tryz.func9 (by kernel_rfl)
    (of_decide_eq_true (by kernel_rfl)) (by unfold Func.isWrapper; rw [if_neg (by decide +kernel)]; exact ⟨rfl, rfl⟩)
    (fun os started H enc _ => sizes_lifted os started H enc)
end Go.Proofs.YtcdgmcfkhkikbaaGreat
