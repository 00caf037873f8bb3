/- The law PyramidSmooths returns true for every input, and its argument reads afterwards as before. No condition. -/
import Derived.Test.YtleidgohjckmlaaM30
import Derived.Test.YtleidgohjckmlaaRows
import Derived.JoinedOf
namespace Go.Proofs.Ytleidgohjckmlaa
open Go.Fid Go.RowKit Go.ChangeShapes Go.WideShapes
theorem takes_law (r : RRst) (_lr : Len23 r) : Takes Try.prog 3 [encRst r] (.val (.bool true)) := by
  obtain ⟨w, h, mx, px⟩ := r
  by_cases hs : px.length ≤ 300
  · by_cases hc : chkC w h mx px = 0
    · obtain ⟨a, b, rfl, rfl, hv, _⟩ := chk_rst hc
      exact w_smo3 (hsm := hs) (hv := hv) (hc := hc) ..
    · exact w_smo2 (hsm := hs) (hc := hc) ..
  · exact w_smo1 (hbig := hs) ..
theorem laidOut : laidOutB Try.prog = true := by kernel_rfl
set_option maxRecDepth 100000 in
theorem law_lifted (os : Os) (started : os.Started) (H : Type) (enc : TypeId × Value → H) :
    ReturnsInHanded {} Try.checked os 3 .any (Rows.pyramidSmoothsSpec.pre6 enc Try.prog Try.f3 Rows.pyramidSmoothsRow.domain false) (Rows.pyramidSmoothsSpec.post enc Try.prog Try.f3 false true false false) := by
  refine returnsInHanded_of_change_sized (C := Try.checked) (by kernel_rfl) started (by kernel_rfl) Try.func3
    (ChangeSpec.witness6 (enc := enc) (C := Try.checked) false ⟨#[], #[.agg #[.int .i64 0, .int .i64 0, .int .i64 0, .slice none 0 0]], []⟩ 8 (by kernel_rfl) (by kernel_rfl) (by kernel_rfl) (by kernel_rfl)) ?_
  intro W base args ds gs before hval hW _ hwt _
  refine law_contract (tys := [ty23]) (B := 4) laidOut rfl (by kernel_rfl) (by kernel_rfl) (by kernel_rfl) (by kernel_rfl) ?_ ?_ W base args ds gs before hval hW hwt
  · intro ds hl
    have hl2 : ds.length = 1 := hl
    match ds, hl2 with
    | [d1], _ => exact ⟨rfl, rfl, rfl⟩
  · intro dss h
    cases h with
    | cons h1 r =>
      cases r with
      | nil =>
        obtain ⟨r, e1, lr⟩ := sh23_ h1
        simp only [mkAll]
        rw [e1]
        exact takes_law r lr
theorem law_holds : Rows.PyramidSmoothsSaid :=
  OpenClaim.holds_of_wide 3 Try.f3 rfl rfl rfl rfl rfl rfl rfl ⟨rfl, rfl, rfl, rfl, rfl⟩ rfl rfl rfl rfl rfl (by kernel_rfl) Try.func3 (by kernel_rfl)
    (of_decide_eq_true (by kernel_rfl)) (by unfold Func.isWrapper; rw [if_neg (by decide +kernel)]; exact ⟨rfl, rfl⟩)
    (fun os started H enc _ => law_lifted os started H enc)
end Go.Proofs.Ytleidgohjckmlaa
