/- The law PyramidJoins returns true for every input, and its argument reads afterwards as before. No condition. -/
import Derived.Test.YtleidgohjckmlaaGreatM31
import Derived.Test.YtleidgohjckmlaaGreatRows
import Derived.JoinedOf
namespace Go.Proofs.YtleidgohjckmlaaGreat
open Go.Fid Go.RowKit Go.ChangeShapes Go.WideShapes
theorem takes_law (b : RBnd) (_lb : Len27 b) : Takes Tryz.prog 4 [encBnd b] (.val (.bool true)) := by
  obtain ⟨w, h, m, l, r, d, c⟩ := b
  rcases hf3 : fewB l r d c with _ | _
  · exact w_joi1 (hf3 := hf3) ..
  rcases hf : vBnd w h m l r d c with _ | _
  · exact w_joi2 (hf3 := hf3) (hf := hf) ..
  obtain ⟨a, b, rfl, rfl, hv, m1, m2⟩ := vb_ok hf
  rcases hc : (pxJ a b l r d c).any (badPx m) with _ | _
  · exact w_joi4 (hf3 := hf3) (hf := hf) (hv := hv) (m1 := m1) (m2 := m2) (hc := hc) ..
  · exact w_joi3 (hf3 := hf3) (hf := hf) (hv := hv) (hc := hc) ..
theorem laidOut : laidOutB Tryz.prog = true := by kernel_rfl
set_option maxRecDepth 100000 in
theorem law_lifted (os : Os) (started : os.Started) (H : Type) (enc : TypeId × Value → H) :
    ReturnsInHanded {} Tryz.checked os 4 .any (Rows.pyramidJoinsSpec.pre6 enc Tryz.prog Tryz.f4 Rows.pyramidJoinsRow.domain false) (Rows.pyramidJoinsSpec.post enc Tryz.prog Tryz.f4 false true false false) := by
  refine returnsInHanded_of_change_sized (C := Tryz.checked) (by kernel_rfl) started (by kernel_rfl) Tryz.func4
    (ChangeSpec.witness6 (enc := enc) (C := Tryz.checked) false ⟨#[], #[.agg #[.int .i64 0, .int .i64 0, .int .i64 0, .slice none 0 0, .slice none 0 0, .slice none 0 0, .slice none 0 0]], []⟩ 8 (by kernel_rfl) (by kernel_rfl) (by kernel_rfl) (by kernel_rfl)) ?_
  intro W base args ds gs before hval hW _ hwt _
  refine law_contract (tys := [ty27]) (B := 4) laidOut rfl (by kernel_rfl) (by kernel_rfl) (by kernel_rfl) (by kernel_rfl) ?_ ?_ W base args ds gs before hval hW hwt
  · intro ds hl
    have hl2 : ds.length = 1 := hl
    match ds, hl2 with
    | [d1], _ => exact ⟨rfl, rfl, rfl⟩
  · intro dss h
    cases h with
    | cons h1 r =>
      cases r with
      | nil =>
        obtain ⟨b, e1, lb⟩ := sh27_ h1
        simp only [mkAll]
        rw [e1]
        exact takes_law b lb
theorem law_holds : Rows.PyramidJoinsSaid :=
  OpenClaim.holds_of_wide 4 Tryz.f4 rfl rfl rfl rfl rfl rfl rfl ⟨rfl, rfl, rfl, rfl, rfl⟩ rfl rfl rfl rfl rfl (by kernel_rfl) Tryz.func4 (by kernel_rfl)
    (of_decide_eq_true (by kernel_rfl)) (by unfold Func.isWrapper; rw [if_neg (by decide +kernel)]; exact ⟨rfl, rfl⟩)
    (fun os started H enc _ => law_lifted os started H enc)
end Go.Proofs.YtleidgohjckmlaaGreat
