/- The law PyramidMonotone returns true for every input, and its arguments read afterwards as before. No condition. -/
import Derived.Test.YtleidgohjckmlaaM28
import Derived.Test.YtleidgohjckmlaaM29
import Derived.Test.YtleidgohjckmlaaRows
import Derived.JoinedOf
namespace Go.Proofs.Ytleidgohjckmlaa
open Go.Fid Go.RowKit Go.ChangeShapes Go.WideShapes
theorem takes_law (r : RRst) (more : List Nat) (_lr : Len23 r) (lm : (∀ a ∈ more, Len_u8 a) ∧ more.length ≤ 140737488355328) : Takes Try.prog 5 [encRst r, .sl 5 1 (more.map enc_u8)] (.val (.bool true)) := by
  obtain ⟨w, h, mx, px⟩ := r
  by_cases hs : px.length ≤ 300
  · by_cases hc : chkC w h mx px = 0
    · obtain ⟨a, b, rfl, rfl, hv, m1, m2, hp⟩ := chk_rst hc
      exact w_mon3 (hmore := lm.1) (hbmore := lm.2) (hsm := hs) (hv := hv) (m1 := m1) (m2 := m2) (hp := hp) (hc := hc) ..
    · exact w_mon2 (hmore := lm.1) (hbmore := lm.2) (hsm := hs) (hc := hc) ..
  · exact w_mon1 (hmore := lm.1) (hbmore := lm.2) (hbig := hs) ..
theorem laidOut : laidOutB Try.prog = true := by kernel_rfl
set_option maxRecDepth 100000 in
theorem law_lifted (os : Os) (started : os.Started) (H : Type) (enc : TypeId × Value → H) :
    ReturnsInHanded {} Try.checked os 5 .any (Rows.pyramidMonotoneSpec.pre6 enc Try.prog Try.f5 Rows.pyramidMonotoneRow.domain false) (Rows.pyramidMonotoneSpec.post enc Try.prog Try.f5 false true false false) := by
  refine returnsInHanded_of_change_sized (C := Try.checked) (by kernel_rfl) started (by kernel_rfl) Try.func5
    (ChangeSpec.witness6 (enc := enc) (C := Try.checked) false ⟨#[], #[.agg #[.int .i64 0, .int .i64 0, .int .i64 0, .slice none 0 0], .slice none 0 0], []⟩ 8 (by kernel_rfl) (by kernel_rfl) (by kernel_rfl) (by kernel_rfl)) ?_
  intro W base args ds gs before hval hW _ hwt _
  refine law_contract (tys := [ty23, ty49]) (B := 4) laidOut rfl (by kernel_rfl) (by kernel_rfl) (by kernel_rfl) (by kernel_rfl) ?_ ?_ W base args ds gs before hval hW hwt
  · intro ds hl
    have hl2 : ds.length = 2 := hl
    match ds, hl2 with
    | [d1, d2], _ => exact ⟨rfl, rfl, rfl⟩
  · intro dss h
    cases h with
    | cons h1 r =>
      cases r with
      | cons h2 r =>
        cases r with
        | nil =>
          obtain ⟨r, e1, lr⟩ := sh23_ h1
          obtain ⟨more, e2, lmore⟩ := sh49_ h2
          simp only [mkAll]
          rw [e1, e2]
          exact takes_law r more lr lmore
theorem law_holds : Rows.PyramidMonotoneSaid :=
  OpenClaim.holds_of_wide 5 Try.f5 rfl rfl rfl rfl rfl rfl rfl ⟨rfl, rfl, rfl, rfl, rfl⟩ rfl rfl rfl rfl rfl (by kernel_rfl) Try.func5 (by kernel_rfl)
    (of_decide_eq_true (by kernel_rfl)) (by unfold Func.isWrapper; rw [if_neg (by decide +kernel)]; exact ⟨rfl, rfl⟩)
    (fun os started H enc _ => law_lifted os started H enc)
end Go.Proofs.Ytleidgohjckmlaa
