/- The law PyramidCommutes returns true for every input, and its arguments read afterwards as before. No condition. -/
import Derived.Test.YtleidgohjckmlaaM29
import Derived.Test.YtleidgohjckmlaaM30
import Derived.Test.YtleidgohjckmlaaRows
import Derived.JoinedOf
namespace Go.Proofs.Ytleidgohjckmlaa
open Go.Fid Go.RowKit Go.ChangeShapes Go.WideShapes
theorem takes_law (r : RRst) (n : Nat) (_lr : Len23 r) (ln : Len_u8 n) : Takes Try.prog 4 [encRst r, .val (.int .u8 ((n : Nat) : Int))] (.val (.bool true)) := by
  obtain ⟨w, h, mx, px⟩ := r
  by_cases hs : px.length ≤ 300
  · by_cases hc : chkC w h mx px = 0
    · obtain ⟨a, b, rfl, rfl, hv, m1, m2, hp⟩ := chk_rst hc
      by_cases hcu : chkC ((a : Nat) : Int) ((b : Nat) : Int) (min (mx + 255) 65535) (px.map fun x => x + ((n : Nat) : Int)) = 0
      · exact w_com4 (hq := ln) (hsm := hs) (hv := hv) (m1 := m1) (m2 := m2) (hp := hp) (hc := hc) (hcu := hcu) ..
      · exact w_com3 (hq := ln) (hsm := hs) (hv := hv) (m1 := m1) (m2 := m2) (hp := hp) (hc := hc) (hcu := hcu) ..
    · exact w_com2 (hq := ln) (hsm := hs) (hc := hc) ..
  · exact w_com1 (hq := ln) (hbig := hs) ..
theorem laidOut : laidOutB Try.prog = true := by kernel_rfl
set_option maxRecDepth 100000 in
theorem law_lifted (os : Os) (started : os.Started) (H : Type) (enc : TypeId × Value → H) :
    ReturnsInHanded {} Try.checked os 4 .any (Rows.pyramidCommutesSpec.pre6 enc Try.prog Try.f4 Rows.pyramidCommutesRow.domain false) (Rows.pyramidCommutesSpec.post enc Try.prog Try.f4 false true false false) := by
  refine returnsInHanded_of_change_sized (C := Try.checked) (by kernel_rfl) started (by kernel_rfl) Try.func4
    (ChangeSpec.witness6 (enc := enc) (C := Try.checked) false ⟨#[], #[.agg #[.int .i64 0, .int .i64 0, .int .i64 0, .slice none 0 0], .int .u8 0], []⟩ 8 (by kernel_rfl) (by kernel_rfl) (by kernel_rfl) (by kernel_rfl)) ?_
  intro W base args ds gs before hval hW _ hwt _
  refine law_contract (tys := [ty23, (.int .u8)]) (B := 4) laidOut rfl (by kernel_rfl) (by kernel_rfl) (by kernel_rfl) (by kernel_rfl) ?_ ?_ W base args ds gs before hval hW hwt
  · intro ds hl
    have hl2 : ds.length = 2 := hl
    match ds, hl2 with
    | [d1, d2], _ => exact ⟨rfl, rfl, rfl⟩
  · intro dss h
    cases h with
    | cons h1 r =>
      cases r with
      | cons h2 r =>
        cases r with
        | nil =>
          obtain ⟨r, e1, lr⟩ := sh23_ h1
          obtain ⟨n, e2, ln⟩ := sh_u8 h2
          simp only [mkAll]
          rw [e1, e2]
          exact takes_law r n lr ln
theorem law_holds : Rows.PyramidCommutesSaid :=
  OpenClaim.holds_of_wide 4 Try.f4 rfl rfl rfl rfl rfl rfl rfl ⟨rfl, rfl, rfl, rfl, rfl⟩ rfl rfl rfl rfl rfl (by kernel_rfl) Try.func4 (by kernel_rfl)
    (of_decide_eq_true (by kernel_rfl)) (by unfold Func.isWrapper; rw [if_neg (by decide +kernel)]; exact ⟨rfl, rfl⟩)
    (fun os started H enc _ => law_lifted os started H enc)
end Go.Proofs.Ytleidgohjckmlaa
