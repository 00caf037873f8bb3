/- The law LoopMade returns true for every input, and its arguments read afterwards as before. No condition. -/
import Derived.Test.YtihgdjljnaekmaaGreatM37
import Derived.Test.YtihgdjljnaekmaaGreatM38
import Derived.Test.YtihgdjljnaekmaaGreatRows
import Derived.JoinedOf
namespace Go.Proofs.YtihgdjljnaekmaaGreat
open Go.Fid Go.RowKit Go.ChangeShapes Go.WideShapes
theorem takes_law (ts : List RQuat) (p : List (A2 (Nat))) (x : REdge) (lt : Len34 ts) (lp : Len85 p) (_lx : Len55 x) : Takes Tryz.prog 11 [.sl 28 4 (ts.map encQuat), .sl 87 2 (p.map encA87), encEdge x] (.val (.bool true)) :=
  w_made ts p x lt.2 lp.2 (fun a ha => lp.1 a ha)
theorem laidOut : laidOutB Tryz.prog = true := by kernel_rfl
set_option maxRecDepth 100000 in
theorem law_lifted (os : Os) (started : os.Started) (H : Type) (enc : TypeId × Value → H) :
    ReturnsInHanded {} Tryz.checked os 11 .any (Rows.loopMadeSpec.pre6 enc Tryz.prog Tryz.f11 Rows.loopMadeRow.domain false) (Rows.loopMadeSpec.post enc Tryz.prog Tryz.f11 false true false false) := by
  refine returnsInHanded_of_change_sized (C := Tryz.checked) (by kernel_rfl) started (by kernel_rfl) Tryz.func11
    (ChangeSpec.witness6 (enc := enc) (C := Tryz.checked) false ⟨#[], #[.slice none 0 0, .slice none 0 0, .agg #[.int .i64 0, .int .i64 0, .int .i64 0, .int .i64 0, .int .i64 0, .int .i64 0]], []⟩ 8 (by kernel_rfl) (by kernel_rfl) (by kernel_rfl) (by kernel_rfl)) ?_
  intro W base args ds gs before hval hW _ hwt _
  refine law_contract (tys := [ty34, ty85, ty55]) (B := 4) laidOut rfl (by kernel_rfl) (by kernel_rfl) (by kernel_rfl) (by kernel_rfl) ?_ ?_ W base args ds gs before hval hW hwt
  · intro ds hl
    have hl2 : ds.length = 3 := hl
    match ds, hl2 with
    | [d1, d2, d3], _ => exact ⟨rfl, rfl, rfl⟩
  · intro dss h
    cases h with
    | cons h1 r =>
      cases r with
      | cons h2 r =>
        cases r with
        | cons h3 r =>
          cases r with
          | nil =>
            obtain ⟨ts, e1, lts⟩ := sh34_ h1
            obtain ⟨p, e2, lp⟩ := sh85_ h2
            obtain ⟨x, e3, lx⟩ := sh55_ h3
            simp only [mkAll]
            rw [e1, e2, e3]
            exact takes_law ts p x lts lp lx
theorem law_holds : Rows.LoopMadeSaid :=
  OpenClaim.holds_of_wide 11 Tryz.f11 rfl rfl rfl rfl rfl rfl rfl ⟨rfl, rfl, rfl, rfl, rfl⟩ rfl rfl rfl rfl rfl (by kernel_rfl) Tryz.func11 (by kernel_rfl)
    (of_decide_eq_true (by kernel_rfl)) (by unfold Func.isWrapper; rw [if_neg (by decide +kernel)]; exact ⟨rfl, rfl⟩)
    (fun os started H enc _ => law_lifted os started H enc)
end Go.Proofs.YtihgdjljnaekmaaGreat
