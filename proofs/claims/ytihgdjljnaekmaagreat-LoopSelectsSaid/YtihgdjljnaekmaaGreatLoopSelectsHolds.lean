/- The law LoopSelects returns true for every input, and its arguments read afterwards as before. No condition. -/
import Derived.Test.YtihgdjljnaekmaaGreatM38
import Derived.Test.YtihgdjljnaekmaaGreatM39
import Derived.Test.YtihgdjljnaekmaaGreatRows
import Derived.JoinedOf
namespace Go.Proofs.YtihgdjljnaekmaaGreat
open Go.Fid Go.RowKit Go.ChangeShapes Go.WideShapes
theorem takes_law (z : Int) (es : List REdge) (x : RRat) (_lz : Len_i64 z) (_le : Len39 es) (lx : Len50 x) : Takes Tryz.prog 6 [.val (.int .i64 z), .sl 56 6 (es.map encEdge), encR x] (.val (.bool true)) := by
  have hx : QOk x (toQ x) 140737488355328 := qok_raw (by decide) lx.1.2.2 lx.2.2.2
  rcases hf : fewB z es with _ | _
  · exact w_selN z es x _ hx hf
  rcases hb : brB x with _ | _
  · exact w_selB z es x _ hx hf hb
  · exact w_selY z es x _ (br_ok hb) hf hb
theorem laidOut : laidOutB Tryz.prog = true := by kernel_rfl
set_option maxRecDepth 100000 in
theorem law_lifted (os : Os) (started : os.Started) (H : Type) (enc : TypeId × Value → H) :
    ReturnsInHanded {} Tryz.checked os 6 .any (Rows.loopSelectsSpec.pre6 enc Tryz.prog Tryz.f6 Rows.loopSelectsRow.domain false) (Rows.loopSelectsSpec.post enc Tryz.prog Tryz.f6 false true false false) := by
  refine returnsInHanded_of_change_sized (C := Tryz.checked) (by kernel_rfl) started (by kernel_rfl) Tryz.func6
    (ChangeSpec.witness6 (enc := enc) (C := Tryz.checked) false ⟨#[], #[.int .i64 0, .slice none 0 0, .agg #[.bool false, .slice none 0 0, .bool false, .slice none 0 0]], []⟩ 8 (by kernel_rfl) (by kernel_rfl) (by kernel_rfl) (by kernel_rfl)) ?_
  intro W base args ds gs before hval hW _ hwt _
  refine law_contract (tys := [(.int .i64), ty39, ty50]) (B := 4) laidOut rfl (by kernel_rfl) (by kernel_rfl) (by kernel_rfl) (by kernel_rfl) ?_ ?_ W base args ds gs before hval hW hwt
  · intro ds hl
    have hl2 : ds.length = 3 := hl
    match ds, hl2 with
    | [d1, d2, d3], _ => exact ⟨rfl, rfl, rfl⟩
  · intro dss h
    cases h with
    | cons h1 r =>
      cases r with
      | cons h2 r =>
        cases r with
        | cons h3 r =>
          cases r with
          | nil =>
            obtain ⟨z, e1, lz⟩ := sh_i64 h1
            obtain ⟨es, e2, les⟩ := sh39_ h2
            obtain ⟨x, e3, lx⟩ := sh50_ h3
            simp only [mkAll]
            rw [e1, e2, e3]
            exact takes_law z es x lz les lx
theorem law_holds : Rows.LoopSelectsSaid :=
  OpenClaim.holds_of_wide 6 Tryz.f6 rfl rfl rfl rfl rfl rfl rfl ⟨rfl, rfl, rfl, rfl, rfl⟩ rfl rfl rfl rfl rfl (by kernel_rfl) Tryz.func6 (by kernel_rfl)
    (of_decide_eq_true (by kernel_rfl)) (by unfold Func.isWrapper; rw [if_neg (by decide +kernel)]; exact ⟨rfl, rfl⟩)
    (fun os started H enc _ => law_lifted os started H enc)
end Go.Proofs.YtihgdjljnaekmaaGreat
