/- The law LoopOrder returns true for every input, and its arguments read afterwards as before. No condition. -/
import Derived.Test.YtihgdjljnaekmaaGreatM36
import Derived.Test.YtihgdjljnaekmaaGreatM37
import Derived.Test.YtihgdjljnaekmaaGreatRows
import Derived.JoinedOf
namespace Go.Proofs.YtihgdjljnaekmaaGreat
open Go.Fid Go.RowKit Go.ChangeShapes Go.WideShapes
theorem takes_law (z : Int) (es : List REdge) (bs : List Bool) (_lz : Len_i64 z) (_le : Len39 es) (_lb : Len101 bs) : Takes Tryz.prog 12 [.val (.int .i64 z), .sl 56 6 (es.map encEdge), .sl 4 1 (bs.map enc_bool)] (.val (.bool true)) := by
  rcases hf : fewB z es with _ | _
  · exact w_ordN z es bs hf
  by_cases hc : lopC z es = 0
  · exact w_ordY z es bs hf hc
  · exact w_ordC z es bs hf hc
theorem laidOut : laidOutB Tryz.prog = true := by kernel_rfl
set_option maxRecDepth 100000 in
theorem law_lifted (os : Os) (started : os.Started) (H : Type) (enc : TypeId × Value → H) :
    ReturnsInHanded {} Tryz.checked os 12 .any (Rows.loopOrderSpec.pre6 enc Tryz.prog Tryz.f12 Rows.loopOrderRow.domain false) (Rows.loopOrderSpec.post enc Tryz.prog Tryz.f12 false true false false) := by
  refine returnsInHanded_of_change_sized (C := Tryz.checked) (by kernel_rfl) started (by kernel_rfl) Tryz.func12
    (ChangeSpec.witness6 (enc := enc) (C := Tryz.checked) false ⟨#[], #[.int .i64 0, .slice none 0 0, .slice none 0 0], []⟩ 8 (by kernel_rfl) (by kernel_rfl) (by kernel_rfl) (by kernel_rfl)) ?_
  intro W base args ds gs before hval hW _ hwt _
  refine law_contract (tys := [(.int .i64), ty39, ty101]) (B := 4) laidOut rfl (by kernel_rfl) (by kernel_rfl) (by kernel_rfl) (by kernel_rfl) ?_ ?_ W base args ds gs before hval hW hwt
  · intro ds hl
    have hl2 : ds.length = 3 := hl
    match ds, hl2 with
    | [d1, d2, d3], _ => exact ⟨rfl, rfl, rfl⟩
  · intro dss h
    cases h with
    | cons h1 r =>
      cases r with
      | cons h2 r =>
        cases r with
        | cons h3 r =>
          cases r with
          | nil =>
            obtain ⟨z, e1, lz⟩ := sh_i64 h1
            obtain ⟨es, e2, les⟩ := sh39_ h2
            obtain ⟨bs, e3, lbs⟩ := sh101_ h3
            simp only [mkAll]
            rw [e1, e2, e3]
            exact takes_law z es bs lz les lbs
theorem law_holds : Rows.LoopOrderSaid :=
  OpenClaim.holds_of_wide 12 Tryz.f12 rfl rfl rfl rfl rfl rfl rfl ⟨rfl, rfl, rfl, rfl, rfl⟩ rfl rfl rfl rfl rfl (by kernel_rfl) Tryz.func12 (by kernel_rfl)
    (of_decide_eq_true (by kernel_rfl)) (by unfold Func.isWrapper; rw [if_neg (by decide +kernel)]; exact ⟨rfl, rfl⟩)
    (fun os started H enc _ => law_lifted os started H enc)
end Go.Proofs.YtihgdjljnaekmaaGreat
