/- The law IntervalBounds returns true for every input, and its arguments read afterwards as before. No condition. -/
import Derived.Test.YtcdgmcfkhkikbaaGreatLawD
import Derived.Test.YtcdgmcfkhkikbaaGreatForms
import Derived.Test.YtcdgmcfkhkikbaaGreatRows
import Derived.JoinedOf
namespace Go.Proofs.YtcdgmcfkhkikbaaGreat
open Go.Fid Go.RowKit Go.ChangeShapes Go.WideShapes
theorem takes_bounds (a b c : RRng) (ha : LenG a) (hb : LenG b) (hc : LenG c) : Takes Tryz.prog 3 [encG a, encG b, encG c] (.val (.bool true)) := by
  rcases hs : List.all [a, b, c] shortG with _ | _
  · exact w_bndL a b c (gok_len ha) (gok_len hb) (gok_len hc) hs
  · have h2 := hs
    simp only [List.all_cons, List.all_nil, Bool.and_true, Bool.and_eq_true] at h2
    rcases hv : List.all [a, b] validG with _ | _
    · exact w_bndV a b c (gok_short h2.1) (gok_short h2.2.1) (gok_short h2.2.2) hs hv
    · simp only [List.all_cons, List.all_nil, Bool.and_true, Bool.and_eq_true] at hv
      obtain ⟨e1, l1⟩ := validG_form hv.1
      obtain ⟨e2, l2⟩ := validG_form hv.2
      generalize toQ a.lo = p at e1 l1
      generalize toQ a.hi = q at e1 l1
      generalize toQ b.lo = r at e2 l2
      generalize toQ b.hi = s at e2 l2
      subst e1
      subst e2
      obtain ⟨hp, hq⟩ := shortG_ql h2.1
      obtain ⟨hr, hs'⟩ := shortG_ql h2.2.1
      rcases hw : List.all [c] validG with _ | _
      · rcases hap : apQ p q r s with _ | _
        · exact w_bndC p q r s hp hq hr hs' l1 l2 c (gok_short h2.2.2) hs hw hap
        · exact w_bndCA p q r s hp hq hr hs' l1 l2 c (gok_short h2.2.2) hs hw hap
      · simp only [List.all_cons, List.all_nil, Bool.and_true] at hw
        obtain ⟨e3, l3⟩ := validG_form hw
        generalize toQ c.lo = x at e3 l3
        generalize toQ c.hi = y at e3 l3
        subst e3
        obtain ⟨hx, hy⟩ := shortG_ql h2.2.2
        rcases hap : apQ p q r s with _ | _
        · exact w_bnd p q r s hp hq hr hs' l1 l2 x y hx hy l3 hs hap
        · exact w_bndA p q r s hp hq hr hs' l1 l2 x y hx hy l3 hs hap
theorem laidOut : laidOutB Tryz.prog = true := by kernel_rfl
set_option maxRecDepth 100000 in
theorem bounds_lifted (os : Os) (started : os.Started) (H : Type) (enc : TypeId × Value → H) :
    ReturnsInHanded {} Tryz.checked os 3 .any (Rows.intervalBoundsSpec.pre6 enc Tryz.prog Tryz.f3 Rows.intervalBoundsRow.domain false) (Rows.intervalBoundsSpec.post enc Tryz.prog Tryz.f3 false true false false) := by
  refine returnsInHanded_of_change_sized (C := Tryz.checked) (by kernel_rfl) started (by kernel_rfl) Tryz.func3
    (ChangeSpec.witness6 (enc := enc) (C := Tryz.checked) false ⟨#[], #[.agg #[.bool false, .slice none 0 0, .bool false, .slice none 0 0, .bool false, .slice none 0 0, .bool false, .slice none 0 0], .agg #[.bool false, .slice none 0 0, .bool false, .slice none 0 0, .bool false, .slice none 0 0, .bool false, .slice none 0 0], .agg #[.bool false, .slice none 0 0, .bool false, .slice none 0 0, .bool false, .slice none 0 0, .bool false, .slice none 0 0]], []⟩ 8 (by kernel_rfl) (by kernel_rfl) (by kernel_rfl) (by kernel_rfl)) ?_
  intro W base args ds gs before hval hW _ hwt _
  refine law_contract (tys := [tyG, tyG, tyG]) (B := 4) laidOut rfl (by kernel_rfl) (by kernel_rfl) (by kernel_rfl) (by kernel_rfl) ?_ ?_ W base args ds gs before hval hW hwt
  · intro ds hl
    have hl2 : ds.length = 3 := hl
    match ds, hl2 with
    | [d1, d2, d3], _ => exact ⟨rfl, rfl, rfl⟩
  · intro dss h
    cases h with
    | cons h1 r =>
      cases r with
      | cons h2 r =>
        cases r with
        | cons h3 r =>
          cases r with
          | nil =>
            obtain ⟨a, ea, la⟩ := sh_G h1
            obtain ⟨b, eb, lb⟩ := sh_G h2
            obtain ⟨c, ec, lc⟩ := sh_G h3
            simp only [mkAll]
            rw [ea, eb, ec]
            exact takes_bounds a b c la lb lc
theorem bounds_holds : Rows.IntervalBoundsSaid :=
  OpenClaim.holds_of_wide 3 Tryz.f3 rfl rfl rfl rfl rfl rfl rfl ⟨rfl, rfl, rfl, rfl, rfl⟩ rfl rfl rfl rfl rfl (by kernel_rfl) Tryz.func3 (by kernel_rfl)
    (of_decide_eq_true (by kernel_rfl)) (by unfold Func.isWrapper; rw [if_neg (by decide +kernel)]; exact ⟨rfl, rfl⟩)
    (fun os started H enc _ => bounds_lifted os started H enc)
end Go.Proofs.YtcdgmcfkhkikbaaGreat
