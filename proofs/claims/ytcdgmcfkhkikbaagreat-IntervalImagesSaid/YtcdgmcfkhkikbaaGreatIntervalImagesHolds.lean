/- The law IntervalImages returns true for every input, and its arguments read afterwards as before. No condition. -/
import Derived.Test.YtcdgmcfkhkikbaaGreatLawF
import Derived.Test.YtcdgmcfkhkikbaaGreatForms
import Derived.Test.YtcdgmcfkhkikbaaGreatRows
import Derived.JoinedOf
namespace Go.Proofs.YtcdgmcfkhkikbaaGreat
open Go.Fid Go.RowKit Go.ChangeShapes Go.WideShapes
theorem takes_law (a b : RRng) (ha : LenG a) (hb : LenG b) : Takes Tryz.prog 8 [encG a, encG b] (.val (.bool true)) := by
  rcases hs : List.all [a, b] shortG with _ | _
  · exact w_imgL a b (gok_len ha) (gok_len hb) hs
  · have h2 := hs
    simp only [List.all_cons, List.all_nil, Bool.and_true, Bool.and_eq_true] at h2
    rcases hva : validG a with _ | _
    · exact w_imgA a b (gok_short h2.1) (gok_short h2.2) hs hva (by simp [hva]) (by simp [hva])
    · obtain ⟨e1, l1⟩ := validG_form hva
      generalize toQ a.lo = p at e1 l1
      generalize toQ a.hi = q at e1 l1
      subst e1
      obtain ⟨hp, hq⟩ := shortG_ql h2.1
      rcases hvb : validG b with _ | _
      · exact w_imgB p q b hp hq l1 (gok_short h2.2) hs (by simp [hvb])
      · obtain ⟨e2, l2⟩ := validG_form hvb
        generalize toQ b.lo = r at e2 l2
        generalize toQ b.hi = s at e2 l2
        subst e2
        obtain ⟨hr, hs'⟩ := shortG_ql h2.2
        rcases hz : zeroG r s with _ | _
        · exact w_img p q r s hp hq hr hs' l1 l2 hs hz
        · exact w_imgZ p q r s hp hq hr hs' l1 l2 hs hz
theorem laidOut : laidOutB Tryz.prog = true := by kernel_rfl
set_option maxRecDepth 100000 in
theorem law_lifted (os : Os) (started : os.Started) (H : Type) (enc : TypeId × Value → H) :
    ReturnsInHanded {} Tryz.checked os 8 .any (Rows.intervalImagesSpec.pre6 enc Tryz.prog Tryz.f8 Rows.intervalImagesRow.domain false) (Rows.intervalImagesSpec.post enc Tryz.prog Tryz.f8 false true false false) := by
  refine returnsInHanded_of_change_sized (C := Tryz.checked) (by kernel_rfl) started (by kernel_rfl) Tryz.func8
    (ChangeSpec.witness6 (enc := enc) (C := Tryz.checked) false ⟨#[], #[.agg #[.bool false, .slice none 0 0, .bool false, .slice none 0 0, .bool false, .slice none 0 0, .bool false, .slice none 0 0], .agg #[.bool false, .slice none 0 0, .bool false, .slice none 0 0, .bool false, .slice none 0 0, .bool false, .slice none 0 0]], []⟩ 8 (by kernel_rfl) (by kernel_rfl) (by kernel_rfl) (by kernel_rfl)) ?_
  intro W base args ds gs before hval hW _ hwt _
  refine law_contract (tys := [tyG, tyG]) (B := 4) laidOut rfl (by kernel_rfl) (by kernel_rfl) (by kernel_rfl) (by kernel_rfl) ?_ ?_ W base args ds gs before hval hW hwt
  · intro ds hl
    have hl2 : ds.length = 2 := hl
    match ds, hl2 with
    | [d1, d2], _ => exact ⟨rfl, rfl, rfl⟩
  · intro dss h
    cases h with
    | cons h1 r =>
      cases r with
      | cons h2 r =>
        cases r with
        | nil =>
          obtain ⟨a, e1, la⟩ := sh_G h1
          obtain ⟨b, e2, lb⟩ := sh_G h2
          simp only [mkAll]
          rw [e1, e2]
          exact takes_law a b la lb
theorem law_holds : Rows.IntervalImagesSaid :=
  OpenClaim.holds_of_wide 8 Tryz.f8 rfl rfl rfl rfl rfl rfl rfl ⟨rfl, rfl, rfl, rfl, rfl⟩ rfl rfl rfl rfl rfl (by kernel_rfl) Tryz.func8 (by kernel_rfl)
    (of_decide_eq_true (by kernel_rfl)) (by unfold Func.isWrapper; rw [if_neg (by decide +kernel)]; exact ⟨rfl, rfl⟩)
    (fun os started H enc _ => law_lifted os started H enc)
end Go.Proofs.YtcdgmcfkhkikbaaGreat
