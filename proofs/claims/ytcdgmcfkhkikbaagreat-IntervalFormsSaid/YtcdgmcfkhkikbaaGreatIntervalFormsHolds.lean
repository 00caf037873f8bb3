/- The law IntervalForms returns true for every input, and its arguments read afterwards as before. No condition. -/
import Derived.Test.YtcdgmcfkhkikbaaGreatLawH
import Derived.Test.YtcdgmcfkhkikbaaGreatForms
import Derived.Test.YtcdgmcfkhkikbaaGreatRows
import Derived.JoinedOf
namespace Go.Proofs.YtcdgmcfkhkikbaaGreat
open Go.Fid Go.RowKit Go.ChangeShapes Go.WideShapes
theorem takes_law (a b : RRng) (x : RRat) (ha : LenG a) (hb : LenG b) (hx : LenR x) : Takes Tryz.prog 4 [encG a, encG b, encR x] (.val (.bool true)) := by
  have qx : QOk x (toQ x) 140737488355328 := qok_raw (by decide) hx.1 hx.2
  rcases hs : List.all [a, b] shortG with _ | _
  · exact w_frmL a b x (toQ x) (gok_len ha) (gok_len hb) qx hs
  rcases hbr : List.all [x] briefR with _ | _
  · exact w_frmB a b x (toQ x) (gok_len ha) (gok_len hb) qx hs hbr
  have h2 := hs
  simp only [List.all_cons, List.all_nil, Bool.and_true, Bool.and_eq_true] at h2
  have h3 : digR x ≤ 16 := by
    rw [List.all_cons, List.all_nil, Bool.and_true] at hbr
    exact of_decide_eq_true hbr
  unfold digR at h3
  have qx : QOk x (toQ x) 16 := qok_raw (by decide) (by omega) (by omega)
  have ka := gok_short h2.1
  have kb := gok_short h2.2
  rcases hv : validR x with _ | _
  · exact w_frmI a b x (toQ x) ka kb qx hs hbr hv
  rcases hw : validR a.hi with _ | _
  · exact w_frmV a b x (toQ x) ka kb qx hs hbr hv hw (by unfold validG; rw [hw, Bool.false_and, Bool.and_false])
  by_cases hc : toQ a.hi < toQ x
  · exact w_frmR a b x (toQ x) ka kb qx hs hbr hv hw hc
  · exact w_frmO a b x (toQ x) ka kb qx hs hbr hv hw (Rat.not_lt.1 hc)
theorem laidOut : laidOutB Tryz.prog = true := by kernel_rfl
set_option maxRecDepth 100000 in
theorem law_lifted (os : Os) (started : os.Started) (H : Type) (enc : TypeId × Value → H) :
    ReturnsInHanded {} Tryz.checked os 4 .any (Rows.intervalFormsSpec.pre6 enc Tryz.prog Tryz.f4 Rows.intervalFormsRow.domain false) (Rows.intervalFormsSpec.post enc Tryz.prog Tryz.f4 false true false false) := by
  refine returnsInHanded_of_change_sized (C := Tryz.checked) (by kernel_rfl) started (by kernel_rfl) Tryz.func4
    (ChangeSpec.witness6 (enc := enc) (C := Tryz.checked) false ⟨#[], #[.agg #[.bool false, .slice none 0 0, .bool false, .slice none 0 0, .bool false, .slice none 0 0, .bool false, .slice none 0 0], .agg #[.bool false, .slice none 0 0, .bool false, .slice none 0 0, .bool false, .slice none 0 0, .bool false, .slice none 0 0], .agg #[.bool false, .slice none 0 0, .bool false, .slice none 0 0]], []⟩ 8 (by kernel_rfl) (by kernel_rfl) (by kernel_rfl) (by kernel_rfl)) ?_
  intro W base args ds gs before hval hW _ hwt _
  refine law_contract (tys := [tyG, tyG, tyR]) (B := 4) laidOut rfl (by kernel_rfl) (by kernel_rfl) (by kernel_rfl) (by kernel_rfl) ?_ ?_ W base args ds gs before hval hW hwt
  · intro ds hl
    have hl2 : ds.length = 3 := hl
    match ds, hl2 with
    | [d1, d2, d3], _ => exact ⟨rfl, rfl, rfl⟩
  · intro dss h
    cases h with
    | cons h1 r =>
      cases r with
      | cons h2 r =>
        cases r with
        | cons h3 r =>
          cases r with
          | nil =>
            obtain ⟨a, e1, la⟩ := sh_G h1
            obtain ⟨b, e2, lb⟩ := sh_G h2
            obtain ⟨x, e3, lx⟩ := sh_Q h3
            simp only [mkAll]
            rw [e1, e2, e3]
            exact takes_law a b x la lb lx
theorem law_holds : Rows.IntervalFormsSaid :=
  OpenClaim.holds_of_wide 4 Tryz.f4 rfl rfl rfl rfl rfl rfl rfl ⟨rfl, rfl, rfl, rfl, rfl⟩ rfl rfl rfl rfl rfl (by kernel_rfl) Tryz.func4 (by kernel_rfl)
    (of_decide_eq_true (by kernel_rfl)) (by unfold Func.isWrapper; rw [if_neg (by decide +kernel)]; exact ⟨rfl, rfl⟩)
    (fun os started H enc _ => law_lifted os started H enc)
end Go.Proofs.YtcdgmcfkhkikbaaGreat
