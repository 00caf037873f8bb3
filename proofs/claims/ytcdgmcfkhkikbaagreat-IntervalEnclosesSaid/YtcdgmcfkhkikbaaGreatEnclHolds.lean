/- The law IntervalEncloses returns true for every input, and its arguments read afterwards as before. No condition. -/
import Derived.Test.YtcdgmcfkhkikbaaGreatLawB
import Derived.Test.YtcdgmcfkhkikbaaGreatForms
import Derived.Test.YtcdgmcfkhkikbaaGreatRows
import Derived.JoinedOf
namespace Go.Proofs.YtcdgmcfkhkikbaaGreat
open Go.Fid Go.RowKit Go.ChangeShapes Go.WideShapes
def tyP : Ty := .ar 2 5 (.cons 5 (.int .u8) (.cons 5 (.int .u8) .nil))
theorem u8_nat {z : Int} (h : (Lit.int .u8 z).wf = true) : ∃ k : Nat, z = (k : Int) ∧ k < 256 := by
  simp [Lit.wf, IntKind.min, IntKind.max, IntKind.signed, IntKind.bits] at h
  exact ⟨z.toNat, by omega, by omega⟩
theorem sh_P {ds : List Dat} (h : Sh tyP ds) : ∃ k0 k1 : Nat, mkD tyP ds = encA52 (A2.mk k0 k1) ∧ k0 < 256 ∧ k1 < 256 := by
  obtain ⟨a, b, rfl, ⟨z0, rfl, w0⟩, c, d, rfl, ⟨z1, rfl, w1⟩, h3⟩ := h
  have h3 : d = [] := h3
  subst h3
  obtain ⟨k0, rfl, b0⟩ := u8_nat w0
  obtain ⟨k1, rfl, b1⟩ := u8_nat w1
  exact ⟨k0, k1, rfl, b0, b1⟩
theorem takes_encl (a b : RRng) (k0 k1 : Nat) (ha : LenG a) (hb : LenG b) (h0 : k0 < 256) (h1 : k1 < 256) : Takes Tryz.prog 6 [encG a, encG b, encA52 (A2.mk k0 k1)] (.val (.bool true)) := by
  rcases hs : List.all [a, b] shortG with _ | _
  · exact w_enclL a b (gok_len ha) (gok_len hb) k0 k1 hs
  · have h2 := hs
    simp only [List.all_cons, List.all_nil, Bool.and_true, Bool.and_eq_true] at h2
    rcases hv : List.all [a, b] validG with _ | _
    · exact w_enclV a b (gok_short h2.1) (gok_short h2.2) k0 k1 hs hv
    · simp only [List.all_cons, List.all_nil, Bool.and_true, Bool.and_eq_true] at hv
      obtain ⟨e1, l1⟩ := validG_form hv.1
      obtain ⟨e2, l2⟩ := validG_form hv.2
      generalize toQ a.lo = p at e1 l1
      generalize toQ a.hi = q at e1 l1
      generalize toQ b.lo = r at e2 l2
      generalize toQ b.hi = s at e2 l2
      subst e1
      subst e2
      obtain ⟨hp, hq⟩ := shortG_ql h2.1
      obtain ⟨hr, hs'⟩ := shortG_ql h2.2
      rcases hz : zeroG r s with _ | _
      · exact w_encl p q r s hp hq hr hs' l1 l2 hs k0 k1 h0 h1 hz
      · exact w_enclZ p q r s hp hq hr hs' l1 l2 hs k0 k1 h0 h1 hz
theorem laidOut : laidOutB Tryz.prog = true := by kernel_rfl
set_option maxRecDepth 100000 in
theorem encl_lifted (os : Os) (started : os.Started) (H : Type) (enc : TypeId × Value → H) :
    ReturnsInHanded {} Tryz.checked os 6 .any (Rows.intervalEnclosesSpec.pre6 enc Tryz.prog Tryz.f6 Rows.intervalEnclosesRow.domain false) (Rows.intervalEnclosesSpec.post enc Tryz.prog Tryz.f6 false true false false) := by
  refine returnsInHanded_of_change_sized (C := Tryz.checked) (by kernel_rfl) started (by kernel_rfl) Tryz.func6
    (ChangeSpec.witness6 (enc := enc) (C := Tryz.checked) false ⟨#[], #[.agg #[.bool false, .slice none 0 0, .bool false, .slice none 0 0, .bool false, .slice none 0 0, .bool false, .slice none 0 0], .agg #[.bool false, .slice none 0 0, .bool false, .slice none 0 0, .bool false, .slice none 0 0, .bool false, .slice none 0 0], .agg #[.int .u8 0, .int .u8 0]], []⟩ 8 (by kernel_rfl) (by kernel_rfl) (by kernel_rfl) (by kernel_rfl)) ?_
  intro W base args ds gs before hval hW _ hwt _
  refine law_contract (tys := [tyG, tyG, tyP]) (B := 4) laidOut rfl (by kernel_rfl) (by kernel_rfl) (by kernel_rfl) (by kernel_rfl) ?_ ?_ W base args ds gs before hval hW hwt
  · intro ds hl
    have hl2 : ds.length = 3 := hl
    match ds, hl2 with
    | [d1, d2, d3], _ => exact ⟨rfl, rfl, rfl⟩
  · intro dss h
    cases h with
    | cons h1 r =>
      cases r with
      | cons h2 r =>
        cases r with
        | cons h3 r =>
          cases r with
          | nil =>
            obtain ⟨a, ea, la⟩ := sh_G h1
            obtain ⟨b, eb, lb⟩ := sh_G h2
            obtain ⟨k0, k1, ek, b0, b1⟩ := sh_P h3
            simp only [mkAll]
            rw [ea, eb, ek]
            exact takes_encl a b k0 k1 la lb b0 b1
theorem encloses_holds : Rows.IntervalEnclosesSaid :=
  OpenClaim.holds_of_wide 6 Tryz.f6 rfl rfl rfl rfl rfl rfl rfl ⟨rfl, rfl, rfl, rfl, rfl⟩ rfl rfl rfl rfl rfl (by kernel_rfl) Tryz.func6 (by kernel_rfl)
    (of_decide_eq_true (by kernel_rfl)) (by unfold Func.isWrapper; rw [if_neg (by decide +kernel)]; exact ⟨rfl, rfl⟩)
    (fun os started H enc _ => encl_lifted os started H enc)
end Go.Proofs.YtcdgmcfkhkikbaaGreat
