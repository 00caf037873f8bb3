/- The law IntervalMonotone returns true for every input, and its arguments read afterwards as before. No condition. -/
import Derived.Test.YtcdgmcfkhkikbaaGreatLawC
import Derived.Test.YtcdgmcfkhkikbaaGreatForms
import Derived.Test.YtcdgmcfkhkikbaaGreatRows
import Derived.JoinedOf
namespace Go.Proofs.YtcdgmcfkhkikbaaGreat
open Go.Fid Go.RowKit Go.ChangeShapes Go.WideShapes
def tyP : Ty := .ar 4 5 (.cons 5 (.int .u8) (.cons 5 (.int .u8) (.cons 5 (.int .u8) (.cons 5 (.int .u8) .nil))))
theorem u8_nat {z : Int} (h : (Lit.int .u8 z).wf = true) : ∃ k : Nat, z = (k : Int) ∧ k < 256 := by
  simp [Lit.wf, IntKind.min, IntKind.max, IntKind.signed, IntKind.bits] at h
  exact ⟨z.toNat, by omega, by omega⟩
theorem sh_P {ds : List Dat} (h : Sh tyP ds) : ∃ k0 k1 k2 k3 : Nat, mkD tyP ds = encA48 (A4.mk k0 k1 k2 k3) ∧ k0 < 256 ∧ k1 < 256 ∧ k2 < 256 ∧ k3 < 256 := by
  obtain ⟨_, _, rfl, ⟨z0, rfl, w0⟩, _, _, rfl, ⟨z1, rfl, w1⟩, _, _, rfl, ⟨z2, rfl, w2⟩, _, d, rfl, ⟨z3, rfl, w3⟩, h3⟩ := h
  have h3 : d = [] := h3
  subst h3
  obtain ⟨k0, rfl, b0⟩ := u8_nat w0
  obtain ⟨k1, rfl, b1⟩ := u8_nat w1
  obtain ⟨k2, rfl, b2⟩ := u8_nat w2
  obtain ⟨k3, rfl, b3⟩ := u8_nat w3
  exact ⟨k0, k1, k2, k3, rfl, b0, b1, b2, b3⟩
theorem takes_mono (a b : RRng) (k0 k1 k2 k3 : Nat) (ha : LenG a) (hb : LenG b) (h0 : k0 < 256) (h1 : k1 < 256) (h2 : k2 < 256) (h3 : k3 < 256) : Takes Tryz.prog 5 [encG a, encG b, encA48 (A4.mk k0 k1 k2 k3)] (.val (.bool true)) := by
  rcases hs : List.all [a, b] shortG with _ | _
  · exact w_monoL a b (gok_len ha) (gok_len hb) k0 k1 k2 k3 hs
  · have g2 := hs
    simp only [List.all_cons, List.all_nil, Bool.and_true, Bool.and_eq_true] at g2
    rcases hv : List.all [a, b] validG with _ | _
    · exact w_monoV a b (gok_short g2.1) (gok_short g2.2) k0 k1 k2 k3 hs hv
    · simp only [List.all_cons, List.all_nil, Bool.and_true, Bool.and_eq_true] at hv
      obtain ⟨e1, l1⟩ := validG_form hv.1
      obtain ⟨e2, l2⟩ := validG_form hv.2
      generalize toQ a.lo = p at e1 l1
      generalize toQ a.hi = q at e1 l1
      generalize toQ b.lo = r at e2 l2
      generalize toQ b.hi = s at e2 l2
      subst e1
      subst e2
      obtain ⟨hp, hq⟩ := shortG_ql g2.1
      obtain ⟨hr, hs'⟩ := shortG_ql g2.2
      generalize ea1 : mnL (atQ p q k0) [atQ p q k0, atQ p q k1, atQ p q k1] = a1
      generalize ea2 : mxL (atQ p q k0) [atQ p q k0, atQ p q k1, atQ p q k1] = a2
      generalize eb1 : mnL (atQ r s k2) [atQ r s k2, atQ r s k3, atQ r s k3] = b1
      generalize eb2 : mxL (atQ r s k2) [atQ r s k2, atQ r s k3, atQ r s k3] = b2
      rcases hz : zeroG r s with _ | _
      · exact w_mono p q r s hp hq hr hs' l1 l2 hs k0 k1 k2 k3 h0 h1 h2 h3 a1 a2 b1 b2 ea1 ea2 eb1 eb2 hz
      · rcases hz2 : zeroG b1 b2 with _ | _
        · exact w_monoZ p q r s hp hq hr hs' l1 l2 hs k0 k1 k2 k3 h0 h1 h2 h3 a1 a2 b1 b2 ea1 ea2 eb1 eb2 hz hz2
        · exact w_monoY p q r s hp hq hr hs' l1 l2 hs k0 k1 k2 k3 h0 h1 h2 h3 a1 a2 b1 b2 ea1 ea2 eb1 eb2 hz hz2
theorem laidOut : laidOutB Tryz.prog = true := by kernel_rfl
set_option maxRecDepth 100000 in
theorem mono_lifted (os : Os) (started : os.Started) (H : Type) (enc : TypeId × Value → H) :
    ReturnsInHanded {} Tryz.checked os 5 .any (Rows.intervalMonotoneSpec.pre6 enc Tryz.prog Tryz.f5 Rows.intervalMonotoneRow.domain false) (Rows.intervalMonotoneSpec.post enc Tryz.prog Tryz.f5 false true false false) := by
  refine returnsInHanded_of_change_sized (C := Tryz.checked) (by kernel_rfl) started (by kernel_rfl) Tryz.func5
    (ChangeSpec.witness6 (enc := enc) (C := Tryz.checked) false ⟨#[], #[.agg #[.bool false, .slice none 0 0, .bool false, .slice none 0 0, .bool false, .slice none 0 0, .bool false, .slice none 0 0], .agg #[.bool false, .slice none 0 0, .bool false, .slice none 0 0, .bool false, .slice none 0 0, .bool false, .slice none 0 0], .agg #[.int .u8 0, .int .u8 0, .int .u8 0, .int .u8 0]], []⟩ 8 (by kernel_rfl) (by kernel_rfl) (by kernel_rfl) (by kernel_rfl)) ?_
  intro W base args ds gs before hval hW _ hwt _
  refine law_contract (tys := [tyG, tyG, tyP]) (B := 4) laidOut rfl (by kernel_rfl) (by kernel_rfl) (by kernel_rfl) (by kernel_rfl) ?_ ?_ W base args ds gs before hval hW hwt
  · intro ds hl
    have hl2 : ds.length = 3 := hl
    match ds, hl2 with
    | [d1, d2, d3], _ => exact ⟨rfl, rfl, rfl⟩
  · intro dss h
    cases h with
    | cons h1 r =>
      cases r with
      | cons h2 r =>
        cases r with
        | cons h3 r =>
          cases r with
          | nil =>
            obtain ⟨a, ea, la⟩ := sh_G h1
            obtain ⟨b, eb, lb⟩ := sh_G h2
            obtain ⟨k0, k1, k2, k3, ek, b0, b1, b2, b3⟩ := sh_P h3
            simp only [mkAll]
            rw [ea, eb, ek]
            exact takes_mono a b k0 k1 k2 k3 la lb b0 b1 b2 b3
theorem monotone_holds : Rows.IntervalMonotoneSaid :=
  OpenClaim.holds_of_wide 5 Tryz.f5 rfl rfl rfl rfl rfl rfl rfl ⟨rfl, rfl, rfl, rfl, rfl⟩ rfl rfl rfl rfl rfl (by kernel_rfl) Tryz.func5 (by kernel_rfl)
    (of_decide_eq_true (by kernel_rfl)) (by unfold Func.isWrapper; rw [if_neg (by decide +kernel)]; exact ⟨rfl, rfl⟩)
    (fun os started H enc _ => mono_lifted os started H enc)
end Go.Proofs.YtcdgmcfkhkikbaaGreat
