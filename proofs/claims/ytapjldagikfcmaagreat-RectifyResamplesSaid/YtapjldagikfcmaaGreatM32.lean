/- Part 32 of a proof: rules, plain facts, and functions walked. -/
import Derived.Test.YtapjldagikfcmaaGreatM31
import Derived.Test.YtapjldagikfcmaaGreatM30
set_option linter.unusedVariables false
set_option linter.unusedSimpArgs false
namespace Go.Fid
theorem digR_ok {x : jZ} (h : ¬ ((8 : Nat) : Int) < (((digR x) : Nat) : Int)) : fW x (toQ x) 8 := by
  unfold digR at h
  exact qok_raw (by decide) (by omega) (by omega)
theorem valid_ex {x : jZ} {n : Nat} (h : vW x = true) (h2 : fW x (toQ x) n) : ∃ q : Rat, x = jD q ∧ QL q n := ⟨toQ x, (ofQ_toQ h).symm, h2.ql⟩
def IsZ (q : Rat) : Prop := ∃ z : Int, q = (z : Rat)
theorem IsZ.of (z : Int) : IsZ (z : Rat) := ⟨z, rfl⟩
theorem IsZ.mul {p q : Rat} (h : IsZ p) (h2 : IsZ q) : IsZ (p * q) := by
  obtain ⟨a, rfl⟩ := h; obtain ⟨b, rfl⟩ := h2; exact ⟨a * b, (Rat.intCast_mul a b).symm⟩
theorem IsZ.add {p q : Rat} (h : IsZ p) (h2 : IsZ q) : IsZ (p + q) := by
  obtain ⟨a, rfl⟩ := h; obtain ⟨b, rfl⟩ := h2; exact ⟨a + b, (Rat.intCast_add a b).symm⟩
theorem IsZ.sub {p q : Rat} (h : IsZ p) (h2 : IsZ q) : IsZ (p - q) := by
  obtain ⟨a, rfl⟩ := h; obtain ⟨b, rfl⟩ := h2; exact ⟨a - b, (Rat.intCast_sub a b).symm⟩
section
variable {lx ly lz la lb lc ld rx ry rz ra rb rc rd : Int} {b0 b1 b2 e00 e01 e02 e10 e11 e12 e20 e21 e22 : Rat}
end
end Go.Fid
set_option linter.unusedVariables false
set_option linter.unusedSimpArgs false
namespace Go.Fid
section
variable {lx ly lz la lb lc ld rx ry rz ra rb rc rd : Int} {b0 b1 b2 e00 e01 e02 e10 e11 e12 e20 e21 e22 : Rat}
end
end Go.Fid
set_option linter.unusedVariables false
set_option linter.unusedSimpArgs false
namespace Go.Fid
def yO (z : Int) : Bool := decide (-9223372036854775808 ≤ z) && decide (z ≤ 9223372036854775807)
def uM (z : Int) : Int := if yO z = true then z else 0
theorem fits64_t {z : Int} (h1 : -9223372036854775808 ≤ z) (h2 : z ≤ 9223372036854775807) : yO z = true := by simp [yO, h1, h2]
theorem fits64_f {z : Int} (h : 9223372036854775808 < z.natAbs) : yO z = false := by
  unfold yO
  by_cases h1 : -9223372036854775808 ≤ z
  · have : ¬ z ≤ 9223372036854775807 := by omega
    simp [this]
  · simp [h1]
theorem bD {z : Int} (h : yO z = true) : uM z = z := if_pos h
theorem smallI_f {z : Int} (h : yO z = false) : uM z = 0 := by unfold uM; rw [h]; rfl
theorem gz_eq (z : Int) : kM (kN z) = ofNat z.natAbs := by unfold kM; rw [validI_ofZ, if_pos rfl]; rfl
theorem gz_dig (z : Int) : Dig (kM (kN z)) := by rw [gz_eq]; exact kW _
theorem gz_val (z : Int) : val (kM (kN z)) = z.natAbs := by rw [gz_eq]; exact kS _
theorem gz_long {z : Int} (h : 3 < (kM (kN z)).length) : 9223372036854775808 < z.natAbs := by
  rw [gz_eq] at h
  by_cases hh : z.natAbs < pw 3
  · have := vF hh; omega
  · have : pw 3 = 1000000000000000000000000000 := by simp [pw]
    omega
theorem gz_neg (z : Int) : (kN z).neg = decide (z < 0) := by
  show (decide (z < 0) && z.natAbs != 0) = decide (z < 0)
  by_cases h : z < 0
  · have : z.natAbs ≠ 0 := by omega
    simp [h, this]
  · simp [h]
theorem gz_lenp {z : Int} (h : z ≠ 0) : 0 < (kM (kN z)).length := by
  rw [gz_eq]; exact cE (by omega)
theorem val_drop_le (l : List Nat) (k : Nat) : val (l.drop k) ≤ val l := by
  induction l generalizing k with
  | nil => simp
  | cons d l ih =>
    cases k with
    | zero => simp
    | succ k =>
      rw [List.drop_succ_cons]
      have := ih k
      show _ ≤ d + 1000000000 * val l
      omega
theorem gz_step {z : Int} {j n : Nat} (hj : j < (kM (kN z)).length) (hn : n = val ((kM (kN z)).drop ((kM (kN z)).length - j))) :
    n * 1000000000 + (kM (kN z)).getD ((kM (kN z)).length - 1 - j) 0 = val ((kM (kN z)).drop ((kM (kN z)).length - (j + 1))) := by
  rw [aA _ j hj, ← hn]; omega
theorem gz_over {z : Int} {j n : Nat} (hj : j < (kM (kN z)).length) (hn : n = val ((kM (kN z)).drop ((kM (kN z)).length - j)))
    (h : (9223372036854775808 - (kM (kN z)).getD ((kM (kN z)).length - 1 - j) 0) / 1000000000 < n) : 9223372036854775808 < z.natAbs := by
  have e := gz_step hj hn
  have h2 := val_drop_le (kM (kN z)) ((kM (kN z)).length - (j + 1))
  have hd := (gz_dig z).getD ((kM (kN z)).length - 1 - j)
  rw [gz_val, ← e] at h2
  omega
theorem gz_room {z : Int} {j n : Nat} (h : ¬ (9223372036854775808 - (kM (kN z)).getD ((kM (kN z)).length - 1 - j) 0) / 1000000000 < n) :
    n * 1000000000 + (kM (kN z)).getD ((kM (kN z)).length - 1 - j) 0 ≤ 9223372036854775808 := by
  have hd := (gz_dig z).getD ((kM (kN z)).length - 1 - j)
  omega
theorem gz_end {z : Int} {n : Nat} (hn : n = val ((kM (kN z)).drop ((kM (kN z)).length - (kM (kN z)).length))) : n = z.natAbs := by
  rw [Nat.sub_self, List.drop_zero, gz_val] at hn; exact hn
theorem sm_n {z : Int} {n : Nat} (hn : n = z.natAbs) (hb : n ≤ 9223372036854775808) (h : z < 0) : uM z = -((n : Nat) : Int) ∧ yO z = true := by
  have hf : yO z = true := fits64_t (by omega) (by omega)
  exact ⟨by rw [bD hf]; omega, hf⟩
theorem sm_p {z : Int} {n : Nat} (hn : n = z.natAbs) (hb : n < 9223372036854775808) (h : ¬ z < 0) : uM z = ((n : Nat) : Int) ∧ yO z = true := by
  have hf : yO z = true := fits64_t (by omega) (by omega)
  exact ⟨by rw [bD hf]; omega, hf⟩
theorem sm_x {z : Int} (hb : z = 9223372036854775808) : uM z = 0 ∧ yO z = false := by subst hb; decide
theorem sm_neg {z : Int} (h : (decide (0 < (((kM (kN z)).length : Nat) : Int)) && (kN z).neg) = true) : z < 0 := by
  rw [gz_neg, Bool.and_eq_true] at h; exact of_decide_eq_true h.2
theorem sm_pos {z : Int} (h : (decide (0 < (((kM (kN z)).length : Nat) : Int)) && (kN z).neg) = false) : ¬ z < 0 := by
  intro hz
  have := gz_lenp (z := z) (by omega)
  rw [gz_neg, decide_eq_true hz, decide_eq_true (show (0 : Int) < (((kM (kN z)).length : Nat) : Int) by omega)] at h
  cases h
theorem negu64 {n : Nat} (h : n ≤ 9223372036854775808) : IntKind.u64.wrap (0 - ((n : Nat) : Int)) = (((18446744073709551616 - n) % 18446744073709551616 : Nat) : Int) := by
  have : IntKind.u64.wrap (0 - ((n : Nat) : Int)) = (0 - ((n : Nat) : Int)) % 18446744073709551616 := by
    simp [IntKind.wrap, IntKind.bits, IntKind.signed]
  rw [this]; omega
theorem negi64 {n : Nat} (h : n ≤ 9223372036854775808) : IntKind.i64.wrap (((18446744073709551616 - n) % 18446744073709551616 : Nat) : Int) = -((n : Nat) : Int) := by
  simp [IntKind.wrap, IntKind.bits, IntKind.signed]
  split <;> omega
def gU (x : Rat) : Int := x.num.fdiv ((x.den : Nat) : Int)
theorem iok_fl {x : Rat} {n k : Nat} (h : QL x n) (hk : n + 1 ≤ k) : nO (kN (gU x)) (gU x) k := dN (Nat.le_trans (lenZ_fdiv _ _) (Nat.le_trans (Nat.succ_le_succ h.1) hk))
theorem flQ_floor (x : Rat) : gU x = x.floor := by
  unfold gU; rw [Rat.floor_def, Int.fdiv_eq_ediv_of_nonneg _ (by omega)]
theorem r64 : (0 : Rat) < ((64 : Int) : Rat) := by decide
theorem fl_le {x : Rat} {i : Int} : i ≤ gU (x / ((64 : Int) : Rat)) ↔ ((64 * i : Int) : Rat) ≤ x := by
  rw [flQ_floor, Rat.le_floor_iff, ← Rat.not_lt, Rat.div_lt_iff r64, Rat.not_lt, Rat.intCast_mul, Rat.mul_comm]
theorem fl_lt {x : Rat} {i : Int} : gU (x / ((64 : Int) : Rat)) < i ↔ x < ((64 * i : Int) : Rat) := by
  rw [flQ_floor, Rat.floor_lt_iff, Rat.div_lt_iff r64, Rat.intCast_mul, Rat.mul_comm]
theorem fl_eq {x : Rat} {i : Int} : gU (x / ((64 : Int) : Rat)) = i ↔ ((64 * i : Int) : Rat) ≤ x ∧ x < ((64 * i + 64 : Int) : Rat) := by
  rw [show (64 * i + 64 : Int) = 64 * (i + 1) by omega, ← fl_le, ← fl_lt]; omega
def cellF (a n : Int) : Int := bif decide (0 ≤ a) && decide (a < n) then a else -1
def xS (x : Rat) (n : Int) : Int := cellF (gU (x / ((64 : Int) : Rat))) n
theorem cellF_of {a n : Int} (h1 : 0 ≤ a) (h2 : a < n) : cellF a n = a := by unfold cellF; simp [h1, h2]
theorem cellF_no {a n : Int} (h : ¬ (0 ≤ a ∧ a < n)) : cellF a n = -1 := by
  unfold cellF
  by_cases h1 : 0 ≤ a
  · have h2 : ¬ a < n := fun h2 => h ⟨h1, h2⟩
    simp [h2]
  · simp [h1]
theorem cellF_in {a n : Int} (h : ¬ cellF a n < 0) : cellF a n = a ∧ 0 ≤ a ∧ a < n := by
  by_cases hh : 0 ≤ a ∧ a < n
  · exact ⟨cellF_of hh.1 hh.2, hh⟩
  · rw [cellF_no hh] at h; exact absurd (by decide) h
theorem cmpQ_ge {a b : Rat} : 0 ≤ bE a b ↔ b ≤ a := by
  unfold bE
  by_cases h : a < b
  · rw [if_pos h]; exact ⟨fun hh => absurd hh (by decide), fun hh => absurd h (Rat.not_lt.2 hh)⟩
  · rw [if_neg h]; refine ⟨fun _ => Rat.not_lt.1 h, fun _ => ?_⟩; split <;> decide
theorem cmpQ_lt0 {a b : Rat} : bE a b < 0 ↔ a < b := by
  unfold bE
  by_cases h : a < b
  · rw [if_pos h]; exact ⟨fun _ => h, fun _ => by decide⟩
  · rw [if_neg h]; refine ⟨fun hh => ?_, fun hh => absurd hh h⟩
    by_cases h2 : b < a
    · rw [if_pos h2] at hh; exact absurd hh (by decide)
    · rw [if_neg h2] at hh; exact absurd hh (by decide)
theorem cell_at {x : Rat} {n i : Nat} (hi : i < n) (h : (decide (0 ≤ bE x ((64 * ((i : Nat) : Int) : Int) : Rat)) && decide (bE x ((64 * ((i : Nat) : Int) + 64 : Int) : Rat) < 0)) = true) : xS x ((n : Nat) : Int) = ((i : Nat) : Int) := by
  rw [Bool.and_eq_true] at h
  have e := fl_eq.2 ⟨cmpQ_ge.1 (of_decide_eq_true h.1), cmpQ_lt0.1 (of_decide_eq_true h.2)⟩
  unfold xS; rw [e]
  exact cellF_of (by omega) (by omega)
theorem cell_step {x : Rat} {i : Nat} (hv : ∀ k : Nat, k < i → gU (x / ((64 : Int) : Rat)) ≠ ((k : Nat) : Int)) (h : (decide (0 ≤ bE x ((64 * ((i : Nat) : Int) : Int) : Rat)) && decide (bE x ((64 * ((i : Nat) : Int) + 64 : Int) : Rat) < 0)) = false) : ∀ k : Nat, k < i + 1 → gU (x / ((64 : Int) : Rat)) ≠ ((k : Nat) : Int) := by
  intro k hk e
  by_cases hh : k < i
  · exact hv k hh e
  · have : k = i := by omega
    subst this
    have h2 := fl_eq.1 e
    rw [← cmpQ_ge, ← cmpQ_lt0] at h2
    rw [decide_eq_true h2.1, decide_eq_true h2.2] at h
    cases h
theorem cell_end {x : Rat} {n : Nat} (hv : ∀ k : Nat, k < n → gU (x / ((64 : Int) : Rat)) ≠ ((k : Nat) : Int)) : xS x ((n : Nat) : Int) = -1 := by
  unfold xS
  revert hv
  generalize gU (x / ((64 : Int) : Rat)) = a
  intro hv
  refine cellF_no fun h => ?_
  exact absurd (show a = ((a.toNat : Nat) : Int) by omega) (hv _ (by omega))
def pxF (w h : Nat) (px : List Int) (a b : Int) : Int :=
  bif decide (a < 0) || decide (b < 0) then -1 else px.getD (b * ((w : Nat) : Int) + a).toNat 0
def pxAt (w h : Nat) (px : List Int) (x y : Rat) : Int := pxF w h px (xS x ((w : Nat) : Int)) (xS y ((h : Nat) : Int))
theorem cell_in {x : Rat} {n : Nat} (h : ¬ xS x ((n : Nat) : Int) < 0) : xS x ((n : Nat) : Int) = gU (x / ((64 : Int) : Rat)) ∧ 0 ≤ gU (x / ((64 : Int) : Rat)) ∧ gU (x / ((64 : Int) : Rat)) < ((n : Nat) : Int) := cellF_in h
theorem cell_of {x : Rat} {n : Nat} (h1 : 0 ≤ gU (x / ((64 : Int) : Rat))) (h2 : gU (x / ((64 : Int) : Rat)) < ((n : Nat) : Int)) : xS x ((n : Nat) : Int) = gU (x / ((64 : Int) : Rat)) := cellF_of h1 h2
theorem cell_bd (x : Rat) {n : Nat} (hn : 0 < n) : xS x ((n : Nat) : Int) < ((n : Nat) : Int) := by
  by_cases h : xS x ((n : Nat) : Int) < 0
  · omega
  · have := cell_in h; omega
theorem ix_bd {a b : Int} {w h : Nat} {px : List Int} (hv : RstOk w h px) (a0 : 0 ≤ a) (aw : a < ((w : Nat) : Int)) (b0 : 0 ≤ b) (bh : b < ((h : Nat) : Int)) :
    0 ≤ b * ((w : Nat) : Int) ∧ b * ((w : Nat) : Int) ≤ 4096 ∧ b * ((w : Nat) : Int) + a = (((b * ((w : Nat) : Int) + a).toNat : Nat) : Int) ∧ (b * ((w : Nat) : Int) + a).toNat < px.length ∧ (b * ((w : Nat) : Int) + a).toNat ≤ 4096 := by
  obtain ⟨v1, v2, v3, v4, v5, v6⟩ := hv
  obtain ⟨b, rfl⟩ := Int.eq_ofNat_of_zero_le b0
  have hb : b + 1 ≤ h := by omega
  have h1 := Nat.mul_le_mul_right w hb
  have h2 : h * w ≤ 64 * 64 := Nat.mul_le_mul v4 v2
  rw [Nat.add_mul, Nat.one_mul] at h1
  have h3 : ((b : Nat) : Int) * ((w : Nat) : Int) = ((b * w : Nat) : Int) := by simp
  have h4 : px.length = h * w := by rw [v5, Nat.mul_comm]
  rw [h3]; omega
def rsC (w h : Nat) (x y : Rat) : Bool :=
  (((((yO (gU (x / ((64 : Int) : Rat))) && yO (gU (y / ((64 : Int) : Rat)))) && decide (0 ≤ uM (gU (x / ((64 : Int) : Rat))))) && decide (uM (gU (x / ((64 : Int) : Rat))) < ((w : Nat) : Int))) && decide (0 ≤ uM (gU (y / ((64 : Int) : Rat))))) && decide (uM (gU (y / ((64 : Int) : Rat))) < ((h : Nat) : Int)))
theorem rs_in {w h : Nat} {px : List Int} {x y : Rat} (hv : RstOk w h px) (hc : rsC w h x y = true) :
    (0 ≤ uM (gU (y / ((64 : Int) : Rat))) * ((w : Nat) : Int) ∧ uM (gU (y / ((64 : Int) : Rat))) * ((w : Nat) : Int) ≤ 4096 ∧ uM (gU (y / ((64 : Int) : Rat))) * ((w : Nat) : Int) + uM (gU (x / ((64 : Int) : Rat))) = (((uM (gU (y / ((64 : Int) : Rat))) * ((w : Nat) : Int) + uM (gU (x / ((64 : Int) : Rat)))).toNat : Nat) : Int) ∧ (uM (gU (y / ((64 : Int) : Rat))) * ((w : Nat) : Int) + uM (gU (x / ((64 : Int) : Rat)))).toNat < px.length ∧ (uM (gU (y / ((64 : Int) : Rat))) * ((w : Nat) : Int) + uM (gU (x / ((64 : Int) : Rat)))).toNat ≤ 4096) ∧
      px.getD (uM (gU (y / ((64 : Int) : Rat))) * ((w : Nat) : Int) + uM (gU (x / ((64 : Int) : Rat)))).toNat 0 = pxAt w h px x y := by
  unfold rsC at hc
  simp only [Bool.and_eq_true, decide_eq_true_eq] at hc
  obtain ⟨⟨⟨⟨⟨f1, f2⟩, a0⟩, aw⟩, b0⟩, bh⟩ := hc
  refine ⟨ix_bd hv a0 aw b0 bh, ?_⟩
  rw [bD f1] at a0 aw ⊢
  rw [bD f2] at b0 bh ⊢
  unfold pxAt pxF
  rw [cell_of a0 aw, cell_of b0 bh, decide_eq_false (show ¬ gU (x / ((64 : Int) : Rat)) < 0 by omega), decide_eq_false (show ¬ gU (y / ((64 : Int) : Rat)) < 0 by omega)]
  rfl
theorem rs_out {w h : Nat} {px : List Int} {x y : Rat} (hv : RstOk w h px) (hc : rsC w h x y = false) : -1 = pxAt w h px x y := by
  unfold pxAt pxF
  by_cases h1 : xS x ((w : Nat) : Int) < 0
  · rw [decide_eq_true h1]; rfl
  · by_cases h2 : xS y ((h : Nat) : Int) < 0
    · rw [decide_eq_true h2, Bool.or_true]; rfl
    · exfalso
      obtain ⟨v1, v2, v3, v4, v5, v6⟩ := hv
      obtain ⟨-, a0, aw⟩ := cell_in h1
      obtain ⟨-, b0, bh⟩ := cell_in h2
      have f1 := fits64_t (z := gU (x / ((64 : Int) : Rat))) (by omega) (by omega)
      have f2 := fits64_t (z := gU (y / ((64 : Int) : Rat))) (by omega) (by omega)
      have e1 := bD f1
      have e2 := bD f2
      have : rsC w h x y = true := by
        unfold rsC
        simp only [Bool.and_eq_true, decide_eq_true_eq]
        exact ⟨⟨⟨⟨⟨f1, f2⟩, by omega⟩, by omega⟩, by omega⟩, by omega⟩
      rw [hc] at this; cases this
theorem pxAt_no {w h : Nat} {px : List Int} {x y : Rat} (hc : (decide (xS x ((w : Nat) : Int) < 0) || decide (xS y ((h : Nat) : Int) < 0)) = true) : pxAt w h px x y = -1 := by
  unfold pxAt pxF; rw [hc]; rfl
theorem pxAt_yes {w h : Nat} {px : List Int} {x y : Rat} (hc : (decide (xS x ((w : Nat) : Int) < 0) || decide (xS y ((h : Nat) : Int) < 0)) = false) : pxAt w h px x y = px.getD (xS y ((h : Nat) : Int) * ((w : Nat) : Int) + xS x ((w : Nat) : Int)).toNat 0 := by
  unfold pxAt pxF; rw [hc]; rfl
theorem px_in {w h : Nat} {px : List Int} {x y : Rat} (hv : RstOk w h px) (hc : (decide (xS x ((w : Nat) : Int) < 0) || decide (xS y ((h : Nat) : Int) < 0)) = false) :
    0 ≤ xS y ((h : Nat) : Int) * ((w : Nat) : Int) ∧ xS y ((h : Nat) : Int) * ((w : Nat) : Int) ≤ 4096 ∧ xS y ((h : Nat) : Int) * ((w : Nat) : Int) + xS x ((w : Nat) : Int) = (((xS y ((h : Nat) : Int) * ((w : Nat) : Int) + xS x ((w : Nat) : Int)).toNat : Nat) : Int) ∧ (xS y ((h : Nat) : Int) * ((w : Nat) : Int) + xS x ((w : Nat) : Int)).toNat < px.length ∧ (xS y ((h : Nat) : Int) * ((w : Nat) : Int) + xS x ((w : Nat) : Int)).toNat ≤ 4096 := by
  simp only [Bool.or_eq_false_iff, decide_eq_false_iff_not] at hc
  have hv2 := hv
  obtain ⟨v1, v2, v3, v4, -⟩ := hv2
  exact ix_bd hv (by omega) (cell_bd x v1) (by omega) (cell_bd y v3)
def rsD (a0 a1 a2 b0 b1 b2 c0 c1 c2 p q r x y : Rat) : Rat :=
  (((p * (x / (jH a0 a1 a2 a0 a1 a2))) + (q * (y / (jH b0 b1 b2 b0 b1 b2)))) + (r * (((1 : Int) : Rat) / (jH c0 c1 c2 c0 c1 c2))))
def rsAt (ta tb tc td tf tu tv : Int) (w h : Nat) (px : List Int) (d0 d1 d2 : Rat) : Int :=
  bif decide ((xV (jH (vX ta tb tc td) (xD ta tb tc td) (xF ta tb tc td) d0 d1 d2)) ≤ 0) then -1 else
    pxAt w h px (((tu : Int) : Rat) + ((((tf : Int) : Rat) * (jH (yX ta tb tc td) (gC ta tb tc td) (gI ta tb tc td) d0 d1 d2)) / (jH (vX ta tb tc td) (xD ta tb tc td) (xF ta tb tc td) d0 d1 d2)))
      (((tv : Int) : Rat) + ((((tf : Int) : Rat) * (jH (yW ta tb tc td) (gD ta tb tc td) (gJ ta tb tc td) d0 d1 d2)) / (jH (vX ta tb tc td) (xD ta tb tc td) (xF ta tb tc td) d0 d1 d2)))
theorem rsAt_n {ta tb tc td tf tu tv : Int} {w h : Nat} {px : List Int} {d0 d1 d2 : Rat} (hs : (xV (jH (vX ta tb tc td) (xD ta tb tc td) (xF ta tb tc td) d0 d1 d2)) ≤ 0) : rsAt ta tb tc td tf tu tv w h px d0 d1 d2 = -1 := by
  unfold rsAt; rw [decide_eq_true hs]; rfl
theorem rsAt_p {ta tb tc td tf tu tv : Int} {w h : Nat} {px : List Int} {d0 d1 d2 : Rat} (hs : ¬ (xV (jH (vX ta tb tc td) (xD ta tb tc td) (xF ta tb tc td) d0 d1 d2)) ≤ 0) : rsAt ta tb tc td tf tu tv w h px d0 d1 d2 = pxAt w h px (((tu : Int) : Rat) + ((((tf : Int) : Rat) * (jH (yX ta tb tc td) (gC ta tb tc td) (gI ta tb tc td) d0 d1 d2)) / (jH (vX ta tb tc td) (xD ta tb tc td) (xF ta tb tc td) d0 d1 d2)))
      (((tv : Int) : Rat) + ((((tf : Int) : Rat) * (jH (yW ta tb tc td) (gD ta tb tc td) (gJ ta tb tc td) d0 d1 d2)) / (jH (vX ta tb tc td) (xD ta tb tc td) (xF ta tb tc td) d0 d1 d2))) := by
  unfold rsAt; rw [decide_eq_false hs]; rfl
def rsV (e00 e01 e02 e10 e11 e12 e20 e21 e22 : Rat) (ta tb tc td tf tu tv : Int) (w h : Nat) (px : List Int) (om : Rat) (i j : Int) : Int :=
  rsAt ta tb tc td tf tu tv w h px (rsD e00 e01 e02 e10 e11 e12 e20 e21 e22 e00 e10 e20 (om * ((i : Int) : Rat)) (om * ((j : Int) : Rat)))
    (rsD e00 e01 e02 e10 e11 e12 e20 e21 e22 e01 e11 e21 (om * ((i : Int) : Rat)) (om * ((j : Int) : Rat)))
    (rsD e00 e01 e02 e10 e11 e12 e20 e21 e22 e02 e12 e22 (om * ((i : Int) : Rat)) (om * ((j : Int) : Rat)))
def rsRow (f : Int → Int → Int) (wx vx : Int) (j : Int) : List Int := (List.range (vx - wx + 1).toNat).map fun k => f (wx + ((k : Nat) : Int)) j
def rsTab (f : Int → Int → Int) (wx wy vx vy : Int) : List (List Int) := (List.range (vy - wy + 1).toNat).map fun k => rsRow f wx vx (wy + ((k : Nat) : Int))
theorem rs_step {α : Type} {f : Nat → α} {out : List α} {k : Nat} (ho : out = (List.range k).map f) {v : α} (hv : v = f k) : out ++ [v] = (List.range (k + 1)).map f := by
  rw [ho, hv, List.range_succ, List.map_append]; rfl
theorem mul64 {a b : Int} (a1 : 1 ≤ a) (a2 : a ≤ 64) (b1 : 1 ≤ b) (b2 : b ≤ 64) : 0 ≤ a * b ∧ a * b ≤ 4096 := by
  obtain ⟨a, rfl⟩ := Int.eq_ofNat_of_zero_le (show 0 ≤ a by omega)
  obtain ⟨b, rfl⟩ := Int.eq_ofNat_of_zero_le (show 0 ≤ b by omega)
  have h := Nat.mul_le_mul (show a ≤ 64 by omega) (show b ≤ 64 by omega)
  have h3 : ((a : Nat) : Int) * ((b : Nat) : Int) = ((a * b : Nat) : Int) := by simp
  rw [h3]; omega
theorem tab_le {T : List (List Int)} (hT : ∀ r ∈ T, r.length ≤ 1000000) (k : Nat) : (T.getD k []).length ≤ 1000000 := by
  rw [List.getD_eq_getElem?_getD]
  by_cases h : k < T.length
  · rw [List.getElem?_eq_getElem h]; exact hT _ (List.getElem_mem h)
  · rw [List.getElem?_eq_none (by omega)]; decide
theorem rsTab_row {f : Int → Int → Int} {wx wy vx vy : Int} (h : vx - wx ≤ 63) : ∀ r ∈ rsTab f wx wy vx vy, r.length ≤ 1000000 := by
  intro r hr
  obtain ⟨k, -, rfl⟩ := List.mem_map.1 hr
  unfold rsRow; rw [List.length_map, List.length_range]; omega
theorem rsTab_len {f : Int → Int → Int} {wx wy vx vy : Int} (h : vy - wy ≤ 63) : (rsTab f wx wy vx vy).length ≤ 1000000 := by
  unfold rsTab; rw [List.length_map, List.length_range]; omega
theorem rng_of {x : Int} (h : (decide (x < -1048576) || decide (((1048576 : Nat) : Int) < x)) = false) : -1048576 ≤ x ∧ x ≤ 1048576 := by
  rw [Bool.or_eq_false_iff] at h
  have h1 := of_decide_eq_false h.1
  have h2 := of_decide_eq_false h.2
  omega
def rsCd (b s a c d e o l : Bool) : Int := bif b then 1 else bif (s || (a || (c || (d || (e || o))))) then 2 else bif l then 3 else 0
def xT (w h mx : Int) (px : List Int) (z : jZ) (om : Rat) (wx wy vx vy : Int) : Int :=
  rsCd ((gM w h mx px != 0) || !(vW z)) (decide (xV om ≤ 0)) (decide (wx < -1048576) || decide (((1048576 : Nat) : Int) < wx)) (decide (wy < -1048576) || decide (((1048576 : Nat) : Int) < wy))
    (decide (vx < -1048576) || decide (((1048576 : Nat) : Int) < vx)) (decide (vy < -1048576) || decide (((1048576 : Nat) : Int) < vy)) (decide (vx < wx) || decide (vy < wy)) (decide (64 ≤ vx - wx) || decide (64 ≤ vy - wy))
section
variable {b s a c d e o l : Bool}
theorem cd1 (h : b = true) : rsCd b s a c d e o l = 1 := by subst h; rfl
theorem cd2 (h1 : b = false) (h : (s || (a || (c || (d || (e || o))))) = true) : rsCd b s a c d e o l = 2 := by subst h1; unfold rsCd; rw [h]; rfl
theorem cd3 (h1 : b = false) (h : (s || (a || (c || (d || (e || o))))) = false) (h3 : l = true) : rsCd b s a c d e o l = 3 := by subst h1 h3; unfold rsCd; rw [h]; rfl
theorem cd0 (h1 : b = false) (h : (s || (a || (c || (d || (e || o))))) = false) (h3 : l = false) : rsCd b s a c d e o l = 0 := by subst h1 h3; unfold rsCd; rw [h]; rfl
theorem or1 (h : s = true) : (s || (a || (c || (d || (e || o))))) = true := by subst h; rfl
theorem or2 (h : a = true) : (s || (a || (c || (d || (e || o))))) = true := by subst h; cases s <;> rfl
theorem or3 (h : c = true) : (s || (a || (c || (d || (e || o))))) = true := by subst h; cases s <;> cases a <;> rfl
theorem or4 (h : d = true) : (s || (a || (c || (d || (e || o))))) = true := by subst h; cases s <;> cases a <;> cases c <;> rfl
theorem or5 (h : e = true) : (s || (a || (c || (d || (e || o))))) = true := by subst h; cases s <;> cases a <;> cases c <;> cases d <;> rfl
theorem or6 (h : o = true) : (s || (a || (c || (d || (e || o))))) = true := by subst h; cases s <;> cases a <;> cases c <;> cases d <;> cases e <;> rfl
theorem or0 (h1 : s = false) (h2 : a = false) (h3 : c = false) (h4 : d = false) (h5 : e = false) (h6 : o = false) : (s || (a || (c || (d || (e || o))))) = false := by subst h1 h2 h3 h4 h5 h6; rfl
end
theorem cdk {w h mx : Int} {px : List Int} {z : jZ} {om : Rat} {wx wy vx vy : Int} (h1 : gM w h mx px ≠ ((0 : Nat) : Int)) : xT w h mx px z om wx wy vx vy = gM w h mx px := by
  have h2 : gM w h mx px ≠ 0 := h1
  rw [chk_ko h2]
  exact cd1 (by rw [show (gM w h mx px != 0) = true from bne_iff_ne.2 h2]; rfl)
theorem rsC_0 {w h mx : Int} {px : List Int} {z : jZ} {om : Rat} {wx wy vx vy : Int} (hc : xT w h mx px z om wx wy vx vy = 0) : gM w h mx px = 0 ∧ vW z = true ∧ ¬ xV om ≤ 0 ∧ ((-1048576 ≤ wx ∧ wx ≤ 1048576) ∧ (-1048576 ≤ wy ∧ wy ≤ 1048576) ∧ (-1048576 ≤ vx ∧ vx ≤ 1048576) ∧ (-1048576 ≤ vy ∧ vy ≤ 1048576)) ∧ (wx ≤ vx ∧ wy ≤ vy) ∧ vx - wx ≤ 63 ∧ vy - wy ≤ 63 := by
  unfold xT rsCd at hc
  rcases h1 : ((gM w h mx px != 0) || !(vW z)) with _ | _
  · rw [h1] at hc
    simp only [cond_false] at hc
    rcases h2 : (decide (xV om ≤ 0) || ((decide (wx < -1048576) || decide (((1048576 : Nat) : Int) < wx)) || ((decide (wy < -1048576) || decide (((1048576 : Nat) : Int) < wy)) || ((decide (vx < -1048576) || decide (((1048576 : Nat) : Int) < vx)) || ((decide (vy < -1048576) || decide (((1048576 : Nat) : Int) < vy)) || (decide (vx < wx) || decide (vy < wy))))))) with _ | _
    · rw [h2] at hc
      simp only [cond_false] at hc
      rcases h3 : (decide (64 ≤ vx - wx) || decide (64 ≤ vy - wy)) with _ | _
      · simp only [Bool.or_eq_false_iff, decide_eq_false_iff_not, bne_eq_false_iff_eq, Bool.not_eq_false'] at h1 h2 h3
        obtain ⟨k1, k2⟩ := h1
        obtain ⟨k3, ⟨k4, k5⟩, ⟨k6, k7⟩, ⟨k8, k9⟩, ⟨m1, m2⟩, m3, m4⟩ := h2
        obtain ⟨m5, m6⟩ := h3
        exact ⟨k1, k2, k3, ⟨⟨by omega, by omega⟩, ⟨by omega, by omega⟩, ⟨by omega, by omega⟩, by omega, by omega⟩, ⟨by omega, by omega⟩, by omega, by omega⟩
      · rw [h3] at hc; cases hc
    · rw [h2] at hc; cases hc
  · rw [h1] at hc; cases hc
end Go.Fid
