/- Part 30 of a proof: rules, plain facts, and functions walked. -/
import Derived.Test.YtnajallgoaiahaaGreatDoorM25
import Derived.Test.YtnajallgoaiahaaGreatDoorM11
import Derived.Test.YtnajallgoaiahaaGreatDoorM12
import Derived.Test.YtnajallgoaiahaaGreatDoorM20
import Derived.Test.YtnajallgoaiahaaGreatDoorM24
import Derived.Test.YtnajallgoaiahaaGreatDoorM26
namespace Go.Fid
set_option linter.unusedVariables false
set_option linter.unusedSimpArgs false
theorem zeroR_uns (x : kD) : zeroR x = unsB x := rfl
def unuB (x : kK) : Bool := if x.op = 0 then (((x.a != 0) || (x.b != 0)) || !(kN x.n)) else ((decide (xV x.op < 0) || (decide (xV x.op < 2) && (x.b != 0))) || !(zeroR x.n))
theorem unu_iff {x : kK} : unuB x = true ↔ cO x := by
  unfold unuB cO
  by_cases h : x.op = 0
  · rw [if_pos h, h]
    simp only [Bool.or_eq_true, bne_iff_ne, Bool.not_eq_true', ne_eq, not_true_eq_false, false_and, or_false, true_and, show xV 0 = 0 by decide]
    constructor
    · rintro ((h1 | h1) | h1)
      · exact .inr (.inr (.inl h1))
      · exact .inr (.inl ⟨by decide, h1⟩)
      · exact .inr (.inr (.inr h1))
    · rintro (h1 | ⟨_, h1⟩ | h1 | h1)
      · exact absurd h1 (by decide)
      · exact .inl (.inr h1)
      · exact .inl (.inl h1)
      · exact .inr h1
  · rw [if_neg h]
    simp only [Bool.or_eq_true, Bool.and_eq_true, decide_eq_true_eq, bne_iff_ne, Bool.not_eq_true', ne_eq, h, not_false_eq_true, false_and, false_or, true_and, zeroR_uns]
    exact or_assoc
theorem unu_bad (x : kK) : unuB x = badB x := by
  cases h : unuB x with
  | true => exact (bA.2 (unu_iff.1 h)).symm
  | false =>
    cases h2 : badB x with
    | false => rfl
    | true => rw [unu_iff.2 (bA.1 h2)] at h; cases h
def orD (k : Int) (x : kK) : Bool := ((decide (1 ≤ xV x.op) && (decide (x.a < 0) || decide (k ≤ x.a))) || ((xV x.op == 2) && (decide (x.b < 0) || decide (k ≤ x.b))))
theorem orD_eq (k : Int) (x : kK) : orD k x = ordB k x := by
  unfold orD ordB
  rcases aP x.op with ⟨e, _⟩ | ⟨e, _⟩ | ⟨e, _⟩ | ⟨e, _⟩ <;> rw [e] <;> rfl
theorem NdR.a2 {z : Int} {t : List kK} {k : Nat} (h : NdR z t k) (h0 : 1 ≤ xV (t.getD k tz).op) : 0 ≤ (t.getD k tz).a ∧ (t.getD k tz).a.toNat < k ∧ 1 ≤ (cG t k).getD (t.getD k tz).a.toNat 0 ∧ (cG t k).getD (t.getD k tz).a.toNat 0 ≤ 4096 := by
  have h2 := h.ord
  unfold bB at h2
  have ha : (t.getD k tz).a.toNat < k := by omega
  exact ⟨by omega, ha, sz_rng h.tm.up _ ha⟩
theorem NdR.b2 {z : Int} {t : List kK} {k : Nat} (h : NdR z t k) (h0 : xV (t.getD k tz).op = 2) : 0 ≤ (t.getD k tz).b ∧ (t.getD k tz).b.toNat < k ∧ 1 ≤ (cG t k).getD (t.getD k tz).b.toNat 0 ∧ (cG t k).getD (t.getD k tz).b.toNat 0 ≤ 4096 := by
  have h2 := h.ord
  unfold bB at h2
  have ha : (t.getD k tz).b.toNat < k := by omega
  exact ⟨by omega, ha, sz_rng h.tm.up _ ha⟩
theorem NdR.nx {z : Int} {t : List kK} {k : Nat} (h : NdR z t k) {v : Int} (hv : v = bN (cG t k) (t.getD k tz)) (hb : ¬ 4096 < v) : szUp z t (k + 1) ∧ cG t k ++ [v] = cG t (k + 1) := by
  rw [hv] at hb
  exact ⟨szUp_s h.tm.up (nd_y h.bad (by rw [mA]; exact h.ord) h.rng hb), by rw [hv]; rfl⟩
theorem NdR.bg {z : Int} {t : List kK} {k : Nat} (h : NdR z t k) {v : Int} (hv : v = bN (cG t k) (t.getD k tz)) (hb : 4096 < v) : eY z t = 3 ∧ tmL z t = [] := by
  rw [hv] at hb
  have e := nd_3 (z := z) (ss := cG t k) h.bad (by rw [mA]; exact h.ord) h.rng hb
  have := tm_no h.tm.z0 h.tm.kl h.tm.tl h.tm.up (by rw [e]; decide)
  rwa [e] at this
theorem kd_7 {o : Int} (h : o = 7) : xV o = 1 := by rw [h]; decide
theorem szD_c {ss : List Int} {x : kK} (hb : ¬ cO x) (h : ¬ 1 ≤ xV x.op) : (1 : Int) = bN ss x := szN_c (by unfold cO at hb; omega)
theorem szD_n {ss : List Int} {x : kK} (h : 1 ≤ xV x.op) (h7 : x.op ≠ 7) (h2 : xV x.op ≠ 2) : ss.getD x.a.toNat 0 = bN ss x := szN_n (by omega) (by rcases aP x.op with ⟨e, f⟩ | ⟨e, f⟩ | ⟨e, f⟩ | ⟨e, f⟩ <;> omega) rfl
theorem szD_q {ss : List Int} {x : kK} (h : 1 ≤ xV x.op) (h7 : x.op = 7) : 2 * ss.getD x.a.toNat 0 = bN ss x := szN_q (by omega) h7 rfl
theorem szD_b {ss : List Int} {x : kK} (h2 : xV x.op = 2) : ss.getD x.a.toNat 0 + ss.getD x.b.toNat 0 = bN ss x := szN_b (by omega) (by intro h; rw [h] at h2; revert h2; decide) (by intro h; rw [h] at h2; revert h2; decide) rfl rfl
theorem tm_end2 {z : Int} {t : List kK} {k : Nat} (h : (decide (z < 0) || decide (64 < z)) = false) (h0 : ((t.length : Nat) : Int) ≠ 0) (h4 : ¬ 400 < ((t.length : Nat) : Int)) (hk : k ≤ t.length) (h5 : ¬ ((k : Nat) : Int) < ((t.length : Nat) : Int)) (hu : szUp z t k) : eY z t = 0 ∧ tmL z t = cG t k := by
  obtain rfl : k = t.length := by omega
  exact tm_yes (zb_f h) (by omega) (by omega) hu
theorem vV_0 {xs L : List Rat} {x : kK} (h : x.op = 0) : vV xs L x = qB x.n := by unfold vV; simp [h]
theorem vV_1 {xs L : List Rat} {x : kK} (h : x.op = 1) : vV xs L x = xs.getD x.a.toNat 0 := by unfold vV; simp [h]
theorem vV_2 {xs L : List Rat} {x : kK} (h : x.op = 2) : vV xs L x = L.getD x.a.toNat 0 + L.getD x.b.toNat 0 := by unfold vV; simp [h]
theorem vV_3 {xs L : List Rat} {x : kK} (h : x.op = 3) : vV xs L x = L.getD x.a.toNat 0 - L.getD x.b.toNat 0 := by unfold vV; simp [h]
theorem vV_4 {xs L : List Rat} {x : kK} (h : x.op = 4) : vV xs L x = L.getD x.a.toNat 0 * L.getD x.b.toNat 0 := by unfold vV; simp [h]
theorem vV_6 {xs L : List Rat} {x : kK} (h : x.op = 6) : vV xs L x = -(L.getD x.a.toNat 0) := by unfold vV; simp [h]
theorem vV_7 {xs L : List Rat} {x : kK} (h : x.op = 7) : vV xs L x = L.getD x.a.toNat 0 * L.getD x.a.toNat 0 := by unfold vV; simp [h]
theorem vV_5 {xs L : List Rat} {x : kK} (h : x.op = 5) : vV xs L x = L.getD x.a.toNat 0 / L.getD x.b.toNat 0 := by unfold vV; simp [h]
theorem nd_at {z : Int} {t : List kK} {k : Nat} (h : eY z t = 0) (hk : k < t.length) : NdR z t k := by
  have h0 := tm_0 h
  obtain ⟨h1, h2, h3, _⟩ := nd_0 (h0.2.2.2.2 k hk)
  rw [mA] at h2
  exact ⟨⟨by omega, hk, by omega, fun i hi => h0.2.2.2.2 i (by omega)⟩, h1, h2, h3⟩
theorem NdR.var {z : Int} {t : List kK} {k : Nat} (h : NdR z t k) (h1 : (t.getD k tz).op = 1) : 0 ≤ (t.getD k tz).a ∧ (t.getD k tz).a < z := by
  have := h.rng
  unfold rngN at this
  omega
theorem NdR.con {z : Int} {t : List kK} {k : Nat} (h : NdR z t k) (h1 : (t.getD k tz).op = 0) : kN (t.getD k tz).n = true := by
  have := h.bad
  unfold cO at this
  cases hv : kN (t.getD k tz).n with
  | true => rfl
  | false => exact absurd (.inr (.inr (.inl ⟨h1, .inr hv⟩))) this
theorem NdR.op {z : Int} {t : List kK} {k : Nat} (h : NdR z t k) : (t.getD k tz).op = 0 ∨ (t.getD k tz).op = 1 ∨ (t.getD k tz).op = 2 ∨ (t.getD k tz).op = 3 ∨ (t.getD k tz).op = 4 ∨ (t.getD k tz).op = 5 ∨ (t.getD k tz).op = 6 ∨ (t.getD k tz).op = 7 := by
  have := h.kd
  rcases aP (t.getD k tz).op with ⟨e, f⟩ | ⟨e, f⟩ | ⟨e, f⟩ | ⟨e, f⟩ <;> omega
theorem NdR.bin {z : Int} {t : List kK} {k : Nat} (h : NdR z t k) (h1 : (t.getD k tz).op = 2 ∨ (t.getD k tz).op = 3 ∨ (t.getD k tz).op = 4 ∨ (t.getD k tz).op = 5) : (0 ≤ (t.getD k tz).a ∧ (t.getD k tz).a < k) ∧ 0 ≤ (t.getD k tz).b ∧ (t.getD k tz).b < k := by
  have e : xV (t.getD k tz).op = 2 := by rcases h1 with h1 | h1 | h1 | h1 <;> rw [h1] <;> decide
  have a := h.a2 (by omega)
  have b := h.b2 e
  omega
theorem NdR.un {z : Int} {t : List kK} {k : Nat} (h : NdR z t k) (h1 : (t.getD k tz).op = 6 ∨ (t.getD k tz).op = 7) : 0 ≤ (t.getD k tz).a ∧ (t.getD k tz).a < k := by
  have e : xV (t.getD k tz).op = 1 := by rcases h1 with h1 | h1 <;> rw [h1] <;> decide
  have a := h.a2 (by omega)
  omega
theorem vU_nx {xs : List Rat} {t : List kK} {k : Nat} {v : Rat} (h : vV xs (vU xs t k) (t.getD k tz) = v) : List.map jM (vU xs t k) ++ [jM v] = List.map jM (vU xs t (k + 1)) := by
  rw [vU, List.map_append, h]; rfl
theorem vU_nc {xs : List Rat} {t : List kK} {k : Nat} (h : vV xs (vU xs t k) (t.getD k tz) = qB (t.getD k tz).n) (hv : kN (t.getD k tz).n = true) : List.map jM (vU xs t k) ++ [(t.getD k tz).n] = List.map jM (vU xs t (k + 1)) := by
  rw [vU, List.map_append, h, List.map_singleton, ofQ_toQ hv]
structure VEnd (xs : List Rat) (t : List kK) (k0 : Nat) : Prop where
  c0 : eY ((xs.length : Nat) : Int) t = 0
  hk : k0 ≤ t.length
  up : VUp xs t k0
  en : k0 < t.length → (t.getD k0 tz).op = 5 ∧ (vU xs t k0).getD (t.getD k0 tz).b.toNat 0 = 0
theorem VRun.fin {xs : List Rat} {t : List kK} (h : VRun xs t) : VEnd xs t t.length := ⟨h.c0, Nat.le_refl _, h.up, fun h => absurd h (Nat.lt_irrefl _)⟩
theorem VFail.fin {xs : List Rat} {t : List kK} {k : Nat} (h : VFail xs t k) : VEnd xs t k := ⟨h.c0, Nat.le_of_lt h.hk, h.up, fun _ => ⟨h.op, h.z⟩⟩
def vlR (xs : List Rat) (t : List kK) (k : Nat) : kD := if k = t.length then jM (fX xs t) else zr
def vlC (t : List kK) (k : Nat) : Int := if k = t.length then ((0 : Nat) : Int) else ((14 : Nat) : Int)
theorem vlR_y {xs : List Rat} {t : List kK} : vlR xs t t.length = jM (fX xs t) := if_pos rfl
theorem vlC_y {t : List kK} : vlC t t.length = ((0 : Nat) : Int) := if_pos rfl
theorem VEnd.no2 {xs : List Rat} {t : List kK} {k : Nat} (h : VEnd xs t k) (hk : k < t.length) : vlR xs t k = zr ∧ vlC t k = ((14 : Nat) : Int) := ⟨if_neg (by omega), if_neg (by omega)⟩
theorem VEnd.eq {xs : List Rat} {t : List kK} {k0 k : Nat} (h : VEnd xs t k0) (hk : k ≤ k0) (hn : decide (k < k0) = false) : k0 = k := by
  have := of_decide_eq_false hn
  omega
theorem VEnd.at {xs : List Rat} {t : List kK} {k0 k : Nat} (h : VEnd xs t k0) (hk : k ≤ k0) (hl : k < t.length) (hn : decide (k < k0) = false) : (vU xs t k).getD (t.getD k tz).b.toNat 0 = 0 := by
  have e := h.eq hk hn
  subst e
  exact (h.en hl).2
theorem VEnd.no {xs : List Rat} {t : List kK} {k0 k : Nat} (h : VEnd xs t k0) (hk : k ≤ k0) (hl : k < t.length) (hn : decide (k < k0) = false) : vlR xs t k0 = zr ∧ vlC t k0 = ((14 : Nat) : Int) := by
  have e := h.eq hk hn
  subst e
  exact h.no2 hl
theorem VEnd.lt {xs : List Rat} {t : List kK} {k0 k : Nat} (h : VEnd xs t k0) (hk : k ≤ k0) (hl : k < t.length) (ho : (t.getD k tz).op ≠ 5) : k < k0 := by
  rcases Nat.lt_or_ge k k0 with h1 | h1
  · exact h1
  · obtain rfl : k = k0 := by omega
    exact absurd (h.en hl).1 ho
theorem dtV_ql {u v : List Rat} {n : Nat} (hu : ∀ q ∈ u, QL q n) (hv : ∀ q ∈ v, QL q n) (h1 : 1 ≤ n) : ∀ i, QL (dtV u v i) (i * (n + n + 1) + 1)
  | 0 => xQ eH (by omega)
  | i + 1 => by
    rw [dtV]
    exact nS (dtV_ql hu hv h1 i) (qF (qlg hu h1 i) (qlg hv h1 i) (Nat.le_refl _)) (by rw [Nat.add_mul]; omega)
theorem xP {u v : List Rat} (hu : ∀ q ∈ u, QL q 7) (hv : ∀ q ∈ v, QL q 7) {i : Nat} (hi : i ≤ 64) : QL (dtV u v i) 2000 :=
  xQ (dtV_ql hu hv (by decide) i) (by omega)
def bdK (z : Int) : Bool := decide (8 < z) && decide (z < 64)
def lmB (a : List Int) : Bool := decide (5 < ((a.length : Nat) : Int)) || a.any bdK
theorem lm_of {L : List (List Int)} (h : L.any lmB = false) {a : List Int} (ha : a ∈ L) : a.length ≤ 5 ∧ ∀ z ∈ a, ¬ (8 < z ∧ z < 64) := by
  have h1 := List.any_eq_false.1 h a ha
  unfold lmB at h1
  rw [Bool.not_eq_true, Bool.or_eq_false_iff, decide_eq_false_iff_not] at h1
  refine ⟨by omega, fun z hz => ?_⟩
  have h2 := List.any_eq_false.1 h1.2 z hz
  unfold bdK at h2
  simpa using h2
theorem lm_f {a : List Int} (h1 : ¬ 5 < ((a.length : Nat) : Int)) (h2 : a.any bdK = false) : lmB a = false := by unfold lmB; rw [decide_eq_false h1, h2]; rfl
theorem qz_zr {x : kK} (h : x.n = zr) : mF x.n (qB x.n) 1048576 := by rw [h]; exact ⟨rfl, by decide, by decide, by decide⟩
def AllZ (t : List kK) : Prop := ∀ x ∈ t, x.n = zr
theorem az_nil : AllZ [] := fun x hx => by cases hx
theorem dG {t : List kK} (h : AllZ t) (o a b : Int) : AllZ (t ++ [dW o a b]) := fun x hx => by
  rw [List.mem_append, List.mem_singleton] at hx
  rcases hx with hx | hx
  · exact h x hx
  · rw [hx]
theorem az_df {t : List kK} (h : AllZ t) (p q : Int) : AllZ (dfT t p q) := dG (dG (dG h _ _ _) _ _ _) _ _ _
theorem az_vc {t : List kK} (h : AllZ t) (a b : List Int) : ∀ i, AllZ (vS t a b i)
  | 0 => h
  | i + 1 => az_df (az_vc h a b i) _ _
theorem az_op {t : List kK} (h : AllZ t) (o : Int) (a b : Nat → Int) : ∀ i, AllZ (opT o t a b i)
  | 0 => h
  | i + 1 => dG (az_op h o a b i) _ _ _
theorem az_ss {t : List kK} (h : AllZ t) (l : List Int) : AllZ (ssT t l) := az_op (az_op h _ _ _ _) _ _ _ _
theorem az_sp {t : List kK} (h : AllZ t) (a b : List Int) : AllZ (spT t a b) := az_op (az_op h _ _ _ _) _ _ _ _
theorem tns_dst (a b : List Int) : ∀ x ∈ dstT a b, mF x.n (qB x.n) 1048576 := fun x hx => qz_zr (az_ss (az_vc az_nil _ _ _) _ x hx)
theorem tns_cos (a b c : List Int) : ∀ x ∈ cosT a b c, mF x.n (qB x.n) 1048576 := fun x hx => qz_zr (dG (dG (az_ss (az_ss (dG (az_sp (az_vc (az_vc az_nil _ _ _) _ _ _) _ _) _ _ _) _) _) _ _ _) _ _ _ x hx)
theorem tns_are (a b c : List Int) : ∀ x ∈ areT a b c, mF x.n (qB x.n) 1048576 := fun x hx => qz_zr (dG (dG (dG (az_vc (az_vc az_nil _ _ _) _ _ _) _ _ _) _ _ _) _ _ _ x hx)
theorem dt_aw (xs : List Rat) (a b c : List Int) {n : Nat} (hn : 1 ≤ n) (ha : a.length = n) : dtV (cJ xs a b) (cJ xs a c) (cJ xs a b).length = smV (fun j => dfV xs a b j * dfV xs a c j) (n - 1) := by
  rw [awL_len, ha]
  obtain ⟨m, rfl⟩ : ∃ m, n = m + 1 := ⟨n - 1, by omega⟩
  exact dtV_sm m fun j hj => ⟨awL_get xs a b (by omega), awL_get xs a c (by omega)⟩
structure CrLaw (xs : List Rat) (ls : List (List Int)) (n : Nat) : Prop where
  ok : CrOk ls n
  hx : ∀ q ∈ xs, QL q 3
  hl : xs.length = 9
  hb : ∀ a ∈ ls, ∀ z ∈ a, ¬ (8 < z ∧ z < 64)
theorem CrLaw.le {xs : List Rat} {ls : List (List Int)} {n : Nat} (h : CrLaw xs ls n) {a : List Int} (ha : a ∈ ls) : okL ((xs.length : Nat) : Int) n a := h.ok.le ha (h.hb a ha) (by rw [h.hl]; rfl)
theorem dst_fin {xs : List Rat} {a b : List Int} {n : Nat} (h : CrLaw xs [a, b] n) : VRun xs (dstT a b) ∧ fX xs (dstT a b) = dtV (cJ xs a b) (cJ xs a b) (cJ xs a b).length := by
  obtain ⟨h1, h2⟩ := dst_ok ⟨h.ok.n1, h.ok.n3⟩ h.hx (by rw [h.hl]; decide) (h.le (a := a) (by simp)) (h.le (a := b) (by simp))
  exact ⟨h1, by rw [h2, dt_aw xs a b b h.ok.n1 (h.ok.all a (by simp)).1]⟩
theorem cos_fin {xs : List Rat} {a b c : List Int} {n : Nat} (h : CrLaw xs [a, b, c] n) :
    (dtV (cJ xs a b) (cJ xs a b) (cJ xs a b).length * dtV (cJ xs a c) (cJ xs a c) (cJ xs a c).length ≠ 0 → VRun xs (cosT a b c) ∧ fX xs (cosT a b c) = (dtV (cJ xs a b) (cJ xs a c) (cJ xs a b).length * dtV (cJ xs a b) (cJ xs a c) (cJ xs a b).length) / (dtV (cJ xs a b) (cJ xs a b) (cJ xs a b).length * dtV (cJ xs a c) (cJ xs a c) (cJ xs a c).length)) ∧
    (dtV (cJ xs a b) (cJ xs a b) (cJ xs a b).length * dtV (cJ xs a c) (cJ xs a c) (cJ xs a c).length = 0 → ∃ k, VFail xs (cosT a b c) k) := by
  have ha := (h.ok.all a (by simp)).1
  exact cos_run ⟨h.ok.n1, h.ok.n3⟩ h.hx (by rw [h.hl]; decide) (h.le (a := a) (by simp)) (h.le (a := b) (by simp)) (h.le (a := c) (by simp)) (by rw [dt_aw xs a b b h.ok.n1 ha, dt_aw xs a c c h.ok.n1 ha]) (by rw [dt_aw xs a b c h.ok.n1 ha])
theorem are_fin {xs : List Rat} {a b c : List Int} (h : CrLaw xs [a, b, c] 2) : VRun xs (areT a b c) ∧ fX xs (areT a b c) = (cJ xs a b).getD 0 0 * (cJ xs a c).getD 1 0 - (cJ xs a b).getD 1 0 * (cJ xs a c).getD 0 0 := by
  obtain ⟨h1, h2⟩ := are_ok h.hx (by rw [h.hl]; decide) (h.le (a := a) (by simp)) (h.le (a := b) (by simp)) (h.le (a := c) (by simp))
  have ha := (h.ok.all a (by simp)).1
  exact ⟨h1, by rw [h2, awL_get xs a b (by omega), awL_get xs a b (by omega), awL_get xs a c (by omega), awL_get xs a c (by omega)]⟩
theorem xC {xs : List Rat} {a b : List Int} (h : a.length ≤ 5) : (cJ xs a b).length ≤ 64 := by rw [awL_len]; omega
theorem awl_eq {xs : List Rat} {a b c : List Int} : (cJ xs a b).length = (cJ xs a c).length := by rw [awL_len, awL_len]
end Go.Fid
namespace Go.Proofs.YtnajallgoaiahaaGreatDoor
open Go.Fid
theorem dN (h140 : 140 ≠ 1000000) (x : kR) : zD 1000000 (jQ x) := .agg (dL (.val _) (dL (avo_vals h140 _) (dL (.val _) (dL (avo_vals h140 _) (dL (.val _) (dL (avo_vals h140 _) (dL (.val _) (dL (avo_vals h140 _) avo_nil))))))))
set_option maxRecDepth 4000
set_option linter.unusedVariables false
set_option linter.unusedSimpArgs false
theorem cb109 : callB Tryz.prog 109 = true := by kernel_rfl
theorem cb180 : callB Tryz.prog 180 = true := by kernel_rfl
theorem cb182 : callB Tryz.prog 182 = true := by kernel_rfl
theorem cb192 : callB Tryz.prog 192 = true := by kernel_rfl
theorem cb196 : callB Tryz.prog 196 = true := by kernel_rfl
theorem cb210 : callB Tryz.prog 210 = true := by kernel_rfl
theorem gl_ite {c : Prop} [Decidable c] {a b : R2} {n : Nat} (ha : GL n a) (hb : GL n b) : GL n (if c then a else b) := by
 split
 ·exact ha
 ·exact hb
theorem j_whole (z : Int) (hz1 : -9223372036854775808 ≤ z) (hz2 : z ≤ 9223372036854775807) : jT Tryz.prog 180 [(.val (.int .i64 (z)))] (jQ (uR (gw z))) := by
 refine jJ Tryz.func180 rfl cb180 rfl ?_
 show qR _ _ _ _ ⟨[(0, (vi z))], []⟩
 refine jB<|kx [(2, (.ref 0 0))] [(0, some (bx (jQ (kR.mk kW kW))))] (zN (uU 0 xY yC)<|zZ) ?_
 refine jB<|kx [] [(0, some (bx (jQ (kR.mk (jM ((z : Int) : Rat)) (jM ((z : Int) : Rat))))))] (zM<|zE (jZ (f_whole z (by omega) (by omega)))<|zM<|zE (jZ (f_whole z (by omega) (by omega)))<|zE (bS pl61 xY yC)<|zT (qM uA)<|zZ) ?_
 refine jE ⟨_, (kU (cs := (bx (jQ (kR.mk (jM ((z : Int) : Rat)) (jM ((z : Int) : Rat)))))) (d := (jQ (kR.mk (jM ((z : Int) : Rat)) (jM ((z : Int) : Rat))))) rfl rfl uA rfl rfl .nil), ?_⟩
 rfl
theorem j_add (a : R2) (ha : GL 67108864 a) (b : R2) (hb : GL 67108864 b) : jT Tryz.prog 192 [(jQ (uR a)), (jQ (uR b))] (jQ (uR (mL a b))) := by
 refine jJ Tryz.func192 rfl cb192 rfl ?_
 show qR _ _ _ _ ⟨[(0, (.d (jQ (uR a)))), (1, (.d (jQ (uR b))))], []⟩
 refine jB<|kx [(2, (.ref 0 0)), (3, (.ref 1 0)), (4, (.ref 2 0))] [(0, some (bx (jQ (uR a)))), (1, some (bx (jQ (uR b)))), (2, some (bx (jQ (kR.mk kW kW))))] (zN (xA 0)<|zN (xA 1)<|zN (uU 2 xY yC)<|zZ) ?_
 refine jB<|kx [(5, (.ref 3 0))] [(3, some (bx (jQ (kR.mk (jM (a.1 + b.1)) (jM (a.2 + b.2))))))] (zR (kP uA)<|zR (kP uA)<|zE (jZ (i_add a.1 a.2 b.1 b.2 (qu ha.1) (qu ha.2.1) (qu hb.1) (qu hb.2.1) ha.2.2 hb.2.2))<|zM<|zE vP<|zE vP<|zN (uU 3 xY yC)<|zT (qM uA)<|zM<|zZ) ?_
 refine jB<|kx [] [(2, some (bx (jQ (kR.mk (jM (a.1 + b.1)) (jM (a.2 + b.2))))))] (zR (kP uA)<|zT (qM uA)<|zZ) ?_
 refine jE ⟨_, (kU (cs := (bx (jQ (kR.mk (jM (a.1 + b.1)) (jM (a.2 + b.2)))))) (d := (jQ (kR.mk (jM (a.1 + b.1)) (jM (a.2 + b.2))))) rfl rfl uA rfl rfl .nil), ?_⟩
 rfl
theorem j_mul (a : R2) (ha : GL 67108864 a) (b : R2) (hb : GL 67108864 b) : jT Tryz.prog 196 [(jQ (uR a)), (jQ (uR b))] (jQ (uR (uD a b))) := by
 refine jJ Tryz.func196 rfl cb196 rfl ?_
 show qR _ _ _ _ ⟨[(0, (.d (jQ (uR a)))), (1, (.d (jQ (uR b))))], []⟩
 refine jB<|kx [(2, (.ref 0 0)), (3, (.ref 1 0)), (4, (.ref 2 0))] [(0, some (bx (jQ (uR a)))), (1, some (bx (jQ (uR b)))), (2, some (bx (jQ (kR.mk kW kW))))] (zN (xA 0)<|zN (xA 1)<|zN (uU 2 xY yC)<|zZ) ?_
 refine jB<|kx [(5, (.ref 3 0))] [(3, some (bx (jQ (kR.mk (jM (mnL (a.1 * b.1) [(a.1 * b.2), (a.2 * b.1), (a.2 * b.2)])) (jM (mxL (a.1 * b.1) [(a.1 * b.2), (a.2 * b.1), (a.2 * b.2)]))))))] (zR (kP uA)<|zR (kP uA)<|zE (jZ (i_mul a.1 a.2 b.1 b.2 (qu ha.1) (qu ha.2.1) (qu hb.1) (qu hb.2.1) ha.2.2 hb.2.2))<|zM<|zE vP<|zE vP<|zN (uU 3 xY yC)<|zT (qM uA)<|zM<|zZ) ?_
 refine jB<|kx [] [(2, some (bx (jQ (kR.mk (jM (mnL (a.1 * b.1) [(a.1 * b.2), (a.2 * b.1), (a.2 * b.2)])) (jM (mxL (a.1 * b.1) [(a.1 * b.2), (a.2 * b.1), (a.2 * b.2)]))))))] (zR (kP uA)<|zT (qM uA)<|zZ) ?_
 refine jE ⟨_, (kU (cs := (bx (jQ (kR.mk (jM (mnL (a.1 * b.1) [(a.1 * b.2), (a.2 * b.1), (a.2 * b.2)])) (jM (mxL (a.1 * b.1) [(a.1 * b.2), (a.2 * b.1), (a.2 * b.2)])))))) (d := (jQ (kR.mk (jM (mnL (a.1 * b.1) [(a.1 * b.2), (a.2 * b.1), (a.2 * b.2)])) (jM (mxL (a.1 * b.1) [(a.1 * b.2), (a.2 * b.1), (a.2 * b.2)]))))) rfl rfl uA rfl rfl .nil), ?_⟩
 rfl
theorem j_kids (o : Int) : jT Tryz.prog 182 [(.val (.int .i64 (o)))] (.val (.int .i64 ((xV o)))) := by
 refine jJ Tryz.func182 rfl cb182 rfl ?_
 show qR _ _ _ _ ⟨[(0, (vi o))], []⟩
 refine jB<|kx [] [] (zM<|zZ) ?_
 refine jB<|jB<|kx [(3, (vi o))] [] (zM<|zZ) ?_
 refine jG<|jB<|jB<|kx [(4, (vb (o == 0)))] [] (zE gA<|zM<|zZ) ?_
 refine jF (b := (o == 0)) rfl (fun h1 => ?_) (fun h1 => ?_)
 ·replace h1 := eq_of_beq h1
  refine jD<|jF rfl (fun _ => ?_) (fun h => absurd (Eq.trans (Eq.symm (show ((o == 0)) = true from beq_iff_eq.2 h1)) h) (by decide))
  refine jB<|kx [(2, (jN 0))] [] (zM<|zZ) ?_
  refine jE ⟨_, (.tmp (d := (.val (.int .i64 (0)))) rfl .nil), ?_⟩
  show kA.val (.int .i64 _) = _
  unfold xV; simp [*]
 ·replace h1 := ne_of_beq_false h1
  refine kx [(4, (vb (o == 1)))] [] (zE gA<|zM<|zZ) ?_
  refine jF (b := (o == 1)) rfl (fun h2 => ?_) (fun h2 => ?_)
  ·replace h2 := eq_of_beq h2
   refine jB<|kx [(2, (jN 0))] [] (zM<|zZ) ?_
   refine jE ⟨_, (.tmp (d := (.val (.int .i64 (0)))) rfl .nil), ?_⟩
   show kA.val (.int .i64 _) = _
   unfold xV; simp [*]
  ·replace h2 := ne_of_beq_false h2
   refine jB<|jB<|kx [(7, (vb (o == 6)))] [] (zE gA<|zM<|zZ) ?_
   refine jF (b := (o == 6)) rfl (fun h3 => ?_) (fun h3 => ?_)
   ·replace h3 := eq_of_beq h3
    refine jD<|jF rfl (fun _ => ?_) (fun h => absurd (Eq.trans (Eq.symm (show ((o == 6)) = true from beq_iff_eq.2 h3)) h) (by decide))
    refine jB<|kx [(2, (jN 1))] [] (zM<|zZ) ?_
    refine jE ⟨_, (.tmp (d := (.val (.int .i64 (1)))) rfl .nil), ?_⟩
    show kA.val (.int .i64 _) = _
    unfold xV; simp [*]
   ·replace h3 := ne_of_beq_false h3
    refine kx [(7, (vb (o == 7)))] [] (zE gA<|zM<|zZ) ?_
    refine jF (b := (o == 7)) rfl (fun h4 => ?_) (fun h4 => ?_)
    ·replace h4 := eq_of_beq h4
     refine jB<|kx [(2, (jN 1))] [] (zM<|zZ) ?_
     refine jE ⟨_, (.tmp (d := (.val (.int .i64 (1)))) rfl .nil), ?_⟩
     show kA.val (.int .i64 _) = _
     unfold xV; simp [*]
    ·replace h4 := ne_of_beq_false h4
     refine jB<|jB<|kx [(10, (vb (o == 2)))] [] (zE gA<|zM<|zZ) ?_
     refine jF (b := (o == 2)) rfl (fun h5 => ?_) (fun h5 => ?_)
     ·replace h5 := eq_of_beq h5
      refine jD<|jF rfl (fun _ => ?_) (fun h => absurd (Eq.trans (Eq.symm (show ((o == 2)) = true from beq_iff_eq.2 h5)) h) (by decide))
      refine jB<|kx [(2, (jN 2))] [] (zM<|zZ) ?_
      refine jE ⟨_, (.tmp (d := (.val (.int .i64 (2)))) rfl .nil), ?_⟩
      show kA.val (.int .i64 _) = _
      unfold xV; simp [*]
     ·replace h5 := ne_of_beq_false h5
      refine jB<|kx [(10, (vb (o == 3)))] [] (zE gA<|zM<|zZ) ?_
      refine jF (b := (o == 3)) rfl (fun h6 => ?_) (fun h6 => ?_)
      ·replace h6 := eq_of_beq h6
       refine jD<|jF rfl (fun _ => ?_) (fun h => absurd (Eq.trans (Eq.symm (show ((o == 3)) = true from beq_iff_eq.2 h6)) h) (by decide))
       refine jB<|kx [(2, (jN 2))] [] (zM<|zZ) ?_
       refine jE ⟨_, (.tmp (d := (.val (.int .i64 (2)))) rfl .nil), ?_⟩
       show kA.val (.int .i64 _) = _
       unfold xV; simp [*]
      ·replace h6 := ne_of_beq_false h6
       refine jB<|kx [(10, (vb (o == 4)))] [] (zE gA<|zM<|zZ) ?_
       refine jF (b := (o == 4)) rfl (fun h7 => ?_) (fun h7 => ?_)
       ·replace h7 := eq_of_beq h7
        refine jD<|jF rfl (fun _ => ?_) (fun h => absurd (Eq.trans (Eq.symm (show ((o == 4)) = true from beq_iff_eq.2 h7)) h) (by decide))
        refine jB<|kx [(2, (jN 2))] [] (zM<|zZ) ?_
        refine jE ⟨_, (.tmp (d := (.val (.int .i64 (2)))) rfl .nil), ?_⟩
        show kA.val (.int .i64 _) = _
        unfold xV; simp [*]
       ·replace h7 := ne_of_beq_false h7
        refine kx [(10, (vb (o == 5)))] [] (zE gA<|zM<|zZ) ?_
        refine jF (b := (o == 5)) rfl (fun h8 => ?_) (fun h8 => ?_)
        ·replace h8 := eq_of_beq h8
         refine jB<|kx [(2, (jN 2))] [] (zM<|zZ) ?_
         refine jE ⟨_, (.tmp (d := (.val (.int .i64 (2)))) rfl .nil), ?_⟩
         show kA.val (.int .i64 _) = _
         unfold xV; simp [*]
        ·replace h8 := ne_of_beq_false h8
         refine jD<|jB<|kx [(2, (vi (-1)))] [] (zM<|zZ) ?_
         refine jE ⟨_, (.tmp (d := (.val (.int .i64 (-1)))) rfl .nil), ?_⟩
         show kA.val (.int .i64 _) = _
         unfold xV; simp [*]
theorem r_kids (o : Int) : jT Tryz.prog 109 [(.val (.int .i64 (o)))] (.val (.int .i64 ((xV o)))) := by
 refine jJ Tryz.func109 rfl cb109 rfl ?_
 show qR _ _ _ _ ⟨[(0, (vi o))], []⟩
 refine jB<|kx [] [] (zM<|zZ) ?_
 refine jB<|jB<|kx [(3, (vi o))] [] (zM<|zZ) ?_
 refine jG<|jB<|jB<|kx [(4, (vb (o == 0)))] [] (zE gA<|zM<|zZ) ?_
 refine jF (b := (o == 0)) rfl (fun h1 => ?_) (fun h1 => ?_)
 ·replace h1 := eq_of_beq h1
  refine jD<|jF rfl (fun _ => ?_) (fun h => absurd (Eq.trans (Eq.symm (show ((o == 0)) = true from beq_iff_eq.2 h1)) h) (by decide))
  refine jB<|kx [(2, (jN 0))] [] (zM<|zZ) ?_
  refine jE ⟨_, (.tmp (d := (.val (.int .i64 (0)))) rfl .nil), ?_⟩
  show kA.val (.int .i64 _) = _
  unfold xV; simp [*]
 ·replace h1 := ne_of_beq_false h1
  refine kx [(4, (vb (o == 1)))] [] (zE gA<|zM<|zZ) ?_
  refine jF (b := (o == 1)) rfl (fun h2 => ?_) (fun h2 => ?_)
  ·replace h2 := eq_of_beq h2
   refine jB<|kx [(2, (jN 0))] [] (zM<|zZ) ?_
   refine jE ⟨_, (.tmp (d := (.val (.int .i64 (0)))) rfl .nil), ?_⟩
   show kA.val (.int .i64 _) = _
   unfold xV; simp [*]
  ·replace h2 := ne_of_beq_false h2
   refine jB<|jB<|kx [(7, (vb (o == 6)))] [] (zE gA<|zM<|zZ) ?_
   refine jF (b := (o == 6)) rfl (fun h3 => ?_) (fun h3 => ?_)
   ·replace h3 := eq_of_beq h3
    refine jD<|jF rfl (fun _ => ?_) (fun h => absurd (Eq.trans (Eq.symm (show ((o == 6)) = true from beq_iff_eq.2 h3)) h) (by decide))
    refine jB<|kx [(2, (jN 1))] [] (zM<|zZ) ?_
    refine jE ⟨_, (.tmp (d := (.val (.int .i64 (1)))) rfl .nil), ?_⟩
    show kA.val (.int .i64 _) = _
    unfold xV; simp [*]
   ·replace h3 := ne_of_beq_false h3
    refine kx [(7, (vb (o == 7)))] [] (zE gA<|zM<|zZ) ?_
    refine jF (b := (o == 7)) rfl (fun h4 => ?_) (fun h4 => ?_)
    ·replace h4 := eq_of_beq h4
     refine jB<|kx [(2, (jN 1))] [] (zM<|zZ) ?_
     refine jE ⟨_, (.tmp (d := (.val (.int .i64 (1)))) rfl .nil), ?_⟩
     show kA.val (.int .i64 _) = _
     unfold xV; simp [*]
    ·replace h4 := ne_of_beq_false h4
     refine jB<|jB<|kx [(10, (vb (o == 2)))] [] (zE gA<|zM<|zZ) ?_
     refine jF (b := (o == 2)) rfl (fun h5 => ?_) (fun h5 => ?_)
     ·replace h5 := eq_of_beq h5
      refine jD<|jF rfl (fun _ => ?_) (fun h => absurd (Eq.trans (Eq.symm (show ((o == 2)) = true from beq_iff_eq.2 h5)) h) (by decide))
      refine jB<|kx [(2, (jN 2))] [] (zM<|zZ) ?_
      refine jE ⟨_, (.tmp (d := (.val (.int .i64 (2)))) rfl .nil), ?_⟩
      show kA.val (.int .i64 _) = _
      unfold xV; simp [*]
     ·replace h5 := ne_of_beq_false h5
      refine jB<|kx [(10, (vb (o == 3)))] [] (zE gA<|zM<|zZ) ?_
      refine jF (b := (o == 3)) rfl (fun h6 => ?_) (fun h6 => ?_)
      ·replace h6 := eq_of_beq h6
       refine jD<|jF rfl (fun _ => ?_) (fun h => absurd (Eq.trans (Eq.symm (show ((o == 3)) = true from beq_iff_eq.2 h6)) h) (by decide))
       refine jB<|kx [(2, (jN 2))] [] (zM<|zZ) ?_
       refine jE ⟨_, (.tmp (d := (.val (.int .i64 (2)))) rfl .nil), ?_⟩
       show kA.val (.int .i64 _) = _
       unfold xV; simp [*]
      ·replace h6 := ne_of_beq_false h6
       refine jB<|kx [(10, (vb (o == 4)))] [] (zE gA<|zM<|zZ) ?_
       refine jF (b := (o == 4)) rfl (fun h7 => ?_) (fun h7 => ?_)
       ·replace h7 := eq_of_beq h7
        refine jD<|jF rfl (fun _ => ?_) (fun h => absurd (Eq.trans (Eq.symm (show ((o == 4)) = true from beq_iff_eq.2 h7)) h) (by decide))
        refine jB<|kx [(2, (jN 2))] [] (zM<|zZ) ?_
        refine jE ⟨_, (.tmp (d := (.val (.int .i64 (2)))) rfl .nil), ?_⟩
        show kA.val (.int .i64 _) = _
        unfold xV; simp [*]
       ·replace h7 := ne_of_beq_false h7
        refine kx [(10, (vb (o == 5)))] [] (zE gA<|zM<|zZ) ?_
        refine jF (b := (o == 5)) rfl (fun h8 => ?_) (fun h8 => ?_)
        ·replace h8 := eq_of_beq h8
         refine jB<|kx [(2, (jN 2))] [] (zM<|zZ) ?_
         refine jE ⟨_, (.tmp (d := (.val (.int .i64 (2)))) rfl .nil), ?_⟩
         show kA.val (.int .i64 _) = _
         unfold xV; simp [*]
        ·replace h8 := ne_of_beq_false h8
         refine jD<|jB<|kx [(2, (vi (-1)))] [] (zM<|zZ) ?_
         refine jE ⟨_, (.tmp (d := (.val (.int .i64 (-1)))) rfl .nil), ?_⟩
         show kA.val (.int .i64 _) = _
         unfold xV; simp [*]
theorem jok_at {L : List JV} {N n a : Nat} (h : ∀ x ∈ L, JOk N n x) (ha : a < L.length) : JOk N n (L.getD a jz) := by
 rw [List.getD_eq_getElem?_getD, List.getElem?_eq_getElem ha]; exact h _ (List.getElem_mem _)
def TnsOk (N : Nat) (t : List kK) : Prop := ∀ x ∈ t, mF x.n (qB x.n) N
theorem tn_get {N : Nat} {t : List kK} (h : TnsOk N t) {k : Nat} (hk : k < t.length) : mF (t.getD k tz).n (qB (t.getD k tz).n) N := by
 rw [List.getD_eq_getElem?_getD, List.getElem?_eq_getElem hk]; exact h _ (List.getElem_mem _)
theorem j_unset (x : kD) (p : Rat) (hx : mF x p 1048576) : jT Tryz.prog 210 [(jH x)] (.val (.bool ((unsB x)))) := by
 refine jJ Tryz.func210 rfl cb210 rfl ?_
 show qR _ _ _ _ ⟨[(0, (.d (jH x)))], []⟩
 refine jB<|kx [(1, (.ref 0 0))] [(0, some (bx (jH x)))] (zN (xA 0)<|zM<|zZ) ?_
 refine jB<|kx [(2, (vb (((!x.num.neg && !x.den.neg) && (((x.num.gs.length : Nat) : Int) == 0)) && (((x.den.gs.length : Nat) : Int) == 0))))] [] ?_ ?_
 ·refine zE (qD yA)<|zE (qD vJ)<|zR (uL sh4)<|zE fC<|zE (oV (vb (!x.num.neg)) (qH (by kernel_rfl)))<|?_
  rcases hb1 : (!x.num.neg) with _ | _
  ·exact zK<|zK<|zK<|zK<|zE yM<|zM<|zK<|zK<|zK<|zK<|zK<|zE yM<|zM<|zK<|zK<|zK<|zK<|zK<|zE yM<|zM<|zZ
  ·refine zE (qD xE)<|zE (qD vJ)<|zR (uL sh4)<|zE fC<|zE aJ<|zE (oV (vb (true && !x.den.neg)) (qH (by kernel_rfl)))<|?_
   rcases hb2 : (true && !x.den.neg) with _ | _
   ·exact zK<|zK<|zK<|zK<|zK<|zE yM<|zM<|zK<|zK<|zK<|zK<|zK<|zE yM<|zM<|zZ
   ·refine zE (qD yA)<|zE (qD vT)<|zR (uL zG)<|zE (vX kM)<|zE gA<|zE aJ<|zE (oV (vb (true && (((x.num.gs.length : Nat) : Int) == 0))) (qH (by kernel_rfl)))<|?_
    rcases hb3 : (true && (((x.num.gs.length : Nat) : Int) == 0)) with _ | _
    ·exact zK<|zK<|zK<|zK<|zK<|zE yM<|zM<|zZ
    ·exact zE (qD xE)<|zE (qD vT)<|zR (uL zG)<|zE (vX kM)<|zE gA<|zE aJ<|zM<|zZ
 refine jE ⟨_, (.tmp (d := (.val (.bool ((((!x.num.neg && !x.den.neg) && (((x.num.gs.length : Nat) : Int) == 0)) && (((x.den.gs.length : Nat) : Int) == 0)))))) rfl .nil), ?_⟩
 rfl
end Go.Proofs.YtnajallgoaiahaaGreatDoor
