/- Part 12 of a proof: rules, plain facts, and functions walked. -/
import Derived.Test.YtihgdjljnaekmaaGreatM11
import Derived.Test.YtihgdjljnaekmaaGreatM10
import Derived.Test.YtihgdjljnaekmaaGreatM8
import Derived.Test.YtihgdjljnaekmaaGreatChecked
set_option linter.unusedVariables false
set_option linter.unusedSimpArgs false
namespace Go.Fid
def kW (z : Int) : Bool := decide (-9223372036854775808 ≤ z) && decide (z ≤ 9223372036854775807)
def jN (z : Int) : Int := if kW z = true then z else 0
theorem fits64_t {z : Int} (h1 : -9223372036854775808 ≤ z) (h2 : z ≤ 9223372036854775807) : kW z = true := by simp [kW, h1, h2]
theorem fits64_f {z : Int} (h : 9223372036854775808 < z.natAbs) : kW z = false := by
  unfold kW
  by_cases h1 : -9223372036854775808 ≤ z
  · have : ¬ z ≤ 9223372036854775807 := by omega
    simp [this]
  · simp [h1]
theorem fits64_b {z : Int} (h : kW z = true) : -9223372036854775808 ≤ z ∧ z ≤ 9223372036854775807 := by
  simpa [kW] using h
theorem fC {z : Int} (h : kW z = true) : jN z = z := if_pos h
theorem smallI_f {z : Int} (h : kW z = false) : jN z = 0 := by unfold jN; rw [h]; rfl
theorem gz_eq (z : Int) : jV (jR z) = ofNat z.natAbs := by unfold jV; rw [validI_ofZ, if_pos rfl]; rfl
theorem gz_dig (z : Int) : Dig (jV (jR z)) := by rw [gz_eq]; exact jY _
theorem gz_val (z : Int) : val (jV (jR z)) = z.natAbs := by rw [gz_eq]; exact jX _
theorem gz_long {z : Int} (h : 3 < (jV (jR z)).length) : 9223372036854775808 < z.natAbs := by
  rw [gz_eq] at h
  by_cases hh : z.natAbs < pw 3
  · have := qJ hh; omega
  · have : pw 3 = 1000000000000000000000000000 := by simp [pw]
    omega
theorem gz_neg (z : Int) : (jR z).neg = decide (z < 0) := by
  show (decide (z < 0) && z.natAbs != 0) = decide (z < 0)
  by_cases h : z < 0
  · have : z.natAbs ≠ 0 := by omega
    simp [h, this]
  · simp [h]
theorem gz_lenp {z : Int} (h : z ≠ 0) : 0 < (jV (jR z)).length := by
  rw [gz_eq]; exact gS (by omega)
theorem val_drop_le (l : List Nat) (k : Nat) : val (l.drop k) ≤ val l := by
  induction l generalizing k with
  | nil => simp
  | cons d l ih =>
    cases k with
    | zero => simp
    | succ k =>
      rw [List.drop_succ_cons]
      have := ih k
      show _ ≤ d + 1000000000 * val l
      omega
theorem gz_step {z : Int} {j n : Nat} (hj : j < (jV (jR z)).length) (hn : n = val ((jV (jR z)).drop ((jV (jR z)).length - j))) :
    n * 1000000000 + (jV (jR z)).getD ((jV (jR z)).length - 1 - j) 0 = val ((jV (jR z)).drop ((jV (jR z)).length - (j + 1))) := by
  rw [cX _ j hj, ← hn]; omega
theorem gz_over {z : Int} {j n : Nat} (hj : j < (jV (jR z)).length) (hn : n = val ((jV (jR z)).drop ((jV (jR z)).length - j)))
    (h : (9223372036854775808 - (jV (jR z)).getD ((jV (jR z)).length - 1 - j) 0) / 1000000000 < n) : 9223372036854775808 < z.natAbs := by
  have e := gz_step hj hn
  have h2 := val_drop_le (jV (jR z)) ((jV (jR z)).length - (j + 1))
  have hd := (gz_dig z).getD ((jV (jR z)).length - 1 - j)
  rw [gz_val, ← e] at h2
  omega
theorem gz_room {z : Int} {j n : Nat} (h : ¬ (9223372036854775808 - (jV (jR z)).getD ((jV (jR z)).length - 1 - j) 0) / 1000000000 < n) :
    n * 1000000000 + (jV (jR z)).getD ((jV (jR z)).length - 1 - j) 0 ≤ 9223372036854775808 := by
  have hd := (gz_dig z).getD ((jV (jR z)).length - 1 - j)
  omega
theorem gz_end {z : Int} {n : Nat} (hn : n = val ((jV (jR z)).drop ((jV (jR z)).length - (jV (jR z)).length))) : n = z.natAbs := by
  rw [Nat.sub_self, List.drop_zero, gz_val] at hn; exact hn
theorem sm_n {z : Int} {n : Nat} (hn : n = z.natAbs) (hb : n ≤ 9223372036854775808) (h : z < 0) : jN z = -((n : Nat) : Int) ∧ kW z = true := by
  have hf : kW z = true := fits64_t (by omega) (by omega)
  exact ⟨by rw [fC hf]; omega, hf⟩
theorem sm_p {z : Int} {n : Nat} (hn : n = z.natAbs) (hb : n < 9223372036854775808) (h : ¬ z < 0) : jN z = ((n : Nat) : Int) ∧ kW z = true := by
  have hf : kW z = true := fits64_t (by omega) (by omega)
  exact ⟨by rw [fC hf]; omega, hf⟩
theorem sm_x {z : Int} (hb : z = 9223372036854775808) : jN z = 0 ∧ kW z = false := by subst hb; decide
theorem sm_neg {z : Int} (h : (decide (0 < (((jV (jR z)).length : Nat) : Int)) && (jR z).neg) = true) : z < 0 := by
  rw [gz_neg, Bool.and_eq_true] at h; exact of_decide_eq_true h.2
theorem sm_pos {z : Int} (h : (decide (0 < (((jV (jR z)).length : Nat) : Int)) && (jR z).neg) = false) : ¬ z < 0 := by
  intro hz
  have := gz_lenp (z := z) (by omega)
  rw [gz_neg, decide_eq_true hz, decide_eq_true (show (0 : Int) < (((jV (jR z)).length : Nat) : Int) by omega)] at h
  cases h
theorem negu64 {n : Nat} (h : n ≤ 9223372036854775808) : IntKind.u64.wrap (0 - ((n : Nat) : Int)) = (((18446744073709551616 - n) % 18446744073709551616 : Nat) : Int) := by
  have : IntKind.u64.wrap (0 - ((n : Nat) : Int)) = (0 - ((n : Nat) : Int)) % 18446744073709551616 := by
    simp [IntKind.wrap, IntKind.bits, IntKind.signed]
  rw [this]; omega
theorem negi64 {n : Nat} (h : n ≤ 9223372036854775808) : IntKind.i64.wrap (((18446744073709551616 - n) % 18446744073709551616 : Nat) : Int) = -((n : Nat) : Int) := by
  simp [IntKind.wrap, IntKind.bits, IntKind.signed]
  split <;> omega
section
variable {b s a c d e o l : Bool}
end
end Go.Fid
set_option linter.unusedVariables false
set_option linter.unusedSimpArgs false
namespace Go.Fid
structure jB where
  a : Int
  b : Int
  c : Int
  d : Int
deriving DecidableEq
def qL (q : jB) : List Int := [q.a, q.b, q.c, q.d]
def eO (q : jB) : Prop := gD (qL q) ≠ 0
def qn (q : jB) : Int := q.a * q.a + q.b * q.b + q.c * q.c + q.d * q.d
def kB (p q : jB) : jB := ⟨p.a * q.a - p.b * q.b - p.c * q.c - p.d * q.d, p.a * q.b + p.b * q.a + p.c * q.d - p.d * q.c, p.a * q.c - p.b * q.d + p.c * q.a + p.d * q.b, p.a * q.d + p.b * q.c - p.c * q.b + p.d * q.a⟩
def uD (q : jB) : jB := ⟨q.a, -q.b, -q.c, -q.d⟩
def qsc (k : Int) (q : jB) : jB := ⟨k * q.a, k * q.b, k * q.c, k * q.d⟩
def q1 : jB := ⟨1, 0, 0, 0⟩
def q0 : jB := ⟨0, 0, 0, 0⟩
def qdv (q : jB) (k : Int) : jB := ⟨q.a.fdiv k, q.b.fdiv k, q.c.fdiv k, q.d.fdiv k⟩
def zV (q : jB) : jB := qdv q (dvL (qL q))
theorem qL_inj {p q : jB} (h : qL p = qL q) : p = q := by
  cases p; cases q; simp only [qL, List.cons.injEq, and_true] at h; obtain ⟨rfl, rfl, rfl, rfl⟩ := h; rfl
theorem qL_can (q : jB) : qL (zV q) = redL (qL q) := rfl
theorem qL_sc (k : Int) (q : jB) : qL (qsc k q) = (qL q).map (k * ·) := rfl
theorem qnz_iff {q : jB} : eO q ↔ q ≠ q0 := by
  unfold eO
  rw [Ne, sgnL_zero]
  constructor
  · intro h e; subst e; exact h (by simp [qL, q0])
  · intro h e
    refine h (qL_inj ?_)
    simp only [qL, List.mem_cons, List.not_mem_nil, or_false, forall_eq_or_imp, forall_eq] at e
    obtain ⟨e1, e2, e3, e4⟩ := e
    simp [qL, q0, e1, e2, e3, e4]
theorem qn_nn (q : jB) : 0 ≤ qn q := by
  unfold qn
  have h : ∀ x : Int, 0 ≤ x * x := fun x => by
    rcases Int.le_total 0 x with h | h
    · exact Int.mul_nonneg h h
    · exact Int.mul_nonneg_of_nonpos_of_nonpos h h
  have := h q.a; have := h q.b; have := h q.c; have := h q.d
  omega
theorem qsq_nn (x : Int) : 0 ≤ x * x := by
  rcases Int.le_total 0 x with h | h
  · exact Int.mul_nonneg h h
  · exact Int.mul_nonneg_of_nonpos_of_nonpos h h
theorem qsq_0 {x : Int} (h : x * x = 0) : x = 0 := by
  rcases Int.mul_eq_zero.1 h with h | h <;> exact h
theorem qn_0 {q : jB} : qn q = 0 ↔ q = q0 := by
  constructor
  · intro h
    unfold qn at h
    have h1 := qsq_nn q.a; have h2 := qsq_nn q.b; have h3 := qsq_nn q.c; have h4 := qsq_nn q.d
    have e1 := qsq_0 (x := q.a) (by omega)
    have e2 := qsq_0 (x := q.b) (by omega)
    have e3 := qsq_0 (x := q.c) (by omega)
    have e4 := qsq_0 (x := q.d) (by omega)
    exact qL_inj (by simp [qL, q0, e1, e2, e3, e4])
  · intro h; subst h; rfl
theorem mT {q : jB} : eO q ↔ qn q ≠ 0 := by rw [qnz_iff, Ne, Ne, qn_0]
theorem qn_mul (p q : jB) : qn (kB p q) = qn p * qn q := by
  unfold qn kB; grind
theorem xB {p q : jB} (hp : eO p) (hq : eO q) : eO (kB p q) := by
  rw [mT] at hp hq ⊢
  rw [qn_mul]; exact Int.mul_ne_zero hp hq
theorem qn_cj (q : jB) : qn (uD q) = qn q := by unfold qn uD; grind
theorem xK {q : jB} (h : eO q) : eO (uD q) := by rw [mT] at h ⊢; rwa [qn_cj]
theorem vC (p q r : jB) : kB (kB p q) r = kB p (kB q r) := by
  unfold kB; simp only [jB.mk.injEq]; refine ⟨?_, ?_, ?_, ?_⟩ <;> grind
theorem qmul_cj (q : jB) : kB q (uD q) = qsc (qn q) q1 := by
  unfold kB uD qsc qn q1; simp only [jB.mk.injEq]; refine ⟨?_, ?_, ?_, ?_⟩ <;> grind
theorem qcj_mul (q : jB) : kB (uD q) q = qsc (qn q) q1 := by
  unfold kB uD qsc qn q1; simp only [jB.mk.injEq]; refine ⟨?_, ?_, ?_, ?_⟩ <;> grind
theorem qmul_1 (q : jB) : kB q q1 = q := by unfold kB q1; cases q; simp
theorem q1_mul (q : jB) : kB q1 q = q := by unfold kB q1; cases q; simp
theorem mE (k : Int) (p q : jB) : kB (qsc k p) q = qsc k (kB p q) := by
  unfold kB qsc; simp only [jB.mk.injEq]; refine ⟨?_, ?_, ?_, ?_⟩ <;> grind
theorem nA (k : Int) (p q : jB) : kB p (qsc k q) = qsc k (kB p q) := by
  unfold kB qsc; simp only [jB.mk.injEq]; refine ⟨?_, ?_, ?_, ?_⟩ <;> grind
theorem qsc_sc (k l : Int) (q : jB) : qsc k (qsc l q) = qsc (k * l) q := by
  unfold qsc; simp only [jB.mk.injEq]; refine ⟨?_, ?_, ?_, ?_⟩ <;> grind
theorem qsc_1 (q : jB) : qsc 1 q = q := by unfold qsc; cases q; simp
theorem qcj_sc (k : Int) (q : jB) : uD (qsc k q) = qsc k (uD q) := by
  unfold qsc uD; simp only [jB.mk.injEq]; refine ⟨?_, ?_, ?_, ?_⟩ <;> grind
theorem qn_sc (k : Int) (q : jB) : qn (qsc k q) = k * k * qn q := by unfold qn qsc; grind
theorem qsc_nz {k : Int} {q : jB} (hk : k ≠ 0) (h : eO q) : eO (qsc k q) := by
  rw [mT] at h ⊢; rw [qn_sc]; exact Int.mul_ne_zero (Int.mul_ne_zero hk hk) h
def yG (p q : jB) : Prop := ∃ k l : Int, k ≠ 0 ∧ l ≠ 0 ∧ qsc k p = qsc l q
theorem yG.refl (p : jB) : yG p p := ⟨1, 1, by decide, by decide, rfl⟩
theorem yG.symm {p q : jB} (h : yG p q) : yG q p := by
  obtain ⟨k, l, h1, h2, h3⟩ := h; exact ⟨l, k, h2, h1, h3.symm⟩
theorem yG.trans {p q r : jB} (h : yG p q) (g : yG q r) : yG p r := by
  obtain ⟨k, l, h1, h2, h3⟩ := h
  obtain ⟨k', l', g1, g2, g3⟩ := g
  refine ⟨k' * k, l * l', Int.mul_ne_zero g1 h1, Int.mul_ne_zero h2 g2, ?_⟩
  rw [← qsc_sc, h3, qsc_sc, Int.mul_comm k' l, ← qsc_sc, g3, qsc_sc]
theorem yG.sc {k : Int} (hk : k ≠ 0) (p : jB) : yG (qsc k p) p := ⟨1, k, by decide, hk, by rw [qsc_1]⟩
theorem yG.mul {p p' q q' : jB} (h : yG p p') (g : yG q q') : yG (kB p q) (kB p' q') := by
  obtain ⟨k, l, h1, h2, h3⟩ := h
  obtain ⟨k', l', g1, g2, g3⟩ := g
  refine ⟨k * k', l * l', Int.mul_ne_zero h1 g1, Int.mul_ne_zero h2 g2, ?_⟩
  rw [← qsc_sc, ← nA, ← mE, h3, g3, mE, nA, qsc_sc]
theorem yG.cj {p q : jB} (h : yG p q) : yG (uD p) (uD q) := by
  obtain ⟨k, l, h1, h2, h3⟩ := h
  exact ⟨k, l, h1, h2, by rw [← qcj_sc, h3, qcj_sc]⟩
theorem yG.nz {p q : jB} (h : yG p q) (hp : eO p) : eO q := by
  obtain ⟨k, l, h1, h2, h3⟩ := h
  have hk := qsc_nz h1 hp
  rw [h3, mT, qn_sc] at hk
  rw [mT]; intro e; exact hk (by rw [e, Int.mul_zero])
theorem qcan_back {q : jB} (h : eO q) : qsc (dvL (qL q)) (zV q) = q := qL_inj (by rw [qL_sc, qL_can]; exact redL_back h)
theorem cP {q : jB} (h : eO q) : yG (zV q) q := ⟨dvL (qL q), 1, dvL_ne h, by decide, by rw [qcan_back h, qsc_1]⟩
theorem qcan_nz {q : jB} (h : eO q) : eO (zV q) := (cP h).symm.nz h
theorem qcan_sc {k : Int} (hk : k ≠ 0) {q : jB} (h : eO q) : zV (qsc k q) = zV q := qL_inj (by rw [qL_can, qL_sc, qL_can, redL_scale hk h])
theorem qcan_iff {p q : jB} (hp : eO p) (hq : eO q) : zV p = zV q ↔ yG p q := by
  constructor
  · intro h
    have h1 := (cP hp).symm
    rw [h] at h1
    exact h1.trans (cP hq)
  · rintro ⟨k, l, h1, h2, h3⟩
    rw [← qcan_sc h1 hp, h3, qcan_sc h2 hq]
theorem fdiv_abs {x d : Int} (hd : d ≠ 0) (h : d ∣ x) : (x.fdiv d).natAbs ≤ x.natAbs := by
  obtain ⟨e, rfl⟩ := h
  rw [Int.mul_fdiv_cancel_left _ hd, Int.natAbs_mul]
  exact Nat.le_mul_of_pos_left _ (Int.natAbs_pos.2 hd)
def inQ (z : Int) : Prop := -1048576 ≤ z ∧ z ≤ 1048576
instance {z : Int} : Decidable (inQ z) := by unfold inQ; infer_instance
def cE (q : jB) : Prop := inQ q.a ∧ inQ q.b ∧ inQ q.c ∧ inQ q.d
instance {q : jB} : Decidable (cE q) := by unfold cE; infer_instance
def cQ (q : jB) : Prop := eO q ∧ cE q
def qV (q : jB) : jB := if cE (zV q) then zV q else q0
def qC (q : jB) : Nat := if cE (zV q) then 0 else 3
theorem qV_fit (q : jB) : cE (qV q) := by
  unfold qV; split
  · assumption
  · decide
theorem qC_01 (q : jB) : qC q = 0 ∨ qC q = 3 := by unfold qC; split <;> simp
theorem qC_0 {q : jB} : qC q = 0 ↔ cE (zV q) := by unfold qC; split <;> simp_all
theorem qV_y {q : jB} (h : cE (zV q)) : qV q = zV q := if_pos h
theorem qV_n {q : jB} (h : ¬ cE (zV q)) : qV q = q0 := if_neg h
theorem qC_y {q : jB} (h : cE (zV q)) : qC q = 0 := if_pos h
theorem qC_n {q : jB} (h : ¬ cE (zV q)) : qC q = 3 := if_neg h
theorem qV_c0 {q : jB} (h : qC q = 0) : qV q = zV q := qV_y (qC_0.1 h)
theorem gU {q : jB} (hq : eO q) (h : qC q = 0) : cQ (qV q) := ⟨by rw [qV_c0 h]; exact qcan_nz hq, qV_fit q⟩
theorem inQ_fdiv {x d : Int} (hd : d ≠ 0) (h : d ∣ x) (hx : inQ x) : inQ (x.fdiv d) := by
  have := fdiv_abs hd h
  unfold inQ at hx ⊢; omega
theorem qcan_fit {q : jB} (h : cQ q) : cE (zV q) := by
  have hd := dvL_ne h.1
  obtain ⟨h1, h2, h3, h4⟩ := h.2
  have hv : ∀ z ∈ qL q, dvL (qL q) ∣ z := dvL_dvd
  exact ⟨inQ_fdiv hd (hv _ (by simp [qL])) h1, inQ_fdiv hd (hv _ (by simp [qL])) h2, inQ_fdiv hd (hv _ (by simp [qL])) h3, inQ_fdiv hd (hv _ (by simp [qL])) h4⟩
theorem qcj_fit {q : jB} (h : cE q) : cE (uD q) := by
  obtain ⟨h1, h2, h3, h4⟩ := h
  unfold cE uD inQ at *
  refine ⟨h1, ?_, ?_, ?_⟩ <;> dsimp only at * <;> omega
theorem qcj_ok {q : jB} (h : cQ q) : cQ (uD q) := ⟨xK h.1, qcj_fit h.2⟩
theorem qC_ok {q : jB} (h : cQ q) : qC q = 0 := qC_0.2 (qcan_fit h)
theorem gL {q : jB} (h : cQ q) : qC (uD q) = 0 := qC_ok (qcj_ok h)
theorem nL {q : jB} : cQ q ↔ yT q.a q.b q.c q.d = 0 := by
  constructor
  · rintro ⟨h, h1, h2, h3, h4⟩
    refine dF (fun e => ?_) ⟨h1, h2, h3, h4⟩
    obtain ⟨e1, e2, e3, e4⟩ := e
    exact qnz_iff.1 h (qL_inj (by simp [qL, q0, e1, e2, e3, e4]))
  · intro h
    unfold yT at h
    split at h
    · cases h
    · rename_i hz
      split at h
      · rename_i hf
        refine ⟨qnz_iff.2 fun e => hz ?_, hf⟩
        subst e; simp [q0]
      · cases h
theorem q1_ok : cQ q1 := nL.2 (by decide)
theorem q1_can : zV q1 = q1 := by decide
def Qcn (q : jB) : Prop := cQ q ∧ zV q = q
theorem qV_eq {q : jB} (hq : eO q) (h : qC q = 0) : yG (qV q) q := by rw [qV_c0 h]; exact cP hq
theorem Qcn.ext {p q : jB} (hp : Qcn p) (hq : Qcn q) (h : yG p q) : p = q := by
  rw [← hp.2, ← hq.2]; exact (qcan_iff hp.1.1 hq.1.1).2 h
def qdot (p q : jB) : Int := p.a * q.a + p.b * q.b + p.c * q.c + p.d * q.d
def chQ (p q : jB) : Rat := ((1 : Int) : Rat) - ((qdot p q : Int) : Rat) * ((qdot p q : Int) : Rat) / (((qn p : Int) : Rat) * ((qn q : Int) : Rat))
def cU : List Int → Int
  | [] => 0
  | z :: r => if z = 0 then cU r else z
theorem dM : ∀ zs : List Int, gD zs = kF (cU zs)
  | [] => rfl
  | z :: r => by
    unfold gD cU
    split
    · exact dM r
    · rfl
theorem cM {z : Int} : kF z = 0 ↔ z = 0 := ⟨fun h => Classical.byContradiction fun g => eZ g h, fun h => by subst h; rfl⟩
theorem fst_0 {a b c d : Int} (h : kF a ≠ 0) : a = cU [a, b, c, d] := by
  unfold cU; rw [if_neg (fun e => h (cM.2 e))]
theorem fst_1 {a b c d : Int} (h1 : kF a = 0) (h : kF b ≠ 0) : b = cU [a, b, c, d] := by
  unfold cU; rw [if_pos (cM.1 h1)]; unfold cU; rw [if_neg (fun e => h (cM.2 e))]
theorem fst_2 {a b c d : Int} (h1 : kF a = 0) (h2 : kF b = 0) (h : kF c ≠ 0) : c = cU [a, b, c, d] := by
  unfold cU; rw [if_pos (cM.1 h1)]; unfold cU; rw [if_pos (cM.1 h2)]; unfold cU; rw [if_neg (fun e => h (cM.2 e))]
theorem fst_3 {a b c d : Int} (h1 : kF a = 0) (h2 : kF b = 0) (h3 : kF c = 0) : d = cU [a, b, c, d] := by
  unfold cU; rw [if_pos (cM.1 h1)]; unfold cU; rw [if_pos (cM.1 h2)]; unfold cU; rw [if_pos (cM.1 h3)]; unfold cU; split
  · rename_i h; rw [h]; rfl
  · rfl
theorem dv_n {q : jB} {f : Int} (hf : f = cU (qL q)) (h : kF f < 0) : dvL (qL q) = -((gcdL (qL q) : Nat) : Int) := by
  unfold dvL; rw [dM, ← hf, if_pos h]
theorem dv_p {q : jB} {f : Int} (hf : f = cU (qL q)) (h : ¬ kF f < 0) : dvL (qL q) = ((gcdL (qL q) : Nat) : Int) := by
  unfold dvL; rw [dM, ← hf, if_neg h]
theorem dv_ns {q : jB} {s : Int} (hs : s = gD (qL q)) (h : s < 0) : dvL (qL q) = -((gcdL (qL q) : Nat) : Int) := by
  unfold dvL; rw [← hs, if_pos h]
theorem dv_ps {q : jB} {s : Int} (hs : s = gD (qL q)) (h : ¬ s < 0) : dvL (qL q) = ((gcdL (qL q) : Nat) : Int) := by
  unfold dvL; rw [← hs, if_neg h]
theorem gcd_n {q : jB} (h : eO q) : ((gcdL (qL q) : Nat) : Int) ≠ 0 := fun e => gcdL_ne h (by omega)
theorem fst_len {n : Nat} : ∀ (zs : List Int), (∀ z ∈ zs, xM z ≤ n) → xM (cU zs) ≤ n
  | [], _ => by have : xM 0 = 0 := by decide +kernel
                unfold cU; omega
  | z :: r, h => by
    unfold cU; split
    · exact fst_len r fun y hy => h y (List.mem_cons_of_mem _ hy)
    · exact h z (List.mem_cons_self ..)
theorem fst_iok {f : Int} {q : jB} {n : Nat} (hf : f = cU (qL q)) (h : ∀ z ∈ qL q, xM z ≤ n) : zW (jR f) f n := by subst hf; exact gO (fst_len _ h)
theorem q4_len {a b c d : Int} {n : Nat} (ha : zW (jR a) a n) (hb : zW (jR b) b n) (hc : zW (jR c) c n) (hd : zW (jR d) d n) : ∀ z ∈ qL ⟨a, b, c, d⟩, xM z ≤ n := by
  intro z hz
  simp only [qL, List.mem_cons, List.not_mem_nil, or_false] at hz
  rcases hz with rfl | rfl | rfl | rfl
  · exact ha.ln
  · exact hb.ln
  · exact hc.ln
  · exact hd.ln
theorem gcd_iok {q : jB} {n : Nat} (h : ∀ z ∈ qL q, xM z ≤ n) : zW (jR ((gcdL (qL q) : Nat) : Int)) ((gcdL (qL q) : Nat) : Int) n := gO (gcdL_len _ h)
def smB (x : Int) : Bool := (!(kW x) || decide (jN x < -1048576)) || decide (1048576 < jN x)
def smB' (x : Int) : Bool := (!(kW x) || decide (1048576 < jN x)) || decide (jN x < -1048576)
theorem smB_eq (x : Int) : smB' x = smB x := by unfold smB smB'; rw [Bool.or_assoc, Bool.or_assoc, Bool.or_comm (decide _) (decide _)]
theorem smB_f {x : Int} (h : smB x = false) : inQ x ∧ jN x = x := by
  simp only [smB, Bool.or_eq_false_iff, Bool.not_eq_false', decide_eq_false_iff_not] at h
  obtain ⟨⟨h1, h2⟩, h3⟩ := h
  rw [fC h1] at h2 h3
  exact ⟨⟨by omega, by omega⟩, fC h1⟩
theorem smB_t {x : Int} (h : smB x = true) : ¬ inQ x := fun hx => by
  unfold inQ at hx
  have hf : kW x = true := fits64_t (by omega) (by omega)
  simp only [smB, fC hf, hf, Bool.not_true, Bool.false_or, Bool.or_eq_true, decide_eq_true_eq] at h
  omega
theorem prim_n {q : jB} {d x : Int} (hd : dvL (qL q) = d) (hx : x = q.a ∨ x = q.b ∨ x = q.c ∨ x = q.d) (h : smB (x.fdiv d) = true) : qC q = 3 ∧ qV q = ⟨0, 0, 0, 0⟩ := by
  have hn : ¬ cE (zV q) := fun hf => by
    refine smB_t h ?_
    subst hd
    obtain ⟨h1, h2, h3, h4⟩ := hf
    rcases hx with rfl | rfl | rfl | rfl
    · exact h1
    · exact h2
    · exact h3
    · exact h4
  exact ⟨qC_n hn, qV_n hn⟩
theorem prim_y {q : jB} {d : Int} (hd : dvL (qL q) = d) (h1 : smB (q.a.fdiv d) = false) (h2 : smB (q.b.fdiv d) = false) (h3 : smB (q.c.fdiv d) = false) (h4 : smB (q.d.fdiv d) = false) :
    qC q = 0 ∧ qV q = ⟨jN (q.a.fdiv d), jN (q.b.fdiv d), jN (q.c.fdiv d), jN (q.d.fdiv d)⟩ := by
  subst hd
  obtain ⟨f1, e1⟩ := smB_f h1
  obtain ⟨f2, e2⟩ := smB_f h2
  obtain ⟨f3, e3⟩ := smB_f h3
  obtain ⟨f4, e4⟩ := smB_f h4
  have hf : cE (zV q) := ⟨f1, f2, f3, f4⟩
  refine ⟨qC_y hf, ?_⟩
  rw [qV_y hf, e1, e2, e3, e4]; rfl
theorem cE.bd {q : jB} (h : cE q) : (-1048576 ≤ q.a ∧ q.a ≤ 1048576) ∧ (-1048576 ≤ q.b ∧ q.b ≤ 1048576) ∧ (-1048576 ≤ q.c ∧ q.c ≤ 1048576) ∧ (-1048576 ≤ q.d ∧ q.d ≤ 1048576) := h
end Go.Fid
namespace Go.Fid
def svI (z : Int) (k : Nat) : Int := if z < 0 then -((val ((ofNat z.natAbs).drop k) : Nat) : Int) else ((val ((ofNat z.natAbs).drop k) : Nat) : Int)
theorem sv_0 (z : Int) : svI z 0 = z := by
  unfold svI; rw [List.drop_zero, jX]; split <;> omega
theorem sv_end (z : Int) : svI z (ofNat z.natAbs).length = 0 := by
  unfold svI; rw [List.drop_length]; split <;> rfl
theorem sv_n {z : Int} {k : Nat} (h : (jR z).neg = true) : svI z k = svI z (k + 1) * 1000000000 - (((ofNat z.natAbs).getD k 0 : Nat) : Int) := by
  rw [gz_neg] at h
  have h := of_decide_eq_true h
  unfold svI; rw [if_pos h, if_pos h, uK]; omega
theorem sv_p {z : Int} {k : Nat} (h : (jR z).neg = false) : svI z k = svI z (k + 1) * 1000000000 + (((ofNat z.natAbs).getD k 0 : Nat) : Int) := by
  rw [gz_neg] at h
  have h := of_decide_eq_false h
  unfold svI; rw [if_neg h, if_neg h, uK]; omega
theorem sv_bd {z : Int} (h1 : -9223372036854775808 ≤ z) (h2 : z ≤ 9223372036854775807) (k : Nat) : -9223372036854775808 ≤ svI z k ∧ svI z k ≤ 9223372036854775807 := by
  have h := val_drop_le (ofNat z.natAbs) k
  rw [jX] at h
  unfold svI; split <;> omega
theorem sv_b2 {z : Int} (h1 : -9223372036854775808 ≤ z) (h2 : z ≤ 9223372036854775807) (k : Nat) : -9223372036854775808 ≤ svI z (k + 1) * 1000000000 ∧ svI z (k + 1) * 1000000000 ≤ 9223372036854775807 := by
  have h := val_drop_le (ofNat z.natAbs) k
  rw [jX, uK] at h
  unfold svI; split <;> omega
theorem fit_of {z : Int} (h : (decide (qY z (-9223372036854775808) < 0) || decide (0 < qY z 9223372036854775807)) = false) : -9223372036854775808 ≤ z ∧ z ≤ 9223372036854775807 := by
  simp only [Bool.or_eq_false_iff, decide_eq_false_iff_not] at h
  refine ⟨dW (b := -9223372036854775808) (by omega), ?_⟩
  apply Classical.byContradiction
  intro hn
  have h3 := cO (a := z) (b := 9223372036854775807) (by omega)
  omega
theorem fit_no {z : Int} (h : (decide (qY z (-9223372036854775808) < 0) || decide (0 < qY z 9223372036854775807)) = true) : kW z = false ∧ jN z = 0 := by
  have hn : kW z = false := by
    rw [← Bool.not_eq_true]
    intro hf
    obtain ⟨h1, h2⟩ := fits64_b hf
    simp only [Bool.or_eq_true, decide_eq_true_eq] at h
    unfold qY at h
    rcases h with h | h
    · rw [if_neg (by omega)] at h; split at h <;> omega
    · split at h
      · omega
      · rw [if_neg (by omega)] at h; omega
  exact ⟨hn, smallI_f hn⟩
theorem fit_yes {z : Int} (h : -9223372036854775808 ≤ z ∧ z ≤ 9223372036854775807) : kW z = true ∧ jN z = z := ⟨fits64_t h.1 h.2, fC (fits64_t h.1 h.2)⟩
end Go.Fid
namespace Go.Fid
theorem sgs_0 {a b c d : Int} (h : kF a ≠ 0) : kF a = gD (qL ⟨a, b, c, d⟩) := by rw [dM]; exact congrArg kF (fst_0 h)
theorem sgs_1 {a b c d : Int} (h1 : kF a = 0) (h : kF b ≠ 0) : kF b = gD (qL ⟨a, b, c, d⟩) := by rw [dM]; exact congrArg kF (fst_1 h1 h)
theorem sgs_2 {a b c d : Int} (h1 : kF a = 0) (h2 : kF b = 0) (h : kF c ≠ 0) : kF c = gD (qL ⟨a, b, c, d⟩) := by rw [dM]; exact congrArg kF (fst_2 h1 h2 h)
theorem sgs_3 {a b c d : Int} (h1 : kF a = 0) (h2 : kF b = 0) (h3 : kF c = 0) : kF d = gD (qL ⟨a, b, c, d⟩) := by rw [dM]; exact congrArg kF (fst_3 h1 h2 h3)
def eY (p q : jB) : Bool := decide (qL (qV p) = qL (qV q))
theorem sameQ_iff {p q : jB} (hp : cQ p) (hq : cQ q) : eY p q = true ↔ yG p q := by
  unfold eY
  rw [decide_eq_true_iff, qV_c0 (qC_ok hp), qV_c0 (qC_ok hq)]
  exact ⟨fun h => (qcan_iff hp.1 hq.1).1 (qL_inj h), fun h => congrArg qL ((qcan_iff hp.1 hq.1).2 h)⟩
theorem qdot_bd {p q : jB} (hp : cQ p) (hq : cQ q) : -9223372036854775808 ≤ qdot p q ∧ qdot p q ≤ 9223372036854775807 := by
  obtain ⟨a1, a2, a3, a4⟩ := hp.2.bd
  obtain ⟨b1, b2, b3, b4⟩ := hq.2.bd
  have := xF a1 b1; have := xF a2 b2; have := xF a3 b3; have := xF a4 b4
  unfold qdot; omega
theorem qn_bd {p : jB} (hp : cQ p) : 1 ≤ qn p ∧ qn p ≤ 9223372036854775807 := by
  have h := qdot_bd hp hp
  have h0 := qn_nn p
  have h1 := mT.1 hp.1
  have e : qdot p p = qn p := rfl
  omega
theorem ql_i {z : Int} (h1 : -9223372036854775808 ≤ z) (h2 : z ≤ 9223372036854775807) : QL ((z : Int) : Rat) 3 := ql_int (z := z) (n := 3) (fA h1 h2) (by decide)
theorem ql_chQ {p q : jB} (hp : cQ p) (hq : cQ q) : QL (chQ p q) 16 := by
  have h1 := qdot_bd hp hq
  have h2 := qn_bd hp
  have h3 := qn_bd hq
  have g1 := ql_i h1.1 h1.2
  have g2 := ql_i (z := qn p) (by omega) h2.2
  have g3 := ql_i (z := qn q) (by omega) h3.2
  unfold chQ
  exact ql_sub (k := 16) (ql_i (z := 1) (by decide) (by decide)) (ql_div (k := 12) (ql_mul (k := 6) g1 g1 (by decide)) (ql_mul (k := 6) g2 g3 (by decide)) (by decide)) (by decide)
theorem chQ_di (p q : jB) : ((1 : Int) : Rat) - Rat.divInt (qdot p q * qdot p q) (qn p * qn q) = chQ p q := by
  unfold chQ; rw [← Rat.intCast_mul, ← Rat.intCast_mul, Rat.divInt_eq_div]
end Go.Fid
set_option linter.unusedVariables false
set_option linter.unusedSimpArgs false
namespace Go.Fid
structure jC where
  fr : Int
  to_ : Int
  turn : jB
deriving DecidableEq
def e0 : jC := ⟨0, 0, ⟨0, 0, 0, 0⟩⟩
def edgC (n : Int) (x : jC) : Nat :=
  if 0 ≤ x.fr ∧ x.fr < n ∧ 0 ≤ x.to_ ∧ x.to_ < n then (if x.fr = x.to_ then 13 else yT x.turn.a x.turn.b x.turn.c x.turn.d) else 2
def edsC (n : Int) : List jC → Nat
  | [] => 0
  | x :: l => if edgC n x = 0 then edsC n l else edgC n x
def qO (n : Int) (es : List jC) : Nat := if n < 1 ∨ 64 < n ∨ 256 < es.length then 3 else edsC n es
structure EOkE (n : Nat) (x : jC) : Prop where
  f0 : 0 ≤ x.fr
  f1 : x.fr < n
  t0 : 0 ≤ x.to_
  t1 : x.to_ < n
  ne : x.fr ≠ x.to_
  q : cQ x.turn
theorem edgC_ok {n : Nat} {x : jC} : edgC n x = 0 ↔ EOkE n x := by
  unfold edgC
  constructor
  · intro h
    split at h
    · rename_i hr
      split at h
      · cases h
      · rename_i hn
        exact ⟨hr.1, hr.2.1, hr.2.2.1, hr.2.2.2, hn, nL.2 h⟩
    · cases h
  · intro h
    rw [if_pos ⟨h.f0, h.f1, h.t0, h.t1⟩, if_neg h.ne]
    exact nL.1 h.q
def vS (n : Nat) (es : List jC) : Prop := ∀ x ∈ es, EOkE n x
theorem edsC_ok {n : Nat} : ∀ {es : List jC}, edsC n es = 0 ↔ vS n es
  | [] => by simp [edsC, vS]
  | x :: l => by
    unfold edsC
    split
    · rename_i h
      rw [edsC_ok (es := l)]
      exact ⟨fun g => List.forall_mem_cons.2 ⟨edgC_ok.1 h, g⟩, fun g => (List.forall_mem_cons.1 g).2⟩
    · rename_i h
      exact ⟨fun g => absurd g h, fun g => absurd (edgC_ok.2 (List.forall_mem_cons.1 g).1) h⟩
theorem edsC_at {n : Int} : ∀ {es : List jC} {k : Nat}, k < es.length → (∀ i, i < k → edgC n (es.getD i e0) = 0) → edgC n (es.getD k e0) ≠ 0 → edsC n es = edgC n (es.getD k e0)
  | [], k, h, _, _ => by simp at h
  | x :: l, 0, h, _, h2 => by simp only [edsC, List.getD_cons_zero] at h2 ⊢; rw [if_neg h2]
  | x :: l, k + 1, h, h1, h2 => by
    have hx := h1 0 (by omega)
    simp only [List.getD_cons_zero] at hx
    simp only [edsC, List.getD_cons_succ, hx, if_true] at h2 ⊢
    exact edsC_at (by simpa using h) (fun i hi => by have := h1 (i + 1) (by omega); simpa using this) h2
theorem edsC_end {n : Int} : ∀ {es : List jC}, (∀ i, i < es.length → edgC n (es.getD i e0) = 0) → edsC n es = 0
  | [], _ => rfl
  | x :: l, h => by
    have hx := h 0 (by simp)
    simp only [List.getD_cons_zero] at hx
    simp only [edsC, hx, if_true]
    exact edsC_end fun i hi => by have := h (i + 1) (by simpa using hi); simpa using this
theorem lopC_lim {n : Int} {es : List jC} (h : n < 1 ∨ 64 < n ∨ 256 < es.length) : qO n es = 3 := if_pos h
theorem lopC_eds {n : Int} {es : List jC} (h1 : ¬ n < 1) (h2 : ¬ 64 < n) (h3 : ¬ 256 < es.length) : qO n es = edsC n es := if_neg (fun h => by rcases h with h | h | h <;> omega)
theorem lopC_0 {n : Int} {es : List jC} (h : qO n es = 0) : 1 ≤ n ∧ n ≤ 64 ∧ es.length ≤ 256 ∧ vS n.toNat es := by
  unfold qO at h
  split at h
  · cases h
  · rename_i hn
    have h1 : 1 ≤ n := by omega
    refine ⟨h1, by omega, by omega, ?_⟩
    rw [show n = ((n.toNat : Nat) : Int) by omega] at h
    exact edsC_ok.1 h
theorem mY {n : Nat} {es : List jC} (h : vS n es) {k : Nat} (hk : k < es.length) : EOkE n (es.getD k e0) := by
  rw [List.getD_eq_getElem?_getD, List.getElem?_eq_getElem hk]
  exact h _ (List.getElem_mem hk)
def pA (p : List Int) (x : jC) : Int := p.getD x.fr.toNat 0
def pB (p : List Int) (x : jC) : Int := p.getD x.to_.toNat 0
def kp (g : Bool) (a b : Int) : Int := if g = true then min a b else a
def dp (g : Bool) (a b : Int) : Int := if g = true then max a b else b
def rl (k d q : Int) : Int := if q = d then k else q
def mrg (g : Bool) (a b : Int) (p : List Int) : List Int := p.map (rl (kp g a b) (dp g a b))
def kN (g : Bool) (n : Nat) (es : List jC) : Nat → List Int
  | 0 => (List.range n).map fun k => ((k : Nat) : Int)
  | k + 1 => if pA (kN g n es k) (es.getD k e0) = pB (kN g n es k) (es.getD k e0) then kN g n es k else mrg g (pA (kN g n es k) (es.getD k e0)) (pB (kN g n es k) (es.getD k e0)) (kN g n es k)
def zJ (g : Bool) (n : Nat) (es : List jC) : Nat → List Int
  | 0 => []
  | k + 1 => if pA (kN g n es k) (es.getD k e0) = pB (kN g n es k) (es.getD k e0) then zJ g n es k else zJ g n es k ++ [((k : Nat) : Int)]
theorem hM {g : Bool} {n : Nat} {es : List jC} {k : Nat} (h : pA (kN g n es k) (es.getD k e0) = pB (kN g n es k) (es.getD k e0)) : kN g n es (k + 1) = kN g n es k ∧ zJ g n es (k + 1) = zJ g n es k := ⟨if_pos h, if_pos h⟩
theorem hO {g : Bool} {n : Nat} {es : List jC} {k : Nat} (h : ¬ pA (kN g n es k) (es.getD k e0) = pB (kN g n es k) (es.getD k e0)) : kN g n es (k + 1) = mrg g (pA (kN g n es k) (es.getD k e0)) (pB (kN g n es k) (es.getD k e0)) (kN g n es k) ∧ zJ g n es (k + 1) = zJ g n es k ++ [((k : Nat) : Int)] := ⟨if_neg h, if_neg h⟩
theorem mrg_len (g : Bool) (a b : Int) (p : List Int) : (mrg g a b p).length = p.length := by simp [mrg]
theorem yE (g : Bool) (n : Nat) (es : List jC) : ∀ k, (kN g n es k).length = n
  | 0 => by simp [kN]
  | k + 1 => by
    unfold kN
    split
    · exact yE g n es k
    · rw [mrg_len]; exact yE g n es k
theorem tTak_len (g : Bool) (n : Nat) (es : List jC) : ∀ k, (zJ g n es k).length ≤ k
  | 0 => by simp [zJ]
  | k + 1 => by
    have := tTak_len g n es k
    unfold zJ
    split
    · omega
    · rw [List.length_append]; simp; omega
theorem nT {g : Bool} {n : Nat} {es : List jC} : ∀ {k : Nat} {z : Int}, z ∈ zJ g n es k → ∃ i : Nat, i < k ∧ z = i
  | 0, z, h => by simp [zJ] at h
  | k + 1, z, h => by
    unfold zJ at h
    split at h
    · obtain ⟨i, h1, h2⟩ := nT h; exact ⟨i, by omega, h2⟩
    · rcases List.mem_append.1 h with h | h
      · obtain ⟨i, h1, h2⟩ := nT h; exact ⟨i, by omega, h2⟩
      · exact ⟨k, by omega, by simpa using h⟩
theorem yL {g : Bool} {a b : Int} {p : List Int} {i : Nat} (h : i < p.length) : (mrg g a b p).getD i 0 = rl (kp g a b) (dp g a b) (p.getD i 0) := by
  simp [mrg, List.getD_eq_getElem?_getD, List.getElem?_eq_getElem h]
theorem rl_iff {g : Bool} {a b u v : Int} (h : a ≠ b) : rl (kp g a b) (dp g a b) u = rl (kp g a b) (dp g a b) v ↔ (u = v ∨ (u = a ∧ v = b) ∨ (u = b ∧ v = a)) := by
  unfold rl kp dp
  cases g <;> simp only [Bool.false_eq_true, if_false, if_true] <;> split <;> split <;> constructor <;> intro hh <;> omega
section
variable {n : Nat} {es : List jC}
theorem same_cls (h : vS n es) : ∀ {k : Nat}, k ≤ es.length → ∀ {i j : Nat}, i < n → j < n → ((kN true n es k).getD i 0 = (kN true n es k).getD j 0 ↔ (kN false n es k).getD i 0 = (kN false n es k).getD j 0)
  | 0, _, i, j, hi, hj => by simp [kN]
  | k + 1, hk, i, j, hi, hj => by
    have ih := fun {i j : Nat} (hi : i < n) (hj : j < n) => same_cls h (k := k) (by omega) hi hj
    have hx := mY h (k := k) (by omega)
    generalize he : es.getD k e0 = x at hx
    have hf : x.fr.toNat < n := by have := hx.f0; have := hx.f1; omega
    have ht : x.to_.toNat < n := by have := hx.t0; have := hx.t1; omega
    have e1 := ih hf ht
    by_cases hab : pA (kN true n es k) (es.getD k e0) = pB (kN true n es k) (es.getD k e0)
    · have hab2 : pA (kN false n es k) (es.getD k e0) = pB (kN false n es k) (es.getD k e0) := by
        rw [he] at hab ⊢; exact e1.1 hab
      rw [(hM hab).1, (hM hab2).1]; exact ih hi hj
    · have hab2 : ¬ pA (kN false n es k) (es.getD k e0) = pB (kN false n es k) (es.getD k e0) := by
        rw [he] at hab ⊢; exact fun e => hab (e1.2 e)
      rw [(hO hab).1, (hO hab2).1]
      rw [he] at hab hab2 ⊢
      have l1 := yE true n es k
      have l2 := yE false n es k
      rw [yL (by omega), yL (by omega), yL (by omega), yL (by omega), rl_iff hab, rl_iff hab2]
      unfold pA pB
      rw [ih hi hj, ih hi hf, ih hj ht, ih hi ht, ih hj hf]
theorem tTak_eq (h : vS n es) : ∀ {k : Nat}, k ≤ es.length → zJ true n es k = zJ false n es k
  | 0, _ => rfl
  | k + 1, hk => by
    have ih := tTak_eq h (k := k) (by omega)
    have hx := mY h (k := k) (by omega)
    have e1 := same_cls h (k := k) (by omega) (i := (es.getD k e0).fr.toNat) (j := (es.getD k e0).to_.toNat) (by have := hx.f0; have := hx.f1; omega) (by have := hx.t0; have := hx.t1; omega)
    by_cases hab : pA (kN true n es k) (es.getD k e0) = pB (kN true n es k) (es.getD k e0)
    · rw [(hM hab).2, (hM (e1.1 hab)).2, ih]
    · rw [(hO hab).2, (hO (fun e => hab (e1.2 e))).2, ih]
theorem nO (h : vS n es) : ∀ {k : Nat}, k ≤ es.length → ∀ {i : Nat}, i < n → 0 ≤ (kN true n es k).getD i 0 ∧ (kN true n es k).getD i 0 ≤ i
  | 0, _, i, hi => by simp [kN, List.getD_eq_getElem?_getD, hi]
  | k + 1, hk, i, hi => by
    have ih := fun {i : Nat} (hi : i < n) => nO h (k := k) (by omega) hi
    have hx := mY h (k := k) (by omega)
    by_cases hab : pA (kN true n es k) (es.getD k e0) = pB (kN true n es k) (es.getD k e0)
    · rw [(hM hab).1]; exact ih hi
    · rw [(hO hab).1, yL (by rw [yE]; exact hi)]
      have hf := ih (i := (es.getD k e0).fr.toNat) (by have := hx.f0; have := hx.f1; omega)
      have ht := ih (i := (es.getD k e0).to_.toNat) (by have := hx.t0; have := hx.t1; omega)
      have hi2 := ih hi
      unfold rl kp dp pA pB
      simp only [if_true]
      split <;> omega
theorem tPar_root (h : vS n es) : ∀ {k : Nat}, k ≤ es.length → ∀ {i : Nat}, i < n → (kN true n es k).getD ((kN true n es k).getD i 0).toNat 0 = (kN true n es k).getD i 0
  | 0, _, i, hi => by simp [kN, List.getD_eq_getElem?_getD, hi]
  | k + 1, hk, i, hi => by
    have ih := fun {i : Nat} (hi : i < n) => tPar_root h (k := k) (by omega) hi
    have rg := fun {i : Nat} (hi : i < n) => nO h (k := k) (by omega) hi
    have hx := mY h (k := k) (by omega)
    by_cases hab : pA (kN true n es k) (es.getD k e0) = pB (kN true n es k) (es.getD k e0)
    · rw [(hM hab).1]; exact ih hi
    · have l1 := yE true n es k
      have hf : (es.getD k e0).fr.toNat < n := by have := hx.f0; have := hx.f1; omega
      have ht : (es.getD k e0).to_.toNat < n := by have := hx.t0; have := hx.t1; omega
      have rf := rg hf; have rt := rg ht; have ri := rg hi
      have f1 := ih hf; have t1 := ih ht; have i1 := ih hi
      rw [(hO hab).1]
      rw [yL (i := i) (by omega)]
      have e : ∃ q, q = rl (kp true (pA (kN true n es k) (es.getD k e0)) (pB (kN true n es k) (es.getD k e0))) (dp true (pA (kN true n es k) (es.getD k e0)) (pB (kN true n es k) (es.getD k e0))) ((kN true n es k).getD i 0) := ⟨_, rfl⟩
      obtain ⟨q, hq⟩ := e
      rw [← hq]
      have hq0 : 0 ≤ q ∧ q < n ∧ (kN true n es k).getD q.toNat 0 = q ∧ q ≠ max (pA (kN true n es k) (es.getD k e0)) (pB (kN true n es k) (es.getD k e0)) := by
        unfold rl kp dp at hq
        simp only [if_true] at hq
        unfold pA pB at *
        split at hq
        · rcases Int.le_total ((kN true n es k).getD (es.getD k e0).fr.toNat 0) ((kN true n es k).getD (es.getD k e0).to_.toNat 0) with hm | hm
          · rw [Int.min_eq_left hm] at hq; subst hq; exact ⟨by omega, by omega, f1, by omega⟩
          · rw [Int.min_eq_right hm] at hq; subst hq; exact ⟨by omega, by omega, t1, by omega⟩
        · subst hq; exact ⟨by omega, by omega, i1, by assumption⟩
      rw [yL (by omega), hq0.2.2.1]
      unfold rl dp
      simp only [if_true]
      rw [if_neg hq0.2.2.2]
theorem mX (h : vS n es) (S : Nat → Prop) : ∀ {k : Nat}, k ≤ es.length → (∀ i : Nat, (i : Int) ∈ zJ true n es k → (S (es.getD i e0).fr.toNat ↔ S (es.getD i e0).to_.toNat)) → ∀ {i j : Nat}, i < n → j < n → (kN true n es k).getD i 0 = (kN true n es k).getD j 0 → (S i ↔ S j)
  | 0, _, _, i, j, hi, hj, e => by
    simp [kN, List.getD_eq_getElem?_getD, hi, hj] at e
    rw [show i = j by omega]
  | k + 1, hk, hS, i, j, hi, hj, e => by
    by_cases hab : pA (kN true n es k) (es.getD k e0) = pB (kN true n es k) (es.getD k e0)
    · rw [(hM hab).1] at e
      rw [(hM hab).2] at hS
      exact mX h S (by omega) hS hi hj e
    · have hx := mY h (k := k) (by omega)
      have hf : (es.getD k e0).fr.toNat < n := by have := hx.f0; have := hx.f1; omega
      have ht : (es.getD k e0).to_.toNat < n := by have := hx.t0; have := hx.t1; omega
      rw [(hO hab).2] at hS
      have ih := fun {i j : Nat} (hi : i < n) (hj : j < n) e => mX h S (k := k) (by omega) (fun i hi => hS i (List.mem_append_left _ hi)) (i := i) (j := j) hi hj e
      have hk1 := hS k (List.mem_append_right _ (by simp))
      have l1 := yE true n es k
      rw [(hO hab).1, yL (by omega), yL (by omega), rl_iff hab] at e
      rcases e with e | ⟨e1, e2⟩ | ⟨e1, e2⟩
      · exact ih hi hj e
      · exact (ih hi hf e1).trans (hk1.trans (ih ht hj e2.symm))
      · exact (ih hi ht e1).trans (hk1.symm.trans (ih hf hj e2.symm))
theorem tPar_ends (h : vS n es) : ∀ {k : Nat}, k ≤ es.length → ∀ {i : Nat}, i < k → (kN true n es k).getD (es.getD i e0).fr.toNat 0 = (kN true n es k).getD (es.getD i e0).to_.toNat 0
  | 0, _, i, hi => by omega
  | k + 1, hk, i, hi => by
    have hx := mY h (k := i) (by omega)
    have hf : (es.getD i e0).fr.toNat < n := by have := hx.f0; have := hx.f1; omega
    have ht : (es.getD i e0).to_.toNat < n := by have := hx.t0; have := hx.t1; omega
    have l1 := yE true n es k
    by_cases hik : i = k
    · subst hik
      by_cases hab : pA (kN true n es i) (es.getD i e0) = pB (kN true n es i) (es.getD i e0)
      · rw [(hM hab).1]; exact hab
      · rw [(hO hab).1, yL (by omega), yL (by omega), rl_iff hab]
        exact .inr (.inl ⟨rfl, rfl⟩)
    · have ih := tPar_ends h (k := k) (by omega) (i := i) (by omega)
      by_cases hab : pA (kN true n es k) (es.getD k e0) = pB (kN true n es k) (es.getD k e0)
      · rw [(hM hab).1]; exact ih
      · rw [(hO hab).1, yL (by omega), yL (by omega), rl_iff hab]; exact .inl ih
def tV (n : Nat) (es : List jC) : Nat → Nat → jB
  | 0, _ => q1
  | k + 1, j =>
    if pA (kN true n es k) (es.getD k e0) = pB (kN true n es k) (es.getD k e0) then tV n es k j
    else if pA (kN true n es k) (es.getD k e0) < pB (kN true n es k) (es.getD k e0) then
      (if (kN true n es k).getD j 0 = pB (kN true n es k) (es.getD k e0) then kB (kB (kB (tV n es k (es.getD k e0).fr.toNat) (uD (es.getD k e0).turn)) (uD (tV n es k (es.getD k e0).to_.toNat))) (tV n es k j) else tV n es k j)
    else
      (if (kN true n es k).getD j 0 = pA (kN true n es k) (es.getD k e0) then kB (kB (kB (tV n es k (es.getD k e0).to_.toNat) (es.getD k e0).turn) (uD (tV n es k (es.getD k e0).fr.toNat))) (tV n es k j) else tV n es k j)
theorem tV_nz (h : vS n es) : ∀ {k : Nat}, k ≤ es.length → ∀ j, eO (tV n es k j)
  | 0, _, j => q1_ok.1
  | k + 1, hk, j => by
    have ih := tV_nz h (k := k) (by omega)
    have hx := mY h (k := k) (by omega)
    unfold tV
    split
    · exact ih j
    · split
      · split
        · exact xB (xB (xB (ih _) (xK hx.q.1)) (xK (ih _))) (ih _)
        · exact ih j
      · split
        · exact xB (xB (xB (ih _) hx.q.1) (xK (ih _))) (ih _)
        · exact ih j
theorem tV_root (h : vS n es) : ∀ {k : Nat}, k ≤ es.length → ∀ {j : Nat}, j < n → (kN true n es k).getD j 0 = j → tV n es k j = q1
  | 0, _, j, _, _ => rfl
  | k + 1, hk, j, hj, e => by
    have hx := mY h (k := k) (by omega)
    have hf : (es.getD k e0).fr.toNat < n := by have := hx.f0; have := hx.f1; omega
    have ht : (es.getD k e0).to_.toNat < n := by have := hx.t0; have := hx.t1; omega
    have ih := tV_root h (k := k) (by omega) hj
    have l1 := yE true n es k
    have rj := nO h (k := k) (by omega) hj
    have rf := nO h (k := k) (by omega) hf
    have rt := nO h (k := k) (by omega) ht
    by_cases hab : pA (kN true n es k) (es.getD k e0) = pB (kN true n es k) (es.getD k e0)
    · rw [(hM hab).1] at e
      unfold tV; rw [if_pos hab]; exact ih e
    · rw [(hO hab).1, yL (by omega)] at e
      unfold tV; rw [if_neg hab]
      have hne : (kN true n es k).getD j 0 ≠ max (pA (kN true n es k) (es.getD k e0)) (pB (kN true n es k) (es.getD k e0)) := fun e2 => by
        unfold rl kp dp at e
        simp only [if_true] at e
        rw [if_pos e2] at e
        unfold pA pB at *
        omega
      have e3 : (kN true n es k).getD j 0 = j := by
        unfold rl dp at e
        simp only [if_true] at e
        rwa [if_neg hne] at e
      split
      · rw [if_neg (fun e2 => hne (by omega))]; exact ih e3
      · rw [if_neg (fun e2 => hne (by omega))]; exact ih e3
theorem tV_sat (h : vS n es) : ∀ {k : Nat}, k ≤ es.length → ∀ {i : Nat}, (i : Int) ∈ zJ true n es k → yG (tV n es k (es.getD i e0).fr.toNat) (kB (tV n es k (es.getD i e0).to_.toNat) (es.getD i e0).turn)
  | 0, _, i, hi => by simp [zJ] at hi
  | k + 1, hk, i, hi => by
    have nz := tV_nz h (k := k) (by omega)
    have hx := mY h (k := k) (by omega)
    by_cases hab : pA (kN true n es k) (es.getD k e0) = pB (kN true n es k) (es.getD k e0)
    · rw [(hM hab).2] at hi
      unfold tV; simp only [if_pos hab]
      exact tV_sat h (by omega) hi
    · rw [(hO hab).2] at hi
      unfold tV; simp only [if_neg hab]
      rcases List.mem_append.1 hi with hi | hi
      · have ih := tV_sat h (k := k) (by omega) hi
        obtain ⟨i', hi', e'⟩ := nT hi
        have hends := tPar_ends h (k := k) (by omega) (i := i) (by omega)
        have hm : ∀ m : jB, yG (kB m (tV n es k (es.getD i e0).fr.toNat)) (kB (kB m (tV n es k (es.getD i e0).to_.toNat)) (es.getD i e0).turn) := fun m => by
          rw [vC]; exact (yG.refl m).mul ih
        rw [hends]
        split
        · split
          · exact hm _
          · exact ih
        · split
          · exact hm _
          · exact ih
      · obtain rfl : i = k := by simp at hi; omega
        have hA : (kN true n es i).getD (es.getD i e0).fr.toNat 0 = pA (kN true n es i) (es.getD i e0) := rfl
        have hB : (kN true n es i).getD (es.getD i e0).to_.toNat 0 = pB (kN true n es i) (es.getD i e0) := rfl
        rw [hA, hB]
        simp only [if_true, if_neg hab, if_neg (fun e => hab (Eq.symm e))]
        split
        · refine yG.symm ?_
          rw [vC _ (uD (tV n es i (es.getD i e0).to_.toNat)) _, qcj_mul, nA, qmul_1, mE, vC, qcj_mul, nA, qmul_1, qsc_sc]
          exact yG.sc (Int.mul_ne_zero (mT.1 (nz _)) (mT.1 hx.q.1)) _
        · rw [vC (kB _ _), qcj_mul, nA, qmul_1]
          exact yG.sc (mT.1 (nz _)) _
theorem tV_uniq (h : vS n es) (W : Nat → jB) (hW : ∀ j, j < n → eO (W j)) {k : Nat} (hk : k ≤ es.length) (hs : ∀ i : Nat, (i : Int) ∈ zJ true n es k → yG (W (es.getD i e0).fr.toNat) (kB (W (es.getD i e0).to_.toNat) (es.getD i e0).turn))
    {j : Nat} (hj : j < n) : yG (tV n es k j) (kB (uD (W ((kN true n es k).getD j 0).toNat)) (W j)) := by
  have rj := nO h hk hj
  generalize hr : ((kN true n es k).getD j 0).toNat = r
  have hrn : r < n := by omega
  have hroot := tPar_root h hk hj
  rw [hr] at hroot
  have hc := mX h (fun i => yG (tV n es k i) (kB (uD (W r)) (W i))) hk (fun i hi => by
    obtain ⟨i', hi', e'⟩ := nT hi
    have hx := mY h (k := i) (by omega)
    have s1 := tV_sat h hk hi
    have s2 := hs i hi
    have hn := mT.1 hx.q.1
    constructor
    · intro g
      have e1 : yG (kB (tV n es k (es.getD i e0).to_.toNat) (es.getD i e0).turn) (kB (kB (uD (W r)) (W (es.getD i e0).to_.toNat)) (es.getD i e0).turn) :=
        s1.symm.trans (g.trans (by rw [vC]; exact (yG.refl _).mul s2))
      have e2 := e1.mul (yG.refl (uD (es.getD i e0).turn))
      rw [vC, qmul_cj, nA, qmul_1, vC (kB _ _), qmul_cj, nA, qmul_1] at e2
      exact (yG.sc hn _).symm.trans (e2.trans (yG.sc hn _))
    · intro g
      refine s1.trans ((g.mul (yG.refl _)).trans ?_)
      rw [vC]; exact (yG.refl _).mul s2.symm) hrn hj (by rw [hroot])
  refine hc.1 ?_
  rw [tV_root h hk hrn (by omega), qcj_mul]
  exact (yG.sc (mT.1 (hW r hrn)) _).symm
end
def aV (n : Nat) (es : List jC) (j : Nat) : jB := tV n es es.length j
def aFit (n : Nat) (es : List jC) : Prop := ∀ j, j < n → cE (zV (aV n es j))
instance {n : Nat} {es : List jC} : Decidable (aFit n es) := by unfold aFit; infer_instance
def uL (n : Nat) (es : List jC) : List jB := if aFit n es then (List.range n).map fun j => zV (aV n es j) else []
def yH (n : Nat) (es : List jC) : Nat := if aFit n es then 0 else 3
def jO (n : Nat) (es : List jC) : List Int := zJ true n es es.length
end Go.Fid
namespace Go.Proofs.YtihgdjljnaekmaaGreat
open Go.Fid
def jJ (x : kG) : kE := .agg [.val (.bool x.neg), .sl 135 1 (x.gs.map jD)]
def kX (x : uG) : kE := .agg [.val (.bool x.num.neg), .sl 135 1 (x.num.gs.map jD), .val (.bool x.den.neg), .sl 135 1 (x.den.gs.map jD)]
def jE (x : jB) : kE := .agg [.val (.int .i64 x.a), .val (.int .i64 x.b), .val (.int .i64 x.c), .val (.int .i64 x.d)]
def jK (x : jC) : kE := .agg [.val (.int .i64 x.fr), .val (.int .i64 x.to_), .val (.int .i64 x.turn.a), .val (.int .i64 x.turn.b), .val (.int .i64 x.turn.c), .val (.int .i64 x.turn.d)]
structure A2 (α : Type) where
 a0 : α
 a1 : α
structure A3 (α : Type) where
 a0 : α
 a1 : α
 a2 : α
structure A4 (α : Type) where
 a0 : α
 a1 : α
 a2 : α
 a3 : α
def kU (x : A3 (Int)) : kE := .agg [.val (.int .i64 x.a0), .val (.int .i64 x.a1), .val (.int .i64 x.a2)]
def cC (x : A2 (Nat)) : kE := .agg [.val (.int .u8 ((x.a0 : Nat) : Int)), .val (.int .u8 ((x.a1 : Nat) : Int))]
def zI (x : A4 (Int)) : kE := .agg [.val (.int .i64 x.a0), .val (.int .i64 x.a1), .val (.int .i64 x.a2), .val (.int .i64 x.a3)]
def encA179 (x : A4 (kG)) : kE := .agg [.val (.bool x.a0.neg), .sl 135 1 (x.a0.gs.map jD), .val (.bool x.a1.neg), .sl 135 1 (x.a1.gs.map jD), .val (.bool x.a2.neg), .sl 135 1 (x.a2.gs.map jD), .val (.bool x.a3.neg), .sl 135 1 (x.a3.gs.map jD)]
end Go.Proofs.YtihgdjljnaekmaaGreat
namespace Go.Proofs.YtihgdjljnaekmaaGreat
open Go.Fid
theorem mo : Tryz.prog.follows .mixedOrders = true := by kernel_rfl
end Go.Proofs.YtihgdjljnaekmaaGreat
