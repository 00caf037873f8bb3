/- Part 12 of a proof: rules, plain facts, and functions walked. -/
import Derived.Test.YtihgdjljnaekmaaGreatM11
import Derived.Test.YtihgdjljnaekmaaGreatM10
import Derived.Test.YtihgdjljnaekmaaGreatM8
import Derived.Test.YtihgdjljnaekmaaGreatChecked
set_option linter.unusedVariables false
set_option linter.unusedSimpArgs false
namespace Go.Fid
def fits64 (z : Int) : Bool := decide (-9223372036854775808 ≤ z) && decide (z ≤ 9223372036854775807)
def smallI (z : Int) : Int := if fits64 z = true then z else 0
theorem fits64_t {z : Int} (h1 : -9223372036854775808 ≤ z) (h2 : z ≤ 9223372036854775807) : fits64 z = true := by simp [fits64, h1, h2]
theorem fits64_f {z : Int} (h : 9223372036854775808 < z.natAbs) : fits64 z = false := by
  unfold fits64
  by_cases h1 : -9223372036854775808 ≤ z
  · have : ¬ z ≤ 9223372036854775807 := by omega
    simp [this]
  · simp [h1]
theorem smallI_t {z : Int} (h : fits64 z = true) : smallI z = z := if_pos h
theorem smallI_f {z : Int} (h : fits64 z = false) : smallI z = 0 := by unfold smallI; rw [h]; rfl
theorem gz_eq (z : Int) : grpI (ofZ z) = ofNat z.natAbs := by unfold grpI; rw [validI_ofZ, if_pos rfl]; rfl
theorem gz_dig (z : Int) : Dig (grpI (ofZ z)) := by rw [gz_eq]; exact ofNat_dig _
theorem gz_val (z : Int) : val (grpI (ofZ z)) = z.natAbs := by rw [gz_eq]; exact ofNat_val _
theorem gz_long {z : Int} (h : 3 < (grpI (ofZ z)).length) : 9223372036854775808 < z.natAbs := by
  rw [gz_eq] at h
  by_cases hh : z.natAbs < pw 3
  · have := ofNat_length_le hh; omega
  · have : pw 3 = 1000000000000000000000000000 := by simp [pw]
    omega
theorem gz_neg (z : Int) : (ofZ z).neg = decide (z < 0) := by
  show (decide (z < 0) && z.natAbs != 0) = decide (z < 0)
  by_cases h : z < 0
  · have : z.natAbs ≠ 0 := by omega
    simp [h, this]
  · simp [h]
theorem gz_lenp {z : Int} (h : z ≠ 0) : 0 < (grpI (ofZ z)).length := by
  rw [gz_eq]; exact ofNat_len_pos (by omega)
theorem val_drop_le (l : List Nat) (k : Nat) : val (l.drop k) ≤ val l := by
  induction l generalizing k with
  | nil => simp
  | cons d l ih =>
    cases k with
    | zero => simp
    | succ k =>
      rw [List.drop_succ_cons]
      have := ih k
      show _ ≤ d + 1000000000 * val l
      omega
theorem gz_step {z : Int} {j n : Nat} (hj : j < (grpI (ofZ z)).length) (hn : n = val ((grpI (ofZ z)).drop ((grpI (ofZ z)).length - j))) :
    n * 1000000000 + (grpI (ofZ z)).getD ((grpI (ofZ z)).length - 1 - j) 0 = val ((grpI (ofZ z)).drop ((grpI (ofZ z)).length - (j + 1))) := by
  rw [val_drop _ j hj, ← hn]; omega
theorem gz_over {z : Int} {j n : Nat} (hj : j < (grpI (ofZ z)).length) (hn : n = val ((grpI (ofZ z)).drop ((grpI (ofZ z)).length - j)))
    (h : (9223372036854775808 - (grpI (ofZ z)).getD ((grpI (ofZ z)).length - 1 - j) 0) / 1000000000 < n) : 9223372036854775808 < z.natAbs := by
  have e := gz_step hj hn
  have h2 := val_drop_le (grpI (ofZ z)) ((grpI (ofZ z)).length - (j + 1))
  have hd := (gz_dig z).getD ((grpI (ofZ z)).length - 1 - j)
  rw [gz_val, ← e] at h2
  omega
theorem gz_room {z : Int} {j n : Nat} (h : ¬ (9223372036854775808 - (grpI (ofZ z)).getD ((grpI (ofZ z)).length - 1 - j) 0) / 1000000000 < n) :
    n * 1000000000 + (grpI (ofZ z)).getD ((grpI (ofZ z)).length - 1 - j) 0 ≤ 9223372036854775808 := by
  have hd := (gz_dig z).getD ((grpI (ofZ z)).length - 1 - j)
  omega
theorem gz_end {z : Int} {n : Nat} (hn : n = val ((grpI (ofZ z)).drop ((grpI (ofZ z)).length - (grpI (ofZ z)).length))) : n = z.natAbs := by
  rw [Nat.sub_self, List.drop_zero, gz_val] at hn; exact hn
theorem sm_n {z : Int} {n : Nat} (hn : n = z.natAbs) (hb : n ≤ 9223372036854775808) (h : z < 0) : smallI z = -((n : Nat) : Int) ∧ fits64 z = true := by
  have hf : fits64 z = true := fits64_t (by omega) (by omega)
  exact ⟨by rw [smallI_t hf]; omega, hf⟩
theorem sm_p {z : Int} {n : Nat} (hn : n = z.natAbs) (hb : n < 9223372036854775808) (h : ¬ z < 0) : smallI z = ((n : Nat) : Int) ∧ fits64 z = true := by
  have hf : fits64 z = true := fits64_t (by omega) (by omega)
  exact ⟨by rw [smallI_t hf]; omega, hf⟩
theorem sm_x {z : Int} (hb : z = 9223372036854775808) : smallI z = 0 ∧ fits64 z = false := by subst hb; decide
theorem sm_neg {z : Int} (h : (decide (0 < (((grpI (ofZ z)).length : Nat) : Int)) && (ofZ z).neg) = true) : z < 0 := by
  rw [gz_neg, Bool.and_eq_true] at h; exact of_decide_eq_true h.2
theorem sm_pos {z : Int} (h : (decide (0 < (((grpI (ofZ z)).length : Nat) : Int)) && (ofZ z).neg) = false) : ¬ z < 0 := by
  intro hz
  have := gz_lenp (z := z) (by omega)
  rw [gz_neg, decide_eq_true hz, decide_eq_true (show (0 : Int) < (((grpI (ofZ z)).length : Nat) : Int) by omega)] at h
  cases h
theorem negu64 {n : Nat} (h : n ≤ 9223372036854775808) : IntKind.u64.wrap (0 - ((n : Nat) : Int)) = (((18446744073709551616 - n) % 18446744073709551616 : Nat) : Int) := by
  have : IntKind.u64.wrap (0 - ((n : Nat) : Int)) = (0 - ((n : Nat) : Int)) % 18446744073709551616 := by
    simp [IntKind.wrap, IntKind.bits, IntKind.signed]
  rw [this]; omega
theorem negi64 {n : Nat} (h : n ≤ 9223372036854775808) : IntKind.i64.wrap (((18446744073709551616 - n) % 18446744073709551616 : Nat) : Int) = -((n : Nat) : Int) := by
  simp [IntKind.wrap, IntKind.bits, IntKind.signed]
  split <;> omega
section
variable {b s a c d e o l : Bool}
end
end Go.Fid
set_option linter.unusedVariables false
set_option linter.unusedSimpArgs false
namespace Go.Fid
structure RQuat where
  a : Int
  b : Int
  c : Int
  d : Int
deriving DecidableEq
def qL (q : RQuat) : List Int := [q.a, q.b, q.c, q.d]
def Qnz (q : RQuat) : Prop := sgnL (qL q) ≠ 0
def qn (q : RQuat) : Int := q.a * q.a + q.b * q.b + q.c * q.c + q.d * q.d
def qmul (p q : RQuat) : RQuat := ⟨p.a * q.a - p.b * q.b - p.c * q.c - p.d * q.d, p.a * q.b + p.b * q.a + p.c * q.d - p.d * q.c, p.a * q.c - p.b * q.d + p.c * q.a + p.d * q.b, p.a * q.d + p.b * q.c - p.c * q.b + p.d * q.a⟩
def qcj (q : RQuat) : RQuat := ⟨q.a, -q.b, -q.c, -q.d⟩
def qsc (k : Int) (q : RQuat) : RQuat := ⟨k * q.a, k * q.b, k * q.c, k * q.d⟩
def q1 : RQuat := ⟨1, 0, 0, 0⟩
def q0 : RQuat := ⟨0, 0, 0, 0⟩
def qdv (q : RQuat) (k : Int) : RQuat := ⟨q.a.fdiv k, q.b.fdiv k, q.c.fdiv k, q.d.fdiv k⟩
def qcan (q : RQuat) : RQuat := qdv q (dvL (qL q))
theorem qL_inj {p q : RQuat} (h : qL p = qL q) : p = q := by
  cases p; cases q; simp only [qL, List.cons.injEq, and_true] at h; obtain ⟨rfl, rfl, rfl, rfl⟩ := h; rfl
theorem qL_can (q : RQuat) : qL (qcan q) = redL (qL q) := rfl
theorem qL_sc (k : Int) (q : RQuat) : qL (qsc k q) = (qL q).map (k * ·) := rfl
theorem qnz_iff {q : RQuat} : Qnz q ↔ q ≠ q0 := by
  unfold Qnz
  rw [Ne, sgnL_zero]
  constructor
  · intro h e; subst e; exact h (by simp [qL, q0])
  · intro h e
    refine h (qL_inj ?_)
    simp only [qL, List.mem_cons, List.not_mem_nil, or_false, forall_eq_or_imp, forall_eq] at e
    obtain ⟨e1, e2, e3, e4⟩ := e
    simp [qL, q0, e1, e2, e3, e4]
theorem qn_nn (q : RQuat) : 0 ≤ qn q := by
  unfold qn
  have h : ∀ x : Int, 0 ≤ x * x := fun x => by
    rcases Int.le_total 0 x with h | h
    · exact Int.mul_nonneg h h
    · exact Int.mul_nonneg_of_nonpos_of_nonpos h h
  have := h q.a; have := h q.b; have := h q.c; have := h q.d
  omega
theorem qsq_nn (x : Int) : 0 ≤ x * x := by
  rcases Int.le_total 0 x with h | h
  · exact Int.mul_nonneg h h
  · exact Int.mul_nonneg_of_nonpos_of_nonpos h h
theorem qsq_0 {x : Int} (h : x * x = 0) : x = 0 := by
  rcases Int.mul_eq_zero.1 h with h | h <;> exact h
theorem qn_0 {q : RQuat} : qn q = 0 ↔ q = q0 := by
  constructor
  · intro h
    unfold qn at h
    have h1 := qsq_nn q.a; have h2 := qsq_nn q.b; have h3 := qsq_nn q.c; have h4 := qsq_nn q.d
    have e1 := qsq_0 (x := q.a) (by omega)
    have e2 := qsq_0 (x := q.b) (by omega)
    have e3 := qsq_0 (x := q.c) (by omega)
    have e4 := qsq_0 (x := q.d) (by omega)
    exact qL_inj (by simp [qL, q0, e1, e2, e3, e4])
  · intro h; subst h; rfl
theorem qnz_n {q : RQuat} : Qnz q ↔ qn q ≠ 0 := by rw [qnz_iff, Ne, Ne, qn_0]
theorem qn_mul (p q : RQuat) : qn (qmul p q) = qn p * qn q := by
  unfold qn qmul; grind
theorem qmul_nz {p q : RQuat} (hp : Qnz p) (hq : Qnz q) : Qnz (qmul p q) := by
  rw [qnz_n] at hp hq ⊢
  rw [qn_mul]; exact Int.mul_ne_zero hp hq
theorem qn_cj (q : RQuat) : qn (qcj q) = qn q := by unfold qn qcj; grind
theorem qcj_nz {q : RQuat} (h : Qnz q) : Qnz (qcj q) := by rw [qnz_n] at h ⊢; rwa [qn_cj]
theorem qmul_assoc (p q r : RQuat) : qmul (qmul p q) r = qmul p (qmul q r) := by
  unfold qmul; simp only [RQuat.mk.injEq]; refine ⟨?_, ?_, ?_, ?_⟩ <;> grind
theorem qmul_cj (q : RQuat) : qmul q (qcj q) = qsc (qn q) q1 := by
  unfold qmul qcj qsc qn q1; simp only [RQuat.mk.injEq]; refine ⟨?_, ?_, ?_, ?_⟩ <;> grind
theorem qcj_mul (q : RQuat) : qmul (qcj q) q = qsc (qn q) q1 := by
  unfold qmul qcj qsc qn q1; simp only [RQuat.mk.injEq]; refine ⟨?_, ?_, ?_, ?_⟩ <;> grind
theorem qmul_1 (q : RQuat) : qmul q q1 = q := by unfold qmul q1; cases q; simp
theorem qsc_mul_l (k : Int) (p q : RQuat) : qmul (qsc k p) q = qsc k (qmul p q) := by
  unfold qmul qsc; simp only [RQuat.mk.injEq]; refine ⟨?_, ?_, ?_, ?_⟩ <;> grind
theorem qsc_mul_r (k : Int) (p q : RQuat) : qmul p (qsc k q) = qsc k (qmul p q) := by
  unfold qmul qsc; simp only [RQuat.mk.injEq]; refine ⟨?_, ?_, ?_, ?_⟩ <;> grind
theorem qsc_sc (k l : Int) (q : RQuat) : qsc k (qsc l q) = qsc (k * l) q := by
  unfold qsc; simp only [RQuat.mk.injEq]; refine ⟨?_, ?_, ?_, ?_⟩ <;> grind
theorem qsc_1 (q : RQuat) : qsc 1 q = q := by unfold qsc; cases q; simp
theorem qn_sc (k : Int) (q : RQuat) : qn (qsc k q) = k * k * qn q := by unfold qn qsc; grind
theorem qsc_nz {k : Int} {q : RQuat} (hk : k ≠ 0) (h : Qnz q) : Qnz (qsc k q) := by
  rw [qnz_n] at h ⊢; rw [qn_sc]; exact Int.mul_ne_zero (Int.mul_ne_zero hk hk) h
def Qeq (p q : RQuat) : Prop := ∃ k l : Int, k ≠ 0 ∧ l ≠ 0 ∧ qsc k p = qsc l q
theorem Qeq.refl (p : RQuat) : Qeq p p := ⟨1, 1, by decide, by decide, rfl⟩
theorem Qeq.symm {p q : RQuat} (h : Qeq p q) : Qeq q p := by
  obtain ⟨k, l, h1, h2, h3⟩ := h; exact ⟨l, k, h2, h1, h3.symm⟩
theorem Qeq.trans {p q r : RQuat} (h : Qeq p q) (g : Qeq q r) : Qeq p r := by
  obtain ⟨k, l, h1, h2, h3⟩ := h
  obtain ⟨k', l', g1, g2, g3⟩ := g
  refine ⟨k' * k, l * l', Int.mul_ne_zero g1 h1, Int.mul_ne_zero h2 g2, ?_⟩
  rw [← qsc_sc, h3, qsc_sc, Int.mul_comm k' l, ← qsc_sc, g3, qsc_sc]
theorem Qeq.sc {k : Int} (hk : k ≠ 0) (p : RQuat) : Qeq (qsc k p) p := ⟨1, k, by decide, hk, by rw [qsc_1]⟩
theorem Qeq.mul {p p' q q' : RQuat} (h : Qeq p p') (g : Qeq q q') : Qeq (qmul p q) (qmul p' q') := by
  obtain ⟨k, l, h1, h2, h3⟩ := h
  obtain ⟨k', l', g1, g2, g3⟩ := g
  refine ⟨k * k', l * l', Int.mul_ne_zero h1 g1, Int.mul_ne_zero h2 g2, ?_⟩
  rw [← qsc_sc, ← qsc_mul_r, ← qsc_mul_l, h3, g3, qsc_mul_l, qsc_mul_r, qsc_sc]
theorem Qeq.nz {p q : RQuat} (h : Qeq p q) (hp : Qnz p) : Qnz q := by
  obtain ⟨k, l, h1, h2, h3⟩ := h
  have hk := qsc_nz h1 hp
  rw [h3, qnz_n, qn_sc] at hk
  rw [qnz_n]; intro e; exact hk (by rw [e, Int.mul_zero])
theorem qcan_back {q : RQuat} (h : Qnz q) : qsc (dvL (qL q)) (qcan q) = q := qL_inj (by rw [qL_sc, qL_can]; exact redL_back h)
theorem qcan_eq {q : RQuat} (h : Qnz q) : Qeq (qcan q) q := ⟨dvL (qL q), 1, dvL_ne h, by decide, by rw [qcan_back h, qsc_1]⟩
theorem qcan_nz {q : RQuat} (h : Qnz q) : Qnz (qcan q) := (qcan_eq h).symm.nz h
theorem qcan_sc {k : Int} (hk : k ≠ 0) {q : RQuat} (h : Qnz q) : qcan (qsc k q) = qcan q := qL_inj (by rw [qL_can, qL_sc, qL_can, redL_scale hk h])
theorem qcan_iff {p q : RQuat} (hp : Qnz p) (hq : Qnz q) : qcan p = qcan q ↔ Qeq p q := by
  constructor
  · intro h
    have h1 := (qcan_eq hp).symm
    rw [h] at h1
    exact h1.trans (qcan_eq hq)
  · rintro ⟨k, l, h1, h2, h3⟩
    rw [← qcan_sc h1 hp, h3, qcan_sc h2 hq]
theorem fdiv_abs {x d : Int} (hd : d ≠ 0) (h : d ∣ x) : (x.fdiv d).natAbs ≤ x.natAbs := by
  obtain ⟨e, rfl⟩ := h
  rw [Int.mul_fdiv_cancel_left _ hd, Int.natAbs_mul]
  exact Nat.le_mul_of_pos_left _ (Int.natAbs_pos.2 hd)
def inQ (z : Int) : Prop := -1048576 ≤ z ∧ z ≤ 1048576
instance {z : Int} : Decidable (inQ z) := by unfold inQ; infer_instance
def Qfit (q : RQuat) : Prop := inQ q.a ∧ inQ q.b ∧ inQ q.c ∧ inQ q.d
instance {q : RQuat} : Decidable (Qfit q) := by unfold Qfit; infer_instance
def Qok (q : RQuat) : Prop := Qnz q ∧ Qfit q
def qV (q : RQuat) : RQuat := if Qfit (qcan q) then qcan q else q0
def qC (q : RQuat) : Nat := if Qfit (qcan q) then 0 else 3
theorem qV_fit (q : RQuat) : Qfit (qV q) := by
  unfold qV; split
  · assumption
  · decide
theorem qC_01 (q : RQuat) : qC q = 0 ∨ qC q = 3 := by unfold qC; split <;> simp
theorem qC_0 {q : RQuat} : qC q = 0 ↔ Qfit (qcan q) := by unfold qC; split <;> simp_all
theorem qV_y {q : RQuat} (h : Qfit (qcan q)) : qV q = qcan q := if_pos h
theorem qV_n {q : RQuat} (h : ¬ Qfit (qcan q)) : qV q = q0 := if_neg h
theorem qC_y {q : RQuat} (h : Qfit (qcan q)) : qC q = 0 := if_pos h
theorem qC_n {q : RQuat} (h : ¬ Qfit (qcan q)) : qC q = 3 := if_neg h
theorem qV_c0 {q : RQuat} (h : qC q = 0) : qV q = qcan q := qV_y (qC_0.1 h)
theorem qV_ok {q : RQuat} (hq : Qnz q) (h : qC q = 0) : Qok (qV q) := ⟨by rw [qV_c0 h]; exact qcan_nz hq, qV_fit q⟩
theorem inQ_fdiv {x d : Int} (hd : d ≠ 0) (h : d ∣ x) (hx : inQ x) : inQ (x.fdiv d) := by
  have := fdiv_abs hd h
  unfold inQ at hx ⊢; omega
theorem qcan_fit {q : RQuat} (h : Qok q) : Qfit (qcan q) := by
  have hd := dvL_ne h.1
  obtain ⟨h1, h2, h3, h4⟩ := h.2
  have hv : ∀ z ∈ qL q, dvL (qL q) ∣ z := dvL_dvd
  exact ⟨inQ_fdiv hd (hv _ (by simp [qL])) h1, inQ_fdiv hd (hv _ (by simp [qL])) h2, inQ_fdiv hd (hv _ (by simp [qL])) h3, inQ_fdiv hd (hv _ (by simp [qL])) h4⟩
theorem qcj_fit {q : RQuat} (h : Qfit q) : Qfit (qcj q) := by
  obtain ⟨h1, h2, h3, h4⟩ := h
  unfold Qfit qcj inQ at *
  refine ⟨h1, ?_, ?_, ?_⟩ <;> dsimp only at * <;> omega
theorem qcj_ok {q : RQuat} (h : Qok q) : Qok (qcj q) := ⟨qcj_nz h.1, qcj_fit h.2⟩
theorem qC_ok {q : RQuat} (h : Qok q) : qC q = 0 := qC_0.2 (qcan_fit h)
theorem qC_cj {q : RQuat} (h : Qok q) : qC (qcj q) = 0 := qC_ok (qcj_ok h)
theorem qok_rot {q : RQuat} : Qok q ↔ rotC q.a q.b q.c q.d = 0 := by
  constructor
  · rintro ⟨h, h1, h2, h3, h4⟩
    refine rotC_0 (fun e => ?_) ⟨h1, h2, h3, h4⟩
    obtain ⟨e1, e2, e3, e4⟩ := e
    exact qnz_iff.1 h (qL_inj (by simp [qL, q0, e1, e2, e3, e4]))
  · intro h
    unfold rotC at h
    split at h
    · cases h
    · rename_i hz
      split at h
      · rename_i hf
        refine ⟨qnz_iff.2 fun e => hz ?_, hf⟩
        subst e; simp [q0]
      · cases h
theorem q1_ok : Qok q1 := qok_rot.2 (by decide)
theorem q1_can : qcan q1 = q1 := by decide
def Qcn (q : RQuat) : Prop := Qok q ∧ qcan q = q
theorem qV_eq {q : RQuat} (hq : Qnz q) (h : qC q = 0) : Qeq (qV q) q := by rw [qV_c0 h]; exact qcan_eq hq
theorem Qcn.ext {p q : RQuat} (hp : Qcn p) (hq : Qcn q) (h : Qeq p q) : p = q := by
  rw [← hp.2, ← hq.2]; exact (qcan_iff hp.1.1 hq.1.1).2 h
def qdot (p q : RQuat) : Int := p.a * q.a + p.b * q.b + p.c * q.c + p.d * q.d
def chQ (p q : RQuat) : Rat := ((1 : Int) : Rat) - ((qdot p q : Int) : Rat) * ((qdot p q : Int) : Rat) / (((qn p : Int) : Rat) * ((qn q : Int) : Rat))
def fstL : List Int → Int
  | [] => 0
  | z :: r => if z = 0 then fstL r else z
theorem sgnL_fst : ∀ zs : List Int, sgnL zs = signI (fstL zs)
  | [] => rfl
  | z :: r => by
    unfold sgnL fstL
    split
    · exact sgnL_fst r
    · rfl
theorem signI_0 {z : Int} : signI z = 0 ↔ z = 0 := ⟨fun h => Classical.byContradiction fun g => signI_ne g h, fun h => by subst h; rfl⟩
theorem fst_0 {a b c d : Int} (h : signI a ≠ 0) : a = fstL [a, b, c, d] := by
  unfold fstL; rw [if_neg (fun e => h (signI_0.2 e))]
theorem fst_1 {a b c d : Int} (h1 : signI a = 0) (h : signI b ≠ 0) : b = fstL [a, b, c, d] := by
  unfold fstL; rw [if_pos (signI_0.1 h1)]; unfold fstL; rw [if_neg (fun e => h (signI_0.2 e))]
theorem fst_2 {a b c d : Int} (h1 : signI a = 0) (h2 : signI b = 0) (h : signI c ≠ 0) : c = fstL [a, b, c, d] := by
  unfold fstL; rw [if_pos (signI_0.1 h1)]; unfold fstL; rw [if_pos (signI_0.1 h2)]; unfold fstL; rw [if_neg (fun e => h (signI_0.2 e))]
theorem fst_3 {a b c d : Int} (h1 : signI a = 0) (h2 : signI b = 0) (h3 : signI c = 0) : d = fstL [a, b, c, d] := by
  unfold fstL; rw [if_pos (signI_0.1 h1)]; unfold fstL; rw [if_pos (signI_0.1 h2)]; unfold fstL; rw [if_pos (signI_0.1 h3)]; unfold fstL; split
  · rename_i h; rw [h]; rfl
  · rfl
theorem dv_n {q : RQuat} {f : Int} (hf : f = fstL (qL q)) (h : signI f < 0) : dvL (qL q) = -((gcdL (qL q) : Nat) : Int) := by
  unfold dvL; rw [sgnL_fst, ← hf, if_pos h]
theorem dv_p {q : RQuat} {f : Int} (hf : f = fstL (qL q)) (h : ¬ signI f < 0) : dvL (qL q) = ((gcdL (qL q) : Nat) : Int) := by
  unfold dvL; rw [sgnL_fst, ← hf, if_neg h]
theorem gcd_n {q : RQuat} (h : Qnz q) : ((gcdL (qL q) : Nat) : Int) ≠ 0 := fun e => gcdL_ne h (by omega)
theorem fst_len {n : Nat} : ∀ (zs : List Int), (∀ z ∈ zs, lenZ z ≤ n) → lenZ (fstL zs) ≤ n
  | [], _ => by have : lenZ 0 = 0 := by decide +kernel
                unfold fstL; omega
  | z :: r, h => by
    unfold fstL; split
    · exact fst_len r fun y hy => h y (List.mem_cons_of_mem _ hy)
    · exact h z (List.mem_cons_self ..)
theorem fst_iok {f : Int} {q : RQuat} {n : Nat} (hf : f = fstL (qL q)) (h : ∀ z ∈ qL q, lenZ z ≤ n) : IOk (ofZ f) f n := by subst hf; exact iok_of (fst_len _ h)
theorem q4_len {a b c d : Int} {n : Nat} (ha : IOk (ofZ a) a n) (hb : IOk (ofZ b) b n) (hc : IOk (ofZ c) c n) (hd : IOk (ofZ d) d n) : ∀ z ∈ qL ⟨a, b, c, d⟩, lenZ z ≤ n := by
  intro z hz
  simp only [qL, List.mem_cons, List.not_mem_nil, or_false] at hz
  rcases hz with rfl | rfl | rfl | rfl
  · exact ha.ln
  · exact hb.ln
  · exact hc.ln
  · exact hd.ln
theorem gcd_iok {q : RQuat} {n : Nat} (h : ∀ z ∈ qL q, lenZ z ≤ n) : IOk (ofZ ((gcdL (qL q) : Nat) : Int)) ((gcdL (qL q) : Nat) : Int) n := iok_of (gcdL_len _ h)
def smB (x : Int) : Bool := (!(fits64 x) || decide (smallI x < -1048576)) || decide (1048576 < smallI x)
theorem smB_f {x : Int} (h : smB x = false) : inQ x ∧ smallI x = x := by
  simp only [smB, Bool.or_eq_false_iff, Bool.not_eq_false', decide_eq_false_iff_not] at h
  obtain ⟨⟨h1, h2⟩, h3⟩ := h
  rw [smallI_t h1] at h2 h3
  exact ⟨⟨by omega, by omega⟩, smallI_t h1⟩
theorem smB_t {x : Int} (h : smB x = true) : ¬ inQ x := fun hx => by
  unfold inQ at hx
  have hf : fits64 x = true := fits64_t (by omega) (by omega)
  simp only [smB, smallI_t hf, hf, Bool.not_true, Bool.false_or, Bool.or_eq_true, decide_eq_true_eq] at h
  omega
theorem prim_n {q : RQuat} {d x : Int} (hd : dvL (qL q) = d) (hx : x = q.a ∨ x = q.b ∨ x = q.c ∨ x = q.d) (h : smB (x.fdiv d) = true) : qC q = 3 ∧ qV q = ⟨0, 0, 0, 0⟩ := by
  have hn : ¬ Qfit (qcan q) := fun hf => by
    refine smB_t h ?_
    subst hd
    obtain ⟨h1, h2, h3, h4⟩ := hf
    rcases hx with rfl | rfl | rfl | rfl
    · exact h1
    · exact h2
    · exact h3
    · exact h4
  exact ⟨qC_n hn, qV_n hn⟩
theorem prim_y {q : RQuat} {d : Int} (hd : dvL (qL q) = d) (h1 : smB (q.a.fdiv d) = false) (h2 : smB (q.b.fdiv d) = false) (h3 : smB (q.c.fdiv d) = false) (h4 : smB (q.d.fdiv d) = false) :
    qC q = 0 ∧ qV q = ⟨smallI (q.a.fdiv d), smallI (q.b.fdiv d), smallI (q.c.fdiv d), smallI (q.d.fdiv d)⟩ := by
  subst hd
  obtain ⟨f1, e1⟩ := smB_f h1
  obtain ⟨f2, e2⟩ := smB_f h2
  obtain ⟨f3, e3⟩ := smB_f h3
  obtain ⟨f4, e4⟩ := smB_f h4
  have hf : Qfit (qcan q) := ⟨f1, f2, f3, f4⟩
  refine ⟨qC_y hf, ?_⟩
  rw [qV_y hf, e1, e2, e3, e4]; rfl
theorem Qfit.bd {q : RQuat} (h : Qfit q) : (-1048576 ≤ q.a ∧ q.a ≤ 1048576) ∧ (-1048576 ≤ q.b ∧ q.b ≤ 1048576) ∧ (-1048576 ≤ q.c ∧ q.c ≤ 1048576) ∧ (-1048576 ≤ q.d ∧ q.d ≤ 1048576) := h
end Go.Fid
namespace Go.Fid
end Go.Fid
namespace Go.Fid
theorem qdot_bd {p q : RQuat} (hp : Qok p) (hq : Qok q) : -9223372036854775808 ≤ qdot p q ∧ qdot p q ≤ 9223372036854775807 := by
  obtain ⟨a1, a2, a3, a4⟩ := hp.2.bd
  obtain ⟨b1, b2, b3, b4⟩ := hq.2.bd
  have := sq_b a1 b1; have := sq_b a2 b2; have := sq_b a3 b3; have := sq_b a4 b4
  unfold qdot; omega
theorem qn_bd {p : RQuat} (hp : Qok p) : 1 ≤ qn p ∧ qn p ≤ 9223372036854775807 := by
  have h := qdot_bd hp hp
  have h0 := qn_nn p
  have h1 := qnz_n.1 hp.1
  have e : qdot p p = qn p := rfl
  omega
theorem ql_i {z : Int} (h1 : -9223372036854775808 ≤ z) (h2 : z ≤ 9223372036854775807) : QL ((z : Int) : Rat) 3 := ql_int (z := z) (n := 3) (lenZ_int h1 h2) (by decide)
theorem ql_chQ {p q : RQuat} (hp : Qok p) (hq : Qok q) : QL (chQ p q) 16 := by
  have h1 := qdot_bd hp hq
  have h2 := qn_bd hp
  have h3 := qn_bd hq
  have g1 := ql_i h1.1 h1.2
  have g2 := ql_i (z := qn p) (by omega) h2.2
  have g3 := ql_i (z := qn q) (by omega) h3.2
  unfold chQ
  exact ql_sub (k := 16) (ql_i (z := 1) (by decide) (by decide)) (ql_div (k := 12) (ql_mul (k := 6) g1 g1 (by decide)) (ql_mul (k := 6) g2 g3 (by decide)) (by decide)) (by decide)
theorem chQ_di (p q : RQuat) : ((1 : Int) : Rat) - Rat.divInt (qdot p q * qdot p q) (qn p * qn q) = chQ p q := by
  unfold chQ; rw [← Rat.intCast_mul, ← Rat.intCast_mul, Rat.divInt_eq_div]
end Go.Fid
set_option linter.unusedVariables false
set_option linter.unusedSimpArgs false
namespace Go.Fid
structure REdge where
  fr : Int
  to_ : Int
  turn : RQuat
deriving DecidableEq
def e0 : REdge := ⟨0, 0, ⟨0, 0, 0, 0⟩⟩
def edgC (n : Int) (x : REdge) : Nat :=
  if 0 ≤ x.fr ∧ x.fr < n ∧ 0 ≤ x.to_ ∧ x.to_ < n then (if x.fr = x.to_ then 13 else rotC x.turn.a x.turn.b x.turn.c x.turn.d) else 2
def edsC (n : Int) : List REdge → Nat
  | [] => 0
  | x :: l => if edgC n x = 0 then edsC n l else edgC n x
def lopC (n : Int) (es : List REdge) : Nat := if n < 1 ∨ 64 < n ∨ 256 < es.length then 3 else edsC n es
structure EOkE (n : Nat) (x : REdge) : Prop where
  f0 : 0 ≤ x.fr
  f1 : x.fr < n
  t0 : 0 ≤ x.to_
  t1 : x.to_ < n
  ne : x.fr ≠ x.to_
  q : Qok x.turn
theorem edgC_ok {n : Nat} {x : REdge} : edgC n x = 0 ↔ EOkE n x := by
  unfold edgC
  constructor
  · intro h
    split at h
    · rename_i hr
      split at h
      · cases h
      · rename_i hn
        exact ⟨hr.1, hr.2.1, hr.2.2.1, hr.2.2.2, hn, qok_rot.2 h⟩
    · cases h
  · intro h
    rw [if_pos ⟨h.f0, h.f1, h.t0, h.t1⟩, if_neg h.ne]
    exact qok_rot.1 h.q
def EsOk (n : Nat) (es : List REdge) : Prop := ∀ x ∈ es, EOkE n x
theorem edsC_ok {n : Nat} : ∀ {es : List REdge}, edsC n es = 0 ↔ EsOk n es
  | [] => by simp [edsC, EsOk]
  | x :: l => by
    unfold edsC
    split
    · rename_i h
      rw [edsC_ok (es := l)]
      exact ⟨fun g => List.forall_mem_cons.2 ⟨edgC_ok.1 h, g⟩, fun g => (List.forall_mem_cons.1 g).2⟩
    · rename_i h
      exact ⟨fun g => absurd g h, fun g => absurd (edgC_ok.2 (List.forall_mem_cons.1 g).1) h⟩
theorem edsC_at {n : Int} : ∀ {es : List REdge} {k : Nat}, k < es.length → (∀ i, i < k → edgC n (es.getD i e0) = 0) → edgC n (es.getD k e0) ≠ 0 → edsC n es = edgC n (es.getD k e0)
  | [], k, h, _, _ => by simp at h
  | x :: l, 0, h, _, h2 => by simp only [edsC, List.getD_cons_zero] at h2 ⊢; rw [if_neg h2]
  | x :: l, k + 1, h, h1, h2 => by
    have hx := h1 0 (by omega)
    simp only [List.getD_cons_zero] at hx
    simp only [edsC, List.getD_cons_succ, hx, if_true] at h2 ⊢
    exact edsC_at (by simpa using h) (fun i hi => by have := h1 (i + 1) (by omega); simpa using this) h2
theorem edsC_end {n : Int} : ∀ {es : List REdge}, (∀ i, i < es.length → edgC n (es.getD i e0) = 0) → edsC n es = 0
  | [], _ => rfl
  | x :: l, h => by
    have hx := h 0 (by simp)
    simp only [List.getD_cons_zero] at hx
    simp only [edsC, hx, if_true]
    exact edsC_end fun i hi => by have := h (i + 1) (by simpa using hi); simpa using this
theorem lopC_lim {n : Int} {es : List REdge} (h : n < 1 ∨ 64 < n ∨ 256 < es.length) : lopC n es = 3 := if_pos h
theorem lopC_eds {n : Int} {es : List REdge} (h1 : ¬ n < 1) (h2 : ¬ 64 < n) (h3 : ¬ 256 < es.length) : lopC n es = edsC n es := if_neg (fun h => by rcases h with h | h | h <;> omega)
theorem lopC_0 {n : Int} {es : List REdge} (h : lopC n es = 0) : 1 ≤ n ∧ n ≤ 64 ∧ es.length ≤ 256 ∧ EsOk n.toNat es := by
  unfold lopC at h
  split at h
  · cases h
  · rename_i hn
    have h1 : 1 ≤ n := by omega
    refine ⟨h1, by omega, by omega, ?_⟩
    rw [show n = ((n.toNat : Nat) : Int) by omega] at h
    exact edsC_ok.1 h
theorem eget {n : Nat} {es : List REdge} (h : EsOk n es) {k : Nat} (hk : k < es.length) : EOkE n (es.getD k e0) := by
  rw [List.getD_eq_getElem?_getD, List.getElem?_eq_getElem hk]
  exact h _ (List.getElem_mem hk)
def pA (p : List Int) (x : REdge) : Int := p.getD x.fr.toNat 0
def pB (p : List Int) (x : REdge) : Int := p.getD x.to_.toNat 0
def kp (g : Bool) (a b : Int) : Int := if g = true then min a b else a
def dp (g : Bool) (a b : Int) : Int := if g = true then max a b else b
def rl (k d q : Int) : Int := if q = d then k else q
def mrg (g : Bool) (a b : Int) (p : List Int) : List Int := p.map (rl (kp g a b) (dp g a b))
def tPar (g : Bool) (n : Nat) (es : List REdge) : Nat → List Int
  | 0 => (List.range n).map fun k => ((k : Nat) : Int)
  | k + 1 => if pA (tPar g n es k) (es.getD k e0) = pB (tPar g n es k) (es.getD k e0) then tPar g n es k else mrg g (pA (tPar g n es k) (es.getD k e0)) (pB (tPar g n es k) (es.getD k e0)) (tPar g n es k)
def tTak (g : Bool) (n : Nat) (es : List REdge) : Nat → List Int
  | 0 => []
  | k + 1 => if pA (tPar g n es k) (es.getD k e0) = pB (tPar g n es k) (es.getD k e0) then tTak g n es k else tTak g n es k ++ [((k : Nat) : Int)]
theorem tPar_y {g : Bool} {n : Nat} {es : List REdge} {k : Nat} (h : pA (tPar g n es k) (es.getD k e0) = pB (tPar g n es k) (es.getD k e0)) : tPar g n es (k + 1) = tPar g n es k ∧ tTak g n es (k + 1) = tTak g n es k := ⟨if_pos h, if_pos h⟩
theorem tPar_n {g : Bool} {n : Nat} {es : List REdge} {k : Nat} (h : ¬ pA (tPar g n es k) (es.getD k e0) = pB (tPar g n es k) (es.getD k e0)) : tPar g n es (k + 1) = mrg g (pA (tPar g n es k) (es.getD k e0)) (pB (tPar g n es k) (es.getD k e0)) (tPar g n es k) ∧ tTak g n es (k + 1) = tTak g n es k ++ [((k : Nat) : Int)] := ⟨if_neg h, if_neg h⟩
theorem mrg_len (g : Bool) (a b : Int) (p : List Int) : (mrg g a b p).length = p.length := by simp [mrg]
theorem tPar_len (g : Bool) (n : Nat) (es : List REdge) : ∀ k, (tPar g n es k).length = n
  | 0 => by simp [tPar]
  | k + 1 => by
    unfold tPar
    split
    · exact tPar_len g n es k
    · rw [mrg_len]; exact tPar_len g n es k
theorem tTak_len (g : Bool) (n : Nat) (es : List REdge) : ∀ k, (tTak g n es k).length ≤ k
  | 0 => by simp [tTak]
  | k + 1 => by
    have := tTak_len g n es k
    unfold tTak
    split
    · omega
    · rw [List.length_append]; simp; omega
theorem tTak_mem {g : Bool} {n : Nat} {es : List REdge} : ∀ {k : Nat} {z : Int}, z ∈ tTak g n es k → ∃ i : Nat, i < k ∧ z = i
  | 0, z, h => by simp [tTak] at h
  | k + 1, z, h => by
    unfold tTak at h
    split at h
    · obtain ⟨i, h1, h2⟩ := tTak_mem h; exact ⟨i, by omega, h2⟩
    · rcases List.mem_append.1 h with h | h
      · obtain ⟨i, h1, h2⟩ := tTak_mem h; exact ⟨i, by omega, h2⟩
      · exact ⟨k, by omega, by simpa using h⟩
theorem mrg_get {g : Bool} {a b : Int} {p : List Int} {i : Nat} (h : i < p.length) : (mrg g a b p).getD i 0 = rl (kp g a b) (dp g a b) (p.getD i 0) := by
  simp [mrg, List.getD_eq_getElem?_getD, List.getElem?_eq_getElem h]
theorem rl_iff {g : Bool} {a b u v : Int} (h : a ≠ b) : rl (kp g a b) (dp g a b) u = rl (kp g a b) (dp g a b) v ↔ (u = v ∨ (u = a ∧ v = b) ∨ (u = b ∧ v = a)) := by
  unfold rl kp dp
  cases g <;> simp only [Bool.false_eq_true, if_false, if_true] <;> split <;> split <;> constructor <;> intro hh <;> omega
section
variable {n : Nat} {es : List REdge}
theorem same_cls (h : EsOk n es) : ∀ {k : Nat}, k ≤ es.length → ∀ {i j : Nat}, i < n → j < n → ((tPar true n es k).getD i 0 = (tPar true n es k).getD j 0 ↔ (tPar false n es k).getD i 0 = (tPar false n es k).getD j 0)
  | 0, _, i, j, hi, hj => by simp [tPar]
  | k + 1, hk, i, j, hi, hj => by
    have ih := fun {i j : Nat} (hi : i < n) (hj : j < n) => same_cls h (k := k) (by omega) hi hj
    have hx := eget h (k := k) (by omega)
    generalize he : es.getD k e0 = x at hx
    have hf : x.fr.toNat < n := by have := hx.f0; have := hx.f1; omega
    have ht : x.to_.toNat < n := by have := hx.t0; have := hx.t1; omega
    have e1 := ih hf ht
    by_cases hab : pA (tPar true n es k) (es.getD k e0) = pB (tPar true n es k) (es.getD k e0)
    · have hab2 : pA (tPar false n es k) (es.getD k e0) = pB (tPar false n es k) (es.getD k e0) := by
        rw [he] at hab ⊢; exact e1.1 hab
      rw [(tPar_y hab).1, (tPar_y hab2).1]; exact ih hi hj
    · have hab2 : ¬ pA (tPar false n es k) (es.getD k e0) = pB (tPar false n es k) (es.getD k e0) := by
        rw [he] at hab ⊢; exact fun e => hab (e1.2 e)
      rw [(tPar_n hab).1, (tPar_n hab2).1]
      rw [he] at hab hab2 ⊢
      have l1 := tPar_len true n es k
      have l2 := tPar_len false n es k
      rw [mrg_get (by omega), mrg_get (by omega), mrg_get (by omega), mrg_get (by omega), rl_iff hab, rl_iff hab2]
      unfold pA pB
      rw [ih hi hj, ih hi hf, ih hj ht, ih hi ht, ih hj hf]
theorem tTak_eq (h : EsOk n es) : ∀ {k : Nat}, k ≤ es.length → tTak true n es k = tTak false n es k
  | 0, _ => rfl
  | k + 1, hk => by
    have ih := tTak_eq h (k := k) (by omega)
    have hx := eget h (k := k) (by omega)
    have e1 := same_cls h (k := k) (by omega) (i := (es.getD k e0).fr.toNat) (j := (es.getD k e0).to_.toNat) (by have := hx.f0; have := hx.f1; omega) (by have := hx.t0; have := hx.t1; omega)
    by_cases hab : pA (tPar true n es k) (es.getD k e0) = pB (tPar true n es k) (es.getD k e0)
    · rw [(tPar_y hab).2, (tPar_y (e1.1 hab)).2, ih]
    · rw [(tPar_n hab).2, (tPar_n (fun e => hab (e1.2 e))).2, ih]
theorem tPar_rng (h : EsOk n es) : ∀ {k : Nat}, k ≤ es.length → ∀ {i : Nat}, i < n → 0 ≤ (tPar true n es k).getD i 0 ∧ (tPar true n es k).getD i 0 ≤ i
  | 0, _, i, hi => by simp [tPar, List.getD_eq_getElem?_getD, hi]
  | k + 1, hk, i, hi => by
    have ih := fun {i : Nat} (hi : i < n) => tPar_rng h (k := k) (by omega) hi
    have hx := eget h (k := k) (by omega)
    by_cases hab : pA (tPar true n es k) (es.getD k e0) = pB (tPar true n es k) (es.getD k e0)
    · rw [(tPar_y hab).1]; exact ih hi
    · rw [(tPar_n hab).1, mrg_get (by rw [tPar_len]; exact hi)]
      have hf := ih (i := (es.getD k e0).fr.toNat) (by have := hx.f0; have := hx.f1; omega)
      have ht := ih (i := (es.getD k e0).to_.toNat) (by have := hx.t0; have := hx.t1; omega)
      have hi2 := ih hi
      unfold rl kp dp pA pB
      simp only [if_true]
      split <;> omega
theorem tPar_root (h : EsOk n es) : ∀ {k : Nat}, k ≤ es.length → ∀ {i : Nat}, i < n → (tPar true n es k).getD ((tPar true n es k).getD i 0).toNat 0 = (tPar true n es k).getD i 0
  | 0, _, i, hi => by simp [tPar, List.getD_eq_getElem?_getD, hi]
  | k + 1, hk, i, hi => by
    have ih := fun {i : Nat} (hi : i < n) => tPar_root h (k := k) (by omega) hi
    have rg := fun {i : Nat} (hi : i < n) => tPar_rng h (k := k) (by omega) hi
    have hx := eget h (k := k) (by omega)
    by_cases hab : pA (tPar true n es k) (es.getD k e0) = pB (tPar true n es k) (es.getD k e0)
    · rw [(tPar_y hab).1]; exact ih hi
    · have l1 := tPar_len true n es k
      have hf : (es.getD k e0).fr.toNat < n := by have := hx.f0; have := hx.f1; omega
      have ht : (es.getD k e0).to_.toNat < n := by have := hx.t0; have := hx.t1; omega
      have rf := rg hf; have rt := rg ht; have ri := rg hi
      have f1 := ih hf; have t1 := ih ht; have i1 := ih hi
      rw [(tPar_n hab).1]
      rw [mrg_get (i := i) (by omega)]
      have e : ∃ q, q = rl (kp true (pA (tPar true n es k) (es.getD k e0)) (pB (tPar true n es k) (es.getD k e0))) (dp true (pA (tPar true n es k) (es.getD k e0)) (pB (tPar true n es k) (es.getD k e0))) ((tPar true n es k).getD i 0) := ⟨_, rfl⟩
      obtain ⟨q, hq⟩ := e
      rw [← hq]
      have hq0 : 0 ≤ q ∧ q < n ∧ (tPar true n es k).getD q.toNat 0 = q ∧ q ≠ max (pA (tPar true n es k) (es.getD k e0)) (pB (tPar true n es k) (es.getD k e0)) := by
        unfold rl kp dp at hq
        simp only [if_true] at hq
        unfold pA pB at *
        split at hq
        · rcases Int.le_total ((tPar true n es k).getD (es.getD k e0).fr.toNat 0) ((tPar true n es k).getD (es.getD k e0).to_.toNat 0) with hm | hm
          · rw [Int.min_eq_left hm] at hq; subst hq; exact ⟨by omega, by omega, f1, by omega⟩
          · rw [Int.min_eq_right hm] at hq; subst hq; exact ⟨by omega, by omega, t1, by omega⟩
        · subst hq; exact ⟨by omega, by omega, i1, by assumption⟩
      rw [mrg_get (by omega), hq0.2.2.1]
      unfold rl dp
      simp only [if_true]
      rw [if_neg hq0.2.2.2]
theorem tPar_closed (h : EsOk n es) (S : Nat → Prop) : ∀ {k : Nat}, k ≤ es.length → (∀ i : Nat, (i : Int) ∈ tTak true n es k → (S (es.getD i e0).fr.toNat ↔ S (es.getD i e0).to_.toNat)) → ∀ {i j : Nat}, i < n → j < n → (tPar true n es k).getD i 0 = (tPar true n es k).getD j 0 → (S i ↔ S j)
  | 0, _, _, i, j, hi, hj, e => by
    simp [tPar, List.getD_eq_getElem?_getD, hi, hj] at e
    rw [show i = j by omega]
  | k + 1, hk, hS, i, j, hi, hj, e => by
    by_cases hab : pA (tPar true n es k) (es.getD k e0) = pB (tPar true n es k) (es.getD k e0)
    · rw [(tPar_y hab).1] at e
      rw [(tPar_y hab).2] at hS
      exact tPar_closed h S (by omega) hS hi hj e
    · have hx := eget h (k := k) (by omega)
      have hf : (es.getD k e0).fr.toNat < n := by have := hx.f0; have := hx.f1; omega
      have ht : (es.getD k e0).to_.toNat < n := by have := hx.t0; have := hx.t1; omega
      rw [(tPar_n hab).2] at hS
      have ih := fun {i j : Nat} (hi : i < n) (hj : j < n) e => tPar_closed h S (k := k) (by omega) (fun i hi => hS i (List.mem_append_left _ hi)) (i := i) (j := j) hi hj e
      have hk1 := hS k (List.mem_append_right _ (by simp))
      have l1 := tPar_len true n es k
      rw [(tPar_n hab).1, mrg_get (by omega), mrg_get (by omega), rl_iff hab] at e
      rcases e with e | ⟨e1, e2⟩ | ⟨e1, e2⟩
      · exact ih hi hj e
      · exact (ih hi hf e1).trans (hk1.trans (ih ht hj e2.symm))
      · exact (ih hi ht e1).trans (hk1.symm.trans (ih hf hj e2.symm))
theorem tPar_ends (h : EsOk n es) : ∀ {k : Nat}, k ≤ es.length → ∀ {i : Nat}, i < k → (tPar true n es k).getD (es.getD i e0).fr.toNat 0 = (tPar true n es k).getD (es.getD i e0).to_.toNat 0
  | 0, _, i, hi => by omega
  | k + 1, hk, i, hi => by
    have hx := eget h (k := i) (by omega)
    have hf : (es.getD i e0).fr.toNat < n := by have := hx.f0; have := hx.f1; omega
    have ht : (es.getD i e0).to_.toNat < n := by have := hx.t0; have := hx.t1; omega
    have l1 := tPar_len true n es k
    by_cases hik : i = k
    · subst hik
      by_cases hab : pA (tPar true n es i) (es.getD i e0) = pB (tPar true n es i) (es.getD i e0)
      · rw [(tPar_y hab).1]; exact hab
      · rw [(tPar_n hab).1, mrg_get (by omega), mrg_get (by omega), rl_iff hab]
        exact .inr (.inl ⟨rfl, rfl⟩)
    · have ih := tPar_ends h (k := k) (by omega) (i := i) (by omega)
      by_cases hab : pA (tPar true n es k) (es.getD k e0) = pB (tPar true n es k) (es.getD k e0)
      · rw [(tPar_y hab).1]; exact ih
      · rw [(tPar_n hab).1, mrg_get (by omega), mrg_get (by omega), rl_iff hab]; exact .inl ih
def tV (n : Nat) (es : List REdge) : Nat → Nat → RQuat
  | 0, _ => q1
  | k + 1, j =>
    if pA (tPar true n es k) (es.getD k e0) = pB (tPar true n es k) (es.getD k e0) then tV n es k j
    else if pA (tPar true n es k) (es.getD k e0) < pB (tPar true n es k) (es.getD k e0) then
      (if (tPar true n es k).getD j 0 = pB (tPar true n es k) (es.getD k e0) then qmul (qmul (qmul (tV n es k (es.getD k e0).fr.toNat) (qcj (es.getD k e0).turn)) (qcj (tV n es k (es.getD k e0).to_.toNat))) (tV n es k j) else tV n es k j)
    else
      (if (tPar true n es k).getD j 0 = pA (tPar true n es k) (es.getD k e0) then qmul (qmul (qmul (tV n es k (es.getD k e0).to_.toNat) (es.getD k e0).turn) (qcj (tV n es k (es.getD k e0).fr.toNat))) (tV n es k j) else tV n es k j)
theorem tV_nz (h : EsOk n es) : ∀ {k : Nat}, k ≤ es.length → ∀ j, Qnz (tV n es k j)
  | 0, _, j => q1_ok.1
  | k + 1, hk, j => by
    have ih := tV_nz h (k := k) (by omega)
    have hx := eget h (k := k) (by omega)
    unfold tV
    split
    · exact ih j
    · split
      · split
        · exact qmul_nz (qmul_nz (qmul_nz (ih _) (qcj_nz hx.q.1)) (qcj_nz (ih _))) (ih _)
        · exact ih j
      · split
        · exact qmul_nz (qmul_nz (qmul_nz (ih _) hx.q.1) (qcj_nz (ih _))) (ih _)
        · exact ih j
theorem tV_root (h : EsOk n es) : ∀ {k : Nat}, k ≤ es.length → ∀ {j : Nat}, j < n → (tPar true n es k).getD j 0 = j → tV n es k j = q1
  | 0, _, j, _, _ => rfl
  | k + 1, hk, j, hj, e => by
    have hx := eget h (k := k) (by omega)
    have hf : (es.getD k e0).fr.toNat < n := by have := hx.f0; have := hx.f1; omega
    have ht : (es.getD k e0).to_.toNat < n := by have := hx.t0; have := hx.t1; omega
    have ih := tV_root h (k := k) (by omega) hj
    have l1 := tPar_len true n es k
    have rj := tPar_rng h (k := k) (by omega) hj
    have rf := tPar_rng h (k := k) (by omega) hf
    have rt := tPar_rng h (k := k) (by omega) ht
    by_cases hab : pA (tPar true n es k) (es.getD k e0) = pB (tPar true n es k) (es.getD k e0)
    · rw [(tPar_y hab).1] at e
      unfold tV; rw [if_pos hab]; exact ih e
    · rw [(tPar_n hab).1, mrg_get (by omega)] at e
      unfold tV; rw [if_neg hab]
      have hne : (tPar true n es k).getD j 0 ≠ max (pA (tPar true n es k) (es.getD k e0)) (pB (tPar true n es k) (es.getD k e0)) := fun e2 => by
        unfold rl kp dp at e
        simp only [if_true] at e
        rw [if_pos e2] at e
        unfold pA pB at *
        omega
      have e3 : (tPar true n es k).getD j 0 = j := by
        unfold rl dp at e
        simp only [if_true] at e
        rwa [if_neg hne] at e
      split
      · rw [if_neg (fun e2 => hne (by omega))]; exact ih e3
      · rw [if_neg (fun e2 => hne (by omega))]; exact ih e3
theorem tV_sat (h : EsOk n es) : ∀ {k : Nat}, k ≤ es.length → ∀ {i : Nat}, (i : Int) ∈ tTak true n es k → Qeq (tV n es k (es.getD i e0).fr.toNat) (qmul (tV n es k (es.getD i e0).to_.toNat) (es.getD i e0).turn)
  | 0, _, i, hi => by simp [tTak] at hi
  | k + 1, hk, i, hi => by
    have nz := tV_nz h (k := k) (by omega)
    have hx := eget h (k := k) (by omega)
    by_cases hab : pA (tPar true n es k) (es.getD k e0) = pB (tPar true n es k) (es.getD k e0)
    · rw [(tPar_y hab).2] at hi
      unfold tV; simp only [if_pos hab]
      exact tV_sat h (by omega) hi
    · rw [(tPar_n hab).2] at hi
      unfold tV; simp only [if_neg hab]
      rcases List.mem_append.1 hi with hi | hi
      · have ih := tV_sat h (k := k) (by omega) hi
        obtain ⟨i', hi', e'⟩ := tTak_mem hi
        have hends := tPar_ends h (k := k) (by omega) (i := i) (by omega)
        have hm : ∀ m : RQuat, Qeq (qmul m (tV n es k (es.getD i e0).fr.toNat)) (qmul (qmul m (tV n es k (es.getD i e0).to_.toNat)) (es.getD i e0).turn) := fun m => by
          rw [qmul_assoc]; exact (Qeq.refl m).mul ih
        rw [hends]
        split
        · split
          · exact hm _
          · exact ih
        · split
          · exact hm _
          · exact ih
      · obtain rfl : i = k := by simp at hi; omega
        have hA : (tPar true n es i).getD (es.getD i e0).fr.toNat 0 = pA (tPar true n es i) (es.getD i e0) := rfl
        have hB : (tPar true n es i).getD (es.getD i e0).to_.toNat 0 = pB (tPar true n es i) (es.getD i e0) := rfl
        rw [hA, hB]
        simp only [if_true, if_neg hab, if_neg (fun e => hab (Eq.symm e))]
        split
        · refine Qeq.symm ?_
          rw [qmul_assoc _ (qcj (tV n es i (es.getD i e0).to_.toNat)) _, qcj_mul, qsc_mul_r, qmul_1, qsc_mul_l, qmul_assoc, qcj_mul, qsc_mul_r, qmul_1, qsc_sc]
          exact Qeq.sc (Int.mul_ne_zero (qnz_n.1 (nz _)) (qnz_n.1 hx.q.1)) _
        · rw [qmul_assoc (qmul _ _), qcj_mul, qsc_mul_r, qmul_1]
          exact Qeq.sc (qnz_n.1 (nz _)) _
end
def aV (n : Nat) (es : List REdge) (j : Nat) : RQuat := tV n es es.length j
def aFit (n : Nat) (es : List REdge) : Prop := ∀ j, j < n → Qfit (qcan (aV n es j))
instance {n : Nat} {es : List REdge} : Decidable (aFit n es) := by unfold aFit; infer_instance
def absL (n : Nat) (es : List REdge) : List RQuat := if aFit n es then (List.range n).map fun j => qcan (aV n es j) else []
def absC (n : Nat) (es : List REdge) : Nat := if aFit n es then 0 else 3
def treL (n : Nat) (es : List REdge) : List Int := tTak true n es es.length
end Go.Fid
namespace Go.Proofs.YtihgdjljnaekmaaGreat
open Go.Fid
def encI (x : RInt) : Dat := .agg [.val (.bool x.neg), .sl 135 1 (x.gs.map enc_u32)]
def encR (x : RRat) : Dat := .agg [.val (.bool x.num.neg), .sl 135 1 (x.num.gs.map enc_u32), .val (.bool x.den.neg), .sl 135 1 (x.den.gs.map enc_u32)]
structure RPix where
  x : Int
  y : Int
structure RSpot where
  x : Int
  y : Int
  z : Int
def encQuat (x : RQuat) : Dat := .agg [.val (.int .i64 x.a), .val (.int .i64 x.b), .val (.int .i64 x.c), .val (.int .i64 x.d)]
def encEdge (x : REdge) : Dat := .agg [.val (.int .i64 x.fr), .val (.int .i64 x.to_), .val (.int .i64 x.turn.a), .val (.int .i64 x.turn.b), .val (.int .i64 x.turn.c), .val (.int .i64 x.turn.d)]
structure RStn where
  at_ : RSpot
  turn : RQuat
  focal : Int
  centre : RPix
structure A2 (α : Type) where
  a0 : α
  a1 : α
structure A3 (α : Type) where
  a0 : α
  a1 : α
  a2 : α
structure A4 (α : Type) where
  a0 : α
  a1 : α
  a2 : α
  a3 : α
def encA70 (x : A3 (Int)) : Dat := .agg [.val (.int .i64 x.a0), .val (.int .i64 x.a1), .val (.int .i64 x.a2)]
def encA109 (x : A2 (Int)) : Dat := .agg [.val (.int .i64 x.a0), .val (.int .i64 x.a1)]
def encA146 (x : A4 (Int)) : Dat := .agg [.val (.int .i64 x.a0), .val (.int .i64 x.a1), .val (.int .i64 x.a2), .val (.int .i64 x.a3)]
def encA179 (x : A4 (RInt)) : Dat := .agg [.val (.bool x.a0.neg), .sl 135 1 (x.a0.gs.map enc_u32), .val (.bool x.a1.neg), .sl 135 1 (x.a1.gs.map enc_u32), .val (.bool x.a2.neg), .sl 135 1 (x.a2.gs.map enc_u32), .val (.bool x.a3.neg), .sl 135 1 (x.a3.gs.map enc_u32)]
end Go.Proofs.YtihgdjljnaekmaaGreat
namespace Go.Proofs.YtihgdjljnaekmaaGreat
open Go.Fid
theorem mo : Tryz.prog.follows .mixedOrders = true := by kernel_rfl
end Go.Proofs.YtihgdjljnaekmaaGreat
set_option linter.unusedVariables false
namespace Go.Fid
abbrev vi (z : Int) : SV := .d (.val (.int .i64 z))
abbrev vin (n : Nat) : SV := .d (.val (.int .i64 (n : Int)))
abbrev vqn (n : Nat) : SV := .d (.val (.int .u64 (n : Int)))
abbrev vwn (n : Nat) : SV := .d (.val (.int .u32 (n : Int)))
abbrev vb (b : Bool) : SV := .d (.val (.bool b))
abbrev vl {α : Type} (E z : Nat) (F : α → Dat) (L : List α) : SV := .d (.sl E z (L.map F))
abbrev bm {α : Type} (F : α → Dat) (L : List α) : List SV := L.map (fun g => SV.d (F g))
section
variable {P : Program} {n : Fr} {ops : Array Oper} {S S' : SL} {B B' : BS} {l : List Oper} {o : Oper} {news : List Nat} {acc0 : List (List Nat × List Nat)}
end
theorem fillL_all {s : Nat} : ∀ (ds : List Dat) (k : Nat) (a z : List Dat), a.length = k * s → z.length = ds.length * s → (∀ d ∈ ds, d.cells.length = s) →
    fillL (fun i => some (i * s, s)) (a ++ z) ((ds.zipIdx k).map fun p => (p.2, p.1.cells)) = some (a ++ flat ds)
  | [], k, a, z, ha, hz, _ => by
    have : z = [] := List.eq_nil_of_length_eq_zero (by simpa using hz)
    subst this; simp [fillL, flat]
  | d :: ds, k, a, z, ha, hz, hs => by
    have hd := hs d (by simp)
    have hz' : z.length = s + ds.length * s := by rw [hz, List.length_cons, Nat.add_mul]; omega
    rw [List.zipIdx_cons, List.map_cons]
    simp only [fillL]
    have h1 : (Nat.beq d.cells.length s && Nat.ble (k * s + d.cells.length) (a ++ z).length) = true := by
      rw [Bool.and_eq_true]
      refine ⟨by rw [hd]; exact Nat.beq_refl s, Nat.ble_eq_true_of_le ?_⟩
      rw [List.length_append, ha, hd]; omega
    rw [h1, cond_true]
    have h2 : patch (a ++ z) (k * s) d.cells = (a ++ d.cells) ++ z.drop s := by
      unfold patch
      rw [← ha, List.take_left, hd]
      congr 1
      rw [List.drop_append, List.drop_of_length_le (by omega), List.nil_append]
      congr 1; omega
    rw [h2, fillL_all ds (k + 1) (a ++ d.cells) (z.drop s) (by rw [List.length_append, ha, hd, Nat.add_mul]; omega) (by rw [List.length_drop]; omega) (fun x hx => hs x (by simp [hx])), flat_cons, List.append_assoc]
theorem e_bldF {P : Program} {o : Oper} {S : Nat → SV} {T E : TypeId} {n s : Nat} {ps : List (Nat × Operand)} {ds : List Dat} {zv : List Value} {zd : List Dat} {y : Dat} (ho : o.op = .build T ps.toArray) (hT : arrB P T = some (n, E, s)) (hz : zeroB P T = some zv) (hzd : ZOk zv zd)
    (hps : ps.map (fun p => (p.1, ev S p.2)) = ds.zipIdx.map (fun p => (p.2, .d p.1))) (hok : ds.all (fun d => d.ok1) = true) (hs : ds.all (fun d => Nat.beq d.cells.length s) = true) (hl : Nat.beq zd.length (ds.length * s) = true) (hy : Dat.agg (flat ds) = y) : EOk P o S [] (.d y) := by
  subst hy
  refine e_build_arr (pd := ds.zipIdx.map fun p => (p.2, p.1)) ho hT hz hzd (by rw [hps, List.map_map]; rfl) ?_ ?_
  · rw [List.all_eq_true] at hok ⊢
    intro p hp
    obtain ⟨q, hq, rfl⟩ := List.mem_map.1 hp
    exact hok _ (List.fst_mem_of_mem_zipIdx hq)
  · have := fillL_all ds 0 [] zd (by simp) (Nat.eq_of_beq_eq_true hl) (fun d hd => Nat.eq_of_beq_eq_true (List.all_eq_true.1 hs d hd))
    rw [List.map_map]
    rw [List.nil_append, List.nil_append] at this
    exact this
theorem pubs_cells {α : Type} {s : Nat} (F : α → Dat) (L : List α) (hF : ∀ g, (F g).cells.length = s) : ∀ e ∈ L.map F, e.cells.length = s := by
  intro e he
  obtain ⟨g, _, rfl⟩ := List.mem_map.1 he
  exact hF g
theorem pubs_take {α : Type} {s : Nat} (F : α → Dat) (L : List α) (hF : ∀ g, (F g).cells.length = s) {m : Nat} (h : L.length = m) : (bxs F L).take (m * s) = (flat (L.map F)).map .d := by
  refine List.take_of_length_le ?_
  rw [List.length_map, flat_maplen F hF, h]
  exact Nat.le_refl _
end Go.Fid
