/- Part 12 of a proof: rules, plain facts, and functions walked. -/
import Derived.Test.YtihgdjljnaekmaaGreatM11
import Derived.Test.YtihgdjljnaekmaaGreatM10
set_option linter.unusedVariables false
set_option linter.unusedSimpArgs false
namespace Go.Fid
def loS : List Int → List Int
  | a :: b :: r => ((a + b).fdiv 2) :: loS r
  | [a] => [a]
  | [] => []
def hiS : List Int → List Int
  | a :: b :: r => (a - b) :: hiS r
  | _ => []
def Bd (n : Int) (l : List Int) : Prop := ∀ x ∈ l, -n ≤ x ∧ x ≤ n
theorem Bd.get {n : Int} {l : List Int} (h : Bd n l) (hn : 0 ≤ n) (i : Nat) : -n ≤ l.getD i 0 ∧ l.getD i 0 ≤ n := by
  rw [List.getD_eq_getElem?_getD]
  cases e : l[i]? with
  | none => simp; omega
  | some x => exact h x (List.mem_of_getElem? e)
theorem Bd.up {m n : Int} {l : List Int} (h : Bd m l) (hm : m ≤ n) : Bd n l := fun x hx => by have := h x hx; omega
theorem two_ind {P : List Int → Prop} (h0 : P []) (h1 : ∀ a, P [a]) (h2 : ∀ a b r, P r → P (a :: b :: r)) : ∀ l, P l
  | [] => h0
  | [a] => h1 a
  | a :: b :: r => h2 a b r (two_ind h0 h1 h2 r)
theorem loS_len (l : List Int) : (loS l).length = (l.length + 1) / 2 := by
  induction l using two_ind with
  | h0 => rfl
  | h1 a => simp [loS]
  | h2 a b r ih => simp only [loS, List.length_cons, ih]; omega
theorem take_one {l : List Int} {i : Nat} (h : i < l.length) : l.take (i + 1) = l.take i ++ [l.getD i 0] := by
  rw [List.take_add_one, List.getD_eq_getElem?_getD, List.getElem?_eq_getElem h]
  rfl
def tr (w : Nat) (T : List (List Int)) : List (List Int) := (List.range w).map fun j => T.map fun r => r.getD j 0
def trP (T : List (List Int)) : List (List Int) := tr (T.headD []).length T
def Rect (w : Nat) (T : List (List Int)) : Prop := ∀ r ∈ T, r.length = w
theorem tr_rect (w : Nat) (T : List (List Int)) : Rect T.length (tr w T) := fun r hr => by
  simp only [tr, List.mem_map] at hr
  obtain ⟨j, _, rfl⟩ := hr
  simp
theorem trP_eq {w : Nat} {T : List (List Int)} (h : Rect w T) (hne : T ≠ []) : trP T = tr w T := by
  cases T with
  | nil => exact absurd rfl hne
  | cons r T => unfold trP; rw [List.headD_cons, h r (by simp)]
def rowsOf (w h : Nat) (l : List Int) : List (List Int) := (List.range h).map fun y => (l.drop (y * w)).take w
theorem rowsOf_rect {w h : Nat} {l : List Int} (hl : l.length = w * h) : Rect w (rowsOf w h l) := fun r hr => by
  simp only [rowsOf, List.mem_map, List.mem_range] at hr
  obtain ⟨y, hy, rfl⟩ := hr
  have : (y + 1) * w ≤ h * w := Nat.mul_le_mul_right w hy
  rw [Nat.add_mul] at this
  rw [List.length_take, List.length_drop, hl, Nat.mul_comm w h]
  omega
def colLo (T : List (List Int)) : List Int := (trP ((trP T).map loS)).flatten
def bLow (w h : Nat) (px : List Int) : List Int := colLo ((rowsOf w h px).map loS)
theorem py_eq_len {l m : List Int} (h : ((l.length : Nat) : Int) ≠ ((m.length : Nat) : Int)) : (l == m) = false := by
  rw [beq_eq_false_iff_ne]; intro e; subst e; exact h rfl
theorem py_eq_at {l m : List Int} {k : Nat} (h : l.getD k 0 ≠ m.getD k 0) : (l == m) = false := by
  rw [beq_eq_false_iff_ne]; intro e; subst e; exact h rfl
theorem py_eq_step {l m : List Int} {k : Nat} (hv : l.take k = m.take k) (h1 : k < l.length) (h2 : l.length = m.length) (h : l.getD k 0 = m.getD k 0) : l.take (k + 1) = m.take (k + 1) := by
  rw [take_one h1, take_one (h2 ▸ h1), hv, h]
theorem py_eq_end {l m : List Int} {k : Nat} (hv : l.take k = m.take k) (h1 : l.length ≤ k) (h2 : l.length = m.length) : (l == m) = true := by
  rw [List.take_of_length_le h1, List.take_of_length_le (h2 ▸ h1)] at hv; rw [hv]; exact beq_self_eq_true m
end Go.Fid
set_option linter.unusedVariables false
set_option linter.unusedSimpArgs false
namespace Go.Fid
def fits64 (z : Int) : Bool := decide (-9223372036854775808 ≤ z) && decide (z ≤ 9223372036854775807)
def smallI (z : Int) : Int := if fits64 z = true then z else 0
theorem fits64_t {z : Int} (h1 : -9223372036854775808 ≤ z) (h2 : z ≤ 9223372036854775807) : fits64 z = true := by simp [fits64, h1, h2]
theorem fits64_f {z : Int} (h : 9223372036854775808 < z.natAbs) : fits64 z = false := by
  unfold fits64
  by_cases h1 : -9223372036854775808 ≤ z
  · have : ¬ z ≤ 9223372036854775807 := by omega
    simp [this]
  · simp [h1]
theorem fits64_b {z : Int} (h : fits64 z = true) : -9223372036854775808 ≤ z ∧ z ≤ 9223372036854775807 := by
  simpa [fits64] using h
theorem smallI_t {z : Int} (h : fits64 z = true) : smallI z = z := if_pos h
theorem smallI_f {z : Int} (h : fits64 z = false) : smallI z = 0 := by unfold smallI; rw [h]; rfl
theorem gz_eq (z : Int) : grpI (ofZ z) = ofNat z.natAbs := by unfold grpI; rw [validI_ofZ, if_pos rfl]; rfl
theorem gz_dig (z : Int) : Dig (grpI (ofZ z)) := by rw [gz_eq]; exact ofNat_dig _
theorem gz_val (z : Int) : val (grpI (ofZ z)) = z.natAbs := by rw [gz_eq]; exact ofNat_val _
theorem gz_long {z : Int} (h : 3 < (grpI (ofZ z)).length) : 9223372036854775808 < z.natAbs := by
  rw [gz_eq] at h
  by_cases hh : z.natAbs < pw 3
  · have := ofNat_length_le hh; omega
  · have : pw 3 = 1000000000000000000000000000 := by simp [pw]
    omega
theorem gz_neg (z : Int) : (ofZ z).neg = decide (z < 0) := by
  show (decide (z < 0) && z.natAbs != 0) = decide (z < 0)
  by_cases h : z < 0
  · have : z.natAbs ≠ 0 := by omega
    simp [h, this]
  · simp [h]
theorem gz_lenp {z : Int} (h : z ≠ 0) : 0 < (grpI (ofZ z)).length := by
  rw [gz_eq]; exact ofNat_len_pos (by omega)
theorem val_drop_le (l : List Nat) (k : Nat) : val (l.drop k) ≤ val l := by
  induction l generalizing k with
  | nil => simp
  | cons d l ih =>
    cases k with
    | zero => simp
    | succ k =>
      rw [List.drop_succ_cons]
      have := ih k
      show _ ≤ d + 1000000000 * val l
      omega
theorem gz_step {z : Int} {j n : Nat} (hj : j < (grpI (ofZ z)).length) (hn : n = val ((grpI (ofZ z)).drop ((grpI (ofZ z)).length - j))) :
    n * 1000000000 + (grpI (ofZ z)).getD ((grpI (ofZ z)).length - 1 - j) 0 = val ((grpI (ofZ z)).drop ((grpI (ofZ z)).length - (j + 1))) := by
  rw [val_drop _ j hj, ← hn]; omega
theorem gz_over {z : Int} {j n : Nat} (hj : j < (grpI (ofZ z)).length) (hn : n = val ((grpI (ofZ z)).drop ((grpI (ofZ z)).length - j)))
    (h : (9223372036854775808 - (grpI (ofZ z)).getD ((grpI (ofZ z)).length - 1 - j) 0) / 1000000000 < n) : 9223372036854775808 < z.natAbs := by
  have e := gz_step hj hn
  have h2 := val_drop_le (grpI (ofZ z)) ((grpI (ofZ z)).length - (j + 1))
  have hd := (gz_dig z).getD ((grpI (ofZ z)).length - 1 - j)
  rw [gz_val, ← e] at h2
  omega
theorem gz_room {z : Int} {j n : Nat} (h : ¬ (9223372036854775808 - (grpI (ofZ z)).getD ((grpI (ofZ z)).length - 1 - j) 0) / 1000000000 < n) :
    n * 1000000000 + (grpI (ofZ z)).getD ((grpI (ofZ z)).length - 1 - j) 0 ≤ 9223372036854775808 := by
  have hd := (gz_dig z).getD ((grpI (ofZ z)).length - 1 - j)
  omega
theorem gz_end {z : Int} {n : Nat} (hn : n = val ((grpI (ofZ z)).drop ((grpI (ofZ z)).length - (grpI (ofZ z)).length))) : n = z.natAbs := by
  rw [Nat.sub_self, List.drop_zero, gz_val] at hn; exact hn
theorem sm_n {z : Int} {n : Nat} (hn : n = z.natAbs) (hb : n ≤ 9223372036854775808) (h : z < 0) : smallI z = -((n : Nat) : Int) ∧ fits64 z = true := by
  have hf : fits64 z = true := fits64_t (by omega) (by omega)
  exact ⟨by rw [smallI_t hf]; omega, hf⟩
theorem sm_p {z : Int} {n : Nat} (hn : n = z.natAbs) (hb : n < 9223372036854775808) (h : ¬ z < 0) : smallI z = ((n : Nat) : Int) ∧ fits64 z = true := by
  have hf : fits64 z = true := fits64_t (by omega) (by omega)
  exact ⟨by rw [smallI_t hf]; omega, hf⟩
theorem sm_x {z : Int} (hb : z = 9223372036854775808) : smallI z = 0 ∧ fits64 z = false := by subst hb; decide
theorem sm_neg {z : Int} (h : (decide (0 < (((grpI (ofZ z)).length : Nat) : Int)) && (ofZ z).neg) = true) : z < 0 := by
  rw [gz_neg, Bool.and_eq_true] at h; exact of_decide_eq_true h.2
theorem sm_pos {z : Int} (h : (decide (0 < (((grpI (ofZ z)).length : Nat) : Int)) && (ofZ z).neg) = false) : ¬ z < 0 := by
  intro hz
  have := gz_lenp (z := z) (by omega)
  rw [gz_neg, decide_eq_true hz, decide_eq_true (show (0 : Int) < (((grpI (ofZ z)).length : Nat) : Int) by omega)] at h
  cases h
theorem negu64 {n : Nat} (h : n ≤ 9223372036854775808) : IntKind.u64.wrap (0 - ((n : Nat) : Int)) = (((18446744073709551616 - n) % 18446744073709551616 : Nat) : Int) := by
  have : IntKind.u64.wrap (0 - ((n : Nat) : Int)) = (0 - ((n : Nat) : Int)) % 18446744073709551616 := by
    simp [IntKind.wrap, IntKind.bits, IntKind.signed]
  rw [this]; omega
theorem negi64 {n : Nat} (h : n ≤ 9223372036854775808) : IntKind.i64.wrap (((18446744073709551616 - n) % 18446744073709551616 : Nat) : Int) = -((n : Nat) : Int) := by
  simp [IntKind.wrap, IntKind.bits, IntKind.signed]
  split <;> omega
section
variable {b s a c d e o l : Bool}
end
end Go.Fid
set_option linter.unusedVariables false
set_option linter.unusedSimpArgs false
namespace Go.Fid
structure RQuat where
  a : Int
  b : Int
  c : Int
  d : Int
deriving DecidableEq
def qL (q : RQuat) : List Int := [q.a, q.b, q.c, q.d]
def Qnz (q : RQuat) : Prop := sgnL (qL q) ≠ 0
def qn (q : RQuat) : Int := q.a * q.a + q.b * q.b + q.c * q.c + q.d * q.d
def qmul (p q : RQuat) : RQuat := ⟨p.a * q.a - p.b * q.b - p.c * q.c - p.d * q.d, p.a * q.b + p.b * q.a + p.c * q.d - p.d * q.c, p.a * q.c - p.b * q.d + p.c * q.a + p.d * q.b, p.a * q.d + p.b * q.c - p.c * q.b + p.d * q.a⟩
def qcj (q : RQuat) : RQuat := ⟨q.a, -q.b, -q.c, -q.d⟩
def qsc (k : Int) (q : RQuat) : RQuat := ⟨k * q.a, k * q.b, k * q.c, k * q.d⟩
def q1 : RQuat := ⟨1, 0, 0, 0⟩
def q0 : RQuat := ⟨0, 0, 0, 0⟩
def qdv (q : RQuat) (k : Int) : RQuat := ⟨q.a.fdiv k, q.b.fdiv k, q.c.fdiv k, q.d.fdiv k⟩
def qcan (q : RQuat) : RQuat := qdv q (dvL (qL q))
theorem qL_inj {p q : RQuat} (h : qL p = qL q) : p = q := by
  cases p; cases q; simp only [qL, List.cons.injEq, and_true] at h; obtain ⟨rfl, rfl, rfl, rfl⟩ := h; rfl
theorem qL_can (q : RQuat) : qL (qcan q) = redL (qL q) := rfl
theorem qL_sc (k : Int) (q : RQuat) : qL (qsc k q) = (qL q).map (k * ·) := rfl
theorem qnz_iff {q : RQuat} : Qnz q ↔ q ≠ q0 := by
  unfold Qnz
  rw [Ne, sgnL_zero]
  constructor
  · intro h e; subst e; exact h (by simp [qL, q0])
  · intro h e
    refine h (qL_inj ?_)
    simp only [qL, List.mem_cons, List.not_mem_nil, or_false, forall_eq_or_imp, forall_eq] at e
    obtain ⟨e1, e2, e3, e4⟩ := e
    simp [qL, q0, e1, e2, e3, e4]
theorem qn_nn (q : RQuat) : 0 ≤ qn q := by
  unfold qn
  have h : ∀ x : Int, 0 ≤ x * x := fun x => by
    rcases Int.le_total 0 x with h | h
    · exact Int.mul_nonneg h h
    · exact Int.mul_nonneg_of_nonpos_of_nonpos h h
  have := h q.a; have := h q.b; have := h q.c; have := h q.d
  omega
theorem qsq_nn (x : Int) : 0 ≤ x * x := by
  rcases Int.le_total 0 x with h | h
  · exact Int.mul_nonneg h h
  · exact Int.mul_nonneg_of_nonpos_of_nonpos h h
theorem qsq_0 {x : Int} (h : x * x = 0) : x = 0 := by
  rcases Int.mul_eq_zero.1 h with h | h <;> exact h
theorem qn_0 {q : RQuat} : qn q = 0 ↔ q = q0 := by
  constructor
  · intro h
    unfold qn at h
    have h1 := qsq_nn q.a; have h2 := qsq_nn q.b; have h3 := qsq_nn q.c; have h4 := qsq_nn q.d
    have e1 := qsq_0 (x := q.a) (by omega)
    have e2 := qsq_0 (x := q.b) (by omega)
    have e3 := qsq_0 (x := q.c) (by omega)
    have e4 := qsq_0 (x := q.d) (by omega)
    exact qL_inj (by simp [qL, q0, e1, e2, e3, e4])
  · intro h; subst h; rfl
theorem qnz_n {q : RQuat} : Qnz q ↔ qn q ≠ 0 := by rw [qnz_iff, Ne, Ne, qn_0]
theorem qn_mul (p q : RQuat) : qn (qmul p q) = qn p * qn q := by
  unfold qn qmul; grind
theorem qmul_nz {p q : RQuat} (hp : Qnz p) (hq : Qnz q) : Qnz (qmul p q) := by
  rw [qnz_n] at hp hq ⊢
  rw [qn_mul]; exact Int.mul_ne_zero hp hq
theorem qn_cj (q : RQuat) : qn (qcj q) = qn q := by unfold qn qcj; grind
theorem qcj_nz {q : RQuat} (h : Qnz q) : Qnz (qcj q) := by rw [qnz_n] at h ⊢; rwa [qn_cj]
theorem qmul_assoc (p q r : RQuat) : qmul (qmul p q) r = qmul p (qmul q r) := by
  unfold qmul; simp only [RQuat.mk.injEq]; refine ⟨?_, ?_, ?_, ?_⟩ <;> grind
theorem qmul_cj (q : RQuat) : qmul q (qcj q) = qsc (qn q) q1 := by
  unfold qmul qcj qsc qn q1; simp only [RQuat.mk.injEq]; refine ⟨?_, ?_, ?_, ?_⟩ <;> grind
theorem qcj_mul (q : RQuat) : qmul (qcj q) q = qsc (qn q) q1 := by
  unfold qmul qcj qsc qn q1; simp only [RQuat.mk.injEq]; refine ⟨?_, ?_, ?_, ?_⟩ <;> grind
theorem qmul_1 (q : RQuat) : qmul q q1 = q := by unfold qmul q1; cases q; simp
theorem q1_mul (q : RQuat) : qmul q1 q = q := by unfold qmul q1; cases q; simp
theorem qsc_mul_l (k : Int) (p q : RQuat) : qmul (qsc k p) q = qsc k (qmul p q) := by
  unfold qmul qsc; simp only [RQuat.mk.injEq]; refine ⟨?_, ?_, ?_, ?_⟩ <;> grind
theorem qsc_mul_r (k : Int) (p q : RQuat) : qmul p (qsc k q) = qsc k (qmul p q) := by
  unfold qmul qsc; simp only [RQuat.mk.injEq]; refine ⟨?_, ?_, ?_, ?_⟩ <;> grind
theorem qsc_sc (k l : Int) (q : RQuat) : qsc k (qsc l q) = qsc (k * l) q := by
  unfold qsc; simp only [RQuat.mk.injEq]; refine ⟨?_, ?_, ?_, ?_⟩ <;> grind
theorem qsc_1 (q : RQuat) : qsc 1 q = q := by unfold qsc; cases q; simp
theorem qcj_sc (k : Int) (q : RQuat) : qcj (qsc k q) = qsc k (qcj q) := by
  unfold qsc qcj; simp only [RQuat.mk.injEq]; refine ⟨?_, ?_, ?_, ?_⟩ <;> grind
theorem qn_sc (k : Int) (q : RQuat) : qn (qsc k q) = k * k * qn q := by unfold qn qsc; grind
theorem qsc_nz {k : Int} {q : RQuat} (hk : k ≠ 0) (h : Qnz q) : Qnz (qsc k q) := by
  rw [qnz_n] at h ⊢; rw [qn_sc]; exact Int.mul_ne_zero (Int.mul_ne_zero hk hk) h
def Qeq (p q : RQuat) : Prop := ∃ k l : Int, k ≠ 0 ∧ l ≠ 0 ∧ qsc k p = qsc l q
theorem Qeq.refl (p : RQuat) : Qeq p p := ⟨1, 1, by decide, by decide, rfl⟩
theorem Qeq.symm {p q : RQuat} (h : Qeq p q) : Qeq q p := by
  obtain ⟨k, l, h1, h2, h3⟩ := h; exact ⟨l, k, h2, h1, h3.symm⟩
theorem Qeq.trans {p q r : RQuat} (h : Qeq p q) (g : Qeq q r) : Qeq p r := by
  obtain ⟨k, l, h1, h2, h3⟩ := h
  obtain ⟨k', l', g1, g2, g3⟩ := g
  refine ⟨k' * k, l * l', Int.mul_ne_zero g1 h1, Int.mul_ne_zero h2 g2, ?_⟩
  rw [← qsc_sc, h3, qsc_sc, Int.mul_comm k' l, ← qsc_sc, g3, qsc_sc]
theorem Qeq.sc {k : Int} (hk : k ≠ 0) (p : RQuat) : Qeq (qsc k p) p := ⟨1, k, by decide, hk, by rw [qsc_1]⟩
theorem Qeq.mul {p p' q q' : RQuat} (h : Qeq p p') (g : Qeq q q') : Qeq (qmul p q) (qmul p' q') := by
  obtain ⟨k, l, h1, h2, h3⟩ := h
  obtain ⟨k', l', g1, g2, g3⟩ := g
  refine ⟨k * k', l * l', Int.mul_ne_zero h1 g1, Int.mul_ne_zero h2 g2, ?_⟩
  rw [← qsc_sc, ← qsc_mul_r, ← qsc_mul_l, h3, g3, qsc_mul_l, qsc_mul_r, qsc_sc]
theorem Qeq.cj {p q : RQuat} (h : Qeq p q) : Qeq (qcj p) (qcj q) := by
  obtain ⟨k, l, h1, h2, h3⟩ := h
  exact ⟨k, l, h1, h2, by rw [← qcj_sc, h3, qcj_sc]⟩
theorem Qeq.nz {p q : RQuat} (h : Qeq p q) (hp : Qnz p) : Qnz q := by
  obtain ⟨k, l, h1, h2, h3⟩ := h
  have hk := qsc_nz h1 hp
  rw [h3, qnz_n, qn_sc] at hk
  rw [qnz_n]; intro e; exact hk (by rw [e, Int.mul_zero])
theorem qcan_back {q : RQuat} (h : Qnz q) : qsc (dvL (qL q)) (qcan q) = q := qL_inj (by rw [qL_sc, qL_can]; exact redL_back h)
theorem qcan_eq {q : RQuat} (h : Qnz q) : Qeq (qcan q) q := ⟨dvL (qL q), 1, dvL_ne h, by decide, by rw [qcan_back h, qsc_1]⟩
theorem qcan_nz {q : RQuat} (h : Qnz q) : Qnz (qcan q) := (qcan_eq h).symm.nz h
theorem qcan_sc {k : Int} (hk : k ≠ 0) {q : RQuat} (h : Qnz q) : qcan (qsc k q) = qcan q := qL_inj (by rw [qL_can, qL_sc, qL_can, redL_scale hk h])
theorem qcan_iff {p q : RQuat} (hp : Qnz p) (hq : Qnz q) : qcan p = qcan q ↔ Qeq p q := by
  constructor
  · intro h
    have h1 := (qcan_eq hp).symm
    rw [h] at h1
    exact h1.trans (qcan_eq hq)
  · rintro ⟨k, l, h1, h2, h3⟩
    rw [← qcan_sc h1 hp, h3, qcan_sc h2 hq]
theorem fdiv_abs {x d : Int} (hd : d ≠ 0) (h : d ∣ x) : (x.fdiv d).natAbs ≤ x.natAbs := by
  obtain ⟨e, rfl⟩ := h
  rw [Int.mul_fdiv_cancel_left _ hd, Int.natAbs_mul]
  exact Nat.le_mul_of_pos_left _ (Int.natAbs_pos.2 hd)
def inQ (z : Int) : Prop := -1048576 ≤ z ∧ z ≤ 1048576
instance {z : Int} : Decidable (inQ z) := by unfold inQ; infer_instance
def Qfit (q : RQuat) : Prop := inQ q.a ∧ inQ q.b ∧ inQ q.c ∧ inQ q.d
instance {q : RQuat} : Decidable (Qfit q) := by unfold Qfit; infer_instance
def Qok (q : RQuat) : Prop := Qnz q ∧ Qfit q
def qV (q : RQuat) : RQuat := if Qfit (qcan q) then qcan q else q0
def qC (q : RQuat) : Nat := if Qfit (qcan q) then 0 else 3
theorem qV_fit (q : RQuat) : Qfit (qV q) := by
  unfold qV; split
  · assumption
  · decide
theorem qC_01 (q : RQuat) : qC q = 0 ∨ qC q = 3 := by unfold qC; split <;> simp
theorem qC_0 {q : RQuat} : qC q = 0 ↔ Qfit (qcan q) := by unfold qC; split <;> simp_all
theorem qV_y {q : RQuat} (h : Qfit (qcan q)) : qV q = qcan q := if_pos h
theorem qV_n {q : RQuat} (h : ¬ Qfit (qcan q)) : qV q = q0 := if_neg h
theorem qC_y {q : RQuat} (h : Qfit (qcan q)) : qC q = 0 := if_pos h
theorem qC_n {q : RQuat} (h : ¬ Qfit (qcan q)) : qC q = 3 := if_neg h
theorem qV_c0 {q : RQuat} (h : qC q = 0) : qV q = qcan q := qV_y (qC_0.1 h)
theorem qV_ok {q : RQuat} (hq : Qnz q) (h : qC q = 0) : Qok (qV q) := ⟨by rw [qV_c0 h]; exact qcan_nz hq, qV_fit q⟩
theorem inQ_fdiv {x d : Int} (hd : d ≠ 0) (h : d ∣ x) (hx : inQ x) : inQ (x.fdiv d) := by
  have := fdiv_abs hd h
  unfold inQ at hx ⊢; omega
theorem qcan_fit {q : RQuat} (h : Qok q) : Qfit (qcan q) := by
  have hd := dvL_ne h.1
  obtain ⟨h1, h2, h3, h4⟩ := h.2
  have hv : ∀ z ∈ qL q, dvL (qL q) ∣ z := dvL_dvd
  exact ⟨inQ_fdiv hd (hv _ (by simp [qL])) h1, inQ_fdiv hd (hv _ (by simp [qL])) h2, inQ_fdiv hd (hv _ (by simp [qL])) h3, inQ_fdiv hd (hv _ (by simp [qL])) h4⟩
theorem qcj_fit {q : RQuat} (h : Qfit q) : Qfit (qcj q) := by
  obtain ⟨h1, h2, h3, h4⟩ := h
  unfold Qfit qcj inQ at *
  refine ⟨h1, ?_, ?_, ?_⟩ <;> dsimp only at * <;> omega
theorem qcj_ok {q : RQuat} (h : Qok q) : Qok (qcj q) := ⟨qcj_nz h.1, qcj_fit h.2⟩
theorem qC_ok {q : RQuat} (h : Qok q) : qC q = 0 := qC_0.2 (qcan_fit h)
theorem qC_cj {q : RQuat} (h : Qok q) : qC (qcj q) = 0 := qC_ok (qcj_ok h)
theorem qok_rot {q : RQuat} : Qok q ↔ rotC q.a q.b q.c q.d = 0 := by
  constructor
  · rintro ⟨h, h1, h2, h3, h4⟩
    refine rotC_0 (fun e => ?_) ⟨h1, h2, h3, h4⟩
    obtain ⟨e1, e2, e3, e4⟩ := e
    exact qnz_iff.1 h (qL_inj (by simp [qL, q0, e1, e2, e3, e4]))
  · intro h
    unfold rotC at h
    split at h
    · cases h
    · rename_i hz
      split at h
      · rename_i hf
        refine ⟨qnz_iff.2 fun e => hz ?_, hf⟩
        subst e; simp [q0]
      · cases h
theorem q1_ok : Qok q1 := qok_rot.2 (by decide)
theorem q1_can : qcan q1 = q1 := by decide
def Qcn (q : RQuat) : Prop := Qok q ∧ qcan q = q
theorem qV_eq {q : RQuat} (hq : Qnz q) (h : qC q = 0) : Qeq (qV q) q := by rw [qV_c0 h]; exact qcan_eq hq
theorem Qcn.ext {p q : RQuat} (hp : Qcn p) (hq : Qcn q) (h : Qeq p q) : p = q := by
  rw [← hp.2, ← hq.2]; exact (qcan_iff hp.1.1 hq.1.1).2 h
def qdot (p q : RQuat) : Int := p.a * q.a + p.b * q.b + p.c * q.c + p.d * q.d
def chQ (p q : RQuat) : Rat := ((1 : Int) : Rat) - ((qdot p q : Int) : Rat) * ((qdot p q : Int) : Rat) / (((qn p : Int) : Rat) * ((qn q : Int) : Rat))
def fstL : List Int → Int
  | [] => 0
  | z :: r => if z = 0 then fstL r else z
theorem sgnL_fst : ∀ zs : List Int, sgnL zs = signI (fstL zs)
  | [] => rfl
  | z :: r => by
    unfold sgnL fstL
    split
    · exact sgnL_fst r
    · rfl
theorem signI_0 {z : Int} : signI z = 0 ↔ z = 0 := ⟨fun h => Classical.byContradiction fun g => signI_ne g h, fun h => by subst h; rfl⟩
theorem fst_0 {a b c d : Int} (h : signI a ≠ 0) : a = fstL [a, b, c, d] := by
  unfold fstL; rw [if_neg (fun e => h (signI_0.2 e))]
theorem fst_1 {a b c d : Int} (h1 : signI a = 0) (h : signI b ≠ 0) : b = fstL [a, b, c, d] := by
  unfold fstL; rw [if_pos (signI_0.1 h1)]; unfold fstL; rw [if_neg (fun e => h (signI_0.2 e))]
theorem fst_2 {a b c d : Int} (h1 : signI a = 0) (h2 : signI b = 0) (h : signI c ≠ 0) : c = fstL [a, b, c, d] := by
  unfold fstL; rw [if_pos (signI_0.1 h1)]; unfold fstL; rw [if_pos (signI_0.1 h2)]; unfold fstL; rw [if_neg (fun e => h (signI_0.2 e))]
theorem fst_3 {a b c d : Int} (h1 : signI a = 0) (h2 : signI b = 0) (h3 : signI c = 0) : d = fstL [a, b, c, d] := by
  unfold fstL; rw [if_pos (signI_0.1 h1)]; unfold fstL; rw [if_pos (signI_0.1 h2)]; unfold fstL; rw [if_pos (signI_0.1 h3)]; unfold fstL; split
  · rename_i h; rw [h]; rfl
  · rfl
theorem dv_n {q : RQuat} {f : Int} (hf : f = fstL (qL q)) (h : signI f < 0) : dvL (qL q) = -((gcdL (qL q) : Nat) : Int) := by
  unfold dvL; rw [sgnL_fst, ← hf, if_pos h]
theorem dv_p {q : RQuat} {f : Int} (hf : f = fstL (qL q)) (h : ¬ signI f < 0) : dvL (qL q) = ((gcdL (qL q) : Nat) : Int) := by
  unfold dvL; rw [sgnL_fst, ← hf, if_neg h]
theorem dv_ns {q : RQuat} {s : Int} (hs : s = sgnL (qL q)) (h : s < 0) : dvL (qL q) = -((gcdL (qL q) : Nat) : Int) := by
  unfold dvL; rw [← hs, if_pos h]
theorem dv_ps {q : RQuat} {s : Int} (hs : s = sgnL (qL q)) (h : ¬ s < 0) : dvL (qL q) = ((gcdL (qL q) : Nat) : Int) := by
  unfold dvL; rw [← hs, if_neg h]
theorem gcd_n {q : RQuat} (h : Qnz q) : ((gcdL (qL q) : Nat) : Int) ≠ 0 := fun e => gcdL_ne h (by omega)
theorem fst_len {n : Nat} : ∀ (zs : List Int), (∀ z ∈ zs, lenZ z ≤ n) → lenZ (fstL zs) ≤ n
  | [], _ => by have : lenZ 0 = 0 := by decide +kernel
                unfold fstL; omega
  | z :: r, h => by
    unfold fstL; split
    · exact fst_len r fun y hy => h y (List.mem_cons_of_mem _ hy)
    · exact h z (List.mem_cons_self ..)
theorem fst_iok {f : Int} {q : RQuat} {n : Nat} (hf : f = fstL (qL q)) (h : ∀ z ∈ qL q, lenZ z ≤ n) : IOk (ofZ f) f n := by subst hf; exact iok_of (fst_len _ h)
theorem q4_len {a b c d : Int} {n : Nat} (ha : IOk (ofZ a) a n) (hb : IOk (ofZ b) b n) (hc : IOk (ofZ c) c n) (hd : IOk (ofZ d) d n) : ∀ z ∈ qL ⟨a, b, c, d⟩, lenZ z ≤ n := by
  intro z hz
  simp only [qL, List.mem_cons, List.not_mem_nil, or_false] at hz
  rcases hz with rfl | rfl | rfl | rfl
  · exact ha.ln
  · exact hb.ln
  · exact hc.ln
  · exact hd.ln
theorem gcd_iok {q : RQuat} {n : Nat} (h : ∀ z ∈ qL q, lenZ z ≤ n) : IOk (ofZ ((gcdL (qL q) : Nat) : Int)) ((gcdL (qL q) : Nat) : Int) n := iok_of (gcdL_len _ h)
def smB (x : Int) : Bool := (!(fits64 x) || decide (smallI x < -1048576)) || decide (1048576 < smallI x)
def smB' (x : Int) : Bool := (!(fits64 x) || decide (1048576 < smallI x)) || decide (smallI x < -1048576)
theorem smB_eq (x : Int) : smB' x = smB x := by unfold smB smB'; rw [Bool.or_assoc, Bool.or_assoc, Bool.or_comm (decide _) (decide _)]
theorem smB_f {x : Int} (h : smB x = false) : inQ x ∧ smallI x = x := by
  simp only [smB, Bool.or_eq_false_iff, Bool.not_eq_false', decide_eq_false_iff_not] at h
  obtain ⟨⟨h1, h2⟩, h3⟩ := h
  rw [smallI_t h1] at h2 h3
  exact ⟨⟨by omega, by omega⟩, smallI_t h1⟩
theorem smB_t {x : Int} (h : smB x = true) : ¬ inQ x := fun hx => by
  unfold inQ at hx
  have hf : fits64 x = true := fits64_t (by omega) (by omega)
  simp only [smB, smallI_t hf, hf, Bool.not_true, Bool.false_or, Bool.or_eq_true, decide_eq_true_eq] at h
  omega
theorem prim_n {q : RQuat} {d x : Int} (hd : dvL (qL q) = d) (hx : x = q.a ∨ x = q.b ∨ x = q.c ∨ x = q.d) (h : smB (x.fdiv d) = true) : qC q = 3 ∧ qV q = ⟨0, 0, 0, 0⟩ := by
  have hn : ¬ Qfit (qcan q) := fun hf => by
    refine smB_t h ?_
    subst hd
    obtain ⟨h1, h2, h3, h4⟩ := hf
    rcases hx with rfl | rfl | rfl | rfl
    · exact h1
    · exact h2
    · exact h3
    · exact h4
  exact ⟨qC_n hn, qV_n hn⟩
theorem prim_y {q : RQuat} {d : Int} (hd : dvL (qL q) = d) (h1 : smB (q.a.fdiv d) = false) (h2 : smB (q.b.fdiv d) = false) (h3 : smB (q.c.fdiv d) = false) (h4 : smB (q.d.fdiv d) = false) :
    qC q = 0 ∧ qV q = ⟨smallI (q.a.fdiv d), smallI (q.b.fdiv d), smallI (q.c.fdiv d), smallI (q.d.fdiv d)⟩ := by
  subst hd
  obtain ⟨f1, e1⟩ := smB_f h1
  obtain ⟨f2, e2⟩ := smB_f h2
  obtain ⟨f3, e3⟩ := smB_f h3
  obtain ⟨f4, e4⟩ := smB_f h4
  have hf : Qfit (qcan q) := ⟨f1, f2, f3, f4⟩
  refine ⟨qC_y hf, ?_⟩
  rw [qV_y hf, e1, e2, e3, e4]; rfl
theorem Qfit.bd {q : RQuat} (h : Qfit q) : (-1048576 ≤ q.a ∧ q.a ≤ 1048576) ∧ (-1048576 ≤ q.b ∧ q.b ≤ 1048576) ∧ (-1048576 ≤ q.c ∧ q.c ≤ 1048576) ∧ (-1048576 ≤ q.d ∧ q.d ≤ 1048576) := h
end Go.Fid
namespace Go.Fid
def svI (z : Int) (k : Nat) : Int := if z < 0 then -((val ((ofNat z.natAbs).drop k) : Nat) : Int) else ((val ((ofNat z.natAbs).drop k) : Nat) : Int)
theorem sv_0 (z : Int) : svI z 0 = z := by
  unfold svI; rw [List.drop_zero, ofNat_val]; split <;> omega
theorem sv_end (z : Int) : svI z (ofNat z.natAbs).length = 0 := by
  unfold svI; rw [List.drop_length]; split <;> rfl
theorem sv_n {z : Int} {k : Nat} (h : (ofZ z).neg = true) : svI z k = svI z (k + 1) * 1000000000 - (((ofNat z.natAbs).getD k 0 : Nat) : Int) := by
  rw [gz_neg] at h
  have h := of_decide_eq_true h
  unfold svI; rw [if_pos h, if_pos h, val_drop_one]; omega
theorem sv_p {z : Int} {k : Nat} (h : (ofZ z).neg = false) : svI z k = svI z (k + 1) * 1000000000 + (((ofNat z.natAbs).getD k 0 : Nat) : Int) := by
  rw [gz_neg] at h
  have h := of_decide_eq_false h
  unfold svI; rw [if_neg h, if_neg h, val_drop_one]; omega
theorem sv_bd {z : Int} (h1 : -9223372036854775808 ≤ z) (h2 : z ≤ 9223372036854775807) (k : Nat) : -9223372036854775808 ≤ svI z k ∧ svI z k ≤ 9223372036854775807 := by
  have h := val_drop_le (ofNat z.natAbs) k
  rw [ofNat_val] at h
  unfold svI; split <;> omega
theorem sv_b2 {z : Int} (h1 : -9223372036854775808 ≤ z) (h2 : z ≤ 9223372036854775807) (k : Nat) : -9223372036854775808 ≤ svI z (k + 1) * 1000000000 ∧ svI z (k + 1) * 1000000000 ≤ 9223372036854775807 := by
  have h := val_drop_le (ofNat z.natAbs) k
  rw [ofNat_val, val_drop_one] at h
  unfold svI; split <;> omega
theorem fit_of {z : Int} (h : (decide (cmpI z (-9223372036854775808) < 0) || decide (0 < cmpI z 9223372036854775807)) = false) : -9223372036854775808 ≤ z ∧ z ≤ 9223372036854775807 := by
  simp only [Bool.or_eq_false_iff, decide_eq_false_iff_not] at h
  refine ⟨cmpI_ge (b := -9223372036854775808) (by omega), ?_⟩
  apply Classical.byContradiction
  intro hn
  have h3 := cmpI_gt (a := z) (b := 9223372036854775807) (by omega)
  omega
theorem fit_no {z : Int} (h : (decide (cmpI z (-9223372036854775808) < 0) || decide (0 < cmpI z 9223372036854775807)) = true) : fits64 z = false ∧ smallI z = 0 := by
  have hn : fits64 z = false := by
    rw [← Bool.not_eq_true]
    intro hf
    obtain ⟨h1, h2⟩ := fits64_b hf
    simp only [Bool.or_eq_true, decide_eq_true_eq] at h
    unfold cmpI at h
    rcases h with h | h
    · rw [if_neg (by omega)] at h; split at h <;> omega
    · split at h
      · omega
      · rw [if_neg (by omega)] at h; omega
  exact ⟨hn, smallI_f hn⟩
theorem fit_yes {z : Int} (h : -9223372036854775808 ≤ z ∧ z ≤ 9223372036854775807) : fits64 z = true ∧ smallI z = z := ⟨fits64_t h.1 h.2, smallI_t (fits64_t h.1 h.2)⟩
end Go.Fid
namespace Go.Fid
theorem sgs_0 {a b c d : Int} (h : signI a ≠ 0) : signI a = sgnL (qL ⟨a, b, c, d⟩) := by rw [sgnL_fst]; exact congrArg signI (fst_0 h)
theorem sgs_1 {a b c d : Int} (h1 : signI a = 0) (h : signI b ≠ 0) : signI b = sgnL (qL ⟨a, b, c, d⟩) := by rw [sgnL_fst]; exact congrArg signI (fst_1 h1 h)
theorem sgs_2 {a b c d : Int} (h1 : signI a = 0) (h2 : signI b = 0) (h : signI c ≠ 0) : signI c = sgnL (qL ⟨a, b, c, d⟩) := by rw [sgnL_fst]; exact congrArg signI (fst_2 h1 h2 h)
theorem sgs_3 {a b c d : Int} (h1 : signI a = 0) (h2 : signI b = 0) (h3 : signI c = 0) : signI d = sgnL (qL ⟨a, b, c, d⟩) := by rw [sgnL_fst]; exact congrArg signI (fst_3 h1 h2 h3)
def sameQ (p q : RQuat) : Bool := decide (qL (qV p) = qL (qV q))
theorem sameQ_iff {p q : RQuat} (hp : Qok p) (hq : Qok q) : sameQ p q = true ↔ Qeq p q := by
  unfold sameQ
  rw [decide_eq_true_iff, qV_c0 (qC_ok hp), qV_c0 (qC_ok hq)]
  exact ⟨fun h => (qcan_iff hp.1 hq.1).1 (qL_inj h), fun h => congrArg qL ((qcan_iff hp.1 hq.1).2 h)⟩
theorem qdot_bd {p q : RQuat} (hp : Qok p) (hq : Qok q) : -9223372036854775808 ≤ qdot p q ∧ qdot p q ≤ 9223372036854775807 := by
  obtain ⟨a1, a2, a3, a4⟩ := hp.2.bd
  obtain ⟨b1, b2, b3, b4⟩ := hq.2.bd
  have := sq_b a1 b1; have := sq_b a2 b2; have := sq_b a3 b3; have := sq_b a4 b4
  unfold qdot; omega
theorem qn_bd {p : RQuat} (hp : Qok p) : 1 ≤ qn p ∧ qn p ≤ 9223372036854775807 := by
  have h := qdot_bd hp hp
  have h0 := qn_nn p
  have h1 := qnz_n.1 hp.1
  have e : qdot p p = qn p := rfl
  omega
theorem ql_i {z : Int} (h1 : -9223372036854775808 ≤ z) (h2 : z ≤ 9223372036854775807) : QL ((z : Int) : Rat) 3 := ql_int (z := z) (n := 3) (lenZ_int h1 h2) (by decide)
theorem ql_chQ {p q : RQuat} (hp : Qok p) (hq : Qok q) : QL (chQ p q) 16 := by
  have h1 := qdot_bd hp hq
  have h2 := qn_bd hp
  have h3 := qn_bd hq
  have g1 := ql_i h1.1 h1.2
  have g2 := ql_i (z := qn p) (by omega) h2.2
  have g3 := ql_i (z := qn q) (by omega) h3.2
  unfold chQ
  exact ql_sub (k := 16) (ql_i (z := 1) (by decide) (by decide)) (ql_div (k := 12) (ql_mul (k := 6) g1 g1 (by decide)) (ql_mul (k := 6) g2 g3 (by decide)) (by decide)) (by decide)
theorem chQ_di (p q : RQuat) : ((1 : Int) : Rat) - Rat.divInt (qdot p q * qdot p q) (qn p * qn q) = chQ p q := by
  unfold chQ; rw [← Rat.intCast_mul, ← Rat.intCast_mul, Rat.divInt_eq_div]
end Go.Fid
