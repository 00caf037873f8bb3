import Derived.Test.YtadkkhdnccljcaaGreatFid11
/-
  Numbers as lists of groups to the base 10^9, least first: plain Lean, no program in sight.
-/
namespace Go.Fid
set_option linter.unusedVariables false
set_option linter.unusedSimpArgs false
def pw (n : Nat) : Nat := 1000000000 ^ n
theorem pw_zero : pw 0 = 1 := rfl
theorem pw_succ (n : Nat) : pw (n + 1) = 1000000000 * pw n := by unfold pw; rw [Nat.pow_succ, Nat.mul_comm]
theorem pw_add (m n : Nat) : pw (m + n) = pw m * pw n := by unfold pw; rw [Nat.pow_add]
theorem pw_pos (n : Nat) : 0 < pw n := Nat.pow_pos (by decide)
theorem pw_mono {m n : Nat} (h : m ≤ n) : pw m ≤ pw n := Nat.pow_le_pow_right (by decide) h
theorem pw_lt {m n : Nat} (h : m < n) : pw m < pw n := Nat.pow_lt_pow_right (by decide) h
attribute [irreducible] pw
def val : List Nat → Nat
  | [] => 0
  | d :: l => d + 1000000000 * val l
def Dig (l : List Nat) : Prop := ∀ d ∈ l, d < 1000000000
theorem val_nil : val [] = 0 := rfl
theorem val_cons (d : Nat) (l : List Nat) : val (d :: l) = d + 1000000000 * val l := rfl
theorem val_one (d : Nat) : val [d] = d := by simp [val]
theorem dig_nil : Dig [] := by intro d h; cases h
theorem dig_cons {d : Nat} {l : List Nat} : Dig (d :: l) ↔ d < 1000000000 ∧ Dig l := by simp [Dig]
theorem dig_append {a b : List Nat} : Dig (a ++ b) ↔ Dig a ∧ Dig b := by
  constructor
  · intro h; exact ⟨fun d hd => h d (by simp [hd]), fun d hd => h d (by simp [hd])⟩
  · intro h d hd; rcases List.mem_append.1 hd with h' | h'
    · exact h.1 d h'
    · exact h.2 d h'
theorem Dig.take {l : List Nat} (h : Dig l) (n : Nat) : Dig (l.take n) := fun d hd => h d (List.mem_of_mem_take hd)
theorem Dig.drop {l : List Nat} (h : Dig l) (n : Nat) : Dig (l.drop n) := fun d hd => h d (List.mem_of_mem_drop hd)
theorem Dig.set {l : List Nat} (h : Dig l) (i : Nat) {d : Nat} (hd : d < 1000000000) : Dig (l.set i d) := by
  intro x hx
  rcases List.mem_or_eq_of_mem_set hx with h' | h'
  · exact h x h'
  · exact h' ▸ hd
theorem Dig.getD {l : List Nat} (h : Dig l) (i : Nat) : l.getD i 0 < 1000000000 := by
  unfold List.getD
  cases hi : l[i]? with
  | none => decide
  | some x => exact h x (List.mem_of_getElem? hi)
theorem dig_replicate (n : Nat) : Dig (List.replicate n 0) := by
  intro d hd; rw [(List.mem_replicate.1 hd).2]; decide
theorem val_replicate (n : Nat) : val (List.replicate n 0) = 0 := by
  induction n with
  | zero => rfl
  | succ n ih => rw [List.replicate_succ, val_cons, ih]
theorem val_append (a b : List Nat) : val (a ++ b) = val a + pw a.length * val b := by
  induction a with
  | nil => simp [val, pw_zero]
  | cons d a ih => rw [List.cons_append, val_cons, val_cons, ih, List.length_cons, pw_succ]; grind
theorem val_lt {l : List Nat} (h : Dig l) : val l < pw l.length := by
  induction l with
  | nil => simp [val, pw_zero]
  | cons d l ih =>
    rw [dig_cons] at h
    have := ih h.2
    rw [val_cons, List.length_cons, pw_succ]; omega
theorem val_take_succ (l : List Nat) (i : Nat) : val (l.take (i + 1)) = val (l.take i) + pw i * l.getD i 0 := by
  by_cases h : i < l.length
  · rw [List.take_succ_eq_append_getElem h, val_append, val_one, List.length_take, Nat.min_eq_left (Nat.le_of_lt h)]
    simp [List.getD, List.getElem?_eq_getElem h]
  · rw [List.take_of_length_le (by omega), List.take_of_length_le (by omega)]
    simp [List.getD, List.getElem?_eq_none (Nat.le_of_not_lt h)]
theorem val_take_set (l : List Nat) (i d : Nat) (h : i < l.length) : val ((l.set i d).take (i + 1)) = val (l.take i) + pw i * d := by
  rw [val_take_succ, List.take_set_of_le (Nat.le_refl i)]
  simp [List.getD, h]
theorem val_set (l : List Nat) (i d : Nat) (h : i < l.length) : val (l.set i d) + pw i * l.getD i 0 = val l + pw i * d := by
  induction l generalizing i with
  | nil => simp at h
  | cons x l ih =>
    cases i with
    | zero => simp [val, pw_zero]; omega
    | succ i =>
      have := ih i (by simpa using h)
      simp only [List.set_cons_succ, val_cons, List.getD_cons_succ, pw_succ]
      grind
theorem val_split (l : List Nat) (i : Nat) (h : i ≤ l.length) : val l = val (l.take i) + pw i * val (l.drop i) := by
  have h1 := val_append (l.take i) (l.drop i)
  rw [List.take_append_drop, List.length_take, Nat.min_eq_left h] at h1
  exact h1
theorem getD_set (l : List Nat) (i j d : Nat) (h : i < l.length) : (l.set i d).getD j 0 = if i = j then d else l.getD j 0 := by
  simp only [List.getD, List.getElem?_set]
  by_cases hij : i = j
  · subst hij; simp [h]
  · simp [hij]
def ofNat (n : Nat) : List Nat := if n = 0 then [] else n % 1000000000 :: ofNat (n / 1000000000)
termination_by n
decreasing_by omega
theorem ofNat_zero : ofNat 0 = [] := by rw [ofNat]; rfl
theorem ofNat_pos {n : Nat} (h : n ≠ 0) : ofNat n = n % 1000000000 :: ofNat (n / 1000000000) := by rw [ofNat, if_neg h]
theorem ofNat_val : ∀ n, val (ofNat n) = n
  | n => by
    by_cases h : n = 0
    · subst h; rw [ofNat_zero]; rfl
    · rw [ofNat_pos h, val_cons, ofNat_val (n / 1000000000)]; omega
termination_by n => n
decreasing_by omega
theorem ofNat_dig : ∀ n, Dig (ofNat n)
  | n => by
    by_cases h : n = 0
    · subst h; rw [ofNat_zero]; exact dig_nil
    · rw [ofNat_pos h]; exact dig_cons.2 ⟨Nat.mod_lt _ (by decide), ofNat_dig (n / 1000000000)⟩
termination_by n => n
decreasing_by omega
theorem ofNat_nil {n : Nat} : ofNat n = [] ↔ n = 0 := by
  constructor
  · intro h; rw [← ofNat_val n, h]; rfl
  · intro h; rw [h, ofNat_zero]
def Top (l : List Nat) : Prop := l.getD (l.length - 1) 1 ≠ 0
def Cano (l : List Nat) : Prop := Dig l ∧ Top l
theorem top_cons {d : Nat} {l : List Nat} (h : l ≠ []) : Top (d :: l) ↔ Top l := by
  cases l with
  | nil => exact absurd rfl h
  | cons e l => simp [Top]
theorem ofNat_top : ∀ n, Top (ofNat n)
  | n => by
    by_cases h : n = 0
    · subst h; rw [ofNat_zero]; simp [Top]
    · rw [ofNat_pos h]
      by_cases h' : n / 1000000000 = 0
      · rw [h', ofNat_zero]; simp [Top]; omega
      · rw [top_cons (fun e => h' (ofNat_nil.1 e))]; exact ofNat_top (n / 1000000000)
termination_by n => n
decreasing_by omega
theorem ofNat_can (n : Nat) : Cano (ofNat n) := ⟨ofNat_dig n, ofNat_top n⟩
theorem can_tail {d : Nat} {l : List Nat} (h : Cano (d :: l)) : Cano l := by
  refine ⟨(dig_cons.1 h.1).2, ?_⟩
  by_cases hl : l = []
  · subst hl; simp [Top]
  · exact (top_cons hl).1 h.2
theorem can_eq : ∀ {l : List Nat}, Cano l → l = ofNat (val l)
  | [], _ => by rw [val_nil, ofNat_zero]
  | d :: l, h => by
    have ih := can_eq (can_tail h)
    have hd := (dig_cons.1 h.1).1
    have hne : val (d :: l) ≠ 0 := by
      rw [val_cons]
      intro e
      have h0 : val l = 0 := by omega
      rw [h0, ofNat_zero] at ih
      have hd0 : d = 0 := by omega
      subst ih; subst hd0
      exact h.2 rfl
    have e1 : (d + 1000000000 * val l) % 1000000000 = d := by omega
    have e2 : (d + 1000000000 * val l) / 1000000000 = val l := by omega
    rw [ofNat_pos hne, val_cons, e1, e2, ← ih]
theorem can_ofNat_val {l : List Nat} (h : Cano l) {n : Nat} (hn : val l = n) : l = ofNat n := hn ▸ can_eq h
theorem ofNat_length_le {n m : Nat} (h : n < pw m) : (ofNat n).length ≤ m := by
  induction m generalizing n with
  | zero => rw [pw_zero] at h; have : n = 0 := by omega
            subst this; rw [ofNat_zero]; exact Nat.le_refl _
  | succ m ih =>
    by_cases h0 : n = 0
    · subst h0; rw [ofNat_zero]; simp
    · rw [ofNat_pos h0, List.length_cons]
      have := ih (n := n / 1000000000) (by rw [pw_succ] at h; omega)
      omega
theorem val_ge_of_top {l : List Nat} (h : Top l) (hl : l ≠ []) : pw (l.length - 1) ≤ val l := by
  have h1 := val_take_succ l (l.length - 1)
  have hp : 0 < l.length := by cases l with
    | nil => exact absurd rfl hl
    | cons => simp
  rw [show l.length - 1 + 1 = l.length by omega, List.take_length] at h1
  have h2 : l.getD (l.length - 1) 0 ≠ 0 := by
    have h3 : l.getD (l.length - 1) 1 ≠ 0 := h
    have h4 : l.length - 1 < l.length := by omega
    simpa [List.getD, List.getElem?_eq_getElem h4] using h3
  rw [h1]
  refine Nat.le_trans ?_ (Nat.le_add_left _ _)
  exact Nat.le_mul_of_pos_right _ (Nat.pos_of_ne_zero h2)
theorem ofNat_len_lt {n m : Nat} (h : (ofNat n).length < (ofNat m).length) : n < m := by
  have h1 := val_lt (ofNat_dig n)
  have h2 := val_ge_of_top (ofNat_top m) (by intro e; rw [e] at h; simp at h)
  rw [ofNat_val] at h1 h2
  exact Nat.lt_of_lt_of_le h1 (Nat.le_trans (pw_mono (by omega)) h2)
theorem getD_out {l : List Nat} {i : Nat} (h : ¬ (i : Int) < (l.length : Int)) : l.getD i 0 = 0 := by
  simp [List.getD, List.getElem?_eq_none (show l.length ≤ i by omega)]
theorem trim_cond {l : List Nat} {b : Bool} (h : (decide ((0 : Int) < ((l.length : Nat) : Int)) && (((l.getD (l.length - 1) 0 : Nat) : Int) == 0)) = b) : if b then 0 < l.length ∧ l.getD (l.length - 1) 0 = 0 else l.length = 0 ∨ l.getD (l.length - 1) 0 ≠ 0 := by
  subst h
  by_cases h1 : l.length = 0
  · simp [h1]
  · have h2 : 0 < l.length := by omega
    by_cases h3 : l.getD (l.length - 1) 0 = 0
    · have : ((0 : Nat) : Int) = 0 := rfl
      simp only [h3, this, beq_self_eq_true, Bool.and_true]
      simp [h2, h3]
    · have h4 : (((l.getD (l.length - 1) 0 : Nat) : Int) == 0) = false := by
        rw [beq_eq_false_iff_ne]; omega
      simp only [h4, Bool.and_false]
      exact .inr h3
theorem trim_step {l l0 : List Nat} (hl : Dig l) (hv : val l = val l0) (hle : l.length ≤ l0.length) (h : (decide ((0 : Int) < ((l.length : Nat) : Int)) && (((l.getD (l.length - 1) 0 : Nat) : Int) == 0)) = true) :
    Dig (l.take (l.length - 1)) ∧ val (l.take (l.length - 1)) = val l0 ∧ (l.take (l.length - 1)).length ≤ l0.length := by
  obtain ⟨h1, h2⟩ := trim_cond h
  refine ⟨hl.take _, ?_, by simp; omega⟩
  have h3 := val_take_succ l (l.length - 1)
  rw [show l.length - 1 + 1 = l.length by omega, List.take_length, h2] at h3
  omega
theorem trim_less {l : List Nat} (h : (decide ((0 : Int) < ((l.length : Nat) : Int)) && (((l.getD (l.length - 1) 0 : Nat) : Int) == 0)) = true) : (l.take (l.length - 1)).length < l.length := by
  obtain ⟨h1, h2⟩ := trim_cond h
  simp; omega
theorem trim_end {l l0 : List Nat} (hl : Dig l) (hv : val l = val l0) (h : (decide ((0 : Int) < ((l.length : Nat) : Int)) && (((l.getD (l.length - 1) 0 : Nat) : Int) == 0)) = false) : ofNat (val l0) = l := by
  have h1 := trim_cond h
  simp only [Bool.false_eq_true, if_false] at h1
  refine (can_ofNat_val ⟨hl, ?_⟩ hv).symm
  rcases h1 with h1 | h1
  · have : l = [] := List.eq_nil_of_length_eq_zero h1
    subst this; simp [Top]
  · intro h2
    by_cases h3 : l.length = 0
    · have : l = [] := List.eq_nil_of_length_eq_zero h3
      subst this; simp at h2
    · have h4 : l.length - 1 < l.length := by omega
      simp [List.getD, List.getElem?_eq_getElem h4] at h1 h2
      exact h1 h2
theorem plus_step {a b out : List Nat} {i c n s c' : Nat} (hlen : out.length = n) (hd : Dig out) (hi : i < n) (hv : val (out.take i) + pw i * c = val (a.take i) + val (b.take i)) (hs : s < 1000000000) (hsum : s + 1000000000 * c' = a.getD i 0 + b.getD i 0 + c) :
    (out.set i s).length = n ∧ Dig (out.set i s) ∧ val ((out.set i s).take (i + 1)) + pw (i + 1) * c' = val (a.take (i + 1)) + val (b.take (i + 1)) := by
  refine ⟨by simpa using hlen, hd.set i hs, ?_⟩
  rw [val_take_set out i s (by omega), val_take_succ, val_take_succ, pw_succ]
  grind
theorem plus_end {a b out : List Nat} {c : Nat} (hda : Dig a) (hdb : Dig b) (hlen : out.length = max a.length b.length + 1) (hv : val (out.take (max a.length b.length + 1)) + pw (max a.length b.length + 1) * c = val (a.take (max a.length b.length + 1)) + val (b.take (max a.length b.length + 1))) : val out = val a + val b := by
  rw [List.take_of_length_le (by omega), List.take_of_length_le (by omega), List.take_of_length_le (by omega)] at hv
  have h1 := val_lt hda
  have h2 := val_lt hdb
  have h3 : pw a.length ≤ pw (max a.length b.length) := pw_mono (by omega)
  have h4 : pw b.length ≤ pw (max a.length b.length) := pw_mono (by omega)
  rw [pw_succ] at hv
  have hc : c = 0 := by
    rcases Nat.eq_zero_or_pos c with h | h
    · exact h
    · have : 1000000000 * pw (max a.length b.length) ≤ 1000000000 * pw (max a.length b.length) * c := Nat.le_mul_of_pos_right _ h
      omega
  subst hc
  omega
theorem minus_step {a b out : List Nat} {i c n s c' : Nat} (hlen : out.length = n) (hd : Dig out) (hi : i < n) (hv : val (out.take i) + val (b.take i) = val (a.take i) + pw i * c) (hs : s < 1000000000) (hsum : s + (b.getD i 0 + c) = a.getD i 0 + 1000000000 * c') :
    (out.set i s).length = n ∧ Dig (out.set i s) ∧ val ((out.set i s).take (i + 1)) + val (b.take (i + 1)) = val (a.take (i + 1)) + pw (i + 1) * c' := by
  refine ⟨by simpa using hlen, hd.set i hs, ?_⟩
  rw [val_take_set out i s (by omega), val_take_succ, val_take_succ, pw_succ]
  grind
theorem minus_end {a b out : List Nat} {c : Nat} (hda : Dig a) (hdb : Dig b) (hd : Dig out) (hba : val b ≤ val a) (hlen : out.length = a.length) (hv : val (out.take a.length) + val (b.take a.length) = val (a.take a.length) + pw a.length * c) : val out = val a - val b := by
  rw [List.take_of_length_le (l := out) (by omega), List.take_of_length_le (l := a) (by omega)] at hv
  have h1 := val_lt hda
  have h2 := val_lt hd
  rw [hlen] at h2
  have h3 : val (b.take a.length) = val b := by
    by_cases h : a.length ≤ b.length
    · have h4 := val_split b a.length h
      rcases Nat.eq_zero_or_pos (val (b.drop a.length)) with h5 | h5
      · rw [h5] at h4; omega
      · have : pw a.length ≤ pw a.length * val (b.drop a.length) := Nat.le_mul_of_pos_right _ h5
        omega
    · rw [List.take_of_length_le (by omega)]
  have hc : c = 0 := by
    rcases Nat.eq_zero_or_pos c with h | h
    · exact h
    · have : pw a.length ≤ pw a.length * c := Nat.le_mul_of_pos_right _ h
      omega
  subst hc
  omega
theorem times_step {out : List Nat} {A X p q pb c i j s : Nat} (hi : i + j < out.length) (hd : Dig out) (hv : val out + pw (i + j) * c = A + pw i * (p * X)) (hs : s = out.getD (i + j) 0 + p * q + c) (hX : pb = X + pw j * q) :
    Dig (out.set (i + j) (s % 1000000000)) ∧ val (out.set (i + j) (s % 1000000000)) + pw (i + j + 1) * (s / 1000000000) = A + pw i * (p * pb) := by
  refine ⟨hd.set _ (Nat.mod_lt _ (by decide)), ?_⟩
  have h1 := val_set out (i + j) (s % 1000000000) hi
  have h2 : s = s % 1000000000 + 1000000000 * (s / 1000000000) := by omega
  generalize hs1 : s % 1000000000 = u at *
  generalize hs2 : s / 1000000000 = t at *
  generalize hg : out.getD (i + j) 0 = g at *
  generalize hv2 : val (out.set (i + j) u) = v at *
  rw [pw_succ]
  rw [pw_add] at *
  subst hX
  have h3 : u + 1000000000 * t = g + p * q + c := by omega
  have h4 : pw i * pw j * (u + 1000000000 * t) = pw i * pw j * (g + p * q + c) := by rw [h3]
  grind
theorem getD_replicate (n k : Nat) : (List.replicate n 0).getD k 0 = 0 := by
  simp only [List.getD, List.getElem?_replicate]
  split <;> rfl
theorem zero_set {out : List Nat} {i m s : Nat} (h : i < m) (hz : ∀ k, m ≤ k → out.getD k 0 = 0) : ∀ k, m ≤ k → (out.set i s).getD k 0 = 0 := fun k hk => by
  have h1 := hz k hk
  simp only [List.getD, List.getElem?_set] at h1 ⊢
  rw [if_neg (by omega)]
  exact h1
theorem times_row {a b o2 : List Nat} {i c : Nat} (hdb : Dig o2) (hi : i < a.length) (hlen : o2.length = a.length + b.length) (hz : ∀ k, i + b.length ≤ k → o2.getD k 0 = 0) (hc : c < 1000000000)
    (hv : val o2 + pw (i + b.length) * c = val (a.take i) * val b + pw i * (a.getD i 0 * val (b.take b.length))) :
    (o2.set (i + b.length) c).length = a.length + b.length ∧ Dig (o2.set (i + b.length) c) ∧ (∀ k, i + 1 + b.length ≤ k → (o2.set (i + b.length) c).getD k 0 = 0) ∧ val (o2.set (i + b.length) c) = val (a.take (i + 1)) * val b := by
  refine ⟨by simpa using hlen, hdb.set _ hc, zero_set (by omega) (fun k hk => hz k (by omega)), ?_⟩
  have h1 := val_set o2 (i + b.length) c (by omega)
  rw [hz _ (Nat.le_refl _)] at h1
  rw [List.take_of_length_le (l := b) (Nat.le_refl _)] at hv
  rw [val_take_succ]
  grind
end Go.Fid
