/- Part 4 of a proof: rules, plain facts, and functions walked. -/
import Derived.Test.YtbecgnplakngdaaGreatM3
namespace Go.Fid
set_option linter.unusedVariables false
set_option linter.unusedSimpArgs false
theorem drop_set_self (q : List Nat) (i e : Nat) (h : i < q.length) : (q.set i e).drop i = e :: q.drop (i + 1) := by
  rw [List.drop_eq_getElem_cons (by simpa using h), List.getElem_set_self, List.drop_set_of_lt (by omega)]
theorem val_drop_set (q : List Nat) (i e : Nat) (h : i < q.length) : val ((q.set i e).drop i) = e + 1000000000 * val (q.drop (i + 1)) := by
  rw [drop_set_self q i e h, val_cons]
theorem short_step {a q : List Nat} {d rest j n : Nat} (hj : j < a.length) (hq : q.length = a.length)
    (hv : val (a.drop (a.length - j)) = val (q.drop (a.length - j)) * d + rest) (hn : n = rest * 1000000000 + a.getD (a.length - 1 - j) 0) :
    val (a.drop (a.length - (j + 1))) = val ((q.set (a.length - 1 - j) (n / d)).drop (a.length - (j + 1))) * d + n % d := by
  have h1 : a.length - (j + 1) = a.length - 1 - j := by omega
  have h2 : a.length - 1 - j + 1 = a.length - j := by omega
  rw [val_drop a j hj, hv, h1, val_drop_set q _ _ (by omega), h2]
  have h3 := Nat.div_add_mod n d
  rw [Nat.add_mul, Nat.mul_comm (n / d) d]
  generalize val (q.drop (a.length - j)) = Q at *
  have h4 : 1000000000 * Q * d = 1000000000 * (Q * d) := Nat.mul_assoc _ _ _
  omega
theorem short_bound {d rest g : Nat} (hr : rest < d) (hd : d ≤ 1000000000) (hg : g < 1000000000) : rest * 1000000000 + g < 1000000000000000000 ∧ (rest * 1000000000 + g) / d < 1000000000 := by
  have h1 : rest * 1000000000 + g < d * 1000000000 := by omega
  refine ⟨by omega, ?_⟩
  rw [Nat.div_lt_iff_lt_mul (by omega)]
  omega
theorem short_end {a q : List Nat} {d rest : Nat} (hv : val (a.drop (a.length - a.length)) = val (q.drop (a.length - a.length)) * d + rest) (hr : rest < d) : val q = val a / d ∧ rest = val a % d := by
  rw [Nat.sub_self, List.drop_zero, List.drop_zero] at hv
  rw [hv]
  have h0 : 0 < d := by omega
  constructor
  · rw [Nat.mul_comm, Nat.mul_add_div h0, Nat.div_eq_of_lt hr, Nat.add_zero]
  · rw [Nat.mul_comm, Nat.mul_add_mod, Nat.mod_eq_of_lt hr]
def scl (b : List Nat) : Nat := 1000000000 / (b.getD (b.length - 1) 0 + 1)
theorem top_pos {b : List Nat} (hb : Cano b) (h : 0 < b.length) : 0 < b.getD (b.length - 1) 0 ∧ b.getD (b.length - 1) 0 < 1000000000 := by
  refine ⟨?_, hb.1.getD _⟩
  have h1 := hb.2
  unfold Top at h1
  have h2 : b.length - 1 < b.length := by omega
  simp [List.getD, List.getElem?_eq_getElem h2] at h1 ⊢
  omega
theorem scl_bound {b : List Nat} (hb : Cano b) (h : 0 < b.length) : 1 ≤ scl b ∧ scl b ≤ 500000000 ∧ scl b * (b.getD (b.length - 1) 0 + 1) ≤ 1000000000 := by
  obtain ⟨h1, h2⟩ := top_pos hb h
  unfold scl
  generalize b.getD (b.length - 1) 0 = t at *
  refine ⟨?_, ?_, Nat.div_mul_le_self _ _⟩
  · rw [Nat.le_div_iff_mul_le (by omega)]; omega
  · have : 1000000000 / (t + 1) ≤ 1000000000 / 2 := Nat.div_le_div_left (by omega) (by decide)
    omega
theorem pw_pred {n : Nat} (h : 0 < n) : pw n = 1000000000 * pw (n - 1) := by
  obtain ⟨m, rfl⟩ : ∃ m, n = m + 1 := ⟨n - 1, by omega⟩
  rw [pw_succ]; rfl
theorem val_top {b : List Nat} (h : Dig b) (hl : 0 < b.length) : b.getD (b.length - 1) 0 * pw (b.length - 1) ≤ val b ∧ val b < (b.getD (b.length - 1) 0 + 1) * pw (b.length - 1) := by
  have h1 := val_take_succ b (b.length - 1)
  rw [show b.length - 1 + 1 = b.length by omega, List.take_length] at h1
  have h2 := val_lt (h.take (b.length - 1))
  rw [List.length_take, Nat.min_eq_left (by omega)] at h2
  rw [Nat.mul_comm] at h1
  rw [Nat.add_mul, Nat.one_mul]
  omega
theorem scl_len {b : List Nat} (hb : Cano b) (h : 0 < b.length) : (ofNat (val b * scl b)).length = b.length := by
  obtain ⟨h1, h2, h3⟩ := scl_bound hb h
  obtain ⟨h4, h5⟩ := val_top hb.1 h
  have h6 : val b * scl b < pw b.length := by
    rw [pw_pred h]
    have h7 : val b * scl b < (b.getD (b.length - 1) 0 + 1) * pw (b.length - 1) * scl b := Nat.mul_lt_mul_of_pos_right h5 (by omega)
    have h8 : (b.getD (b.length - 1) 0 + 1) * pw (b.length - 1) * scl b = scl b * (b.getD (b.length - 1) 0 + 1) * pw (b.length - 1) := by
      rw [Nat.mul_comm, ← Nat.mul_assoc]
    have h9 := Nat.mul_le_mul_right (pw (b.length - 1)) h3
    omega
  have h7 := ofNat_length_le h6
  have h8 : ¬ (ofNat (val b * scl b)).length < b.length := fun hlt => by
    have h9 : b.length = (ofNat (val b)).length := congrArg List.length (can_eq hb)
    rw [h9] at hlt
    have := ofNat_len_lt hlt
    have h10 : val b * 1 ≤ val b * scl b := Nat.mul_le_mul_left _ h1
    omega
  omega
theorem ofNat_len_mono {m n : Nat} (h : m ≤ n) : (ofNat m).length ≤ (ofNat n).length := by
  by_cases hlt : (ofNat n).length < (ofNat m).length
  · have := ofNat_len_lt hlt; omega
  · omega
theorem ofNat_lt_pw (n : Nat) : n < pw (ofNat n).length := by
  have := val_lt (ofNat_dig n)
  rwa [ofNat_val] at this
theorem ofNat_len_pos {n : Nat} (h : 0 < n) : 0 < (ofNat n).length := by
  rw [ofNat_pos (by omega)]; simp
theorem scl_lenA {a b : List Nat} (ha : Cano a) (hb : Cano b) (h : 0 < b.length) : a.length ≤ (ofNat (val a * scl b)).length ∧ (ofNat (val a * scl b)).length ≤ a.length + 1 := by
  obtain ⟨h1, h2, h3⟩ := scl_bound hb h
  constructor
  · have h4 := ofNat_len_mono (m := val a) (n := val a * scl b) (by
      have := Nat.mul_le_mul_left (val a) h1; omega)
    rwa [← can_eq ha] at h4
  · refine ofNat_length_le ?_
    have h4 := val_lt ha.1
    rw [pw_succ]
    have h5 : val a * scl b ≤ val a * 1000000000 := Nat.mul_le_mul_left _ (by omega)
    have h6 : val a * 1000000000 < pw a.length * 1000000000 := Nat.mul_lt_mul_of_pos_right h4 (by decide)
    omega
theorem len_of_le {a b : List Nat} (ha : Cano a) (hb : Cano b) (h : val b ≤ val a) : b.length ≤ a.length := by
  have h1 := ofNat_len_mono h
  rwa [← can_eq ha, ← can_eq hb] at h1
theorem guess_first {W V v1 r1 p top : Nat} (hV : v1 * p ≤ V) (hW : W < (top + 1) * p) (hv : 0 < v1) (hr : r1 = top / v1) : W / V ≤ r1 := by
  by_cases hV0 : V = 0
  · subst hV0; rw [Nat.div_zero]; exact Nat.zero_le _
  refine Nat.le_of_lt_succ ((Nat.div_lt_iff_lt_mul (by omega)).2 ?_)
  have h1 : top + 1 ≤ (r1 + 1) * v1 := by
    subst hr
    have := Nat.lt_div_mul_add (a := top) hv
    rw [Nat.add_mul, Nat.one_mul]; omega
  have h2 := Nat.mul_le_mul_right p h1
  have h3 := Nat.mul_le_mul_left (r1 + 1) hV
  have h4 : (r1 + 1) * v1 * p = (r1 + 1) * (v1 * p) := Nat.mul_assoc _ _ _
  show W < (r1 + 1) * V
  omega
theorem guess_less {W V v1 v2 u2 G R p top : Nat} (hp : 0 < p) (hV : (v1 * 1000000000 + v2) * p ≤ V) (hW : W < (top * 1000000000 + u2 + 1) * p) (htop : G * v1 + R = top) (hG : W / V ≤ G) (hv : 0 < v1) (hlt : W < 1000000000 * V)
    (ht : 1000000000 ≤ G ∨ R * 1000000000 + u2 < G * v2) : W / V ≤ G - 1 ∧ 0 < G := by
  have hVp : 0 < V := Nat.lt_of_lt_of_le (Nat.mul_pos (by omega) hp) hV
  have hq : W / V < 1000000000 := (Nat.div_lt_iff_lt_mul hVp).2 hlt
  rcases ht with h | h
  · omega
  · have hG0 : 0 < G := by
      rcases Nat.eq_zero_or_pos G with h0 | h0
      · subst h0; rw [Nat.zero_mul] at h; omega
      · exact h0
    refine ⟨?_, hG0⟩
    have hne : W / V ≠ G := fun e => by
      have h1 : G * V ≤ W := by rw [← e]; exact Nat.div_mul_le_self _ _
      have h2 := Nat.mul_le_mul_left G hV
      have h3 : G * ((v1 * 1000000000 + v2) * p) = G * (v1 * 1000000000 + v2) * p := (Nat.mul_assoc _ _ _).symm
      have h4 : G * (v1 * 1000000000 + v2) * p < (top * 1000000000 + u2 + 1) * p := by omega
      have h5 := Nat.lt_of_mul_lt_mul_right h4
      rw [Nat.mul_add, ← Nat.mul_assoc] at h5
      rw [← htop, Nat.add_mul] at h5
      omega
    omega
theorem guess_near {W V v1 v2 u2 G R p top : Nat} (hV : V < (v1 * 1000000000 + v2 + 1) * p) (hW : (top * 1000000000 + u2) * p ≤ W) (htop : G * v1 + R = top) (hv : 0 < v1) (hz : 0 < V) (hG : G < 1000000000) (ht : G * v2 ≤ R * 1000000000 + u2) : G ≤ W / V + 1 := by
  rcases Nat.eq_zero_or_pos G with h0 | h0
  · rw [h0]; exact Nat.zero_le _
  have h1 : (G - 1) * V ≤ W := by
    have h2 := Nat.mul_le_mul_left (G - 1) (Nat.le_of_lt hV)
    refine Nat.le_trans h2 (Nat.le_trans ?_ hW)
    rw [← Nat.mul_assoc]
    refine Nat.mul_le_mul_right p ?_
    obtain ⟨g, rfl⟩ : ∃ g, G = g + 1 := ⟨G - 1, by omega⟩
    rw [Nat.add_sub_cancel]
    rw [← htop]
    have e1 : g * (v1 * 1000000000 + v2 + 1) = g * v1 * 1000000000 + g * v2 + g := by
      rw [Nat.mul_add, Nat.mul_add, Nat.mul_one, ← Nat.mul_assoc]
    have e2 : ((g + 1) * v1 + R) * 1000000000 = g * v1 * 1000000000 + v1 * 1000000000 + R * 1000000000 := by
      rw [Nat.add_mul, Nat.add_mul, Nat.add_mul, Nat.one_mul]
    have e3 : (g + 1) * v2 = g * v2 + v2 := by rw [Nat.add_mul, Nat.one_mul]
    rw [e1, e2]
    omega
  have h3 : G - 1 ≤ W / V := (Nat.le_div_iff_mul_le hz).2 h1
  exact Nat.le_add_of_sub_le h3
theorem msub_step {u u' v : List Nat} {i j n L G carry borrow p e borrow' : Nat} (hj : j + n < L) (hi : i < n) (hl : u'.length = L) (hlu : u.length = L) (hd : Dig u') (h1 : u'.take j = u.take j) (h2 : u'.drop (j + i) = u.drop (j + i))
    (hv : val ((u'.drop j).take i) + G * val (v.take i) = val ((u.drop j).take i) + pw i * (carry + borrow)) (hp : p = G * v.getD i 0 + carry) (he : e < 1000000000) (hs : e + borrow + p % 1000000000 = u'.getD (i + j) 0 + 1000000000 * borrow') :
    (u'.set (i + j) e).length = L ∧ Dig (u'.set (i + j) e) ∧ (u'.set (i + j) e).take j = u.take j ∧ (u'.set (i + j) e).drop (j + (i + 1)) = u.drop (j + (i + 1)) ∧
    val (((u'.set (i + j) e).drop j).take (i + 1)) + G * val (v.take (i + 1)) = val ((u.drop j).take (i + 1)) + pw (i + 1) * (p / 1000000000 + borrow') := by
  have e0 : u'.getD (i + j) 0 = (u.drop j).getD i 0 := by
    have h3 : (u'.drop (j + i)).getD 0 0 = (u.drop (j + i)).getD 0 0 := by rw [h2]
    simp only [List.getD, List.getElem?_drop, Nat.add_zero] at h3 ⊢
    rw [Nat.add_comm i j]; exact h3
  refine ⟨by simpa using hl, hd.set _ he, by rw [List.take_set_of_le (by omega)]; exact h1, ?_, ?_⟩
  · rw [List.drop_set_of_lt (by omega)]
    have h3 : (u'.drop (j + i)).drop 1 = (u.drop (j + i)).drop 1 := by rw [h2]
    rw [List.drop_drop, List.drop_drop] at h3
    exact h3
  · have e1 : (u'.set (i + j) e).drop j = (u'.drop j).set i e := by
      rw [List.drop_set, if_neg (by omega)]; congr 1; omega
    rw [e1, val_take_set _ _ _ (by rw [List.length_drop]; omega), val_take_succ, val_take_succ, ← e0, pw_succ]
    have e2 := Nat.mod_add_div p 1000000000
    generalize val ((u'.drop j).take i) = A at *
    generalize val ((u.drop j).take i) = Y at *
    generalize val (v.take i) = X at *
    generalize v.getD i 0 = vi at *
    generalize u'.getD (i + j) 0 = d0 at *
    generalize pw i = P at *
    generalize p / 1000000000 = c' at *
    generalize p % 1000000000 = x at *
    have e3 : G * (X + P * vi) = G * X + P * (G * vi) := by rw [Nat.mul_add, Nat.mul_left_comm]
    have e4 : P * e + P * (G * vi) + P * (carry + borrow) = P * d0 + 1000000000 * P * (c' + borrow') := by
      have e5 : e + G * vi + (carry + borrow) = d0 + 1000000000 * (c' + borrow') := by omega
      have e6 := congrArg (P * ·) e5
      simp only [Nat.mul_add] at e6
      have e7 : 1000000000 * P * (c' + borrow') = P * (1000000000 * c') + P * (1000000000 * borrow') := by
        rw [Nat.mul_comm 1000000000 P, Nat.mul_assoc, Nat.mul_add, Nat.mul_add]
      rw [e7, Nat.mul_add]
      omega
    rw [e3]
    omega
theorem addb_step {u u' v : List Nat} {i j n L c s e c' : Nat} (hj : j + n < L) (hi : i < n) (hl : u'.length = L) (hlu : u.length = L) (hd : Dig u') (h1 : u'.take j = u.take j) (h2 : u'.drop (j + i) = u.drop (j + i))
    (hv : val ((u'.drop j).take i) + pw i * c = val ((u.drop j).take i) + val (v.take i)) (hs : s = u'.getD (i + j) 0 + v.getD i 0 + c) (he : e < 1000000000) (hc : e + 1000000000 * c' = s) :
    (u'.set (i + j) e).length = L ∧ Dig (u'.set (i + j) e) ∧ (u'.set (i + j) e).take j = u.take j ∧ (u'.set (i + j) e).drop (j + (i + 1)) = u.drop (j + (i + 1)) ∧
    val (((u'.set (i + j) e).drop j).take (i + 1)) + pw (i + 1) * c' = val ((u.drop j).take (i + 1)) + val (v.take (i + 1)) := by
  have e0 : u'.getD (i + j) 0 = (u.drop j).getD i 0 := by
    have h3 : (u'.drop (j + i)).getD 0 0 = (u.drop (j + i)).getD 0 0 := by rw [h2]
    simp only [List.getD, List.getElem?_drop, Nat.add_zero] at h3 ⊢
    rw [Nat.add_comm i j]; exact h3
  refine ⟨by simpa using hl, hd.set _ he, by rw [List.take_set_of_le (by omega)]; exact h1, ?_, ?_⟩
  · rw [List.drop_set_of_lt (by omega)]
    have h3 : (u'.drop (j + i)).drop 1 = (u.drop (j + i)).drop 1 := by rw [h2]
    rw [List.drop_drop, List.drop_drop] at h3
    exact h3
  · have e1 : (u'.set (i + j) e).drop j = (u'.drop j).set i e := by
      rw [List.drop_set, if_neg (by omega)]; congr 1; omega
    rw [e1, val_take_set _ _ _ (by rw [List.length_drop]; omega), val_take_succ, val_take_succ, ← e0, pw_succ]
    generalize val ((u'.drop j).take i) = A at *
    generalize val ((u.drop j).take i) = Y at *
    generalize val (v.take i) = X at *
    generalize v.getD i 0 = vi at *
    generalize u'.getD (i + j) 0 = d0 at *
    generalize pw i = P at *
    have e4 : P * e + 1000000000 * P * c' = P * d0 + P * vi + P * c := by
      have e5 : e + 1000000000 * c' = d0 + vi + c := by omega
      have e6 := congrArg (P * ·) e5
      simp only [Nat.mul_add] at e6
      rw [Nat.mul_comm 1000000000 P, Nat.mul_assoc]
      omega
    omega
theorem val_drop_split (u : List Nat) (j n : Nat) : val (u.drop j) = val ((u.drop j).take n) + pw n * val (u.drop (j + n)) := by
  by_cases h : n ≤ (u.drop j).length
  · rw [val_split (u.drop j) n h, List.drop_drop]
  · rw [List.take_of_length_le (by omega), List.drop_eq_nil_of_le (i := j + n) (by rw [List.length_drop] at h; omega), val_nil, Nat.mul_zero, Nat.add_zero]
theorem val_drop_one (u : List Nat) (j : Nat) : val (u.drop j) = u.getD j 0 + 1000000000 * val (u.drop (j + 1)) := by
  by_cases h : j < u.length
  · rw [List.drop_eq_getElem_cons h, val_cons]; simp [List.getD, List.getElem?_eq_getElem h]
  · rw [List.drop_eq_nil_of_le (by omega), List.drop_eq_nil_of_le (by omega), val_nil]; simp [List.getD, List.getElem?_eq_none (by omega : u.length ≤ j)]
theorem window {u v : List Nat} {j n : Nat} (hv : Dig v) (hn : v.length = n) (h : val (u.drop (j + 1)) < val v) : val (u.drop (j + n + 1)) = 0 ∧ val (u.drop j) = val ((u.drop j).take n) + pw n * u.getD (j + n) 0 := by
  have h1 := val_lt hv
  rw [hn] at h1
  have h2 := val_drop_split u (j + 1) n
  have h3 : val (u.drop (j + 1 + n)) = 0 := by
    rcases Nat.eq_zero_or_pos (val (u.drop (j + 1 + n))) with h4 | h4
    · exact h4
    · have := Nat.mul_le_mul_left (pw n) h4
      omega
  rw [show j + 1 + n = j + n + 1 by omega] at h3
  refine ⟨h3, ?_⟩
  rw [val_drop_split u j n, val_drop_one u (j + n), h3, Nat.mul_zero, Nat.add_zero]
theorem window_tops {u v : List Nat} {j n : Nat} (hu : Dig u) (hv : Dig v) (hn : v.length = n) (h2 : 2 ≤ n) (h : val (u.drop (j + 1)) < val v) :
    u.getD (j + n) 0 ≤ v.getD (n - 1) 0 ∧ val (u.drop j) < 1000000000 * val v ∧
    ((u.getD (j + n) 0 * 1000000000 + u.getD (j + n - 1) 0) * 1000000000 + u.getD (j + n - 2) 0) * pw (n - 2) ≤ val (u.drop j) ∧
    val (u.drop j) < ((u.getD (j + n) 0 * 1000000000 + u.getD (j + n - 1) 0) * 1000000000 + u.getD (j + n - 2) 0 + 1) * pw (n - 2) ∧
    (v.getD (n - 1) 0 * 1000000000 + v.getD (n - 2) 0) * pw (n - 2) ≤ val v ∧ val v < (v.getD (n - 1) 0 * 1000000000 + v.getD (n - 2) 0 + 1) * pw (n - 2) := by
  obtain ⟨m, rfl⟩ : ∃ m, n = m + 2 := ⟨n - 2, by omega⟩
  obtain ⟨w1, w2⟩ := window hv hn h
  have p1 : pw (m + 1) = 1000000000 * pw m := pw_succ m
  have p2 : pw (m + 2) = 1000000000 * (1000000000 * pw m) := by rw [pw_succ, pw_succ]
  have a1 := val_take_succ v (m + 1)
  have a2 := val_take_succ v m
  rw [show m + 1 + 1 = v.length by omega, List.take_length] at a1
  have a3 := val_lt (hv.take m)
  rw [List.length_take, Nat.min_eq_left (by omega)] at a3
  have b1 := val_drop_split u j m
  have b2 := val_drop_one u (j + m)
  have b3 := val_drop_one u (j + m + 1)
  have b4 := val_drop_one u (j + m + 2)
  rw [show j + m + 2 + 1 = j + (m + 2) + 1 by omega, w1] at b4
  have b5 : val ((u.drop j).take m) < pw m := by
    have := val_lt ((hu.drop j).take m)
    exact Nat.lt_of_lt_of_le this (pw_mono (by rw [List.length_take]; exact Nat.min_le_left _ _))
  have c1 := val_drop_split u (j + 1) (m + 1)
  rw [show j + 1 + (m + 1) = j + m + 2 by omega, b4] at c1
  have g1 := hu.getD j
  have g2 := hv.getD m
  have e1 : j + (m + 2) - 1 = j + m + 1 := by omega
  have e2 : j + (m + 2) - 2 = j + m := by omega
  have e3 : j + (m + 2) = j + m + 2 := by omega
  have e4 : m + 2 - 1 = m + 1 := by omega
  have e5 : m + 2 - 2 = m := by omega
  have e6 := val_drop_one u j
  rw [e1, e2, e3, e4, e5]
  rw [e3] at w1 w2
  generalize u.getD (j + m + 2) 0 = t2 at *
  generalize u.getD (j + m + 1) 0 = t1 at *
  generalize u.getD (j + m) 0 = t0 at *
  generalize v.getD (m + 1) 0 = v1 at *
  generalize v.getD m 0 = v0 at *
  generalize val ((u.drop j).take m) = low at *
  generalize val (v.take m) = vl at *
  generalize pw m = P at *
  rw [p1] at a1 c1
  have hW : val (u.drop j) = low + P * (t0 + 1000000000 * (t1 + 1000000000 * t2)) := by rw [b1, b2, b3, b4]; simp
  have hV : val v = vl + P * (v0 + 1000000000 * v1) := by
    rw [a1, a2, Nat.mul_add, Nat.add_assoc]
    congr 2
    rw [Nat.mul_comm 1000000000 P, Nat.mul_assoc]
  refine ⟨?_, by omega, ?_, ?_, ?_, ?_⟩
  · rcases Nat.lt_or_ge v1 t2 with hlt | hge
    · exfalso
      have h5 : 1000000000 * P * (v1 + 1) ≤ 1000000000 * P * t2 := Nat.mul_le_mul_left _ hlt
      have h6 : P * v0 + P ≤ 1000000000 * P := by
        have h7 : v0 + 1 ≤ 1000000000 := by
          omega
        have := Nat.mul_le_mul_left P h7
        rw [Nat.mul_add, Nat.mul_one] at this
        omega
      rw [Nat.mul_add, Nat.mul_one] at h5
      rw [hV] at h
      rw [Nat.mul_add, show P * (1000000000 * v1) = 1000000000 * P * v1 by rw [Nat.mul_comm 1000000000 P, Nat.mul_assoc]] at h
      simp at c1
      omega
    · exact hge
  · have : (t2 * 1000000000 + t1) * 1000000000 + t0 = t0 + 1000000000 * (t1 + 1000000000 * t2) := by omega
    rw [hW, this, Nat.mul_comm _ P]; omega
  · have : (t2 * 1000000000 + t1) * 1000000000 + t0 + 1 = t0 + 1000000000 * (t1 + 1000000000 * t2) + 1 := by omega
    rw [hW, this, Nat.mul_comm _ P, Nat.mul_add _ _ 1, Nat.mul_one]; omega
  · have : v1 * 1000000000 + v0 = v0 + 1000000000 * v1 := by omega
    rw [hV, this, Nat.mul_comm _ P]; omega
  · have : v1 * 1000000000 + v0 + 1 = v0 + 1000000000 * v1 + 1 := by omega
    rw [hV, this, Nat.mul_comm _ P, Nat.mul_add _ _ 1, Nat.mul_one]; omega
theorem getD_of_drop {u u2 : List Nat} {m : Nat} (h : u2.drop m = u.drop m) : u2.getD m 0 = u.getD m 0 := by
  have h3 : (u2.drop m).getD 0 0 = (u.drop m).getD 0 0 := by rw [h]
  simpa only [List.getD, List.getElem?_drop, Nat.add_zero] using h3
theorem take_window_lt {u : List Nat} (h : Dig u) (j n : Nat) : val ((u.drop j).take n) < pw n :=
  Nat.lt_of_lt_of_le (val_lt ((h.drop j).take n)) (pw_mono (by rw [List.length_take]; exact Nat.min_le_left _ _))
theorem msub_end {u u2 v : List Nat} {j n G C : Nat} (hu : Dig u) (hu2 : Dig u2) (hv : Dig v) (hn : v.length = n) (hW : val (u.drop (j + 1)) < val v) (hG1 : val (u.drop j) / val v ≤ G) (hG2 : G ≤ val (u.drop j) / val v + 1)
    (h2 : u2.drop (j + n) = u.drop (j + n)) (hval : val ((u2.drop j).take n) + G * val (v.take n) = val ((u.drop j).take n) + pw n * C) :
    u2.getD (j + n) 0 = u.getD (j + n) 0 ∧
    (u.getD (j + n) 0 < C → u.getD (j + n) 0 + 1 = C ∧ 0 < G ∧ ∃ r, r < val v ∧ val (u.drop j) = r + (G - 1) * val v ∧ val ((u2.drop j).take n) + val v = pw n + r) ∧
    (C ≤ u.getD (j + n) 0 → u.getD (j + n) 0 = C ∧ val ((u2.drop j).take n) < val v ∧ val (u.drop j) = val ((u2.drop j).take n) + G * val v) := by
  obtain ⟨w1, w2⟩ := window hv hn hW
  have hV := val_lt hv
  rw [hn] at hV
  have hX := take_window_lt hu2 j n
  rw [← hn, List.take_length, hn] at hval
  have hVp : 0 < val v := by omega
  have d1 := Nat.div_mul_le_self (val (u.drop j)) (val v)
  have d2 := Nat.lt_div_mul_add (a := val (u.drop j)) hVp
  refine ⟨getD_of_drop h2, ?_, ?_⟩
  all_goals generalize hQ : val (u.drop j) / val v = Q at *
  all_goals generalize u.getD (j + n) 0 = t at *
  all_goals generalize val ((u.drop j).take n) = Y at *
  all_goals generalize val ((u2.drop j).take n) = X at *
  all_goals generalize val (u.drop j) = W at *
  all_goals generalize val v = V at *
  all_goals generalize pw n = P at *
  · intro hlt
    have m1 : P * (t + 1) ≤ P * C := Nat.mul_le_mul_left _ hlt
    rw [Nat.mul_add, Nat.mul_one] at m1
    rcases Nat.lt_or_ge Q G with hq | hq
    · have e : G = Q + 1 := by omega
      subst e
      rw [Nat.add_mul, Nat.one_mul] at hval
      have m2 : C = t + 1 := by
        rcases Nat.lt_or_ge (t + 1) C with h5 | h5
        · exfalso
          have m3 : P * (t + 2) ≤ P * C := Nat.mul_le_mul_left _ h5
          rw [Nat.mul_add] at m3
          omega
        · omega
      subst m2
      rw [Nat.mul_add, Nat.mul_one] at hval
      refine ⟨rfl, by omega, W - Q * V, by omega, ?_, by omega⟩
      rw [Nat.add_sub_cancel]; omega
    · exfalso
      have e : G = Q := by omega
      subst e
      omega
  · intro hge
    rcases Nat.lt_or_ge Q G with hq | hq
    · exfalso
      have e : G = Q + 1 := by omega
      subst e
      rw [Nat.add_mul, Nat.one_mul] at hval
      have m1 : P * C ≤ P * t := Nat.mul_le_mul_left _ hge
      omega
    · have e : G = Q := by omega
      subst e
      have m2 : C = t := by
        rcases Nat.lt_or_ge C t with h5 | h5
        · exfalso
          have m3 : P * (C + 1) ≤ P * t := Nat.mul_le_mul_left _ h5
          rw [Nat.mul_add, Nat.mul_one] at m3
          omega
        · omega
      subst m2
      exact ⟨rfl, by omega, by omega⟩
theorem val_window_set {u v : List Nat} {u2 : List Nat} {j n d : Nat} (hj : j + n < u2.length) (h2 : u2.drop (j + n + 1) = u.drop (j + n + 1)) (hz : val (u.drop (j + n + 1)) = 0) : (u2.set (j + n) d).take j = u2.take j ∧ val ((u2.set (j + n) d).drop j) = val ((u2.drop j).take n) + pw n * d := by
  refine ⟨List.take_set_of_le (by omega), ?_⟩
  rw [val_drop_split _ j n, val_drop_set _ _ _ hj, h2, hz, Nat.mul_zero, Nat.add_zero]
  congr 2
  have e1 : (u2.set (j + n) d).drop j = (u2.drop j).set n d := by
    rw [List.drop_set, if_neg (by omega)]; congr 1; omega
  rw [e1, List.take_set_of_le (Nat.le_refl _)]
theorem drop_succ_of {u u2 : List Nat} {m : Nat} (h : u2.drop m = u.drop m) : u2.drop (m + 1) = u.drop (m + 1) := by
  have h3 : (u2.drop m).drop 1 = (u.drop m).drop 1 := by rw [h]
  rwa [List.drop_drop, List.drop_drop] at h3
theorem round_end {u un q : List Nat} {V U j g r : Nat} (hj : j < q.length) (hju : j ≤ u.length) (hln : un.length = u.length) (ht : un.take j = u.take j) (hr : val (un.drop j) = r) (hW : val (u.drop j) = r + g * V) (hU : val u + V * (pw (j + 1) * val (q.drop (j + 1))) = U) :
    val un + V * (pw j * val ((q.set j g).drop j)) = U := by
  rw [val_split un j (by omega), ht, hr, val_drop_set q j g hj]
  rw [val_split u j hju, hW, pw_succ] at hU
  rw [← hU]
  generalize val (u.take j) = T
  generalize val (q.drop (j + 1)) = Q
  generalize pw j = P
  have e1 : P * (g + 1000000000 * Q) = P * g + P * (1000000000 * Q) := Nat.mul_add _ _ _
  have e2 : V * (P * g) = P * (g * V) := by rw [← Nat.mul_assoc, Nat.mul_comm V P, Nat.mul_assoc, Nat.mul_comm V g]
  have e3 : V * (P * (1000000000 * Q)) = V * (1000000000 * P * Q) := by rw [← Nat.mul_assoc P, Nat.mul_comm P 1000000000]
  rw [e1, Nat.mul_add V, e2, e3, Nat.mul_add P r]
  omega
theorem pos_end {u u2 v q : List Nat} {j n G U : Nat} (hu : Dig u) (hv : Dig v) (hn : v.length = n) (hj : j + n < u.length) (hjq : j < q.length) (hl : u2.length = u.length) (h1 : u2.take j = u.take j) (h2 : u2.drop (j + n) = u.drop (j + n)) (hW : val (u.drop (j + 1)) < val v)
    (hx : val ((u2.drop j).take n) < val v) (he : val (u.drop j) = val ((u2.drop j).take n) + G * val v) (hU : val u + val v * (pw (j + 1) * val (q.drop (j + 1))) = U) :
    val (u2.set (j + n) 0) + val v * (pw j * val ((q.set j G).drop j)) = U ∧ val ((u2.set (j + n) 0).drop j) < val v := by
  obtain ⟨w1, _⟩ := window hv hn hW
  obtain ⟨a1, a2⟩ := val_window_set (v := v) (d := 0) (by omega) (drop_succ_of h2) w1
  rw [Nat.mul_zero, Nat.add_zero] at a2
  exact ⟨round_end hjq (by omega) (by simpa using hl) (a1.trans h1) a2 he hU, by rw [a2]; exact hx⟩
theorem neg_end {u u2 u3 v q : List Nat} {j n G c r U : Nat} (hu3 : Dig u3) (hv : Dig v) (hn : v.length = n) (hj : j + n < u.length) (hjq : j < q.length) (hl : u2.length = u.length) (hl3 : u3.length = u.length) (h1 : u2.take j = u.take j) (h2 : u2.drop (j + n) = u.drop (j + n)) (hW : val (u.drop (j + 1)) < val v) (hc : c ≤ 1)
    (h31 : u3.take j = (u2.set (j + n) 999999999).take j) (h32 : u3.drop (j + n) = (u2.set (j + n) 999999999).drop (j + n)) (h3 : val ((u3.drop j).take n) + pw n * c = val (((u2.set (j + n) 999999999).drop j).take n) + val (v.take n))
    (hr : r < val v) (he : val (u.drop j) = r + (G - 1) * val v) (hx : val ((u2.drop j).take n) + val v = pw n + r) (hU : val u + val v * (pw (j + 1) * val (q.drop (j + 1))) = U) :
    val (u3.set (j + n) ((u3.getD (j + n) 0 + c) % 1000000000)) + val v * (pw j * val ((q.set j (G - 1)).drop j)) = U ∧ val ((u3.set (j + n) ((u3.getD (j + n) 0 + c) % 1000000000)).drop j) < val v := by
  obtain ⟨w1, _⟩ := window hv hn hW
  have hV := val_lt hv
  rw [hn] at hV
  have e1 : (u2.set (j + n) 999999999).drop j = (u2.drop j).set n 999999999 := by
    rw [List.drop_set, if_neg (by omega)]; congr 1; omega
  have e2 : ((u2.set (j + n) 999999999).drop j).take n = (u2.drop j).take n := by rw [e1, List.take_set_of_le (Nat.le_refl _)]
  rw [e2, ← hn, List.take_length, hn] at h3
  have h4 := take_window_lt hu3 j n
  have e3 : u3.getD (j + n) 0 = 999999999 := by
    rw [getD_of_drop h32, getD_set _ _ _ _ (by omega), if_pos rfl]
  have e4 : u3.drop (j + n + 1) = u.drop (j + n + 1) := by
    rw [drop_succ_of h32, List.drop_set_of_lt (by omega), drop_succ_of h2]
  have hc1 : c = 1 := by
    rcases Nat.lt_or_ge c 1 with h5 | h5
    · have : c = 0 := by omega
      subst this
      rw [Nat.mul_zero] at h3
      omega
    · omega
  subst hc1
  rw [Nat.mul_one] at h3
  have e5 : (u3.getD (j + n) 0 + 1) % 1000000000 = 0 := by rw [e3]
  rw [e5]
  obtain ⟨a1, a2⟩ := val_window_set (u := u) (v := v) (u2 := u3) (j := j) (n := n) (d := 0) (by omega) e4 w1
  rw [Nat.mul_zero, Nat.add_zero] at a2
  have e6 : val ((u3.drop j).take n) = r := by omega
  rw [e6] at a2
  have e7 : u3.take j = u.take j := by rw [h31, List.take_set_of_le (by omega)]; exact h1
  exact ⟨round_end hjq (by omega) (by simpa using hl3) (a1.trans e7) a2 he hU, by rw [a2]; exact hr⟩
theorem long_start {u0 v : List Nat} {n : Nat} (hu : Dig u0) (hn : v.length = n) (h2 : 2 ≤ n) (hl : n ≤ u0.length) (hv : pw (n - 1) ≤ val v) : val ((u0 ++ [0]).drop (u0.length + 1 - n)) < val v := by
  rw [List.drop_append_of_le_length (by omega), val_append]
  have h3 := val_lt (hu.drop (u0.length + 1 - n))
  rw [List.length_drop] at h3
  have h4 : pw (u0.length - (u0.length + 1 - n)) = pw (n - 1) := by congr 1; omega
  rw [h4] at h3
  simp only [val, Nat.mul_zero, Nat.add_zero]
  omega
theorem scl_div {a b q u : List Nat} (hb : Cano b) (h0 : 0 < b.length) (hU : val u + val b * scl b * (pw 0 * val (q.drop 0)) = val a * scl b) (hr : val (u.drop 0) < val b * scl b) : val q = val a / val b ∧ val u / scl b = val a % val b := by
  rw [pw_zero, Nat.one_mul, List.drop_zero] at hU
  rw [List.drop_zero] at hr
  have hs := (scl_bound hb h0).1
  generalize scl b = s at *
  have h1 : s * (val b * val q) ≤ s * val a := by
    have e : val b * s * val q = s * (val b * val q) := by rw [Nat.mul_comm (val b) s, Nat.mul_assoc]
    rw [e, Nat.mul_comm (val a) s] at hU; omega
  have h2 : val b * val q ≤ val a := Nat.le_of_mul_le_mul_left h1 hs
  have h3 : val u = s * (val a - val b * val q) := by
    rw [Nat.mul_sub]
    have e : val b * s * val q = s * (val b * val q) := by rw [Nat.mul_comm (val b) s, Nat.mul_assoc]
    rw [e, Nat.mul_comm (val a) s] at hU; omega
  have h4 : val a - val b * val q < val b := by
    rw [h3, Nat.mul_comm (val b) s] at hr
    exact Nat.lt_of_mul_lt_mul_left hr
  have hb0 : 0 < val b := by omega
  have h5 : val a = val b * val q + (val a - val b * val q) := by omega
  constructor
  · rw [h5, Nat.mul_add_div hb0, Nat.div_eq_of_lt h4, Nat.add_zero]
  · rw [h3, Nat.mul_div_cancel_left _ hs]
    conv => rhs; rw [h5]
    rw [Nat.mul_add_mod, Nat.mod_eq_of_lt h4]
theorem guess_first0 {W V v1 v2 u2 p top : Nat} (hV : (v1 * 1000000000 + v2) * p ≤ V) (hW : W < (top * 1000000000 + u2 + 1) * p) (hv : 0 < v1) (hu : u2 < 1000000000) : W / V ≤ top / v1 := by
  refine guess_first (p := 1000000000 * p) (top := top) ?_ ?_ hv rfl
  · refine Nat.le_trans ?_ hV
    rw [← Nat.mul_assoc]
    exact Nat.mul_le_mul_right p (by omega)
  · refine Nat.lt_of_lt_of_le hW ?_
    rw [← Nat.mul_assoc]
    exact Nat.mul_le_mul_right p (by omega)
theorem guess_top {v1 t2 t1 : Nat} (hv : 0 < v1) (h : t2 ≤ v1) (h1 : t1 < 1000000000) : (t2 * 1000000000 + t1) / v1 ≤ 1999999999 := by
  refine Nat.div_le_of_le_mul ?_
  omega
theorem guess_dec {G v1 R top : Nat} (h0 : 0 < G) (h : G * v1 + R = top) : (G - 1) * v1 + (R + v1) = top := by
  obtain ⟨g, rfl⟩ : ∃ g, G = g + 1 := ⟨G - 1, by omega⟩
  rw [Nat.add_mul, Nat.one_mul] at h
  rw [Nat.add_sub_cancel]; omega
theorem guess_break {g v1 R t2 t1 : Nat} (h : g * v1 + R = t2 * 1000000000 + t1) (h2 : t2 ≤ v1) (h1 : t1 < 1000000000) (hR : 1000000000 ≤ R) : g < 1000000000 := by
  rcases Nat.lt_or_ge g 1000000000 with h3 | h3
  · exact h3
  · exfalso
    have := Nat.mul_le_mul_right v1 h3
    omega
theorem val_take_of_lt {u : List Nat} {n : Nat} (h : val u < pw n) : val (u.take n) = val u := by
  by_cases hn : n ≤ u.length
  · have h1 := val_split u n hn
    rcases Nat.eq_zero_or_pos (val (u.drop n)) with h2 | h2
    · rw [h2, Nat.mul_zero, Nat.add_zero] at h1; exact h1.symm
    · have := Nat.mul_le_mul_left (pw n) h2
      omega
  · rw [List.take_of_length_le (by omega)]
theorem ofNat_val_len {l : List Nat} (hd : Dig l) : (ofNat (val l)).length ≤ l.length := ofNat_length_le (val_lt hd)
end Go.Fid
namespace Go.Fid
set_option linter.unusedVariables false
set_option linter.unusedSimpArgs false
def lenZ (z : Int) : Nat := (ofNat z.natAbs).length
theorem ofZ_len (z : Int) : (ofZ z).gs.length = lenZ z := rfl
theorem toZ_natAbs (x : RInt) : (toZ x).natAbs = val (grpI x) := by
  unfold toZ sgn; split <;> simp
theorem grpI_eq (x : RInt) : grpI x = ofNat (toZ x).natAbs := by rw [toZ_natAbs]; exact can_eq (grpI_can x)
theorem toZ_len (x : RInt) : lenZ (toZ x) ≤ x.gs.length := by unfold lenZ; rw [← grpI_eq]; exact grpI_len x
theorem validI_of {b : Bool} {l : List Nat} (h : Cano l) (hb : l = [] → b = false) : validI ⟨b, l⟩ = true := by
  unfold validI
  by_cases h0 : l = []
  · subst h0; simp [hb rfl]
  · have h1 : l.length ≠ 0 := fun e => h0 (List.eq_nil_of_length_eq_zero e)
    rw [if_neg (by show ((l.length : Nat) : Int) ≠ 0; omega)]
    obtain ⟨h2, _⟩ := top_pos h (by omega)
    have h3 : firstBig l = -1 := firstBig_neg h.1
    simp only [Bool.and_eq_true, Bool.not_eq_true', decide_eq_false_iff_not, bne_iff_ne]
    rw [h3]
    exact ⟨by omega, by omega⟩
theorem validI_iff {x : RInt} : validI x = true ↔ Cano x.gs ∧ (x.gs = [] → x.neg = false) := by
  refine ⟨fun h => ?_, fun ⟨h1, h2⟩ => validI_of h1 h2⟩
  have h1 := grpI_can x
  unfold grpI at h1
  rw [if_pos h] at h1
  refine ⟨h1, fun h0 => ?_⟩
  unfold validI at h
  rw [if_pos (by rw [h0]; rfl)] at h
  simpa using h
theorem validI_ofZ (z : Int) : validI (ofZ z) = true := validI_iff.2 ⟨ofNat_can _, fun h => by
  have h1 : z.natAbs = 0 := ofNat_nil.1 h
  have h2 : z = 0 := by omega
  subst h2; rfl⟩
theorem grpI_ofZ (z : Int) : grpI (ofZ z) = ofNat z.natAbs := by unfold grpI; rw [if_pos (validI_ofZ z)]; rfl
theorem ofZ_neg (z : Int) : (ofZ z).neg = decide (z < 0) := by
  unfold ofZ mkI
  by_cases h : z < 0
  · have : (z.natAbs != 0) = true := bne_iff_ne.2 (by omega)
    simp [h, this]
  · simp [h]
theorem toZ_ofZ (z : Int) : toZ (ofZ z) = z := by
  unfold toZ sgn
  rw [grpI_ofZ, ofZ_neg, ofNat_val]
  by_cases h : z < 0
  · simp [h]; omega
  · simp [h]; omega
theorem ofZ_toZ {x : RInt} (h : validI x = true) : ofZ (toZ x) = x := by
  obtain ⟨h1, h2⟩ := validI_iff.1 h
  obtain ⟨b, l⟩ := x
  have e : grpI ⟨b, l⟩ = l := by unfold grpI; rw [if_pos h]
  have e1 : toZ ⟨b, l⟩ = sgn b (val l) := by unfold toZ; rw [e]
  rw [e1, ← mkI_eq]
  unfold mkI
  rw [← can_eq h1]
  congr 1
  cases b with
  | false => rfl
  | true =>
    have : val l ≠ 0 := fun e0 => by
      have h3 := h2 (val_zero_nil h1 e0)
      cases h3
    simp [this]
theorem toZ_bad {x : RInt} (h : validI x = false) : toZ x = 0 := by
  unfold toZ grpI
  rw [if_neg (by rw [h]; simp)]
  unfold sgn; split <;> rfl
theorem lenZ_le {z : Int} {n : Nat} : lenZ z ≤ n ↔ z.natAbs < pw n := by
  refine ⟨fun h => Nat.lt_of_lt_of_le (ofNat_lt_pw _) (pw_mono h), fun h => ofNat_length_le h⟩
theorem lenZ_neg (z : Int) : lenZ (-z) = lenZ z := by unfold lenZ; rw [Int.natAbs_neg]
theorem lenZ_of_le {y z : Int} (h : y.natAbs ≤ z.natAbs) : lenZ y ≤ lenZ z := ofNat_len_mono h
theorem lenZ_add {a b : Int} {m n k : Nat} (ha : lenZ a ≤ m) (hb : lenZ b ≤ n) (h : max m n + 1 ≤ k) : lenZ (a + b) ≤ k := by
  have h1 := lenZ_le.1 ha
  have h2 := lenZ_le.1 hb
  refine lenZ_le.2 ?_
  have h3 : pw m ≤ pw (max m n) := pw_mono (by omega)
  have h4 : pw n ≤ pw (max m n) := pw_mono (by omega)
  have h5 : pw (max m n + 1) ≤ pw k := pw_mono h
  rw [pw_succ] at h5
  have h6 := Int.natAbs_add_le a b
  omega
theorem lenZ_mul {a b : Int} {m n k : Nat} (ha : lenZ a ≤ m) (hb : lenZ b ≤ n) (h : m + n ≤ k) : lenZ (a * b) ≤ k := by
  refine lenZ_le.2 ?_
  rw [Int.natAbs_mul]
  refine Nat.lt_of_lt_of_le ?_ (pw_mono h)
  rw [pw_add]
  exact Nat.mul_lt_mul_of_lt_of_le (lenZ_le.1 ha) (Nat.le_of_lt (lenZ_le.1 hb)) (pw_pos _)
structure IOk (x : RInt) (z : Int) (n : Nat) : Prop where
  v : toZ x = z
  l : x.gs.length ≤ n
theorem IOk.ln {x : RInt} {z : Int} {n : Nat} (h : IOk x z n) : lenZ z ≤ n := by rw [← h.v]; exact Nat.le_trans (toZ_len x) h.l
theorem iok_of {z : Int} {n : Nat} (h : lenZ z ≤ n) : IOk (ofZ z) z n := ⟨toZ_ofZ z, h⟩
theorem iok_raw {x : RInt} {n : Nat} (h : x.gs.length ≤ n) : IOk x (toZ x) n := ⟨rfl, h⟩
theorem iok_add {x y : RInt} {a b : Int} {m n k : Nat} (hx : IOk x a m) (hy : IOk y b n) (h : max m n + 1 ≤ k) : IOk (ofZ (a + b)) (a + b) k := iok_of (lenZ_add hx.ln hy.ln h)
theorem iok_mul {x y : RInt} {a b : Int} {m n k : Nat} (hx : IOk x a m) (hy : IOk y b n) (h : m + n ≤ k) : IOk (ofZ (a * b)) (a * b) k := iok_of (lenZ_mul hx.ln hy.ln h)
theorem iok_neg {x : RInt} {a : Int} {m : Nat} (hx : IOk x a m) : IOk (ofZ (-a)) (-a) m := iok_of (by rw [lenZ_neg]; exact hx.ln)
theorem iok_up {x : RInt} {a : Int} {m n : Nat} (hx : IOk x a m) (h : m ≤ n) : IOk x a n := ⟨hx.v, Nat.le_trans hx.l h⟩
theorem iu {x : RInt} {a : Int} {m n : Nat} (hx : IOk x a m) (h : m ≤ n := by decide) : IOk x a n := iok_up hx h
theorem iok_small {z : Int} (h : z.natAbs < 1000000000) : IOk (ofZ z) z 1 := iok_of (lenZ_le.2 (by rw [show (1 : Nat) = 0 + 1 from rfl, pw_succ, pw_zero]; omega))
theorem signI_sub (a b : Int) : signI (a - b) = cmpI a b := by
  unfold signI cmpI
  split
  · rw [if_neg (by omega), if_neg (by omega)]
  · split
    · rw [if_pos (by omega)]
    · rw [if_neg (by omega), if_pos (by omega)]
theorem cmpI_neg {a b : Nat} (h : cmpI (a : Int) (b : Int) < 0) : a < b := by
  unfold cmpI at h
  split at h
  · omega
  · split at h <;> omega
theorem cmpI_nn {a b : Nat} (h : ¬ cmpI (a : Int) (b : Int) < 0) : b ≤ a := by
  unfold cmpI at h
  split at h
  · omega
  · omega
theorem word_both {a b : List Nat} (ha : Dig a) (h : (wordB a && wordB b) = true) : wordV a = val a ∧ wordV b = val b ∧ val a < 1000000000000000000 := by
  unfold wordB at h
  rw [Bool.and_eq_true, decide_eq_true_eq, decide_eq_true_eq] at h
  unfold wordV
  rw [if_pos h.1, if_pos h.2]
  exact ⟨rfl, rfl, val_len2 ha h.1⟩
theorem val_pos_len {b : List Nat} (h : 0 < val b) : 0 < b.length := by
  rcases b with _ | ⟨d, l⟩
  · rw [val_nil] at h; omega
  · simp
theorem len_pos_val {b : List Nat} (hb : Cano b) (h : 0 < b.length) : 0 < val b := by
  have h1 := val_top hb.1 h
  have h2 := top_pos hb h
  have h3 := Nat.mul_le_mul_right (pw (b.length - 1)) h2.1
  have h4 := pw_pos (b.length - 1)
  rw [Nat.succ_mul] at h3
  omega
theorem val_len1 {b : List Nat} (h : b.length = 1) : val b = b.getD 0 0 := by
  rcases b with _ | ⟨d, _ | ⟨e, l⟩⟩
  · simp at h
  · simp [val]
  · simp at h
theorem len_quo (l : List Nat) (hl : Cano l) (n : Nat) : (ofNat (val l / n)).length ≤ l.length := by
  have h1 := ofNat_len_mono (Nat.div_le_self (val l) n)
  rwa [← can_eq hl] at h1
theorem len_rem (l : List Nat) (hl : Cano l) (n : Nat) : (ofNat (val l % n)).length ≤ l.length := by
  have h1 := ofNat_len_mono (Nat.mod_le (val l) n)
  rwa [← can_eq hl] at h1
theorem gcd_toZ (x y : RInt) : Nat.gcd (val (grpI x)) (val (grpI y)) = Int.gcd (toZ x) (toZ y) := by
  unfold Int.gcd; rw [toZ_natAbs, toZ_natAbs]
theorem mkI_false (n : Nat) : mkI false n = ofZ (n : Int) := mkI_eq false n
theorem r_made_end {neg : Bool} {l : List Nat} {k : Nat} (hd : Dig l) (hk : k ≤ l.length) (hv : val (l.take k) = val l) (h : (decide ((0 : Int) < ((k : Nat) : Int)) && (((l.getD (k - 1) 0 : Nat) : Int) == 0)) = false) : mkI neg (val l) = ⟨neg && decide ((0 : Int) < ((k : Nat) : Int)), l.take k⟩ := by
  have hc : Cano (l.take k) := by
    refine ⟨hd.take k, ?_⟩
    unfold Top
    rw [List.length_take, Nat.min_eq_left hk]
    rcases Nat.eq_zero_or_pos k with h0 | h0
    · subst h0; simp
    · rw [Bool.and_eq_false_iff] at h
      rcases h with h | h
      · rw [decide_eq_false_iff_not] at h; omega
      · have h1 := ne_of_beq_false h
        have h6 : k - 1 < l.length := by omega
        simp [List.getD, List.getElem?_eq_getElem h6, List.getElem?_take_of_lt (show k - 1 < k by omega)] at h1 ⊢
        exact h1
  unfold mkI
  rw [← hv, ← can_eq hc]
  congr 1
  congr 1
  rcases Nat.eq_zero_or_pos k with h0 | h0
  · subst h0; simp [val]
  · have h1 : 0 < val (l.take k) := len_pos_val hc (by rw [List.length_take]; omega)
    have h2 : (val (l.take k) != 0) = true := bne_iff_ne.2 (by omega)
    rw [h2]; symm; exact decide_eq_true (by omega)
theorem r_made_step {l : List Nat} {k : Nat} (hk : k ≤ l.length) (hv : val (l.take k) = val l) (h : (decide ((0 : Int) < ((k : Nat) : Int)) && (((l.getD (k - 1) 0 : Nat) : Int) == 0)) = true) : 0 < k ∧ val (l.take (k - 1)) = val l := by
  rw [Bool.and_eq_true, decide_eq_true_eq, beq_iff_eq] at h
  have h0 : 0 < k := by omega
  refine ⟨h0, ?_⟩
  have h1 := val_take_succ l (k - 1)
  rw [show k - 1 + 1 = k by omega, show l.getD (k - 1) 0 = 0 by omega] at h1
  omega
theorem validI_big {x : RInt} {i : Nat} (h : i < x.gs.length) (hb : ¬ x.gs.getD i 0 < 1000000000) : validI x = false := by
  rcases hv : validI x with _ | _
  · rfl
  · exact absurd ((validI_iff.1 hv).1.1.getD i) hb
theorem validI_nil {x : RInt} (h : x.gs.length = 0) : validI x = !x.neg := by unfold validI; rw [if_pos (by omega)]
theorem validI_dig {x : RInt} (hd : Dig x.gs) (h : x.gs.length ≠ 0) : validI x = (((x.gs.getD (x.gs.length - 1) 0 : Nat) : Int) != 0) := by
  unfold validI
  rw [if_neg (by omega), firstBig_neg hd]
  simp
theorem push_step {o : List Nat} {i s : Nat} (hl : o.length = i) : val (o ++ [s % 1000000000]) + pw (i + 1) * (s / 1000000000) = val o + pw i * s := by
  rw [val_append, hl, val_one, pw_succ]
  have h := Nat.mod_add_div s 1000000000
  have h2 : pw i * s = pw i * (s % 1000000000) + pw i * (1000000000 * (s / 1000000000)) := by rw [← Nat.mul_add, h]
  rw [h2, Nat.mul_comm 1000000000 (pw i), Nat.mul_assoc]
  omega
theorem dig_push {o : List Nat} (h : Dig o) {d : Nat} (hd : d < 1000000000) : Dig (o ++ [d]) := dig_append.2 ⟨h, dig_cons.2 ⟨hd, dig_nil⟩⟩
theorem rplus_step {a b o : List Nat} {i c s : Nat} (hl : o.length = i) (hv : val o + pw i * c = val (a.take i) + val (b.take i)) (hs : s = a.getD i 0 + b.getD i 0 + c) :
    val (o ++ [s % 1000000000]) + pw (i + 1) * (s / 1000000000) = val (a.take (i + 1)) + val (b.take (i + 1)) := by
  rw [push_step hl, val_take_succ, val_take_succ, hs, Nat.mul_add, Nat.mul_add]
  omega
theorem rminus_step {a b o : List Nat} {i c s : Nat} (hl : o.length = i) (hv : val o + val (b.take i) = val (a.take i) + pw i * c) (hs : s + b.getD i 0 + c = 1000000000 + a.getD i 0) (h1 : s / 1000000000 ≤ 1) :
    val (o ++ [s % 1000000000]) + val (b.take (i + 1)) = val (a.take (i + 1)) + pw (i + 1) * (1 - s / 1000000000) := by
  have h := push_step (o := o) (i := i) (s := s) hl
  have h2 : pw (i + 1) * (1 - s / 1000000000) + pw (i + 1) * (s / 1000000000) = pw (i + 1) := by
    rw [← Nat.mul_add, Nat.sub_add_cancel h1, Nat.mul_one]
  have h3 := congrArg (pw i * ·) hs
  simp only [Nat.mul_add] at h3
  rw [val_take_succ, val_take_succ]
  rw [pw_succ] at h h2 ⊢
  rw [Nat.mul_comm (pw i) 1000000000] at h3
  omega
theorem rscaled_step {a o : List Nat} {i c d s : Nat} (hl : o.length = i) (hv : val o + pw i * c = val (a.take i) * d) (hs : s = a.getD i 0 * d + c) :
    val (o ++ [s % 1000000000]) + pw (i + 1) * (s / 1000000000) = val (a.take (i + 1)) * d := by
  rw [push_step hl, val_take_succ, hs, Nat.mul_add, Nat.add_mul, Nat.mul_assoc]
  omega
theorem val_push {o : List Nat} {i c : Nat} (hl : o.length = i) : val (o ++ [c]) = val o + pw i * c := by rw [val_append, hl, val_one]
theorem take_all {a : List Nat} {i : Nat} (h : a.length ≤ i) : a.take i = a := List.take_of_length_le h
theorem rminus_end {a b o : List Nat} {i c : Nat} (hda : Dig a) (hb : Dig b) (hd : Dig o) (hi : i = a.length) (hl : o.length = i) (hba : val b ≤ val a) (hv : val o + val (b.take i) = val (a.take i) + pw i * c) : val o = val a - val b := by
  have h1 : val (b.take i) = val b := val_take_of_lt (by rw [hi]; exact Nat.lt_of_le_of_lt hba (val_lt hda))
  rw [h1, hi, List.take_length] at hv
  have h2 := val_lt hd
  rw [hl, hi] at h2
  rcases Nat.eq_zero_or_pos c with h3 | h3
  · subst h3; omega
  · have := Nat.mul_le_mul_left (pw a.length) h3
    omega
theorem sgn_ofZ (X : Int) : sgn (ofZ X).neg X.natAbs = X := by
  rw [ofZ_neg]; unfold sgn
  by_cases h : X < 0
  · simp [h]; omega
  · simp [h]; omega
theorem rneg_eq (X : Int) : mkI (!(ofZ X).neg) (val (ofNat X.natAbs)) = ofZ (-X) := by
  rw [mkI_eq, ofNat_val]
  congr 1
  have h := sgn_ofZ X
  unfold sgn at h ⊢
  cases hn : (ofZ X).neg <;> simp [hn] at h ⊢ <;> omega
theorem rsum_same {X Y : Int} (h : (ofZ X).neg = (ofZ Y).neg) : mkI (ofZ X).neg (val (ofNat (val (ofNat X.natAbs) + val (ofNat Y.natAbs)))) = ofZ (X + Y) := by
  rw [sum_same h, ofNat_val, ofNat_val, sgn_ofZ, sgn_ofZ]
theorem rsum_first {X Y : Int} (h : (ofZ X).neg ≠ (ofZ Y).neg) (hn : val (ofNat Y.natAbs) ≤ val (ofNat X.natAbs)) : mkI (ofZ X).neg (val (ofNat (val (ofNat X.natAbs) - val (ofNat Y.natAbs)))) = ofZ (X + Y) := by
  rw [sum_first h hn, ofNat_val, ofNat_val, sgn_ofZ, sgn_ofZ]
theorem rsum_second {X Y : Int} (h : (ofZ X).neg ≠ (ofZ Y).neg) (hn : val (ofNat X.natAbs) ≤ val (ofNat Y.natAbs)) : mkI (ofZ Y).neg (val (ofNat (val (ofNat Y.natAbs) - val (ofNat X.natAbs)))) = ofZ (X + Y) := by
  rw [sum_second h hn, ofNat_val, ofNat_val, sgn_ofZ, sgn_ofZ]
theorem rmul_eq (X Y : Int) : mkI (!((ofZ X).neg == (ofZ Y).neg)) (val (ofNat X.natAbs) * val (ofNat Y.natAbs)) = ofZ (X * Y) := by
  have h := mul_eq (b := (ofZ X).neg) (c := (ofZ Y).neg) (val (ofNat X.natAbs)) (val (ofNat Y.natAbs))
  rw [ofNat_val (val (ofNat X.natAbs) * val (ofNat Y.natAbs))] at h
  rw [h, ofNat_val, ofNat_val, sgn_ofZ, sgn_ofZ]
theorem rsign_zero {X : Int} (h : (((ofNat X.natAbs).length : Nat) : Int) = 0) : signI X = 0 := by
  have h1 : X.natAbs = 0 := ofNat_nil.1 (List.eq_nil_of_length_eq_zero (by omega))
  have h2 : X = 0 := by omega
  subst h2; rfl
theorem rsign_ne {X : Int} (h : (((ofNat X.natAbs).length : Nat) : Int) ≠ 0) : X ≠ 0 := fun e => h (by subst e; simp [ofNat_zero])
theorem rsign_neg {X : Int} (h : (((ofNat X.natAbs).length : Nat) : Int) ≠ 0) (hn : (ofZ X).neg = true) : signI X = -1 := by
  have h1 := rsign_ne h
  rw [ofZ_neg, decide_eq_true_eq] at hn
  unfold signI; rw [if_neg h1, if_pos hn]
theorem rsign_pos {X : Int} (h : (((ofNat X.natAbs).length : Nat) : Int) ≠ 0) (hn : (ofZ X).neg = false) : signI X = 1 := by
  have h1 := rsign_ne h
  rw [ofZ_neg, decide_eq_false_iff_not] at hn
  unfold signI; rw [if_neg h1, if_neg hn]
theorem gs_val (x : RInt) : (ofZ (toZ x)).gs.length ≤ x.gs.length := toZ_len x
theorem gs_val2 (x : RInt) : (ofNat (toZ x).natAbs).length ≤ x.gs.length := toZ_len x
theorem gs_neg (x : RInt) : (ofZ (-toZ x)).gs.length ≤ x.gs.length := by rw [ofZ_len, lenZ_neg]; exact toZ_len x
theorem gs_sub (x y : RInt) : (ofZ (toZ x - toZ y)).gs.length ≤ max x.gs.length y.gs.length + 1 := by
  rw [Int.sub_eq_add_neg, ofZ_len]; exact lenZ_add (toZ_len x) (by rw [lenZ_neg]; exact toZ_len y) (Nat.le_refl _)
theorem gs_mul (x y : RInt) : (ofZ (toZ x * toZ y)).gs.length ≤ x.gs.length + y.gs.length := lenZ_mul (toZ_len x) (toZ_len y) (Nat.le_refl _)
theorem val_pair {l : List Nat} (h : l.length ≤ 2) : val l = l.getD 1 0 * 1000000000 + l.getD 0 0 := by
  rcases l with _ | ⟨d, _ | ⟨e, _ | ⟨f, l⟩⟩⟩
  · rfl
  · simp [val]
  · simp [val]; omega
  · simp at h
theorem rshift_val {q : List Nat} (u : List Nat) {i V r : Nat} (h : val (u.drop (i + 1)) = V * val (q.drop (i + 1)) + r) : val (u.drop i) = V * (1000000000 * val (q.drop (i + 1))) + (u.getD i 0 + 1000000000 * r) := by
  rw [val_drop_one u i, h, Nat.mul_left_comm]
  rw [Nat.mul_add]; omega
theorem rguess {v : List Nat} {W n : Nat} (hv : Dig v) (hn : v.length = n) (h1 : 1 ≤ n) (hW : W < 1000000000 * val v) :
    ((ofNat W).getD n 0 * 1000000000 + (ofNat W).getD (n - 1) 0) / (v.getD (n - 1) 0 + 1) * val v ≤ W ∧ ((ofNat W).getD n 0 * 1000000000 + (ofNat W).getD (n - 1) 0) / (v.getD (n - 1) 0 + 1) < 1000000000 := by
  have hw := val_lt hv
  have ht := val_top hv (by omega)
  rw [hn] at hw ht
  have hp := pw_pos (n - 1)
  have e1 := val_drop_split (ofNat W) 0 (n - 1)
  have e2 := val_drop_one (ofNat W) (n - 1)
  have e3 := val_drop_one (ofNat W) n
  have e5 : W < pw (n + 1) := by rw [pw_succ]; omega
  have e4 : (ofNat W).drop (n + 1) = [] := List.drop_eq_nil_of_le (ofNat_length_le e5)
  rw [e4, val_nil] at e3
  rw [show n - 1 + 1 = n by omega] at e2
  rw [List.drop_zero, ofNat_val, Nat.zero_add] at e1
  generalize (ofNat W).getD n 0 = t1 at *
  generalize (ofNat W).getD (n - 1) 0 = t0 at *
  generalize v.getD (n - 1) 0 = v1 at *
  have e6 : pw (n - 1) * (t1 * 1000000000 + t0) ≤ W := by
    have : t1 * 1000000000 + t0 = val ((ofNat W).drop (n - 1)) := by omega
    rw [this]; omega
  have e7 := Nat.div_mul_le_self (t1 * 1000000000 + t0) (v1 + 1)
  generalize (t1 * 1000000000 + t0) / (v1 + 1) = G at *
  have e8 : G * val v ≤ W := by
    refine Nat.le_trans (Nat.mul_le_mul_left G (Nat.le_of_lt ht.2)) (Nat.le_trans ?_ e6)
    rw [← Nat.mul_assoc, Nat.mul_comm (pw (n - 1))]
    exact Nat.mul_le_mul_right _ e7
  refine ⟨e8, ?_⟩
  have e9 : G * val v < 1000000000 * val v := by omega
  exact Nat.lt_of_mul_lt_mul_right e9
theorem rquo_lt {G V r W : Nat} (h : V * G + r = W) (hW : W < 1000000000 * V) : G < 1000000000 := by
  have h1 : G * V < 1000000000 * V := by rw [Nat.mul_comm G V]; omega
  exact Nat.lt_of_mul_lt_mul_right h1
theorem rround {u q : List Nat} {V G r i : Nat} (hi : i < q.length) (h : val (u.drop i) = V * (1000000000 * val (q.drop (i + 1))) + (V * G + r)) : val (u.drop i) = V * val ((q.set i G).drop i) + r := by
  rw [h, val_drop_set q i G hi, Nat.mul_add]; omega
theorem split_dig {o : List Nat} {m n : Nat} (h : o ++ ofNat m = ofNat n) (hm : ¬ (0 : Int) < ((m : Nat) : Int)) : Dig o := by
  rw [← split_end h hm]; exact ofNat_dig n
theorem split_val {o : List Nat} {m n : Nat} (h : o ++ ofNat m = ofNat n) (hm : ¬ (0 : Int) < ((m : Nat) : Int)) : val o = n := by
  rw [← split_end h hm]; exact ofNat_val n
theorem ofZ_zero : ofZ 0 = ⟨false, []⟩ := by unfold ofZ mkI; simp [ofNat_zero]
theorem rshort_step {a q : List Nat} {d rest i n : Nat} (hi : i < q.length) (hv : val (a.drop (i + 1)) = val (q.drop (i + 1)) * d + rest) (hn : n = rest * 1000000000 + a.getD i 0) :
    val (a.drop i) = val ((q.set i (n / d)).drop i) * d + n % d := by
  rw [val_drop_one a i, hv, val_drop_set q i _ hi]
  have h3 := Nat.div_add_mod n d
  rw [Nat.add_mul, Nat.mul_comm (n / d) d]
  have h4 : 1000000000 * val (q.drop (i + 1)) * d = 1000000000 * (val (q.drop (i + 1)) * d) := Nat.mul_assoc _ _ _
  omega
theorem fdiv_unique {x y q r : Int} (h : r + y * q = x) (hr : (0 ≤ r ∧ r < y) ∨ (y < r ∧ r ≤ 0)) : x.fdiv y = q ∧ x.fmod y = r := by
  rcases hr with ⟨h1, h2⟩ | ⟨h1, h2⟩
  · have hy : 0 < y := by omega
    rw [Int.fdiv_eq_ediv_of_nonneg _ (by omega), Int.fmod_eq_emod_of_nonneg _ (by omega)]
    exact (Int.ediv_emod_unique hy).2 ⟨h, h1, h2⟩
  · have hy : 0 < -y := by omega
    have h3 : (-x).fdiv (-y) = q ∧ (-x).fmod (-y) = -r := by
      rw [Int.fdiv_eq_ediv_of_nonneg _ (by omega), Int.fmod_eq_emod_of_nonneg _ (by omega)]
      refine (Int.ediv_emod_unique hy).2 ⟨?_, by omega, by omega⟩
      rw [← h, Int.neg_mul]; omega
    rw [Int.neg_fdiv_neg, Int.neg_fmod_neg] at h3
    exact ⟨h3.1, by omega⟩
theorem div_same {b c : Bool} {m n : Nat} (hn : 0 < n) (h : b = c ∨ m % n = 0) :
    ofZ ((sgn b m).fdiv (sgn c n)) = mkI (!(b == c)) (m / n) ∧ ofZ ((sgn b m).fmod (sgn c n)) = mkI c (m % n) := by
  have h1 : ((m % n : Nat) : Int) + (n : Int) * ((m / n : Nat) : Int) = (m : Int) := by
    have := Nat.mod_add_div m n; exact_mod_cast this
  have h2 := Nat.mod_lt m hn
  rw [mkI_eq, mkI_eq]
  have key : (sgn b m).fdiv (sgn c n) = sgn (!(b == c)) (m / n) ∧ (sgn b m).fmod (sgn c n) = sgn c (m % n) := by
    have h3 : ((m % n : Nat) : Int) = 0 ∨ b = c := by rcases h with h | h; exact .inr h; exact .inl (by omega)
    generalize m / n = q at *
    generalize m % n = r at *
    refine fdiv_unique ?_ ?_
    · cases b <;> cases c
      · show (r : Int) + (n : Int) * (q : Int) = (m : Int); exact h1
      · show -(r : Int) + (-(n : Int)) * (-(q : Int)) = (m : Int); rw [Int.neg_mul_neg]; rcases h3 with h3 | h3; omega; cases h3
      · show (r : Int) + (n : Int) * (-(q : Int)) = -(m : Int); rw [Int.mul_neg]; rcases h3 with h3 | h3; omega; cases h3
      · show -(r : Int) + (-(n : Int)) * (q : Int) = -(m : Int); rw [Int.neg_mul]; omega
    · cases c
      · left; show 0 ≤ (r : Int) ∧ (r : Int) < (n : Int); omega
      · right; show -(n : Int) < -(r : Int) ∧ -(r : Int) ≤ 0; omega
  rw [key.1, key.2]
  exact ⟨rfl, rfl⟩
theorem div_other {b c : Bool} {m n : Nat} (hn : 0 < n) (h : b ≠ c) (hr : 0 < m % n) :
    ofZ ((sgn b m).fdiv (sgn c n)) = mkI (!(b == c)) (m / n + 1) ∧ ofZ ((sgn b m).fmod (sgn c n)) = mkI c (n - m % n) := by
  have h1 : ((m % n : Nat) : Int) + (n : Int) * ((m / n : Nat) : Int) = (m : Int) := by
    have := Nat.mod_add_div m n; exact_mod_cast this
  have h2 := Nat.mod_lt m hn
  rw [mkI_eq, mkI_eq]
  have key : (sgn b m).fdiv (sgn c n) = sgn (!(b == c)) (m / n + 1) ∧ (sgn b m).fmod (sgn c n) = sgn c (n - m % n) := by
    have e1 : (n : Int) * (((m / n + 1 : Nat)) : Int) = (n : Int) * ((m / n : Nat) : Int) + n := by
      rw [Int.natCast_add, Int.mul_add]; simp
    generalize m / n = q at *
    generalize m % n = r at *
    refine fdiv_unique ?_ ?_
    · cases b <;> cases c
      · exact absurd rfl h
      · show -((n - r : Nat) : Int) + (-(n : Int)) * (-((q + 1 : Nat) : Int)) = (m : Int); rw [Int.neg_mul_neg, e1]; omega
      · show ((n - r : Nat) : Int) + (n : Int) * (-((q + 1 : Nat) : Int)) = -(m : Int); rw [Int.mul_neg, e1]; omega
      · exact absurd rfl h
    · cases c
      · left; show 0 ≤ ((n - r : Nat) : Int) ∧ ((n - r : Nat) : Int) < (n : Int); omega
      · right; show -(n : Int) < -((n - r : Nat) : Int) ∧ -((n - r : Nat) : Int) ≤ 0; omega
  rw [key.1, key.2]
  exact ⟨rfl, rfl⟩
theorem r_div_same {X Y : Int} (hn : 0 < Y.natAbs) (h : (ofZ X).neg = (ofZ Y).neg ∨ ¬ (0 : Int) < (((ofNat (val (ofNat X.natAbs) % val (ofNat Y.natAbs))).length : Nat) : Int)) :
    mkI (!((ofZ X).neg == (ofZ Y).neg)) (val (ofNat (val (ofNat X.natAbs) / val (ofNat Y.natAbs)))) = ofZ (X.fdiv Y) := by
  rw [ofNat_val, ofNat_val, ofNat_val]
  rw [ofNat_val, ofNat_val] at h
  have h1 := (div_same (b := (ofZ X).neg) (c := (ofZ Y).neg) (m := X.natAbs) (n := Y.natAbs) hn (by
    rcases h with h | h
    · exact .inl h
    · right
      rcases Nat.eq_zero_or_pos (X.natAbs % Y.natAbs) with h2 | h2
      · exact h2
      · have := ofNat_len_pos h2; omega)).1
  rw [sgn_ofZ, sgn_ofZ] at h1
  exact h1.symm
theorem r_div_other {X Y : Int} (hn : 0 < Y.natAbs) (h : (ofZ X).neg ≠ (ofZ Y).neg ∧ (0 : Int) < (((ofNat (val (ofNat X.natAbs) % val (ofNat Y.natAbs))).length : Nat) : Int)) :
    ofZ (toZ (mkI (!((ofZ X).neg == (ofZ Y).neg)) (val (ofNat (val (ofNat X.natAbs) / val (ofNat Y.natAbs))))) - toZ (ofZ 1)) = ofZ (X.fdiv Y) := by
  obtain ⟨h, h0⟩ := h
  rw [ofNat_val, ofNat_val] at h0
  have h2 : 0 < X.natAbs % Y.natAbs := by
    rcases Nat.eq_zero_or_pos (X.natAbs % Y.natAbs) with h3 | h3
    · rw [h3, ofNat_zero] at h0; simp at h0
    · exact h3
  have h1 := (div_other hn h h2).1
  rw [sgn_ofZ, sgn_ofZ] at h1
  rw [h1, ofNat_val, ofNat_val, ofNat_val, mkI_eq, mkI_eq, toZ_ofZ, toZ_ofZ]
  have hb : (!((ofZ X).neg == (ofZ Y).neg)) = true := by rw [Bool.not_eq_true', beq_eq_false_iff_ne]; exact h
  rw [hb]
  congr 1
  unfold sgn
  rw [if_pos rfl, if_pos rfl]; omega
theorem r_rem_eq (X Y : Int) : ofZ (toZ (ofZ X) - toZ (ofZ (toZ (ofZ (X.fdiv Y)) * toZ (ofZ Y)))) = ofZ (X.fmod Y) := by
  rw [toZ_ofZ, toZ_ofZ, toZ_ofZ, toZ_ofZ, Int.fmod_def, Int.mul_comm]
def ofQ (q : Rat) : RRat := ⟨ofZ q.num, ofZ q.den⟩
def validR (x : RRat) : Bool := validI x.num && (validI x.den && (decide (0 < toZ x.den) && (Int.gcd (toZ x.num) (toZ x.den) == 1)))
def toQ (x : RRat) : Rat := if validR x = true then Rat.divInt (toZ x.num) (toZ x.den) else 0
theorem validR_ofQ (q : Rat) : validR (ofQ q) = true := by
  unfold validR ofQ
  simp only [validI_ofZ, toZ_ofZ, Bool.true_and, Bool.and_eq_true, decide_eq_true_eq, beq_iff_eq]
  refine ⟨by have := q.den_pos; omega, ?_⟩
  have := q.reduced
  unfold Int.gcd
  rw [Int.natAbs_natCast]
  exact this
theorem toQ_ofQ (q : Rat) : toQ (ofQ q) = q := by
  unfold toQ
  rw [if_pos (validR_ofQ q)]
  unfold ofQ
  simp only [toZ_ofZ]
  exact Rat.num_divInt_den q
theorem ofQ_toQ {x : RRat} (h : validR x = true) : ofQ (toQ x) = x := by
  unfold toQ
  rw [if_pos h]
  unfold validR at h
  simp only [Bool.and_eq_true, decide_eq_true_eq, beq_iff_eq] at h
  obtain ⟨h1, h2, h3, h4⟩ := h
  have e1 : (Rat.divInt (toZ x.num) (toZ x.den)).num = toZ x.num := by
    rw [Rat.num_divInt, Int.gcd_comm, h4, Int.sign_eq_one_of_pos h3]; simp
  have e2 : (((Rat.divInt (toZ x.num) (toZ x.den)).den : Nat) : Int) = toZ x.den := by
    rw [Rat.den_divInt, if_neg (by omega), Int.gcd_comm, h4]; simp; omega
  unfold ofQ
  rw [e1, e2, ofZ_toZ h1, ofZ_toZ h2]
theorem toQ_bad {x : RRat} (h : validR x = false) : toQ x = 0 := by unfold toQ; rw [if_neg (by rw [h]; simp)]
def QL (q : Rat) (n : Nat) : Prop := lenZ q.num ≤ n ∧ lenZ q.den ≤ n
theorem ql_up {q : Rat} {m n : Nat} (h : QL q m) (hm : m ≤ n) : QL q n := ⟨Nat.le_trans h.1 hm, Nat.le_trans h.2 hm⟩
theorem ql_divInt {a b : Int} {n : Nat} (ha : lenZ a ≤ n) (hb : lenZ b ≤ n) (h1 : 1 ≤ n) : QL (Rat.divInt a b) n := by
  constructor
  · refine Nat.le_trans ?_ ha
    refine lenZ_of_le ?_
    rw [Rat.num_divInt]
    refine Nat.le_trans (Int.natAbs_ediv_le_natAbs _ _) ?_
    rw [Int.natAbs_mul]
    rcases Int.lt_trichotomy b 0 with h | h | h
    · rw [Int.sign_eq_neg_one_of_neg h]; simp
    · rw [h]; simp
    · rw [Int.sign_eq_one_of_pos h]; simp
  · rw [Rat.den_divInt]
    split
    · exact Nat.le_trans (by unfold lenZ; simp [ofNat_pos, ofNat_zero]) h1
    · refine Nat.le_trans ?_ hb
      refine lenZ_of_le ?_
      rw [Int.natAbs_natCast]
      exact Nat.div_le_self _ _
theorem add_divInt (a b : Rat) : a + b = Rat.divInt (a.num * b.den + b.num * a.den) (a.den * b.den) := by
  rw [Rat.add_def', ← Rat.divInt_ofNat, Int.natCast_mul]
theorem mul_divInt (a b : Rat) : a * b = Rat.divInt (a.num * b.num) (a.den * b.den) := by
  rw [Rat.mul_def', ← Rat.divInt_ofNat, Int.natCast_mul]
theorem div_divInt (a b : Rat) : a / b = Rat.divInt (a.num * b.den) (a.den * b.num) := by
  rw [Rat.div_def, Rat.inv_def]
  conv => lhs; rw [← Rat.num_divInt_den a]
  rw [Rat.divInt_mul_divInt]
theorem ql_add {a b : Rat} {m n k : Nat} (ha : QL a m) (hb : QL b n) (h : m + n + 1 ≤ k) : QL (a + b) k := by
  rw [add_divInt]
  refine ql_divInt (lenZ_add (lenZ_mul ha.1 hb.2 (Nat.le_refl _)) (lenZ_mul hb.1 ha.2 (Nat.le_refl _)) (by omega)) (lenZ_mul ha.2 hb.2 (by omega)) (by omega)
theorem ql_neg {a : Rat} {m : Nat} (ha : QL a m) : QL (-a) m := ⟨by rw [Rat.neg_num, lenZ_neg]; exact ha.1, by rw [Rat.neg_den]; exact ha.2⟩
theorem ql_sub {a b : Rat} {m n k : Nat} (ha : QL a m) (hb : QL b n) (h : m + n + 1 ≤ k) : QL (a - b) k := by
  rw [Rat.sub_eq_add_neg]; exact ql_add ha (ql_neg hb) h
theorem ql_pos {a : Rat} {m : Nat} (ha : QL a m) : 1 ≤ m := by
  have h1 := lenZ_le.1 ha.2
  rcases Nat.eq_zero_or_pos m with h | h
  · subst h; rw [pw_zero] at h1; have := a.den_pos; omega
  · exact h
theorem ql_mul {a b : Rat} {m n k : Nat} (ha : QL a m) (hb : QL b n) (h : m + n ≤ k) : QL (a * b) k := by
  have h1 := ql_pos ha
  rw [mul_divInt]
  exact ql_divInt (lenZ_mul ha.1 hb.1 h) (lenZ_mul ha.2 hb.2 h) (by omega)
theorem ql_div {a b : Rat} {m n k : Nat} (ha : QL a m) (hb : QL b n) (h : m + n ≤ k) : QL (a / b) k := by
  have h1 := ql_pos ha
  rw [div_divInt]
  exact ql_divInt (lenZ_mul ha.1 hb.2 h) (lenZ_mul ha.2 hb.1 h) (by omega)
theorem lenZ_one {z : Int} (h : z.natAbs < 1000000000) : lenZ z ≤ 1 := lenZ_le.2 (by rw [show (1 : Nat) = 0 + 1 from rfl, pw_succ, pw_zero]; omega)
theorem ql_int {z : Int} {n : Nat} (h : lenZ z ≤ n) (h1 : 1 ≤ n) : QL (z : Rat) n := ⟨h, Nat.le_trans (lenZ_one (by simp)) h1⟩
theorem ql_zero : QL 0 1 := ⟨lenZ_one (by simp), lenZ_one (by simp)⟩
theorem ql_ite {p : Prop} [Decidable p] {a b : Rat} {n : Nat} (ha : QL a n) (hb : QL b n) : QL (if p then a else b) n := by split <;> assumption
structure QOk (x : RRat) (q : Rat) (n : Nat) : Prop where
  v : toQ x = q
  p : 1 ≤ n
  n1 : x.num.gs.length ≤ n
  n2 : x.den.gs.length ≤ n
theorem QOk.ql {x : RRat} {q : Rat} {n : Nat} (h : QOk x q n) : QL q n := by
  rw [← h.v]
  by_cases hv : validR x = true
  · unfold toQ; rw [if_pos hv]
    exact ql_divInt (Nat.le_trans (toZ_len _) h.n1) (Nat.le_trans (toZ_len _) h.n2) h.p
  · unfold toQ; rw [if_neg hv]
    exact ql_up ql_zero h.p
theorem qok_of {q : Rat} {n : Nat} (h : QL q n) : QOk (ofQ q) q n := ⟨toQ_ofQ q, ql_pos h, h.1, h.2⟩
theorem qok_num {q : Rat} {n : Nat} (h : QL q n) : IOk (ofQ q).num q.num n := iok_of h.1
theorem qok_den {q : Rat} {n : Nat} (h : QL q n) : IOk (ofQ q).den q.den n := iok_of h.2
theorem qok_up {x : RRat} {a : Rat} {m n : Nat} (hx : QOk x a m) (h : m ≤ n) : QOk x a n := ⟨hx.v, Nat.le_trans hx.p h, Nat.le_trans hx.n1 h, Nat.le_trans hx.n2 h⟩
theorem divInt_parts {a b : Int} (hb : 0 < b) : ofQ (Rat.divInt a b) = ⟨ofZ (a.fdiv (Int.gcd a b)), ofZ (b.fdiv (Int.gcd a b))⟩ := by
  unfold ofQ
  have e1 : (Rat.divInt a b).num = a.fdiv (Int.gcd a b) := by
    rw [Rat.num_divInt, Int.sign_eq_one_of_pos hb, Int.one_mul, Int.gcd_comm, Int.fdiv_eq_ediv_of_nonneg _ (by omega)]
  have e2 : (((Rat.divInt a b).den : Nat) : Int) = b.fdiv (Int.gcd a b) := by
    rw [Rat.den_divInt, if_neg (by omega), Int.gcd_comm, Int.fdiv_eq_ediv_of_nonneg _ (by omega), Int.natCast_ediv]
    congr 1; omega
  rw [e1, e2]
def cmpQ (a b : Rat) : Int := if a < b then -1 else if b < a then 1 else 0
def signQ (a : Rat) : Int := signI a.num
theorem signQ_sub (a b : Rat) : signQ (a - b) = cmpQ a b := by
  unfold signQ signI cmpQ
  have h1 : (a - b).num = 0 ↔ a - b = 0 := Rat.num_eq_zero
  have h2 : 0 ≤ (a - b).num ↔ 0 ≤ a - b := Rat.num_nonneg
  have h3 : b ≤ a ↔ 0 ≤ a - b := Rat.le_iff_sub_nonneg b a
  by_cases hlt : a < b
  · have h4 : ¬ 0 ≤ (a - b).num := fun h => Rat.not_le.2 hlt (h3.2 (h2.1 h))
    rw [if_neg (by omega), if_pos (by omega), if_pos hlt]
  · have h4 : 0 ≤ (a - b).num := h2.2 (h3.1 (Rat.not_lt.1 hlt))
    rw [if_neg hlt]
    by_cases hgt : b < a
    · have h5 : (a - b).num ≠ 0 := fun h => by
        have h6 := h1.1 h
        have h7 := (Rat.lt_iff_sub_pos b a).1 hgt
        rw [h6] at h7; exact Rat.lt_irrefl h7
      rw [if_neg h5, if_neg (by omega), if_pos hgt]
    · have h5 : a = b := Rat.le_antisymm (Rat.not_lt.1 hgt) (Rat.not_lt.1 hlt)
      have h6 : (a - b).num = 0 := h1.2 (by rw [h5]; exact Rat.sub_self)
      rw [if_pos h6, if_neg hgt]
theorem copied_eq {x : RRat} (h : validR x = true) : (⟨ofZ (-(-toZ x.num)), ofZ (-(-toZ x.den))⟩ : RRat) = ofQ (toQ x) := by
  have h0 := h
  unfold validR at h
  simp only [Bool.and_eq_true] at h
  rw [ofQ_toQ h0, Int.neg_neg, Int.neg_neg, ofZ_toZ h.1, ofZ_toZ h.2.1]
theorem red_neg {a b : Int} (hb : b < 0) : (⟨ofZ ((-a).fdiv (Int.gcd (-a) (-b))), ofZ ((-b).fdiv (Int.gcd (-a) (-b)))⟩ : RRat) = ofQ (Rat.divInt a b) := by
  rw [← divInt_parts (by omega), Rat.neg_divInt_neg]
theorem red_pos {a b : Int} (hb : ¬ b < 0) (h0 : b ≠ 0) : (⟨ofZ (a.fdiv (Int.gcd a b)), ofZ (b.fdiv (Int.gcd a b))⟩ : RRat) = ofQ (Rat.divInt a b) := (divInt_parts (by omega)).symm
theorem gcd_ne {a b : Int} (hb : b ≠ 0) : ((Int.gcd a b : Nat) : Int) ≠ 0 := by
  intro h
  have h1 : Int.gcd a b = 0 := by omega
  rw [Int.gcd_eq_zero_iff] at h1
  exact hb h1.2
theorem lenZ_gcd {a b : Int} {n : Nat} (hb : b ≠ 0) (h : lenZ b ≤ n) : lenZ ((Int.gcd a b : Nat) : Int) ≤ n := by
  refine Nat.le_trans (lenZ_of_le ?_) h
  rw [Int.natAbs_natCast]
  exact Nat.le_of_dvd (by omega) (Int.gcd_dvd_natAbs_right a b)
theorem signI_le {z : Int} : signI z ≤ 0 ↔ z ≤ 0 := by
  rcases signI_range z with ⟨h1, h2⟩ | ⟨h1, h2⟩ | ⟨h1, h2⟩ <;> omega
theorem signI_lt {z : Int} : signI z < 0 ↔ z < 0 := by
  rcases signI_range z with ⟨h1, h2⟩ | ⟨h1, h2⟩ | ⟨h1, h2⟩ <;> omega
theorem cmpI_zero {a b : Int} : cmpI a b = 0 ↔ a = b := by
  unfold cmpI
  split
  · constructor <;> intro h <;> omega
  · split <;> constructor <;> intro h <;> omega
theorem validR_no {x : RRat} (h : ((!validI x.num || !validI x.den) || decide (signI (toZ x.den) ≤ 0)) = true) : validR x = false := by
  unfold validR
  rw [Bool.or_eq_true, Bool.or_eq_true, Bool.not_eq_true', Bool.not_eq_true', decide_eq_true_eq, signI_le] at h
  rcases h with (h | h) | h
  · rw [h]; rfl
  · rw [h]; simp
  · rw [show decide (0 < toZ x.den) = false from decide_eq_false (by omega)]; simp
theorem validR_yes {x : RRat} (h : ((!validI x.num || !validI x.den) || decide (signI (toZ x.den) ≤ 0)) = false) : validR x = (cmpI ((Int.gcd (toZ x.num) (toZ x.den) : Nat) : Int) 1 == 0) := by
  unfold validR
  rw [Bool.or_eq_false_iff, Bool.or_eq_false_iff, Bool.not_eq_false', Bool.not_eq_false', decide_eq_false_iff_not, signI_le] at h
  obtain ⟨⟨h1, h2⟩, h3⟩ := h
  rw [h1, h2, show decide (0 < toZ x.den) = true from decide_eq_true (by omega)]
  simp only [Bool.true_and]
  rw [Bool.eq_iff_iff, beq_iff_eq, beq_iff_eq, cmpI_zero]
  omega
theorem signQ_zero {q : Rat} : signI q.num = 0 ↔ q = 0 := by
  rw [← Rat.num_eq_zero]
  rcases signI_range q.num with ⟨h1, h2⟩ | ⟨h1, h2⟩ | ⟨h1, h2⟩ <;> omega
def absQ (q : Rat) : Rat := if q < 0 then -q else q
theorem ql_abs {q : Rat} {n : Nat} (h : QL q n) : QL (absQ q) n := by unfold absQ; exact ql_ite (ql_neg h) h
def divR (p q : Rat) : RRat := if q = 0 then ⟨⟨false, []⟩, ⟨false, []⟩⟩ else ofQ (p / q)
def divC (q : Rat) : Int := if q = 0 then 14 else 0
theorem divR_zero {p q : Rat} (h : q = 0) : divR p q = ⟨⟨false, []⟩, ⟨false, []⟩⟩ := if_pos h
theorem divR_ne {p q : Rat} (h : q ≠ 0) : divR p q = ofQ (p / q) := if_neg h
theorem divC_zero {q : Rat} (h : q = 0) : divC q = 14 := if_pos h
theorem divC_ne {q : Rat} (h : q ≠ 0) : divC q = 0 := if_neg h
theorem mul_ne {a b : Int} (ha : a ≠ 0) (hb : b ≠ 0) : a * b ≠ 0 := Int.mul_ne_zero ha hb
theorem den_ne (q : Rat) : (q.den : Int) ≠ 0 := by have := q.den_pos; omega
theorem num_ne {q : Rat} (h : q ≠ 0) : q.num ≠ 0 := fun e => h (Rat.num_eq_zero.1 e)
theorem iok_gcd {x y : RInt} {a b : Int} {m n k : Nat} (hx : IOk x a m) (hy : IOk y b n) (h : max m n ≤ k) : IOk (ofZ ((Int.gcd a b : Nat) : Int)) ((Int.gcd a b : Nat) : Int) k := iok_of (by
  by_cases hb : b = 0
  · subst hb
    rw [Int.gcd_zero_right]
    refine Nat.le_trans (lenZ_of_le (z := a) ?_) (Nat.le_trans hx.ln (by omega))
    simp
  · exact Nat.le_trans (lenZ_gcd hb hy.ln) (by omega))
theorem lenZ_int {z : Int} (h1 : -9223372036854775808 ≤ z) (h2 : z ≤ 9223372036854775807) : lenZ z ≤ 3 := ofNat_len3 (by omega)
theorem iok_int {z : Int} (h1 : -9223372036854775808 ≤ z) (h2 : z ≤ 9223372036854775807) : IOk (ofZ z) z 3 := iok_of (lenZ_int h1 h2)
theorem red_neg2 {a b : Int} (hb : b < 0) : ofQ (Rat.divInt a b) = ⟨ofZ (a.fdiv (-((Int.gcd a b : Nat) : Int))), ofZ (b.fdiv (-((Int.gcd a b : Nat) : Int)))⟩ := by
  rw [← red_neg hb]
  have e : Int.gcd (-a) (-b) = Int.gcd a b := by simp
  rw [e]
  have h1 := Int.neg_fdiv_neg a (-((Int.gcd a b : Nat) : Int))
  have h2 := Int.neg_fdiv_neg b (-((Int.gcd a b : Nat) : Int))
  rw [Int.neg_neg] at h1 h2
  rw [h1, h2]
theorem absQ_neg {q : Rat} (h : signQ q < 0) : absQ q = -q := by
  unfold absQ signQ at *
  rw [signI_lt] at h
  rw [if_pos]
  rw [← Rat.not_le, ← Rat.num_nonneg]; omega
theorem absQ_pos {q : Rat} (h : ¬ signQ q < 0) : absQ q = q := by
  unfold absQ signQ at *
  rw [signI_lt] at h
  rw [if_neg]
  rw [Rat.not_lt, ← Rat.num_nonneg]; omega
end Go.Fid
namespace Go.Fid
open Go.RowKit (Below)
theorem sim_put {C : Ctx} {a : Act} {w : World} {S : SL} {B : BS} {D : DSet} {β : BMap} {t : Tmp} {v : Value} {x : SV} (h : SimAt C a w ⟨S, B⟩ D β) (hd : dstB C.n (some t) = true) (hx : RepS w D β v x) : SimAt C (a.put (some t) v) w ⟨(t, x) :: S, B⟩ D β :=
  ⟨h.base.put hd _, h.mem, h.high, fun u => by
    show RepS w D β ((a.put (some t) v).tmps.getD u undef) (sget ((t, x) :: S) u)
    rw [put_getD h.base.size hd, sget_cons]
    by_cases e : t = u
    · rw [if_pos e, if_pos (by rw [e])]; exact hx
    · rw [if_neg e, if_neg (fun e' => e (by injection e'))]; exact h.slots u⟩
theorem pwp_nilq {P : Program} {n : Fr} {S : SL} {B : BS} {Q : Exit → PS → Prop} {id : Nat} {o1 o2 : Oper} {t0 ta tb : Tmp} {T T' E t : TypeId} {s s' : Nat} {es : List Dat}
    (h1 : o1.op = .move (.tmp t0)) (h1d : o1.dst = some ta) (h1g : o1.guard = none) (h2 : o2.op = .binOp .eql T (.tmp ta) (.const (.slice none 0 0)) T') (h2d : o2.dst = some tb) (h2g : o2.guard = none)
    (hT : elemB P T = some (E, s)) (hda : dstB n (some ta) = true) (hdb : dstB n (some tb) = true) (hx : sget S t0 = .d (.sl t s' es))
    (hq : ∀ b : Bool, (b = true → es = []) → Q .normal ⟨(tb, .d (.val (.bool b))) :: (ta, .d (.sl t s' es)) :: S, B⟩) : PWp P n (.region id #[o1, o2] false) Q ⟨S, B⟩ := fun C a w N hn hs => by
  subst hn
  obtain ⟨D, β, hs⟩ := hs
  have hv := hs.slots t0
  have hv' : RepS w D β (a.tmps.getD t0 undef) (sget S t0) := hv
  rw [hx] at hv'
  have hev : a.eval (.tmp t0) = a.tmps.getD t0 undef := rfl
  generalize a.tmps.getD t0 undef = v at hv' hev
  have hv'' : Rep w D v (.sl t s' es) := hv'
  obtain ⟨i, f1, f2, f3⟩ := elem_of hT
  cases hv'' with
  | sl g off u hnn hcc hmm hss ha hD hu hone hrr =>
  rename_i ad len cap
  subst hnn
  have hp1 : plainB o1 = true := by simp [plainB, h1]
  have hp2 : plainB o2 = true := by simp [plainB, h2]
  have hs1 := sim_put hs hda hv'
  have hs2 := sim_put (v := .bool ad.isNone) hs1 hdb (x := .d (.val (.bool ad.isNone))) (Rep.val _)
  refine wpIn_region_lit (wpListIn_plain h1g fun K1 hK1 => op_lift hp1 (wp_value (v := .slice ad es.length cap) (w' := w) ?_ (hK1 _ _ (wpListIn_plain h2g fun K2 hK2 => op_lift hp2 (wp_value (v := .bool ad.isNone) (w' := w) ?_ (hK2 _ _ (wpListIn_nil ?_)))))))
  · simp only [execOp, h1, hev, Sem.run_pure]
  · have hta : (a.put o1.dst (Value.slice ad es.length cap)).eval (.tmp ta) = .slice ad es.length cap := by
      show (a.put o1.dst (Value.slice ad es.length cap)).tmps.getD ta undef = _
      rw [h1d, put_getD hs.base.size hda, if_pos rfl]
    have hce : (a.put o1.dst (Value.slice ad es.length cap)).eval (.const (.slice none 0 0)) = .slice none 0 0 := rfl
    have heq : ∀ d : Nat, (Op.equalIn (d + 1) T (.slice ad es.length cap) (.slice none 0 0)).run P w = .ok ad.isNone w := fun d => by
      cases ad <;> simp [Op.equalIn, run_underlying f1]
    have heq' : (Op.equal T (.slice ad es.length cap) (.slice none 0 0)).run P w = .ok ad.isNone w := heq 9999
    simp only [execOp, h2, hta, hce]
    simp [eqGuard, binOp, heq']
  · rw [h1d, h2d]
    refine ⟨_, ⟨D, β, hs2⟩, hq _ fun hb => ?_⟩
    cases ad with
    | none =>
      refine List.eq_nil_of_length_eq_zero ?_
      rcases Nat.eq_zero_or_pos es.length with h | h
      · exact h
      · have := ha h; cases this
    | some x => cases hb
end Go.Fid
namespace Go.Fid
set_option linter.unusedVariables false
set_option linter.unusedSimpArgs false
open Go.RowKit (Below)
theorem publish_core {C : Ctx} {a : Act} {w : World} {st : PS} {D : DSet} {β : BMap} {k s m : Nat} {T : TypeId} {cs : List SV} {es : List Dat} (h : SimAt C a w st D β) (hb : bget st.bs k = some cs) (hes : ∀ e ∈ es, e.cells.length = s) (hl : es.length = m) (hc : cs.take (m * s) = (flat es).map .d) :
    ∃ D', SimAt C a w ⟨st.sl, (k, none) :: st.bs⟩ D' β ∧ ∀ v D2, RepS w D2 β v (.own k T s m) → Rep w D' v (.sl T s es) := by
  have hfl := flat_length hes
  have hbs : ∀ {j : Nat} {c : List SV}, bget ((k, none) :: st.bs) j = some c → j ≠ k ∧ bget st.bs j = some c := fun {j c} hj => by
    rw [bget_cons] at hj
    split at hj
    · cases hj
    · rename_i e; exact ⟨fun e' => e e'.symm, hj⟩
  rcases h.mem.ok k cs hb with ⟨g1, hcs⟩ | ⟨b, vs, T', g1, g2, g3, g4, g5⟩
  · refine ⟨D, ⟨h.base, ⟨fun j c hj => h.mem.ok j c (hbs hj).2, fun j1 j2 c1 c2 q1 q2 => h.mem.inj j1 j2 c1 c2 (hbs q1).2 (hbs q2).2⟩, fun j c hj => h.high j c (hbs hj).2, h.slots⟩, fun v D2 hv => ?_⟩
    rcases hv with ⟨_, e2, e3⟩ | ⟨b, cap, vs, h1, _⟩
    · rw [e2] at hl
      have hn : es = [] := List.eq_nil_of_length_eq_zero hl
      subst hn
      rw [e3]; exact rep_nil w D T s
    · rw [h1] at g1; cases g1
  · have hlt := heap_lt g2
    have hmono : ∀ t' g o, D t' g o → (D t' g o ∨ (t' = T ∧ g = b ∧ o < m * s)) ∧ w.cell? ⟨g, o, none⟩ = w.cell? ⟨g, o, none⟩ := fun t' g o hd => ⟨.inl hd, rfl⟩
    have hS : ∀ {v x}, RepS w D β v x → RepS w (fun t' g o => D t' g o ∨ (t' = T ∧ g = b ∧ o < m * s)) β v x := fun {v x} hr => by
      cases x with
      | d x => exact Rep.mono hmono hr
      | ref k o => exact hr
      | own k t s n => exact hr
      | clo f ks => exact hr
      | emp => exact hr
      | view k o n => exact hr
      | junk => trivial
    refine ⟨fun t' g o => D t' g o ∨ (t' = T ∧ g = b ∧ o < m * s), ⟨⟨h.base.defers, h.base.size, h.base.keep, h.base.oth, h.base.pin, h.base.below, fun t' g o hd => .inl (h.base.dmono _ _ _ hd), fun t' g o hd => ?_, fun t' g o hd => ?_⟩, ⟨fun j c hj => ?_, fun j1 j2 c1 c2 q1 q2 => h.mem.inj j1 j2 c1 c2 (hbs q1).2 (hbs q2).2⟩, fun j c hj => h.high j c (hbs hj).2, fun u => hS (h.slots u)⟩, fun v D2 hv => ?_⟩
    · rcases hd with hd | ⟨_, e, _⟩
      · exact h.base.dnew _ _ _ hd
      · subst e; exact .inr (h.high k cs hb g g1)
    · rcases hd with hd | ⟨_, e, _⟩
      · exact h.base.dok _ _ _ hd
      · subst e; exact hlt
    · obtain ⟨hne, hj'⟩ := hbs hj
      rcases h.mem.ok j c hj' with q | ⟨b2, vs2, T2, q1, q2, q3, q4, q5⟩
      · exact .inl q
      · refine .inr ⟨b2, vs2, T2, q1, q2, q3, fun i x hx => ?_, fun t' o hd => ?_⟩
        · obtain ⟨u, e1, e2, e3⟩ := q4 i x hx
          exact ⟨u, e1, e2, hS e3⟩
        · rcases hd with hd | ⟨_, e, _⟩
          · exact q5 _ _ hd
          · subst e; exact hne (h.mem.inj j k _ _ hj' hb b2 q1 g1)
    · rcases hv with ⟨e1, _, _⟩ | ⟨b2, cap, vs2, h1, h2, h3, h4, h5, h6⟩
      · rw [e1] at g1; cases g1
      · obtain rfl : b = b2 := by rw [h1] at g1; injection g1 with g1; exact g1.symm
        rw [h3] at g2
        injection g2 with g2
        injection g2 with g2 gT
        subst g2; subst gT
        rw [h2]
        have key : ∀ (i : Nat) d, (flat es)[i]? = some d → ∃ u, vs2[i]? = some u ∧ u.oneCell' = true ∧ Rep w D u d := fun i d hd => by
          have hi : i < m * s := by
            have := (List.getElem?_eq_some_iff.1 hd).1
            rw [hfl, hl] at this; exact this
          have e1 : cs[i]? = some (.d d) := by
            have : (cs.take (m * s))[i]? = some (.d d) := by rw [hc]; simp [hd]
            rwa [List.getElem?_take_of_lt hi] at this
          exact g4 i _ e1
        have hcell : ∀ i, w.cell? ⟨b, i, none⟩ = vs2[i]? := fun i => cell_of_row w b i vs2 T (0, 0) h3
        refine Rep.sl b 0 (fun i => vs2.getD i undef) hl.symm h5 h6 hes (fun _ => rfl) (fun i hi => .inr ⟨rfl, rfl, by rw [Nat.zero_add, ← hl, ← hfl]; exact hi⟩) (fun i hi => ?_) (fun i hi => ?_) (fun i d hd => ?_)
        · obtain ⟨x, q1, q2, q3⟩ := key i _ (List.getElem?_eq_getElem hi)
          rw [Nat.zero_add, hcell, Array.getD_eq_getD_getElem?, q1]; rfl
        · obtain ⟨x, q1, q2, q3⟩ := key i _ (List.getElem?_eq_getElem hi)
          rw [Array.getD_eq_getD_getElem?, q1]; exact q2
        · obtain ⟨x, q1, q2, q3⟩ := key i d hd
          rw [Array.getD_eq_getD_getElem?, q1]
          exact Rep.mono hmono q3
theorem publishB {st : PS} {j k s m : Nat} {T : TypeId} {cs : List SV} {es : List Dat} (hj : bget st.bs j = some [.own k T s m]) (hjk : Nat.beq k j = false) (hb : bget st.bs k = some cs) (hes : ∀ e ∈ es, e.cells.length = s) (hl : es.length = m) (hc : cs.take (m * s) = (flat es).map .d) :
    SimImp st ⟨st.sl, (j, some [.d (.sl T s es)]) :: (k, none) :: st.bs⟩ := fun C a w ⟨D, β, h⟩ => by
  obtain ⟨D', h', hown⟩ := publish_core (T := T) h hb hes hl hc
  have hne : k ≠ j := beq_false_ne hjk
  have hj2 : bget ((k, none) :: st.bs) j = some [.own k T s m] := by rw [bget_cons, if_neg hne]; exact hj
  refine ⟨D', β, h'.base, ⟨fun i c hi => ?_, fun i1 i2 c1 c2 q1 q2 => ?_⟩, fun i c hi => ?_, h'.slots⟩
  · rw [bget_cons] at hi
    split at hi
    · rename_i e; subst e
      injection hi with hi; subst hi
      rcases h'.mem.ok j _ hj2 with ⟨_, q⟩ | ⟨b, vs, T2, q1, q2, q3, q4, q5⟩
      · cases q
      · refine .inr ⟨b, vs, T2, q1, q2, by simpa using q3, fun i x hx => ?_, q5⟩
        rcases i with _ | i
        · obtain ⟨u, e1, e2, e3⟩ := q4 0 _ rfl
          simp at hx; subst hx
          exact ⟨u, e1, e2, hown u D' e3⟩
        · simp at hx
    · exact h'.mem.ok i c hi
  · have conv : ∀ {i c}, bget ((j, some [SV.d (.sl T s es)]) :: (k, none) :: st.bs) i = some c → ∃ c', bget ((k, none) :: st.bs) i = some c' := fun {i c} hi => by
      rw [bget_cons] at hi
      split at hi
      · rename_i e; subst e; exact ⟨_, hj2⟩
      · exact ⟨c, hi⟩
    obtain ⟨c1', r1⟩ := conv q1
    obtain ⟨c2', r2⟩ := conv q2
    exact h'.mem.inj i1 i2 c1' c2' r1 r2
  · rw [bget_cons] at hi
    split at hi
    · rename_i e; subst e; exact h'.high j _ hj2
    · exact h'.high i c hi
section
variable {P : Program} {o : Oper} {S : Nat → SV}
theorem t_sto {T : TypeId} {x y : Operand} {k j E s n : Nat} {u : SV} (ho : o.op = .store T x y) (hx : ev S x = .ref k 0) (hy : ev S y = .own j E s n) (hs : shapeB P T = some (false, 1)) : TOk P o S k [u] [.own j E s n] :=
  t_store (old := [u]) ho hx hy hs (.inr ⟨⟨j, E, s, n, rfl⟩, rfl⟩) rfl (Nat.le_refl _)
inductive OwnArgs (k : Nat) (T : TypeId) (s m : Nat) (es : List Dat) : List SV → List Dat → Prop
  | nil : OwnArgs k T s m es [] []
  | d {x : Dat} {zs : List SV} {ds : List Dat} (h : OwnArgs k T s m es zs ds) : OwnArgs k T s m es (.d x :: zs) (x :: ds)
  | o {zs : List SV} {ds : List Dat} (h : OwnArgs k T s m es zs ds) : OwnArgs k T s m es (.own k T s m :: zs) (.sl T s es :: ds)
theorem OwnArgs.len {k : Nat} {T : TypeId} {s m : Nat} {es : List Dat} {zs : List SV} {ds : List Dat} (h : OwnArgs k T s m es zs ds) : zs.length = ds.length := by
  induction h with
  | nil => rfl
  | d h ih => simp [ih]
  | o h ih => simp [ih]
theorem OwnArgs.rep {k : Nat} {T : TypeId} {s m : Nat} {es : List Dat} {w : World} {D D' : DSet} {β : BMap} (h1 : ∀ v x, Rep w D v x → Rep w D' v x) (h2 : ∀ v, RepS w D β v (.own k T s m) → Rep w D' v (.sl T s es)) {zs : List SV} {ds : List Dat} (h : OwnArgs k T s m es zs ds) :
    ∀ {vs : List Value}, vs.length = zs.length → (∀ (i : Nat) v x, vs[i]? = some v → zs[i]? = some x → RepS w D β v x) → ∀ (i : Nat) v d, vs[i]? = some v → ds[i]? = some d → Rep w D' v d := by
  induction h with
  | nil => intro vs _ _ i v d _ hd; simp at hd
  | d h ih =>
    rename_i x zs ds
    intro vs hl hr i v d' hv hd
    rcases vs with _ | ⟨v0, vs⟩
    · simp at hl
    · rcases i with _ | i
      · simp at hv hd; subst hv; subst hd; exact h1 _ _ (hr 0 _ _ rfl rfl)
      · exact ih (by simpa using hl) (fun i v x h3 h4 => hr (i + 1) v x (by simpa using h3) (by simpa using h4)) i v d' (by simpa using hv) (by simpa using hd)
  | o h ih =>
    intro vs hl hr i v d' hv hd
    rcases vs with _ | ⟨v0, vs⟩
    · simp at hl
    · rcases i with _ | i
      · simp at hv hd; subst hv; subst hd; exact h2 _ (hr 0 _ _ rfl rfl)
      · exact ih (by simpa using hl) (fun i v x h3 h4 => hr (i + 1) v x (by simpa using h3) (by simpa using h4)) i v d' (by simpa using hv) (by simpa using hd)
theorem e_clo {y : Operand} {xs : List Operand} {ats : Array TypeId} {f : FuncId} {ds es : List Dat} {u : Value} {zs : List SV} {cs : List SV} {k T s m : Nat} (hf : Takes P f ds (.val u)) (ho : o.op = .call { callee := .value y, args := xs.toArray, argTypes := ats }) (hy : ev S y = .d (.val (.func (.func f) #[] #[]))) (hx : xs.map (ev S) = zs)
    (hz : OwnArgs k T s m es zs ds) (hes : ∀ e ∈ es, e.cells.length = s) (hl : es.length = m) (hc : cs.take (m * s) = (flat es).map .d) : EOk P o S [(k, cs)] (.d (.val u)) :=
  fun a w D β Q hop hrd hD => by
    have hyv := hop y (by simp [ho, Op.operands, Call.operands])
    rw [hy] at hyv
    have hyv' := rep_val hyv
    have hrep : ∀ (i : Nat) v x, (xs.map a.eval)[i]? = some v → zs[i]? = some x → RepS w D β v x := fun i v x hv hz' => by
      rw [List.getElem?_map, Option.map_eq_some_iff] at hv
      obtain ⟨q, hqi, rfl⟩ := hv
      have hm := hop q (by simp [ho, Op.operands, Call.operands, List.mem_of_getElem? hqi])
      have hi := congrArg (fun l : List SV => l[i]?) hx
      simp only [List.getElem?_map, hqi, hz', Option.map_some, Option.some.injEq] at hi
      rw [hi] at hm
      exact hm
    have hlen : (xs.map a.eval).length = zs.length := by rw [← hx]; simp
    have hrun : (execOp a.eval o).run P w = .ok (.enter f (xs.map a.eval).toArray) w := by
      simp only [execOp, ho, resolve, Deferred.ofValue, hyv', Sem.run_bind, Sem.run_pure, Result.andThen_ok, invoke, Array.empty_append, Array.append_empty]
      rw [run_callFunc hf.may]
      simp
    have hfl := flat_length hes
    have hblk := hrd (k, cs) (by simp)
    have key : ∃ D', DOk D' w ∧ (∀ v x, Rep w D v x → Rep w D' v x) ∧ (∀ v, RepS w D β v (.own k T s m) → Rep w D' v (.sl T s es)) := by
      rcases hblk with ⟨g1, hcs⟩ | ⟨b, vs, T', g1, g2, g3, g4, g5⟩
      · refine ⟨D, hD, fun _ _ h => h, fun v hv => ?_⟩
        rcases hv with ⟨_, e2, e3⟩ | ⟨b, cap, vs, h1, _⟩
        · rw [e2] at hl
          have hn : es = [] := List.eq_nil_of_length_eq_zero hl
          subst hn
          rw [e3]; exact rep_nil w D T s
        · rw [h1] at g1; cases g1
      · have hmono : ∀ t' g o, D t' g o → (D t' g o ∨ (t' = T ∧ g = b ∧ o < m * s)) ∧ w.cell? ⟨g, o, none⟩ = w.cell? ⟨g, o, none⟩ := fun t' g o hd => ⟨.inl hd, rfl⟩
        refine ⟨fun t' g o => D t' g o ∨ (t' = T ∧ g = b ∧ o < m * s), fun t' g o hd => ?_, fun v x hr => Rep.mono hmono hr, fun v hv => ?_⟩
        · rcases hd with hd | ⟨_, e, _⟩
          · exact hD _ _ _ hd
          · subst e; exact heap_lt g2
        · rcases hv with ⟨e1, _, _⟩ | ⟨b2, cap, vs2, h1, h2, h3, h4, h5, h6⟩
          · rw [e1] at g1; cases g1
          · obtain rfl : b = b2 := by rw [h1] at g1; injection g1 with g1; exact g1.symm
            rw [h3] at g2
            injection g2 with g2
            injection g2 with g2 gT
            subst g2; subst gT
            rw [h2]
            have key : ∀ (i : Nat) d, (flat es)[i]? = some d → ∃ u, vs2[i]? = some u ∧ u.oneCell' = true ∧ Rep w D u d := fun i d hd => by
              have hi : i < m * s := by
                have := (List.getElem?_eq_some_iff.1 hd).1
                rw [hfl, hl] at this; exact this
              have e1 : cs[i]? = some (.d d) := by
                have : (cs.take (m * s))[i]? = some (.d d) := by rw [hc]; simp [hd]
                rwa [List.getElem?_take_of_lt hi] at this
              exact g4 i _ e1
            have hcell : ∀ i, w.cell? ⟨b, i, none⟩ = vs2[i]? := fun i => cell_of_row w b i vs2 T (0, 0) h3
            refine Rep.sl b 0 (fun i => vs2.getD i undef) hl.symm h5 h6 hes (fun _ => rfl) (fun i hi => .inr ⟨rfl, rfl, by rw [Nat.zero_add, ← hl, ← hfl]; exact hi⟩) (fun i hi => ?_) (fun i hi => ?_) (fun i d hd => ?_)
            · obtain ⟨x, q1, q2, q3⟩ := key i _ (List.getElem?_eq_getElem hi)
              rw [Nat.zero_add, hcell, Array.getD_eq_getD_getElem?, q1]; rfl
            · obtain ⟨x, q1, q2, q3⟩ := key i _ (List.getElem?_eq_getElem hi)
              rw [Array.getD_eq_getD_getElem?, q1]; exact q2
            · obtain ⟨x, q1, q2, q3⟩ := key i d hd
              rw [Array.getD_eq_getD_getElem?, q1]
              exact Rep.mono hmono q3
    obtain ⟨D', hD', hm1, hm2⟩ := key
    have hargs : Args w D' (xs.map a.eval) ds := ⟨hlen.trans hz.len, hz.rep hm1 hm2 hlen hrep⟩
    refine wp_enter hrun ((hf.run w D' _ hD' hargs).mono fun e w' h => ?_)
    obtain ⟨v, D2, he, h1, h2, h3⟩ := h
    refine ⟨v, he, v, D, rfl, h1, ⟨fun _ _ _ h => h, fun _ _ _ h => .inl h⟩, ?_⟩
    rw [rep_val h3]
    exact .val u
def OPost (w : World) (D : DSet) (T s n : Nat) (es : List Dat) (e : Ending) (w' : World) : Prop :=
  ∃ v D' b cap vs, e = .returned v ∧ Below w.heap.size w w' ∧ DUp D D' w w' ∧ w.heap.size ≤ b ∧ (∀ t o, ¬ D' t b o) ∧ v = .slice (some ⟨b, 0, none⟩) n cap ∧ w'.heap[b]? = some (.cells vs T (0, 0)) ∧ vs.size = cap * s ∧ n ≤ cap ∧ cap ≤ maxLen ∧ es.length ≤ vs.size ∧
    (∀ (i : Nat) d, es[i]? = some d → ∃ u, vs[i]? = some u ∧ u.oneCell' = true ∧ Rep w' D' u d)
structure TakesO (P : Program) (f : FuncId) (ds : List Dat) (T s n : Nat) (es : List Dat) : Prop where
  may : callB P f = true
  run : ∀ (w : World) (D : DSet) (vs : List Value), DOk D w → Args w D vs ds → Calls P f vs.toArray w (OPost w D T s n es)
theorem n_own {y : Operand} {xs : List Operand} {ats : Array TypeId} {f : FuncId} {ds es : List Dat} {T s n : Nat} {cs : List SV} (k : Nat) (hf : TakesO P f ds T s n es) (ho : o.op = .call { callee := .value y, args := xs.toArray, argTypes := ats }) (hy : ev S y = .d (.val (.func (.func f) #[] #[]))) (hx : xs.map (ev S) = ds.map .d) (hc : es.map .d = cs) : NOk P o S k cs (.own k T s n) :=
  fun a w D β Q hop hD => by
    subst hc
    have hyv := hop y (by simp [ho, Op.operands, Call.operands])
    rw [hy] at hyv
    have hyv' := rep_val hyv
    have hargs : Args w D (xs.map a.eval) ds := by
      have hl : xs.length = ds.length := by simpa using congrArg List.length hx
      refine ⟨by simpa using hl, fun i v d hv hd => ?_⟩
      rw [List.getElem?_map, Option.map_eq_some_iff] at hv
      obtain ⟨x, hxi, rfl⟩ := hv
      have hm := hop x (by simp [ho, Op.operands, Call.operands, List.mem_of_getElem? hxi])
      have hi := congrArg (fun l : List SV => l[i]?) hx
      simp only [List.getElem?_map, hxi, hd, Option.map_some, Option.some.injEq] at hi
      rw [hi] at hm
      exact hm
    have hrun : (execOp a.eval o).run P w = .ok (.enter f (xs.map a.eval).toArray) w := by
      simp only [execOp, ho, resolve, Deferred.ofValue, hyv', Sem.run_bind, Sem.run_pure, Result.andThen_ok, invoke, Array.empty_append, Array.append_empty]
      rw [run_callFunc hf.may]
      simp
    refine wp_enter hrun ((hf.run w D _ hD hargs).mono fun e w' h => ?_)
    obtain ⟨v, D', b, cap, vs, he, h1, h2, h3, h4, h5, h6, h7, h8, h9, h10, h11⟩ := h
    have hβ : β.set k b k = some b := by simp [BMap.set]
    refine ⟨v, he, v, D', b, rfl, h1, h2, h3, heap_lt h6, h4, .inr ⟨b, vs, T, hβ, h6, by simpa using h10, fun i x hx => ?_, h4⟩, .inr ⟨b, cap, vs, hβ, h5, h6, h7, h8, h9⟩⟩
    rw [List.getElem?_map, Option.map_eq_some_iff] at hx
    obtain ⟨d, hd, rfl⟩ := hx
    exact h11 i d hd
theorem leaves_own {a : Act} {v : Value} {w w0 : World} {fn : Func} {D D' : DSet} {T s n b cap : Nat} {es : List Dat} {vs : Array Value} {ds : List Deferred} (hd : DfOk w0.heap.size w ds) (hres : ∀ w', (results fn a.tmps).run P w' = .ok v w')
    (hbel : Below w0.heap.size w0 w) (hup : ∀ t g o, D t g o → D' t g o) (hnew : ∀ t g o, D' t g o → D t g o ∨ w0.heap.size ≤ g) (hdok : DOk D' w) (h3 : w0.heap.size ≤ b) (h4 : ∀ t o, ¬ D' t b o) (h5 : v = .slice (some ⟨b, 0, none⟩) n cap)
    (h6 : w.heap[b]? = some (.cells vs T (0, 0))) (h7 : vs.size = cap * s) (h8 : n ≤ cap) (h9 : cap ≤ maxLen) (h10 : es.length ≤ vs.size) (h11 : ∀ (i : Nat) d, es[i]? = some d → ∃ u, vs[i]? = some u ∧ u.oneCell' = true ∧ Rep w D' u d) :
    LeavesInM Fence.wide 0 P fn a.tmps (OPost w0 D T s n es) ds .returning w := by
  induction ds generalizing w with
  | nil =>
    refine ⟨v, hres w, v, D', b, cap, vs, rfl, hbel, ⟨hup, fun t g o hd => ?_⟩, h3, h4, h5, h6, h7, h8, h9, h10, h11⟩
    rcases hnew t g o hd with q | q
    · exact .inl q
    · exact .inr ⟨q, hdok _ _ _ hd⟩
  | cons d ds ih =>
    cases hd with
    | cons hqb hqh h3' hr =>
      rename_i q
      have hne : b ≠ q := fun e => by subst e; rw [h6] at hqh; cases hqh
      refine ⟨by simp, .inl ⟨q, _, rfl, run_takeDeferred hqh, ih (hr.keep fun q' hq' ⟨d, hd, e⟩ => ?_) (turned_below hbel hqb) (fun t g o hd => by simpa [World.putObj] using hdok t g o hd) ((World.putObj_heap_other hne).trans h6) (fun i d hd => ?_)⟩⟩
      · have hne : q' ≠ q := fun e' => h3' d hd (e' ▸ e)
        exact (World.putObj_heap_other hne).trans hq'
      · obtain ⟨u, e1, e2, e3⟩ := h11 i d hd
        exact ⟨u, e1, e2, turned_rep (β := fun _ => none) (x := .d d) hqh rfl rfl e3⟩
def RetO (rs : List ResultVar) (T s n : Nat) (es : List Dat) : Exit → PS → Prop
  | .ret, st => ∃ t k, rs = [.tmp t] ∧ sget st.sl t = .own k T s n ∧ ∃ cs, bget st.bs k = some cs ∧ es.length ≤ cs.length ∧ ∀ (i : Nat) d, es[i]? = some d → cs[i]? = some (.d d)
  | .normal, st => ∃ t k, rs = [.tmp t] ∧ sget st.sl t = .own k T s n ∧ ∃ cs, bget st.bs k = some cs ∧ es.length ≤ cs.length ∧ ∀ (i : Nat) d, es[i]? = some d → cs[i]? = some (.d d)
  | _, _ => False
theorem own_prefix {α : Type} (F : α → Dat) {L L' : List α} {j : Nat} (h : L = L'.take j) : (L.map F).length ≤ (L'.map (fun g => SV.d (F g))).length ∧ ∀ (i : Nat) d, (L.map F)[i]? = some d → (L'.map (fun g => SV.d (F g)))[i]? = some (.d d) := by
  subst h
  refine ⟨by simp; omega, fun i d hd => ?_⟩
  rw [List.getElem?_map, Option.map_eq_some_iff] at hd
  obtain ⟨g, hg, rfl⟩ := hd
  have hi : i < (L'.take j).length := (List.getElem?_eq_some_iff.1 hg).1
  rw [List.length_take] at hi
  rw [List.getElem?_take_of_lt (by omega)] at hg
  rw [List.getElem?_map, hg]
  rfl
theorem fn_introO {f : FuncId} {fn : Func} {c : Code} {ds : List Dat} {T s n : Nat} {es : List Dat} (hf : P.funcs[f]? = some fn) (hb : fn.body = some c) (hc : callB P f = true) (hn : Nat.ble ds.length fn.ntmps = true) (hpos : 0 < n)
    (h : PWp P ⟨0, fn.ntmps, none⟩ c (RetO fn.results.toList T s n es) ⟨initSl ds 0, []⟩) : TakesO P f ds T s n es :=
  ⟨hc, fun w D vs hD hargs => by
    refine (callsIn_wide (n := 0)).1 (callsIn_of_wp_marks hf hb trivial ?_)
    have hle : ds.length ≤ fn.ntmps := Nat.le_of_ble_eq_true hn
    have hvl := hargs.1
    have hsim : Sim ⟨w, D, w, #[], ⟨0, fn.ntmps, none⟩⟩ { tmps := vs.toArray ++ Array.replicate (fn.ntmps - vs.toArray.size) undef, defers := [] } w ⟨initSl ds 0, []⟩ := by
      refine ⟨D, fun _ => none, ⟨.nil, by simp; omega, fun _ _ _ _ => rfl, fun _ _ h _ => h, fun t ht => absurd ht (Nat.not_lt_zero t), Below.refl _ _, fun _ _ _ h => h, fun _ _ _ h => .inl h, hD⟩, ⟨fun k cs hk => by simp [bget] at hk, fun k1 k2 c1 c2 h1 => by simp [bget] at h1⟩, fun k c hk => by simp [bget] at hk, fun t => ?_⟩
      show RepS w D _ _ (sget (initSl ds 0) t)
      rw [sget_init]
      simp only [Nat.zero_le, if_true, Nat.sub_zero]
      cases hd : ds[t]? with
      | none => trivial
      | some d =>
        have ht : t < vs.length := by rw [hvl]; exact (List.getElem?_eq_some_iff.1 hd).1
        refine hargs.2 t _ d ?_ hd
        rw [Array.getD_eq_getD_getElem?, Array.getElem?_append_left (by simpa using ht)]
        simp [ht]
    refine wpIn_mono (h _ _ w 0 rfl hsim) fun e a w' ⟨st, ⟨D', β, hs⟩, hq⟩ => ?_
    have fin : (∃ t k, fn.results.toList = [.tmp t] ∧ sget st.sl t = .own k T s n ∧ ∃ cs, bget st.bs k = some cs ∧ es.length ≤ cs.length ∧ ∀ (i : Nat) d, es[i]? = some d → cs[i]? = some (.d d)) → LeavesInM Fence.wide 0 P fn a.tmps (OPost w D T s n es) a.defers .returning w' := fun ⟨t, k, h1, h2, cs, h3, h3l, h3c⟩ => by
      have ht := hs.slots t
      rw [h2] at ht
      rcases ht with ⟨_, q, _⟩ | ⟨b, cap, vs', g1, g2, g3, g4, g5, g6⟩
      · omega
      · rcases hs.mem.ok k _ h3 with ⟨q, _⟩ | ⟨b', vs2, T2, q1, q2, q3, q4, q5⟩
        · rw [g1] at q; cases q
        · obtain rfl : b = b' := by rw [g1] at q1; injection q1
          rw [g3] at q2
          injection q2 with q2
          injection q2 with q2 qT
          subst q2; subst qT
          have hr : fn.results = #[.tmp t] := by rw [← Array.toList_inj, h1]
          refine leaves_own (a := a) hs.base.defers (fun w2 => ?_) hs.base.below hs.base.dmono hs.base.dnew hs.base.dok (hs.high k _ h3 b g1) q5 g2 g3 g4 g5 g6 (by omega) (fun i d hd => q4 i (.d d) (h3c i d hd))
          rw [results_eq, hr]
          simp [resF]
    cases e with
    | normal => exact fin hq
    | ret => exact fin hq
    | exit id => exact hq.elim
    | goto l => exact hq.elim
    | panic ch => exact hq.elim
    | outgrown => exact hq.elim⟩
end
def FrB (k : Nat) (B : BS) : Prop := (B.all fun p => (!(Nat.beq p.1 k)) && match p.2 with
    | some cs => !(namesAny k cs)
    | none => true) = true
theorem frb_nil (k : Nat) : FrB k [] := rfl
theorem frb_none {k j : Nat} {B : BS} (h : Nat.beq j k = false) (hB : FrB k B) : FrB k ((j, none) :: B) := by
  unfold FrB at *
  rw [List.all_cons, hB, h]; rfl
theorem frb_cs {k j : Nat} {cs : List SV} {B : BS} (h : Nat.beq j k = false) (hc : namesAny k cs = false) (hB : FrB k B) : FrB k ((j, some cs) :: B) := by
  unfold FrB at *
  rw [List.all_cons, hB, h]; simp [hc]
theorem frb_map {α : Type} {k j : Nat} {f : α → Dat} {l : List α} {B : BS} (h : Nat.beq j k = false) (hB : FrB k B) : FrB k ((j, some (l.map (fun g => SV.d (f g)))) :: B) := frb_cs h (namesAny_map k f l) hB
theorem frb_d {k j : Nat} {l : List Dat} {B : BS} (h : Nat.beq j k = false) (hB : FrB k B) : FrB k ((j, some (l.map SV.d)) :: B) := frb_cs h (namesAny_map k id l) hB
theorem freshB_of {k : Nat} {S : SL} {B : BS} (h1 : (S.all fun p => !p.2.names k) = true) (h2 : FrB k B) : freshB k ⟨S, B⟩ = true := by
  unfold freshB
  unfold FrB at h2
  rw [h1]
  exact h2
def PJoin {α : Type} (id : Nat) (St : α → PS) (I : α → Prop) (Q : Exit → PS → Prop) : Exit → PS → Prop
  | .normal, s => ∃ y, SimImp s (St y) ∧ I y
  | .exit i, s => if i = id then ∃ y, SimImp s (St y) ∧ I y else Q (.exit i) s
  | e, s => Q e s
theorem pjoin_exit {α : Type} {id : Nat} {St : α → PS} {I : α → Prop} {Q : Exit → PS → Prop} {s : PS} (h : ∃ y, SimImp s (St y) ∧ I y) : PJoin id St I Q (.exit id) s := by
  show (if id = id then _ else _)
  rw [if_pos rfl]; exact h
theorem pwp_seqjoin {P : Program} {n : Fr} {Q : Exit → PS → Prop} {st : PS} {α : Type} {id : Nat} {c d : Code} (St : α → PS) (I : α → Prop) (h1 : PWp P n c (PJoin id St I Q) st) (h2 : ∀ y, I y → PWp P n d Q (St y)) : PWp P n (.seq (.block id c) d) Q st := by
  refine pwp_seq (pwp_block (pwp_mono h1 ?_))
  rintro e s h
  cases e with
  | normal =>
    obtain ⟨y, q1, q2⟩ := h
    exact pwp_sim q1 (h2 y q2)
  | exit i =>
    have h' : if i = id then ∃ y, SimImp s (St y) ∧ I y else Q (.exit i) s := h
    show if i = id then _ else _
    split
    · rename_i e; rw [if_pos e] at h'
      obtain ⟨y, q1, q2⟩ := h'
      exact pwp_sim q1 (h2 y q2)
    · rename_i e; rw [if_neg e] at h'; exact h'
  | ret => exact h
  | goto l => exact h
  | panic ch => exact h
  | outgrown => exact h
theorem e_pkfo {P : Program} {o : Oper} {S : Nat → SV} {c x y : Operand} {q : Bool} (ho : o.op = .pick c x y) (hc : ev S c = .d (.val (.bool false))) (hy : ev S y = .d (.val (.bool q))) : EOk P o S [] (.d (.val (.bool (false || q)))) := by
  rw [Bool.false_or]; exact e_pkf ho hc hy
theorem e_pkta {P : Program} {o : Oper} {S : Nat → SV} {c x y : Operand} {q : Bool} (ho : o.op = .pick c x y) (hc : ev S c = .d (.val (.bool true))) (hx : ev S x = .d (.val (.bool q))) : EOk P o S [] (.d (.val (.bool (true && q)))) := by
  rw [Bool.true_and]; exact e_pkt ho hc hx
section
variable {P : Program} {o : Oper} {S : Nat → SV}
theorem e_bse {T E : TypeId} {s : Nat} (ho : o.op = .buildSlice T 0 #[]) (hT : elemB P T = some (E, s)) : EOk P o S [] .emp :=
  fun a w D β Q hop _ hD => by
    obtain ⟨j, e1, e2, e3⟩ := elem_of hT
    have hrun : (execOp a.eval o).run P w = .ok (.value (.slice (some ⟨w.heap.size, 0, none⟩) 0 0)) (w.alloc (.cells #[] E)) := by
      simp only [execOp, ho, Instr.buildSlice, Sem.run_bind, run_underlying e1, Result.andThen_ok, run_sizeOf e2, Nat.zero_mul, if_true, Sem.run_pure]
      rw [if_neg (by omega)]
      simp [newRow, run_newObj, Array.range_zero', Instr.fill]
    exact wp_value hrun ⟨_, D, rfl, ⟨rfl, rfl, rfl, by simp, fun q hq => heap_alloc_old w _ hq⟩, DUp.of_same D, ⟨_, rfl⟩⟩
theorem e_appe {T E t' : TypeId} {x y : Operand} {s bytes : Nat} {zv : List Value} {es' : List Dat} (ho : o.op = .call { callee := .builtin .append, args := #[x, y], argTypes := #[T, T] })
    (hT : elemB P T = some (E, s)) (hz : zeroB P E = some zv) (hzl : zv.length = s) (hby : bytesB P E = some bytes) (hx : ev S x = .emp) (hy : ev S y = .d (.sl t' s es')) (hbig : es'.length ≤ maxLen) (hbig' : es'.length * bytes ≤ 140737488355328) :
    EOk P o S [] (.d (.sl t' s es')) := fun a w D β Q hop _ hD => by
  have h1 := hop x (by simp [ho, Op.operands, Call.operands])
  have h2 := hop y (by simp [ho, Op.operands, Call.operands])
  rw [hx] at h1
  rw [hy] at h2
  obtain ⟨ao0, hv⟩ := h1
  obtain ⟨ao, c, us, hyv, hcc, hul, hfl', hone, hrep, had⟩ := rep_sl_cells h2
  obtain ⟨i, z, z1, z2, z3⟩ := zero_of hz
  obtain ⟨j, f1, f2, f3⟩ := elem_of hT
  have hij : i = j := by rw [z1] at f2; injection f2
  subst hij
  have hbi : i.bytes = bytes := by
    unfold bytesB at hby
    rw [z1] at hby
    simpa using hby
  subst hbi
  have hzs : z.cells.size = s := by rw [z3]; simpa using hzl
  have hml : (maxLen : Int) ≤ 9223372036854775807 := by decide
  have hsl : ∀ e ∈ es', e.cells.length = s := (fun v (h : Rep w D v (.sl t' s es')) => by
    cases h with
    | sl g off u hn hc hm hs ha hD hu h1 hr => exact hs : ∀ v, Rep w D v (.sl t' s es') → ∀ e ∈ es', e.cells.length = s) _ h2
  by_cases hm0 : es'.length = 0
  · have hnil : es' = [] := List.eq_nil_of_length_eq_zero hm0
    subst hnil
    have hrun : (Builtin.append_ #[T, T] o.type #[a.eval x, a.eval y]).run P w = .ok (a.eval x) w := by
      rw [hyv]
      have e0 : ([] : List Dat).length = 0 := rfl
      have hu0 : us = [] := List.eq_nil_of_length_eq_zero (by simpa using hul)
      rw [hv, e0]
      cases ao0 <;> cases ao with
      | none => simp [Builtin.append_, run_underlying f1, sizeOf, typeInfo, z1, Builtin.lenOf, Builtin.firstCells, storeCells]
      | some ad => simp [Builtin.append_, run_underlying f1, sizeOf, typeInfo, z1, Builtin.lenOf, Builtin.firstCells, loadCells, loadCellsFrom, storeCells]
    have hR : RepS w D β (a.eval x) (.d (.sl t' s [])) := by
      rw [hv]
      exact Rep.sl 0 0 (fun _ => undef) rfl (Nat.le_refl _) (Nat.zero_le _) (by simp) (fun h => absurd h (Nat.lt_irrefl 0)) (by simp [flat]) (by simp [flat]) (by simp [flat]) (by simp [flat])
    unfold Oper.wp execOp
    simp only [ho, resolve, invoke, builtin, Sem.run_bind, Sem.run_pure, Result.andThen_ok, List.map_toArray, List.map_cons, List.map_nil, hrun]
    exact ⟨_, D, rfl, Below.refl _ _, DUp.of_same D, hR⟩
  · obtain ⟨ad, rfl, hcell⟩ := had (by omega)
    have key : ∃ (G : Nat) (arr : List Value) (w' : World), (Builtin.append_ #[T, T] o.type #[a.eval x, a.eval y]).run P w = .ok (.slice (some ⟨w.heap.size, 0, none⟩) es'.length G) w' ∧ w' = w.drew.alloc (.cells (us ++ arr).toArray E) ∧ es'.length ≤ G ∧ G ≤ maxLen := by
      cases ao0 with
      | none =>
        have hbytes : es'.length * i.bytes ≤ 281474976710656 := by omega
        have hr := run_append_nil (P := P) w T o.type E i z f1 z1 z2 ad es'.length c us (by rw [hul, f3]) hcell (by omega) (by omega) hbytes
        have hge := grownCap_ge w es'.length 0 E
        have hcm := grownCap_le_maxLen w es'.length 0 E (by omega)
        generalize grownCap w es'.length 0 E = G at hr hge hcm
        exact ⟨G, (Builtin.zeroCells z.cells (G - es'.length)).toList, _, by rw [hv, hyv]; exact hr, by congr 2; apply Array.ext'; simp, hge, hcm⟩
      | some b0 =>
        have hr := run_append_grow (P := P) w T o.type E i z f1 z1 z2 b0 0 0 [] (by simp) (by simp) ad es'.length c us (by rw [hul, f3]) hcell (by omega) (by omega) (growslice_fits (by omega) (by rw [Nat.zero_add]; exact hbig'))
        rw [Nat.zero_add] at hr
        have hge := grownCap_ge w es'.length 0 E
        have hcm := grownCap_le_maxLen w es'.length 0 E (by omega)
        generalize grownCap w es'.length 0 E = G at hr hge hcm
        exact ⟨G, (Builtin.zeroCells z.cells (G - es'.length)).toList, _, by rw [hv, hyv]; exact hr, by congr 2; apply Array.ext'; simp, hge, hcm⟩
    obtain ⟨G, arr, w', hrun, hw', hge, hcm⟩ := key
    have hfl := flat_length hsl
    have hbel : Below w.heap.size w w' := by subst hw'; exact ⟨rfl, rfl, rfl, by simp, fun q hq => heap_alloc_old w.drew _ hq⟩
    have hrow : w'.heap[w.heap.size]? = some (.cells (us ++ arr).toArray E (0, 0)) := by subst hw'; exact heap_alloc_new w.drew _
    have hcells : ∀ q, w'.cell? ⟨w.heap.size, q, none⟩ = (us ++ arr)[q]? := fun q => by rw [cell_of_row w' w.heap.size q _ E (0, 0) hrow]; simp
    have hsz : w'.heap.size = w.heap.size + 1 := by subst hw'; simp
    have hmono : ∀ t g q, D t g q → (D t g q ∨ (t = t' ∧ g = w.heap.size ∧ q < us.length)) ∧ w'.cell? ⟨g, q, none⟩ = w.cell? ⟨g, q, none⟩ := fun t g q hd => ⟨.inl hd, cell_below hbel (hD t g q hd)⟩
    have hul2 : us.length = (flat es').length := by rw [hul, hfl]
    unfold Oper.wp execOp
    simp only [ho, resolve, invoke, builtin, Sem.run_bind, Sem.run_pure, Result.andThen_ok, List.map_toArray, List.map_cons, List.map_nil, hrun]
    refine ⟨_, fun t g q => D t g q ∨ (t = t' ∧ g = w.heap.size ∧ q < us.length), rfl, hbel, ⟨fun t g q h => .inl h, fun t g q h => ?_⟩, ?_⟩
    · rcases h with h | ⟨_, h, _⟩
      · exact .inl h
      · exact .inr ⟨by omega, by omega⟩
    · refine Rep.sl w.heap.size 0 (fun q => (us ++ arr).getD q undef) rfl hge hcm hsl (fun _ => rfl) (fun q hq => .inr ⟨rfl, rfl, by omega⟩) (fun q hq => ?_) (fun q hq => ?_) (fun q d hq => ?_)
      · rw [Nat.zero_add, hcells, List.getElem?_append_left (by omega)]
        simp [List.getD, List.getElem?_append_left (by omega : q < us.length), List.getElem?_eq_getElem (by omega : q < us.length)]
      · rw [List.getD, List.getElem?_append_left (by omega), List.getElem?_eq_getElem (by omega : q < us.length)]
        exact hone _ (by simp)
      · have hq' := (List.getElem?_eq_some_iff.1 hq).1
        rw [List.getD, List.getElem?_append_left (by omega), List.getElem?_eq_getElem (by omega : q < us.length)]
        exact Rep.mono hmono (hrep q _ d (List.getElem?_eq_getElem (by omega)) hq)
end
abbrev bxs {α : Type} (F : α → Dat) (L : List α) : List SV := (flat (L.map F)).map SV.d
theorem flat_maplen {α : Type} (F : α → Dat) {s : Nat} (hF : ∀ g, (F g).cells.length = s) (L : List α) : (flat (L.map F)).length = L.length * s := by
  rw [flat_length (s := s) (fun e he => by
    rw [List.mem_map] at he
    obtain ⟨g, _, rfl⟩ := he
    exact hF g), List.length_map]
theorem map_celllen {α : Type} (F : α → Dat) {s : Nat} (hF : ∀ g, (F g).cells.length = s) (L : List α) : ∀ e ∈ L.map F, e.cells.length = s := fun e he => by
  rw [List.mem_map] at he
  obtain ⟨g, _, rfl⟩ := he
  exact hF g
section
variable {P : Program} {n : Fr} {ops : Array Oper} {S S' : SL} {B B' : BS} {l : List Oper} {o : Oper}
theorem appP_sem {α : Type} {d : Tmp} {T E t' : TypeId} {x y : Operand} {k s m bytes : Nat} {zv : List Value} (F : α → Dat) (L L' : List α) (hF : ∀ g, (F g).cells.length = s) (ho : o.op = .call { callee := .builtin .append, args := #[x, y], argTypes := #[T, T] }) (hdst : o.dst = some d) (hd : dstB n (some d) = true)
    (hT : elemB P T = some (E, s)) (hz : zeroB P E = some zv) (hzl : zv.length = s) (hby : bytesB P E = some bytes) (hx : ev (sget S) x = .own k E s m) (hb : bget B k = some (bxs F L)) (hL : L.length = m) (hy : ev (sget S) y = .d (.sl t' s (L'.map F)))
    (hbig : m + L'.length ≤ maxLen) (hbig' : (m + L'.length) * bytes ≤ 140737488355328) (hB : Clr k B) (C : Ctx) (a : Act) (w : World) (Q : Exit → Act → World → Prop) (hn : C.n = n) (hs : Sim C a w ⟨S, B⟩) : o.wp P a w (fun a' w' => Sim C a' w' ⟨(d, .d (.sl E s ((L ++ L').map F))) :: forget k S, (k, none) :: B⟩) Q := by
  have h0 := app_sound (st := ⟨S, B⟩) (N := n) (es := L.map F) (es' := L'.map F) ho (by rw [hdst]; exact hd) hT hz hzl hby hx hb rfl (by rw [flat_maplen F hF, hL]) hy (by simpa using hbig) (by simpa using hbig') hB C a w Q hn hs
  rw [hdst] at h0
  refine Oper.wp_mono (fun a' w' h1 => ?_) h0
  have h2 := publish (st := ⟨(d, .own k E s (m + (L'.map F).length)) :: forget k S, (k, some ((flat (L.map F ++ L'.map F)).map .d)) :: B⟩) (t := d) (k := k) (s := s) (m := m + (L'.map F).length) (T := E) (cs := (flat (L.map F ++ L'.map F)).map .d) (es := (L ++ L').map F)
    (by simp [sget_cons]) (by simp [bget_cons]) (map_celllen F hF _) (by simp [hL]) (by rw [← List.map_append]; rw [List.take_of_length_le]; rw [List.length_map, flat_maplen F hF, List.length_append, hL, List.length_map]; exact Nat.le_refl _)
  obtain ⟨D, β, h3⟩ := h2 C a' w' h1
  refine ⟨D, β, h3.base, ⟨fun j c hj => ?_, fun j1 j2 c1 c2 q1 q2 => ?_⟩, fun j c hj => ?_, fun t => ?_⟩
  · rw [bget_cons] at hj
    split at hj
    · cases hj
    · rename_i e; exact h3.mem.ok j c (by rw [bget_cons, if_neg e, bget_cons, if_neg e]; exact hj)
  · have conv : ∀ {j : Nat} {c : List SV}, bget ((k, none) :: B) j = some c → bget ((k, none) :: (k, some ((flat (L.map F ++ L'.map F)).map .d)) :: B) j = some c := fun {j c} hj => by
      rw [bget_cons] at hj
      split at hj
      · cases hj
      · rename_i e; rw [bget_cons, if_neg e, bget_cons, if_neg e]; exact hj
    exact h3.mem.inj j1 j2 c1 c2 (conv q1) (conv q2)
  · rw [bget_cons] at hj
    split at hj
    · cases hj
    · rename_i e; exact h3.high j c (by rw [bget_cons, if_neg e, bget_cons, if_neg e]; exact hj)
  · have h4 := h3.slots t
    have e1 : sget ((d, SV.d (.sl E s ((L ++ L').map F))) :: forget k S) t = sget ((d, SV.d (.sl E s ((L ++ L').map F))) :: (d, .own k E s (m + (L'.map F).length)) :: forget k S) t := by
      rw [sget_cons, sget_cons, sget_cons]
      split
      · rfl
      · rfl
    show RepS w' D β _ (sget ((d, SV.d (.sl E s ((L ++ L').map F))) :: forget k S) t)
    rw [e1]
    exact h4
theorem bxs_one {α : Type} (F : α → Dat) (hF : ∀ g, (F g).cells = [F g]) (L : List α) : bxs F L = L.map (fun g => SV.d (F g)) := by
  unfold bxs; rw [flat_one F hF, List.map_map]; rfl
end
end Go.Fid
namespace Go.Fid
theorem cmpQ_le {a b : Rat} : cmpQ a b ≤ 0 ↔ a ≤ b := by
  unfold cmpQ
  by_cases h : a < b
  · rw [if_pos h]; exact ⟨fun _ => Rat.le_of_lt h, fun _ => by decide⟩
  · rw [if_neg h]
    by_cases h2 : b < a
    · rw [if_pos h2]; exact ⟨fun h3 => by omega, fun h3 => absurd h3 (Rat.not_le.2 h2)⟩
    · rw [if_neg h2]; exact ⟨fun _ => Rat.not_lt.1 h2, fun _ => by decide⟩
theorem cmpQ_gt {a b : Rat} : 0 < cmpQ a b ↔ b < a := by
  unfold cmpQ
  by_cases h : a < b
  · rw [if_pos h]; exact ⟨fun h3 => by omega, fun h3 => absurd (Rat.le_of_lt h3) (Rat.not_le.2 h)⟩
  · rw [if_neg h]
    by_cases h2 : b < a
    · rw [if_pos h2]; exact ⟨fun _ => h2, fun _ => by decide⟩
    · rw [if_neg h2]; exact ⟨fun h3 => by omega, fun h3 => absurd h3 h2⟩
theorem cmpQ_eq {a b : Rat} : cmpQ a b = 0 ↔ a = b := by
  unfold cmpQ
  by_cases h : a < b
  · rw [if_pos h]; exact ⟨fun h3 => by omega, fun h3 => absurd h (h3 ▸ Rat.lt_irrefl)⟩
  · rw [if_neg h]
    by_cases h2 : b < a
    · rw [if_pos h2]; exact ⟨fun h3 => by omega, fun h3 => absurd h2 (h3 ▸ Rat.lt_irrefl)⟩
    · rw [if_neg h2]; exact ⟨fun _ => Rat.le_antisymm (Rat.not_lt.1 h2) (Rat.not_lt.1 h), fun _ => rfl⟩
theorem sameR_eq (x y : RRat) : ((validR x && validR y) && (cmpQ (toQ x) (toQ y) == 0)) = (validR x && (validR y && decide (toQ x = toQ y))) := by
  rw [Bool.and_assoc]
  congr 2
  rw [Bool.eq_iff_iff, beq_iff_eq, decide_eq_true_eq, cmpQ_eq]
def sameR (x y : RRat) : Bool := validR x && (validR y && decide (toQ x = toQ y))
theorem sameR_of (p q : Rat) : sameR (ofQ p) (ofQ q) = decide (p = q) := by
  unfold sameR; simp only [validR_ofQ, toQ_ofQ, Bool.true_and]
end Go.Fid
