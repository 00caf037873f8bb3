/- Part 10 of a proof: rules, plain facts, and functions walked. -/
import Derived.Test.YtihgdjljnaekmaaGreatM9
namespace Go.Fid
set_option linter.unusedVariables false
set_option linter.unusedSimpArgs false
def lenZ (z : Int) : Nat := (ofNat z.natAbs).length
theorem ofZ_len (z : Int) : (ofZ z).gs.length = lenZ z := rfl
theorem toZ_natAbs (x : RInt) : (toZ x).natAbs = val (grpI x) := by
  unfold toZ sgn; split <;> simp
theorem grpI_eq (x : RInt) : grpI x = ofNat (toZ x).natAbs := by rw [toZ_natAbs]; exact can_eq (grpI_can x)
theorem toZ_len (x : RInt) : lenZ (toZ x) ≤ x.gs.length := by unfold lenZ; rw [← grpI_eq]; exact grpI_len x
theorem validI_of {b : Bool} {l : List Nat} (h : Cano l) (hb : l = [] → b = false) : validI ⟨b, l⟩ = true := by
  unfold validI
  by_cases h0 : l = []
  · subst h0; simp [hb rfl]
  · have h1 : l.length ≠ 0 := fun e => h0 (List.eq_nil_of_length_eq_zero e)
    rw [if_neg (by show ((l.length : Nat) : Int) ≠ 0; omega)]
    obtain ⟨h2, _⟩ := top_pos h (by omega)
    have h3 : firstBig l = -1 := firstBig_neg h.1
    simp only [Bool.and_eq_true, Bool.not_eq_true', decide_eq_false_iff_not, bne_iff_ne]
    rw [h3]
    exact ⟨by omega, by omega⟩
theorem validI_iff {x : RInt} : validI x = true ↔ Cano x.gs ∧ (x.gs = [] → x.neg = false) := by
  refine ⟨fun h => ?_, fun ⟨h1, h2⟩ => validI_of h1 h2⟩
  have h1 := grpI_can x
  unfold grpI at h1
  rw [if_pos h] at h1
  refine ⟨h1, fun h0 => ?_⟩
  unfold validI at h
  rw [if_pos (by rw [h0]; rfl)] at h
  simpa using h
theorem validI_ofZ (z : Int) : validI (ofZ z) = true := validI_iff.2 ⟨ofNat_can _, fun h => by
  have h1 : z.natAbs = 0 := ofNat_nil.1 h
  have h2 : z = 0 := by omega
  subst h2; rfl⟩
theorem grpI_ofZ (z : Int) : grpI (ofZ z) = ofNat z.natAbs := by unfold grpI; rw [if_pos (validI_ofZ z)]; rfl
theorem ofZ_neg (z : Int) : (ofZ z).neg = decide (z < 0) := by
  unfold ofZ mkI
  by_cases h : z < 0
  · have : (z.natAbs != 0) = true := bne_iff_ne.2 (by omega)
    simp [h, this]
  · simp [h]
theorem toZ_ofZ (z : Int) : toZ (ofZ z) = z := by
  unfold toZ sgn
  rw [grpI_ofZ, ofZ_neg, ofNat_val]
  by_cases h : z < 0
  · simp [h]; omega
  · simp [h]; omega
theorem ofZ_toZ {x : RInt} (h : validI x = true) : ofZ (toZ x) = x := by
  obtain ⟨h1, h2⟩ := validI_iff.1 h
  obtain ⟨b, l⟩ := x
  have e : grpI ⟨b, l⟩ = l := by unfold grpI; rw [if_pos h]
  have e1 : toZ ⟨b, l⟩ = sgn b (val l) := by unfold toZ; rw [e]
  rw [e1, ← mkI_eq]
  unfold mkI
  rw [← can_eq h1]
  congr 1
  cases b with
  | false => rfl
  | true =>
    have : val l ≠ 0 := fun e0 => by
      have h3 := h2 (val_zero_nil h1 e0)
      cases h3
    simp [this]
theorem toZ_bad {x : RInt} (h : validI x = false) : toZ x = 0 := by
  unfold toZ grpI
  rw [if_neg (by rw [h]; simp)]
  unfold sgn; split <;> rfl
theorem lenZ_le {z : Int} {n : Nat} : lenZ z ≤ n ↔ z.natAbs < pw n := by
  refine ⟨fun h => Nat.lt_of_lt_of_le (ofNat_lt_pw _) (pw_mono h), fun h => ofNat_length_le h⟩
theorem lenZ_neg (z : Int) : lenZ (-z) = lenZ z := by unfold lenZ; rw [Int.natAbs_neg]
theorem lenZ_of_le {y z : Int} (h : y.natAbs ≤ z.natAbs) : lenZ y ≤ lenZ z := ofNat_len_mono h
theorem lenZ_add {a b : Int} {m n k : Nat} (ha : lenZ a ≤ m) (hb : lenZ b ≤ n) (h : max m n + 1 ≤ k) : lenZ (a + b) ≤ k := by
  have h1 := lenZ_le.1 ha
  have h2 := lenZ_le.1 hb
  refine lenZ_le.2 ?_
  have h3 : pw m ≤ pw (max m n) := pw_mono (by omega)
  have h4 : pw n ≤ pw (max m n) := pw_mono (by omega)
  have h5 : pw (max m n + 1) ≤ pw k := pw_mono h
  rw [pw_succ] at h5
  have h6 := Int.natAbs_add_le a b
  omega
theorem lenZ_mul {a b : Int} {m n k : Nat} (ha : lenZ a ≤ m) (hb : lenZ b ≤ n) (h : m + n ≤ k) : lenZ (a * b) ≤ k := by
  refine lenZ_le.2 ?_
  rw [Int.natAbs_mul]
  refine Nat.lt_of_lt_of_le ?_ (pw_mono h)
  rw [pw_add]
  exact Nat.mul_lt_mul_of_lt_of_le (lenZ_le.1 ha) (Nat.le_of_lt (lenZ_le.1 hb)) (pw_pos _)
structure IOk (x : RInt) (z : Int) (n : Nat) : Prop where
  v : toZ x = z
  l : x.gs.length ≤ n
theorem IOk.ln {x : RInt} {z : Int} {n : Nat} (h : IOk x z n) : lenZ z ≤ n := by rw [← h.v]; exact Nat.le_trans (toZ_len x) h.l
theorem iok_of {z : Int} {n : Nat} (h : lenZ z ≤ n) : IOk (ofZ z) z n := ⟨toZ_ofZ z, h⟩
theorem iok_raw {x : RInt} {n : Nat} (h : x.gs.length ≤ n) : IOk x (toZ x) n := ⟨rfl, h⟩
theorem iok_add {x y : RInt} {a b : Int} {m n k : Nat} (hx : IOk x a m) (hy : IOk y b n) (h : max m n + 1 ≤ k) : IOk (ofZ (a + b)) (a + b) k := iok_of (lenZ_add hx.ln hy.ln h)
theorem iok_mul {x y : RInt} {a b : Int} {m n k : Nat} (hx : IOk x a m) (hy : IOk y b n) (h : m + n ≤ k) : IOk (ofZ (a * b)) (a * b) k := iok_of (lenZ_mul hx.ln hy.ln h)
theorem iok_neg {x : RInt} {a : Int} {m : Nat} (hx : IOk x a m) : IOk (ofZ (-a)) (-a) m := iok_of (by rw [lenZ_neg]; exact hx.ln)
theorem iok_up {x : RInt} {a : Int} {m n : Nat} (hx : IOk x a m) (h : m ≤ n) : IOk x a n := ⟨hx.v, Nat.le_trans hx.l h⟩
theorem iu {x : RInt} {a : Int} {m n : Nat} (hx : IOk x a m) (h : m ≤ n := by decide) : IOk x a n := iok_up hx h
theorem iok_small {z : Int} (h : z.natAbs < 1000000000) : IOk (ofZ z) z 1 := iok_of (lenZ_le.2 (by rw [show (1 : Nat) = 0 + 1 from rfl, pw_succ, pw_zero]; omega))
theorem signI_sub (a b : Int) : signI (a - b) = cmpI a b := by
  unfold signI cmpI
  split
  · rw [if_neg (by omega), if_neg (by omega)]
  · split
    · rw [if_pos (by omega)]
    · rw [if_neg (by omega), if_pos (by omega)]
theorem cmpI_neg {a b : Nat} (h : cmpI (a : Int) (b : Int) < 0) : a < b := by
  unfold cmpI at h
  split at h
  · omega
  · split at h <;> omega
theorem cmpI_nn {a b : Nat} (h : ¬ cmpI (a : Int) (b : Int) < 0) : b ≤ a := by
  unfold cmpI at h
  split at h
  · omega
  · omega
theorem word_both {a b : List Nat} (ha : Dig a) (h : (wordB a && wordB b) = true) : wordV a = val a ∧ wordV b = val b ∧ val a < 1000000000000000000 := by
  unfold wordB at h
  rw [Bool.and_eq_true, decide_eq_true_eq, decide_eq_true_eq] at h
  unfold wordV
  rw [if_pos h.1, if_pos h.2]
  exact ⟨rfl, rfl, val_len2 ha h.1⟩
theorem val_pos_len {b : List Nat} (h : 0 < val b) : 0 < b.length := by
  rcases b with _ | ⟨d, l⟩
  · rw [val_nil] at h; omega
  · simp
theorem len_pos_val {b : List Nat} (hb : Cano b) (h : 0 < b.length) : 0 < val b := by
  have h1 := val_top hb.1 h
  have h2 := top_pos hb h
  have h3 := Nat.mul_le_mul_right (pw (b.length - 1)) h2.1
  have h4 := pw_pos (b.length - 1)
  rw [Nat.succ_mul] at h3
  omega
theorem val_len1 {b : List Nat} (h : b.length = 1) : val b = b.getD 0 0 := by
  rcases b with _ | ⟨d, _ | ⟨e, l⟩⟩
  · simp at h
  · simp [val]
  · simp at h
theorem len_quo (l : List Nat) (hl : Cano l) (n : Nat) : (ofNat (val l / n)).length ≤ l.length := by
  have h1 := ofNat_len_mono (Nat.div_le_self (val l) n)
  rwa [← can_eq hl] at h1
theorem len_rem (l : List Nat) (hl : Cano l) (n : Nat) : (ofNat (val l % n)).length ≤ l.length := by
  have h1 := ofNat_len_mono (Nat.mod_le (val l) n)
  rwa [← can_eq hl] at h1
theorem gcd_toZ (x y : RInt) : Nat.gcd (val (grpI x)) (val (grpI y)) = Int.gcd (toZ x) (toZ y) := by
  unfold Int.gcd; rw [toZ_natAbs, toZ_natAbs]
theorem mkI_false (n : Nat) : mkI false n = ofZ (n : Int) := mkI_eq false n
theorem r_made_end {neg : Bool} {l : List Nat} {k : Nat} (hd : Dig l) (hk : k ≤ l.length) (hv : val (l.take k) = val l) (h : (decide ((0 : Int) < ((k : Nat) : Int)) && (((l.getD (k - 1) 0 : Nat) : Int) == 0)) = false) : mkI neg (val l) = ⟨neg && decide ((0 : Int) < ((k : Nat) : Int)), l.take k⟩ := by
  have hc : Cano (l.take k) := by
    refine ⟨hd.take k, ?_⟩
    unfold Top
    rw [List.length_take, Nat.min_eq_left hk]
    rcases Nat.eq_zero_or_pos k with h0 | h0
    · subst h0; simp
    · rw [Bool.and_eq_false_iff] at h
      rcases h with h | h
      · rw [decide_eq_false_iff_not] at h; omega
      · have h1 := ne_of_beq_false h
        have h6 : k - 1 < l.length := by omega
        simp [List.getD, List.getElem?_eq_getElem h6, List.getElem?_take_of_lt (show k - 1 < k by omega)] at h1 ⊢
        exact h1
  unfold mkI
  rw [← hv, ← can_eq hc]
  congr 1
  congr 1
  rcases Nat.eq_zero_or_pos k with h0 | h0
  · subst h0; simp [val]
  · have h1 : 0 < val (l.take k) := len_pos_val hc (by rw [List.length_take]; omega)
    have h2 : (val (l.take k) != 0) = true := bne_iff_ne.2 (by omega)
    rw [h2]; symm; exact decide_eq_true (by omega)
theorem r_made_step {l : List Nat} {k : Nat} (hk : k ≤ l.length) (hv : val (l.take k) = val l) (h : (decide ((0 : Int) < ((k : Nat) : Int)) && (((l.getD (k - 1) 0 : Nat) : Int) == 0)) = true) : 0 < k ∧ val (l.take (k - 1)) = val l := by
  rw [Bool.and_eq_true, decide_eq_true_eq, beq_iff_eq] at h
  have h0 : 0 < k := by omega
  refine ⟨h0, ?_⟩
  have h1 := val_take_succ l (k - 1)
  rw [show k - 1 + 1 = k by omega, show l.getD (k - 1) 0 = 0 by omega] at h1
  omega
theorem validI_big {x : RInt} {i : Nat} (h : i < x.gs.length) (hb : ¬ x.gs.getD i 0 < 1000000000) : validI x = false := by
  rcases hv : validI x with _ | _
  · rfl
  · exact absurd ((validI_iff.1 hv).1.1.getD i) hb
theorem validI_nil {x : RInt} (h : x.gs.length = 0) : validI x = !x.neg := by unfold validI; rw [if_pos (by omega)]
theorem validI_dig {x : RInt} (hd : Dig x.gs) (h : x.gs.length ≠ 0) : validI x = (((x.gs.getD (x.gs.length - 1) 0 : Nat) : Int) != 0) := by
  unfold validI
  rw [if_neg (by omega), firstBig_neg hd]
  simp
theorem push_step {o : List Nat} {i s : Nat} (hl : o.length = i) : val (o ++ [s % 1000000000]) + pw (i + 1) * (s / 1000000000) = val o + pw i * s := by
  rw [val_append, hl, val_one, pw_succ]
  have h := Nat.mod_add_div s 1000000000
  have h2 : pw i * s = pw i * (s % 1000000000) + pw i * (1000000000 * (s / 1000000000)) := by rw [← Nat.mul_add, h]
  rw [h2, Nat.mul_comm 1000000000 (pw i), Nat.mul_assoc]
  omega
theorem dig_push {o : List Nat} (h : Dig o) {d : Nat} (hd : d < 1000000000) : Dig (o ++ [d]) := dig_append.2 ⟨h, dig_cons.2 ⟨hd, dig_nil⟩⟩
theorem rplus_step {a b o : List Nat} {i c s : Nat} (hl : o.length = i) (hv : val o + pw i * c = val (a.take i) + val (b.take i)) (hs : s = a.getD i 0 + b.getD i 0 + c) :
    val (o ++ [s % 1000000000]) + pw (i + 1) * (s / 1000000000) = val (a.take (i + 1)) + val (b.take (i + 1)) := by
  rw [push_step hl, val_take_succ, val_take_succ, hs, Nat.mul_add, Nat.mul_add]
  omega
theorem rminus_step {a b o : List Nat} {i c s : Nat} (hl : o.length = i) (hv : val o + val (b.take i) = val (a.take i) + pw i * c) (hs : s + b.getD i 0 + c = 1000000000 + a.getD i 0) (h1 : s / 1000000000 ≤ 1) :
    val (o ++ [s % 1000000000]) + val (b.take (i + 1)) = val (a.take (i + 1)) + pw (i + 1) * (1 - s / 1000000000) := by
  have h := push_step (o := o) (i := i) (s := s) hl
  have h2 : pw (i + 1) * (1 - s / 1000000000) + pw (i + 1) * (s / 1000000000) = pw (i + 1) := by
    rw [← Nat.mul_add, Nat.sub_add_cancel h1, Nat.mul_one]
  have h3 := congrArg (pw i * ·) hs
  simp only [Nat.mul_add] at h3
  rw [val_take_succ, val_take_succ]
  rw [pw_succ] at h h2 ⊢
  rw [Nat.mul_comm (pw i) 1000000000] at h3
  omega
theorem rscaled_step {a o : List Nat} {i c d s : Nat} (hl : o.length = i) (hv : val o + pw i * c = val (a.take i) * d) (hs : s = a.getD i 0 * d + c) :
    val (o ++ [s % 1000000000]) + pw (i + 1) * (s / 1000000000) = val (a.take (i + 1)) * d := by
  rw [push_step hl, val_take_succ, hs, Nat.mul_add, Nat.add_mul, Nat.mul_assoc]
  omega
theorem val_push {o : List Nat} {i c : Nat} (hl : o.length = i) : val (o ++ [c]) = val o + pw i * c := by rw [val_append, hl, val_one]
theorem take_all {a : List Nat} {i : Nat} (h : a.length ≤ i) : a.take i = a := List.take_of_length_le h
theorem rminus_end {a b o : List Nat} {i c : Nat} (hda : Dig a) (hb : Dig b) (hd : Dig o) (hi : i = a.length) (hl : o.length = i) (hba : val b ≤ val a) (hv : val o + val (b.take i) = val (a.take i) + pw i * c) : val o = val a - val b := by
  have h1 : val (b.take i) = val b := val_take_of_lt (by rw [hi]; exact Nat.lt_of_le_of_lt hba (val_lt hda))
  rw [h1, hi, List.take_length] at hv
  have h2 := val_lt hd
  rw [hl, hi] at h2
  rcases Nat.eq_zero_or_pos c with h3 | h3
  · subst h3; omega
  · have := Nat.mul_le_mul_left (pw a.length) h3
    omega
theorem sgn_ofZ (X : Int) : sgn (ofZ X).neg X.natAbs = X := by
  rw [ofZ_neg]; unfold sgn
  by_cases h : X < 0
  · simp [h]; omega
  · simp [h]; omega
theorem rneg_eq (X : Int) : mkI (!(ofZ X).neg) (val (ofNat X.natAbs)) = ofZ (-X) := by
  rw [mkI_eq, ofNat_val]
  congr 1
  have h := sgn_ofZ X
  unfold sgn at h ⊢
  cases hn : (ofZ X).neg <;> simp [hn] at h ⊢ <;> omega
theorem rsum_same {X Y : Int} (h : (ofZ X).neg = (ofZ Y).neg) : mkI (ofZ X).neg (val (ofNat (val (ofNat X.natAbs) + val (ofNat Y.natAbs)))) = ofZ (X + Y) := by
  rw [sum_same h, ofNat_val, ofNat_val, sgn_ofZ, sgn_ofZ]
theorem rsum_first {X Y : Int} (h : (ofZ X).neg ≠ (ofZ Y).neg) (hn : val (ofNat Y.natAbs) ≤ val (ofNat X.natAbs)) : mkI (ofZ X).neg (val (ofNat (val (ofNat X.natAbs) - val (ofNat Y.natAbs)))) = ofZ (X + Y) := by
  rw [sum_first h hn, ofNat_val, ofNat_val, sgn_ofZ, sgn_ofZ]
theorem rsum_second {X Y : Int} (h : (ofZ X).neg ≠ (ofZ Y).neg) (hn : val (ofNat X.natAbs) ≤ val (ofNat Y.natAbs)) : mkI (ofZ Y).neg (val (ofNat (val (ofNat Y.natAbs) - val (ofNat X.natAbs)))) = ofZ (X + Y) := by
  rw [sum_second h hn, ofNat_val, ofNat_val, sgn_ofZ, sgn_ofZ]
theorem rmul_eq (X Y : Int) : mkI (!((ofZ X).neg == (ofZ Y).neg)) (val (ofNat X.natAbs) * val (ofNat Y.natAbs)) = ofZ (X * Y) := by
  have h := mul_eq (b := (ofZ X).neg) (c := (ofZ Y).neg) (val (ofNat X.natAbs)) (val (ofNat Y.natAbs))
  rw [ofNat_val (val (ofNat X.natAbs) * val (ofNat Y.natAbs))] at h
  rw [h, ofNat_val, ofNat_val, sgn_ofZ, sgn_ofZ]
theorem rsign_zero {X : Int} (h : (((ofNat X.natAbs).length : Nat) : Int) = 0) : signI X = 0 := by
  have h1 : X.natAbs = 0 := ofNat_nil.1 (List.eq_nil_of_length_eq_zero (by omega))
  have h2 : X = 0 := by omega
  subst h2; rfl
theorem rsign_ne {X : Int} (h : (((ofNat X.natAbs).length : Nat) : Int) ≠ 0) : X ≠ 0 := fun e => h (by subst e; simp [ofNat_zero])
theorem rsign_neg {X : Int} (h : (((ofNat X.natAbs).length : Nat) : Int) ≠ 0) (hn : (ofZ X).neg = true) : signI X = -1 := by
  have h1 := rsign_ne h
  rw [ofZ_neg, decide_eq_true_eq] at hn
  unfold signI; rw [if_neg h1, if_pos hn]
theorem rsign_pos {X : Int} (h : (((ofNat X.natAbs).length : Nat) : Int) ≠ 0) (hn : (ofZ X).neg = false) : signI X = 1 := by
  have h1 := rsign_ne h
  rw [ofZ_neg, decide_eq_false_iff_not] at hn
  unfold signI; rw [if_neg h1, if_neg hn]
theorem gs_val (x : RInt) : (ofZ (toZ x)).gs.length ≤ x.gs.length := toZ_len x
theorem gs_val2 (x : RInt) : (ofNat (toZ x).natAbs).length ≤ x.gs.length := toZ_len x
theorem gs_neg (x : RInt) : (ofZ (-toZ x)).gs.length ≤ x.gs.length := by rw [ofZ_len, lenZ_neg]; exact toZ_len x
theorem gs_sub (x y : RInt) : (ofZ (toZ x - toZ y)).gs.length ≤ max x.gs.length y.gs.length + 1 := by
  rw [Int.sub_eq_add_neg, ofZ_len]; exact lenZ_add (toZ_len x) (by rw [lenZ_neg]; exact toZ_len y) (Nat.le_refl _)
theorem gs_mul (x y : RInt) : (ofZ (toZ x * toZ y)).gs.length ≤ x.gs.length + y.gs.length := lenZ_mul (toZ_len x) (toZ_len y) (Nat.le_refl _)
theorem val_pair {l : List Nat} (h : l.length ≤ 2) : val l = l.getD 1 0 * 1000000000 + l.getD 0 0 := by
  rcases l with _ | ⟨d, _ | ⟨e, _ | ⟨f, l⟩⟩⟩
  · rfl
  · simp [val]
  · simp [val]; omega
  · simp at h
theorem rshift_val {q : List Nat} (u : List Nat) {i V r : Nat} (h : val (u.drop (i + 1)) = V * val (q.drop (i + 1)) + r) : val (u.drop i) = V * (1000000000 * val (q.drop (i + 1))) + (u.getD i 0 + 1000000000 * r) := by
  rw [val_drop_one u i, h, Nat.mul_left_comm]
  rw [Nat.mul_add]; omega
theorem rguess {v : List Nat} {W n : Nat} (hv : Dig v) (hn : v.length = n) (h1 : 1 ≤ n) (hW : W < 1000000000 * val v) :
    ((ofNat W).getD n 0 * 1000000000 + (ofNat W).getD (n - 1) 0) / (v.getD (n - 1) 0 + 1) * val v ≤ W ∧ ((ofNat W).getD n 0 * 1000000000 + (ofNat W).getD (n - 1) 0) / (v.getD (n - 1) 0 + 1) < 1000000000 := by
  have hw := val_lt hv
  have ht := val_top hv (by omega)
  rw [hn] at hw ht
  have hp := pw_pos (n - 1)
  have e1 := val_drop_split (ofNat W) 0 (n - 1)
  have e2 := val_drop_one (ofNat W) (n - 1)
  have e3 := val_drop_one (ofNat W) n
  have e5 : W < pw (n + 1) := by rw [pw_succ]; omega
  have e4 : (ofNat W).drop (n + 1) = [] := List.drop_eq_nil_of_le (ofNat_length_le e5)
  rw [e4, val_nil] at e3
  rw [show n - 1 + 1 = n by omega] at e2
  rw [List.drop_zero, ofNat_val, Nat.zero_add] at e1
  generalize (ofNat W).getD n 0 = t1 at *
  generalize (ofNat W).getD (n - 1) 0 = t0 at *
  generalize v.getD (n - 1) 0 = v1 at *
  have e6 : pw (n - 1) * (t1 * 1000000000 + t0) ≤ W := by
    have : t1 * 1000000000 + t0 = val ((ofNat W).drop (n - 1)) := by omega
    rw [this]; omega
  have e7 := Nat.div_mul_le_self (t1 * 1000000000 + t0) (v1 + 1)
  generalize (t1 * 1000000000 + t0) / (v1 + 1) = G at *
  have e8 : G * val v ≤ W := by
    refine Nat.le_trans (Nat.mul_le_mul_left G (Nat.le_of_lt ht.2)) (Nat.le_trans ?_ e6)
    rw [← Nat.mul_assoc, Nat.mul_comm (pw (n - 1))]
    exact Nat.mul_le_mul_right _ e7
  refine ⟨e8, ?_⟩
  have e9 : G * val v < 1000000000 * val v := by omega
  exact Nat.lt_of_mul_lt_mul_right e9
theorem rquo_lt {G V r W : Nat} (h : V * G + r = W) (hW : W < 1000000000 * V) : G < 1000000000 := by
  have h1 : G * V < 1000000000 * V := by rw [Nat.mul_comm G V]; omega
  exact Nat.lt_of_mul_lt_mul_right h1
theorem rround {u q : List Nat} {V G r i : Nat} (hi : i < q.length) (h : val (u.drop i) = V * (1000000000 * val (q.drop (i + 1))) + (V * G + r)) : val (u.drop i) = V * val ((q.set i G).drop i) + r := by
  rw [h, val_drop_set q i G hi, Nat.mul_add]; omega
theorem split_dig {o : List Nat} {m n : Nat} (h : o ++ ofNat m = ofNat n) (hm : ¬ (0 : Int) < ((m : Nat) : Int)) : Dig o := by
  rw [← split_end h hm]; exact ofNat_dig n
theorem split_val {o : List Nat} {m n : Nat} (h : o ++ ofNat m = ofNat n) (hm : ¬ (0 : Int) < ((m : Nat) : Int)) : val o = n := by
  rw [← split_end h hm]; exact ofNat_val n
theorem ofZ_zero : ofZ 0 = ⟨false, []⟩ := by unfold ofZ mkI; simp [ofNat_zero]
theorem rshort_step {a q : List Nat} {d rest i n : Nat} (hi : i < q.length) (hv : val (a.drop (i + 1)) = val (q.drop (i + 1)) * d + rest) (hn : n = rest * 1000000000 + a.getD i 0) :
    val (a.drop i) = val ((q.set i (n / d)).drop i) * d + n % d := by
  rw [val_drop_one a i, hv, val_drop_set q i _ hi]
  have h3 := Nat.div_add_mod n d
  rw [Nat.add_mul, Nat.mul_comm (n / d) d]
  have h4 : 1000000000 * val (q.drop (i + 1)) * d = 1000000000 * (val (q.drop (i + 1)) * d) := Nat.mul_assoc _ _ _
  omega
theorem fdiv_unique {x y q r : Int} (h : r + y * q = x) (hr : (0 ≤ r ∧ r < y) ∨ (y < r ∧ r ≤ 0)) : x.fdiv y = q ∧ x.fmod y = r := by
  rcases hr with ⟨h1, h2⟩ | ⟨h1, h2⟩
  · have hy : 0 < y := by omega
    rw [Int.fdiv_eq_ediv_of_nonneg _ (by omega), Int.fmod_eq_emod_of_nonneg _ (by omega)]
    exact (Int.ediv_emod_unique hy).2 ⟨h, h1, h2⟩
  · have hy : 0 < -y := by omega
    have h3 : (-x).fdiv (-y) = q ∧ (-x).fmod (-y) = -r := by
      rw [Int.fdiv_eq_ediv_of_nonneg _ (by omega), Int.fmod_eq_emod_of_nonneg _ (by omega)]
      refine (Int.ediv_emod_unique hy).2 ⟨?_, by omega, by omega⟩
      rw [← h, Int.neg_mul]; omega
    rw [Int.neg_fdiv_neg, Int.neg_fmod_neg] at h3
    exact ⟨h3.1, by omega⟩
theorem div_same {b c : Bool} {m n : Nat} (hn : 0 < n) (h : b = c ∨ m % n = 0) :
    ofZ ((sgn b m).fdiv (sgn c n)) = mkI (!(b == c)) (m / n) ∧ ofZ ((sgn b m).fmod (sgn c n)) = mkI c (m % n) := by
  have h1 : ((m % n : Nat) : Int) + (n : Int) * ((m / n : Nat) : Int) = (m : Int) := by
    have := Nat.mod_add_div m n; exact_mod_cast this
  have h2 := Nat.mod_lt m hn
  rw [mkI_eq, mkI_eq]
  have key : (sgn b m).fdiv (sgn c n) = sgn (!(b == c)) (m / n) ∧ (sgn b m).fmod (sgn c n) = sgn c (m % n) := by
    have h3 : ((m % n : Nat) : Int) = 0 ∨ b = c := by rcases h with h | h; exact .inr h; exact .inl (by omega)
    generalize m / n = q at *
    generalize m % n = r at *
    refine fdiv_unique ?_ ?_
    · cases b <;> cases c
      · show (r : Int) + (n : Int) * (q : Int) = (m : Int); exact h1
      · show -(r : Int) + (-(n : Int)) * (-(q : Int)) = (m : Int); rw [Int.neg_mul_neg]; rcases h3 with h3 | h3; omega; cases h3
      · show (r : Int) + (n : Int) * (-(q : Int)) = -(m : Int); rw [Int.mul_neg]; rcases h3 with h3 | h3; omega; cases h3
      · show -(r : Int) + (-(n : Int)) * (q : Int) = -(m : Int); rw [Int.neg_mul]; omega
    · cases c
      · left; show 0 ≤ (r : Int) ∧ (r : Int) < (n : Int); omega
      · right; show -(n : Int) < -(r : Int) ∧ -(r : Int) ≤ 0; omega
  rw [key.1, key.2]
  exact ⟨rfl, rfl⟩
theorem div_other {b c : Bool} {m n : Nat} (hn : 0 < n) (h : b ≠ c) (hr : 0 < m % n) :
    ofZ ((sgn b m).fdiv (sgn c n)) = mkI (!(b == c)) (m / n + 1) ∧ ofZ ((sgn b m).fmod (sgn c n)) = mkI c (n - m % n) := by
  have h1 : ((m % n : Nat) : Int) + (n : Int) * ((m / n : Nat) : Int) = (m : Int) := by
    have := Nat.mod_add_div m n; exact_mod_cast this
  have h2 := Nat.mod_lt m hn
  rw [mkI_eq, mkI_eq]
  have key : (sgn b m).fdiv (sgn c n) = sgn (!(b == c)) (m / n + 1) ∧ (sgn b m).fmod (sgn c n) = sgn c (n - m % n) := by
    have e1 : (n : Int) * (((m / n + 1 : Nat)) : Int) = (n : Int) * ((m / n : Nat) : Int) + n := by
      rw [Int.natCast_add, Int.mul_add]; simp
    generalize m / n = q at *
    generalize m % n = r at *
    refine fdiv_unique ?_ ?_
    · cases b <;> cases c
      · exact absurd rfl h
      · show -((n - r : Nat) : Int) + (-(n : Int)) * (-((q + 1 : Nat) : Int)) = (m : Int); rw [Int.neg_mul_neg, e1]; omega
      · show ((n - r : Nat) : Int) + (n : Int) * (-((q + 1 : Nat) : Int)) = -(m : Int); rw [Int.mul_neg, e1]; omega
      · exact absurd rfl h
    · cases c
      · left; show 0 ≤ ((n - r : Nat) : Int) ∧ ((n - r : Nat) : Int) < (n : Int); omega
      · right; show -(n : Int) < -((n - r : Nat) : Int) ∧ -((n - r : Nat) : Int) ≤ 0; omega
  rw [key.1, key.2]
  exact ⟨rfl, rfl⟩
theorem r_div_same {X Y : Int} (hn : 0 < Y.natAbs) (h : (ofZ X).neg = (ofZ Y).neg ∨ ¬ (0 : Int) < (((ofNat (val (ofNat X.natAbs) % val (ofNat Y.natAbs))).length : Nat) : Int)) :
    mkI (!((ofZ X).neg == (ofZ Y).neg)) (val (ofNat (val (ofNat X.natAbs) / val (ofNat Y.natAbs)))) = ofZ (X.fdiv Y) := by
  rw [ofNat_val, ofNat_val, ofNat_val]
  rw [ofNat_val, ofNat_val] at h
  have h1 := (div_same (b := (ofZ X).neg) (c := (ofZ Y).neg) (m := X.natAbs) (n := Y.natAbs) hn (by
    rcases h with h | h
    · exact .inl h
    · right
      rcases Nat.eq_zero_or_pos (X.natAbs % Y.natAbs) with h2 | h2
      · exact h2
      · have := ofNat_len_pos h2; omega)).1
  rw [sgn_ofZ, sgn_ofZ] at h1
  exact h1.symm
theorem r_div_other {X Y : Int} (hn : 0 < Y.natAbs) (h : (ofZ X).neg ≠ (ofZ Y).neg ∧ (0 : Int) < (((ofNat (val (ofNat X.natAbs) % val (ofNat Y.natAbs))).length : Nat) : Int)) :
    ofZ (toZ (mkI (!((ofZ X).neg == (ofZ Y).neg)) (val (ofNat (val (ofNat X.natAbs) / val (ofNat Y.natAbs))))) - toZ (ofZ 1)) = ofZ (X.fdiv Y) := by
  obtain ⟨h, h0⟩ := h
  rw [ofNat_val, ofNat_val] at h0
  have h2 : 0 < X.natAbs % Y.natAbs := by
    rcases Nat.eq_zero_or_pos (X.natAbs % Y.natAbs) with h3 | h3
    · rw [h3, ofNat_zero] at h0; simp at h0
    · exact h3
  have h1 := (div_other hn h h2).1
  rw [sgn_ofZ, sgn_ofZ] at h1
  rw [h1, ofNat_val, ofNat_val, ofNat_val, mkI_eq, mkI_eq, toZ_ofZ, toZ_ofZ]
  have hb : (!((ofZ X).neg == (ofZ Y).neg)) = true := by rw [Bool.not_eq_true', beq_eq_false_iff_ne]; exact h
  rw [hb]
  congr 1
  unfold sgn
  rw [if_pos rfl, if_pos rfl]; omega
theorem r_rem_eq (X Y : Int) : ofZ (toZ (ofZ X) - toZ (ofZ (toZ (ofZ (X.fdiv Y)) * toZ (ofZ Y)))) = ofZ (X.fmod Y) := by
  rw [toZ_ofZ, toZ_ofZ, toZ_ofZ, toZ_ofZ, Int.fmod_def, Int.mul_comm]
theorem lenZ_fdiv (a b : Int) : lenZ (a.fdiv b) ≤ lenZ a + 1 := by
  refine lenZ_le.2 ?_
  have h1 := lenZ_le.1 (Nat.le_refl (lenZ a))
  rw [pw_succ]
  have h2 : (a.fdiv b).natAbs ≤ a.natAbs + 1 := by
    rw [Int.fdiv_eq_ediv]
    have := Int.natAbs_ediv_le_natAbs a b
    split <;> omega
  have := pw_pos (lenZ a)
  omega
def ofQ (q : Rat) : RRat := ⟨ofZ q.num, ofZ q.den⟩
def validR (x : RRat) : Bool := validI x.num && (validI x.den && (decide (0 < toZ x.den) && (Int.gcd (toZ x.num) (toZ x.den) == 1)))
def toQ (x : RRat) : Rat := if validR x = true then Rat.divInt (toZ x.num) (toZ x.den) else 0
theorem validR_ofQ (q : Rat) : validR (ofQ q) = true := by
  unfold validR ofQ
  simp only [validI_ofZ, toZ_ofZ, Bool.true_and, Bool.and_eq_true, decide_eq_true_eq, beq_iff_eq]
  refine ⟨by have := q.den_pos; omega, ?_⟩
  have := q.reduced
  unfold Int.gcd
  rw [Int.natAbs_natCast]
  exact this
theorem toQ_ofQ (q : Rat) : toQ (ofQ q) = q := by
  unfold toQ
  rw [if_pos (validR_ofQ q)]
  unfold ofQ
  simp only [toZ_ofZ]
  exact Rat.num_divInt_den q
theorem ofQ_toQ {x : RRat} (h : validR x = true) : ofQ (toQ x) = x := by
  unfold toQ
  rw [if_pos h]
  unfold validR at h
  simp only [Bool.and_eq_true, decide_eq_true_eq, beq_iff_eq] at h
  obtain ⟨h1, h2, h3, h4⟩ := h
  have e1 : (Rat.divInt (toZ x.num) (toZ x.den)).num = toZ x.num := by
    rw [Rat.num_divInt, Int.gcd_comm, h4, Int.sign_eq_one_of_pos h3]; simp
  have e2 : (((Rat.divInt (toZ x.num) (toZ x.den)).den : Nat) : Int) = toZ x.den := by
    rw [Rat.den_divInt, if_neg (by omega), Int.gcd_comm, h4]; simp; omega
  unfold ofQ
  rw [e1, e2, ofZ_toZ h1, ofZ_toZ h2]
theorem toQ_bad {x : RRat} (h : validR x = false) : toQ x = 0 := by unfold toQ; rw [if_neg (by rw [h]; simp)]
def QL (q : Rat) (n : Nat) : Prop := lenZ q.num ≤ n ∧ lenZ q.den ≤ n
theorem ql_up {q : Rat} {m n : Nat} (h : QL q m) (hm : m ≤ n) : QL q n := ⟨Nat.le_trans h.1 hm, Nat.le_trans h.2 hm⟩
theorem ql_divInt {a b : Int} {n : Nat} (ha : lenZ a ≤ n) (hb : lenZ b ≤ n) (h1 : 1 ≤ n) : QL (Rat.divInt a b) n := by
  constructor
  · refine Nat.le_trans ?_ ha
    refine lenZ_of_le ?_
    rw [Rat.num_divInt]
    refine Nat.le_trans (Int.natAbs_ediv_le_natAbs _ _) ?_
    rw [Int.natAbs_mul]
    rcases Int.lt_trichotomy b 0 with h | h | h
    · rw [Int.sign_eq_neg_one_of_neg h]; simp
    · rw [h]; simp
    · rw [Int.sign_eq_one_of_pos h]; simp
  · rw [Rat.den_divInt]
    split
    · exact Nat.le_trans (by unfold lenZ; simp [ofNat_pos, ofNat_zero]) h1
    · refine Nat.le_trans ?_ hb
      refine lenZ_of_le ?_
      rw [Int.natAbs_natCast]
      exact Nat.div_le_self _ _
theorem add_divInt (a b : Rat) : a + b = Rat.divInt (a.num * b.den + b.num * a.den) (a.den * b.den) := by
  rw [Rat.add_def', ← Rat.divInt_ofNat, Int.natCast_mul]
theorem mul_divInt (a b : Rat) : a * b = Rat.divInt (a.num * b.num) (a.den * b.den) := by
  rw [Rat.mul_def', ← Rat.divInt_ofNat, Int.natCast_mul]
theorem div_divInt (a b : Rat) : a / b = Rat.divInt (a.num * b.den) (a.den * b.num) := by
  rw [Rat.div_def, Rat.inv_def]
  conv => lhs; rw [← Rat.num_divInt_den a]
  rw [Rat.divInt_mul_divInt]
theorem ql_add {a b : Rat} {m n k : Nat} (ha : QL a m) (hb : QL b n) (h : m + n + 1 ≤ k) : QL (a + b) k := by
  rw [add_divInt]
  refine ql_divInt (lenZ_add (lenZ_mul ha.1 hb.2 (Nat.le_refl _)) (lenZ_mul hb.1 ha.2 (Nat.le_refl _)) (by omega)) (lenZ_mul ha.2 hb.2 (by omega)) (by omega)
theorem ql_neg {a : Rat} {m : Nat} (ha : QL a m) : QL (-a) m := ⟨by rw [Rat.neg_num, lenZ_neg]; exact ha.1, by rw [Rat.neg_den]; exact ha.2⟩
theorem ql_sub {a b : Rat} {m n k : Nat} (ha : QL a m) (hb : QL b n) (h : m + n + 1 ≤ k) : QL (a - b) k := by
  rw [Rat.sub_eq_add_neg]; exact ql_add ha (ql_neg hb) h
theorem ql_pos {a : Rat} {m : Nat} (ha : QL a m) : 1 ≤ m := by
  have h1 := lenZ_le.1 ha.2
  rcases Nat.eq_zero_or_pos m with h | h
  · subst h; rw [pw_zero] at h1; have := a.den_pos; omega
  · exact h
theorem ql_mul {a b : Rat} {m n k : Nat} (ha : QL a m) (hb : QL b n) (h : m + n ≤ k) : QL (a * b) k := by
  have h1 := ql_pos ha
  rw [mul_divInt]
  exact ql_divInt (lenZ_mul ha.1 hb.1 h) (lenZ_mul ha.2 hb.2 h) (by omega)
theorem ql_div {a b : Rat} {m n k : Nat} (ha : QL a m) (hb : QL b n) (h : m + n ≤ k) : QL (a / b) k := by
  have h1 := ql_pos ha
  rw [div_divInt]
  exact ql_divInt (lenZ_mul ha.1 hb.2 h) (lenZ_mul ha.2 hb.1 h) (by omega)
theorem lenZ_one {z : Int} (h : z.natAbs < 1000000000) : lenZ z ≤ 1 := lenZ_le.2 (by rw [show (1 : Nat) = 0 + 1 from rfl, pw_succ, pw_zero]; omega)
theorem ql_int {z : Int} {n : Nat} (h : lenZ z ≤ n) (h1 : 1 ≤ n) : QL (z : Rat) n := ⟨h, Nat.le_trans (lenZ_one (by simp)) h1⟩
theorem ql_zero : QL 0 1 := ⟨lenZ_one (by simp), lenZ_one (by simp)⟩
structure QOk (x : RRat) (q : Rat) (n : Nat) : Prop where
  v : toQ x = q
  p : 1 ≤ n
  n1 : x.num.gs.length ≤ n
  n2 : x.den.gs.length ≤ n
theorem QOk.ql {x : RRat} {q : Rat} {n : Nat} (h : QOk x q n) : QL q n := by
  rw [← h.v]
  by_cases hv : validR x = true
  · unfold toQ; rw [if_pos hv]
    exact ql_divInt (Nat.le_trans (toZ_len _) h.n1) (Nat.le_trans (toZ_len _) h.n2) h.p
  · unfold toQ; rw [if_neg hv]
    exact ql_up ql_zero h.p
theorem qok_of {q : Rat} {n : Nat} (h : QL q n) : QOk (ofQ q) q n := ⟨toQ_ofQ q, ql_pos h, h.1, h.2⟩
theorem qok_num {q : Rat} {n : Nat} (h : QL q n) : IOk (ofQ q).num q.num n := iok_of h.1
theorem qok_den {q : Rat} {n : Nat} (h : QL q n) : IOk (ofQ q).den q.den n := iok_of h.2
theorem qok_up {x : RRat} {a : Rat} {m n : Nat} (hx : QOk x a m) (h : m ≤ n) : QOk x a n := ⟨hx.v, Nat.le_trans hx.p h, Nat.le_trans hx.n1 h, Nat.le_trans hx.n2 h⟩
theorem divInt_parts {a b : Int} (hb : 0 < b) : ofQ (Rat.divInt a b) = ⟨ofZ (a.fdiv (Int.gcd a b)), ofZ (b.fdiv (Int.gcd a b))⟩ := by
  unfold ofQ
  have e1 : (Rat.divInt a b).num = a.fdiv (Int.gcd a b) := by
    rw [Rat.num_divInt, Int.sign_eq_one_of_pos hb, Int.one_mul, Int.gcd_comm, Int.fdiv_eq_ediv_of_nonneg _ (by omega)]
  have e2 : (((Rat.divInt a b).den : Nat) : Int) = b.fdiv (Int.gcd a b) := by
    rw [Rat.den_divInt, if_neg (by omega), Int.gcd_comm, Int.fdiv_eq_ediv_of_nonneg _ (by omega), Int.natCast_ediv]
    congr 1; omega
  rw [e1, e2]
def cmpQ (a b : Rat) : Int := if a < b then -1 else if b < a then 1 else 0
theorem cmpQ_cross (a b : Rat) : cmpI (a.num * b.den) (b.num * a.den) = cmpQ a b := by
  unfold cmpI cmpQ
  simp only [Rat.lt_iff]
def signQ (a : Rat) : Int := signI a.num
theorem copied_eq {x : RRat} (h : validR x = true) : (⟨ofZ (-(-toZ x.num)), ofZ (-(-toZ x.den))⟩ : RRat) = ofQ (toQ x) := by
  have h0 := h
  unfold validR at h
  simp only [Bool.and_eq_true] at h
  rw [ofQ_toQ h0, Int.neg_neg, Int.neg_neg, ofZ_toZ h.1, ofZ_toZ h.2.1]
theorem red_neg {a b : Int} (hb : b < 0) : (⟨ofZ ((-a).fdiv (Int.gcd (-a) (-b))), ofZ ((-b).fdiv (Int.gcd (-a) (-b)))⟩ : RRat) = ofQ (Rat.divInt a b) := by
  rw [← divInt_parts (by omega), Rat.neg_divInt_neg]
theorem red_pos {a b : Int} (hb : ¬ b < 0) (h0 : b ≠ 0) : (⟨ofZ (a.fdiv (Int.gcd a b)), ofZ (b.fdiv (Int.gcd a b))⟩ : RRat) = ofQ (Rat.divInt a b) := (divInt_parts (by omega)).symm
theorem gcd_ne {a b : Int} (hb : b ≠ 0) : ((Int.gcd a b : Nat) : Int) ≠ 0 := by
  intro h
  have h1 : Int.gcd a b = 0 := by omega
  rw [Int.gcd_eq_zero_iff] at h1
  exact hb h1.2
theorem lenZ_gcd {a b : Int} {n : Nat} (hb : b ≠ 0) (h : lenZ b ≤ n) : lenZ ((Int.gcd a b : Nat) : Int) ≤ n := by
  refine Nat.le_trans (lenZ_of_le ?_) h
  rw [Int.natAbs_natCast]
  exact Nat.le_of_dvd (by omega) (Int.gcd_dvd_natAbs_right a b)
theorem signI_le {z : Int} : signI z ≤ 0 ↔ z ≤ 0 := by
  rcases signI_range z with ⟨h1, h2⟩ | ⟨h1, h2⟩ | ⟨h1, h2⟩ <;> omega
theorem signI_lt {z : Int} : signI z < 0 ↔ z < 0 := by
  rcases signI_range z with ⟨h1, h2⟩ | ⟨h1, h2⟩ | ⟨h1, h2⟩ <;> omega
theorem cmpI_zero {a b : Int} : cmpI a b = 0 ↔ a = b := by
  unfold cmpI
  split
  · constructor <;> intro h <;> omega
  · split <;> constructor <;> intro h <;> omega
theorem validR_no {x : RRat} (h : ((!validI x.num || !validI x.den) || decide (signI (toZ x.den) ≤ 0)) = true) : validR x = false := by
  unfold validR
  rw [Bool.or_eq_true, Bool.or_eq_true, Bool.not_eq_true', Bool.not_eq_true', decide_eq_true_eq, signI_le] at h
  rcases h with (h | h) | h
  · rw [h]; rfl
  · rw [h]; simp
  · rw [show decide (0 < toZ x.den) = false from decide_eq_false (by omega)]; simp
theorem validR_yes {x : RRat} (h : ((!validI x.num || !validI x.den) || decide (signI (toZ x.den) ≤ 0)) = false) : validR x = (cmpI ((Int.gcd (toZ x.num) (toZ x.den) : Nat) : Int) 1 == 0) := by
  unfold validR
  rw [Bool.or_eq_false_iff, Bool.or_eq_false_iff, Bool.not_eq_false', Bool.not_eq_false', decide_eq_false_iff_not, signI_le] at h
  obtain ⟨⟨h1, h2⟩, h3⟩ := h
  rw [h1, h2, show decide (0 < toZ x.den) = true from decide_eq_true (by omega)]
  simp only [Bool.true_and]
  rw [Bool.eq_iff_iff, beq_iff_eq, beq_iff_eq, cmpI_zero]
  omega
theorem mul_ne {a b : Int} (ha : a ≠ 0) (hb : b ≠ 0) : a * b ≠ 0 := Int.mul_ne_zero ha hb
theorem den_ne (q : Rat) : (q.den : Int) ≠ 0 := by have := q.den_pos; omega
theorem iok_gcd {x y : RInt} {a b : Int} {m n k : Nat} (hx : IOk x a m) (hy : IOk y b n) (h : max m n ≤ k) : IOk (ofZ ((Int.gcd a b : Nat) : Int)) ((Int.gcd a b : Nat) : Int) k := iok_of (by
  by_cases hb : b = 0
  · subst hb
    rw [Int.gcd_zero_right]
    refine Nat.le_trans (lenZ_of_le (z := a) ?_) (Nat.le_trans hx.ln (by omega))
    simp
  · exact Nat.le_trans (lenZ_gcd hb hy.ln) (by omega))
theorem iok_fdiv {x y : RInt} {a b : Int} {m n k : Nat} (hx : IOk x a m) (_ : IOk y b n) (h : m + 1 ≤ k) : IOk (ofZ (a.fdiv b)) (a.fdiv b) k := iok_of (Nat.le_trans (lenZ_fdiv a b) (by have := hx.ln; omega))
theorem lenZ_int {z : Int} (h1 : -9223372036854775808 ≤ z) (h2 : z ≤ 9223372036854775807) : lenZ z ≤ 3 := ofNat_len3 (by omega)
theorem iok_int {z : Int} (h1 : -9223372036854775808 ≤ z) (h2 : z ≤ 9223372036854775807) : IOk (ofZ z) z 3 := iok_of (lenZ_int h1 h2)
theorem red_neg2 {a b : Int} (hb : b < 0) : ofQ (Rat.divInt a b) = ⟨ofZ (a.fdiv (-((Int.gcd a b : Nat) : Int))), ofZ (b.fdiv (-((Int.gcd a b : Nat) : Int)))⟩ := by
  rw [← red_neg hb]
  have e : Int.gcd (-a) (-b) = Int.gcd a b := by simp
  rw [e]
  have h1 := Int.neg_fdiv_neg a (-((Int.gcd a b : Nat) : Int))
  have h2 := Int.neg_fdiv_neg b (-((Int.gcd a b : Nat) : Int))
  rw [Int.neg_neg] at h1 h2
  rw [h1, h2]
end Go.Fid
set_option linter.unusedVariables false
set_option linter.unusedSimpArgs false
namespace Go.Fid
inductive LOk (n : Nat) : List RInt → List Int → Prop
  | nil : LOk n [] []
  | cons {x : RInt} {z : Int} {l : List RInt} {zs : List Int} (h : IOk x z n) (t : LOk n l zs) : LOk n (x :: l) (z :: zs)
theorem iok_zero : IOk ⟨false, []⟩ 0 1 := ⟨by decide, Nat.zero_le _⟩
theorem iok_nilN (n : Nat) : IOk ⟨false, []⟩ 0 n := ⟨by decide, Nat.zero_le _⟩
theorem LOk.len {n : Nat} {l : List RInt} {zs : List Int} (h : LOk n l zs) : l.length = zs.length := by
  induction h with
  | nil => rfl
  | cons h t ih => simp [ih]
theorem LOk.get {n : Nat} {l : List RInt} {zs : List Int} (h : LOk n l zs) (i : Nat) : IOk (l.getD i ⟨false, []⟩) (zs.getD i 0) n := by
  induction h generalizing i with
  | nil => exact iok_nilN n
  | cons h t ih =>
    rcases i with _ | i
    · exact h
    · exact ih i
theorem LOk.all {n : Nat} {l : List RInt} {zs : List Int} (h : LOk n l zs) : ∀ z ∈ zs, lenZ z ≤ n := by
  induction h with
  | nil => simp
  | cons h t ih =>
    intro z hz
    rcases List.mem_cons.1 hz with rfl | hz
    · exact h.ln
    · exact ih z hz
theorem LOk.up {m n : Nat} {l : List RInt} {zs : List Int} (h : LOk m l zs) (hm : m ≤ n) : LOk n l zs := by
  induction h with
  | nil => exact .nil
  | cons h t ih => exact .cons (iok_up h hm) ih
def gcdL (zs : List Int) : Nat := zs.foldl (fun d z => Int.gcd d z) 0
def sgnL : List Int → Int
  | [] => 0
  | z :: r => if z = 0 then sgnL r else signI z
def dvL (zs : List Int) : Int := if sgnL zs < 0 then -((gcdL zs : Nat) : Int) else ((gcdL zs : Nat) : Int)
def redL (zs : List Int) : List Int := zs.map fun z => z.fdiv (dvL zs)
theorem signI_ne {z : Int} (h : z ≠ 0) : signI z ≠ 0 := by
  unfold signI; split <;> (try split) <;> omega
theorem lenZ_gcd2 {a b : Int} {n : Nat} (ha : lenZ a ≤ n) (hb : lenZ b ≤ n) : lenZ ((Int.gcd a b : Nat) : Int) ≤ n := by
  by_cases h : b = 0
  · subst h; rw [Int.gcd_zero_right]
    exact Nat.le_trans (lenZ_of_le (by simp)) ha
  · exact lenZ_gcd h hb
theorem gcdL_len {n : Nat} (zs : List Int) (h : ∀ z ∈ zs, lenZ z ≤ n) : lenZ ((gcdL zs : Nat) : Int) ≤ n := by
  have key : ∀ (zs : List Int) (d : Nat), lenZ (d : Int) ≤ n → (∀ z ∈ zs, lenZ z ≤ n) → lenZ ((zs.foldl (fun d z => Int.gcd d z) d : Nat) : Int) ≤ n := by
    intro zs
    induction zs with
    | nil => intro d hd _; exact hd
    | cons z zs ih => intro d hd hz; exact ih _ (lenZ_gcd2 hd (hz z (by simp))) (fun y hy => hz y (by simp [hy]))
  exact key zs 0 (lenZ_le.2 (by rw [show ((0 : Nat) : Int).natAbs = 0 from rfl]; exact pw_pos n)) h
theorem dvL_len {n : Nat} {zs : List Int} (h : ∀ z ∈ zs, lenZ z ≤ n) : lenZ (dvL zs) ≤ n := by
  unfold dvL; split
  · rw [lenZ_neg]; exact gcdL_len zs h
  · exact gcdL_len zs h
theorem gcdL_dvd (zs : List Int) : ∀ z ∈ zs, ((gcdL zs : Nat) : Int) ∣ z := by
  have key : ∀ (zs : List Int) (d : Nat), ((zs.foldl (fun d z => Int.gcd d z) d : Nat) : Int) ∣ (d : Int) ∧ ∀ z ∈ zs, ((zs.foldl (fun d z => Int.gcd d z) d : Nat) : Int) ∣ z := by
    intro zs
    induction zs with
    | nil => intro d; exact ⟨Int.dvd_refl _, by simp⟩
    | cons z zs ih =>
      intro d
      obtain ⟨h1, h2⟩ := ih (Int.gcd d z)
      refine ⟨Int.dvd_trans h1 (Int.gcd_dvd_left ..), fun y hy => ?_⟩
      rcases List.mem_cons.1 hy with rfl | hy
      · exact Int.dvd_trans h1 (Int.gcd_dvd_right ..)
      · exact h2 y hy
  exact (key zs 0).2
theorem sgnL_ne {zs : List Int} (h : sgnL zs ≠ 0) : ∃ z ∈ zs, z ≠ 0 := by
  induction zs with
  | nil => exact absurd rfl h
  | cons z zs ih =>
    by_cases hz : z = 0
    · simp only [sgnL, if_pos hz] at h
      obtain ⟨y, hy, h2⟩ := ih h
      exact ⟨y, by simp [hy], h2⟩
    · exact ⟨z, by simp, hz⟩
theorem sgnL_of {zs : List Int} {z : Int} (hz : z ∈ zs) (h : z ≠ 0) : sgnL zs ≠ 0 := by
  induction zs with
  | nil => cases hz
  | cons y zs ih =>
    by_cases hy : y = 0
    · simp only [sgnL, if_pos hy]
      rcases List.mem_cons.1 hz with e | hz
      · subst e; exact absurd hy h
      · exact ih hz
    · simp only [sgnL, if_neg hy]; exact signI_ne hy
theorem gcdL_ne {zs : List Int} (h : sgnL zs ≠ 0) : gcdL zs ≠ 0 := fun e => by
  obtain ⟨z, hz, h0⟩ := sgnL_ne h
  have := gcdL_dvd zs z hz
  rw [e] at this
  exact h0 (Int.zero_dvd.1 this)
theorem dvL_ne {zs : List Int} (h : sgnL zs ≠ 0) : dvL zs ≠ 0 := by
  have := gcdL_ne h
  unfold dvL; split <;> omega
theorem dvL_dvd {zs : List Int} : ∀ z ∈ zs, dvL zs ∣ z := fun z hz => by
  unfold dvL; split
  · exact Int.neg_dvd.2 (gcdL_dvd zs z hz)
  · exact gcdL_dvd zs z hz
theorem fdiv_mulZ {d z : Int} (hd : d ≠ 0) (h : d ∣ z) : z.fdiv d * d = z := by
  obtain ⟨c, rfl⟩ := h
  rw [Int.mul_fdiv_cancel_left _ hd]; exact Int.mul_comm _ _
theorem red_dv {zs : List Int} (h : sgnL zs ≠ 0) {z : Int} (hz : z ∈ zs) : z.fdiv (dvL zs) * dvL zs = z := fdiv_mulZ (dvL_ne h) (dvL_dvd z hz)
theorem gcdL_scale (k : Int) (zs : List Int) : gcdL (zs.map (k * ·)) = k.natAbs * gcdL zs := by
  have key : ∀ (zs : List Int) (d : Nat), (zs.map (k * ·)).foldl (fun d z => Int.gcd d z) (k.natAbs * d) = k.natAbs * zs.foldl (fun d z => Int.gcd d z) d := by
    intro zs
    induction zs with
    | nil => intro d; rfl
    | cons z zs ih =>
      intro d
      rw [List.map_cons, List.foldl_cons, List.foldl_cons, ← ih (Int.gcd d z)]
      congr 1
      simp only [Int.gcd, Int.natAbs_mul, Int.natAbs_natCast]
      exact Nat.gcd_mul_left ..
  exact key zs 0
theorem signI_mul {k z : Int} (hk : k ≠ 0) : (signI (k * z) < 0 ↔ (k < 0 ∧ 0 < z) ∨ (0 < k ∧ z < 0)) := by
  have h1 : ∀ y : Int, signI y < 0 ↔ y < 0 := fun y => by unfold signI; split <;> (try split) <;> omega
  rw [h1]
  constructor
  · intro h
    rcases Int.lt_or_gt_of_ne hk with hk' | hk'
    · exact .inl ⟨hk', by rcases Int.lt_trichotomy z 0 with h' | h' | h'; · have := Int.mul_pos_of_neg_of_neg hk' h'; omega
                          · subst h'; simp at h
                          · exact h'⟩
    · exact .inr ⟨hk', by rcases Int.lt_trichotomy z 0 with h' | h' | h'; · exact h'
                          · subst h'; simp at h
                          · have := Int.mul_pos hk' h'; omega⟩
  · rintro (⟨a, b⟩ | ⟨a, b⟩)
    · exact Int.mul_neg_of_neg_of_pos a b
    · exact Int.mul_neg_of_pos_of_neg a b
theorem sgnL_scale {k : Int} (hk : k ≠ 0) (zs : List Int) : (sgnL (zs.map (k * ·)) = 0 ↔ sgnL zs = 0) ∧ (sgnL zs ≠ 0 → (sgnL (zs.map (k * ·)) < 0 ↔ (k < 0 ∧ ¬ sgnL zs < 0) ∨ (0 < k ∧ sgnL zs < 0))) := by
  induction zs with
  | nil => exact ⟨Iff.rfl, fun h => absurd rfl h⟩
  | cons z zs ih =>
    by_cases hz : z = 0
    · subst hz
      simpa [sgnL] using ih
    · have hkz : k * z ≠ 0 := Int.mul_ne_zero hk hz
      simp only [List.map_cons, sgnL, if_neg hz, if_neg hkz]
      refine ⟨⟨fun h => absurd h (signI_ne hkz), fun h => absurd h (signI_ne hz)⟩, fun _ => ?_⟩
      rw [signI_mul hk]
      have h1 : signI z < 0 ↔ z < 0 := by unfold signI; split <;> (try split) <;> omega
      rw [h1]; omega
theorem dvL_scale {k : Int} (hk : k ≠ 0) {zs : List Int} (h : sgnL zs ≠ 0) : dvL (zs.map (k * ·)) = k * dvL zs := by
  have h2 := (sgnL_scale hk zs).2 h
  unfold dvL
  rw [gcdL_scale, Int.natCast_mul]
  rcases Int.lt_or_gt_of_ne hk with hk' | hk'
  · have e : ((k.natAbs : Nat) : Int) = -k := by omega
    rw [e]
    by_cases hs : sgnL zs < 0
    · rw [if_neg (by rw [h2]; omega), if_pos hs, Int.neg_mul, Int.mul_neg]
    · rw [if_pos (by rw [h2]; omega), if_neg hs, Int.neg_mul, Int.neg_neg]
  · have e : ((k.natAbs : Nat) : Int) = k := by omega
    rw [e]
    by_cases hs : sgnL zs < 0
    · rw [if_pos (by rw [h2]; omega), if_pos hs, Int.mul_neg]
    · rw [if_neg (by rw [h2]; omega), if_neg hs]
theorem fdiv_scale {k z d : Int} (hk : k ≠ 0) (hd : d ≠ 0) (h : d ∣ z) : (k * z).fdiv (k * d) = z.fdiv d := by
  obtain ⟨c, rfl⟩ := h
  rw [Int.mul_fdiv_cancel_left _ hd, ← Int.mul_assoc, Int.mul_fdiv_cancel_left _ (Int.mul_ne_zero hk hd)]
theorem redL_scale {k : Int} (hk : k ≠ 0) {zs : List Int} (h : sgnL zs ≠ 0) : redL (zs.map (k * ·)) = redL zs := by
  unfold redL
  rw [dvL_scale hk h, List.map_map]
  apply List.map_congr_left
  intro z hz
  exact fdiv_scale hk (dvL_ne h) (dvL_dvd z hz)
theorem redL_back {zs : List Int} (h : sgnL zs ≠ 0) : (redL zs).map (dvL zs * ·) = zs := by
  unfold redL
  rw [List.map_map]
  conv => rhs; rw [← List.map_id zs]
  apply List.map_congr_left
  intro z hz
  show dvL zs * z.fdiv (dvL zs) = z
  rw [Int.mul_comm]; exact red_dv h hz
theorem LOk.map {n : Nat} {l : List RInt} {zs : List Int} (h : LOk n l zs) : l.map toZ = zs := by
  induction h with
  | nil => rfl
  | cons h t ih => rw [List.map_cons, ih, h.v]
theorem all_nil {l : List RInt} (h : ∀ x ∈ l, x = RInt.mk false []) (i : Nat) : l.getD i (RInt.mk false []) = RInt.mk false [] := by
  rw [List.getD]
  cases hj : l[i]? with
  | none => rfl
  | some q => exact h q (List.mem_of_getElem? hj)
end Go.Fid
set_option linter.unusedVariables false
set_option linter.unusedSimpArgs false
namespace Go.Fid
theorem sgnL_zero {zs : List Int} : sgnL zs = 0 ↔ ∀ z ∈ zs, z = 0 := by
  constructor
  · intro h z hz
    rcases Int.decEq z 0 with h0 | h0
    · exact absurd h (sgnL_of hz h0)
    · exact h0
  · intro h
    rcases Int.decEq (sgnL zs) 0 with h0 | h0
    · obtain ⟨z, hz, h1⟩ := sgnL_ne h0
      exact absurd (h z hz) h1
    · exact h0
end Go.Fid
set_option linter.unusedVariables false
set_option linter.unusedSimpArgs false
namespace Go.Fid
end Go.Fid
