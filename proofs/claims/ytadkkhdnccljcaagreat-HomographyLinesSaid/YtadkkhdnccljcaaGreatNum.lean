import Derived.Test.YtadkkhdnccljcaaGreatDig
/-
  The numbers of the suite as plain Lean: integers and fractions, as they are laid out and as what they stand for.
-/
namespace Go.Fid
structure RInt where
  neg : Bool
  gs : List Nat
structure RRat where
  num : RInt
  den : RInt
structure RRng where
  lo : RRat
  hi : RRat
instance : Inhabited RInt := ⟨⟨false, []⟩⟩
instance : Inhabited RRat := ⟨⟨⟨false, []⟩, ⟨false, []⟩⟩⟩
instance : Inhabited RRng := ⟨⟨default, default⟩⟩
def RInt.zero : RInt := ⟨false, []⟩
def RRat.zero : RRat := ⟨.zero, .zero⟩
def RRng.zero : RRng := ⟨.zero, .zero⟩
def cmpI (a b : Int) : Int := if a < b then -1 else if b < a then 1 else 0
theorem cmpI_gt {a b : Int} (h : b < a) : cmpI a b = 1 := by unfold cmpI; rw [if_neg (by omega), if_pos h]
theorem cmpI_eq {a b : Int} (h1 : ¬ a < b) (h2 : ¬ b < a) : cmpI a b = 0 := by unfold cmpI; rw [if_neg h1, if_neg h2]
def mkI (neg : Bool) (n : Nat) : RInt := ⟨neg && n != 0, ofNat n⟩
theorem mkI_zero {neg : Bool} {n : Nat} (h : (((ofNat n).length : Nat) : Int) = 0) : mkI neg n = ⟨false, []⟩ := by
  have h1 : ofNat n = [] := List.eq_nil_of_length_eq_zero (by omega)
  have h2 : n = 0 := ofNat_nil.1 h1
  subst h2
  unfold mkI
  rw [h1]
  simp
theorem mkI_pos {neg : Bool} {n : Nat} (h : (((ofNat n).length : Nat) : Int) ≠ 0) : mkI neg n = ⟨neg, ofNat n⟩ := by
  have h1 : n ≠ 0 := fun e => by subst e; rw [ofNat_zero] at h; exact h rfl
  unfold mkI
  have : (n != 0) = true := bne_iff_ne.2 h1
  rw [this, Bool.and_true]
theorem val_drop (l : List Nat) (j : Nat) (h : j < l.length) : val (l.drop (l.length - (j + 1))) = l.getD (l.length - 1 - j) 0 + 1000000000 * val (l.drop (l.length - j)) := by
  have h1 : l.length - (j + 1) < l.length := by omega
  rw [List.drop_eq_getElem_cons h1, val_cons, show l.length - (j + 1) + 1 = l.length - j by omega]
  have h2 : l.length - 1 - j = l.length - (j + 1) := by omega
  rw [h2]
  simp [List.getD, List.getElem?_eq_getElem h1]
theorem val_drop_lt {l : List Nat} (hd : Dig l) {j : Nat} (h : j ≤ l.length) : val (l.drop (l.length - j)) < pw j := by
  have h1 := val_lt (hd.drop (l.length - j))
  rw [List.length_drop, show l.length - (l.length - j) = j by omega] at h1
  exact h1
def wordV (l : List Nat) : Nat := if l.length ≤ 2 then val l else 0
def wordB (l : List Nat) : Bool := decide (l.length ≤ 2)
theorem word_bound {l : List Nat} (hd : Dig l) {j : Nat} (h : j < l.length) (h2 : l.length ≤ 2) : val (l.drop (l.length - j)) < 1000000000 := by
  have h1 := val_drop_lt hd (Nat.le_of_lt h)
  have h3 : pw j ≤ pw 1 := pw_mono (by omega)
  rw [show (1 : Nat) = 0 + 1 from rfl, pw_succ, pw_zero] at h3
  omega
theorem val_len2 {l : List Nat} (hd : Dig l) (h2 : l.length ≤ 2) : val l < 1000000000000000000 := by
  have h1 := val_lt hd
  have h3 : pw l.length ≤ pw 2 := pw_mono h2
  rw [show (2 : Nat) = 0 + 1 + 1 from rfl, pw_succ, pw_succ, pw_zero] at h3
  omega
theorem cmpI_len {a b : List Nat} (ha : Cano a) (hb : Cano b) (h : ((a.length : Nat) : Int) ≠ ((b.length : Nat) : Int)) : cmpI ((a.length : Nat) : Int) ((b.length : Nat) : Int) = cmpI ((val a : Nat) : Int) ((val b : Nat) : Int) := by
  have e1 := can_eq ha
  have e2 := can_eq hb
  by_cases hlt : a.length < b.length
  · have : val a < val b := ofNat_len_lt (by rw [← e1, ← e2]; exact hlt)
    unfold cmpI
    rw [if_pos (by omega), if_pos (by omega)]
  · have : val b < val a := ofNat_len_lt (by rw [← e1, ← e2]; omega)
    rw [cmpI_gt (by omega), cmpI_gt (by omega)]
theorem cmpI_top {a b : List Nat} (ha : Dig a) (hb : Dig b) (hl : a.length = b.length) {j : Nat} (h : j < a.length) (he : val (a.drop (a.length - j)) = val (b.drop (a.length - j))) (hne : ((a.getD (a.length - 1 - j) 0 : Nat) : Int) ≠ ((b.getD (a.length - 1 - j) 0 : Nat) : Int)) :
    cmpI ((a.getD (a.length - 1 - j) 0 : Nat) : Int) ((b.getD (a.length - 1 - j) 0 : Nat) : Int) = cmpI ((val a : Nat) : Int) ((val b : Nat) : Int) := by
  have h1 := val_split a (a.length - (j + 1)) (by omega)
  have h2 := val_split b (a.length - (j + 1)) (by omega)
  rw [val_drop a j h] at h1
  have h3 := val_drop b j (by omega)
  rw [← hl] at h3
  rw [h3, ← he] at h2
  have h4 := val_lt (ha.take (a.length - (j + 1)))
  have h5 := val_lt (hb.take (a.length - (j + 1)))
  rw [List.length_take, Nat.min_eq_left (by omega)] at h4 h5
  generalize a.getD (a.length - 1 - j) 0 = x at *
  generalize b.getD (a.length - 1 - j) 0 = y at *
  generalize val (a.drop (a.length - j)) = t at *
  generalize pw (a.length - (j + 1)) = p at *
  generalize val (a.take (a.length - (j + 1))) = u at *
  generalize val (b.take (a.length - (j + 1))) = v at *
  rcases Nat.lt_or_gt_of_ne (show x ≠ y by omega) with hxy | hxy
  · have h6 : p * (x + 1000000000 * t) + p ≤ p * (y + 1000000000 * t) := by
      have := Nat.mul_le_mul_left p (show x + 1000000000 * t + 1 ≤ y + 1000000000 * t by omega)
      rw [Nat.mul_add, Nat.mul_one] at this
      exact this
    unfold cmpI
    rw [if_pos (by omega), if_pos (by omega)]
  · have h6 : p * (y + 1000000000 * t) + p ≤ p * (x + 1000000000 * t) := by
      have := Nat.mul_le_mul_left p (show y + 1000000000 * t + 1 ≤ x + 1000000000 * t by omega)
      rw [Nat.mul_add, Nat.mul_one] at this
      exact this
    rw [cmpI_gt (by omega), cmpI_gt (by omega)]
theorem cmpI_same {a b : List Nat} (he : val a = val b) : cmpI ((val a : Nat) : Int) ((val b : Nat) : Int) = 0 := by
  rw [he]; exact cmpI_eq (by omega) (by omega)
theorem ofNat_len3 {n : Nat} (h : n < 18446744073709551616) : (ofNat n).length ≤ 3 := ofNat_length_le (by
  rw [show (3 : Nat) = 0 + 1 + 1 + 1 from rfl, pw_succ, pw_succ, pw_succ, pw_zero]; omega)
theorem split_step {g : List Nat} {m n : Nat} (h : g ++ ofNat m = ofNat n) (hm : (0 : Int) < ((m : Nat) : Int)) : (g ++ [m % 1000000000]) ++ ofNat (m / 1000000000) = ofNat n := by
  rw [← h, ofNat_pos (n := m) (by omega), List.append_assoc]; rfl
theorem split_len {g : List Nat} {m n : Nat} (h : g ++ ofNat m = ofNat n) (hn : n < 18446744073709551616) : g.length ≤ 3 := by
  have := ofNat_len3 hn
  rw [← h, List.length_append] at this
  omega
theorem split_end {g : List Nat} {m n : Nat} (h : g ++ ofNat m = ofNat n) (hm : ¬ (0 : Int) < ((m : Nat) : Int)) : ofNat n = g := by
  have : m = 0 := by omega
  subst this
  rw [← h, ofNat_zero, List.append_nil]
def firstBig : List Nat → Int
  | [] => -1
  | d :: l => if 1000000000 ≤ d then 0 else if firstBig l < 0 then -1 else firstBig l + 1
theorem firstBig_none {l : List Nat} : firstBig l < 0 ↔ Dig l := by
  induction l with
  | nil => simp [firstBig, dig_nil]
  | cons d l ih =>
    rw [dig_cons]
    unfold firstBig
    by_cases h : 1000000000 ≤ d
    · rw [if_pos h]; constructor
      · intro h1; omega
      · intro h1; omega
    · rw [if_neg h]
      by_cases h2 : firstBig l < 0
      · rw [if_pos h2]; simp [ih.1 h2]; omega
      · rw [if_neg h2]; constructor
        · intro h1; omega
        · intro h1; exact absurd (ih.2 h1.2) h2
theorem firstBig_neg {l : List Nat} (h : Dig l) : firstBig l = -1 := by
  induction l with
  | nil => rfl
  | cons d l ih =>
    rw [dig_cons] at h
    unfold firstBig
    rw [if_neg (by omega), if_pos (firstBig_none.2 h.2)]
theorem firstBig_at : ∀ {l : List Nat} {i : Nat}, i < l.length → Dig (l.take i) → 1000000000 ≤ l.getD i 0 → firstBig l = (i : Int)
  | [], i, h, _, _ => by simp at h
  | d :: l, 0, _, _, hd => by
    unfold firstBig
    rw [if_pos (by simpa using hd)]; rfl
  | d :: l, i + 1, h, ht, hd => by
    rw [List.take_succ_cons, dig_cons] at ht
    have ih := firstBig_at (l := l) (i := i) (by simpa using h) ht.2 (by simpa using hd)
    unfold firstBig
    rw [if_neg (by omega), ih, if_neg (by omega)]
    omega
theorem dig_take_succ {l : List Nat} {i : Nat} (h : i < l.length) (ht : Dig (l.take i)) (hd : l.getD i 0 < 1000000000) : Dig (l.take (i + 1)) := by
  rw [List.take_succ_eq_append_getElem h, dig_append]
  refine ⟨ht, ?_⟩
  intro d hx
  simp [List.getD, List.getElem?_eq_getElem h] at hd hx
  rw [hx]; exact hd
def validI (x : RInt) : Bool := if ((x.gs.length : Nat) : Int) = 0 then !x.neg else (((((x.gs.getD (x.gs.length - 1) 0) : Nat) : Int) != 0) && (!(decide (0 ≤ firstBig x.gs))))
def grpI (x : RInt) : List Nat := if validI x = true then x.gs else []
theorem grpI_can (x : RInt) : Cano (grpI x) := by
  unfold grpI
  split
  · rename_i h
    unfold validI at h
    split at h
    · have : x.gs = [] := List.eq_nil_of_length_eq_zero (by omega)
      rw [this]; exact ⟨dig_nil, by simp [Top]⟩
    · rename_i h0
      simp only [Bool.and_eq_true, Bool.not_eq_true', decide_eq_false_iff_not, bne_iff_ne] at h
      refine ⟨firstBig_none.1 (by omega), fun h1 => h.1 ?_⟩
      have h4 : x.gs.length - 1 < x.gs.length := by omega
      simp [List.getD, List.getElem?_eq_getElem h4] at h1 ⊢
      exact h1
  · exact ⟨dig_nil, by simp [Top]⟩
def sgn (b : Bool) (n : Nat) : Int := if b then -(n : Int) else n
def toZ (x : RInt) : Int := sgn x.neg (val (grpI x))
def ofZ (z : Int) : RInt := mkI (decide (z < 0)) z.natAbs
theorem mkI_eq (b : Bool) (n : Nat) : mkI b n = ofZ (sgn b n) := by
  unfold ofZ sgn
  cases b with
  | false =>
    rw [if_neg (by simp), Int.natAbs_natCast]
    have : decide ((n : Int) < 0) = false := decide_eq_false (by omega)
    rw [this]
  | true =>
    rw [if_pos rfl, Int.natAbs_neg, Int.natAbs_natCast]
    unfold mkI
    by_cases h : n = 0
    · subst h; simp
    · have h1 : decide (-(n : Int) < 0) = true := decide_eq_true (by omega)
      rw [h1]
theorem grpI_len (x : RInt) : (grpI x).length ≤ x.gs.length := by
  unfold grpI; split
  · exact Nat.le_refl _
  · exact Nat.zero_le _
theorem add_len {a b : List Nat} (ha : Dig a) (hb : Dig b) : (ofNat (val a + val b)).length ≤ max a.length b.length + 1 := ofNat_length_le (by
  have h1 := val_lt ha
  have h2 := val_lt hb
  have h3 : pw a.length ≤ pw (max a.length b.length) := pw_mono (by omega)
  have h4 : pw b.length ≤ pw (max a.length b.length) := pw_mono (by omega)
  rw [pw_succ]; omega)
theorem sub_len {a b : List Nat} (ha : Dig a) : (ofNat (val a - val b)).length ≤ a.length := ofNat_length_le (by
  have h1 := val_lt ha
  omega)
theorem mul_len {a b : List Nat} (ha : Dig a) (hb : Dig b) : (ofNat (val a * val b)).length ≤ a.length + b.length := ofNat_length_le (by
  rw [pw_add]
  exact Nat.mul_lt_mul_of_lt_of_le (val_lt ha) (Nat.le_of_lt (val_lt hb)) (pw_pos _))
def signI (z : Int) : Int := if z = 0 then 0 else if z < 0 then -1 else 1
theorem val_zero_nil {l : List Nat} (h : Cano l) (h0 : val l = 0) : l = [] := by rw [can_eq h, h0, ofNat_zero]
theorem toZ_nil {x : RInt} (h : (((grpI x).length : Nat) : Int) = 0) : toZ x = 0 := by
  have : grpI x = [] := List.eq_nil_of_length_eq_zero (by omega)
  unfold toZ sgn
  rw [this, val_nil]; split <;> rfl
theorem sign_neg {x : RInt} (h : (((grpI x).length : Nat) : Int) ≠ 0) (hn : x.neg = true) : signI (toZ x) = -1 := by
  have h1 : val (grpI x) ≠ 0 := fun e => h (by rw [val_zero_nil (grpI_can x) e]; rfl)
  unfold signI toZ sgn
  rw [if_pos hn, if_neg (by omega), if_pos (by omega)]
theorem sign_pos {x : RInt} (h : (((grpI x).length : Nat) : Int) ≠ 0) (hn : x.neg = false) : signI (toZ x) = 1 := by
  have h1 : val (grpI x) ≠ 0 := fun e => h (by rw [val_zero_nil (grpI_can x) e]; rfl)
  unfold signI toZ sgn
  rw [hn]
  simp only [Bool.false_eq_true, if_false]
  rw [if_neg (by omega), if_neg (by omega)]
theorem neg_eq (x : RInt) : mkI (!x.neg) (val (grpI x)) = ofZ (-toZ x) := by
  rw [mkI_eq]
  congr 1
  unfold toZ sgn
  cases x.neg <;> simp
theorem sum_same {b c : Bool} (h : b = c) (m n : Nat) : mkI b (val (ofNat (m + n))) = ofZ (sgn b m + sgn c n) := by
  subst h
  rw [mkI_eq, ofNat_val]
  congr 1
  unfold sgn
  cases b <;> simp <;> omega
theorem sum_first {b c : Bool} (h : b ≠ c) {m n : Nat} (hn : n ≤ m) : mkI b (val (ofNat (m - n))) = ofZ (sgn b m + sgn c n) := by
  have h1 : c = !b := by revert h; cases b <;> cases c <;> simp
  subst h1
  rw [mkI_eq, ofNat_val]
  congr 1
  unfold sgn
  cases b <;> simp <;> omega
theorem sum_second {b c : Bool} (h : b ≠ c) {m n : Nat} (hn : m ≤ n) : mkI c (val (ofNat (n - m))) = ofZ (sgn b m + sgn c n) := by
  have h1 : c = !b := by revert h; cases b <;> cases c <;> simp
  subst h1
  rw [mkI_eq, ofNat_val]
  congr 1
  unfold sgn
  cases b <;> simp <;> omega
theorem cmpI_ge {a b : Int} (h : 0 ≤ cmpI a b) : b ≤ a := by
  unfold cmpI at h
  split at h
  · omega
  · omega
theorem cmpI_lt {a b : Int} (h : ¬ 0 ≤ cmpI a b) : a < b := by
  unfold cmpI at h
  split at h
  · assumption
  · split at h <;> omega
theorem mul_eq {b c : Bool} (m n : Nat) : mkI (!(b == c)) (val (ofNat (m * n))) = ofZ (sgn b m * sgn c n) := by
  rw [mkI_eq, ofNat_val]
  congr 1
  unfold sgn
  cases b <;> cases c <;> simp [Int.neg_mul, Int.mul_neg]
theorem conv_u64 (n : Int) : IntKind.u64.wrap n = (((n % 18446744073709551616).toNat : Nat) : Int) := by
  have : IntKind.u64.wrap n = n % 18446744073709551616 := by
    simp [IntKind.wrap, IntKind.bits, IntKind.signed]
  rw [this]; omega
theorem neg_u64 {n : Int} (h : n < 0) (h1 : -9223372036854775808 ≤ n) : IntKind.u64.wrap (0 - (((n % 18446744073709551616).toNat : Nat) : Int)) = (((-n).toNat : Nat) : Int) := by
  have : IntKind.u64.wrap (0 - (((n % 18446744073709551616).toNat : Nat) : Int)) = (0 - (((n % 18446744073709551616).toNat : Nat) : Int)) % 18446744073709551616 := by
    simp [IntKind.wrap, IntKind.bits, IntKind.signed]
  rw [this]; omega
theorem of_neg {n : Int} (h : n < 0) : mkI (decide (n < 0)) (val (ofNat (-n).toNat)) = ofZ n := by
  rw [ofNat_val]
  unfold ofZ
  congr 1; omega
theorem of_pos {n : Int} (h : ¬ n < 0) (h1 : n ≤ 9223372036854775807) : mkI (decide (n < 0)) (val (ofNat (n % 18446744073709551616).toNat)) = ofZ n := by
  rw [ofNat_val]
  unfold ofZ
  congr 1; omega
theorem signI_range (z : Int) : (signI z = 0 ∧ z = 0) ∨ (signI z = -1 ∧ z < 0) ∨ (signI z = 1 ∧ 0 < z) := by
  unfold signI
  split
  · left; omega
  · split <;> omega
theorem cmp_sign {a b : Int} (h : signI a ≠ signI b) : cmpI (signI a) (signI b) = cmpI a b := by
  rcases signI_range a with ⟨h1, h2⟩ | ⟨h1, h2⟩ | ⟨h1, h2⟩ <;> rcases signI_range b with ⟨h3, h4⟩ | ⟨h3, h4⟩ | ⟨h3, h4⟩ <;> first | exact absurd (h1.trans h3.symm) h | (rw [h1, h3]; unfold cmpI; first | rw [if_pos (by omega), if_pos (by omega)] | rw [if_neg (by omega), if_pos (by omega), if_neg (by omega), if_pos (by omega)])
theorem cmp_neg {x y : RInt} (h : signI (toZ x) = signI (toZ y)) (hn : x.neg = true) : -(cmpI ((val (grpI x) : Nat) : Int) ((val (grpI y) : Nat) : Int)) = cmpI (toZ x) (toZ y) := by
  have hx : toZ x = -((val (grpI x) : Nat) : Int) := by unfold toZ sgn; rw [if_pos hn]
  have hy : toZ y = -((val (grpI y) : Nat) : Int) ∨ toZ y = ((val (grpI y) : Nat) : Int) := by unfold toZ sgn; split <;> simp
  rcases signI_range (toZ x) with ⟨h1, h2⟩ | ⟨h1, h2⟩ | ⟨h1, h2⟩ <;> rcases signI_range (toZ y) with ⟨h3, h4⟩ | ⟨h3, h4⟩ | ⟨h3, h4⟩ <;> first | (exfalso; omega) | skip
  · have e1 : ((val (grpI x) : Nat) : Int) = 0 := by omega
    have e2 : ((val (grpI y) : Nat) : Int) = 0 := by omega
    rw [e1, e2, h2, h4]; rfl
  · have e2 : toZ y = -((val (grpI y) : Nat) : Int) := by omega
    rw [hx, e2]
    unfold cmpI
    split <;> split <;> first | rfl | omega | (split <;> first | rfl | omega)
theorem cmp_pos {x y : RInt} (h : signI (toZ x) = signI (toZ y)) (hn : x.neg = false) : cmpI ((val (grpI x) : Nat) : Int) ((val (grpI y) : Nat) : Int) = cmpI (toZ x) (toZ y) := by
  have hx : toZ x = ((val (grpI x) : Nat) : Int) := by unfold toZ sgn; rw [hn]; rfl
  have hy : toZ y = -((val (grpI y) : Nat) : Int) ∨ toZ y = ((val (grpI y) : Nat) : Int) := by unfold toZ sgn; split <;> simp
  rcases signI_range (toZ x) with ⟨h1, h2⟩ | ⟨h1, h2⟩ | ⟨h1, h2⟩ <;> rcases signI_range (toZ y) with ⟨h3, h4⟩ | ⟨h3, h4⟩ | ⟨h3, h4⟩ <;> first | (exfalso; omega) | skip
  · have e1 : ((val (grpI x) : Nat) : Int) = 0 := by omega
    have e2 : ((val (grpI y) : Nat) : Int) = 0 := by omega
    rw [e1, e2, h2, h4]
  · have e2 : toZ y = ((val (grpI y) : Nat) : Int) := by omega
    rw [hx, e2]
theorem cmpI_range (a b : Int) : -1 ≤ cmpI a b ∧ cmpI a b ≤ 1 := by
  unfold cmpI; split <;> (try split) <;> omega
theorem sub_sgn (x y : RInt) : sgn x.neg (val (grpI x)) + sgn (!y.neg) (val (grpI y)) = toZ x - toZ y := by
  unfold toZ sgn
  cases y.neg <;> simp <;> omega
end Go.Fid
