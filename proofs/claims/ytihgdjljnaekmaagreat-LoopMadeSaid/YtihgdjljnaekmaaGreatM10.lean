/- Part 10 of a proof: rules, plain facts, and functions walked. -/
import Derived.Test.YtihgdjljnaekmaaGreatM9
import Derived.Test.YtihgdjljnaekmaaGreatM8
namespace Go.Fid
set_option linter.unusedVariables false
set_option linter.unusedSimpArgs false
def xM (z : Int) : Nat := (ofNat z.natAbs).length
theorem ofZ_len (z : Int) : (jR z).gs.length = xM z := rfl
theorem fY (x : kG) : (jS x).natAbs = val (jV x) := by
  unfold jS nG; split <;> simp
theorem grpI_eq (x : kG) : jV x = ofNat (jS x).natAbs := by rw [fY]; exact can_eq (kR x)
theorem mQ (x : kG) : xM (jS x) ≤ x.gs.length := by unfold xM; rw [← grpI_eq]; exact xZ x
theorem validI_of {b : Bool} {l : List Nat} (h : zC l) (hb : l = [] → b = false) : uI ⟨b, l⟩ = true := by
  unfold uI
  by_cases h0 : l = []
  · subst h0; simp [hb rfl]
  · have h1 : l.length ≠ 0 := fun e => h0 (List.eq_nil_of_length_eq_zero e)
    rw [if_neg (by show ((l.length : Nat) : Int) ≠ 0; omega)]
    obtain ⟨h2, _⟩ := aB h (by omega)
    have h3 : vI l = -1 := fR h.1
    simp only [Bool.and_eq_true, Bool.not_eq_true', decide_eq_false_iff_not, bne_iff_ne]
    rw [h3]
    exact ⟨by omega, by omega⟩
theorem validI_iff {x : kG} : uI x = true ↔ zC x.gs ∧ (x.gs = [] → x.neg = false) := by
  refine ⟨fun h => ?_, fun ⟨h1, h2⟩ => validI_of h1 h2⟩
  have h1 := kR x
  unfold jV at h1
  rw [if_pos h] at h1
  refine ⟨h1, fun h0 => ?_⟩
  unfold uI at h
  rw [if_pos (by rw [h0]; rfl)] at h
  simpa using h
theorem validI_ofZ (z : Int) : uI (jR z) = true := validI_iff.2 ⟨kO _, fun h => by
  have h1 : z.natAbs = 0 := ofNat_nil.1 h
  have h2 : z = 0 := by omega
  subst h2; rfl⟩
theorem grpI_ofZ (z : Int) : jV (jR z) = ofNat z.natAbs := by unfold jV; rw [if_pos (validI_ofZ z)]; rfl
theorem ofZ_neg (z : Int) : (jR z).neg = decide (z < 0) := by
  unfold jR vH
  by_cases h : z < 0
  · have : (z.natAbs != 0) = true := bne_iff_ne.2 (by omega)
    simp [h, this]
  · simp [h]
theorem gZ (z : Int) : jS (jR z) = z := by
  unfold jS nG
  rw [grpI_ofZ, ofZ_neg, jX]
  by_cases h : z < 0
  · simp [h]; omega
  · simp [h]; omega
theorem ofZ_toZ {x : kG} (h : uI x = true) : jR (jS x) = x := by
  obtain ⟨h1, h2⟩ := validI_iff.1 h
  obtain ⟨b, l⟩ := x
  have e : jV ⟨b, l⟩ = l := by unfold jV; rw [if_pos h]
  have e1 : jS ⟨b, l⟩ = nG b (val l) := by unfold jS; rw [e]
  rw [e1, ← nP]
  unfold vH
  rw [← can_eq h1]
  congr 1
  cases b with
  | false => rfl
  | true =>
    have : val l ≠ 0 := fun e0 => by
      have h3 := h2 (aH h1 e0)
      cases h3
    simp [this]
theorem toZ_bad {x : kG} (h : uI x = false) : jS x = 0 := by
  unfold jS jV
  rw [if_neg (by rw [h]; simp)]
  unfold nG; split <;> rfl
theorem gY {z : Int} {n : Nat} : xM z ≤ n ↔ z.natAbs < pw n := by
  refine ⟨fun h => Nat.lt_of_lt_of_le (ofNat_lt_pw _) (yM h), fun h => qJ h⟩
theorem lenZ_neg (z : Int) : xM (-z) = xM z := by unfold xM; rw [Int.natAbs_neg]
theorem dJ {y z : Int} (h : y.natAbs ≤ z.natAbs) : xM y ≤ xM z := vL h
theorem lenZ_add {a b : Int} {m n k : Nat} (ha : xM a ≤ m) (hb : xM b ≤ n) (h : max m n + 1 ≤ k) : xM (a + b) ≤ k := by
  have h1 := gY.1 ha
  have h2 := gY.1 hb
  refine gY.2 ?_
  have h3 : pw m ≤ pw (max m n) := yM (by omega)
  have h4 : pw n ≤ pw (max m n) := yM (by omega)
  have h5 : pw (max m n + 1) ≤ pw k := yM h
  rw [uB] at h5
  have h6 := Int.natAbs_add_le a b
  omega
theorem nQ {a b : Int} {m n k : Nat} (ha : xM a ≤ m) (hb : xM b ≤ n) (h : m + n ≤ k) : xM (a * b) ≤ k := by
  refine gY.2 ?_
  rw [Int.natAbs_mul]
  refine Nat.lt_of_lt_of_le ?_ (yM h)
  rw [pw_add]
  exact Nat.mul_lt_mul_of_lt_of_le (gY.1 ha) (Nat.le_of_lt (gY.1 hb)) (pw_pos _)
structure zW (x : kG) (z : Int) (n : Nat) : Prop where
  v : jS x = z
  l : x.gs.length ≤ n
theorem zW.ln {x : kG} {z : Int} {n : Nat} (h : zW x z n) : xM z ≤ n := by rw [← h.v]; exact Nat.le_trans (mQ x) h.l
theorem gO {z : Int} {n : Nat} (h : xM z ≤ n) : zW (jR z) z n := ⟨gZ z, h⟩
theorem nN {x : kG} {n : Nat} (h : x.gs.length ≤ n) : zW x (jS x) n := ⟨rfl, h⟩
theorem iok_add {x y : kG} {a b : Int} {m n k : Nat} (hx : zW x a m) (hy : zW y b n) (h : max m n + 1 ≤ k) : zW (jR (a + b)) (a + b) k := gO (lenZ_add hx.ln hy.ln h)
theorem nJ {x y : kG} {a b : Int} {m n k : Nat} (hx : zW x a m) (hy : zW y b n) (h : m + n ≤ k) : zW (jR (a * b)) (a * b) k := gO (nQ hx.ln hy.ln h)
theorem hH {x : kG} {a : Int} {m : Nat} (hx : zW x a m) : zW (jR (-a)) (-a) m := gO (by rw [lenZ_neg]; exact hx.ln)
theorem xI {x : kG} {a : Int} {m n : Nat} (hx : zW x a m) (h : m ≤ n) : zW x a n := ⟨hx.v, Nat.le_trans hx.l h⟩
theorem iu {x : kG} {a : Int} {m n : Nat} (hx : zW x a m) (h : m ≤ n := by decide) : zW x a n := xI hx h
theorem mJ {z : Int} (h : z.natAbs < 1000000000) : zW (jR z) z 1 := gO (gY.2 (by rw [show (1 : Nat) = 0 + 1 from rfl, uB, gX]; omega))
theorem signI_sub (a b : Int) : kF (a - b) = qY a b := by
  unfold kF qY
  split
  · rw [if_neg (by omega), if_neg (by omega)]
  · split
    · rw [if_pos (by omega)]
    · rw [if_neg (by omega), if_pos (by omega)]
theorem cmpI_neg {a b : Nat} (h : qY (a : Int) (b : Int) < 0) : a < b := by
  unfold qY at h
  split at h
  · omega
  · split at h <;> omega
theorem cmpI_nn {a b : Nat} (h : ¬ qY (a : Int) (b : Int) < 0) : b ≤ a := by
  unfold qY at h
  split at h
  · omega
  · omega
theorem word_both {a b : List Nat} (ha : Dig a) (h : (gN a && gN b) = true) : xL a = val a ∧ xL b = val b ∧ val a < 1000000000000000000 := by
  unfold gN at h
  rw [Bool.and_eq_true, decide_eq_true_eq, decide_eq_true_eq] at h
  unfold xL
  rw [if_pos h.1, if_pos h.2]
  exact ⟨rfl, rfl, val_len2 ha h.1⟩
theorem val_pos_len {b : List Nat} (h : 0 < val b) : 0 < b.length := by
  rcases b with _ | ⟨d, l⟩
  · rw [val_nil] at h; omega
  · simp
theorem hZ {b : List Nat} (hb : zC b) (h : 0 < b.length) : 0 < val b := by
  have h1 := val_top hb.1 h
  have h2 := aB hb h
  have h3 := Nat.mul_le_mul_right (pw (b.length - 1)) h2.1
  have h4 := pw_pos (b.length - 1)
  rw [Nat.succ_mul] at h3
  omega
theorem val_len1 {b : List Nat} (h : b.length = 1) : val b = b.getD 0 0 := by
  rcases b with _ | ⟨d, _ | ⟨e, l⟩⟩
  · simp at h
  · simp [val]
  · simp at h
theorem len_quo (l : List Nat) (hl : zC l) (n : Nat) : (ofNat (val l / n)).length ≤ l.length := by
  have h1 := vL (Nat.div_le_self (val l) n)
  rwa [← can_eq hl] at h1
theorem len_rem (l : List Nat) (hl : zC l) (n : Nat) : (ofNat (val l % n)).length ≤ l.length := by
  have h1 := vL (Nat.mod_le (val l) n)
  rwa [← can_eq hl] at h1
theorem gcd_toZ (x y : kG) : Nat.gcd (val (jV x)) (val (jV y)) = Int.gcd (jS x) (jS y) := by
  unfold Int.gcd; rw [fY, fY]
theorem mkI_false (n : Nat) : vH false n = jR (n : Int) := nP false n
theorem r_made_end {neg : Bool} {l : List Nat} {k : Nat} (hd : Dig l) (hk : k ≤ l.length) (hv : val (l.take k) = val l) (h : (decide ((0 : Int) < ((k : Nat) : Int)) && (((l.getD (k - 1) 0 : Nat) : Int) == 0)) = false) : vH neg (val l) = ⟨neg && decide ((0 : Int) < ((k : Nat) : Int)), l.take k⟩ := by
  have hc : zC (l.take k) := by
    refine ⟨hd.take k, ?_⟩
    unfold Top
    rw [List.length_take, Nat.min_eq_left hk]
    rcases Nat.eq_zero_or_pos k with h0 | h0
    · subst h0; simp
    · rw [Bool.and_eq_false_iff] at h
      rcases h with h | h
      · rw [decide_eq_false_iff_not] at h; omega
      · have h1 := ne_of_beq_false h
        have h6 : k - 1 < l.length := by omega
        simp [List.getD, List.getElem?_eq_getElem h6, List.getElem?_take_of_lt (show k - 1 < k by omega)] at h1 ⊢
        exact h1
  unfold vH
  rw [← hv, ← can_eq hc]
  congr 1
  congr 1
  rcases Nat.eq_zero_or_pos k with h0 | h0
  · subst h0; simp [val]
  · have h1 : 0 < val (l.take k) := hZ hc (by rw [List.length_take]; omega)
    have h2 : (val (l.take k) != 0) = true := bne_iff_ne.2 (by omega)
    rw [h2]; symm; exact decide_eq_true (by omega)
theorem r_made_step {l : List Nat} {k : Nat} (hk : k ≤ l.length) (hv : val (l.take k) = val l) (h : (decide ((0 : Int) < ((k : Nat) : Int)) && (((l.getD (k - 1) 0 : Nat) : Int) == 0)) = true) : 0 < k ∧ val (l.take (k - 1)) = val l := by
  rw [Bool.and_eq_true, decide_eq_true_eq, beq_iff_eq] at h
  have h0 : 0 < k := by omega
  refine ⟨h0, ?_⟩
  have h1 := val_take_succ l (k - 1)
  rw [show k - 1 + 1 = k by omega, show l.getD (k - 1) 0 = 0 by omega] at h1
  omega
theorem validI_big {x : kG} {i : Nat} (h : i < x.gs.length) (hb : ¬ x.gs.getD i 0 < 1000000000) : uI x = false := by
  rcases hv : uI x with _ | _
  · rfl
  · exact absurd ((validI_iff.1 hv).1.1.getD i) hb
theorem validI_nil {x : kG} (h : x.gs.length = 0) : uI x = !x.neg := by unfold uI; rw [if_pos (by omega)]
theorem validI_dig {x : kG} (hd : Dig x.gs) (h : x.gs.length ≠ 0) : uI x = (((x.gs.getD (x.gs.length - 1) 0 : Nat) : Int) != 0) := by
  unfold uI
  rw [if_neg (by omega), fR hd]
  simp
theorem push_step {o : List Nat} {i s : Nat} (hl : o.length = i) : val (o ++ [s % 1000000000]) + pw (i + 1) * (s / 1000000000) = val o + pw i * s := by
  rw [mG, hl, nS, uB]
  have h := Nat.mod_add_div s 1000000000
  have h2 : pw i * s = pw i * (s % 1000000000) + pw i * (1000000000 * (s / 1000000000)) := by rw [← Nat.mul_add, h]
  rw [h2, Nat.mul_comm 1000000000 (pw i), Nat.mul_assoc]
  omega
theorem dig_push {o : List Nat} (h : Dig o) {d : Nat} (hd : d < 1000000000) : Dig (o ++ [d]) := fQ.2 ⟨h, xQ.2 ⟨hd, zY⟩⟩
theorem rplus_step {a b o : List Nat} {i c s : Nat} (hl : o.length = i) (hv : val o + pw i * c = val (a.take i) + val (b.take i)) (hs : s = a.getD i 0 + b.getD i 0 + c) :
    val (o ++ [s % 1000000000]) + pw (i + 1) * (s / 1000000000) = val (a.take (i + 1)) + val (b.take (i + 1)) := by
  rw [push_step hl, val_take_succ, val_take_succ, hs, Nat.mul_add, Nat.mul_add]
  omega
theorem rminus_step {a b o : List Nat} {i c s : Nat} (hl : o.length = i) (hv : val o + val (b.take i) = val (a.take i) + pw i * c) (hs : s + b.getD i 0 + c = 1000000000 + a.getD i 0) (h1 : s / 1000000000 ≤ 1) :
    val (o ++ [s % 1000000000]) + val (b.take (i + 1)) = val (a.take (i + 1)) + pw (i + 1) * (1 - s / 1000000000) := by
  have h := push_step (o := o) (i := i) (s := s) hl
  have h2 : pw (i + 1) * (1 - s / 1000000000) + pw (i + 1) * (s / 1000000000) = pw (i + 1) := by
    rw [← Nat.mul_add, Nat.sub_add_cancel h1, Nat.mul_one]
  have h3 := congrArg (pw i * ·) hs
  simp only [Nat.mul_add] at h3
  rw [val_take_succ, val_take_succ]
  rw [uB] at h h2 ⊢
  rw [Nat.mul_comm (pw i) 1000000000] at h3
  omega
theorem rscaled_step {a o : List Nat} {i c d s : Nat} (hl : o.length = i) (hv : val o + pw i * c = val (a.take i) * d) (hs : s = a.getD i 0 * d + c) :
    val (o ++ [s % 1000000000]) + pw (i + 1) * (s / 1000000000) = val (a.take (i + 1)) * d := by
  rw [push_step hl, val_take_succ, hs, Nat.mul_add, Nat.add_mul, Nat.mul_assoc]
  omega
theorem val_push {o : List Nat} {i c : Nat} (hl : o.length = i) : val (o ++ [c]) = val o + pw i * c := by rw [mG, hl, nS]
theorem take_all {a : List Nat} {i : Nat} (h : a.length ≤ i) : a.take i = a := List.take_of_length_le h
theorem rminus_end {a b o : List Nat} {i c : Nat} (hda : Dig a) (hb : Dig b) (hd : Dig o) (hi : i = a.length) (hl : o.length = i) (hba : val b ≤ val a) (hv : val o + val (b.take i) = val (a.take i) + pw i * c) : val o = val a - val b := by
  have h1 : val (b.take i) = val b := val_take_of_lt (by rw [hi]; exact Nat.lt_of_le_of_lt hba (uX hda))
  rw [h1, hi, List.take_length] at hv
  have h2 := uX hd
  rw [hl, hi] at h2
  rcases Nat.eq_zero_or_pos c with h3 | h3
  · subst h3; omega
  · have := Nat.mul_le_mul_left (pw a.length) h3
    omega
theorem gG (X : Int) : nG (jR X).neg X.natAbs = X := by
  rw [ofZ_neg]; unfold nG
  by_cases h : X < 0
  · simp [h]; omega
  · simp [h]; omega
theorem rneg_eq (X : Int) : vH (!(jR X).neg) (val (ofNat X.natAbs)) = jR (-X) := by
  rw [nP, jX]
  congr 1
  have h := gG X
  unfold nG at h ⊢
  cases hn : (jR X).neg <;> simp [hn] at h ⊢ <;> omega
theorem rsum_same {X Y : Int} (h : (jR X).neg = (jR Y).neg) : vH (jR X).neg (val (ofNat (val (ofNat X.natAbs) + val (ofNat Y.natAbs)))) = jR (X + Y) := by
  rw [sum_same h, jX, jX, gG, gG]
theorem rsum_first {X Y : Int} (h : (jR X).neg ≠ (jR Y).neg) (hn : val (ofNat Y.natAbs) ≤ val (ofNat X.natAbs)) : vH (jR X).neg (val (ofNat (val (ofNat X.natAbs) - val (ofNat Y.natAbs)))) = jR (X + Y) := by
  rw [sum_first h hn, jX, jX, gG, gG]
theorem rsum_second {X Y : Int} (h : (jR X).neg ≠ (jR Y).neg) (hn : val (ofNat X.natAbs) ≤ val (ofNat Y.natAbs)) : vH (jR Y).neg (val (ofNat (val (ofNat Y.natAbs) - val (ofNat X.natAbs)))) = jR (X + Y) := by
  rw [sum_second h hn, jX, jX, gG, gG]
theorem rmul_eq (X Y : Int) : vH (!((jR X).neg == (jR Y).neg)) (val (ofNat X.natAbs) * val (ofNat Y.natAbs)) = jR (X * Y) := by
  have h := mul_eq (b := (jR X).neg) (c := (jR Y).neg) (val (ofNat X.natAbs)) (val (ofNat Y.natAbs))
  rw [jX (val (ofNat X.natAbs) * val (ofNat Y.natAbs))] at h
  rw [h, jX, jX, gG, gG]
theorem rsign_zero {X : Int} (h : (((ofNat X.natAbs).length : Nat) : Int) = 0) : kF X = 0 := by
  have h1 : X.natAbs = 0 := ofNat_nil.1 (List.eq_nil_of_length_eq_zero (by omega))
  have h2 : X = 0 := by omega
  subst h2; rfl
theorem rsign_ne {X : Int} (h : (((ofNat X.natAbs).length : Nat) : Int) ≠ 0) : X ≠ 0 := fun e => h (by subst e; simp [uC])
theorem rsign_neg {X : Int} (h : (((ofNat X.natAbs).length : Nat) : Int) ≠ 0) (hn : (jR X).neg = true) : kF X = -1 := by
  have h1 := rsign_ne h
  rw [ofZ_neg, decide_eq_true_eq] at hn
  unfold kF; rw [if_neg h1, if_pos hn]
theorem rsign_pos {X : Int} (h : (((ofNat X.natAbs).length : Nat) : Int) ≠ 0) (hn : (jR X).neg = false) : kF X = 1 := by
  have h1 := rsign_ne h
  rw [ofZ_neg, decide_eq_false_iff_not] at hn
  unfold kF; rw [if_neg h1, if_neg hn]
theorem gs_val (x : kG) : (jR (jS x)).gs.length ≤ x.gs.length := mQ x
theorem mP (x : kG) : (ofNat (jS x).natAbs).length ≤ x.gs.length := mQ x
theorem gs_neg (x : kG) : (jR (-jS x)).gs.length ≤ x.gs.length := by rw [ofZ_len, lenZ_neg]; exact mQ x
theorem gs_sub (x y : kG) : (jR (jS x - jS y)).gs.length ≤ max x.gs.length y.gs.length + 1 := by
  rw [Int.sub_eq_add_neg, ofZ_len]; exact lenZ_add (mQ x) (by rw [lenZ_neg]; exact mQ y) (Nat.le_refl _)
theorem gs_mul (x y : kG) : (jR (jS x * jS y)).gs.length ≤ x.gs.length + y.gs.length := nQ (mQ x) (mQ y) (Nat.le_refl _)
theorem val_pair {l : List Nat} (h : l.length ≤ 2) : val l = l.getD 1 0 * 1000000000 + l.getD 0 0 := by
  rcases l with _ | ⟨d, _ | ⟨e, _ | ⟨f, l⟩⟩⟩
  · rfl
  · simp [val]
  · simp [val]; omega
  · simp at h
theorem rshift_val {q : List Nat} (u : List Nat) {i V r : Nat} (h : val (u.drop (i + 1)) = V * val (q.drop (i + 1)) + r) : val (u.drop i) = V * (1000000000 * val (q.drop (i + 1))) + (u.getD i 0 + 1000000000 * r) := by
  rw [uK u i, h, Nat.mul_left_comm]
  rw [Nat.mul_add]; omega
theorem rguess {v : List Nat} {W n : Nat} (hv : Dig v) (hn : v.length = n) (h1 : 1 ≤ n) (hW : W < 1000000000 * val v) :
    ((ofNat W).getD n 0 * 1000000000 + (ofNat W).getD (n - 1) 0) / (v.getD (n - 1) 0 + 1) * val v ≤ W ∧ ((ofNat W).getD n 0 * 1000000000 + (ofNat W).getD (n - 1) 0) / (v.getD (n - 1) 0 + 1) < 1000000000 := by
  have hw := uX hv
  have ht := val_top hv (by omega)
  rw [hn] at hw ht
  have hp := pw_pos (n - 1)
  have e1 := yC (ofNat W) 0 (n - 1)
  have e2 := uK (ofNat W) (n - 1)
  have e3 := uK (ofNat W) n
  have e5 : W < pw (n + 1) := by rw [uB]; omega
  have e4 : (ofNat W).drop (n + 1) = [] := List.drop_eq_nil_of_le (qJ e5)
  rw [e4, val_nil] at e3
  rw [show n - 1 + 1 = n by omega] at e2
  rw [List.drop_zero, jX, Nat.zero_add] at e1
  generalize (ofNat W).getD n 0 = t1 at *
  generalize (ofNat W).getD (n - 1) 0 = t0 at *
  generalize v.getD (n - 1) 0 = v1 at *
  have e6 : pw (n - 1) * (t1 * 1000000000 + t0) ≤ W := by
    have : t1 * 1000000000 + t0 = val ((ofNat W).drop (n - 1)) := by omega
    rw [this]; omega
  have e7 := Nat.div_mul_le_self (t1 * 1000000000 + t0) (v1 + 1)
  generalize (t1 * 1000000000 + t0) / (v1 + 1) = G at *
  have e8 : G * val v ≤ W := by
    refine Nat.le_trans (Nat.mul_le_mul_left G (Nat.le_of_lt ht.2)) (Nat.le_trans ?_ e6)
    rw [← Nat.mul_assoc, Nat.mul_comm (pw (n - 1))]
    exact Nat.mul_le_mul_right _ e7
  refine ⟨e8, ?_⟩
  have e9 : G * val v < 1000000000 * val v := by omega
  exact Nat.lt_of_mul_lt_mul_right e9
theorem rquo_lt {G V r W : Nat} (h : V * G + r = W) (hW : W < 1000000000 * V) : G < 1000000000 := by
  have h1 : G * V < 1000000000 * V := by rw [Nat.mul_comm G V]; omega
  exact Nat.lt_of_mul_lt_mul_right h1
theorem rround {u q : List Nat} {V G r i : Nat} (hi : i < q.length) (h : val (u.drop i) = V * (1000000000 * val (q.drop (i + 1))) + (V * G + r)) : val (u.drop i) = V * val ((q.set i G).drop i) + r := by
  rw [h, nR q i G hi, Nat.mul_add]; omega
theorem split_dig {o : List Nat} {m n : Nat} (h : o ++ ofNat m = ofNat n) (hm : ¬ (0 : Int) < ((m : Nat) : Int)) : Dig o := by
  rw [← split_end h hm]; exact jY n
theorem split_val {o : List Nat} {m n : Nat} (h : o ++ ofNat m = ofNat n) (hm : ¬ (0 : Int) < ((m : Nat) : Int)) : val o = n := by
  rw [← split_end h hm]; exact jX n
theorem ofZ_zero : jR 0 = ⟨false, []⟩ := by unfold jR vH; simp [uC]
theorem rshort_step {a q : List Nat} {d vG i n : Nat} (hi : i < q.length) (hv : val (a.drop (i + 1)) = val (q.drop (i + 1)) * d + vG) (hn : n = vG * 1000000000 + a.getD i 0) :
    val (a.drop i) = val ((q.set i (n / d)).drop i) * d + n % d := by
  rw [uK a i, hv, nR q i _ hi]
  have h3 := Nat.div_add_mod n d
  rw [Nat.add_mul, Nat.mul_comm (n / d) d]
  have h4 : 1000000000 * val (q.drop (i + 1)) * d = 1000000000 * (val (q.drop (i + 1)) * d) := Nat.mul_assoc _ _ _
  omega
theorem fdiv_unique {x y q r : Int} (h : r + y * q = x) (hr : (0 ≤ r ∧ r < y) ∨ (y < r ∧ r ≤ 0)) : x.fdiv y = q ∧ x.fmod y = r := by
  rcases hr with ⟨h1, h2⟩ | ⟨h1, h2⟩
  · have hy : 0 < y := by omega
    rw [Int.fdiv_eq_ediv_of_nonneg _ (by omega), Int.fmod_eq_emod_of_nonneg _ (by omega)]
    exact (Int.ediv_emod_unique hy).2 ⟨h, h1, h2⟩
  · have hy : 0 < -y := by omega
    have h3 : (-x).fdiv (-y) = q ∧ (-x).fmod (-y) = -r := by
      rw [Int.fdiv_eq_ediv_of_nonneg _ (by omega), Int.fmod_eq_emod_of_nonneg _ (by omega)]
      refine (Int.ediv_emod_unique hy).2 ⟨?_, by omega, by omega⟩
      rw [← h, Int.neg_mul]; omega
    rw [Int.neg_fdiv_neg, Int.neg_fmod_neg] at h3
    exact ⟨h3.1, by omega⟩
theorem div_same {b c : Bool} {m n : Nat} (hn : 0 < n) (h : b = c ∨ m % n = 0) :
    jR ((nG b m).fdiv (nG c n)) = vH (!(b == c)) (m / n) ∧ jR ((nG b m).fmod (nG c n)) = vH c (m % n) := by
  have h1 : ((m % n : Nat) : Int) + (n : Int) * ((m / n : Nat) : Int) = (m : Int) := by
    have := Nat.mod_add_div m n; exact_mod_cast this
  have h2 := Nat.mod_lt m hn
  rw [nP, nP]
  have key : (nG b m).fdiv (nG c n) = nG (!(b == c)) (m / n) ∧ (nG b m).fmod (nG c n) = nG c (m % n) := by
    have h3 : ((m % n : Nat) : Int) = 0 ∨ b = c := by rcases h with h | h; exact .inr h; exact .inl (by omega)
    generalize m / n = q at *
    generalize m % n = r at *
    refine fdiv_unique ?_ ?_
    · cases b <;> cases c
      · show (r : Int) + (n : Int) * (q : Int) = (m : Int); exact h1
      · show -(r : Int) + (-(n : Int)) * (-(q : Int)) = (m : Int); rw [Int.neg_mul_neg]; rcases h3 with h3 | h3; omega; cases h3
      · show (r : Int) + (n : Int) * (-(q : Int)) = -(m : Int); rw [Int.mul_neg]; rcases h3 with h3 | h3; omega; cases h3
      · show -(r : Int) + (-(n : Int)) * (q : Int) = -(m : Int); rw [Int.neg_mul]; omega
    · cases c
      · left; show 0 ≤ (r : Int) ∧ (r : Int) < (n : Int); omega
      · right; show -(n : Int) < -(r : Int) ∧ -(r : Int) ≤ 0; omega
  rw [key.1, key.2]
  exact ⟨rfl, rfl⟩
theorem div_other {b c : Bool} {m n : Nat} (hn : 0 < n) (h : b ≠ c) (hr : 0 < m % n) :
    jR ((nG b m).fdiv (nG c n)) = vH (!(b == c)) (m / n + 1) ∧ jR ((nG b m).fmod (nG c n)) = vH c (n - m % n) := by
  have h1 : ((m % n : Nat) : Int) + (n : Int) * ((m / n : Nat) : Int) = (m : Int) := by
    have := Nat.mod_add_div m n; exact_mod_cast this
  have h2 := Nat.mod_lt m hn
  rw [nP, nP]
  have key : (nG b m).fdiv (nG c n) = nG (!(b == c)) (m / n + 1) ∧ (nG b m).fmod (nG c n) = nG c (n - m % n) := by
    have e1 : (n : Int) * (((m / n + 1 : Nat)) : Int) = (n : Int) * ((m / n : Nat) : Int) + n := by
      rw [Int.natCast_add, Int.mul_add]; simp
    generalize m / n = q at *
    generalize m % n = r at *
    refine fdiv_unique ?_ ?_
    · cases b <;> cases c
      · exact absurd rfl h
      · show -((n - r : Nat) : Int) + (-(n : Int)) * (-((q + 1 : Nat) : Int)) = (m : Int); rw [Int.neg_mul_neg, e1]; omega
      · show ((n - r : Nat) : Int) + (n : Int) * (-((q + 1 : Nat) : Int)) = -(m : Int); rw [Int.mul_neg, e1]; omega
      · exact absurd rfl h
    · cases c
      · left; show 0 ≤ ((n - r : Nat) : Int) ∧ ((n - r : Nat) : Int) < (n : Int); omega
      · right; show -(n : Int) < -((n - r : Nat) : Int) ∧ -((n - r : Nat) : Int) ≤ 0; omega
  rw [key.1, key.2]
  exact ⟨rfl, rfl⟩
theorem r_div_same {X Y : Int} (hn : 0 < Y.natAbs) (h : (jR X).neg = (jR Y).neg ∨ ¬ (0 : Int) < (((ofNat (val (ofNat X.natAbs) % val (ofNat Y.natAbs))).length : Nat) : Int)) :
    vH (!((jR X).neg == (jR Y).neg)) (val (ofNat (val (ofNat X.natAbs) / val (ofNat Y.natAbs)))) = jR (X.fdiv Y) := by
  rw [jX, jX, jX]
  rw [jX, jX] at h
  have h1 := (div_same (b := (jR X).neg) (c := (jR Y).neg) (m := X.natAbs) (n := Y.natAbs) hn (by
    rcases h with h | h
    · exact .inl h
    · right
      rcases Nat.eq_zero_or_pos (X.natAbs % Y.natAbs) with h2 | h2
      · exact h2
      · have := gS h2; omega)).1
  rw [gG, gG] at h1
  exact h1.symm
theorem r_div_other {X Y : Int} (hn : 0 < Y.natAbs) (h : (jR X).neg ≠ (jR Y).neg ∧ (0 : Int) < (((ofNat (val (ofNat X.natAbs) % val (ofNat Y.natAbs))).length : Nat) : Int)) :
    jR (jS (vH (!((jR X).neg == (jR Y).neg)) (val (ofNat (val (ofNat X.natAbs) / val (ofNat Y.natAbs))))) - jS (jR 1)) = jR (X.fdiv Y) := by
  obtain ⟨h, h0⟩ := h
  rw [jX, jX] at h0
  have h2 : 0 < X.natAbs % Y.natAbs := by
    rcases Nat.eq_zero_or_pos (X.natAbs % Y.natAbs) with h3 | h3
    · rw [h3, uC] at h0; simp at h0
    · exact h3
  have h1 := (div_other hn h h2).1
  rw [gG, gG] at h1
  rw [h1, jX, jX, jX, nP, nP, gZ, gZ]
  have hb : (!((jR X).neg == (jR Y).neg)) = true := by rw [Bool.not_eq_true', beq_eq_false_iff_ne]; exact h
  rw [hb]
  congr 1
  unfold nG
  rw [if_pos rfl, if_pos rfl]; omega
theorem r_rem_eq (X Y : Int) : jR (jS (jR X) - jS (jR (jS (jR (X.fdiv Y)) * jS (jR Y)))) = jR (X.fmod Y) := by
  rw [gZ, gZ, gZ, gZ, Int.fmod_def, Int.mul_comm]
theorem lenZ_fdiv (a b : Int) : xM (a.fdiv b) ≤ xM a + 1 := by
  refine gY.2 ?_
  have h1 := gY.1 (Nat.le_refl (xM a))
  rw [uB]
  have h2 : (a.fdiv b).natAbs ≤ a.natAbs + 1 := by
    rw [Int.fdiv_eq_ediv]
    have := Int.natAbs_ediv_le_natAbs a b
    split <;> omega
  have := pw_pos (xM a)
  omega
def yP (q : Rat) : uG := ⟨jR q.num, jR q.den⟩
def xS (x : uG) : Bool := uI x.num && (uI x.den && (decide (0 < jS x.den) && (Int.gcd (jS x.num) (jS x.den) == 1)))
def toQ (x : uG) : Rat := if xS x = true then Rat.divInt (jS x.num) (jS x.den) else 0
theorem dQ (q : Rat) : xS (yP q) = true := by
  unfold xS yP
  simp only [validI_ofZ, gZ, Bool.true_and, Bool.and_eq_true, decide_eq_true_eq, beq_iff_eq]
  refine ⟨by have := q.den_pos; omega, ?_⟩
  have := q.reduced
  unfold Int.gcd
  rw [Int.natAbs_natCast]
  exact this
theorem toQ_ofQ (q : Rat) : toQ (yP q) = q := by
  unfold toQ
  rw [if_pos (dQ q)]
  unfold yP
  simp only [gZ]
  exact Rat.num_divInt_den q
theorem ofQ_toQ {x : uG} (h : xS x = true) : yP (toQ x) = x := by
  unfold toQ
  rw [if_pos h]
  unfold xS at h
  simp only [Bool.and_eq_true, decide_eq_true_eq, beq_iff_eq] at h
  obtain ⟨h1, h2, h3, h4⟩ := h
  have e1 : (Rat.divInt (jS x.num) (jS x.den)).num = jS x.num := by
    rw [Rat.num_divInt, Int.gcd_comm, h4, Int.sign_eq_one_of_pos h3]; simp
  have e2 : (((Rat.divInt (jS x.num) (jS x.den)).den : Nat) : Int) = jS x.den := by
    rw [Rat.den_divInt, if_neg (by omega), Int.gcd_comm, h4]; simp; omega
  unfold yP
  rw [e1, e2, ofZ_toZ h1, ofZ_toZ h2]
theorem toQ_bad {x : uG} (h : xS x = false) : toQ x = 0 := by unfold toQ; rw [if_neg (by rw [h]; simp)]
def QL (q : Rat) (n : Nat) : Prop := xM q.num ≤ n ∧ xM q.den ≤ n
theorem ql_up {q : Rat} {m n : Nat} (h : QL q m) (hm : m ≤ n) : QL q n := ⟨Nat.le_trans h.1 hm, Nat.le_trans h.2 hm⟩
theorem mL {a b : Int} {n : Nat} (ha : xM a ≤ n) (hb : xM b ≤ n) (h1 : 1 ≤ n) : QL (Rat.divInt a b) n := by
  constructor
  · refine Nat.le_trans ?_ ha
    refine dJ ?_
    rw [Rat.num_divInt]
    refine Nat.le_trans (Int.natAbs_ediv_le_natAbs _ _) ?_
    rw [Int.natAbs_mul]
    rcases Int.lt_trichotomy b 0 with h | h | h
    · rw [Int.sign_eq_neg_one_of_neg h]; simp
    · rw [h]; simp
    · rw [Int.sign_eq_one_of_pos h]; simp
  · rw [Rat.den_divInt]
    split
    · exact Nat.le_trans (by unfold xM; simp [nE, uC]) h1
    · refine Nat.le_trans ?_ hb
      refine dJ ?_
      rw [Int.natAbs_natCast]
      exact Nat.div_le_self _ _
theorem add_divInt (a b : Rat) : a + b = Rat.divInt (a.num * b.den + b.num * a.den) (a.den * b.den) := by
  rw [Rat.add_def', ← Rat.divInt_ofNat, Int.natCast_mul]
theorem mul_divInt (a b : Rat) : a * b = Rat.divInt (a.num * b.num) (a.den * b.den) := by
  rw [Rat.mul_def', ← Rat.divInt_ofNat, Int.natCast_mul]
theorem div_divInt (a b : Rat) : a / b = Rat.divInt (a.num * b.den) (a.den * b.num) := by
  rw [Rat.div_def, Rat.inv_def]
  conv => lhs; rw [← Rat.num_divInt_den a]
  rw [Rat.divInt_mul_divInt]
theorem ql_add {a b : Rat} {m n k : Nat} (ha : QL a m) (hb : QL b n) (h : m + n + 1 ≤ k) : QL (a + b) k := by
  rw [add_divInt]
  refine mL (lenZ_add (nQ ha.1 hb.2 (Nat.le_refl _)) (nQ hb.1 ha.2 (Nat.le_refl _)) (by omega)) (nQ ha.2 hb.2 (by omega)) (by omega)
theorem ql_neg {a : Rat} {m : Nat} (ha : QL a m) : QL (-a) m := ⟨by rw [Rat.neg_num, lenZ_neg]; exact ha.1, by rw [Rat.neg_den]; exact ha.2⟩
theorem ql_sub {a b : Rat} {m n k : Nat} (ha : QL a m) (hb : QL b n) (h : m + n + 1 ≤ k) : QL (a - b) k := by
  rw [Rat.sub_eq_add_neg]; exact ql_add ha (ql_neg hb) h
theorem ql_pos {a : Rat} {m : Nat} (ha : QL a m) : 1 ≤ m := by
  have h1 := gY.1 ha.2
  rcases Nat.eq_zero_or_pos m with h | h
  · subst h; rw [gX] at h1; have := a.den_pos; omega
  · exact h
theorem ql_mul {a b : Rat} {m n k : Nat} (ha : QL a m) (hb : QL b n) (h : m + n ≤ k) : QL (a * b) k := by
  have h1 := ql_pos ha
  rw [mul_divInt]
  exact mL (nQ ha.1 hb.1 h) (nQ ha.2 hb.2 h) (by omega)
theorem ql_div {a b : Rat} {m n k : Nat} (ha : QL a m) (hb : QL b n) (h : m + n ≤ k) : QL (a / b) k := by
  have h1 := ql_pos ha
  rw [div_divInt]
  exact mL (nQ ha.1 hb.2 h) (nQ ha.2 hb.1 h) (by omega)
theorem lenZ_one {z : Int} (h : z.natAbs < 1000000000) : xM z ≤ 1 := gY.2 (by rw [show (1 : Nat) = 0 + 1 from rfl, uB, gX]; omega)
theorem ql_int {z : Int} {n : Nat} (h : xM z ≤ n) (h1 : 1 ≤ n) : QL (z : Rat) n := ⟨h, Nat.le_trans (lenZ_one (by simp)) h1⟩
theorem ql_zero : QL 0 1 := ⟨lenZ_one (by simp), lenZ_one (by simp)⟩
structure QOk (x : uG) (q : Rat) (n : Nat) : Prop where
  v : toQ x = q
  p : 1 ≤ n
  n1 : x.num.gs.length ≤ n
  n2 : x.den.gs.length ≤ n
theorem QOk.ql {x : uG} {q : Rat} {n : Nat} (h : QOk x q n) : QL q n := by
  rw [← h.v]
  by_cases hv : xS x = true
  · unfold toQ; rw [if_pos hv]
    exact mL (Nat.le_trans (mQ _) h.n1) (Nat.le_trans (mQ _) h.n2) h.p
  · unfold toQ; rw [if_neg hv]
    exact ql_up ql_zero h.p
theorem qok_of {q : Rat} {n : Nat} (h : QL q n) : QOk (yP q) q n := ⟨toQ_ofQ q, ql_pos h, h.1, h.2⟩
theorem gW {q : Rat} {n : Nat} (h : QL q n) : zW (yP q).num q.num n := gO h.1
theorem yS {q : Rat} {n : Nat} (h : QL q n) : zW (yP q).den q.den n := gO h.2
theorem eK {x : uG} {a : Rat} {m n : Nat} (hx : QOk x a m) (h : m ≤ n) : QOk x a n := ⟨hx.v, Nat.le_trans hx.p h, Nat.le_trans hx.n1 h, Nat.le_trans hx.n2 h⟩
theorem divInt_parts {a b : Int} (hb : 0 < b) : yP (Rat.divInt a b) = ⟨jR (a.fdiv (Int.gcd a b)), jR (b.fdiv (Int.gcd a b))⟩ := by
  unfold yP
  have e1 : (Rat.divInt a b).num = a.fdiv (Int.gcd a b) := by
    rw [Rat.num_divInt, Int.sign_eq_one_of_pos hb, Int.one_mul, Int.gcd_comm, Int.fdiv_eq_ediv_of_nonneg _ (by omega)]
  have e2 : (((Rat.divInt a b).den : Nat) : Int) = b.fdiv (Int.gcd a b) := by
    rw [Rat.den_divInt, if_neg (by omega), Int.gcd_comm, Int.fdiv_eq_ediv_of_nonneg _ (by omega), Int.natCast_ediv]
    congr 1; omega
  rw [e1, e2]
def cmpQ (a b : Rat) : Int := if a < b then -1 else if b < a then 1 else 0
theorem cmpQ_cross (a b : Rat) : qY (a.num * b.den) (b.num * a.den) = cmpQ a b := by
  unfold qY cmpQ
  simp only [Rat.lt_iff]
def signQ (a : Rat) : Int := kF a.num
theorem copied_eq {x : uG} (h : xS x = true) : (⟨jR (-(-jS x.num)), jR (-(-jS x.den))⟩ : uG) = yP (toQ x) := by
  have h0 := h
  unfold xS at h
  simp only [Bool.and_eq_true] at h
  rw [ofQ_toQ h0, Int.neg_neg, Int.neg_neg, ofZ_toZ h.1, ofZ_toZ h.2.1]
theorem red_neg {a b : Int} (hb : b < 0) : (⟨jR ((-a).fdiv (Int.gcd (-a) (-b))), jR ((-b).fdiv (Int.gcd (-a) (-b)))⟩ : uG) = yP (Rat.divInt a b) := by
  rw [← divInt_parts (by omega), Rat.neg_divInt_neg]
theorem red_pos {a b : Int} (hb : ¬ b < 0) (h0 : b ≠ 0) : (⟨jR (a.fdiv (Int.gcd a b)), jR (b.fdiv (Int.gcd a b))⟩ : uG) = yP (Rat.divInt a b) := (divInt_parts (by omega)).symm
theorem gcd_ne {a b : Int} (hb : b ≠ 0) : ((Int.gcd a b : Nat) : Int) ≠ 0 := by
  intro h
  have h1 : Int.gcd a b = 0 := by omega
  rw [Int.gcd_eq_zero_iff] at h1
  exact hb h1.2
theorem lenZ_gcd {a b : Int} {n : Nat} (hb : b ≠ 0) (h : xM b ≤ n) : xM ((Int.gcd a b : Nat) : Int) ≤ n := by
  refine Nat.le_trans (dJ ?_) h
  rw [Int.natAbs_natCast]
  exact Nat.le_of_dvd (by omega) (Int.gcd_dvd_natAbs_right a b)
theorem signI_le {z : Int} : kF z ≤ 0 ↔ z ≤ 0 := by
  rcases yI z with ⟨h1, h2⟩ | ⟨h1, h2⟩ | ⟨h1, h2⟩ <;> omega
theorem signI_lt {z : Int} : kF z < 0 ↔ z < 0 := by
  rcases yI z with ⟨h1, h2⟩ | ⟨h1, h2⟩ | ⟨h1, h2⟩ <;> omega
theorem cmpI_zero {a b : Int} : qY a b = 0 ↔ a = b := by
  unfold qY
  split
  · constructor <;> intro h <;> omega
  · split <;> constructor <;> intro h <;> omega
theorem validR_no {x : uG} (h : ((!uI x.num || !uI x.den) || decide (kF (jS x.den) ≤ 0)) = true) : xS x = false := by
  unfold xS
  rw [Bool.or_eq_true, Bool.or_eq_true, Bool.not_eq_true', Bool.not_eq_true', decide_eq_true_eq, signI_le] at h
  rcases h with (h | h) | h
  · rw [h]; rfl
  · rw [h]; simp
  · rw [show decide (0 < jS x.den) = false from decide_eq_false (by omega)]; simp
theorem validR_yes {x : uG} (h : ((!uI x.num || !uI x.den) || decide (kF (jS x.den) ≤ 0)) = false) : xS x = (qY ((Int.gcd (jS x.num) (jS x.den) : Nat) : Int) 1 == 0) := by
  unfold xS
  rw [Bool.or_eq_false_iff, Bool.or_eq_false_iff, Bool.not_eq_false', Bool.not_eq_false', decide_eq_false_iff_not, signI_le] at h
  obtain ⟨⟨h1, h2⟩, h3⟩ := h
  rw [h1, h2, show decide (0 < jS x.den) = true from decide_eq_true (by omega)]
  simp only [Bool.true_and]
  rw [Bool.eq_iff_iff, beq_iff_eq, beq_iff_eq, cmpI_zero]
  omega
theorem mul_ne {a b : Int} (ha : a ≠ 0) (hb : b ≠ 0) : a * b ≠ 0 := Int.mul_ne_zero ha hb
theorem den_ne (q : Rat) : (q.den : Int) ≠ 0 := by have := q.den_pos; omega
theorem qP {x y : kG} {a b : Int} {m n k : Nat} (hx : zW x a m) (hy : zW y b n) (h : max m n ≤ k) : zW (jR ((Int.gcd a b : Nat) : Int)) ((Int.gcd a b : Nat) : Int) k := gO (by
  by_cases hb : b = 0
  · subst hb
    rw [Int.gcd_zero_right]
    refine Nat.le_trans (dJ (z := a) ?_) (Nat.le_trans hx.ln (by omega))
    simp
  · exact Nat.le_trans (lenZ_gcd hb hy.ln) (by omega))
theorem mR {x y : kG} {a b : Int} {m n k : Nat} (hx : zW x a m) (_ : zW y b n) (h : m + 1 ≤ k) : zW (jR (a.fdiv b)) (a.fdiv b) k := gO (Nat.le_trans (lenZ_fdiv a b) (by have := hx.ln; omega))
theorem fA {z : Int} (h1 : -9223372036854775808 ≤ z) (h2 : z ≤ 9223372036854775807) : xM z ≤ 3 := dL (by omega)
theorem yK {z : Int} (h1 : -9223372036854775808 ≤ z) (h2 : z ≤ 9223372036854775807) : zW (jR z) z 3 := gO (fA h1 h2)
theorem red_neg2 {a b : Int} (hb : b < 0) : yP (Rat.divInt a b) = ⟨jR (a.fdiv (-((Int.gcd a b : Nat) : Int))), jR (b.fdiv (-((Int.gcd a b : Nat) : Int)))⟩ := by
  rw [← red_neg hb]
  have e : Int.gcd (-a) (-b) = Int.gcd a b := by simp
  rw [e]
  have h1 := Int.neg_fdiv_neg a (-((Int.gcd a b : Nat) : Int))
  have h2 := Int.neg_fdiv_neg b (-((Int.gcd a b : Nat) : Int))
  rw [Int.neg_neg] at h1 h2
  rw [h1, h2]
end Go.Fid
set_option linter.unusedVariables false
set_option linter.unusedSimpArgs false
namespace Go.Fid
inductive LOk (n : Nat) : List kG → List Int → Prop
  | nil : LOk n [] []
  | cons {x : kG} {z : Int} {l : List kG} {zs : List Int} (h : zW x z n) (t : LOk n l zs) : LOk n (x :: l) (z :: zs)
theorem mU : zW ⟨false, []⟩ 0 1 := ⟨by decide, Nat.zero_le _⟩
theorem iok_nilN (n : Nat) : zW ⟨false, []⟩ 0 n := ⟨by decide, Nat.zero_le _⟩
theorem LOk.len {n : Nat} {l : List kG} {zs : List Int} (h : LOk n l zs) : l.length = zs.length := by
  induction h with
  | nil => rfl
  | cons h t ih => simp [ih]
theorem LOk.get {n : Nat} {l : List kG} {zs : List Int} (h : LOk n l zs) (i : Nat) : zW (l.getD i ⟨false, []⟩) (zs.getD i 0) n := by
  induction h generalizing i with
  | nil => exact iok_nilN n
  | cons h t ih =>
    rcases i with _ | i
    · exact h
    · exact ih i
theorem LOk.all {n : Nat} {l : List kG} {zs : List Int} (h : LOk n l zs) : ∀ z ∈ zs, xM z ≤ n := by
  induction h with
  | nil => simp
  | cons h t ih =>
    intro z hz
    rcases List.mem_cons.1 hz with rfl | hz
    · exact h.ln
    · exact ih z hz
theorem LOk.up {m n : Nat} {l : List kG} {zs : List Int} (h : LOk m l zs) (hm : m ≤ n) : LOk n l zs := by
  induction h with
  | nil => exact .nil
  | cons h t ih => exact .cons (xI h hm) ih
def gcdL (zs : List Int) : Nat := zs.foldl (fun d z => Int.gcd d z) 0
def gD : List Int → Int
  | [] => 0
  | z :: r => if z = 0 then gD r else kF z
def dvL (zs : List Int) : Int := if gD zs < 0 then -((gcdL zs : Nat) : Int) else ((gcdL zs : Nat) : Int)
def redL (zs : List Int) : List Int := zs.map fun z => z.fdiv (dvL zs)
theorem eZ {z : Int} (h : z ≠ 0) : kF z ≠ 0 := by
  unfold kF; split <;> (try split) <;> omega
theorem lenZ_gcd2 {a b : Int} {n : Nat} (ha : xM a ≤ n) (hb : xM b ≤ n) : xM ((Int.gcd a b : Nat) : Int) ≤ n := by
  by_cases h : b = 0
  · subst h; rw [Int.gcd_zero_right]
    exact Nat.le_trans (dJ (by simp)) ha
  · exact lenZ_gcd h hb
theorem gcdL_len {n : Nat} (zs : List Int) (h : ∀ z ∈ zs, xM z ≤ n) : xM ((gcdL zs : Nat) : Int) ≤ n := by
  have key : ∀ (zs : List Int) (d : Nat), xM (d : Int) ≤ n → (∀ z ∈ zs, xM z ≤ n) → xM ((zs.foldl (fun d z => Int.gcd d z) d : Nat) : Int) ≤ n := by
    intro zs
    induction zs with
    | nil => intro d hd _; exact hd
    | cons z zs ih => intro d hd hz; exact ih _ (lenZ_gcd2 hd (hz z (by simp))) (fun y hy => hz y (by simp [hy]))
  exact key zs 0 (gY.2 (by rw [show ((0 : Nat) : Int).natAbs = 0 from rfl]; exact pw_pos n)) h
theorem dvL_len {n : Nat} {zs : List Int} (h : ∀ z ∈ zs, xM z ≤ n) : xM (dvL zs) ≤ n := by
  unfold dvL; split
  · rw [lenZ_neg]; exact gcdL_len zs h
  · exact gcdL_len zs h
theorem gcdL_dvd (zs : List Int) : ∀ z ∈ zs, ((gcdL zs : Nat) : Int) ∣ z := by
  have key : ∀ (zs : List Int) (d : Nat), ((zs.foldl (fun d z => Int.gcd d z) d : Nat) : Int) ∣ (d : Int) ∧ ∀ z ∈ zs, ((zs.foldl (fun d z => Int.gcd d z) d : Nat) : Int) ∣ z := by
    intro zs
    induction zs with
    | nil => intro d; exact ⟨Int.dvd_refl _, by simp⟩
    | cons z zs ih =>
      intro d
      obtain ⟨h1, h2⟩ := ih (Int.gcd d z)
      refine ⟨Int.dvd_trans h1 (Int.gcd_dvd_left ..), fun y hy => ?_⟩
      rcases List.mem_cons.1 hy with rfl | hy
      · exact Int.dvd_trans h1 (Int.gcd_dvd_right ..)
      · exact h2 y hy
  exact (key zs 0).2
theorem sgnL_ne {zs : List Int} (h : gD zs ≠ 0) : ∃ z ∈ zs, z ≠ 0 := by
  induction zs with
  | nil => exact absurd rfl h
  | cons z zs ih =>
    by_cases hz : z = 0
    · simp only [gD, if_pos hz] at h
      obtain ⟨y, hy, h2⟩ := ih h
      exact ⟨y, by simp [hy], h2⟩
    · exact ⟨z, by simp, hz⟩
theorem sgnL_of {zs : List Int} {z : Int} (hz : z ∈ zs) (h : z ≠ 0) : gD zs ≠ 0 := by
  induction zs with
  | nil => cases hz
  | cons y zs ih =>
    by_cases hy : y = 0
    · simp only [gD, if_pos hy]
      rcases List.mem_cons.1 hz with e | hz
      · subst e; exact absurd hy h
      · exact ih hz
    · simp only [gD, if_neg hy]; exact eZ hy
theorem gcdL_ne {zs : List Int} (h : gD zs ≠ 0) : gcdL zs ≠ 0 := fun e => by
  obtain ⟨z, hz, h0⟩ := sgnL_ne h
  have := gcdL_dvd zs z hz
  rw [e] at this
  exact h0 (Int.zero_dvd.1 this)
theorem dvL_ne {zs : List Int} (h : gD zs ≠ 0) : dvL zs ≠ 0 := by
  have := gcdL_ne h
  unfold dvL; split <;> omega
theorem dvL_dvd {zs : List Int} : ∀ z ∈ zs, dvL zs ∣ z := fun z hz => by
  unfold dvL; split
  · exact Int.neg_dvd.2 (gcdL_dvd zs z hz)
  · exact gcdL_dvd zs z hz
theorem fdiv_mulZ {d z : Int} (hd : d ≠ 0) (h : d ∣ z) : z.fdiv d * d = z := by
  obtain ⟨c, rfl⟩ := h
  rw [Int.mul_fdiv_cancel_left _ hd]; exact Int.mul_comm _ _
theorem red_dv {zs : List Int} (h : gD zs ≠ 0) {z : Int} (hz : z ∈ zs) : z.fdiv (dvL zs) * dvL zs = z := fdiv_mulZ (dvL_ne h) (dvL_dvd z hz)
theorem gcdL_scale (k : Int) (zs : List Int) : gcdL (zs.map (k * ·)) = k.natAbs * gcdL zs := by
  have key : ∀ (zs : List Int) (d : Nat), (zs.map (k * ·)).foldl (fun d z => Int.gcd d z) (k.natAbs * d) = k.natAbs * zs.foldl (fun d z => Int.gcd d z) d := by
    intro zs
    induction zs with
    | nil => intro d; rfl
    | cons z zs ih =>
      intro d
      rw [List.map_cons, List.foldl_cons, List.foldl_cons, ← ih (Int.gcd d z)]
      congr 1
      simp only [Int.gcd, Int.natAbs_mul, Int.natAbs_natCast]
      exact Nat.gcd_mul_left ..
  exact key zs 0
theorem signI_mul {k z : Int} (hk : k ≠ 0) : (kF (k * z) < 0 ↔ (k < 0 ∧ 0 < z) ∨ (0 < k ∧ z < 0)) := by
  have h1 : ∀ y : Int, kF y < 0 ↔ y < 0 := fun y => by unfold kF; split <;> (try split) <;> omega
  rw [h1]
  constructor
  · intro h
    rcases Int.lt_or_gt_of_ne hk with hk' | hk'
    · exact .inl ⟨hk', by rcases Int.lt_trichotomy z 0 with h' | h' | h'; · have := Int.mul_pos_of_neg_of_neg hk' h'; omega
                          · subst h'; simp at h
                          · exact h'⟩
    · exact .inr ⟨hk', by rcases Int.lt_trichotomy z 0 with h' | h' | h'; · exact h'
                          · subst h'; simp at h
                          · have := Int.mul_pos hk' h'; omega⟩
  · rintro (⟨a, b⟩ | ⟨a, b⟩)
    · exact Int.mul_neg_of_neg_of_pos a b
    · exact Int.mul_neg_of_pos_of_neg a b
theorem sgnL_scale {k : Int} (hk : k ≠ 0) (zs : List Int) : (gD (zs.map (k * ·)) = 0 ↔ gD zs = 0) ∧ (gD zs ≠ 0 → (gD (zs.map (k * ·)) < 0 ↔ (k < 0 ∧ ¬ gD zs < 0) ∨ (0 < k ∧ gD zs < 0))) := by
  induction zs with
  | nil => exact ⟨Iff.rfl, fun h => absurd rfl h⟩
  | cons z zs ih =>
    by_cases hz : z = 0
    · subst hz
      simpa [gD] using ih
    · have hkz : k * z ≠ 0 := Int.mul_ne_zero hk hz
      simp only [List.map_cons, gD, if_neg hz, if_neg hkz]
      refine ⟨⟨fun h => absurd h (eZ hkz), fun h => absurd h (eZ hz)⟩, fun _ => ?_⟩
      rw [signI_mul hk]
      have h1 : kF z < 0 ↔ z < 0 := by unfold kF; split <;> (try split) <;> omega
      rw [h1]; omega
theorem dvL_scale {k : Int} (hk : k ≠ 0) {zs : List Int} (h : gD zs ≠ 0) : dvL (zs.map (k * ·)) = k * dvL zs := by
  have h2 := (sgnL_scale hk zs).2 h
  unfold dvL
  rw [gcdL_scale, Int.natCast_mul]
  rcases Int.lt_or_gt_of_ne hk with hk' | hk'
  · have e : ((k.natAbs : Nat) : Int) = -k := by omega
    rw [e]
    by_cases hs : gD zs < 0
    · rw [if_neg (by rw [h2]; omega), if_pos hs, Int.neg_mul, Int.mul_neg]
    · rw [if_pos (by rw [h2]; omega), if_neg hs, Int.neg_mul, Int.neg_neg]
  · have e : ((k.natAbs : Nat) : Int) = k := by omega
    rw [e]
    by_cases hs : gD zs < 0
    · rw [if_pos (by rw [h2]; omega), if_pos hs, Int.mul_neg]
    · rw [if_neg (by rw [h2]; omega), if_neg hs]
theorem fdiv_scale {k z d : Int} (hk : k ≠ 0) (hd : d ≠ 0) (h : d ∣ z) : (k * z).fdiv (k * d) = z.fdiv d := by
  obtain ⟨c, rfl⟩ := h
  rw [Int.mul_fdiv_cancel_left _ hd, ← Int.mul_assoc, Int.mul_fdiv_cancel_left _ (Int.mul_ne_zero hk hd)]
theorem redL_scale {k : Int} (hk : k ≠ 0) {zs : List Int} (h : gD zs ≠ 0) : redL (zs.map (k * ·)) = redL zs := by
  unfold redL
  rw [dvL_scale hk h, List.map_map]
  apply List.map_congr_left
  intro z hz
  exact fdiv_scale hk (dvL_ne h) (dvL_dvd z hz)
theorem redL_back {zs : List Int} (h : gD zs ≠ 0) : (redL zs).map (dvL zs * ·) = zs := by
  unfold redL
  rw [List.map_map]
  conv => rhs; rw [← List.map_id zs]
  apply List.map_congr_left
  intro z hz
  show dvL zs * z.fdiv (dvL zs) = z
  rw [Int.mul_comm]; exact red_dv h hz
theorem LOk.map {n : Nat} {l : List kG} {zs : List Int} (h : LOk n l zs) : l.map jS = zs := by
  induction h with
  | nil => rfl
  | cons h t ih => rw [List.map_cons, ih, h.v]
theorem all_nil {l : List kG} (h : ∀ x ∈ l, x = kG.mk false []) (i : Nat) : l.getD i (kG.mk false []) = kG.mk false [] := by
  rw [List.getD]
  cases hj : l[i]? with
  | none => rfl
  | some q => exact h q (List.mem_of_getElem? hj)
end Go.Fid
set_option linter.unusedVariables false
set_option linter.unusedSimpArgs false
namespace Go.Fid
theorem sgnL_zero {zs : List Int} : gD zs = 0 ↔ ∀ z ∈ zs, z = 0 := by
  constructor
  · intro h z hz
    rcases Int.decEq z 0 with h0 | h0
    · exact absurd h (sgnL_of hz h0)
    · exact h0
  · intro h
    rcases Int.decEq (gD zs) 0 with h0 | h0
    · obtain ⟨z, hz, h1⟩ := sgnL_ne h0
      exact absurd (h z hz) h1
    · exact h0
end Go.Fid
set_option linter.unusedVariables false
set_option linter.unusedSimpArgs false
namespace Go.Fid
end Go.Fid
namespace Go.Fid
open Go.RowKit (Below)
theorem sim_put {C : dU} {a : Act} {w : World} {S : SL} {B : BS} {D : qB} {β : qH} {t : Tmp} {v : Value} {x : SV} (h : eH C a w ⟨S, B⟩ D β) (hd : xT C.n (some t) = true) (hx : qE w D β v x) : eH C (a.put (some t) v) w ⟨(t, x) :: S, B⟩ D β :=
  ⟨h.base.put hd _, h.mem, h.high, fun u => by
    show qE w D β ((a.put (some t) v).tmps.getD u undef) (kA ((t, x) :: S) u)
    rw [uA h.base.size hd, qI]
    by_cases e : t = u
    · rw [if_pos e, if_pos (by rw [e])]; exact hx
    · rw [if_neg e, if_neg (fun e' => e (by injection e'))]; exact h.slots u⟩
theorem pwp_nilq {P : Program} {n : Fr} {S : SL} {B : BS} {Q : Exit → PS → Prop} {id : Nat} {o1 o2 : Oper} {t0 ta tb : Tmp} {T T' E t : TypeId} {s s' : Nat} {es : List kE}
    (h1 : o1.op = .move (.tmp t0)) (h1d : o1.dst = some ta) (h1g : o1.guard = none) (h2 : o2.op = .binOp .eql T (.tmp ta) (.const (.slice none 0 0)) T') (h2d : o2.dst = some tb) (h2g : o2.guard = none)
    (hT : uR P T = some (E, s)) (hda : xT n (some ta) = true) (hdb : xT n (some tb) = true) (hx : kA S t0 = .d (.sl t s' es))
    (hq : ∀ b : Bool, (b = true → es = []) → Q .normal ⟨(tb, .d (.val (.bool b))) :: (ta, .d (.sl t s' es)) :: S, B⟩) : qS P n (.region id #[o1, o2] false) Q ⟨S, B⟩ := fun C a w N hn hs => by
  subst hn
  obtain ⟨D, β, hs⟩ := hs
  have hv := hs.slots t0
  have hv' : qE w D β (a.tmps.getD t0 undef) (kA S t0) := hv
  rw [hx] at hv'
  have hev : a.eval (.tmp t0) = a.tmps.getD t0 undef := rfl
  generalize a.tmps.getD t0 undef = v at hv' hev
  have hv'' : uE w D v (.sl t s' es) := hv'
  obtain ⟨i, f1, f2, f3⟩ := nF hT
  cases hv'' with
  | sl g off u hnn hcc hmm hss ha hD hu fO hrr =>
  rename_i ad len cap
  subst hnn
  have hp1 : yF o1 = true := by simp [yF, h1]
  have hp2 : yF o2 = true := by simp [yF, h2]
  have hs1 := sim_put hs hda hv'
  have hs2 := sim_put (v := .bool ad.isNone) hs1 hdb (x := .d (.val (.bool ad.isNone))) (uE.val _)
  refine wpIn_region_lit (wpListIn_plain h1g fun K1 hK1 => mO hp1 (yA (v := .slice ad es.length cap) (w' := w) ?_ (hK1 _ _ (wpListIn_plain h2g fun K2 hK2 => mO hp2 (yA (v := .bool ad.isNone) (w' := w) ?_ (hK2 _ _ (wpListIn_nil ?_)))))))
  · simp only [execOp, h1, hev, Sem.run_pure]
  · have hta : (a.put o1.dst (Value.slice ad es.length cap)).eval (.tmp ta) = .slice ad es.length cap := by
      show (a.put o1.dst (Value.slice ad es.length cap)).tmps.getD ta undef = _
      rw [h1d, uA hs.base.size hda, if_pos rfl]
    have hce : (a.put o1.dst (Value.slice ad es.length cap)).eval (.const (.slice none 0 0)) = .slice none 0 0 := rfl
    have heq : ∀ d : Nat, (Op.equalIn (d + 1) T (.slice ad es.length cap) (.slice none 0 0)).run P w = .ok ad.isNone w := fun d => by
      cases ad <;> simp [Op.equalIn, run_underlying f1]
    have heq' : (Op.equal T (.slice ad es.length cap) (.slice none 0 0)).run P w = .ok ad.isNone w := heq 9999
    simp only [execOp, h2, hta, hce]
    simp [eqGuard, binOp, heq']
  · rw [h1d, h2d]
    refine ⟨_, ⟨D, β, hs2⟩, hq _ fun hb => ?_⟩
    cases ad with
    | none =>
      refine List.eq_nil_of_length_eq_zero ?_
      rcases Nat.eq_zero_or_pos es.length with h | h
      · exact h
      · have := ha h; cases this
    | some x => cases hb
end Go.Fid
