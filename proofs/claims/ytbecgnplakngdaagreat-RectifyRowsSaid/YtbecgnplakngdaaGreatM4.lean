/- Part 4 of a proof: rules, plain facts, and functions walked. -/
import Derived.Test.YtbecgnplakngdaaGreatM3
import Derived.Test.YtbecgnplakngdaaGreatChecked
import Derived.LoopNIn
namespace Go.Fid
set_option linter.unusedVariables false
set_option linter.unusedSimpArgs false
def nU (z : Int) : Nat := (ofNat z.natAbs).length
theorem ofZ_len (z : Int) : (kN z).gs.length = nU z := rfl
theorem aO (x : jG) : (kA x).natAbs = val (kS x) := by
  unfold kA mK; split <;> simp
theorem grpI_eq (x : jG) : kS x = ofNat (kA x).natAbs := by rw [aO]; exact can_eq (qR x)
theorem cK (x : jG) : nU (kA x) ≤ x.gs.length := by unfold nU; rw [← grpI_eq]; exact gA x
theorem validI_of {b : Bool} {l : List Nat} (h : gB l) (hb : l = [] → b = false) : vF ⟨b, l⟩ = true := by
  unfold vF
  by_cases h0 : l = []
  · subst h0; simp [hb rfl]
  · have h1 : l.length ≠ 0 := fun e => h0 (List.eq_nil_of_length_eq_zero e)
    rw [if_neg (by show ((l.length : Nat) : Int) ≠ 0; omega)]
    obtain ⟨h2, _⟩ := aK h (by omega)
    have h3 : xV l = -1 := aS h.1
    simp only [Bool.and_eq_true, Bool.not_eq_true', decide_eq_false_iff_not, bne_iff_ne]
    rw [h3]
    exact ⟨by omega, by omega⟩
theorem validI_iff {x : jG} : vF x = true ↔ gB x.gs ∧ (x.gs = [] → x.neg = false) := by
  refine ⟨fun h => ?_, fun ⟨h1, h2⟩ => validI_of h1 h2⟩
  have h1 := qR x
  unfold kS at h1
  rw [if_pos h] at h1
  refine ⟨h1, fun h0 => ?_⟩
  unfold vF at h
  rw [if_pos (by rw [h0]; rfl)] at h
  simpa using h
theorem validI_ofZ (z : Int) : vF (kN z) = true := validI_iff.2 ⟨qO _, fun h => by
  have h1 : z.natAbs = 0 := ofNat_nil.1 h
  have h2 : z = 0 := by omega
  subst h2; rfl⟩
theorem grpI_ofZ (z : Int) : kS (kN z) = ofNat z.natAbs := by unfold kS; rw [if_pos (validI_ofZ z)]; rfl
theorem ofZ_neg (z : Int) : (kN z).neg = decide (z < 0) := by
  unfold kN xS
  by_cases h : z < 0
  · have : (z.natAbs != 0) = true := bne_iff_ne.2 (by omega)
    simp [h, this]
  · simp [h]
theorem mO (z : Int) : kA (kN z) = z := by
  unfold kA mK
  rw [grpI_ofZ, ofZ_neg, kL]
  by_cases h : z < 0
  · simp [h]; omega
  · simp [h]; omega
theorem ofZ_toZ {x : jG} (h : vF x = true) : kN (kA x) = x := by
  obtain ⟨h1, h2⟩ := validI_iff.1 h
  obtain ⟨b, l⟩ := x
  have e : kS ⟨b, l⟩ = l := by unfold kS; rw [if_pos h]
  have e1 : kA ⟨b, l⟩ = mK b (val l) := by unfold kA; rw [e]
  rw [e1, ← mQ]
  unfold xS
  rw [← can_eq h1]
  congr 1
  cases b with
  | false => rfl
  | true =>
    have : val l ≠ 0 := fun e0 => by
      have h3 := h2 (aI h1 e0)
      cases h3
    simp [this]
theorem toZ_bad {x : jG} (h : vF x = false) : kA x = 0 := by
  unfold kA kS
  rw [if_neg (by rw [h]; simp)]
  unfold mK; split <;> rfl
theorem dH {z : Int} {n : Nat} : nU z ≤ n ↔ z.natAbs < pw n := by
  refine ⟨fun h => Nat.lt_of_lt_of_le (ofNat_lt_pw _) (gW h), fun h => vC h⟩
theorem lenZ_neg (z : Int) : nU (-z) = nU z := by unfold nU; rw [Int.natAbs_neg]
theorem eB {y z : Int} (h : y.natAbs ≤ z.natAbs) : nU y ≤ nU z := xU h
theorem lenZ_add {a b : Int} {m n k : Nat} (ha : nU a ≤ m) (hb : nU b ≤ n) (h : max m n + 1 ≤ k) : nU (a + b) ≤ k := by
  have h1 := dH.1 ha
  have h2 := dH.1 hb
  refine dH.2 ?_
  have h3 : pw m ≤ pw (max m n) := gW (by omega)
  have h4 : pw n ≤ pw (max m n) := gW (by omega)
  have h5 : pw (max m n + 1) ≤ pw k := gW h
  rw [vU] at h5
  have h6 := Int.natAbs_add_le a b
  omega
theorem mL {a b : Int} {m n k : Nat} (ha : nU a ≤ m) (hb : nU b ≤ n) (h : m + n ≤ k) : nU (a * b) ≤ k := by
  refine dH.2 ?_
  rw [Int.natAbs_mul]
  refine Nat.lt_of_lt_of_le ?_ (gW h)
  rw [pw_add]
  exact Nat.mul_lt_mul_of_lt_of_le (dH.1 ha) (Nat.le_of_lt (dH.1 hb)) (pw_pos _)
structure hH (x : jG) (z : Int) (n : Nat) : Prop where
  v : kA x = z
  l : x.gs.length ≤ n
theorem hH.ln {x : jG} {z : Int} {n : Nat} (h : hH x z n) : nU z ≤ n := by rw [← h.v]; exact Nat.le_trans (cK x) h.l
theorem dU {z : Int} {n : Nat} (h : nU z ≤ n) : hH (kN z) z n := ⟨mO z, h⟩
theorem yW {x : jG} {n : Nat} (h : x.gs.length ≤ n) : hH x (kA x) n := ⟨rfl, h⟩
theorem iok_add {x y : jG} {a b : Int} {m n k : Nat} (hx : hH x a m) (hy : hH y b n) (h : max m n + 1 ≤ k) : hH (kN (a + b)) (a + b) k := dU (lenZ_add hx.ln hy.ln h)
theorem yX {x y : jG} {a b : Int} {m n k : Nat} (hx : hH x a m) (hy : hH y b n) (h : m + n ≤ k) : hH (kN (a * b)) (a * b) k := dU (mL hx.ln hy.ln h)
theorem nQ {x : jG} {a : Int} {m : Nat} (hx : hH x a m) : hH (kN (-a)) (-a) m := dU (by rw [lenZ_neg]; exact hx.ln)
theorem gN {x : jG} {a : Int} {m n : Nat} (hx : hH x a m) (h : m ≤ n) : hH x a n := ⟨hx.v, Nat.le_trans hx.l h⟩
theorem iu {x : jG} {a : Int} {m n : Nat} (hx : hH x a m) (h : m ≤ n := by decide) : hH x a n := gN hx h
theorem nD {z : Int} (h : z.natAbs < 1000000000) : hH (kN z) z 1 := dU (dH.2 (by rw [show (1 : Nat) = 0 + 1 from rfl, vU, nR]; omega))
theorem signI_sub (a b : Int) : uU (a - b) = xB a b := by
  unfold uU xB
  split
  · rw [if_neg (by omega), if_neg (by omega)]
  · split
    · rw [if_pos (by omega)]
    · rw [if_neg (by omega), if_pos (by omega)]
theorem cmpI_neg {a b : Nat} (h : xB (a : Int) (b : Int) < 0) : a < b := by
  unfold xB at h
  split at h
  · omega
  · split at h <;> omega
theorem cmpI_nn {a b : Nat} (h : ¬ xB (a : Int) (b : Int) < 0) : b ≤ a := by
  unfold xB at h
  split at h
  · omega
  · omega
theorem word_both {a b : List Nat} (ha : Dig a) (h : (nJ a && nJ b) = true) : yP a = val a ∧ yP b = val b ∧ val a < 1000000000000000000 := by
  unfold nJ at h
  rw [Bool.and_eq_true, decide_eq_true_eq, decide_eq_true_eq] at h
  unfold yP
  rw [if_pos h.1, if_pos h.2]
  exact ⟨rfl, rfl, val_len2 ha h.1⟩
theorem val_pos_len {b : List Nat} (h : 0 < val b) : 0 < b.length := by
  rcases b with _ | ⟨d, l⟩
  · rw [val_nil] at h; omega
  · simp
theorem mD {b : List Nat} (hb : gB b) (h : 0 < b.length) : 0 < val b := by
  have h1 := val_top hb.1 h
  have h2 := aK hb h
  have h3 := Nat.mul_le_mul_right (pw (b.length - 1)) h2.1
  have h4 := pw_pos (b.length - 1)
  rw [Nat.succ_mul] at h3
  omega
theorem val_len1 {b : List Nat} (h : b.length = 1) : val b = b.getD 0 0 := by
  rcases b with _ | ⟨d, _ | ⟨e, l⟩⟩
  · simp at h
  · simp [val]
  · simp at h
theorem len_quo (l : List Nat) (hl : gB l) (n : Nat) : (ofNat (val l / n)).length ≤ l.length := by
  have h1 := xU (Nat.div_le_self (val l) n)
  rwa [← can_eq hl] at h1
theorem len_rem (l : List Nat) (hl : gB l) (n : Nat) : (ofNat (val l % n)).length ≤ l.length := by
  have h1 := xU (Nat.mod_le (val l) n)
  rwa [← can_eq hl] at h1
theorem gcd_toZ (x y : jG) : Nat.gcd (val (kS x)) (val (kS y)) = Int.gcd (kA x) (kA y) := by
  unfold Int.gcd; rw [aO, aO]
theorem mkI_false (n : Nat) : xS false n = kN (n : Int) := mQ false n
theorem r_made_end {neg : Bool} {l : List Nat} {k : Nat} (hd : Dig l) (hk : k ≤ l.length) (hv : val (l.take k) = val l) (h : (decide ((0 : Int) < ((k : Nat) : Int)) && (((l.getD (k - 1) 0 : Nat) : Int) == 0)) = false) : xS neg (val l) = ⟨neg && decide ((0 : Int) < ((k : Nat) : Int)), l.take k⟩ := by
  have hc : gB (l.take k) := by
    refine ⟨hd.take k, ?_⟩
    unfold Top
    rw [List.length_take, Nat.min_eq_left hk]
    rcases Nat.eq_zero_or_pos k with h0 | h0
    · subst h0; simp
    · rw [Bool.and_eq_false_iff] at h
      rcases h with h | h
      · rw [decide_eq_false_iff_not] at h; omega
      · have h1 := ne_of_beq_false h
        have h6 : k - 1 < l.length := by omega
        simp [List.getD, List.getElem?_eq_getElem h6, List.getElem?_take_of_lt (show k - 1 < k by omega)] at h1 ⊢
        exact h1
  unfold xS
  rw [← hv, ← can_eq hc]
  congr 1
  congr 1
  rcases Nat.eq_zero_or_pos k with h0 | h0
  · subst h0; simp [val]
  · have h1 : 0 < val (l.take k) := mD hc (by rw [List.length_take]; omega)
    have h2 : (val (l.take k) != 0) = true := bne_iff_ne.2 (by omega)
    rw [h2]; symm; exact decide_eq_true (by omega)
theorem r_made_step {l : List Nat} {k : Nat} (hk : k ≤ l.length) (hv : val (l.take k) = val l) (h : (decide ((0 : Int) < ((k : Nat) : Int)) && (((l.getD (k - 1) 0 : Nat) : Int) == 0)) = true) : 0 < k ∧ val (l.take (k - 1)) = val l := by
  rw [Bool.and_eq_true, decide_eq_true_eq, beq_iff_eq] at h
  have h0 : 0 < k := by omega
  refine ⟨h0, ?_⟩
  have h1 := val_take_succ l (k - 1)
  rw [show k - 1 + 1 = k by omega, show l.getD (k - 1) 0 = 0 by omega] at h1
  omega
theorem validI_big {x : jG} {i : Nat} (h : i < x.gs.length) (hb : ¬ x.gs.getD i 0 < 1000000000) : vF x = false := by
  rcases hv : vF x with _ | _
  · rfl
  · exact absurd ((validI_iff.1 hv).1.1.getD i) hb
theorem validI_nil {x : jG} (h : x.gs.length = 0) : vF x = !x.neg := by unfold vF; rw [if_pos (by omega)]
theorem validI_dig {x : jG} (hd : Dig x.gs) (h : x.gs.length ≠ 0) : vF x = (((x.gs.getD (x.gs.length - 1) 0 : Nat) : Int) != 0) := by
  unfold vF
  rw [if_neg (by omega), aS hd]
  simp
theorem push_step {o : List Nat} {i s : Nat} (hl : o.length = i) : val (o ++ [s % 1000000000]) + pw (i + 1) * (s / 1000000000) = val o + pw i * s := by
  rw [cB, hl, mR, vU]
  have h := Nat.mod_add_div s 1000000000
  have h2 : pw i * s = pw i * (s % 1000000000) + pw i * (1000000000 * (s / 1000000000)) := by rw [← Nat.mul_add, h]
  rw [h2, Nat.mul_comm 1000000000 (pw i), Nat.mul_assoc]
  omega
theorem dig_push {o : List Nat} (h : Dig o) {d : Nat} (hd : d < 1000000000) : Dig (o ++ [d]) := aE.2 ⟨h, yT.2 ⟨hd, gJ⟩⟩
theorem rplus_step {a b o : List Nat} {i c s : Nat} (hl : o.length = i) (hv : val o + pw i * c = val (a.take i) + val (b.take i)) (hs : s = a.getD i 0 + b.getD i 0 + c) :
    val (o ++ [s % 1000000000]) + pw (i + 1) * (s / 1000000000) = val (a.take (i + 1)) + val (b.take (i + 1)) := by
  rw [push_step hl, val_take_succ, val_take_succ, hs, Nat.mul_add, Nat.mul_add]
  omega
theorem rminus_step {a b o : List Nat} {i c s : Nat} (hl : o.length = i) (hv : val o + val (b.take i) = val (a.take i) + pw i * c) (hs : s + b.getD i 0 + c = 1000000000 + a.getD i 0) (h1 : s / 1000000000 ≤ 1) :
    val (o ++ [s % 1000000000]) + val (b.take (i + 1)) = val (a.take (i + 1)) + pw (i + 1) * (1 - s / 1000000000) := by
  have h := push_step (o := o) (i := i) (s := s) hl
  have h2 : pw (i + 1) * (1 - s / 1000000000) + pw (i + 1) * (s / 1000000000) = pw (i + 1) := by
    rw [← Nat.mul_add, Nat.sub_add_cancel h1, Nat.mul_one]
  have h3 := congrArg (pw i * ·) hs
  simp only [Nat.mul_add] at h3
  rw [val_take_succ, val_take_succ]
  rw [vU] at h h2 ⊢
  rw [Nat.mul_comm (pw i) 1000000000] at h3
  omega
theorem rscaled_step {a o : List Nat} {i c d s : Nat} (hl : o.length = i) (hv : val o + pw i * c = val (a.take i) * d) (hs : s = a.getD i 0 * d + c) :
    val (o ++ [s % 1000000000]) + pw (i + 1) * (s / 1000000000) = val (a.take (i + 1)) * d := by
  rw [push_step hl, val_take_succ, hs, Nat.mul_add, Nat.add_mul, Nat.mul_assoc]
  omega
theorem val_push {o : List Nat} {i c : Nat} (hl : o.length = i) : val (o ++ [c]) = val o + pw i * c := by rw [cB, hl, mR]
theorem take_all {a : List Nat} {i : Nat} (h : a.length ≤ i) : a.take i = a := List.take_of_length_le h
theorem rminus_end {a b o : List Nat} {i c : Nat} (hda : Dig a) (hb : Dig b) (hd : Dig o) (hi : i = a.length) (hl : o.length = i) (hba : val b ≤ val a) (hv : val o + val (b.take i) = val (a.take i) + pw i * c) : val o = val a - val b := by
  have h1 : val (b.take i) = val b := val_take_of_lt (by rw [hi]; exact Nat.lt_of_le_of_lt hba (xH hda))
  rw [h1, hi, List.take_length] at hv
  have h2 := xH hd
  rw [hl, hi] at h2
  rcases Nat.eq_zero_or_pos c with h3 | h3
  · subst h3; omega
  · have := Nat.mul_le_mul_left (pw a.length) h3
    omega
theorem nF (X : Int) : mK (kN X).neg X.natAbs = X := by
  rw [ofZ_neg]; unfold mK
  by_cases h : X < 0
  · simp [h]; omega
  · simp [h]; omega
theorem rneg_eq (X : Int) : xS (!(kN X).neg) (val (ofNat X.natAbs)) = kN (-X) := by
  rw [mQ, kL]
  congr 1
  have h := nF X
  unfold mK at h ⊢
  cases hn : (kN X).neg <;> simp [hn] at h ⊢ <;> omega
theorem rsum_same {X Y : Int} (h : (kN X).neg = (kN Y).neg) : xS (kN X).neg (val (ofNat (val (ofNat X.natAbs) + val (ofNat Y.natAbs)))) = kN (X + Y) := by
  rw [sum_same h, kL, kL, nF, nF]
theorem rsum_first {X Y : Int} (h : (kN X).neg ≠ (kN Y).neg) (hn : val (ofNat Y.natAbs) ≤ val (ofNat X.natAbs)) : xS (kN X).neg (val (ofNat (val (ofNat X.natAbs) - val (ofNat Y.natAbs)))) = kN (X + Y) := by
  rw [sum_first h hn, kL, kL, nF, nF]
theorem rsum_second {X Y : Int} (h : (kN X).neg ≠ (kN Y).neg) (hn : val (ofNat X.natAbs) ≤ val (ofNat Y.natAbs)) : xS (kN Y).neg (val (ofNat (val (ofNat Y.natAbs) - val (ofNat X.natAbs)))) = kN (X + Y) := by
  rw [sum_second h hn, kL, kL, nF, nF]
theorem rmul_eq (X Y : Int) : xS (!((kN X).neg == (kN Y).neg)) (val (ofNat X.natAbs) * val (ofNat Y.natAbs)) = kN (X * Y) := by
  have h := mul_eq (b := (kN X).neg) (c := (kN Y).neg) (val (ofNat X.natAbs)) (val (ofNat Y.natAbs))
  rw [kL (val (ofNat X.natAbs) * val (ofNat Y.natAbs))] at h
  rw [h, kL, kL, nF, nF]
theorem rsign_zero {X : Int} (h : (((ofNat X.natAbs).length : Nat) : Int) = 0) : uU X = 0 := by
  have h1 : X.natAbs = 0 := ofNat_nil.1 (List.eq_nil_of_length_eq_zero (by omega))
  have h2 : X = 0 := by omega
  subst h2; rfl
theorem rsign_ne {X : Int} (h : (((ofNat X.natAbs).length : Nat) : Int) ≠ 0) : X ≠ 0 := fun e => h (by subst e; simp [vT])
theorem rsign_neg {X : Int} (h : (((ofNat X.natAbs).length : Nat) : Int) ≠ 0) (hn : (kN X).neg = true) : uU X = -1 := by
  have h1 := rsign_ne h
  rw [ofZ_neg, decide_eq_true_eq] at hn
  unfold uU; rw [if_neg h1, if_pos hn]
theorem rsign_pos {X : Int} (h : (((ofNat X.natAbs).length : Nat) : Int) ≠ 0) (hn : (kN X).neg = false) : uU X = 1 := by
  have h1 := rsign_ne h
  rw [ofZ_neg, decide_eq_false_iff_not] at hn
  unfold uU; rw [if_neg h1, if_neg hn]
theorem gs_val (x : jG) : (kN (kA x)).gs.length ≤ x.gs.length := cK x
theorem cP (x : jG) : (ofNat (kA x).natAbs).length ≤ x.gs.length := cK x
theorem gs_neg (x : jG) : (kN (-kA x)).gs.length ≤ x.gs.length := by rw [ofZ_len, lenZ_neg]; exact cK x
theorem gs_sub (x y : jG) : (kN (kA x - kA y)).gs.length ≤ max x.gs.length y.gs.length + 1 := by
  rw [Int.sub_eq_add_neg, ofZ_len]; exact lenZ_add (cK x) (by rw [lenZ_neg]; exact cK y) (Nat.le_refl _)
theorem gs_mul (x y : jG) : (kN (kA x * kA y)).gs.length ≤ x.gs.length + y.gs.length := mL (cK x) (cK y) (Nat.le_refl _)
theorem val_pair {l : List Nat} (h : l.length ≤ 2) : val l = l.getD 1 0 * 1000000000 + l.getD 0 0 := by
  rcases l with _ | ⟨d, _ | ⟨e, _ | ⟨f, l⟩⟩⟩
  · rfl
  · simp [val]
  · simp [val]; omega
  · simp at h
theorem rshift_val {q : List Nat} (u : List Nat) {i V r : Nat} (h : val (u.drop (i + 1)) = V * val (q.drop (i + 1)) + r) : val (u.drop i) = V * (1000000000 * val (q.drop (i + 1))) + (u.getD i 0 + 1000000000 * r) := by
  rw [xZ u i, h, Nat.mul_left_comm]
  rw [Nat.mul_add]; omega
theorem rguess {v : List Nat} {W n : Nat} (hv : Dig v) (hn : v.length = n) (h1 : 1 ≤ n) (hW : W < 1000000000 * val v) :
    ((ofNat W).getD n 0 * 1000000000 + (ofNat W).getD (n - 1) 0) / (v.getD (n - 1) 0 + 1) * val v ≤ W ∧ ((ofNat W).getD n 0 * 1000000000 + (ofNat W).getD (n - 1) 0) / (v.getD (n - 1) 0 + 1) < 1000000000 := by
  have hw := xH hv
  have ht := val_top hv (by omega)
  rw [hn] at hw ht
  have hp := pw_pos (n - 1)
  have e1 := gO (ofNat W) 0 (n - 1)
  have e2 := xZ (ofNat W) (n - 1)
  have e3 := xZ (ofNat W) n
  have e5 : W < pw (n + 1) := by rw [vU]; omega
  have e4 : (ofNat W).drop (n + 1) = [] := List.drop_eq_nil_of_le (vC e5)
  rw [e4, val_nil] at e3
  rw [show n - 1 + 1 = n by omega] at e2
  rw [List.drop_zero, kL, Nat.zero_add] at e1
  generalize (ofNat W).getD n 0 = t1 at *
  generalize (ofNat W).getD (n - 1) 0 = t0 at *
  generalize v.getD (n - 1) 0 = v1 at *
  have e6 : pw (n - 1) * (t1 * 1000000000 + t0) ≤ W := by
    have : t1 * 1000000000 + t0 = val ((ofNat W).drop (n - 1)) := by omega
    rw [this]; omega
  have e7 := Nat.div_mul_le_self (t1 * 1000000000 + t0) (v1 + 1)
  generalize (t1 * 1000000000 + t0) / (v1 + 1) = G at *
  have e8 : G * val v ≤ W := by
    refine Nat.le_trans (Nat.mul_le_mul_left G (Nat.le_of_lt ht.2)) (Nat.le_trans ?_ e6)
    rw [← Nat.mul_assoc, Nat.mul_comm (pw (n - 1))]
    exact Nat.mul_le_mul_right _ e7
  refine ⟨e8, ?_⟩
  have e9 : G * val v < 1000000000 * val v := by omega
  exact Nat.lt_of_mul_lt_mul_right e9
theorem rquo_lt {G V r W : Nat} (h : V * G + r = W) (hW : W < 1000000000 * V) : G < 1000000000 := by
  have h1 : G * V < 1000000000 * V := by rw [Nat.mul_comm G V]; omega
  exact Nat.lt_of_mul_lt_mul_right h1
theorem rround {u q : List Nat} {V G r i : Nat} (hi : i < q.length) (h : val (u.drop i) = V * (1000000000 * val (q.drop (i + 1))) + (V * G + r)) : val (u.drop i) = V * val ((q.set i G).drop i) + r := by
  rw [h, mN q i G hi, Nat.mul_add]; omega
theorem split_dig {o : List Nat} {m n : Nat} (h : o ++ ofNat m = ofNat n) (hm : ¬ (0 : Int) < ((m : Nat) : Int)) : Dig o := by
  rw [← split_end h hm]; exact kM n
theorem split_val {o : List Nat} {m n : Nat} (h : o ++ ofNat m = ofNat n) (hm : ¬ (0 : Int) < ((m : Nat) : Int)) : val o = n := by
  rw [← split_end h hm]; exact kL n
theorem ofZ_zero : kN 0 = ⟨false, []⟩ := by unfold kN xS; simp [vT]
theorem rshort_step {a q : List Nat} {d xR i n : Nat} (hi : i < q.length) (hv : val (a.drop (i + 1)) = val (q.drop (i + 1)) * d + xR) (hn : n = xR * 1000000000 + a.getD i 0) :
    val (a.drop i) = val ((q.set i (n / d)).drop i) * d + n % d := by
  rw [xZ a i, hv, mN q i _ hi]
  have h3 := Nat.div_add_mod n d
  rw [Nat.add_mul, Nat.mul_comm (n / d) d]
  have h4 : 1000000000 * val (q.drop (i + 1)) * d = 1000000000 * (val (q.drop (i + 1)) * d) := Nat.mul_assoc _ _ _
  omega
theorem fdiv_unique {x y q r : Int} (h : r + y * q = x) (hr : (0 ≤ r ∧ r < y) ∨ (y < r ∧ r ≤ 0)) : x.fdiv y = q ∧ x.fmod y = r := by
  rcases hr with ⟨h1, h2⟩ | ⟨h1, h2⟩
  · have hy : 0 < y := by omega
    rw [Int.fdiv_eq_ediv_of_nonneg _ (by omega), Int.fmod_eq_emod_of_nonneg _ (by omega)]
    exact (Int.ediv_emod_unique hy).2 ⟨h, h1, h2⟩
  · have hy : 0 < -y := by omega
    have h3 : (-x).fdiv (-y) = q ∧ (-x).fmod (-y) = -r := by
      rw [Int.fdiv_eq_ediv_of_nonneg _ (by omega), Int.fmod_eq_emod_of_nonneg _ (by omega)]
      refine (Int.ediv_emod_unique hy).2 ⟨?_, by omega, by omega⟩
      rw [← h, Int.neg_mul]; omega
    rw [Int.neg_fdiv_neg, Int.neg_fmod_neg] at h3
    exact ⟨h3.1, by omega⟩
theorem div_same {b c : Bool} {m n : Nat} (hn : 0 < n) (h : b = c ∨ m % n = 0) :
    kN ((mK b m).fdiv (mK c n)) = xS (!(b == c)) (m / n) ∧ kN ((mK b m).fmod (mK c n)) = xS c (m % n) := by
  have h1 : ((m % n : Nat) : Int) + (n : Int) * ((m / n : Nat) : Int) = (m : Int) := by
    have := Nat.mod_add_div m n; exact_mod_cast this
  have h2 := Nat.mod_lt m hn
  rw [mQ, mQ]
  have key : (mK b m).fdiv (mK c n) = mK (!(b == c)) (m / n) ∧ (mK b m).fmod (mK c n) = mK c (m % n) := by
    have h3 : ((m % n : Nat) : Int) = 0 ∨ b = c := by rcases h with h | h; exact .inr h; exact .inl (by omega)
    generalize m / n = q at *
    generalize m % n = r at *
    refine fdiv_unique ?_ ?_
    · cases b <;> cases c
      · show (r : Int) + (n : Int) * (q : Int) = (m : Int); exact h1
      · show -(r : Int) + (-(n : Int)) * (-(q : Int)) = (m : Int); rw [Int.neg_mul_neg]; rcases h3 with h3 | h3; omega; cases h3
      · show (r : Int) + (n : Int) * (-(q : Int)) = -(m : Int); rw [Int.mul_neg]; rcases h3 with h3 | h3; omega; cases h3
      · show -(r : Int) + (-(n : Int)) * (q : Int) = -(m : Int); rw [Int.neg_mul]; omega
    · cases c
      · left; show 0 ≤ (r : Int) ∧ (r : Int) < (n : Int); omega
      · right; show -(n : Int) < -(r : Int) ∧ -(r : Int) ≤ 0; omega
  rw [key.1, key.2]
  exact ⟨rfl, rfl⟩
theorem div_other {b c : Bool} {m n : Nat} (hn : 0 < n) (h : b ≠ c) (hr : 0 < m % n) :
    kN ((mK b m).fdiv (mK c n)) = xS (!(b == c)) (m / n + 1) ∧ kN ((mK b m).fmod (mK c n)) = xS c (n - m % n) := by
  have h1 : ((m % n : Nat) : Int) + (n : Int) * ((m / n : Nat) : Int) = (m : Int) := by
    have := Nat.mod_add_div m n; exact_mod_cast this
  have h2 := Nat.mod_lt m hn
  rw [mQ, mQ]
  have key : (mK b m).fdiv (mK c n) = mK (!(b == c)) (m / n + 1) ∧ (mK b m).fmod (mK c n) = mK c (n - m % n) := by
    have e1 : (n : Int) * (((m / n + 1 : Nat)) : Int) = (n : Int) * ((m / n : Nat) : Int) + n := by
      rw [Int.natCast_add, Int.mul_add]; simp
    generalize m / n = q at *
    generalize m % n = r at *
    refine fdiv_unique ?_ ?_
    · cases b <;> cases c
      · exact absurd rfl h
      · show -((n - r : Nat) : Int) + (-(n : Int)) * (-((q + 1 : Nat) : Int)) = (m : Int); rw [Int.neg_mul_neg, e1]; omega
      · show ((n - r : Nat) : Int) + (n : Int) * (-((q + 1 : Nat) : Int)) = -(m : Int); rw [Int.mul_neg, e1]; omega
      · exact absurd rfl h
    · cases c
      · left; show 0 ≤ ((n - r : Nat) : Int) ∧ ((n - r : Nat) : Int) < (n : Int); omega
      · right; show -(n : Int) < -((n - r : Nat) : Int) ∧ -((n - r : Nat) : Int) ≤ 0; omega
  rw [key.1, key.2]
  exact ⟨rfl, rfl⟩
theorem r_div_same {X Y : Int} (hn : 0 < Y.natAbs) (h : (kN X).neg = (kN Y).neg ∨ ¬ (0 : Int) < (((ofNat (val (ofNat X.natAbs) % val (ofNat Y.natAbs))).length : Nat) : Int)) :
    xS (!((kN X).neg == (kN Y).neg)) (val (ofNat (val (ofNat X.natAbs) / val (ofNat Y.natAbs)))) = kN (X.fdiv Y) := by
  rw [kL, kL, kL]
  rw [kL, kL] at h
  have h1 := (div_same (b := (kN X).neg) (c := (kN Y).neg) (m := X.natAbs) (n := Y.natAbs) hn (by
    rcases h with h | h
    · exact .inl h
    · right
      rcases Nat.eq_zero_or_pos (X.natAbs % Y.natAbs) with h2 | h2
      · exact h2
      · have := cO h2; omega)).1
  rw [nF, nF] at h1
  exact h1.symm
theorem r_div_other {X Y : Int} (hn : 0 < Y.natAbs) (h : (kN X).neg ≠ (kN Y).neg ∧ (0 : Int) < (((ofNat (val (ofNat X.natAbs) % val (ofNat Y.natAbs))).length : Nat) : Int)) :
    kN (kA (xS (!((kN X).neg == (kN Y).neg)) (val (ofNat (val (ofNat X.natAbs) / val (ofNat Y.natAbs))))) - kA (kN 1)) = kN (X.fdiv Y) := by
  obtain ⟨h, h0⟩ := h
  rw [kL, kL] at h0
  have h2 : 0 < X.natAbs % Y.natAbs := by
    rcases Nat.eq_zero_or_pos (X.natAbs % Y.natAbs) with h3 | h3
    · rw [h3, vT] at h0; simp at h0
    · exact h3
  have h1 := (div_other hn h h2).1
  rw [nF, nF] at h1
  rw [h1, kL, kL, kL, mQ, mQ, mO, mO]
  have hb : (!((kN X).neg == (kN Y).neg)) = true := by rw [Bool.not_eq_true', beq_eq_false_iff_ne]; exact h
  rw [hb]
  congr 1
  unfold mK
  rw [if_pos rfl, if_pos rfl]; omega
theorem r_rem_eq (X Y : Int) : kN (kA (kN X) - kA (kN (kA (kN (X.fdiv Y)) * kA (kN Y)))) = kN (X.fmod Y) := by
  rw [mO, mO, mO, mO, Int.fmod_def, Int.mul_comm]
def jC (q : Rat) : jV := ⟨kN q.num, kN q.den⟩
def xG (x : jV) : Bool := vF x.num && (vF x.den && (decide (0 < kA x.den) && (Int.gcd (kA x.num) (kA x.den) == 1)))
def toQ (x : jV) : Rat := if xG x = true then Rat.divInt (kA x.num) (kA x.den) else 0
theorem aJ (q : Rat) : xG (jC q) = true := by
  unfold xG jC
  simp only [validI_ofZ, mO, Bool.true_and, Bool.and_eq_true, decide_eq_true_eq, beq_iff_eq]
  refine ⟨by have := q.den_pos; omega, ?_⟩
  have := q.reduced
  unfold Int.gcd
  rw [Int.natAbs_natCast]
  exact this
theorem toQ_ofQ (q : Rat) : toQ (jC q) = q := by
  unfold toQ
  rw [if_pos (aJ q)]
  unfold jC
  simp only [mO]
  exact Rat.num_divInt_den q
theorem ofQ_toQ {x : jV} (h : xG x = true) : jC (toQ x) = x := by
  unfold toQ
  rw [if_pos h]
  unfold xG at h
  simp only [Bool.and_eq_true, decide_eq_true_eq, beq_iff_eq] at h
  obtain ⟨h1, h2, h3, h4⟩ := h
  have e1 : (Rat.divInt (kA x.num) (kA x.den)).num = kA x.num := by
    rw [Rat.num_divInt, Int.gcd_comm, h4, Int.sign_eq_one_of_pos h3]; simp
  have e2 : (((Rat.divInt (kA x.num) (kA x.den)).den : Nat) : Int) = kA x.den := by
    rw [Rat.den_divInt, if_neg (by omega), Int.gcd_comm, h4]; simp; omega
  unfold jC
  rw [e1, e2, ofZ_toZ h1, ofZ_toZ h2]
theorem toQ_bad {x : jV} (h : xG x = false) : toQ x = 0 := by unfold toQ; rw [if_neg (by rw [h]; simp)]
def QL (q : Rat) (n : Nat) : Prop := nU q.num ≤ n ∧ nU q.den ≤ n
theorem qS {q : Rat} {m n : Nat} (h : QL q m) (hm : m ≤ n) : QL q n := ⟨Nat.le_trans h.1 hm, Nat.le_trans h.2 hm⟩
theorem qL {a b : Int} {n : Nat} (ha : nU a ≤ n) (hb : nU b ≤ n) (h1 : 1 ≤ n) : QL (Rat.divInt a b) n := by
  constructor
  · refine Nat.le_trans ?_ ha
    refine eB ?_
    rw [Rat.num_divInt]
    refine Nat.le_trans (Int.natAbs_ediv_le_natAbs _ _) ?_
    rw [Int.natAbs_mul]
    rcases Int.lt_trichotomy b 0 with h | h | h
    · rw [Int.sign_eq_neg_one_of_neg h]; simp
    · rw [h]; simp
    · rw [Int.sign_eq_one_of_pos h]; simp
  · rw [Rat.den_divInt]
    split
    · exact Nat.le_trans (by unfold nU; simp [mC, vT]) h1
    · refine Nat.le_trans ?_ hb
      refine eB ?_
      rw [Int.natAbs_natCast]
      exact Nat.div_le_self _ _
theorem add_divInt (a b : Rat) : a + b = Rat.divInt (a.num * b.den + b.num * a.den) (a.den * b.den) := by
  rw [Rat.add_def', ← Rat.divInt_ofNat, Int.natCast_mul]
theorem mul_divInt (a b : Rat) : a * b = Rat.divInt (a.num * b.num) (a.den * b.den) := by
  rw [Rat.mul_def', ← Rat.divInt_ofNat, Int.natCast_mul]
theorem div_divInt (a b : Rat) : a / b = Rat.divInt (a.num * b.den) (a.den * b.num) := by
  rw [Rat.div_def, Rat.inv_def]
  conv => lhs; rw [← Rat.num_divInt_den a]
  rw [Rat.divInt_mul_divInt]
theorem uF {a b : Rat} {m n k : Nat} (ha : QL a m) (hb : QL b n) (h : m + n + 1 ≤ k) : QL (a + b) k := by
  rw [add_divInt]
  refine qL (lenZ_add (mL ha.1 hb.2 (Nat.le_refl _)) (mL hb.1 ha.2 (Nat.le_refl _)) (by omega)) (mL ha.2 hb.2 (by omega)) (by omega)
theorem ql_neg {a : Rat} {m : Nat} (ha : QL a m) : QL (-a) m := ⟨by rw [Rat.neg_num, lenZ_neg]; exact ha.1, by rw [Rat.neg_den]; exact ha.2⟩
theorem uV {a b : Rat} {m n k : Nat} (ha : QL a m) (hb : QL b n) (h : m + n + 1 ≤ k) : QL (a - b) k := by
  rw [Rat.sub_eq_add_neg]; exact uF ha (ql_neg hb) h
theorem ql_pos {a : Rat} {m : Nat} (ha : QL a m) : 1 ≤ m := by
  have h1 := dH.1 ha.2
  rcases Nat.eq_zero_or_pos m with h | h
  · subst h; rw [nR] at h1; have := a.den_pos; omega
  · exact h
theorem jI {a b : Rat} {m n k : Nat} (ha : QL a m) (hb : QL b n) (h : m + n ≤ k) : QL (a * b) k := by
  have h1 := ql_pos ha
  rw [mul_divInt]
  exact qL (mL ha.1 hb.1 h) (mL ha.2 hb.2 h) (by omega)
theorem vE {a b : Rat} {m n k : Nat} (ha : QL a m) (hb : QL b n) (h : m + n ≤ k) : QL (a / b) k := by
  have h1 := ql_pos ha
  rw [div_divInt]
  exact qL (mL ha.1 hb.2 h) (mL ha.2 hb.1 h) (by omega)
theorem vQ {z : Int} (h : z.natAbs < 1000000000) : nU z ≤ 1 := dH.2 (by rw [show (1 : Nat) = 0 + 1 from rfl, vU, nR]; omega)
theorem kQ {z : Int} {n : Nat} (h : nU z ≤ n) (h1 : 1 ≤ n) : QL (z : Rat) n := ⟨h, Nat.le_trans (vQ (by simp)) h1⟩
theorem ql_zero : QL 0 1 := ⟨vQ (by simp), vQ (by simp)⟩
structure QOk (x : jV) (q : Rat) (n : Nat) : Prop where
  v : toQ x = q
  p : 1 ≤ n
  n1 : x.num.gs.length ≤ n
  n2 : x.den.gs.length ≤ n
theorem QOk.ql {x : jV} {q : Rat} {n : Nat} (h : QOk x q n) : QL q n := by
  rw [← h.v]
  by_cases hv : xG x = true
  · unfold toQ; rw [if_pos hv]
    exact qL (Nat.le_trans (cK _) h.n1) (Nat.le_trans (cK _) h.n2) h.p
  · unfold toQ; rw [if_neg hv]
    exact qS ql_zero h.p
theorem kC {q : Rat} {n : Nat} (h : QL q n) : QOk (jC q) q n := ⟨toQ_ofQ q, ql_pos h, h.1, h.2⟩
theorem uA {q : Rat} {n : Nat} (h : QL q n) : hH (jC q).num q.num n := dU h.1
theorem vA {q : Rat} {n : Nat} (h : QL q n) : hH (jC q).den q.den n := dU h.2
theorem kB {x : jV} {a : Rat} {m n : Nat} (hx : QOk x a m) (h : m ≤ n) : QOk x a n := ⟨hx.v, Nat.le_trans hx.p h, Nat.le_trans hx.n1 h, Nat.le_trans hx.n2 h⟩
theorem divInt_parts {a b : Int} (hb : 0 < b) : jC (Rat.divInt a b) = ⟨kN (a.fdiv (Int.gcd a b)), kN (b.fdiv (Int.gcd a b))⟩ := by
  unfold jC
  have e1 : (Rat.divInt a b).num = a.fdiv (Int.gcd a b) := by
    rw [Rat.num_divInt, Int.sign_eq_one_of_pos hb, Int.one_mul, Int.gcd_comm, Int.fdiv_eq_ediv_of_nonneg _ (by omega)]
  have e2 : (((Rat.divInt a b).den : Nat) : Int) = b.fdiv (Int.gcd a b) := by
    rw [Rat.den_divInt, if_neg (by omega), Int.gcd_comm, Int.fdiv_eq_ediv_of_nonneg _ (by omega), Int.natCast_ediv]
    congr 1; omega
  rw [e1, e2]
def cmpQ (a b : Rat) : Int := if a < b then -1 else if b < a then 1 else 0
def qZ (a : Rat) : Int := uU a.num
theorem signQ_sub (a b : Rat) : qZ (a - b) = cmpQ a b := by
  unfold qZ uU cmpQ
  have h1 : (a - b).num = 0 ↔ a - b = 0 := Rat.num_eq_zero
  have h2 : 0 ≤ (a - b).num ↔ 0 ≤ a - b := Rat.num_nonneg
  have h3 : b ≤ a ↔ 0 ≤ a - b := Rat.le_iff_sub_nonneg b a
  by_cases hlt : a < b
  · have h4 : ¬ 0 ≤ (a - b).num := fun h => Rat.not_le.2 hlt (h3.2 (h2.1 h))
    rw [if_neg (by omega), if_pos (by omega), if_pos hlt]
  · have h4 : 0 ≤ (a - b).num := h2.2 (h3.1 (Rat.not_lt.1 hlt))
    rw [if_neg hlt]
    by_cases hgt : b < a
    · have h5 : (a - b).num ≠ 0 := fun h => by
        have h6 := h1.1 h
        have h7 := (Rat.lt_iff_sub_pos b a).1 hgt
        rw [h6] at h7; exact Rat.lt_irrefl h7
      rw [if_neg h5, if_neg (by omega), if_pos hgt]
    · have h5 : a = b := Rat.le_antisymm (Rat.not_lt.1 hgt) (Rat.not_lt.1 hlt)
      have h6 : (a - b).num = 0 := h1.2 (by rw [h5]; exact Rat.sub_self)
      rw [if_pos h6, if_neg hgt]
theorem copied_eq {x : jV} (h : xG x = true) : (⟨kN (-(-kA x.num)), kN (-(-kA x.den))⟩ : jV) = jC (toQ x) := by
  have h0 := h
  unfold xG at h
  simp only [Bool.and_eq_true] at h
  rw [ofQ_toQ h0, Int.neg_neg, Int.neg_neg, ofZ_toZ h.1, ofZ_toZ h.2.1]
theorem red_neg {a b : Int} (hb : b < 0) : (⟨kN ((-a).fdiv (Int.gcd (-a) (-b))), kN ((-b).fdiv (Int.gcd (-a) (-b)))⟩ : jV) = jC (Rat.divInt a b) := by
  rw [← divInt_parts (by omega), Rat.neg_divInt_neg]
theorem red_pos {a b : Int} (hb : ¬ b < 0) (h0 : b ≠ 0) : (⟨kN (a.fdiv (Int.gcd a b)), kN (b.fdiv (Int.gcd a b))⟩ : jV) = jC (Rat.divInt a b) := (divInt_parts (by omega)).symm
theorem gcd_ne {a b : Int} (hb : b ≠ 0) : ((Int.gcd a b : Nat) : Int) ≠ 0 := by
  intro h
  have h1 : Int.gcd a b = 0 := by omega
  rw [Int.gcd_eq_zero_iff] at h1
  exact hb h1.2
theorem lenZ_gcd {a b : Int} {n : Nat} (hb : b ≠ 0) (h : nU b ≤ n) : nU ((Int.gcd a b : Nat) : Int) ≤ n := by
  refine Nat.le_trans (eB ?_) h
  rw [Int.natAbs_natCast]
  exact Nat.le_of_dvd (by omega) (Int.gcd_dvd_natAbs_right a b)
theorem signI_le {z : Int} : uU z ≤ 0 ↔ z ≤ 0 := by
  rcases yQ z with ⟨h1, h2⟩ | ⟨h1, h2⟩ | ⟨h1, h2⟩ <;> omega
theorem signI_lt {z : Int} : uU z < 0 ↔ z < 0 := by
  rcases yQ z with ⟨h1, h2⟩ | ⟨h1, h2⟩ | ⟨h1, h2⟩ <;> omega
theorem cmpI_zero {a b : Int} : xB a b = 0 ↔ a = b := by
  unfold xB
  split
  · constructor <;> intro h <;> omega
  · split <;> constructor <;> intro h <;> omega
theorem validR_no {x : jV} (h : ((!vF x.num || !vF x.den) || decide (uU (kA x.den) ≤ 0)) = true) : xG x = false := by
  unfold xG
  rw [Bool.or_eq_true, Bool.or_eq_true, Bool.not_eq_true', Bool.not_eq_true', decide_eq_true_eq, signI_le] at h
  rcases h with (h | h) | h
  · rw [h]; rfl
  · rw [h]; simp
  · rw [show decide (0 < kA x.den) = false from decide_eq_false (by omega)]; simp
theorem validR_yes {x : jV} (h : ((!vF x.num || !vF x.den) || decide (uU (kA x.den) ≤ 0)) = false) : xG x = (xB ((Int.gcd (kA x.num) (kA x.den) : Nat) : Int) 1 == 0) := by
  unfold xG
  rw [Bool.or_eq_false_iff, Bool.or_eq_false_iff, Bool.not_eq_false', Bool.not_eq_false', decide_eq_false_iff_not, signI_le] at h
  obtain ⟨⟨h1, h2⟩, h3⟩ := h
  rw [h1, h2, show decide (0 < kA x.den) = true from decide_eq_true (by omega)]
  simp only [Bool.true_and]
  rw [Bool.eq_iff_iff, beq_iff_eq, beq_iff_eq, cmpI_zero]
  omega
theorem nZ {q : Rat} : uU q.num = 0 ↔ q = 0 := by
  rw [← Rat.num_eq_zero]
  rcases yQ q.num with ⟨h1, h2⟩ | ⟨h1, h2⟩ | ⟨h1, h2⟩ <;> omega
def divR (p q : Rat) : jV := if q = 0 then ⟨⟨false, []⟩, ⟨false, []⟩⟩ else jC (p / q)
def divC (q : Rat) : Int := if q = 0 then 14 else 0
theorem divR_zero {p q : Rat} (h : q = 0) : divR p q = ⟨⟨false, []⟩, ⟨false, []⟩⟩ := if_pos h
theorem divR_ne {p q : Rat} (h : q ≠ 0) : divR p q = jC (p / q) := if_neg h
theorem divC_zero {q : Rat} (h : q = 0) : divC q = 14 := if_pos h
theorem divC_ne {q : Rat} (h : q ≠ 0) : divC q = 0 := if_neg h
theorem rat_div_zero (p : Rat) : p / 0 = 0 := by rw [Rat.div_def, Rat.inv_zero, Rat.mul_zero]
theorem mul_ne {a b : Int} (ha : a ≠ 0) (hb : b ≠ 0) : a * b ≠ 0 := Int.mul_ne_zero ha hb
theorem dX (q : Rat) : (q.den : Int) ≠ 0 := by have := q.den_pos; omega
theorem num_ne {q : Rat} (h : q ≠ 0) : q.num ≠ 0 := fun e => h (Rat.num_eq_zero.1 e)
theorem gI {x y : jG} {a b : Int} {m n k : Nat} (hx : hH x a m) (hy : hH y b n) (h : max m n ≤ k) : hH (kN ((Int.gcd a b : Nat) : Int)) ((Int.gcd a b : Nat) : Int) k := dU (by
  by_cases hb : b = 0
  · subst hb
    rw [Int.gcd_zero_right]
    refine Nat.le_trans (eB (z := a) ?_) (Nat.le_trans hx.ln (by omega))
    simp
  · exact Nat.le_trans (lenZ_gcd hb hy.ln) (by omega))
theorem jP {z : Int} (h1 : -9223372036854775808 ≤ z) (h2 : z ≤ 9223372036854775807) : nU z ≤ 3 := dV (by omega)
theorem iok_int {z : Int} (h1 : -9223372036854775808 ≤ z) (h2 : z ≤ 9223372036854775807) : hH (kN z) z 3 := dU (jP h1 h2)
theorem red_neg2 {a b : Int} (hb : b < 0) : jC (Rat.divInt a b) = ⟨kN (a.fdiv (-((Int.gcd a b : Nat) : Int))), kN (b.fdiv (-((Int.gcd a b : Nat) : Int)))⟩ := by
  rw [← red_neg hb]
  have e : Int.gcd (-a) (-b) = Int.gcd a b := by simp
  rw [e]
  have h1 := Int.neg_fdiv_neg a (-((Int.gcd a b : Nat) : Int))
  have h2 := Int.neg_fdiv_neg b (-((Int.gcd a b : Nat) : Int))
  rw [Int.neg_neg] at h1 h2
  rw [h1, h2]
def newR (a b : Int) : jV := if b = 0 then ⟨⟨false, []⟩, ⟨false, []⟩⟩ else jC (Rat.divInt a b)
def newC (b : Int) : Int := if b = 0 then 14 else 0
theorem sign0 {b : Int} (h : uU b = 0) : b = 0 := by
  rcases yQ b with ⟨h1, h2⟩ | ⟨h1, h2⟩ | ⟨h1, h2⟩ <;> omega
theorem newR_div (p q : Rat) : newR (p.num * q.den) (p.den * q.num) = divR p q := by
  unfold newR divR
  by_cases h : q = 0
  · subst h; simp
  · rw [if_neg h, if_neg (mul_ne (dX p) (num_ne h)), div_divInt]
theorem newC_div (p q : Rat) : newC (p.den * q.num) = divC q := by
  unfold newC divC
  by_cases h : q = 0
  · subst h; simp
  · rw [if_neg h, if_neg (mul_ne (dX p) (num_ne h))]
theorem qu {q : Rat} {m n : Nat} (h : QL q m) (hm : m ≤ n := by decide) : QL q n := qS h hm
theorem qi (z : Int) (h1 : -9223372036854775808 ≤ z := by omega) (h2 : z ≤ 9223372036854775807 := by omega) : QL ((z : Int) : Rat) 3 := kQ (z := z) (n := 3) (jP h1 h2) (by decide)
end Go.Fid
namespace Go.Fid
open Go.RowKit (Below)
theorem sim_put {C : Ctx} {a : Act} {w : World} {S : SL} {B : BS} {D : uT} {β : vP} {t : Tmp} {v : Value} {x : SV} (h : SimAt C a w ⟨S, B⟩ D β) (hd : hN C.n (some t) = true) (hx : vG w D β v x) : SimAt C (a.put (some t) v) w ⟨(t, x) :: S, B⟩ D β :=
  ⟨h.base.put hd _, h.mem, h.high, fun u => by
    show vG w D β ((a.put (some t) v).tmps.getD u undef) (qB ((t, x) :: S) u)
    rw [xN h.base.size hd, vS]
    by_cases e : t = u
    · rw [if_pos e, if_pos (by rw [e])]; exact hx
    · rw [if_neg e, if_neg (fun e' => e (by injection e'))]; exact h.slots u⟩
theorem pwp_nilq {P : Program} {n : Fr} {S : SL} {B : BS} {Q : Exit → PS → Prop} {id : Nat} {o1 o2 : Oper} {t0 ta tb : Tmp} {T T' E t : TypeId} {s s' : Nat} {es : List kY}
    (h1 : o1.op = .move (.tmp t0)) (h1d : o1.dst = some ta) (h1g : o1.guard = none) (h2 : o2.op = .binOp .eql T (.tmp ta) (.const (.slice none 0 0)) T') (h2d : o2.dst = some tb) (h2g : o2.guard = none)
    (hT : xO P T = some (E, s)) (hda : hN n (some ta) = true) (hdb : hN n (some tb) = true) (hx : qB S t0 = .d (.sl t s' es))
    (hq : ∀ b : Bool, (b = true → es = []) → Q .normal ⟨(tb, .d (.val (.bool b))) :: (ta, .d (.sl t s' es)) :: S, B⟩) : uY P n (.region id #[o1, o2] false) Q ⟨S, B⟩ := fun C a w N hn hs => by
  subst hn
  obtain ⟨D, β, hs⟩ := hs
  have hv := hs.slots t0
  have hv' : vG w D β (a.tmps.getD t0 undef) (qB S t0) := hv
  rw [hx] at hv'
  have hev : a.eval (.tmp t0) = a.tmps.getD t0 undef := rfl
  generalize a.tmps.getD t0 undef = v at hv' hev
  have hv'' : xF w D v (.sl t s' es) := hv'
  obtain ⟨i, f1, f2, f3⟩ := mI hT
  cases hv'' with
  | sl g off u hnn hcc hmm hss ha hD hu hone hrr =>
  rename_i ad len cap
  subst hnn
  have hp1 : gZ o1 = true := by simp [gZ, h1]
  have hp2 : gZ o2 = true := by simp [gZ, h2]
  have hs1 := sim_put hs hda hv'
  have hs2 := sim_put (v := .bool ad.isNone) hs1 hdb (x := .d (.val (.bool ad.isNone))) (xF.val _)
  refine wpIn_region_lit (wpListIn_plain h1g fun K1 hK1 => op_lift hp1 (cT (v := .slice ad es.length cap) (w' := w) ?_ (hK1 _ _ (wpListIn_plain h2g fun K2 hK2 => op_lift hp2 (cT (v := .bool ad.isNone) (w' := w) ?_ (hK2 _ _ (wpListIn_nil ?_)))))))
  · simp only [execOp, h1, hev, Sem.run_pure]
  · have hta : (a.put o1.dst (Value.slice ad es.length cap)).eval (.tmp ta) = .slice ad es.length cap := by
      show (a.put o1.dst (Value.slice ad es.length cap)).tmps.getD ta undef = _
      rw [h1d, xN hs.base.size hda, if_pos rfl]
    have hce : (a.put o1.dst (Value.slice ad es.length cap)).eval (.const (.slice none 0 0)) = .slice none 0 0 := rfl
    have heq : ∀ d : Nat, (Op.equalIn (d + 1) T (.slice ad es.length cap) (.slice none 0 0)).run P w = .ok ad.isNone w := fun d => by
      cases ad <;> simp [Op.equalIn, run_underlying f1]
    have heq' : (Op.equal T (.slice ad es.length cap) (.slice none 0 0)).run P w = .ok ad.isNone w := heq 9999
    simp only [execOp, h2, hta, hce]
    simp [eqGuard, binOp, heq']
  · rw [h1d, h2d]
    refine ⟨_, ⟨D, β, hs2⟩, hq _ fun hb => ?_⟩
    cases ad with
    | none =>
      refine List.eq_nil_of_length_eq_zero ?_
      rcases Nat.eq_zero_or_pos es.length with h | h
      · exact h
      · have := ha h; cases this
    | some x => cases hb
end Go.Fid
namespace Go.Fid
set_option linter.unusedVariables false
set_option linter.unusedSimpArgs false
open Go.RowKit (Below)
theorem publish_core {C : Ctx} {a : Act} {w : World} {st : PS} {D : uT} {β : vP} {k s m : Nat} {T : TypeId} {cs : List SV} {es : List kY} (h : SimAt C a w st D β) (hb : uJ st.bs k = some cs) (hes : ∀ e ∈ es, e.cells.length = s) (hl : es.length = m) (hc : cs.take (m * s) = (uR es).map .d) :
    ∃ D', SimAt C a w ⟨st.sl, (k, none) :: st.bs⟩ D' β ∧ ∀ v D2, vG w D2 β v (.own k T s m) → xF w D' v (.sl T s es) := by
  have hfl := xK hes
  have hbs : ∀ {j : Nat} {c : List SV}, uJ ((k, none) :: st.bs) j = some c → j ≠ k ∧ uJ st.bs j = some c := fun {j c} hj => by
    rw [kX] at hj
    split at hj
    · cases hj
    · rename_i e; exact ⟨fun e' => e e'.symm, hj⟩
  rcases h.mem.ok k cs hb with ⟨g1, hcs⟩ | ⟨b, vs, T', g1, g2, g3, g4, g5⟩
  · refine ⟨D, ⟨h.base, ⟨fun j c hj => h.mem.ok j c (hbs hj).2, fun j1 j2 c1 c2 q1 q2 => h.mem.inj j1 j2 c1 c2 (hbs q1).2 (hbs q2).2⟩, fun j c hj => h.high j c (hbs hj).2, h.slots⟩, fun v D2 hv => ?_⟩
    rcases hv with ⟨_, e2, e3⟩ | ⟨b, cap, vs, h1, _⟩
    · rw [e2] at hl
      have hn : es = [] := List.eq_nil_of_length_eq_zero hl
      subst hn
      rw [e3]; exact aD w D T s
    · rw [h1] at g1; cases g1
  · have hlt := zL g2
    have hmono : ∀ t' g o, D t' g o → (D t' g o ∨ (t' = T ∧ g = b ∧ o < m * s)) ∧ w.cell? ⟨g, o, none⟩ = w.cell? ⟨g, o, none⟩ := fun t' g o hd => ⟨.inl hd, rfl⟩
    have hS : ∀ {v x}, vG w D β v x → vG w (fun t' g o => D t' g o ∨ (t' = T ∧ g = b ∧ o < m * s)) β v x := fun {v x} hr => by
      cases x with
      | d x => exact xF.mono hmono hr
      | ref k o => exact hr
      | own k t s n => exact hr
      | clo f ks => exact hr
      | emp => exact hr
      | view k o n => exact hr
      | junk => trivial
    refine ⟨fun t' g o => D t' g o ∨ (t' = T ∧ g = b ∧ o < m * s), ⟨⟨h.base.defers, h.base.size, h.base.keep, h.base.oth, h.base.pin, h.base.below, fun t' g o hd => .inl (h.base.dmono _ _ _ hd), fun t' g o hd => ?_, fun t' g o hd => ?_⟩, ⟨fun j c hj => ?_, fun j1 j2 c1 c2 q1 q2 => h.mem.inj j1 j2 c1 c2 (hbs q1).2 (hbs q2).2⟩, fun j c hj => h.high j c (hbs hj).2, fun u => hS (h.slots u)⟩, fun v D2 hv => ?_⟩
    · rcases hd with hd | ⟨_, e, _⟩
      · exact h.base.dnew _ _ _ hd
      · subst e; exact .inr (h.high k cs hb g g1)
    · rcases hd with hd | ⟨_, e, _⟩
      · exact h.base.dok _ _ _ hd
      · subst e; exact hlt
    · obtain ⟨hne, hj'⟩ := hbs hj
      rcases h.mem.ok j c hj' with q | ⟨b2, vs2, T2, q1, q2, q3, q4, q5⟩
      · exact .inl q
      · refine .inr ⟨b2, vs2, T2, q1, q2, q3, fun i x hx => ?_, fun t' o hd => ?_⟩
        · obtain ⟨u, e1, e2, e3⟩ := q4 i x hx
          exact ⟨u, e1, e2, hS e3⟩
        · rcases hd with hd | ⟨_, e, _⟩
          · exact q5 _ _ hd
          · subst e; exact hne (h.mem.inj j k _ _ hj' hb b2 q1 g1)
    · rcases hv with ⟨e1, _, _⟩ | ⟨b2, cap, vs2, h1, h2, h3, h4, h5, h6⟩
      · rw [e1] at g1; cases g1
      · obtain rfl : b = b2 := by rw [h1] at g1; injection g1 with g1; exact g1.symm
        rw [h3] at g2
        injection g2 with g2
        injection g2 with g2 gT
        subst g2; subst gT
        rw [h2]
        have key : ∀ (i : Nat) d, (uR es)[i]? = some d → ∃ u, vs2[i]? = some u ∧ u.oneCell' = true ∧ xF w D u d := fun i d hd => by
          have hi : i < m * s := by
            have := (List.getElem?_eq_some_iff.1 hd).1
            rw [hfl, hl] at this; exact this
          have e1 : cs[i]? = some (.d d) := by
            have : (cs.take (m * s))[i]? = some (.d d) := by rw [hc]; simp [hd]
            rwa [List.getElem?_take_of_lt hi] at this
          exact g4 i _ e1
        have hcell : ∀ i, w.cell? ⟨b, i, none⟩ = vs2[i]? := fun i => cell_of_row w b i vs2 T (0, 0) h3
        refine xF.sl b 0 (fun i => vs2.getD i undef) hl.symm h5 h6 hes (fun _ => rfl) (fun i hi => .inr ⟨rfl, rfl, by rw [Nat.zero_add, ← hl, ← hfl]; exact hi⟩) (fun i hi => ?_) (fun i hi => ?_) (fun i d hd => ?_)
        · obtain ⟨x, q1, q2, q3⟩ := key i _ (List.getElem?_eq_getElem hi)
          rw [Nat.zero_add, hcell, Array.getD_eq_getD_getElem?, q1]; rfl
        · obtain ⟨x, q1, q2, q3⟩ := key i _ (List.getElem?_eq_getElem hi)
          rw [Array.getD_eq_getD_getElem?, q1]; exact q2
        · obtain ⟨x, q1, q2, q3⟩ := key i d hd
          rw [Array.getD_eq_getD_getElem?, q1]
          exact xF.mono hmono q3
theorem publishB {st : PS} {j k s m : Nat} {T : TypeId} {cs : List SV} {es : List kY} (hj : uJ st.bs j = some [.own k T s m]) (hjk : Nat.beq k j = false) (hb : uJ st.bs k = some cs) (hes : ∀ e ∈ es, e.cells.length = s) (hl : es.length = m) (hc : cs.take (m * s) = (uR es).map .d) :
    jW st ⟨st.sl, (j, some [.d (.sl T s es)]) :: (k, none) :: st.bs⟩ := fun C a w ⟨D, β, h⟩ => by
  obtain ⟨D', h', hown⟩ := publish_core (T := T) h hb hes hl hc
  have hne : k ≠ j := beq_false_ne hjk
  have hj2 : uJ ((k, none) :: st.bs) j = some [.own k T s m] := by rw [kX, if_neg hne]; exact hj
  refine ⟨D', β, h'.base, ⟨fun i c hi => ?_, fun i1 i2 c1 c2 q1 q2 => ?_⟩, fun i c hi => ?_, h'.slots⟩
  · rw [kX] at hi
    split at hi
    · rename_i e; subst e
      injection hi with hi; subst hi
      rcases h'.mem.ok j _ hj2 with ⟨_, q⟩ | ⟨b, vs, T2, q1, q2, q3, q4, q5⟩
      · cases q
      · refine .inr ⟨b, vs, T2, q1, q2, by simpa using q3, fun i x hx => ?_, q5⟩
        rcases i with _ | i
        · obtain ⟨u, e1, e2, e3⟩ := q4 0 _ rfl
          simp at hx; subst hx
          exact ⟨u, e1, e2, hown u D' e3⟩
        · simp at hx
    · exact h'.mem.ok i c hi
  · have conv : ∀ {i c}, uJ ((j, some [SV.d (.sl T s es)]) :: (k, none) :: st.bs) i = some c → ∃ c', uJ ((k, none) :: st.bs) i = some c' := fun {i c} hi => by
      rw [kX] at hi
      split at hi
      · rename_i e; subst e; exact ⟨_, hj2⟩
      · exact ⟨c, hi⟩
    obtain ⟨c1', r1⟩ := conv q1
    obtain ⟨c2', r2⟩ := conv q2
    exact h'.mem.inj i1 i2 c1' c2' r1 r2
  · rw [kX] at hi
    split at hi
    · rename_i e; subst e; exact h'.high j _ hj2
    · exact h'.high i c hi
section
variable {P : Program} {o : Oper} {S : Nat → SV}
theorem t_sto {T : TypeId} {x y : Operand} {k j E s n : Nat} {u : SV} (ho : o.op = .store T x y) (hx : ev S x = .ref k 0) (hy : ev S y = .own j E s n) (hs : qY P T = some (false, 1)) : TOk P o S k [u] [.own j E s n] :=
  t_store (old := [u]) ho hx hy hs (.inr ⟨⟨j, E, s, n, rfl⟩, rfl⟩) rfl (Nat.le_refl _)
inductive cM (k : Nat) (T : TypeId) (s m : Nat) (es : List kY) : List SV → List kY → Prop
  | nil : cM k T s m es [] []
  | d {x : kY} {zs : List SV} {ds : List kY} (h : cM k T s m es zs ds) : cM k T s m es (.d x :: zs) (x :: ds)
  | o {zs : List SV} {ds : List kY} (h : cM k T s m es zs ds) : cM k T s m es (.own k T s m :: zs) (.sl T s es :: ds)
theorem cM.len {k : Nat} {T : TypeId} {s m : Nat} {es : List kY} {zs : List SV} {ds : List kY} (h : cM k T s m es zs ds) : zs.length = ds.length := by
  induction h with
  | nil => rfl
  | d h ih => simp [ih]
  | o h ih => simp [ih]
theorem cM.rep {k : Nat} {T : TypeId} {s m : Nat} {es : List kY} {w : World} {D D' : uT} {β : vP} (h1 : ∀ v x, xF w D v x → xF w D' v x) (h2 : ∀ v, vG w D β v (.own k T s m) → xF w D' v (.sl T s es)) {zs : List SV} {ds : List kY} (h : cM k T s m es zs ds) :
    ∀ {vs : List Value}, vs.length = zs.length → (∀ (i : Nat) v x, vs[i]? = some v → zs[i]? = some x → vG w D β v x) → ∀ (i : Nat) v d, vs[i]? = some v → ds[i]? = some d → xF w D' v d := by
  induction h with
  | nil => intro vs _ _ i v d _ hd; simp at hd
  | d h ih =>
    rename_i x zs ds
    intro vs hl hr i v d' hv hd
    rcases vs with _ | ⟨v0, vs⟩
    · simp at hl
    · rcases i with _ | i
      · simp at hv hd; subst hv; subst hd; exact h1 _ _ (hr 0 _ _ rfl rfl)
      · exact ih (by simpa using hl) (fun i v x h3 h4 => hr (i + 1) v x (by simpa using h3) (by simpa using h4)) i v d' (by simpa using hv) (by simpa using hd)
  | o h ih =>
    intro vs hl hr i v d' hv hd
    rcases vs with _ | ⟨v0, vs⟩
    · simp at hl
    · rcases i with _ | i
      · simp at hv hd; subst hv; subst hd; exact h2 _ (hr 0 _ _ rfl rfl)
      · exact ih (by simpa using hl) (fun i v x h3 h4 => hr (i + 1) v x (by simpa using h3) (by simpa using h4)) i v d' (by simpa using hv) (by simpa using hd)
theorem e_clo {y : Operand} {xs : List Operand} {ats : Array TypeId} {f : FuncId} {ds es : List kY} {u : Value} {zs : List SV} {cs : List SV} {k T s m : Nat} (hf : kD P f ds (.val u)) (ho : o.op = .call { callee := .value y, args := xs.toArray, argTypes := ats }) (hy : ev S y = .d (.val (.func (.func f) #[] #[]))) (hx : xs.map (ev S) = zs)
    (hz : cM k T s m es zs ds) (hes : ∀ e ∈ es, e.cells.length = s) (hl : es.length = m) (hc : cs.take (m * s) = (uR es).map .d) : vO P o S [(k, cs)] (.d (.val u)) :=
  fun a w D β Q hop hrd hD => by
    have hyv := hop y (by simp [ho, Op.operands, Call.operands])
    rw [hy] at hyv
    have hyv' := xP hyv
    have hrep : ∀ (i : Nat) v x, (xs.map a.eval)[i]? = some v → zs[i]? = some x → vG w D β v x := fun i v x hv hz' => by
      rw [List.getElem?_map, Option.map_eq_some_iff] at hv
      obtain ⟨q, hqi, rfl⟩ := hv
      have hm := hop q (by simp [ho, Op.operands, Call.operands, List.mem_of_getElem? hqi])
      have hi := congrArg (fun l : List SV => l[i]?) hx
      simp only [List.getElem?_map, hqi, hz', Option.map_some, Option.some.injEq] at hi
      rw [hi] at hm
      exact hm
    have vR : (xs.map a.eval).length = zs.length := by rw [← hx]; simp
    have hrun : (execOp a.eval o).run P w = .ok (.enter f (xs.map a.eval).toArray) w := by
      simp only [execOp, ho, resolve, Deferred.ofValue, hyv', Sem.run_bind, Sem.run_pure, Result.andThen_ok, invoke, Array.empty_append, Array.append_empty]
      rw [nE hf.may]
      simp
    have hfl := xK hes
    have hblk := hrd (k, cs) (by simp)
    have key : ∃ D', DOk D' w ∧ (∀ v x, xF w D v x → xF w D' v x) ∧ (∀ v, vG w D β v (.own k T s m) → xF w D' v (.sl T s es)) := by
      rcases hblk with ⟨g1, hcs⟩ | ⟨b, vs, T', g1, g2, g3, g4, g5⟩
      · refine ⟨D, hD, fun _ _ h => h, fun v hv => ?_⟩
        rcases hv with ⟨_, e2, e3⟩ | ⟨b, cap, vs, h1, _⟩
        · rw [e2] at hl
          have hn : es = [] := List.eq_nil_of_length_eq_zero hl
          subst hn
          rw [e3]; exact aD w D T s
        · rw [h1] at g1; cases g1
      · have hmono : ∀ t' g o, D t' g o → (D t' g o ∨ (t' = T ∧ g = b ∧ o < m * s)) ∧ w.cell? ⟨g, o, none⟩ = w.cell? ⟨g, o, none⟩ := fun t' g o hd => ⟨.inl hd, rfl⟩
        refine ⟨fun t' g o => D t' g o ∨ (t' = T ∧ g = b ∧ o < m * s), fun t' g o hd => ?_, fun v x hr => xF.mono hmono hr, fun v hv => ?_⟩
        · rcases hd with hd | ⟨_, e, _⟩
          · exact hD _ _ _ hd
          · subst e; exact zL g2
        · rcases hv with ⟨e1, _, _⟩ | ⟨b2, cap, vs2, h1, h2, h3, h4, h5, h6⟩
          · rw [e1] at g1; cases g1
          · obtain rfl : b = b2 := by rw [h1] at g1; injection g1 with g1; exact g1.symm
            rw [h3] at g2
            injection g2 with g2
            injection g2 with g2 gT
            subst g2; subst gT
            rw [h2]
            have key : ∀ (i : Nat) d, (uR es)[i]? = some d → ∃ u, vs2[i]? = some u ∧ u.oneCell' = true ∧ xF w D u d := fun i d hd => by
              have hi : i < m * s := by
                have := (List.getElem?_eq_some_iff.1 hd).1
                rw [hfl, hl] at this; exact this
              have e1 : cs[i]? = some (.d d) := by
                have : (cs.take (m * s))[i]? = some (.d d) := by rw [hc]; simp [hd]
                rwa [List.getElem?_take_of_lt hi] at this
              exact g4 i _ e1
            have hcell : ∀ i, w.cell? ⟨b, i, none⟩ = vs2[i]? := fun i => cell_of_row w b i vs2 T (0, 0) h3
            refine xF.sl b 0 (fun i => vs2.getD i undef) hl.symm h5 h6 hes (fun _ => rfl) (fun i hi => .inr ⟨rfl, rfl, by rw [Nat.zero_add, ← hl, ← hfl]; exact hi⟩) (fun i hi => ?_) (fun i hi => ?_) (fun i d hd => ?_)
            · obtain ⟨x, q1, q2, q3⟩ := key i _ (List.getElem?_eq_getElem hi)
              rw [Nat.zero_add, hcell, Array.getD_eq_getD_getElem?, q1]; rfl
            · obtain ⟨x, q1, q2, q3⟩ := key i _ (List.getElem?_eq_getElem hi)
              rw [Array.getD_eq_getD_getElem?, q1]; exact q2
            · obtain ⟨x, q1, q2, q3⟩ := key i d hd
              rw [Array.getD_eq_getD_getElem?, q1]
              exact xF.mono hmono q3
    obtain ⟨D', hD', hm1, hm2⟩ := key
    have hargs : Args w D' (xs.map a.eval) ds := ⟨vR.trans hz.len, hz.rep hm1 hm2 vR hrep⟩
    refine fK hrun ((hf.run w D' _ hD' hargs).mono fun e w' h => ?_)
    obtain ⟨v, D2, he, h1, h2, h3⟩ := h
    refine ⟨v, he, v, D, rfl, h1, ⟨fun _ _ _ h => h, fun _ _ _ h => .inl h⟩, ?_⟩
    rw [xP h3]
    exact .val u
def OPost (w : World) (D : uT) (T s n : Nat) (es : List kY) (e : Ending) (w' : World) : Prop :=
  ∃ v D' b cap vs, e = .returned v ∧ Below w.heap.size w w' ∧ DUp D D' w w' ∧ w.heap.size ≤ b ∧ (∀ t o, ¬ D' t b o) ∧ v = .slice (some ⟨b, 0, none⟩) n cap ∧ w'.heap[b]? = some (.cells vs T (0, 0)) ∧ vs.size = cap * s ∧ n ≤ cap ∧ cap ≤ maxLen ∧ es.length ≤ vs.size ∧
    (∀ (i : Nat) d, es[i]? = some d → ∃ u, vs[i]? = some u ∧ u.oneCell' = true ∧ xF w' D' u d)
structure TakesO (P : Program) (f : FuncId) (ds : List kY) (T s n : Nat) (es : List kY) : Prop where
  may : callB P f = true
  run : ∀ (w : World) (D : uT) (vs : List Value), DOk D w → Args w D vs ds → Calls P f vs.toArray w (OPost w D T s n es)
theorem n_own {y : Operand} {xs : List Operand} {ats : Array TypeId} {f : FuncId} {ds es : List kY} {T s n : Nat} {cs : List SV} (k : Nat) (hf : TakesO P f ds T s n es) (ho : o.op = .call { callee := .value y, args := xs.toArray, argTypes := ats }) (hy : ev S y = .d (.val (.func (.func f) #[] #[]))) (hx : xs.map (ev S) = ds.map .d) (hc : es.map .d = cs) : NOk P o S k cs (.own k T s n) :=
  fun a w D β Q hop hD => by
    subst hc
    have hyv := hop y (by simp [ho, Op.operands, Call.operands])
    rw [hy] at hyv
    have hyv' := xP hyv
    have hargs : Args w D (xs.map a.eval) ds := by
      have hl : xs.length = ds.length := by simpa using congrArg List.length hx
      refine ⟨by simpa using hl, fun i v d hv hd => ?_⟩
      rw [List.getElem?_map, Option.map_eq_some_iff] at hv
      obtain ⟨x, hxi, rfl⟩ := hv
      have hm := hop x (by simp [ho, Op.operands, Call.operands, List.mem_of_getElem? hxi])
      have hi := congrArg (fun l : List SV => l[i]?) hx
      simp only [List.getElem?_map, hxi, hd, Option.map_some, Option.some.injEq] at hi
      rw [hi] at hm
      exact hm
    have hrun : (execOp a.eval o).run P w = .ok (.enter f (xs.map a.eval).toArray) w := by
      simp only [execOp, ho, resolve, Deferred.ofValue, hyv', Sem.run_bind, Sem.run_pure, Result.andThen_ok, invoke, Array.empty_append, Array.append_empty]
      rw [nE hf.may]
      simp
    refine fK hrun ((hf.run w D _ hD hargs).mono fun e w' h => ?_)
    obtain ⟨v, D', b, cap, vs, he, h1, h2, h3, h4, h5, h6, h7, h8, h9, h10, h11⟩ := h
    have hβ : β.set k b k = some b := by simp [vP.set]
    refine ⟨v, he, v, D', b, rfl, h1, h2, h3, zL h6, h4, .inr ⟨b, vs, T, hβ, h6, by simpa using h10, fun i x hx => ?_, h4⟩, .inr ⟨b, cap, vs, hβ, h5, h6, h7, h8, h9⟩⟩
    rw [List.getElem?_map, Option.map_eq_some_iff] at hx
    obtain ⟨d, hd, rfl⟩ := hx
    exact h11 i d hd
theorem leaves_own {a : Act} {v : Value} {w w0 : World} {fn : Func} {D D' : uT} {T s n b cap : Nat} {es : List kY} {vs : Array Value} {ds : List Deferred} (hd : DfOk w0.heap.size w ds) (hres : ∀ w', (results fn a.tmps).run P w' = .ok v w')
    (cW : Below w0.heap.size w0 w) (hup : ∀ t g o, D t g o → D' t g o) (hnew : ∀ t g o, D' t g o → D t g o ∨ w0.heap.size ≤ g) (hdok : DOk D' w) (h3 : w0.heap.size ≤ b) (h4 : ∀ t o, ¬ D' t b o) (h5 : v = .slice (some ⟨b, 0, none⟩) n cap)
    (h6 : w.heap[b]? = some (.cells vs T (0, 0))) (h7 : vs.size = cap * s) (h8 : n ≤ cap) (h9 : cap ≤ maxLen) (h10 : es.length ≤ vs.size) (h11 : ∀ (i : Nat) d, es[i]? = some d → ∃ u, vs[i]? = some u ∧ u.oneCell' = true ∧ xF w D' u d) :
    LeavesInM Fence.wide 0 P fn a.tmps (OPost w0 D T s n es) ds .returning w := by
  induction ds generalizing w with
  | nil =>
    refine ⟨v, hres w, v, D', b, cap, vs, rfl, cW, ⟨hup, fun t g o hd => ?_⟩, h3, h4, h5, h6, h7, h8, h9, h10, h11⟩
    rcases hnew t g o hd with q | q
    · exact .inl q
    · exact .inr ⟨q, hdok _ _ _ hd⟩
  | cons d ds ih =>
    cases hd with
    | cons hqb hqh h3' hr =>
      rename_i q
      have hne : b ≠ q := fun e => by subst e; rw [h6] at hqh; cases hqh
      refine ⟨by simp, .inl ⟨q, _, rfl, run_takeDeferred hqh, ih (hr.keep fun q' hq' ⟨d, hd, e⟩ => ?_) (aM cW hqb) (fun t g o hd => by simpa [World.putObj] using hdok t g o hd) ((World.putObj_heap_other hne).trans h6) (fun i d hd => ?_)⟩⟩
      · have hne : q' ≠ q := fun e' => h3' d hd (e' ▸ e)
        exact (World.putObj_heap_other hne).trans hq'
      · obtain ⟨u, e1, e2, e3⟩ := h11 i d hd
        exact ⟨u, e1, e2, aC (β := fun _ => none) (x := .d d) hqh rfl rfl e3⟩
def RetO (rs : List ResultVar) (T s n : Nat) (es : List kY) : Exit → PS → Prop
  | .ret, st => ∃ t k, rs = [.tmp t] ∧ qB st.sl t = .own k T s n ∧ ∃ cs, uJ st.bs k = some cs ∧ es.length ≤ cs.length ∧ ∀ (i : Nat) d, es[i]? = some d → cs[i]? = some (.d d)
  | .normal, st => ∃ t k, rs = [.tmp t] ∧ qB st.sl t = .own k T s n ∧ ∃ cs, uJ st.bs k = some cs ∧ es.length ≤ cs.length ∧ ∀ (i : Nat) d, es[i]? = some d → cs[i]? = some (.d d)
  | _, _ => False
theorem own_prefix {α : Type} (F : α → kY) {L L' : List α} {j : Nat} (h : L = L'.take j) : (L.map F).length ≤ (L'.map (fun g => SV.d (F g))).length ∧ ∀ (i : Nat) d, (L.map F)[i]? = some d → (L'.map (fun g => SV.d (F g)))[i]? = some (.d d) := by
  subst h
  refine ⟨by simp; omega, fun i d hd => ?_⟩
  rw [List.getElem?_map, Option.map_eq_some_iff] at hd
  obtain ⟨g, hg, rfl⟩ := hd
  have hi : i < (L'.take j).length := (List.getElem?_eq_some_iff.1 hg).1
  rw [List.length_take] at hi
  rw [List.getElem?_take_of_lt (by omega)] at hg
  rw [List.getElem?_map, hg]
  rfl
theorem fn_introO {f : FuncId} {fn : Func} {c : Code} {ds : List kY} {T s n : Nat} {es : List kY} (hf : P.funcs[f]? = some fn) (hb : fn.body = some c) (hc : callB P f = true) (hn : Nat.ble ds.length fn.ntmps = true) (hpos : 0 < n)
    (h : uY P ⟨0, fn.ntmps, none⟩ c (RetO fn.results.toList T s n es) ⟨fE ds 0, []⟩) : TakesO P f ds T s n es :=
  ⟨hc, fun w D vs hD hargs => by
    refine (callsIn_wide (n := 0)).1 (callsIn_of_wp_marks hf hb trivial ?_)
    have hle : ds.length ≤ fn.ntmps := Nat.le_of_ble_eq_true hn
    have hvl := hargs.1
    have hsim : cS ⟨w, D, w, #[], ⟨0, fn.ntmps, none⟩⟩ { tmps := vs.toArray ++ Array.replicate (fn.ntmps - vs.toArray.size) undef, defers := [] } w ⟨fE ds 0, []⟩ := by
      refine ⟨D, fun _ => none, ⟨.nil, by simp; omega, fun _ _ _ _ => rfl, fun _ _ h _ => h, fun t ht => absurd ht (Nat.not_lt_zero t), Below.refl _ _, fun _ _ _ h => h, fun _ _ _ h => .inl h, hD⟩, ⟨fun k cs hk => by simp [uJ] at hk, fun k1 k2 c1 c2 h1 => by simp [uJ] at h1⟩, fun k c hk => by simp [uJ] at hk, fun t => ?_⟩
      show vG w D _ _ (qB (fE ds 0) t)
      rw [sget_init]
      simp only [Nat.zero_le, if_true, Nat.sub_zero]
      cases hd : ds[t]? with
      | none => trivial
      | some d =>
        have ht : t < vs.length := by rw [hvl]; exact (List.getElem?_eq_some_iff.1 hd).1
        refine hargs.2 t _ d ?_ hd
        rw [Array.getD_eq_getD_getElem?, Array.getElem?_append_left (by simpa using ht)]
        simp [ht]
    refine wpIn_mono (h _ _ w 0 rfl hsim) fun e a w' ⟨st, ⟨D', β, hs⟩, hq⟩ => ?_
    have fin : (∃ t k, fn.results.toList = [.tmp t] ∧ qB st.sl t = .own k T s n ∧ ∃ cs, uJ st.bs k = some cs ∧ es.length ≤ cs.length ∧ ∀ (i : Nat) d, es[i]? = some d → cs[i]? = some (.d d)) → LeavesInM Fence.wide 0 P fn a.tmps (OPost w D T s n es) a.defers .returning w' := fun ⟨t, k, h1, h2, cs, h3, h3l, h3c⟩ => by
      have ht := hs.slots t
      rw [h2] at ht
      rcases ht with ⟨_, q, _⟩ | ⟨b, cap, vs', g1, g2, g3, g4, g5, g6⟩
      · omega
      · rcases hs.mem.ok k _ h3 with ⟨q, _⟩ | ⟨b', vs2, T2, q1, q2, q3, q4, q5⟩
        · rw [g1] at q; cases q
        · obtain rfl : b = b' := by rw [g1] at q1; injection q1
          rw [g3] at q2
          injection q2 with q2
          injection q2 with q2 qT
          subst q2; subst qT
          have hr : fn.results = #[.tmp t] := by rw [← Array.toList_inj, h1]
          refine leaves_own (a := a) hs.base.defers (fun w2 => ?_) hs.base.below hs.base.dmono hs.base.dnew hs.base.dok (hs.high k _ h3 b g1) q5 g2 g3 g4 g5 g6 (by omega) (fun i d hd => q4 i (.d d) (h3c i d hd))
          rw [results_eq, hr]
          simp [resF]
    cases e with
    | normal => exact fin hq
    | ret => exact fin hq
    | exit id => exact hq.elim
    | goto l => exact hq.elim
    | panic ch => exact hq.elim
    | outgrown => exact hq.elim⟩
end
def FrB (k : Nat) (B : BS) : Prop := (B.all fun p => (!(Nat.beq p.1 k)) && match p.2 with
    | some cs => !(zQ k cs)
    | none => true) = true
theorem frb_nil (k : Nat) : FrB k [] := rfl
theorem frb_none {k j : Nat} {B : BS} (h : Nat.beq j k = false) (hB : FrB k B) : FrB k ((j, none) :: B) := by
  unfold FrB at *
  rw [List.all_cons, hB, h]; rfl
theorem frb_cs {k j : Nat} {cs : List SV} {B : BS} (h : Nat.beq j k = false) (hc : zQ k cs = false) (hB : FrB k B) : FrB k ((j, some cs) :: B) := by
  unfold FrB at *
  rw [List.all_cons, hB, h]; simp [hc]
theorem frb_map {α : Type} {k j : Nat} {f : α → kY} {l : List α} {B : BS} (h : Nat.beq j k = false) (hB : FrB k B) : FrB k ((j, some (l.map (fun g => SV.d (f g)))) :: B) := frb_cs h (dP k f l) hB
theorem frb_d {k j : Nat} {l : List kY} {B : BS} (h : Nat.beq j k = false) (hB : FrB k B) : FrB k ((j, some (l.map SV.d)) :: B) := frb_cs h (dP k id l) hB
theorem freshB_of {k : Nat} {S : SL} {B : BS} (h1 : (S.all fun p => !p.2.names k) = true) (h2 : FrB k B) : gQ k ⟨S, B⟩ = true := by
  unfold gQ
  unfold FrB at h2
  rw [h1]
  exact h2
def PJoin {α : Type} (id : Nat) (St : α → PS) (I : α → Prop) (Q : Exit → PS → Prop) : Exit → PS → Prop
  | .normal, s => ∃ y, jW s (St y) ∧ I y
  | .exit i, s => if i = id then ∃ y, jW s (St y) ∧ I y else Q (.exit i) s
  | e, s => Q e s
theorem pjoin_exit {α : Type} {id : Nat} {St : α → PS} {I : α → Prop} {Q : Exit → PS → Prop} {s : PS} (h : ∃ y, jW s (St y) ∧ I y) : PJoin id St I Q (.exit id) s := by
  show (if id = id then _ else _)
  rw [if_pos rfl]; exact h
theorem pwp_seqjoin {P : Program} {n : Fr} {Q : Exit → PS → Prop} {st : PS} {α : Type} {id : Nat} {c d : Code} (St : α → PS) (I : α → Prop) (h1 : uY P n c (PJoin id St I Q) st) (h2 : ∀ y, I y → uY P n d Q (St y)) : uY P n (.seq (.block id c) d) Q st := by
  refine jA (jE (pwp_mono h1 ?_))
  rintro e s h
  cases e with
  | normal =>
    obtain ⟨y, q1, q2⟩ := h
    exact kV q1 (h2 y q2)
  | exit i =>
    have h' : if i = id then ∃ y, jW s (St y) ∧ I y else Q (.exit i) s := h
    show if i = id then _ else _
    split
    · rename_i e; rw [if_pos e] at h'
      obtain ⟨y, q1, q2⟩ := h'
      exact kV q1 (h2 y q2)
    · rename_i e; rw [if_neg e] at h'; exact h'
  | ret => exact h
  | goto l => exact h
  | panic ch => exact h
  | outgrown => exact h
theorem e_pkfo {P : Program} {o : Oper} {S : Nat → SV} {c x y : Operand} {q : Bool} (ho : o.op = .pick c x y) (hc : ev S c = .d (.val (.bool false))) (hy : ev S y = .d (.val (.bool q))) : vO P o S [] (.d (.val (.bool (false || q)))) := by
  rw [Bool.false_or]; exact e_pkf ho hc hy
theorem e_pkta {P : Program} {o : Oper} {S : Nat → SV} {c x y : Operand} {q : Bool} (ho : o.op = .pick c x y) (hc : ev S c = .d (.val (.bool true))) (hx : ev S x = .d (.val (.bool q))) : vO P o S [] (.d (.val (.bool (true && q)))) := by
  rw [Bool.true_and]; exact e_pkt ho hc hx
section
variable {P : Program} {o : Oper} {S : Nat → SV}
theorem e_bse {T E : TypeId} {s : Nat} (ho : o.op = .buildSlice T 0 #[]) (hT : xO P T = some (E, s)) : vO P o S [] .emp :=
  fun a w D β Q hop _ hD => by
    obtain ⟨j, e1, e2, e3⟩ := mI hT
    have hrun : (execOp a.eval o).run P w = .ok (.value (.slice (some ⟨w.heap.size, 0, none⟩) 0 0)) (w.alloc (.cells #[] E)) := by
      simp only [execOp, ho, Instr.buildSlice, Sem.run_bind, run_underlying e1, Result.andThen_ok, xI e2, Nat.zero_mul, if_true, Sem.run_pure]
      rw [if_neg (by omega)]
      simp [newRow, run_newObj, Array.range_zero', Instr.fill]
    exact cT hrun ⟨_, D, rfl, ⟨rfl, rfl, rfl, by simp, fun q hq => heap_alloc_old w _ hq⟩, DUp.of_same D, ⟨_, rfl⟩⟩
theorem e_appe {T E t' : TypeId} {x y : Operand} {s bytes : Nat} {zv : List Value} {es' : List kY} (ho : o.op = .call { callee := .builtin .append, args := #[x, y], argTypes := #[T, T] })
    (hT : xO P T = some (E, s)) (hz : xC P E = some zv) (hzl : zv.length = s) (hby : nK P E = some bytes) (hx : ev S x = .emp) (hy : ev S y = .d (.sl t' s es')) (hbig : es'.length ≤ maxLen) (hbig' : es'.length * bytes ≤ 140737488355328) :
    vO P o S [] (.d (.sl t' s es')) := fun a w D β Q hop _ hD => by
  have h1 := hop x (by simp [ho, Op.operands, Call.operands])
  have h2 := hop y (by simp [ho, Op.operands, Call.operands])
  rw [hx] at h1
  rw [hy] at h2
  obtain ⟨ao0, hv⟩ := h1
  obtain ⟨ao, c, us, hyv, hcc, hul, hfl', hone, hrep, had⟩ := rep_sl_cells h2
  obtain ⟨i, z, z1, z2, z3⟩ := eM hz
  obtain ⟨j, f1, f2, f3⟩ := mI hT
  have hij : i = j := by rw [z1] at f2; injection f2
  subst hij
  have hbi : i.bytes = bytes := by
    unfold nK at hby
    rw [z1] at hby
    simpa using hby
  subst hbi
  have hzs : z.cells.size = s := by rw [z3]; simpa using hzl
  have hml : (maxLen : Int) ≤ 9223372036854775807 := by decide
  have hsl : ∀ e ∈ es', e.cells.length = s := (fun v (h : xF w D v (.sl t' s es')) => by
    cases h with
    | sl g off u hn hc hm hs ha hD hu h1 hr => exact hs : ∀ v, xF w D v (.sl t' s es') → ∀ e ∈ es', e.cells.length = s) _ h2
  by_cases hm0 : es'.length = 0
  · have hnil : es' = [] := List.eq_nil_of_length_eq_zero hm0
    subst hnil
    have hrun : (Builtin.append_ #[T, T] o.type #[a.eval x, a.eval y]).run P w = .ok (a.eval x) w := by
      rw [hyv]
      have e0 : ([] : List kY).length = 0 := rfl
      have hu0 : us = [] := List.eq_nil_of_length_eq_zero (by simpa using hul)
      rw [hv, e0]
      cases ao0 <;> cases ao with
      | none => simp [Builtin.append_, run_underlying f1, sizeOf, typeInfo, z1, Builtin.lenOf, Builtin.firstCells, storeCells]
      | some ad => simp [Builtin.append_, run_underlying f1, sizeOf, typeInfo, z1, Builtin.lenOf, Builtin.firstCells, loadCells, loadCellsFrom, storeCells]
    have hR : vG w D β (a.eval x) (.d (.sl t' s [])) := by
      rw [hv]
      exact xF.sl 0 0 (fun _ => undef) rfl (Nat.le_refl _) (Nat.zero_le _) (by simp) (fun h => absurd h (Nat.lt_irrefl 0)) (by simp [uR]) (by simp [uR]) (by simp [uR]) (by simp [uR])
    unfold Oper.wp execOp
    simp only [ho, resolve, invoke, builtin, Sem.run_bind, Sem.run_pure, Result.andThen_ok, List.map_toArray, List.map_cons, List.map_nil, hrun]
    exact ⟨_, D, rfl, Below.refl _ _, DUp.of_same D, hR⟩
  · obtain ⟨ad, rfl, hcell⟩ := had (by omega)
    have key : ∃ (G : Nat) (arr : List Value) (w' : World), (Builtin.append_ #[T, T] o.type #[a.eval x, a.eval y]).run P w = .ok (.slice (some ⟨w.heap.size, 0, none⟩) es'.length G) w' ∧ w' = w.drew.alloc (.cells (us ++ arr).toArray E) ∧ es'.length ≤ G ∧ G ≤ maxLen := by
      cases ao0 with
      | none =>
        have hbytes : es'.length * i.bytes ≤ 281474976710656 := by omega
        have hr := run_append_nil (P := P) w T o.type E i z f1 z1 z2 ad es'.length c us (by rw [hul, f3]) hcell (by omega) (by omega) hbytes
        have hge := grownCap_ge w es'.length 0 E
        have hcm := grownCap_le_maxLen w es'.length 0 E (by omega)
        generalize grownCap w es'.length 0 E = G at hr hge hcm
        exact ⟨G, (Builtin.zeroCells z.cells (G - es'.length)).toList, _, by rw [hv, hyv]; exact hr, by congr 2; apply Array.ext'; simp, hge, hcm⟩
      | some b0 =>
        have hr := run_append_grow (P := P) w T o.type E i z f1 z1 z2 b0 0 0 [] (by simp) (by simp) ad es'.length c us (by rw [hul, f3]) hcell (by omega) (by omega) (growslice_fits (by omega) (by rw [Nat.zero_add]; exact hbig'))
        rw [Nat.zero_add] at hr
        have hge := grownCap_ge w es'.length 0 E
        have hcm := grownCap_le_maxLen w es'.length 0 E (by omega)
        generalize grownCap w es'.length 0 E = G at hr hge hcm
        exact ⟨G, (Builtin.zeroCells z.cells (G - es'.length)).toList, _, by rw [hv, hyv]; exact hr, by congr 2; apply Array.ext'; simp, hge, hcm⟩
    obtain ⟨G, arr, w', hrun, hw', hge, hcm⟩ := key
    have hfl := xK hsl
    have cW : Below w.heap.size w w' := by subst hw'; exact ⟨rfl, rfl, rfl, by simp, fun q hq => heap_alloc_old w.drew _ hq⟩
    have hrow : w'.heap[w.heap.size]? = some (.cells (us ++ arr).toArray E (0, 0)) := by subst hw'; exact heap_alloc_new w.drew _
    have hcells : ∀ q, w'.cell? ⟨w.heap.size, q, none⟩ = (us ++ arr)[q]? := fun q => by rw [cell_of_row w' w.heap.size q _ E (0, 0) hrow]; simp
    have hsz : w'.heap.size = w.heap.size + 1 := by subst hw'; simp
    have hmono : ∀ t g q, D t g q → (D t g q ∨ (t = t' ∧ g = w.heap.size ∧ q < us.length)) ∧ w'.cell? ⟨g, q, none⟩ = w.cell? ⟨g, q, none⟩ := fun t g q hd => ⟨.inl hd, cI cW (hD t g q hd)⟩
    have hul2 : us.length = (uR es').length := by rw [hul, hfl]
    unfold Oper.wp execOp
    simp only [ho, resolve, invoke, builtin, Sem.run_bind, Sem.run_pure, Result.andThen_ok, List.map_toArray, List.map_cons, List.map_nil, hrun]
    refine ⟨_, fun t g q => D t g q ∨ (t = t' ∧ g = w.heap.size ∧ q < us.length), rfl, cW, ⟨fun t g q h => .inl h, fun t g q h => ?_⟩, ?_⟩
    · rcases h with h | ⟨_, h, _⟩
      · exact .inl h
      · exact .inr ⟨by omega, by omega⟩
    · refine xF.sl w.heap.size 0 (fun q => (us ++ arr).getD q undef) rfl hge hcm hsl (fun _ => rfl) (fun q hq => .inr ⟨rfl, rfl, by omega⟩) (fun q hq => ?_) (fun q hq => ?_) (fun q d hq => ?_)
      · rw [Nat.zero_add, hcells, List.getElem?_append_left (by omega)]
        simp [List.getD, List.getElem?_append_left (by omega : q < us.length), List.getElem?_eq_getElem (by omega : q < us.length)]
      · rw [List.getD, List.getElem?_append_left (by omega), List.getElem?_eq_getElem (by omega : q < us.length)]
        exact hone _ (by simp)
      · have hq' := (List.getElem?_eq_some_iff.1 hq).1
        rw [List.getD, List.getElem?_append_left (by omega), List.getElem?_eq_getElem (by omega : q < us.length)]
        exact xF.mono hmono (hrep q _ d (List.getElem?_eq_getElem (by omega)) hq)
end
abbrev fZ {α : Type} (F : α → kY) (L : List α) : List SV := (uR (L.map F)).map SV.d
theorem eL {α : Type} (F : α → kY) {s : Nat} (hF : ∀ g, (F g).cells.length = s) (L : List α) : (uR (L.map F)).length = L.length * s := by
  rw [xK (s := s) (fun e he => by
    rw [List.mem_map] at he
    obtain ⟨g, _, rfl⟩ := he
    exact hF g), List.length_map]
theorem map_celllen {α : Type} (F : α → kY) {s : Nat} (hF : ∀ g, (F g).cells.length = s) (L : List α) : ∀ e ∈ L.map F, e.cells.length = s := fun e he => by
  rw [List.mem_map] at he
  obtain ⟨g, _, rfl⟩ := he
  exact hF g
section
variable {P : Program} {n : Fr} {ops : Array Oper} {S S' : SL} {B B' : BS} {l : List Oper} {o : Oper}
theorem appP_sem {α : Type} {d : Tmp} {T E t' : TypeId} {x y : Operand} {k s m bytes : Nat} {zv : List Value} (F : α → kY) (L L' : List α) (hF : ∀ g, (F g).cells.length = s) (ho : o.op = .call { callee := .builtin .append, args := #[x, y], argTypes := #[T, T] }) (hdst : o.dst = some d) (hd : hN n (some d) = true)
    (hT : xO P T = some (E, s)) (hz : xC P E = some zv) (hzl : zv.length = s) (hby : nK P E = some bytes) (hx : ev (qB S) x = .own k E s m) (hb : uJ B k = some (fZ F L)) (hL : L.length = m) (hy : ev (qB S) y = .d (.sl t' s (L'.map F)))
    (hbig : m + L'.length ≤ maxLen) (hbig' : (m + L'.length) * bytes ≤ 140737488355328) (hB : Clr k B) (C : Ctx) (a : Act) (w : World) (Q : Exit → Act → World → Prop) (hn : C.n = n) (hs : cS C a w ⟨S, B⟩) : o.wp P a w (fun a' w' => cS C a' w' ⟨(d, .d (.sl E s ((L ++ L').map F))) :: hP k S, (k, none) :: B⟩) Q := by
  have h0 := app_sound (st := ⟨S, B⟩) (N := n) (es := L.map F) (es' := L'.map F) ho (by rw [hdst]; exact hd) hT hz hzl hby hx hb rfl (by rw [eL F hF, hL]) hy (by simpa using hbig) (by simpa using hbig') hB C a w Q hn hs
  rw [hdst] at h0
  refine Oper.wp_mono (fun a' w' h1 => ?_) h0
  have h2 := xX (st := ⟨(d, .own k E s (m + (L'.map F).length)) :: hP k S, (k, some ((uR (L.map F ++ L'.map F)).map .d)) :: B⟩) (t := d) (k := k) (s := s) (m := m + (L'.map F).length) (T := E) (cs := (uR (L.map F ++ L'.map F)).map .d) (es := (L ++ L').map F)
    (by simp [vS]) (by simp [kX]) (map_celllen F hF _) (by simp [hL]) (by rw [← List.map_append]; rw [List.take_of_length_le]; rw [List.length_map, eL F hF, List.length_append, hL, List.length_map]; exact Nat.le_refl _)
  obtain ⟨D, β, h3⟩ := h2 C a' w' h1
  refine ⟨D, β, h3.base, ⟨fun j c hj => ?_, fun j1 j2 c1 c2 q1 q2 => ?_⟩, fun j c hj => ?_, fun t => ?_⟩
  · rw [kX] at hj
    split at hj
    · cases hj
    · rename_i e; exact h3.mem.ok j c (by rw [kX, if_neg e, kX, if_neg e]; exact hj)
  · have conv : ∀ {j : Nat} {c : List SV}, uJ ((k, none) :: B) j = some c → uJ ((k, none) :: (k, some ((uR (L.map F ++ L'.map F)).map .d)) :: B) j = some c := fun {j c} hj => by
      rw [kX] at hj
      split at hj
      · cases hj
      · rename_i e; rw [kX, if_neg e, kX, if_neg e]; exact hj
    exact h3.mem.inj j1 j2 c1 c2 (conv q1) (conv q2)
  · rw [kX] at hj
    split at hj
    · cases hj
    · rename_i e; exact h3.high j c (by rw [kX, if_neg e, kX, if_neg e]; exact hj)
  · have h4 := h3.slots t
    have e1 : qB ((d, SV.d (.sl E s ((L ++ L').map F))) :: hP k S) t = qB ((d, SV.d (.sl E s ((L ++ L').map F))) :: (d, .own k E s (m + (L'.map F).length)) :: hP k S) t := by
      rw [vS, vS, vS]
      split
      · rfl
      · rfl
    show vG w' D β _ (qB ((d, SV.d (.sl E s ((L ++ L').map F))) :: hP k S) t)
    rw [e1]
    exact h4
theorem bxs_one {α : Type} (F : α → kY) (hF : ∀ g, (F g).cells = [F g]) (L : List α) : fZ F L = L.map (fun g => SV.d (F g)) := by
  unfold fZ; rw [flat_one F hF, List.map_map]; rfl
end
end Go.Fid
namespace Go.Fid
theorem cmpQ_eq {a b : Rat} : cmpQ a b = 0 ↔ a = b := by
  unfold cmpQ
  by_cases h : a < b
  · rw [if_pos h]; exact ⟨fun h3 => by omega, fun h3 => absurd h (h3 ▸ Rat.lt_irrefl)⟩
  · rw [if_neg h]
    by_cases h2 : b < a
    · rw [if_pos h2]; exact ⟨fun h3 => by omega, fun h3 => absurd h2 (h3 ▸ Rat.lt_irrefl)⟩
    · rw [if_neg h2]; exact ⟨fun _ => Rat.le_antisymm (Rat.not_lt.1 h2) (Rat.not_lt.1 h), fun _ => rfl⟩
theorem sameR_eq (x y : jV) : ((xG x && xG y) && (cmpQ (toQ x) (toQ y) == 0)) = (xG x && (xG y && decide (toQ x = toQ y))) := by
  rw [Bool.and_assoc]
  congr 2
  rw [Bool.eq_iff_iff, beq_iff_eq, decide_eq_true_eq, cmpQ_eq]
def sameR (x y : jV) : Bool := xG x && (xG y && decide (toQ x = toQ y))
theorem fW (p q : Rat) : sameR (jC p) (jC q) = decide (p = q) := by
  unfold sameR; simp only [aJ, toQ_ofQ, Bool.true_and]
end Go.Fid
namespace Go.Proofs.YtbecgnplakngdaaGreat
open Go.Fid
def jU (x : jG) : kY := .agg [.val (.bool x.neg), .sl 152 1 (x.gs.map jB)]
def jM (x : jV) : kY := .agg [.val (.bool x.num.neg), .sl 152 1 (x.num.gs.map jB), .val (.bool x.den.neg), .sl 152 1 (x.den.gs.map jB)]
structure kI where
 x : Int
 y : Int
structure qD where
 x : jV
 y : jV
def kJ (x : qD) : kY := .agg [.val (.bool x.x.num.neg), .sl 152 1 (x.x.num.gs.map jB), .val (.bool x.x.den.neg), .sl 152 1 (x.x.den.gs.map jB), .val (.bool x.y.num.neg), .sl 152 1 (x.y.num.gs.map jB), .val (.bool x.y.den.neg), .sl 152 1 (x.y.den.gs.map jB)]
structure jL where
 x : Int
 y : Int
 z : Int
def qE (x : jL) : kY := .agg [.val (.int .i64 x.x), .val (.int .i64 x.y), .val (.int .i64 x.z)]
structure jO where
 a : Int
 b : Int
 c : Int
 d : Int
def qX (x : jO) : kY := .agg [.val (.int .i64 x.a), .val (.int .i64 x.b), .val (.int .i64 x.c), .val (.int .i64 x.d)]
structure kH where
 at_ : jL
 turn : jO
 focal : Int
 centre : kI
def uX (x : kH) : kY := .agg [.val (.int .i64 x.at_.x), .val (.int .i64 x.at_.y), .val (.int .i64 x.at_.z), .val (.int .i64 x.turn.a), .val (.int .i64 x.turn.b), .val (.int .i64 x.turn.c), .val (.int .i64 x.turn.d), .val (.int .i64 x.focal), .val (.int .i64 x.centre.x), .val (.int .i64 x.centre.y)]
structure kT where
 left : kH
 right : kH
def qA (x : kT) : kY := .agg [.val (.int .i64 x.left.at_.x), .val (.int .i64 x.left.at_.y), .val (.int .i64 x.left.at_.z), .val (.int .i64 x.left.turn.a), .val (.int .i64 x.left.turn.b), .val (.int .i64 x.left.turn.c), .val (.int .i64 x.left.turn.d), .val (.int .i64 x.left.focal), .val (.int .i64 x.left.centre.x), .val (.int .i64 x.left.centre.y), .val (.int .i64 x.right.at_.x), .val (.int .i64 x.right.at_.y), .val (.int .i64 x.right.at_.z), .val (.int .i64 x.right.turn.a), .val (.int .i64 x.right.turn.b), .val (.int .i64 x.right.turn.c), .val (.int .i64 x.right.turn.d), .val (.int .i64 x.right.focal), .val (.int .i64 x.right.centre.x), .val (.int .i64 x.right.centre.y)]
structure A3 (α : Type) where
 a0 : α
 a1 : α
 a2 : α
structure A4 (α : Type) where
 a0 : α
 a1 : α
 a2 : α
 a3 : α
def jN (x : A3 (jV)) : kY := .agg [.val (.bool x.a0.num.neg), .sl 152 1 (x.a0.num.gs.map jB), .val (.bool x.a0.den.neg), .sl 152 1 (x.a0.den.gs.map jB), .val (.bool x.a1.num.neg), .sl 152 1 (x.a1.num.gs.map jB), .val (.bool x.a1.den.neg), .sl 152 1 (x.a1.den.gs.map jB), .val (.bool x.a2.num.neg), .sl 152 1 (x.a2.num.gs.map jB), .val (.bool x.a2.den.neg), .sl 152 1 (x.a2.den.gs.map jB)]
def cD (x : A3 (A3 (jV))) : kY := .agg [.val (.bool x.a0.a0.num.neg), .sl 152 1 (x.a0.a0.num.gs.map jB), .val (.bool x.a0.a0.den.neg), .sl 152 1 (x.a0.a0.den.gs.map jB), .val (.bool x.a0.a1.num.neg), .sl 152 1 (x.a0.a1.num.gs.map jB), .val (.bool x.a0.a1.den.neg), .sl 152 1 (x.a0.a1.den.gs.map jB), .val (.bool x.a0.a2.num.neg), .sl 152 1 (x.a0.a2.num.gs.map jB), .val (.bool x.a0.a2.den.neg), .sl 152 1 (x.a0.a2.den.gs.map jB), .val (.bool x.a1.a0.num.neg), .sl 152 1 (x.a1.a0.num.gs.map jB), .val (.bool x.a1.a0.den.neg), .sl 152 1 (x.a1.a0.den.gs.map jB), .val (.bool x.a1.a1.num.neg), .sl 152 1 (x.a1.a1.num.gs.map jB), .val (.bool x.a1.a1.den.neg), .sl 152 1 (x.a1.a1.den.gs.map jB), .val (.bool x.a1.a2.num.neg), .sl 152 1 (x.a1.a2.num.gs.map jB), .val (.bool x.a1.a2.den.neg), .sl 152 1 (x.a1.a2.den.gs.map jB), .val (.bool x.a2.a0.num.neg), .sl 152 1 (x.a2.a0.num.gs.map jB), .val (.bool x.a2.a0.den.neg), .sl 152 1 (x.a2.a0.den.gs.map jB), .val (.bool x.a2.a1.num.neg), .sl 152 1 (x.a2.a1.num.gs.map jB), .val (.bool x.a2.a1.den.neg), .sl 152 1 (x.a2.a1.den.gs.map jB), .val (.bool x.a2.a2.num.neg), .sl 152 1 (x.a2.a2.num.gs.map jB), .val (.bool x.a2.a2.den.neg), .sl 152 1 (x.a2.a2.den.gs.map jB)]
def qH (x : A3 (A3 (jV))) : kY := .agg [.val (.bool x.a0.a0.num.neg), .sl 152 1 (x.a0.a0.num.gs.map jB), .val (.bool x.a0.a0.den.neg), .sl 152 1 (x.a0.a0.den.gs.map jB), .val (.bool x.a0.a1.num.neg), .sl 152 1 (x.a0.a1.num.gs.map jB), .val (.bool x.a0.a1.den.neg), .sl 152 1 (x.a0.a1.den.gs.map jB), .val (.bool x.a0.a2.num.neg), .sl 152 1 (x.a0.a2.num.gs.map jB), .val (.bool x.a0.a2.den.neg), .sl 152 1 (x.a0.a2.den.gs.map jB), .val (.bool x.a1.a0.num.neg), .sl 152 1 (x.a1.a0.num.gs.map jB), .val (.bool x.a1.a0.den.neg), .sl 152 1 (x.a1.a0.den.gs.map jB), .val (.bool x.a1.a1.num.neg), .sl 152 1 (x.a1.a1.num.gs.map jB), .val (.bool x.a1.a1.den.neg), .sl 152 1 (x.a1.a1.den.gs.map jB), .val (.bool x.a1.a2.num.neg), .sl 152 1 (x.a1.a2.num.gs.map jB), .val (.bool x.a1.a2.den.neg), .sl 152 1 (x.a1.a2.den.gs.map jB), .val (.bool x.a2.a0.num.neg), .sl 152 1 (x.a2.a0.num.gs.map jB), .val (.bool x.a2.a0.den.neg), .sl 152 1 (x.a2.a0.den.gs.map jB), .val (.bool x.a2.a1.num.neg), .sl 152 1 (x.a2.a1.num.gs.map jB), .val (.bool x.a2.a1.den.neg), .sl 152 1 (x.a2.a1.den.gs.map jB), .val (.bool x.a2.a2.num.neg), .sl 152 1 (x.a2.a2.num.gs.map jB), .val (.bool x.a2.a2.den.neg), .sl 152 1 (x.a2.a2.den.gs.map jB)]
def encA203 (x : A3 (Int)) : kY := .agg [.val (.int .i64 x.a0), .val (.int .i64 x.a1), .val (.int .i64 x.a2)]
def encA204 (x : A3 (A3 (Int))) : kY := .agg [.val (.int .i64 x.a0.a0), .val (.int .i64 x.a0.a1), .val (.int .i64 x.a0.a2), .val (.int .i64 x.a1.a0), .val (.int .i64 x.a1.a1), .val (.int .i64 x.a1.a2), .val (.int .i64 x.a2.a0), .val (.int .i64 x.a2.a1), .val (.int .i64 x.a2.a2)]
def eJ (x : A4 (Int)) : kY := .agg [.val (.int .i64 x.a0), .val (.int .i64 x.a1), .val (.int .i64 x.a2), .val (.int .i64 x.a3)]
structure RRp where
 left : kH
 right : kH
 base : A3 (jV)
 axes : A3 (A3 (jV))
def cU (x : RRp) : kY := .agg [.val (.int .i64 x.left.at_.x), .val (.int .i64 x.left.at_.y), .val (.int .i64 x.left.at_.z), .val (.int .i64 x.left.turn.a), .val (.int .i64 x.left.turn.b), .val (.int .i64 x.left.turn.c), .val (.int .i64 x.left.turn.d), .val (.int .i64 x.left.focal), .val (.int .i64 x.left.centre.x), .val (.int .i64 x.left.centre.y), .val (.int .i64 x.right.at_.x), .val (.int .i64 x.right.at_.y), .val (.int .i64 x.right.at_.z), .val (.int .i64 x.right.turn.a), .val (.int .i64 x.right.turn.b), .val (.int .i64 x.right.turn.c), .val (.int .i64 x.right.turn.d), .val (.int .i64 x.right.focal), .val (.int .i64 x.right.centre.x), .val (.int .i64 x.right.centre.y), .val (.bool x.base.a0.num.neg), .sl 152 1 (x.base.a0.num.gs.map jB), .val (.bool x.base.a0.den.neg), .sl 152 1 (x.base.a0.den.gs.map jB), .val (.bool x.base.a1.num.neg), .sl 152 1 (x.base.a1.num.gs.map jB), .val (.bool x.base.a1.den.neg), .sl 152 1 (x.base.a1.den.gs.map jB), .val (.bool x.base.a2.num.neg), .sl 152 1 (x.base.a2.num.gs.map jB), .val (.bool x.base.a2.den.neg), .sl 152 1 (x.base.a2.den.gs.map jB), .val (.bool x.axes.a0.a0.num.neg), .sl 152 1 (x.axes.a0.a0.num.gs.map jB), .val (.bool x.axes.a0.a0.den.neg), .sl 152 1 (x.axes.a0.a0.den.gs.map jB), .val (.bool x.axes.a0.a1.num.neg), .sl 152 1 (x.axes.a0.a1.num.gs.map jB), .val (.bool x.axes.a0.a1.den.neg), .sl 152 1 (x.axes.a0.a1.den.gs.map jB), .val (.bool x.axes.a0.a2.num.neg), .sl 152 1 (x.axes.a0.a2.num.gs.map jB), .val (.bool x.axes.a0.a2.den.neg), .sl 152 1 (x.axes.a0.a2.den.gs.map jB), .val (.bool x.axes.a1.a0.num.neg), .sl 152 1 (x.axes.a1.a0.num.gs.map jB), .val (.bool x.axes.a1.a0.den.neg), .sl 152 1 (x.axes.a1.a0.den.gs.map jB), .val (.bool x.axes.a1.a1.num.neg), .sl 152 1 (x.axes.a1.a1.num.gs.map jB), .val (.bool x.axes.a1.a1.den.neg), .sl 152 1 (x.axes.a1.a1.den.gs.map jB), .val (.bool x.axes.a1.a2.num.neg), .sl 152 1 (x.axes.a1.a2.num.gs.map jB), .val (.bool x.axes.a1.a2.den.neg), .sl 152 1 (x.axes.a1.a2.den.gs.map jB), .val (.bool x.axes.a2.a0.num.neg), .sl 152 1 (x.axes.a2.a0.num.gs.map jB), .val (.bool x.axes.a2.a0.den.neg), .sl 152 1 (x.axes.a2.a0.den.gs.map jB), .val (.bool x.axes.a2.a1.num.neg), .sl 152 1 (x.axes.a2.a1.num.gs.map jB), .val (.bool x.axes.a2.a1.den.neg), .sl 152 1 (x.axes.a2.a1.den.gs.map jB), .val (.bool x.axes.a2.a2.num.neg), .sl 152 1 (x.axes.a2.a2.num.gs.map jB), .val (.bool x.axes.a2.a2.den.neg), .sl 152 1 (x.axes.a2.a2.den.gs.map jB)]
structure RLp where
 s : kT
 base : A3 (jV)
 e : A3 (A3 (jV))
def nH (x : RLp) : kY := .agg [.val (.int .i64 x.s.left.at_.x), .val (.int .i64 x.s.left.at_.y), .val (.int .i64 x.s.left.at_.z), .val (.int .i64 x.s.left.turn.a), .val (.int .i64 x.s.left.turn.b), .val (.int .i64 x.s.left.turn.c), .val (.int .i64 x.s.left.turn.d), .val (.int .i64 x.s.left.focal), .val (.int .i64 x.s.left.centre.x), .val (.int .i64 x.s.left.centre.y), .val (.int .i64 x.s.right.at_.x), .val (.int .i64 x.s.right.at_.y), .val (.int .i64 x.s.right.at_.z), .val (.int .i64 x.s.right.turn.a), .val (.int .i64 x.s.right.turn.b), .val (.int .i64 x.s.right.turn.c), .val (.int .i64 x.s.right.turn.d), .val (.int .i64 x.s.right.focal), .val (.int .i64 x.s.right.centre.x), .val (.int .i64 x.s.right.centre.y), .val (.bool x.base.a0.num.neg), .sl 152 1 (x.base.a0.num.gs.map jB), .val (.bool x.base.a0.den.neg), .sl 152 1 (x.base.a0.den.gs.map jB), .val (.bool x.base.a1.num.neg), .sl 152 1 (x.base.a1.num.gs.map jB), .val (.bool x.base.a1.den.neg), .sl 152 1 (x.base.a1.den.gs.map jB), .val (.bool x.base.a2.num.neg), .sl 152 1 (x.base.a2.num.gs.map jB), .val (.bool x.base.a2.den.neg), .sl 152 1 (x.base.a2.den.gs.map jB), .val (.bool x.e.a0.a0.num.neg), .sl 152 1 (x.e.a0.a0.num.gs.map jB), .val (.bool x.e.a0.a0.den.neg), .sl 152 1 (x.e.a0.a0.den.gs.map jB), .val (.bool x.e.a0.a1.num.neg), .sl 152 1 (x.e.a0.a1.num.gs.map jB), .val (.bool x.e.a0.a1.den.neg), .sl 152 1 (x.e.a0.a1.den.gs.map jB), .val (.bool x.e.a0.a2.num.neg), .sl 152 1 (x.e.a0.a2.num.gs.map jB), .val (.bool x.e.a0.a2.den.neg), .sl 152 1 (x.e.a0.a2.den.gs.map jB), .val (.bool x.e.a1.a0.num.neg), .sl 152 1 (x.e.a1.a0.num.gs.map jB), .val (.bool x.e.a1.a0.den.neg), .sl 152 1 (x.e.a1.a0.den.gs.map jB), .val (.bool x.e.a1.a1.num.neg), .sl 152 1 (x.e.a1.a1.num.gs.map jB), .val (.bool x.e.a1.a1.den.neg), .sl 152 1 (x.e.a1.a1.den.gs.map jB), .val (.bool x.e.a1.a2.num.neg), .sl 152 1 (x.e.a1.a2.num.gs.map jB), .val (.bool x.e.a1.a2.den.neg), .sl 152 1 (x.e.a1.a2.den.gs.map jB), .val (.bool x.e.a2.a0.num.neg), .sl 152 1 (x.e.a2.a0.num.gs.map jB), .val (.bool x.e.a2.a0.den.neg), .sl 152 1 (x.e.a2.a0.den.gs.map jB), .val (.bool x.e.a2.a1.num.neg), .sl 152 1 (x.e.a2.a1.num.gs.map jB), .val (.bool x.e.a2.a1.den.neg), .sl 152 1 (x.e.a2.a1.den.gs.map jB), .val (.bool x.e.a2.a2.num.neg), .sl 152 1 (x.e.a2.a2.num.gs.map jB), .val (.bool x.e.a2.a2.den.neg), .sl 152 1 (x.e.a2.a2.den.gs.map jB)]
def kR (l : List (jV)) : kY := .sl 42 4 (l.map jM)
def fJ (l : List (Int)) : kY := .sl 3 1 (l.map vL)
end Go.Proofs.YtbecgnplakngdaaGreat
namespace Go.Proofs.YtbecgnplakngdaaGreat
open Go.Fid
theorem mo : Tryz.prog.follows .mixedOrders = true := by kernel_rfl
end Go.Proofs.YtbecgnplakngdaaGreat
set_option linter.unusedVariables false
namespace Go.Fid
abbrev vi (z : Int) : SV := .d (.val (.int .i64 z))
abbrev kE (n : Nat) : SV := .d (.val (.int .i64 (n : Int)))
abbrev yY (n : Nat) : SV := .d (.val (.int .u64 (n : Int)))
abbrev eE (n : Nat) : SV := .d (.val (.int .u32 (n : Int)))
abbrev vb (b : Bool) : SV := .d (.val (.bool b))
abbrev vl {α : Type} (E z : Nat) (F : α → kY) (L : List α) : SV := .d (.sl E z (L.map F))
abbrev bm {α : Type} (F : α → kY) (L : List α) : List SV := L.map (fun g => SV.d (F g))
section
variable {P : Program} {n : Fr} {ops : Array Oper} {S S' : SL} {B B' : BS} {l : List Oper} {o : Oper} {news : List Nat} {acc0 : List (List Nat × List Nat)}
end
theorem fillL_all {s : Nat} : ∀ (ds : List kY) (k : Nat) (a z : List kY), a.length = k * s → z.length = ds.length * s → (∀ d ∈ ds, d.cells.length = s) →
    dE (fun i => some (i * s, s)) (a ++ z) ((ds.zipIdx k).map fun p => (p.2, p.1.cells)) = some (a ++ uR ds)
  | [], k, a, z, ha, hz, _ => by
    have : z = [] := List.eq_nil_of_length_eq_zero (by simpa using hz)
    subst this; simp [dE, uR]
  | d :: ds, k, a, z, ha, hz, hs => by
    have hd := hs d (by simp)
    have hz' : z.length = s + ds.length * s := by rw [hz, List.length_cons, Nat.add_mul]; omega
    rw [List.zipIdx_cons, List.map_cons]
    simp only [dE]
    have h1 : (Nat.beq d.cells.length s && Nat.ble (k * s + d.cells.length) (a ++ z).length) = true := by
      rw [Bool.and_eq_true]
      refine ⟨by rw [hd]; exact Nat.beq_refl s, Nat.ble_eq_true_of_le ?_⟩
      rw [List.length_append, ha, hd]; omega
    rw [h1, cond_true]
    have h2 : patch (a ++ z) (k * s) d.cells = (a ++ d.cells) ++ z.drop s := by
      unfold patch
      rw [← ha, List.take_left, hd]
      congr 1
      rw [List.drop_append, List.drop_of_length_le (by omega), List.nil_append]
      congr 1; omega
    rw [h2, fillL_all ds (k + 1) (a ++ d.cells) (z.drop s) (by rw [List.length_append, ha, hd, Nat.add_mul]; omega) (by rw [List.length_drop]; omega) (fun x hx => hs x (by simp [hx])), dT, List.append_assoc]
theorem e_bldF {P : Program} {o : Oper} {S : Nat → SV} {T E : TypeId} {n s : Nat} {ps : List (Nat × Operand)} {ds : List kY} {zv : List Value} {zd : List kY} {y : kY} (ho : o.op = .build T ps.toArray) (hT : cX P T = some (n, E, s)) (hz : xC P T = some zv) (hzd : nV zv zd)
    (hps : ps.map (fun p => (p.1, ev S p.2)) = ds.zipIdx.map (fun p => (p.2, .d p.1))) (hok : ds.all (fun d => d.ok1) = true) (hs : ds.all (fun d => Nat.beq d.cells.length s) = true) (hl : Nat.beq zd.length (ds.length * s) = true) (hy : kY.agg (uR ds) = y) : vO P o S [] (.d y) := by
  subst hy
  refine e_build_arr (pd := ds.zipIdx.map fun p => (p.2, p.1)) ho hT hz hzd (by rw [hps, List.map_map]; rfl) ?_ ?_
  · rw [List.all_eq_true] at hok ⊢
    intro p hp
    obtain ⟨q, hq, rfl⟩ := List.mem_map.1 hp
    exact hok _ (List.fst_mem_of_mem_zipIdx hq)
  · have := fillL_all ds 0 [] zd (by simp) (Nat.eq_of_beq_eq_true hl) (fun d hd => Nat.eq_of_beq_eq_true (List.all_eq_true.1 hs d hd))
    rw [List.map_map]
    rw [List.nil_append, List.nil_append] at this
    exact this
theorem gD {α : Type} {s : Nat} (F : α → kY) (L : List α) (hF : ∀ g, (F g).cells.length = s) : ∀ e ∈ L.map F, e.cells.length = s := by
  intro e he
  obtain ⟨g, _, rfl⟩ := List.mem_map.1 he
  exact hF g
theorem dS {α : Type} {s : Nat} (F : α → kY) (L : List α) (hF : ∀ g, (F g).cells.length = s) {m : Nat} (h : L.length = m) : (fZ F L).take (m * s) = (uR (L.map F)).map .d := by
  refine List.take_of_length_le ?_
  rw [List.length_map, eL F hF, h]
  exact Nat.le_refl _
end Go.Fid
set_option linter.unusedVariables false
set_option linter.unusedSimpArgs false
namespace Go.Fid
open Go.RowKit (Below)
def eN (P : Program) (n : Fr) (c : Code) (Q : Exit → PS → Prop) : Nat → PS → Prop
  | 0, _ => False
  | m + 1, st => uY P n c (PThen (eN P n c Q m) Q) st
theorem kW {P : Program} {n : Fr} {c : Code} {Q : Exit → PS → Prop} {st : PS} (m : Nat) (h : eN P n c Q m st) : uY P n (.loop c) Q st := fun C a w N hn hs => by
  refine wpIn_loop_rounds m ?_
  have key : ∀ m st a w, cS C a w st → eN P n c Q m st → Code.roundsIn (fen n) N P c (fun e a' w' => ∃ st', cS C a' w' st' ∧ Q e st') m a w := by
    intro m
    induction m with
    | zero => intro st a w _ h; exact h.elim
    | succ m ih =>
      intro st a w hs h
      refine wpIn_mono (h C a w N hn hs) fun e a' w' ⟨s, h1, h2⟩ => ?_
      cases e with
      | normal => exact ih s a' w' h1 h2
      | _ => exact ⟨s, h1, h2⟩
  exact key m st a w hs h
theorem qC {P : Program} {n : Fr} {c : Code} {Q : Exit → PS → Prop} {st : PS} {m : Nat} (h : uY P n c (PThen (eN P n c Q m) Q) st) : eN P n c Q (m + 1) st := h
theorem jJ {P : Program} {n : Fr} {c : Code} {Q : Exit → PS → Prop} {s st : PS} {m : Nat} (hw : jW s st) (h : uY P n c (PThen (eN P n c Q m) Q) st) : PThen (eN P n c Q (m + 1)) Q .normal s :=
  show uY P n c (PThen (eN P n c Q m) Q) s from fun C a w N hn hs => h C a w N hn (hw C a w hs)
section
variable {P : Program} {o : Oper} {S : Nat → SV}
theorem run_sliceArr {T E : TypeId} {n s : Nat} (hT : cX P T = some (n, E, s)) (hn : 0 < n) (w : World) (b q : Nat) : (Instr.sliceAt T (.pointer (some ⟨b, q, none⟩)) none none none).run P w = .ok (.slice (some ⟨b, q, none⟩) n n) w := by
  obtain ⟨j, e1, e2, e3⟩ := arr_of hT
  have hne : ¬ n = 0 := by omega
  simp [Instr.sliceAt, run_underlying e1, Instr.sliceBounds, xI e2, Instr.sureAddr, Addr.add_lit, hne]
theorem e_slv {T E : TypeId} {x : Operand} {k q n s : Nat} (ho : o.op = .slice T x none none none) (hT : cX P T = some (n, E, s)) (hx : ev S x = .ref k q) (hn : Nat.blt 0 n = true) (hm : Nat.ble n maxLen = true) : vO P o S [] (.view k q n) :=
  vO.same fun a w D β hop _ => by
    have hp := hop x (by simp [ho, Op.operands])
    rw [hx] at hp
    obtain ⟨b, h1, h2⟩ := hp
    have hn' : 0 < n := Nat.le_of_ble_eq_true hn
    refine ⟨.slice (some ⟨b, q, none⟩) n n, ?_, b, n, h1, rfl, Nat.le_refl _, Nat.le_of_ble_eq_true hm⟩
    simp [execOp, ho, h2, run_sliceArr hT hn']
theorem e_nckr {x : Operand} {k q : Nat} (ho : o.op = .nilCheck x) (hx : ev S x = .ref k q) : vO P o S [] (.ref k q) :=
  vO.same fun a' w D β hop _ => by
    have hp := hop x (by simp [ho, Op.operands])
    rw [hx] at hp
    obtain ⟨b, h1, h2⟩ := hp
    exact ⟨.pointer (some ⟨b, q, none⟩), by simp [execOp, ho, h2], b, h1, rfl⟩
theorem e_sap {T E : TypeId} {x : Operand} {t s n z : Nat} {es : List kY} {cs : List kY} (ho : o.op = .sliceToArrayPointer T x) (hT : cX P T = some (n, E, z)) (hx : ev S x = .d (.sl t s es)) (hn : Nat.blt 0 n = true) (hl : es.length = n) (hc : uR es = cs) : vO P o S [] (.d (.cptr t cs 0)) :=
  vO.same fun a w D β hop _ => by
    have hp := hop x (by simp [ho, Op.operands])
    rw [hx] at hp
    obtain ⟨j, e1, e2, e3⟩ := arr_of hT
    have hn' : 0 < n := Nat.le_of_ble_eq_true hn
    subst hc
    generalize hvv : a.eval x = v at hp
    cases hp with
    | sl g off u hnn hcp hm hs ha hD hu h1 hr =>
      rename_i ao m cap
      have hm' : m = n := by omega
      have ha' := ha (by omega)
      subst ha'
      have hlt : ¬ m < n := by omega
      exact ⟨.pointer (some ⟨g, off + 0, none⟩), by simp [execOp, ho, hvv, Instr.arrayAt, run_underlying e1, hlt], .cptr (off := 0) g off u hD hu h1 hr⟩
theorem e_ixa {T E : TypeId} {x ix : Operand} {n s sz : Nat} {agg : Bool} {k : IntKind} {i : Int} {j : Nat} {cs : List kY} {y : SV} (ho : o.op = .index T x ix) (hx : ev S x = .d (.agg cs)) (hT : cX P T = some (n, E, s)) (hs : qY P E = some (agg, sz)) (h1 : agg = false → sz = 1)
    (hi : ev S ix = .d (.val (.int k i))) (hj : i = (j : Int)) (hn : Nat.blt j n = true) (hle : Nat.ble (j * s + sz) cs.length = true) (hy : gF agg (((cs.drop (j * s)).take sz).map .d) = y) : vO P o S [] y := by
  subst hj
  have hn' : j < n := Nat.le_of_ble_eq_true hn
  have h := e_index_arr (P := P) (i := (j : Int)) (k := k) ho hx hT hs h1 hi (by omega) (by omega) (by simpa using Nat.le_of_ble_eq_true hle)
  rw [show ((j : Int)).toNat = j from rfl] at h
  exact hy ▸ h
inductive gV (E : TypeId) : kY → Prop
  | val (v : Value) : gV E (.val v)
  | sl {t : TypeId} {s : Nat} {es : List kY} (h : t ≠ E) (hs : ∀ (i : Nat) d, (uR es)[i]? = some d → gV E d) : gV E (.sl t s es)
  | agg {cs : List kY} (hs : ∀ (i : Nat) d, cs[i]? = some d → gV E d) : gV E (.agg cs)
  | tup {cs : List kY} (hs : ∀ (i : Nat) d, cs[i]? = some d → gV E d) : gV E (.tup cs)
  | cptr {t : TypeId} {cs : List kY} {off : Nat} (h : t ≠ E) (hs : ∀ (i : Nat) d, cs[i]? = some d → gV E d) : gV E (.cptr t cs off)
theorem avo_nil {E : TypeId} : ∀ (i : Nat) d, ([] : List kY)[i]? = some d → gV E d := fun i d h => by simp at h
theorem cQ {E : TypeId} {x : kY} {l : List kY} (h : gV E x) (hl : ∀ (i : Nat) d, l[i]? = some d → gV E d) : ∀ (i : Nat) d, (x :: l)[i]? = some d → gV E d := fun i d hd => by
  rcases i with _ | i
  · simp at hd; subst hd; exact h
  · exact hl i d (by simpa using hd)
theorem avo_vals {α : Type} {E t : TypeId} {s : Nat} {F : α → Value} (h : t ≠ E) (l : List α) : gV E (.sl t s (l.map fun x => kY.val (F x))) :=
  .sl h (fun i d hd => by
    have : d ∈ uR (l.map fun x => kY.val (F x)) := List.mem_of_getElem? hd
    simp only [uR, List.mem_flatMap, List.mem_map] at this
    obtain ⟨x, ⟨y, _, rfl⟩, hx⟩ := this
    simp only [kY.cells, List.mem_singleton] at hx
    subst hx; exact .val _)
theorem gV.rep {E : TypeId} {w : World} {D D' : uT} (hk : ∀ t g o, t ≠ E → D t g o → D' t g o) {v : Value} {r : kY} (ha : gV E r) (h : xF w D v r) : xF w D' v r := by
  induction h with
  | val v => exact .val v
  | sl g off u hn hc hm hs hao hD hu h1 hr ih =>
    cases ha with
    | sl hne has => exact .sl g off u hn hc hm hs hao (fun i hi => hk _ _ _ hne (hD i hi)) hu h1 (fun i d hd => ih i d hd (has i d hd))
  | agg vs hl h1 hr ih =>
    cases ha with
    | agg has => exact .agg vs hl h1 (fun i v d hv hd => ih i v d hv hd (has i d hd))
  | tup vs hl hr ih =>
    cases ha with
    | tup has => exact .tup vs hl (fun i v d hv hd => ih i v d hv hd (has i d hd))
  | cptr g o u hD hu h1 hr ih =>
    cases ha with
    | cptr hne has => exact .cptr g o u (fun i hi => hk _ _ _ hne (hD i hi)) hu h1 (fun i d hd => ih i d hd (has i d hd))
inductive mJ (k : Nat) (E : TypeId) (s q m : Nat) (es : List kY) : List SV → List kY → Prop
  | nil : mJ k E s q m es [] []
  | d {x : kY} {zs : List SV} {ds : List kY} (h : mJ k E s q m es zs ds) : mJ k E s q m es (.d x :: zs) (x :: ds)
  | v {zs : List SV} {ds : List kY} (h : mJ k E s q m es zs ds) : mJ k E s q m es (.view k q m :: zs) (.sl E s es :: ds)
theorem mJ.len {k E s q m : Nat} {es : List kY} {zs : List SV} {ds : List kY} (h : mJ k E s q m es zs ds) : zs.length = ds.length := by
  induction h with
  | nil => rfl
  | d h ih => simp [ih]
  | v h ih => simp [ih]
theorem mJ.rep {k E s q m : Nat} {es : List kY} {w : World} {D D' : uT} {β : vP} (h1 : ∀ v x, xF w D v x → xF w D' v x) (h2 : ∀ v, vG w D β v (.view k q m) → xF w D' v (.sl E s es)) {zs : List SV} {ds : List kY} (h : mJ k E s q m es zs ds) :
    ∀ {vs : List Value}, vs.length = zs.length → (∀ (i : Nat) v x, vs[i]? = some v → zs[i]? = some x → vG w D β v x) → ∀ (i : Nat) v d, vs[i]? = some v → ds[i]? = some d → xF w D' v d := by
  induction h with
  | nil => intro vs _ _ i v d _ hd; simp at hd
  | d h ih =>
    intro vs hl hr i v d' hv hd
    rcases vs with _ | ⟨v0, vs⟩
    · simp at hl
    · rcases i with _ | i
      · simp at hv hd; subst hv; subst hd; exact h1 _ _ (hr 0 _ _ rfl rfl)
      · exact ih (by simpa using hl) (fun i v x h3 h4 => hr (i + 1) v x (by simpa using h3) (by simpa using h4)) i v d' (by simpa using hv) (by simpa using hd)
  | v h ih =>
    intro vs hl hr i v d' hv hd
    rcases vs with _ | ⟨v0, vs⟩
    · simp at hl
    · rcases i with _ | i
      · simp at hv hd; subst hv; subst hd; exact h2 _ (hr 0 _ _ rfl rfl)
      · exact ih (by simpa using hl) (fun i v x h3 h4 => hr (i + 1) v x (by simpa using h3) (by simpa using h4)) i v d' (by simpa using hv) (by simpa using hd)
end
end Go.Fid
