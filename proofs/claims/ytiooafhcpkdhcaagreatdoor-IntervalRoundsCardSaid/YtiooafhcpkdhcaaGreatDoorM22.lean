/- Part 22 of a proof: rules, plain facts, and functions walked. -/
import Derived.Test.YtiooafhcpkdhcaaGreatDoorM21
import Derived.Test.YtiooafhcpkdhcaaGreatDoorM20
set_option linter.unusedVariables false
set_option linter.unusedSimpArgs false
namespace Go.Fid
def pwS (n i : Nat) : Nat := 2 ^ (n / 2 ^ (13 - i))
theorem pwS_0 {n : Nat} (h : n ≤ 4096) : [1] = ofNat (pwS n 0) := by
  have e : n / 2 ^ (13 - 0) = 0 := Nat.div_eq_of_lt (by show n < 8192; omega)
  unfold pwS; rw [e, Nat.pow_zero, ofNat_pos (by decide)]
  have : ofNat (1 / 1000000000) = [] := by rw [show 1 / 1000000000 = 0 from rfl, ofNat_zero]
  rw [this]
theorem pwS_13 (n : Nat) : pwS n 13 = 2 ^ n := by unfold pwS; simp
theorem bit_eq {i : Nat} (h : i ≤ 12) : 4096 / 2 ^ i = 2 ^ (12 - i) := by
  rw [show (4096 : Nat) = 2 ^ 12 from rfl, Nat.pow_div h (by decide)]
theorem bit_13 : 4096 / 2 ^ 13 = 0 := by decide
theorem bit_pos {i : Nat} (hi : i ≤ 13) (h : (0 : Int) < ((4096 / 2 ^ i : Nat) : Int)) : i < 13 := by
  by_cases e : i = 13
  · subst e; rw [bit_13] at h; omega
  · omega
theorem bit_end {i : Nat} (hi : i ≤ 13) (h : ¬ (0 : Int) < ((4096 / 2 ^ i : Nat) : Int)) : i = 13 := by
  by_cases e : i = 13
  · exact e
  · rw [bit_eq (by omega)] at h
    have := Nat.pow_pos (n := 12 - i) (show 0 < 2 by decide)
    omega
theorem bit_half (i : Nat) : 4096 / 2 ^ i / 2 = 4096 / 2 ^ (i + 1) := by rw [Nat.div_div_eq_div_mul, Nat.pow_succ]
theorem pw_half {n i : Nat} (hi : i < 13) : n / 2 ^ (12 - i) = 2 * (n / 2 ^ (13 - i)) + n / 2 ^ (12 - i) % 2 := by
  have e : n / 2 ^ (13 - i) = n / 2 ^ (12 - i) / 2 := by
    rw [Nat.div_div_eq_div_mul, ← Nat.pow_succ, show (12 - i).succ = 13 - i by omega]
  rw [e]; omega
theorem pwS_even {n i : Nat} (hi : i < 13) (h : (n &&& 4096 / 2 ^ i) = 0) : pwS n i * pwS n i = pwS n (i + 1) := by
  rw [bit_eq (by omega), bit_and] at h
  have e := pw_half (n := n) hi
  unfold pwS
  rw [show 13 - (i + 1) = 12 - i by omega, e, h, Nat.add_zero, Nat.two_mul, Nat.pow_add]
theorem pwS_odd {n i : Nat} (hi : i < 13) (h : ¬ (n &&& 4096 / 2 ^ i) = 0) : pwS n i * pwS n i * 2 = pwS n (i + 1) := by
  rw [bit_eq (by omega), bit_and] at h
  have e := pw_half (n := n) hi
  have h2 : n / 2 ^ (12 - i) % 2 = 1 := by omega
  unfold pwS
  rw [show 13 - (i + 1) = 12 - i by omega, e, h2, Nat.pow_add, Nat.two_mul, Nat.pow_add, Nat.pow_one]
theorem two_pw (e : Nat) : 2 ^ e < pw (e + 1) := by
  induction e with
  | zero => simp [pw]
  | succ e ih => rw [Nat.pow_succ, pw_succ]; omega
theorem len_two (e : Nat) : (ofNat (2 ^ e)).length ≤ e + 1 := ofNat_length_le (two_pw e)
theorem len_pwS {n : Nat} (h : n ≤ 4096) (i : Nat) : (ofNat (pwS n i)).length ≤ 4097 := by
  have := len_two (n / 2 ^ (13 - i))
  have h2 : n / 2 ^ (13 - i) ≤ n := Nat.div_le_self _ _
  unfold pwS; omega
theorem iok_two {n : Nat} (h : n ≤ 4096) : IOk (ofZ ((2 ^ n : Nat) : Int)) ((2 ^ n : Nat) : Int) 4097 := iok_of (by
  unfold lenZ; rw [Int.natAbs_natCast]; have := len_two n; omega)
theorem iok_m {m : Int} {i : Nat} (hm : m = ((2 ^ i : Nat) : Int)) (h : i ≤ 4096) : IOk (ofZ m) m 4097 := hm ▸ iok_two h
theorem two_step {m : Int} {i : Nat} (hm : m = ((2 ^ i : Nat) : Int)) : m * 2 = ((2 ^ (i + 1) : Nat) : Int) := by
  rw [hm, Nat.pow_succ]; simp
theorem g2 : grpI (ofZ 2) = [2] := by
  rw [grpI_ofZ]
  show ofNat 2 = [2]
  rw [ofNat_pos (by decide), show 2 / 1000000000 = 0 from rfl, ofNat_zero]
theorem g2n : ofNat (Int.natAbs 2) = [2] := by rw [← grpI_ofZ]; exact g2
theorem g2z : ofNat (Int.natAbs (toZ (ofZ 2))) = [2] := by rw [toZ_ofZ]; exact g2n
theorem g2len : (ofZ 2).gs.length = 1 := by
  show (ofNat 2).length = 1
  rw [show ofNat 2 = [2] from g2n]; rfl
theorem neg2 : (ofZ 2).neg = false := rfl
theorem len_sq {n i : Nat} {out : List Nat} (hv : val out = pwS n i) (hn : n ≤ 4096) (hi : i < 13) : (ofNat (val out * val out)).length ≤ 8195 := by
  rw [hv]
  unfold pwS
  rw [← Nat.pow_add]
  have := len_two (n / 2 ^ (13 - i) + n / 2 ^ (13 - i))
  have h2 : n / 2 ^ (13 - i) ≤ n := Nat.div_le_self _ _
  omega
theorem mk_two (n : Nat) : mkI false (val (ofNat (pwS n 13))) = ofZ ((2 ^ n : Nat) : Int) := by
  rw [ofNat_val, pwS_13]
  unfold ofZ
  rw [Int.natAbs_natCast, decide_eq_false (Int.not_lt.2 (Int.natCast_nonneg _))]
def logI (z : Int) : Int := if z = 0 then -1 else ((Nat.log2 z.natAbs : Nat) : Int)
def logN (v : Nat) : Int := if v = 0 then -1 else ((Nat.log2 v : Nat) : Int)
theorem logI_N {z : Int} : logI z = logN z.natAbs := by
  unfold logI logN
  by_cases h : z = 0
  · subst h; rfl
  · rw [if_neg h, if_neg (by omega)]
theorem len_gt1 {v : Nat} (h : (1 : Int) < (((ofNat v).length : Nat) : Int)) : 1000000000 ≤ v := by
  by_cases hh : v < pw 1
  · have := ofNat_length_le hh; omega
  · have e : pw 1 = 1000000000 := by simp [pw]
    omega
theorem len_le1 {v : Nat} (h : ¬ (1 : Int) < (((ofNat v).length : Nat) : Int)) : (ofNat v).getD 0 0 = v ∧ v < 1000000000 := by
  have h1 : v < pw (ofNat v).length := ofNat_lt_pw v
  by_cases h0 : v = 0
  · subst h0; rw [ofNat_zero]; exact ⟨rfl, by decide⟩
  · have h2 := ofNat_len_pos (n := v) (by omega)
    have e : (ofNat v).length = 1 := by omega
    rw [e] at h1
    have e1 : pw 1 = 1000000000 := by simp [pw]
    rw [e1] at h1
    refine ⟨?_, h1⟩
    rw [ofNat_pos h0]
    show v % 1000000000 = v
    exact Nat.mod_eq_of_lt h1
theorem log_29 {v : Nat} (h : 1000000000 ≤ v) : logN v = logN (v / 536870912) + 29 := by
  unfold logN
  rw [if_neg (by omega), if_neg (by omega), log2_step (by omega)]; omega
theorem log_1 {v : Nat} (h : 0 < v) : logN v = logN (v / 2) + 1 := by
  unfold logN
  by_cases h1 : v = 1
  · subst h1; decide
  · rw [if_neg (by omega), if_neg (by omega), log2_half (by omega)]; omega
theorem log_cap {v n : Nat} (h : (ofNat v).length ≤ n) : (Nat.log2 v : Int) ≤ 30 * (n : Int) := by
  have h1 := ofNat_lt_pw v
  by_cases h0 : v = 0
  · subst h0; rw [show Nat.log2 0 = 0 from by decide]; omega
  · have h2 : pw (ofNat v).length ≤ 2 ^ (30 * n) := by
      have e : pw (ofNat v).length ≤ pw n := by unfold pw; exact Nat.pow_le_pow_right (by decide) h
      refine Nat.le_trans e ?_
      rw [Nat.pow_mul]
      unfold pw; exact Nat.pow_le_pow_left (show 1000000000 ≤ 2 ^ 30 by decide) n
    have := (Nat.log2_lt h0).2 (Nat.lt_of_lt_of_le h1 h2)
    omega
def rootI (z : Int) : Int := ((rootN z.toNat : Nat) : Int)
theorem root_end {z l h : Int} (z0 : 0 ≤ z) (l0 : 0 ≤ l) (h1 : l * l ≤ z) (h2 : z < h * h) (hlh : h ≤ l + 1) (hh : l < h) : l = rootI z := by
  obtain ⟨x, rfl⟩ := Int.eq_ofNat_of_zero_le z0
  obtain ⟨a, rfl⟩ := Int.eq_ofNat_of_zero_le l0
  obtain ⟨b, rfl⟩ := Int.eq_ofNat_of_zero_le (show 0 ≤ h by omega)
  unfold rootI
  rw [Int.toNat_natCast]
  have e1 : a * a ≤ x := by have : ((a * a : Nat) : Int) ≤ (x : Int) := by simpa using h1
                            omega
  have e2 : x < b * b := by have : (x : Int) < ((b * b : Nat) : Int) := by simpa using h2
                            omega
  rw [← bis_end e1 e2 (by omega)]
theorem rootI_0 (z : Int) : 0 ≤ rootI z := Int.natCast_nonneg _
theorem rootI_le {z : Int} (h : 0 ≤ z) : rootI z * rootI z ≤ z := by
  obtain ⟨x, rfl⟩ := Int.eq_ofNat_of_zero_le h
  have := rootN_le x
  unfold rootI; rw [Int.toNat_natCast]
  have e : ((rootN x * rootN x : Nat) : Int) ≤ (x : Int) := by omega
  simpa using e
theorem lt_rootI {z : Int} (h : 0 ≤ z) : z < (rootI z + 1) * (rootI z + 1) := by
  obtain ⟨x, rfl⟩ := Int.eq_ofNat_of_zero_le h
  have := lt_rootN x
  unfold rootI; rw [Int.toNat_natCast]
  have e : (x : Int) < (((rootN x + 1) * (rootN x + 1) : Nat) : Int) := by omega
  simpa using e
theorem rootI_self {z : Int} (h : 0 ≤ z) : rootI z ≤ z := by
  have h1 := rootI_le h
  have h2 := rootI_0 z
  by_cases h3 : rootI z = 0
  · omega
  · have : rootI z * 1 ≤ rootI z * rootI z := Int.mul_le_mul_of_nonneg_left (by omega) h2
    omega
theorem iok_root {z : Int} {n : Nat} {x : RInt} (h : 0 ≤ z) (hz : IOk x z n) : IOk (ofZ (rootI z)) (rootI z) n := iok_of (Nat.le_trans (lenZ_of_le (by have := rootI_0 z; have := rootI_self h; omega)) hz.ln)
theorem half_bd {l h : Int} (hl : 0 ≤ l) (h1 : 1 < h - l) : l < (l + h).fdiv 2 ∧ (l + h).fdiv 2 < h := by
  rw [Int.fdiv_eq_ediv_of_nonneg _ (by decide)]; omega
theorem lenZ_mid {l h m : Int} {n : Nat} (hl : 0 ≤ l) (h1 : l ≤ m) (h2 : m ≤ h) (hh : lenZ h ≤ n) : lenZ m ≤ n := Nat.le_trans (lenZ_of_le (by omega)) hh
theorem root_top {z : Int} (h : 0 ≤ z) : z < (z + 1) * (z + 1) := by
  have : (z + 1) * 1 ≤ (z + 1) * (z + 1) := Int.mul_le_mul_of_nonneg_left (by omega) (by omega)
  omega
theorem root_pow {z : Int} (h : 0 < z) : z < ((2 ^ (Nat.log2 z.natAbs / 2 + 1) : Nat) : Int) * ((2 ^ (Nat.log2 z.natAbs / 2 + 1) : Nat) : Int) := by
  obtain ⟨x, rfl⟩ := Int.eq_ofNat_of_zero_le (Int.le_of_lt h)
  have := log_bound (x := x) (by omega)
  rw [Int.natAbs_natCast]
  have e : (x : Int) < ((2 ^ (Nat.log2 x / 2 + 1) * 2 ^ (Nat.log2 x / 2 + 1) : Nat) : Int) := by omega
  simpa using e
theorem nw_val (X : Nat) (r : List Nat) : val (ofNat (val (ofNat (val r + val (ofNat (val (ofNat X) / val r)))) / 2)) = (val r + X / val r) / 2 := by
  rw [ofNat_val, ofNat_val, ofNat_val, ofNat_val]
theorem val_app (a b : List Nat) : val (a ++ b) = val a + pw a.length * val b := by
  induction a with
  | nil => simp [val, pw]
  | cons d a ih =>
    show d + 1000000000 * val (a ++ b) = d + 1000000000 * val a + pw (a.length + 1) * val b
    rw [ih, pw_succ, Nat.mul_add, Nat.mul_assoc]; omega
theorem val_zeros (n : Nat) : val (List.replicate n 0) = 0 := by
  induction n with
  | zero => rfl
  | succ n ih => rw [List.replicate_succ]; show 0 + 1000000000 * val (List.replicate n 0) = 0; rw [ih]
theorem nw_start (n : Nat) : val (List.replicate n 0 ++ [1]) = pw n := by
  rw [val_app, val_zeros, List.length_replicate]
  show 0 + pw n * (1 + 1000000000 * 0) = pw n
  omega
theorem nw_cano (n : Nat) : Cano (List.replicate n 0 ++ [1]) := by
  refine ⟨fun d hd => ?_, ?_⟩
  · rcases List.mem_append.1 hd with h | h
    · rw [(List.mem_replicate.1 h).2]; decide
    · rw [List.mem_singleton.1 h]; decide
  · unfold Top
    rw [List.getD_eq_getElem?_getD]
    simp
theorem nw_top {X : Nat} : X < (val (List.replicate (((ofNat X).length + 1) / 2) 0 ++ [1]) + 1) * (val (List.replicate (((ofNat X).length + 1) / 2) 0 ++ [1]) + 1) := by
  rw [nw_start]
  have h := ofNat_lt_pw X
  have h2 : pw (ofNat X).length ≤ pw (((ofNat X).length + 1) / 2 + ((ofNat X).length + 1) / 2) := by unfold pw; exact Nat.pow_le_pow_right (by decide) (by omega)
  rw [pw_add] at h2
  have h3 : pw (((ofNat X).length + 1) / 2) * pw (((ofNat X).length + 1) / 2) ≤ (pw (((ofNat X).length + 1) / 2) + 1) * (pw (((ofNat X).length + 1) / 2) + 1) := Nat.mul_le_mul (by omega) (by omega)
  omega
theorem cmpI_ge0 {a b : Int} : 0 ≤ cmpI a b ↔ b ≤ a := by
  unfold cmpI
  by_cases h : a < b
  · rw [if_pos h]; omega
  · rw [if_neg h]; split <;> omega
theorem cmpI_gt0 {a b : Int} : 0 < cmpI a b ↔ b < a := by
  unfold cmpI
  by_cases h : a < b
  · rw [if_pos h]; omega
  · rw [if_neg h]; split <;> omega
theorem cmpI_le0 {a b : Int} : cmpI a b ≤ 0 ↔ a ≤ b := by
  unfold cmpI
  by_cases h : a < b
  · rw [if_pos h]; omega
  · rw [if_neg h]; split <;> omega
theorem nw_end {z : Int} {r : List Nat} (z0 : 0 ≤ z) (h0 : 0 < val r) (hu : z.natAbs < (val r + 1) * (val r + 1)) (h : val r ≤ (val r + z.natAbs / val r) / 2) : mkI false (val r) = ofZ (rootI z) := by
  have e := newton_root h0 hu h
  obtain ⟨x, rfl⟩ := Int.eq_ofNat_of_zero_le z0
  rw [Int.natAbs_natCast] at e
  unfold rootI ofZ
  rw [Int.toNat_natCast, ← e, Int.natAbs_natCast, decide_eq_false (by omega)]
theorem lg_gt {z : Int} (z0 : 0 ≤ z) (h : 0 < logI z) : 0 < z ∧ logI z = ((z.natAbs.log2 : Nat) : Int) := by
  unfold logI at h ⊢
  by_cases e : z = 0
  · rw [if_pos e] at h; omega
  · rw [if_neg e]; exact ⟨by omega, rfl⟩
theorem two_pos (n : Nat) : (0 : Int) < ((2 ^ n : Nat) : Int) := by
  have := Nat.pow_pos (n := n) (show 0 < 2 by decide)
  exact Int.natCast_pos.2 this
theorem two_cap {n : Nat} (h : n ≤ 4096) : lenZ ((2 ^ n : Nat) : Int) ≤ 4100 := Nat.le_trans (iok_two h).ln (by decide)
theorem neg_abs {z : Int} (z0 : 0 ≤ z) (h : (ofZ z).neg = true) : False := by
  have : (decide (z < 0) && z.natAbs != 0) = true := h
  rw [decide_eq_false (show ¬ z < 0 by omega)] at this
  cases this
theorem sq_gt {m z : Int} (h : ¬ cmpI (m * m) z ≤ 0) : z < m * m := by rw [cmpI_le0] at h; omega
theorem root_nil {z : Int} (h : (((ofNat z.natAbs).length : Nat) : Int) = ((0 : Nat) : Int)) : ofZ (rootI z) = RInt.mk false [] := by
  have e : ofNat z.natAbs = [] := List.eq_nil_of_length_eq_zero (by omega)
  have e2 := ofNat_nil.1 e
  have e3 : z = 0 := by omega
  subst e3
  have : rootI 0 = 0 := by
    have := rootI_self (z := 0) (by decide); have := rootI_0 0; omega
  rw [this]
  show RInt.mk (decide ((0 : Int) < 0) && (Int.natAbs 0 != 0)) (ofNat (Int.natAbs 0)) = _
  rw [show Int.natAbs 0 = 0 from rfl, ofNat_zero]; rfl
theorem nw_ok (X : Nat) {r : List Nat} (hr : 0 < val r) (hX : 0 < X) (hc : ¬ (0 : Int) ≤ cmpI (((val (ofNat (val (ofNat (val r + val (ofNat (val (ofNat X) / val r)))) / 2)) : Nat)) : Int) ((val r : Nat) : Int)) :
    Cano (ofNat (val (ofNat (val r + val (ofNat (val (ofNat X) / val r)))) / 2)) ∧ 0 < val (ofNat (val (ofNat (val r + val (ofNat (val (ofNat X) / val r)))) / 2)) ∧ X < (val (ofNat (val (ofNat (val r + val (ofNat (val (ofNat X) / val r)))) / 2)) + 1) * (val (ofNat (val (ofNat (val r + val (ofNat (val (ofNat X) / val r)))) / 2)) + 1) ∧ val (ofNat (val (ofNat (val r + val (ofNat (val (ofNat X) / val r)))) / 2)) < val r := by
  rw [cmpI_ge0, nw_val] at hc
  refine ⟨ofNat_can _, ?_, ?_, ?_⟩
  · rw [nw_val]; exact newton_pos hX hr
  · rw [nw_val]; exact newton_up hr
  · rw [nw_val]; omega
theorem nw_stop {X : Nat} {r : List Nat} (hc : (0 : Int) ≤ cmpI (((val (ofNat (val (ofNat (val r + val (ofNat (val (ofNat X) / val r)))) / 2)) : Nat)) : Int) ((val r : Nat) : Int)) : val r ≤ (val r + X / val r) / 2 := by
  rw [cmpI_ge0, nw_val] at hc; omega
theorem can_len {r s : List Nat} (hr : Cano r) (hs : Cano s) (h : val r ≤ val s) : r.length ≤ s.length := by
  rw [can_eq hr, can_eq hs]; exact ofNat_len_mono h
theorem nw_lens {X : Nat} {r : List Nat} (hx : (ofNat X).length ≤ 400) (hr : r.length ≤ 400) (hc : Cano r) : (ofNat (val (ofNat X) / val r)).length ≤ 400 ∧ (ofNat (val r + val (ofNat (val (ofNat X) / val r)))).length ≤ 401 ∧ (ofNat (val (ofNat (val r + val (ofNat (val (ofNat X) / val r)))) / 2)).length ≤ 401 := by
  have h1 : (ofNat (val (ofNat X) / val r)).length ≤ 400 := by
    rw [ofNat_val]; exact Nat.le_trans (ofNat_len_mono (Nat.div_le_self _ _)) hx
  have h2 : (ofNat (val r + val (ofNat (val (ofNat X) / val r)))).length ≤ 401 := by
    apply ofNat_length_le
    have a1 := val_lt hc.1
    have a2 := ofNat_lt_pw (val (ofNat X) / val r)
    have a3 : pw r.length ≤ pw 400 := pw_mono hr
    have a4 : pw (ofNat (val (ofNat X) / val r)).length ≤ pw 400 := pw_mono h1
    rw [ofNat_val (val (ofNat X) / val r), pw_succ]
    omega
  refine ⟨h1, h2, ?_⟩
  have h3 := ofNat_val (val r + val (ofNat (val (ofNat X) / val r)))
  exact Nat.le_trans (ofNat_len_mono (by rw [h3]; exact Nat.div_le_self _ _)) h2
theorem iok_2s {k : Nat} (h : k ≤ 512) : IOk (ofZ ((2 ^ k : Nat) : Int)) ((2 ^ k : Nat) : Int) 20 := iok_of (by
  rw [lenZ_le, Int.natAbs_natCast]
  refine Nat.lt_of_le_of_lt (Nat.pow_le_pow_right (by decide) h) ?_
  unfold pw
  decide +kernel)
theorem ql_2s {k : Nat} (h : k ≤ 512) : QL (((2 ^ k : Nat) : Int) : Rat) 20 := ql_int (iok_2s h).ln (by decide)
def flZ (x : Rat) : Int := x.num.fdiv ((x.den : Nat) : Int)
theorem iok_flz {x : Rat} {n k : Nat} (h : QL x n) (hk : n + 1 ≤ k) : IOk (ofZ (flZ x)) (flZ x) k := iok_of (Nat.le_trans (lenZ_fdiv _ _) (Nat.le_trans (Nat.succ_le_succ h.1) hk))
theorem flZ_floor (x : Rat) : flZ x = x.floor := by
  unfold flZ; rw [Rat.floor_def, Int.fdiv_eq_ediv_of_nonneg _ (by omega)]
theorem fl_nn {x : Rat} (h : 0 ≤ x) : 0 ≤ flZ x := by
  rw [flZ_floor, Rat.le_floor_iff]; exact h
theorem sqp_nn {x : Rat} {k : Nat} (h : 0 ≤ x) : 0 ≤ x * ((((2 ^ k : Nat) : Int) : Rat) * (((2 ^ k : Nat) : Int) : Rat)) := by
  have h2 : (0 : Rat) ≤ (((2 ^ k : Nat) : Int) : Rat) := by
    rw [← Rat.intCast_zero]; exact Rat.intCast_le_intCast.2 (Int.le_of_lt (two_pos k))
  exact Rat.mul_nonneg h (Rat.mul_nonneg h2 h2)
theorem sgn_nn {x : Rat} (h : 0 ≤ x) : ¬ (signQ x) < 0 := by
  unfold signQ
  have h2 : 0 ≤ x.num := Rat.num_nonneg.2 h
  unfold signI
  by_cases e : x.num = 0
  · rw [if_pos e]; decide
  · rw [if_neg e, if_neg (by omega)]; decide
def upI (y : Rat) : Int := if ((rootI (flZ y) * rootI (flZ y) : Int) : Rat) < y then rootI (flZ y) + 1 else rootI (flZ y)
theorem iok_upI {y : Rat} {n k : Nat} (h : 0 ≤ flZ y) (hz : IOk (ofZ (flZ y)) (flZ y) n) (hk : n + 1 ≤ k) (hn : 1 ≤ n) : IOk (ofZ (upI y)) (upI y) k := iok_of (by
  have h1 := (iok_root h hz).ln
  unfold upI
  by_cases e : ((rootI (flZ y) * rootI (flZ y) : Int) : Rat) < y
  · rw [if_pos e]
    exact lenZ_add h1 (lenZ_one (z := 1) (by decide)) (by omega)
  · rw [if_neg e]; omega)
theorem cmpQ_ltR {a b : Rat} : cmpQ a b < 0 ↔ a < b := by
  unfold cmpQ
  by_cases h : a < b
  · rw [if_pos h]; exact ⟨fun _ => h, fun _ => by decide⟩
  · rw [if_neg h]; refine ⟨fun hh => ?_, fun hh => absurd hh h⟩
    by_cases h2 : b < a
    · rw [if_pos h2] at hh; exact absurd hh (by decide)
    · rw [if_neg h2] at hh; exact absurd hh (by decide)
theorem cmpQ_eqR {a b : Rat} : cmpQ a b = 0 ↔ a = b := by
  unfold cmpQ
  by_cases h : a < b
  · rw [if_pos h]; exact ⟨fun hh => absurd hh (by decide), fun hh => absurd h (by rw [hh]; exact Rat.lt_irrefl)⟩
  · rw [if_neg h]
    by_cases h2 : b < a
    · rw [if_pos h2]; exact ⟨fun hh => absurd hh (by decide), fun hh => absurd h2 (by rw [hh]; exact Rat.lt_irrefl)⟩
    · rw [if_neg h2]; exact ⟨fun _ => Rat.le_antisymm (Rat.not_lt.1 h2) (Rat.not_lt.1 h), fun _ => rfl⟩
theorem upI_t {y : Rat} (h : cmpQ ((rootI (flZ y) * rootI (flZ y) : Int) : Rat) y < 0) : upI y = rootI (flZ y) + 1 := if_pos (cmpQ_ltR.1 h)
theorem upI_f {y : Rat} (h : ¬ cmpQ ((rootI (flZ y) * rootI (flZ y) : Int) : Rat) y < 0) : upI y = rootI (flZ y) := if_neg (fun hh => h (cmpQ_ltR.2 hh))
theorem p2_ne (k : Nat) : (((2 ^ k : Nat) : Int) : Rat) ≠ 0 := by
  intro h
  have : ((2 ^ k : Nat) : Int) = 0 := by rw [← Rat.intCast_zero] at h; exact Rat.intCast_inj.1 h
  have := two_pos k; omega
theorem divP (a : Int) (k : Nat) : Rat.divInt a ((2 ^ k : Nat) : Int) = ((a : Int) : Rat) / (((2 ^ k : Nat) : Int) : Rat) := by rw [Rat.divInt_eq_div]
theorem root_q {x : Rat} {k : Nat} {r : Int} : Rat.divInt r ((2 ^ k : Nat) : Int) * Rat.divInt r ((2 ^ k : Nat) : Int) = x ↔ ((r * r : Int) : Rat) = x * ((((2 ^ k : Nat) : Int) : Rat) * (((2 ^ k : Nat) : Int) : Rat)) := by
  have hp := p2_ne k
  rw [divP, Rat.intCast_mul]
  generalize (((2 ^ k : Nat) : Int) : Rat) = P at hp
  generalize ((r : Int) : Rat) = R
  constructor
  · intro h; rw [← h]; grind
  · intro h
    have : R / P * (R / P) = (R * R) / (P * P) := by grind
    rw [this, h]; grind
theorem upI_q {x : Rat} {k : Nat} (h : cmpQ (Rat.divInt (rootI (flZ (x * ((((2 ^ k : Nat) : Int) : Rat) * (((2 ^ k : Nat) : Int) : Rat))))) ((2 ^ k : Nat) : Int) * Rat.divInt (rootI (flZ (x * ((((2 ^ k : Nat) : Int) : Rat) * (((2 ^ k : Nat) : Int) : Rat))))) ((2 ^ k : Nat) : Int)) x = 0) : upI (x * ((((2 ^ k : Nat) : Int) : Rat) * (((2 ^ k : Nat) : Int) : Rat))) = rootI (flZ (x * ((((2 ^ k : Nat) : Int) : Rat) * (((2 ^ k : Nat) : Int) : Rat)))) := by
  rw [cmpQ_eqR, root_q] at h
  exact if_neg (by rw [h]; exact Rat.lt_irrefl)
theorem upI_n {x : Rat} {k : Nat} (x0 : 0 ≤ x) (h : ¬ cmpQ (Rat.divInt (rootI (flZ (x * ((((2 ^ k : Nat) : Int) : Rat) * (((2 ^ k : Nat) : Int) : Rat))))) ((2 ^ k : Nat) : Int) * Rat.divInt (rootI (flZ (x * ((((2 ^ k : Nat) : Int) : Rat) * (((2 ^ k : Nat) : Int) : Rat))))) ((2 ^ k : Nat) : Int)) x = 0) : upI (x * ((((2 ^ k : Nat) : Int) : Rat) * (((2 ^ k : Nat) : Int) : Rat))) = rootI (flZ (x * ((((2 ^ k : Nat) : Int) : Rat) * (((2 ^ k : Nat) : Int) : Rat)))) + 1 := by
  rw [cmpQ_eqR, root_q] at h
  refine if_pos ?_
  have hy := sqp_nn (k := k) x0
  revert h hy
  generalize x * ((((2 ^ k : Nat) : Int) : Rat) * (((2 ^ k : Nat) : Int) : Rat)) = y
  intro h hy
  have h1 := rootI_le (fl_nn hy)
  have h2 : ((flZ y : Int) : Rat) ≤ y := by rw [flZ_floor]; exact Rat.floor_le y
  have h3 : ((rootI (flZ y) * rootI (flZ y) : Int) : Rat) ≤ y := Rat.le_trans (Rat.intCast_le_intCast.2 h1) h2
  exact Rat.lt_of_le_of_ne h3 h
theorem p2_pos (k : Nat) : (0 : Rat) < (((2 ^ k : Nat) : Int) : Rat) := by
  rw [← Rat.intCast_zero]; exact Rat.intCast_lt_intCast.2 (two_pos k)
theorem divP_le {a : Int} {k : Nat} {c : Rat} (h : ((a : Int) : Rat) ≤ c * (((2 ^ k : Nat) : Int) : Rat)) : Rat.divInt a ((2 ^ k : Nat) : Int) ≤ c := by
  rw [divP, ← Rat.not_lt, Rat.lt_div_iff (p2_pos k), Rat.not_lt]; exact h
theorem le_divP {a : Int} {k : Nat} {c : Rat} (h : c * (((2 ^ k : Nat) : Int) : Rat) ≤ ((a : Int) : Rat)) : c ≤ Rat.divInt a ((2 ^ k : Nat) : Int) := by
  rw [divP, ← Rat.not_lt, Rat.div_lt_iff (p2_pos k), Rat.not_lt]; exact h
theorem flZ_le (x : Rat) : ((flZ x : Int) : Rat) ≤ x := by rw [flZ_floor]; exact Rat.floor_le x
theorem le_clZ (x : Rat) : x ≤ ((-(flZ (-x)) : Int) : Rat) := by
  have h := flZ_le (-x)
  rw [Rat.intCast_neg]
  have h2 := Rat.neg_le_neg h
  rw [Rat.neg_neg] at h2
  exact h2
theorem flZ_int (z : Int) : flZ ((z : Int) : Rat) = z := by rw [flZ_floor, Rat.floor_intCast]
theorem divP_mul (a : Int) (k : Nat) : Rat.divInt a ((2 ^ k : Nat) : Int) * (((2 ^ k : Nat) : Int) : Rat) = ((a : Int) : Rat) := by
  rw [divP, Rat.div_mul_cancel (p2_ne k)]
theorem dn_le (p : Rat) (k : Nat) : Rat.divInt (flZ (p * (((2 ^ k : Nat) : Int) : Rat))) ((2 ^ k : Nat) : Int) ≤ p := divP_le (flZ_le _)
theorem le_up (q : Rat) (k : Nat) : q ≤ Rat.divInt (-(flZ (-(q * (((2 ^ k : Nat) : Int) : Rat))))) ((2 ^ k : Nat) : Int) := le_divP (le_clZ _)
theorem rd_valid {p q : Rat} (k : Nat) (h : p ≤ q) : Rat.divInt (flZ (p * (((2 ^ k : Nat) : Int) : Rat))) ((2 ^ k : Nat) : Int) ≤ Rat.divInt (-(flZ (-(q * (((2 ^ k : Nat) : Int) : Rat))))) ((2 ^ k : Nat) : Int) :=
  Rat.le_trans (dn_le p k) (Rat.le_trans h (le_up q k))
theorem rd_in (p q : Rat) (k : Nat) : insQ p q (Rat.divInt (flZ (p * (((2 ^ k : Nat) : Int) : Rat))) ((2 ^ k : Nat) : Int)) (Rat.divInt (-(flZ (-(q * (((2 ^ k : Nat) : Int) : Rat))))) ((2 ^ k : Nat) : Int)) = true :=
  insQ_of (dn_le p k) (le_up q k)
theorem dn_idem (a : Int) (k : Nat) : Rat.divInt (flZ (Rat.divInt a ((2 ^ k : Nat) : Int) * (((2 ^ k : Nat) : Int) : Rat))) ((2 ^ k : Nat) : Int) = Rat.divInt a ((2 ^ k : Nat) : Int) := by
  rw [divP_mul, flZ_int]
theorem up_idem (a : Int) (k : Nat) : Rat.divInt (-(flZ (-(Rat.divInt a ((2 ^ k : Nat) : Int) * (((2 ^ k : Nat) : Int) : Rat))))) ((2 ^ k : Nat) : Int) = Rat.divInt a ((2 ^ k : Nat) : Int) := by
  rw [divP_mul, ← Rat.intCast_neg, flZ_int, Int.neg_neg]
theorem rt_lo {y : Rat} (hy : 0 ≤ y) : ((rootI (flZ y) * rootI (flZ y) : Int) : Rat) ≤ y := Rat.le_trans (Rat.intCast_le_intCast.2 (rootI_le (fl_nn hy))) (flZ_le y)
theorem upI_nn (y : Rat) : 0 ≤ upI y := by
  have := rootI_0 (flZ y)
  unfold upI; split <;> omega
theorem rt_hi {y : Rat} (hy : 0 ≤ y) : y ≤ ((upI y * upI y : Int) : Rat) := by
  unfold upI
  by_cases e : ((rootI (flZ y) * rootI (flZ y) : Int) : Rat) < y
  · rw [if_pos e]
    have h1 := lt_rootI (fl_nn hy)
    have h2 : y < ((flZ y + 1 : Int) : Rat) := by rw [flZ_floor]; exact Rat.lt_floor_add_one y
    exact Rat.le_trans (Rat.le_of_lt h2) (Rat.intCast_le_intCast.2 h1)
  · rw [if_neg e]; exact Rat.not_lt.1 e
theorem sq_int {a b : Int} (b0 : 0 ≤ b) (h : a * a ≤ b * b) : a ≤ b := by
  by_cases hh : a ≤ b
  · exact hh
  · have h1 : b < a := by omega
    have h2 : b * b < a * a := by
      have q1 : b * b ≤ b * a := Int.mul_le_mul_of_nonneg_left (by omega) b0
      have q2 : b * a < a * a := Int.mul_lt_mul_of_pos_right h1 (by omega)
      omega
    omega
theorem rt_valid {p q : Rat} (k : Nat) (hp : 0 ≤ p) (h : p ≤ q) : Rat.divInt (rootI (flZ (p * ((((2 ^ k : Nat) : Int) : Rat) * (((2 ^ k : Nat) : Int) : Rat))))) ((2 ^ k : Nat) : Int) ≤ Rat.divInt (upI (q * ((((2 ^ k : Nat) : Int) : Rat) * (((2 ^ k : Nat) : Int) : Rat)))) ((2 ^ k : Nat) : Int) := by
  refine divP_le ?_
  rw [divP_mul]
  refine Rat.intCast_le_intCast.2 (sq_int (upI_nn _) (Rat.intCast_le_intCast.1 ?_))
  have hq : 0 ≤ q := Rat.le_trans hp h
  have hPP : (0 : Rat) ≤ (((2 ^ k : Nat) : Int) : Rat) * (((2 ^ k : Nat) : Int) : Rat) := Rat.mul_nonneg (Rat.le_of_lt (p2_pos k)) (Rat.le_of_lt (p2_pos k))
  exact Rat.le_trans (rt_lo (sqp_nn hp)) (Rat.le_trans (Rat.mul_le_mul_of_nonneg_right h hPP) (rt_hi (sqp_nn hq)))
theorem div_sq (r : Int) (k : Nat) : Rat.divInt r ((2 ^ k : Nat) : Int) * Rat.divInt r ((2 ^ k : Nat) : Int) * ((((2 ^ k : Nat) : Int) : Rat) * (((2 ^ k : Nat) : Int) : Rat)) = ((r * r : Int) : Rat) := by
  have h := divP_mul r k
  generalize Rat.divInt r ((2 ^ k : Nat) : Int) = D at h
  generalize (((2 ^ k : Nat) : Int) : Rat) = P at h
  rw [Rat.intCast_mul, ← h]; grind
theorem pp_pos (k : Nat) : (0 : Rat) < (((2 ^ k : Nat) : Int) : Rat) * (((2 ^ k : Nat) : Int) : Rat) := Rat.mul_pos (p2_pos k) (p2_pos k)
theorem rt_in {p q : Rat} (k : Nat) (hp : 0 ≤ p) (h : p ≤ q) : insQ p q (sqL (Rat.divInt (rootI (flZ (p * ((((2 ^ k : Nat) : Int) : Rat) * (((2 ^ k : Nat) : Int) : Rat))))) ((2 ^ k : Nat) : Int)) (Rat.divInt (upI (q * ((((2 ^ k : Nat) : Int) : Rat) * (((2 ^ k : Nat) : Int) : Rat)))) ((2 ^ k : Nat) : Int)))
    (sqH (Rat.divInt (rootI (flZ (p * ((((2 ^ k : Nat) : Int) : Rat) * (((2 ^ k : Nat) : Int) : Rat))))) ((2 ^ k : Nat) : Int)) (Rat.divInt (upI (q * ((((2 ^ k : Nat) : Int) : Rat) * (((2 ^ k : Nat) : Int) : Rat)))) ((2 ^ k : Nat) : Int))) = true := by
  have hq : 0 ≤ q := Rat.le_trans hp h
  have h1 := rt_lo (sqp_nn (k := k) hp)
  have h2 := rt_hi (sqp_nn (k := k) hq)
  rw [← div_sq _ k] at h1 h2
  have g1 := Rat.le_of_mul_le_mul_right h1 (pp_pos k)
  have g2 := Rat.le_of_mul_le_mul_right h2 (pp_pos k)
  refine insQ_of (Rat.le_trans ?_ g1) (Rat.le_trans g2 ?_)
  · unfold sqL
    split
    · exact rat_sq _
    · exact (mnL_low _ _).1
  · unfold sqH
    exact (mxL_upp _ _).2 _ (by simp)
theorem k_abs {k : Int} (h : ¬ (0 ≤ k ∧ k ≤ 512)) (h2 : (decide (k < 0) || decide (((512 : Nat) : Int) < k)) = false) : False := by
  rw [Bool.or_eq_false_iff] at h2
  have q1 := of_decide_eq_false h2.1
  have q2 := of_decide_eq_false h2.2
  exact h ⟨by omega, by omega⟩
theorem k_abs2 {k : Int} {b : Bool} (h : ¬ (0 ≤ k ∧ k ≤ 512)) (h2 : ((decide (k < ((0 : Nat) : Int)) || decide (((512 : Nat) : Int) < k)) || b) = false) : False := k_abs h (Bool.or_eq_false_iff.1 h2).1
theorem plc_no {k : Int} (h : ¬ (0 ≤ k ∧ k ≤ 512)) : (decide (((0 : Nat) : Int) ≤ k) && decide (k ≤ ((512 : Nat) : Int))) = false := by
  rw [Bool.and_eq_false_iff]
  by_cases h1 : 0 ≤ k
  · exact .inr (decide_eq_false (by omega))
  · exact .inl (decide_eq_false (by omega))
theorem allV2 {a b c d : Rat} (h1 : a ≤ b) (h2 : c ≤ d) : List.all [RRng.mk (ofQ a) (ofQ b), RRng.mk (ofQ c) (ofQ d)] validG = true := by
  rw [List.all_cons, List.all_cons, List.all_nil, validG_of h1, validG_of h2]; rfl
end Go.Fid
namespace Go.Proofs.YtiooafhcpkdhcaaGreatDoor
open Go.Fid
set_option maxRecDepth 4000
set_option linter.unusedVariables false
set_option linter.unusedSimpArgs false
theorem cb206 : callB Tryz.prog 206 = true := by kernel_rfl
theorem cb215 : callB Tryz.prog 215 = true := by kernel_rfl
theorem cb216 : callB Tryz.prog 216 = true := by kernel_rfl
theorem cb264 : callB Tryz.prog 264 = true := by kernel_rfl
theorem cb270 : callB Tryz.prog 270 = true := by kernel_rfl
theorem cb276 : callB Tryz.prog 276 = true := by kernel_rfl
theorem cb279 : callB Tryz.prog 279 = true := by kernel_rfl
theorem cb280 : callB Tryz.prog 280 = true := by kernel_rfl
theorem cb281 : callB Tryz.prog 281 = true := by kernel_rfl
theorem in3 : intB Tryz.prog 3 = some .i64 := by kernel_rfl
theorem st9 : strB Tryz.prog 9 = true := by kernel_rfl
theorem d_small  : Takes Tryz.prog 281 [(.val (.int .i64 (((2 : Nat) : Int))))] (.val (.string (ByteArray.mk #[50]))) := by
  refine fn_intro Tryz.func281 rfl cb281 rfl ?_
  show PWp _ _ _ _ ⟨[(0, (vin 2))], []⟩
  refine pwp_seq <| kx [] [] (zM <| zZ) ?_
  refine pwp_seq <| pwp_seq <| kx [(4, (vb true))] [] (zM <| zE (oBk true oLt) <| zZ) ?_
  refine pwp_cond (b := true) (by kernel_rfl) (fun _ => ?_) (fun h => by cases h)
  refine pwp_seq <| kx [(2, (.d (.val (.string (ByteArray.mk #[50])))))] [] (zM <| zM <| zE (oAd 3 (hr := by decide)) <| zE (oSstr (l := 2) (h := 3) (r := ByteArray.mk #[50]) st9) <| zM <| zZ) ?_
  refine pwp_ret ⟨_, (.tmp (d := (.val (.string (ByteArray.mk #[50])))) rfl .nil), ?_⟩
  rfl
theorem d_fmt  : Takes Tryz.prog 280 [(.val (.int .i64 (((2 : Nat) : Int)))), (.val (.int .i64 (((10 : Nat) : Int))))] (.val (.string (ByteArray.mk #[50]))) := by
  refine fn_intro Tryz.func280 rfl cb280 rfl ?_
  show PWp _ _ _ _ ⟨[(0, (vin 2)), (1, (vin 10))], []⟩
  refine pwp_seq <| kx [] [] (zM <| zZ) ?_
  refine pwp_seq <| pwp_seq <| kx [(11, (vb true))] [] (zM <| zE (oBk true oEq) <| zZ) ?_
  refine pwp_cond (b := true) (by kernel_rfl) (fun _ => ?_) (fun h => by cases h)
  refine pwp_seq <| pwp_seq <| kx [(17, (vb true))] [] (zM <| zE (oBk true oLe) <| zM <| zM <| zE (oBk true oLt) <| zE oPt <| zZ) ?_
  refine pwp_cond (b := true) (by kernel_rfl) (fun _ => ?_) (fun h => by cases h)
  refine pwp_seq <| kx [(4, (.d (.val (.string (ByteArray.mk #[50])))))] [] (zM <| zE (oCl d_small) <| zM <| zZ) ?_
  refine pwp_ret ⟨_, (.tmp (d := (.val (.string (ByteArray.mk #[50])))) rfl .nil), ?_⟩
  rfl
theorem d_itoaI  : Takes Tryz.prog 279 [(.val (.int .i64 (((2 : Nat) : Int))))] (.val (.string (ByteArray.mk #[50]))) := by
  refine fn_intro Tryz.func279 rfl cb279 rfl ?_
  show PWp _ _ _ _ ⟨[(0, (vin 2))], []⟩
  refine pwp_seq <| kx [] [] (zM <| zZ) ?_
  refine pwp_seq <| kx [(2, (.d (.val (.string (ByteArray.mk #[50])))))] [] (zM <| zE (oCl d_fmt) <| zM <| zZ) ?_
  refine pwp_ret ⟨_, (.tmp (d := (.val (.string (ByteArray.mk #[50])))) rfl .nil), ?_⟩
  rfl
theorem d_itoa  : Takes Tryz.prog 276 [(.val (.int .i64 (((2 : Nat) : Int))))] (.val (.string (ByteArray.mk #[50]))) := by
  refine fn_intro Tryz.func276 rfl cb276 rfl ?_
  show PWp _ _ _ _ ⟨[(0, (vin 2))], []⟩
  refine pwp_seq <| kx [] [] (zM <| zZ) ?_
  refine pwp_seq <| kx [(2, (.d (.val (.string (ByteArray.mk #[50])))))] [] (zM <| zE (oCl d_itoaI) <| zM <| zZ) ?_
  refine pwp_ret ⟨_, (.tmp (d := (.val (.string (ByteArray.mk #[50])))) rfl .nil), ?_⟩
  rfl
theorem d_digits  : Takes Tryz.prog 264 [(.sl 147 1 (List.map enc_u32 [2]))] (.val (.int .i64 (((1 : Nat) : Int)))) := by
  refine fn_intro Tryz.func264 rfl cb264 rfl ?_
  show PWp _ _ _ _ ⟨[(0, (vl 147 1 enc_u32 [2]))], []⟩
  refine pwp_seq <| kx [] [] (zM <| zZ) ?_
  refine pwp_seq <| pwp_seq <| kx [(5, (vb false))] [] (zM <| zE (oLn el22 1) <| zE (oBk false oEq) <| zZ) ?_
  refine pwp_cond (b := false) (by kernel_rfl) (fun h => by cases h) (fun _ => ?_)
  refine pwp_skip <| pwp_seq <| kx [(2, (vin 1))] [] (zM <| zE (oLn el22 1) <| zE (oSb 0 (hr := by decide)) <| zE (oMl 0 (hr := by decide)) <| zM <| zM <| zE (oLn el22 1) <| zE (oSb 0 (hr := by decide)) <| zE (oXs el22 0) <| zE (oC1 sh147) <| zE (oCv un147 in3 2) <| zE (oCl d_itoa) <| zE (oLstr st9 1) <| zE (oAd 1 (hr := by decide)) <| zM <| zZ) ?_
  refine pwp_ret ⟨_, (.tmp (d := (.val (.int .i64 (((1 : Nat) : Int))))) rfl .nil), ?_⟩
  rfl
theorem d_rdig  : Takes Tryz.prog 270 [(encI (ofZ 2))] (.val (.int .i64 (((1 : Nat) : Int)))) := by
  have hg2 := g2len
  refine fn_intro Tryz.func270 rfl cb270 rfl ?_
  show PWp _ _ _ _ ⟨[(0, (.d (encI (ofZ 2))))], []⟩
  refine pwp_seq <| kx [(1, (.ref 0 0))] [(0, some (bx (encI (ofZ 2))))] (zN (oBx 0) <| zM <| zZ) ?_
  refine pwp_seq <| kx [] [(0, some (bx (encI (ofZ (toZ (ofZ 2))))))] (zR (oLa sh24) <| zE (oCl (r_value (ofZ 2) (by omega))) <| zT (oSt sh24) <| zZ) ?_
  refine pwp_seq <| kx [(3, (vin 1))] [] (zE (oFr fo24_1) <| zR (oQr (.sl 147 1 (List.map enc_u32 (ofNat (Int.natAbs (toZ (ofZ 2)))))) (.sl 147 1 (List.map enc_u32 [2])) (oL1 sh22) (by exact (congrArg (fun l => Dat.sl 147 1 (List.map enc_u32 l)) g2z))) <| zE (oLn el22 1) <| zM <| zZ) ?_
  refine pwp_seq <| pwp_seq <| kx [(12, (vb false))] [] (zM <| zE (oBk false oEq) <| zZ) ?_
  refine pwp_cond (b := false) (by kernel_rfl) (fun h => by cases h) (fun _ => ?_)
  refine pwp_skip <| pwp_seq <| kx [(4, (vin 0))] [] (zM <| zE (oSb 0 (hr := by decide)) <| zE (oMl 0 (hr := by decide)) <| zM <| zZ) ?_
  refine pwp_seq <| pwp_seq <| kx [(5, (vwn 2))] [] (zE (oFr fo24_1) <| zR (oQr (.sl 147 1 (List.map enc_u32 (ofNat (Int.natAbs (toZ (ofZ 2)))))) (.sl 147 1 (List.map enc_u32 [2])) (oL1 sh22) (by exact (congrArg (fun l => Dat.sl 147 1 (List.map enc_u32 l)) g2z))) <| zM <| zE (oSb 0 (hr := by decide)) <| zE (oXs el22 0) <| zE (oC1 sh147) <| zM <| zZ) ?_
  refine pwp_block <| pwp_rounds 20 ?_
  refine pwp_round <| pwp_seq <| pwp_seq <| kx [(23, (vb true))] [] (zM <| zE (oBk true oGt) <| zZ) ?_
  refine pwp_cond (b := true) (by kernel_rfl) (fun _ => ?_) (fun h => by cases h)
  refine pwp_skip <| pwp_seq <| pwp_block <| kx [(4, (vin 1))] [] (zM <| zE (oAd 1 (hr := by decide)) <| zM <| zZ) ?_
  refine kx [(5, (vwn 0))] [] (zM <| zE (oQu 0 (hr := by decide)) <| zM <| zZ) ?_
  refine pwp_again (SimImp.refl _) ?_
  refine pwp_seq <| pwp_seq <| kx [(23, (vb false))] [] (zM <| zE (oBk false oGt) <| zZ) ?_
  refine pwp_cond (b := false) (by kernel_rfl) (fun h => by cases h) (fun _ => ?_)
  refine pwp_exit <| pwp_seq <| kx [(2, (vin 1))] [] (zM <| zM <| zZ) ?_
  refine pwp_ret ⟨_, (.tmp (d := (.val (.int .i64 (((1 : Nat) : Int))))) rfl .nil), ?_⟩
  rfl
theorem d_pow (n : Nat) (hn : n ≤ 1024) : Takes Tryz.prog 206 [(encI (ofZ 2)), (.val (.int .i64 (((n : Nat) : Int))))] (.tup [(encI (ofZ ((2 ^ n : Nat) : Int))), (.val (.int .i64 (0)))]) := by
  have hg2 := g2len
  refine fn_intro Tryz.func206 rfl cb206 rfl ?_
  show PWp _ _ _ _ ⟨[(0, (.d (encI (ofZ 2)))), (1, (vin n))], []⟩
  refine pwp_seq <| kx [(2, (.ref 0 0)), (4, (.ref 1 0))] [(0, some (bx (encI (ofZ 2)))), (1, some (bx (encI (RInt.mk false []))))] (zN (oBx 0) <| zN (oAl 1 ze24 zo24) <| zM <| zZ) ?_
  refine pwp_seq <| kx [(6, (vl 147 1 enc_u32 [2]))] [] (zR (oLa sh24) <| zE (oQd (.sl 147 1 (List.map enc_u32 (grpI (ofZ 2)))) (.sl 147 1 (List.map enc_u32 [2])) (oCl (t_groups (ofZ 2) (by omega))) (by exact (congrArg (fun l => Dat.sl 147 1 (List.map enc_u32 l)) g2))) <| zM <| zZ) ?_
  refine pwp_seq <| pwp_block <| pwp_seq <| kx [(11, (vb false))] [] (zM <| zE (oBk false oLt (by exact decide_eq_false (show ¬ ((n : Nat) : Int) < 0 by omega))) <| zM <| zM <| zE (oBk false oGt (by exact decide_eq_false (show ¬ 4096 < ((n : Nat) : Int) by omega))) <| zE oPf <| zM <| zZ) ?_
  refine pwp_cond (b := false) (by kernel_rfl) (fun h => by cases h) (fun _ => ?_)
  refine pwp_seq <| kx [(19, (vb false))] [] (zM <| zM <| zE (oCl d_digits) <| zE (oMl (n * 1)) <| zE (oBk false oGt (by exact decide_eq_false (show ¬ 20000 < (((n * 1) : Nat) : Int) by omega))) <| zM <| zZ) ?_
  refine pwp_cond (b := false) (by kernel_rfl) (fun h => by cases h) (fun _ => ?_)
  refine pwp_skip <| pwp_seq <| kx [(7, (vl 147 1 enc_u32 [1]))] [] (zE (oBs el22 ze147 zo147) <| zM <| zZ) ?_
  refine pwp_seq <| pwp_seq <| kx [(8, (vin 4096))] [] (zM <| zZ) ?_
  refine pwp_block <| pwp_loop (α := Nat × Nat × List Nat) (fun (i, b, out) => ⟨[(1, (vin n)), (2, (.ref 0 0)), (4, (.ref 1 0)), (6, (vl 147 1 enc_u32 [2])), (7, (vl 147 1 enc_u32 out)), (8, (vin b))], [(0, some (bx (encI (ofZ 2)))), (1, some (bx (encI (RInt.mk false []))))]⟩) (fun (i, b, out) => i ≤ 13 ∧ b = 4096 / 2 ^ i ∧ out = ofNat (pwS n i)) (fun (i, b, out) => 13 - i) (0, 4096, [1]) wk ⟨Nat.zero_le _, rfl, pwS_0 (by omega)⟩ ?_
  rintro ⟨i, b, out⟩ ⟨hi, hbi, ho⟩
  have hdo : Dig out := ho ▸ ofNat_dig _
  have hlo : out.length ≤ 4097 := ho ▸ len_pwS (by omega) i
  have hdt : Dig [2] := by intro d hd; rw [List.mem_singleton.1 hd]; decide
  have hvo : val out = pwS n i := by rw [ho, ofNat_val]
  have hbl : b ≤ 4096 := hbi ▸ Nat.div_le_self _ _
  have hdq : Dig (ofNat (val out * val out)) := ofNat_dig _
  have hl2 : [2].length ≤ 1 := Nat.le_refl _
  refine pwp_seq <| pwp_seq <| kx [(28, (vb (decide (0 < ((b : Nat) : Int)))))] [] (zM <| zE oGt <| zZ) ?_
  refine pwp_cond (b := decide (0 < ((b : Nat) : Int))) rfl (fun h1 => ?_) (fun h1 => ?_)
  · replace h1 := of_decide_eq_true h1
    have hi2 := bit_pos hi (hbi ▸ h1)
    have hlq := len_sq hvo (show n ≤ 4096 by omega) hi2
    refine pwp_skip <| pwp_seq <| pwp_block <| pwp_seq <| kx [(7, (vl 147 1 enc_u32 (ofNat (val out * val out))))] [] (zM <| zM <| zE (oCl (t_times out out (by assumption) (by assumption) (by omega) (by omega))) <| zM <| zZ) ?_
    refine pwp_seq <| kx [(37, (vb ((((n &&& b) : Nat) : Int) != 0)))] [] (zM <| zM <| zE (oAb (n &&& b)) <| zE oNe <| zZ) ?_
    refine pwp_cond (b := ((((n &&& b) : Nat) : Int) != 0)) rfl (fun h2 => ?_) (fun h2 => ?_)
    · replace h2 := bne_iff_ne.1 h2
      refine kx [(7, (vl 147 1 enc_u32 (ofNat (val (ofNat (val out * val out)) * val [2]))))] [] (zM <| zM <| zE (oCl (t_times (ofNat (val out * val out)) [2] (by assumption) (by assumption) (by omega) (by omega))) <| zM <| zZ) ?_
      refine kx [(8, (vin (b / 2)))] [] (zM <| zE (e_shr (n := 1) (((b / 2) : Nat) : Int) (hr := shr1 _)) <| zM <| zZ) ?_
      exact ⟨(i + 1, b / 2, ofNat (val (ofNat (val out * val out)) * val [2])), wk, ⟨by omega, by rw [hbi]; exact bit_half i, by rw [ofNat_val, hvo, ← pwS_odd hi2 (by rw [← hbi]; omega)]; rfl⟩, (by first | omega | (dsimp only; omega))⟩
    · replace h2 := bne_eq_false_iff_eq.1 h2
      refine pwp_skip <| kx [(8, (vin (b / 2)))] [] (zM <| zE (e_shr (n := 1) (((b / 2) : Nat) : Int) (hr := shr1 _)) <| zM <| zZ) ?_
      exact ⟨(i + 1, b / 2, ofNat (val out * val out)), wk, ⟨by omega, by rw [hbi]; exact bit_half i, by rw [hvo, pwS_even hi2 (by rw [← hbi]; omega)]⟩, (by first | omega | (dsimp only; omega))⟩
  · replace h1 := of_decide_eq_false h1
    have hi13 := bit_end hi (hbi ▸ h1)
    refine pwp_exit <| pwp_seq <| kx [(5, (vin 0))] [(1, some (bx (encI (mkI ((ofZ 2).neg && ((((n % 2) : Nat) : Int) == 1)) (val out)))))] ?_ ?_
    · refine zE (oFr fo24_0) <| zR (oL1 sh4) <| zE (oV (vb ((ofZ 2).neg)) (mv_ok (by kernel_rfl))) <| ?_
      rcases hb3 : ((ofZ 2).neg) with _ | _
      · exact zK <| zK <| zK <| zE oPf <| zM <| zE (oCl (t_made false out (by assumption) (by omega))) <| zT (oSt sh24) <| zM <| zZ
      · exact zM <| zE (oRe (n % 2)) <| zE oEq <| zE oPa <| zM <| zE (oCl (t_made (true && ((((n % 2) : Nat) : Int) == 1)) out (by assumption) (by omega))) <| zT (oSt sh24) <| zM <| zZ
    refine pwp_ret ⟨_, (res_a (cs := (bx (encI (mkI ((ofZ 2).neg && ((((n % 2) : Nat) : Int) == 1)) (val out))))) (d := (encI (mkI ((ofZ 2).neg && ((((n % 2) : Nat) : Int) == 1)) (val out)))) rfl rfl sh24 rfl rfl (.tmp (d := (.val (.int .i64 (0)))) rfl .nil)), ?_⟩
    rw [ho, hi13, neg2, Bool.false_and, mk_two]; rfl
theorem d_rpow (n : Nat) (hn : n ≤ 4096) : Takes Tryz.prog 215 [(encI (ofZ 2)), (.val (.int .i64 (((n : Nat) : Int))))] (.tup [(encI (ofZ ((2 ^ n : Nat) : Int))), (.val (.int .i64 (0)))]) := by
  refine fn_intro Tryz.func215 rfl cb215 rfl ?_
  show PWp _ _ _ _ ⟨[(0, (.d (encI (ofZ 2)))), (1, (vin n))], []⟩
  refine pwp_seq <| kx [(2, (.ref 0 0)), (4, (.ref 1 0))] [(0, some (bx (encI (ofZ 2)))), (1, some (bx (encI (RInt.mk false []))))] (zN (oBx 0) <| zN (oAl 1 ze24 zo24) <| zM <| zZ) ?_
  refine pwp_seq <| pwp_seq <| kx [(13, (vb false))] [] (zM <| zE (oBk false oLt (by exact decide_eq_false (show ¬ ((n : Nat) : Int) < 0 by omega))) <| zM <| zM <| zE (oBk false oGt (by exact decide_eq_false (show ¬ 4096 < ((n : Nat) : Int) by omega))) <| zE oPf <| zZ) ?_
  refine pwp_cond (b := false) (by kernel_rfl) (fun h => by cases h) (fun _ => ?_)
  refine pwp_skip <| pwp_seq <| pwp_seq <| kx [(19, (vb false))] [] (zM <| zR (oLa sh24) <| zE (oCl d_rdig) <| zE (oMl (n * 1)) <| zE (oBk false oGt (by exact decide_eq_false (show ¬ 20000 < (((n * 1) : Nat) : Int) by omega))) <| zZ) ?_
  refine pwp_cond (b := false) (by kernel_rfl) (fun h => by cases h) (fun _ => ?_)
  refine pwp_skip <| pwp_seq <| kx [(6, (.ref 2 0))] [(2, some (bx (encI (ofZ 1))))] (zE (oCl (r_of 1 (by decide) (by decide))) <| zN (oAl 2 ze24 zo24) <| zT (oSt sh24) <| zZ) ?_
  refine pwp_seq <| pwp_seq <| kx [(7, (vin 0))] [] (zM <| zZ) ?_
  refine pwp_block <| pwp_loop (α := Nat × Int) (fun (i, m) => ⟨[(1, (vin n)), (2, (.ref 0 0)), (4, (.ref 1 0)), (6, (.ref 2 0)), (7, (vin i))], [(0, some (bx (encI (ofZ 2)))), (1, some (bx (encI (RInt.mk false [])))), (2, some (bx (encI (ofZ m))))]⟩) (fun (i, m) => i ≤ n ∧ m = ((2 ^ i : Nat) : Int)) (fun (i, m) => n - i) (0, 1) wk ⟨Nat.zero_le _, rfl⟩ ?_
  rintro ⟨i, m⟩ ⟨hi, hm⟩
  have hio := iok_m hm (by omega)
  refine pwp_seq <| pwp_seq <| kx [(24, (vb (decide (((i : Nat) : Int) < ((n : Nat) : Int)))))] [] (zM <| zM <| zE oLt <| zZ) ?_
  refine pwp_cond rfl (fun h1 => ?_) (fun h1 => ?_)
  · replace h1 := of_decide_eq_true h1
    refine pwp_skip <| pwp_seq <| pwp_block <| kx [] [(2, some (bx (encI (ofZ (m * 2)))))] (zR (oLa sh24) <| zR (oLa sh24) <| zE (oCl (rs_mul hio (iok_small (z := 2) (by decide)) (by decide) (by decide))) <| zT (oSt sh24) <| zZ) ?_
    refine kx [(7, (vin (i + 1)))] [] (zM <| zE (oAd (i + 1)) <| zM <| zZ) ?_
    exact ⟨(i + 1, m * 2), wk, ⟨by omega, two_step hm⟩, (by first | omega | (dsimp only; omega))⟩
  · replace h1 := of_decide_eq_false h1
    refine pwp_exit <| pwp_seq <| kx [(5, (vin 0))] [(1, some (bx (encI (ofZ m))))] (zR (oLa sh24) <| zT (oSt sh24) <| zM <| zZ) ?_
    refine pwp_ret ⟨_, (res_a (cs := (bx (encI (ofZ m)))) (d := (encI (ofZ m))) rfl rfl sh24 rfl rfl (.tmp (d := (.val (.int .i64 (0)))) rfl .nil)), ?_⟩
    rw [hm, show i = n by omega]; rfl
theorem d_log (z : Int) (hz : IOk (ofZ z) z 1000000) : Takes Tryz.prog 216 [(encI (ofZ z))] (.val (.int .i64 ((logI z)))) := by
  have hzl := hz.ln
  have hzg := hz.l
  refine fn_intro Tryz.func216 rfl cb216 rfl ?_
  show PWp _ _ _ _ ⟨[(0, (.d (encI (ofZ z))))], []⟩
  refine pwp_seq <| kx [(1, (.ref 0 0))] [(0, some (bx (encI (ofZ z))))] (zN (oBx 0) <| zM <| zZ) ?_
  refine pwp_seq <| kx [(3, (vl 147 1 enc_u32 (ofNat (Int.natAbs z))))] [] (zR (oLa sh24) <| zE (oCl (r_value (ofZ z) (by omega))) <| zE (oQd (.sl 147 1 (List.map enc_u32 (ofNat (Int.natAbs (toZ (ofZ z)))))) (.sl 147 1 (List.map enc_u32 (ofNat (Int.natAbs z)))) (oF1 ft24_1 sh22) (by exact (by rw [toZ_ofZ]))) <| zE (oQd (.sl 147 1 (List.map enc_u32 (ofNat (Int.natAbs z)))) (.sl 147 1 (List.map enc_u32 (ofNat (Int.natAbs z)))) (oV (vl 147 1 enc_u32 (ofNat (Int.natAbs z))) (mv_ok (by kernel_rfl))) (by exact rfl)) <| zZ) ?_
  refine pwp_seq <| kx [(4, (vi (-1)))] [] (zM <| zZ) ?_
  refine pwp_seq <| pwp_block <| pwp_loop (α := Nat × Int) (fun (v, k) => ⟨[(3, (vl 147 1 enc_u32 (ofNat v))), (4, (vi k))], []⟩) (fun (v, k) => (v ≤ z.natAbs ∧ -1 ≤ k ∧ k + (v.log2 : Int) ≤ (z.natAbs.log2 : Int)) ∧ logI z = k + 1 + logN v) (fun (v, k) => v) (z.natAbs, -1) wk ⟨⟨Nat.le_refl _, by decide, by omega⟩, by rw [logI_N]; omega⟩ ?_
  rintro ⟨v, k⟩ ⟨⟨hv, hk1, hk2⟩, hl⟩
  have hdv := ofNat_dig v
  have hlv : (ofNat v).length ≤ 1000000 := Nat.le_trans (ofNat_len_mono hv) hzl
  have hzb := log_cap hzl
  refine pwp_seq <| pwp_seq <| kx [(11, (vb (decide (1 < (((ofNat v).length : Nat) : Int)))))] [] (zM <| zE (oLm el22 (L := (ofNat v))) <| zE oGt <| zZ) ?_
  refine pwp_cond rfl (fun h1 => ?_) (fun h1 => ?_)
  · replace h1 := of_decide_eq_true h1
    refine pwp_skip <| pwp_block <| pwp_seq <| kx [(3, (vl 147 1 enc_u32 (ofNat (val (ofNat v) / 536870912))))] [] (zM <| zE (oCl (r_short (ofNat v) 536870912 (by first | assumption | exact ofNat_dig _ | exact (ofNat_can _).1 | exact (grpI_can _).1) (by omega) (by omega) (by omega))) <| zM <| zE oEx <| zE oEx <| zE (oQd (.sl 147 1 (List.map enc_u32 (ofNat (val (ofNat v) / 536870912)))) (.sl 147 1 (List.map enc_u32 (ofNat (val (ofNat v) / 536870912)))) (oV (vl 147 1 enc_u32 (ofNat (val (ofNat v) / 536870912))) (mv_ok (by kernel_rfl))) (by exact rfl)) <| zZ) ?_
    refine kx [(4, (vi (k + 29)))] [] (zM <| zE (zAd (k + 29)) <| zM <| zZ) ?_
    exact ⟨(val (ofNat v) / 536870912, k + 29), wk, (by rw [ofNat_val]; have h9 := len_gt1 h1; have e := log_29 h9; have e2 := log2_step (x := v) (by omega); exact ⟨⟨by omega, by omega, by omega⟩, by omega⟩), (by dsimp only; rw [ofNat_val]; have h9 := len_gt1 h1; omega)⟩
  · replace h1 := of_decide_eq_false h1
    have hu1 := len_le1 h1
    refine pwp_exit <| pwp_seq <| pwp_seq <| kx [(5, (vqn ((ofNat v).getD 0 0)))] [] (zM <| zE (oCl (r_group (ofNat v) 0 (by first | assumption | exact ofNat_dig _ | exact (ofNat_can _).1 | exact (grpI_can _).1))) <| zM <| zZ) ?_
    refine pwp_block <| pwp_loop (α := Nat × Int) (fun (u, k) => ⟨[(4, (vi k)), (5, (vqn u))], []⟩) (fun (u, k) => (u < 1000000000 ∧ -1 ≤ k ∧ k ≤ 2305843009213693951 - u) ∧ logI z = k + 1 + logN u) (fun (u, k) => u) ((ofNat v).getD 0 0, k) wk (by rw [hu1.1]; exact ⟨⟨hu1.2, hk1, by have := hu1.2; omega⟩, hl⟩) ?_
    rintro ⟨u, k⟩ ⟨⟨hu, hk3, hk4⟩, hl2⟩
    refine pwp_seq <| pwp_seq <| kx [(22, (vb (decide (0 < ((u : Nat) : Int)))))] [] (zM <| zE oGt <| zZ) ?_
    refine pwp_cond (b := decide (0 < ((u : Nat) : Int))) rfl (fun h2 => ?_) (fun h2 => ?_)
    · replace h2 := of_decide_eq_true h2
      refine pwp_skip <| pwp_seq <| pwp_block <| kx [(4, (vi (k + 1)))] [] (zM <| zE (zAd (k + 1)) <| zM <| zZ) ?_
      refine kx [(5, (vqn (u / 2)))] [] (zM <| zE (oQu (u / 2)) <| zM <| zZ) ?_
      exact ⟨(u / 2, k + 1), wk, (by have e := log_1 (v := u) (by omega); exact ⟨⟨by omega, by omega, by omega⟩, by omega⟩), (by first | omega | (dsimp only; omega))⟩
    · replace h2 := of_decide_eq_false h2
      refine pwp_exit <| pwp_seq <| kx [(2, (vi k))] [] (zM <| zM <| zZ) ?_
      refine pwp_ret ⟨_, (.tmp (d := (.val (.int .i64 (k)))) rfl .nil), ?_⟩
      rw [hl2, show u = 0 by omega, show k + 1 + logN 0 = k by show k + 1 + -1 = k; omega]; rfl
end Go.Proofs.YtiooafhcpkdhcaaGreatDoor
