/- Part 34 of a proof: rules, plain facts, and functions walked. -/
import Derived.Test.YtnajallgoaiahaaGreatDoorM33
import Derived.Test.YtnajallgoaiahaaGreatDoorM11
import Derived.Test.YtnajallgoaiahaaGreatDoorM12
import Derived.Test.YtnajallgoaiahaaGreatDoorM21
import Derived.Test.YtnajallgoaiahaaGreatDoorM24
set_option linter.unusedVariables false
set_option linter.unusedSimpArgs false
namespace Go.Fid
def pwS (n i : Nat) : Nat := 2 ^ (n / 2 ^ (13 - i))
theorem pwS_0 {n : Nat} (h : n ≤ 4096) : [1] = ofNat (pwS n 0) := by
  have e : n / 2 ^ (13 - 0) = 0 := Nat.div_eq_of_lt (by show n < 8192; omega)
  unfold pwS; rw [e, Nat.pow_zero, gV (by decide)]
  have : ofNat (1 / 1000000000) = [] := by rw [show 1 / 1000000000 = 0 from rfl, uJ]
  rw [this]
theorem pwS_13 (n : Nat) : pwS n 13 = 2 ^ n := by unfold pwS; simp
theorem bit_eq {i : Nat} (h : i ≤ 12) : 4096 / 2 ^ i = 2 ^ (12 - i) := by
  rw [show (4096 : Nat) = 2 ^ 12 from rfl, Nat.pow_div h (by decide)]
theorem bit_13 : 4096 / 2 ^ 13 = 0 := by decide
theorem bit_pos {i : Nat} (hi : i ≤ 13) (h : (0 : Int) < ((4096 / 2 ^ i : Nat) : Int)) : i < 13 := by
  by_cases e : i = 13
  · subst e; rw [bit_13] at h; omega
  · omega
theorem bit_end {i : Nat} (hi : i ≤ 13) (h : ¬ (0 : Int) < ((4096 / 2 ^ i : Nat) : Int)) : i = 13 := by
  by_cases e : i = 13
  · exact e
  · rw [bit_eq (by omega)] at h
    have := Nat.pow_pos (n := 12 - i) (show 0 < 2 by decide)
    omega
theorem bit_half (i : Nat) : 4096 / 2 ^ i / 2 = 4096 / 2 ^ (i + 1) := by rw [Nat.div_div_eq_div_mul, Nat.pow_succ]
theorem pw_half {n i : Nat} (hi : i < 13) : n / 2 ^ (12 - i) = 2 * (n / 2 ^ (13 - i)) + n / 2 ^ (12 - i) % 2 := by
  have e : n / 2 ^ (13 - i) = n / 2 ^ (12 - i) / 2 := by
    rw [Nat.div_div_eq_div_mul, ← Nat.pow_succ, show (12 - i).succ = 13 - i by omega]
  rw [e]; omega
theorem pwS_even {n i : Nat} (hi : i < 13) (h : (n &&& 4096 / 2 ^ i) = 0) : pwS n i * pwS n i = pwS n (i + 1) := by
  rw [bit_eq (by omega), bit_and] at h
  have e := pw_half (n := n) hi
  unfold pwS
  rw [show 13 - (i + 1) = 12 - i by omega, e, h, Nat.add_zero, Nat.two_mul, Nat.pow_add]
theorem pwS_odd {n i : Nat} (hi : i < 13) (h : ¬ (n &&& 4096 / 2 ^ i) = 0) : pwS n i * pwS n i * 2 = pwS n (i + 1) := by
  rw [bit_eq (by omega), bit_and] at h
  have e := pw_half (n := n) hi
  have h2 : n / 2 ^ (12 - i) % 2 = 1 := by omega
  unfold pwS
  rw [show 13 - (i + 1) = 12 - i by omega, e, h2, Nat.pow_add, Nat.two_mul, Nat.pow_add, Nat.pow_one]
theorem two_pw (e : Nat) : 2 ^ e < pw (e + 1) := by
  induction e with
  | zero => simp [pw]
  | succ e ih => rw [Nat.pow_succ, uT]; omega
theorem len_two (e : Nat) : (ofNat (2 ^ e)).length ≤ e + 1 := qY (two_pw e)
theorem len_pwS {n : Nat} (h : n ≤ 4096) (i : Nat) : (ofNat (pwS n i)).length ≤ 4097 := by
  have := len_two (n / 2 ^ (13 - i))
  have h2 : n / 2 ^ (13 - i) ≤ n := Nat.div_le_self _ _
  unfold pwS; omega
theorem g2 : kY (kJ 2) = [2] := by
  rw [grpI_ofZ]
  show ofNat 2 = [2]
  rw [gV (by decide), show 2 / 1000000000 = 0 from rfl, uJ]
theorem g2n : ofNat (Int.natAbs 2) = [2] := by rw [← grpI_ofZ]; exact g2
theorem g2len : (kJ 2).gs.length = 1 := by
  show (ofNat 2).length = 1
  rw [show ofNat 2 = [2] from g2n]; rfl
theorem neg2 : (kJ 2).neg = false := rfl
theorem len_sq {n i : Nat} {out : List Nat} (hv : val out = pwS n i) (hn : n ≤ 4096) (hi : i < 13) : (ofNat (val out * val out)).length ≤ 8195 := by
  rw [hv]
  unfold pwS
  rw [← Nat.pow_add]
  have := len_two (n / 2 ^ (13 - i) + n / 2 ^ (13 - i))
  have h2 : n / 2 ^ (13 - i) ≤ n := Nat.div_le_self _ _
  omega
theorem mk_two (n : Nat) : vV false (val (ofNat (pwS n 13))) = kJ ((2 ^ n : Nat) : Int) := by
  rw [kI, pwS_13]
  unfold kJ
  rw [Int.natAbs_natCast, decide_eq_false (Int.not_lt.2 (Int.natCast_nonneg _))]
def qE (z : Int) : Int := ((rootN z.toNat : Nat) : Int)
theorem rootI_0 (z : Int) : 0 ≤ qE z := Int.natCast_nonneg _
theorem rootI_le {z : Int} (h : 0 ≤ z) : qE z * qE z ≤ z := by
  obtain ⟨x, rfl⟩ := Int.eq_ofNat_of_zero_le h
  have := rootN_le x
  unfold qE; rw [Int.toNat_natCast]
  have e : ((rootN x * rootN x : Nat) : Int) ≤ (x : Int) := by omega
  simpa using e
theorem lt_rootI {z : Int} (h : 0 ≤ z) : z < (qE z + 1) * (qE z + 1) := by
  obtain ⟨x, rfl⟩ := Int.eq_ofNat_of_zero_le h
  have := lt_rootN x
  unfold qE; rw [Int.toNat_natCast]
  have e : (x : Int) < (((rootN x + 1) * (rootN x + 1) : Nat) : Int) := by omega
  simpa using e
theorem rootI_self {z : Int} (h : 0 ≤ z) : qE z ≤ z := by
  have h1 := rootI_le h
  have h2 := rootI_0 z
  by_cases h3 : qE z = 0
  · omega
  · have : qE z * 1 ≤ qE z * qE z := Int.mul_le_mul_of_nonneg_left (by omega) h2
    omega
theorem iok_root {z : Int} {n : Nat} {x : jE} (h : 0 ≤ z) (hz : yK x z n) : yK (kJ (qE z)) (qE z) n := nR (Nat.le_trans (dX (by have := rootI_0 z; have := rootI_self h; omega)) hz.ln)
theorem nw_val (X : Nat) (r : List Nat) : val (ofNat (val (ofNat (val r + val (ofNat (val (ofNat X) / val r)))) / 2)) = (val r + X / val r) / 2 := by
  rw [kI, kI, kI, kI]
theorem val_app (a b : List Nat) : val (a ++ b) = val a + pw a.length * val b := by
  induction a with
  | nil => simp [val, pw]
  | cons d a ih =>
    show d + 1000000000 * val (a ++ b) = d + 1000000000 * val a + pw (a.length + 1) * val b
    rw [ih, uT, Nat.mul_add, Nat.mul_assoc]; omega
theorem val_zeros (n : Nat) : val (List.replicate n 0) = 0 := by
  induction n with
  | zero => rfl
  | succ n ih => rw [List.replicate_succ]; show 0 + 1000000000 * val (List.replicate n 0) = 0; rw [ih]
theorem nw_start (n : Nat) : val (List.replicate n 0 ++ [1]) = pw n := by
  rw [val_app, val_zeros, List.length_replicate]
  show 0 + pw n * (1 + 1000000000 * 0) = pw n
  omega
theorem nw_cano (n : Nat) : xT (List.replicate n 0 ++ [1]) := by
  refine ⟨fun d hd => ?_, ?_⟩
  · rcases List.mem_append.1 hd with h | h
    · rw [(List.mem_replicate.1 h).2]; decide
    · rw [List.mem_singleton.1 h]; decide
  · unfold Top
    rw [List.getD_eq_getElem?_getD]
    simp
theorem nw_top {X : Nat} : X < (val (List.replicate (((ofNat X).length + 1) / 2) 0 ++ [1]) + 1) * (val (List.replicate (((ofNat X).length + 1) / 2) 0 ++ [1]) + 1) := by
  rw [nw_start]
  have h := eL X
  have h2 : pw (ofNat X).length ≤ pw (((ofNat X).length + 1) / 2 + ((ofNat X).length + 1) / 2) := by unfold pw; exact Nat.pow_le_pow_right (by decide) (by omega)
  rw [pw_add] at h2
  have h3 : pw (((ofNat X).length + 1) / 2) * pw (((ofNat X).length + 1) / 2) ≤ (pw (((ofNat X).length + 1) / 2) + 1) * (pw (((ofNat X).length + 1) / 2) + 1) := Nat.mul_le_mul (by omega) (by omega)
  omega
theorem cmpI_ge0 {a b : Int} : 0 ≤ uY a b ↔ b ≤ a := by
  unfold uY
  by_cases h : a < b
  · rw [if_pos h]; omega
  · rw [if_neg h]; split <;> omega
theorem nw_end {z : Int} {r : List Nat} (z0 : 0 ≤ z) (h0 : 0 < val r) (hu : z.natAbs < (val r + 1) * (val r + 1)) (h : val r ≤ (val r + z.natAbs / val r) / 2) : vV false (val r) = kJ (qE z) := by
  have e := newton_root h0 hu h
  obtain ⟨x, rfl⟩ := Int.eq_ofNat_of_zero_le z0
  rw [Int.natAbs_natCast] at e
  unfold qE kJ
  rw [Int.toNat_natCast, ← e, Int.natAbs_natCast, decide_eq_false (by omega)]
theorem two_pos (n : Nat) : (0 : Int) < ((2 ^ n : Nat) : Int) := by
  have := Nat.pow_pos (n := n) (show 0 < 2 by decide)
  exact Int.natCast_pos.2 this
theorem neg_abs {z : Int} (z0 : 0 ≤ z) (h : (kJ z).neg = true) : False := by
  have : (decide (z < 0) && z.natAbs != 0) = true := h
  rw [decide_eq_false (show ¬ z < 0 by omega)] at this
  cases this
theorem root_nil {z : Int} (h : (((ofNat z.natAbs).length : Nat) : Int) = ((0 : Nat) : Int)) : kJ (qE z) = jE.mk false [] := by
  have e : ofNat z.natAbs = [] := List.eq_nil_of_length_eq_zero (by omega)
  have e2 := fQ.1 e
  have e3 : z = 0 := by omega
  subst e3
  have : qE 0 = 0 := by
    have := rootI_self (z := 0) (by decide); have := rootI_0 0; omega
  rw [this]
  show jE.mk (decide ((0 : Int) < 0) && (Int.natAbs 0 != 0)) (ofNat (Int.natAbs 0)) = _
  rw [show Int.natAbs 0 = 0 from rfl, uJ]; rfl
theorem nw_ok (X : Nat) {r : List Nat} (hr : 0 < val r) (hX : 0 < X) (hc : ¬ (0 : Int) ≤ uY (((val (ofNat (val (ofNat (val r + val (ofNat (val (ofNat X) / val r)))) / 2)) : Nat)) : Int) ((val r : Nat) : Int)) :
    xT (ofNat (val (ofNat (val r + val (ofNat (val (ofNat X) / val r)))) / 2)) ∧ 0 < val (ofNat (val (ofNat (val r + val (ofNat (val (ofNat X) / val r)))) / 2)) ∧ X < (val (ofNat (val (ofNat (val r + val (ofNat (val (ofNat X) / val r)))) / 2)) + 1) * (val (ofNat (val (ofNat (val r + val (ofNat (val (ofNat X) / val r)))) / 2)) + 1) ∧ val (ofNat (val (ofNat (val r + val (ofNat (val (ofNat X) / val r)))) / 2)) < val r := by
  rw [cmpI_ge0, nw_val] at hc
  refine ⟨qG _, ?_, ?_, ?_⟩
  · rw [nw_val]; exact newton_pos hX hr
  · rw [nw_val]; exact newton_up hr
  · rw [nw_val]; omega
theorem nw_stop {X : Nat} {r : List Nat} (hc : (0 : Int) ≤ uY (((val (ofNat (val (ofNat (val r + val (ofNat (val (ofNat X) / val r)))) / 2)) : Nat)) : Int) ((val r : Nat) : Int)) : val r ≤ (val r + X / val r) / 2 := by
  rw [cmpI_ge0, nw_val] at hc; omega
theorem can_len {r s : List Nat} (hr : xT r) (hs : xT s) (h : val r ≤ val s) : r.length ≤ s.length := by
  rw [can_eq hr, can_eq hs]; exact vA h
theorem nw_lens {X : Nat} {r : List Nat} (hx : (ofNat X).length ≤ 400) (hr : r.length ≤ 400) (hc : xT r) : (ofNat (val (ofNat X) / val r)).length ≤ 400 ∧ (ofNat (val r + val (ofNat (val (ofNat X) / val r)))).length ≤ 401 ∧ (ofNat (val (ofNat (val r + val (ofNat (val (ofNat X) / val r)))) / 2)).length ≤ 401 := by
  have h1 : (ofNat (val (ofNat X) / val r)).length ≤ 400 := by
    rw [kI]; exact Nat.le_trans (vA (Nat.div_le_self _ _)) hx
  have h2 : (ofNat (val r + val (ofNat (val (ofNat X) / val r)))).length ≤ 401 := by
    apply qY
    have a1 := vQ hc.1
    have a2 := eL (val (ofNat X) / val r)
    have a3 : pw r.length ≤ pw 400 := yQ hr
    have a4 : pw (ofNat (val (ofNat X) / val r)).length ≤ pw 400 := yQ h1
    rw [kI (val (ofNat X) / val r), uT]
    omega
  refine ⟨h1, h2, ?_⟩
  have h3 := kI (val r + val (ofNat (val (ofNat X) / val r)))
  exact Nat.le_trans (vA (by rw [h3]; exact Nat.div_le_self _ _)) h2
theorem mY {k : Nat} (h : k ≤ 512) : yK (kJ ((2 ^ k : Nat) : Int)) ((2 ^ k : Nat) : Int) 20 := nR (by
  rw [mB, Int.natAbs_natCast]
  refine Nat.lt_of_le_of_lt (Nat.pow_le_pow_right (by decide) h) ?_
  unfold pw
  decide +kernel)
theorem dG {k : Nat} (h : k ≤ 512) : QL (((2 ^ k : Nat) : Int) : Rat) 20 := yW (mY h).ln (by decide)
def yV (x : Rat) : Int := x.num.fdiv ((x.den : Nat) : Int)
theorem eU {x : Rat} {n k : Nat} (h : QL x n) (hk : n + 1 ≤ k) : yK (kJ (yV x)) (yV x) k := nR (Nat.le_trans (lenZ_fdiv _ _) (Nat.le_trans (Nat.succ_le_succ h.1) hk))
theorem flZ_floor (x : Rat) : yV x = x.floor := by
  unfold yV; rw [Rat.floor_def, Int.fdiv_eq_ediv_of_nonneg _ (by omega)]
theorem fl_nn {x : Rat} (h : 0 ≤ x) : 0 ≤ yV x := by
  rw [flZ_floor, Rat.le_floor_iff]; exact h
theorem fE {x : Rat} {k : Nat} (h : 0 ≤ x) : 0 ≤ x * ((((2 ^ k : Nat) : Int) : Rat) * (((2 ^ k : Nat) : Int) : Rat)) := by
  have h2 : (0 : Rat) ≤ (((2 ^ k : Nat) : Int) : Rat) := by
    rw [← Rat.intCast_zero]; exact Rat.intCast_le_intCast.2 (Int.le_of_lt (two_pos k))
  exact Rat.mul_nonneg h (Rat.mul_nonneg h2 h2)
theorem sgn_nn {x : Rat} (h : 0 ≤ x) : ¬ (vT x) < 0 := by
  unfold vT
  have h2 : 0 ≤ x.num := Rat.num_nonneg.2 h
  unfold uB
  by_cases e : x.num = 0
  · rw [if_pos e]; decide
  · rw [if_neg e, if_neg (by omega)]; decide
def upI (y : Rat) : Int := if ((qE (yV y) * qE (yV y) : Int) : Rat) < y then qE (yV y) + 1 else qE (yV y)
theorem iok_upI {y : Rat} {n k : Nat} (h : 0 ≤ yV y) (hz : yK (kJ (yV y)) (yV y) n) (hk : n + 1 ≤ k) (hn : 1 ≤ n) : yK (kJ (upI y)) (upI y) k := nR (by
  have h1 := (iok_root h hz).ln
  unfold upI
  by_cases e : ((qE (yV y) * qE (yV y) : Int) : Rat) < y
  · rw [if_pos e]
    exact lenZ_add h1 (yH (z := 1) (by decide)) (by omega)
  · rw [if_neg e]; omega)
theorem cmpQ_ltR {a b : Rat} : yE a b < 0 ↔ a < b := by
  unfold yE
  by_cases h : a < b
  · rw [if_pos h]; exact ⟨fun _ => h, fun _ => by decide⟩
  · rw [if_neg h]; refine ⟨fun hh => ?_, fun hh => absurd hh h⟩
    by_cases h2 : b < a
    · rw [if_pos h2] at hh; exact absurd hh (by decide)
    · rw [if_neg h2] at hh; exact absurd hh (by decide)
theorem upI_t {y : Rat} (h : yE ((qE (yV y) * qE (yV y) : Int) : Rat) y < 0) : upI y = qE (yV y) + 1 := if_pos (cmpQ_ltR.1 h)
theorem upI_f {y : Rat} (h : ¬ yE ((qE (yV y) * qE (yV y) : Int) : Rat) y < 0) : upI y = qE (yV y) := if_neg (fun hh => h (cmpQ_ltR.2 hh))
theorem p2_ne (k : Nat) : (((2 ^ k : Nat) : Int) : Rat) ≠ 0 := by
  intro h
  have : ((2 ^ k : Nat) : Int) = 0 := by rw [← Rat.intCast_zero] at h; exact Rat.intCast_inj.1 h
  have := two_pos k; omega
theorem divP (a : Int) (k : Nat) : Rat.divInt a ((2 ^ k : Nat) : Int) = ((a : Int) : Rat) / (((2 ^ k : Nat) : Int) : Rat) := by rw [Rat.divInt_eq_div]
theorem p2_pos (k : Nat) : (0 : Rat) < (((2 ^ k : Nat) : Int) : Rat) := by
  rw [← Rat.intCast_zero]; exact Rat.intCast_lt_intCast.2 (two_pos k)
theorem divP_le {a : Int} {k : Nat} {c : Rat} (h : ((a : Int) : Rat) ≤ c * (((2 ^ k : Nat) : Int) : Rat)) : Rat.divInt a ((2 ^ k : Nat) : Int) ≤ c := by
  rw [divP, ← Rat.not_lt, Rat.lt_div_iff (p2_pos k), Rat.not_lt]; exact h
theorem flZ_le (x : Rat) : ((yV x : Int) : Rat) ≤ x := by rw [flZ_floor]; exact Rat.floor_le x
theorem divP_mul (a : Int) (k : Nat) : Rat.divInt a ((2 ^ k : Nat) : Int) * (((2 ^ k : Nat) : Int) : Rat) = ((a : Int) : Rat) := by
  rw [divP, Rat.div_mul_cancel (p2_ne k)]
theorem rt_lo {y : Rat} (hy : 0 ≤ y) : ((qE (yV y) * qE (yV y) : Int) : Rat) ≤ y := Rat.le_trans (Rat.intCast_le_intCast.2 (rootI_le (fl_nn hy))) (flZ_le y)
theorem upI_nn (y : Rat) : 0 ≤ upI y := by
  have := rootI_0 (yV y)
  unfold upI; split <;> omega
theorem rt_hi {y : Rat} (hy : 0 ≤ y) : y ≤ ((upI y * upI y : Int) : Rat) := by
  unfold upI
  by_cases e : ((qE (yV y) * qE (yV y) : Int) : Rat) < y
  · rw [if_pos e]
    have h1 := lt_rootI (fl_nn hy)
    have h2 : y < ((yV y + 1 : Int) : Rat) := by rw [flZ_floor]; exact Rat.lt_floor_add_one y
    exact Rat.le_trans (Rat.le_of_lt h2) (Rat.intCast_le_intCast.2 h1)
  · rw [if_neg e]; exact Rat.not_lt.1 e
theorem sq_int {a b : Int} (b0 : 0 ≤ b) (h : a * a ≤ b * b) : a ≤ b := by
  by_cases hh : a ≤ b
  · exact hh
  · have h1 : b < a := by omega
    have h2 : b * b < a * a := by
      have q1 : b * b ≤ b * a := Int.mul_le_mul_of_nonneg_left (by omega) b0
      have q2 : b * a < a * a := Int.mul_lt_mul_of_pos_right h1 (by omega)
      omega
    omega
theorem rt_valid {p q : Rat} (k : Nat) (hp : 0 ≤ p) (h : p ≤ q) : Rat.divInt (qE (yV (p * ((((2 ^ k : Nat) : Int) : Rat) * (((2 ^ k : Nat) : Int) : Rat))))) ((2 ^ k : Nat) : Int) ≤ Rat.divInt (upI (q * ((((2 ^ k : Nat) : Int) : Rat) * (((2 ^ k : Nat) : Int) : Rat)))) ((2 ^ k : Nat) : Int) := by
  refine divP_le ?_
  rw [divP_mul]
  refine Rat.intCast_le_intCast.2 (sq_int (upI_nn _) (Rat.intCast_le_intCast.1 ?_))
  have hq : 0 ≤ q := Rat.le_trans hp h
  have hPP : (0 : Rat) ≤ (((2 ^ k : Nat) : Int) : Rat) * (((2 ^ k : Nat) : Int) : Rat) := Rat.mul_nonneg (Rat.le_of_lt (p2_pos k)) (Rat.le_of_lt (p2_pos k))
  exact Rat.le_trans (rt_lo (fE hp)) (Rat.le_trans (Rat.mul_le_mul_of_nonneg_right h hPP) (rt_hi (fE hq)))
end Go.Fid
namespace Go.Proofs.YtnajallgoaiahaaGreatDoor
open Go.Fid
set_option maxRecDepth 4000
set_option linter.unusedVariables false
set_option linter.unusedSimpArgs false
theorem cb256 : callB Tryz.prog 256 = true := by kernel_rfl
theorem cb265 : callB Tryz.prog 265 = true := by kernel_rfl
theorem cb268 : callB Tryz.prog 268 = true := by kernel_rfl
theorem cb271 : callB Tryz.prog 271 = true := by kernel_rfl
theorem cb272 : callB Tryz.prog 272 = true := by kernel_rfl
theorem cb273 : callB Tryz.prog 273 = true := by kernel_rfl
theorem in3 : intB Tryz.prog 3 = some .i64 := by kernel_rfl
theorem st9 : strB Tryz.prog 9 = true := by kernel_rfl
theorem d_small  : jW Tryz.prog 273 [(.val (.int .i64 (((2 : Nat) : Int))))] (.val (.string (ByteArray.mk #[50]))) := by
 refine jM Tryz.func273 rfl cb273 rfl ?_
 show qJ _ _ _ _ ⟨[(0, (jN 2))], []⟩
 refine jB <| kx [] [] (zM <| zZ) ?_
 refine jB <| jB <| kx [(4, (vb true))] [] (zM <| zE (uX true vW) <| zZ) ?_
 refine qL ?_
 refine jB <| kx [(2, (.d (.val (.string (ByteArray.mk #[50])))))] [] (zM <| zM <| zE (vJ 3 (hr := by decide)) <| zE (oSstr (l := 2) (h := 3) (r := ByteArray.mk #[50]) st9) <| zM <| zZ) ?_
 refine jH ⟨_, (.tmp (d := (.val (.string (ByteArray.mk #[50])))) rfl .nil), ?_⟩
 rfl
theorem d_fmt  : jW Tryz.prog 272 [(.val (.int .i64 (((2 : Nat) : Int)))), (.val (.int .i64 (((10 : Nat) : Int))))] (.val (.string (ByteArray.mk #[50]))) := by
 refine jM Tryz.func272 rfl cb272 rfl ?_
 show qJ _ _ _ _ ⟨[(0, (jN 2)), (1, (jN 10))], []⟩
 refine jB <| kx [] [] (zM <| zZ) ?_
 refine jB <| jB <| kx [(11, (vb true))] [] (zM <| zE (uX true gJ) <| zZ) ?_
 refine qL ?_
 refine jB <| jB <| kx [(17, (vb true))] [] (zM <| zE (uX true oLe) <| zM <| zM <| zE (uX true vW) <| zE cR <| zZ) ?_
 refine qL ?_
 refine jB <| kx [(4, (.d (.val (.string (ByteArray.mk #[50])))))] [] (zM <| zE (kG d_small) <| zM <| zZ) ?_
 refine jH ⟨_, (.tmp (d := (.val (.string (ByteArray.mk #[50])))) rfl .nil), ?_⟩
 rfl
theorem d_itoaI  : jW Tryz.prog 271 [(.val (.int .i64 (((2 : Nat) : Int))))] (.val (.string (ByteArray.mk #[50]))) := by
 refine jM Tryz.func271 rfl cb271 rfl ?_
 show qJ _ _ _ _ ⟨[(0, (jN 2))], []⟩
 refine jB <| kx [] [] (zM <| zZ) ?_
 refine jB <| kx [(2, (.d (.val (.string (ByteArray.mk #[50])))))] [] (zM <| zE (kG d_fmt) <| zM <| zZ) ?_
 refine jH ⟨_, (.tmp (d := (.val (.string (ByteArray.mk #[50])))) rfl .nil), ?_⟩
 rfl
theorem d_itoa  : jW Tryz.prog 268 [(.val (.int .i64 (((2 : Nat) : Int))))] (.val (.string (ByteArray.mk #[50]))) := by
 refine jM Tryz.func268 rfl cb268 rfl ?_
 show qJ _ _ _ _ ⟨[(0, (jN 2))], []⟩
 refine jB <| kx [] [] (zM <| zZ) ?_
 refine jB <| kx [(2, (.d (.val (.string (ByteArray.mk #[50])))))] [] (zM <| zE (kG d_itoaI) <| zM <| zZ) ?_
 refine jH ⟨_, (.tmp (d := (.val (.string (ByteArray.mk #[50])))) rfl .nil), ?_⟩
 rfl
theorem d_digits  : jW Tryz.prog 265 [(.sl 140 1 (List.map jD [2]))] (.val (.int .i64 (((1 : Nat) : Int)))) := by
 refine jM Tryz.func265 rfl cb265 rfl ?_
 show qJ _ _ _ _ ⟨[(0, (vl 140 1 jD [2]))], []⟩
 refine jB <| kx [] [] (zM <| zZ) ?_
 refine jB <| jB <| kx [(5, (vb false))] [] (zM <| zE (oLn kN 1) <| zE (uX false gJ) <| zZ) ?_
 refine kO ?_
 refine jF <| jB <| kx [(2, (jN 1))] [] (zM <| zE (oLn kN 1) <| zE (oSb 0 (hr := by decide)) <| zE (oMl 0 (hr := by decide)) <| zM <| zM <| zE (oLn kN 1) <| zE (oSb 0 (hr := by decide)) <| zE (oXs kN 0) <| zE (gK qV) <| zE (nX yB in3 2) <| zE (kG d_itoa) <| zE (oLstr st9 1) <| zE (vJ 1 (hr := by decide)) <| zM <| zZ) ?_
 refine jH ⟨_, (.tmp (d := (.val (.int .i64 (((1 : Nat) : Int))))) rfl .nil), ?_⟩
 rfl
theorem d_pow (n : Nat) (hn : n ≤ 1024) : jW Tryz.prog 256 [(jQ (kJ 2)), (.val (.int .i64 (((n : Nat) : Int))))] (.tup [(jQ (kJ ((2 ^ n : Nat) : Int))), (.val (.int .i64 (0)))]) := by
 have hg2 := g2len
 refine jM Tryz.func256 rfl cb256 rfl ?_
 show qJ _ _ _ _ ⟨[(0, (.d (jQ (kJ 2)))), (1, (jN n))], []⟩
 refine jB <| kx [(2, (.ref 0 0)), (4, (.ref 1 0))] [(0, some (bx (jQ (kJ 2)))), (1, some (bx (jQ (jE.mk false []))))] (zN (uZ 0) <| zN (qS 1 zJ zL) <| zM <| zZ) ?_
 refine jB <| kx [(6, (vl 140 1 jD [2]))] [] (zR (kK kB) <| zE (oQd (.sl 140 1 (List.map jD (kY (kJ 2)))) (.sl 140 1 (List.map jD [2])) (kG (yP (kJ 2) (by omega))) (by exact (congrArg (fun l => jV.sl 140 1 (List.map jD l)) g2))) <| zM <| zZ) ?_
 refine jB <| jI <| jB <| kx [(11, (vb false))] [] (zM <| zE (uX false vW (by exact decide_eq_false (show ¬ ((n : Nat) : Int) < 0 by omega))) <| zM <| zM <| zE (uX false yN (by exact decide_eq_false (show ¬ 4096 < ((n : Nat) : Int) by omega))) <| zE nA <| zM <| zZ) ?_
 refine kO ?_
 refine jB <| kx [(19, (vb false))] [] (zM <| zM <| zE (kG d_digits) <| zE (oMl (n * 1)) <| zE (uX false yN (by exact decide_eq_false (show ¬ 20000 < (((n * 1) : Nat) : Int) by omega))) <| zM <| zZ) ?_
 refine kO ?_
 refine jF <| jB <| kx [(7, (vl 140 1 jD [1]))] [] (zE (nU kN vF xX) <| zM <| zZ) ?_
 refine jB <| jB <| kx [(8, (jN 4096))] [] (zM <| zZ) ?_
 refine jI <| kU (α := Nat × Nat × List Nat) (fun (i, b, out) => ⟨[(1, (jN n)), (2, (.ref 0 0)), (4, (.ref 1 0)), (6, (vl 140 1 jD [2])), (7, (vl 140 1 jD out)), (8, (jN b))], [(0, some (bx (jQ (kJ 2)))), (1, some (bx (jQ (jE.mk false []))))]⟩) (fun (i, b, out) => i ≤ 13 ∧ b = 4096 / 2 ^ i ∧ out = ofNat (pwS n i)) (fun (i, b, out) => 13 - i) (0, 4096, [1]) wk ⟨Nat.zero_le _, rfl, pwS_0 (by omega)⟩ ?_
 rintro ⟨i, b, out⟩ ⟨hi, hbi, ho⟩
 have hdo : Dig out := ho ▸ kL _
 have hlo : out.length ≤ 4097 := ho ▸ len_pwS (by omega) i
 have hdt : Dig [2] := by intro d hd; rw [List.mem_singleton.1 hd]; decide
 have hvo : val out = pwS n i := by rw [ho, kI]
 have hbl : b ≤ 4096 := hbi ▸ Nat.div_le_self _ _
 have hdq : Dig (ofNat (val out * val out)) := kL _
 have hl2 : [2].length ≤ 1 := Nat.le_refl _
 refine jB <| jB <| kx [(28, (vb (decide (0 < ((b : Nat) : Int)))))] [] (zM <| zE yN <| zZ) ?_
 refine jK (b := decide (0 < ((b : Nat) : Int))) rfl (fun h1 => ?_) (fun h1 => ?_)
 ·replace h1 := of_decide_eq_true h1
  have hi2 := bit_pos hi (hbi ▸ h1)
  have hlq := len_sq hvo (show n ≤ 4096 by omega) hi2
  refine jF <| jB <| jI <| jB <| kx [(7, (vl 140 1 jD (ofNat (val out * val out))))] [] (zM <| zM <| zE (kG (t_times out out (by assumption) (by assumption) (by omega) (by omega))) <| zM <| zZ) ?_
  refine jB <| kx [(37, (vb ((((n &&& b) : Nat) : Int) != 0)))] [] (zM <| zM <| zE (oAb (n &&& b)) <| zE oNe <| zZ) ?_
  refine jK (b := ((((n &&& b) : Nat) : Int) != 0)) rfl (fun h2 => ?_) (fun h2 => ?_)
  ·replace h2 := bne_iff_ne.1 h2
   refine kx [(7, (vl 140 1 jD (ofNat (val (ofNat (val out * val out)) * val [2]))))] [] (zM <| zM <| zE (kG (t_times (ofNat (val out * val out)) [2] (by assumption) (by assumption) (by omega) (by omega))) <| zM <| zZ) ?_
   refine kx [(8, (jN (b / 2)))] [] (zM <| zE (e_shr (n := 1) (((b / 2) : Nat) : Int) (hr := shr1 _)) <| zM <| zZ) ?_
   exact ⟨(i + 1, b / 2, ofNat (val (ofNat (val out * val out)) * val [2])), wk, ⟨by omega, by rw [hbi]; exact bit_half i, by rw [kI, hvo, ← pwS_odd hi2 (by rw [← hbi]; omega)]; rfl⟩, (by first | omega | (dsimp only; omega))⟩
  ·replace h2 := bne_eq_false_iff_eq.1 h2
   refine jF <| kx [(8, (jN (b / 2)))] [] (zM <| zE (e_shr (n := 1) (((b / 2) : Nat) : Int) (hr := shr1 _)) <| zM <| zZ) ?_
   exact ⟨(i + 1, b / 2, ofNat (val out * val out)), wk, ⟨by omega, by rw [hbi]; exact bit_half i, by rw [hvo, pwS_even hi2 (by rw [← hbi]; omega)]⟩, (by first | omega | (dsimp only; omega))⟩
 ·replace h1 := of_decide_eq_false h1
  have hi13 := bit_end hi (hbi ▸ h1)
  refine kP <| jB <| kx [(5, (jN 0))] [(1, some (bx (jQ (vV ((kJ 2).neg && ((((n % 2) : Nat) : Int) == 1)) (val out)))))] ?_ ?_
  ·refine zE (qC vN) <| zR (uC sh4) <| zE (oV (vb ((kJ 2).neg)) (uA (by kernel_rfl))) <| ?_
   rcases hb3 : ((kJ 2).neg) with _ | _
   ·exact zK <| zK <| zK <| zE nA <| zM <| zE (kG (nQ false out (by assumption) (by omega))) <| zT (qF kB) <| zM <| zZ
   ·exact zM <| zE (oRe (n % 2)) <| zE gJ <| zE oPa <| zM <| zE (kG (nQ (true && ((((n % 2) : Nat) : Int) == 1)) out (by assumption) (by omega))) <| zT (qF kB) <| zM <| zZ
  refine jH ⟨_, (qA (cs := (bx (jQ (vV ((kJ 2).neg && ((((n % 2) : Nat) : Int) == 1)) (val out))))) (d := (jQ (vV ((kJ 2).neg && ((((n % 2) : Nat) : Int) == 1)) (val out)))) rfl rfl kB rfl rfl (.tmp (d := (.val (.int .i64 (0)))) rfl .nil)), ?_⟩
  rw [ho, hi13, neg2, Bool.false_and, mk_two]; rfl
end Go.Proofs.YtnajallgoaiahaaGreatDoor
namespace Go.Proofs.YtnajallgoaiahaaGreatDoor
open Go.Fid
set_option maxRecDepth 4000
set_option linter.unusedVariables false
set_option linter.unusedSimpArgs false
theorem cb231 : callB Tryz.prog 231 = true := by kernel_rfl
theorem d_root (z : Int) (hz : yK (kJ z) z 200) (hz0 : 0 ≤ z) : jW Tryz.prog 231 [(jQ (kJ z))] (.tup [(jQ (kJ (qE z))), (.val (.int .i64 (0)))]) := by
 have hzl : (ofNat z.natAbs).length ≤ 200 := hz.ln
 have hzg := hz.l
 refine jM Tryz.func231 rfl cb231 rfl ?_
 show qJ _ _ _ _ ⟨[(0, (.d (jQ (kJ z))))], []⟩
 refine jB <| kx [(1, (.ref 0 0)), (2, (.ref 1 0))] [(0, some (bx (jQ (kJ z)))), (1, some (bx (jQ (jE.mk false []))))] (zN (uZ 0) <| zN (qS 1 zJ zL) <| zM <| zZ) ?_
 refine jB <| kx [(4, (vl 140 1 jD (ofNat (Int.natAbs z))))] [] (zR (kK kB) <| zE (oQd (.sl 140 1 (List.map jD (kY (kJ z)))) (.sl 140 1 (List.map jD (ofNat (Int.natAbs z)))) (kG (yP (kJ z) (by omega))) (by exact (congrArg (fun l => jV.sl 140 1 (List.map jD l)) (grpI_ofZ z)))) <| zM <| zZ) ?_
 refine jB <| jB <| kx [(14, (vb ((((ofNat (Int.natAbs z)).length : Nat) : Int) == 0)))] [] (zM <| zE (zB kN (L := (ofNat (Int.natAbs z)))) <| zE gJ <| zZ) ?_
 refine jK rfl (fun h1 => ?_) (fun h1 => ?_)
 ·replace h1 := eq_of_beq h1
  refine jB <| kx [(3, (jN 0))] [(1, some (bx (jQ (jE.mk false []))))] (zE (fM pl43 zJ zL) <| zT (qF kB) <| zM <| zZ) ?_
  refine jH ⟨_, (qA (cs := (bx (jQ (jE.mk false [])))) (d := (jQ (jE.mk false []))) rfl rfl kB rfl rfl (.tmp (d := (.val (.int .i64 (0)))) rfl .nil)), ?_⟩
  rw [root_nil h1]; rfl
 ·replace h1 := ne_of_beq_false h1
  refine jF <| jB <| jB <| kx [(17, (vb ((kJ z).neg)))] [] (zE (qC vN) <| zR (uC sh4) <| zZ) ?_
  refine jK (b := (kJ z).neg) rfl (fun h2 => ?_) (fun h2 => ?_)
  ·exact (neg_abs hz0 h2).elim
  ·have hX : 0 < z.natAbs := by rcases Nat.eq_zero_or_pos z.natAbs with e | e; exact absurd (by rw [e, uJ]; rfl) h1; exact e
   refine jF <| jB <| kf [(5, (.own 2 140 1 (((List.replicate (((ofNat (Int.natAbs z)).length + 1) / 2) 0) ++ [1]).length)))] [(2, some (bm jD ((List.replicate (((ofNat (Int.natAbs z)).length + 1) / 2) 0) ++ [1])))] (zM <| zE (zB kN (L := (ofNat (Int.natAbs z)))) <| zE (vJ ((ofNat (Int.natAbs z)).length + 1)) <| zE (oQu (((ofNat (Int.natAbs z)).length + 1) / 2)) <| zN (oMk 2 jD (0 : Nat) (((ofNat (Int.natAbs z)).length + 1) / 2) (((ofNat (Int.natAbs z)).length + 1) / 2) kN vF xX gS) <| zE (nU kN vF xX) <| zA jD (List.replicate (((ofNat (Int.natAbs z)).length + 1) / 2) 0) [1] (by rw [List.length_replicate]) kN vF gS <| zM <| zF) ?_
   refine jI <| kA (xF (t := 5) (k := 2) (es := List.map jD ((List.replicate (((ofNat (Int.natAbs z)).length + 1) / 2) 0) ++ [1])) rfl rfl (uG _ _ (fun _ => rfl)) (qZ _ _ rfl) (uU _ _ (fun _ => rfl) rfl)) ?_
   refine kU (α := List Nat) (fun r => ⟨[(2, (.ref 1 0)), (4, (vl 140 1 jD (ofNat (Int.natAbs z)))), (5, (vl 140 1 jD r))], [(1, some (bx (jQ (jE.mk false []))))]⟩) (fun r => (xT r ∧ 0 < val r ∧ z.natAbs < (val r + 1) * (val r + 1)) ∧ r.length ≤ 400) (fun r => val r) (List.replicate (((ofNat z.natAbs).length + 1) / 2) 0 ++ [1]) wk ⟨⟨nw_cano _, by rw [nw_start]; exact pw_pos _, nw_top⟩, by simp; omega⟩ ?_
   rintro r ⟨⟨hcr, hr0, hru⟩, hrl⟩
   have hcg : xT (ofNat z.natAbs) := qG _
   have hdr := hcr.1
   obtain ⟨q1, q2, q3⟩ := nw_lens (X := z.natAbs) (by omega) hrl hcr
   have hdq : Dig (ofNat (val (ofNat z.natAbs) / val r)) := kL _
   have hds : Dig (ofNat (val r + val (ofNat (val (ofNat z.natAbs) / val r)))) := kL _
   have hcn : xT (ofNat (val (ofNat (val r + val (ofNat (val (ofNat (Int.natAbs z)) / val r)))) / 2)) := qG _
   refine jI <| jB <| kx [(6, (vl 140 1 jD (ofNat (val (ofNat (Int.natAbs z)) / val r))))] [] (zM <| zM <| zE (kG (t_over (ofNat (Int.natAbs z)) r (by assumption) (by assumption) (by omega) (by omega) (by omega))) <| zM <| zE vX <| zE vX <| zM <| zM <| zZ) ?_
   refine jB <| kx [(8, (vl 140 1 jD (ofNat (val (ofNat (val r + val (ofNat (val (ofNat (Int.natAbs z)) / val r)))) / 2))))] [] (zM <| zM <| zE (kG (t_plus r (ofNat (val (ofNat (Int.natAbs z)) / val r)) (by assumption) (by assumption) (by omega) (by omega))) <| zE (kG (t_short (ofNat (val r + val (ofNat (val (ofNat (Int.natAbs z)) / val r)))) 2 (by assumption) (by omega) (by omega) (by omega))) <| zM <| zE vX <| zE vX <| zM <| zM <| zZ) ?_
   refine jB <| jB <| kx [(42, (vb (decide (0 ≤ (uY ((val (ofNat (val (ofNat (val r + val (ofNat (val (ofNat (Int.natAbs z)) / val r)))) / 2)) : Nat) : Int) ((val r : Nat) : Int))))))] [] (zM <| zM <| zE (kG (t_compare (ofNat (val (ofNat (val r + val (ofNat (val (ofNat (Int.natAbs z)) / val r)))) / 2)) r (by assumption) (by assumption) (by omega))) <| zE oGe <| zZ) ?_
   refine jK rfl (fun h3 => ?_) (fun h3 => ?_)
   ·replace h3 := of_decide_eq_true h3
    refine jB <| kx [(3, (jN 0))] [(1, some (bx (jQ (vV false (val r)))))] (zM <| zE (kG (nQ false r (by assumption) (by omega))) <| zT (qF kB) <| zM <| zZ) ?_
    refine jH ⟨_, (qA (cs := (bx (jQ (vV false (val r))))) (d := (jQ (vV false (val r)))) rfl rfl kB rfl rfl (.tmp (d := (.val (.int .i64 (0)))) rfl .nil)), ?_⟩
    rw [nw_end hz0 hr0 hru (nw_stop h3)]; rfl
   ·replace h3 := of_decide_eq_false h3
    refine jF <| kx [(5, (vl 140 1 jD (ofNat (val (ofNat (val r + val (ofNat (val (ofNat (Int.natAbs z)) / val r)))) / 2))))] [] (zM <| zM <| zZ) ?_
    exact ⟨(ofNat (val (ofNat (val r + val (ofNat (val (ofNat (Int.natAbs z)) / val r)))) / 2)), wk, (by obtain ⟨n1, n2, n3, n4⟩ := nw_ok z.natAbs hr0 hX h3; exact ⟨⟨n1, n2, n3⟩, Nat.le_trans (can_len n1 hcr (Nat.le_of_lt n4)) hrl⟩), (by obtain ⟨n1, n2, n3, n4⟩ := nw_ok z.natAbs hr0 hX h3; exact n4)⟩
end Go.Proofs.YtnajallgoaiahaaGreatDoor
namespace Go.Proofs.YtnajallgoaiahaaGreatDoor
open Go.Fid
set_option maxRecDepth 4000
set_option linter.unusedVariables false
set_option linter.unusedSimpArgs false
theorem cb230 : callB Tryz.prog 230 = true := by kernel_rfl
theorem cb232 : callB Tryz.prog 232 = true := by kernel_rfl
theorem d_floor (x : Rat) (hx : QL x 200) : jW Tryz.prog 232 [(jL (jS x))] (jQ (kJ (yV x))) := by
 refine jM Tryz.func232 rfl cb232 rfl ?_
 show qJ _ _ _ _ ⟨[(0, (.d (jL (jS x))))], []⟩
 refine jB <| kx [(1, (.ref 0 0)), (2, (.ref 1 0))] [(0, some (bx (jL (jS x)))), (1, some (bx (jQ (jE.mk false []))))] (zN (uZ 0) <| zN (qS 1 zJ zL) <| zZ) ?_
 refine jB <| kx [] [(0, some (bx (jL (jS x))))] (zR (kK jO) <| zE (kG (cC (jS x) x (jR (kM hx) (by decide)))) <| zT (qF jO) <| zZ) ?_
 refine jB ?_
 have bn1 : yK (kJ (x.num.fdiv (x.den : Int))) (x.num.fdiv (x.den : Int)) 201 := (iok_fdiv (k := 201) (uM hx) (uH hx) (by decide))
 refine kx [(3, (.ref 2 0))] [(2, some (bx (jQ (kJ (x.num.fdiv (x.den : Int)))))), (3, none)] (zE (qC zW) <| zR (kK kB) <| zE (qC xD) <| zR (kK kB) <| zE (kG (s_divide (uM hx) (uH hx) (by decide) (by decide) (by have := x.den_nz; omega))) <| zM <| zE vX <| zE vX <| zE vX <| zN (qS 2 zJ zL) <| zN (qS 3 zJ zL) <| zT (qF kB) <| zT (qF kB) <| zM <| zZ) ?_
 refine jB <| kx [] [(1, some (bx (jQ (kJ (x.num.fdiv (x.den : Int))))))] (zR (kK kB) <| zT (qF kB) <| zZ) ?_
 refine jH ⟨_, (qA (cs := (bx (jQ (kJ (x.num.fdiv (x.den : Int)))))) (d := (jQ (kJ (x.num.fdiv (x.den : Int))))) rfl rfl kB rfl rfl .nil), ?_⟩
 rfl
theorem d_scaled (x : Rat) (hx : QL x 100) (k : Nat) (hk : k ≤ 512) : jW Tryz.prog 230 [(jL (jS x)), (.val (.int .i64 (((k : Nat) : Int))))] (.tup [(jL (jS (x * ((((2 ^ k : Nat) : Int) : Int) : Rat)))), (jQ (kJ ((2 ^ k : Nat) : Int))), (.val (.int .i64 (0)))]) := by
 refine jM Tryz.func230 rfl cb230 rfl ?_
 show qJ _ _ _ _ ⟨[(0, (.d (jL (jS x)))), (1, (jN k))], []⟩
 refine jB <| kx [(2, (.ref 0 0)), (4, (.ref 1 0)), (5, (.ref 2 0))] [(0, some (bx (jL (jS x)))), (1, some (bx (jL (jJ.mk (jE.mk false []) (jE.mk false []))))), (2, some (bx (jQ (jE.mk false []))))] (zN (uZ 0) <| zN (qS 1 qO qR) <| zN (qS 2 zJ zL) <| zM <| zZ) ?_
 refine jB <| jB <| kx [(14, (vb false))] [] (zM <| zE (uX false vW (by exact decide_eq_false (show ¬ ((k : Nat) : Int) < 0 by omega))) <| zM <| zM <| zE (uX false yN (by exact decide_eq_false (show ¬ 512 < ((k : Nat) : Int) by omega))) <| zE nA <| zZ) ?_
 refine kO ?_
 refine jF <| jB <| kx [(7, (.ref 3 0))] [(3, some (bx (jQ (kJ ((2 ^ k : Nat) : Int)))))] (zE (kG (t_of 2 (by decide) (by decide))) <| zM <| zE (kG (d_pow k (by omega))) <| zM <| zE vX <| zE vX <| zN (qS 3 zJ zL) <| zT (qF kB) <| zM <| zZ) ?_
 refine jB ?_
 have bn1 : QL (x * ((((2 ^ k : Nat) : Int) : Int) : Rat)) 120 := (qQ (k := 120) hx (dG (k := k) (by omega)) (by decide))
 refine kd [(6, (jN 0))] [(1, some (bx (jL (jS (x * ((((2 ^ k : Nat) : Int) : Int) : Rat)))))), (2, some (bx (jQ (kJ ((2 ^ k : Nat) : Int)))))] mo (wR (kK jO) <| wR (kK kB) <| wE (kG (t_of 1 (by decide) (by decide))) <| wE (oQd (jL (jJ.mk (kJ ((2 ^ k : Nat) : Int)) (kJ 1))) (jL (jS ((((2 ^ k : Nat) : Int) : Int) : Rat))) (fM pl45 qO qR) (by exact rfl)) <| wE (kG (dL (jS x) (jS ((((2 ^ k : Nat) : Int) : Int) : Rat)) x ((((2 ^ k : Nat) : Int) : Int) : Rat) (jR (kM hx) (by decide)) (jR (kM (dG (k := k) (by omega))) (by decide)))) <| wR (kK kB) <| wT (qF jO) <| wT (qF kB) <| wM <| wZ) ?_
 refine jH ⟨_, (qA (cs := (bx (jL (jS (x * ((((2 ^ k : Nat) : Int) : Int) : Rat)))))) (d := (jL (jS (x * ((((2 ^ k : Nat) : Int) : Int) : Rat))))) rfl rfl jO rfl rfl (qA (cs := (bx (jQ (kJ ((2 ^ k : Nat) : Int))))) (d := (jQ (kJ ((2 ^ k : Nat) : Int)))) rfl rfl kB rfl rfl (.tmp (d := (.val (.int .i64 (((0 : Nat) : Int))))) rfl .nil))), ?_⟩
 rfl
end Go.Proofs.YtnajallgoaiahaaGreatDoor
namespace Go.Fid
def stnP (x y z u v f : Int) : Prop := (-1048576 ≤ x ∧ x ≤ 1048576) ∧ (-1048576 ≤ y ∧ y ≤ 1048576) ∧ (-1048576 ≤ z ∧ z ≤ 1048576) ∧ (-1048576 ≤ u ∧ u ≤ 1048576) ∧ (-1048576 ≤ v ∧ v ≤ 1048576) ∧ (1 ≤ f ∧ f ≤ 1048576)
instance {x y z u v f : Int} : Decidable (stnP x y z u v f) := by unfold stnP; infer_instance
end Go.Fid
set_option linter.unusedVariables false
set_option linter.unusedSimpArgs false
namespace Go.Fid
def nq (a b c d : Int) : Int := (((a * a) + (b * b)) + (c * c)) + (d * d)
def N4 (a b c d : Int) : Rat := ((nq a b c d : Int) : Rat)
def r02 (a b c d : Int) : Int := 2 * ((b * d) + (a * c))
def R02 (a b c d : Int) : Rat := ((r02 a b c d : Int) : Rat)
def r12 (a b c d : Int) : Int := 2 * ((c * d) - (a * b))
def R12 (a b c d : Int) : Rat := ((r12 a b c d : Int) : Rat)
def r22 (a b c d : Int) : Int := (((a * a) - (b * b)) - (c * c)) + (d * d)
def R22 (a b c d : Int) : Rat := ((r22 a b c d : Int) : Rat)
theorem ql_eqz {x y : Rat} {n : Nat} (h : x = y) (hy : QL y n) : QL x n := h ▸ hy
def gcd3 (a b c : Rat) : Int := ((Int.gcd a.num ((Int.gcd b.num c.num : Nat) : Int) : Nat) : Int)
def redK (a b c : Rat) : Rat := Rat.divInt 1 (gcd3 a b c)
def dq0 (a b c d p q r s : Int) : Rat := (R02 a b c d * N4 p q r s) + (R02 p q r s * N4 a b c d)
def dq1 (a b c d p q r s : Int) : Rat := (R12 a b c d * N4 p q r s) + (R12 p q r s * N4 a b c d)
def dq2 (a b c d p q r s : Int) : Rat := (R22 a b c d * N4 p q r s) + (R22 p q r s * N4 a b c d)
def RFr (lx ly lz la lb lc ld rx ry rz ra rb rc rd : Int) (b0 b1 b2 e00 e01 e02 e10 e11 e12 e20 e21 e22 : Rat) : Prop :=
  (((rx - lx) : Int) : Rat) = b0 ∧
  (((ry - ly) : Int) : Rat) = b1 ∧
  (((rz - lz) : Int) : Rat) = b2 ∧
  b0 * redK b0 b1 b2 = e00 ∧
  b1 * redK b0 b1 b2 = e01 ∧
  b2 * redK b0 b1 b2 = e02 ∧
  (((dq1 la lb lc ld ra rb rc rd) * e02) - ((dq2 la lb lc ld ra rb rc rd) * e01)) * redK (((dq1 la lb lc ld ra rb rc rd) * e02) - ((dq2 la lb lc ld ra rb rc rd) * e01)) (((dq2 la lb lc ld ra rb rc rd) * e00) - ((dq0 la lb lc ld ra rb rc rd) * e02)) (((dq0 la lb lc ld ra rb rc rd) * e01) - ((dq1 la lb lc ld ra rb rc rd) * e00)) = e10 ∧
  (((dq2 la lb lc ld ra rb rc rd) * e00) - ((dq0 la lb lc ld ra rb rc rd) * e02)) * redK (((dq1 la lb lc ld ra rb rc rd) * e02) - ((dq2 la lb lc ld ra rb rc rd) * e01)) (((dq2 la lb lc ld ra rb rc rd) * e00) - ((dq0 la lb lc ld ra rb rc rd) * e02)) (((dq0 la lb lc ld ra rb rc rd) * e01) - ((dq1 la lb lc ld ra rb rc rd) * e00)) = e11 ∧
  (((dq0 la lb lc ld ra rb rc rd) * e01) - ((dq1 la lb lc ld ra rb rc rd) * e00)) * redK (((dq1 la lb lc ld ra rb rc rd) * e02) - ((dq2 la lb lc ld ra rb rc rd) * e01)) (((dq2 la lb lc ld ra rb rc rd) * e00) - ((dq0 la lb lc ld ra rb rc rd) * e02)) (((dq0 la lb lc ld ra rb rc rd) * e01) - ((dq1 la lb lc ld ra rb rc rd) * e00)) = e12 ∧
  ((e01 * e12) - (e02 * e11)) * redK ((e01 * e12) - (e02 * e11)) ((e02 * e10) - (e00 * e12)) ((e00 * e11) - (e01 * e10)) = e20 ∧
  ((e02 * e10) - (e00 * e12)) * redK ((e01 * e12) - (e02 * e11)) ((e02 * e10) - (e00 * e12)) ((e00 * e11) - (e01 * e10)) = e21 ∧
  ((e00 * e11) - (e01 * e10)) * redK ((e01 * e12) - (e02 * e11)) ((e02 * e10) - (e00 * e12)) ((e00 * e11) - (e01 * e10)) = e22
instance {lx ly lz la lb lc ld rx ry rz ra rb rc rd : Int} {b0 b1 b2 e00 e01 e02 e10 e11 e12 e20 e21 e22 : Rat} : Decidable (RFr lx ly lz la lb lc ld rx ry rz ra rb rc rd b0 b1 b2 e00 e01 e02 e10 e11 e12 e20 e21 e22) := by unfold RFr; infer_instance
section
variable {lx ly lz la lb lc ld rx ry rz ra rb rc rd : Int} {b0 b1 b2 e00 e01 e02 e10 e11 e12 e20 e21 e22 : Rat}
end
end Go.Fid
