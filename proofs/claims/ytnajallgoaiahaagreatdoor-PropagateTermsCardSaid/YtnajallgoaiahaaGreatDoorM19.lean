/- Part 19 of a proof: rules, plain facts, and functions walked. -/
import Derived.Test.YtnajallgoaiahaaGreatDoorM18
namespace Go.Proofs.YtnajallgoaiahaaGreatDoor
open Go.Fid
set_option maxRecDepth 4000
set_option linter.unusedVariables false
set_option linter.unusedSimpArgs false
theorem cb117 : callB Tryz.prog 117 = true := by kernel_rfl
theorem cb118 : callB Tryz.prog 118 = true := by kernel_rfl
theorem cb146 : callB Tryz.prog 146 = true := by kernel_rfl
theorem r_gcd (x : kS) (y : kS) (hx : x.gs.length ≤ 1099511627776) (hy : y.gs.length ≤ 1099511627776) : jT Tryz.prog 118 [(jK x), (jK y)] (jK (kJ ((Int.gcd (jW x) (jW y) : Nat) : Int))) := by
 have hvx := dJ x
 have hvy := dJ y
 refine jJ Tryz.func118 rfl cb118 rfl ?_
 show qR _ _ _ _ ⟨[(0, (.d (jK x))), (1, (.d (jK y)))], []⟩
 refine jB<|kx [(2, (.ref 0 0)), (3, (.ref 1 0)), (4, (.ref 2 0))] [(0, some (bx (jK x))), (1, some (bx (jK y))), (2, some (bx (jK (kS.mk false []))))] (zN (xA 0)<|zN (xA 1)<|zN (uU 2 zL zP)<|zZ) ?_
 refine jB<|kd [(5, (vl 140 1 jC (ofNat (Int.natAbs (jW x))))), (6, (vl 140 1 jC (ofNat (Int.natAbs (jW y)))))] [] mo (wR (kP jV)<|wE (jZ (dD x (by omega)))<|wE (oF1 aI zG)<|wR (kP jV)<|wE (jZ (dD y (by omega)))<|wE (oF1 aI zG)<|wM<|wM<|wZ) ?_
 refine jB<|jG<|kI (α := List Nat × List Nat) (fun (a, b) => ⟨[(4, (.ref 2 0)), (5, (vl 140 1 jC a)), (6, (vl 140 1 jC b))], [(2, some (bx (jK (kS.mk false []))))]⟩) (fun (a, b) => xX a ∧ xX b ∧ a.length ≤ 1099511627776 ∧ b.length ≤ 1099511627776 ∧ Nat.gcd (val a) (val b) = Int.gcd (jW x) (jW y)) (fun (a, b) => val b) ((ofNat (Int.natAbs (jW x))), (ofNat (Int.natAbs (jW y)))) wk ⟨kY _, kY _, by omega, by omega, by rw [kB, kB]; rfl⟩ ?_
 rintro ⟨a, b⟩ ⟨ha, hb, hla, hlb, hg⟩
 refine jB<|jB<|kx [(29, (vb (decide (0 < ((b.length : Nat) : Int)) && (decide (2 < ((a.length : Nat) : Int)) || decide (2 < ((b.length : Nat) : Int))))))] [] ?_ ?_
 ·refine zM<|zE (vX kM)<|zE mO<|zE (oV (vb (decide (0 < ((b.length : Nat) : Int)))) (qH (by kernel_rfl)))<|?_
  rcases hb1 : (decide (0 < ((b.length : Nat) : Int))) with _ | _
  ·replace hb1 := vB hb1
   exact zK<|zK<|zK<|zK<|zK<|zK<|zK<|zK<|zE yM<|zZ
  ·replace hb1 := uH hb1
   refine zM<|zE (vX kM)<|zE mO<|zE (oV (vb (decide (2 < ((a.length : Nat) : Int)))) (qH (by kernel_rfl)))<|?_
   rcases hb2 : (decide (2 < ((a.length : Nat) : Int))) with _ | _
   ·replace hb2 := vB hb2
    exact zM<|zE (vX kM)<|zE mO<|zE aO<|zE aJ<|zZ
   ·replace hb2 := uH hb2
    exact zK<|zK<|zK<|zE hZ<|zE hZ<|zZ
 refine jF rfl (fun h3 => ?_) (fun h3 => ?_)
 ·have hbl : 0 < b.length := by rw [Bool.and_eq_true, decide_eq_true_eq] at h3; omega
  have hb0 := mN hb hbl
  refine jD<|jG<|jB<|kx [(8, (vl 140 1 jC (ofNat (val a % val b))))] [] (zM<|zM<|zE (jZ (r_parts a b ha hb (by omega) (by omega) (by omega)))<|zM<|zE vP<|zE vP<|zM<|zM<|zZ) ?_
  refine kx [(5, (vl 140 1 jC b)), (6, (vl 140 1 jC (ofNat (val a % val b))))] [] (zM<|zM<|zM<|zM<|zZ) ?_
  exact ⟨(b, ofNat (val a % val b)), wk, ⟨hb, kY _, hlb, Nat.le_trans (len_rem a ha _) hla, by rw [kB, ← hg, Nat.gcd_comm, ← Nat.gcd_rec, Nat.gcd_comm]⟩, (by dsimp only; rw [kB]; exact Nat.mod_lt _ hb0)⟩
 ·have hex := h3
  refine kC<|jB<|jB<|kx [(40, (vb (((b.length : Nat) : Int) == 0)))] [] (zM<|zE (vX kM)<|zE gA<|zZ) ?_
  refine jF (b := (((b.length : Nat) : Int) == 0)) rfl (fun h4 => ?_) (fun h4 => ?_)
  ·replace h4 := eq_of_beq h4
   have hb1 : b = [] := List.eq_nil_of_length_eq_zero (by omega)
   rw [hb1, val_nil, Nat.gcd_zero_right] at hg
   refine jB<|kx [] [(2, some (bx (jK (vW false (val a)))))] (zM<|zE (jZ (gZ false a ha.1 (by omega)))<|zT (qM jV)<|zZ) ?_
   refine jE ⟨_, (kU (cs := (bx (jK (vW false (val a))))) (d := (jK (vW false (val a)))) rfl rfl jV rfl rfl .nil), ?_⟩
   rw [← hg, mkI_false]; rfl
  ·replace h4 := ne_of_beq_false h4
   have hl2 : a.length ≤ 2 ∧ b.length ≤ 2 := by simp only [Bool.and_eq_false_iff, Bool.or_eq_false_iff, decide_eq_false_iff_not] at hex; omega
   refine jD<|jB<|kx [(9, (yS (val a))), (10, (yS (val b)))] [] (zM<|zE (jZ (r_pair a ha.1 (by omega)))<|zM<|zE (jZ (r_pair b hb.1 (by omega)))<|zM<|zM<|zZ) ?_
   refine jB<|jG<|kI (α := Nat × Nat) (fun (m, n) => ⟨[(4, (.ref 2 0)), (9, (yS m)), (10, (yS n))], [(2, some (bx (jK (kS.mk false []))))]⟩) (fun (m, n) => m < 1000000000000000000 ∧ n < 1000000000000000000 ∧ Nat.gcd m n = Int.gcd (jW x) (jW y)) (fun (m, n) => n) (val a, val b) wk ⟨val_len2 ha.1 hl2.1, val_len2 hb.1 hl2.2, hg⟩ ?_
   rintro ⟨m, n⟩ ⟨hm, hn, hg2⟩
   refine jB<|jB<|kx [(48, (vb (decide (0 < ((n : Nat) : Int)))))] [] (zM<|zE mO<|zZ) ?_
   refine jF (b := decide (0 < ((n : Nat) : Int))) rfl (fun h5 => ?_) (fun h5 => ?_)
   ·replace h5 := uH h5
    refine jD<|jG<|kd [(9, (yS n)), (10, (yS (m % n)))] [] mo (wM<|wM<|wM<|wE (oRe (m % n))<|wM<|wM<|wZ) ?_
    exact ⟨(n, m % n), wk, ⟨hn, Nat.lt_of_le_of_lt (Nat.mod_le _ _) hm, by rw [← hg2, Nat.gcd_comm, ← Nat.gcd_rec, Nat.gcd_comm]⟩, (by dsimp only; exact Nat.mod_lt _ (by omega))⟩
   ·replace h5 := vB h5
    obtain rfl : n = 0 := by omega
    rw [Nat.gcd_zero_right] at hg2
    have hmv : val [m % 1000000000, m / 1000000000] = m := by simp only [val]; omega
    refine kC<|jB<|kx [] [(2, some (bx (jK (vW false (val [(m % 1000000000), (m / 1000000000)])))))] (zM<|zE (oRe (m % 1000000000))<|zE (nY gP gE (m % 1000000000))<|zM<|zE (oQu (m / 1000000000))<|zE (nY gP gE (m / 1000000000))<|zE (gN kM vL xZ)<|zE (jZ (gZ false [(m % 1000000000), (m / 1000000000)] (yN.2 ⟨Nat.mod_lt _ (by decide), yN.2 ⟨by omega, gG⟩⟩) (by simp)))<|zT (qM jV)<|zZ) ?_
    refine jE ⟨_, (kU (cs := (bx (jK (vW false (val [(m % 1000000000), (m / 1000000000)]))))) (d := (jK (vW false (val [(m % 1000000000), (m / 1000000000)])))) rfl rfl jV rfl rfl .nil), ?_⟩
    rw [← hg2, hmv, mkI_false]; rfl
theorem r_compare (x : kS) (y : kS) (hx : x.gs.length ≤ 274877906944) (hy : y.gs.length ≤ 274877906944) : jT Tryz.prog 117 [(jK x), (jK y)] (.val (.int .i64 ((uX (jW x) (jW y))))) := by
 have hv := gs_sub x y
 refine jJ Tryz.func117 rfl cb117 rfl ?_
 show qR _ _ _ _ ⟨[(0, (.d (jK x))), (1, (.d (jK y)))], []⟩
 refine jB<|kx [(2, (.ref 0 0)), (3, (.ref 1 0))] [(0, some (bx (jK x))), (1, some (bx (jK y)))] (zN (xA 0)<|zN (xA 1)<|zM<|zZ) ?_
 refine jB<|kx [(4, (vi (uB (jW (kJ (jW x - jW y))))))] [] (zR (kP jV)<|zR (kP jV)<|zE (jZ (r_sub x y (by omega) (by omega)))<|zE (jZ (r_sign (kJ (jW x - jW y)) (by omega)))<|zM<|zZ) ?_
 refine jE ⟨_, (.tmp (d := (.val (.int .i64 ((uB (jW (kJ (jW x - jW y)))))))) rfl .nil), ?_⟩
 rw [mW, signI_sub]; rfl
theorem r_divide (x : kS) (y : kS) (hx : x.gs.length ≤ 274877906944) (hy : y.gs.length ≤ 274877906944) (hy0 : jW y ≠ 0) : jT Tryz.prog 146 [(jK x), (jK y)] (.tup [(jK (kJ ((jW x).fdiv (jW y)))), (jK (kJ ((jW x).fmod (jW y)))), (.val (.int .i64 (0)))]) := by
 have hvx := dJ x
 have hvy := dJ y
 have hmx := gs_val x
 have hmy := gs_val y
 have hy1 : 0 < (jW y).natAbs := by omega
 have hyl := dE hy1
 have hql : (ofNat (val (ofNat (Int.natAbs (jW x))) / val (ofNat (Int.natAbs (jW y))))).length ≤ 274877906944 := by have := len_quo (ofNat (Int.natAbs (jW x))) (kY _) (val (ofNat (Int.natAbs (jW y)))); omega
 have hqg : (vW (!((kJ (jW x)).neg == (kJ (jW y)).neg)) (val (ofNat (val (ofNat (Int.natAbs (jW x))) / val (ofNat (Int.natAbs (jW y))))))).gs.length ≤ 274877906944 := by show (ofNat (val (ofNat (val (ofNat (Int.natAbs (jW x))) / val (ofNat (Int.natAbs (jW y))))))).length ≤ _; rw [kB]; exact hql
 have eI : (kJ 1).gs.length ≤ 1 := (aS (z := 1) (by decide)).l
 have hqs := gs_sub (vW (!((kJ (jW x)).neg == (kJ (jW y)).neg)) (val (ofNat (val (ofNat (Int.natAbs (jW x))) / val (ofNat (Int.natAbs (jW y))))))) (kJ 1)
 refine jJ Tryz.func146 rfl cb146 rfl ?_
 show qR _ _ _ _ ⟨[(0, (.d (jK x))), (1, (.d (jK y)))], []⟩
 refine jB<|kx [(2, (.ref 0 0)), (3, (.ref 1 0)), (4, (.ref 2 0)), (5, (.ref 3 0))] [(0, some (bx (jK x))), (1, some (bx (jK y))), (2, some (bx (jK (kS.mk false [])))), (3, some (bx (jK (kS.mk false []))))] (zN (xA 0)<|zN (xA 1)<|zN (uU 2 zL zP)<|zN (uU 3 zL zP)<|zM<|zZ) ?_
 refine jB<|kd [] [(0, some (bx (jK (kJ (jW x))))), (1, some (bx (jK (kJ (jW y)))))] mo (wR (kP jV)<|wE (jZ (dD x (by omega)))<|wR (kP jV)<|wE (jZ (dD y (by omega)))<|wT (qM jV)<|wT (qM jV)<|wZ) ?_
 refine jB<|jB<|kx [(17, (vb ((((ofNat (Int.natAbs (jW y))).length : Nat) : Int) == 0)))] [] (zE (qD vT)<|zR (uL zG)<|zE (vX kM (L := (ofNat (Int.natAbs (jW y)))))<|zE gA<|zZ) ?_
 refine jF rfl (fun h1 => ?_) (fun h1 => ?_)
 ·replace h1 := eq_of_beq h1
  exact absurd h1 (by omega)
 ·replace h1 := ne_of_beq_false h1
  refine jD<|jB<|kx [(7, (vl 140 1 jC (ofNat (val (ofNat (Int.natAbs (jW x))) / val (ofNat (Int.natAbs (jW y))))))), (8, (vl 140 1 jC (ofNat (val (ofNat (Int.natAbs (jW x))) % val (ofNat (Int.natAbs (jW y)))))))] [] (zE (qD vT)<|zR (uL zG)<|zE (qD vT)<|zR (uL zG)<|zE (jZ (r_parts (ofNat (Int.natAbs (jW x))) (ofNat (Int.natAbs (jW y))) (by first | assumption | exact kY _ | exact qK _) (by first | assumption | exact kY _ | exact qK _) (by omega) (by omega) (by omega)))<|zM<|zE vP<|zE vP<|zM<|zM<|zZ) ?_
  refine jB<|kx [(9, (.ref 4 0))] [(4, some (bx (jK (vW (!(((kJ (jW x)).neg) == ((kJ (jW y)).neg))) (val (ofNat (val (ofNat (Int.natAbs (jW x))) / val (ofNat (Int.natAbs (jW y))))))))))] (zE (qD vJ)<|zR (uL sh4)<|zE (qD vJ)<|zR (uL sh4)<|zE (oNb bo4)<|zM<|zE (jZ (gZ (!(((kJ (jW x)).neg) == ((kJ (jW y)).neg))) (ofNat (val (ofNat (Int.natAbs (jW x))) / val (ofNat (Int.natAbs (jW y))))) (kL _) (by omega)))<|zN (uU 4 zL zP)<|zT (qM jV)<|zZ) ?_
  refine jB<|jB<|kx [(44, (vb (!(((kJ (jW x)).neg) == ((kJ (jW y)).neg)) && decide (0 < (((ofNat (val (ofNat (Int.natAbs (jW x))) % val (ofNat (Int.natAbs (jW y))))).length : Nat) : Int)))))] [] ?_ ?_
  ·refine zE (qD vJ)<|zR (uL sh4)<|zE (qD vJ)<|zR (uL sh4)<|zE (oNb bo4)<|zE (oV (vb (!(((kJ (jW x)).neg) == ((kJ (jW y)).neg)))) (qH (by kernel_rfl)))<|?_
   rcases hb2 : (!(((kJ (jW x)).neg) == ((kJ (jW y)).neg))) with _ | _
   ·exact zK<|zK<|zK<|zE yM<|zZ
   ·exact zM<|zE (vX kM (L := (ofNat (val (ofNat (Int.natAbs (jW x))) % val (ofNat (Int.natAbs (jW y)))))))<|zE mO<|zE aJ<|zZ
  refine jF rfl (fun h3 => ?_) (fun h3 => ?_)
  ·have hqm := gs_mul (kJ (jW (vW (!((kJ (jW x)).neg == (kJ (jW y)).neg)) (val (ofNat (val (ofNat (Int.natAbs (jW x))) / val (ofNat (Int.natAbs (jW y))))))) - jW (kJ 1))) (kJ (jW y))
   have hk := r_div_other (X := jW x) (Y := jW y) hy1 (by rw [Bool.and_eq_true, Bool.not_eq_true', beq_eq_false_iff_ne, decide_eq_true_eq] at h3; exact h3)
   refine kd [] [(4, some (bx (jK (kJ (jW (vW (!(((kJ (jW x)).neg) == ((kJ (jW y)).neg))) (val (ofNat (val (ofNat (Int.natAbs (jW x))) / val (ofNat (Int.natAbs (jW y))))))) - jW (kJ 1))))))] mo (wR (kP jV)<|wE (jZ (r_of 1 (by omega) (by omega)))<|wE (jZ (r_sub (vW (!(((kJ (jW x)).neg) == ((kJ (jW y)).neg))) (val (ofNat (val (ofNat (Int.natAbs (jW x))) / val (ofNat (Int.natAbs (jW y))))))) (kJ 1) (by omega) (by omega)))<|wT (qM jV)<|wZ) ?_
   refine jB<|kd [(6, (jN 0))] [(2, some (bx (jK (kJ (jW (vW (!(((kJ (jW x)).neg) == ((kJ (jW y)).neg))) (val (ofNat (val (ofNat (Int.natAbs (jW x))) / val (ofNat (Int.natAbs (jW y))))))) - jW (kJ 1)))))), (3, some (bx (jK (kJ (jW (kJ (jW x)) - jW (kJ (jW (kJ (jW (vW (!(((kJ (jW x)).neg) == ((kJ (jW y)).neg))) (val (ofNat (val (ofNat (Int.natAbs (jW x))) / val (ofNat (Int.natAbs (jW y))))))) - jW (kJ 1))) * jW (kJ (jW y)))))))))] mo (wR (kP jV)<|wR (kP jV)<|wR (kP jV)<|wR (kP jV)<|wE (jZ (r_mul (kJ (jW (vW (!(((kJ (jW x)).neg) == ((kJ (jW y)).neg))) (val (ofNat (val (ofNat (Int.natAbs (jW x))) / val (ofNat (Int.natAbs (jW y))))))) - jW (kJ 1))) (kJ (jW y)) (by omega) (by omega)))<|wE (jZ (r_sub (kJ (jW x)) (kJ (jW (kJ (jW (vW (!(((kJ (jW x)).neg) == ((kJ (jW y)).neg))) (val (ofNat (val (ofNat (Int.natAbs (jW x))) / val (ofNat (Int.natAbs (jW y))))))) - jW (kJ 1))) * jW (kJ (jW y)))) (by omega) (by omega)))<|wT (qM jV)<|wT (qM jV)<|wM<|wZ) ?_
   refine jE ⟨_, (kU (cs := (bx (jK (kJ (jW (vW (!(((kJ (jW x)).neg) == ((kJ (jW y)).neg))) (val (ofNat (val (ofNat (Int.natAbs (jW x))) / val (ofNat (Int.natAbs (jW y))))))) - jW (kJ 1)))))) (d := (jK (kJ (jW (vW (!(((kJ (jW x)).neg) == ((kJ (jW y)).neg))) (val (ofNat (val (ofNat (Int.natAbs (jW x))) / val (ofNat (Int.natAbs (jW y))))))) - jW (kJ 1))))) rfl rfl jV rfl rfl (kU (cs := (bx (jK (kJ (jW (kJ (jW x)) - jW (kJ (jW (kJ (jW (vW (!(((kJ (jW x)).neg) == ((kJ (jW y)).neg))) (val (ofNat (val (ofNat (Int.natAbs (jW x))) / val (ofNat (Int.natAbs (jW y))))))) - jW (kJ 1))) * jW (kJ (jW y))))))))) (d := (jK (kJ (jW (kJ (jW x)) - jW (kJ (jW (kJ (jW (vW (!(((kJ (jW x)).neg) == ((kJ (jW y)).neg))) (val (ofNat (val (ofNat (Int.natAbs (jW x))) / val (ofNat (Int.natAbs (jW y))))))) - jW (kJ 1))) * jW (kJ (jW y)))))))) rfl rfl jV rfl rfl (.tmp (d := (.val (.int .i64 (0)))) rfl .nil))), ?_⟩
   rw [hk, r_rem_eq]; rfl
  ·have hqm := gs_mul (vW (!((kJ (jW x)).neg == (kJ (jW y)).neg)) (val (ofNat (val (ofNat (Int.natAbs (jW x))) / val (ofNat (Int.natAbs (jW y))))))) (kJ (jW y))
   have hk := r_div_same (X := jW x) (Y := jW y) hy1 (by rw [Bool.and_eq_false_iff, Bool.not_eq_false', beq_iff_eq, decide_eq_false_iff_not] at h3; exact h3)
   refine jD<|jB<|kd [(6, (jN 0))] [(2, some (bx (jK (vW (!(((kJ (jW x)).neg) == ((kJ (jW y)).neg))) (val (ofNat (val (ofNat (Int.natAbs (jW x))) / val (ofNat (Int.natAbs (jW y)))))))))), (3, some (bx (jK (kJ (jW (kJ (jW x)) - jW (kJ (jW (vW (!(((kJ (jW x)).neg) == ((kJ (jW y)).neg))) (val (ofNat (val (ofNat (Int.natAbs (jW x))) / val (ofNat (Int.natAbs (jW y))))))) * jW (kJ (jW y)))))))))] mo (wR (kP jV)<|wR (kP jV)<|wR (kP jV)<|wR (kP jV)<|wE (jZ (r_mul (vW (!(((kJ (jW x)).neg) == ((kJ (jW y)).neg))) (val (ofNat (val (ofNat (Int.natAbs (jW x))) / val (ofNat (Int.natAbs (jW y))))))) (kJ (jW y)) (by omega) (by omega)))<|wE (jZ (r_sub (kJ (jW x)) (kJ (jW (vW (!(((kJ (jW x)).neg) == ((kJ (jW y)).neg))) (val (ofNat (val (ofNat (Int.natAbs (jW x))) / val (ofNat (Int.natAbs (jW y))))))) * jW (kJ (jW y)))) (by omega) (by omega)))<|wT (qM jV)<|wT (qM jV)<|wM<|wZ) ?_
   refine jE ⟨_, (kU (cs := (bx (jK (vW (!(((kJ (jW x)).neg) == ((kJ (jW y)).neg))) (val (ofNat (val (ofNat (Int.natAbs (jW x))) / val (ofNat (Int.natAbs (jW y)))))))))) (d := (jK (vW (!(((kJ (jW x)).neg) == ((kJ (jW y)).neg))) (val (ofNat (val (ofNat (Int.natAbs (jW x))) / val (ofNat (Int.natAbs (jW y))))))))) rfl rfl jV rfl rfl (kU (cs := (bx (jK (kJ (jW (kJ (jW x)) - jW (kJ (jW (vW (!(((kJ (jW x)).neg) == ((kJ (jW y)).neg))) (val (ofNat (val (ofNat (Int.natAbs (jW x))) / val (ofNat (Int.natAbs (jW y))))))) * jW (kJ (jW y))))))))) (d := (jK (kJ (jW (kJ (jW x)) - jW (kJ (jW (vW (!(((kJ (jW x)).neg) == ((kJ (jW y)).neg))) (val (ofNat (val (ofNat (Int.natAbs (jW x))) / val (ofNat (Int.natAbs (jW y))))))) * jW (kJ (jW y)))))))) rfl rfl jV rfl rfl (.tmp (d := (.val (.int .i64 (0)))) rfl .nil))), ?_⟩
   rw [hk, r_rem_eq]; rfl
theorem s_neg {x : kS} {a : Int} {m : Nat} (hx : yP x a m) (hm : m ≤ 274877906944) : jT Tryz.prog 225 [(jK x)] (jK (kJ (-a))) := by
 obtain ⟨rfl, hx'⟩ := hx
 exact t_neg x (by omega)
theorem s_sign {x : kS} {a : Int} {m : Nat} (hx : yP x a m) (hm : m ≤ 274877906944) : jT Tryz.prog 136 [(jK x)] (.val (.int .i64 (uB a))) := by
 obtain ⟨rfl, hx'⟩ := hx
 exact t_sign x (by omega)
theorem s_add {x y : kS} {a b : Int} {m n : Nat} (hx : yP x a m) (hy : yP y b n) (hm : m ≤ 274877906944) (hn : n ≤ 274877906944) : jT Tryz.prog 150 [(jK x), (jK y)] (jK (kJ (a + b))) := by
 obtain ⟨rfl, hx'⟩ := hx; obtain ⟨rfl, hy'⟩ := hy
 exact t_add x y (by omega) (by omega)
theorem s_mul {x y : kS} {a b : Int} {m n : Nat} (hx : yP x a m) (hy : yP y b n) (hm : m ≤ 274877906944) (hn : n ≤ 274877906944) : jT Tryz.prog 142 [(jK x), (jK y)] (jK (kJ (a * b))) := by
 obtain ⟨rfl, hx'⟩ := hx; obtain ⟨rfl, hy'⟩ := hy
 exact t_mul x y (by omega) (by omega)
theorem s_compare {x y : kS} {a b : Int} {m n : Nat} (hx : yP x a m) (hy : yP y b n) (hm : m ≤ 274877906944) (hn : n ≤ 274877906944) : jT Tryz.prog 137 [(jK x), (jK y)] (.val (.int .i64 (uX a b))) := by
 obtain ⟨rfl, hx'⟩ := hx; obtain ⟨rfl, hy'⟩ := hy
 exact t_compareI x y (by omega) (by omega)
theorem s_gcd {x y : kS} {a b : Int} {m n : Nat} (hx : yP x a m) (hy : yP y b n) (hm : m ≤ 274877906944) (hn : n ≤ 274877906944) : jT Tryz.prog 138 [(jK x), (jK y)] (jK (kJ ((Int.gcd a b : Nat) : Int))) := by
 obtain ⟨rfl, hx'⟩ := hx; obtain ⟨rfl, hy'⟩ := hy
 exact t_gcdI x y (by omega) (by omega)
theorem s_divide {x y : kS} {a b : Int} {m n : Nat} (hx : yP x a m) (hy : yP y b n) (hm : m ≤ 274877906944) (hn : n ≤ 274877906944) (hb : b ≠ 0) : jT Tryz.prog 227 [(jK x), (jK y)] (.tup [(jK (kJ (a.fdiv b))), (jK (kJ (a.fmod b))), (.val (.int .i64 0))]) := by
 obtain ⟨rfl, hx'⟩ := hx; obtain ⟨rfl, hy'⟩ := hy
 exact t_divideI x y (by omega) (by omega) hb
theorem rs_neg {x : kS} {a : Int} {m : Nat} (hx : yP x a m) (hm : m ≤ 274877906944) : jT Tryz.prog 145 [(jK x)] (jK (kJ (-a))) := by
 obtain ⟨rfl, hx'⟩ := hx
 exact r_neg x (by omega)
theorem rs_sign {x : kS} {a : Int} {m : Nat} (hx : yP x a m) (hm : m ≤ 274877906944) : jT Tryz.prog 83 [(jK x)] (.val (.int .i64 (uB a))) := by
 obtain ⟨rfl, hx'⟩ := hx
 exact r_sign x (by omega)
theorem rs_add {x y : kS} {a b : Int} {m n : Nat} (hx : yP x a m) (hy : yP y b n) (hm : m ≤ 274877906944) (hn : n ≤ 274877906944) : jT Tryz.prog 96 [(jK x), (jK y)] (jK (kJ (a + b))) := by
 obtain ⟨rfl, hx'⟩ := hx; obtain ⟨rfl, hy'⟩ := hy
 exact r_add x y (by omega) (by omega)
theorem rs_mul {x y : kS} {a b : Int} {m n : Nat} (hx : yP x a m) (hy : yP y b n) (hm : m ≤ 274877906944) (hn : n ≤ 274877906944) : jT Tryz.prog 87 [(jK x), (jK y)] (jK (kJ (a * b))) := by
 obtain ⟨rfl, hx'⟩ := hx; obtain ⟨rfl, hy'⟩ := hy
 exact r_mul x y (by omega) (by omega)
theorem rs_compare {x y : kS} {a b : Int} {m n : Nat} (hx : yP x a m) (hy : yP y b n) (hm : m ≤ 274877906944) (hn : n ≤ 274877906944) : jT Tryz.prog 117 [(jK x), (jK y)] (.val (.int .i64 (uX a b))) := by
 obtain ⟨rfl, hx'⟩ := hx; obtain ⟨rfl, hy'⟩ := hy
 exact r_compare x y (by omega) (by omega)
theorem rs_gcd {x y : kS} {a b : Int} {m n : Nat} (hx : yP x a m) (hy : yP y b n) (hm : m ≤ 274877906944) (hn : n ≤ 274877906944) : jT Tryz.prog 118 [(jK x), (jK y)] (jK (kJ ((Int.gcd a b : Nat) : Int))) := by
 obtain ⟨rfl, hx'⟩ := hx; obtain ⟨rfl, hy'⟩ := hy
 exact r_gcd x y (by omega) (by omega)
theorem rs_divide {x y : kS} {a b : Int} {m n : Nat} (hx : yP x a m) (hy : yP y b n) (hm : m ≤ 274877906944) (hn : n ≤ 274877906944) (hb : b ≠ 0) : jT Tryz.prog 146 [(jK x), (jK y)] (.tup [(jK (kJ (a.fdiv b))), (jK (kJ (a.fmod b))), (.val (.int .i64 0))]) := by
 obtain ⟨rfl, hx'⟩ := hx; obtain ⟨rfl, hy'⟩ := hy
 exact r_divide x y (by omega) (by omega) hb
theorem cb78 : callB Tryz.prog 78 = true := by kernel_rfl
theorem cb79 : callB Tryz.prog 79 = true := by kernel_rfl
theorem cb80 : callB Tryz.prog 80 = true := by kernel_rfl
theorem cb81 : callB Tryz.prog 81 = true := by kernel_rfl
theorem cb82 : callB Tryz.prog 82 = true := by kernel_rfl
theorem cb90 : callB Tryz.prog 90 = true := by kernel_rfl
theorem cb105 : callB Tryz.prog 105 = true := by kernel_rfl
theorem cb140 : callB Tryz.prog 140 = true := by kernel_rfl
theorem cb141 : callB Tryz.prog 141 = true := by kernel_rfl
theorem cb143 : callB Tryz.prog 143 = true := by kernel_rfl
theorem cb224 : callB Tryz.prog 224 = true := by kernel_rfl
theorem yA : vR Tryz.prog 45 0 = some 0 := by kernel_rfl
theorem xE : vR Tryz.prog 45 1 = some 2 := by kernel_rfl
theorem ft45_0 : bJ Tryz.prog 45 0 = some (0, 43) := by kernel_rfl
theorem pl45 : mT Tryz.prog 45 = some [(0, 2), (2, 2)] := by kernel_rfl
theorem jO : qL Tryz.prog 45 = some (true, 4) := by kernel_rfl
theorem qA : xH Tryz.prog 45 = some [.bool false, .slice none 0 0, .bool false, .slice none 0 0] := by kernel_rfl
theorem qO : eC [.bool false, .slice none 0 0, .bool false, .slice none 0 0] [.val (.bool false), .sl 140 1 [], .val (.bool false), .sl 140 1 []] := by simp [eC, Value.oneCell']
theorem cP (num den : kS) (a b : Int) (fD : yP num a 68719476736) (cZ : yP den b 68719476736) (hb : b ≠ 0) : jT Tryz.prog 143 [(jK num), (jK den)] (jH (jM (Rat.divInt a b))) := by
 refine jJ Tryz.func143 rfl cb143 rfl ?_
 show qR _ _ _ _ ⟨[(0, (.d (jK num))), (1, (.d (jK den)))], []⟩
 refine jB<|kx [(2, (.ref 0 0)), (3, (.ref 1 0)), (4, (.ref 2 0))] [(0, some (bx (jK num))), (1, some (bx (jK den))), (2, some (bx (jH kW)))] (zN (xA 0)<|zN (xA 1)<|zN (uU 2 qA qO)<|zZ) ?_
 refine jB<|jB<|kx [(8, (vb (decide ((uB b) < 0))))] [] (zR (kP jV)<|zE (jZ (s_sign cZ (by decide)))<|zE vZ<|zZ) ?_
 refine jF (b := decide ((uB b) < 0)) rfl (fun h1 => ?_) (fun h1 => ?_)
 ·replace h1 := uH h1
  have hlt := signI_lt.1 h1
  have hb2 : -b ≠ 0 := by omega
  refine kd [] [(0, some (bx (jK (kJ (-a))))), (1, some (bx (jK (kJ (-b)))))] mo (wR (kP jV)<|wE (jZ (s_neg fD (by decide)))<|wR (kP jV)<|wE (jZ (s_neg cZ (by decide)))<|wT (qM jV)<|wT (qM jV)<|wZ) ?_
  refine jB<|kx [(5, (.ref 3 0))] [(3, some (bx (jK (kJ ((Int.gcd (-a) (-b) : Nat) : Int)))))] (zR (kP jV)<|zR (kP jV)<|zE (jZ (s_gcd (mG fD) (mG cZ) (by decide) (by decide)))<|zN (uU 3 zL zP)<|zT (qM jV)<|zZ) ?_
  refine jB<|kx [] [(0, some (bx (jK (kJ ((-a).fdiv (((Int.gcd (-a) (-b) : Nat) : Int)))))))] (zR (kP jV)<|zR (kP jV)<|zE (jZ (s_divide (mG fD) (cA (k := 68719476736) (mG fD) (mG cZ) (by decide)) (by decide) (by decide) (gcd_ne (by omega))))<|zM<|zE vP<|zE vP<|zE vP<|zT (qM jV)<|zZ) ?_
  refine jB<|kx [] [(1, some (bx (jK (kJ ((-b).fdiv (((Int.gcd (-a) (-b) : Nat) : Int)))))))] (zR (kP jV)<|zR (kP jV)<|zE (jZ (s_divide (mG cZ) (cA (k := 68719476736) (mG fD) (mG cZ) (by decide)) (by decide) (by decide) (gcd_ne (by omega))))<|zM<|zE vP<|zE vP<|zE vP<|zT (qM jV)<|zZ) ?_
  refine jB<|kx [] [(2, some (bx (jH (kD.mk (kJ ((-a).fdiv (((Int.gcd (-a) (-b) : Nat) : Int)))) (kJ ((-b).fdiv (((Int.gcd (-a) (-b) : Nat) : Int))))))))] (zR (kP jV)<|zR (kP jV)<|zE (bS pl45 qA qO)<|zT (qM jO)<|zZ) ?_
  refine jE ⟨_, (kU (cs := (bx (jH (kD.mk (kJ ((-a).fdiv (((Int.gcd (-a) (-b) : Nat) : Int)))) (kJ ((-b).fdiv (((Int.gcd (-a) (-b) : Nat) : Int)))))))) (d := (jH (kD.mk (kJ ((-a).fdiv (((Int.gcd (-a) (-b) : Nat) : Int)))) (kJ ((-b).fdiv (((Int.gcd (-a) (-b) : Nat) : Int))))))) rfl rfl jO rfl rfl .nil), ?_⟩
  rw [red_neg hlt]; rfl
 ·replace h1 := vB h1
  have hge : ¬ b < 0 := fun hh => h1 (signI_lt.2 hh)
  refine jD<|jB<|kx [(5, (.ref 4 0))] [(4, some (bx (jK (kJ ((Int.gcd a b : Nat) : Int)))))] (zR (kP jV)<|zR (kP jV)<|zE (jZ (s_gcd fD cZ (by decide) (by decide)))<|zN (uU 4 zL zP)<|zT (qM jV)<|zZ) ?_
  refine jB<|kx [] [(0, some (bx (jK (kJ (a.fdiv (((Int.gcd a b : Nat) : Int)))))))] (zR (kP jV)<|zR (kP jV)<|zE (jZ (s_divide fD (cA (k := 68719476736) fD cZ (by decide)) (by decide) (by decide) (gcd_ne (by omega))))<|zM<|zE vP<|zE vP<|zE vP<|zT (qM jV)<|zZ) ?_
  refine jB<|kx [] [(1, some (bx (jK (kJ (b.fdiv (((Int.gcd a b : Nat) : Int)))))))] (zR (kP jV)<|zR (kP jV)<|zE (jZ (s_divide cZ (cA (k := 68719476736) fD cZ (by decide)) (by decide) (by decide) (gcd_ne (by omega))))<|zM<|zE vP<|zE vP<|zE vP<|zT (qM jV)<|zZ) ?_
  refine jB<|kx [] [(2, some (bx (jH (kD.mk (kJ (a.fdiv (((Int.gcd a b : Nat) : Int)))) (kJ (b.fdiv (((Int.gcd a b : Nat) : Int))))))))] (zR (kP jV)<|zR (kP jV)<|zE (bS pl45 qA qO)<|zT (qM jO)<|zZ) ?_
  refine jE ⟨_, (kU (cs := (bx (jH (kD.mk (kJ (a.fdiv (((Int.gcd a b : Nat) : Int)))) (kJ (b.fdiv (((Int.gcd a b : Nat) : Int)))))))) (d := (jH (kD.mk (kJ (a.fdiv (((Int.gcd a b : Nat) : Int)))) (kJ (b.fdiv (((Int.gcd a b : Nat) : Int))))))) rfl rfl jO rfl rfl .nil), ?_⟩
  rw [red_pos hge hb]; rfl
theorem f_whole (n : Int) (hlo : -9223372036854775808 ≤ n) (hhi : n ≤ 9223372036854775807) : jT Tryz.prog 105 [(.val (.int .i64 (n)))] (jH (jM ((n : Int) : Rat))) := by
 refine jJ Tryz.func105 rfl cb105 rfl ?_
 show qR _ _ _ _ ⟨[(0, (vi n))], []⟩
 refine jB<|kx [(2, (.ref 0 0))] [(0, some (bx (jH kW)))] (zN (uU 0 qA qO)<|zZ) ?_
 refine jB<|kx [] [(0, some (bx (jH (kD.mk (kJ n) (kJ 1)))))] (zM<|zE (jZ (t_of n (by omega) (by omega)))<|zE (jZ (t_of 1 (by decide) (by decide)))<|zE (bS pl45 qA qO)<|zT (qM jO)<|zZ) ?_
 refine jE ⟨_, (kU (cs := (bx (jH (kD.mk (kJ n) (kJ 1))))) (d := (jH (kD.mk (kJ n) (kJ 1)))) rfl rfl jO rfl rfl .nil), ?_⟩
 rfl
theorem mB (x : kD) (p : Rat) (hx : mF x p 17179869184) : jT Tryz.prog 78 [(jH x)] (.val (.bool ((kN x)))) := by
 refine jJ Tryz.func78 rfl cb78 rfl ?_
 show qR _ _ _ _ ⟨[(0, (.d (jH x)))], []⟩
 refine jB<|kx [(1, (.ref 0 0))] [(0, some (bx (jH x)))] (zN (xA 0)<|zM<|zZ) ?_
 refine jB<|jB<|kx [(18, (vb ((!(uM x.num) || !(uM x.den)) || decide ((uB (jW x.den)) ≤ 0))))] [] ?_ ?_
 ·refine zE (qD yA)<|zR (kP jV)<|zE (jZ (t_valid x.num (Nat.le_trans (yQ hx.n1).l (by decide))))<|zE fC<|zE (oV (vb (!(uM x.num))) (qH (by kernel_rfl)))<|?_
  rcases hb1 : (!(uM x.num)) with _ | _
  ·refine zE (qD xE)<|zR (kP jV)<|zE (jZ (t_valid x.den (Nat.le_trans (yQ hx.n2).l (by decide))))<|zE fC<|zE aO<|zE (oV (vb (false || !(uM x.den))) (qH (by kernel_rfl)))<|?_
   rcases hb2 : (false || !(uM x.den)) with _ | _
   ·exact zE (qD xE)<|zR (kP jV)<|zE (jZ (s_sign (yQ hx.n2) (by decide)))<|zE oLe<|zE aO<|zZ
   ·exact zK<|zK<|zK<|zK<|zE hZ<|zZ
  ·exact zK<|zK<|zK<|zK<|zE hZ<|zM<|zK<|zK<|zK<|zK<|zE hZ<|zZ
 refine jF rfl (fun h3 => ?_) (fun h3 => ?_)
 ·refine jB<|kx [(2, (vb false))] [] (zM<|zZ) ?_
  refine jE ⟨_, (.tmp (d := (.val (.bool (false)))) rfl .nil), ?_⟩
  rw [validR_no h3]; rfl
 ·refine jD<|jB<|kx [(2, (vb ((uX (((Int.gcd (jW x.num) (jW x.den) : Nat) : Int)) 1) == 0)))] [] (zE (qD yA)<|zR (kP jV)<|zE (qD xE)<|zR (kP jV)<|zE (jZ (s_gcd (yQ hx.n1) (yQ hx.n2) (by decide) (by decide)))<|zE (jZ (t_of 1 (by decide) (by decide)))<|zE (jZ (s_compare (cA (k := 17179869184) (yQ hx.n1) (yQ hx.n2) (by decide)) (aS (z := 1) (by decide)) (by decide) (by decide)))<|zE gA<|zM<|zZ) ?_
  refine jE ⟨_, (.tmp (d := (.val (.bool (((uX (((Int.gcd (jW x.num) (jW x.den) : Nat) : Int)) 1) == 0))))) rfl .nil), ?_⟩
  rw [validR_yes h3]; rfl
theorem f_copied (x : kD) (p : Rat) (hx : mF x p 17179869184) : jT Tryz.prog 224 [(jH x)] (jH (kD.mk (kJ (-(-jW x.num))) (kJ (-(-jW x.den))))) := by
 refine jJ Tryz.func224 rfl cb224 rfl ?_
 show qR _ _ _ _ ⟨[(0, (.d (jH x)))], []⟩
 refine jB<|kx [(1, (.ref 0 0)), (2, (.ref 1 0))] [(0, some (bx (jH x))), (1, some (bx (jH kW)))] (zN (xA 0)<|zN (uU 1 qA qO)<|zZ) ?_
 refine jB<|kd [] [(1, some (bx (jH (kD.mk (kJ (-(-(jW x.num)))) (kJ (-(-(jW x.den))))))))] mo (wE (qD yA)<|wR (kP jV)<|wE (jZ (s_neg (yQ hx.n1) (by decide)))<|wE (jZ (s_neg (mG (yQ hx.n1)) (by decide)))<|wE (qD xE)<|wR (kP jV)<|wE (jZ (s_neg (yQ hx.n2) (by decide)))<|wE (jZ (s_neg (mG (yQ hx.n2)) (by decide)))<|wE (bS pl45 qA qO)<|wT (qM jO)<|wZ) ?_
 refine jE ⟨_, (kU (cs := (bx (jH (kD.mk (kJ (-(-(jW x.num)))) (kJ (-(-(jW x.den)))))))) (d := (jH (kD.mk (kJ (-(-(jW x.num)))) (kJ (-(-(jW x.den))))))) rfl rfl jO rfl rfl .nil), ?_⟩
 rfl
theorem eF (x : kD) (p : Rat) (hx : mF x p 17179869184) : jT Tryz.prog 140 [(jH x)] (jH (jM p)) := by
 refine jJ Tryz.func140 rfl cb140 rfl ?_
 show qR _ _ _ _ ⟨[(0, (.d (jH x)))], []⟩
 refine jB<|kx [(1, (.ref 0 0)), (2, (.ref 1 0))] [(0, some (bx (jH x))), (1, some (bx (jH kW)))] (zN (xA 0)<|zN (uU 1 qA qO)<|zZ) ?_
 refine jB<|jB<|kx [(4, (vb (kN x)))] [] (zR (kP jO)<|zE (jZ (mB x p hx))<|zZ) ?_
 refine jF (b := (kN x)) rfl (fun h1 => ?_) (fun h1 => ?_)
 ·refine jB<|kx [] [(1, some (bx (jH (kD.mk (kJ (-(-jW x.num))) (kJ (-(-jW x.den)))))))] (zR (kP jO)<|zE (jZ (f_copied x p hx))<|zT (qM jO)<|zZ) ?_
  refine jE ⟨_, (kU (cs := (bx (jH (kD.mk (kJ (-(-jW x.num))) (kJ (-(-jW x.den))))))) (d := (jH (kD.mk (kJ (-(-jW x.num))) (kJ (-(-jW x.den)))))) rfl rfl jO rfl rfl .nil), ?_⟩
  rw [← hx.v, ← copied_eq h1]; rfl
 ·refine jD<|jB<|kx [] [(1, some (bx (jH (jM ((0 : Int) : Rat)))))] (zE (jZ (f_whole 0 (by decide) (by decide)))<|zT (qM jO)<|zZ) ?_
  refine jE ⟨_, (kU (cs := (bx (jH (jM ((0 : Int) : Rat))))) (d := (jH (jM ((0 : Int) : Rat)))) rfl rfl jO rfl rfl .nil), ?_⟩
  rw [← hx.v, toQ_bad h1]; rfl
theorem f_sign (x : kD) (p : Rat) (hx : mF x p 17179869184) : jT Tryz.prog 79 [(jH x)] (.val (.int .i64 ((dZ p)))) := by
 refine jJ Tryz.func79 rfl cb79 rfl ?_
 show qR _ _ _ _ ⟨[(0, (.d (jH x)))], []⟩
 refine jB<|kx [(1, (.ref 0 0))] [(0, some (bx (jH x)))] (zN (xA 0)<|zM<|zZ) ?_
 refine jB<|kx [(2, (vi (uB p.num)))] [] (zR (kP jO)<|zE (jZ (eF x p hx))<|zE (oFv ft45_0 jV)<|zE (jZ (s_sign (uO hx.ql) (by decide)))<|zM<|zZ) ?_
 refine jE ⟨_, (.tmp (d := (.val (.int .i64 ((uB p.num))))) rfl .nil), ?_⟩
 rfl
theorem f_neg (x : kD) (p : Rat) (hx : mF x p 17179869184) : jT Tryz.prog 141 [(jH x)] (jH (jM (-p))) := by
 refine jJ Tryz.func141 rfl cb141 rfl ?_
 show qR _ _ _ _ ⟨[(0, (.d (jH x)))], []⟩
 refine jB<|kx [(1, (.ref 0 0)), (2, (.ref 1 0))] [(0, some (bx (jH x))), (1, some (bx (jH kW)))] (zN (xA 0)<|zN (uU 1 qA qO)<|zZ) ?_
 refine jB<|kx [] [(0, some (bx (jH (jM p))))] (zR (kP jO)<|zE (jZ (eF x p hx))<|zT (qM jO)<|zZ) ?_
 refine jB<|kd [] [(1, some (bx (jH (kD.mk (kJ (-p.num)) ((jM p).den)))))] mo (wE (qD yA)<|wR (kP jV)<|wE (jZ (s_neg (uO hx.ql) (by decide)))<|wE (qD xE)<|wR (kP jV)<|wE (bS pl45 qA qO)<|wT (qM jO)<|wZ) ?_
 refine jE ⟨_, (kU (cs := (bx (jH (kD.mk (kJ (-p.num)) ((jM p).den))))) (d := (jH (kD.mk (kJ (-p.num)) ((jM p).den)))) rfl rfl jO rfl rfl .nil), ?_⟩
 rfl
theorem f_add (x : kD) (y : kD) (p : Rat) (q : Rat) (hx : mF x p 17179869184) (hy : mF y q 17179869184) : jT Tryz.prog 90 [(jH x), (jH y)] (jH (jM (p + q))) := by
 refine jJ Tryz.func90 rfl cb90 rfl ?_
 show qR _ _ _ _ ⟨[(0, (.d (jH x))), (1, (.d (jH y)))], []⟩
 refine jB<|kx [(2, (.ref 0 0)), (3, (.ref 1 0)), (4, (.ref 2 0))] [(0, some (bx (jH x))), (1, some (bx (jH y))), (2, some (bx (jH kW)))] (zN (xA 0)<|zN (xA 1)<|zN (uU 2 qA qO)<|zZ) ?_
 refine jB<|kd [] [(0, some (bx (jH (jM p)))), (1, some (bx (jH (jM q))))] mo (wR (kP jO)<|wE (jZ (eF x p hx))<|wR (kP jO)<|wE (jZ (eF y q hy))<|wT (qM jO)<|wT (qM jO)<|wZ) ?_
 refine jB<|kd [] [(2, some (bx (jH (jM (Rat.divInt ((p.num * (q.den : Int)) + (q.num * (p.den : Int))) ((p.den : Int) * (q.den : Int)))))))] mo (wE (qD yA)<|wR (kP jV)<|wE (qD xE)<|wR (kP jV)<|wE (jZ (s_mul (uO hx.ql) (uE hy.ql) (by decide) (by decide)))<|wE (qD yA)<|wR (kP jV)<|wE (qD xE)<|wR (kP jV)<|wE (jZ (s_mul (uO hy.ql) (uE hx.ql) (by decide) (by decide)))<|wE (jZ (s_add (zW (k := 34359738368) (uO hx.ql) (uE hy.ql) (by decide)) (zW (k := 34359738368) (uO hy.ql) (uE hx.ql) (by decide)) (by decide) (by decide)))<|wE (qD xE)<|wR (kP jV)<|wE (qD xE)<|wR (kP jV)<|wE (jZ (s_mul (uE hx.ql) (uE hy.ql) (by decide) (by decide)))<|wE (jZ (cP (kJ ((p.num * (q.den : Int)) + (q.num * (p.den : Int)))) (kJ ((p.den : Int) * (q.den : Int))) ((p.num * (q.den : Int)) + (q.num * (p.den : Int))) ((p.den : Int) * (q.den : Int)) (gU (iok_add (k := 34359738369) (zW (k := 34359738368) (uO hx.ql) (uE hy.ql) (by decide)) (zW (k := 34359738368) (uO hy.ql) (uE hx.ql) (by decide)) (by decide)) (by decide)) (gU (zW (k := 34359738368) (uE hx.ql) (uE hy.ql) (by decide)) (by decide)) (mul_ne (aG _) (aG _))))<|wT (qM jO)<|wZ) ?_
 refine jE ⟨_, (kU (cs := (bx (jH (jM (Rat.divInt ((p.num * (q.den : Int)) + (q.num * (p.den : Int))) ((p.den : Int) * (q.den : Int))))))) (d := (jH (jM (Rat.divInt ((p.num * (q.den : Int)) + (q.num * (p.den : Int))) ((p.den : Int) * (q.den : Int)))))) rfl rfl jO rfl rfl .nil), ?_⟩
 rw [add_divInt]; rfl
theorem f_sub (x : kD) (y : kD) (p : Rat) (q : Rat) (hx : mF x p 17179869184) (hy : mF y q 17179869184) : jT Tryz.prog 80 [(jH x), (jH y)] (jH (jM (p - q))) := by
 refine jJ Tryz.func80 rfl cb80 rfl ?_
 show qR _ _ _ _ ⟨[(0, (.d (jH x))), (1, (.d (jH y)))], []⟩
 refine jB<|kx [(2, (.ref 0 0)), (3, (.ref 1 0)), (4, (.ref 2 0))] [(0, some (bx (jH x))), (1, some (bx (jH y))), (2, some (bx (jH kW)))] (zN (xA 0)<|zN (xA 1)<|zN (uU 2 qA qO)<|zZ) ?_
 refine jB<|kd [] [(2, some (bx (jH (jM (p + (-q))))))] mo (wR (kP jO)<|wR (kP jO)<|wE (jZ (f_neg y q hy))<|wE (jZ (f_add x (jM (-q)) p (-q) hx (jX (ql_neg hy.ql))))<|wT (qM jO)<|wZ) ?_
 refine jE ⟨_, (kU (cs := (bx (jH (jM (p + (-q)))))) (d := (jH (jM (p + (-q))))) rfl rfl jO rfl rfl .nil), ?_⟩
 rw [Rat.sub_eq_add_neg]; rfl
theorem fV (x : kD) (y : kD) (p : Rat) (q : Rat) (hx : mF x p 17179869184) (hy : mF y q 17179869184) : jT Tryz.prog 82 [(jH x), (jH y)] (jH (jM (p * q))) := by
 refine jJ Tryz.func82 rfl cb82 rfl ?_
 show qR _ _ _ _ ⟨[(0, (.d (jH x))), (1, (.d (jH y)))], []⟩
 refine jB<|kx [(2, (.ref 0 0)), (3, (.ref 1 0)), (4, (.ref 2 0))] [(0, some (bx (jH x))), (1, some (bx (jH y))), (2, some (bx (jH kW)))] (zN (xA 0)<|zN (xA 1)<|zN (uU 2 qA qO)<|zZ) ?_
 refine jB<|kd [] [(0, some (bx (jH (jM p)))), (1, some (bx (jH (jM q))))] mo (wR (kP jO)<|wE (jZ (eF x p hx))<|wR (kP jO)<|wE (jZ (eF y q hy))<|wT (qM jO)<|wT (qM jO)<|wZ) ?_
 refine jB<|kd [] [(2, some (bx (jH (jM (Rat.divInt (p.num * q.num) ((p.den : Int) * (q.den : Int)))))))] mo (wE (qD yA)<|wR (kP jV)<|wE (qD yA)<|wR (kP jV)<|wE (jZ (s_mul (uO hx.ql) (uO hy.ql) (by decide) (by decide)))<|wE (qD xE)<|wR (kP jV)<|wE (qD xE)<|wR (kP jV)<|wE (jZ (s_mul (uE hx.ql) (uE hy.ql) (by decide) (by decide)))<|wE (jZ (cP (kJ (p.num * q.num)) (kJ ((p.den : Int) * (q.den : Int))) (p.num * q.num) ((p.den : Int) * (q.den : Int)) (gU (zW (k := 34359738368) (uO hx.ql) (uO hy.ql) (by decide)) (by decide)) (gU (zW (k := 34359738368) (uE hx.ql) (uE hy.ql) (by decide)) (by decide)) (mul_ne (aG _) (aG _))))<|wT (qM jO)<|wZ) ?_
 refine jE ⟨_, (kU (cs := (bx (jH (jM (Rat.divInt (p.num * q.num) ((p.den : Int) * (q.den : Int))))))) (d := (jH (jM (Rat.divInt (p.num * q.num) ((p.den : Int) * (q.den : Int)))))) rfl rfl jO rfl rfl .nil), ?_⟩
 rw [mul_divInt]; rfl
theorem mM (x : kD) (y : kD) (p : Rat) (q : Rat) (hx : mF x p 17179869184) (hy : mF y q 17179869184) : jT Tryz.prog 81 [(jH x), (jH y)] (.val (.int .i64 ((yJ p q)))) := by
 refine jJ Tryz.func81 rfl cb81 rfl ?_
 show qR _ _ _ _ ⟨[(0, (.d (jH x))), (1, (.d (jH y)))], []⟩
 refine jB<|kx [(2, (.ref 0 0)), (3, (.ref 1 0))] [(0, some (bx (jH x))), (1, some (bx (jH y)))] (zN (xA 0)<|zN (xA 1)<|zM<|zZ) ?_
 refine jB<|kd [] [(0, some (bx (jH (jM p)))), (1, some (bx (jH (jM q))))] mo (wR (kP jO)<|wE (jZ (eF x p hx))<|wR (kP jO)<|wE (jZ (eF y q hy))<|wT (qM jO)<|wT (qM jO)<|wZ) ?_
 refine jB<|kd [(4, (vi (uX (p.num * (q.den : Int)) (q.num * (p.den : Int)))))] [] mo (wE (qD yA)<|wR (kP jV)<|wE (qD xE)<|wR (kP jV)<|wE (jZ (s_mul (uO hx.ql) (uE hy.ql) (by decide) (by decide)))<|wE (qD yA)<|wR (kP jV)<|wE (qD xE)<|wR (kP jV)<|wE (jZ (s_mul (uO hy.ql) (uE hx.ql) (by decide) (by decide)))<|wE (jZ (s_compare (zW (k := 34359738368) (uO hx.ql) (uE hy.ql) (by decide)) (zW (k := 34359738368) (uO hy.ql) (uE hx.ql) (by decide)) (by decide) (by decide)))<|wM<|wZ) ?_
 refine jE ⟨_, (.tmp (d := (.val (.int .i64 ((uX (p.num * (q.den : Int)) (q.num * (p.den : Int))))))) rfl .nil), ?_⟩
 rw [← cmpQ_cross]; rfl
end Go.Proofs.YtnajallgoaiahaaGreatDoor
