/- Part 19 of a proof: rules, plain facts, and functions walked. -/
import Derived.Test.YtnajallgoaiahaaGreatDoorM18
namespace Go.Proofs.YtnajallgoaiahaaGreatDoor
open Go.Fid
set_option maxRecDepth 4000
set_option linter.unusedVariables false
set_option linter.unusedSimpArgs false
theorem cb117 : callB Tryz.prog 117 = true := by kernel_rfl
theorem cb118 : callB Tryz.prog 118 = true := by kernel_rfl
theorem cb146 : callB Tryz.prog 146 = true := by kernel_rfl
theorem r_gcd (x : jE) (y : jE) (hx : x.gs.length ≤ 1099511627776) (hy : y.gs.length ≤ 1099511627776) : jW Tryz.prog 118 [(jQ x), (jQ y)] (jQ (kJ ((Int.gcd (kC x) (kC y) : Nat) : Int))) := by
 have hvx := cW x
 have hvy := cW y
 refine jM Tryz.func118 rfl cb118 rfl ?_
 show qJ _ _ _ _ ⟨[(0, (.d (jQ x))), (1, (.d (jQ y)))], []⟩
 refine jB <| kx [(2, (.ref 0 0)), (3, (.ref 1 0)), (4, (.ref 2 0))] [(0, some (bx (jQ x))), (1, some (bx (jQ y))), (2, some (bx (jQ (jE.mk false []))))] (zN (uZ 0) <| zN (uZ 1) <| zN (qS 2 zJ zL) <| zZ) ?_
 refine jB <| kd [(5, (vl 140 1 jD (ofNat (Int.natAbs (kC x))))), (6, (vl 140 1 jD (ofNat (Int.natAbs (kC y)))))] [] mo (wR (kK kB) <| wE (kG (dB x (by omega))) <| wE (oF1 fA xY) <| wR (kK kB) <| wE (kG (dB y (by omega))) <| wE (oF1 fA xY) <| wM <| wM <| wZ) ?_
 refine jB <| jI <| kU (α := List Nat × List Nat) (fun (a, b) => ⟨[(4, (.ref 2 0)), (5, (vl 140 1 jD a)), (6, (vl 140 1 jD b))], [(2, some (bx (jQ (jE.mk false []))))]⟩) (fun (a, b) => xT a ∧ xT b ∧ a.length ≤ 1099511627776 ∧ b.length ≤ 1099511627776 ∧ Nat.gcd (val a) (val b) = Int.gcd (kC x) (kC y)) (fun (a, b) => val b) ((ofNat (Int.natAbs (kC x))), (ofNat (Int.natAbs (kC y)))) wk ⟨qG _, qG _, by omega, by omega, by rw [kI, kI]; rfl⟩ ?_
 rintro ⟨a, b⟩ ⟨ha, hb, hla, hlb, hg⟩
 refine jB <| jB <| kx [(29, (vb (decide (0 < ((b.length : Nat) : Int)) && (decide (2 < ((a.length : Nat) : Int)) || decide (2 < ((b.length : Nat) : Int))))))] [] ?_ ?_
 ·refine zM <| zE (zB kN) <| zE yN <| zE (oV (vb (decide (0 < ((b.length : Nat) : Int)))) (uA (by kernel_rfl))) <| ?_
  rcases hb1 : (decide (0 < ((b.length : Nat) : Int))) with _ | _
  ·replace hb1 := of_decide_eq_false hb1
   exact zK <| zK <| zK <| zK <| zK <| zK <| zK <| zK <| zE nA <| zZ
  ·replace hb1 := of_decide_eq_true hb1
   refine zM <| zE (zB kN) <| zE yN <| zE (oV (vb (decide (2 < ((a.length : Nat) : Int)))) (uA (by kernel_rfl))) <| ?_
   rcases hb2 : (decide (2 < ((a.length : Nat) : Int))) with _ | _
   ·replace hb2 := of_decide_eq_false hb2
    exact zM <| zE (zB kN) <| zE yN <| zE oPo <| zE oPa <| zZ
   ·replace hb2 := of_decide_eq_true hb2
    exact zK <| zK <| zK <| zE cR <| zE cR <| zZ
 refine jK rfl (fun h3 => ?_) (fun h3 => ?_)
 ·have hbl : 0 < b.length := by rw [Bool.and_eq_true, decide_eq_true_eq] at h3; omega
  have hb0 := mH hb hbl
  refine jF <| jI <| jB <| kx [(8, (vl 140 1 jD (ofNat (val a % val b))))] [] (zM <| zM <| zE (kG (r_parts a b ha hb (by omega) (by omega) (by omega))) <| zM <| zE vX <| zE vX <| zM <| zM <| zZ) ?_
  refine kx [(5, (vl 140 1 jD b)), (6, (vl 140 1 jD (ofNat (val a % val b))))] [] (zM <| zM <| zM <| zM <| zZ) ?_
  exact ⟨(b, ofNat (val a % val b)), wk, ⟨hb, qG _, hlb, Nat.le_trans (len_rem a ha _) hla, by rw [kI, ← hg, Nat.gcd_comm, ← Nat.gcd_rec, Nat.gcd_comm]⟩, (by dsimp only; rw [kI]; exact Nat.mod_lt _ hb0)⟩
 ·have hex := h3
  refine kP <| jB <| jB <| kx [(40, (vb (((b.length : Nat) : Int) == 0)))] [] (zM <| zE (zB kN) <| zE gJ <| zZ) ?_
  refine jK (b := (((b.length : Nat) : Int) == 0)) rfl (fun h4 => ?_) (fun h4 => ?_)
  ·replace h4 := eq_of_beq h4
   have hb1 : b = [] := List.eq_nil_of_length_eq_zero (by omega)
   rw [hb1, val_nil, Nat.gcd_zero_right] at hg
   refine jB <| kx [] [(2, some (bx (jQ (vV false (val a)))))] (zM <| zE (kG (gW false a ha.1 (by omega))) <| zT (qF kB) <| zZ) ?_
   refine jH ⟨_, (qA (cs := (bx (jQ (vV false (val a))))) (d := (jQ (vV false (val a)))) rfl rfl kB rfl rfl .nil), ?_⟩
   rw [← hg, mkI_false]; rfl
  ·replace h4 := ne_of_beq_false h4
   have hl2 : a.length ≤ 2 ∧ b.length ≤ 2 := by simp only [Bool.and_eq_false_iff, Bool.or_eq_false_iff, decide_eq_false_iff_not] at hex; omega
   refine jF <| jB <| kx [(9, (yL (val a))), (10, (yL (val b)))] [] (zM <| zE (kG (r_pair a ha.1 (by omega))) <| zM <| zE (kG (r_pair b hb.1 (by omega))) <| zM <| zM <| zZ) ?_
   refine jB <| jI <| kU (α := Nat × Nat) (fun (m, n) => ⟨[(4, (.ref 2 0)), (9, (yL m)), (10, (yL n))], [(2, some (bx (jQ (jE.mk false []))))]⟩) (fun (m, n) => m < 1000000000000000000 ∧ n < 1000000000000000000 ∧ Nat.gcd m n = Int.gcd (kC x) (kC y)) (fun (m, n) => n) (val a, val b) wk ⟨val_len2 ha.1 hl2.1, val_len2 hb.1 hl2.2, hg⟩ ?_
   rintro ⟨m, n⟩ ⟨hm, hn, hg2⟩
   refine jB <| jB <| kx [(48, (vb (decide (0 < ((n : Nat) : Int)))))] [] (zM <| zE yN <| zZ) ?_
   refine jK (b := decide (0 < ((n : Nat) : Int))) rfl (fun h5 => ?_) (fun h5 => ?_)
   ·replace h5 := of_decide_eq_true h5
    refine jF <| jI <| kd [(9, (yL n)), (10, (yL (m % n)))] [] mo (wM <| wM <| wM <| wE (oRe (m % n)) <| wM <| wM <| wZ) ?_
    exact ⟨(n, m % n), wk, ⟨hn, Nat.lt_of_le_of_lt (Nat.mod_le _ _) hm, by rw [← hg2, Nat.gcd_comm, ← Nat.gcd_rec, Nat.gcd_comm]⟩, (by dsimp only; exact Nat.mod_lt _ (by omega))⟩
   ·replace h5 := of_decide_eq_false h5
    obtain rfl : n = 0 := by omega
    rw [Nat.gcd_zero_right] at hg2
    have hmv : val [m % 1000000000, m / 1000000000] = m := by simp only [val]; omega
    refine kP <| jB <| kx [] [(2, some (bx (jQ (vV false (val [(m % 1000000000), (m / 1000000000)])))))] (zM <| zE (oRe (m % 1000000000)) <| zE (nX gL yY (m % 1000000000)) <| zM <| zE (oQu (m / 1000000000)) <| zE (nX gL yY (m / 1000000000)) <| zE (nU kN vF xX) <| zE (kG (gW false [(m % 1000000000), (m / 1000000000)] (yG.2 ⟨Nat.mod_lt _ (by decide), yG.2 ⟨by omega, gC⟩⟩) (by simp))) <| zT (qF kB) <| zZ) ?_
    refine jH ⟨_, (qA (cs := (bx (jQ (vV false (val [(m % 1000000000), (m / 1000000000)]))))) (d := (jQ (vV false (val [(m % 1000000000), (m / 1000000000)])))) rfl rfl kB rfl rfl .nil), ?_⟩
    rw [← hg2, hmv, mkI_false]; rfl
theorem r_compare (x : jE) (y : jE) (hx : x.gs.length ≤ 274877906944) (hy : y.gs.length ≤ 274877906944) : jW Tryz.prog 117 [(jQ x), (jQ y)] (.val (.int .i64 ((uY (kC x) (kC y))))) := by
 have hv := gs_sub x y
 refine jM Tryz.func117 rfl cb117 rfl ?_
 show qJ _ _ _ _ ⟨[(0, (.d (jQ x))), (1, (.d (jQ y)))], []⟩
 refine jB <| kx [(2, (.ref 0 0)), (3, (.ref 1 0))] [(0, some (bx (jQ x))), (1, some (bx (jQ y)))] (zN (uZ 0) <| zN (uZ 1) <| zM <| zZ) ?_
 refine jB <| kx [(4, (vi (uB (kC (kJ (kC x - kC y))))))] [] (zR (kK kB) <| zR (kK kB) <| zE (kG (r_sub x y (by omega) (by omega))) <| zE (kG (r_sign (kJ (kC x - kC y)) (by omega))) <| zM <| zZ) ?_
 refine jH ⟨_, (.tmp (d := (.val (.int .i64 ((uB (kC (kJ (kC x - kC y)))))))) rfl .nil), ?_⟩
 rw [mP, signI_sub]; rfl
theorem r_divide (x : jE) (y : jE) (hx : x.gs.length ≤ 274877906944) (hy : y.gs.length ≤ 274877906944) (hy0 : kC y ≠ 0) : jW Tryz.prog 146 [(jQ x), (jQ y)] (.tup [(jQ (kJ ((kC x).fdiv (kC y)))), (jQ (kJ ((kC x).fmod (kC y)))), (.val (.int .i64 (0)))]) := by
 have hvx := cW x
 have hvy := cW y
 have hmx := gs_val x
 have hmy := gs_val y
 have hy1 : 0 < (kC y).natAbs := by omega
 have hyl := cY hy1
 have hql : (ofNat (val (ofNat (Int.natAbs (kC x))) / val (ofNat (Int.natAbs (kC y))))).length ≤ 274877906944 := by have := len_quo (ofNat (Int.natAbs (kC x))) (qG _) (val (ofNat (Int.natAbs (kC y)))); omega
 have hqg : (vV (!((kJ (kC x)).neg == (kJ (kC y)).neg)) (val (ofNat (val (ofNat (Int.natAbs (kC x))) / val (ofNat (Int.natAbs (kC y))))))).gs.length ≤ 274877906944 := by show (ofNat (val (ofNat (val (ofNat (Int.natAbs (kC x))) / val (ofNat (Int.natAbs (kC y))))))).length ≤ _; rw [kI]; exact hql
 have eI : (kJ 1).gs.length ≤ 1 := (fV (z := 1) (by decide)).l
 have hqs := gs_sub (vV (!((kJ (kC x)).neg == (kJ (kC y)).neg)) (val (ofNat (val (ofNat (Int.natAbs (kC x))) / val (ofNat (Int.natAbs (kC y))))))) (kJ 1)
 refine jM Tryz.func146 rfl cb146 rfl ?_
 show qJ _ _ _ _ ⟨[(0, (.d (jQ x))), (1, (.d (jQ y)))], []⟩
 refine jB <| kx [(2, (.ref 0 0)), (3, (.ref 1 0)), (4, (.ref 2 0)), (5, (.ref 3 0))] [(0, some (bx (jQ x))), (1, some (bx (jQ y))), (2, some (bx (jQ (jE.mk false [])))), (3, some (bx (jQ (jE.mk false []))))] (zN (uZ 0) <| zN (uZ 1) <| zN (qS 2 zJ zL) <| zN (qS 3 zJ zL) <| zM <| zZ) ?_
 refine jB <| kd [] [(0, some (bx (jQ (kJ (kC x))))), (1, some (bx (jQ (kJ (kC y)))))] mo (wR (kK kB) <| wE (kG (dB x (by omega))) <| wR (kK kB) <| wE (kG (dB y (by omega))) <| wT (qF kB) <| wT (qF kB) <| wZ) ?_
 refine jB <| jB <| kx [(17, (vb ((((ofNat (Int.natAbs (kC y))).length : Nat) : Int) == 0)))] [] (zE (qC vU) <| zR (uC xY) <| zE (zB kN (L := (ofNat (Int.natAbs (kC y))))) <| zE gJ <| zZ) ?_
 refine jK rfl (fun h1 => ?_) (fun h1 => ?_)
 ·replace h1 := eq_of_beq h1
  exact absurd h1 (by omega)
 ·replace h1 := ne_of_beq_false h1
  refine jF <| jB <| kx [(7, (vl 140 1 jD (ofNat (val (ofNat (Int.natAbs (kC x))) / val (ofNat (Int.natAbs (kC y))))))), (8, (vl 140 1 jD (ofNat (val (ofNat (Int.natAbs (kC x))) % val (ofNat (Int.natAbs (kC y)))))))] [] (zE (qC vU) <| zR (uC xY) <| zE (qC vU) <| zR (uC xY) <| zE (kG (r_parts (ofNat (Int.natAbs (kC x))) (ofNat (Int.natAbs (kC y))) (by first | assumption | exact qG _ | exact qI _) (by first | assumption | exact qG _ | exact qI _) (by omega) (by omega) (by omega))) <| zM <| zE vX <| zE vX <| zM <| zM <| zZ) ?_
  refine jB <| kx [(9, (.ref 4 0))] [(4, some (bx (jQ (vV (!(((kJ (kC x)).neg) == ((kJ (kC y)).neg))) (val (ofNat (val (ofNat (Int.natAbs (kC x))) / val (ofNat (Int.natAbs (kC y))))))))))] (zE (qC vN) <| zR (uC sh4) <| zE (qC vN) <| zR (uC sh4) <| zE (oNb bo4) <| zM <| zE (kG (gW (!(((kJ (kC x)).neg) == ((kJ (kC y)).neg))) (ofNat (val (ofNat (Int.natAbs (kC x))) / val (ofNat (Int.natAbs (kC y))))) (kL _) (by omega))) <| zN (qS 4 zJ zL) <| zT (qF kB) <| zZ) ?_
  refine jB <| jB <| kx [(44, (vb (!(((kJ (kC x)).neg) == ((kJ (kC y)).neg)) && decide (0 < (((ofNat (val (ofNat (Int.natAbs (kC x))) % val (ofNat (Int.natAbs (kC y))))).length : Nat) : Int)))))] [] ?_ ?_
  ·refine zE (qC vN) <| zR (uC sh4) <| zE (qC vN) <| zR (uC sh4) <| zE (oNb bo4) <| zE (oV (vb (!(((kJ (kC x)).neg) == ((kJ (kC y)).neg)))) (uA (by kernel_rfl))) <| ?_
   rcases hb2 : (!(((kJ (kC x)).neg) == ((kJ (kC y)).neg))) with _ | _
   ·exact zK <| zK <| zK <| zE nA <| zZ
   ·exact zM <| zE (zB kN (L := (ofNat (val (ofNat (Int.natAbs (kC x))) % val (ofNat (Int.natAbs (kC y))))))) <| zE yN <| zE oPa <| zZ
  refine jK rfl (fun h3 => ?_) (fun h3 => ?_)
  ·have hqm := gs_mul (kJ (kC (vV (!((kJ (kC x)).neg == (kJ (kC y)).neg)) (val (ofNat (val (ofNat (Int.natAbs (kC x))) / val (ofNat (Int.natAbs (kC y))))))) - kC (kJ 1))) (kJ (kC y))
   have hk := r_div_other (X := kC x) (Y := kC y) hy1 (by rw [Bool.and_eq_true, Bool.not_eq_true', beq_eq_false_iff_ne, decide_eq_true_eq] at h3; exact h3)
   refine kd [] [(4, some (bx (jQ (kJ (kC (vV (!(((kJ (kC x)).neg) == ((kJ (kC y)).neg))) (val (ofNat (val (ofNat (Int.natAbs (kC x))) / val (ofNat (Int.natAbs (kC y))))))) - kC (kJ 1))))))] mo (wR (kK kB) <| wE (kG (r_of 1 (by omega) (by omega))) <| wE (kG (r_sub (vV (!(((kJ (kC x)).neg) == ((kJ (kC y)).neg))) (val (ofNat (val (ofNat (Int.natAbs (kC x))) / val (ofNat (Int.natAbs (kC y))))))) (kJ 1) (by omega) (by omega))) <| wT (qF kB) <| wZ) ?_
   refine jB <| kd [(6, (jN 0))] [(2, some (bx (jQ (kJ (kC (vV (!(((kJ (kC x)).neg) == ((kJ (kC y)).neg))) (val (ofNat (val (ofNat (Int.natAbs (kC x))) / val (ofNat (Int.natAbs (kC y))))))) - kC (kJ 1)))))), (3, some (bx (jQ (kJ (kC (kJ (kC x)) - kC (kJ (kC (kJ (kC (vV (!(((kJ (kC x)).neg) == ((kJ (kC y)).neg))) (val (ofNat (val (ofNat (Int.natAbs (kC x))) / val (ofNat (Int.natAbs (kC y))))))) - kC (kJ 1))) * kC (kJ (kC y)))))))))] mo (wR (kK kB) <| wR (kK kB) <| wR (kK kB) <| wR (kK kB) <| wE (kG (r_mul (kJ (kC (vV (!(((kJ (kC x)).neg) == ((kJ (kC y)).neg))) (val (ofNat (val (ofNat (Int.natAbs (kC x))) / val (ofNat (Int.natAbs (kC y))))))) - kC (kJ 1))) (kJ (kC y)) (by omega) (by omega))) <| wE (kG (r_sub (kJ (kC x)) (kJ (kC (kJ (kC (vV (!(((kJ (kC x)).neg) == ((kJ (kC y)).neg))) (val (ofNat (val (ofNat (Int.natAbs (kC x))) / val (ofNat (Int.natAbs (kC y))))))) - kC (kJ 1))) * kC (kJ (kC y)))) (by omega) (by omega))) <| wT (qF kB) <| wT (qF kB) <| wM <| wZ) ?_
   refine jH ⟨_, (qA (cs := (bx (jQ (kJ (kC (vV (!(((kJ (kC x)).neg) == ((kJ (kC y)).neg))) (val (ofNat (val (ofNat (Int.natAbs (kC x))) / val (ofNat (Int.natAbs (kC y))))))) - kC (kJ 1)))))) (d := (jQ (kJ (kC (vV (!(((kJ (kC x)).neg) == ((kJ (kC y)).neg))) (val (ofNat (val (ofNat (Int.natAbs (kC x))) / val (ofNat (Int.natAbs (kC y))))))) - kC (kJ 1))))) rfl rfl kB rfl rfl (qA (cs := (bx (jQ (kJ (kC (kJ (kC x)) - kC (kJ (kC (kJ (kC (vV (!(((kJ (kC x)).neg) == ((kJ (kC y)).neg))) (val (ofNat (val (ofNat (Int.natAbs (kC x))) / val (ofNat (Int.natAbs (kC y))))))) - kC (kJ 1))) * kC (kJ (kC y))))))))) (d := (jQ (kJ (kC (kJ (kC x)) - kC (kJ (kC (kJ (kC (vV (!(((kJ (kC x)).neg) == ((kJ (kC y)).neg))) (val (ofNat (val (ofNat (Int.natAbs (kC x))) / val (ofNat (Int.natAbs (kC y))))))) - kC (kJ 1))) * kC (kJ (kC y)))))))) rfl rfl kB rfl rfl (.tmp (d := (.val (.int .i64 (0)))) rfl .nil))), ?_⟩
   rw [hk, r_rem_eq]; rfl
  ·have hqm := gs_mul (vV (!((kJ (kC x)).neg == (kJ (kC y)).neg)) (val (ofNat (val (ofNat (Int.natAbs (kC x))) / val (ofNat (Int.natAbs (kC y))))))) (kJ (kC y))
   have hk := r_div_same (X := kC x) (Y := kC y) hy1 (by rw [Bool.and_eq_false_iff, Bool.not_eq_false', beq_iff_eq, decide_eq_false_iff_not] at h3; exact h3)
   refine jF <| jB <| kd [(6, (jN 0))] [(2, some (bx (jQ (vV (!(((kJ (kC x)).neg) == ((kJ (kC y)).neg))) (val (ofNat (val (ofNat (Int.natAbs (kC x))) / val (ofNat (Int.natAbs (kC y)))))))))), (3, some (bx (jQ (kJ (kC (kJ (kC x)) - kC (kJ (kC (vV (!(((kJ (kC x)).neg) == ((kJ (kC y)).neg))) (val (ofNat (val (ofNat (Int.natAbs (kC x))) / val (ofNat (Int.natAbs (kC y))))))) * kC (kJ (kC y)))))))))] mo (wR (kK kB) <| wR (kK kB) <| wR (kK kB) <| wR (kK kB) <| wE (kG (r_mul (vV (!(((kJ (kC x)).neg) == ((kJ (kC y)).neg))) (val (ofNat (val (ofNat (Int.natAbs (kC x))) / val (ofNat (Int.natAbs (kC y))))))) (kJ (kC y)) (by omega) (by omega))) <| wE (kG (r_sub (kJ (kC x)) (kJ (kC (vV (!(((kJ (kC x)).neg) == ((kJ (kC y)).neg))) (val (ofNat (val (ofNat (Int.natAbs (kC x))) / val (ofNat (Int.natAbs (kC y))))))) * kC (kJ (kC y)))) (by omega) (by omega))) <| wT (qF kB) <| wT (qF kB) <| wM <| wZ) ?_
   refine jH ⟨_, (qA (cs := (bx (jQ (vV (!(((kJ (kC x)).neg) == ((kJ (kC y)).neg))) (val (ofNat (val (ofNat (Int.natAbs (kC x))) / val (ofNat (Int.natAbs (kC y)))))))))) (d := (jQ (vV (!(((kJ (kC x)).neg) == ((kJ (kC y)).neg))) (val (ofNat (val (ofNat (Int.natAbs (kC x))) / val (ofNat (Int.natAbs (kC y))))))))) rfl rfl kB rfl rfl (qA (cs := (bx (jQ (kJ (kC (kJ (kC x)) - kC (kJ (kC (vV (!(((kJ (kC x)).neg) == ((kJ (kC y)).neg))) (val (ofNat (val (ofNat (Int.natAbs (kC x))) / val (ofNat (Int.natAbs (kC y))))))) * kC (kJ (kC y))))))))) (d := (jQ (kJ (kC (kJ (kC x)) - kC (kJ (kC (vV (!(((kJ (kC x)).neg) == ((kJ (kC y)).neg))) (val (ofNat (val (ofNat (Int.natAbs (kC x))) / val (ofNat (Int.natAbs (kC y))))))) * kC (kJ (kC y)))))))) rfl rfl kB rfl rfl (.tmp (d := (.val (.int .i64 (0)))) rfl .nil))), ?_⟩
   rw [hk, r_rem_eq]; rfl
end Go.Proofs.YtnajallgoaiahaaGreatDoor
namespace Go.Proofs.YtnajallgoaiahaaGreatDoor
open Go.Fid
set_option maxRecDepth 4000
set_option linter.unusedVariables false
set_option linter.unusedSimpArgs false
theorem s_neg {x : jE} {a : Int} {m : Nat} (hx : yK x a m) (hm : m ≤ 274877906944) : jW Tryz.prog 225 [(jQ x)] (jQ (kJ (-a))) := by
 obtain ⟨rfl, hx'⟩ := hx
 exact t_neg x (by omega)
theorem s_sign {x : jE} {a : Int} {m : Nat} (hx : yK x a m) (hm : m ≤ 274877906944) : jW Tryz.prog 136 [(jQ x)] (.val (.int .i64 (uB a))) := by
 obtain ⟨rfl, hx'⟩ := hx
 exact t_sign x (by omega)
theorem s_add {x y : jE} {a b : Int} {m n : Nat} (hx : yK x a m) (hy : yK y b n) (hm : m ≤ 274877906944) (hn : n ≤ 274877906944) : jW Tryz.prog 150 [(jQ x), (jQ y)] (jQ (kJ (a + b))) := by
 obtain ⟨rfl, hx'⟩ := hx; obtain ⟨rfl, hy'⟩ := hy
 exact t_add x y (by omega) (by omega)
theorem s_mul {x y : jE} {a b : Int} {m n : Nat} (hx : yK x a m) (hy : yK y b n) (hm : m ≤ 274877906944) (hn : n ≤ 274877906944) : jW Tryz.prog 142 [(jQ x), (jQ y)] (jQ (kJ (a * b))) := by
 obtain ⟨rfl, hx'⟩ := hx; obtain ⟨rfl, hy'⟩ := hy
 exact t_mul x y (by omega) (by omega)
theorem s_compare {x y : jE} {a b : Int} {m n : Nat} (hx : yK x a m) (hy : yK y b n) (hm : m ≤ 274877906944) (hn : n ≤ 274877906944) : jW Tryz.prog 137 [(jQ x), (jQ y)] (.val (.int .i64 (uY a b))) := by
 obtain ⟨rfl, hx'⟩ := hx; obtain ⟨rfl, hy'⟩ := hy
 exact t_compareI x y (by omega) (by omega)
theorem s_gcd {x y : jE} {a b : Int} {m n : Nat} (hx : yK x a m) (hy : yK y b n) (hm : m ≤ 274877906944) (hn : n ≤ 274877906944) : jW Tryz.prog 138 [(jQ x), (jQ y)] (jQ (kJ ((Int.gcd a b : Nat) : Int))) := by
 obtain ⟨rfl, hx'⟩ := hx; obtain ⟨rfl, hy'⟩ := hy
 exact t_gcdI x y (by omega) (by omega)
theorem s_divide {x y : jE} {a b : Int} {m n : Nat} (hx : yK x a m) (hy : yK y b n) (hm : m ≤ 274877906944) (hn : n ≤ 274877906944) (hb : b ≠ 0) : jW Tryz.prog 227 [(jQ x), (jQ y)] (.tup [(jQ (kJ (a.fdiv b))), (jQ (kJ (a.fmod b))), (.val (.int .i64 0))]) := by
 obtain ⟨rfl, hx'⟩ := hx; obtain ⟨rfl, hy'⟩ := hy
 exact t_divideI x y (by omega) (by omega) hb
theorem rs_neg {x : jE} {a : Int} {m : Nat} (hx : yK x a m) (hm : m ≤ 274877906944) : jW Tryz.prog 145 [(jQ x)] (jQ (kJ (-a))) := by
 obtain ⟨rfl, hx'⟩ := hx
 exact r_neg x (by omega)
theorem rs_sign {x : jE} {a : Int} {m : Nat} (hx : yK x a m) (hm : m ≤ 274877906944) : jW Tryz.prog 83 [(jQ x)] (.val (.int .i64 (uB a))) := by
 obtain ⟨rfl, hx'⟩ := hx
 exact r_sign x (by omega)
theorem rs_add {x y : jE} {a b : Int} {m n : Nat} (hx : yK x a m) (hy : yK y b n) (hm : m ≤ 274877906944) (hn : n ≤ 274877906944) : jW Tryz.prog 96 [(jQ x), (jQ y)] (jQ (kJ (a + b))) := by
 obtain ⟨rfl, hx'⟩ := hx; obtain ⟨rfl, hy'⟩ := hy
 exact r_add x y (by omega) (by omega)
theorem rs_mul {x y : jE} {a b : Int} {m n : Nat} (hx : yK x a m) (hy : yK y b n) (hm : m ≤ 274877906944) (hn : n ≤ 274877906944) : jW Tryz.prog 87 [(jQ x), (jQ y)] (jQ (kJ (a * b))) := by
 obtain ⟨rfl, hx'⟩ := hx; obtain ⟨rfl, hy'⟩ := hy
 exact r_mul x y (by omega) (by omega)
theorem rs_compare {x y : jE} {a b : Int} {m n : Nat} (hx : yK x a m) (hy : yK y b n) (hm : m ≤ 274877906944) (hn : n ≤ 274877906944) : jW Tryz.prog 117 [(jQ x), (jQ y)] (.val (.int .i64 (uY a b))) := by
 obtain ⟨rfl, hx'⟩ := hx; obtain ⟨rfl, hy'⟩ := hy
 exact r_compare x y (by omega) (by omega)
theorem rs_gcd {x y : jE} {a b : Int} {m n : Nat} (hx : yK x a m) (hy : yK y b n) (hm : m ≤ 274877906944) (hn : n ≤ 274877906944) : jW Tryz.prog 118 [(jQ x), (jQ y)] (jQ (kJ ((Int.gcd a b : Nat) : Int))) := by
 obtain ⟨rfl, hx'⟩ := hx; obtain ⟨rfl, hy'⟩ := hy
 exact r_gcd x y (by omega) (by omega)
theorem rs_divide {x y : jE} {a b : Int} {m n : Nat} (hx : yK x a m) (hy : yK y b n) (hm : m ≤ 274877906944) (hn : n ≤ 274877906944) (hb : b ≠ 0) : jW Tryz.prog 146 [(jQ x), (jQ y)] (.tup [(jQ (kJ (a.fdiv b))), (jQ (kJ (a.fmod b))), (.val (.int .i64 0))]) := by
 obtain ⟨rfl, hx'⟩ := hx; obtain ⟨rfl, hy'⟩ := hy
 exact r_divide x y (by omega) (by omega) hb
end Go.Proofs.YtnajallgoaiahaaGreatDoor
namespace Go.Proofs.YtnajallgoaiahaaGreatDoor
open Go.Fid
set_option maxRecDepth 4000
set_option linter.unusedVariables false
set_option linter.unusedSimpArgs false
theorem cb78 : callB Tryz.prog 78 = true := by kernel_rfl
theorem cb79 : callB Tryz.prog 79 = true := by kernel_rfl
theorem cb80 : callB Tryz.prog 80 = true := by kernel_rfl
theorem cb81 : callB Tryz.prog 81 = true := by kernel_rfl
theorem cb82 : callB Tryz.prog 82 = true := by kernel_rfl
theorem cb90 : callB Tryz.prog 90 = true := by kernel_rfl
theorem cb105 : callB Tryz.prog 105 = true := by kernel_rfl
theorem cb140 : callB Tryz.prog 140 = true := by kernel_rfl
theorem cb141 : callB Tryz.prog 141 = true := by kernel_rfl
theorem cb143 : callB Tryz.prog 143 = true := by kernel_rfl
theorem cb224 : callB Tryz.prog 224 = true := by kernel_rfl
theorem cb261 : callB Tryz.prog 261 = true := by kernel_rfl
theorem zW : zV Tryz.prog 45 0 = some 0 := by kernel_rfl
theorem xD : zV Tryz.prog 45 1 = some 2 := by kernel_rfl
theorem ft45_0 : aF Tryz.prog 45 0 = some (0, 43) := by kernel_rfl
theorem pl45 : dN Tryz.prog 45 = some [(0, 2), (2, 2)] := by kernel_rfl
theorem jO : qU Tryz.prog 45 = some (true, 4) := by kernel_rfl
theorem qO : xW Tryz.prog 45 = some [.bool false, .slice none 0 0, .bool false, .slice none 0 0] := by kernel_rfl
theorem qR : fH [.bool false, .slice none 0 0, .bool false, .slice none 0 0] [.val (.bool false), .sl 140 1 [], .val (.bool false), .sl 140 1 []] := by simp [fH, Value.oneCell']
theorem mK (num den : jE) (a b : Int) (fG : yK num a 68719476736) (dT : yK den b 68719476736) (hb : b ≠ 0) : jW Tryz.prog 143 [(jQ num), (jQ den)] (jL (jS (Rat.divInt a b))) := by
 refine jM Tryz.func143 rfl cb143 rfl ?_
 show qJ _ _ _ _ ⟨[(0, (.d (jQ num))), (1, (.d (jQ den)))], []⟩
 refine jB <| kx [(2, (.ref 0 0)), (3, (.ref 1 0)), (4, (.ref 2 0))] [(0, some (bx (jQ num))), (1, some (bx (jQ den))), (2, some (bx (jL (jJ.mk (jE.mk false []) (jE.mk false [])))))] (zN (uZ 0) <| zN (uZ 1) <| zN (qS 2 qO qR) <| zZ) ?_
 refine jB <| jB <| kx [(8, (vb (decide ((uB b) < 0))))] [] (zR (kK kB) <| zE (kG (s_sign dT (by decide))) <| zE vW <| zZ) ?_
 refine jK (b := decide ((uB b) < 0)) rfl (fun h1 => ?_) (fun h1 => ?_)
 ·replace h1 := of_decide_eq_true h1
  have hlt := signI_lt.1 h1
  have hb2 : -b ≠ 0 := by omega
  refine kd [] [(0, some (bx (jQ (kJ (-a))))), (1, some (bx (jQ (kJ (-b)))))] mo (wR (kK kB) <| wE (kG (s_neg fG (by decide))) <| wR (kK kB) <| wE (kG (s_neg dT (by decide))) <| wT (qF kB) <| wT (qF kB) <| wZ) ?_
  refine jB <| kx [(5, (.ref 3 0))] [(3, some (bx (jQ (kJ ((Int.gcd (-a) (-b) : Nat) : Int)))))] (zR (kK kB) <| zR (kK kB) <| zE (kG (s_gcd (mC fG) (mC dT) (by decide) (by decide))) <| zN (qS 3 zJ zL) <| zT (qF kB) <| zZ) ?_
  refine jB <| kx [] [(0, some (bx (jQ (kJ ((-a).fdiv (((Int.gcd (-a) (-b) : Nat) : Int)))))))] (zR (kK kB) <| zR (kK kB) <| zE (kG (s_divide (mC fG) (mT (k := 68719476736) (mC fG) (mC dT) (by decide)) (by decide) (by decide) (gcd_ne (by omega)))) <| zM <| zE vX <| zE vX <| zE vX <| zT (qF kB) <| zZ) ?_
  refine jB <| kx [] [(1, some (bx (jQ (kJ ((-b).fdiv (((Int.gcd (-a) (-b) : Nat) : Int)))))))] (zR (kK kB) <| zR (kK kB) <| zE (kG (s_divide (mC dT) (mT (k := 68719476736) (mC fG) (mC dT) (by decide)) (by decide) (by decide) (gcd_ne (by omega)))) <| zM <| zE vX <| zE vX <| zE vX <| zT (qF kB) <| zZ) ?_
  refine jB <| kx [] [(2, some (bx (jL (jJ.mk (kJ ((-a).fdiv (((Int.gcd (-a) (-b) : Nat) : Int)))) (kJ ((-b).fdiv (((Int.gcd (-a) (-b) : Nat) : Int))))))))] (zR (kK kB) <| zR (kK kB) <| zE (fM pl45 qO qR) <| zT (qF jO) <| zZ) ?_
  refine jH ⟨_, (qA (cs := (bx (jL (jJ.mk (kJ ((-a).fdiv (((Int.gcd (-a) (-b) : Nat) : Int)))) (kJ ((-b).fdiv (((Int.gcd (-a) (-b) : Nat) : Int)))))))) (d := (jL (jJ.mk (kJ ((-a).fdiv (((Int.gcd (-a) (-b) : Nat) : Int)))) (kJ ((-b).fdiv (((Int.gcd (-a) (-b) : Nat) : Int))))))) rfl rfl jO rfl rfl .nil), ?_⟩
  rw [red_neg hlt]; rfl
 ·replace h1 := of_decide_eq_false h1
  have hge : ¬ b < 0 := fun hh => h1 (signI_lt.2 hh)
  refine jF <| jB <| kx [(5, (.ref 4 0))] [(4, some (bx (jQ (kJ ((Int.gcd a b : Nat) : Int)))))] (zR (kK kB) <| zR (kK kB) <| zE (kG (s_gcd fG dT (by decide) (by decide))) <| zN (qS 4 zJ zL) <| zT (qF kB) <| zZ) ?_
  refine jB <| kx [] [(0, some (bx (jQ (kJ (a.fdiv (((Int.gcd a b : Nat) : Int)))))))] (zR (kK kB) <| zR (kK kB) <| zE (kG (s_divide fG (mT (k := 68719476736) fG dT (by decide)) (by decide) (by decide) (gcd_ne (by omega)))) <| zM <| zE vX <| zE vX <| zE vX <| zT (qF kB) <| zZ) ?_
  refine jB <| kx [] [(1, some (bx (jQ (kJ (b.fdiv (((Int.gcd a b : Nat) : Int)))))))] (zR (kK kB) <| zR (kK kB) <| zE (kG (s_divide dT (mT (k := 68719476736) fG dT (by decide)) (by decide) (by decide) (gcd_ne (by omega)))) <| zM <| zE vX <| zE vX <| zE vX <| zT (qF kB) <| zZ) ?_
  refine jB <| kx [] [(2, some (bx (jL (jJ.mk (kJ (a.fdiv (((Int.gcd a b : Nat) : Int)))) (kJ (b.fdiv (((Int.gcd a b : Nat) : Int))))))))] (zR (kK kB) <| zR (kK kB) <| zE (fM pl45 qO qR) <| zT (qF jO) <| zZ) ?_
  refine jH ⟨_, (qA (cs := (bx (jL (jJ.mk (kJ (a.fdiv (((Int.gcd a b : Nat) : Int)))) (kJ (b.fdiv (((Int.gcd a b : Nat) : Int)))))))) (d := (jL (jJ.mk (kJ (a.fdiv (((Int.gcd a b : Nat) : Int)))) (kJ (b.fdiv (((Int.gcd a b : Nat) : Int))))))) rfl rfl jO rfl rfl .nil), ?_⟩
  rw [red_pos hge hb]; rfl
theorem f_whole (n : Int) (hlo : -9223372036854775808 ≤ n) (hhi : n ≤ 9223372036854775807) : jW Tryz.prog 105 [(.val (.int .i64 (n)))] (jL (jS ((n : Int) : Rat))) := by
 refine jM Tryz.func105 rfl cb105 rfl ?_
 show qJ _ _ _ _ ⟨[(0, (vi n))], []⟩
 refine jB <| kx [(2, (.ref 0 0))] [(0, some (bx (jL (jJ.mk (jE.mk false []) (jE.mk false [])))))] (zN (qS 0 qO qR) <| zZ) ?_
 refine jB <| kx [] [(0, some (bx (jL (jJ.mk (kJ n) (kJ 1)))))] (zM <| zE (kG (t_of n (by omega) (by omega))) <| zE (kG (t_of 1 (by decide) (by decide))) <| zE (fM pl45 qO qR) <| zT (qF jO) <| zZ) ?_
 refine jH ⟨_, (qA (cs := (bx (jL (jJ.mk (kJ n) (kJ 1))))) (d := (jL (jJ.mk (kJ n) (kJ 1)))) rfl rfl jO rfl rfl .nil), ?_⟩
 rfl
theorem xU (x : jJ) (p : Rat) (hx : yT x p 17179869184) : jW Tryz.prog 78 [(jL x)] (.val (.bool ((jX x)))) := by
 refine jM Tryz.func78 rfl cb78 rfl ?_
 show qJ _ _ _ _ ⟨[(0, (.d (jL x)))], []⟩
 refine jB <| kx [(1, (.ref 0 0))] [(0, some (bx (jL x)))] (zN (uZ 0) <| zM <| zZ) ?_
 refine jB <| jB <| kx [(18, (vb ((!(uO x.num) || !(uO x.den)) || decide ((uB (kC x.den)) ≤ 0))))] [] ?_ ?_
 ·refine zE (qC zW) <| zR (kK kB) <| zE (kG (t_valid x.num (Nat.le_trans (yJ hx.n1).l (by decide)))) <| zE cE <| zE (oV (vb (!(uO x.num))) (uA (by kernel_rfl))) <| ?_
  rcases hb1 : (!(uO x.num)) with _ | _
  ·refine zE (qC xD) <| zR (kK kB) <| zE (kG (t_valid x.den (Nat.le_trans (yJ hx.n2).l (by decide)))) <| zE cE <| zE oPo <| zE (oV (vb (false || !(uO x.den))) (uA (by kernel_rfl))) <| ?_
   rcases hb2 : (false || !(uO x.den)) with _ | _
   ·exact zE (qC xD) <| zR (kK kB) <| zE (kG (s_sign (yJ hx.n2) (by decide))) <| zE oLe <| zE oPo <| zZ
   ·exact zK <| zK <| zK <| zK <| zE cR <| zZ
  ·exact zK <| zK <| zK <| zK <| zE cR <| zM <| zK <| zK <| zK <| zK <| zE cR <| zZ
 refine jK rfl (fun h3 => ?_) (fun h3 => ?_)
 ·refine jB <| kx [(2, (vb false))] [] (zM <| zZ) ?_
  refine jH ⟨_, (.tmp (d := (.val (.bool (false)))) rfl .nil), ?_⟩
  rw [validR_no h3]; rfl
 ·refine jF <| jB <| kx [(2, (vb ((uY (((Int.gcd (kC x.num) (kC x.den) : Nat) : Int)) 1) == 0)))] [] (zE (qC zW) <| zR (kK kB) <| zE (qC xD) <| zR (kK kB) <| zE (kG (s_gcd (yJ hx.n1) (yJ hx.n2) (by decide) (by decide))) <| zE (kG (t_of 1 (by decide) (by decide))) <| zE (kG (s_compare (mT (k := 17179869184) (yJ hx.n1) (yJ hx.n2) (by decide)) (fV (z := 1) (by decide)) (by decide) (by decide))) <| zE gJ <| zM <| zZ) ?_
  refine jH ⟨_, (.tmp (d := (.val (.bool (((uY (((Int.gcd (kC x.num) (kC x.den) : Nat) : Int)) 1) == 0))))) rfl .nil), ?_⟩
  rw [validR_yes h3]; rfl
theorem f_copied (x : jJ) (p : Rat) (hx : yT x p 17179869184) : jW Tryz.prog 224 [(jL x)] (jL (jJ.mk (kJ (-(-kC x.num))) (kJ (-(-kC x.den))))) := by
 refine jM Tryz.func224 rfl cb224 rfl ?_
 show qJ _ _ _ _ ⟨[(0, (.d (jL x)))], []⟩
 refine jB <| kx [(1, (.ref 0 0)), (2, (.ref 1 0))] [(0, some (bx (jL x))), (1, some (bx (jL (jJ.mk (jE.mk false []) (jE.mk false [])))))] (zN (uZ 0) <| zN (qS 1 qO qR) <| zZ) ?_
 refine jB <| kd [] [(1, some (bx (jL (jJ.mk (kJ (-(-(kC x.num)))) (kJ (-(-(kC x.den))))))))] mo (wE (qC zW) <| wR (kK kB) <| wE (kG (s_neg (yJ hx.n1) (by decide))) <| wE (kG (s_neg (mC (yJ hx.n1)) (by decide))) <| wE (qC xD) <| wR (kK kB) <| wE (kG (s_neg (yJ hx.n2) (by decide))) <| wE (kG (s_neg (mC (yJ hx.n2)) (by decide))) <| wE (fM pl45 qO qR) <| wT (qF jO) <| wZ) ?_
 refine jH ⟨_, (qA (cs := (bx (jL (jJ.mk (kJ (-(-(kC x.num)))) (kJ (-(-(kC x.den)))))))) (d := (jL (jJ.mk (kJ (-(-(kC x.num)))) (kJ (-(-(kC x.den))))))) rfl rfl jO rfl rfl .nil), ?_⟩
 rfl
theorem cC (x : jJ) (p : Rat) (hx : yT x p 17179869184) : jW Tryz.prog 140 [(jL x)] (jL (jS p)) := by
 refine jM Tryz.func140 rfl cb140 rfl ?_
 show qJ _ _ _ _ ⟨[(0, (.d (jL x)))], []⟩
 refine jB <| kx [(1, (.ref 0 0)), (2, (.ref 1 0))] [(0, some (bx (jL x))), (1, some (bx (jL (jJ.mk (jE.mk false []) (jE.mk false [])))))] (zN (uZ 0) <| zN (qS 1 qO qR) <| zZ) ?_
 refine jB <| jB <| kx [(4, (vb (jX x)))] [] (zR (kK jO) <| zE (kG (xU x p hx)) <| zZ) ?_
 refine jK (b := (jX x)) rfl (fun h1 => ?_) (fun h1 => ?_)
 ·refine jB <| kx [] [(1, some (bx (jL (jJ.mk (kJ (-(-kC x.num))) (kJ (-(-kC x.den)))))))] (zR (kK jO) <| zE (kG (f_copied x p hx)) <| zT (qF jO) <| zZ) ?_
  refine jH ⟨_, (qA (cs := (bx (jL (jJ.mk (kJ (-(-kC x.num))) (kJ (-(-kC x.den))))))) (d := (jL (jJ.mk (kJ (-(-kC x.num))) (kJ (-(-kC x.den)))))) rfl rfl jO rfl rfl .nil), ?_⟩
  rw [← hx.v, ← copied_eq h1]; rfl
 ·refine jF <| jB <| kx [] [(1, some (bx (jL (jS ((0 : Int) : Rat)))))] (zE (kG (f_whole 0 (by decide) (by decide))) <| zT (qF jO) <| zZ) ?_
  refine jH ⟨_, (qA (cs := (bx (jL (jS ((0 : Int) : Rat))))) (d := (jL (jS ((0 : Int) : Rat)))) rfl rfl jO rfl rfl .nil), ?_⟩
  rw [← hx.v, toQ_bad h1]; rfl
theorem fF (x : jJ) (p : Rat) (hx : yT x p 17179869184) : jW Tryz.prog 79 [(jL x)] (.val (.int .i64 ((vT p)))) := by
 refine jM Tryz.func79 rfl cb79 rfl ?_
 show qJ _ _ _ _ ⟨[(0, (.d (jL x)))], []⟩
 refine jB <| kx [(1, (.ref 0 0))] [(0, some (bx (jL x)))] (zN (uZ 0) <| zM <| zZ) ?_
 refine jB <| kx [(2, (vi (uB p.num)))] [] (zR (kK jO) <| zE (kG (cC x p hx)) <| zE (oFv ft45_0 kB) <| zE (kG (s_sign (uM hx.ql) (by decide))) <| zM <| zZ) ?_
 refine jH ⟨_, (.tmp (d := (.val (.int .i64 ((uB p.num))))) rfl .nil), ?_⟩
 rfl
theorem f_neg (x : jJ) (p : Rat) (hx : yT x p 17179869184) : jW Tryz.prog 141 [(jL x)] (jL (jS (-p))) := by
 refine jM Tryz.func141 rfl cb141 rfl ?_
 show qJ _ _ _ _ ⟨[(0, (.d (jL x)))], []⟩
 refine jB <| kx [(1, (.ref 0 0)), (2, (.ref 1 0))] [(0, some (bx (jL x))), (1, some (bx (jL (jJ.mk (jE.mk false []) (jE.mk false [])))))] (zN (uZ 0) <| zN (qS 1 qO qR) <| zZ) ?_
 refine jB <| kx [] [(0, some (bx (jL (jS p))))] (zR (kK jO) <| zE (kG (cC x p hx)) <| zT (qF jO) <| zZ) ?_
 refine jB <| kd [] [(1, some (bx (jL (jJ.mk (kJ (-p.num)) ((jS p).den)))))] mo (wE (qC zW) <| wR (kK kB) <| wE (kG (s_neg (uM hx.ql) (by decide))) <| wE (qC xD) <| wR (kK kB) <| wE (fM pl45 qO qR) <| wT (qF jO) <| wZ) ?_
 refine jH ⟨_, (qA (cs := (bx (jL (jJ.mk (kJ (-p.num)) ((jS p).den))))) (d := (jL (jJ.mk (kJ (-p.num)) ((jS p).den)))) rfl rfl jO rfl rfl .nil), ?_⟩
 rfl
theorem f_add (x : jJ) (y : jJ) (p : Rat) (q : Rat) (hx : yT x p 17179869184) (hy : yT y q 17179869184) : jW Tryz.prog 90 [(jL x), (jL y)] (jL (jS (p + q))) := by
 refine jM Tryz.func90 rfl cb90 rfl ?_
 show qJ _ _ _ _ ⟨[(0, (.d (jL x))), (1, (.d (jL y)))], []⟩
 refine jB <| kx [(2, (.ref 0 0)), (3, (.ref 1 0)), (4, (.ref 2 0))] [(0, some (bx (jL x))), (1, some (bx (jL y))), (2, some (bx (jL (jJ.mk (jE.mk false []) (jE.mk false [])))))] (zN (uZ 0) <| zN (uZ 1) <| zN (qS 2 qO qR) <| zZ) ?_
 refine jB <| kd [] [(0, some (bx (jL (jS p)))), (1, some (bx (jL (jS q))))] mo (wR (kK jO) <| wE (kG (cC x p hx)) <| wR (kK jO) <| wE (kG (cC y q hy)) <| wT (qF jO) <| wT (qF jO) <| wZ) ?_
 refine jB <| kd [] [(2, some (bx (jL (jS (Rat.divInt ((p.num * (q.den : Int)) + (q.num * (p.den : Int))) ((p.den : Int) * (q.den : Int)))))))] mo (wE (qC zW) <| wR (kK kB) <| wE (qC xD) <| wR (kK kB) <| wE (kG (s_mul (uM hx.ql) (uH hy.ql) (by decide) (by decide))) <| wE (qC zW) <| wR (kK kB) <| wE (qC xD) <| wR (kK kB) <| wE (kG (s_mul (uM hy.ql) (uH hx.ql) (by decide) (by decide))) <| wE (kG (s_add (zP (k := 34359738368) (uM hx.ql) (uH hy.ql) (by decide)) (zP (k := 34359738368) (uM hy.ql) (uH hx.ql) (by decide)) (by decide) (by decide))) <| wE (qC xD) <| wR (kK kB) <| wE (qC xD) <| wR (kK kB) <| wE (kG (s_mul (uH hx.ql) (uH hy.ql) (by decide) (by decide))) <| wE (kG (mK (kJ ((p.num * (q.den : Int)) + (q.num * (p.den : Int)))) (kJ ((p.den : Int) * (q.den : Int))) ((p.num * (q.den : Int)) + (q.num * (p.den : Int))) ((p.den : Int) * (q.den : Int)) (gN (iok_add (k := 34359738369) (zP (k := 34359738368) (uM hx.ql) (uH hy.ql) (by decide)) (zP (k := 34359738368) (uM hy.ql) (uH hx.ql) (by decide)) (by decide)) (by decide)) (gN (zP (k := 34359738368) (uH hx.ql) (uH hy.ql) (by decide)) (by decide)) (mul_ne (aA _) (aA _)))) <| wT (qF jO) <| wZ) ?_
 refine jH ⟨_, (qA (cs := (bx (jL (jS (Rat.divInt ((p.num * (q.den : Int)) + (q.num * (p.den : Int))) ((p.den : Int) * (q.den : Int))))))) (d := (jL (jS (Rat.divInt ((p.num * (q.den : Int)) + (q.num * (p.den : Int))) ((p.den : Int) * (q.den : Int)))))) rfl rfl jO rfl rfl .nil), ?_⟩
 rw [add_divInt]; rfl
theorem f_sub (x : jJ) (y : jJ) (p : Rat) (q : Rat) (hx : yT x p 17179869184) (hy : yT y q 17179869184) : jW Tryz.prog 80 [(jL x), (jL y)] (jL (jS (p - q))) := by
 refine jM Tryz.func80 rfl cb80 rfl ?_
 show qJ _ _ _ _ ⟨[(0, (.d (jL x))), (1, (.d (jL y)))], []⟩
 refine jB <| kx [(2, (.ref 0 0)), (3, (.ref 1 0)), (4, (.ref 2 0))] [(0, some (bx (jL x))), (1, some (bx (jL y))), (2, some (bx (jL (jJ.mk (jE.mk false []) (jE.mk false [])))))] (zN (uZ 0) <| zN (uZ 1) <| zN (qS 2 qO qR) <| zZ) ?_
 refine jB <| kd [] [(2, some (bx (jL (jS (p + (-q))))))] mo (wR (kK jO) <| wR (kK jO) <| wE (kG (f_neg y q hy)) <| wE (kG (f_add x (jS (-q)) p (-q) hx (kM (ql_neg hy.ql)))) <| wT (qF jO) <| wZ) ?_
 refine jH ⟨_, (qA (cs := (bx (jL (jS (p + (-q)))))) (d := (jL (jS (p + (-q))))) rfl rfl jO rfl rfl .nil), ?_⟩
 rw [Rat.sub_eq_add_neg]; rfl
theorem dL (x : jJ) (y : jJ) (p : Rat) (q : Rat) (hx : yT x p 17179869184) (hy : yT y q 17179869184) : jW Tryz.prog 82 [(jL x), (jL y)] (jL (jS (p * q))) := by
 refine jM Tryz.func82 rfl cb82 rfl ?_
 show qJ _ _ _ _ ⟨[(0, (.d (jL x))), (1, (.d (jL y)))], []⟩
 refine jB <| kx [(2, (.ref 0 0)), (3, (.ref 1 0)), (4, (.ref 2 0))] [(0, some (bx (jL x))), (1, some (bx (jL y))), (2, some (bx (jL (jJ.mk (jE.mk false []) (jE.mk false [])))))] (zN (uZ 0) <| zN (uZ 1) <| zN (qS 2 qO qR) <| zZ) ?_
 refine jB <| kd [] [(0, some (bx (jL (jS p)))), (1, some (bx (jL (jS q))))] mo (wR (kK jO) <| wE (kG (cC x p hx)) <| wR (kK jO) <| wE (kG (cC y q hy)) <| wT (qF jO) <| wT (qF jO) <| wZ) ?_
 refine jB <| kd [] [(2, some (bx (jL (jS (Rat.divInt (p.num * q.num) ((p.den : Int) * (q.den : Int)))))))] mo (wE (qC zW) <| wR (kK kB) <| wE (qC zW) <| wR (kK kB) <| wE (kG (s_mul (uM hx.ql) (uM hy.ql) (by decide) (by decide))) <| wE (qC xD) <| wR (kK kB) <| wE (qC xD) <| wR (kK kB) <| wE (kG (s_mul (uH hx.ql) (uH hy.ql) (by decide) (by decide))) <| wE (kG (mK (kJ (p.num * q.num)) (kJ ((p.den : Int) * (q.den : Int))) (p.num * q.num) ((p.den : Int) * (q.den : Int)) (gN (zP (k := 34359738368) (uM hx.ql) (uM hy.ql) (by decide)) (by decide)) (gN (zP (k := 34359738368) (uH hx.ql) (uH hy.ql) (by decide)) (by decide)) (mul_ne (aA _) (aA _)))) <| wT (qF jO) <| wZ) ?_
 refine jH ⟨_, (qA (cs := (bx (jL (jS (Rat.divInt (p.num * q.num) ((p.den : Int) * (q.den : Int))))))) (d := (jL (jS (Rat.divInt (p.num * q.num) ((p.den : Int) * (q.den : Int)))))) rfl rfl jO rfl rfl .nil), ?_⟩
 rw [mul_divInt]; rfl
theorem f_divide (x : jJ) (y : jJ) (p : Rat) (q : Rat) (hx : yT x p 17179869184) (hy : yT y q 17179869184) : jW Tryz.prog 261 [(jL x), (jL y)] (.tup [(jL (divR p q)), (.val (.int .i64 ((divC q))))]) := by
 refine jM Tryz.func261 rfl cb261 rfl ?_
 show qJ _ _ _ _ ⟨[(0, (.d (jL x))), (1, (.d (jL y)))], []⟩
 refine jB <| kx [(2, (.ref 0 0)), (3, (.ref 1 0)), (4, (.ref 2 0))] [(0, some (bx (jL x))), (1, some (bx (jL y))), (2, some (bx (jL (jJ.mk (jE.mk false []) (jE.mk false [])))))] (zN (uZ 0) <| zN (uZ 1) <| zN (qS 2 qO qR) <| zM <| zZ) ?_
 refine jB <| kd [] [(0, some (bx (jL (jS p)))), (1, some (bx (jL (jS q))))] mo (wR (kK jO) <| wE (kG (cC x p hx)) <| wR (kK jO) <| wE (kG (cC y q hy)) <| wT (qF jO) <| wT (qF jO) <| wZ) ?_
 refine jB <| jB <| kx [(13, (vb ((uB q.num) == 0)))] [] (zE (qC zW) <| zR (kK kB) <| zE (kG (s_sign (uM hy.ql) (by decide))) <| zE gJ <| zZ) ?_
 refine jK (b := ((uB q.num) == 0)) rfl (fun h1 => ?_) (fun h1 => ?_)
 ·replace h1 := eq_of_beq h1
  have hq0 := dW.1 h1
  refine jB <| kx [(5, (jN 14))] [(2, some (bx (jL (jJ.mk (jE.mk false []) (jE.mk false [])))))] (zE (fM pl45 qO qR) <| zT (qF jO) <| zM <| zZ) ?_
  refine jH ⟨_, (qA (cs := (bx (jL (jJ.mk (jE.mk false []) (jE.mk false []))))) (d := (jL (jJ.mk (jE.mk false []) (jE.mk false [])))) rfl rfl jO rfl rfl (.tmp (d := (.val (.int .i64 (14)))) rfl .nil)), ?_⟩
  rw [divR_zero hq0, divC_zero hq0]; rfl
 ·replace h1 := ne_of_beq_false h1
  have hq0 : q ≠ 0 := fun hh => h1 (dW.2 hh)
  refine jF <| jB <| kd [(5, (jN 0))] [(2, some (bx (jL (jS (Rat.divInt (p.num * (q.den : Int)) ((p.den : Int) * q.num))))))] mo (wE (qC zW) <| wR (kK kB) <| wE (qC xD) <| wR (kK kB) <| wE (kG (s_mul (uM hx.ql) (uH hy.ql) (by decide) (by decide))) <| wE (qC xD) <| wR (kK kB) <| wE (qC zW) <| wR (kK kB) <| wE (kG (s_mul (uH hx.ql) (uM hy.ql) (by decide) (by decide))) <| wE (kG (mK (kJ (p.num * (q.den : Int))) (kJ ((p.den : Int) * q.num)) (p.num * (q.den : Int)) ((p.den : Int) * q.num) (gN (zP (k := 34359738368) (uM hx.ql) (uH hy.ql) (by decide)) (by decide)) (gN (zP (k := 34359738368) (uH hx.ql) (uM hy.ql) (by decide)) (by decide)) (mul_ne (aA _) (num_ne hq0)))) <| wT (qF jO) <| wM <| wZ) ?_
  refine jH ⟨_, (qA (cs := (bx (jL (jS (Rat.divInt (p.num * (q.den : Int)) ((p.den : Int) * q.num)))))) (d := (jL (jS (Rat.divInt (p.num * (q.den : Int)) ((p.den : Int) * q.num))))) rfl rfl jO rfl rfl (.tmp (d := (.val (.int .i64 (0)))) rfl .nil)), ?_⟩
  rw [divR_ne hq0, divC_ne hq0, div_divInt]; rfl
theorem mI (x : jJ) (y : jJ) (p : Rat) (q : Rat) (hx : yT x p 17179869184) (hy : yT y q 17179869184) : jW Tryz.prog 81 [(jL x), (jL y)] (.val (.int .i64 ((yE p q)))) := by
 refine jM Tryz.func81 rfl cb81 rfl ?_
 show qJ _ _ _ _ ⟨[(0, (.d (jL x))), (1, (.d (jL y)))], []⟩
 refine jB <| kx [(2, (.ref 0 0)), (3, (.ref 1 0))] [(0, some (bx (jL x))), (1, some (bx (jL y)))] (zN (uZ 0) <| zN (uZ 1) <| zM <| zZ) ?_
 refine jB <| kd [] [(0, some (bx (jL (jS p)))), (1, some (bx (jL (jS q))))] mo (wR (kK jO) <| wE (kG (cC x p hx)) <| wR (kK jO) <| wE (kG (cC y q hy)) <| wT (qF jO) <| wT (qF jO) <| wZ) ?_
 refine jB <| kd [(4, (vi (uY (p.num * (q.den : Int)) (q.num * (p.den : Int)))))] [] mo (wE (qC zW) <| wR (kK kB) <| wE (qC xD) <| wR (kK kB) <| wE (kG (s_mul (uM hx.ql) (uH hy.ql) (by decide) (by decide))) <| wE (qC zW) <| wR (kK kB) <| wE (qC xD) <| wR (kK kB) <| wE (kG (s_mul (uM hy.ql) (uH hx.ql) (by decide) (by decide))) <| wE (kG (s_compare (zP (k := 34359738368) (uM hx.ql) (uH hy.ql) (by decide)) (zP (k := 34359738368) (uM hy.ql) (uH hx.ql) (by decide)) (by decide) (by decide))) <| wM <| wZ) ?_
 refine jH ⟨_, (.tmp (d := (.val (.int .i64 ((uY (p.num * (q.den : Int)) (q.num * (p.den : Int))))))) rfl .nil), ?_⟩
 rw [← cmpQ_cross]; rfl
end Go.Proofs.YtnajallgoaiahaaGreatDoor
