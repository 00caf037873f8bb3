/- Part 19 of a proof: rules, plain facts, and functions walked. -/
import Derived.Test.YtnajallgoaiahaaGreatDoorM18
namespace Go.Proofs.YtnajallgoaiahaaGreatDoor
open Go.Fid
set_option maxRecDepth 4000
set_option linter.unusedVariables false
set_option linter.unusedSimpArgs false
theorem cb117 : callB Tryz.prog 117 = true := by kernel_rfl
theorem cb118 : callB Tryz.prog 118 = true := by kernel_rfl
theorem cb146 : callB Tryz.prog 146 = true := by kernel_rfl
theorem r_gcd (x : jD) (y : jD) (hx : x.gs.length ≤ 1099511627776) (hy : y.gs.length ≤ 1099511627776) : jV Tryz.prog 118 [(jM x), (jM y)] (jM (jZ ((Int.gcd (jY x) (jY y) : Nat) : Int))) := by
 have hvx := cL x
 have hvy := cL y
 refine jJ Tryz.func118 rfl cb118 rfl ?_
 show qI _ _ _ _ ⟨[(0, (.d (jM x))), (1, (.d (jM y)))], []⟩
 refine jB <| kx [(2, (.ref 0 0)), (3, (.ref 1 0)), (4, (.ref 2 0))] [(0, some (bx (jM x))), (1, some (bx (jM y))), (2, some (bx (jM (jD.mk false []))))] (zN (vL 0) <| zN (vL 1) <| zN (qS 2 vP vQ) <| zZ) ?_
 refine jB <| kd [(5, (vl 140 1 jC (ofNat (Int.natAbs (jY x))))), (6, (vl 140 1 jC (ofNat (Int.natAbs (jY y)))))] [] mo (wR (kR jS) <| wE (jX (hZ x (by omega))) <| wE (oF1 dY xG) <| wR (kR jS) <| wE (jX (hZ y (by omega))) <| wE (oF1 dY xG) <| wM <| wM <| wZ) ?_
 refine jB <| jI <| kN (α := List Nat × List Nat) (fun (a, b) => ⟨[(4, (.ref 2 0)), (5, (vl 140 1 jC a)), (6, (vl 140 1 jC b))], [(2, some (bx (jM (jD.mk false []))))]⟩) (fun (a, b) => xU a ∧ xU b ∧ a.length ≤ 1099511627776 ∧ b.length ≤ 1099511627776 ∧ Nat.gcd (val a) (val b) = Int.gcd (jY x) (jY y)) (fun (a, b) => val b) ((ofNat (Int.natAbs (jY x))), (ofNat (Int.natAbs (jY y)))) wk ⟨kW _, kW _, by omega, by omega, by rw [kB, kB]; rfl⟩ ?_
 rintro ⟨a, b⟩ ⟨ha, hb, hla, hlb, hg⟩
 refine jB <| jB <| kx [(29, (vb (decide (0 < ((b.length : Nat) : Int)) && (decide (2 < ((a.length : Nat) : Int)) || decide (2 < ((b.length : Nat) : Int))))))] [] ?_ ?_
 ·refine zM <| zE (vG kJ) <| zE hC <| zE (oV (vb (decide (0 < ((b.length : Nat) : Int)))) (kY (by kernel_rfl))) <| ?_
  rcases hb1 : (decide (0 < ((b.length : Nat) : Int))) with _ | _
  ·replace hb1 := of_decide_eq_false hb1
   exact zK <| zK <| zK <| zK <| zK <| zK <| zK <| zK <| zE yI <| zZ
  ·replace hb1 := of_decide_eq_true hb1
   refine zM <| zE (vG kJ) <| zE hC <| zE (oV (vb (decide (2 < ((a.length : Nat) : Int)))) (kY (by kernel_rfl))) <| ?_
   rcases hb2 : (decide (2 < ((a.length : Nat) : Int))) with _ | _
   ·replace hb2 := of_decide_eq_false hb2
    exact zM <| zE (vG kJ) <| zE hC <| zE cU <| zE eV <| zZ
   ·replace hb2 := of_decide_eq_true hb2
    exact zK <| zK <| zK <| zE vY <| zE vY <| zZ
 refine jH rfl (fun h3 => ?_) (fun h3 => ?_)
 ·have hbl : 0 < b.length := by rw [Bool.and_eq_true, decide_eq_true_eq] at h3; omega
  have hb0 := mC hb hbl
  refine jF <| jI <| jB <| kx [(8, (vl 140 1 jC (ofNat (val a % val b))))] [] (zM <| zM <| zE (jX (r_parts a b ha hb (by omega) (by omega) (by omega))) <| zM <| zE uZ <| zE uZ <| zM <| zM <| zZ) ?_
  refine kx [(5, (vl 140 1 jC b)), (6, (vl 140 1 jC (ofNat (val a % val b))))] [] (zM <| zM <| zM <| zM <| zZ) ?_
  exact ⟨(b, ofNat (val a % val b)), wk, ⟨hb, kW _, hlb, Nat.le_trans (len_rem a ha _) hla, by rw [kB, ← hg, Nat.gcd_comm, ← Nat.gcd_rec, Nat.gcd_comm]⟩, (by dsimp only; rw [kB]; exact Nat.mod_lt _ hb0)⟩
 ·have hex := h3
  refine kL <| jB <| jB <| kx [(40, (vb (((b.length : Nat) : Int) == 0)))] [] (zM <| zE (vG kJ) <| zE nF <| zZ) ?_
  refine jH (b := (((b.length : Nat) : Int) == 0)) rfl (fun h4 => ?_) (fun h4 => ?_)
  ·replace h4 := eq_of_beq h4
   have hb1 : b = [] := List.eq_nil_of_length_eq_zero (by omega)
   rw [hb1, val_nil, Nat.gcd_zero_right] at hg
   refine jB <| kx [] [(2, some (bx (jM (vS false (val a)))))] (zM <| zE (jX (gQ false a ha.1 (by omega))) <| zT (qC jS) <| zZ) ?_
   refine jG ⟨_, (kU (cs := (bx (jM (vS false (val a))))) (d := (jM (vS false (val a)))) rfl rfl jS rfl rfl .nil), ?_⟩
   rw [← hg, mkI_false]; rfl
  ·replace h4 := ne_of_beq_false h4
   have hl2 : a.length ≤ 2 ∧ b.length ≤ 2 := by simp only [Bool.and_eq_false_iff, Bool.or_eq_false_iff, decide_eq_false_iff_not] at hex; omega
   refine jF <| jB <| kx [(9, (yG (val a))), (10, (yG (val b)))] [] (zM <| zE (jX (r_pair a ha.1 (by omega))) <| zM <| zE (jX (r_pair b hb.1 (by omega))) <| zM <| zM <| zZ) ?_
   refine jB <| jI <| kN (α := Nat × Nat) (fun (m, n) => ⟨[(4, (.ref 2 0)), (9, (yG m)), (10, (yG n))], [(2, some (bx (jM (jD.mk false []))))]⟩) (fun (m, n) => m < 1000000000000000000 ∧ n < 1000000000000000000 ∧ Nat.gcd m n = Int.gcd (jY x) (jY y)) (fun (m, n) => n) (val a, val b) wk ⟨val_len2 ha.1 hl2.1, val_len2 hb.1 hl2.2, hg⟩ ?_
   rintro ⟨m, n⟩ ⟨hm, hn, hg2⟩
   refine jB <| jB <| kx [(48, (vb (decide (0 < ((n : Nat) : Int)))))] [] (zM <| zE hC <| zZ) ?_
   refine jH (b := decide (0 < ((n : Nat) : Int))) rfl (fun h5 => ?_) (fun h5 => ?_)
   ·replace h5 := of_decide_eq_true h5
    refine jF <| jI <| kd [(9, (yG n)), (10, (yG (m % n)))] [] mo (wM <| wM <| wM <| wE (oRe (m % n)) <| wM <| wM <| wZ) ?_
    exact ⟨(n, m % n), wk, ⟨hn, Nat.lt_of_le_of_lt (Nat.mod_le _ _) hm, by rw [← hg2, Nat.gcd_comm, ← Nat.gcd_rec, Nat.gcd_comm]⟩, (by dsimp only; exact Nat.mod_lt _ (by omega))⟩
   ·replace h5 := of_decide_eq_false h5
    obtain rfl : n = 0 := by omega
    rw [Nat.gcd_zero_right] at hg2
    have hmv : val [m % 1000000000, m / 1000000000] = m := by simp only [val]; omega
    refine kL <| jB <| kx [] [(2, some (bx (jM (vS false (val [(m % 1000000000), (m / 1000000000)])))))] (zM <| zE (oRe (m % 1000000000)) <| zE (nO gH yU (m % 1000000000)) <| zM <| zE (oQu (m / 1000000000)) <| zE (nO gH yU (m / 1000000000)) <| zE (eI kJ vB xV) <| zE (jX (gQ false [(m % 1000000000), (m / 1000000000)] (yD.2 ⟨Nat.mod_lt _ (by decide), yD.2 ⟨by omega, yY⟩⟩) (by simp))) <| zT (qC jS) <| zZ) ?_
    refine jG ⟨_, (kU (cs := (bx (jM (vS false (val [(m % 1000000000), (m / 1000000000)]))))) (d := (jM (vS false (val [(m % 1000000000), (m / 1000000000)])))) rfl rfl jS rfl rfl .nil), ?_⟩
    rw [← hg2, hmv, mkI_false]; rfl
theorem r_compare (x : jD) (y : jD) (hx : x.gs.length ≤ 274877906944) (hy : y.gs.length ≤ 274877906944) : jV Tryz.prog 117 [(jM x), (jM y)] (.val (.int .i64 ((uC (jY x) (jY y))))) := by
 have hv := gs_sub x y
 refine jJ Tryz.func117 rfl cb117 rfl ?_
 show qI _ _ _ _ ⟨[(0, (.d (jM x))), (1, (.d (jM y)))], []⟩
 refine jB <| kx [(2, (.ref 0 0)), (3, (.ref 1 0))] [(0, some (bx (jM x))), (1, some (bx (jM y)))] (zN (vL 0) <| zN (vL 1) <| zM <| zZ) ?_
 refine jB <| kx [(4, (vi (qY (jY (jZ (jY x - jY y))))))] [] (zR (kR jS) <| zR (kR jS) <| zE (jX (r_sub x y (by omega) (by omega))) <| zE (jX (r_sign (jZ (jY x - jY y)) (by omega))) <| zM <| zZ) ?_
 refine jG ⟨_, (.tmp (d := (.val (.int .i64 ((qY (jY (jZ (jY x - jY y)))))))) rfl .nil), ?_⟩
 rw [gV, signI_sub]; rfl
theorem r_divide (x : jD) (y : jD) (hx : x.gs.length ≤ 274877906944) (hy : y.gs.length ≤ 274877906944) (hy0 : jY y ≠ 0) : jV Tryz.prog 146 [(jM x), (jM y)] (.tup [(jM (jZ ((jY x).fdiv (jY y)))), (jM (jZ ((jY x).fmod (jY y)))), (.val (.int .i64 (0)))]) := by
 have hvx := cL x
 have hvy := cL y
 have hmx := gs_val x
 have hmy := gs_val y
 have hy1 : 0 < (jY y).natAbs := by omega
 have hyl := nN hy1
 have hql : (ofNat (val (ofNat (Int.natAbs (jY x))) / val (ofNat (Int.natAbs (jY y))))).length ≤ 274877906944 := by have := len_quo (ofNat (Int.natAbs (jY x))) (kW _) (val (ofNat (Int.natAbs (jY y)))); omega
 have hqg : (vS (!((jZ (jY x)).neg == (jZ (jY y)).neg)) (val (ofNat (val (ofNat (Int.natAbs (jY x))) / val (ofNat (Int.natAbs (jY y))))))).gs.length ≤ 274877906944 := by show (ofNat (val (ofNat (val (ofNat (Int.natAbs (jY x))) / val (ofNat (Int.natAbs (jY y))))))).length ≤ _; rw [kB]; exact hql
 have cI : (jZ 1).gs.length ≤ 1 := (uU (z := 1) (by decide)).l
 have hqs := gs_sub (vS (!((jZ (jY x)).neg == (jZ (jY y)).neg)) (val (ofNat (val (ofNat (Int.natAbs (jY x))) / val (ofNat (Int.natAbs (jY y))))))) (jZ 1)
 refine jJ Tryz.func146 rfl cb146 rfl ?_
 show qI _ _ _ _ ⟨[(0, (.d (jM x))), (1, (.d (jM y)))], []⟩
 refine jB <| kx [(2, (.ref 0 0)), (3, (.ref 1 0)), (4, (.ref 2 0)), (5, (.ref 3 0))] [(0, some (bx (jM x))), (1, some (bx (jM y))), (2, some (bx (jM (jD.mk false [])))), (3, some (bx (jM (jD.mk false []))))] (zN (vL 0) <| zN (vL 1) <| zN (qS 2 vP vQ) <| zN (qS 3 vP vQ) <| zM <| zZ) ?_
 refine jB <| kd [] [(0, some (bx (jM (jZ (jY x))))), (1, some (bx (jM (jZ (jY y)))))] mo (wR (kR jS) <| wE (jX (hZ x (by omega))) <| wR (kR jS) <| wE (jX (hZ y (by omega))) <| wT (qC jS) <| wT (qC jS) <| wZ) ?_
 refine jB <| jB <| kx [(17, (vb ((((ofNat (Int.natAbs (jY y))).length : Nat) : Int) == 0)))] [] (zE (qH uR) <| zR (qP xG) <| zE (vG kJ (L := (ofNat (Int.natAbs (jY y))))) <| zE nF <| zZ) ?_
 refine jH rfl (fun h1 => ?_) (fun h1 => ?_)
 ·replace h1 := eq_of_beq h1
  exact absurd h1 (by omega)
 ·replace h1 := ne_of_beq_false h1
  refine jF <| jB <| kx [(7, (vl 140 1 jC (ofNat (val (ofNat (Int.natAbs (jY x))) / val (ofNat (Int.natAbs (jY y))))))), (8, (vl 140 1 jC (ofNat (val (ofNat (Int.natAbs (jY x))) % val (ofNat (Int.natAbs (jY y)))))))] [] (zE (qH uR) <| zR (qP xG) <| zE (qH uR) <| zR (qP xG) <| zE (jX (r_parts (ofNat (Int.natAbs (jY x))) (ofNat (Int.natAbs (jY y))) (by first | assumption | exact kW _ | exact qD _) (by first | assumption | exact kW _ | exact qD _) (by omega) (by omega) (by omega))) <| zM <| zE uZ <| zE uZ <| zM <| zM <| zZ) ?_
  refine jB <| kx [(9, (.ref 4 0))] [(4, some (bx (jM (vS (!(((jZ (jY x)).neg) == ((jZ (jY y)).neg))) (val (ofNat (val (ofNat (Int.natAbs (jY x))) / val (ofNat (Int.natAbs (jY y))))))))))] (zE (qH uQ) <| zR (qP aG) <| zE (qH uQ) <| zR (qP aG) <| zE (oNb bo4) <| zM <| zE (jX (gQ (!(((jZ (jY x)).neg) == ((jZ (jY y)).neg))) (ofNat (val (ofNat (Int.natAbs (jY x))) / val (ofNat (Int.natAbs (jY y))))) (kF _) (by omega))) <| zN (qS 4 vP vQ) <| zT (qC jS) <| zZ) ?_
  refine jB <| jB <| kx [(44, (vb (!(((jZ (jY x)).neg) == ((jZ (jY y)).neg)) && decide (0 < (((ofNat (val (ofNat (Int.natAbs (jY x))) % val (ofNat (Int.natAbs (jY y))))).length : Nat) : Int)))))] [] ?_ ?_
  ·refine zE (qH uQ) <| zR (qP aG) <| zE (qH uQ) <| zR (qP aG) <| zE (oNb bo4) <| zE (oV (vb (!(((jZ (jY x)).neg) == ((jZ (jY y)).neg)))) (kY (by kernel_rfl))) <| ?_
   rcases hb2 : (!(((jZ (jY x)).neg) == ((jZ (jY y)).neg))) with _ | _
   ·exact zK <| zK <| zK <| zE yI <| zZ
   ·exact zM <| zE (vG kJ (L := (ofNat (val (ofNat (Int.natAbs (jY x))) % val (ofNat (Int.natAbs (jY y))))))) <| zE hC <| zE eV <| zZ
  refine jH rfl (fun h3 => ?_) (fun h3 => ?_)
  ·have hqm := gs_mul (jZ (jY (vS (!((jZ (jY x)).neg == (jZ (jY y)).neg)) (val (ofNat (val (ofNat (Int.natAbs (jY x))) / val (ofNat (Int.natAbs (jY y))))))) - jY (jZ 1))) (jZ (jY y))
   have hk := r_div_other (X := jY x) (Y := jY y) hy1 (by rw [Bool.and_eq_true, Bool.not_eq_true', beq_eq_false_iff_ne, decide_eq_true_eq] at h3; exact h3)
   refine kd [] [(4, some (bx (jM (jZ (jY (vS (!(((jZ (jY x)).neg) == ((jZ (jY y)).neg))) (val (ofNat (val (ofNat (Int.natAbs (jY x))) / val (ofNat (Int.natAbs (jY y))))))) - jY (jZ 1))))))] mo (wR (kR jS) <| wE (jX (r_of 1 (by omega) (by omega))) <| wE (jX (r_sub (vS (!(((jZ (jY x)).neg) == ((jZ (jY y)).neg))) (val (ofNat (val (ofNat (Int.natAbs (jY x))) / val (ofNat (Int.natAbs (jY y))))))) (jZ 1) (by omega) (by omega))) <| wT (qC jS) <| wZ) ?_
   refine jB <| kd [(6, (jW 0))] [(2, some (bx (jM (jZ (jY (vS (!(((jZ (jY x)).neg) == ((jZ (jY y)).neg))) (val (ofNat (val (ofNat (Int.natAbs (jY x))) / val (ofNat (Int.natAbs (jY y))))))) - jY (jZ 1)))))), (3, some (bx (jM (jZ (jY (jZ (jY x)) - jY (jZ (jY (jZ (jY (vS (!(((jZ (jY x)).neg) == ((jZ (jY y)).neg))) (val (ofNat (val (ofNat (Int.natAbs (jY x))) / val (ofNat (Int.natAbs (jY y))))))) - jY (jZ 1))) * jY (jZ (jY y)))))))))] mo (wR (kR jS) <| wR (kR jS) <| wR (kR jS) <| wR (kR jS) <| wE (jX (r_mul (jZ (jY (vS (!(((jZ (jY x)).neg) == ((jZ (jY y)).neg))) (val (ofNat (val (ofNat (Int.natAbs (jY x))) / val (ofNat (Int.natAbs (jY y))))))) - jY (jZ 1))) (jZ (jY y)) (by omega) (by omega))) <| wE (jX (r_sub (jZ (jY x)) (jZ (jY (jZ (jY (vS (!(((jZ (jY x)).neg) == ((jZ (jY y)).neg))) (val (ofNat (val (ofNat (Int.natAbs (jY x))) / val (ofNat (Int.natAbs (jY y))))))) - jY (jZ 1))) * jY (jZ (jY y)))) (by omega) (by omega))) <| wT (qC jS) <| wT (qC jS) <| wM <| wZ) ?_
   refine jG ⟨_, (kU (cs := (bx (jM (jZ (jY (vS (!(((jZ (jY x)).neg) == ((jZ (jY y)).neg))) (val (ofNat (val (ofNat (Int.natAbs (jY x))) / val (ofNat (Int.natAbs (jY y))))))) - jY (jZ 1)))))) (d := (jM (jZ (jY (vS (!(((jZ (jY x)).neg) == ((jZ (jY y)).neg))) (val (ofNat (val (ofNat (Int.natAbs (jY x))) / val (ofNat (Int.natAbs (jY y))))))) - jY (jZ 1))))) rfl rfl jS rfl rfl (kU (cs := (bx (jM (jZ (jY (jZ (jY x)) - jY (jZ (jY (jZ (jY (vS (!(((jZ (jY x)).neg) == ((jZ (jY y)).neg))) (val (ofNat (val (ofNat (Int.natAbs (jY x))) / val (ofNat (Int.natAbs (jY y))))))) - jY (jZ 1))) * jY (jZ (jY y))))))))) (d := (jM (jZ (jY (jZ (jY x)) - jY (jZ (jY (jZ (jY (vS (!(((jZ (jY x)).neg) == ((jZ (jY y)).neg))) (val (ofNat (val (ofNat (Int.natAbs (jY x))) / val (ofNat (Int.natAbs (jY y))))))) - jY (jZ 1))) * jY (jZ (jY y)))))))) rfl rfl jS rfl rfl (.tmp (d := (.val (.int .i64 (0)))) rfl .nil))), ?_⟩
   rw [hk, r_rem_eq]; rfl
  ·have hqm := gs_mul (vS (!((jZ (jY x)).neg == (jZ (jY y)).neg)) (val (ofNat (val (ofNat (Int.natAbs (jY x))) / val (ofNat (Int.natAbs (jY y))))))) (jZ (jY y))
   have hk := r_div_same (X := jY x) (Y := jY y) hy1 (by rw [Bool.and_eq_false_iff, Bool.not_eq_false', beq_iff_eq, decide_eq_false_iff_not] at h3; exact h3)
   refine jF <| jB <| kd [(6, (jW 0))] [(2, some (bx (jM (vS (!(((jZ (jY x)).neg) == ((jZ (jY y)).neg))) (val (ofNat (val (ofNat (Int.natAbs (jY x))) / val (ofNat (Int.natAbs (jY y)))))))))), (3, some (bx (jM (jZ (jY (jZ (jY x)) - jY (jZ (jY (vS (!(((jZ (jY x)).neg) == ((jZ (jY y)).neg))) (val (ofNat (val (ofNat (Int.natAbs (jY x))) / val (ofNat (Int.natAbs (jY y))))))) * jY (jZ (jY y)))))))))] mo (wR (kR jS) <| wR (kR jS) <| wR (kR jS) <| wR (kR jS) <| wE (jX (r_mul (vS (!(((jZ (jY x)).neg) == ((jZ (jY y)).neg))) (val (ofNat (val (ofNat (Int.natAbs (jY x))) / val (ofNat (Int.natAbs (jY y))))))) (jZ (jY y)) (by omega) (by omega))) <| wE (jX (r_sub (jZ (jY x)) (jZ (jY (vS (!(((jZ (jY x)).neg) == ((jZ (jY y)).neg))) (val (ofNat (val (ofNat (Int.natAbs (jY x))) / val (ofNat (Int.natAbs (jY y))))))) * jY (jZ (jY y)))) (by omega) (by omega))) <| wT (qC jS) <| wT (qC jS) <| wM <| wZ) ?_
   refine jG ⟨_, (kU (cs := (bx (jM (vS (!(((jZ (jY x)).neg) == ((jZ (jY y)).neg))) (val (ofNat (val (ofNat (Int.natAbs (jY x))) / val (ofNat (Int.natAbs (jY y)))))))))) (d := (jM (vS (!(((jZ (jY x)).neg) == ((jZ (jY y)).neg))) (val (ofNat (val (ofNat (Int.natAbs (jY x))) / val (ofNat (Int.natAbs (jY y))))))))) rfl rfl jS rfl rfl (kU (cs := (bx (jM (jZ (jY (jZ (jY x)) - jY (jZ (jY (vS (!(((jZ (jY x)).neg) == ((jZ (jY y)).neg))) (val (ofNat (val (ofNat (Int.natAbs (jY x))) / val (ofNat (Int.natAbs (jY y))))))) * jY (jZ (jY y))))))))) (d := (jM (jZ (jY (jZ (jY x)) - jY (jZ (jY (vS (!(((jZ (jY x)).neg) == ((jZ (jY y)).neg))) (val (ofNat (val (ofNat (Int.natAbs (jY x))) / val (ofNat (Int.natAbs (jY y))))))) * jY (jZ (jY y)))))))) rfl rfl jS rfl rfl (.tmp (d := (.val (.int .i64 (0)))) rfl .nil))), ?_⟩
   rw [hk, r_rem_eq]; rfl
end Go.Proofs.YtnajallgoaiahaaGreatDoor
namespace Go.Proofs.YtnajallgoaiahaaGreatDoor
open Go.Fid
set_option maxRecDepth 4000
set_option linter.unusedVariables false
set_option linter.unusedSimpArgs false
theorem s_neg {x : jD} {a : Int} {m : Nat} (hx : vO x a m) (hm : m ≤ 274877906944) : jV Tryz.prog 225 [(jM x)] (jM (jZ (-a))) := by
 obtain ⟨rfl, hx'⟩ := hx
 exact t_neg x (by omega)
theorem s_sign {x : jD} {a : Int} {m : Nat} (hx : vO x a m) (hm : m ≤ 274877906944) : jV Tryz.prog 136 [(jM x)] (.val (.int .i64 (qY a))) := by
 obtain ⟨rfl, hx'⟩ := hx
 exact t_sign x (by omega)
theorem s_add {x y : jD} {a b : Int} {m n : Nat} (hx : vO x a m) (hy : vO y b n) (hm : m ≤ 274877906944) (hn : n ≤ 274877906944) : jV Tryz.prog 150 [(jM x), (jM y)] (jM (jZ (a + b))) := by
 obtain ⟨rfl, hx'⟩ := hx; obtain ⟨rfl, hy'⟩ := hy
 exact t_add x y (by omega) (by omega)
theorem s_mul {x y : jD} {a b : Int} {m n : Nat} (hx : vO x a m) (hy : vO y b n) (hm : m ≤ 274877906944) (hn : n ≤ 274877906944) : jV Tryz.prog 142 [(jM x), (jM y)] (jM (jZ (a * b))) := by
 obtain ⟨rfl, hx'⟩ := hx; obtain ⟨rfl, hy'⟩ := hy
 exact t_mul x y (by omega) (by omega)
theorem s_compare {x y : jD} {a b : Int} {m n : Nat} (hx : vO x a m) (hy : vO y b n) (hm : m ≤ 274877906944) (hn : n ≤ 274877906944) : jV Tryz.prog 137 [(jM x), (jM y)] (.val (.int .i64 (uC a b))) := by
 obtain ⟨rfl, hx'⟩ := hx; obtain ⟨rfl, hy'⟩ := hy
 exact t_compareI x y (by omega) (by omega)
theorem s_gcd {x y : jD} {a b : Int} {m n : Nat} (hx : vO x a m) (hy : vO y b n) (hm : m ≤ 274877906944) (hn : n ≤ 274877906944) : jV Tryz.prog 138 [(jM x), (jM y)] (jM (jZ ((Int.gcd a b : Nat) : Int))) := by
 obtain ⟨rfl, hx'⟩ := hx; obtain ⟨rfl, hy'⟩ := hy
 exact t_gcdI x y (by omega) (by omega)
theorem s_divide {x y : jD} {a b : Int} {m n : Nat} (hx : vO x a m) (hy : vO y b n) (hm : m ≤ 274877906944) (hn : n ≤ 274877906944) (hb : b ≠ 0) : jV Tryz.prog 227 [(jM x), (jM y)] (.tup [(jM (jZ (a.fdiv b))), (jM (jZ (a.fmod b))), (.val (.int .i64 0))]) := by
 obtain ⟨rfl, hx'⟩ := hx; obtain ⟨rfl, hy'⟩ := hy
 exact t_divideI x y (by omega) (by omega) hb
theorem rs_neg {x : jD} {a : Int} {m : Nat} (hx : vO x a m) (hm : m ≤ 274877906944) : jV Tryz.prog 145 [(jM x)] (jM (jZ (-a))) := by
 obtain ⟨rfl, hx'⟩ := hx
 exact r_neg x (by omega)
theorem rs_sign {x : jD} {a : Int} {m : Nat} (hx : vO x a m) (hm : m ≤ 274877906944) : jV Tryz.prog 83 [(jM x)] (.val (.int .i64 (qY a))) := by
 obtain ⟨rfl, hx'⟩ := hx
 exact r_sign x (by omega)
theorem rs_add {x y : jD} {a b : Int} {m n : Nat} (hx : vO x a m) (hy : vO y b n) (hm : m ≤ 274877906944) (hn : n ≤ 274877906944) : jV Tryz.prog 96 [(jM x), (jM y)] (jM (jZ (a + b))) := by
 obtain ⟨rfl, hx'⟩ := hx; obtain ⟨rfl, hy'⟩ := hy
 exact r_add x y (by omega) (by omega)
theorem rs_sub {x y : jD} {a b : Int} {m n : Nat} (hx : vO x a m) (hy : vO y b n) (hm : m ≤ 274877906944) (hn : n ≤ 274877906944) : jV Tryz.prog 175 [(jM x), (jM y)] (jM (jZ (a - b))) := by
 obtain ⟨rfl, hx'⟩ := hx; obtain ⟨rfl, hy'⟩ := hy
 exact r_sub x y (by omega) (by omega)
theorem rs_mul {x y : jD} {a b : Int} {m n : Nat} (hx : vO x a m) (hy : vO y b n) (hm : m ≤ 274877906944) (hn : n ≤ 274877906944) : jV Tryz.prog 87 [(jM x), (jM y)] (jM (jZ (a * b))) := by
 obtain ⟨rfl, hx'⟩ := hx; obtain ⟨rfl, hy'⟩ := hy
 exact r_mul x y (by omega) (by omega)
theorem dR {x y : jD} {a b : Int} {m n : Nat} (hx : vO x a m) (hy : vO y b n) (hm : m ≤ 274877906944) (hn : n ≤ 274877906944) : jV Tryz.prog 117 [(jM x), (jM y)] (.val (.int .i64 (uC a b))) := by
 obtain ⟨rfl, hx'⟩ := hx; obtain ⟨rfl, hy'⟩ := hy
 exact r_compare x y (by omega) (by omega)
theorem rs_gcd {x y : jD} {a b : Int} {m n : Nat} (hx : vO x a m) (hy : vO y b n) (hm : m ≤ 274877906944) (hn : n ≤ 274877906944) : jV Tryz.prog 118 [(jM x), (jM y)] (jM (jZ ((Int.gcd a b : Nat) : Int))) := by
 obtain ⟨rfl, hx'⟩ := hx; obtain ⟨rfl, hy'⟩ := hy
 exact r_gcd x y (by omega) (by omega)
theorem cA {x y : jD} {a b : Int} {m n : Nat} (hx : vO x a m) (hy : vO y b n) (hm : m ≤ 274877906944) (hn : n ≤ 274877906944) (hb : b ≠ 0) : jV Tryz.prog 146 [(jM x), (jM y)] (.tup [(jM (jZ (a.fdiv b))), (jM (jZ (a.fmod b))), (.val (.int .i64 0))]) := by
 obtain ⟨rfl, hx'⟩ := hx; obtain ⟨rfl, hy'⟩ := hy
 exact r_divide x y (by omega) (by omega) hb
end Go.Proofs.YtnajallgoaiahaaGreatDoor
namespace Go.Proofs.YtnajallgoaiahaaGreatDoor
open Go.Fid
set_option maxRecDepth 4000
set_option linter.unusedVariables false
set_option linter.unusedSimpArgs false
theorem cb78 : callB Tryz.prog 78 = true := by kernel_rfl
theorem cb79 : callB Tryz.prog 79 = true := by kernel_rfl
theorem cb80 : callB Tryz.prog 80 = true := by kernel_rfl
theorem cb81 : callB Tryz.prog 81 = true := by kernel_rfl
theorem cb82 : callB Tryz.prog 82 = true := by kernel_rfl
theorem cb90 : callB Tryz.prog 90 = true := by kernel_rfl
theorem cb105 : callB Tryz.prog 105 = true := by kernel_rfl
theorem cb140 : callB Tryz.prog 140 = true := by kernel_rfl
theorem cb141 : callB Tryz.prog 141 = true := by kernel_rfl
theorem cb143 : callB Tryz.prog 143 = true := by kernel_rfl
theorem cb224 : callB Tryz.prog 224 = true := by kernel_rfl
theorem xY : zU Tryz.prog 45 0 = some 0 := by kernel_rfl
theorem vV : zU Tryz.prog 45 1 = some 2 := by kernel_rfl
theorem ft45_0 : aD Tryz.prog 45 0 = some (0, 43) := by kernel_rfl
theorem pl45 : dC Tryz.prog 45 = some [(0, 2), (2, 2)] := by kernel_rfl
theorem jR : qO Tryz.prog 45 = some (true, 4) := by kernel_rfl
theorem qX : xP Tryz.prog 45 = some [.bool false, .slice none 0 0, .bool false, .slice none 0 0] := by kernel_rfl
theorem uA : fS [.bool false, .slice none 0 0, .bool false, .slice none 0 0] [.val (.bool false), .sl 140 1 [], .val (.bool false), .sl 140 1 []] := by simp [fS, Value.oneCell']
theorem mZ (num den : jD) (a b : Int) (dZ : vO num a 68719476736) (cH : vO den b 68719476736) (hb : b ≠ 0) : jV Tryz.prog 143 [(jM num), (jM den)] (jK (jT (Rat.divInt a b))) := by
 refine jJ Tryz.func143 rfl cb143 rfl ?_
 show qI _ _ _ _ ⟨[(0, (.d (jM num))), (1, (.d (jM den)))], []⟩
 refine jB <| kx [(2, (.ref 0 0)), (3, (.ref 1 0)), (4, (.ref 2 0))] [(0, some (bx (jM num))), (1, some (bx (jM den))), (2, some (bx (jK (jE.mk (jD.mk false []) (jD.mk false [])))))] (zN (vL 0) <| zN (vL 1) <| zN (qS 2 qX uA) <| zZ) ?_
 refine jB <| jB <| kx [(8, (vb (decide ((qY b) < 0))))] [] (zR (kR jS) <| zE (jX (s_sign cH (by decide))) <| zE xK <| zZ) ?_
 refine jH (b := decide ((qY b) < 0)) rfl (fun h1 => ?_) (fun h1 => ?_)
 ·replace h1 := of_decide_eq_true h1
  have hlt := signI_lt.1 h1
  have hb2 : -b ≠ 0 := by omega
  refine kd [] [(0, some (bx (jM (jZ (-a))))), (1, some (bx (jM (jZ (-b)))))] mo (wR (kR jS) <| wE (jX (s_neg dZ (by decide))) <| wR (kR jS) <| wE (jX (s_neg cH (by decide))) <| wT (qC jS) <| wT (qC jS) <| wZ) ?_
  refine jB <| kx [(5, (.ref 3 0))] [(3, some (bx (jM (jZ ((Int.gcd (-a) (-b) : Nat) : Int)))))] (zR (kR jS) <| zR (kR jS) <| zE (jX (s_gcd (nQ dZ) (nQ cH) (by decide) (by decide))) <| zN (qS 3 vP vQ) <| zT (qC jS) <| zZ) ?_
  refine jB <| kx [] [(0, some (bx (jM (jZ ((-a).fdiv (((Int.gcd (-a) (-b) : Nat) : Int)))))))] (zR (kR jS) <| zR (kR jS) <| zE (jX (s_divide (nQ dZ) (mK (k := 68719476736) (nQ dZ) (nQ cH) (by decide)) (by decide) (by decide) (gcd_ne (by omega)))) <| zM <| zE uZ <| zE uZ <| zE uZ <| zT (qC jS) <| zZ) ?_
  refine jB <| kx [] [(1, some (bx (jM (jZ ((-b).fdiv (((Int.gcd (-a) (-b) : Nat) : Int)))))))] (zR (kR jS) <| zR (kR jS) <| zE (jX (s_divide (nQ cH) (mK (k := 68719476736) (nQ dZ) (nQ cH) (by decide)) (by decide) (by decide) (gcd_ne (by omega)))) <| zM <| zE uZ <| zE uZ <| zE uZ <| zT (qC jS) <| zZ) ?_
  refine jB <| kx [] [(2, some (bx (jK (jE.mk (jZ ((-a).fdiv (((Int.gcd (-a) (-b) : Nat) : Int)))) (jZ ((-b).fdiv (((Int.gcd (-a) (-b) : Nat) : Int))))))))] (zR (kR jS) <| zR (kR jS) <| zE (eJ pl45 qX uA) <| zT (qC jR) <| zZ) ?_
  refine jG ⟨_, (kU (cs := (bx (jK (jE.mk (jZ ((-a).fdiv (((Int.gcd (-a) (-b) : Nat) : Int)))) (jZ ((-b).fdiv (((Int.gcd (-a) (-b) : Nat) : Int)))))))) (d := (jK (jE.mk (jZ ((-a).fdiv (((Int.gcd (-a) (-b) : Nat) : Int)))) (jZ ((-b).fdiv (((Int.gcd (-a) (-b) : Nat) : Int))))))) rfl rfl jR rfl rfl .nil), ?_⟩
  rw [red_neg hlt]; rfl
 ·replace h1 := of_decide_eq_false h1
  have hge : ¬ b < 0 := fun hh => h1 (signI_lt.2 hh)
  refine jF <| jB <| kx [(5, (.ref 4 0))] [(4, some (bx (jM (jZ ((Int.gcd a b : Nat) : Int)))))] (zR (kR jS) <| zR (kR jS) <| zE (jX (s_gcd dZ cH (by decide) (by decide))) <| zN (qS 4 vP vQ) <| zT (qC jS) <| zZ) ?_
  refine jB <| kx [] [(0, some (bx (jM (jZ (a.fdiv (((Int.gcd a b : Nat) : Int)))))))] (zR (kR jS) <| zR (kR jS) <| zE (jX (s_divide dZ (mK (k := 68719476736) dZ cH (by decide)) (by decide) (by decide) (gcd_ne (by omega)))) <| zM <| zE uZ <| zE uZ <| zE uZ <| zT (qC jS) <| zZ) ?_
  refine jB <| kx [] [(1, some (bx (jM (jZ (b.fdiv (((Int.gcd a b : Nat) : Int)))))))] (zR (kR jS) <| zR (kR jS) <| zE (jX (s_divide cH (mK (k := 68719476736) dZ cH (by decide)) (by decide) (by decide) (gcd_ne (by omega)))) <| zM <| zE uZ <| zE uZ <| zE uZ <| zT (qC jS) <| zZ) ?_
  refine jB <| kx [] [(2, some (bx (jK (jE.mk (jZ (a.fdiv (((Int.gcd a b : Nat) : Int)))) (jZ (b.fdiv (((Int.gcd a b : Nat) : Int))))))))] (zR (kR jS) <| zR (kR jS) <| zE (eJ pl45 qX uA) <| zT (qC jR) <| zZ) ?_
  refine jG ⟨_, (kU (cs := (bx (jK (jE.mk (jZ (a.fdiv (((Int.gcd a b : Nat) : Int)))) (jZ (b.fdiv (((Int.gcd a b : Nat) : Int)))))))) (d := (jK (jE.mk (jZ (a.fdiv (((Int.gcd a b : Nat) : Int)))) (jZ (b.fdiv (((Int.gcd a b : Nat) : Int))))))) rfl rfl jR rfl rfl .nil), ?_⟩
  rw [red_pos hge hb]; rfl
theorem f_whole (n : Int) (hlo : -9223372036854775808 ≤ n) (hhi : n ≤ 9223372036854775807) : jV Tryz.prog 105 [(.val (.int .i64 (n)))] (jK (jT ((n : Int) : Rat))) := by
 refine jJ Tryz.func105 rfl cb105 rfl ?_
 show qI _ _ _ _ ⟨[(0, (vi n))], []⟩
 refine jB <| kx [(2, (.ref 0 0))] [(0, some (bx (jK (jE.mk (jD.mk false []) (jD.mk false [])))))] (zN (qS 0 qX uA) <| zZ) ?_
 refine jB <| kx [] [(0, some (bx (jK (jE.mk (jZ n) (jZ 1)))))] (zM <| zE (jX (t_of n (by omega) (by omega))) <| zE (jX (t_of 1 (by decide) (by decide))) <| zE (eJ pl45 qX uA) <| zT (qC jR) <| zZ) ?_
 refine jG ⟨_, (kU (cs := (bx (jK (jE.mk (jZ n) (jZ 1))))) (d := (jK (jE.mk (jZ n) (jZ 1)))) rfl rfl jR rfl rfl .nil), ?_⟩
 rfl
theorem nR (x : jE) (p : Rat) (hx : hH x p 17179869184) : jV Tryz.prog 78 [(jK x)] (.val (.bool ((kP x)))) := by
 refine jJ Tryz.func78 rfl cb78 rfl ?_
 show qI _ _ _ _ ⟨[(0, (.d (jK x)))], []⟩
 refine jB <| kx [(1, (.ref 0 0))] [(0, some (bx (jK x)))] (zN (vL 0) <| zM <| zZ) ?_
 refine jB <| jB <| kx [(18, (vb ((!(uE x.num) || !(uE x.den)) || decide ((qY (jY x.den)) ≤ 0))))] [] ?_ ?_
 ·refine zE (qH xY) <| zR (kR jS) <| zE (jX (t_valid x.num (Nat.le_trans (yH hx.n1).l (by decide)))) <| zE mM <| zE (oV (vb (!(uE x.num))) (kY (by kernel_rfl))) <| ?_
  rcases hb1 : (!(uE x.num)) with _ | _
  ·refine zE (qH vV) <| zR (kR jS) <| zE (jX (t_valid x.den (Nat.le_trans (yH hx.n2).l (by decide)))) <| zE mM <| zE cU <| zE (oV (vb (false || !(uE x.den))) (kY (by kernel_rfl))) <| ?_
   rcases hb2 : (false || !(uE x.den)) with _ | _
   ·exact zE (qH vV) <| zR (kR jS) <| zE (jX (s_sign (yH hx.n2) (by decide))) <| zE oLe <| zE cU <| zZ
   ·exact zK <| zK <| zK <| zK <| zE vY <| zZ
  ·exact zK <| zK <| zK <| zK <| zE vY <| zM <| zK <| zK <| zK <| zK <| zE vY <| zZ
 refine jH rfl (fun h3 => ?_) (fun h3 => ?_)
 ·refine jB <| kx [(2, (vb false))] [] (zM <| zZ) ?_
  refine jG ⟨_, (.tmp (d := (.val (.bool (false)))) rfl .nil), ?_⟩
  rw [validR_no h3]; rfl
 ·refine jF <| jB <| kx [(2, (vb ((uC (((Int.gcd (jY x.num) (jY x.den) : Nat) : Int)) 1) == 0)))] [] (zE (qH xY) <| zR (kR jS) <| zE (qH vV) <| zR (kR jS) <| zE (jX (s_gcd (yH hx.n1) (yH hx.n2) (by decide) (by decide))) <| zE (jX (t_of 1 (by decide) (by decide))) <| zE (jX (s_compare (mK (k := 17179869184) (yH hx.n1) (yH hx.n2) (by decide)) (uU (z := 1) (by decide)) (by decide) (by decide))) <| zE nF <| zM <| zZ) ?_
  refine jG ⟨_, (.tmp (d := (.val (.bool (((uC (((Int.gcd (jY x.num) (jY x.den) : Nat) : Int)) 1) == 0))))) rfl .nil), ?_⟩
  rw [validR_yes h3]; rfl
theorem f_copied (x : jE) (p : Rat) (hx : hH x p 17179869184) : jV Tryz.prog 224 [(jK x)] (jK (jE.mk (jZ (-(-jY x.num))) (jZ (-(-jY x.den))))) := by
 refine jJ Tryz.func224 rfl cb224 rfl ?_
 show qI _ _ _ _ ⟨[(0, (.d (jK x)))], []⟩
 refine jB <| kx [(1, (.ref 0 0)), (2, (.ref 1 0))] [(0, some (bx (jK x))), (1, some (bx (jK (jE.mk (jD.mk false []) (jD.mk false [])))))] (zN (vL 0) <| zN (qS 1 qX uA) <| zZ) ?_
 refine jB <| kd [] [(1, some (bx (jK (jE.mk (jZ (-(-(jY x.num)))) (jZ (-(-(jY x.den))))))))] mo (wE (qH xY) <| wR (kR jS) <| wE (jX (s_neg (yH hx.n1) (by decide))) <| wE (jX (s_neg (nQ (yH hx.n1)) (by decide))) <| wE (qH vV) <| wR (kR jS) <| wE (jX (s_neg (yH hx.n2) (by decide))) <| wE (jX (s_neg (nQ (yH hx.n2)) (by decide))) <| wE (eJ pl45 qX uA) <| wT (qC jR) <| wZ) ?_
 refine jG ⟨_, (kU (cs := (bx (jK (jE.mk (jZ (-(-(jY x.num)))) (jZ (-(-(jY x.den)))))))) (d := (jK (jE.mk (jZ (-(-(jY x.num)))) (jZ (-(-(jY x.den))))))) rfl rfl jR rfl rfl .nil), ?_⟩
 rfl
theorem dE (x : jE) (p : Rat) (hx : hH x p 17179869184) : jV Tryz.prog 140 [(jK x)] (jK (jT p)) := by
 refine jJ Tryz.func140 rfl cb140 rfl ?_
 show qI _ _ _ _ ⟨[(0, (.d (jK x)))], []⟩
 refine jB <| kx [(1, (.ref 0 0)), (2, (.ref 1 0))] [(0, some (bx (jK x))), (1, some (bx (jK (jE.mk (jD.mk false []) (jD.mk false [])))))] (zN (vL 0) <| zN (qS 1 qX uA) <| zZ) ?_
 refine jB <| jB <| kx [(4, (vb (kP x)))] [] (zR (kR jR) <| zE (jX (nR x p hx)) <| zZ) ?_
 refine jH (b := (kP x)) rfl (fun h1 => ?_) (fun h1 => ?_)
 ·refine jB <| kx [] [(1, some (bx (jK (jE.mk (jZ (-(-jY x.num))) (jZ (-(-jY x.den)))))))] (zR (kR jR) <| zE (jX (f_copied x p hx)) <| zT (qC jR) <| zZ) ?_
  refine jG ⟨_, (kU (cs := (bx (jK (jE.mk (jZ (-(-jY x.num))) (jZ (-(-jY x.den))))))) (d := (jK (jE.mk (jZ (-(-jY x.num))) (jZ (-(-jY x.den)))))) rfl rfl jR rfl rfl .nil), ?_⟩
  rw [← hx.v, ← copied_eq h1]; rfl
 ·refine jF <| jB <| kx [] [(1, some (bx (jK (jT ((0 : Int) : Rat)))))] (zE (jX (f_whole 0 (by decide) (by decide))) <| zT (qC jR) <| zZ) ?_
  refine jG ⟨_, (kU (cs := (bx (jK (jT ((0 : Int) : Rat))))) (d := (jK (jT ((0 : Int) : Rat)))) rfl rfl jR rfl rfl .nil), ?_⟩
  rw [← hx.v, toQ_bad h1]; rfl
theorem f_sign (x : jE) (p : Rat) (hx : hH x p 17179869184) : jV Tryz.prog 79 [(jK x)] (.val (.int .i64 ((dA p)))) := by
 refine jJ Tryz.func79 rfl cb79 rfl ?_
 show qI _ _ _ _ ⟨[(0, (.d (jK x)))], []⟩
 refine jB <| kx [(1, (.ref 0 0))] [(0, some (bx (jK x)))] (zN (vL 0) <| zM <| zZ) ?_
 refine jB <| kx [(2, (vi (qY p.num)))] [] (zR (kR jR) <| zE (jX (dE x p hx)) <| zE (oFv ft45_0 jS) <| zE (jX (s_sign (uK hx.ql) (by decide))) <| zM <| zZ) ?_
 refine jG ⟨_, (.tmp (d := (.val (.int .i64 ((qY p.num))))) rfl .nil), ?_⟩
 rfl
theorem f_neg (x : jE) (p : Rat) (hx : hH x p 17179869184) : jV Tryz.prog 141 [(jK x)] (jK (jT (-p))) := by
 refine jJ Tryz.func141 rfl cb141 rfl ?_
 show qI _ _ _ _ ⟨[(0, (.d (jK x)))], []⟩
 refine jB <| kx [(1, (.ref 0 0)), (2, (.ref 1 0))] [(0, some (bx (jK x))), (1, some (bx (jK (jE.mk (jD.mk false []) (jD.mk false [])))))] (zN (vL 0) <| zN (qS 1 qX uA) <| zZ) ?_
 refine jB <| kx [] [(0, some (bx (jK (jT p))))] (zR (kR jR) <| zE (jX (dE x p hx)) <| zT (qC jR) <| zZ) ?_
 refine jB <| kd [] [(1, some (bx (jK (jE.mk (jZ (-p.num)) ((jT p).den)))))] mo (wE (qH xY) <| wR (kR jS) <| wE (jX (s_neg (uK hx.ql) (by decide))) <| wE (qH vV) <| wR (kR jS) <| wE (eJ pl45 qX uA) <| wT (qC jR) <| wZ) ?_
 refine jG ⟨_, (kU (cs := (bx (jK (jE.mk (jZ (-p.num)) ((jT p).den))))) (d := (jK (jE.mk (jZ (-p.num)) ((jT p).den)))) rfl rfl jR rfl rfl .nil), ?_⟩
 rfl
theorem f_add (x : jE) (y : jE) (p : Rat) (q : Rat) (hx : hH x p 17179869184) (hy : hH y q 17179869184) : jV Tryz.prog 90 [(jK x), (jK y)] (jK (jT (p + q))) := by
 refine jJ Tryz.func90 rfl cb90 rfl ?_
 show qI _ _ _ _ ⟨[(0, (.d (jK x))), (1, (.d (jK y)))], []⟩
 refine jB <| kx [(2, (.ref 0 0)), (3, (.ref 1 0)), (4, (.ref 2 0))] [(0, some (bx (jK x))), (1, some (bx (jK y))), (2, some (bx (jK (jE.mk (jD.mk false []) (jD.mk false [])))))] (zN (vL 0) <| zN (vL 1) <| zN (qS 2 qX uA) <| zZ) ?_
 refine jB <| kd [] [(0, some (bx (jK (jT p)))), (1, some (bx (jK (jT q))))] mo (wR (kR jR) <| wE (jX (dE x p hx)) <| wR (kR jR) <| wE (jX (dE y q hy)) <| wT (qC jR) <| wT (qC jR) <| wZ) ?_
 refine jB <| kd [] [(2, some (bx (jK (jT (Rat.divInt ((p.num * (q.den : Int)) + (q.num * (p.den : Int))) ((p.den : Int) * (q.den : Int)))))))] mo (wE (qH xY) <| wR (kR jS) <| wE (qH vV) <| wR (kR jS) <| wE (jX (s_mul (uK hx.ql) (uB hy.ql) (by decide) (by decide))) <| wE (qH xY) <| wR (kR jS) <| wE (qH vV) <| wR (kR jS) <| wE (jX (s_mul (uK hy.ql) (uB hx.ql) (by decide) (by decide))) <| wE (jX (s_add (zV (k := 34359738368) (uK hx.ql) (uB hy.ql) (by decide)) (zV (k := 34359738368) (uK hy.ql) (uB hx.ql) (by decide)) (by decide) (by decide))) <| wE (qH vV) <| wR (kR jS) <| wE (qH vV) <| wR (kR jS) <| wE (jX (s_mul (uB hx.ql) (uB hy.ql) (by decide) (by decide))) <| wE (jX (mZ (jZ ((p.num * (q.den : Int)) + (q.num * (p.den : Int)))) (jZ ((p.den : Int) * (q.den : Int))) ((p.num * (q.den : Int)) + (q.num * (p.den : Int))) ((p.den : Int) * (q.den : Int)) (yS (gU (k := 34359738369) (zV (k := 34359738368) (uK hx.ql) (uB hy.ql) (by decide)) (zV (k := 34359738368) (uK hy.ql) (uB hx.ql) (by decide)) (by decide)) (by decide)) (yS (zV (k := 34359738368) (uB hx.ql) (uB hy.ql) (by decide)) (by decide)) (mul_ne (den_ne _) (den_ne _)))) <| wT (qC jR) <| wZ) ?_
 refine jG ⟨_, (kU (cs := (bx (jK (jT (Rat.divInt ((p.num * (q.den : Int)) + (q.num * (p.den : Int))) ((p.den : Int) * (q.den : Int))))))) (d := (jK (jT (Rat.divInt ((p.num * (q.den : Int)) + (q.num * (p.den : Int))) ((p.den : Int) * (q.den : Int)))))) rfl rfl jR rfl rfl .nil), ?_⟩
 rw [add_divInt]; rfl
theorem f_sub (x : jE) (y : jE) (p : Rat) (q : Rat) (hx : hH x p 17179869184) (hy : hH y q 17179869184) : jV Tryz.prog 80 [(jK x), (jK y)] (jK (jT (p - q))) := by
 refine jJ Tryz.func80 rfl cb80 rfl ?_
 show qI _ _ _ _ ⟨[(0, (.d (jK x))), (1, (.d (jK y)))], []⟩
 refine jB <| kx [(2, (.ref 0 0)), (3, (.ref 1 0)), (4, (.ref 2 0))] [(0, some (bx (jK x))), (1, some (bx (jK y))), (2, some (bx (jK (jE.mk (jD.mk false []) (jD.mk false [])))))] (zN (vL 0) <| zN (vL 1) <| zN (qS 2 qX uA) <| zZ) ?_
 refine jB <| kd [] [(2, some (bx (jK (jT (p + (-q))))))] mo (wR (kR jR) <| wR (kR jR) <| wE (jX (f_neg y q hy)) <| wE (jX (f_add x (jT (-q)) p (-q) hx (kA (ql_neg hy.ql)))) <| wT (qC jR) <| wZ) ?_
 refine jG ⟨_, (kU (cs := (bx (jK (jT (p + (-q)))))) (d := (jK (jT (p + (-q))))) rfl rfl jR rfl rfl .nil), ?_⟩
 rw [Rat.sub_eq_add_neg]; rfl
theorem eC (x : jE) (y : jE) (p : Rat) (q : Rat) (hx : hH x p 17179869184) (hy : hH y q 17179869184) : jV Tryz.prog 82 [(jK x), (jK y)] (jK (jT (p * q))) := by
 refine jJ Tryz.func82 rfl cb82 rfl ?_
 show qI _ _ _ _ ⟨[(0, (.d (jK x))), (1, (.d (jK y)))], []⟩
 refine jB <| kx [(2, (.ref 0 0)), (3, (.ref 1 0)), (4, (.ref 2 0))] [(0, some (bx (jK x))), (1, some (bx (jK y))), (2, some (bx (jK (jE.mk (jD.mk false []) (jD.mk false [])))))] (zN (vL 0) <| zN (vL 1) <| zN (qS 2 qX uA) <| zZ) ?_
 refine jB <| kd [] [(0, some (bx (jK (jT p)))), (1, some (bx (jK (jT q))))] mo (wR (kR jR) <| wE (jX (dE x p hx)) <| wR (kR jR) <| wE (jX (dE y q hy)) <| wT (qC jR) <| wT (qC jR) <| wZ) ?_
 refine jB <| kd [] [(2, some (bx (jK (jT (Rat.divInt (p.num * q.num) ((p.den : Int) * (q.den : Int)))))))] mo (wE (qH xY) <| wR (kR jS) <| wE (qH xY) <| wR (kR jS) <| wE (jX (s_mul (uK hx.ql) (uK hy.ql) (by decide) (by decide))) <| wE (qH vV) <| wR (kR jS) <| wE (qH vV) <| wR (kR jS) <| wE (jX (s_mul (uB hx.ql) (uB hy.ql) (by decide) (by decide))) <| wE (jX (mZ (jZ (p.num * q.num)) (jZ ((p.den : Int) * (q.den : Int))) (p.num * q.num) ((p.den : Int) * (q.den : Int)) (yS (zV (k := 34359738368) (uK hx.ql) (uK hy.ql) (by decide)) (by decide)) (yS (zV (k := 34359738368) (uB hx.ql) (uB hy.ql) (by decide)) (by decide)) (mul_ne (den_ne _) (den_ne _)))) <| wT (qC jR) <| wZ) ?_
 refine jG ⟨_, (kU (cs := (bx (jK (jT (Rat.divInt (p.num * q.num) ((p.den : Int) * (q.den : Int))))))) (d := (jK (jT (Rat.divInt (p.num * q.num) ((p.den : Int) * (q.den : Int)))))) rfl rfl jR rfl rfl .nil), ?_⟩
 rw [mul_divInt]; rfl
theorem mG (x : jE) (y : jE) (p : Rat) (q : Rat) (hx : hH x p 17179869184) (hy : hH y q 17179869184) : jV Tryz.prog 81 [(jK x), (jK y)] (.val (.int .i64 ((xC p q)))) := by
 refine jJ Tryz.func81 rfl cb81 rfl ?_
 show qI _ _ _ _ ⟨[(0, (.d (jK x))), (1, (.d (jK y)))], []⟩
 refine jB <| kx [(2, (.ref 0 0)), (3, (.ref 1 0))] [(0, some (bx (jK x))), (1, some (bx (jK y)))] (zN (vL 0) <| zN (vL 1) <| zM <| zZ) ?_
 refine jB <| kd [] [(0, some (bx (jK (jT p)))), (1, some (bx (jK (jT q))))] mo (wR (kR jR) <| wE (jX (dE x p hx)) <| wR (kR jR) <| wE (jX (dE y q hy)) <| wT (qC jR) <| wT (qC jR) <| wZ) ?_
 refine jB <| kd [(4, (vi (uC (p.num * (q.den : Int)) (q.num * (p.den : Int)))))] [] mo (wE (qH xY) <| wR (kR jS) <| wE (qH vV) <| wR (kR jS) <| wE (jX (s_mul (uK hx.ql) (uB hy.ql) (by decide) (by decide))) <| wE (qH xY) <| wR (kR jS) <| wE (qH vV) <| wR (kR jS) <| wE (jX (s_mul (uK hy.ql) (uB hx.ql) (by decide) (by decide))) <| wE (jX (s_compare (zV (k := 34359738368) (uK hx.ql) (uB hy.ql) (by decide)) (zV (k := 34359738368) (uK hy.ql) (uB hx.ql) (by decide)) (by decide) (by decide))) <| wM <| wZ) ?_
 refine jG ⟨_, (.tmp (d := (.val (.int .i64 ((uC (p.num * (q.den : Int)) (q.num * (p.den : Int))))))) rfl .nil), ?_⟩
 rw [← cmpQ_cross]; rfl
end Go.Proofs.YtnajallgoaiahaaGreatDoor
