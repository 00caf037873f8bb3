/- Part 19 of a proof: rules, plain facts, and functions walked. -/
import Derived.Test.YtbecgnplakngdaaGreatM18
namespace Go.Proofs.YtbecgnplakngdaaGreat
open Go.Fid
set_option maxRecDepth 4000
set_option linter.unusedVariables false
set_option linter.unusedSimpArgs false
theorem cb109 : callB Tryz.prog 109 = true := by kernel_rfl
theorem cb110 : callB Tryz.prog 110 = true := by kernel_rfl
theorem cb136 : callB Tryz.prog 136 = true := by kernel_rfl
theorem r_gcd (x : jF) (y : jF) (hx : x.gs.length ≤ 1099511627776) (hy : y.gs.length ≤ 1099511627776) : kF Tryz.prog 110 [(jH x), (jH y)] (jH (jK ((Int.gcd (kK x) (kK y) : Nat) : Int))) := by
 have hvx := eB x
 have hvy := eB y
 refine jL Tryz.func110 rfl cb110 rfl ?_
 show uK _ _ _ _ ⟨[(0, (.d (jH x))), (1, (.d (jH y)))], []⟩
 refine jA <| kx [(2, (.ref 0 0)), (3, (.ref 1 0)), (4, (.ref 2 0))] [(0, some (bx (jH x))), (1, some (bx (jH y))), (2, some (bx (jH (jF.mk false []))))] (zN (uX 0) <| zN (uX 1) <| zN (qH 2 uD uE) <| zZ) ?_
 refine jA <| kd [(5, (vl 152 1 jB (ofNat (Int.natAbs (kK x))))), (6, (vl 152 1 jB (ofNat (Int.natAbs (kK y)))))] [] mo (wR (kA jI) <| wE (kC (eE x (by omega))) <| wE (oF1 bK xI) <| wR (kA jI) <| wE (kC (eE y (by omega))) <| wE (oF1 bK xI) <| wM <| wM <| wZ) ?_
 refine jA <| jE <| uA (α := List Nat × List Nat) (fun (a, b) => ⟨[(4, (.ref 2 0)), (5, (vl 152 1 jB a)), (6, (vl 152 1 jB b))], [(2, some (bx (jH (jF.mk false []))))]⟩) (fun (a, b) => gS a ∧ gS b ∧ a.length ≤ 1099511627776 ∧ b.length ≤ 1099511627776 ∧ Nat.gcd (val a) (val b) = Int.gcd (kK x) (kK y)) (fun (a, b) => val b) ((ofNat (Int.natAbs (kK x))), (ofNat (Int.natAbs (kK y)))) wk ⟨uC _, uC _, by omega, by omega, by rw [kW, kW]; rfl⟩ ?_
 rintro ⟨a, b⟩ ⟨ha, hb, hla, hlb, hg⟩
 refine jA <| jA <| kx [(29, (vb (decide (0 < ((b.length : Nat) : Int)) && (decide (2 < ((a.length : Nat) : Int)) || decide (2 < ((b.length : Nat) : Int))))))] [] ?_ ?_
 ·refine zM <| zE (nC kV) <| zE bO <| zE (oV (vb (decide (0 < ((b.length : Nat) : Int)))) (xD (by kernel_rfl))) <| ?_
  rcases hb1 : (decide (0 < ((b.length : Nat) : Int))) with _ | _
  ·replace hb1 := of_decide_eq_false hb1
   exact zK <| zK <| zK <| zK <| zK <| zK <| zK <| zK <| zE fC <| zZ
  ·replace hb1 := of_decide_eq_true hb1
   refine zM <| zE (nC kV) <| zE bO <| zE (oV (vb (decide (2 < ((a.length : Nat) : Int)))) (xD (by kernel_rfl))) <| ?_
   rcases hb2 : (decide (2 < ((a.length : Nat) : Int))) with _ | _
   ·replace hb2 := of_decide_eq_false hb2
    exact zM <| zE (nC kV) <| zE bO <| zE oPo <| zE oPa <| zZ
   ·replace hb2 := of_decide_eq_true hb2
    exact zK <| zK <| zK <| zE bG <| zE bG <| zZ
 refine jQ rfl (fun h3 => ?_) (fun h3 => ?_)
 ·have hbl : 0 < b.length := by rw [Bool.and_eq_true, decide_eq_true_eq] at h3; omega
  have hb0 := cC hb hbl
  refine jD <| jE <| jA <| kx [(8, (vl 152 1 jB (ofNat (val a % val b))))] [] (zM <| zM <| zE (kC (r_parts a b ha hb (by omega) (by omega) (by omega))) <| zM <| zE uH <| zE uH <| zM <| zM <| zZ) ?_
  refine kx [(5, (vl 152 1 jB b)), (6, (vl 152 1 jB (ofNat (val a % val b))))] [] (zM <| zM <| zM <| zM <| zZ) ?_
  exact ⟨(b, ofNat (val a % val b)), wk, ⟨hb, uC _, hlb, Nat.le_trans (len_rem a ha _) hla, by rw [kW, ← hg, Nat.gcd_comm, ← Nat.gcd_rec, Nat.gcd_comm]⟩, (by dsimp only; rw [kW]; exact Nat.mod_lt _ hb0)⟩
 ·have hex := h3
  refine kQ <| jA <| jA <| kx [(40, (vb (((b.length : Nat) : Int) == 0)))] [] (zM <| zE (nC kV) <| zE aO <| zZ) ?_
  refine jQ (b := (((b.length : Nat) : Int) == 0)) rfl (fun h4 => ?_) (fun h4 => ?_)
  ·replace h4 := eq_of_beq h4
   have hb1 : b = [] := List.eq_nil_of_length_eq_zero (by omega)
   rw [hb1, val_nil, Nat.gcd_zero_right] at hg
   refine jA <| kx [] [(2, some (bx (jH (zI false (val a)))))] (zM <| zE (kC (nJ false a ha.1 (by omega))) <| zT (kR jI) <| zZ) ?_
   refine jG ⟨_, (qB (cs := (bx (jH (zI false (val a))))) (d := (jH (zI false (val a)))) rfl rfl jI rfl rfl .nil), ?_⟩
   rw [← hg, mkI_false]; rfl
  ·replace h4 := ne_of_beq_false h4
   have hl2 : a.length ≤ 2 ∧ b.length ≤ 2 := by simp only [Bool.and_eq_false_iff, Bool.or_eq_false_iff, decide_eq_false_iff_not] at hex; omega
   refine jD <| jA <| kx [(9, (gQ (val a))), (10, (gQ (val b)))] [] (zM <| zE (kC (r_pair a ha.1 (by omega))) <| zM <| zE (kC (r_pair b hb.1 (by omega))) <| zM <| zM <| zZ) ?_
   refine jA <| jE <| uA (α := Nat × Nat) (fun (m, n) => ⟨[(4, (.ref 2 0)), (9, (gQ m)), (10, (gQ n))], [(2, some (bx (jH (jF.mk false []))))]⟩) (fun (m, n) => m < 1000000000000000000 ∧ n < 1000000000000000000 ∧ Nat.gcd m n = Int.gcd (kK x) (kK y)) (fun (m, n) => n) (val a, val b) wk ⟨val_len2 ha.1 hl2.1, val_len2 hb.1 hl2.2, hg⟩ ?_
   rintro ⟨m, n⟩ ⟨hm, hn, hg2⟩
   refine jA <| jA <| kx [(48, (vb (decide (0 < ((n : Nat) : Int)))))] [] (zM <| zE bO <| zZ) ?_
   refine jQ (b := decide (0 < ((n : Nat) : Int))) rfl (fun h5 => ?_) (fun h5 => ?_)
   ·replace h5 := of_decide_eq_true h5
    refine jD <| jE <| kd [(9, (gQ n)), (10, (gQ (m % n)))] [] mo (wM <| wM <| wM <| wE (aI (m % n)) <| wM <| wM <| wZ) ?_
    exact ⟨(n, m % n), wk, ⟨hn, Nat.lt_of_le_of_lt (Nat.mod_le _ _) hm, by rw [← hg2, Nat.gcd_comm, ← Nat.gcd_rec, Nat.gcd_comm]⟩, (by dsimp only; exact Nat.mod_lt _ (by omega))⟩
   ·replace h5 := of_decide_eq_false h5
    obtain rfl : n = 0 := by omega
    rw [Nat.gcd_zero_right] at hg2
    have hmv : val [m % 1000000000, m / 1000000000] = m := by simp only [val]; omega
    refine kQ <| jA <| kx [] [(2, some (bx (jH (zI false (val [(m % 1000000000), (m / 1000000000)])))))] (zM <| zE (aI (m % 1000000000)) <| zE (mU nD hH (m % 1000000000)) <| zM <| zE (oQu (m / 1000000000)) <| zE (mU nD hH (m / 1000000000)) <| zE (cP kV xP gH) <| zE (kC (nJ false [(m % 1000000000), (m / 1000000000)] (gI.2 ⟨Nat.mod_lt _ (by decide), gI.2 ⟨by omega, hO⟩⟩) (by simp))) <| zT (kR jI) <| zZ) ?_
    refine jG ⟨_, (qB (cs := (bx (jH (zI false (val [(m % 1000000000), (m / 1000000000)]))))) (d := (jH (zI false (val [(m % 1000000000), (m / 1000000000)])))) rfl rfl jI rfl rfl .nil), ?_⟩
    rw [← hg2, hmv, mkI_false]; rfl
theorem r_compare (x : jF) (y : jF) (hx : x.gs.length ≤ 274877906944) (hy : y.gs.length ≤ 274877906944) : kF Tryz.prog 109 [(jH x), (jH y)] (.val (.int .i64 ((xC (kK x) (kK y))))) := by
 have hv := gs_sub x y
 refine jL Tryz.func109 rfl cb109 rfl ?_
 show uK _ _ _ _ ⟨[(0, (.d (jH x))), (1, (.d (jH y)))], []⟩
 refine jA <| kx [(2, (.ref 0 0)), (3, (.ref 1 0))] [(0, some (bx (jH x))), (1, some (bx (jH y)))] (zN (uX 0) <| zN (uX 1) <| zM <| zZ) ?_
 refine jA <| kx [(4, (vi (qX (kK (jK (kK x - kK y))))))] [] (zR (kA jI) <| zR (kA jI) <| zE (kC (r_sub x y (by omega) (by omega))) <| zE (kC (r_sign (jK (kK x - kK y)) (by omega))) <| zM <| zZ) ?_
 refine jG ⟨_, (.tmp (d := (.val (.int .i64 ((qX (kK (jK (kK x - kK y)))))))) rfl .nil), ?_⟩
 rw [mG, signI_sub]; rfl
theorem r_divide (x : jF) (y : jF) (hx : x.gs.length ≤ 274877906944) (hy : y.gs.length ≤ 274877906944) (hy0 : kK y ≠ 0) : kF Tryz.prog 136 [(jH x), (jH y)] (.tup [(jH (jK ((kK x).fdiv (kK y)))), (jH (jK ((kK x).fmod (kK y)))), (.val (.int .i64 (0)))]) := by
 have hvx := eB x
 have hvy := eB y
 have hmx := gs_val x
 have hmy := gs_val y
 have hy1 : 0 < (kK y).natAbs := by omega
 have hyl := eA hy1
 have hql : (ofNat (val (ofNat (Int.natAbs (kK x))) / val (ofNat (Int.natAbs (kK y))))).length ≤ 274877906944 := by have := len_quo (ofNat (Int.natAbs (kK x))) (uC _) (val (ofNat (Int.natAbs (kK y)))); omega
 have hqg : (zI (!((jK (kK x)).neg == (jK (kK y)).neg)) (val (ofNat (val (ofNat (Int.natAbs (kK x))) / val (ofNat (Int.natAbs (kK y))))))).gs.length ≤ 274877906944 := by show (ofNat (val (ofNat (val (ofNat (Int.natAbs (kK x))) / val (ofNat (Int.natAbs (kK y))))))).length ≤ _; rw [kW]; exact hql
 have hone : (jK 1).gs.length ≤ 1 := (yI (z := 1) (by decide)).l
 have hqs := gs_sub (zI (!((jK (kK x)).neg == (jK (kK y)).neg)) (val (ofNat (val (ofNat (Int.natAbs (kK x))) / val (ofNat (Int.natAbs (kK y))))))) (jK 1)
 refine jL Tryz.func136 rfl cb136 rfl ?_
 show uK _ _ _ _ ⟨[(0, (.d (jH x))), (1, (.d (jH y)))], []⟩
 refine jA <| kx [(2, (.ref 0 0)), (3, (.ref 1 0)), (4, (.ref 2 0)), (5, (.ref 3 0))] [(0, some (bx (jH x))), (1, some (bx (jH y))), (2, some (bx (jH (jF.mk false [])))), (3, some (bx (jH (jF.mk false []))))] (zN (uX 0) <| zN (uX 1) <| zN (qH 2 uD uE) <| zN (qH 3 uD uE) <| zM <| zZ) ?_
 refine jA <| kd [] [(0, some (bx (jH (jK (kK x))))), (1, some (bx (jH (jK (kK y)))))] mo (wR (kA jI) <| wE (kC (eE x (by omega))) <| wR (kA jI) <| wE (kC (eE y (by omega))) <| wT (kR jI) <| wT (kR jI) <| wZ) ?_
 refine jA <| jA <| kx [(17, (vb ((((ofNat (Int.natAbs (kK y))).length : Nat) : Int) == 0)))] [] (zE (kU uT) <| zR (uM xI) <| zE (nC kV (L := (ofNat (Int.natAbs (kK y))))) <| zE aO <| zZ) ?_
 refine jQ rfl (fun h1 => ?_) (fun h1 => ?_)
 ·replace h1 := eq_of_beq h1
  exact absurd h1 (by omega)
 ·replace h1 := ne_of_beq_false h1
  refine jD <| jA <| kx [(7, (vl 152 1 jB (ofNat (val (ofNat (Int.natAbs (kK x))) / val (ofNat (Int.natAbs (kK y))))))), (8, (vl 152 1 jB (ofNat (val (ofNat (Int.natAbs (kK x))) % val (ofNat (Int.natAbs (kK y)))))))] [] (zE (kU uT) <| zR (uM xI) <| zE (kU uT) <| zR (uM xI) <| zE (kC (r_parts (ofNat (Int.natAbs (kK x))) (ofNat (Int.natAbs (kK y))) (by first | assumption | exact uC _ | exact uB _) (by first | assumption | exact uC _ | exact uB _) (by omega) (by omega) (by omega))) <| zM <| zE uH <| zE uH <| zM <| zM <| zZ) ?_
  refine jA <| kx [(9, (.ref 4 0))] [(4, some (bx (jH (zI (!(((jK (kK x)).neg) == ((jK (kK y)).neg))) (val (ofNat (val (ofNat (Int.natAbs (kK x))) / val (ofNat (Int.natAbs (kK y))))))))))] (zE (kU uS) <| zR (uM eI) <| zE (kU uS) <| zR (uM eI) <| zE (oNb bo4) <| zM <| zE (kC (nJ (!(((jK (kK x)).neg) == ((jK (kK y)).neg))) (ofNat (val (ofNat (Int.natAbs (kK x))) / val (ofNat (Int.natAbs (kK y))))) (qA _) (by omega))) <| zN (qH 4 uD uE) <| zT (kR jI) <| zZ) ?_
  refine jA <| jA <| kx [(44, (vb (!(((jK (kK x)).neg) == ((jK (kK y)).neg)) && decide (0 < (((ofNat (val (ofNat (Int.natAbs (kK x))) % val (ofNat (Int.natAbs (kK y))))).length : Nat) : Int)))))] [] ?_ ?_
  ·refine zE (kU uS) <| zR (uM eI) <| zE (kU uS) <| zR (uM eI) <| zE (oNb bo4) <| zE (oV (vb (!(((jK (kK x)).neg) == ((jK (kK y)).neg)))) (xD (by kernel_rfl))) <| ?_
   rcases hb2 : (!(((jK (kK x)).neg) == ((jK (kK y)).neg))) with _ | _
   ·exact zK <| zK <| zK <| zE fC <| zZ
   ·exact zM <| zE (nC kV (L := (ofNat (val (ofNat (Int.natAbs (kK x))) % val (ofNat (Int.natAbs (kK y))))))) <| zE bO <| zE oPa <| zZ
  refine jQ rfl (fun h3 => ?_) (fun h3 => ?_)
  ·have hqm := gs_mul (jK (kK (zI (!((jK (kK x)).neg == (jK (kK y)).neg)) (val (ofNat (val (ofNat (Int.natAbs (kK x))) / val (ofNat (Int.natAbs (kK y))))))) - kK (jK 1))) (jK (kK y))
   have hk := r_div_other (X := kK x) (Y := kK y) hy1 (by rw [Bool.and_eq_true, Bool.not_eq_true', beq_eq_false_iff_ne, decide_eq_true_eq] at h3; exact h3)
   refine kd [] [(4, some (bx (jH (jK (kK (zI (!(((jK (kK x)).neg) == ((jK (kK y)).neg))) (val (ofNat (val (ofNat (Int.natAbs (kK x))) / val (ofNat (Int.natAbs (kK y))))))) - kK (jK 1))))))] mo (wR (kA jI) <| wE (kC (r_of 1 (by omega) (by omega))) <| wE (kC (r_sub (zI (!(((jK (kK x)).neg) == ((jK (kK y)).neg))) (val (ofNat (val (ofNat (Int.natAbs (kK x))) / val (ofNat (Int.natAbs (kK y))))))) (jK 1) (by omega) (by omega))) <| wT (kR jI) <| wZ) ?_
   refine jA <| kd [(6, (kE 0))] [(2, some (bx (jH (jK (kK (zI (!(((jK (kK x)).neg) == ((jK (kK y)).neg))) (val (ofNat (val (ofNat (Int.natAbs (kK x))) / val (ofNat (Int.natAbs (kK y))))))) - kK (jK 1)))))), (3, some (bx (jH (jK (kK (jK (kK x)) - kK (jK (kK (jK (kK (zI (!(((jK (kK x)).neg) == ((jK (kK y)).neg))) (val (ofNat (val (ofNat (Int.natAbs (kK x))) / val (ofNat (Int.natAbs (kK y))))))) - kK (jK 1))) * kK (jK (kK y)))))))))] mo (wR (kA jI) <| wR (kA jI) <| wR (kA jI) <| wR (kA jI) <| wE (kC (r_mul (jK (kK (zI (!(((jK (kK x)).neg) == ((jK (kK y)).neg))) (val (ofNat (val (ofNat (Int.natAbs (kK x))) / val (ofNat (Int.natAbs (kK y))))))) - kK (jK 1))) (jK (kK y)) (by omega) (by omega))) <| wE (kC (r_sub (jK (kK x)) (jK (kK (jK (kK (zI (!(((jK (kK x)).neg) == ((jK (kK y)).neg))) (val (ofNat (val (ofNat (Int.natAbs (kK x))) / val (ofNat (Int.natAbs (kK y))))))) - kK (jK 1))) * kK (jK (kK y)))) (by omega) (by omega))) <| wT (kR jI) <| wT (kR jI) <| wM <| wZ) ?_
   refine jG ⟨_, (qB (cs := (bx (jH (jK (kK (zI (!(((jK (kK x)).neg) == ((jK (kK y)).neg))) (val (ofNat (val (ofNat (Int.natAbs (kK x))) / val (ofNat (Int.natAbs (kK y))))))) - kK (jK 1)))))) (d := (jH (jK (kK (zI (!(((jK (kK x)).neg) == ((jK (kK y)).neg))) (val (ofNat (val (ofNat (Int.natAbs (kK x))) / val (ofNat (Int.natAbs (kK y))))))) - kK (jK 1))))) rfl rfl jI rfl rfl (qB (cs := (bx (jH (jK (kK (jK (kK x)) - kK (jK (kK (jK (kK (zI (!(((jK (kK x)).neg) == ((jK (kK y)).neg))) (val (ofNat (val (ofNat (Int.natAbs (kK x))) / val (ofNat (Int.natAbs (kK y))))))) - kK (jK 1))) * kK (jK (kK y))))))))) (d := (jH (jK (kK (jK (kK x)) - kK (jK (kK (jK (kK (zI (!(((jK (kK x)).neg) == ((jK (kK y)).neg))) (val (ofNat (val (ofNat (Int.natAbs (kK x))) / val (ofNat (Int.natAbs (kK y))))))) - kK (jK 1))) * kK (jK (kK y)))))))) rfl rfl jI rfl rfl (.tmp (d := (.val (.int .i64 (0)))) rfl .nil))), ?_⟩
   rw [hk, r_rem_eq]; rfl
  ·have hqm := gs_mul (zI (!((jK (kK x)).neg == (jK (kK y)).neg)) (val (ofNat (val (ofNat (Int.natAbs (kK x))) / val (ofNat (Int.natAbs (kK y))))))) (jK (kK y))
   have hk := r_div_same (X := kK x) (Y := kK y) hy1 (by rw [Bool.and_eq_false_iff, Bool.not_eq_false', beq_iff_eq, decide_eq_false_iff_not] at h3; exact h3)
   refine jD <| jA <| kd [(6, (kE 0))] [(2, some (bx (jH (zI (!(((jK (kK x)).neg) == ((jK (kK y)).neg))) (val (ofNat (val (ofNat (Int.natAbs (kK x))) / val (ofNat (Int.natAbs (kK y)))))))))), (3, some (bx (jH (jK (kK (jK (kK x)) - kK (jK (kK (zI (!(((jK (kK x)).neg) == ((jK (kK y)).neg))) (val (ofNat (val (ofNat (Int.natAbs (kK x))) / val (ofNat (Int.natAbs (kK y))))))) * kK (jK (kK y)))))))))] mo (wR (kA jI) <| wR (kA jI) <| wR (kA jI) <| wR (kA jI) <| wE (kC (r_mul (zI (!(((jK (kK x)).neg) == ((jK (kK y)).neg))) (val (ofNat (val (ofNat (Int.natAbs (kK x))) / val (ofNat (Int.natAbs (kK y))))))) (jK (kK y)) (by omega) (by omega))) <| wE (kC (r_sub (jK (kK x)) (jK (kK (zI (!(((jK (kK x)).neg) == ((jK (kK y)).neg))) (val (ofNat (val (ofNat (Int.natAbs (kK x))) / val (ofNat (Int.natAbs (kK y))))))) * kK (jK (kK y)))) (by omega) (by omega))) <| wT (kR jI) <| wT (kR jI) <| wM <| wZ) ?_
   refine jG ⟨_, (qB (cs := (bx (jH (zI (!(((jK (kK x)).neg) == ((jK (kK y)).neg))) (val (ofNat (val (ofNat (Int.natAbs (kK x))) / val (ofNat (Int.natAbs (kK y)))))))))) (d := (jH (zI (!(((jK (kK x)).neg) == ((jK (kK y)).neg))) (val (ofNat (val (ofNat (Int.natAbs (kK x))) / val (ofNat (Int.natAbs (kK y))))))))) rfl rfl jI rfl rfl (qB (cs := (bx (jH (jK (kK (jK (kK x)) - kK (jK (kK (zI (!(((jK (kK x)).neg) == ((jK (kK y)).neg))) (val (ofNat (val (ofNat (Int.natAbs (kK x))) / val (ofNat (Int.natAbs (kK y))))))) * kK (jK (kK y))))))))) (d := (jH (jK (kK (jK (kK x)) - kK (jK (kK (zI (!(((jK (kK x)).neg) == ((jK (kK y)).neg))) (val (ofNat (val (ofNat (Int.natAbs (kK x))) / val (ofNat (Int.natAbs (kK y))))))) * kK (jK (kK y)))))))) rfl rfl jI rfl rfl (.tmp (d := (.val (.int .i64 (0)))) rfl .nil))), ?_⟩
   rw [hk, r_rem_eq]; rfl
end Go.Proofs.YtbecgnplakngdaaGreat
namespace Go.Proofs.YtbecgnplakngdaaGreat
open Go.Fid
set_option maxRecDepth 4000
set_option linter.unusedVariables false
set_option linter.unusedSimpArgs false
theorem s_neg {x : jF} {a : Int} {m : Nat} (hx : kZ x a m) (hm : m ≤ 274877906944) : kF Tryz.prog 177 [(jH x)] (jH (jK (-a))) := by
 obtain ⟨rfl, hx'⟩ := hx
 exact t_neg x (by omega)
theorem s_sign {x : jF} {a : Int} {m : Nat} (hx : kZ x a m) (hm : m ≤ 274877906944) : kF Tryz.prog 138 [(jH x)] (.val (.int .i64 (qX a))) := by
 obtain ⟨rfl, hx'⟩ := hx
 exact t_sign x (by omega)
theorem s_add {x y : jF} {a b : Int} {m n : Nat} (hx : kZ x a m) (hy : kZ y b n) (hm : m ≤ 274877906944) (hn : n ≤ 274877906944) : kF Tryz.prog 188 [(jH x), (jH y)] (jH (jK (a + b))) := by
 obtain ⟨rfl, hx'⟩ := hx; obtain ⟨rfl, hy'⟩ := hy
 exact t_add x y (by omega) (by omega)
theorem s_sub {x y : jF} {a b : Int} {m n : Nat} (hx : kZ x a m) (hy : kZ y b n) (hm : m ≤ 274877906944) (hn : n ≤ 274877906944) : kF Tryz.prog 215 [(jH x), (jH y)] (jH (jK (a - b))) := by
 obtain ⟨rfl, hx'⟩ := hx; obtain ⟨rfl, hy'⟩ := hy
 exact t_sub x y (by omega) (by omega)
theorem yS {x y : jF} {a b : Int} {m n : Nat} (hx : kZ x a m) (hy : kZ y b n) (hm : m ≤ 274877906944) (hn : n ≤ 274877906944) : kF Tryz.prog 140 [(jH x), (jH y)] (jH (jK (a * b))) := by
 obtain ⟨rfl, hx'⟩ := hx; obtain ⟨rfl, hy'⟩ := hy
 exact t_mul x y (by omega) (by omega)
theorem s_compare {x y : jF} {a b : Int} {m n : Nat} (hx : kZ x a m) (hy : kZ y b n) (hm : m ≤ 274877906944) (hn : n ≤ 274877906944) : kF Tryz.prog 144 [(jH x), (jH y)] (.val (.int .i64 (xC a b))) := by
 obtain ⟨rfl, hx'⟩ := hx; obtain ⟨rfl, hy'⟩ := hy
 exact t_compareI x y (by omega) (by omega)
theorem s_gcd {x y : jF} {a b : Int} {m n : Nat} (hx : kZ x a m) (hy : kZ y b n) (hm : m ≤ 274877906944) (hn : n ≤ 274877906944) : kF Tryz.prog 145 [(jH x), (jH y)] (jH (jK ((Int.gcd a b : Nat) : Int))) := by
 obtain ⟨rfl, hx'⟩ := hx; obtain ⟨rfl, hy'⟩ := hy
 exact t_gcdI x y (by omega) (by omega)
theorem xQ {x y : jF} {a b : Int} {m n : Nat} (hx : kZ x a m) (hy : kZ y b n) (hm : m ≤ 274877906944) (hn : n ≤ 274877906944) (hb : b ≠ 0) : kF Tryz.prog 151 [(jH x), (jH y)] (.tup [(jH (jK (a.fdiv b))), (jH (jK (a.fmod b))), (.val (.int .i64 0))]) := by
 obtain ⟨rfl, hx'⟩ := hx; obtain ⟨rfl, hy'⟩ := hy
 exact t_divideI x y (by omega) (by omega) hb
theorem rs_neg {x : jF} {a : Int} {m : Nat} (hx : kZ x a m) (hm : m ≤ 274877906944) : kF Tryz.prog 134 [(jH x)] (jH (jK (-a))) := by
 obtain ⟨rfl, hx'⟩ := hx
 exact r_neg x (by omega)
theorem aK {x : jF} {a : Int} {m : Nat} (hx : kZ x a m) (hm : m ≤ 274877906944) : kF Tryz.prog 84 [(jH x)] (.val (.int .i64 (qX a))) := by
 obtain ⟨rfl, hx'⟩ := hx
 exact r_sign x (by omega)
theorem rs_add {x y : jF} {a b : Int} {m n : Nat} (hx : kZ x a m) (hy : kZ y b n) (hm : m ≤ 274877906944) (hn : n ≤ 274877906944) : kF Tryz.prog 135 [(jH x), (jH y)] (jH (jK (a + b))) := by
 obtain ⟨rfl, hx'⟩ := hx; obtain ⟨rfl, hy'⟩ := hy
 exact r_add x y (by omega) (by omega)
theorem rs_sub {x y : jF} {a b : Int} {m n : Nat} (hx : kZ x a m) (hy : kZ y b n) (hm : m ≤ 274877906944) (hn : n ≤ 274877906944) : kF Tryz.prog 147 [(jH x), (jH y)] (jH (jK (a - b))) := by
 obtain ⟨rfl, hx'⟩ := hx; obtain ⟨rfl, hy'⟩ := hy
 exact r_sub x y (by omega) (by omega)
theorem rs_mul {x y : jF} {a b : Int} {m n : Nat} (hx : kZ x a m) (hy : kZ y b n) (hm : m ≤ 274877906944) (hn : n ≤ 274877906944) : kF Tryz.prog 103 [(jH x), (jH y)] (jH (jK (a * b))) := by
 obtain ⟨rfl, hx'⟩ := hx; obtain ⟨rfl, hy'⟩ := hy
 exact r_mul x y (by omega) (by omega)
theorem rs_compare {x y : jF} {a b : Int} {m n : Nat} (hx : kZ x a m) (hy : kZ y b n) (hm : m ≤ 274877906944) (hn : n ≤ 274877906944) : kF Tryz.prog 109 [(jH x), (jH y)] (.val (.int .i64 (xC a b))) := by
 obtain ⟨rfl, hx'⟩ := hx; obtain ⟨rfl, hy'⟩ := hy
 exact r_compare x y (by omega) (by omega)
theorem rs_gcd {x y : jF} {a b : Int} {m n : Nat} (hx : kZ x a m) (hy : kZ y b n) (hm : m ≤ 274877906944) (hn : n ≤ 274877906944) : kF Tryz.prog 110 [(jH x), (jH y)] (jH (jK ((Int.gcd a b : Nat) : Int))) := by
 obtain ⟨rfl, hx'⟩ := hx; obtain ⟨rfl, hy'⟩ := hy
 exact r_gcd x y (by omega) (by omega)
theorem fW {x y : jF} {a b : Int} {m n : Nat} (hx : kZ x a m) (hy : kZ y b n) (hm : m ≤ 274877906944) (hn : n ≤ 274877906944) (hb : b ≠ 0) : kF Tryz.prog 136 [(jH x), (jH y)] (.tup [(jH (jK (a.fdiv b))), (jH (jK (a.fmod b))), (.val (.int .i64 0))]) := by
 obtain ⟨rfl, hx'⟩ := hx; obtain ⟨rfl, hy'⟩ := hy
 exact r_divide x y (by omega) (by omega) hb
end Go.Proofs.YtbecgnplakngdaaGreat
namespace Go.Proofs.YtbecgnplakngdaaGreat
open Go.Fid
set_option maxRecDepth 4000
set_option linter.unusedVariables false
set_option linter.unusedSimpArgs false
theorem cb97 : callB Tryz.prog 97 = true := by kernel_rfl
theorem cb102 : callB Tryz.prog 102 = true := by kernel_rfl
theorem cb104 : callB Tryz.prog 104 = true := by kernel_rfl
theorem cb105 : callB Tryz.prog 105 = true := by kernel_rfl
theorem cb121 : callB Tryz.prog 121 = true := by kernel_rfl
theorem cb130 : callB Tryz.prog 130 = true := by kernel_rfl
theorem cb137 : callB Tryz.prog 137 = true := by kernel_rfl
theorem cb139 : callB Tryz.prog 139 = true := by kernel_rfl
theorem cb146 : callB Tryz.prog 146 = true := by kernel_rfl
theorem cb170 : callB Tryz.prog 170 = true := by kernel_rfl
theorem cb176 : callB Tryz.prog 176 = true := by kernel_rfl
theorem vZ : xJ Tryz.prog 42 0 = some 0 := by kernel_rfl
theorem uY : xJ Tryz.prog 42 1 = some 2 := by kernel_rfl
theorem ft42_0 : iP Tryz.prog 42 0 = some (0, 40) := by kernel_rfl
theorem pl42 : mV Tryz.prog 42 = some [(0, 2), (2, 2)] := by kernel_rfl
theorem jS : uF Tryz.prog 42 = some (true, 4) := by kernel_rfl
theorem qM : xH Tryz.prog 42 = some [.bool false, .slice none 0 0, .bool false, .slice none 0 0] := by kernel_rfl
theorem qR : mP [.bool false, .slice none 0 0, .bool false, .slice none 0 0] [.val (.bool false), .sl 152 1 [], .val (.bool false), .sl 152 1 []] := by simp [mP, Value.oneCell']
theorem f_reduced (num den : jF) (a b : Int) (eW : kZ num a 68719476736) (cN : kZ den b 68719476736) (hb : b ≠ 0) : kF Tryz.prog 139 [(jH num), (jH den)] (jO (jC (Rat.divInt a b))) := by
 refine jL Tryz.func139 rfl cb139 rfl ?_
 show uK _ _ _ _ ⟨[(0, (.d (jH num))), (1, (.d (jH den)))], []⟩
 refine jA <| kx [(2, (.ref 0 0)), (3, (.ref 1 0)), (4, (.ref 2 0))] [(0, some (bx (jH num))), (1, some (bx (jH den))), (2, some (bx (jO (kG.mk (jF.mk false []) (jF.mk false [])))))] (zN (uX 0) <| zN (uX 1) <| zN (qH 2 qM qR) <| zZ) ?_
 refine jA <| jA <| kx [(8, (vb (decide ((qX b) < 0))))] [] (zR (kA jI) <| zE (kC (s_sign cN (by decide))) <| zE qS <| zZ) ?_
 refine jQ (b := decide ((qX b) < 0)) rfl (fun h1 => ?_) (fun h1 => ?_)
 ·replace h1 := of_decide_eq_true h1
  have hlt := signI_lt.1 h1
  have hb2 : -b ≠ 0 := by omega
  refine kd [] [(0, some (bx (jH (jK (-a))))), (1, some (bx (jH (jK (-b)))))] mo (wR (kA jI) <| wE (kC (s_neg eW (by decide))) <| wR (kA jI) <| wE (kC (s_neg cN (by decide))) <| wT (kR jI) <| wT (kR jI) <| wZ) ?_
  refine jA <| kx [(5, (.ref 3 0))] [(3, some (bx (jH (jK ((Int.gcd (-a) (-b) : Nat) : Int)))))] (zR (kA jI) <| zR (kA jI) <| zE (kC (s_gcd (mK eW) (mK cN) (by decide) (by decide))) <| zN (qH 3 uD uE) <| zT (kR jI) <| zZ) ?_
  refine jA <| kx [] [(0, some (bx (jH (jK ((-a).fdiv (((Int.gcd (-a) (-b) : Nat) : Int)))))))] (zR (kA jI) <| zR (kA jI) <| zE (kC (xQ (mK eW) (hM (k := 68719476736) (mK eW) (mK cN) (by decide)) (by decide) (by decide) (gcd_ne (by omega)))) <| zM <| zE uH <| zE uH <| zE uH <| zT (kR jI) <| zZ) ?_
  refine jA <| kx [] [(1, some (bx (jH (jK ((-b).fdiv (((Int.gcd (-a) (-b) : Nat) : Int)))))))] (zR (kA jI) <| zR (kA jI) <| zE (kC (xQ (mK cN) (hM (k := 68719476736) (mK eW) (mK cN) (by decide)) (by decide) (by decide) (gcd_ne (by omega)))) <| zM <| zE uH <| zE uH <| zE uH <| zT (kR jI) <| zZ) ?_
  refine jA <| kx [] [(2, some (bx (jO (kG.mk (jK ((-a).fdiv (((Int.gcd (-a) (-b) : Nat) : Int)))) (jK ((-b).fdiv (((Int.gcd (-a) (-b) : Nat) : Int))))))))] (zR (kA jI) <| zR (kA jI) <| zE (oBd pl42 qM qR) <| zT (kR jS) <| zZ) ?_
  refine jG ⟨_, (qB (cs := (bx (jO (kG.mk (jK ((-a).fdiv (((Int.gcd (-a) (-b) : Nat) : Int)))) (jK ((-b).fdiv (((Int.gcd (-a) (-b) : Nat) : Int)))))))) (d := (jO (kG.mk (jK ((-a).fdiv (((Int.gcd (-a) (-b) : Nat) : Int)))) (jK ((-b).fdiv (((Int.gcd (-a) (-b) : Nat) : Int))))))) rfl rfl jS rfl rfl .nil), ?_⟩
  rw [red_neg hlt]; rfl
 ·replace h1 := of_decide_eq_false h1
  have hge : ¬ b < 0 := fun hh => h1 (signI_lt.2 hh)
  refine jD <| jA <| kx [(5, (.ref 4 0))] [(4, some (bx (jH (jK ((Int.gcd a b : Nat) : Int)))))] (zR (kA jI) <| zR (kA jI) <| zE (kC (s_gcd eW cN (by decide) (by decide))) <| zN (qH 4 uD uE) <| zT (kR jI) <| zZ) ?_
  refine jA <| kx [] [(0, some (bx (jH (jK (a.fdiv (((Int.gcd a b : Nat) : Int)))))))] (zR (kA jI) <| zR (kA jI) <| zE (kC (xQ eW (hM (k := 68719476736) eW cN (by decide)) (by decide) (by decide) (gcd_ne (by omega)))) <| zM <| zE uH <| zE uH <| zE uH <| zT (kR jI) <| zZ) ?_
  refine jA <| kx [] [(1, some (bx (jH (jK (b.fdiv (((Int.gcd a b : Nat) : Int)))))))] (zR (kA jI) <| zR (kA jI) <| zE (kC (xQ cN (hM (k := 68719476736) eW cN (by decide)) (by decide) (by decide) (gcd_ne (by omega)))) <| zM <| zE uH <| zE uH <| zE uH <| zT (kR jI) <| zZ) ?_
  refine jA <| kx [] [(2, some (bx (jO (kG.mk (jK (a.fdiv (((Int.gcd a b : Nat) : Int)))) (jK (b.fdiv (((Int.gcd a b : Nat) : Int))))))))] (zR (kA jI) <| zR (kA jI) <| zE (oBd pl42 qM qR) <| zT (kR jS) <| zZ) ?_
  refine jG ⟨_, (qB (cs := (bx (jO (kG.mk (jK (a.fdiv (((Int.gcd a b : Nat) : Int)))) (jK (b.fdiv (((Int.gcd a b : Nat) : Int)))))))) (d := (jO (kG.mk (jK (a.fdiv (((Int.gcd a b : Nat) : Int)))) (jK (b.fdiv (((Int.gcd a b : Nat) : Int))))))) rfl rfl jS rfl rfl .nil), ?_⟩
  rw [red_pos hge hb]; rfl
theorem eD (n : Int) (hlo : -9223372036854775808 ≤ n) (hhi : n ≤ 9223372036854775807) : kF Tryz.prog 102 [(.val (.int .i64 (n)))] (jO (jC ((n : Int) : Rat))) := by
 refine jL Tryz.func102 rfl cb102 rfl ?_
 show uK _ _ _ _ ⟨[(0, (vi n))], []⟩
 refine jA <| kx [(2, (.ref 0 0))] [(0, some (bx (jO (kG.mk (jF.mk false []) (jF.mk false [])))))] (zN (qH 0 qM qR) <| zZ) ?_
 refine jA <| kx [] [(0, some (bx (jO (kG.mk (jK n) (jK 1)))))] (zM <| zE (kC (t_of n (by omega) (by omega))) <| zE (kC (t_of 1 (by decide) (by decide))) <| zE (oBd pl42 qM qR) <| zT (kR jS) <| zZ) ?_
 refine jG ⟨_, (qB (cs := (bx (jO (kG.mk (jK n) (jK 1))))) (d := (jO (kG.mk (jK n) (jK 1)))) rfl rfl jS rfl rfl .nil), ?_⟩
 rfl
theorem dZ (x : kG) (p : Rat) (hx : eT x p 17179869184) : kF Tryz.prog 104 [(jO x)] (.val (.bool ((uV x)))) := by
 refine jL Tryz.func104 rfl cb104 rfl ?_
 show uK _ _ _ _ ⟨[(0, (.d (jO x)))], []⟩
 refine jA <| kx [(1, (.ref 0 0))] [(0, some (bx (jO x)))] (zN (uX 0) <| zM <| zZ) ?_
 refine jA <| jA <| kx [(18, (vb ((!(uG x.num) || !(uG x.den)) || decide ((qX (kK x.den)) ≤ 0))))] [] ?_ ?_
 ·refine zE (kU vZ) <| zR (kA jI) <| zE (kC (t_valid x.num (Nat.le_trans (gL hx.n1).l (by decide)))) <| zE eX <| zE (oV (vb (!(uG x.num))) (xD (by kernel_rfl))) <| ?_
  rcases hb1 : (!(uG x.num)) with _ | _
  ·refine zE (kU uY) <| zR (kA jI) <| zE (kC (t_valid x.den (Nat.le_trans (gL hx.n2).l (by decide)))) <| zE eX <| zE oPo <| zE (oV (vb (false || !(uG x.den))) (xD (by kernel_rfl))) <| ?_
   rcases hb2 : (false || !(uG x.den)) with _ | _
   ·exact zE (kU uY) <| zR (kA jI) <| zE (kC (s_sign (gL hx.n2) (by decide))) <| zE oLe <| zE oPo <| zZ
   ·exact zK <| zK <| zK <| zK <| zE bG <| zZ
  ·exact zK <| zK <| zK <| zK <| zE bG <| zM <| zK <| zK <| zK <| zK <| zE bG <| zZ
 refine jQ rfl (fun h3 => ?_) (fun h3 => ?_)
 ·refine jA <| kx [(2, (vb false))] [] (zM <| zZ) ?_
  refine jG ⟨_, (.tmp (d := (.val (.bool (false)))) rfl .nil), ?_⟩
  rw [validR_no h3]; rfl
 ·refine jD <| jA <| kx [(2, (vb ((xC (((Int.gcd (kK x.num) (kK x.den) : Nat) : Int)) 1) == 0)))] [] (zE (kU vZ) <| zR (kA jI) <| zE (kU uY) <| zR (kA jI) <| zE (kC (s_gcd (gL hx.n1) (gL hx.n2) (by decide) (by decide))) <| zE (kC (t_of 1 (by decide) (by decide))) <| zE (kC (s_compare (hM (k := 17179869184) (gL hx.n1) (gL hx.n2) (by decide)) (yI (z := 1) (by decide)) (by decide) (by decide))) <| zE aO <| zM <| zZ) ?_
  refine jG ⟨_, (.tmp (d := (.val (.bool (((xC (((Int.gcd (kK x.num) (kK x.den) : Nat) : Int)) 1) == 0))))) rfl .nil), ?_⟩
  rw [validR_yes h3]; rfl
theorem f_copied (x : kG) (p : Rat) (hx : eT x p 17179869184) : kF Tryz.prog 176 [(jO x)] (jO (kG.mk (jK (-(-kK x.num))) (jK (-(-kK x.den))))) := by
 refine jL Tryz.func176 rfl cb176 rfl ?_
 show uK _ _ _ _ ⟨[(0, (.d (jO x)))], []⟩
 refine jA <| kx [(1, (.ref 0 0)), (2, (.ref 1 0))] [(0, some (bx (jO x))), (1, some (bx (jO (kG.mk (jF.mk false []) (jF.mk false [])))))] (zN (uX 0) <| zN (qH 1 qM qR) <| zZ) ?_
 refine jA <| kd [] [(1, some (bx (jO (kG.mk (jK (-(-(kK x.num)))) (jK (-(-(kK x.den))))))))] mo (wE (kU vZ) <| wR (kA jI) <| wE (kC (s_neg (gL hx.n1) (by decide))) <| wE (kC (s_neg (mK (gL hx.n1)) (by decide))) <| wE (kU uY) <| wR (kA jI) <| wE (kC (s_neg (gL hx.n2) (by decide))) <| wE (kC (s_neg (mK (gL hx.n2)) (by decide))) <| wE (oBd pl42 qM qR) <| wT (kR jS) <| wZ) ?_
 refine jG ⟨_, (qB (cs := (bx (jO (kG.mk (jK (-(-(kK x.num)))) (jK (-(-(kK x.den)))))))) (d := (jO (kG.mk (jK (-(-(kK x.num)))) (jK (-(-(kK x.den))))))) rfl rfl jS rfl rfl .nil), ?_⟩
 rfl
theorem aS (x : kG) (p : Rat) (hx : eT x p 17179869184) : kF Tryz.prog 137 [(jO x)] (jO (jC p)) := by
 refine jL Tryz.func137 rfl cb137 rfl ?_
 show uK _ _ _ _ ⟨[(0, (.d (jO x)))], []⟩
 refine jA <| kx [(1, (.ref 0 0)), (2, (.ref 1 0))] [(0, some (bx (jO x))), (1, some (bx (jO (kG.mk (jF.mk false []) (jF.mk false [])))))] (zN (uX 0) <| zN (qH 1 qM qR) <| zZ) ?_
 refine jA <| jA <| kx [(4, (vb (uV x)))] [] (zR (kA jS) <| zE (kC (dZ x p hx)) <| zZ) ?_
 refine jQ (b := (uV x)) rfl (fun h1 => ?_) (fun h1 => ?_)
 ·refine jA <| kx [] [(1, some (bx (jO (kG.mk (jK (-(-kK x.num))) (jK (-(-kK x.den)))))))] (zR (kA jS) <| zE (kC (f_copied x p hx)) <| zT (kR jS) <| zZ) ?_
  refine jG ⟨_, (qB (cs := (bx (jO (kG.mk (jK (-(-kK x.num))) (jK (-(-kK x.den))))))) (d := (jO (kG.mk (jK (-(-kK x.num))) (jK (-(-kK x.den)))))) rfl rfl jS rfl rfl .nil), ?_⟩
  rw [← hx.v, ← copied_eq h1]; rfl
 ·refine jD <| jA <| kx [] [(1, some (bx (jO (jC ((0 : Int) : Rat)))))] (zE (kC (eD 0 (by decide) (by decide))) <| zT (kR jS) <| zZ) ?_
  refine jG ⟨_, (qB (cs := (bx (jO (jC ((0 : Int) : Rat))))) (d := (jO (jC ((0 : Int) : Rat)))) rfl rfl jS rfl rfl .nil), ?_⟩
  rw [← hx.v, toQ_bad h1]; rfl
theorem f_sign (x : kG) (p : Rat) (hx : eT x p 17179869184) : kF Tryz.prog 105 [(jO x)] (.val (.int .i64 ((yT p)))) := by
 refine jL Tryz.func105 rfl cb105 rfl ?_
 show uK _ _ _ _ ⟨[(0, (.d (jO x)))], []⟩
 refine jA <| kx [(1, (.ref 0 0))] [(0, some (bx (jO x)))] (zN (uX 0) <| zM <| zZ) ?_
 refine jA <| kx [(2, (vi (qX p.num)))] [] (zR (kA jS) <| zE (kC (aS x p hx)) <| zE (oFv ft42_0 jI) <| zE (kC (s_sign (kN hx.ql) (by decide))) <| zM <| zZ) ?_
 refine jG ⟨_, (.tmp (d := (.val (.int .i64 ((qX p.num))))) rfl .nil), ?_⟩
 rfl
theorem f_neg (x : kG) (p : Rat) (hx : eT x p 17179869184) : kF Tryz.prog 170 [(jO x)] (jO (jC (-p))) := by
 refine jL Tryz.func170 rfl cb170 rfl ?_
 show uK _ _ _ _ ⟨[(0, (.d (jO x)))], []⟩
 refine jA <| kx [(1, (.ref 0 0)), (2, (.ref 1 0))] [(0, some (bx (jO x))), (1, some (bx (jO (kG.mk (jF.mk false []) (jF.mk false [])))))] (zN (uX 0) <| zN (qH 1 qM qR) <| zZ) ?_
 refine jA <| kx [] [(0, some (bx (jO (jC p))))] (zR (kA jS) <| zE (kC (aS x p hx)) <| zT (kR jS) <| zZ) ?_
 refine jA <| kd [] [(1, some (bx (jO (kG.mk (jK (-p.num)) ((jC p).den)))))] mo (wE (kU vZ) <| wR (kA jI) <| wE (kC (s_neg (kN hx.ql) (by decide))) <| wE (kU uY) <| wR (kA jI) <| wE (oBd pl42 qM qR) <| wT (kR jS) <| wZ) ?_
 refine jG ⟨_, (qB (cs := (bx (jO (kG.mk (jK (-p.num)) ((jC p).den))))) (d := (jO (kG.mk (jK (-p.num)) ((jC p).den)))) rfl rfl jS rfl rfl .nil), ?_⟩
 rfl
theorem f_add (x : kG) (y : kG) (p : Rat) (q : Rat) (hx : eT x p 17179869184) (hy : eT y q 17179869184) : kF Tryz.prog 146 [(jO x), (jO y)] (jO (jC (p + q))) := by
 refine jL Tryz.func146 rfl cb146 rfl ?_
 show uK _ _ _ _ ⟨[(0, (.d (jO x))), (1, (.d (jO y)))], []⟩
 refine jA <| kx [(2, (.ref 0 0)), (3, (.ref 1 0)), (4, (.ref 2 0))] [(0, some (bx (jO x))), (1, some (bx (jO y))), (2, some (bx (jO (kG.mk (jF.mk false []) (jF.mk false [])))))] (zN (uX 0) <| zN (uX 1) <| zN (qH 2 qM qR) <| zZ) ?_
 refine jA <| kd [] [(0, some (bx (jO (jC p)))), (1, some (bx (jO (jC q))))] mo (wR (kA jS) <| wE (kC (aS x p hx)) <| wR (kA jS) <| wE (kC (aS y q hy)) <| wT (kR jS) <| wT (kR jS) <| wZ) ?_
 refine jA <| kd [] [(2, some (bx (jO (jC (Rat.divInt ((p.num * (q.den : Int)) + (q.num * (p.den : Int))) ((p.den : Int) * (q.den : Int)))))))] mo (wE (kU vZ) <| wR (kA jI) <| wE (kU uY) <| wR (kA jI) <| wE (kC (yS (kN hx.ql) (jW hy.ql) (by decide) (by decide))) <| wE (kU vZ) <| wR (kA jI) <| wE (kU uY) <| wR (kA jI) <| wE (kC (yS (kN hy.ql) (jW hx.ql) (by decide) (by decide))) <| wE (kC (s_add (jP (k := 34359738368) (kN hx.ql) (jW hy.ql) (by decide)) (jP (k := 34359738368) (kN hy.ql) (jW hx.ql) (by decide)) (by decide) (by decide))) <| wE (kU uY) <| wR (kA jI) <| wE (kU uY) <| wR (kA jI) <| wE (kC (yS (jW hx.ql) (jW hy.ql) (by decide) (by decide))) <| wE (kC (f_reduced (jK ((p.num * (q.den : Int)) + (q.num * (p.den : Int)))) (jK ((p.den : Int) * (q.den : Int))) ((p.num * (q.den : Int)) + (q.num * (p.den : Int))) ((p.den : Int) * (q.den : Int)) (qJ (xO (k := 34359738369) (jP (k := 34359738368) (kN hx.ql) (jW hy.ql) (by decide)) (jP (k := 34359738368) (kN hy.ql) (jW hx.ql) (by decide)) (by decide)) (by decide)) (qJ (jP (k := 34359738368) (jW hx.ql) (jW hy.ql) (by decide)) (by decide)) (mul_ne (gY _) (gY _)))) <| wT (kR jS) <| wZ) ?_
 refine jG ⟨_, (qB (cs := (bx (jO (jC (Rat.divInt ((p.num * (q.den : Int)) + (q.num * (p.den : Int))) ((p.den : Int) * (q.den : Int))))))) (d := (jO (jC (Rat.divInt ((p.num * (q.den : Int)) + (q.num * (p.den : Int))) ((p.den : Int) * (q.den : Int)))))) rfl rfl jS rfl rfl .nil), ?_⟩
 rw [add_divInt]; rfl
theorem f_sub (x : kG) (y : kG) (p : Rat) (q : Rat) (hx : eT x p 17179869184) (hy : eT y q 17179869184) : kF Tryz.prog 130 [(jO x), (jO y)] (jO (jC (p - q))) := by
 refine jL Tryz.func130 rfl cb130 rfl ?_
 show uK _ _ _ _ ⟨[(0, (.d (jO x))), (1, (.d (jO y)))], []⟩
 refine jA <| kx [(2, (.ref 0 0)), (3, (.ref 1 0)), (4, (.ref 2 0))] [(0, some (bx (jO x))), (1, some (bx (jO y))), (2, some (bx (jO (kG.mk (jF.mk false []) (jF.mk false [])))))] (zN (uX 0) <| zN (uX 1) <| zN (qH 2 qM qR) <| zZ) ?_
 refine jA <| kd [] [(2, some (bx (jO (jC (p + (-q))))))] mo (wR (kA jS) <| wR (kA jS) <| wE (kC (f_neg y q hy)) <| wE (kC (f_add x (jC (-q)) p (-q) hx (kL (ql_neg hy.ql)))) <| wT (kR jS) <| wZ) ?_
 refine jG ⟨_, (qB (cs := (bx (jO (jC (p + (-q)))))) (d := (jO (jC (p + (-q))))) rfl rfl jS rfl rfl .nil), ?_⟩
 rw [Rat.sub_eq_add_neg]; rfl
theorem f_mul (x : kG) (y : kG) (p : Rat) (q : Rat) (hx : eT x p 17179869184) (hy : eT y q 17179869184) : kF Tryz.prog 121 [(jO x), (jO y)] (jO (jC (p * q))) := by
 refine jL Tryz.func121 rfl cb121 rfl ?_
 show uK _ _ _ _ ⟨[(0, (.d (jO x))), (1, (.d (jO y)))], []⟩
 refine jA <| kx [(2, (.ref 0 0)), (3, (.ref 1 0)), (4, (.ref 2 0))] [(0, some (bx (jO x))), (1, some (bx (jO y))), (2, some (bx (jO (kG.mk (jF.mk false []) (jF.mk false [])))))] (zN (uX 0) <| zN (uX 1) <| zN (qH 2 qM qR) <| zZ) ?_
 refine jA <| kd [] [(0, some (bx (jO (jC p)))), (1, some (bx (jO (jC q))))] mo (wR (kA jS) <| wE (kC (aS x p hx)) <| wR (kA jS) <| wE (kC (aS y q hy)) <| wT (kR jS) <| wT (kR jS) <| wZ) ?_
 refine jA <| kd [] [(2, some (bx (jO (jC (Rat.divInt (p.num * q.num) ((p.den : Int) * (q.den : Int)))))))] mo (wE (kU vZ) <| wR (kA jI) <| wE (kU vZ) <| wR (kA jI) <| wE (kC (yS (kN hx.ql) (kN hy.ql) (by decide) (by decide))) <| wE (kU uY) <| wR (kA jI) <| wE (kU uY) <| wR (kA jI) <| wE (kC (yS (jW hx.ql) (jW hy.ql) (by decide) (by decide))) <| wE (kC (f_reduced (jK (p.num * q.num)) (jK ((p.den : Int) * (q.den : Int))) (p.num * q.num) ((p.den : Int) * (q.den : Int)) (qJ (jP (k := 34359738368) (kN hx.ql) (kN hy.ql) (by decide)) (by decide)) (qJ (jP (k := 34359738368) (jW hx.ql) (jW hy.ql) (by decide)) (by decide)) (mul_ne (gY _) (gY _)))) <| wT (kR jS) <| wZ) ?_
 refine jG ⟨_, (qB (cs := (bx (jO (jC (Rat.divInt (p.num * q.num) ((p.den : Int) * (q.den : Int))))))) (d := (jO (jC (Rat.divInt (p.num * q.num) ((p.den : Int) * (q.den : Int)))))) rfl rfl jS rfl rfl .nil), ?_⟩
 rw [mul_divInt]; rfl
theorem f_divide (x : kG) (y : kG) (p : Rat) (q : Rat) (hx : eT x p 17179869184) (hy : eT y q 17179869184) : kF Tryz.prog 97 [(jO x), (jO y)] (.tup [(jO (divR p q)), (.val (.int .i64 ((divC q))))]) := by
 refine jL Tryz.func97 rfl cb97 rfl ?_
 show uK _ _ _ _ ⟨[(0, (.d (jO x))), (1, (.d (jO y)))], []⟩
 refine jA <| kx [(2, (.ref 0 0)), (3, (.ref 1 0)), (4, (.ref 2 0))] [(0, some (bx (jO x))), (1, some (bx (jO y))), (2, some (bx (jO (kG.mk (jF.mk false []) (jF.mk false [])))))] (zN (uX 0) <| zN (uX 1) <| zN (qH 2 qM qR) <| zM <| zZ) ?_
 refine jA <| kd [] [(0, some (bx (jO (jC p)))), (1, some (bx (jO (jC q))))] mo (wR (kA jS) <| wE (kC (aS x p hx)) <| wR (kA jS) <| wE (kC (aS y q hy)) <| wT (kR jS) <| wT (kR jS) <| wZ) ?_
 refine jA <| jA <| kx [(13, (vb ((qX q.num) == 0)))] [] (zE (kU vZ) <| zR (kA jI) <| zE (kC (s_sign (kN hy.ql) (by decide))) <| zE aO <| zZ) ?_
 refine jQ (b := ((qX q.num) == 0)) rfl (fun h1 => ?_) (fun h1 => ?_)
 ·replace h1 := eq_of_beq h1
  have hq0 := cB.1 h1
  refine jA <| kx [(5, (kE 14))] [(2, some (bx (jO (kG.mk (jF.mk false []) (jF.mk false [])))))] (zE (oBd pl42 qM qR) <| zT (kR jS) <| zM <| zZ) ?_
  refine jG ⟨_, (qB (cs := (bx (jO (kG.mk (jF.mk false []) (jF.mk false []))))) (d := (jO (kG.mk (jF.mk false []) (jF.mk false [])))) rfl rfl jS rfl rfl (.tmp (d := (.val (.int .i64 (14)))) rfl .nil)), ?_⟩
  rw [divR_zero hq0, divC_zero hq0]; rfl
 ·replace h1 := ne_of_beq_false h1
  have hq0 : q ≠ 0 := fun hh => h1 (cB.2 hh)
  refine jD <| jA <| kd [(5, (kE 0))] [(2, some (bx (jO (jC (Rat.divInt (p.num * (q.den : Int)) ((p.den : Int) * q.num))))))] mo (wE (kU vZ) <| wR (kA jI) <| wE (kU uY) <| wR (kA jI) <| wE (kC (yS (kN hx.ql) (jW hy.ql) (by decide) (by decide))) <| wE (kU uY) <| wR (kA jI) <| wE (kU vZ) <| wR (kA jI) <| wE (kC (yS (jW hx.ql) (kN hy.ql) (by decide) (by decide))) <| wE (kC (f_reduced (jK (p.num * (q.den : Int))) (jK ((p.den : Int) * q.num)) (p.num * (q.den : Int)) ((p.den : Int) * q.num) (qJ (jP (k := 34359738368) (kN hx.ql) (jW hy.ql) (by decide)) (by decide)) (qJ (jP (k := 34359738368) (jW hx.ql) (kN hy.ql) (by decide)) (by decide)) (mul_ne (gY _) (num_ne hq0)))) <| wT (kR jS) <| wM <| wZ) ?_
  refine jG ⟨_, (qB (cs := (bx (jO (jC (Rat.divInt (p.num * (q.den : Int)) ((p.den : Int) * q.num)))))) (d := (jO (jC (Rat.divInt (p.num * (q.den : Int)) ((p.den : Int) * q.num))))) rfl rfl jS rfl rfl (.tmp (d := (.val (.int .i64 (0)))) rfl .nil)), ?_⟩
  rw [divR_ne hq0, divC_ne hq0, div_divInt]; rfl
end Go.Proofs.YtbecgnplakngdaaGreat
