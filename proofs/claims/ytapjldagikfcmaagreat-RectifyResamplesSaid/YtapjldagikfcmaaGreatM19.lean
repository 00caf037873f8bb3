/- Part 19 of a proof: rules, plain facts, and functions walked. -/
import Derived.Test.YtapjldagikfcmaaGreatM18
namespace Go.Proofs.YtapjldagikfcmaaGreat
open Go.Fid
set_option maxRecDepth 4000
set_option linter.unusedVariables false
set_option linter.unusedSimpArgs false
theorem cb129 : callB Tryz.prog 129 = true := by kernel_rfl
theorem cb130 : callB Tryz.prog 130 = true := by kernel_rfl
theorem cb238 : callB Tryz.prog 238 = true := by kernel_rfl
theorem r_gcd (x : jI) (y : jI) (hx : x.gs.length ≤ 1099511627776) (hy : y.gs.length ≤ 1099511627776) : kH Tryz.prog 130 [(jV x), (jV y)] (jV (kN ((Int.gcd (kI x) (kI y) : Nat) : Int))) := by
 have hvx := eD x
 have hvy := eD y
 refine jM Tryz.func130 rfl cb130 rfl ?_
 show uY _ _ _ _ ⟨[(0, (.d (jV x))), (1, (.d (jV y)))], []⟩
 refine jA <| kx [(2, (.ref 0 0)), (3, (.ref 1 0)), (4, (.ref 2 0))] [(0, some (bx (jV x))), (1, some (bx (jV y))), (2, some (bx (jV (jI.mk false []))))] (zN (vD 0) <| zN (vD 1) <| zN (uK 2 hH hM) <| zZ) ?_
 refine jA <| kd [(5, (vl 181 1 jC (ofNat (Int.natAbs (kI x))))), (6, (vl 181 1 jC (ofNat (Int.natAbs (kI y)))))] [] mo (wR (kC kK) <| wE (kB (eC x (by omega))) <| wE (oF1 aU gF) <| wR (kC kK) <| wE (kB (eC y (by omega))) <| wE (oF1 aU gF) <| wM <| wM <| wZ) ?_
 refine jA <| jE <| uN (α := List Nat × List Nat) (fun (a, b) => ⟨[(4, (.ref 2 0)), (5, (vl 181 1 jC a)), (6, (vl 181 1 jC b))], [(2, some (bx (jV (jI.mk false []))))]⟩) (fun (a, b) => hC a ∧ hC b ∧ a.length ≤ 1099511627776 ∧ b.length ≤ 1099511627776 ∧ Nat.gcd (val a) (val b) = Int.gcd (kI x) (kI y)) (fun (a, b) => val b) ((ofNat (Int.natAbs (kI x))), (ofNat (Int.natAbs (kI y)))) wk ⟨uD _, uD _, by omega, by omega, by rw [kS, kS]; rfl⟩ ?_
 rintro ⟨a, b⟩ ⟨ha, hb, hla, hlb, hg⟩
 refine jA <| jA <| kx [(29, (vb (decide (0 < ((b.length : Nat) : Int)) && (decide (2 < ((a.length : Nat) : Int)) || decide (2 < ((b.length : Nat) : Int))))))] [] ?_ ?_
 ·refine zM <| zE (nE kY) <| zE yZ <| zE (oV (vb (decide (0 < ((b.length : Nat) : Int)))) (uS (by kernel_rfl))) <| ?_
  rcases hb1 : (decide (0 < ((b.length : Nat) : Int))) with _ | _
  ·replace hb1 := of_decide_eq_false hb1
   exact zK <| zK <| zK <| zK <| zK <| zK <| zK <| zK <| zE zU <| zZ
  ·replace hb1 := of_decide_eq_true hb1
   refine zM <| zE (nE kY) <| zE yZ <| zE (oV (vb (decide (2 < ((a.length : Nat) : Int)))) (uS (by kernel_rfl))) <| ?_
   rcases hb2 : (decide (2 < ((a.length : Nat) : Int))) with _ | _
   ·replace hb2 := of_decide_eq_false hb2
    exact zM <| zE (nE kY) <| zE yZ <| zE eT <| zE oPa <| zZ
   ·replace hb2 := of_decide_eq_true hb2
    exact zK <| zK <| zK <| zE yH <| zE yH <| zZ
 refine jO rfl (fun h3 => ?_) (fun h3 => ?_)
 ·have hbl : 0 < b.length := by rw [Bool.and_eq_true, decide_eq_true_eq] at h3; omega
  have hb0 := cO hb hbl
  refine jB <| jE <| jA <| kx [(8, (vl 181 1 jC (ofNat (val a % val b))))] [] (zM <| zM <| zE (kB (r_parts a b ha hb (by omega) (by omega) (by omega))) <| zM <| zE vA <| zE vA <| zM <| zM <| zZ) ?_
  refine kx [(5, (vl 181 1 jC b)), (6, (vl 181 1 jC (ofNat (val a % val b))))] [] (zM <| zM <| zM <| zM <| zZ) ?_
  exact ⟨(b, ofNat (val a % val b)), wk, ⟨hb, uD _, hlb, Nat.le_trans (len_rem a ha _) hla, by rw [kS, ← hg, Nat.gcd_comm, ← Nat.gcd_rec, Nat.gcd_comm]⟩, (by dsimp only; rw [kS]; exact Nat.mod_lt _ hb0)⟩
 ·have hex := h3
  refine kJ <| jA <| jA <| kx [(40, (vb (((b.length : Nat) : Int) == 0)))] [] (zM <| zE (nE kY) <| zE xK <| zZ) ?_
  refine jO (b := (((b.length : Nat) : Int) == 0)) rfl (fun h4 => ?_) (fun h4 => ?_)
  ·replace h4 := eq_of_beq h4
   have hb1 : b = [] := List.eq_nil_of_length_eq_zero (by omega)
   rw [hb1, val_nil, Nat.gcd_zero_right] at hg
   refine jA <| kx [] [(2, some (bx (jV (yD false (val a)))))] (zM <| zE (kB (nZ false a ha.1 (by omega))) <| zT (qG kK) <| zZ) ?_
   refine jF ⟨_, (qS (cs := (bx (jV (yD false (val a))))) (d := (jV (yD false (val a)))) rfl rfl kK rfl rfl .nil), ?_⟩
   rw [← hg, mkI_false]; rfl
  ·replace h4 := ne_of_beq_false h4
   have hl2 : a.length ≤ 2 ∧ b.length ≤ 2 := by simp only [Bool.and_eq_false_iff, Bool.or_eq_false_iff, decide_eq_false_iff_not] at hex; omega
   refine jB <| jA <| kx [(9, (gW (val a))), (10, (gW (val b)))] [] (zM <| zE (kB (r_pair a ha.1 (by omega))) <| zM <| zE (kB (r_pair b hb.1 (by omega))) <| zM <| zM <| zZ) ?_
   refine jA <| jE <| uN (α := Nat × Nat) (fun (m, n) => ⟨[(4, (.ref 2 0)), (9, (gW m)), (10, (gW n))], [(2, some (bx (jV (jI.mk false []))))]⟩) (fun (m, n) => m < 1000000000000000000 ∧ n < 1000000000000000000 ∧ Nat.gcd m n = Int.gcd (kI x) (kI y)) (fun (m, n) => n) (val a, val b) wk ⟨val_len2 ha.1 hl2.1, val_len2 hb.1 hl2.2, hg⟩ ?_
   rintro ⟨m, n⟩ ⟨hm, hn, hg2⟩
   refine jA <| jA <| kx [(48, (vb (decide (0 < ((n : Nat) : Int)))))] [] (zM <| zE yZ <| zZ) ?_
   refine jO (b := decide (0 < ((n : Nat) : Int))) rfl (fun h5 => ?_) (fun h5 => ?_)
   ·replace h5 := of_decide_eq_true h5
    refine jB <| jE <| kd [(9, (gW n)), (10, (gW (m % n)))] [] mo (wM <| wM <| wM <| wE (oRe (m % n)) <| wM <| wM <| wZ) ?_
    exact ⟨(n, m % n), wk, ⟨hn, Nat.lt_of_le_of_lt (Nat.mod_le _ _) hm, by rw [← hg2, Nat.gcd_comm, ← Nat.gcd_rec, Nat.gcd_comm]⟩, (by dsimp only; exact Nat.mod_lt _ (by omega))⟩
   ·replace h5 := of_decide_eq_false h5
    obtain rfl : n = 0 := by omega
    rw [Nat.gcd_zero_right] at hg2
    have hmv : val [m % 1000000000, m / 1000000000] = m := by simp only [val]; omega
    refine kJ <| jA <| kx [] [(2, some (bx (jV (yD false (val [(m % 1000000000), (m / 1000000000)])))))] (zM <| zE (oRe (m % 1000000000)) <| zE (mV nA nB (m % 1000000000)) <| zM <| zE (oQu (m / 1000000000)) <| zE (mV nA nB (m / 1000000000)) <| zE (mC kY xZ gL) <| zE (kB (nZ false [(m % 1000000000), (m / 1000000000)] (gP.2 ⟨Nat.mod_lt _ (by decide), gP.2 ⟨by omega, nG⟩⟩) (by simp))) <| zT (qG kK) <| zZ) ?_
    refine jF ⟨_, (qS (cs := (bx (jV (yD false (val [(m % 1000000000), (m / 1000000000)]))))) (d := (jV (yD false (val [(m % 1000000000), (m / 1000000000)])))) rfl rfl kK rfl rfl .nil), ?_⟩
    rw [← hg2, hmv, mkI_false]; rfl
theorem r_compare (x : jI) (y : jI) (hx : x.gs.length ≤ 274877906944) (hy : y.gs.length ≤ 274877906944) : kH Tryz.prog 129 [(jV x), (jV y)] (.val (.int .i64 ((xR (kI x) (kI y))))) := by
 have hv := gs_sub x y
 refine jM Tryz.func129 rfl cb129 rfl ?_
 show uY _ _ _ _ ⟨[(0, (.d (jV x))), (1, (.d (jV y)))], []⟩
 refine jA <| kx [(2, (.ref 0 0)), (3, (.ref 1 0))] [(0, some (bx (jV x))), (1, some (bx (jV y)))] (zN (vD 0) <| zN (vD 1) <| zM <| zZ) ?_
 refine jA <| kx [(4, (vi (vC (kI (kN (kI x - kI y))))))] [] (zR (kC kK) <| zR (kC kK) <| zE (kB (r_sub x y (by omega) (by omega))) <| zE (kB (r_sign (kN (kI x - kI y)) (by omega))) <| zM <| zZ) ?_
 refine jF ⟨_, (.tmp (d := (.val (.int .i64 ((vC (kI (kN (kI x - kI y)))))))) rfl .nil), ?_⟩
 rw [cX, signI_sub]; rfl
theorem r_divide (x : jI) (y : jI) (hx : x.gs.length ≤ 274877906944) (hy : y.gs.length ≤ 274877906944) (hy0 : kI y ≠ 0) : kH Tryz.prog 238 [(jV x), (jV y)] (.tup [(jV (kN ((kI x).fdiv (kI y)))), (jV (kN ((kI x).fmod (kI y)))), (.val (.int .i64 (0)))]) := by
 have hvx := eD x
 have hvy := eD y
 have hmx := gs_val x
 have hmy := gs_val y
 have hy1 : 0 < (kI y).natAbs := by omega
 have hyl := cE hy1
 have hql : (ofNat (val (ofNat (Int.natAbs (kI x))) / val (ofNat (Int.natAbs (kI y))))).length ≤ 274877906944 := by have := len_quo (ofNat (Int.natAbs (kI x))) (uD _) (val (ofNat (Int.natAbs (kI y)))); omega
 have hqg : (yD (!((kN (kI x)).neg == (kN (kI y)).neg)) (val (ofNat (val (ofNat (Int.natAbs (kI x))) / val (ofNat (Int.natAbs (kI y))))))).gs.length ≤ 274877906944 := by show (ofNat (val (ofNat (val (ofNat (Int.natAbs (kI x))) / val (ofNat (Int.natAbs (kI y))))))).length ≤ _; rw [kS]; exact hql
 have aW : (kN 1).gs.length ≤ 1 := (mK (z := 1) (by decide)).l
 have hqs := gs_sub (yD (!((kN (kI x)).neg == (kN (kI y)).neg)) (val (ofNat (val (ofNat (Int.natAbs (kI x))) / val (ofNat (Int.natAbs (kI y))))))) (kN 1)
 refine jM Tryz.func238 rfl cb238 rfl ?_
 show uY _ _ _ _ ⟨[(0, (.d (jV x))), (1, (.d (jV y)))], []⟩
 refine jA <| kx [(2, (.ref 0 0)), (3, (.ref 1 0)), (4, (.ref 2 0)), (5, (.ref 3 0))] [(0, some (bx (jV x))), (1, some (bx (jV y))), (2, some (bx (jV (jI.mk false [])))), (3, some (bx (jV (jI.mk false []))))] (zN (vD 0) <| zN (vD 1) <| zN (uK 2 hH hM) <| zN (uK 3 hH hM) <| zM <| zZ) ?_
 refine jA <| kd [] [(0, some (bx (jV (kN (kI x))))), (1, some (bx (jV (kN (kI y)))))] mo (wR (kC kK) <| wE (kB (eC x (by omega))) <| wR (kC kK) <| wE (kB (eC y (by omega))) <| wT (qG kK) <| wT (qG kK) <| wZ) ?_
 refine jA <| jA <| kx [(17, (vb ((((ofNat (Int.natAbs (kI y))).length : Nat) : Int) == 0)))] [] (zE (kE yB) <| zR (qR gF) <| zE (nE kY (L := (ofNat (Int.natAbs (kI y))))) <| zE xK <| zZ) ?_
 refine jO rfl (fun h1 => ?_) (fun h1 => ?_)
 ·replace h1 := eq_of_beq h1
  exact absurd h1 (by omega)
 ·replace h1 := ne_of_beq_false h1
  refine jB <| jA <| kx [(7, (vl 181 1 jC (ofNat (val (ofNat (Int.natAbs (kI x))) / val (ofNat (Int.natAbs (kI y))))))), (8, (vl 181 1 jC (ofNat (val (ofNat (Int.natAbs (kI x))) % val (ofNat (Int.natAbs (kI y)))))))] [] (zE (kE yB) <| zR (qR gF) <| zE (kE yB) <| zR (qR gF) <| zE (kB (r_parts (ofNat (Int.natAbs (kI x))) (ofNat (Int.natAbs (kI y))) (by first | assumption | exact uD _ | exact uH _) (by first | assumption | exact uD _ | exact uH _) (by omega) (by omega) (by omega))) <| zM <| zE vA <| zE vA <| zM <| zM <| zZ) ?_
  refine jA <| kx [(9, (.ref 4 0))] [(4, some (bx (jV (yD (!(((kN (kI x)).neg) == ((kN (kI y)).neg))) (val (ofNat (val (ofNat (Int.natAbs (kI x))) / val (ofNat (Int.natAbs (kI y))))))))))] (zE (kE zQ) <| zR (qR dX) <| zE (kE zQ) <| zR (qR dX) <| zE (oNb bo4) <| zM <| zE (kB (nZ (!(((kN (kI x)).neg) == ((kN (kI y)).neg))) (ofNat (val (ofNat (Int.natAbs (kI x))) / val (ofNat (Int.natAbs (kI y))))) (kW _) (by omega))) <| zN (uK 4 hH hM) <| zT (qG kK) <| zZ) ?_
  refine jA <| jA <| kx [(44, (vb (!(((kN (kI x)).neg) == ((kN (kI y)).neg)) && decide (0 < (((ofNat (val (ofNat (Int.natAbs (kI x))) % val (ofNat (Int.natAbs (kI y))))).length : Nat) : Int)))))] [] ?_ ?_
  ·refine zE (kE zQ) <| zR (qR dX) <| zE (kE zQ) <| zR (qR dX) <| zE (oNb bo4) <| zE (oV (vb (!(((kN (kI x)).neg) == ((kN (kI y)).neg)))) (uS (by kernel_rfl))) <| ?_
   rcases hb2 : (!(((kN (kI x)).neg) == ((kN (kI y)).neg))) with _ | _
   ·exact zK <| zK <| zK <| zE zU <| zZ
   ·exact zM <| zE (nE kY (L := (ofNat (val (ofNat (Int.natAbs (kI x))) % val (ofNat (Int.natAbs (kI y))))))) <| zE yZ <| zE oPa <| zZ
  refine jO rfl (fun h3 => ?_) (fun h3 => ?_)
  ·have hqm := gs_mul (kN (kI (yD (!((kN (kI x)).neg == (kN (kI y)).neg)) (val (ofNat (val (ofNat (Int.natAbs (kI x))) / val (ofNat (Int.natAbs (kI y))))))) - kI (kN 1))) (kN (kI y))
   have hk := r_div_other (X := kI x) (Y := kI y) hy1 (by rw [Bool.and_eq_true, Bool.not_eq_true', beq_eq_false_iff_ne, decide_eq_true_eq] at h3; exact h3)
   refine kd [] [(4, some (bx (jV (kN (kI (yD (!(((kN (kI x)).neg) == ((kN (kI y)).neg))) (val (ofNat (val (ofNat (Int.natAbs (kI x))) / val (ofNat (Int.natAbs (kI y))))))) - kI (kN 1))))))] mo (wR (kC kK) <| wE (kB (r_of 1 (by omega) (by omega))) <| wE (kB (r_sub (yD (!(((kN (kI x)).neg) == ((kN (kI y)).neg))) (val (ofNat (val (ofNat (Int.natAbs (kI x))) / val (ofNat (Int.natAbs (kI y))))))) (kN 1) (by omega) (by omega))) <| wT (qG kK) <| wZ) ?_
   refine jA <| kd [(6, (kD 0))] [(2, some (bx (jV (kN (kI (yD (!(((kN (kI x)).neg) == ((kN (kI y)).neg))) (val (ofNat (val (ofNat (Int.natAbs (kI x))) / val (ofNat (Int.natAbs (kI y))))))) - kI (kN 1)))))), (3, some (bx (jV (kN (kI (kN (kI x)) - kI (kN (kI (kN (kI (yD (!(((kN (kI x)).neg) == ((kN (kI y)).neg))) (val (ofNat (val (ofNat (Int.natAbs (kI x))) / val (ofNat (Int.natAbs (kI y))))))) - kI (kN 1))) * kI (kN (kI y)))))))))] mo (wR (kC kK) <| wR (kC kK) <| wR (kC kK) <| wR (kC kK) <| wE (kB (r_mul (kN (kI (yD (!(((kN (kI x)).neg) == ((kN (kI y)).neg))) (val (ofNat (val (ofNat (Int.natAbs (kI x))) / val (ofNat (Int.natAbs (kI y))))))) - kI (kN 1))) (kN (kI y)) (by omega) (by omega))) <| wE (kB (r_sub (kN (kI x)) (kN (kI (kN (kI (yD (!(((kN (kI x)).neg) == ((kN (kI y)).neg))) (val (ofNat (val (ofNat (Int.natAbs (kI x))) / val (ofNat (Int.natAbs (kI y))))))) - kI (kN 1))) * kI (kN (kI y)))) (by omega) (by omega))) <| wT (qG kK) <| wT (qG kK) <| wM <| wZ) ?_
   refine jF ⟨_, (qS (cs := (bx (jV (kN (kI (yD (!(((kN (kI x)).neg) == ((kN (kI y)).neg))) (val (ofNat (val (ofNat (Int.natAbs (kI x))) / val (ofNat (Int.natAbs (kI y))))))) - kI (kN 1)))))) (d := (jV (kN (kI (yD (!(((kN (kI x)).neg) == ((kN (kI y)).neg))) (val (ofNat (val (ofNat (Int.natAbs (kI x))) / val (ofNat (Int.natAbs (kI y))))))) - kI (kN 1))))) rfl rfl kK rfl rfl (qS (cs := (bx (jV (kN (kI (kN (kI x)) - kI (kN (kI (kN (kI (yD (!(((kN (kI x)).neg) == ((kN (kI y)).neg))) (val (ofNat (val (ofNat (Int.natAbs (kI x))) / val (ofNat (Int.natAbs (kI y))))))) - kI (kN 1))) * kI (kN (kI y))))))))) (d := (jV (kN (kI (kN (kI x)) - kI (kN (kI (kN (kI (yD (!(((kN (kI x)).neg) == ((kN (kI y)).neg))) (val (ofNat (val (ofNat (Int.natAbs (kI x))) / val (ofNat (Int.natAbs (kI y))))))) - kI (kN 1))) * kI (kN (kI y)))))))) rfl rfl kK rfl rfl (.tmp (d := (.val (.int .i64 (0)))) rfl .nil))), ?_⟩
   rw [hk, r_rem_eq]; rfl
  ·have hqm := gs_mul (yD (!((kN (kI x)).neg == (kN (kI y)).neg)) (val (ofNat (val (ofNat (Int.natAbs (kI x))) / val (ofNat (Int.natAbs (kI y))))))) (kN (kI y))
   have hk := r_div_same (X := kI x) (Y := kI y) hy1 (by rw [Bool.and_eq_false_iff, Bool.not_eq_false', beq_iff_eq, decide_eq_false_iff_not] at h3; exact h3)
   refine jB <| jA <| kd [(6, (kD 0))] [(2, some (bx (jV (yD (!(((kN (kI x)).neg) == ((kN (kI y)).neg))) (val (ofNat (val (ofNat (Int.natAbs (kI x))) / val (ofNat (Int.natAbs (kI y)))))))))), (3, some (bx (jV (kN (kI (kN (kI x)) - kI (kN (kI (yD (!(((kN (kI x)).neg) == ((kN (kI y)).neg))) (val (ofNat (val (ofNat (Int.natAbs (kI x))) / val (ofNat (Int.natAbs (kI y))))))) * kI (kN (kI y)))))))))] mo (wR (kC kK) <| wR (kC kK) <| wR (kC kK) <| wR (kC kK) <| wE (kB (r_mul (yD (!(((kN (kI x)).neg) == ((kN (kI y)).neg))) (val (ofNat (val (ofNat (Int.natAbs (kI x))) / val (ofNat (Int.natAbs (kI y))))))) (kN (kI y)) (by omega) (by omega))) <| wE (kB (r_sub (kN (kI x)) (kN (kI (yD (!(((kN (kI x)).neg) == ((kN (kI y)).neg))) (val (ofNat (val (ofNat (Int.natAbs (kI x))) / val (ofNat (Int.natAbs (kI y))))))) * kI (kN (kI y)))) (by omega) (by omega))) <| wT (qG kK) <| wT (qG kK) <| wM <| wZ) ?_
   refine jF ⟨_, (qS (cs := (bx (jV (yD (!(((kN (kI x)).neg) == ((kN (kI y)).neg))) (val (ofNat (val (ofNat (Int.natAbs (kI x))) / val (ofNat (Int.natAbs (kI y)))))))))) (d := (jV (yD (!(((kN (kI x)).neg) == ((kN (kI y)).neg))) (val (ofNat (val (ofNat (Int.natAbs (kI x))) / val (ofNat (Int.natAbs (kI y))))))))) rfl rfl kK rfl rfl (qS (cs := (bx (jV (kN (kI (kN (kI x)) - kI (kN (kI (yD (!(((kN (kI x)).neg) == ((kN (kI y)).neg))) (val (ofNat (val (ofNat (Int.natAbs (kI x))) / val (ofNat (Int.natAbs (kI y))))))) * kI (kN (kI y))))))))) (d := (jV (kN (kI (kN (kI x)) - kI (kN (kI (yD (!(((kN (kI x)).neg) == ((kN (kI y)).neg))) (val (ofNat (val (ofNat (Int.natAbs (kI x))) / val (ofNat (Int.natAbs (kI y))))))) * kI (kN (kI y)))))))) rfl rfl kK rfl rfl (.tmp (d := (.val (.int .i64 (0)))) rfl .nil))), ?_⟩
   rw [hk, r_rem_eq]; rfl
end Go.Proofs.YtapjldagikfcmaaGreat
namespace Go.Proofs.YtapjldagikfcmaaGreat
open Go.Fid
set_option maxRecDepth 4000
set_option linter.unusedVariables false
set_option linter.unusedSimpArgs false
theorem s_neg {x : jI} {a : Int} {m : Nat} (hx : nO x a m) (hm : m ≤ 274877906944) : kH Tryz.prog 271 [(jV x)] (jV (kN (-a))) := by
 obtain ⟨rfl, hx'⟩ := hx
 exact t_neg x (by omega)
theorem s_sign {x : jI} {a : Int} {m : Nat} (hx : nO x a m) (hm : m ≤ 274877906944) : kH Tryz.prog 159 [(jV x)] (.val (.int .i64 (vC a))) := by
 obtain ⟨rfl, hx'⟩ := hx
 exact t_sign x (by omega)
theorem s_add {x y : jI} {a b : Int} {m n : Nat} (hx : nO x a m) (hy : nO y b n) (hm : m ≤ 274877906944) (hn : n ≤ 274877906944) : kH Tryz.prog 196 [(jV x), (jV y)] (jV (kN (a + b))) := by
 obtain ⟨rfl, hx'⟩ := hx; obtain ⟨rfl, hy'⟩ := hy
 exact t_add x y (by omega) (by omega)
theorem s_mul {x y : jI} {a b : Int} {m n : Nat} (hx : nO x a m) (hy : nO y b n) (hm : m ≤ 274877906944) (hn : n ≤ 274877906944) : kH Tryz.prog 182 [(jV x), (jV y)] (jV (kN (a * b))) := by
 obtain ⟨rfl, hx'⟩ := hx; obtain ⟨rfl, hy'⟩ := hy
 exact t_mul x y (by omega) (by omega)
theorem s_compare {x y : jI} {a b : Int} {m n : Nat} (hx : nO x a m) (hy : nO y b n) (hm : m ≤ 274877906944) (hn : n ≤ 274877906944) : kH Tryz.prog 160 [(jV x), (jV y)] (.val (.int .i64 (xR a b))) := by
 obtain ⟨rfl, hx'⟩ := hx; obtain ⟨rfl, hy'⟩ := hy
 exact t_compareI x y (by omega) (by omega)
theorem s_gcd {x y : jI} {a b : Int} {m n : Nat} (hx : nO x a m) (hy : nO y b n) (hm : m ≤ 274877906944) (hn : n ≤ 274877906944) : kH Tryz.prog 161 [(jV x), (jV y)] (jV (kN ((Int.gcd a b : Nat) : Int))) := by
 obtain ⟨rfl, hx'⟩ := hx; obtain ⟨rfl, hy'⟩ := hy
 exact t_gcdI x y (by omega) (by omega)
theorem s_divide {x y : jI} {a b : Int} {m n : Nat} (hx : nO x a m) (hy : nO y b n) (hm : m ≤ 274877906944) (hn : n ≤ 274877906944) (hb : b ≠ 0) : kH Tryz.prog 230 [(jV x), (jV y)] (.tup [(jV (kN (a.fdiv b))), (jV (kN (a.fmod b))), (.val (.int .i64 0))]) := by
 obtain ⟨rfl, hx'⟩ := hx; obtain ⟨rfl, hy'⟩ := hy
 exact t_divideI x y (by omega) (by omega) hb
theorem rs_neg {x : jI} {a : Int} {m : Nat} (hx : nO x a m) (hm : m ≤ 274877906944) : kH Tryz.prog 237 [(jV x)] (jV (kN (-a))) := by
 obtain ⟨rfl, hx'⟩ := hx
 exact r_neg x (by omega)
theorem rs_sign {x : jI} {a : Int} {m : Nat} (hx : nO x a m) (hm : m ≤ 274877906944) : kH Tryz.prog 93 [(jV x)] (.val (.int .i64 (vC a))) := by
 obtain ⟨rfl, hx'⟩ := hx
 exact r_sign x (by omega)
theorem rs_add {x y : jI} {a b : Int} {m n : Nat} (hx : nO x a m) (hy : nO y b n) (hm : m ≤ 274877906944) (hn : n ≤ 274877906944) : kH Tryz.prog 263 [(jV x), (jV y)] (jV (kN (a + b))) := by
 obtain ⟨rfl, hx'⟩ := hx; obtain ⟨rfl, hy'⟩ := hy
 exact r_add x y (by omega) (by omega)
theorem rs_mul {x y : jI} {a b : Int} {m n : Nat} (hx : nO x a m) (hy : nO y b n) (hm : m ≤ 274877906944) (hn : n ≤ 274877906944) : kH Tryz.prog 144 [(jV x), (jV y)] (jV (kN (a * b))) := by
 obtain ⟨rfl, hx'⟩ := hx; obtain ⟨rfl, hy'⟩ := hy
 exact r_mul x y (by omega) (by omega)
theorem rs_compare {x y : jI} {a b : Int} {m n : Nat} (hx : nO x a m) (hy : nO y b n) (hm : m ≤ 274877906944) (hn : n ≤ 274877906944) : kH Tryz.prog 129 [(jV x), (jV y)] (.val (.int .i64 (xR a b))) := by
 obtain ⟨rfl, hx'⟩ := hx; obtain ⟨rfl, hy'⟩ := hy
 exact r_compare x y (by omega) (by omega)
theorem rs_gcd {x y : jI} {a b : Int} {m n : Nat} (hx : nO x a m) (hy : nO y b n) (hm : m ≤ 274877906944) (hn : n ≤ 274877906944) : kH Tryz.prog 130 [(jV x), (jV y)] (jV (kN ((Int.gcd a b : Nat) : Int))) := by
 obtain ⟨rfl, hx'⟩ := hx; obtain ⟨rfl, hy'⟩ := hy
 exact r_gcd x y (by omega) (by omega)
theorem rs_divide {x y : jI} {a b : Int} {m n : Nat} (hx : nO x a m) (hy : nO y b n) (hm : m ≤ 274877906944) (hn : n ≤ 274877906944) (hb : b ≠ 0) : kH Tryz.prog 238 [(jV x), (jV y)] (.tup [(jV (kN (a.fdiv b))), (jV (kN (a.fmod b))), (.val (.int .i64 0))]) := by
 obtain ⟨rfl, hx'⟩ := hx; obtain ⟨rfl, hy'⟩ := hy
 exact r_divide x y (by omega) (by omega) hb
end Go.Proofs.YtapjldagikfcmaaGreat
namespace Go.Proofs.YtapjldagikfcmaaGreat
open Go.Fid
set_option maxRecDepth 4000
set_option linter.unusedVariables false
set_option linter.unusedSimpArgs false
theorem cb72 : callB Tryz.prog 72 = true := by kernel_rfl
theorem cb111 : callB Tryz.prog 111 = true := by kernel_rfl
theorem cb113 : callB Tryz.prog 113 = true := by kernel_rfl
theorem cb134 : callB Tryz.prog 134 = true := by kernel_rfl
theorem cb138 : callB Tryz.prog 138 = true := by kernel_rfl
theorem cb184 : callB Tryz.prog 184 = true := by kernel_rfl
theorem cb206 : callB Tryz.prog 206 = true := by kernel_rfl
theorem cb227 : callB Tryz.prog 227 = true := by kernel_rfl
theorem cb235 : callB Tryz.prog 235 = true := by kernel_rfl
theorem cb255 : callB Tryz.prog 255 = true := by kernel_rfl
theorem cb261 : callB Tryz.prog 261 = true := by kernel_rfl
theorem yI : vN Tryz.prog 38 0 = some 0 := by kernel_rfl
theorem yJ : vN Tryz.prog 38 1 = some 2 := by kernel_rfl
theorem ft38_0 : iC Tryz.prog 38 0 = some (0, 36) := by kernel_rfl
theorem pl38 : cJ Tryz.prog 38 = some [(0, 2), (2, 2)] := by kernel_rfl
theorem jR : uJ Tryz.prog 38 = some (true, 4) := by kernel_rfl
theorem qZ : xL Tryz.prog 38 = some [.bool false, .slice none 0 0, .bool false, .slice none 0 0] := by kernel_rfl
theorem uF : cD [.bool false, .slice none 0 0, .bool false, .slice none 0 0] [.val (.bool false), .sl 181 1 [], .val (.bool false), .sl 181 1 []] := by simp [cD, Value.oneCell']
theorem f_reduced (num den : jI) (a b : Int) (eU : nO num a 68719476736) (cP : nO den b 68719476736) (hb : b ≠ 0) : kH Tryz.prog 227 [(jV num), (jV den)] (jP (jD (Rat.divInt a b))) := by
 refine jM Tryz.func227 rfl cb227 rfl ?_
 show uY _ _ _ _ ⟨[(0, (.d (jV num))), (1, (.d (jV den)))], []⟩
 refine jA <| kx [(2, (.ref 0 0)), (3, (.ref 1 0)), (4, (.ref 2 0))] [(0, some (bx (jV num))), (1, some (bx (jV den))), (2, some (bx (jP (jZ.mk (jI.mk false []) (jI.mk false [])))))] (zN (vD 0) <| zN (vD 1) <| zN (uK 2 qZ uF) <| zZ) ?_
 refine jA <| jA <| kx [(8, (vb (decide ((vC b) < 0))))] [] (zR (kC kK) <| zE (kB (s_sign cP (by decide))) <| zE qY <| zZ) ?_
 refine jO (b := decide ((vC b) < 0)) rfl (fun h1 => ?_) (fun h1 => ?_)
 ·replace h1 := of_decide_eq_true h1
  have hlt := signI_lt.1 h1
  have hb2 : -b ≠ 0 := by omega
  refine kd [] [(0, some (bx (jV (kN (-a))))), (1, some (bx (jV (kN (-b)))))] mo (wR (kC kK) <| wE (kB (s_neg eU (by decide))) <| wR (kC kK) <| wE (kB (s_neg cP (by decide))) <| wT (qG kK) <| wT (qG kK) <| wZ) ?_
  refine jA <| kx [(5, (.ref 3 0))] [(3, some (bx (jV (kN ((Int.gcd (-a) (-b) : Nat) : Int)))))] (zR (kC kK) <| zR (kC kK) <| zE (kB (s_gcd (cI eU) (cI cP) (by decide) (by decide))) <| zN (uK 3 hH hM) <| zT (qG kK) <| zZ) ?_
  refine jA <| kx [] [(0, some (bx (jV (kN ((-a).fdiv (((Int.gcd (-a) (-b) : Nat) : Int)))))))] (zR (kC kK) <| zR (kC kK) <| zE (kB (s_divide (cI eU) (nH (k := 68719476736) (cI eU) (cI cP) (by decide)) (by decide) (by decide) (gcd_ne (by omega)))) <| zM <| zE vA <| zE vA <| zE vA <| zT (qG kK) <| zZ) ?_
  refine jA <| kx [] [(1, some (bx (jV (kN ((-b).fdiv (((Int.gcd (-a) (-b) : Nat) : Int)))))))] (zR (kC kK) <| zR (kC kK) <| zE (kB (s_divide (cI cP) (nH (k := 68719476736) (cI eU) (cI cP) (by decide)) (by decide) (by decide) (gcd_ne (by omega)))) <| zM <| zE vA <| zE vA <| zE vA <| zT (qG kK) <| zZ) ?_
  refine jA <| kx [] [(2, some (bx (jP (jZ.mk (kN ((-a).fdiv (((Int.gcd (-a) (-b) : Nat) : Int)))) (kN ((-b).fdiv (((Int.gcd (-a) (-b) : Nat) : Int))))))))] (zR (kC kK) <| zR (kC kK) <| zE (oBd pl38 qZ uF) <| zT (qG jR) <| zZ) ?_
  refine jF ⟨_, (qS (cs := (bx (jP (jZ.mk (kN ((-a).fdiv (((Int.gcd (-a) (-b) : Nat) : Int)))) (kN ((-b).fdiv (((Int.gcd (-a) (-b) : Nat) : Int)))))))) (d := (jP (jZ.mk (kN ((-a).fdiv (((Int.gcd (-a) (-b) : Nat) : Int)))) (kN ((-b).fdiv (((Int.gcd (-a) (-b) : Nat) : Int))))))) rfl rfl jR rfl rfl .nil), ?_⟩
  rw [red_neg hlt]; rfl
 ·replace h1 := of_decide_eq_false h1
  have hge : ¬ b < 0 := fun hh => h1 (signI_lt.2 hh)
  refine jB <| jA <| kx [(5, (.ref 4 0))] [(4, some (bx (jV (kN ((Int.gcd a b : Nat) : Int)))))] (zR (kC kK) <| zR (kC kK) <| zE (kB (s_gcd eU cP (by decide) (by decide))) <| zN (uK 4 hH hM) <| zT (qG kK) <| zZ) ?_
  refine jA <| kx [] [(0, some (bx (jV (kN (a.fdiv (((Int.gcd a b : Nat) : Int)))))))] (zR (kC kK) <| zR (kC kK) <| zE (kB (s_divide eU (nH (k := 68719476736) eU cP (by decide)) (by decide) (by decide) (gcd_ne (by omega)))) <| zM <| zE vA <| zE vA <| zE vA <| zT (qG kK) <| zZ) ?_
  refine jA <| kx [] [(1, some (bx (jV (kN (b.fdiv (((Int.gcd a b : Nat) : Int)))))))] (zR (kC kK) <| zR (kC kK) <| zE (kB (s_divide cP (nH (k := 68719476736) eU cP (by decide)) (by decide) (by decide) (gcd_ne (by omega)))) <| zM <| zE vA <| zE vA <| zE vA <| zT (qG kK) <| zZ) ?_
  refine jA <| kx [] [(2, some (bx (jP (jZ.mk (kN (a.fdiv (((Int.gcd a b : Nat) : Int)))) (kN (b.fdiv (((Int.gcd a b : Nat) : Int))))))))] (zR (kC kK) <| zR (kC kK) <| zE (oBd pl38 qZ uF) <| zT (qG jR) <| zZ) ?_
  refine jF ⟨_, (qS (cs := (bx (jP (jZ.mk (kN (a.fdiv (((Int.gcd a b : Nat) : Int)))) (kN (b.fdiv (((Int.gcd a b : Nat) : Int)))))))) (d := (jP (jZ.mk (kN (a.fdiv (((Int.gcd a b : Nat) : Int)))) (kN (b.fdiv (((Int.gcd a b : Nat) : Int))))))) rfl rfl jR rfl rfl .nil), ?_⟩
  rw [red_pos hge hb]; rfl
theorem gQ (n : Int) (hlo : -9223372036854775808 ≤ n) (hhi : n ≤ 9223372036854775807) : kH Tryz.prog 113 [(.val (.int .i64 (n)))] (jP (jD ((n : Int) : Rat))) := by
 refine jM Tryz.func113 rfl cb113 rfl ?_
 show uY _ _ _ _ ⟨[(0, (vi n))], []⟩
 refine jA <| kx [(2, (.ref 0 0))] [(0, some (bx (jP (jZ.mk (jI.mk false []) (jI.mk false [])))))] (zN (uK 0 qZ uF) <| zZ) ?_
 refine jA <| kx [] [(0, some (bx (jP (jZ.mk (kN n) (kN 1)))))] (zM <| zE (kB (t_of n (by omega) (by omega))) <| zE (kB (t_of 1 (by decide) (by decide))) <| zE (oBd pl38 qZ uF) <| zT (qG jR) <| zZ) ?_
 refine jF ⟨_, (qS (cs := (bx (jP (jZ.mk (kN n) (kN 1))))) (d := (jP (jZ.mk (kN n) (kN 1)))) rfl rfl jR rfl rfl .nil), ?_⟩
 rfl
theorem f_valid (x : jZ) (p : Rat) (hx : fW x p 17179869184) : kH Tryz.prog 72 [(jP x)] (.val (.bool ((vW x)))) := by
 refine jM Tryz.func72 rfl cb72 rfl ?_
 show uY _ _ _ _ ⟨[(0, (.d (jP x)))], []⟩
 refine jA <| kx [(1, (.ref 0 0))] [(0, some (bx (jP x)))] (zN (vD 0) <| zM <| zZ) ?_
 refine jA <| jA <| kx [(18, (vb ((!(vO x.num) || !(vO x.den)) || decide ((vC (kI x.den)) ≤ 0))))] [] ?_ ?_
 ·refine zE (kE yI) <| zR (kC kK) <| zE (kB (t_valid x.num (Nat.le_trans (gS hx.n1).l (by decide)))) <| zE oNt <| zE (oV (vb (!(vO x.num))) (uS (by kernel_rfl))) <| ?_
  rcases hb1 : (!(vO x.num)) with _ | _
  ·refine zE (kE yJ) <| zR (kC kK) <| zE (kB (t_valid x.den (Nat.le_trans (gS hx.n2).l (by decide)))) <| zE oNt <| zE eT <| zE (oV (vb (false || !(vO x.den))) (uS (by kernel_rfl))) <| ?_
   rcases hb2 : (false || !(vO x.den)) with _ | _
   ·exact zE (kE yJ) <| zR (kC kK) <| zE (kB (s_sign (gS hx.n2) (by decide))) <| zE oLe <| zE eT <| zZ
   ·exact zK <| zK <| zK <| zK <| zE yH <| zZ
  ·exact zK <| zK <| zK <| zK <| zE yH <| zM <| zK <| zK <| zK <| zK <| zE yH <| zZ
 refine jO rfl (fun h3 => ?_) (fun h3 => ?_)
 ·refine jA <| kx [(2, (vb false))] [] (zM <| zZ) ?_
  refine jF ⟨_, (.tmp (d := (.val (.bool (false)))) rfl .nil), ?_⟩
  rw [validR_no h3]; rfl
 ·refine jB <| jA <| kx [(2, (vb ((xR (((Int.gcd (kI x.num) (kI x.den) : Nat) : Int)) 1) == 0)))] [] (zE (kE yI) <| zR (kC kK) <| zE (kE yJ) <| zR (kC kK) <| zE (kB (s_gcd (gS hx.n1) (gS hx.n2) (by decide) (by decide))) <| zE (kB (t_of 1 (by decide) (by decide))) <| zE (kB (s_compare (nH (k := 17179869184) (gS hx.n1) (gS hx.n2) (by decide)) (mK (z := 1) (by decide)) (by decide) (by decide))) <| zE xK <| zM <| zZ) ?_
  refine jF ⟨_, (.tmp (d := (.val (.bool (((xR (((Int.gcd (kI x.num) (kI x.den) : Nat) : Int)) 1) == 0))))) rfl .nil), ?_⟩
  rw [validR_yes h3]; rfl
theorem f_copied (x : jZ) (p : Rat) (hx : fW x p 17179869184) : kH Tryz.prog 261 [(jP x)] (jP (jZ.mk (kN (-(-kI x.num))) (kN (-(-kI x.den))))) := by
 refine jM Tryz.func261 rfl cb261 rfl ?_
 show uY _ _ _ _ ⟨[(0, (.d (jP x)))], []⟩
 refine jA <| kx [(1, (.ref 0 0)), (2, (.ref 1 0))] [(0, some (bx (jP x))), (1, some (bx (jP (jZ.mk (jI.mk false []) (jI.mk false [])))))] (zN (vD 0) <| zN (uK 1 qZ uF) <| zZ) ?_
 refine jA <| kd [] [(1, some (bx (jP (jZ.mk (kN (-(-(kI x.num)))) (kN (-(-(kI x.den))))))))] mo (wE (kE yI) <| wR (kC kK) <| wE (kB (s_neg (gS hx.n1) (by decide))) <| wE (kB (s_neg (cI (gS hx.n1)) (by decide))) <| wE (kE yJ) <| wR (kC kK) <| wE (kB (s_neg (gS hx.n2) (by decide))) <| wE (kB (s_neg (cI (gS hx.n2)) (by decide))) <| wE (oBd pl38 qZ uF) <| wT (qG jR) <| wZ) ?_
 refine jF ⟨_, (qS (cs := (bx (jP (jZ.mk (kN (-(-(kI x.num)))) (kN (-(-(kI x.den)))))))) (d := (jP (jZ.mk (kN (-(-(kI x.num)))) (kN (-(-(kI x.den))))))) rfl rfl jR rfl rfl .nil), ?_⟩
 rfl
theorem eY (x : jZ) (p : Rat) (hx : fW x p 17179869184) : kH Tryz.prog 206 [(jP x)] (jP (jD p)) := by
 refine jM Tryz.func206 rfl cb206 rfl ?_
 show uY _ _ _ _ ⟨[(0, (.d (jP x)))], []⟩
 refine jA <| kx [(1, (.ref 0 0)), (2, (.ref 1 0))] [(0, some (bx (jP x))), (1, some (bx (jP (jZ.mk (jI.mk false []) (jI.mk false [])))))] (zN (vD 0) <| zN (uK 1 qZ uF) <| zZ) ?_
 refine jA <| jA <| kx [(4, (vb (vW x)))] [] (zR (kC jR) <| zE (kB (f_valid x p hx)) <| zZ) ?_
 refine jO (b := (vW x)) rfl (fun h1 => ?_) (fun h1 => ?_)
 ·refine jA <| kx [] [(1, some (bx (jP (jZ.mk (kN (-(-kI x.num))) (kN (-(-kI x.den)))))))] (zR (kC jR) <| zE (kB (f_copied x p hx)) <| zT (qG jR) <| zZ) ?_
  refine jF ⟨_, (qS (cs := (bx (jP (jZ.mk (kN (-(-kI x.num))) (kN (-(-kI x.den))))))) (d := (jP (jZ.mk (kN (-(-kI x.num))) (kN (-(-kI x.den)))))) rfl rfl jR rfl rfl .nil), ?_⟩
  rw [← hx.v, ← copied_eq h1]; rfl
 ·refine jB <| jA <| kx [] [(1, some (bx (jP (jD ((0 : Int) : Rat)))))] (zE (kB (gQ 0 (by decide) (by decide))) <| zT (qG jR) <| zZ) ?_
  refine jF ⟨_, (qS (cs := (bx (jP (jD ((0 : Int) : Rat))))) (d := (jP (jD ((0 : Int) : Rat)))) rfl rfl jR rfl rfl .nil), ?_⟩
  rw [← hx.v, toQ_bad h1]; rfl
theorem f_sign (x : jZ) (p : Rat) (hx : fW x p 17179869184) : kH Tryz.prog 111 [(jP x)] (.val (.int .i64 ((xV p)))) := by
 refine jM Tryz.func111 rfl cb111 rfl ?_
 show uY _ _ _ _ ⟨[(0, (.d (jP x)))], []⟩
 refine jA <| kx [(1, (.ref 0 0))] [(0, some (bx (jP x)))] (zN (vD 0) <| zM <| zZ) ?_
 refine jA <| kx [(2, (vi (vC p.num)))] [] (zR (kC jR) <| zE (kB (eY x p hx)) <| zE (oFv ft38_0 kK) <| zE (kB (s_sign (uO hx.ql) (by decide))) <| zM <| zZ) ?_
 refine jF ⟨_, (.tmp (d := (.val (.int .i64 ((vC p.num))))) rfl .nil), ?_⟩
 rfl
theorem f_neg (x : jZ) (p : Rat) (hx : fW x p 17179869184) : kH Tryz.prog 255 [(jP x)] (jP (jD (-p))) := by
 refine jM Tryz.func255 rfl cb255 rfl ?_
 show uY _ _ _ _ ⟨[(0, (.d (jP x)))], []⟩
 refine jA <| kx [(1, (.ref 0 0)), (2, (.ref 1 0))] [(0, some (bx (jP x))), (1, some (bx (jP (jZ.mk (jI.mk false []) (jI.mk false [])))))] (zN (vD 0) <| zN (uK 1 qZ uF) <| zZ) ?_
 refine jA <| kx [] [(0, some (bx (jP (jD p))))] (zR (kC jR) <| zE (kB (eY x p hx)) <| zT (qG jR) <| zZ) ?_
 refine jA <| kd [] [(1, some (bx (jP (jZ.mk (kN (-p.num)) ((jD p).den)))))] mo (wE (kE yI) <| wR (kC kK) <| wE (kB (s_neg (uO hx.ql) (by decide))) <| wE (kE yJ) <| wR (kC kK) <| wE (oBd pl38 qZ uF) <| wT (qG jR) <| wZ) ?_
 refine jF ⟨_, (qS (cs := (bx (jP (jZ.mk (kN (-p.num)) ((jD p).den))))) (d := (jP (jZ.mk (kN (-p.num)) ((jD p).den)))) rfl rfl jR rfl rfl .nil), ?_⟩
 rfl
theorem f_add (x : jZ) (y : jZ) (p : Rat) (q : Rat) (hx : fW x p 17179869184) (hy : fW y q 17179869184) : kH Tryz.prog 235 [(jP x), (jP y)] (jP (jD (p + q))) := by
 refine jM Tryz.func235 rfl cb235 rfl ?_
 show uY _ _ _ _ ⟨[(0, (.d (jP x))), (1, (.d (jP y)))], []⟩
 refine jA <| kx [(2, (.ref 0 0)), (3, (.ref 1 0)), (4, (.ref 2 0))] [(0, some (bx (jP x))), (1, some (bx (jP y))), (2, some (bx (jP (jZ.mk (jI.mk false []) (jI.mk false [])))))] (zN (vD 0) <| zN (vD 1) <| zN (uK 2 qZ uF) <| zZ) ?_
 refine jA <| kd [] [(0, some (bx (jP (jD p)))), (1, some (bx (jP (jD q))))] mo (wR (kC jR) <| wE (kB (eY x p hx)) <| wR (kC jR) <| wE (kB (eY y q hy)) <| wT (qG jR) <| wT (qG jR) <| wZ) ?_
 refine jA <| kd [] [(2, some (bx (jP (jD (Rat.divInt ((p.num * (q.den : Int)) + (q.num * (p.den : Int))) ((p.den : Int) * (q.den : Int)))))))] mo (wE (kE yI) <| wR (kC kK) <| wE (kE yJ) <| wR (kC kK) <| wE (kB (s_mul (uO hx.ql) (vE hy.ql) (by decide) (by decide))) <| wE (kE yI) <| wR (kC kK) <| wE (kE yJ) <| wR (kC kK) <| wE (kB (s_mul (uO hy.ql) (vE hx.ql) (by decide) (by decide))) <| wE (kB (s_add (gR (k := 34359738368) (uO hx.ql) (vE hy.ql) (by decide)) (gR (k := 34359738368) (uO hy.ql) (vE hx.ql) (by decide)) (by decide) (by decide))) <| wE (kE yJ) <| wR (kC kK) <| wE (kE yJ) <| wR (kC kK) <| wE (kB (s_mul (vE hx.ql) (vE hy.ql) (by decide) (by decide))) <| wE (kB (f_reduced (kN ((p.num * (q.den : Int)) + (q.num * (p.den : Int)))) (kN ((p.den : Int) * (q.den : Int))) ((p.num * (q.den : Int)) + (q.num * (p.den : Int))) ((p.den : Int) * (q.den : Int)) (nL (iok_add (k := 34359738369) (gR (k := 34359738368) (uO hx.ql) (vE hy.ql) (by decide)) (gR (k := 34359738368) (uO hy.ql) (vE hx.ql) (by decide)) (by decide)) (by decide)) (nL (gR (k := 34359738368) (vE hx.ql) (vE hy.ql) (by decide)) (by decide)) (mul_ne (fT _) (fT _)))) <| wT (qG jR) <| wZ) ?_
 refine jF ⟨_, (qS (cs := (bx (jP (jD (Rat.divInt ((p.num * (q.den : Int)) + (q.num * (p.den : Int))) ((p.den : Int) * (q.den : Int))))))) (d := (jP (jD (Rat.divInt ((p.num * (q.den : Int)) + (q.num * (p.den : Int))) ((p.den : Int) * (q.den : Int)))))) rfl rfl jR rfl rfl .nil), ?_⟩
 rw [add_divInt]; rfl
theorem f_sub (x : jZ) (y : jZ) (p : Rat) (q : Rat) (hx : fW x p 17179869184) (hy : fW y q 17179869184) : kH Tryz.prog 184 [(jP x), (jP y)] (jP (jD (p - q))) := by
 refine jM Tryz.func184 rfl cb184 rfl ?_
 show uY _ _ _ _ ⟨[(0, (.d (jP x))), (1, (.d (jP y)))], []⟩
 refine jA <| kx [(2, (.ref 0 0)), (3, (.ref 1 0)), (4, (.ref 2 0))] [(0, some (bx (jP x))), (1, some (bx (jP y))), (2, some (bx (jP (jZ.mk (jI.mk false []) (jI.mk false [])))))] (zN (vD 0) <| zN (vD 1) <| zN (uK 2 qZ uF) <| zZ) ?_
 refine jA <| kd [] [(2, some (bx (jP (jD (p + (-q))))))] mo (wR (kC jR) <| wR (kC jR) <| wE (kB (f_neg y q hy)) <| wE (kB (f_add x (jD (-q)) p (-q) hx (kA (ql_neg hy.ql)))) <| wT (qG jR) <| wZ) ?_
 refine jF ⟨_, (qS (cs := (bx (jP (jD (p + (-q)))))) (d := (jP (jD (p + (-q))))) rfl rfl jR rfl rfl .nil), ?_⟩
 rw [Rat.sub_eq_add_neg]; rfl
theorem eM (x : jZ) (y : jZ) (p : Rat) (q : Rat) (hx : fW x p 17179869184) (hy : fW y q 17179869184) : kH Tryz.prog 138 [(jP x), (jP y)] (jP (jD (p * q))) := by
 refine jM Tryz.func138 rfl cb138 rfl ?_
 show uY _ _ _ _ ⟨[(0, (.d (jP x))), (1, (.d (jP y)))], []⟩
 refine jA <| kx [(2, (.ref 0 0)), (3, (.ref 1 0)), (4, (.ref 2 0))] [(0, some (bx (jP x))), (1, some (bx (jP y))), (2, some (bx (jP (jZ.mk (jI.mk false []) (jI.mk false [])))))] (zN (vD 0) <| zN (vD 1) <| zN (uK 2 qZ uF) <| zZ) ?_
 refine jA <| kd [] [(0, some (bx (jP (jD p)))), (1, some (bx (jP (jD q))))] mo (wR (kC jR) <| wE (kB (eY x p hx)) <| wR (kC jR) <| wE (kB (eY y q hy)) <| wT (qG jR) <| wT (qG jR) <| wZ) ?_
 refine jA <| kd [] [(2, some (bx (jP (jD (Rat.divInt (p.num * q.num) ((p.den : Int) * (q.den : Int)))))))] mo (wE (kE yI) <| wR (kC kK) <| wE (kE yI) <| wR (kC kK) <| wE (kB (s_mul (uO hx.ql) (uO hy.ql) (by decide) (by decide))) <| wE (kE yJ) <| wR (kC kK) <| wE (kE yJ) <| wR (kC kK) <| wE (kB (s_mul (vE hx.ql) (vE hy.ql) (by decide) (by decide))) <| wE (kB (f_reduced (kN (p.num * q.num)) (kN ((p.den : Int) * (q.den : Int))) (p.num * q.num) ((p.den : Int) * (q.den : Int)) (nL (gR (k := 34359738368) (uO hx.ql) (uO hy.ql) (by decide)) (by decide)) (nL (gR (k := 34359738368) (vE hx.ql) (vE hy.ql) (by decide)) (by decide)) (mul_ne (fT _) (fT _)))) <| wT (qG jR) <| wZ) ?_
 refine jF ⟨_, (qS (cs := (bx (jP (jD (Rat.divInt (p.num * q.num) ((p.den : Int) * (q.den : Int))))))) (d := (jP (jD (Rat.divInt (p.num * q.num) ((p.den : Int) * (q.den : Int)))))) rfl rfl jR rfl rfl .nil), ?_⟩
 rw [mul_divInt]; rfl
theorem eJ (x : jZ) (y : jZ) (p : Rat) (q : Rat) (hx : fW x p 17179869184) (hy : fW y q 17179869184) : kH Tryz.prog 134 [(jP x), (jP y)] (.tup [(jP (divR p q)), (.val (.int .i64 ((divC q))))]) := by
 refine jM Tryz.func134 rfl cb134 rfl ?_
 show uY _ _ _ _ ⟨[(0, (.d (jP x))), (1, (.d (jP y)))], []⟩
 refine jA <| kx [(2, (.ref 0 0)), (3, (.ref 1 0)), (4, (.ref 2 0))] [(0, some (bx (jP x))), (1, some (bx (jP y))), (2, some (bx (jP (jZ.mk (jI.mk false []) (jI.mk false [])))))] (zN (vD 0) <| zN (vD 1) <| zN (uK 2 qZ uF) <| zM <| zZ) ?_
 refine jA <| kd [] [(0, some (bx (jP (jD p)))), (1, some (bx (jP (jD q))))] mo (wR (kC jR) <| wE (kB (eY x p hx)) <| wR (kC jR) <| wE (kB (eY y q hy)) <| wT (qG jR) <| wT (qG jR) <| wZ) ?_
 refine jA <| jA <| kx [(13, (vb ((vC q.num) == 0)))] [] (zE (kE yI) <| zR (kC kK) <| zE (kB (s_sign (uO hy.ql) (by decide))) <| zE xK <| zZ) ?_
 refine jO (b := ((vC q.num) == 0)) rfl (fun h1 => ?_) (fun h1 => ?_)
 ·replace h1 := eq_of_beq h1
  have hq0 := cL.1 h1
  refine jA <| kx [(5, (kD 14))] [(2, some (bx (jP (jZ.mk (jI.mk false []) (jI.mk false [])))))] (zE (oBd pl38 qZ uF) <| zT (qG jR) <| zM <| zZ) ?_
  refine jF ⟨_, (qS (cs := (bx (jP (jZ.mk (jI.mk false []) (jI.mk false []))))) (d := (jP (jZ.mk (jI.mk false []) (jI.mk false [])))) rfl rfl jR rfl rfl (.tmp (d := (.val (.int .i64 (14)))) rfl .nil)), ?_⟩
  rw [divR_zero hq0, divC_zero hq0]; rfl
 ·replace h1 := ne_of_beq_false h1
  have hq0 : q ≠ 0 := fun hh => h1 (cL.2 hh)
  refine jB <| jA <| kd [(5, (kD 0))] [(2, some (bx (jP (jD (Rat.divInt (p.num * (q.den : Int)) ((p.den : Int) * q.num))))))] mo (wE (kE yI) <| wR (kC kK) <| wE (kE yJ) <| wR (kC kK) <| wE (kB (s_mul (uO hx.ql) (vE hy.ql) (by decide) (by decide))) <| wE (kE yJ) <| wR (kC kK) <| wE (kE yI) <| wR (kC kK) <| wE (kB (s_mul (vE hx.ql) (uO hy.ql) (by decide) (by decide))) <| wE (kB (f_reduced (kN (p.num * (q.den : Int))) (kN ((p.den : Int) * q.num)) (p.num * (q.den : Int)) ((p.den : Int) * q.num) (nL (gR (k := 34359738368) (uO hx.ql) (vE hy.ql) (by decide)) (by decide)) (nL (gR (k := 34359738368) (vE hx.ql) (uO hy.ql) (by decide)) (by decide)) (mul_ne (fT _) (num_ne hq0)))) <| wT (qG jR) <| wM <| wZ) ?_
  refine jF ⟨_, (qS (cs := (bx (jP (jD (Rat.divInt (p.num * (q.den : Int)) ((p.den : Int) * q.num)))))) (d := (jP (jD (Rat.divInt (p.num * (q.den : Int)) ((p.den : Int) * q.num))))) rfl rfl jR rfl rfl (.tmp (d := (.val (.int .i64 (0)))) rfl .nil)), ?_⟩
  rw [mM hq0, mN hq0, div_divInt]; rfl
end Go.Proofs.YtapjldagikfcmaaGreat
