/- Part 18 of a proof: rules, plain facts, and functions walked. -/
import Derived.Test.YtbecgnplakngdaaGreatM17
namespace Go.Proofs.YtbecgnplakngdaaGreat
open Go.Fid
set_option maxRecDepth 4000
set_option linter.unusedVariables false
set_option linter.unusedSimpArgs false
theorem cb109 : callB Tryz.prog 109 = true := by kernel_rfl
theorem cb110 : callB Tryz.prog 110 = true := by kernel_rfl
theorem cb136 : callB Tryz.prog 136 = true := by kernel_rfl
theorem r_gcd (x : jK) (y : jK) (hx : x.gs.length ≤ 1099511627776) (hy : y.gs.length ≤ 1099511627776) : kH Tryz.prog 110 [(jZ x), (jZ y)] (jZ (kT ((Int.gcd (kI x) (kI y) : Nat) : Int))) := by
 have hvx := eR x
 have hvy := eR y
 refine jP Tryz.func110 rfl cb110 rfl ?_
 show uK _ _ _ _ ⟨[(0, (.d (jZ x))), (1, (.d (jZ y)))], []⟩
 refine jA <| kx [(2, (.ref 0 0)), (3, (.ref 1 0)), (4, (.ref 2 0))] [(0, some (bx (jZ x))), (1, some (bx (jZ y))), (2, some (bx (jZ (jK.mk false []))))] (zN (vS 0) <| zN (vS 1) <| zN (qW 2 nN nR) <| zZ) ?_
 refine jA <| kd [(5, (vl 152 1 jC (ofNat (Int.natAbs (kI x))))), (6, (vl 152 1 jC (ofNat (Int.natAbs (kI y)))))] [] mo (wR (kF kK) <| wE (kA (eV x (by omega))) <| wE (oF1 bP gL) <| wR (kF kK) <| wE (kA (eV y (by omega))) <| wE (oF1 bP gL) <| wM <| wM <| wZ) ?_
 refine jA <| jF <| uT (α := List Nat × List Nat) (fun (a, b) => ⟨[(4, (.ref 2 0)), (5, (vl 152 1 jC a)), (6, (vl 152 1 jC b))], [(2, some (bx (jZ (jK.mk false []))))]⟩) (fun (a, b) => gS a ∧ gS b ∧ a.length ≤ 1099511627776 ∧ b.length ≤ 1099511627776 ∧ Nat.gcd (val a) (val b) = Int.gcd (kI x) (kI y)) (fun (a, b) => val b) ((ofNat (Int.natAbs (kI x))), (ofNat (Int.natAbs (kI y)))) wk ⟨qU _, qU _, by omega, by omega, by rw [kQ, kQ]; rfl⟩ ?_
 rintro ⟨a, b⟩ ⟨ha, hb, hla, hlb, hg⟩
 refine jA <| jA <| kx [(29, (vb (decide (0 < ((b.length : Nat) : Int)) && (decide (2 < ((a.length : Nat) : Int)) || decide (2 < ((b.length : Nat) : Int))))))] [] ?_ ?_
 ·refine zM <| zE (dD kY) <| zE aG <| zE (oV (vb (decide (0 < ((b.length : Nat) : Int)))) (xI (by kernel_rfl))) <| ?_
  rcases hb1 : (decide (0 < ((b.length : Nat) : Int))) with _ | _
  ·replace hb1 := of_decide_eq_false hb1
   exact zK <| zK <| zK <| zK <| zK <| zK <| zK <| zK <| zE iL <| zZ
  ·replace hb1 := of_decide_eq_true hb1
   refine zM <| zE (dD kY) <| zE aG <| zE (oV (vb (decide (2 < ((a.length : Nat) : Int)))) (xI (by kernel_rfl))) <| ?_
   rcases hb2 : (decide (2 < ((a.length : Nat) : Int))) with _ | _
   ·replace hb2 := of_decide_eq_false hb2
    exact zM <| zE (dD kY) <| zE aG <| zE oPo <| zE oPa <| zZ
   ·replace hb2 := of_decide_eq_true hb2
    exact zK <| zK <| zK <| zE bW <| zE bW <| zZ
 refine jV rfl (fun h3 => ?_) (fun h3 => ?_)
 ·have hbl : 0 < b.length := by rw [Bool.and_eq_true, decide_eq_true_eq] at h3; omega
  have hb0 := dH hb hbl
  refine jE <| jF <| jA <| kx [(8, (vl 152 1 jC (ofNat (val a % val b))))] [] (zM <| zM <| zE (kA (r_parts a b ha hb (by omega) (by omega) (by omega))) <| zM <| zE uZ <| zE uZ <| zM <| zM <| zZ) ?_
  refine kx [(5, (vl 152 1 jC b)), (6, (vl 152 1 jC (ofNat (val a % val b))))] [] (zM <| zM <| zM <| zM <| zZ) ?_
  exact ⟨(b, ofNat (val a % val b)), wk, ⟨hb, qU _, hlb, Nat.le_trans (len_rem a ha _) hla, by rw [kQ, ← hg, Nat.gcd_comm, ← Nat.gcd_rec, Nat.gcd_comm]⟩, (by dsimp only; rw [kQ]; exact Nat.mod_lt _ hb0)⟩
 ·have hex := h3
  refine kB <| jA <| jA <| kx [(40, (vb (((b.length : Nat) : Int) == 0)))] [] (zM <| zE (dD kY) <| zE cB <| zZ) ?_
  refine jV (b := (((b.length : Nat) : Int) == 0)) rfl (fun h4 => ?_) (fun h4 => ?_)
  ·replace h4 := eq_of_beq h4
   have hb1 : b = [] := List.eq_nil_of_length_eq_zero (by omega)
   rw [hb1, val_nil, Nat.gcd_zero_right] at hg
   refine jA <| kx [] [(2, some (bx (jZ (zL false (val a)))))] (zM <| zE (kA (mF false a ha.1 (by omega))) <| zT (kW kK) <| zZ) ?_
   refine jJ ⟨_, (qC (cs := (bx (jZ (zL false (val a))))) (d := (jZ (zL false (val a)))) rfl rfl kK rfl rfl .nil), ?_⟩
   rw [← hg, mkI_false]; rfl
  ·replace h4 := ne_of_beq_false h4
   have hl2 : a.length ≤ 2 ∧ b.length ≤ 2 := by simp only [Bool.and_eq_false_iff, Bool.or_eq_false_iff, decide_eq_false_iff_not] at hex; omega
   refine jE <| jA <| kx [(9, (gO (val a))), (10, (gO (val b)))] [] (zM <| zE (kA (r_pair a ha.1 (by omega))) <| zM <| zE (kA (r_pair b hb.1 (by omega))) <| zM <| zM <| zZ) ?_
   refine jA <| jF <| uT (α := Nat × Nat) (fun (m, n) => ⟨[(4, (.ref 2 0)), (9, (gO m)), (10, (gO n))], [(2, some (bx (jZ (jK.mk false []))))]⟩) (fun (m, n) => m < 1000000000000000000 ∧ n < 1000000000000000000 ∧ Nat.gcd m n = Int.gcd (kI x) (kI y)) (fun (m, n) => n) (val a, val b) wk ⟨val_len2 ha.1 hl2.1, val_len2 hb.1 hl2.2, hg⟩ ?_
   rintro ⟨m, n⟩ ⟨hm, hn, hg2⟩
   refine jA <| jA <| kx [(48, (vb (decide (0 < ((n : Nat) : Int)))))] [] (zM <| zE aG <| zZ) ?_
   refine jV (b := decide (0 < ((n : Nat) : Int))) rfl (fun h5 => ?_) (fun h5 => ?_)
   ·replace h5 := of_decide_eq_true h5
    refine jE <| jF <| kd [(9, (gO n)), (10, (gO (m % n)))] [] mo (wM <| wM <| wM <| wE (iM (m % n)) <| wM <| wM <| wZ) ?_
    exact ⟨(n, m % n), wk, ⟨hn, Nat.lt_of_le_of_lt (Nat.mod_le _ _) hm, by rw [← hg2, Nat.gcd_comm, ← Nat.gcd_rec, Nat.gcd_comm]⟩, (by dsimp only; exact Nat.mod_lt _ (by omega))⟩
   ·replace h5 := of_decide_eq_false h5
    obtain rfl : n = 0 := by omega
    rw [Nat.gcd_zero_right] at hg2
    have hmv : val [m % 1000000000, m / 1000000000] = m := by simp only [val]; omega
    refine kB <| jA <| kx [] [(2, some (bx (jZ (zL false (val [(m % 1000000000), (m / 1000000000)])))))] (zM <| zE (iM (m % 1000000000)) <| zE (cZ nW gW (m % 1000000000)) <| zM <| zE (oQu (m / 1000000000)) <| zE (cZ nW gW (m / 1000000000)) <| zE (nO kY xK gI) <| zE (kA (mF false [(m % 1000000000), (m / 1000000000)] (gH.2 ⟨Nat.mod_lt _ (by decide), gH.2 ⟨by omega, nK⟩⟩) (by simp))) <| zT (kW kK) <| zZ) ?_
    refine jJ ⟨_, (qC (cs := (bx (jZ (zL false (val [(m % 1000000000), (m / 1000000000)]))))) (d := (jZ (zL false (val [(m % 1000000000), (m / 1000000000)])))) rfl rfl kK rfl rfl .nil), ?_⟩
    rw [← hg2, hmv, mkI_false]; rfl
theorem r_compare (x : jK) (y : jK) (hx : x.gs.length ≤ 274877906944) (hy : y.gs.length ≤ 274877906944) : kH Tryz.prog 109 [(jZ x), (jZ y)] (.val (.int .i64 ((xE (kI x) (kI y))))) := by
 have hv := gs_sub x y
 refine jP Tryz.func109 rfl cb109 rfl ?_
 show uK _ _ _ _ ⟨[(0, (.d (jZ x))), (1, (.d (jZ y)))], []⟩
 refine jA <| kx [(2, (.ref 0 0)), (3, (.ref 1 0))] [(0, some (bx (jZ x))), (1, some (bx (jZ y)))] (zN (vS 0) <| zN (vS 1) <| zM <| zZ) ?_
 refine jA <| kx [(4, (vi (uP (kI (kT (kI x - kI y))))))] [] (zR (kF kK) <| zR (kF kK) <| zE (kA (r_sub x y (by omega) (by omega))) <| zE (kA (r_sign (kT (kI x - kI y)) (by omega))) <| zM <| zZ) ?_
 refine jJ ⟨_, (.tmp (d := (.val (.int .i64 ((uP (kI (kT (kI x - kI y)))))))) rfl .nil), ?_⟩
 rw [dW, signI_sub]; rfl
theorem r_divide (x : jK) (y : jK) (hx : x.gs.length ≤ 274877906944) (hy : y.gs.length ≤ 274877906944) (hy0 : kI y ≠ 0) : kH Tryz.prog 136 [(jZ x), (jZ y)] (.tup [(jZ (kT ((kI x).fdiv (kI y)))), (jZ (kT ((kI x).fmod (kI y)))), (.val (.int .i64 (0)))]) := by
 have hvx := eR x
 have hvy := eR y
 have hmx := gs_val x
 have hmy := gs_val y
 have hy1 : 0 < (kI y).natAbs := by omega
 have hyl := eS hy1
 have hql : (ofNat (val (ofNat (Int.natAbs (kI x))) / val (ofNat (Int.natAbs (kI y))))).length ≤ 274877906944 := by have := len_quo (ofNat (Int.natAbs (kI x))) (qU _) (val (ofNat (Int.natAbs (kI y)))); omega
 have hqg : (zL (!((kT (kI x)).neg == (kT (kI y)).neg)) (val (ofNat (val (ofNat (Int.natAbs (kI x))) / val (ofNat (Int.natAbs (kI y))))))).gs.length ≤ 274877906944 := by show (ofNat (val (ofNat (val (ofNat (Int.natAbs (kI x))) / val (ofNat (Int.natAbs (kI y))))))).length ≤ _; rw [kQ]; exact hql
 have hone : (kT 1).gs.length ≤ 1 := (cJ (z := 1) (by decide)).l
 have hqs := gs_sub (zL (!((kT (kI x)).neg == (kT (kI y)).neg)) (val (ofNat (val (ofNat (Int.natAbs (kI x))) / val (ofNat (Int.natAbs (kI y))))))) (kT 1)
 refine jP Tryz.func136 rfl cb136 rfl ?_
 show uK _ _ _ _ ⟨[(0, (.d (jZ x))), (1, (.d (jZ y)))], []⟩
 refine jA <| kx [(2, (.ref 0 0)), (3, (.ref 1 0)), (4, (.ref 2 0)), (5, (.ref 3 0))] [(0, some (bx (jZ x))), (1, some (bx (jZ y))), (2, some (bx (jZ (jK.mk false [])))), (3, some (bx (jZ (jK.mk false []))))] (zN (vS 0) <| zN (vS 1) <| zN (qW 2 nN nR) <| zN (qW 3 nN nR) <| zM <| zZ) ?_
 refine jA <| kd [] [(0, some (bx (jZ (kT (kI x))))), (1, some (bx (jZ (kT (kI y)))))] mo (wR (kF kK) <| wE (kA (eV x (by omega))) <| wR (kF kK) <| wE (kA (eV y (by omega))) <| wT (kW kK) <| wT (kW kK) <| wZ) ?_
 refine jA <| jA <| kx [(17, (vb ((((ofNat (Int.natAbs (kI y))).length : Nat) : Int) == 0)))] [] (zE (kS zW) <| zR (uF gL) <| zE (dD kY (L := (ofNat (Int.natAbs (kI y))))) <| zE cB <| zZ) ?_
 refine jV rfl (fun h1 => ?_) (fun h1 => ?_)
 ·replace h1 := eq_of_beq h1
  exact absurd h1 (by omega)
 ·replace h1 := ne_of_beq_false h1
  refine jE <| jA <| kx [(7, (vl 152 1 jC (ofNat (val (ofNat (Int.natAbs (kI x))) / val (ofNat (Int.natAbs (kI y))))))), (8, (vl 152 1 jC (ofNat (val (ofNat (Int.natAbs (kI x))) % val (ofNat (Int.natAbs (kI y)))))))] [] (zE (kS zW) <| zR (uF gL) <| zE (kS zW) <| zR (uF gL) <| zE (kA (r_parts (ofNat (Int.natAbs (kI x))) (ofNat (Int.natAbs (kI y))) (by first | assumption | exact qU _ | exact qV _) (by first | assumption | exact qU _ | exact qV _) (by omega) (by omega) (by omega))) <| zM <| zE uZ <| zE uZ <| zM <| zM <| zZ) ?_
  refine jA <| kx [(9, (.ref 4 0))] [(4, some (bx (jZ (zL (!(((kT (kI x)).neg) == ((kT (kI y)).neg))) (val (ofNat (val (ofNat (Int.natAbs (kI x))) / val (ofNat (Int.natAbs (kI y))))))))))] (zE (kS zC) <| zR (uF sh4) <| zE (kS zC) <| zR (uF sh4) <| zE (oNb bo4) <| zM <| zE (kA (mF (!(((kT (kI x)).neg) == ((kT (kI y)).neg))) (ofNat (val (ofNat (Int.natAbs (kI x))) / val (ofNat (Int.natAbs (kI y))))) (kR _) (by omega))) <| zN (qW 4 nN nR) <| zT (kW kK) <| zZ) ?_
  refine jA <| jA <| kx [(44, (vb (!(((kT (kI x)).neg) == ((kT (kI y)).neg)) && decide (0 < (((ofNat (val (ofNat (Int.natAbs (kI x))) % val (ofNat (Int.natAbs (kI y))))).length : Nat) : Int)))))] [] ?_ ?_
  ·refine zE (kS zC) <| zR (uF sh4) <| zE (kS zC) <| zR (uF sh4) <| zE (oNb bo4) <| zE (oV (vb (!(((kT (kI x)).neg) == ((kT (kI y)).neg)))) (xI (by kernel_rfl))) <| ?_
   rcases hb2 : (!(((kT (kI x)).neg) == ((kT (kI y)).neg))) with _ | _
   ·exact zK <| zK <| zK <| zE iL <| zZ
   ·exact zM <| zE (dD kY (L := (ofNat (val (ofNat (Int.natAbs (kI x))) % val (ofNat (Int.natAbs (kI y))))))) <| zE aG <| zE oPa <| zZ
  refine jV rfl (fun h3 => ?_) (fun h3 => ?_)
  ·have hqm := gs_mul (kT (kI (zL (!((kT (kI x)).neg == (kT (kI y)).neg)) (val (ofNat (val (ofNat (Int.natAbs (kI x))) / val (ofNat (Int.natAbs (kI y))))))) - kI (kT 1))) (kT (kI y))
   have hk := r_div_other (X := kI x) (Y := kI y) hy1 (by rw [Bool.and_eq_true, Bool.not_eq_true', beq_eq_false_iff_ne, decide_eq_true_eq] at h3; exact h3)
   refine kd [] [(4, some (bx (jZ (kT (kI (zL (!(((kT (kI x)).neg) == ((kT (kI y)).neg))) (val (ofNat (val (ofNat (Int.natAbs (kI x))) / val (ofNat (Int.natAbs (kI y))))))) - kI (kT 1))))))] mo (wR (kF kK) <| wE (kA (r_of 1 (by omega) (by omega))) <| wE (kA (r_sub (zL (!(((kT (kI x)).neg) == ((kT (kI y)).neg))) (val (ofNat (val (ofNat (Int.natAbs (kI x))) / val (ofNat (Int.natAbs (kI y))))))) (kT 1) (by omega) (by omega))) <| wT (kW kK) <| wZ) ?_
   refine jA <| kd [(6, (kD 0))] [(2, some (bx (jZ (kT (kI (zL (!(((kT (kI x)).neg) == ((kT (kI y)).neg))) (val (ofNat (val (ofNat (Int.natAbs (kI x))) / val (ofNat (Int.natAbs (kI y))))))) - kI (kT 1)))))), (3, some (bx (jZ (kT (kI (kT (kI x)) - kI (kT (kI (kT (kI (zL (!(((kT (kI x)).neg) == ((kT (kI y)).neg))) (val (ofNat (val (ofNat (Int.natAbs (kI x))) / val (ofNat (Int.natAbs (kI y))))))) - kI (kT 1))) * kI (kT (kI y)))))))))] mo (wR (kF kK) <| wR (kF kK) <| wR (kF kK) <| wR (kF kK) <| wE (kA (r_mul (kT (kI (zL (!(((kT (kI x)).neg) == ((kT (kI y)).neg))) (val (ofNat (val (ofNat (Int.natAbs (kI x))) / val (ofNat (Int.natAbs (kI y))))))) - kI (kT 1))) (kT (kI y)) (by omega) (by omega))) <| wE (kA (r_sub (kT (kI x)) (kT (kI (kT (kI (zL (!(((kT (kI x)).neg) == ((kT (kI y)).neg))) (val (ofNat (val (ofNat (Int.natAbs (kI x))) / val (ofNat (Int.natAbs (kI y))))))) - kI (kT 1))) * kI (kT (kI y)))) (by omega) (by omega))) <| wT (kW kK) <| wT (kW kK) <| wM <| wZ) ?_
   refine jJ ⟨_, (qC (cs := (bx (jZ (kT (kI (zL (!(((kT (kI x)).neg) == ((kT (kI y)).neg))) (val (ofNat (val (ofNat (Int.natAbs (kI x))) / val (ofNat (Int.natAbs (kI y))))))) - kI (kT 1)))))) (d := (jZ (kT (kI (zL (!(((kT (kI x)).neg) == ((kT (kI y)).neg))) (val (ofNat (val (ofNat (Int.natAbs (kI x))) / val (ofNat (Int.natAbs (kI y))))))) - kI (kT 1))))) rfl rfl kK rfl rfl (qC (cs := (bx (jZ (kT (kI (kT (kI x)) - kI (kT (kI (kT (kI (zL (!(((kT (kI x)).neg) == ((kT (kI y)).neg))) (val (ofNat (val (ofNat (Int.natAbs (kI x))) / val (ofNat (Int.natAbs (kI y))))))) - kI (kT 1))) * kI (kT (kI y))))))))) (d := (jZ (kT (kI (kT (kI x)) - kI (kT (kI (kT (kI (zL (!(((kT (kI x)).neg) == ((kT (kI y)).neg))) (val (ofNat (val (ofNat (Int.natAbs (kI x))) / val (ofNat (Int.natAbs (kI y))))))) - kI (kT 1))) * kI (kT (kI y)))))))) rfl rfl kK rfl rfl (.tmp (d := (.val (.int .i64 (0)))) rfl .nil))), ?_⟩
   rw [hk, r_rem_eq]; rfl
  ·have hqm := gs_mul (zL (!((kT (kI x)).neg == (kT (kI y)).neg)) (val (ofNat (val (ofNat (Int.natAbs (kI x))) / val (ofNat (Int.natAbs (kI y))))))) (kT (kI y))
   have hk := r_div_same (X := kI x) (Y := kI y) hy1 (by rw [Bool.and_eq_false_iff, Bool.not_eq_false', beq_iff_eq, decide_eq_false_iff_not] at h3; exact h3)
   refine jE <| jA <| kd [(6, (kD 0))] [(2, some (bx (jZ (zL (!(((kT (kI x)).neg) == ((kT (kI y)).neg))) (val (ofNat (val (ofNat (Int.natAbs (kI x))) / val (ofNat (Int.natAbs (kI y)))))))))), (3, some (bx (jZ (kT (kI (kT (kI x)) - kI (kT (kI (zL (!(((kT (kI x)).neg) == ((kT (kI y)).neg))) (val (ofNat (val (ofNat (Int.natAbs (kI x))) / val (ofNat (Int.natAbs (kI y))))))) * kI (kT (kI y)))))))))] mo (wR (kF kK) <| wR (kF kK) <| wR (kF kK) <| wR (kF kK) <| wE (kA (r_mul (zL (!(((kT (kI x)).neg) == ((kT (kI y)).neg))) (val (ofNat (val (ofNat (Int.natAbs (kI x))) / val (ofNat (Int.natAbs (kI y))))))) (kT (kI y)) (by omega) (by omega))) <| wE (kA (r_sub (kT (kI x)) (kT (kI (zL (!(((kT (kI x)).neg) == ((kT (kI y)).neg))) (val (ofNat (val (ofNat (Int.natAbs (kI x))) / val (ofNat (Int.natAbs (kI y))))))) * kI (kT (kI y)))) (by omega) (by omega))) <| wT (kW kK) <| wT (kW kK) <| wM <| wZ) ?_
   refine jJ ⟨_, (qC (cs := (bx (jZ (zL (!(((kT (kI x)).neg) == ((kT (kI y)).neg))) (val (ofNat (val (ofNat (Int.natAbs (kI x))) / val (ofNat (Int.natAbs (kI y)))))))))) (d := (jZ (zL (!(((kT (kI x)).neg) == ((kT (kI y)).neg))) (val (ofNat (val (ofNat (Int.natAbs (kI x))) / val (ofNat (Int.natAbs (kI y))))))))) rfl rfl kK rfl rfl (qC (cs := (bx (jZ (kT (kI (kT (kI x)) - kI (kT (kI (zL (!(((kT (kI x)).neg) == ((kT (kI y)).neg))) (val (ofNat (val (ofNat (Int.natAbs (kI x))) / val (ofNat (Int.natAbs (kI y))))))) * kI (kT (kI y))))))))) (d := (jZ (kT (kI (kT (kI x)) - kI (kT (kI (zL (!(((kT (kI x)).neg) == ((kT (kI y)).neg))) (val (ofNat (val (ofNat (Int.natAbs (kI x))) / val (ofNat (Int.natAbs (kI y))))))) * kI (kT (kI y)))))))) rfl rfl kK rfl rfl (.tmp (d := (.val (.int .i64 (0)))) rfl .nil))), ?_⟩
   rw [hk, r_rem_eq]; rfl
end Go.Proofs.YtbecgnplakngdaaGreat
namespace Go.Proofs.YtbecgnplakngdaaGreat
open Go.Fid
set_option maxRecDepth 4000
set_option linter.unusedVariables false
set_option linter.unusedSimpArgs false
theorem s_neg {x : jK} {a : Int} {m : Nat} (hx : mG x a m) (hm : m ≤ 274877906944) : kH Tryz.prog 177 [(jZ x)] (jZ (kT (-a))) := by
 obtain ⟨rfl, hx'⟩ := hx
 exact t_neg x (by omega)
theorem s_sign {x : jK} {a : Int} {m : Nat} (hx : mG x a m) (hm : m ≤ 274877906944) : kH Tryz.prog 138 [(jZ x)] (.val (.int .i64 (uP a))) := by
 obtain ⟨rfl, hx'⟩ := hx
 exact t_sign x (by omega)
theorem s_add {x y : jK} {a b : Int} {m n : Nat} (hx : mG x a m) (hy : mG y b n) (hm : m ≤ 274877906944) (hn : n ≤ 274877906944) : kH Tryz.prog 188 [(jZ x), (jZ y)] (jZ (kT (a + b))) := by
 obtain ⟨rfl, hx'⟩ := hx; obtain ⟨rfl, hy'⟩ := hy
 exact t_add x y (by omega) (by omega)
theorem s_mul {x y : jK} {a b : Int} {m n : Nat} (hx : mG x a m) (hy : mG y b n) (hm : m ≤ 274877906944) (hn : n ≤ 274877906944) : kH Tryz.prog 140 [(jZ x), (jZ y)] (jZ (kT (a * b))) := by
 obtain ⟨rfl, hx'⟩ := hx; obtain ⟨rfl, hy'⟩ := hy
 exact t_mul x y (by omega) (by omega)
theorem s_compare {x y : jK} {a b : Int} {m n : Nat} (hx : mG x a m) (hy : mG y b n) (hm : m ≤ 274877906944) (hn : n ≤ 274877906944) : kH Tryz.prog 144 [(jZ x), (jZ y)] (.val (.int .i64 (xE a b))) := by
 obtain ⟨rfl, hx'⟩ := hx; obtain ⟨rfl, hy'⟩ := hy
 exact t_compareI x y (by omega) (by omega)
theorem s_gcd {x y : jK} {a b : Int} {m n : Nat} (hx : mG x a m) (hy : mG y b n) (hm : m ≤ 274877906944) (hn : n ≤ 274877906944) : kH Tryz.prog 145 [(jZ x), (jZ y)] (jZ (kT ((Int.gcd a b : Nat) : Int))) := by
 obtain ⟨rfl, hx'⟩ := hx; obtain ⟨rfl, hy'⟩ := hy
 exact t_gcdI x y (by omega) (by omega)
theorem s_divide {x y : jK} {a b : Int} {m n : Nat} (hx : mG x a m) (hy : mG y b n) (hm : m ≤ 274877906944) (hn : n ≤ 274877906944) (hb : b ≠ 0) : kH Tryz.prog 151 [(jZ x), (jZ y)] (.tup [(jZ (kT (a.fdiv b))), (jZ (kT (a.fmod b))), (.val (.int .i64 0))]) := by
 obtain ⟨rfl, hx'⟩ := hx; obtain ⟨rfl, hy'⟩ := hy
 exact t_divideI x y (by omega) (by omega) hb
theorem rs_neg {x : jK} {a : Int} {m : Nat} (hx : mG x a m) (hm : m ≤ 274877906944) : kH Tryz.prog 134 [(jZ x)] (jZ (kT (-a))) := by
 obtain ⟨rfl, hx'⟩ := hx
 exact r_neg x (by omega)
theorem rs_sign {x : jK} {a : Int} {m : Nat} (hx : mG x a m) (hm : m ≤ 274877906944) : kH Tryz.prog 84 [(jZ x)] (.val (.int .i64 (uP a))) := by
 obtain ⟨rfl, hx'⟩ := hx
 exact r_sign x (by omega)
theorem rs_add {x y : jK} {a b : Int} {m n : Nat} (hx : mG x a m) (hy : mG y b n) (hm : m ≤ 274877906944) (hn : n ≤ 274877906944) : kH Tryz.prog 135 [(jZ x), (jZ y)] (jZ (kT (a + b))) := by
 obtain ⟨rfl, hx'⟩ := hx; obtain ⟨rfl, hy'⟩ := hy
 exact r_add x y (by omega) (by omega)
theorem rs_mul {x y : jK} {a b : Int} {m n : Nat} (hx : mG x a m) (hy : mG y b n) (hm : m ≤ 274877906944) (hn : n ≤ 274877906944) : kH Tryz.prog 103 [(jZ x), (jZ y)] (jZ (kT (a * b))) := by
 obtain ⟨rfl, hx'⟩ := hx; obtain ⟨rfl, hy'⟩ := hy
 exact r_mul x y (by omega) (by omega)
theorem rs_compare {x y : jK} {a b : Int} {m n : Nat} (hx : mG x a m) (hy : mG y b n) (hm : m ≤ 274877906944) (hn : n ≤ 274877906944) : kH Tryz.prog 109 [(jZ x), (jZ y)] (.val (.int .i64 (xE a b))) := by
 obtain ⟨rfl, hx'⟩ := hx; obtain ⟨rfl, hy'⟩ := hy
 exact r_compare x y (by omega) (by omega)
theorem rs_gcd {x y : jK} {a b : Int} {m n : Nat} (hx : mG x a m) (hy : mG y b n) (hm : m ≤ 274877906944) (hn : n ≤ 274877906944) : kH Tryz.prog 110 [(jZ x), (jZ y)] (jZ (kT ((Int.gcd a b : Nat) : Int))) := by
 obtain ⟨rfl, hx'⟩ := hx; obtain ⟨rfl, hy'⟩ := hy
 exact r_gcd x y (by omega) (by omega)
theorem rs_divide {x y : jK} {a b : Int} {m n : Nat} (hx : mG x a m) (hy : mG y b n) (hm : m ≤ 274877906944) (hn : n ≤ 274877906944) (hb : b ≠ 0) : kH Tryz.prog 136 [(jZ x), (jZ y)] (.tup [(jZ (kT (a.fdiv b))), (jZ (kT (a.fmod b))), (.val (.int .i64 0))]) := by
 obtain ⟨rfl, hx'⟩ := hx; obtain ⟨rfl, hy'⟩ := hy
 exact r_divide x y (by omega) (by omega) hb
end Go.Proofs.YtbecgnplakngdaaGreat
namespace Go.Proofs.YtbecgnplakngdaaGreat
open Go.Fid
set_option maxRecDepth 4000
set_option linter.unusedVariables false
set_option linter.unusedSimpArgs false
theorem cb97 : callB Tryz.prog 97 = true := by kernel_rfl
theorem cb102 : callB Tryz.prog 102 = true := by kernel_rfl
theorem cb104 : callB Tryz.prog 104 = true := by kernel_rfl
theorem cb105 : callB Tryz.prog 105 = true := by kernel_rfl
theorem cb121 : callB Tryz.prog 121 = true := by kernel_rfl
theorem cb130 : callB Tryz.prog 130 = true := by kernel_rfl
theorem cb137 : callB Tryz.prog 137 = true := by kernel_rfl
theorem cb139 : callB Tryz.prog 139 = true := by kernel_rfl
theorem cb146 : callB Tryz.prog 146 = true := by kernel_rfl
theorem cb170 : callB Tryz.prog 170 = true := by kernel_rfl
theorem cb176 : callB Tryz.prog 176 = true := by kernel_rfl
theorem yG : xH Tryz.prog 42 0 = some 0 := by kernel_rfl
theorem yU : xH Tryz.prog 42 1 = some 2 := by kernel_rfl
theorem ft42_0 : lC Tryz.prog 42 0 = some (0, 40) := by kernel_rfl
theorem pl42 : cY Tryz.prog 42 = some [(0, 2), (2, 2)] := by kernel_rfl
theorem jO : qY Tryz.prog 42 = some (true, 4) := by kernel_rfl
theorem qA : xJ Tryz.prog 42 = some [.bool false, .slice none 0 0, .bool false, .slice none 0 0] := by kernel_rfl
theorem qH : dB [.bool false, .slice none 0 0, .bool false, .slice none 0 0] [.val (.bool false), .sl 152 1 [], .val (.bool false), .sl 152 1 []] := by simp [dB, Value.oneCell']
theorem f_reduced (num den : jK) (a b : Int) (fM : mG num a 68719476736) (dK : mG den b 68719476736) (hb : b ≠ 0) : kH Tryz.prog 139 [(jZ num), (jZ den)] (jM (jB (Rat.divInt a b))) := by
 refine jP Tryz.func139 rfl cb139 rfl ?_
 show uK _ _ _ _ ⟨[(0, (.d (jZ num))), (1, (.d (jZ den)))], []⟩
 refine jA <| kx [(2, (.ref 0 0)), (3, (.ref 1 0)), (4, (.ref 2 0))] [(0, some (bx (jZ num))), (1, some (bx (jZ den))), (2, some (bx (jM (kC.mk (jK.mk false []) (jK.mk false [])))))] (zN (vS 0) <| zN (vS 1) <| zN (qW 2 qA qH) <| zZ) ?_
 refine jA <| jA <| kx [(8, (vb (decide ((uP b) < 0))))] [] (zR (kF kK) <| zE (kA (s_sign dK (by decide))) <| zE qI <| zZ) ?_
 refine jV (b := decide ((uP b) < 0)) rfl (fun h1 => ?_) (fun h1 => ?_)
 ·replace h1 := of_decide_eq_true h1
  have hlt := signI_lt.1 h1
  have hb2 : -b ≠ 0 := by omega
  refine kd [] [(0, some (bx (jZ (kT (-a))))), (1, some (bx (jZ (kT (-b)))))] mo (wR (kF kK) <| wE (kA (s_neg fM (by decide))) <| wR (kF kK) <| wE (kA (s_neg dK (by decide))) <| wT (kW kK) <| wT (kW kK) <| wZ) ?_
  refine jA <| kx [(5, (.ref 3 0))] [(3, some (bx (jZ (kT ((Int.gcd (-a) (-b) : Nat) : Int)))))] (zR (kF kK) <| zR (kF kK) <| zE (kA (s_gcd (cX fM) (cX dK) (by decide) (by decide))) <| zN (qW 3 nN nR) <| zT (kW kK) <| zZ) ?_
  refine jA <| kx [] [(0, some (bx (jZ (kT ((-a).fdiv (((Int.gcd (-a) (-b) : Nat) : Int)))))))] (zR (kF kK) <| zR (kF kK) <| zE (kA (s_divide (cX fM) (nJ (k := 68719476736) (cX fM) (cX dK) (by decide)) (by decide) (by decide) (gcd_ne (by omega)))) <| zM <| zE uZ <| zE uZ <| zE uZ <| zT (kW kK) <| zZ) ?_
  refine jA <| kx [] [(1, some (bx (jZ (kT ((-b).fdiv (((Int.gcd (-a) (-b) : Nat) : Int)))))))] (zR (kF kK) <| zR (kF kK) <| zE (kA (s_divide (cX dK) (nJ (k := 68719476736) (cX fM) (cX dK) (by decide)) (by decide) (by decide) (gcd_ne (by omega)))) <| zM <| zE uZ <| zE uZ <| zE uZ <| zT (kW kK) <| zZ) ?_
  refine jA <| kx [] [(2, some (bx (jM (kC.mk (kT ((-a).fdiv (((Int.gcd (-a) (-b) : Nat) : Int)))) (kT ((-b).fdiv (((Int.gcd (-a) (-b) : Nat) : Int))))))))] (zR (kF kK) <| zR (kF kK) <| zE (oBd pl42 qA qH) <| zT (kW jO) <| zZ) ?_
  refine jJ ⟨_, (qC (cs := (bx (jM (kC.mk (kT ((-a).fdiv (((Int.gcd (-a) (-b) : Nat) : Int)))) (kT ((-b).fdiv (((Int.gcd (-a) (-b) : Nat) : Int)))))))) (d := (jM (kC.mk (kT ((-a).fdiv (((Int.gcd (-a) (-b) : Nat) : Int)))) (kT ((-b).fdiv (((Int.gcd (-a) (-b) : Nat) : Int))))))) rfl rfl jO rfl rfl .nil), ?_⟩
  rw [red_neg hlt]; rfl
 ·replace h1 := of_decide_eq_false h1
  have hge : ¬ b < 0 := fun hh => h1 (signI_lt.2 hh)
  refine jE <| jA <| kx [(5, (.ref 4 0))] [(4, some (bx (jZ (kT ((Int.gcd a b : Nat) : Int)))))] (zR (kF kK) <| zR (kF kK) <| zE (kA (s_gcd fM dK (by decide) (by decide))) <| zN (qW 4 nN nR) <| zT (kW kK) <| zZ) ?_
  refine jA <| kx [] [(0, some (bx (jZ (kT (a.fdiv (((Int.gcd a b : Nat) : Int)))))))] (zR (kF kK) <| zR (kF kK) <| zE (kA (s_divide fM (nJ (k := 68719476736) fM dK (by decide)) (by decide) (by decide) (gcd_ne (by omega)))) <| zM <| zE uZ <| zE uZ <| zE uZ <| zT (kW kK) <| zZ) ?_
  refine jA <| kx [] [(1, some (bx (jZ (kT (b.fdiv (((Int.gcd a b : Nat) : Int)))))))] (zR (kF kK) <| zR (kF kK) <| zE (kA (s_divide dK (nJ (k := 68719476736) fM dK (by decide)) (by decide) (by decide) (gcd_ne (by omega)))) <| zM <| zE uZ <| zE uZ <| zE uZ <| zT (kW kK) <| zZ) ?_
  refine jA <| kx [] [(2, some (bx (jM (kC.mk (kT (a.fdiv (((Int.gcd a b : Nat) : Int)))) (kT (b.fdiv (((Int.gcd a b : Nat) : Int))))))))] (zR (kF kK) <| zR (kF kK) <| zE (oBd pl42 qA qH) <| zT (kW jO) <| zZ) ?_
  refine jJ ⟨_, (qC (cs := (bx (jM (kC.mk (kT (a.fdiv (((Int.gcd a b : Nat) : Int)))) (kT (b.fdiv (((Int.gcd a b : Nat) : Int)))))))) (d := (jM (kC.mk (kT (a.fdiv (((Int.gcd a b : Nat) : Int)))) (kT (b.fdiv (((Int.gcd a b : Nat) : Int))))))) rfl rfl jO rfl rfl .nil), ?_⟩
  rw [red_pos hge hb]; rfl
theorem eU (n : Int) (hlo : -9223372036854775808 ≤ n) (hhi : n ≤ 9223372036854775807) : kH Tryz.prog 102 [(.val (.int .i64 (n)))] (jM (jB ((n : Int) : Rat))) := by
 refine jP Tryz.func102 rfl cb102 rfl ?_
 show uK _ _ _ _ ⟨[(0, (vi n))], []⟩
 refine jA <| kx [(2, (.ref 0 0))] [(0, some (bx (jM (kC.mk (jK.mk false []) (jK.mk false [])))))] (zN (qW 0 qA qH) <| zZ) ?_
 refine jA <| kx [] [(0, some (bx (jM (kC.mk (kT n) (kT 1)))))] (zM <| zE (kA (t_of n (by omega) (by omega))) <| zE (kA (t_of 1 (by decide) (by decide))) <| zE (oBd pl42 qA qH) <| zT (kW jO) <| zZ) ?_
 refine jJ ⟨_, (qC (cs := (bx (jM (kC.mk (kT n) (kT 1))))) (d := (jM (kC.mk (kT n) (kT 1)))) rfl rfl jO rfl rfl .nil), ?_⟩
 rfl
theorem f_valid (x : kC) (p : Rat) (hx : QOk x p 17179869184) : kH Tryz.prog 104 [(jM x)] (.val (.bool ((xM x)))) := by
 refine jP Tryz.func104 rfl cb104 rfl ?_
 show uK _ _ _ _ ⟨[(0, (.d (jM x)))], []⟩
 refine jA <| kx [(1, (.ref 0 0))] [(0, some (bx (jM x)))] (zN (vS 0) <| zM <| zZ) ?_
 refine jA <| jA <| kx [(18, (vb ((!(vF x.num) || !(vF x.den)) || decide ((uP (kI x.den)) ≤ 0))))] [] ?_ ?_
 ·refine zE (kS yG) <| zR (kF kK) <| zE (kA (t_valid x.num (Nat.le_trans (gN hx.n1).l (by decide)))) <| zE oNt <| zE (oV (vb (!(vF x.num))) (xI (by kernel_rfl))) <| ?_
  rcases hb1 : (!(vF x.num)) with _ | _
  ·refine zE (kS yU) <| zR (kF kK) <| zE (kA (t_valid x.den (Nat.le_trans (gN hx.n2).l (by decide)))) <| zE oNt <| zE oPo <| zE (oV (vb (false || !(vF x.den))) (xI (by kernel_rfl))) <| ?_
   rcases hb2 : (false || !(vF x.den)) with _ | _
   ·exact zE (kS yU) <| zR (kF kK) <| zE (kA (s_sign (gN hx.n2) (by decide))) <| zE oLe <| zE oPo <| zZ
   ·exact zK <| zK <| zK <| zK <| zE bW <| zZ
  ·exact zK <| zK <| zK <| zK <| zE bW <| zM <| zK <| zK <| zK <| zK <| zE bW <| zZ
 refine jV rfl (fun h3 => ?_) (fun h3 => ?_)
 ·refine jA <| kx [(2, (vb false))] [] (zM <| zZ) ?_
  refine jJ ⟨_, (.tmp (d := (.val (.bool (false)))) rfl .nil), ?_⟩
  rw [validR_no h3]; rfl
 ·refine jE <| jA <| kx [(2, (vb ((xE (((Int.gcd (kI x.num) (kI x.den) : Nat) : Int)) 1) == 0)))] [] (zE (kS yG) <| zR (kF kK) <| zE (kS yU) <| zR (kF kK) <| zE (kA (s_gcd (gN hx.n1) (gN hx.n2) (by decide) (by decide))) <| zE (kA (t_of 1 (by decide) (by decide))) <| zE (kA (s_compare (nJ (k := 17179869184) (gN hx.n1) (gN hx.n2) (by decide)) (cJ (z := 1) (by decide)) (by decide) (by decide))) <| zE cB <| zM <| zZ) ?_
  refine jJ ⟨_, (.tmp (d := (.val (.bool (((xE (((Int.gcd (kI x.num) (kI x.den) : Nat) : Int)) 1) == 0))))) rfl .nil), ?_⟩
  rw [validR_yes h3]; rfl
theorem f_copied (x : kC) (p : Rat) (hx : QOk x p 17179869184) : kH Tryz.prog 176 [(jM x)] (jM (kC.mk (kT (-(-kI x.num))) (kT (-(-kI x.den))))) := by
 refine jP Tryz.func176 rfl cb176 rfl ?_
 show uK _ _ _ _ ⟨[(0, (.d (jM x)))], []⟩
 refine jA <| kx [(1, (.ref 0 0)), (2, (.ref 1 0))] [(0, some (bx (jM x))), (1, some (bx (jM (kC.mk (jK.mk false []) (jK.mk false [])))))] (zN (vS 0) <| zN (qW 1 qA qH) <| zZ) ?_
 refine jA <| kd [] [(1, some (bx (jM (kC.mk (kT (-(-(kI x.num)))) (kT (-(-(kI x.den))))))))] mo (wE (kS yG) <| wR (kF kK) <| wE (kA (s_neg (gN hx.n1) (by decide))) <| wE (kA (s_neg (cX (gN hx.n1)) (by decide))) <| wE (kS yU) <| wR (kF kK) <| wE (kA (s_neg (gN hx.n2) (by decide))) <| wE (kA (s_neg (cX (gN hx.n2)) (by decide))) <| wE (oBd pl42 qA qH) <| wT (kW jO) <| wZ) ?_
 refine jJ ⟨_, (qC (cs := (bx (jM (kC.mk (kT (-(-(kI x.num)))) (kT (-(-(kI x.den)))))))) (d := (jM (kC.mk (kT (-(-(kI x.num)))) (kT (-(-(kI x.den))))))) rfl rfl jO rfl rfl .nil), ?_⟩
 rfl
theorem bC (x : kC) (p : Rat) (hx : QOk x p 17179869184) : kH Tryz.prog 137 [(jM x)] (jM (jB p)) := by
 refine jP Tryz.func137 rfl cb137 rfl ?_
 show uK _ _ _ _ ⟨[(0, (.d (jM x)))], []⟩
 refine jA <| kx [(1, (.ref 0 0)), (2, (.ref 1 0))] [(0, some (bx (jM x))), (1, some (bx (jM (kC.mk (jK.mk false []) (jK.mk false [])))))] (zN (vS 0) <| zN (qW 1 qA qH) <| zZ) ?_
 refine jA <| jA <| kx [(4, (vb (xM x)))] [] (zR (kF jO) <| zE (kA (f_valid x p hx)) <| zZ) ?_
 refine jV (b := (xM x)) rfl (fun h1 => ?_) (fun h1 => ?_)
 ·refine jA <| kx [] [(1, some (bx (jM (kC.mk (kT (-(-kI x.num))) (kT (-(-kI x.den)))))))] (zR (kF jO) <| zE (kA (f_copied x p hx)) <| zT (kW jO) <| zZ) ?_
  refine jJ ⟨_, (qC (cs := (bx (jM (kC.mk (kT (-(-kI x.num))) (kT (-(-kI x.den))))))) (d := (jM (kC.mk (kT (-(-kI x.num))) (kT (-(-kI x.den)))))) rfl rfl jO rfl rfl .nil), ?_⟩
  rw [← hx.v, ← copied_eq h1]; rfl
 ·refine jE <| jA <| kx [] [(1, some (bx (jM (jB ((0 : Int) : Rat)))))] (zE (kA (eU 0 (by decide) (by decide))) <| zT (kW jO) <| zZ) ?_
  refine jJ ⟨_, (qC (cs := (bx (jM (jB ((0 : Int) : Rat))))) (d := (jM (jB ((0 : Int) : Rat)))) rfl rfl jO rfl rfl .nil), ?_⟩
  rw [← hx.v, toQ_bad h1]; rfl
theorem f_sign (x : kC) (p : Rat) (hx : QOk x p 17179869184) : kH Tryz.prog 105 [(jM x)] (.val (.int .i64 ((uI p)))) := by
 refine jP Tryz.func105 rfl cb105 rfl ?_
 show uK _ _ _ _ ⟨[(0, (.d (jM x)))], []⟩
 refine jA <| kx [(1, (.ref 0 0))] [(0, some (bx (jM x)))] (zN (vS 0) <| zM <| zZ) ?_
 refine jA <| kx [(2, (vi (uP p.num)))] [] (zR (kF jO) <| zE (kA (bC x p hx)) <| zE (oFv ft42_0 kK) <| zE (kA (s_sign (qZ hx.ql) (by decide))) <| zM <| zZ) ?_
 refine jJ ⟨_, (.tmp (d := (.val (.int .i64 ((uP p.num))))) rfl .nil), ?_⟩
 rfl
theorem f_neg (x : kC) (p : Rat) (hx : QOk x p 17179869184) : kH Tryz.prog 170 [(jM x)] (jM (jB (-p))) := by
 refine jP Tryz.func170 rfl cb170 rfl ?_
 show uK _ _ _ _ ⟨[(0, (.d (jM x)))], []⟩
 refine jA <| kx [(1, (.ref 0 0)), (2, (.ref 1 0))] [(0, some (bx (jM x))), (1, some (bx (jM (kC.mk (jK.mk false []) (jK.mk false [])))))] (zN (vS 0) <| zN (qW 1 qA qH) <| zZ) ?_
 refine jA <| kx [] [(0, some (bx (jM (jB p))))] (zR (kF jO) <| zE (kA (bC x p hx)) <| zT (kW jO) <| zZ) ?_
 refine jA <| kd [] [(1, some (bx (jM (kC.mk (kT (-p.num)) ((jB p).den)))))] mo (wE (kS yG) <| wR (kF kK) <| wE (kA (s_neg (qZ hx.ql) (by decide))) <| wE (kS yU) <| wR (kF kK) <| wE (oBd pl42 qA qH) <| wT (kW jO) <| wZ) ?_
 refine jJ ⟨_, (qC (cs := (bx (jM (kC.mk (kT (-p.num)) ((jB p).den))))) (d := (jM (kC.mk (kT (-p.num)) ((jB p).den)))) rfl rfl jO rfl rfl .nil), ?_⟩
 rfl
theorem f_add (x : kC) (y : kC) (p : Rat) (q : Rat) (hx : QOk x p 17179869184) (hy : QOk y q 17179869184) : kH Tryz.prog 146 [(jM x), (jM y)] (jM (jB (p + q))) := by
 refine jP Tryz.func146 rfl cb146 rfl ?_
 show uK _ _ _ _ ⟨[(0, (.d (jM x))), (1, (.d (jM y)))], []⟩
 refine jA <| kx [(2, (.ref 0 0)), (3, (.ref 1 0)), (4, (.ref 2 0))] [(0, some (bx (jM x))), (1, some (bx (jM y))), (2, some (bx (jM (kC.mk (jK.mk false []) (jK.mk false [])))))] (zN (vS 0) <| zN (vS 1) <| zN (qW 2 qA qH) <| zZ) ?_
 refine jA <| kd [] [(0, some (bx (jM (jB p)))), (1, some (bx (jM (jB q))))] mo (wR (kF jO) <| wE (kA (bC x p hx)) <| wR (kF jO) <| wE (kA (bC y q hy)) <| wT (kW jO) <| wT (kW jO) <| wZ) ?_
 refine jA <| kd [] [(2, some (bx (jM (jB (Rat.divInt ((p.num * (q.den : Int)) + (q.num * (p.den : Int))) ((p.den : Int) * (q.den : Int)))))))] mo (wE (kS yG) <| wR (kF kK) <| wE (kS yU) <| wR (kF kK) <| wE (kA (s_mul (qZ hx.ql) (uU hy.ql) (by decide) (by decide))) <| wE (kS yG) <| wR (kF kK) <| wE (kS yU) <| wR (kF kK) <| wE (kA (s_mul (qZ hy.ql) (uU hx.ql) (by decide) (by decide))) <| wE (kA (s_add (gM (k := 34359738368) (qZ hx.ql) (uU hy.ql) (by decide)) (gM (k := 34359738368) (qZ hy.ql) (uU hx.ql) (by decide)) (by decide) (by decide))) <| wE (kS yU) <| wR (kF kK) <| wE (kS yU) <| wR (kF kK) <| wE (kA (s_mul (uU hx.ql) (uU hy.ql) (by decide) (by decide))) <| wE (kA (f_reduced (kT ((p.num * (q.den : Int)) + (q.num * (p.den : Int)))) (kT ((p.den : Int) * (q.den : Int))) ((p.num * (q.den : Int)) + (q.num * (p.den : Int))) ((p.den : Int) * (q.den : Int)) (nS (iok_add (k := 34359738369) (gM (k := 34359738368) (qZ hx.ql) (uU hy.ql) (by decide)) (gM (k := 34359738368) (qZ hy.ql) (uU hx.ql) (by decide)) (by decide)) (by decide)) (nS (gM (k := 34359738368) (uU hx.ql) (uU hy.ql) (by decide)) (by decide)) (mul_ne (aD _) (aD _)))) <| wT (kW jO) <| wZ) ?_
 refine jJ ⟨_, (qC (cs := (bx (jM (jB (Rat.divInt ((p.num * (q.den : Int)) + (q.num * (p.den : Int))) ((p.den : Int) * (q.den : Int))))))) (d := (jM (jB (Rat.divInt ((p.num * (q.den : Int)) + (q.num * (p.den : Int))) ((p.den : Int) * (q.den : Int)))))) rfl rfl jO rfl rfl .nil), ?_⟩
 rw [add_divInt]; rfl
theorem f_sub (x : kC) (y : kC) (p : Rat) (q : Rat) (hx : QOk x p 17179869184) (hy : QOk y q 17179869184) : kH Tryz.prog 130 [(jM x), (jM y)] (jM (jB (p - q))) := by
 refine jP Tryz.func130 rfl cb130 rfl ?_
 show uK _ _ _ _ ⟨[(0, (.d (jM x))), (1, (.d (jM y)))], []⟩
 refine jA <| kx [(2, (.ref 0 0)), (3, (.ref 1 0)), (4, (.ref 2 0))] [(0, some (bx (jM x))), (1, some (bx (jM y))), (2, some (bx (jM (kC.mk (jK.mk false []) (jK.mk false [])))))] (zN (vS 0) <| zN (vS 1) <| zN (qW 2 qA qH) <| zZ) ?_
 refine jA <| kd [] [(2, some (bx (jM (jB (p + (-q))))))] mo (wR (kF jO) <| wR (kF jO) <| wE (kA (f_neg y q hy)) <| wE (kA (f_add x (jB (-q)) p (-q) hx (jY (ql_neg hy.ql)))) <| wT (kW jO) <| wZ) ?_
 refine jJ ⟨_, (qC (cs := (bx (jM (jB (p + (-q)))))) (d := (jM (jB (p + (-q))))) rfl rfl jO rfl rfl .nil), ?_⟩
 rw [Rat.sub_eq_add_neg]; rfl
theorem f_mul (x : kC) (y : kC) (p : Rat) (q : Rat) (hx : QOk x p 17179869184) (hy : QOk y q 17179869184) : kH Tryz.prog 121 [(jM x), (jM y)] (jM (jB (p * q))) := by
 refine jP Tryz.func121 rfl cb121 rfl ?_
 show uK _ _ _ _ ⟨[(0, (.d (jM x))), (1, (.d (jM y)))], []⟩
 refine jA <| kx [(2, (.ref 0 0)), (3, (.ref 1 0)), (4, (.ref 2 0))] [(0, some (bx (jM x))), (1, some (bx (jM y))), (2, some (bx (jM (kC.mk (jK.mk false []) (jK.mk false [])))))] (zN (vS 0) <| zN (vS 1) <| zN (qW 2 qA qH) <| zZ) ?_
 refine jA <| kd [] [(0, some (bx (jM (jB p)))), (1, some (bx (jM (jB q))))] mo (wR (kF jO) <| wE (kA (bC x p hx)) <| wR (kF jO) <| wE (kA (bC y q hy)) <| wT (kW jO) <| wT (kW jO) <| wZ) ?_
 refine jA <| kd [] [(2, some (bx (jM (jB (Rat.divInt (p.num * q.num) ((p.den : Int) * (q.den : Int)))))))] mo (wE (kS yG) <| wR (kF kK) <| wE (kS yG) <| wR (kF kK) <| wE (kA (s_mul (qZ hx.ql) (qZ hy.ql) (by decide) (by decide))) <| wE (kS yU) <| wR (kF kK) <| wE (kS yU) <| wR (kF kK) <| wE (kA (s_mul (uU hx.ql) (uU hy.ql) (by decide) (by decide))) <| wE (kA (f_reduced (kT (p.num * q.num)) (kT ((p.den : Int) * (q.den : Int))) (p.num * q.num) ((p.den : Int) * (q.den : Int)) (nS (gM (k := 34359738368) (qZ hx.ql) (qZ hy.ql) (by decide)) (by decide)) (nS (gM (k := 34359738368) (uU hx.ql) (uU hy.ql) (by decide)) (by decide)) (mul_ne (aD _) (aD _)))) <| wT (kW jO) <| wZ) ?_
 refine jJ ⟨_, (qC (cs := (bx (jM (jB (Rat.divInt (p.num * q.num) ((p.den : Int) * (q.den : Int))))))) (d := (jM (jB (Rat.divInt (p.num * q.num) ((p.den : Int) * (q.den : Int)))))) rfl rfl jO rfl rfl .nil), ?_⟩
 rw [mul_divInt]; rfl
theorem f_divide (x : kC) (y : kC) (p : Rat) (q : Rat) (hx : QOk x p 17179869184) (hy : QOk y q 17179869184) : kH Tryz.prog 97 [(jM x), (jM y)] (.tup [(jM (divR p q)), (.val (.int .i64 ((divC q))))]) := by
 refine jP Tryz.func97 rfl cb97 rfl ?_
 show uK _ _ _ _ ⟨[(0, (.d (jM x))), (1, (.d (jM y)))], []⟩
 refine jA <| kx [(2, (.ref 0 0)), (3, (.ref 1 0)), (4, (.ref 2 0))] [(0, some (bx (jM x))), (1, some (bx (jM y))), (2, some (bx (jM (kC.mk (jK.mk false []) (jK.mk false [])))))] (zN (vS 0) <| zN (vS 1) <| zN (qW 2 qA qH) <| zM <| zZ) ?_
 refine jA <| kd [] [(0, some (bx (jM (jB p)))), (1, some (bx (jM (jB q))))] mo (wR (kF jO) <| wE (kA (bC x p hx)) <| wR (kF jO) <| wE (kA (bC y q hy)) <| wT (kW jO) <| wT (kW jO) <| wZ) ?_
 refine jA <| jA <| kx [(13, (vb ((uP q.num) == 0)))] [] (zE (kS yG) <| zR (kF kK) <| zE (kA (s_sign (qZ hy.ql) (by decide))) <| zE cB <| zZ) ?_
 refine jV (b := ((uP q.num) == 0)) rfl (fun h1 => ?_) (fun h1 => ?_)
 ·replace h1 := eq_of_beq h1
  have hq0 := nX.1 h1
  refine jA <| kx [(5, (kD 14))] [(2, some (bx (jM (kC.mk (jK.mk false []) (jK.mk false [])))))] (zE (oBd pl42 qA qH) <| zT (kW jO) <| zM <| zZ) ?_
  refine jJ ⟨_, (qC (cs := (bx (jM (kC.mk (jK.mk false []) (jK.mk false []))))) (d := (jM (kC.mk (jK.mk false []) (jK.mk false [])))) rfl rfl jO rfl rfl (.tmp (d := (.val (.int .i64 (14)))) rfl .nil)), ?_⟩
  rw [divR_zero hq0, divC_zero hq0]; rfl
 ·replace h1 := ne_of_beq_false h1
  have hq0 : q ≠ 0 := fun hh => h1 (nX.2 hh)
  refine jE <| jA <| kd [(5, (kD 0))] [(2, some (bx (jM (jB (Rat.divInt (p.num * (q.den : Int)) ((p.den : Int) * q.num))))))] mo (wE (kS yG) <| wR (kF kK) <| wE (kS yU) <| wR (kF kK) <| wE (kA (s_mul (qZ hx.ql) (uU hy.ql) (by decide) (by decide))) <| wE (kS yU) <| wR (kF kK) <| wE (kS yG) <| wR (kF kK) <| wE (kA (s_mul (uU hx.ql) (qZ hy.ql) (by decide) (by decide))) <| wE (kA (f_reduced (kT (p.num * (q.den : Int))) (kT ((p.den : Int) * q.num)) (p.num * (q.den : Int)) ((p.den : Int) * q.num) (nS (gM (k := 34359738368) (qZ hx.ql) (uU hy.ql) (by decide)) (by decide)) (nS (gM (k := 34359738368) (uU hx.ql) (qZ hy.ql) (by decide)) (by decide)) (mul_ne (aD _) (num_ne hq0)))) <| wT (kW jO) <| wM <| wZ) ?_
  refine jJ ⟨_, (qC (cs := (bx (jM (jB (Rat.divInt (p.num * (q.den : Int)) ((p.den : Int) * q.num)))))) (d := (jM (jB (Rat.divInt (p.num * (q.den : Int)) ((p.den : Int) * q.num))))) rfl rfl jO rfl rfl (.tmp (d := (.val (.int .i64 (0)))) rfl .nil)), ?_⟩
  rw [divR_ne hq0, divC_ne hq0, div_divInt]; rfl
end Go.Proofs.YtbecgnplakngdaaGreat
