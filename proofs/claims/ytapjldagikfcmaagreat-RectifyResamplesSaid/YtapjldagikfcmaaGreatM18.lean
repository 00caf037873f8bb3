/- Part 18 of a proof: rules, plain facts, and functions walked. -/
import Derived.Test.YtapjldagikfcmaaGreatM17
namespace Go.Proofs.YtapjldagikfcmaaGreat
open Go.Fid
set_option maxRecDepth 4000
set_option linter.unusedVariables false
set_option linter.unusedSimpArgs false
theorem cb93 : callB Tryz.prog 93 = true := by kernel_rfl
theorem cb144 : callB Tryz.prog 144 = true := by kernel_rfl
theorem cb216 : callB Tryz.prog 216 = true := by kernel_rfl
theorem cb217 : callB Tryz.prog 217 = true := by kernel_rfl
theorem cb219 : callB Tryz.prog 219 = true := by kernel_rfl
theorem cb237 : callB Tryz.prog 237 = true := by kernel_rfl
theorem cb263 : callB Tryz.prog 263 = true := by kernel_rfl
theorem cb265 : callB Tryz.prog 265 = true := by kernel_rfl
theorem r_neg (x : jI) (hx : x.gs.length ≤ 1099511627776) : kH Tryz.prog 237 [(jV x)] (jV (kN (-kI x))) := by
 have hvx := eD x
 refine jM Tryz.func237 rfl cb237 rfl ?_
 show uY _ _ _ _ ⟨[(0, (.d (jV x)))], []⟩
 refine jA <| kx [(1, (.ref 0 0)), (2, (.ref 1 0))] [(0, some (bx (jV x))), (1, some (bx (jV (jI.mk false []))))] (zN (vD 0) <| zN (uK 1 hH hM) <| zZ) ?_
 refine jA <| kx [] [(0, some (bx (jV (kN (kI x)))))] (zR (kC kK) <| zE (kB (eC x (by omega))) <| zT (qG kK) <| zZ) ?_
 refine jA <| kx [] [(1, some (bx (jV (yD (!((kN (kI x)).neg)) (val (ofNat (Int.natAbs (kI x))))))))] (zE (kE zQ) <| zR (qR dX) <| zE oNt <| zE (kE yB) <| zR (qR gF) <| zE (kB (nZ (!((kN (kI x)).neg)) (ofNat (Int.natAbs (kI x))) (by first | assumption | exact kW _ | exact (uD _).1 | exact (uH _).1) (by omega))) <| zT (qG kK) <| zZ) ?_
 refine jF ⟨_, (qS (cs := (bx (jV (yD (!((kN (kI x)).neg)) (val (ofNat (Int.natAbs (kI x)))))))) (d := (jV (yD (!((kN (kI x)).neg)) (val (ofNat (Int.natAbs (kI x))))))) rfl rfl kK rfl rfl .nil), ?_⟩
 rw [← rneg_eq]; rfl
theorem r_sign (x : jI) (hx : x.gs.length ≤ 1099511627776) : kH Tryz.prog 93 [(jV x)] (.val (.int .i64 ((vC (kI x))))) := by
 have hvx := eD x
 refine jM Tryz.func93 rfl cb93 rfl ?_
 show uY _ _ _ _ ⟨[(0, (.d (jV x)))], []⟩
 refine jA <| kx [(1, (.ref 0 0))] [(0, some (bx (jV x)))] (zN (vD 0) <| zM <| zZ) ?_
 refine jA <| kx [] [(0, some (bx (jV (kN (kI x)))))] (zR (kC kK) <| zE (kB (eC x (by omega))) <| zT (qG kK) <| zZ) ?_
 refine jA <| jA <| kx [(8, (vb ((((ofNat (Int.natAbs (kI x))).length : Nat) : Int) == 0)))] [] (zE (kE yB) <| zR (qR gF) <| zE (nE kY (L := (ofNat (Int.natAbs (kI x))))) <| zE xK <| zZ) ?_
 refine jO rfl (fun h1 => ?_) (fun h1 => ?_)
 ·replace h1 := eq_of_beq h1
  refine jA <| kx [(2, (kD 0))] [] (zM <| zZ) ?_
  refine jF ⟨_, (.tmp (d := (.val (.int .i64 (0)))) rfl .nil), ?_⟩
  rw [rsign_zero h1]; rfl
 ·replace h1 := ne_of_beq_false h1
  refine jB <| jA <| jA <| kx [(10, (vb ((kN (kI x)).neg)))] [] (zE (kE zQ) <| zR (qR dX) <| zZ) ?_
  refine jO (b := (kN (kI x)).neg) rfl (fun h2 => ?_) (fun h2 => ?_)
  ·refine jA <| kx [(2, (vi (-1)))] [] (zM <| zZ) ?_
   refine jF ⟨_, (.tmp (d := (.val (.int .i64 (-1)))) rfl .nil), ?_⟩
   rw [rsign_neg h1 h2]; rfl
  ·refine jB <| jA <| kx [(2, (kD 1))] [] (zM <| zZ) ?_
   refine jF ⟨_, (.tmp (d := (.val (.int .i64 (1)))) rfl .nil), ?_⟩
   rw [rsign_pos h1 h2]; rfl
theorem r_add (x : jI) (y : jI) (hx : x.gs.length ≤ 1099511627776) (hy : y.gs.length ≤ 1099511627776) : kH Tryz.prog 263 [(jV x), (jV y)] (jV (kN (kI x + kI y))) := by
 have hvx := eD x
 have hvy := eD y
 refine jM Tryz.func263 rfl cb263 rfl ?_
 show uY _ _ _ _ ⟨[(0, (.d (jV x))), (1, (.d (jV y)))], []⟩
 refine jA <| kx [(2, (.ref 0 0)), (3, (.ref 1 0)), (4, (.ref 2 0))] [(0, some (bx (jV x))), (1, some (bx (jV y))), (2, some (bx (jV (jI.mk false []))))] (zN (vD 0) <| zN (vD 1) <| zN (uK 2 hH hM) <| zZ) ?_
 refine jA <| kd [] [(0, some (bx (jV (kN (kI x))))), (1, some (bx (jV (kN (kI y)))))] mo (wR (kC kK) <| wE (kB (eC x (by omega))) <| wR (kC kK) <| wE (kB (eC y (by omega))) <| wT (qG kK) <| wT (qG kK) <| wZ) ?_
 refine jA <| jA <| kx [(13, (vb (((kN (kI x)).neg) == ((kN (kI y)).neg))))] [] (zE (kE zQ) <| zR (qR dX) <| zE (kE zQ) <| zR (qR dX) <| zE (oEb bo4) <| zZ) ?_
 refine jO rfl (fun h1 => ?_) (fun h1 => ?_)
 ·replace h1 := eq_of_beq h1
  refine jA <| kd [] [(2, some (bx (jV (yD ((kN (kI x)).neg) (val (ofNat (val (ofNat (Int.natAbs (kI x))) + val (ofNat (Int.natAbs (kI y))))))))))] mo (wE (kE zQ) <| wR (qR dX) <| wE (kE yB) <| wR (qR gF) <| wE (kE yB) <| wR (qR gF) <| wE (kB (r_plus (ofNat (Int.natAbs (kI x))) (ofNat (Int.natAbs (kI y))) (by first | assumption | exact kW _ | exact (uD _).1 | exact (uH _).1) (by first | assumption | exact kW _ | exact (uD _).1 | exact (uH _).1) (by omega) (by omega))) <| wE (kB (nZ ((kN (kI x)).neg) (ofNat (val (ofNat (Int.natAbs (kI x))) + val (ofNat (Int.natAbs (kI y))))) (by first | assumption | exact kW _ | exact (uD _).1 | exact (uH _).1) (by first | omega | exact Nat.le_trans (add_len (kW _) (kW _)) (by omega) | exact Nat.le_trans (sub_len (kW _)) (by omega)))) <| wT (qG kK) <| wZ) ?_
  refine jF ⟨_, (qS (cs := (bx (jV (yD ((kN (kI x)).neg) (val (ofNat (val (ofNat (Int.natAbs (kI x))) + val (ofNat (Int.natAbs (kI y)))))))))) (d := (jV (yD ((kN (kI x)).neg) (val (ofNat (val (ofNat (Int.natAbs (kI x))) + val (ofNat (Int.natAbs (kI y))))))))) rfl rfl kK rfl rfl .nil), ?_⟩
  rw [← rsum_same h1]; rfl
 ·replace h1 := ne_of_beq_false h1
  refine jB <| jA <| jA <| kx [(27, (vb (decide (0 ≤ (xR ((val (ofNat (Int.natAbs (kI x))) : Nat) : Int) ((val (ofNat (Int.natAbs (kI y))) : Nat) : Int))))))] [] (zE (kE yB) <| zR (qR gF) <| zE (kE yB) <| zR (qR gF) <| zE (kB (r_size (ofNat (Int.natAbs (kI x))) (ofNat (Int.natAbs (kI y))) (by first | assumption | exact uD _ | exact uH _) (by first | assumption | exact uD _ | exact uH _) (by omega) (by omega))) <| zE oGe <| zZ) ?_
  refine jO rfl (fun h2 => ?_) (fun h2 => ?_)
  ·replace h2 := of_decide_eq_true h2
   refine jA <| kd [] [(2, some (bx (jV (yD ((kN (kI x)).neg) (val (ofNat (val (ofNat (Int.natAbs (kI x))) - val (ofNat (Int.natAbs (kI y))))))))))] mo (wE (kE zQ) <| wR (qR dX) <| wE (kE yB) <| wR (qR gF) <| wE (kE yB) <| wR (qR gF) <| wE (kB (r_minus (ofNat (Int.natAbs (kI x))) (ofNat (Int.natAbs (kI y))) (by first | assumption | exact kW _ | exact (uD _).1 | exact (uH _).1) (by first | assumption | exact kW _ | exact (uD _).1 | exact (uH _).1) (by have := bS h2; omega) (by omega))) <| wE (kB (nZ ((kN (kI x)).neg) (ofNat (val (ofNat (Int.natAbs (kI x))) - val (ofNat (Int.natAbs (kI y))))) (by first | assumption | exact kW _ | exact (uD _).1 | exact (uH _).1) (by first | omega | exact Nat.le_trans (add_len (kW _) (kW _)) (by omega) | exact Nat.le_trans (sub_len (kW _)) (by omega)))) <| wT (qG kK) <| wZ) ?_
   refine jF ⟨_, (qS (cs := (bx (jV (yD ((kN (kI x)).neg) (val (ofNat (val (ofNat (Int.natAbs (kI x))) - val (ofNat (Int.natAbs (kI y)))))))))) (d := (jV (yD ((kN (kI x)).neg) (val (ofNat (val (ofNat (Int.natAbs (kI x))) - val (ofNat (Int.natAbs (kI y))))))))) rfl rfl kK rfl rfl .nil), ?_⟩
   rw [← rsum_first h1 (by have := bS h2; omega)]; rfl
  ·replace h2 := of_decide_eq_false h2
   refine jB <| jA <| kd [] [(2, some (bx (jV (yD ((kN (kI y)).neg) (val (ofNat (val (ofNat (Int.natAbs (kI y))) - val (ofNat (Int.natAbs (kI x))))))))))] mo (wE (kE zQ) <| wR (qR dX) <| wE (kE yB) <| wR (qR gF) <| wE (kE yB) <| wR (qR gF) <| wE (kB (r_minus (ofNat (Int.natAbs (kI y))) (ofNat (Int.natAbs (kI x))) (by first | assumption | exact kW _ | exact (uD _).1 | exact (uH _).1) (by first | assumption | exact kW _ | exact (uD _).1 | exact (uH _).1) (by have := cmpI_lt h2; omega) (by omega))) <| wE (kB (nZ ((kN (kI y)).neg) (ofNat (val (ofNat (Int.natAbs (kI y))) - val (ofNat (Int.natAbs (kI x))))) (by first | assumption | exact kW _ | exact (uD _).1 | exact (uH _).1) (by first | omega | exact Nat.le_trans (add_len (kW _) (kW _)) (by omega) | exact Nat.le_trans (sub_len (kW _)) (by omega)))) <| wT (qG kK) <| wZ) ?_
   refine jF ⟨_, (qS (cs := (bx (jV (yD ((kN (kI y)).neg) (val (ofNat (val (ofNat (Int.natAbs (kI y))) - val (ofNat (Int.natAbs (kI x)))))))))) (d := (jV (yD ((kN (kI y)).neg) (val (ofNat (val (ofNat (Int.natAbs (kI y))) - val (ofNat (Int.natAbs (kI x))))))))) rfl rfl kK rfl rfl .nil), ?_⟩
   rw [← rsum_second h1 (by have := cmpI_lt h2; omega)]; rfl
theorem r_sub (x : jI) (y : jI) (hx : x.gs.length ≤ 1099511627776) (hy : y.gs.length ≤ 1099511627776) : kH Tryz.prog 216 [(jV x), (jV y)] (jV (kN (kI x - kI y))) := by
 have hv := gs_neg y
 refine jM Tryz.func216 rfl cb216 rfl ?_
 show uY _ _ _ _ ⟨[(0, (.d (jV x))), (1, (.d (jV y)))], []⟩
 refine jA <| kx [(2, (.ref 0 0)), (3, (.ref 1 0)), (4, (.ref 2 0))] [(0, some (bx (jV x))), (1, some (bx (jV y))), (2, some (bx (jV (jI.mk false []))))] (zN (vD 0) <| zN (vD 1) <| zN (uK 2 hH hM) <| zZ) ?_
 refine jA <| kd [] [(2, some (bx (jV (kN (kI x + kI (kN (-kI y)))))))] mo (wR (kC kK) <| wR (kC kK) <| wE (kB (r_neg y (by omega))) <| wE (kB (r_add x (kN (-kI y)) (by omega) (by omega))) <| wT (qG kK) <| wZ) ?_
 refine jF ⟨_, (qS (cs := (bx (jV (kN (kI x + kI (kN (-kI y))))))) (d := (jV (kN (kI x + kI (kN (-kI y)))))) rfl rfl kK rfl rfl .nil), ?_⟩
 rw [cX, ← Int.sub_eq_add_neg]; rfl
theorem r_mul (x : jI) (y : jI) (hx : x.gs.length ≤ 1099511627776) (hy : y.gs.length ≤ 1099511627776) : kH Tryz.prog 144 [(jV x), (jV y)] (jV (kN (kI x * kI y))) := by
 have hvx := eD x
 have hvy := eD y
 have hda := kW (Int.natAbs (kI x))
 have hdb := kW (Int.natAbs (kI y))
 refine jM Tryz.func144 rfl cb144 rfl ?_
 show uY _ _ _ _ ⟨[(0, (.d (jV x))), (1, (.d (jV y)))], []⟩
 refine jA <| kx [(2, (.ref 0 0)), (3, (.ref 1 0)), (4, (.ref 2 0))] [(0, some (bx (jV x))), (1, some (bx (jV y))), (2, some (bx (jV (jI.mk false []))))] (zN (vD 0) <| zN (vD 1) <| zN (uK 2 hH hM) <| zZ) ?_
 refine jA <| kd [] [(0, some (bx (jV (kN (kI x))))), (1, some (bx (jV (kN (kI y)))))] mo (wR (kC kK) <| wE (kB (eC x (by omega))) <| wR (kC kK) <| wE (kB (eC y (by omega))) <| wT (qG kK) <| wT (qG kK) <| wZ) ?_
 refine jA <| kx [(5, (.own 3 181 1 ((ofNat (Int.natAbs (kI x))).length + (ofNat (Int.natAbs (kI y))).length)))] [(3, some (bm jC (List.replicate ((ofNat (Int.natAbs (kI x))).length + (ofNat (Int.natAbs (kI y))).length) 0)))] (zE (kE yB) <| zR (qR gF) <| zE (nE kY (L := (ofNat (Int.natAbs (kI x))))) <| zE (kE yB) <| zR (qR gF) <| zE (nE kY (L := (ofNat (Int.natAbs (kI y))))) <| zE (uE ((ofNat (Int.natAbs (kI x))).length + (ofNat (Int.natAbs (kI y))).length)) <| zN (oMk 3 jC (0 : Nat) ((ofNat (Int.natAbs (kI x))).length + (ofNat (Int.natAbs (kI y))).length) ((ofNat (Int.natAbs (kI x))).length + (ofNat (Int.natAbs (kI y))).length) kY xZ gL mF) <| zM <| zZ) ?_
 refine jA <| jA <| kx [(6, (kD 0))] [] (zM <| zZ) ?_
 refine jE <| uN (α := Nat × List Nat) (fun (i, out) => ⟨[(2, (.ref 0 0)), (3, (.ref 1 0)), (4, (.ref 2 0)), (5, (.own 3 181 1 ((ofNat (Int.natAbs (kI x))).length + (ofNat (Int.natAbs (kI y))).length))), (6, (kD i))], [(0, some (bx (jV (kN (kI x))))), (1, some (bx (jV (kN (kI y))))), (2, some (bx (jV (jI.mk false [])))), (3, some (bm jC out))]⟩) (fun (i, out) => out.length = (ofNat (Int.natAbs (kI x))).length + (ofNat (Int.natAbs (kI y))).length ∧ Dig out ∧ i ≤ (ofNat (Int.natAbs (kI x))).length ∧ (∀ k, i + (ofNat (Int.natAbs (kI y))).length ≤ k → out.getD k 0 = 0) ∧ val out = val ((ofNat (Int.natAbs (kI x))).take i) * val (ofNat (Int.natAbs (kI y)))) (fun (i, out) => (ofNat (Int.natAbs (kI x))).length - i) (0, List.replicate ((ofNat (Int.natAbs (kI x))).length + (ofNat (Int.natAbs (kI y))).length) 0) wk ⟨by simp, yM _, Nat.zero_le _, fun k _ => fZ _ k, by simp [val, eA]⟩ ?_
 rintro ⟨i, out⟩ ⟨vJ, hdo, hi, hz, hv⟩
 have hai := hda.getD i
 refine jA <| jA <| kx [(26, (vb (decide (((i : Nat) : Int) < (((ofNat (Int.natAbs (kI x))).length : Nat) : Int)))))] [] (zM <| zE (kE yB) <| zR (qR gF) <| zE (nE kY (L := (ofNat (Int.natAbs (kI x))))) <| zE qY <| zZ) ?_
 refine jO rfl (fun h1 => ?_) (fun h1 => ?_)
 ·replace h1 := of_decide_eq_true h1
  refine jB <| jA <| jE <| jA <| kx [(7, (gW 0))] [] (zM <| zZ) ?_
  refine jA <| jA <| kx [(8, (kD 0))] [] (zM <| zZ) ?_
  refine jE <| uN (α := Nat × List Nat × Nat) (fun (j, o2, c) => ⟨[(2, (.ref 0 0)), (3, (.ref 1 0)), (4, (.ref 2 0)), (5, (.own 3 181 1 ((ofNat (Int.natAbs (kI x))).length + (ofNat (Int.natAbs (kI y))).length))), (6, (kD i)), (7, (gW c)), (8, (kD j))], [(0, some (bx (jV (kN (kI x))))), (1, some (bx (jV (kN (kI y))))), (2, some (bx (jV (jI.mk false [])))), (3, some (bm jC o2))]⟩) (fun (j, o2, c) => o2.length = (ofNat (Int.natAbs (kI x))).length + (ofNat (Int.natAbs (kI y))).length ∧ Dig o2 ∧ j ≤ (ofNat (Int.natAbs (kI y))).length ∧ c < 1000000000 ∧ (∀ k, i + (ofNat (Int.natAbs (kI y))).length ≤ k → o2.getD k 0 = 0) ∧ val o2 + pw (i + j) * c = val ((ofNat (Int.natAbs (kI x))).take i) * val (ofNat (Int.natAbs (kI y))) + pw i * ((ofNat (Int.natAbs (kI x))).getD i 0 * val ((ofNat (Int.natAbs (kI y))).take j))) (fun (j, o2, c) => (ofNat (Int.natAbs (kI y))).length - j) (0, out, 0) wk ⟨vJ, hdo, Nat.zero_le _, by decide, hz, by simp [val, hv]⟩ ?_
  rintro ⟨j, o2, c⟩ ⟨hlen2, hdo2, hj, hc, hz2, hv2⟩
  have hbj := hdb.getD j
  have hoj := hdo2.getD (i + j)
  have hpq : (ofNat (Int.natAbs (kI x))).getD i 0 * (ofNat (Int.natAbs (kI y))).getD j 0 ≤ 999999999 * 999999999 := Nat.mul_le_mul (by omega) (by omega)
  refine jA <| jA <| kx [(33, (vb (decide (((j : Nat) : Int) < (((ofNat (Int.natAbs (kI y))).length : Nat) : Int)))))] [] (zM <| zE (kE yB) <| zR (qR gF) <| zE (nE kY (L := (ofNat (Int.natAbs (kI y))))) <| zE qY <| zZ) ?_
  refine jO rfl (fun h2 => ?_) (fun h2 => ?_)
  ·replace h2 := of_decide_eq_true h2
   refine jB <| jA <| jE <| jA <| kd [(9, (gW (((o2.getD (i + j) 0) + (((ofNat (Int.natAbs (kI x))).getD i 0) * ((ofNat (Int.natAbs (kI y))).getD j 0))) + c)))] [] mo (wM <| wM <| wM <| wE (uE (i + j)) <| wE (oXo kY (i + j)) <| wR (oLp uX (i + j) (0 : Nat)) <| wE (mV yY yR (o2.getD (i + j) 0)) <| wE (kE yB) <| wR (qR gF) <| wM <| wE (aC kY i (0 : Nat) (L := (ofNat (Int.natAbs (kI x))))) <| wE (xN uX) <| wE (mV yY yR ((ofNat (Int.natAbs (kI x))).getD i 0)) <| wE (kE yB) <| wR (qR gF) <| wM <| wE (aC kY j (0 : Nat) (L := (ofNat (Int.natAbs (kI y))))) <| wE (xN uX) <| wE (mV yY yR ((ofNat (Int.natAbs (kI y))).getD j 0)) <| wE (oMl (((ofNat (Int.natAbs (kI x))).getD i 0) * ((ofNat (Int.natAbs (kI y))).getD j 0))) <| wE (uE ((o2.getD (i + j) 0) + (((ofNat (Int.natAbs (kI x))).getD i 0) * ((ofNat (Int.natAbs (kI y))).getD j 0)))) <| wM <| wE (uE (((o2.getD (i + j) 0) + (((ofNat (Int.natAbs (kI x))).getD i 0) * ((ofNat (Int.natAbs (kI y))).getD j 0))) + c)) <| wM <| wZ) ?_
   refine jA <| kx [] [(3, some (bm jC (o2.set (i + j) ((((o2.getD (i + j) 0) + (((ofNat (Int.natAbs (kI x))).getD i 0) * ((ofNat (Int.natAbs (kI y))).getD j 0))) + c) % 1000000000))))] (zM <| zM <| zM <| zE (uE (i + j)) <| zM <| zE (oRe ((((o2.getD (i + j) 0) + (((ofNat (Int.natAbs (kI x))).getD i 0) * ((ofNat (Int.natAbs (kI y))).getD j 0))) + c) % 1000000000)) <| zE (mV nA nB ((((o2.getD (i + j) 0) + (((ofNat (Int.natAbs (kI x))).getD i 0) * ((ofNat (Int.natAbs (kI y))).getD j 0))) + c) % 1000000000)) <| zE (oXo kY (i + j)) <| zT (oSp uX (i + j) ((((o2.getD (i + j) 0) + (((ofNat (Int.natAbs (kI x))).getD i 0) * ((ofNat (Int.natAbs (kI y))).getD j 0))) + c) % 1000000000)) <| zZ) ?_
   refine kx [(7, (gW ((((o2.getD (i + j) 0) + (((ofNat (Int.natAbs (kI x))).getD i 0) * ((ofNat (Int.natAbs (kI y))).getD j 0))) + c) / 1000000000)))] [] (zM <| zE (oQu ((((o2.getD (i + j) 0) + (((ofNat (Int.natAbs (kI x))).getD i 0) * ((ofNat (Int.natAbs (kI y))).getD j 0))) + c) / 1000000000)) <| zM <| zZ) ?_
   refine kx [(8, (kD (j + 1)))] [] (zM <| zE (uE (j + 1)) <| zM <| zZ) ?_
   exact ⟨(j + 1, o2.set (i + j) ((o2.getD (i + j) 0 + (ofNat (Int.natAbs (kI x))).getD i 0 * (ofNat (Int.natAbs (kI y))).getD j 0 + c) % 1000000000), (o2.getD (i + j) 0 + (ofNat (Int.natAbs (kI x))).getD i 0 * (ofNat (Int.natAbs (kI y))).getD j 0 + c) / 1000000000), wk, (by obtain ⟨q1, q2⟩ := times_step (by omega) hdo2 hv2 rfl (val_take_succ _ j); exact ⟨by simpa using hlen2, q1, by omega, by omega, zero_set (by omega) hz2, q2⟩), (by first | omega | (dsimp only; omega))⟩
  ·replace h2 := of_decide_eq_false h2
   have hje : j = (ofNat (Int.natAbs (kI y))).length := by omega
   rw [hje] at hv2
   refine kJ <| kx [] [(3, some (bm jC (o2.set (i + (ofNat (Int.natAbs (kI y))).length) c)))] (zM <| zM <| zE (kE yB) <| zR (qR gF) <| zE (nE kY (L := (ofNat (Int.natAbs (kI y))))) <| zE (uE (i + (ofNat (Int.natAbs (kI y))).length)) <| zM <| zE (mV nA nB c) <| zE (oXo kY (i + (ofNat (Int.natAbs (kI y))).length)) <| zT (oSp uX (i + (ofNat (Int.natAbs (kI y))).length) c) <| zZ) ?_
   refine kx [(6, (kD (i + 1)))] [] (zM <| zE (uE (i + 1)) <| zM <| zZ) ?_
   exact ⟨(i + 1, o2.set (i + (ofNat (Int.natAbs (kI y))).length) c), wk, (by obtain ⟨q1, q2, q3, q4⟩ := times_row hdo2 (by omega) hlen2 hz2 hc hv2; exact ⟨q1, q2, by omega, q3, q4⟩), (by first | omega | (dsimp only; omega))⟩
 ·replace h1 := of_decide_eq_false h1
  have hie : i = (ofNat (Int.natAbs (kI x))).length := by omega
  rw [hie, List.take_length] at hv
  refine kJ <| jA <| kP (xY (t := 5) (k := 3) (es := List.map jC out) rfl rfl (vY _ _ (fun _ => rfl)) (xP _ _ vJ) (zB _ _ (fun _ => rfl) vJ)) ?_
  refine kx [] [(2, some (bx (jV (yD (!(((kN (kI x)).neg) == ((kN (kI y)).neg))) (val out)))))] (zE (kE zQ) <| zR (qR dX) <| zE (kE zQ) <| zR (qR dX) <| zE (oNb bo4) <| zM <| zE (kB (nZ (!(((kN (kI x)).neg) == ((kN (kI y)).neg))) out hdo (by omega))) <| zT (qG kK) <| zZ) ?_
  refine jF ⟨_, (qS (cs := (bx (jV (yD (!(((kN (kI x)).neg) == ((kN (kI y)).neg))) (val out))))) (d := (jV (yD (!(((kN (kI x)).neg) == ((kN (kI y)).neg))) (val out)))) rfl rfl kK rfl rfl .nil), ?_⟩
  rw [hv, rmul_eq]; rfl
theorem r_short (a : List Nat) (d : Nat) (hda : Dig a) (hd0 : 0 < d) (hd1 : d ≤ 1000000000) (hla : a.length ≤ 17592186044416) : kH Tryz.prog 265 [(.sl 181 1 (List.map jC a)), (.val (.int .u64 (((d : Nat) : Int))))] (.tup [(.sl 181 1 (List.map jC (ofNat (val a / d)))), (.val (.int .u64 ((((val a % d) : Nat) : Int))))]) := by
 refine jM Tryz.func265 rfl cb265 rfl ?_
 show uY _ _ _ _ ⟨[(0, (vl 181 1 jC a)), (1, (gW d))], []⟩
 refine jA <| kx [] [] (zE (aX 181 1) <| zM <| zZ) ?_
 refine jA <| kx [(6, (.own 0 181 1 a.length))] [(0, some (bm jC (List.replicate a.length 0)))] (zM <| zE (nE kY) <| zN (oMk 0 jC (0 : Nat) a.length a.length kY xZ gL mF) <| zM <| zZ) ?_
 refine jA <| kx [(7, (gW 0))] [] (zM <| zZ) ?_
 refine jA <| jA <| kx [(8, (vi (((a.length : Nat) : Int) - 1)))] [] (zM <| zE (nE kY) <| zE (cR (((a.length : Nat) : Int) - 1)) <| zM <| zZ) ?_
 refine jE <| uN (α := Nat × List Nat × Nat) (fun (k, q, yC) => ⟨[(0, (vl 181 1 jC a)), (1, (gW d)), (6, (.own 0 181 1 a.length)), (7, (gW yC)), (8, (vi (((k : Nat) : Int) - 1)))], [(0, some (bm jC q))]⟩) (fun (k, q, yC) => k ≤ a.length ∧ q.length = a.length ∧ Dig q ∧ yC < d ∧ val (a.drop k) = val (q.drop k) * d + yC) (fun (k, q, yC) => k) (a.length, List.replicate a.length 0, 0) wk ⟨Nat.le_refl _, by simp, yM _, hd0, by simp [val]⟩ ?_
 rintro ⟨k, q, yC⟩ ⟨hk, vJ, hdq, hr, hv⟩
 refine jA <| jA <| kx [(17, (vb (decide (0 ≤ (((k : Nat) : Int) - 1)))))] [] (zM <| zE oGe <| zZ) ?_
 refine jO (b := decide (0 ≤ (((k : Nat) : Int) - 1))) rfl (fun h1 => ?_) (fun h1 => ?_)
 ·replace h1 := of_decide_eq_true h1
  obtain ⟨i, rfl⟩ : ∃ i, k = i + 1 := ⟨k - 1, by omega⟩
  rw [show (((i + 1 : Nat) : Int) - 1) = ((i : Nat) : Int) from by omega]
  have hg := hda.getD i
  obtain ⟨hb1, hb2⟩ := short_bound hr hd1 hg
  refine jB <| jA <| jE <| jA <| kx [(8, (kD i)), (9, (gW ((yC * 1000000000) + (a.getD i 0))))] [] (zM <| zE (oMl (yC * 1000000000)) <| zM <| zM <| zE (aC kY i (0 : Nat)) <| zE (xN uX) <| zE (mV yY yR (a.getD i 0)) <| zE (uE ((yC * 1000000000) + (a.getD i 0))) <| zM <| zZ) ?_
  refine jA <| kx [] [(0, some (bm jC (q.set i (((yC * 1000000000) + (a.getD i 0)) / d))))] (zM <| zM <| zM <| zM <| zE (oQu (((yC * 1000000000) + (a.getD i 0)) / d)) <| zE (mV nA nB (((yC * 1000000000) + (a.getD i 0)) / d)) <| zE (oXo kY i) <| zT (oSp uX i (((yC * 1000000000) + (a.getD i 0)) / d)) <| zZ) ?_
  refine kx [(7, (gW (((yC * 1000000000) + (a.getD i 0)) % d)))] [] (zM <| zM <| zE (oRe (((yC * 1000000000) + (a.getD i 0)) % d)) <| zM <| zZ) ?_
  refine kx [(8, (vi (((i : Nat) : Int) - 1)))] [] (zM <| zE (cR (((i : Nat) : Int) - 1)) <| zM <| zZ) ?_
  exact ⟨(i, q.set i ((yC * 1000000000 + a.getD i 0) / d), (yC * 1000000000 + a.getD i 0) % d), wk, ⟨by omega, by simpa using vJ, hdq.set _ hb2, Nat.mod_lt _ hd0, rshort_step (by omega) hv rfl⟩, (by first | omega | (dsimp only; omega))⟩
 ·replace h1 := of_decide_eq_false h1
  obtain rfl : k = 0 := by omega
  obtain ⟨e1, e2⟩ := short_end (a := a) (q := q) (by rw [Nat.sub_self]; exact hv) hr
  refine kJ <| jA <| kP (xY (t := 6) (k := 0) (es := List.map jC q) rfl rfl (vY _ _ (fun _ => rfl)) (xP _ _ vJ) (zB _ _ (fun _ => rfl) vJ)) ?_
  refine kx [(4, (vl 181 1 jC (ofNat (val q)))), (5, (gW yC))] [] (zM <| zE (kB (nZ false q (by first | assumption | exact kW _ | exact (uD _).1 | exact (uH _).1) (by omega))) <| zE (oF1 aU gF) <| zM <| zM <| zM <| zZ) ?_
  refine jF ⟨_, (.tmp (d := (.sl 181 1 (List.map jC (ofNat (val q))))) rfl (.tmp (d := (.val (.int .u64 (((yC : Nat) : Int))))) rfl .nil)), ?_⟩
  rw [← e1, ← e2]; rfl
theorem r_pair (l : List Nat) (hd : Dig l) (h2 : l.length ≤ 2) : kH Tryz.prog 219 [(.sl 181 1 (List.map jC l))] (.val (.int .u64 ((((val l) : Nat) : Int)))) := by
 have h0 := hd.getD 0
 have h1 := hd.getD 1
 refine jM Tryz.func219 rfl cb219 rfl ?_
 show uY _ _ _ _ ⟨[(0, (vl 181 1 jC l))], []⟩
 refine jA <| kx [] [] (zM <| zZ) ?_
 refine jA <| kx [(2, (gW (((l.getD 1 0) * 1000000000) + (l.getD 0 0))))] [] (zM <| zE (kB (aD l 1 (by first | assumption | exact kW _ | exact (uD _).1 | exact (uH _).1))) <| zE (oMl ((l.getD 1 0) * 1000000000)) <| zM <| zE (kB (aD l 0 (by first | assumption | exact kW _ | exact (uD _).1 | exact (uH _).1))) <| zE (uE (((l.getD 1 0) * 1000000000) + (l.getD 0 0))) <| zM <| zZ) ?_
 refine jF ⟨_, (.tmp (d := (.val (.int .u64 ((((((l.getD 1 0) * 1000000000) + (l.getD 0 0)) : Nat) : Int))))) rfl .nil), ?_⟩
 rw [val_pair h2]; rfl
theorem r_parts (a b : List Nat) (hda : hC a) (hdb : hC b) (hb0 : 0 < b.length) (hla : a.length ≤ 1099511627776) (hlb : b.length ≤ 1099511627776) : kH Tryz.prog 217 [(.sl 181 1 (List.map jC a)), (.sl 181 1 (List.map jC b))] (.tup [(.sl 181 1 (List.map jC (ofNat (val a / val b)))), (.sl 181 1 (List.map jC (ofNat (val a % val b))))]) := by
 have hsc := bB hdb hb0
 have htp := iB hdb hb0
 have hbp := cO hdb hb0
 refine jM Tryz.func217 rfl cb217 rfl ?_
 show uY _ _ _ _ ⟨[(0, (vl 181 1 jC a)), (1, (vl 181 1 jC b))], []⟩
 refine jA <| kx [] [] (zE (aX 181 1) <| zE (aX 181 1) <| zZ) ?_
 refine jA <| kx [(6, (kD b.length))] [] (zM <| zE (nE kY) <| zM <| zZ) ?_
 refine jA <| jA <| kx [(19, (vb (((b.length : Nat) : Int) == 1)))] [] (zM <| zE xK <| zZ) ?_
 refine jO (b := (((b.length : Nat) : Int) == 1)) rfl (fun h1 => ?_) (fun h1 => ?_)
 ·replace h1 := eq_of_beq h1
  have hg0 := hdb.1.getD 0
  have hv1 := val_len1 (b := b) (by omega)
  have hb00 : 0 < b.getD 0 0 := by omega
  have hrl : val a % b.getD 0 0 < 1000000000 := Nat.lt_trans (Nat.mod_lt _ hb00) (by omega)
  refine jA <| kx [(7, (vl 181 1 jC (ofNat (val a / (b.getD 0 0))))), (8, (gW (val a % (b.getD 0 0))))] [] (zM <| zM <| zE (aC kY 0 (0 : Nat)) <| zE (xN uX) <| zE (mV yY yR (b.getD 0 0)) <| zE (kB (r_short a (b.getD 0 0) hda.1 (by omega) (by omega) (by omega))) <| zM <| zE vA <| zE vA <| zM <| zM <| zZ) ?_
  refine jA <| kx [(4, (vl 181 1 jC (ofNat (val a / (b.getD 0 0))))), (5, (vl 181 1 jC (ofNat (val [(val a % (b.getD 0 0))]))))] [] (zM <| zM <| zE (mV nA nB (val a % (b.getD 0 0))) <| zE (mC kY xZ gL) <| zE (kB (nZ false [(val a % (b.getD 0 0))] (gP.2 ⟨by omega, nG⟩) (by simp))) <| zE (oF1 aU gF) <| zM <| zM <| zZ) ?_
  refine jF ⟨_, (.tmp (d := (.sl 181 1 (List.map jC (ofNat (val a / (b.getD 0 0)))))) rfl (.tmp (d := (.sl 181 1 (List.map jC (ofNat (val [(val a % (b.getD 0 0))]))))) rfl .nil)), ?_⟩
  rw [hv1, dD]; rfl
 ·replace h1 := ne_of_beq_false h1
  refine jB <| jA <| jA <| kx [(38, (vb (decide ((xR ((val a : Nat) : Int) ((val b : Nat) : Int)) < 0))))] [] (zM <| zM <| zE (kB (r_size a b (by first | assumption | exact uD _ | exact uH _) (by first | assumption | exact uD _ | exact uH _) (by omega) (by omega))) <| zE qY <| zZ) ?_
  refine jO rfl (fun h2 => ?_) (fun h2 => ?_)
  ·replace h2 := of_decide_eq_true h2
   refine jA <| kx [(4, (vl 181 1 jC [])), (5, (vl 181 1 jC a))] [] (zE (mC kY xZ gL) <| zM <| zM <| zM <| zZ) ?_
   refine jF ⟨_, (.tmp (d := (.sl 181 1 (List.map jC []))) rfl (.tmp (d := (.sl 181 1 (List.map jC a))) rfl .nil)), ?_⟩
   have hlt := cmpI_neg h2
   rw [Nat.div_eq_of_lt hlt, Nat.mod_eq_of_lt hlt, xB, ← can_eq hda]; rfl
  ·replace h2 := of_decide_eq_false h2
   obtain ⟨u, hue⟩ : ∃ u, u = ofNat (val a * dJ b) := ⟨_, rfl⟩
   obtain ⟨v, hve⟩ : ∃ v, v = ofNat (val b * dJ b) := ⟨_, rfl⟩
   have hu : Dig u := by rw [hue]; exact kW _
   have hcv : hC v := by rw [hve]; exact uD _
   have hvd := hcv.1
   have hvl : v.length = b.length := by rw [hve]; exact scl_len hdb hb0
   have hvv : val v = val b * dJ b := by rw [hve]; exact kS _
   have huv : val u = val a * dJ b := by rw [hue]; exact kS _
   have hab := len_of_le hda hdb (cmpI_nn h2)
   have hul : a.length ≤ u.length ∧ u.length ≤ a.length + 1 := by rw [hue]; exact scl_lenA hda hdb hb0
   have hvp := cO hcv (by omega)
   have hpv : pw (b.length - 1) ≤ val v := by have h1 := val_top hvd (by omega); have h3 := iB hcv (by omega); rw [hvl] at h1 h3; have h2 := Nat.mul_le_mul_right (pw (b.length - 1)) h3.1; omega
   refine jB <| jA <| kx [(9, (gW (dJ b)))] [] (zM <| zM <| zE (oSb (b.length - 1)) <| zE (aC kY (b.length - 1) (0 : Nat)) <| zE (xN uX) <| zE (mV yY yR (b.getD (b.length - 1) 0)) <| zE (uE ((b.getD (b.length - 1) 0) + 1)) <| zE (oQu (dJ b) (hr := by exact (quo_u64 1000000000 (b.getD (b.length - 1) 0 + 1) (by decide)))) <| zM <| zZ) ?_
   refine jA <| kx [(0, (vl 181 1 jC u)), (1, (vl 181 1 jC v))] [] (zM <| zM <| zE (kB (hue ▸ r_scaled a (dJ b) hda.1 (by omega) (by omega))) <| zM <| zM <| zE (kB (hve ▸ r_scaled b (dJ b) hdb.1 (by omega) (by omega))) <| zM <| zM <| zZ) ?_
   refine jA <| kx [(10, (vl 181 1 jC (ofNat (val (List.drop ((u.length - b.length) + 1) u)))))] [] (zM <| zM <| zE (nE kY) <| zM <| zE (oSb (u.length - b.length)) <| zE (uE ((u.length - b.length) + 1)) <| zE (e_slc (l := ((u.length - b.length) + 1)) (h := (List.map jC u).length) (kl := .i64) (kh := .i64) (es' := List.map jC (List.drop ((u.length - b.length) + 1) u)) (by exact rfl) kY (by exact rfl) (by exact rfl) (by exact rfl) (by simp only [List.length_map]; omega) (Nat.le_refl _) (by rw [List.take_length, List.map_drop])) <| zE (kB (nZ false (List.drop ((u.length - b.length) + 1) u) (hu.drop _) (by rw [List.length_drop]; omega))) <| zE (oF1 aU gF) <| zM <| zZ) ?_
   refine jA <| kx [(11, (.own 0 181 1 ((u.length - b.length) + 1)))] [(0, some (bm jC (List.replicate ((u.length - b.length) + 1) 0)))] (zM <| zE (nE kY) <| zM <| zE (oSb (u.length - b.length)) <| zE (uE ((u.length - b.length) + 1)) <| zN (oMk 0 jC (0 : Nat) ((u.length - b.length) + 1) ((u.length - b.length) + 1) kY xZ gL mF) <| zM <| zZ) ?_
   refine jA <| jA <| kx [(12, (vi ((((u.length - b.length) + 1 : Nat) : Int) - 1)))] [] (zM <| zE (nE kY) <| zM <| zE (cR ((((u.length - b.length) + 1 : Nat) : Int) - 1)) <| zM <| zZ) ?_
   refine jE <| uN (α := Nat × List Nat × List Nat) (fun (k, r, q) => ⟨[(0, (vl 181 1 jC u)), (1, (vl 181 1 jC v)), (6, (kD b.length)), (9, (gW (dJ b))), (10, (vl 181 1 jC r)), (11, (.own 0 181 1 ((u.length - b.length) + 1))), (12, (vi (((k : Nat) : Int) - 1)))], [(0, some (bm jC q))]⟩) (fun (k, r, q) => hC r ∧ k ≤ ((u.length - b.length) + 1) ∧ q.length = ((u.length - b.length) + 1) ∧ Dig q ∧ val r < val v ∧ val (u.drop k) = val v * val (q.drop k) + val r) (fun (k, r, q) => k) (((u.length - b.length) + 1), ofNat (val (List.drop ((u.length - b.length) + 1) u)), List.replicate ((u.length - b.length) + 1) 0) wk ⟨uD _, Nat.le_refl _, by simp, yM _, by rw [kS]; have h7 := zG (hu.drop ((u.length - b.length) + 1)); rw [List.length_drop, show u.length - ((u.length - b.length) + 1) = b.length - 1 by omega] at h7; omega, by rw [kS]; simp [val]⟩ ?_
   rintro ⟨k, r, q⟩ ⟨hrc, hk, hql, hqd, hr, hv⟩
   refine jA <| jA <| kx [(75, (vb (decide (0 ≤ (((k : Nat) : Int) - 1)))))] [] (zM <| zE oGe <| zZ) ?_
   refine jO (b := decide (0 ≤ (((k : Nat) : Int) - 1))) rfl (fun h3 => ?_) (fun h3 => ?_)
   ·replace h3 := of_decide_eq_true h3
    obtain ⟨i, rfl⟩ : ∃ i, k = i + 1 := ⟨k - 1, by omega⟩
    rw [show (((i + 1 : Nat) : Int) - 1) = ((i : Nat) : Int) from by omega]
    have hgu := hu.getD i
    have hW : (u.getD i 0 + 1000000000 * val r) < 1000000000 * val v := by omega
    have hrs := rshift_val u hv
    obtain ⟨hg1, hg2⟩ := rguess hvd hvl hb0 hW
    have hgv := hvd.getD (b.length - 1)
    have hgw1 := (kW (u.getD i 0 + 1000000000 * val r)).getD b.length
    have hgw2 := (kW (u.getD i 0 + 1000000000 * val r)).getD (b.length - 1)
    have hrl : r.length ≤ b.length := by have h9 := yE (Nat.le_of_lt hr); rwa [← can_eq hrc, ← can_eq hcv, hvl] at h9
    have hwl : (ofNat (u.getD i 0 + 1000000000 * val r)).length ≤ b.length + 1 := vF (by rw [xC]; have := zG hvd; rw [hvl] at this; omega)
    refine jB <| jA <| jE <| jA <| kx [(10, (vl 181 1 jC (ofNat ((u.getD i 0) + 1000000000 * val r)))), (12, (kD i))] [] (zM <| zM <| zM <| zE (aC kY i (0 : Nat)) <| zE (xN uX) <| zE (kB (r_shifted r (u.getD i 0) hrc.1 (by omega) (by omega))) <| zM <| zZ) ?_
    refine jA <| kd [(13, (gW (((((ofNat ((u.getD i 0) + 1000000000 * val r)).getD b.length 0) * 1000000000) + ((ofNat ((u.getD i 0) + 1000000000 * val r)).getD (b.length - 1) 0)) / ((v.getD (b.length - 1) 0) + 1))))] [] mo (wM <| wM <| wE (kB (aD (ofNat ((u.getD i 0) + 1000000000 * val r)) b.length (kW _))) <| wE (oMl (((ofNat ((u.getD i 0) + 1000000000 * val r)).getD b.length 0) * 1000000000)) <| wM <| wM <| wE (oSb (b.length - 1)) <| wE (kB (aD (ofNat ((u.getD i 0) + 1000000000 * val r)) (b.length - 1) (by first | assumption | exact kW _ | exact (uD _).1 | exact (uH _).1))) <| wE (uE ((((ofNat ((u.getD i 0) + 1000000000 * val r)).getD b.length 0) * 1000000000) + ((ofNat ((u.getD i 0) + 1000000000 * val r)).getD (b.length - 1) 0))) <| wM <| wM <| wE (oSb (b.length - 1)) <| wE (aC kY (b.length - 1) (0 : Nat)) <| wE (xN uX) <| wE (mV yY yR (v.getD (b.length - 1) 0)) <| wE (uE ((v.getD (b.length - 1) 0) + 1)) <| wE (oQu (((((ofNat ((u.getD i 0) + 1000000000 * val r)).getD b.length 0) * 1000000000) + ((ofNat ((u.getD i 0) + 1000000000 * val r)).getD (b.length - 1) 0)) / ((v.getD (b.length - 1) 0) + 1))) <| wM <| wZ) ?_
    refine jA <| kx [(10, (vl 181 1 jC (ofNat (val (ofNat ((u.getD i 0) + 1000000000 * val r)) - val (ofNat (val v * (((((ofNat ((u.getD i 0) + 1000000000 * val r)).getD b.length 0) * 1000000000) + ((ofNat ((u.getD i 0) + 1000000000 * val r)).getD (b.length - 1) 0)) / ((v.getD (b.length - 1) 0) + 1))))))))] [] (zM <| zM <| zM <| zE (kB (r_scaled v (((((ofNat ((u.getD i 0) + 1000000000 * val r)).getD b.length 0) * 1000000000) + ((ofNat ((u.getD i 0) + 1000000000 * val r)).getD (b.length - 1) 0)) / ((v.getD (b.length - 1) 0) + 1)) hvd (by omega) (by omega))) <| zE (kB (r_minus (ofNat ((u.getD i 0) + 1000000000 * val r)) (ofNat (val v * (((((ofNat ((u.getD i 0) + 1000000000 * val r)).getD b.length 0) * 1000000000) + ((ofNat ((u.getD i 0) + 1000000000 * val r)).getD (b.length - 1) 0)) / ((v.getD (b.length - 1) 0) + 1)))) (kW _) (kW _) (by rw [kS, kS, Nat.mul_comm]; exact hg1) (by omega))) <| zM <| zZ) ?_
    refine jA <| jE <| uN (α := Nat × List Nat) (fun (G, r2) => ⟨[(0, (vl 181 1 jC u)), (1, (vl 181 1 jC v)), (6, (kD b.length)), (9, (gW (dJ b))), (10, (vl 181 1 jC r2)), (11, (.own 0 181 1 ((u.length - b.length) + 1))), (12, (kD i)), (13, (gW G))], [(0, some (bm jC q))]⟩) (fun (G, r2) => hC r2 ∧ val v * G + val r2 = (u.getD i 0 + 1000000000 * val r)) (fun (G, r2) => val r2) ((((ofNat (u.getD i 0 + 1000000000 * val r)).getD b.length 0 * 1000000000 + (ofNat (u.getD i 0 + 1000000000 * val r)).getD (b.length - 1) 0) / (v.getD (b.length - 1) 0 + 1)), ofNat (val (ofNat (u.getD i 0 + 1000000000 * val r)) - val (ofNat (val v * (((ofNat (u.getD i 0 + 1000000000 * val r)).getD b.length 0 * 1000000000 + (ofNat (u.getD i 0 + 1000000000 * val r)).getD (b.length - 1) 0) / (v.getD (b.length - 1) 0 + 1)))))) wk ⟨uD _, by rw [kS, kS, kS]; rw [Nat.mul_comm] at hg1; omega⟩ ?_
    rintro ⟨G, r2⟩ ⟨hr2, hr2v⟩
    have hr2l : r2.length ≤ b.length + 1 := by have h9 := yE (show val r2 ≤ (u.getD i 0 + 1000000000 * val r) by omega); rw [← can_eq hr2] at h9; omega
    refine jA <| jA <| kx [(109, (vb (decide (0 ≤ (xR ((val r2 : Nat) : Int) ((val v : Nat) : Int))))))] [] (zM <| zM <| zE (kB (r_size r2 v hr2 hcv (by omega) (by omega))) <| zE oGe <| zZ) ?_
    refine jO rfl (fun h4 => ?_) (fun h4 => ?_)
    ·replace h4 := of_decide_eq_true h4
     have hge := bS h4
     have hG := rquo_lt hr2v hW
     have hr2l : r2.length ≤ b.length + 1 := by have h9 := yE (show val r2 ≤ (u.getD i 0 + 1000000000 * val r) by omega); rw [← can_eq hr2] at h9; omega
     refine jB <| jE <| jA <| kx [(10, (vl 181 1 jC (ofNat (val r2 - val v))))] [] (zM <| zM <| zE (kB (r_minus r2 v hr2.1 hvd (by omega) (by omega))) <| zM <| zZ) ?_
     refine kx [(13, (gW (G + 1)))] [] (zM <| zE (uE (G + 1)) <| zM <| zZ) ?_
     exact ⟨(G + 1, ofNat (val r2 - val v)), wk, (by have hge := bS h4; exact ⟨uD _, by rw [kS, Nat.mul_add, Nat.mul_one]; omega⟩), (by have hge := bS h4; dsimp only; rw [kS]; omega)⟩
    ·replace h4 := of_decide_eq_false h4
     have hG := rquo_lt hr2v hW
     have hlt : val r2 < val v := by have h9 := cmpI_lt h4; omega
     refine kJ <| kx [] [(0, some (bm jC (q.set i G)))] (zM <| zM <| zM <| zE (mV nA nB G) <| zE (oXo kY i) <| zT (oSp uX i G) <| zZ) ?_
     refine kx [(12, (vi (((i : Nat) : Int) - 1)))] [] (zM <| zE (cR (((i : Nat) : Int) - 1)) <| zM <| zZ) ?_
     exact ⟨(i, r2, q.set i G), wk, ⟨hr2, by omega, by simpa using hql, hqd.set _ hG, hlt, rround (by omega) (by rw [hr2v]; exact hrs)⟩, (by first | omega | (dsimp only; omega))⟩
   ·replace h3 := of_decide_eq_false h3
    obtain rfl : k = 0 := by omega
    obtain ⟨e1, e2⟩ := scl_div (a := a) (b := b) (q := q) (u := r) hdb hb0 (by rw [List.drop_zero, List.drop_zero] at hv; rw [cF, Nat.one_mul, List.drop_zero, ← huv, ← hvv, hv]; omega) (by rw [List.drop_zero, ← hvv]; exact hr)
    have hrl : r.length ≤ b.length := by have h9 := yE (Nat.le_of_lt hr); rwa [← can_eq hrc, ← can_eq hcv, hvl] at h9
    refine kJ <| jA <| kx [(14, (vl 181 1 jC (ofNat (val r / (dJ b)))))] [] (zM <| zM <| zE (kB (r_short r (dJ b) hrc.1 (by omega) (by omega) (by omega))) <| zM <| zE vA <| zE vA <| zM <| zM <| zZ) ?_
    refine jA <| kP (xY (t := 11) (k := 0) (es := List.map jC q) rfl rfl (vY _ _ (fun _ => rfl)) (xP _ _ hql) (zB _ _ (fun _ => rfl) hql)) ?_
    refine kx [(4, (vl 181 1 jC (ofNat (val q)))), (5, (vl 181 1 jC (ofNat (val r / (dJ b)))))] [] (zM <| zE (kB (nZ false q hqd (by omega))) <| zE (oF1 aU gF) <| zM <| zM <| zM <| zZ) ?_
    refine jF ⟨_, (.tmp (d := (.sl 181 1 (List.map jC (ofNat (val q))))) rfl (.tmp (d := (.sl 181 1 (List.map jC (ofNat (val r / (dJ b)))))) rfl .nil)), ?_⟩
    rw [← e1, ← e2]; rfl
end Go.Proofs.YtapjldagikfcmaaGreat
