/- Part 17 of a proof: rules, plain facts, and functions walked. -/
import Derived.Test.YtbecgnplakngdaaGreatM16
namespace Go.Proofs.YtbecgnplakngdaaGreat
open Go.Fid
set_option maxRecDepth 4000
set_option linter.unusedVariables false
set_option linter.unusedSimpArgs false
theorem cb84 : callB Tryz.prog 84 = true := by kernel_rfl
theorem cb103 : callB Tryz.prog 103 = true := by kernel_rfl
theorem cb134 : callB Tryz.prog 134 = true := by kernel_rfl
theorem cb135 : callB Tryz.prog 135 = true := by kernel_rfl
theorem cb147 : callB Tryz.prog 147 = true := by kernel_rfl
theorem cb148 : callB Tryz.prog 148 = true := by kernel_rfl
theorem cb149 : callB Tryz.prog 149 = true := by kernel_rfl
theorem cb189 : callB Tryz.prog 189 = true := by kernel_rfl
theorem r_neg (x : jK) (hx : x.gs.length ≤ 1099511627776) : kH Tryz.prog 134 [(jZ x)] (jZ (kT (-kI x))) := by
 have hvx := eR x
 refine jP Tryz.func134 rfl cb134 rfl ?_
 show uK _ _ _ _ ⟨[(0, (.d (jZ x)))], []⟩
 refine jA <| kx [(1, (.ref 0 0)), (2, (.ref 1 0))] [(0, some (bx (jZ x))), (1, some (bx (jZ (jK.mk false []))))] (zN (vS 0) <| zN (qW 1 nN nR) <| zZ) ?_
 refine jA <| kx [] [(0, some (bx (jZ (kT (kI x)))))] (zR (kF kK) <| zE (kA (eV x (by omega))) <| zT (kW kK) <| zZ) ?_
 refine jA <| kx [] [(1, some (bx (jZ (zL (!((kT (kI x)).neg)) (val (ofNat (Int.natAbs (kI x))))))))] (zE (kS zC) <| zR (uF sh4) <| zE oNt <| zE (kS zW) <| zR (uF gL) <| zE (kA (mF (!((kT (kI x)).neg)) (ofNat (Int.natAbs (kI x))) (by first | assumption | exact kR _ | exact (qU _).1 | exact (qV _).1) (by omega))) <| zT (kW kK) <| zZ) ?_
 refine jJ ⟨_, (qC (cs := (bx (jZ (zL (!((kT (kI x)).neg)) (val (ofNat (Int.natAbs (kI x)))))))) (d := (jZ (zL (!((kT (kI x)).neg)) (val (ofNat (Int.natAbs (kI x))))))) rfl rfl kK rfl rfl .nil), ?_⟩
 rw [← rneg_eq]; rfl
theorem r_sign (x : jK) (hx : x.gs.length ≤ 1099511627776) : kH Tryz.prog 84 [(jZ x)] (.val (.int .i64 ((uP (kI x))))) := by
 have hvx := eR x
 refine jP Tryz.func84 rfl cb84 rfl ?_
 show uK _ _ _ _ ⟨[(0, (.d (jZ x)))], []⟩
 refine jA <| kx [(1, (.ref 0 0))] [(0, some (bx (jZ x)))] (zN (vS 0) <| zM <| zZ) ?_
 refine jA <| kx [] [(0, some (bx (jZ (kT (kI x)))))] (zR (kF kK) <| zE (kA (eV x (by omega))) <| zT (kW kK) <| zZ) ?_
 refine jA <| jA <| kx [(8, (vb ((((ofNat (Int.natAbs (kI x))).length : Nat) : Int) == 0)))] [] (zE (kS zW) <| zR (uF gL) <| zE (dD kY (L := (ofNat (Int.natAbs (kI x))))) <| zE cB <| zZ) ?_
 refine jV rfl (fun h1 => ?_) (fun h1 => ?_)
 ·replace h1 := eq_of_beq h1
  refine jA <| kx [(2, (kD 0))] [] (zM <| zZ) ?_
  refine jJ ⟨_, (.tmp (d := (.val (.int .i64 (0)))) rfl .nil), ?_⟩
  rw [rsign_zero h1]; rfl
 ·replace h1 := ne_of_beq_false h1
  refine jE <| jA <| jA <| kx [(10, (vb ((kT (kI x)).neg)))] [] (zE (kS zC) <| zR (uF sh4) <| zZ) ?_
  refine jV (b := (kT (kI x)).neg) rfl (fun h2 => ?_) (fun h2 => ?_)
  ·refine jA <| kx [(2, (vi (-1)))] [] (zM <| zZ) ?_
   refine jJ ⟨_, (.tmp (d := (.val (.int .i64 (-1)))) rfl .nil), ?_⟩
   rw [rsign_neg h1 h2]; rfl
  ·refine jE <| jA <| kx [(2, (kD 1))] [] (zM <| zZ) ?_
   refine jJ ⟨_, (.tmp (d := (.val (.int .i64 (1)))) rfl .nil), ?_⟩
   rw [rsign_pos h1 h2]; rfl
theorem r_add (x : jK) (y : jK) (hx : x.gs.length ≤ 1099511627776) (hy : y.gs.length ≤ 1099511627776) : kH Tryz.prog 135 [(jZ x), (jZ y)] (jZ (kT (kI x + kI y))) := by
 have hvx := eR x
 have hvy := eR y
 refine jP Tryz.func135 rfl cb135 rfl ?_
 show uK _ _ _ _ ⟨[(0, (.d (jZ x))), (1, (.d (jZ y)))], []⟩
 refine jA <| kx [(2, (.ref 0 0)), (3, (.ref 1 0)), (4, (.ref 2 0))] [(0, some (bx (jZ x))), (1, some (bx (jZ y))), (2, some (bx (jZ (jK.mk false []))))] (zN (vS 0) <| zN (vS 1) <| zN (qW 2 nN nR) <| zZ) ?_
 refine jA <| kd [] [(0, some (bx (jZ (kT (kI x))))), (1, some (bx (jZ (kT (kI y)))))] mo (wR (kF kK) <| wE (kA (eV x (by omega))) <| wR (kF kK) <| wE (kA (eV y (by omega))) <| wT (kW kK) <| wT (kW kK) <| wZ) ?_
 refine jA <| jA <| kx [(13, (vb (((kT (kI x)).neg) == ((kT (kI y)).neg))))] [] (zE (kS zC) <| zR (uF sh4) <| zE (kS zC) <| zR (uF sh4) <| zE (oEb bo4) <| zZ) ?_
 refine jV rfl (fun h1 => ?_) (fun h1 => ?_)
 ·replace h1 := eq_of_beq h1
  refine jA <| kd [] [(2, some (bx (jZ (zL ((kT (kI x)).neg) (val (ofNat (val (ofNat (Int.natAbs (kI x))) + val (ofNat (Int.natAbs (kI y))))))))))] mo (wE (kS zC) <| wR (uF sh4) <| wE (kS zW) <| wR (uF gL) <| wE (kS zW) <| wR (uF gL) <| wE (kA (r_plus (ofNat (Int.natAbs (kI x))) (ofNat (Int.natAbs (kI y))) (by first | assumption | exact kR _ | exact (qU _).1 | exact (qV _).1) (by first | assumption | exact kR _ | exact (qU _).1 | exact (qV _).1) (by omega) (by omega))) <| wE (kA (mF ((kT (kI x)).neg) (ofNat (val (ofNat (Int.natAbs (kI x))) + val (ofNat (Int.natAbs (kI y))))) (by first | assumption | exact kR _ | exact (qU _).1 | exact (qV _).1) (by first | omega | exact Nat.le_trans (add_len (kR _) (kR _)) (by omega) | exact Nat.le_trans (sub_len (kR _)) (by omega)))) <| wT (kW kK) <| wZ) ?_
  refine jJ ⟨_, (qC (cs := (bx (jZ (zL ((kT (kI x)).neg) (val (ofNat (val (ofNat (Int.natAbs (kI x))) + val (ofNat (Int.natAbs (kI y)))))))))) (d := (jZ (zL ((kT (kI x)).neg) (val (ofNat (val (ofNat (Int.natAbs (kI x))) + val (ofNat (Int.natAbs (kI y))))))))) rfl rfl kK rfl rfl .nil), ?_⟩
  rw [← rsum_same h1]; rfl
 ·replace h1 := ne_of_beq_false h1
  refine jE <| jA <| jA <| kx [(27, (vb (decide (0 ≤ (xE ((val (ofNat (Int.natAbs (kI x))) : Nat) : Int) ((val (ofNat (Int.natAbs (kI y))) : Nat) : Int))))))] [] (zE (kS zW) <| zR (uF gL) <| zE (kS zW) <| zR (uF gL) <| zE (kA (r_size (ofNat (Int.natAbs (kI x))) (ofNat (Int.natAbs (kI y))) (by first | assumption | exact qU _ | exact qV _) (by first | assumption | exact qU _ | exact qV _) (by omega) (by omega))) <| zE oGe <| zZ) ?_
  refine jV rfl (fun h2 => ?_) (fun h2 => ?_)
  ·replace h2 := of_decide_eq_true h2
   refine jA <| kd [] [(2, some (bx (jZ (zL ((kT (kI x)).neg) (val (ofNat (val (ofNat (Int.natAbs (kI x))) - val (ofNat (Int.natAbs (kI y))))))))))] mo (wE (kS zC) <| wR (uF sh4) <| wE (kS zW) <| wR (uF gL) <| wE (kS zW) <| wR (uF gL) <| wE (kA (r_minus (ofNat (Int.natAbs (kI x))) (ofNat (Int.natAbs (kI y))) (by first | assumption | exact kR _ | exact (qU _).1 | exact (qV _).1) (by first | assumption | exact kR _ | exact (qU _).1 | exact (qV _).1) (by have := iS h2; omega) (by omega))) <| wE (kA (mF ((kT (kI x)).neg) (ofNat (val (ofNat (Int.natAbs (kI x))) - val (ofNat (Int.natAbs (kI y))))) (by first | assumption | exact kR _ | exact (qU _).1 | exact (qV _).1) (by first | omega | exact Nat.le_trans (add_len (kR _) (kR _)) (by omega) | exact Nat.le_trans (sub_len (kR _)) (by omega)))) <| wT (kW kK) <| wZ) ?_
   refine jJ ⟨_, (qC (cs := (bx (jZ (zL ((kT (kI x)).neg) (val (ofNat (val (ofNat (Int.natAbs (kI x))) - val (ofNat (Int.natAbs (kI y)))))))))) (d := (jZ (zL ((kT (kI x)).neg) (val (ofNat (val (ofNat (Int.natAbs (kI x))) - val (ofNat (Int.natAbs (kI y))))))))) rfl rfl kK rfl rfl .nil), ?_⟩
   rw [← rsum_first h1 (by have := iS h2; omega)]; rfl
  ·replace h2 := of_decide_eq_false h2
   refine jE <| jA <| kd [] [(2, some (bx (jZ (zL ((kT (kI y)).neg) (val (ofNat (val (ofNat (Int.natAbs (kI y))) - val (ofNat (Int.natAbs (kI x))))))))))] mo (wE (kS zC) <| wR (uF sh4) <| wE (kS zW) <| wR (uF gL) <| wE (kS zW) <| wR (uF gL) <| wE (kA (r_minus (ofNat (Int.natAbs (kI y))) (ofNat (Int.natAbs (kI x))) (by first | assumption | exact kR _ | exact (qU _).1 | exact (qV _).1) (by first | assumption | exact kR _ | exact (qU _).1 | exact (qV _).1) (by have := cmpI_lt h2; omega) (by omega))) <| wE (kA (mF ((kT (kI y)).neg) (ofNat (val (ofNat (Int.natAbs (kI y))) - val (ofNat (Int.natAbs (kI x))))) (by first | assumption | exact kR _ | exact (qU _).1 | exact (qV _).1) (by first | omega | exact Nat.le_trans (add_len (kR _) (kR _)) (by omega) | exact Nat.le_trans (sub_len (kR _)) (by omega)))) <| wT (kW kK) <| wZ) ?_
   refine jJ ⟨_, (qC (cs := (bx (jZ (zL ((kT (kI y)).neg) (val (ofNat (val (ofNat (Int.natAbs (kI y))) - val (ofNat (Int.natAbs (kI x)))))))))) (d := (jZ (zL ((kT (kI y)).neg) (val (ofNat (val (ofNat (Int.natAbs (kI y))) - val (ofNat (Int.natAbs (kI x))))))))) rfl rfl kK rfl rfl .nil), ?_⟩
   rw [← rsum_second h1 (by have := cmpI_lt h2; omega)]; rfl
theorem r_sub (x : jK) (y : jK) (hx : x.gs.length ≤ 1099511627776) (hy : y.gs.length ≤ 1099511627776) : kH Tryz.prog 147 [(jZ x), (jZ y)] (jZ (kT (kI x - kI y))) := by
 have hv := gs_neg y
 refine jP Tryz.func147 rfl cb147 rfl ?_
 show uK _ _ _ _ ⟨[(0, (.d (jZ x))), (1, (.d (jZ y)))], []⟩
 refine jA <| kx [(2, (.ref 0 0)), (3, (.ref 1 0)), (4, (.ref 2 0))] [(0, some (bx (jZ x))), (1, some (bx (jZ y))), (2, some (bx (jZ (jK.mk false []))))] (zN (vS 0) <| zN (vS 1) <| zN (qW 2 nN nR) <| zZ) ?_
 refine jA <| kd [] [(2, some (bx (jZ (kT (kI x + kI (kT (-kI y)))))))] mo (wR (kF kK) <| wR (kF kK) <| wE (kA (r_neg y (by omega))) <| wE (kA (r_add x (kT (-kI y)) (by omega) (by omega))) <| wT (kW kK) <| wZ) ?_
 refine jJ ⟨_, (qC (cs := (bx (jZ (kT (kI x + kI (kT (-kI y))))))) (d := (jZ (kT (kI x + kI (kT (-kI y)))))) rfl rfl kK rfl rfl .nil), ?_⟩
 rw [dW, ← Int.sub_eq_add_neg]; rfl
theorem r_mul (x : jK) (y : jK) (hx : x.gs.length ≤ 1099511627776) (hy : y.gs.length ≤ 1099511627776) : kH Tryz.prog 103 [(jZ x), (jZ y)] (jZ (kT (kI x * kI y))) := by
 have hvx := eR x
 have hvy := eR y
 have hda := kR (Int.natAbs (kI x))
 have hdb := kR (Int.natAbs (kI y))
 refine jP Tryz.func103 rfl cb103 rfl ?_
 show uK _ _ _ _ ⟨[(0, (.d (jZ x))), (1, (.d (jZ y)))], []⟩
 refine jA <| kx [(2, (.ref 0 0)), (3, (.ref 1 0)), (4, (.ref 2 0))] [(0, some (bx (jZ x))), (1, some (bx (jZ y))), (2, some (bx (jZ (jK.mk false []))))] (zN (vS 0) <| zN (vS 1) <| zN (qW 2 nN nR) <| zZ) ?_
 refine jA <| kd [] [(0, some (bx (jZ (kT (kI x))))), (1, some (bx (jZ (kT (kI y)))))] mo (wR (kF kK) <| wE (kA (eV x (by omega))) <| wR (kF kK) <| wE (kA (eV y (by omega))) <| wT (kW kK) <| wT (kW kK) <| wZ) ?_
 refine jA <| kx [(5, (.own 3 152 1 ((ofNat (Int.natAbs (kI x))).length + (ofNat (Int.natAbs (kI y))).length)))] [(3, some (bm jC (List.replicate ((ofNat (Int.natAbs (kI x))).length + (ofNat (Int.natAbs (kI y))).length) 0)))] (zE (kS zW) <| zR (uF gL) <| zE (dD kY (L := (ofNat (Int.natAbs (kI x))))) <| zE (kS zW) <| zR (uF gL) <| zE (dD kY (L := (ofNat (Int.natAbs (kI y))))) <| zE (qP ((ofNat (Int.natAbs (kI x))).length + (ofNat (Int.natAbs (kI y))).length)) <| zN (oMk 3 jC (0 : Nat) ((ofNat (Int.natAbs (kI x))).length + (ofNat (Int.natAbs (kI y))).length) ((ofNat (Int.natAbs (kI x))).length + (ofNat (Int.natAbs (kI y))).length) kY xK gI cD) <| zM <| zZ) ?_
 refine jA <| jA <| kx [(6, (kD 0))] [] (zM <| zZ) ?_
 refine jF <| uT (α := Nat × List Nat) (fun (i, out) => ⟨[(2, (.ref 0 0)), (3, (.ref 1 0)), (4, (.ref 2 0)), (5, (.own 3 152 1 ((ofNat (Int.natAbs (kI x))).length + (ofNat (Int.natAbs (kI y))).length))), (6, (kD i))], [(0, some (bx (jZ (kT (kI x))))), (1, some (bx (jZ (kT (kI y))))), (2, some (bx (jZ (jK.mk false [])))), (3, some (bm jC out))]⟩) (fun (i, out) => out.length = (ofNat (Int.natAbs (kI x))).length + (ofNat (Int.natAbs (kI y))).length ∧ Dig out ∧ i ≤ (ofNat (Int.natAbs (kI x))).length ∧ (∀ k, i + (ofNat (Int.natAbs (kI y))).length ≤ k → out.getD k 0 = 0) ∧ val out = val ((ofNat (Int.natAbs (kI x))).take i) * val (ofNat (Int.natAbs (kI y)))) (fun (i, out) => (ofNat (Int.natAbs (kI x))).length - i) (0, List.replicate ((ofNat (Int.natAbs (kI x))).length + (ofNat (Int.natAbs (kI y))).length) 0) wk ⟨by simp, yD _, Nat.zero_le _, fun k _ => aK _ k, by simp [val, eX]⟩ ?_
 rintro ⟨i, out⟩ ⟨vP, hdo, hi, hz, hv⟩
 have hai := hda.getD i
 refine jA <| jA <| kx [(26, (vb (decide (((i : Nat) : Int) < (((ofNat (Int.natAbs (kI x))).length : Nat) : Int)))))] [] (zM <| zE (kS zW) <| zR (uF gL) <| zE (dD kY (L := (ofNat (Int.natAbs (kI x))))) <| zE qI <| zZ) ?_
 refine jV rfl (fun h1 => ?_) (fun h1 => ?_)
 ·replace h1 := of_decide_eq_true h1
  refine jE <| jA <| jF <| jA <| kx [(7, (gO 0))] [] (zM <| zZ) ?_
  refine jA <| jA <| kx [(8, (kD 0))] [] (zM <| zZ) ?_
  refine jF <| uT (α := Nat × List Nat × Nat) (fun (j, o2, c) => ⟨[(2, (.ref 0 0)), (3, (.ref 1 0)), (4, (.ref 2 0)), (5, (.own 3 152 1 ((ofNat (Int.natAbs (kI x))).length + (ofNat (Int.natAbs (kI y))).length))), (6, (kD i)), (7, (gO c)), (8, (kD j))], [(0, some (bx (jZ (kT (kI x))))), (1, some (bx (jZ (kT (kI y))))), (2, some (bx (jZ (jK.mk false [])))), (3, some (bm jC o2))]⟩) (fun (j, o2, c) => o2.length = (ofNat (Int.natAbs (kI x))).length + (ofNat (Int.natAbs (kI y))).length ∧ Dig o2 ∧ j ≤ (ofNat (Int.natAbs (kI y))).length ∧ c < 1000000000 ∧ (∀ k, i + (ofNat (Int.natAbs (kI y))).length ≤ k → o2.getD k 0 = 0) ∧ val o2 + pw (i + j) * c = val ((ofNat (Int.natAbs (kI x))).take i) * val (ofNat (Int.natAbs (kI y))) + pw i * ((ofNat (Int.natAbs (kI x))).getD i 0 * val ((ofNat (Int.natAbs (kI y))).take j))) (fun (j, o2, c) => (ofNat (Int.natAbs (kI y))).length - j) (0, out, 0) wk ⟨vP, hdo, Nat.zero_le _, by decide, hz, by simp [val, hv]⟩ ?_
  rintro ⟨j, o2, c⟩ ⟨hlen2, hdo2, hj, hc, hz2, hv2⟩
  have hbj := hdb.getD j
  have hoj := hdo2.getD (i + j)
  have hpq : (ofNat (Int.natAbs (kI x))).getD i 0 * (ofNat (Int.natAbs (kI y))).getD j 0 ≤ 999999999 * 999999999 := Nat.mul_le_mul (by omega) (by omega)
  refine jA <| jA <| kx [(33, (vb (decide (((j : Nat) : Int) < (((ofNat (Int.natAbs (kI y))).length : Nat) : Int)))))] [] (zM <| zE (kS zW) <| zR (uF gL) <| zE (dD kY (L := (ofNat (Int.natAbs (kI y))))) <| zE qI <| zZ) ?_
  refine jV rfl (fun h2 => ?_) (fun h2 => ?_)
  ·replace h2 := of_decide_eq_true h2
   refine jE <| jA <| jF <| jA <| kd [(9, (gO (((o2.getD (i + j) 0) + (((ofNat (Int.natAbs (kI x))).getD i 0) * ((ofNat (Int.natAbs (kI y))).getD j 0))) + c)))] [] mo (wM <| wM <| wM <| wE (qP (i + j)) <| wE (oXo kY (i + j)) <| wR (oLp uG (i + j) (0 : Nat)) <| wE (cZ gK yY (o2.getD (i + j) 0)) <| wE (kS zW) <| wR (uF gL) <| wM <| wE (oXl kY i (0 : Nat) (L := (ofNat (Int.natAbs (kI x))))) <| wE (xX uG) <| wE (cZ gK yY ((ofNat (Int.natAbs (kI x))).getD i 0)) <| wE (kS zW) <| wR (uF gL) <| wM <| wE (oXl kY j (0 : Nat) (L := (ofNat (Int.natAbs (kI y))))) <| wE (xX uG) <| wE (cZ gK yY ((ofNat (Int.natAbs (kI y))).getD j 0)) <| wE (oMl (((ofNat (Int.natAbs (kI x))).getD i 0) * ((ofNat (Int.natAbs (kI y))).getD j 0))) <| wE (qP ((o2.getD (i + j) 0) + (((ofNat (Int.natAbs (kI x))).getD i 0) * ((ofNat (Int.natAbs (kI y))).getD j 0)))) <| wM <| wE (qP (((o2.getD (i + j) 0) + (((ofNat (Int.natAbs (kI x))).getD i 0) * ((ofNat (Int.natAbs (kI y))).getD j 0))) + c)) <| wM <| wZ) ?_
   refine jA <| kx [] [(3, some (bm jC (o2.set (i + j) ((((o2.getD (i + j) 0) + (((ofNat (Int.natAbs (kI x))).getD i 0) * ((ofNat (Int.natAbs (kI y))).getD j 0))) + c) % 1000000000))))] (zM <| zM <| zM <| zE (qP (i + j)) <| zM <| zE (iM ((((o2.getD (i + j) 0) + (((ofNat (Int.natAbs (kI x))).getD i 0) * ((ofNat (Int.natAbs (kI y))).getD j 0))) + c) % 1000000000)) <| zE (cZ nW gW ((((o2.getD (i + j) 0) + (((ofNat (Int.natAbs (kI x))).getD i 0) * ((ofNat (Int.natAbs (kI y))).getD j 0))) + c) % 1000000000)) <| zE (oXo kY (i + j)) <| zT (oSp uG (i + j) ((((o2.getD (i + j) 0) + (((ofNat (Int.natAbs (kI x))).getD i 0) * ((ofNat (Int.natAbs (kI y))).getD j 0))) + c) % 1000000000)) <| zZ) ?_
   refine kx [(7, (gO ((((o2.getD (i + j) 0) + (((ofNat (Int.natAbs (kI x))).getD i 0) * ((ofNat (Int.natAbs (kI y))).getD j 0))) + c) / 1000000000)))] [] (zM <| zE (oQu ((((o2.getD (i + j) 0) + (((ofNat (Int.natAbs (kI x))).getD i 0) * ((ofNat (Int.natAbs (kI y))).getD j 0))) + c) / 1000000000)) <| zM <| zZ) ?_
   refine kx [(8, (kD (j + 1)))] [] (zM <| zE (qP (j + 1)) <| zM <| zZ) ?_
   exact ⟨(j + 1, o2.set (i + j) ((o2.getD (i + j) 0 + (ofNat (Int.natAbs (kI x))).getD i 0 * (ofNat (Int.natAbs (kI y))).getD j 0 + c) % 1000000000), (o2.getD (i + j) 0 + (ofNat (Int.natAbs (kI x))).getD i 0 * (ofNat (Int.natAbs (kI y))).getD j 0 + c) / 1000000000), wk, (by obtain ⟨q1, q2⟩ := times_step (by omega) hdo2 hv2 rfl (val_take_succ _ j); exact ⟨by simpa using hlen2, q1, by omega, by omega, zero_set (by omega) hz2, q2⟩), (by first | omega | (dsimp only; omega))⟩
  ·replace h2 := of_decide_eq_false h2
   have hje : j = (ofNat (Int.natAbs (kI y))).length := by omega
   rw [hje] at hv2
   refine kB <| kx [] [(3, some (bm jC (o2.set (i + (ofNat (Int.natAbs (kI y))).length) c)))] (zM <| zM <| zE (kS zW) <| zR (uF gL) <| zE (dD kY (L := (ofNat (Int.natAbs (kI y))))) <| zE (qP (i + (ofNat (Int.natAbs (kI y))).length)) <| zM <| zE (cZ nW gW c) <| zE (oXo kY (i + (ofNat (Int.natAbs (kI y))).length)) <| zT (oSp uG (i + (ofNat (Int.natAbs (kI y))).length) c) <| zZ) ?_
   refine kx [(6, (kD (i + 1)))] [] (zM <| zE (qP (i + 1)) <| zM <| zZ) ?_
   exact ⟨(i + 1, o2.set (i + (ofNat (Int.natAbs (kI y))).length) c), wk, (by obtain ⟨q1, q2, q3, q4⟩ := times_row hdo2 (by omega) hlen2 hz2 hc hv2; exact ⟨q1, q2, by omega, q3, q4⟩), (by first | omega | (dsimp only; omega))⟩
 ·replace h1 := of_decide_eq_false h1
  have hie : i = (ofNat (Int.natAbs (kI x))).length := by omega
  rw [hie, List.take_length] at hv
  refine kB <| jA <| kJ (uV (t := 5) (k := 3) (es := List.map jC out) rfl rfl (vK _ _ (fun _ => rfl)) (uS _ _ vP) (xG _ _ (fun _ => rfl) vP)) ?_
  refine kx [] [(2, some (bx (jZ (zL (!(((kT (kI x)).neg) == ((kT (kI y)).neg))) (val out)))))] (zE (kS zC) <| zR (uF sh4) <| zE (kS zC) <| zR (uF sh4) <| zE (oNb bo4) <| zM <| zE (kA (mF (!(((kT (kI x)).neg) == ((kT (kI y)).neg))) out hdo (by omega))) <| zT (kW kK) <| zZ) ?_
  refine jJ ⟨_, (qC (cs := (bx (jZ (zL (!(((kT (kI x)).neg) == ((kT (kI y)).neg))) (val out))))) (d := (jZ (zL (!(((kT (kI x)).neg) == ((kT (kI y)).neg))) (val out)))) rfl rfl kK rfl rfl .nil), ?_⟩
  rw [hv, rmul_eq]; rfl
theorem r_short (a : List Nat) (d : Nat) (hda : Dig a) (hd0 : 0 < d) (hd1 : d ≤ 1000000000) (hla : a.length ≤ 17592186044416) : kH Tryz.prog 189 [(.sl 152 1 (List.map jC a)), (.val (.int .u64 (((d : Nat) : Int))))] (.tup [(.sl 152 1 (List.map jC (ofNat (val a / d)))), (.val (.int .u64 ((((val a % d) : Nat) : Int))))]) := by
 refine jP Tryz.func189 rfl cb189 rfl ?_
 show uK _ _ _ _ ⟨[(0, (vl 152 1 jC a)), (1, (gO d))], []⟩
 refine jA <| kx [] [] (zE (oNl 152 1) <| zM <| zZ) ?_
 refine jA <| kx [(6, (.own 0 152 1 a.length))] [(0, some (bm jC (List.replicate a.length 0)))] (zM <| zE (dD kY) <| zN (oMk 0 jC (0 : Nat) a.length a.length kY xK gI cD) <| zM <| zZ) ?_
 refine jA <| kx [(7, (gO 0))] [] (zM <| zZ) ?_
 refine jA <| jA <| kx [(8, (vi (((a.length : Nat) : Int) - 1)))] [] (zM <| zE (dD kY) <| zE (fT (((a.length : Nat) : Int) - 1)) <| zM <| zZ) ?_
 refine jF <| uT (α := Nat × List Nat × Nat) (fun (k, q, zJ) => ⟨[(0, (vl 152 1 jC a)), (1, (gO d)), (6, (.own 0 152 1 a.length)), (7, (gO zJ)), (8, (vi (((k : Nat) : Int) - 1)))], [(0, some (bm jC q))]⟩) (fun (k, q, zJ) => k ≤ a.length ∧ q.length = a.length ∧ Dig q ∧ zJ < d ∧ val (a.drop k) = val (q.drop k) * d + zJ) (fun (k, q, zJ) => k) (a.length, List.replicate a.length 0, 0) wk ⟨Nat.le_refl _, by simp, yD _, hd0, by simp [val]⟩ ?_
 rintro ⟨k, q, zJ⟩ ⟨hk, vP, hdq, hr, hv⟩
 refine jA <| jA <| kx [(17, (vb (decide (0 ≤ (((k : Nat) : Int) - 1)))))] [] (zM <| zE oGe <| zZ) ?_
 refine jV (b := decide (0 ≤ (((k : Nat) : Int) - 1))) rfl (fun h1 => ?_) (fun h1 => ?_)
 ·replace h1 := of_decide_eq_true h1
  obtain ⟨i, rfl⟩ : ∃ i, k = i + 1 := ⟨k - 1, by omega⟩
  rw [show (((i + 1 : Nat) : Int) - 1) = ((i : Nat) : Int) from by omega]
  have hg := hda.getD i
  obtain ⟨hb1, hb2⟩ := short_bound hr hd1 hg
  refine jE <| jA <| jF <| jA <| kx [(8, (kD i)), (9, (gO ((zJ * 1000000000) + (a.getD i 0))))] [] (zM <| zE (oMl (zJ * 1000000000)) <| zM <| zM <| zE (oXl kY i (0 : Nat)) <| zE (xX uG) <| zE (cZ gK yY (a.getD i 0)) <| zE (qP ((zJ * 1000000000) + (a.getD i 0))) <| zM <| zZ) ?_
  refine jA <| kx [] [(0, some (bm jC (q.set i (((zJ * 1000000000) + (a.getD i 0)) / d))))] (zM <| zM <| zM <| zM <| zE (oQu (((zJ * 1000000000) + (a.getD i 0)) / d)) <| zE (cZ nW gW (((zJ * 1000000000) + (a.getD i 0)) / d)) <| zE (oXo kY i) <| zT (oSp uG i (((zJ * 1000000000) + (a.getD i 0)) / d)) <| zZ) ?_
  refine kx [(7, (gO (((zJ * 1000000000) + (a.getD i 0)) % d)))] [] (zM <| zM <| zE (iM (((zJ * 1000000000) + (a.getD i 0)) % d)) <| zM <| zZ) ?_
  refine kx [(8, (vi (((i : Nat) : Int) - 1)))] [] (zM <| zE (fT (((i : Nat) : Int) - 1)) <| zM <| zZ) ?_
  exact ⟨(i, q.set i ((zJ * 1000000000 + a.getD i 0) / d), (zJ * 1000000000 + a.getD i 0) % d), wk, ⟨by omega, by simpa using vP, hdq.set _ hb2, Nat.mod_lt _ hd0, rshort_step (by omega) hv rfl⟩, (by first | omega | (dsimp only; omega))⟩
 ·replace h1 := of_decide_eq_false h1
  obtain rfl : k = 0 := by omega
  obtain ⟨e1, e2⟩ := short_end (a := a) (q := q) (by rw [Nat.sub_self]; exact hv) hr
  refine kB <| jA <| kJ (uV (t := 6) (k := 0) (es := List.map jC q) rfl rfl (vK _ _ (fun _ => rfl)) (uS _ _ vP) (xG _ _ (fun _ => rfl) vP)) ?_
  refine kx [(4, (vl 152 1 jC (ofNat (val q)))), (5, (gO zJ))] [] (zM <| zE (kA (mF false q (by first | assumption | exact kR _ | exact (qU _).1 | exact (qV _).1) (by omega))) <| zE (oF1 bP gL) <| zM <| zM <| zM <| zZ) ?_
  refine jJ ⟨_, (.tmp (d := (.sl 152 1 (List.map jC (ofNat (val q))))) rfl (.tmp (d := (.val (.int .u64 (((zJ : Nat) : Int))))) rfl .nil)), ?_⟩
  rw [← e1, ← e2]; rfl
theorem r_pair (l : List Nat) (hd : Dig l) (h2 : l.length ≤ 2) : kH Tryz.prog 149 [(.sl 152 1 (List.map jC l))] (.val (.int .u64 ((((val l) : Nat) : Int)))) := by
 have h0 := hd.getD 0
 have h1 := hd.getD 1
 refine jP Tryz.func149 rfl cb149 rfl ?_
 show uK _ _ _ _ ⟨[(0, (vl 152 1 jC l))], []⟩
 refine jA <| kx [] [] (zM <| zZ) ?_
 refine jA <| kx [(2, (gO (((l.getD 1 0) * 1000000000) + (l.getD 0 0))))] [] (zM <| zE (kA (bA l 1 (by first | assumption | exact kR _ | exact (qU _).1 | exact (qV _).1))) <| zE (oMl ((l.getD 1 0) * 1000000000)) <| zM <| zE (kA (bA l 0 (by first | assumption | exact kR _ | exact (qU _).1 | exact (qV _).1))) <| zE (qP (((l.getD 1 0) * 1000000000) + (l.getD 0 0))) <| zM <| zZ) ?_
 refine jJ ⟨_, (.tmp (d := (.val (.int .u64 ((((((l.getD 1 0) * 1000000000) + (l.getD 0 0)) : Nat) : Int))))) rfl .nil), ?_⟩
 rw [val_pair h2]; rfl
theorem r_parts (a b : List Nat) (hda : gS a) (hdb : gS b) (hb0 : 0 < b.length) (hla : a.length ≤ 1099511627776) (hlb : b.length ≤ 1099511627776) : kH Tryz.prog 148 [(.sl 152 1 (List.map jC a)), (.sl 152 1 (List.map jC b))] (.tup [(.sl 152 1 (List.map jC (ofNat (val a / val b)))), (.sl 152 1 (List.map jC (ofNat (val a % val b))))]) := by
 have hsc := bX hdb hb0
 have htp := iZ hdb hb0
 have hbp := dH hdb hb0
 refine jP Tryz.func148 rfl cb148 rfl ?_
 show uK _ _ _ _ ⟨[(0, (vl 152 1 jC a)), (1, (vl 152 1 jC b))], []⟩
 refine jA <| kx [] [] (zE (oNl 152 1) <| zE (oNl 152 1) <| zZ) ?_
 refine jA <| kx [(6, (kD b.length))] [] (zM <| zE (dD kY) <| zM <| zZ) ?_
 refine jA <| jA <| kx [(19, (vb (((b.length : Nat) : Int) == 1)))] [] (zM <| zE cB <| zZ) ?_
 refine jV (b := (((b.length : Nat) : Int) == 1)) rfl (fun h1 => ?_) (fun h1 => ?_)
 ·replace h1 := eq_of_beq h1
  have hg0 := hdb.1.getD 0
  have hv1 := val_len1 (b := b) (by omega)
  have hb00 : 0 < b.getD 0 0 := by omega
  have hrl : val a % b.getD 0 0 < 1000000000 := Nat.lt_trans (Nat.mod_lt _ hb00) (by omega)
  refine jA <| kx [(7, (vl 152 1 jC (ofNat (val a / (b.getD 0 0))))), (8, (gO (val a % (b.getD 0 0))))] [] (zM <| zM <| zE (oXl kY 0 (0 : Nat)) <| zE (xX uG) <| zE (cZ gK yY (b.getD 0 0)) <| zE (kA (r_short a (b.getD 0 0) hda.1 (by omega) (by omega) (by omega))) <| zM <| zE uZ <| zE uZ <| zM <| zM <| zZ) ?_
  refine jA <| kx [(4, (vl 152 1 jC (ofNat (val a / (b.getD 0 0))))), (5, (vl 152 1 jC (ofNat (val [(val a % (b.getD 0 0))]))))] [] (zM <| zM <| zE (cZ nW gW (val a % (b.getD 0 0))) <| zE (nO kY xK gI) <| zE (kA (mF false [(val a % (b.getD 0 0))] (gH.2 ⟨by omega, nK⟩) (by simp))) <| zE (oF1 bP gL) <| zM <| zM <| zZ) ?_
  refine jJ ⟨_, (.tmp (d := (.sl 152 1 (List.map jC (ofNat (val a / (b.getD 0 0)))))) rfl (.tmp (d := (.sl 152 1 (List.map jC (ofNat (val [(val a % (b.getD 0 0))]))))) rfl .nil)), ?_⟩
  rw [hv1, dP]; rfl
 ·replace h1 := ne_of_beq_false h1
  refine jE <| jA <| jA <| kx [(38, (vb (decide ((xE ((val a : Nat) : Int) ((val b : Nat) : Int)) < 0))))] [] (zM <| zM <| zE (kA (r_size a b (by first | assumption | exact qU _ | exact qV _) (by first | assumption | exact qU _ | exact qV _) (by omega) (by omega))) <| zE qI <| zZ) ?_
  refine jV rfl (fun h2 => ?_) (fun h2 => ?_)
  ·replace h2 := of_decide_eq_true h2
   refine jA <| kx [(4, (vl 152 1 jC [])), (5, (vl 152 1 jC a))] [] (zE (nO kY xK gI) <| zM <| zM <| zM <| zZ) ?_
   refine jJ ⟨_, (.tmp (d := (.sl 152 1 (List.map jC []))) rfl (.tmp (d := (.sl 152 1 (List.map jC a))) rfl .nil)), ?_⟩
   have hlt := cmpI_neg h2
   rw [Nat.div_eq_of_lt hlt, Nat.mod_eq_of_lt hlt, vR, ← can_eq hda]; rfl
  ·replace h2 := of_decide_eq_false h2
   obtain ⟨u, hue⟩ : ∃ u, u = ofNat (val a * eD b) := ⟨_, rfl⟩
   obtain ⟨v, hve⟩ : ∃ v, v = ofNat (val b * eD b) := ⟨_, rfl⟩
   have hu : Dig u := by rw [hue]; exact kR _
   have hcv : gS v := by rw [hve]; exact qU _
   have hvd := hcv.1
   have hvl : v.length = b.length := by rw [hve]; exact scl_len hdb hb0
   have hvv : val v = val b * eD b := by rw [hve]; exact kQ _
   have huv : val u = val a * eD b := by rw [hue]; exact kQ _
   have hab := len_of_le hda hdb (cmpI_nn h2)
   have hul : a.length ≤ u.length ∧ u.length ≤ a.length + 1 := by rw [hue]; exact scl_lenA hda hdb hb0
   have hvp := dH hcv (by omega)
   have hpv : pw (b.length - 1) ≤ val v := by have h1 := val_top hvd (by omega); have h3 := iZ hcv (by omega); rw [hvl] at h1 h3; have h2 := Nat.mul_le_mul_right (pw (b.length - 1)) h3.1; omega
   refine jE <| jA <| kx [(9, (gO (eD b)))] [] (zM <| zM <| zE (oSb (b.length - 1)) <| zE (oXl kY (b.length - 1) (0 : Nat)) <| zE (xX uG) <| zE (cZ gK yY (b.getD (b.length - 1) 0)) <| zE (qP ((b.getD (b.length - 1) 0) + 1)) <| zE (oQu (eD b) (hr := by exact (quo_u64 1000000000 (b.getD (b.length - 1) 0 + 1) (by decide)))) <| zM <| zZ) ?_
   refine jA <| kx [(0, (vl 152 1 jC u)), (1, (vl 152 1 jC v))] [] (zM <| zM <| zE (kA (hue ▸ r_scaled a (eD b) hda.1 (by omega) (by omega))) <| zM <| zM <| zE (kA (hve ▸ r_scaled b (eD b) hdb.1 (by omega) (by omega))) <| zM <| zM <| zZ) ?_
   refine jA <| kx [(10, (vl 152 1 jC (ofNat (val (List.drop ((u.length - b.length) + 1) u)))))] [] (zM <| zM <| zE (dD kY) <| zM <| zE (oSb (u.length - b.length)) <| zE (qP ((u.length - b.length) + 1)) <| zE (e_slc (l := ((u.length - b.length) + 1)) (h := (List.map jC u).length) (kl := .i64) (kh := .i64) (es' := List.map jC (List.drop ((u.length - b.length) + 1) u)) (by exact rfl) kY (by exact rfl) (by exact rfl) (by exact rfl) (by simp only [List.length_map]; omega) (Nat.le_refl _) (by rw [List.take_length, List.map_drop])) <| zE (kA (mF false (List.drop ((u.length - b.length) + 1) u) (hu.drop _) (by rw [List.length_drop]; omega))) <| zE (oF1 bP gL) <| zM <| zZ) ?_
   refine jA <| kx [(11, (.own 0 152 1 ((u.length - b.length) + 1)))] [(0, some (bm jC (List.replicate ((u.length - b.length) + 1) 0)))] (zM <| zE (dD kY) <| zM <| zE (oSb (u.length - b.length)) <| zE (qP ((u.length - b.length) + 1)) <| zN (oMk 0 jC (0 : Nat) ((u.length - b.length) + 1) ((u.length - b.length) + 1) kY xK gI cD) <| zM <| zZ) ?_
   refine jA <| jA <| kx [(12, (vi ((((u.length - b.length) + 1 : Nat) : Int) - 1)))] [] (zM <| zE (dD kY) <| zM <| zE (fT ((((u.length - b.length) + 1 : Nat) : Int) - 1)) <| zM <| zZ) ?_
   refine jF <| uT (α := Nat × List Nat × List Nat) (fun (k, r, q) => ⟨[(0, (vl 152 1 jC u)), (1, (vl 152 1 jC v)), (6, (kD b.length)), (9, (gO (eD b))), (10, (vl 152 1 jC r)), (11, (.own 0 152 1 ((u.length - b.length) + 1))), (12, (vi (((k : Nat) : Int) - 1)))], [(0, some (bm jC q))]⟩) (fun (k, r, q) => gS r ∧ k ≤ ((u.length - b.length) + 1) ∧ q.length = ((u.length - b.length) + 1) ∧ Dig q ∧ val r < val v ∧ val (u.drop k) = val v * val (q.drop k) + val r) (fun (k, r, q) => k) (((u.length - b.length) + 1), ofNat (val (List.drop ((u.length - b.length) + 1) u)), List.replicate ((u.length - b.length) + 1) 0) wk ⟨qU _, Nat.le_refl _, by simp, yD _, by rw [kQ]; have h7 := xO (hu.drop ((u.length - b.length) + 1)); rw [List.length_drop, show u.length - ((u.length - b.length) + 1) = b.length - 1 by omega] at h7; omega, by rw [kQ]; simp [val]⟩ ?_
   rintro ⟨k, r, q⟩ ⟨hrc, hk, hql, hqd, hr, hv⟩
   refine jA <| jA <| kx [(75, (vb (decide (0 ≤ (((k : Nat) : Int) - 1)))))] [] (zM <| zE oGe <| zZ) ?_
   refine jV (b := decide (0 ≤ (((k : Nat) : Int) - 1))) rfl (fun h3 => ?_) (fun h3 => ?_)
   ·replace h3 := of_decide_eq_true h3
    obtain ⟨i, rfl⟩ : ∃ i, k = i + 1 := ⟨k - 1, by omega⟩
    rw [show (((i + 1 : Nat) : Int) - 1) = ((i : Nat) : Int) from by omega]
    have hgu := hu.getD i
    have hW : (u.getD i 0 + 1000000000 * val r) < 1000000000 * val v := by omega
    have hrs := rshift_val u hv
    obtain ⟨hg1, hg2⟩ := rguess hvd hvl hb0 hW
    have hgv := hvd.getD (b.length - 1)
    have hgw1 := (kR (u.getD i 0 + 1000000000 * val r)).getD b.length
    have hgw2 := (kR (u.getD i 0 + 1000000000 * val r)).getD (b.length - 1)
    have hrl : r.length ≤ b.length := by have h9 := zP (Nat.le_of_lt hr); rwa [← can_eq hrc, ← can_eq hcv, hvl] at h9
    have hwl : (ofNat (u.getD i 0 + 1000000000 * val r)).length ≤ b.length + 1 := uW (by rw [vV]; have := xO hvd; rw [hvl] at this; omega)
    refine jE <| jA <| jF <| jA <| kx [(10, (vl 152 1 jC (ofNat ((u.getD i 0) + 1000000000 * val r)))), (12, (kD i))] [] (zM <| zM <| zM <| zE (oXl kY i (0 : Nat)) <| zE (xX uG) <| zE (kA (r_shifted r (u.getD i 0) hrc.1 (by omega) (by omega))) <| zM <| zZ) ?_
    refine jA <| kd [(13, (gO (((((ofNat ((u.getD i 0) + 1000000000 * val r)).getD b.length 0) * 1000000000) + ((ofNat ((u.getD i 0) + 1000000000 * val r)).getD (b.length - 1) 0)) / ((v.getD (b.length - 1) 0) + 1))))] [] mo (wM <| wM <| wE (kA (bA (ofNat ((u.getD i 0) + 1000000000 * val r)) b.length (kR _))) <| wE (oMl (((ofNat ((u.getD i 0) + 1000000000 * val r)).getD b.length 0) * 1000000000)) <| wM <| wM <| wE (oSb (b.length - 1)) <| wE (kA (bA (ofNat ((u.getD i 0) + 1000000000 * val r)) (b.length - 1) (by first | assumption | exact kR _ | exact (qU _).1 | exact (qV _).1))) <| wE (qP ((((ofNat ((u.getD i 0) + 1000000000 * val r)).getD b.length 0) * 1000000000) + ((ofNat ((u.getD i 0) + 1000000000 * val r)).getD (b.length - 1) 0))) <| wM <| wM <| wE (oSb (b.length - 1)) <| wE (oXl kY (b.length - 1) (0 : Nat)) <| wE (xX uG) <| wE (cZ gK yY (v.getD (b.length - 1) 0)) <| wE (qP ((v.getD (b.length - 1) 0) + 1)) <| wE (oQu (((((ofNat ((u.getD i 0) + 1000000000 * val r)).getD b.length 0) * 1000000000) + ((ofNat ((u.getD i 0) + 1000000000 * val r)).getD (b.length - 1) 0)) / ((v.getD (b.length - 1) 0) + 1))) <| wM <| wZ) ?_
    refine jA <| kx [(10, (vl 152 1 jC (ofNat (val (ofNat ((u.getD i 0) + 1000000000 * val r)) - val (ofNat (val v * (((((ofNat ((u.getD i 0) + 1000000000 * val r)).getD b.length 0) * 1000000000) + ((ofNat ((u.getD i 0) + 1000000000 * val r)).getD (b.length - 1) 0)) / ((v.getD (b.length - 1) 0) + 1))))))))] [] (zM <| zM <| zM <| zE (kA (r_scaled v (((((ofNat ((u.getD i 0) + 1000000000 * val r)).getD b.length 0) * 1000000000) + ((ofNat ((u.getD i 0) + 1000000000 * val r)).getD (b.length - 1) 0)) / ((v.getD (b.length - 1) 0) + 1)) hvd (by omega) (by omega))) <| zE (kA (r_minus (ofNat ((u.getD i 0) + 1000000000 * val r)) (ofNat (val v * (((((ofNat ((u.getD i 0) + 1000000000 * val r)).getD b.length 0) * 1000000000) + ((ofNat ((u.getD i 0) + 1000000000 * val r)).getD (b.length - 1) 0)) / ((v.getD (b.length - 1) 0) + 1)))) (kR _) (kR _) (by rw [kQ, kQ, Nat.mul_comm]; exact hg1) (by omega))) <| zM <| zZ) ?_
    refine jA <| jF <| uT (α := Nat × List Nat) (fun (G, r2) => ⟨[(0, (vl 152 1 jC u)), (1, (vl 152 1 jC v)), (6, (kD b.length)), (9, (gO (eD b))), (10, (vl 152 1 jC r2)), (11, (.own 0 152 1 ((u.length - b.length) + 1))), (12, (kD i)), (13, (gO G))], [(0, some (bm jC q))]⟩) (fun (G, r2) => gS r2 ∧ val v * G + val r2 = (u.getD i 0 + 1000000000 * val r)) (fun (G, r2) => val r2) ((((ofNat (u.getD i 0 + 1000000000 * val r)).getD b.length 0 * 1000000000 + (ofNat (u.getD i 0 + 1000000000 * val r)).getD (b.length - 1) 0) / (v.getD (b.length - 1) 0 + 1)), ofNat (val (ofNat (u.getD i 0 + 1000000000 * val r)) - val (ofNat (val v * (((ofNat (u.getD i 0 + 1000000000 * val r)).getD b.length 0 * 1000000000 + (ofNat (u.getD i 0 + 1000000000 * val r)).getD (b.length - 1) 0) / (v.getD (b.length - 1) 0 + 1)))))) wk ⟨qU _, by rw [kQ, kQ, kQ]; rw [Nat.mul_comm] at hg1; omega⟩ ?_
    rintro ⟨G, r2⟩ ⟨hr2, hr2v⟩
    have hr2l : r2.length ≤ b.length + 1 := by have h9 := zP (show val r2 ≤ (u.getD i 0 + 1000000000 * val r) by omega); rw [← can_eq hr2] at h9; omega
    refine jA <| jA <| kx [(109, (vb (decide (0 ≤ (xE ((val r2 : Nat) : Int) ((val v : Nat) : Int))))))] [] (zM <| zM <| zE (kA (r_size r2 v hr2 hcv (by omega) (by omega))) <| zE oGe <| zZ) ?_
    refine jV rfl (fun h4 => ?_) (fun h4 => ?_)
    ·replace h4 := of_decide_eq_true h4
     have hge := iS h4
     have hG := rquo_lt hr2v hW
     have hr2l : r2.length ≤ b.length + 1 := by have h9 := zP (show val r2 ≤ (u.getD i 0 + 1000000000 * val r) by omega); rw [← can_eq hr2] at h9; omega
     refine jE <| jF <| jA <| kx [(10, (vl 152 1 jC (ofNat (val r2 - val v))))] [] (zM <| zM <| zE (kA (r_minus r2 v hr2.1 hvd (by omega) (by omega))) <| zM <| zZ) ?_
     refine kx [(13, (gO (G + 1)))] [] (zM <| zE (qP (G + 1)) <| zM <| zZ) ?_
     exact ⟨(G + 1, ofNat (val r2 - val v)), wk, (by have hge := iS h4; exact ⟨qU _, by rw [kQ, Nat.mul_add, Nat.mul_one]; omega⟩), (by have hge := iS h4; dsimp only; rw [kQ]; omega)⟩
    ·replace h4 := of_decide_eq_false h4
     have hG := rquo_lt hr2v hW
     have hlt : val r2 < val v := by have h9 := cmpI_lt h4; omega
     refine kB <| kx [] [(0, some (bm jC (q.set i G)))] (zM <| zM <| zM <| zE (cZ nW gW G) <| zE (oXo kY i) <| zT (oSp uG i G) <| zZ) ?_
     refine kx [(12, (vi (((i : Nat) : Int) - 1)))] [] (zM <| zE (fT (((i : Nat) : Int) - 1)) <| zM <| zZ) ?_
     exact ⟨(i, r2, q.set i G), wk, ⟨hr2, by omega, by simpa using hql, hqd.set _ hG, hlt, rround (by omega) (by rw [hr2v]; exact hrs)⟩, (by first | omega | (dsimp only; omega))⟩
   ·replace h3 := of_decide_eq_false h3
    obtain rfl : k = 0 := by omega
    obtain ⟨e1, e2⟩ := scl_div (a := a) (b := b) (q := q) (u := r) hdb hb0 (by rw [List.drop_zero, List.drop_zero] at hv; rw [cU, Nat.one_mul, List.drop_zero, ← huv, ← hvv, hv]; omega) (by rw [List.drop_zero, ← hvv]; exact hr)
    have hrl : r.length ≤ b.length := by have h9 := zP (Nat.le_of_lt hr); rwa [← can_eq hrc, ← can_eq hcv, hvl] at h9
    refine kB <| jA <| kx [(14, (vl 152 1 jC (ofNat (val r / (eD b)))))] [] (zM <| zM <| zE (kA (r_short r (eD b) hrc.1 (by omega) (by omega) (by omega))) <| zM <| zE uZ <| zE uZ <| zM <| zM <| zZ) ?_
    refine jA <| kJ (uV (t := 11) (k := 0) (es := List.map jC q) rfl rfl (vK _ _ (fun _ => rfl)) (uS _ _ hql) (xG _ _ (fun _ => rfl) hql)) ?_
    refine kx [(4, (vl 152 1 jC (ofNat (val q)))), (5, (vl 152 1 jC (ofNat (val r / (eD b)))))] [] (zM <| zE (kA (mF false q hqd (by omega))) <| zE (oF1 bP gL) <| zM <| zM <| zM <| zZ) ?_
    refine jJ ⟨_, (.tmp (d := (.sl 152 1 (List.map jC (ofNat (val q))))) rfl (.tmp (d := (.sl 152 1 (List.map jC (ofNat (val r / (eD b)))))) rfl .nil)), ?_⟩
    rw [← e1, ← e2]; rfl
end Go.Proofs.YtbecgnplakngdaaGreat
