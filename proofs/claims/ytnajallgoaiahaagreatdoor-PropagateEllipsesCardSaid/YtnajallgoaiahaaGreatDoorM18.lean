/- Part 18 of a proof: rules, plain facts, and functions walked. -/
import Derived.Test.YtnajallgoaiahaaGreatDoorM17
namespace Go.Proofs.YtnajallgoaiahaaGreatDoor
open Go.Fid
set_option maxRecDepth 4000
set_option linter.unusedVariables false
set_option linter.unusedSimpArgs false
theorem cb83 : callB Tryz.prog 83 = true := by kernel_rfl
theorem cb87 : callB Tryz.prog 87 = true := by kernel_rfl
theorem cb96 : callB Tryz.prog 96 = true := by kernel_rfl
theorem cb145 : callB Tryz.prog 145 = true := by kernel_rfl
theorem cb175 : callB Tryz.prog 175 = true := by kernel_rfl
theorem cb176 : callB Tryz.prog 176 = true := by kernel_rfl
theorem cb177 : callB Tryz.prog 177 = true := by kernel_rfl
theorem cb240 : callB Tryz.prog 240 = true := by kernel_rfl
theorem r_neg (x : jD) (hx : x.gs.length ≤ 1099511627776) : jV Tryz.prog 145 [(jM x)] (jM (jZ (-jY x))) := by
 have hvx := cL x
 refine jJ Tryz.func145 rfl cb145 rfl ?_
 show qI _ _ _ _ ⟨[(0, (.d (jM x)))], []⟩
 refine jB <| kx [(1, (.ref 0 0)), (2, (.ref 1 0))] [(0, some (bx (jM x))), (1, some (bx (jM (jD.mk false []))))] (zN (vL 0) <| zN (qS 1 vP vQ) <| zZ) ?_
 refine jB <| kx [] [(0, some (bx (jM (jZ (jY x)))))] (zR (kR jS) <| zE (jX (hZ x (by omega))) <| zT (qC jS) <| zZ) ?_
 refine jB <| kx [] [(1, some (bx (jM (vS (!((jZ (jY x)).neg)) (val (ofNat (Int.natAbs (jY x))))))))] (zE (qH uQ) <| zR (qP aG) <| zE mM <| zE (qH uR) <| zR (qP xG) <| zE (jX (gQ (!((jZ (jY x)).neg)) (ofNat (Int.natAbs (jY x))) (by first | assumption | exact kF _ | exact (kW _).1 | exact (qD _).1) (by omega))) <| zT (qC jS) <| zZ) ?_
 refine jG ⟨_, (kU (cs := (bx (jM (vS (!((jZ (jY x)).neg)) (val (ofNat (Int.natAbs (jY x)))))))) (d := (jM (vS (!((jZ (jY x)).neg)) (val (ofNat (Int.natAbs (jY x))))))) rfl rfl jS rfl rfl .nil), ?_⟩
 rw [← rneg_eq]; rfl
theorem r_sign (x : jD) (hx : x.gs.length ≤ 1099511627776) : jV Tryz.prog 83 [(jM x)] (.val (.int .i64 ((qY (jY x))))) := by
 have hvx := cL x
 refine jJ Tryz.func83 rfl cb83 rfl ?_
 show qI _ _ _ _ ⟨[(0, (.d (jM x)))], []⟩
 refine jB <| kx [(1, (.ref 0 0))] [(0, some (bx (jM x)))] (zN (vL 0) <| zM <| zZ) ?_
 refine jB <| kx [] [(0, some (bx (jM (jZ (jY x)))))] (zR (kR jS) <| zE (jX (hZ x (by omega))) <| zT (qC jS) <| zZ) ?_
 refine jB <| jB <| kx [(8, (vb ((((ofNat (Int.natAbs (jY x))).length : Nat) : Int) == 0)))] [] (zE (qH uR) <| zR (qP xG) <| zE (vG kJ (L := (ofNat (Int.natAbs (jY x))))) <| zE nF <| zZ) ?_
 refine jH rfl (fun h1 => ?_) (fun h1 => ?_)
 ·replace h1 := eq_of_beq h1
  refine jB <| kx [(2, (jW 0))] [] (zM <| zZ) ?_
  refine jG ⟨_, (.tmp (d := (.val (.int .i64 (0)))) rfl .nil), ?_⟩
  rw [rsign_zero h1]; rfl
 ·replace h1 := ne_of_beq_false h1
  refine jF <| jB <| jB <| kx [(10, (vb ((jZ (jY x)).neg)))] [] (zE (qH uQ) <| zR (qP aG) <| zZ) ?_
  refine jH (b := (jZ (jY x)).neg) rfl (fun h2 => ?_) (fun h2 => ?_)
  ·refine jB <| kx [(2, (vi (-1)))] [] (zM <| zZ) ?_
   refine jG ⟨_, (.tmp (d := (.val (.int .i64 (-1)))) rfl .nil), ?_⟩
   rw [rsign_neg h1 h2]; rfl
  ·refine jF <| jB <| kx [(2, (jW 1))] [] (zM <| zZ) ?_
   refine jG ⟨_, (.tmp (d := (.val (.int .i64 (1)))) rfl .nil), ?_⟩
   rw [rsign_pos h1 h2]; rfl
theorem r_add (x : jD) (y : jD) (hx : x.gs.length ≤ 1099511627776) (hy : y.gs.length ≤ 1099511627776) : jV Tryz.prog 96 [(jM x), (jM y)] (jM (jZ (jY x + jY y))) := by
 have hvx := cL x
 have hvy := cL y
 refine jJ Tryz.func96 rfl cb96 rfl ?_
 show qI _ _ _ _ ⟨[(0, (.d (jM x))), (1, (.d (jM y)))], []⟩
 refine jB <| kx [(2, (.ref 0 0)), (3, (.ref 1 0)), (4, (.ref 2 0))] [(0, some (bx (jM x))), (1, some (bx (jM y))), (2, some (bx (jM (jD.mk false []))))] (zN (vL 0) <| zN (vL 1) <| zN (qS 2 vP vQ) <| zZ) ?_
 refine jB <| kd [] [(0, some (bx (jM (jZ (jY x))))), (1, some (bx (jM (jZ (jY y)))))] mo (wR (kR jS) <| wE (jX (hZ x (by omega))) <| wR (kR jS) <| wE (jX (hZ y (by omega))) <| wT (qC jS) <| wT (qC jS) <| wZ) ?_
 refine jB <| jB <| kx [(13, (vb (((jZ (jY x)).neg) == ((jZ (jY y)).neg))))] [] (zE (qH uQ) <| zR (qP aG) <| zE (qH uQ) <| zR (qP aG) <| zE (oEb bo4) <| zZ) ?_
 refine jH rfl (fun h1 => ?_) (fun h1 => ?_)
 ·replace h1 := eq_of_beq h1
  refine jB <| kd [] [(2, some (bx (jM (vS ((jZ (jY x)).neg) (val (ofNat (val (ofNat (Int.natAbs (jY x))) + val (ofNat (Int.natAbs (jY y))))))))))] mo (wE (qH uQ) <| wR (qP aG) <| wE (qH uR) <| wR (qP xG) <| wE (qH uR) <| wR (qP xG) <| wE (jX (r_plus (ofNat (Int.natAbs (jY x))) (ofNat (Int.natAbs (jY y))) (by first | assumption | exact kF _ | exact (kW _).1 | exact (qD _).1) (by first | assumption | exact kF _ | exact (kW _).1 | exact (qD _).1) (by omega) (by omega))) <| wE (jX (gQ ((jZ (jY x)).neg) (ofNat (val (ofNat (Int.natAbs (jY x))) + val (ofNat (Int.natAbs (jY y))))) (by first | assumption | exact kF _ | exact (kW _).1 | exact (qD _).1) (by first | omega | exact Nat.le_trans (add_len (kF _) (kF _)) (by omega) | exact Nat.le_trans (sub_len (kF _)) (by omega)))) <| wT (qC jS) <| wZ) ?_
  refine jG ⟨_, (kU (cs := (bx (jM (vS ((jZ (jY x)).neg) (val (ofNat (val (ofNat (Int.natAbs (jY x))) + val (ofNat (Int.natAbs (jY y)))))))))) (d := (jM (vS ((jZ (jY x)).neg) (val (ofNat (val (ofNat (Int.natAbs (jY x))) + val (ofNat (Int.natAbs (jY y))))))))) rfl rfl jS rfl rfl .nil), ?_⟩
  rw [← rsum_same h1]; rfl
 ·replace h1 := ne_of_beq_false h1
  refine jF <| jB <| jB <| kx [(27, (vb (decide (0 ≤ (uC ((val (ofNat (Int.natAbs (jY x))) : Nat) : Int) ((val (ofNat (Int.natAbs (jY y))) : Nat) : Int))))))] [] (zE (qH uR) <| zR (qP xG) <| zE (qH uR) <| zR (qP xG) <| zE (jX (r_size (ofNat (Int.natAbs (jY x))) (ofNat (Int.natAbs (jY y))) (by first | assumption | exact kW _ | exact qD _) (by first | assumption | exact kW _ | exact qD _) (by omega) (by omega))) <| zE oGe <| zZ) ?_
  refine jH rfl (fun h2 => ?_) (fun h2 => ?_)
  ·replace h2 := of_decide_eq_true h2
   refine jB <| kd [] [(2, some (bx (jM (vS ((jZ (jY x)).neg) (val (ofNat (val (ofNat (Int.natAbs (jY x))) - val (ofNat (Int.natAbs (jY y))))))))))] mo (wE (qH uQ) <| wR (qP aG) <| wE (qH uR) <| wR (qP xG) <| wE (qH uR) <| wR (qP xG) <| wE (jX (r_minus (ofNat (Int.natAbs (jY x))) (ofNat (Int.natAbs (jY y))) (by first | assumption | exact kF _ | exact (kW _).1 | exact (qD _).1) (by first | assumption | exact kF _ | exact (kW _).1 | exact (qD _).1) (by have := aF h2; omega) (by omega))) <| wE (jX (gQ ((jZ (jY x)).neg) (ofNat (val (ofNat (Int.natAbs (jY x))) - val (ofNat (Int.natAbs (jY y))))) (by first | assumption | exact kF _ | exact (kW _).1 | exact (qD _).1) (by first | omega | exact Nat.le_trans (add_len (kF _) (kF _)) (by omega) | exact Nat.le_trans (sub_len (kF _)) (by omega)))) <| wT (qC jS) <| wZ) ?_
   refine jG ⟨_, (kU (cs := (bx (jM (vS ((jZ (jY x)).neg) (val (ofNat (val (ofNat (Int.natAbs (jY x))) - val (ofNat (Int.natAbs (jY y)))))))))) (d := (jM (vS ((jZ (jY x)).neg) (val (ofNat (val (ofNat (Int.natAbs (jY x))) - val (ofNat (Int.natAbs (jY y))))))))) rfl rfl jS rfl rfl .nil), ?_⟩
   rw [← rsum_first h1 (by have := aF h2; omega)]; rfl
  ·replace h2 := of_decide_eq_false h2
   refine jF <| jB <| kd [] [(2, some (bx (jM (vS ((jZ (jY y)).neg) (val (ofNat (val (ofNat (Int.natAbs (jY y))) - val (ofNat (Int.natAbs (jY x))))))))))] mo (wE (qH uQ) <| wR (qP aG) <| wE (qH uR) <| wR (qP xG) <| wE (qH uR) <| wR (qP xG) <| wE (jX (r_minus (ofNat (Int.natAbs (jY y))) (ofNat (Int.natAbs (jY x))) (by first | assumption | exact kF _ | exact (kW _).1 | exact (qD _).1) (by first | assumption | exact kF _ | exact (kW _).1 | exact (qD _).1) (by have := cmpI_lt h2; omega) (by omega))) <| wE (jX (gQ ((jZ (jY y)).neg) (ofNat (val (ofNat (Int.natAbs (jY y))) - val (ofNat (Int.natAbs (jY x))))) (by first | assumption | exact kF _ | exact (kW _).1 | exact (qD _).1) (by first | omega | exact Nat.le_trans (add_len (kF _) (kF _)) (by omega) | exact Nat.le_trans (sub_len (kF _)) (by omega)))) <| wT (qC jS) <| wZ) ?_
   refine jG ⟨_, (kU (cs := (bx (jM (vS ((jZ (jY y)).neg) (val (ofNat (val (ofNat (Int.natAbs (jY y))) - val (ofNat (Int.natAbs (jY x)))))))))) (d := (jM (vS ((jZ (jY y)).neg) (val (ofNat (val (ofNat (Int.natAbs (jY y))) - val (ofNat (Int.natAbs (jY x))))))))) rfl rfl jS rfl rfl .nil), ?_⟩
   rw [← rsum_second h1 (by have := cmpI_lt h2; omega)]; rfl
theorem r_sub (x : jD) (y : jD) (hx : x.gs.length ≤ 1099511627776) (hy : y.gs.length ≤ 1099511627776) : jV Tryz.prog 175 [(jM x), (jM y)] (jM (jZ (jY x - jY y))) := by
 have hv := gs_neg y
 refine jJ Tryz.func175 rfl cb175 rfl ?_
 show qI _ _ _ _ ⟨[(0, (.d (jM x))), (1, (.d (jM y)))], []⟩
 refine jB <| kx [(2, (.ref 0 0)), (3, (.ref 1 0)), (4, (.ref 2 0))] [(0, some (bx (jM x))), (1, some (bx (jM y))), (2, some (bx (jM (jD.mk false []))))] (zN (vL 0) <| zN (vL 1) <| zN (qS 2 vP vQ) <| zZ) ?_
 refine jB <| kd [] [(2, some (bx (jM (jZ (jY x + jY (jZ (-jY y)))))))] mo (wR (kR jS) <| wR (kR jS) <| wE (jX (r_neg y (by omega))) <| wE (jX (r_add x (jZ (-jY y)) (by omega) (by omega))) <| wT (qC jS) <| wZ) ?_
 refine jG ⟨_, (kU (cs := (bx (jM (jZ (jY x + jY (jZ (-jY y))))))) (d := (jM (jZ (jY x + jY (jZ (-jY y)))))) rfl rfl jS rfl rfl .nil), ?_⟩
 rw [gV, ← Int.sub_eq_add_neg]; rfl
theorem r_mul (x : jD) (y : jD) (hx : x.gs.length ≤ 1099511627776) (hy : y.gs.length ≤ 1099511627776) : jV Tryz.prog 87 [(jM x), (jM y)] (jM (jZ (jY x * jY y))) := by
 have hvx := cL x
 have hvy := cL y
 have hda := kF (Int.natAbs (jY x))
 have hdb := kF (Int.natAbs (jY y))
 refine jJ Tryz.func87 rfl cb87 rfl ?_
 show qI _ _ _ _ ⟨[(0, (.d (jM x))), (1, (.d (jM y)))], []⟩
 refine jB <| kx [(2, (.ref 0 0)), (3, (.ref 1 0)), (4, (.ref 2 0))] [(0, some (bx (jM x))), (1, some (bx (jM y))), (2, some (bx (jM (jD.mk false []))))] (zN (vL 0) <| zN (vL 1) <| zN (qS 2 vP vQ) <| zZ) ?_
 refine jB <| kd [] [(0, some (bx (jM (jZ (jY x))))), (1, some (bx (jM (jZ (jY y)))))] mo (wR (kR jS) <| wE (jX (hZ x (by omega))) <| wR (kR jS) <| wE (jX (hZ y (by omega))) <| wT (qC jS) <| wT (qC jS) <| wZ) ?_
 refine jB <| kx [(5, (.own 3 140 1 ((ofNat (Int.natAbs (jY x))).length + (ofNat (Int.natAbs (jY y))).length)))] [(3, some (bm jC (List.replicate ((ofNat (Int.natAbs (jY x))).length + (ofNat (Int.natAbs (jY y))).length) 0)))] (zE (qH uR) <| zR (qP xG) <| zE (vG kJ (L := (ofNat (Int.natAbs (jY x))))) <| zE (qH uR) <| zR (qP xG) <| zE (vG kJ (L := (ofNat (Int.natAbs (jY y))))) <| zE (vU ((ofNat (Int.natAbs (jY x))).length + (ofNat (Int.natAbs (jY y))).length)) <| zN (oMk 3 jC (0 : Nat) ((ofNat (Int.natAbs (jY x))).length + (ofNat (Int.natAbs (jY y))).length) ((ofNat (Int.natAbs (jY x))).length + (ofNat (Int.natAbs (jY y))).length) kJ vB xV gL) <| zM <| zZ) ?_
 refine jB <| jB <| kx [(6, (jW 0))] [] (zM <| zZ) ?_
 refine jI <| kN (α := Nat × List Nat) (fun (i, out) => ⟨[(2, (.ref 0 0)), (3, (.ref 1 0)), (4, (.ref 2 0)), (5, (.own 3 140 1 ((ofNat (Int.natAbs (jY x))).length + (ofNat (Int.natAbs (jY y))).length))), (6, (jW i))], [(0, some (bx (jM (jZ (jY x))))), (1, some (bx (jM (jZ (jY y))))), (2, some (bx (jM (jD.mk false [])))), (3, some (bm jC out))]⟩) (fun (i, out) => out.length = (ofNat (Int.natAbs (jY x))).length + (ofNat (Int.natAbs (jY y))).length ∧ Dig out ∧ i ≤ (ofNat (Int.natAbs (jY x))).length ∧ (∀ k, i + (ofNat (Int.natAbs (jY y))).length ≤ k → out.getD k 0 = 0) ∧ val out = val ((ofNat (Int.natAbs (jY x))).take i) * val (ofNat (Int.natAbs (jY y)))) (fun (i, out) => (ofNat (Int.natAbs (jY x))).length - i) (0, List.replicate ((ofNat (Int.natAbs (jY x))).length + (ofNat (Int.natAbs (jY y))).length) 0) wk ⟨by simp, xR _, Nat.zero_le _, fun k _ => dT _ k, by simp [val, cM]⟩ ?_
 rintro ⟨i, out⟩ ⟨qV, hdo, hi, hz, hv⟩
 have hai := hda.getD i
 refine jB <| jB <| kx [(26, (vb (decide (((i : Nat) : Int) < (((ofNat (Int.natAbs (jY x))).length : Nat) : Int)))))] [] (zM <| zE (qH uR) <| zR (qP xG) <| zE (vG kJ (L := (ofNat (Int.natAbs (jY x))))) <| zE xK <| zZ) ?_
 refine jH rfl (fun h1 => ?_) (fun h1 => ?_)
 ·replace h1 := of_decide_eq_true h1
  refine jF <| jB <| jI <| jB <| kx [(7, (yG 0))] [] (zM <| zZ) ?_
  refine jB <| jB <| kx [(8, (jW 0))] [] (zM <| zZ) ?_
  refine jI <| kN (α := Nat × List Nat × Nat) (fun (j, o2, c) => ⟨[(2, (.ref 0 0)), (3, (.ref 1 0)), (4, (.ref 2 0)), (5, (.own 3 140 1 ((ofNat (Int.natAbs (jY x))).length + (ofNat (Int.natAbs (jY y))).length))), (6, (jW i)), (7, (yG c)), (8, (jW j))], [(0, some (bx (jM (jZ (jY x))))), (1, some (bx (jM (jZ (jY y))))), (2, some (bx (jM (jD.mk false [])))), (3, some (bm jC o2))]⟩) (fun (j, o2, c) => o2.length = (ofNat (Int.natAbs (jY x))).length + (ofNat (Int.natAbs (jY y))).length ∧ Dig o2 ∧ j ≤ (ofNat (Int.natAbs (jY y))).length ∧ c < 1000000000 ∧ (∀ k, i + (ofNat (Int.natAbs (jY y))).length ≤ k → o2.getD k 0 = 0) ∧ val o2 + pw (i + j) * c = val ((ofNat (Int.natAbs (jY x))).take i) * val (ofNat (Int.natAbs (jY y))) + pw i * ((ofNat (Int.natAbs (jY x))).getD i 0 * val ((ofNat (Int.natAbs (jY y))).take j))) (fun (j, o2, c) => (ofNat (Int.natAbs (jY y))).length - j) (0, out, 0) wk ⟨qV, hdo, Nat.zero_le _, by decide, hz, by simp [val, hv]⟩ ?_
  rintro ⟨j, o2, c⟩ ⟨hlen2, hdo2, hj, hc, hz2, hv2⟩
  have hbj := hdb.getD j
  have hoj := hdo2.getD (i + j)
  have hpq : (ofNat (Int.natAbs (jY x))).getD i 0 * (ofNat (Int.natAbs (jY y))).getD j 0 ≤ 999999999 * 999999999 := Nat.mul_le_mul (by omega) (by omega)
  refine jB <| jB <| kx [(33, (vb (decide (((j : Nat) : Int) < (((ofNat (Int.natAbs (jY y))).length : Nat) : Int)))))] [] (zM <| zE (qH uR) <| zR (qP xG) <| zE (vG kJ (L := (ofNat (Int.natAbs (jY y))))) <| zE xK <| zZ) ?_
  refine jH rfl (fun h2 => ?_) (fun h2 => ?_)
  ·replace h2 := of_decide_eq_true h2
   refine jF <| jB <| jI <| jB <| kd [(9, (yG (((o2.getD (i + j) 0) + (((ofNat (Int.natAbs (jY x))).getD i 0) * ((ofNat (Int.natAbs (jY y))).getD j 0))) + c)))] [] mo (wM <| wM <| wM <| wE (vU (i + j)) <| wE (eF kJ (i + j)) <| wR (oLp qK (i + j) (0 : Nat)) <| wE (nO yC zW (o2.getD (i + j) 0)) <| wE (qH uR) <| wR (qP xG) <| wM <| wE (xM kJ i (0 : Nat) (L := (ofNat (Int.natAbs (jY x))))) <| wE (xZ qK) <| wE (nO yC zW ((ofNat (Int.natAbs (jY x))).getD i 0)) <| wE (qH uR) <| wR (qP xG) <| wM <| wE (xM kJ j (0 : Nat) (L := (ofNat (Int.natAbs (jY y))))) <| wE (xZ qK) <| wE (nO yC zW ((ofNat (Int.natAbs (jY y))).getD j 0)) <| wE (oMl (((ofNat (Int.natAbs (jY x))).getD i 0) * ((ofNat (Int.natAbs (jY y))).getD j 0))) <| wE (vU ((o2.getD (i + j) 0) + (((ofNat (Int.natAbs (jY x))).getD i 0) * ((ofNat (Int.natAbs (jY y))).getD j 0)))) <| wM <| wE (vU (((o2.getD (i + j) 0) + (((ofNat (Int.natAbs (jY x))).getD i 0) * ((ofNat (Int.natAbs (jY y))).getD j 0))) + c)) <| wM <| wZ) ?_
   refine jB <| kx [] [(3, some (bm jC (o2.set (i + j) ((((o2.getD (i + j) 0) + (((ofNat (Int.natAbs (jY x))).getD i 0) * ((ofNat (Int.natAbs (jY y))).getD j 0))) + c) % 1000000000))))] (zM <| zM <| zM <| zE (vU (i + j)) <| zM <| zE (oRe ((((o2.getD (i + j) 0) + (((ofNat (Int.natAbs (jY x))).getD i 0) * ((ofNat (Int.natAbs (jY y))).getD j 0))) + c) % 1000000000)) <| zE (nO gH yU ((((o2.getD (i + j) 0) + (((ofNat (Int.natAbs (jY x))).getD i 0) * ((ofNat (Int.natAbs (jY y))).getD j 0))) + c) % 1000000000)) <| zE (eF kJ (i + j)) <| zT (oSp qK (i + j) ((((o2.getD (i + j) 0) + (((ofNat (Int.natAbs (jY x))).getD i 0) * ((ofNat (Int.natAbs (jY y))).getD j 0))) + c) % 1000000000)) <| zZ) ?_
   refine kx [(7, (yG ((((o2.getD (i + j) 0) + (((ofNat (Int.natAbs (jY x))).getD i 0) * ((ofNat (Int.natAbs (jY y))).getD j 0))) + c) / 1000000000)))] [] (zM <| zE (oQu ((((o2.getD (i + j) 0) + (((ofNat (Int.natAbs (jY x))).getD i 0) * ((ofNat (Int.natAbs (jY y))).getD j 0))) + c) / 1000000000)) <| zM <| zZ) ?_
   refine kx [(8, (jW (j + 1)))] [] (zM <| zE (vU (j + 1)) <| zM <| zZ) ?_
   exact ⟨(j + 1, o2.set (i + j) ((o2.getD (i + j) 0 + (ofNat (Int.natAbs (jY x))).getD i 0 * (ofNat (Int.natAbs (jY y))).getD j 0 + c) % 1000000000), (o2.getD (i + j) 0 + (ofNat (Int.natAbs (jY x))).getD i 0 * (ofNat (Int.natAbs (jY y))).getD j 0 + c) / 1000000000), wk, (by obtain ⟨q1, q2⟩ := times_step (by omega) hdo2 hv2 rfl (val_take_succ _ j); exact ⟨by simpa using hlen2, q1, by omega, by omega, zero_set (by omega) hz2, q2⟩), (by first | omega | (dsimp only; omega))⟩
  ·replace h2 := of_decide_eq_false h2
   have hje : j = (ofNat (Int.natAbs (jY y))).length := by omega
   rw [hje] at hv2
   refine kL <| kx [] [(3, some (bm jC (o2.set (i + (ofNat (Int.natAbs (jY y))).length) c)))] (zM <| zM <| zE (qH uR) <| zR (qP xG) <| zE (vG kJ (L := (ofNat (Int.natAbs (jY y))))) <| zE (vU (i + (ofNat (Int.natAbs (jY y))).length)) <| zM <| zE (nO gH yU c) <| zE (eF kJ (i + (ofNat (Int.natAbs (jY y))).length)) <| zT (oSp qK (i + (ofNat (Int.natAbs (jY y))).length) c) <| zZ) ?_
   refine kx [(6, (jW (i + 1)))] [] (zM <| zE (vU (i + 1)) <| zM <| zZ) ?_
   exact ⟨(i + 1, o2.set (i + (ofNat (Int.natAbs (jY y))).length) c), wk, (by obtain ⟨q1, q2, q3, q4⟩ := times_row hdo2 (by omega) hlen2 hz2 hc hv2; exact ⟨q1, q2, by omega, q3, q4⟩), (by first | omega | (dsimp only; omega))⟩
 ·replace h1 := of_decide_eq_false h1
  have hie : i = (ofNat (Int.natAbs (jY x))).length := by omega
  rw [hie, List.take_length] at hv
  refine kL <| jB <| qE (vZ (t := 5) (k := 3) (es := List.map jC out) rfl rfl (uM _ _ (fun _ => rfl)) (vC _ _ qV) (vM _ _ (fun _ => rfl) qV)) ?_
  refine kx [] [(2, some (bx (jM (vS (!(((jZ (jY x)).neg) == ((jZ (jY y)).neg))) (val out)))))] (zE (qH uQ) <| zR (qP aG) <| zE (qH uQ) <| zR (qP aG) <| zE (oNb bo4) <| zM <| zE (jX (gQ (!(((jZ (jY x)).neg) == ((jZ (jY y)).neg))) out hdo (by omega))) <| zT (qC jS) <| zZ) ?_
  refine jG ⟨_, (kU (cs := (bx (jM (vS (!(((jZ (jY x)).neg) == ((jZ (jY y)).neg))) (val out))))) (d := (jM (vS (!(((jZ (jY x)).neg) == ((jZ (jY y)).neg))) (val out)))) rfl rfl jS rfl rfl .nil), ?_⟩
  rw [hv, rmul_eq]; rfl
theorem r_short (a : List Nat) (d : Nat) (hda : Dig a) (hd0 : 0 < d) (hd1 : d ≤ 1000000000) (hla : a.length ≤ 17592186044416) : jV Tryz.prog 240 [(.sl 140 1 (List.map jC a)), (.val (.int .u64 (((d : Nat) : Int))))] (.tup [(.sl 140 1 (List.map jC (ofNat (val a / d)))), (.val (.int .u64 ((((val a % d) : Nat) : Int))))]) := by
 refine jJ Tryz.func240 rfl cb240 rfl ?_
 show qI _ _ _ _ ⟨[(0, (vl 140 1 jC a)), (1, (yG d))], []⟩
 refine jB <| kx [] [] (zE (fH 140 1) <| zM <| zZ) ?_
 refine jB <| kx [(6, (.own 0 140 1 a.length))] [(0, some (bm jC (List.replicate a.length 0)))] (zM <| zE (vG kJ) <| zN (oMk 0 jC (0 : Nat) a.length a.length kJ vB xV gL) <| zM <| zZ) ?_
 refine jB <| kx [(7, (yG 0))] [] (zM <| zZ) ?_
 refine jB <| jB <| kx [(8, (vi (((a.length : Nat) : Int) - 1)))] [] (zM <| zE (vG kJ) <| zE (zSb (((a.length : Nat) : Int) - 1)) <| zM <| zZ) ?_
 refine jI <| kN (α := Nat × List Nat × Nat) (fun (k, q, xB) => ⟨[(0, (vl 140 1 jC a)), (1, (yG d)), (6, (.own 0 140 1 a.length)), (7, (yG xB)), (8, (vi (((k : Nat) : Int) - 1)))], [(0, some (bm jC q))]⟩) (fun (k, q, xB) => k ≤ a.length ∧ q.length = a.length ∧ Dig q ∧ xB < d ∧ val (a.drop k) = val (q.drop k) * d + xB) (fun (k, q, xB) => k) (a.length, List.replicate a.length 0, 0) wk ⟨Nat.le_refl _, by simp, xR _, hd0, by simp [val]⟩ ?_
 rintro ⟨k, q, xB⟩ ⟨hk, qV, hdq, hr, hv⟩
 refine jB <| jB <| kx [(17, (vb (decide (0 ≤ (((k : Nat) : Int) - 1)))))] [] (zM <| zE oGe <| zZ) ?_
 refine jH (b := decide (0 ≤ (((k : Nat) : Int) - 1))) rfl (fun h1 => ?_) (fun h1 => ?_)
 ·replace h1 := of_decide_eq_true h1
  obtain ⟨i, rfl⟩ : ∃ i, k = i + 1 := ⟨k - 1, by omega⟩
  rw [show (((i + 1 : Nat) : Int) - 1) = ((i : Nat) : Int) from by omega]
  have hg := hda.getD i
  obtain ⟨hb1, hb2⟩ := short_bound hr hd1 hg
  refine jF <| jB <| jI <| jB <| kx [(8, (jW i)), (9, (yG ((xB * 1000000000) + (a.getD i 0))))] [] (zM <| zE (oMl (xB * 1000000000)) <| zM <| zM <| zE (xM kJ i (0 : Nat)) <| zE (xZ qK) <| zE (nO yC zW (a.getD i 0)) <| zE (vU ((xB * 1000000000) + (a.getD i 0))) <| zM <| zZ) ?_
  refine jB <| kx [] [(0, some (bm jC (q.set i (((xB * 1000000000) + (a.getD i 0)) / d))))] (zM <| zM <| zM <| zM <| zE (oQu (((xB * 1000000000) + (a.getD i 0)) / d)) <| zE (nO gH yU (((xB * 1000000000) + (a.getD i 0)) / d)) <| zE (eF kJ i) <| zT (oSp qK i (((xB * 1000000000) + (a.getD i 0)) / d)) <| zZ) ?_
  refine kx [(7, (yG (((xB * 1000000000) + (a.getD i 0)) % d)))] [] (zM <| zM <| zE (oRe (((xB * 1000000000) + (a.getD i 0)) % d)) <| zM <| zZ) ?_
  refine kx [(8, (vi (((i : Nat) : Int) - 1)))] [] (zM <| zE (zSb (((i : Nat) : Int) - 1)) <| zM <| zZ) ?_
  exact ⟨(i, q.set i ((xB * 1000000000 + a.getD i 0) / d), (xB * 1000000000 + a.getD i 0) % d), wk, ⟨by omega, by simpa using qV, hdq.set _ hb2, Nat.mod_lt _ hd0, rshort_step (by omega) hv rfl⟩, (by first | omega | (dsimp only; omega))⟩
 ·replace h1 := of_decide_eq_false h1
  obtain rfl : k = 0 := by omega
  obtain ⟨e1, e2⟩ := short_end (a := a) (q := q) (by rw [Nat.sub_self]; exact hv) hr
  refine kL <| jB <| qE (vZ (t := 6) (k := 0) (es := List.map jC q) rfl rfl (uM _ _ (fun _ => rfl)) (vC _ _ qV) (vM _ _ (fun _ => rfl) qV)) ?_
  refine kx [(4, (vl 140 1 jC (ofNat (val q)))), (5, (yG xB))] [] (zM <| zE (jX (gQ false q (by first | assumption | exact kF _ | exact (kW _).1 | exact (qD _).1) (by omega))) <| zE (oF1 dY xG) <| zM <| zM <| zM <| zZ) ?_
  refine jG ⟨_, (.tmp (d := (.sl 140 1 (List.map jC (ofNat (val q))))) rfl (.tmp (d := (.val (.int .u64 (((xB : Nat) : Int))))) rfl .nil)), ?_⟩
  rw [← e1, ← e2]; rfl
theorem r_pair (l : List Nat) (hd : Dig l) (h2 : l.length ≤ 2) : jV Tryz.prog 177 [(.sl 140 1 (List.map jC l))] (.val (.int .u64 ((((val l) : Nat) : Int)))) := by
 have h0 := hd.getD 0
 have h1 := hd.getD 1
 refine jJ Tryz.func177 rfl cb177 rfl ?_
 show qI _ _ _ _ ⟨[(0, (vl 140 1 jC l))], []⟩
 refine jB <| kx [] [] (zM <| zZ) ?_
 refine jB <| kx [(2, (yG (((l.getD 1 0) * 1000000000) + (l.getD 0 0))))] [] (zM <| zE (jX (dJ l 1 (by first | assumption | exact kF _ | exact (kW _).1 | exact (qD _).1))) <| zE (oMl ((l.getD 1 0) * 1000000000)) <| zM <| zE (jX (dJ l 0 (by first | assumption | exact kF _ | exact (kW _).1 | exact (qD _).1))) <| zE (vU (((l.getD 1 0) * 1000000000) + (l.getD 0 0))) <| zM <| zZ) ?_
 refine jG ⟨_, (.tmp (d := (.val (.int .u64 ((((((l.getD 1 0) * 1000000000) + (l.getD 0 0)) : Nat) : Int))))) rfl .nil), ?_⟩
 rw [val_pair h2]; rfl
theorem r_parts (a b : List Nat) (hda : xU a) (hdb : xU b) (hb0 : 0 < b.length) (hla : a.length ≤ 1099511627776) (hlb : b.length ≤ 1099511627776) : jV Tryz.prog 176 [(.sl 140 1 (List.map jC a)), (.sl 140 1 (List.map jC b))] (.tup [(.sl 140 1 (List.map jC (ofNat (val a / val b)))), (.sl 140 1 (List.map jC (ofNat (val a % val b))))]) := by
 have hsc := fQ hdb hb0
 have htp := aP hdb hb0
 have hbp := mC hdb hb0
 refine jJ Tryz.func176 rfl cb176 rfl ?_
 show qI _ _ _ _ ⟨[(0, (vl 140 1 jC a)), (1, (vl 140 1 jC b))], []⟩
 refine jB <| kx [] [] (zE (fH 140 1) <| zE (fH 140 1) <| zZ) ?_
 refine jB <| kx [(6, (jW b.length))] [] (zM <| zE (vG kJ) <| zM <| zZ) ?_
 refine jB <| jB <| kx [(19, (vb (((b.length : Nat) : Int) == 1)))] [] (zM <| zE nF <| zZ) ?_
 refine jH (b := (((b.length : Nat) : Int) == 1)) rfl (fun h1 => ?_) (fun h1 => ?_)
 ·replace h1 := eq_of_beq h1
  have hg0 := hdb.1.getD 0
  have hv1 := val_len1 (b := b) (by omega)
  have hb00 : 0 < b.getD 0 0 := by omega
  have hrl : val a % b.getD 0 0 < 1000000000 := Nat.lt_trans (Nat.mod_lt _ hb00) (by omega)
  refine jB <| kx [(7, (vl 140 1 jC (ofNat (val a / (b.getD 0 0))))), (8, (yG (val a % (b.getD 0 0))))] [] (zM <| zM <| zE (xM kJ 0 (0 : Nat)) <| zE (xZ qK) <| zE (nO yC zW (b.getD 0 0)) <| zE (jX (r_short a (b.getD 0 0) hda.1 (by omega) (by omega) (by omega))) <| zM <| zE uZ <| zE uZ <| zM <| zM <| zZ) ?_
  refine jB <| kx [(4, (vl 140 1 jC (ofNat (val a / (b.getD 0 0))))), (5, (vl 140 1 jC (ofNat (val [(val a % (b.getD 0 0))]))))] [] (zM <| zM <| zE (nO gH yU (val a % (b.getD 0 0))) <| zE (eI kJ vB xV) <| zE (jX (gQ false [(val a % (b.getD 0 0))] (yD.2 ⟨by omega, yY⟩) (by simp))) <| zE (oF1 dY xG) <| zM <| zM <| zZ) ?_
  refine jG ⟨_, (.tmp (d := (.sl 140 1 (List.map jC (ofNat (val a / (b.getD 0 0)))))) rfl (.tmp (d := (.sl 140 1 (List.map jC (ofNat (val [(val a % (b.getD 0 0))]))))) rfl .nil)), ?_⟩
  rw [hv1, mR]; rfl
 ·replace h1 := ne_of_beq_false h1
  refine jF <| jB <| jB <| kx [(38, (vb (decide ((uC ((val a : Nat) : Int) ((val b : Nat) : Int)) < 0))))] [] (zM <| zM <| zE (jX (r_size a b (by first | assumption | exact kW _ | exact qD _) (by first | assumption | exact kW _ | exact qD _) (by omega) (by omega))) <| zE xK <| zZ) ?_
  refine jH rfl (fun h2 => ?_) (fun h2 => ?_)
  ·replace h2 := of_decide_eq_true h2
   refine jB <| kx [(4, (vl 140 1 jC [])), (5, (vl 140 1 jC a))] [] (zE (eI kJ vB xV) <| zM <| zM <| zM <| zZ) ?_
   refine jG ⟨_, (.tmp (d := (.sl 140 1 (List.map jC []))) rfl (.tmp (d := (.sl 140 1 (List.map jC a))) rfl .nil)), ?_⟩
   have hlt := cmpI_neg h2
   rw [Nat.div_eq_of_lt hlt, Nat.mod_eq_of_lt hlt, qU, ← can_eq hda]; rfl
  ·replace h2 := of_decide_eq_false h2
   obtain ⟨u, hue⟩ : ∃ u, u = ofNat (val a * mX b) := ⟨_, rfl⟩
   obtain ⟨v, hve⟩ : ∃ v, v = ofNat (val b * mX b) := ⟨_, rfl⟩
   have hu : Dig u := by rw [hue]; exact kF _
   have hcv : xU v := by rw [hve]; exact kW _
   have hvd := hcv.1
   have hvl : v.length = b.length := by rw [hve]; exact scl_len hdb hb0
   have hvv : val v = val b * mX b := by rw [hve]; exact kB _
   have huv : val u = val a * mX b := by rw [hue]; exact kB _
   have hab := len_of_le hda hdb (cmpI_nn h2)
   have hul : a.length ≤ u.length ∧ u.length ≤ a.length + 1 := by rw [hue]; exact scl_lenA hda hdb hb0
   have hvp := mC hcv (by omega)
   have hpv : pw (b.length - 1) ≤ val v := by have h1 := val_top hvd (by omega); have h3 := aP hcv (by omega); rw [hvl] at h1 h3; have h2 := Nat.mul_le_mul_right (pw (b.length - 1)) h3.1; omega
   refine jF <| jB <| kx [(9, (yG (mX b)))] [] (zM <| zM <| zE (oSb (b.length - 1)) <| zE (xM kJ (b.length - 1) (0 : Nat)) <| zE (xZ qK) <| zE (nO yC zW (b.getD (b.length - 1) 0)) <| zE (vU ((b.getD (b.length - 1) 0) + 1)) <| zE (oQu (mX b) (hr := by exact (quo_u64 1000000000 (b.getD (b.length - 1) 0 + 1) (by decide)))) <| zM <| zZ) ?_
   refine jB <| kx [(0, (vl 140 1 jC u)), (1, (vl 140 1 jC v))] [] (zM <| zM <| zE (jX (hue ▸ r_scaled a (mX b) hda.1 (by omega) (by omega))) <| zM <| zM <| zE (jX (hve ▸ r_scaled b (mX b) hdb.1 (by omega) (by omega))) <| zM <| zM <| zZ) ?_
   refine jB <| kx [(10, (vl 140 1 jC (ofNat (val (List.drop ((u.length - b.length) + 1) u)))))] [] (zM <| zM <| zE (vG kJ) <| zM <| zE (oSb (u.length - b.length)) <| zE (vU ((u.length - b.length) + 1)) <| zE (e_slc (l := ((u.length - b.length) + 1)) (h := (List.map jC u).length) (kl := .i64) (kh := .i64) (es' := List.map jC (List.drop ((u.length - b.length) + 1) u)) (by exact rfl) kJ (by exact rfl) (by exact rfl) (by exact rfl) (by simp only [List.length_map]; omega) (Nat.le_refl _) (by rw [List.take_length, List.map_drop])) <| zE (jX (gQ false (List.drop ((u.length - b.length) + 1) u) (hu.drop _) (by rw [List.length_drop]; omega))) <| zE (oF1 dY xG) <| zM <| zZ) ?_
   refine jB <| kx [(11, (.own 0 140 1 ((u.length - b.length) + 1)))] [(0, some (bm jC (List.replicate ((u.length - b.length) + 1) 0)))] (zM <| zE (vG kJ) <| zM <| zE (oSb (u.length - b.length)) <| zE (vU ((u.length - b.length) + 1)) <| zN (oMk 0 jC (0 : Nat) ((u.length - b.length) + 1) ((u.length - b.length) + 1) kJ vB xV gL) <| zM <| zZ) ?_
   refine jB <| jB <| kx [(12, (vi ((((u.length - b.length) + 1 : Nat) : Int) - 1)))] [] (zM <| zE (vG kJ) <| zM <| zE (zSb ((((u.length - b.length) + 1 : Nat) : Int) - 1)) <| zM <| zZ) ?_
   refine jI <| kN (α := Nat × List Nat × List Nat) (fun (k, r, q) => ⟨[(0, (vl 140 1 jC u)), (1, (vl 140 1 jC v)), (6, (jW b.length)), (9, (yG (mX b))), (10, (vl 140 1 jC r)), (11, (.own 0 140 1 ((u.length - b.length) + 1))), (12, (vi (((k : Nat) : Int) - 1)))], [(0, some (bm jC q))]⟩) (fun (k, r, q) => xU r ∧ k ≤ ((u.length - b.length) + 1) ∧ q.length = ((u.length - b.length) + 1) ∧ Dig q ∧ val r < val v ∧ val (u.drop k) = val v * val (q.drop k) + val r) (fun (k, r, q) => k) (((u.length - b.length) + 1), ofNat (val (List.drop ((u.length - b.length) + 1) u)), List.replicate ((u.length - b.length) + 1) 0) wk ⟨kW _, Nat.le_refl _, by simp, xR _, by rw [kB]; have h7 := vI (hu.drop ((u.length - b.length) + 1)); rw [List.length_drop, show u.length - ((u.length - b.length) + 1) = b.length - 1 by omega] at h7; omega, by rw [kB]; simp [val]⟩ ?_
   rintro ⟨k, r, q⟩ ⟨hrc, hk, hql, hqd, hr, hv⟩
   refine jB <| jB <| kx [(75, (vb (decide (0 ≤ (((k : Nat) : Int) - 1)))))] [] (zM <| zE oGe <| zZ) ?_
   refine jH (b := decide (0 ≤ (((k : Nat) : Int) - 1))) rfl (fun h3 => ?_) (fun h3 => ?_)
   ·replace h3 := of_decide_eq_true h3
    obtain ⟨i, rfl⟩ : ∃ i, k = i + 1 := ⟨k - 1, by omega⟩
    rw [show (((i + 1 : Nat) : Int) - 1) = ((i : Nat) : Int) from by omega]
    have hgu := hu.getD i
    have hW : (u.getD i 0 + 1000000000 * val r) < 1000000000 * val v := by omega
    have hrs := rshift_val u hv
    obtain ⟨hg1, hg2⟩ := rguess hvd hvl hb0 hW
    have hgv := hvd.getD (b.length - 1)
    have hgw1 := (kF (u.getD i 0 + 1000000000 * val r)).getD b.length
    have hgw2 := (kF (u.getD i 0 + 1000000000 * val r)).getD (b.length - 1)
    have hrl : r.length ≤ b.length := by have h9 := uI (Nat.le_of_lt hr); rwa [← can_eq hrc, ← can_eq hcv, hvl] at h9
    have hwl : (ofNat (u.getD i 0 + 1000000000 * val r)).length ≤ b.length + 1 := qM (by rw [uG]; have := vI hvd; rw [hvl] at this; omega)
    refine jF <| jB <| jI <| jB <| kx [(10, (vl 140 1 jC (ofNat ((u.getD i 0) + 1000000000 * val r)))), (12, (jW i))] [] (zM <| zM <| zM <| zE (xM kJ i (0 : Nat)) <| zE (xZ qK) <| zE (jX (r_shifted r (u.getD i 0) hrc.1 (by omega) (by omega))) <| zM <| zZ) ?_
    refine jB <| kd [(13, (yG (((((ofNat ((u.getD i 0) + 1000000000 * val r)).getD b.length 0) * 1000000000) + ((ofNat ((u.getD i 0) + 1000000000 * val r)).getD (b.length - 1) 0)) / ((v.getD (b.length - 1) 0) + 1))))] [] mo (wM <| wM <| wE (jX (dJ (ofNat ((u.getD i 0) + 1000000000 * val r)) b.length (kF _))) <| wE (oMl (((ofNat ((u.getD i 0) + 1000000000 * val r)).getD b.length 0) * 1000000000)) <| wM <| wM <| wE (oSb (b.length - 1)) <| wE (jX (dJ (ofNat ((u.getD i 0) + 1000000000 * val r)) (b.length - 1) (by first | assumption | exact kF _ | exact (kW _).1 | exact (qD _).1))) <| wE (vU ((((ofNat ((u.getD i 0) + 1000000000 * val r)).getD b.length 0) * 1000000000) + ((ofNat ((u.getD i 0) + 1000000000 * val r)).getD (b.length - 1) 0))) <| wM <| wM <| wE (oSb (b.length - 1)) <| wE (xM kJ (b.length - 1) (0 : Nat)) <| wE (xZ qK) <| wE (nO yC zW (v.getD (b.length - 1) 0)) <| wE (vU ((v.getD (b.length - 1) 0) + 1)) <| wE (oQu (((((ofNat ((u.getD i 0) + 1000000000 * val r)).getD b.length 0) * 1000000000) + ((ofNat ((u.getD i 0) + 1000000000 * val r)).getD (b.length - 1) 0)) / ((v.getD (b.length - 1) 0) + 1))) <| wM <| wZ) ?_
    refine jB <| kx [(10, (vl 140 1 jC (ofNat (val (ofNat ((u.getD i 0) + 1000000000 * val r)) - val (ofNat (val v * (((((ofNat ((u.getD i 0) + 1000000000 * val r)).getD b.length 0) * 1000000000) + ((ofNat ((u.getD i 0) + 1000000000 * val r)).getD (b.length - 1) 0)) / ((v.getD (b.length - 1) 0) + 1))))))))] [] (zM <| zM <| zM <| zE (jX (r_scaled v (((((ofNat ((u.getD i 0) + 1000000000 * val r)).getD b.length 0) * 1000000000) + ((ofNat ((u.getD i 0) + 1000000000 * val r)).getD (b.length - 1) 0)) / ((v.getD (b.length - 1) 0) + 1)) hvd (by omega) (by omega))) <| zE (jX (r_minus (ofNat ((u.getD i 0) + 1000000000 * val r)) (ofNat (val v * (((((ofNat ((u.getD i 0) + 1000000000 * val r)).getD b.length 0) * 1000000000) + ((ofNat ((u.getD i 0) + 1000000000 * val r)).getD (b.length - 1) 0)) / ((v.getD (b.length - 1) 0) + 1)))) (kF _) (kF _) (by rw [kB, kB, Nat.mul_comm]; exact hg1) (by omega))) <| zM <| zZ) ?_
    refine jB <| jI <| kN (α := Nat × List Nat) (fun (G, r2) => ⟨[(0, (vl 140 1 jC u)), (1, (vl 140 1 jC v)), (6, (jW b.length)), (9, (yG (mX b))), (10, (vl 140 1 jC r2)), (11, (.own 0 140 1 ((u.length - b.length) + 1))), (12, (jW i)), (13, (yG G))], [(0, some (bm jC q))]⟩) (fun (G, r2) => xU r2 ∧ val v * G + val r2 = (u.getD i 0 + 1000000000 * val r)) (fun (G, r2) => val r2) ((((ofNat (u.getD i 0 + 1000000000 * val r)).getD b.length 0 * 1000000000 + (ofNat (u.getD i 0 + 1000000000 * val r)).getD (b.length - 1) 0) / (v.getD (b.length - 1) 0 + 1)), ofNat (val (ofNat (u.getD i 0 + 1000000000 * val r)) - val (ofNat (val v * (((ofNat (u.getD i 0 + 1000000000 * val r)).getD b.length 0 * 1000000000 + (ofNat (u.getD i 0 + 1000000000 * val r)).getD (b.length - 1) 0) / (v.getD (b.length - 1) 0 + 1)))))) wk ⟨kW _, by rw [kB, kB, kB]; rw [Nat.mul_comm] at hg1; omega⟩ ?_
    rintro ⟨G, r2⟩ ⟨hr2, hr2v⟩
    have hr2l : r2.length ≤ b.length + 1 := by have h9 := uI (show val r2 ≤ (u.getD i 0 + 1000000000 * val r) by omega); rw [← can_eq hr2] at h9; omega
    refine jB <| jB <| kx [(109, (vb (decide (0 ≤ (uC ((val r2 : Nat) : Int) ((val v : Nat) : Int))))))] [] (zM <| zM <| zE (jX (r_size r2 v hr2 hcv (by omega) (by omega))) <| zE oGe <| zZ) ?_
    refine jH rfl (fun h4 => ?_) (fun h4 => ?_)
    ·replace h4 := of_decide_eq_true h4
     have hge := aF h4
     have hG := rquo_lt hr2v hW
     have hr2l : r2.length ≤ b.length + 1 := by have h9 := uI (show val r2 ≤ (u.getD i 0 + 1000000000 * val r) by omega); rw [← can_eq hr2] at h9; omega
     refine jF <| jI <| jB <| kx [(10, (vl 140 1 jC (ofNat (val r2 - val v))))] [] (zM <| zM <| zE (jX (r_minus r2 v hr2.1 hvd (by omega) (by omega))) <| zM <| zZ) ?_
     refine kx [(13, (yG (G + 1)))] [] (zM <| zE (vU (G + 1)) <| zM <| zZ) ?_
     exact ⟨(G + 1, ofNat (val r2 - val v)), wk, (by have hge := aF h4; exact ⟨kW _, by rw [kB, Nat.mul_add, Nat.mul_one]; omega⟩), (by have hge := aF h4; dsimp only; rw [kB]; omega)⟩
    ·replace h4 := of_decide_eq_false h4
     have hG := rquo_lt hr2v hW
     have hlt : val r2 < val v := by have h9 := cmpI_lt h4; omega
     refine kL <| kx [] [(0, some (bm jC (q.set i G)))] (zM <| zM <| zM <| zE (nO gH yU G) <| zE (eF kJ i) <| zT (oSp qK i G) <| zZ) ?_
     refine kx [(12, (vi (((i : Nat) : Int) - 1)))] [] (zM <| zE (zSb (((i : Nat) : Int) - 1)) <| zM <| zZ) ?_
     exact ⟨(i, r2, q.set i G), wk, ⟨hr2, by omega, by simpa using hql, hqd.set _ hG, hlt, rround (by omega) (by rw [hr2v]; exact hrs)⟩, (by first | omega | (dsimp only; omega))⟩
   ·replace h3 := of_decide_eq_false h3
    obtain rfl : k = 0 := by omega
    obtain ⟨e1, e2⟩ := scl_div (a := a) (b := b) (q := q) (u := r) hdb hb0 (by rw [List.drop_zero, List.drop_zero] at hv; rw [nT, Nat.one_mul, List.drop_zero, ← huv, ← hvv, hv]; omega) (by rw [List.drop_zero, ← hvv]; exact hr)
    have hrl : r.length ≤ b.length := by have h9 := uI (Nat.le_of_lt hr); rwa [← can_eq hrc, ← can_eq hcv, hvl] at h9
    refine kL <| jB <| kx [(14, (vl 140 1 jC (ofNat (val r / (mX b)))))] [] (zM <| zM <| zE (jX (r_short r (mX b) hrc.1 (by omega) (by omega) (by omega))) <| zM <| zE uZ <| zE uZ <| zM <| zM <| zZ) ?_
    refine jB <| qE (vZ (t := 11) (k := 0) (es := List.map jC q) rfl rfl (uM _ _ (fun _ => rfl)) (vC _ _ hql) (vM _ _ (fun _ => rfl) hql)) ?_
    refine kx [(4, (vl 140 1 jC (ofNat (val q)))), (5, (vl 140 1 jC (ofNat (val r / (mX b)))))] [] (zM <| zE (jX (gQ false q hqd (by omega))) <| zE (oF1 dY xG) <| zM <| zM <| zM <| zZ) ?_
    refine jG ⟨_, (.tmp (d := (.sl 140 1 (List.map jC (ofNat (val q))))) rfl (.tmp (d := (.sl 140 1 (List.map jC (ofNat (val r / (mX b)))))) rfl .nil)), ?_⟩
    rw [← e1, ← e2]; rfl
end Go.Proofs.YtnajallgoaiahaaGreatDoor
