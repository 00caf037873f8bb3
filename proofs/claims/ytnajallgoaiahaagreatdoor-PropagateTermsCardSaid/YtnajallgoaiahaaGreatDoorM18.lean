/- Part 18 of a proof: rules, plain facts, and functions walked. -/
import Derived.Test.YtnajallgoaiahaaGreatDoorM17
namespace Go.Proofs.YtnajallgoaiahaaGreatDoor
open Go.Fid
set_option maxRecDepth 4000
set_option linter.unusedVariables false
set_option linter.unusedSimpArgs false
theorem cb83 : callB Tryz.prog 83 = true := by kernel_rfl
theorem cb87 : callB Tryz.prog 87 = true := by kernel_rfl
theorem cb96 : callB Tryz.prog 96 = true := by kernel_rfl
theorem cb145 : callB Tryz.prog 145 = true := by kernel_rfl
theorem cb175 : callB Tryz.prog 175 = true := by kernel_rfl
theorem cb176 : callB Tryz.prog 176 = true := by kernel_rfl
theorem cb177 : callB Tryz.prog 177 = true := by kernel_rfl
theorem cb240 : callB Tryz.prog 240 = true := by kernel_rfl
theorem r_neg (x : kS) (hx : x.gs.length ≤ 1099511627776) : jT Tryz.prog 145 [(jK x)] (jK (kJ (-jW x))) := by
 have hvx := dJ x
 refine jJ Tryz.func145 rfl cb145 rfl ?_
 show qR _ _ _ _ ⟨[(0, (.d (jK x)))], []⟩
 refine jB<|kx [(1, (.ref 0 0)), (2, (.ref 1 0))] [(0, some (bx (jK x))), (1, some (bx (jK (kS.mk false []))))] (zN (xA 0)<|zN (uU 1 zL zP)<|zZ) ?_
 refine jB<|kx [] [(0, some (bx (jK (kJ (jW x)))))] (zR (kP jV)<|zE (jZ (dD x (by omega)))<|zT (qM jV)<|zZ) ?_
 refine jB<|kx [] [(1, some (bx (jK (vW (!((kJ (jW x)).neg)) (val (ofNat (Int.natAbs (jW x))))))))] (zE (qD vJ)<|zR (uL sh4)<|zE fC<|zE (qD vT)<|zR (uL zG)<|zE (jZ (gZ (!((kJ (jW x)).neg)) (ofNat (Int.natAbs (jW x))) (by first | assumption | exact kL _ | exact (kY _).1 | exact (qK _).1) (by omega)))<|zT (qM jV)<|zZ) ?_
 refine jE ⟨_, (kU (cs := (bx (jK (vW (!((kJ (jW x)).neg)) (val (ofNat (Int.natAbs (jW x)))))))) (d := (jK (vW (!((kJ (jW x)).neg)) (val (ofNat (Int.natAbs (jW x))))))) rfl rfl jV rfl rfl .nil), ?_⟩
 rw [← rneg_eq]; rfl
theorem r_sign (x : kS) (hx : x.gs.length ≤ 1099511627776) : jT Tryz.prog 83 [(jK x)] (.val (.int .i64 ((uB (jW x))))) := by
 have hvx := dJ x
 refine jJ Tryz.func83 rfl cb83 rfl ?_
 show qR _ _ _ _ ⟨[(0, (.d (jK x)))], []⟩
 refine jB<|kx [(1, (.ref 0 0))] [(0, some (bx (jK x)))] (zN (xA 0)<|zM<|zZ) ?_
 refine jB<|kx [] [(0, some (bx (jK (kJ (jW x)))))] (zR (kP jV)<|zE (jZ (dD x (by omega)))<|zT (qM jV)<|zZ) ?_
 refine jB<|jB<|kx [(8, (vb ((((ofNat (Int.natAbs (jW x))).length : Nat) : Int) == 0)))] [] (zE (qD vT)<|zR (uL zG)<|zE (vX kM (L := (ofNat (Int.natAbs (jW x)))))<|zE gA<|zZ) ?_
 refine jF rfl (fun h1 => ?_) (fun h1 => ?_)
 ·replace h1 := eq_of_beq h1
  refine jB<|kx [(2, (jN 0))] [] (zM<|zZ) ?_
  refine jE ⟨_, (.tmp (d := (.val (.int .i64 (0)))) rfl .nil), ?_⟩
  rw [rsign_zero h1]; rfl
 ·replace h1 := ne_of_beq_false h1
  refine jD<|jB<|jB<|kx [(10, (vb ((kJ (jW x)).neg)))] [] (zE (qD vJ)<|zR (uL sh4)<|zZ) ?_
  refine jF (b := (kJ (jW x)).neg) rfl (fun h2 => ?_) (fun h2 => ?_)
  ·refine jB<|kx [(2, (vi (-1)))] [] (zM<|zZ) ?_
   refine jE ⟨_, (.tmp (d := (.val (.int .i64 (-1)))) rfl .nil), ?_⟩
   rw [rsign_neg h1 h2]; rfl
  ·refine jD<|jB<|kx [(2, (jN 1))] [] (zM<|zZ) ?_
   refine jE ⟨_, (.tmp (d := (.val (.int .i64 (1)))) rfl .nil), ?_⟩
   rw [rsign_pos h1 h2]; rfl
theorem r_add (x : kS) (y : kS) (hx : x.gs.length ≤ 1099511627776) (hy : y.gs.length ≤ 1099511627776) : jT Tryz.prog 96 [(jK x), (jK y)] (jK (kJ (jW x + jW y))) := by
 have hvx := dJ x
 have hvy := dJ y
 refine jJ Tryz.func96 rfl cb96 rfl ?_
 show qR _ _ _ _ ⟨[(0, (.d (jK x))), (1, (.d (jK y)))], []⟩
 refine jB<|kx [(2, (.ref 0 0)), (3, (.ref 1 0)), (4, (.ref 2 0))] [(0, some (bx (jK x))), (1, some (bx (jK y))), (2, some (bx (jK (kS.mk false []))))] (zN (xA 0)<|zN (xA 1)<|zN (uU 2 zL zP)<|zZ) ?_
 refine jB<|kd [] [(0, some (bx (jK (kJ (jW x))))), (1, some (bx (jK (kJ (jW y)))))] mo (wR (kP jV)<|wE (jZ (dD x (by omega)))<|wR (kP jV)<|wE (jZ (dD y (by omega)))<|wT (qM jV)<|wT (qM jV)<|wZ) ?_
 refine jB<|jB<|kx [(13, (vb (((kJ (jW x)).neg) == ((kJ (jW y)).neg))))] [] (zE (qD vJ)<|zR (uL sh4)<|zE (qD vJ)<|zR (uL sh4)<|zE (oEb bo4)<|zZ) ?_
 refine jF rfl (fun h1 => ?_) (fun h1 => ?_)
 ·replace h1 := eq_of_beq h1
  refine jB<|kd [] [(2, some (bx (jK (vW ((kJ (jW x)).neg) (val (ofNat (val (ofNat (Int.natAbs (jW x))) + val (ofNat (Int.natAbs (jW y))))))))))] mo (wE (qD vJ)<|wR (uL sh4)<|wE (qD vT)<|wR (uL zG)<|wE (qD vT)<|wR (uL zG)<|wE (jZ (r_plus (ofNat (Int.natAbs (jW x))) (ofNat (Int.natAbs (jW y))) (by first | assumption | exact kL _ | exact (kY _).1 | exact (qK _).1) (by first | assumption | exact kL _ | exact (kY _).1 | exact (qK _).1) (by omega) (by omega)))<|wE (jZ (gZ ((kJ (jW x)).neg) (ofNat (val (ofNat (Int.natAbs (jW x))) + val (ofNat (Int.natAbs (jW y))))) (by first | assumption | exact kL _ | exact (kY _).1 | exact (qK _).1) (by first | omega | exact Nat.le_trans (add_len (kL _) (kL _)) (by omega) | exact Nat.le_trans (sub_len (kL _)) (by omega))))<|wT (qM jV)<|wZ) ?_
  refine jE ⟨_, (kU (cs := (bx (jK (vW ((kJ (jW x)).neg) (val (ofNat (val (ofNat (Int.natAbs (jW x))) + val (ofNat (Int.natAbs (jW y)))))))))) (d := (jK (vW ((kJ (jW x)).neg) (val (ofNat (val (ofNat (Int.natAbs (jW x))) + val (ofNat (Int.natAbs (jW y))))))))) rfl rfl jV rfl rfl .nil), ?_⟩
  rw [← rsum_same h1]; rfl
 ·replace h1 := ne_of_beq_false h1
  refine jD<|jB<|jB<|kx [(27, (vb (decide (0 ≤ (uX ((val (ofNat (Int.natAbs (jW x))) : Nat) : Int) ((val (ofNat (Int.natAbs (jW y))) : Nat) : Int))))))] [] (zE (qD vT)<|zR (uL zG)<|zE (qD vT)<|zR (uL zG)<|zE (jZ (r_size (ofNat (Int.natAbs (jW x))) (ofNat (Int.natAbs (jW y))) (by first | assumption | exact kY _ | exact qK _) (by first | assumption | exact kY _ | exact qK _) (by omega) (by omega)))<|zE oGe<|zZ) ?_
  refine jF rfl (fun h2 => ?_) (fun h2 => ?_)
  ·replace h2 := uH h2
   refine jB<|kd [] [(2, some (bx (jK (vW ((kJ (jW x)).neg) (val (ofNat (val (ofNat (Int.natAbs (jW x))) - val (ofNat (Int.natAbs (jW y))))))))))] mo (wE (qD vJ)<|wR (uL sh4)<|wE (qD vT)<|wR (uL zG)<|wE (qD vT)<|wR (uL zG)<|wE (jZ (r_minus (ofNat (Int.natAbs (jW x))) (ofNat (Int.natAbs (jW y))) (by first | assumption | exact kL _ | exact (kY _).1 | exact (qK _).1) (by first | assumption | exact kL _ | exact (kY _).1 | exact (qK _).1) (by have := iB h2; omega) (by omega)))<|wE (jZ (gZ ((kJ (jW x)).neg) (ofNat (val (ofNat (Int.natAbs (jW x))) - val (ofNat (Int.natAbs (jW y))))) (by first | assumption | exact kL _ | exact (kY _).1 | exact (qK _).1) (by first | omega | exact Nat.le_trans (add_len (kL _) (kL _)) (by omega) | exact Nat.le_trans (sub_len (kL _)) (by omega))))<|wT (qM jV)<|wZ) ?_
   refine jE ⟨_, (kU (cs := (bx (jK (vW ((kJ (jW x)).neg) (val (ofNat (val (ofNat (Int.natAbs (jW x))) - val (ofNat (Int.natAbs (jW y)))))))))) (d := (jK (vW ((kJ (jW x)).neg) (val (ofNat (val (ofNat (Int.natAbs (jW x))) - val (ofNat (Int.natAbs (jW y))))))))) rfl rfl jV rfl rfl .nil), ?_⟩
   rw [← rsum_first h1 (by have := iB h2; omega)]; rfl
  ·replace h2 := vB h2
   refine jD<|jB<|kd [] [(2, some (bx (jK (vW ((kJ (jW y)).neg) (val (ofNat (val (ofNat (Int.natAbs (jW y))) - val (ofNat (Int.natAbs (jW x))))))))))] mo (wE (qD vJ)<|wR (uL sh4)<|wE (qD vT)<|wR (uL zG)<|wE (qD vT)<|wR (uL zG)<|wE (jZ (r_minus (ofNat (Int.natAbs (jW y))) (ofNat (Int.natAbs (jW x))) (by first | assumption | exact kL _ | exact (kY _).1 | exact (qK _).1) (by first | assumption | exact kL _ | exact (kY _).1 | exact (qK _).1) (by have := cmpI_lt h2; omega) (by omega)))<|wE (jZ (gZ ((kJ (jW y)).neg) (ofNat (val (ofNat (Int.natAbs (jW y))) - val (ofNat (Int.natAbs (jW x))))) (by first | assumption | exact kL _ | exact (kY _).1 | exact (qK _).1) (by first | omega | exact Nat.le_trans (add_len (kL _) (kL _)) (by omega) | exact Nat.le_trans (sub_len (kL _)) (by omega))))<|wT (qM jV)<|wZ) ?_
   refine jE ⟨_, (kU (cs := (bx (jK (vW ((kJ (jW y)).neg) (val (ofNat (val (ofNat (Int.natAbs (jW y))) - val (ofNat (Int.natAbs (jW x)))))))))) (d := (jK (vW ((kJ (jW y)).neg) (val (ofNat (val (ofNat (Int.natAbs (jW y))) - val (ofNat (Int.natAbs (jW x))))))))) rfl rfl jV rfl rfl .nil), ?_⟩
   rw [← rsum_second h1 (by have := cmpI_lt h2; omega)]; rfl
theorem r_sub (x : kS) (y : kS) (hx : x.gs.length ≤ 1099511627776) (hy : y.gs.length ≤ 1099511627776) : jT Tryz.prog 175 [(jK x), (jK y)] (jK (kJ (jW x - jW y))) := by
 have hv := gs_neg y
 refine jJ Tryz.func175 rfl cb175 rfl ?_
 show qR _ _ _ _ ⟨[(0, (.d (jK x))), (1, (.d (jK y)))], []⟩
 refine jB<|kx [(2, (.ref 0 0)), (3, (.ref 1 0)), (4, (.ref 2 0))] [(0, some (bx (jK x))), (1, some (bx (jK y))), (2, some (bx (jK (kS.mk false []))))] (zN (xA 0)<|zN (xA 1)<|zN (uU 2 zL zP)<|zZ) ?_
 refine jB<|kd [] [(2, some (bx (jK (kJ (jW x + jW (kJ (-jW y)))))))] mo (wR (kP jV)<|wR (kP jV)<|wE (jZ (r_neg y (by omega)))<|wE (jZ (r_add x (kJ (-jW y)) (by omega) (by omega)))<|wT (qM jV)<|wZ) ?_
 refine jE ⟨_, (kU (cs := (bx (jK (kJ (jW x + jW (kJ (-jW y))))))) (d := (jK (kJ (jW x + jW (kJ (-jW y)))))) rfl rfl jV rfl rfl .nil), ?_⟩
 rw [mW, ← Int.sub_eq_add_neg]; rfl
theorem r_mul (x : kS) (y : kS) (hx : x.gs.length ≤ 1099511627776) (hy : y.gs.length ≤ 1099511627776) : jT Tryz.prog 87 [(jK x), (jK y)] (jK (kJ (jW x * jW y))) := by
 have hvx := dJ x
 have hvy := dJ y
 have hda := kL (Int.natAbs (jW x))
 have hdb := kL (Int.natAbs (jW y))
 refine jJ Tryz.func87 rfl cb87 rfl ?_
 show qR _ _ _ _ ⟨[(0, (.d (jK x))), (1, (.d (jK y)))], []⟩
 refine jB<|kx [(2, (.ref 0 0)), (3, (.ref 1 0)), (4, (.ref 2 0))] [(0, some (bx (jK x))), (1, some (bx (jK y))), (2, some (bx (jK (kS.mk false []))))] (zN (xA 0)<|zN (xA 1)<|zN (uU 2 zL zP)<|zZ) ?_
 refine jB<|kd [] [(0, some (bx (jK (kJ (jW x))))), (1, some (bx (jK (kJ (jW y)))))] mo (wR (kP jV)<|wE (jZ (dD x (by omega)))<|wR (kP jV)<|wE (jZ (dD y (by omega)))<|wT (qM jV)<|wT (qM jV)<|wZ) ?_
 refine jB<|kx [(5, (.own 3 140 1 ((ofNat (Int.natAbs (jW x))).length + (ofNat (Int.natAbs (jW y))).length)))] [(3, some (bm jC (List.replicate ((ofNat (Int.natAbs (jW x))).length + (ofNat (Int.natAbs (jW y))).length) 0)))] (zE (qD vT)<|zR (uL zG)<|zE (vX kM (L := (ofNat (Int.natAbs (jW x)))))<|zE (qD vT)<|zR (uL zG)<|zE (vX kM (L := (ofNat (Int.natAbs (jW y)))))<|zE (vG ((ofNat (Int.natAbs (jW x))).length + (ofNat (Int.natAbs (jW y))).length))<|zN (oMk 3 jC (0 : Nat) ((ofNat (Int.natAbs (jW x))).length + (ofNat (Int.natAbs (jW y))).length) ((ofNat (Int.natAbs (jW x))).length + (ofNat (Int.natAbs (jW y))).length) kM vL xZ gW)<|zM<|zZ) ?_
 refine jB<|jB<|kx [(6, (jN 0))] [] (zM<|zZ) ?_
 refine jG<|kI (α := Nat × List Nat) (fun (i, out) => ⟨[(2, (.ref 0 0)), (3, (.ref 1 0)), (4, (.ref 2 0)), (5, (.own 3 140 1 ((ofNat (Int.natAbs (jW x))).length + (ofNat (Int.natAbs (jW y))).length))), (6, (jN i))], [(0, some (bx (jK (kJ (jW x))))), (1, some (bx (jK (kJ (jW y))))), (2, some (bx (jK (kS.mk false [])))), (3, some (bm jC out))]⟩) (fun (i, out) => out.length = (ofNat (Int.natAbs (jW x))).length + (ofNat (Int.natAbs (jW y))).length ∧ Dig out ∧ i ≤ (ofNat (Int.natAbs (jW x))).length ∧ (∀ k, i + (ofNat (Int.natAbs (jW y))).length ≤ k → out.getD k 0 = 0) ∧ val out = val ((ofNat (Int.natAbs (jW x))).take i) * val (ofNat (Int.natAbs (jW y)))) (fun (i, out) => (ofNat (Int.natAbs (jW x))).length - i) (0, List.replicate ((ofNat (Int.natAbs (jW x))).length + (ofNat (Int.natAbs (jW y))).length) 0) wk ⟨by simp, xU _, Nat.zero_le _, fun k _ => eL _ k, by simp [val, dI]⟩ ?_
 rintro ⟨i, out⟩ ⟨qZ, hdo, hi, hz, hv⟩
 have hai := hda.getD i
 refine jB<|jB<|kx [(26, (vb (decide (((i : Nat) : Int) < (((ofNat (Int.natAbs (jW x))).length : Nat) : Int)))))] [] (zM<|zE (qD vT)<|zR (uL zG)<|zE (vX kM (L := (ofNat (Int.natAbs (jW x)))))<|zE vZ<|zZ) ?_
 refine jF rfl (fun h1 => ?_) (fun h1 => ?_)
 ·replace h1 := uH h1
  refine jD<|jB<|jG<|jB<|kx [(7, (yS 0))] [] (zM<|zZ) ?_
  refine jB<|jB<|kx [(8, (jN 0))] [] (zM<|zZ) ?_
  refine jG<|kI (α := Nat × List Nat × Nat) (fun (j, o2, c) => ⟨[(2, (.ref 0 0)), (3, (.ref 1 0)), (4, (.ref 2 0)), (5, (.own 3 140 1 ((ofNat (Int.natAbs (jW x))).length + (ofNat (Int.natAbs (jW y))).length))), (6, (jN i)), (7, (yS c)), (8, (jN j))], [(0, some (bx (jK (kJ (jW x))))), (1, some (bx (jK (kJ (jW y))))), (2, some (bx (jK (kS.mk false [])))), (3, some (bm jC o2))]⟩) (fun (j, o2, c) => o2.length = (ofNat (Int.natAbs (jW x))).length + (ofNat (Int.natAbs (jW y))).length ∧ Dig o2 ∧ j ≤ (ofNat (Int.natAbs (jW y))).length ∧ c < 1000000000 ∧ (∀ k, i + (ofNat (Int.natAbs (jW y))).length ≤ k → o2.getD k 0 = 0) ∧ val o2 + pw (i + j) * c = val ((ofNat (Int.natAbs (jW x))).take i) * val (ofNat (Int.natAbs (jW y))) + pw i * ((ofNat (Int.natAbs (jW x))).getD i 0 * val ((ofNat (Int.natAbs (jW y))).take j))) (fun (j, o2, c) => (ofNat (Int.natAbs (jW y))).length - j) (0, out, 0) wk ⟨qZ, hdo, Nat.zero_le _, by decide, hz, by simp [val, hv]⟩ ?_
  rintro ⟨j, o2, c⟩ ⟨hlen2, hdo2, hj, hc, hz2, hv2⟩
  have hbj := hdb.getD j
  have hoj := hdo2.getD (i + j)
  have hpq : (ofNat (Int.natAbs (jW x))).getD i 0 * (ofNat (Int.natAbs (jW y))).getD j 0 ≤ 999999999 * 999999999 := Nat.mul_le_mul (by omega) (by omega)
  refine jB<|jB<|kx [(33, (vb (decide (((j : Nat) : Int) < (((ofNat (Int.natAbs (jW y))).length : Nat) : Int)))))] [] (zM<|zE (qD vT)<|zR (uL zG)<|zE (vX kM (L := (ofNat (Int.natAbs (jW y)))))<|zE vZ<|zZ) ?_
  refine jF rfl (fun h2 => ?_) (fun h2 => ?_)
  ·replace h2 := uH h2
   refine jD<|jB<|jG<|jB<|kd [(9, (yS (((o2.getD (i + j) 0) + (((ofNat (Int.natAbs (jW x))).getD i 0) * ((ofNat (Int.natAbs (jW y))).getD j 0))) + c)))] [] mo (wM<|wM<|wM<|wE (vG (i + j))<|wE (fJ kM (i + j))<|wR (oLp qU (i + j) (0 : Nat))<|wE (nY yD yF (o2.getD (i + j) 0))<|wE (qD vT)<|wR (uL zG)<|wM<|wE (zU kM i (0 : Nat) (L := (ofNat (Int.natAbs (jW x)))))<|wE (xI qU)<|wE (nY yD yF ((ofNat (Int.natAbs (jW x))).getD i 0))<|wE (qD vT)<|wR (uL zG)<|wM<|wE (zU kM j (0 : Nat) (L := (ofNat (Int.natAbs (jW y)))))<|wE (xI qU)<|wE (nY yD yF ((ofNat (Int.natAbs (jW y))).getD j 0))<|wE (oMl (((ofNat (Int.natAbs (jW x))).getD i 0) * ((ofNat (Int.natAbs (jW y))).getD j 0)))<|wE (vG ((o2.getD (i + j) 0) + (((ofNat (Int.natAbs (jW x))).getD i 0) * ((ofNat (Int.natAbs (jW y))).getD j 0))))<|wM<|wE (vG (((o2.getD (i + j) 0) + (((ofNat (Int.natAbs (jW x))).getD i 0) * ((ofNat (Int.natAbs (jW y))).getD j 0))) + c))<|wM<|wZ) ?_
   refine jB<|kx [] [(3, some (bm jC (o2.set (i + j) ((((o2.getD (i + j) 0) + (((ofNat (Int.natAbs (jW x))).getD i 0) * ((ofNat (Int.natAbs (jW y))).getD j 0))) + c) % 1000000000))))] (zM<|zM<|zM<|zE (vG (i + j))<|zM<|zE (oRe ((((o2.getD (i + j) 0) + (((ofNat (Int.natAbs (jW x))).getD i 0) * ((ofNat (Int.natAbs (jW y))).getD j 0))) + c) % 1000000000))<|zE (nY gP gE ((((o2.getD (i + j) 0) + (((ofNat (Int.natAbs (jW x))).getD i 0) * ((ofNat (Int.natAbs (jW y))).getD j 0))) + c) % 1000000000))<|zE (fJ kM (i + j))<|zT (oSp qU (i + j) ((((o2.getD (i + j) 0) + (((ofNat (Int.natAbs (jW x))).getD i 0) * ((ofNat (Int.natAbs (jW y))).getD j 0))) + c) % 1000000000))<|zZ) ?_
   refine kx [(7, (yS ((((o2.getD (i + j) 0) + (((ofNat (Int.natAbs (jW x))).getD i 0) * ((ofNat (Int.natAbs (jW y))).getD j 0))) + c) / 1000000000)))] [] (zM<|zE (oQu ((((o2.getD (i + j) 0) + (((ofNat (Int.natAbs (jW x))).getD i 0) * ((ofNat (Int.natAbs (jW y))).getD j 0))) + c) / 1000000000))<|zM<|zZ) ?_
   refine kx [(8, (jN (j + 1)))] [] (zM<|zE (vG (j + 1))<|zM<|zZ) ?_
   exact ⟨(j + 1, o2.set (i + j) ((o2.getD (i + j) 0 + (ofNat (Int.natAbs (jW x))).getD i 0 * (ofNat (Int.natAbs (jW y))).getD j 0 + c) % 1000000000), (o2.getD (i + j) 0 + (ofNat (Int.natAbs (jW x))).getD i 0 * (ofNat (Int.natAbs (jW y))).getD j 0 + c) / 1000000000), wk, (by obtain ⟨q1, q2⟩ := times_step (by omega) hdo2 hv2 rfl (val_take_succ _ j); exact ⟨by simpa using hlen2, q1, by omega, by omega, zero_set (by omega) hz2, q2⟩), (by first|omega|(dsimp only;omega))⟩
  ·replace h2 := vB h2
   have hje : j = (ofNat (Int.natAbs (jW y))).length := by omega
   rw [hje] at hv2
   refine kC<|kx [] [(3, some (bm jC (o2.set (i + (ofNat (Int.natAbs (jW y))).length) c)))] (zM<|zM<|zE (qD vT)<|zR (uL zG)<|zE (vX kM (L := (ofNat (Int.natAbs (jW y)))))<|zE (vG (i + (ofNat (Int.natAbs (jW y))).length))<|zM<|zE (nY gP gE c)<|zE (fJ kM (i + (ofNat (Int.natAbs (jW y))).length))<|zT (oSp qU (i + (ofNat (Int.natAbs (jW y))).length) c)<|zZ) ?_
   refine kx [(6, (jN (i + 1)))] [] (zM<|zE (vG (i + 1))<|zM<|zZ) ?_
   exact ⟨(i + 1, o2.set (i + (ofNat (Int.natAbs (jW y))).length) c), wk, (by obtain ⟨q1, q2, q3, q4⟩ := times_row hdo2 (by omega) hlen2 hz2 hc hv2; exact ⟨q1, q2, by omega, q3, q4⟩), (by first|omega|(dsimp only;omega))⟩
 ·replace h1 := vB h1
  have hie : i = (ofNat (Int.natAbs (jW x))).length := by omega
  rw [hie, List.take_length] at hv
  refine kC<|jB<|kH (vK (t := 5) (k := 3) (es := List.map jC out) rfl rfl (uI _ _ (fun _ => rfl)) (uG _ _ qZ) (vE _ _ (fun _ => rfl) qZ)) ?_
  refine kx [] [(2, some (bx (jK (vW (!(((kJ (jW x)).neg) == ((kJ (jW y)).neg))) (val out)))))] (zE (qD vJ)<|zR (uL sh4)<|zE (qD vJ)<|zR (uL sh4)<|zE (oNb bo4)<|zM<|zE (jZ (gZ (!(((kJ (jW x)).neg) == ((kJ (jW y)).neg))) out hdo (by omega)))<|zT (qM jV)<|zZ) ?_
  refine jE ⟨_, (kU (cs := (bx (jK (vW (!(((kJ (jW x)).neg) == ((kJ (jW y)).neg))) (val out))))) (d := (jK (vW (!(((kJ (jW x)).neg) == ((kJ (jW y)).neg))) (val out)))) rfl rfl jV rfl rfl .nil), ?_⟩
  rw [hv, rmul_eq]; rfl
theorem r_short (a : List Nat) (d : Nat) (hda : Dig a) (hd0 : 0 < d) (hd1 : d ≤ 1000000000) (hla : a.length ≤ 17592186044416) : jT Tryz.prog 240 [(.sl 140 1 (List.map jC a)), (.val (.int .u64 (((d : Nat) : Int))))] (.tup [(.sl 140 1 (List.map jC (ofNat (val a / d)))), (.val (.int .u64 ((((val a % d) : Nat) : Int))))]) := by
 refine jJ Tryz.func240 rfl cb240 rfl ?_
 show qR _ _ _ _ ⟨[(0, (vl 140 1 jC a)), (1, (yS d))], []⟩
 refine jB<|kx [] [] (zE (mP 140 1)<|zM<|zZ) ?_
 refine jB<|kx [(6, (.own 0 140 1 a.length))] [(0, some (bm jC (List.replicate a.length 0)))] (zM<|zE (vX kM)<|zN (oMk 0 jC (0 : Nat) a.length a.length kM vL xZ gW)<|zM<|zZ) ?_
 refine jB<|kx [(7, (yS 0))] [] (zM<|zZ) ?_
 refine jB<|jB<|kx [(8, (vi (((a.length : Nat) : Int) - 1)))] [] (zM<|zE (vX kM)<|zE (zSb (((a.length : Nat) : Int) - 1))<|zM<|zZ) ?_
 refine jG<|kI (α := Nat × List Nat × Nat) (fun (k, q, xF) => ⟨[(0, (vl 140 1 jC a)), (1, (yS d)), (6, (.own 0 140 1 a.length)), (7, (yS xF)), (8, (vi (((k : Nat) : Int) - 1)))], [(0, some (bm jC q))]⟩) (fun (k, q, xF) => k ≤ a.length ∧ q.length = a.length ∧ Dig q ∧ xF < d ∧ val (a.drop k) = val (q.drop k) * d + xF) (fun (k, q, xF) => k) (a.length, List.replicate a.length 0, 0) wk ⟨Nat.le_refl _, by simp, xU _, hd0, by simp [val]⟩ ?_
 rintro ⟨k, q, xF⟩ ⟨hk, qZ, hdq, hr, hv⟩
 refine jB<|jB<|kx [(17, (vb (decide (0 ≤ (((k : Nat) : Int) - 1)))))] [] (zM<|zE oGe<|zZ) ?_
 refine jF (b := decide (0 ≤ (((k : Nat) : Int) - 1))) rfl (fun h1 => ?_) (fun h1 => ?_)
 ·replace h1 := uH h1
  obtain ⟨i, rfl⟩ : ∃ i, k = i + 1 := ⟨k - 1, by omega⟩
  rw [show (((i + 1 : Nat) : Int) - 1) = ((i : Nat) : Int) from by omega]
  have hg := hda.getD i
  obtain ⟨hb1, hb2⟩ := short_bound hr hd1 hg
  refine jD<|jB<|jG<|jB<|kx [(8, (jN i)), (9, (yS ((xF * 1000000000) + (a.getD i 0))))] [] (zM<|zE (oMl (xF * 1000000000))<|zM<|zM<|zE (zU kM i (0 : Nat))<|zE (xI qU)<|zE (nY yD yF (a.getD i 0))<|zE (vG ((xF * 1000000000) + (a.getD i 0)))<|zM<|zZ) ?_
  refine jB<|kx [] [(0, some (bm jC (q.set i (((xF * 1000000000) + (a.getD i 0)) / d))))] (zM<|zM<|zM<|zM<|zE (oQu (((xF * 1000000000) + (a.getD i 0)) / d))<|zE (nY gP gE (((xF * 1000000000) + (a.getD i 0)) / d))<|zE (fJ kM i)<|zT (oSp qU i (((xF * 1000000000) + (a.getD i 0)) / d))<|zZ) ?_
  refine kx [(7, (yS (((xF * 1000000000) + (a.getD i 0)) % d)))] [] (zM<|zM<|zE (oRe (((xF * 1000000000) + (a.getD i 0)) % d))<|zM<|zZ) ?_
  refine kx [(8, (vi (((i : Nat) : Int) - 1)))] [] (zM<|zE (zSb (((i : Nat) : Int) - 1))<|zM<|zZ) ?_
  exact ⟨(i, q.set i ((xF * 1000000000 + a.getD i 0) / d), (xF * 1000000000 + a.getD i 0) % d), wk, ⟨by omega, by simpa using qZ, hdq.set _ hb2, Nat.mod_lt _ hd0, rshort_step (by omega) hv rfl⟩, (by first|omega|(dsimp only;omega))⟩
 ·replace h1 := vB h1
  obtain rfl : k = 0 := by omega
  obtain ⟨e1, e2⟩ := short_end (a := a) (q := q) (by rw [Nat.sub_self]; exact hv) hr
  refine kC<|jB<|kH (vK (t := 6) (k := 0) (es := List.map jC q) rfl rfl (uI _ _ (fun _ => rfl)) (uG _ _ qZ) (vE _ _ (fun _ => rfl) qZ)) ?_
  refine kx [(4, (vl 140 1 jC (ofNat (val q)))), (5, (yS xF))] [] (zM<|zE (jZ (gZ false q (by first | assumption | exact kL _ | exact (kY _).1 | exact (qK _).1) (by omega)))<|zE (oF1 aI zG)<|zM<|zM<|zM<|zZ) ?_
  refine jE ⟨_, (.tmp (d := (.sl 140 1 (List.map jC (ofNat (val q))))) rfl (.tmp (d := (.val (.int .u64 (((xF : Nat) : Int))))) rfl .nil)), ?_⟩
  rw [← e1, ← e2]; rfl
theorem r_pair (l : List Nat) (hd : Dig l) (h2 : l.length ≤ 2) : jT Tryz.prog 177 [(.sl 140 1 (List.map jC l))] (.val (.int .u64 ((((val l) : Nat) : Int)))) := by
 have h0 := hd.getD 0
 have h1 := hd.getD 1
 refine jJ Tryz.func177 rfl cb177 rfl ?_
 show qR _ _ _ _ ⟨[(0, (vl 140 1 jC l))], []⟩
 refine jB<|kx [] [] (zM<|zZ) ?_
 refine jB<|kx [(2, (yS (((l.getD 1 0) * 1000000000) + (l.getD 0 0))))] [] (zM<|zE (jZ (fS l 1 (by first | assumption | exact kL _ | exact (kY _).1 | exact (qK _).1)))<|zE (oMl ((l.getD 1 0) * 1000000000))<|zM<|zE (jZ (fS l 0 (by first | assumption | exact kL _ | exact (kY _).1 | exact (qK _).1)))<|zE (vG (((l.getD 1 0) * 1000000000) + (l.getD 0 0)))<|zM<|zZ) ?_
 refine jE ⟨_, (.tmp (d := (.val (.int .u64 ((((((l.getD 1 0) * 1000000000) + (l.getD 0 0)) : Nat) : Int))))) rfl .nil), ?_⟩
 rw [val_pair h2]; rfl
theorem r_parts (a b : List Nat) (hda : xX a) (hdb : xX b) (hb0 : 0 < b.length) (hla : a.length ≤ 1099511627776) (hlb : b.length ≤ 1099511627776) : jT Tryz.prog 176 [(.sl 140 1 (List.map jC a)), (.sl 140 1 (List.map jC b))] (.tup [(.sl 140 1 (List.map jC (ofNat (val a / val b)))), (.sl 140 1 (List.map jC (ofNat (val a % val b))))]) := by
 have hsc := aR hdb hb0
 have htp := bW hdb hb0
 have hbp := mN hdb hb0
 refine jJ Tryz.func176 rfl cb176 rfl ?_
 show qR _ _ _ _ ⟨[(0, (vl 140 1 jC a)), (1, (vl 140 1 jC b))], []⟩
 refine jB<|kx [] [] (zE (mP 140 1)<|zE (mP 140 1)<|zZ) ?_
 refine jB<|kx [(6, (jN b.length))] [] (zM<|zE (vX kM)<|zM<|zZ) ?_
 refine jB<|jB<|kx [(19, (vb (((b.length : Nat) : Int) == 1)))] [] (zM<|zE gA<|zZ) ?_
 refine jF (b := (((b.length : Nat) : Int) == 1)) rfl (fun h1 => ?_) (fun h1 => ?_)
 ·replace h1 := eq_of_beq h1
  have hg0 := hdb.1.getD 0
  have hv1 := val_len1 (b := b) (by omega)
  have hb00 : 0 < b.getD 0 0 := by omega
  have hrl : val a % b.getD 0 0 < 1000000000 := Nat.lt_trans (Nat.mod_lt _ hb00) (by omega)
  refine jB<|kx [(7, (vl 140 1 jC (ofNat (val a / (b.getD 0 0))))), (8, (yS (val a % (b.getD 0 0))))] [] (zM<|zM<|zE (zU kM 0 (0 : Nat))<|zE (xI qU)<|zE (nY yD yF (b.getD 0 0))<|zE (jZ (r_short a (b.getD 0 0) hda.1 (by omega) (by omega) (by omega)))<|zM<|zE vP<|zE vP<|zM<|zM<|zZ) ?_
  refine jB<|kx [(4, (vl 140 1 jC (ofNat (val a / (b.getD 0 0))))), (5, (vl 140 1 jC (ofNat (val [(val a % (b.getD 0 0))]))))] [] (zM<|zM<|zE (nY gP gE (val a % (b.getD 0 0)))<|zE (gN kM vL xZ)<|zE (jZ (gZ false [(val a % (b.getD 0 0))] (yN.2 ⟨by omega, gG⟩) (by simp)))<|zE (oF1 aI zG)<|zM<|zM<|zZ) ?_
  refine jE ⟨_, (.tmp (d := (.sl 140 1 (List.map jC (ofNat (val a / (b.getD 0 0)))))) rfl (.tmp (d := (.sl 140 1 (List.map jC (ofNat (val [(val a % (b.getD 0 0))]))))) rfl .nil)), ?_⟩
  rw [hv1, mR]; rfl
 ·replace h1 := ne_of_beq_false h1
  refine jD<|jB<|jB<|kx [(38, (vb (decide ((uX ((val a : Nat) : Int) ((val b : Nat) : Int)) < 0))))] [] (zM<|zM<|zE (jZ (r_size a b (by first | assumption | exact kY _ | exact qK _) (by first | assumption | exact kY _ | exact qK _) (by omega) (by omega)))<|zE vZ<|zZ) ?_
  refine jF rfl (fun h2 => ?_) (fun h2 => ?_)
  ·replace h2 := uH h2
   refine jB<|kx [(4, (vl 140 1 jC [])), (5, (vl 140 1 jC a))] [] (zE (gN kM vL xZ)<|zM<|zM<|zM<|zZ) ?_
   refine jE ⟨_, (.tmp (d := (.sl 140 1 (List.map jC []))) rfl (.tmp (d := (.sl 140 1 (List.map jC a))) rfl .nil)), ?_⟩
   have hlt := cmpI_neg h2
   rw [Nat.div_eq_of_lt hlt, Nat.mod_eq_of_lt hlt, uF, ← can_eq hda]; rfl
  ·replace h2 := vB h2
   obtain ⟨u, hue⟩ : ∃ u, u = ofNat (val a * cH b) := ⟨_, rfl⟩
   obtain ⟨v, hve⟩ : ∃ v, v = ofNat (val b * cH b) := ⟨_, rfl⟩
   have hu : Dig u := by rw [hue]; exact kL _
   have hcv : xX v := by rw [hve]; exact kY _
   have hvd := hcv.1
   have hvl : v.length = b.length := by rw [hve]; exact scl_len hdb hb0
   have hvv : val v = val b * cH b := by rw [hve]; exact kB _
   have huv : val u = val a * cH b := by rw [hue]; exact kB _
   have hab := len_of_le hda hdb (cmpI_nn h2)
   have hul : a.length ≤ u.length ∧ u.length ≤ a.length + 1 := by rw [hue]; exact scl_lenA hda hdb hb0
   have hvp := mN hcv (by omega)
   have hpv : pw (b.length - 1) ≤ val v := by have h1 := val_top hvd (by omega); have h3 := bW hcv (by omega); rw [hvl] at h1 h3; have h2 := Nat.mul_le_mul_right (pw (b.length - 1)) h3.1; omega
   refine jD<|jB<|kx [(9, (yS (cH b)))] [] (zM<|zM<|zE (oSb (b.length - 1))<|zE (zU kM (b.length - 1) (0 : Nat))<|zE (xI qU)<|zE (nY yD yF (b.getD (b.length - 1) 0))<|zE (vG ((b.getD (b.length - 1) 0) + 1))<|zE (oQu (cH b) (hr := by exact (quo_u64 1000000000 (b.getD (b.length - 1) 0 + 1) (by decide))))<|zM<|zZ) ?_
   refine jB<|kx [(0, (vl 140 1 jC u)), (1, (vl 140 1 jC v))] [] (zM<|zM<|zE (jZ (hue ▸ r_scaled a (cH b) hda.1 (by omega) (by omega)))<|zM<|zM<|zE (jZ (hve ▸ r_scaled b (cH b) hdb.1 (by omega) (by omega)))<|zM<|zM<|zZ) ?_
   refine jB<|kx [(10, (vl 140 1 jC (ofNat (val (List.drop ((u.length - b.length) + 1) u)))))] [] (zM<|zM<|zE (vX kM)<|zM<|zE (oSb (u.length - b.length))<|zE (vG ((u.length - b.length) + 1))<|zE (e_slc (l := ((u.length - b.length) + 1)) (h := (List.map jC u).length) (kl := .i64) (kh := .i64) (es' := List.map jC (List.drop ((u.length - b.length) + 1) u)) (by exact rfl) kM (by exact rfl) (by exact rfl) (by exact rfl) (by simp only [List.length_map]; omega) (Nat.le_refl _) (by rw [List.take_length, List.map_drop]))<|zE (jZ (gZ false (List.drop ((u.length - b.length) + 1) u) (hu.drop _) (by rw [List.length_drop]; omega)))<|zE (oF1 aI zG)<|zM<|zZ) ?_
   refine jB<|kx [(11, (.own 0 140 1 ((u.length - b.length) + 1)))] [(0, some (bm jC (List.replicate ((u.length - b.length) + 1) 0)))] (zM<|zE (vX kM)<|zM<|zE (oSb (u.length - b.length))<|zE (vG ((u.length - b.length) + 1))<|zN (oMk 0 jC (0 : Nat) ((u.length - b.length) + 1) ((u.length - b.length) + 1) kM vL xZ gW)<|zM<|zZ) ?_
   refine jB<|jB<|kx [(12, (vi ((((u.length - b.length) + 1 : Nat) : Int) - 1)))] [] (zM<|zE (vX kM)<|zM<|zE (zSb ((((u.length - b.length) + 1 : Nat) : Int) - 1))<|zM<|zZ) ?_
   refine jG<|kI (α := Nat × List Nat × List Nat) (fun (k, r, q) => ⟨[(0, (vl 140 1 jC u)), (1, (vl 140 1 jC v)), (6, (jN b.length)), (9, (yS (cH b))), (10, (vl 140 1 jC r)), (11, (.own 0 140 1 ((u.length - b.length) + 1))), (12, (vi (((k : Nat) : Int) - 1)))], [(0, some (bm jC q))]⟩) (fun (k, r, q) => xX r ∧ k ≤ ((u.length - b.length) + 1) ∧ q.length = ((u.length - b.length) + 1) ∧ Dig q ∧ val r < val v ∧ val (u.drop k) = val v * val (q.drop k) + val r) (fun (k, r, q) => k) (((u.length - b.length) + 1), ofNat (val (List.drop ((u.length - b.length) + 1) u)), List.replicate ((u.length - b.length) + 1) 0) wk ⟨kY _, Nat.le_refl _, by simp, xU _, by rw [kB]; have h7 := vQ (hu.drop ((u.length - b.length) + 1)); rw [List.length_drop, show u.length - ((u.length - b.length) + 1) = b.length - 1 by omega] at h7; omega, by rw [kB]; simp [val]⟩ ?_
   rintro ⟨k, r, q⟩ ⟨hrc, hk, hql, hqd, hr, hv⟩
   refine jB<|jB<|kx [(75, (vb (decide (0 ≤ (((k : Nat) : Int) - 1)))))] [] (zM<|zE oGe<|zZ) ?_
   refine jF (b := decide (0 ≤ (((k : Nat) : Int) - 1))) rfl (fun h3 => ?_) (fun h3 => ?_)
   ·replace h3 := uH h3
    obtain ⟨i, rfl⟩ : ∃ i, k = i + 1 := ⟨k - 1, by omega⟩
    rw [show (((i + 1 : Nat) : Int) - 1) = ((i : Nat) : Int) from by omega]
    have hgu := hu.getD i
    have hW : (u.getD i 0 + 1000000000 * val r) < 1000000000 * val v := by omega
    have hrs := rshift_val u hv
    obtain ⟨hg1, hg2⟩ := rguess hvd hvl hb0 hW
    have hgv := hvd.getD (b.length - 1)
    have hgw1 := (kL (u.getD i 0 + 1000000000 * val r)).getD b.length
    have hgw2 := (kL (u.getD i 0 + 1000000000 * val r)).getD (b.length - 1)
    have hrl : r.length ≤ b.length := by have h9 := vF (Nat.le_of_lt hr); rwa [← can_eq hrc, ← can_eq hcv, hvl] at h9
    have hwl : (ofNat (u.getD i 0 + 1000000000 * val r)).length ≤ b.length + 1 := qY (by rw [uQ]; have := vQ hvd; rw [hvl] at this; omega)
    refine jD<|jB<|jG<|jB<|kx [(10, (vl 140 1 jC (ofNat ((u.getD i 0) + 1000000000 * val r)))), (12, (jN i))] [] (zM<|zM<|zM<|zE (zU kM i (0 : Nat))<|zE (xI qU)<|zE (jZ (r_shifted r (u.getD i 0) hrc.1 (by omega) (by omega)))<|zM<|zZ) ?_
    refine jB<|kd [(13, (yS (((((ofNat ((u.getD i 0) + 1000000000 * val r)).getD b.length 0) * 1000000000) + ((ofNat ((u.getD i 0) + 1000000000 * val r)).getD (b.length - 1) 0)) / ((v.getD (b.length - 1) 0) + 1))))] [] mo (wM<|wM<|wE (jZ (fS (ofNat ((u.getD i 0) + 1000000000 * val r)) b.length (kL _)))<|wE (oMl (((ofNat ((u.getD i 0) + 1000000000 * val r)).getD b.length 0) * 1000000000))<|wM<|wM<|wE (oSb (b.length - 1))<|wE (jZ (fS (ofNat ((u.getD i 0) + 1000000000 * val r)) (b.length - 1) (by first | assumption | exact kL _ | exact (kY _).1 | exact (qK _).1)))<|wE (vG ((((ofNat ((u.getD i 0) + 1000000000 * val r)).getD b.length 0) * 1000000000) + ((ofNat ((u.getD i 0) + 1000000000 * val r)).getD (b.length - 1) 0)))<|wM<|wM<|wE (oSb (b.length - 1))<|wE (zU kM (b.length - 1) (0 : Nat))<|wE (xI qU)<|wE (nY yD yF (v.getD (b.length - 1) 0))<|wE (vG ((v.getD (b.length - 1) 0) + 1))<|wE (oQu (((((ofNat ((u.getD i 0) + 1000000000 * val r)).getD b.length 0) * 1000000000) + ((ofNat ((u.getD i 0) + 1000000000 * val r)).getD (b.length - 1) 0)) / ((v.getD (b.length - 1) 0) + 1)))<|wM<|wZ) ?_
    refine jB<|kx [(10, (vl 140 1 jC (ofNat (val (ofNat ((u.getD i 0) + 1000000000 * val r)) - val (ofNat (val v * (((((ofNat ((u.getD i 0) + 1000000000 * val r)).getD b.length 0) * 1000000000) + ((ofNat ((u.getD i 0) + 1000000000 * val r)).getD (b.length - 1) 0)) / ((v.getD (b.length - 1) 0) + 1))))))))] [] (zM<|zM<|zM<|zE (jZ (r_scaled v (((((ofNat ((u.getD i 0) + 1000000000 * val r)).getD b.length 0) * 1000000000) + ((ofNat ((u.getD i 0) + 1000000000 * val r)).getD (b.length - 1) 0)) / ((v.getD (b.length - 1) 0) + 1)) hvd (by omega) (by omega)))<|zE (jZ (r_minus (ofNat ((u.getD i 0) + 1000000000 * val r)) (ofNat (val v * (((((ofNat ((u.getD i 0) + 1000000000 * val r)).getD b.length 0) * 1000000000) + ((ofNat ((u.getD i 0) + 1000000000 * val r)).getD (b.length - 1) 0)) / ((v.getD (b.length - 1) 0) + 1)))) (kL _) (kL _) (by rw [kB, kB, Nat.mul_comm]; exact hg1) (by omega)))<|zM<|zZ) ?_
    refine jB<|jG<|kI (α := Nat × List Nat) (fun (G, r2) => ⟨[(0, (vl 140 1 jC u)), (1, (vl 140 1 jC v)), (6, (jN b.length)), (9, (yS (cH b))), (10, (vl 140 1 jC r2)), (11, (.own 0 140 1 ((u.length - b.length) + 1))), (12, (jN i)), (13, (yS G))], [(0, some (bm jC q))]⟩) (fun (G, r2) => xX r2 ∧ val v * G + val r2 = (u.getD i 0 + 1000000000 * val r)) (fun (G, r2) => val r2) ((((ofNat (u.getD i 0 + 1000000000 * val r)).getD b.length 0 * 1000000000 + (ofNat (u.getD i 0 + 1000000000 * val r)).getD (b.length - 1) 0) / (v.getD (b.length - 1) 0 + 1)), ofNat (val (ofNat (u.getD i 0 + 1000000000 * val r)) - val (ofNat (val v * (((ofNat (u.getD i 0 + 1000000000 * val r)).getD b.length 0 * 1000000000 + (ofNat (u.getD i 0 + 1000000000 * val r)).getD (b.length - 1) 0) / (v.getD (b.length - 1) 0 + 1)))))) wk ⟨kY _, by rw [kB, kB, kB]; rw [Nat.mul_comm] at hg1; omega⟩ ?_
    rintro ⟨G, r2⟩ ⟨hr2, hr2v⟩
    have hr2l : r2.length ≤ b.length + 1 := by have h9 := vF (show val r2 ≤ (u.getD i 0 + 1000000000 * val r) by omega); rw [← can_eq hr2] at h9; omega
    refine jB<|jB<|kx [(109, (vb (decide (0 ≤ (uX ((val r2 : Nat) : Int) ((val v : Nat) : Int))))))] [] (zM<|zM<|zE (jZ (r_size r2 v hr2 hcv (by omega) (by omega)))<|zE oGe<|zZ) ?_
    refine jF rfl (fun h4 => ?_) (fun h4 => ?_)
    ·replace h4 := uH h4
     have hge := iB h4
     have hG := rquo_lt hr2v hW
     have hr2l : r2.length ≤ b.length + 1 := by have h9 := vF (show val r2 ≤ (u.getD i 0 + 1000000000 * val r) by omega); rw [← can_eq hr2] at h9; omega
     refine jD<|jG<|jB<|kx [(10, (vl 140 1 jC (ofNat (val r2 - val v))))] [] (zM<|zM<|zE (jZ (r_minus r2 v hr2.1 hvd (by omega) (by omega)))<|zM<|zZ) ?_
     refine kx [(13, (yS (G + 1)))] [] (zM<|zE (vG (G + 1))<|zM<|zZ) ?_
     exact ⟨(G + 1, ofNat (val r2 - val v)), wk, (by have hge := iB h4; exact ⟨kY _, by rw [kB, Nat.mul_add, Nat.mul_one]; omega⟩), (by have hge := iB h4; dsimp only; rw [kB]; omega)⟩
    ·replace h4 := vB h4
     have hG := rquo_lt hr2v hW
     have hlt : val r2 < val v := by have h9 := cmpI_lt h4; omega
     refine kC<|kx [] [(0, some (bm jC (q.set i G)))] (zM<|zM<|zM<|zE (nY gP gE G)<|zE (fJ kM i)<|zT (oSp qU i G)<|zZ) ?_
     refine kx [(12, (vi (((i : Nat) : Int) - 1)))] [] (zM<|zE (zSb (((i : Nat) : Int) - 1))<|zM<|zZ) ?_
     exact ⟨(i, r2, q.set i G), wk, ⟨hr2, by omega, by simpa using hql, hqd.set _ hG, hlt, rround (by omega) (by rw [hr2v]; exact hrs)⟩, (by first|omega|(dsimp only;omega))⟩
   ·replace h3 := vB h3
    obtain rfl : k = 0 := by omega
    obtain ⟨e1, e2⟩ := scl_div (a := a) (b := b) (q := q) (u := r) hdb hb0 (by rw [List.drop_zero, List.drop_zero] at hv; rw [mJ, Nat.one_mul, List.drop_zero, ← huv, ← hvv, hv]; omega) (by rw [List.drop_zero, ← hvv]; exact hr)
    have hrl : r.length ≤ b.length := by have h9 := vF (Nat.le_of_lt hr); rwa [← can_eq hrc, ← can_eq hcv, hvl] at h9
    refine kC<|jB<|kx [(14, (vl 140 1 jC (ofNat (val r / (cH b)))))] [] (zM<|zM<|zE (jZ (r_short r (cH b) hrc.1 (by omega) (by omega) (by omega)))<|zM<|zE vP<|zE vP<|zM<|zM<|zZ) ?_
    refine jB<|kH (vK (t := 11) (k := 0) (es := List.map jC q) rfl rfl (uI _ _ (fun _ => rfl)) (uG _ _ hql) (vE _ _ (fun _ => rfl) hql)) ?_
    refine kx [(4, (vl 140 1 jC (ofNat (val q)))), (5, (vl 140 1 jC (ofNat (val r / (cH b)))))] [] (zM<|zE (jZ (gZ false q hqd (by omega)))<|zE (oF1 aI zG)<|zM<|zM<|zM<|zZ) ?_
    refine jE ⟨_, (.tmp (d := (.sl 140 1 (List.map jC (ofNat (val q))))) rfl (.tmp (d := (.sl 140 1 (List.map jC (ofNat (val r / (cH b)))))) rfl .nil)), ?_⟩
    rw [← e1, ← e2]; rfl
end Go.Proofs.YtnajallgoaiahaaGreatDoor
