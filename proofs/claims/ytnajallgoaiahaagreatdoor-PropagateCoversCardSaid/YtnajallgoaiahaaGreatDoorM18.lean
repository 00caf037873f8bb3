/- Part 18 of a proof: rules, plain facts, and functions walked. -/
import Derived.Test.YtnajallgoaiahaaGreatDoorM17
namespace Go.Proofs.YtnajallgoaiahaaGreatDoor
open Go.Fid
set_option maxRecDepth 4000
set_option linter.unusedVariables false
set_option linter.unusedSimpArgs false
theorem cb83 : callB Tryz.prog 83 = true := by kernel_rfl
theorem cb87 : callB Tryz.prog 87 = true := by kernel_rfl
theorem cb96 : callB Tryz.prog 96 = true := by kernel_rfl
theorem cb145 : callB Tryz.prog 145 = true := by kernel_rfl
theorem cb175 : callB Tryz.prog 175 = true := by kernel_rfl
theorem cb176 : callB Tryz.prog 176 = true := by kernel_rfl
theorem cb177 : callB Tryz.prog 177 = true := by kernel_rfl
theorem cb240 : callB Tryz.prog 240 = true := by kernel_rfl
theorem r_neg (x : jE) (hx : x.gs.length ≤ 1099511627776) : jW Tryz.prog 145 [(jQ x)] (jQ (kJ (-kC x))) := by
 have hvx := cW x
 refine jM Tryz.func145 rfl cb145 rfl ?_
 show qJ _ _ _ _ ⟨[(0, (.d (jQ x)))], []⟩
 refine jB <| kx [(1, (.ref 0 0)), (2, (.ref 1 0))] [(0, some (bx (jQ x))), (1, some (bx (jQ (jE.mk false []))))] (zN (uZ 0) <| zN (qS 1 zJ zL) <| zZ) ?_
 refine jB <| kx [] [(0, some (bx (jQ (kJ (kC x)))))] (zR (kK kB) <| zE (kG (dB x (by omega))) <| zT (qF kB) <| zZ) ?_
 refine jB <| kx [] [(1, some (bx (jQ (vV (!((kJ (kC x)).neg)) (val (ofNat (Int.natAbs (kC x))))))))] (zE (qC vN) <| zR (uC sh4) <| zE cE <| zE (qC vU) <| zR (uC xY) <| zE (kG (gW (!((kJ (kC x)).neg)) (ofNat (Int.natAbs (kC x))) (by first | assumption | exact kL _ | exact (qG _).1 | exact (qI _).1) (by omega))) <| zT (qF kB) <| zZ) ?_
 refine jH ⟨_, (qA (cs := (bx (jQ (vV (!((kJ (kC x)).neg)) (val (ofNat (Int.natAbs (kC x)))))))) (d := (jQ (vV (!((kJ (kC x)).neg)) (val (ofNat (Int.natAbs (kC x))))))) rfl rfl kB rfl rfl .nil), ?_⟩
 rw [← rneg_eq]; rfl
theorem r_sign (x : jE) (hx : x.gs.length ≤ 1099511627776) : jW Tryz.prog 83 [(jQ x)] (.val (.int .i64 ((uB (kC x))))) := by
 have hvx := cW x
 refine jM Tryz.func83 rfl cb83 rfl ?_
 show qJ _ _ _ _ ⟨[(0, (.d (jQ x)))], []⟩
 refine jB <| kx [(1, (.ref 0 0))] [(0, some (bx (jQ x)))] (zN (uZ 0) <| zM <| zZ) ?_
 refine jB <| kx [] [(0, some (bx (jQ (kJ (kC x)))))] (zR (kK kB) <| zE (kG (dB x (by omega))) <| zT (qF kB) <| zZ) ?_
 refine jB <| jB <| kx [(8, (vb ((((ofNat (Int.natAbs (kC x))).length : Nat) : Int) == 0)))] [] (zE (qC vU) <| zR (uC xY) <| zE (zB kN (L := (ofNat (Int.natAbs (kC x))))) <| zE gJ <| zZ) ?_
 refine jK rfl (fun h1 => ?_) (fun h1 => ?_)
 ·replace h1 := eq_of_beq h1
  refine jB <| kx [(2, (jN 0))] [] (zM <| zZ) ?_
  refine jH ⟨_, (.tmp (d := (.val (.int .i64 (0)))) rfl .nil), ?_⟩
  rw [rsign_zero h1]; rfl
 ·replace h1 := ne_of_beq_false h1
  refine jF <| jB <| jB <| kx [(10, (vb ((kJ (kC x)).neg)))] [] (zE (qC vN) <| zR (uC sh4) <| zZ) ?_
  refine jK (b := (kJ (kC x)).neg) rfl (fun h2 => ?_) (fun h2 => ?_)
  ·refine jB <| kx [(2, (vi (-1)))] [] (zM <| zZ) ?_
   refine jH ⟨_, (.tmp (d := (.val (.int .i64 (-1)))) rfl .nil), ?_⟩
   rw [rsign_neg h1 h2]; rfl
  ·refine jF <| jB <| kx [(2, (jN 1))] [] (zM <| zZ) ?_
   refine jH ⟨_, (.tmp (d := (.val (.int .i64 (1)))) rfl .nil), ?_⟩
   rw [rsign_pos h1 h2]; rfl
theorem r_add (x : jE) (y : jE) (hx : x.gs.length ≤ 1099511627776) (hy : y.gs.length ≤ 1099511627776) : jW Tryz.prog 96 [(jQ x), (jQ y)] (jQ (kJ (kC x + kC y))) := by
 have hvx := cW x
 have hvy := cW y
 refine jM Tryz.func96 rfl cb96 rfl ?_
 show qJ _ _ _ _ ⟨[(0, (.d (jQ x))), (1, (.d (jQ y)))], []⟩
 refine jB <| kx [(2, (.ref 0 0)), (3, (.ref 1 0)), (4, (.ref 2 0))] [(0, some (bx (jQ x))), (1, some (bx (jQ y))), (2, some (bx (jQ (jE.mk false []))))] (zN (uZ 0) <| zN (uZ 1) <| zN (qS 2 zJ zL) <| zZ) ?_
 refine jB <| kd [] [(0, some (bx (jQ (kJ (kC x))))), (1, some (bx (jQ (kJ (kC y)))))] mo (wR (kK kB) <| wE (kG (dB x (by omega))) <| wR (kK kB) <| wE (kG (dB y (by omega))) <| wT (qF kB) <| wT (qF kB) <| wZ) ?_
 refine jB <| jB <| kx [(13, (vb (((kJ (kC x)).neg) == ((kJ (kC y)).neg))))] [] (zE (qC vN) <| zR (uC sh4) <| zE (qC vN) <| zR (uC sh4) <| zE (oEb bo4) <| zZ) ?_
 refine jK rfl (fun h1 => ?_) (fun h1 => ?_)
 ·replace h1 := eq_of_beq h1
  refine jB <| kd [] [(2, some (bx (jQ (vV ((kJ (kC x)).neg) (val (ofNat (val (ofNat (Int.natAbs (kC x))) + val (ofNat (Int.natAbs (kC y))))))))))] mo (wE (qC vN) <| wR (uC sh4) <| wE (qC vU) <| wR (uC xY) <| wE (qC vU) <| wR (uC xY) <| wE (kG (r_plus (ofNat (Int.natAbs (kC x))) (ofNat (Int.natAbs (kC y))) (by first | assumption | exact kL _ | exact (qG _).1 | exact (qI _).1) (by first | assumption | exact kL _ | exact (qG _).1 | exact (qI _).1) (by omega) (by omega))) <| wE (kG (gW ((kJ (kC x)).neg) (ofNat (val (ofNat (Int.natAbs (kC x))) + val (ofNat (Int.natAbs (kC y))))) (by first | assumption | exact kL _ | exact (qG _).1 | exact (qI _).1) (by first | omega | exact Nat.le_trans (add_len (kL _) (kL _)) (by omega) | exact Nat.le_trans (sub_len (kL _)) (by omega)))) <| wT (qF kB) <| wZ) ?_
  refine jH ⟨_, (qA (cs := (bx (jQ (vV ((kJ (kC x)).neg) (val (ofNat (val (ofNat (Int.natAbs (kC x))) + val (ofNat (Int.natAbs (kC y)))))))))) (d := (jQ (vV ((kJ (kC x)).neg) (val (ofNat (val (ofNat (Int.natAbs (kC x))) + val (ofNat (Int.natAbs (kC y))))))))) rfl rfl kB rfl rfl .nil), ?_⟩
  rw [← rsum_same h1]; rfl
 ·replace h1 := ne_of_beq_false h1
  refine jF <| jB <| jB <| kx [(27, (vb (decide (0 ≤ (uY ((val (ofNat (Int.natAbs (kC x))) : Nat) : Int) ((val (ofNat (Int.natAbs (kC y))) : Nat) : Int))))))] [] (zE (qC vU) <| zR (uC xY) <| zE (qC vU) <| zR (uC xY) <| zE (kG (r_size (ofNat (Int.natAbs (kC x))) (ofNat (Int.natAbs (kC y))) (by first | assumption | exact qG _ | exact qI _) (by first | assumption | exact qG _ | exact qI _) (by omega) (by omega))) <| zE oGe <| zZ) ?_
  refine jK rfl (fun h2 => ?_) (fun h2 => ?_)
  ·replace h2 := of_decide_eq_true h2
   refine jB <| kd [] [(2, some (bx (jQ (vV ((kJ (kC x)).neg) (val (ofNat (val (ofNat (Int.natAbs (kC x))) - val (ofNat (Int.natAbs (kC y))))))))))] mo (wE (qC vN) <| wR (uC sh4) <| wE (qC vU) <| wR (uC xY) <| wE (qC vU) <| wR (uC xY) <| wE (kG (r_minus (ofNat (Int.natAbs (kC x))) (ofNat (Int.natAbs (kC y))) (by first | assumption | exact kL _ | exact (qG _).1 | exact (qI _).1) (by first | assumption | exact kL _ | exact (qG _).1 | exact (qI _).1) (by have := aG h2; omega) (by omega))) <| wE (kG (gW ((kJ (kC x)).neg) (ofNat (val (ofNat (Int.natAbs (kC x))) - val (ofNat (Int.natAbs (kC y))))) (by first | assumption | exact kL _ | exact (qG _).1 | exact (qI _).1) (by first | omega | exact Nat.le_trans (add_len (kL _) (kL _)) (by omega) | exact Nat.le_trans (sub_len (kL _)) (by omega)))) <| wT (qF kB) <| wZ) ?_
   refine jH ⟨_, (qA (cs := (bx (jQ (vV ((kJ (kC x)).neg) (val (ofNat (val (ofNat (Int.natAbs (kC x))) - val (ofNat (Int.natAbs (kC y)))))))))) (d := (jQ (vV ((kJ (kC x)).neg) (val (ofNat (val (ofNat (Int.natAbs (kC x))) - val (ofNat (Int.natAbs (kC y))))))))) rfl rfl kB rfl rfl .nil), ?_⟩
   rw [← rsum_first h1 (by have := aG h2; omega)]; rfl
  ·replace h2 := of_decide_eq_false h2
   refine jF <| jB <| kd [] [(2, some (bx (jQ (vV ((kJ (kC y)).neg) (val (ofNat (val (ofNat (Int.natAbs (kC y))) - val (ofNat (Int.natAbs (kC x))))))))))] mo (wE (qC vN) <| wR (uC sh4) <| wE (qC vU) <| wR (uC xY) <| wE (qC vU) <| wR (uC xY) <| wE (kG (r_minus (ofNat (Int.natAbs (kC y))) (ofNat (Int.natAbs (kC x))) (by first | assumption | exact kL _ | exact (qG _).1 | exact (qI _).1) (by first | assumption | exact kL _ | exact (qG _).1 | exact (qI _).1) (by have := cmpI_lt h2; omega) (by omega))) <| wE (kG (gW ((kJ (kC y)).neg) (ofNat (val (ofNat (Int.natAbs (kC y))) - val (ofNat (Int.natAbs (kC x))))) (by first | assumption | exact kL _ | exact (qG _).1 | exact (qI _).1) (by first | omega | exact Nat.le_trans (add_len (kL _) (kL _)) (by omega) | exact Nat.le_trans (sub_len (kL _)) (by omega)))) <| wT (qF kB) <| wZ) ?_
   refine jH ⟨_, (qA (cs := (bx (jQ (vV ((kJ (kC y)).neg) (val (ofNat (val (ofNat (Int.natAbs (kC y))) - val (ofNat (Int.natAbs (kC x)))))))))) (d := (jQ (vV ((kJ (kC y)).neg) (val (ofNat (val (ofNat (Int.natAbs (kC y))) - val (ofNat (Int.natAbs (kC x))))))))) rfl rfl kB rfl rfl .nil), ?_⟩
   rw [← rsum_second h1 (by have := cmpI_lt h2; omega)]; rfl
theorem r_sub (x : jE) (y : jE) (hx : x.gs.length ≤ 1099511627776) (hy : y.gs.length ≤ 1099511627776) : jW Tryz.prog 175 [(jQ x), (jQ y)] (jQ (kJ (kC x - kC y))) := by
 have hv := gs_neg y
 refine jM Tryz.func175 rfl cb175 rfl ?_
 show qJ _ _ _ _ ⟨[(0, (.d (jQ x))), (1, (.d (jQ y)))], []⟩
 refine jB <| kx [(2, (.ref 0 0)), (3, (.ref 1 0)), (4, (.ref 2 0))] [(0, some (bx (jQ x))), (1, some (bx (jQ y))), (2, some (bx (jQ (jE.mk false []))))] (zN (uZ 0) <| zN (uZ 1) <| zN (qS 2 zJ zL) <| zZ) ?_
 refine jB <| kd [] [(2, some (bx (jQ (kJ (kC x + kC (kJ (-kC y)))))))] mo (wR (kK kB) <| wR (kK kB) <| wE (kG (r_neg y (by omega))) <| wE (kG (r_add x (kJ (-kC y)) (by omega) (by omega))) <| wT (qF kB) <| wZ) ?_
 refine jH ⟨_, (qA (cs := (bx (jQ (kJ (kC x + kC (kJ (-kC y))))))) (d := (jQ (kJ (kC x + kC (kJ (-kC y)))))) rfl rfl kB rfl rfl .nil), ?_⟩
 rw [mP, ← Int.sub_eq_add_neg]; rfl
theorem r_mul (x : jE) (y : jE) (hx : x.gs.length ≤ 1099511627776) (hy : y.gs.length ≤ 1099511627776) : jW Tryz.prog 87 [(jQ x), (jQ y)] (jQ (kJ (kC x * kC y))) := by
 have hvx := cW x
 have hvy := cW y
 have hda := kL (Int.natAbs (kC x))
 have hdb := kL (Int.natAbs (kC y))
 refine jM Tryz.func87 rfl cb87 rfl ?_
 show qJ _ _ _ _ ⟨[(0, (.d (jQ x))), (1, (.d (jQ y)))], []⟩
 refine jB <| kx [(2, (.ref 0 0)), (3, (.ref 1 0)), (4, (.ref 2 0))] [(0, some (bx (jQ x))), (1, some (bx (jQ y))), (2, some (bx (jQ (jE.mk false []))))] (zN (uZ 0) <| zN (uZ 1) <| zN (qS 2 zJ zL) <| zZ) ?_
 refine jB <| kd [] [(0, some (bx (jQ (kJ (kC x))))), (1, some (bx (jQ (kJ (kC y)))))] mo (wR (kK kB) <| wE (kG (dB x (by omega))) <| wR (kK kB) <| wE (kG (dB y (by omega))) <| wT (qF kB) <| wT (qF kB) <| wZ) ?_
 refine jB <| kx [(5, (.own 3 140 1 ((ofNat (Int.natAbs (kC x))).length + (ofNat (Int.natAbs (kC y))).length)))] [(3, some (bm jD (List.replicate ((ofNat (Int.natAbs (kC x))).length + (ofNat (Int.natAbs (kC y))).length) 0)))] (zE (qC vU) <| zR (uC xY) <| zE (zB kN (L := (ofNat (Int.natAbs (kC x))))) <| zE (qC vU) <| zR (uC xY) <| zE (zB kN (L := (ofNat (Int.natAbs (kC y))))) <| zE (vJ ((ofNat (Int.natAbs (kC x))).length + (ofNat (Int.natAbs (kC y))).length)) <| zN (oMk 3 jD (0 : Nat) ((ofNat (Int.natAbs (kC x))).length + (ofNat (Int.natAbs (kC y))).length) ((ofNat (Int.natAbs (kC x))).length + (ofNat (Int.natAbs (kC y))).length) kN vF xX gS) <| zM <| zZ) ?_
 refine jB <| jB <| kx [(6, (jN 0))] [] (zM <| zZ) ?_
 refine jI <| kU (α := Nat × List Nat) (fun (i, out) => ⟨[(2, (.ref 0 0)), (3, (.ref 1 0)), (4, (.ref 2 0)), (5, (.own 3 140 1 ((ofNat (Int.natAbs (kC x))).length + (ofNat (Int.natAbs (kC y))).length))), (6, (jN i))], [(0, some (bx (jQ (kJ (kC x))))), (1, some (bx (jQ (kJ (kC y))))), (2, some (bx (jQ (jE.mk false [])))), (3, some (bm jD out))]⟩) (fun (i, out) => out.length = (ofNat (Int.natAbs (kC x))).length + (ofNat (Int.natAbs (kC y))).length ∧ Dig out ∧ i ≤ (ofNat (Int.natAbs (kC x))).length ∧ (∀ k, i + (ofNat (Int.natAbs (kC y))).length ≤ k → out.getD k 0 = 0) ∧ val out = val ((ofNat (Int.natAbs (kC x))).take i) * val (ofNat (Int.natAbs (kC y)))) (fun (i, out) => (ofNat (Int.natAbs (kC x))).length - i) (0, List.replicate ((ofNat (Int.natAbs (kC x))).length + (ofNat (Int.natAbs (kC y))).length) 0) wk ⟨by simp, xN _, Nat.zero_le _, fun k _ => eB _ k, by simp [val, cV]⟩ ?_
 rintro ⟨i, out⟩ ⟨uF, hdo, hi, hz, hv⟩
 have hai := hda.getD i
 refine jB <| jB <| kx [(26, (vb (decide (((i : Nat) : Int) < (((ofNat (Int.natAbs (kC x))).length : Nat) : Int)))))] [] (zM <| zE (qC vU) <| zR (uC xY) <| zE (zB kN (L := (ofNat (Int.natAbs (kC x))))) <| zE vW <| zZ) ?_
 refine jK rfl (fun h1 => ?_) (fun h1 => ?_)
 ·replace h1 := of_decide_eq_true h1
  refine jF <| jB <| jI <| jB <| kx [(7, (yL 0))] [] (zM <| zZ) ?_
  refine jB <| jB <| kx [(8, (jN 0))] [] (zM <| zZ) ?_
  refine jI <| kU (α := Nat × List Nat × Nat) (fun (j, o2, c) => ⟨[(2, (.ref 0 0)), (3, (.ref 1 0)), (4, (.ref 2 0)), (5, (.own 3 140 1 ((ofNat (Int.natAbs (kC x))).length + (ofNat (Int.natAbs (kC y))).length))), (6, (jN i)), (7, (yL c)), (8, (jN j))], [(0, some (bx (jQ (kJ (kC x))))), (1, some (bx (jQ (kJ (kC y))))), (2, some (bx (jQ (jE.mk false [])))), (3, some (bm jD o2))]⟩) (fun (j, o2, c) => o2.length = (ofNat (Int.natAbs (kC x))).length + (ofNat (Int.natAbs (kC y))).length ∧ Dig o2 ∧ j ≤ (ofNat (Int.natAbs (kC y))).length ∧ c < 1000000000 ∧ (∀ k, i + (ofNat (Int.natAbs (kC y))).length ≤ k → o2.getD k 0 = 0) ∧ val o2 + pw (i + j) * c = val ((ofNat (Int.natAbs (kC x))).take i) * val (ofNat (Int.natAbs (kC y))) + pw i * ((ofNat (Int.natAbs (kC x))).getD i 0 * val ((ofNat (Int.natAbs (kC y))).take j))) (fun (j, o2, c) => (ofNat (Int.natAbs (kC y))).length - j) (0, out, 0) wk ⟨uF, hdo, Nat.zero_le _, by decide, hz, by simp [val, hv]⟩ ?_
  rintro ⟨j, o2, c⟩ ⟨hlen2, hdo2, hj, hc, hz2, hv2⟩
  have hbj := hdb.getD j
  have hoj := hdo2.getD (i + j)
  have hpq : (ofNat (Int.natAbs (kC x))).getD i 0 * (ofNat (Int.natAbs (kC y))).getD j 0 ≤ 999999999 * 999999999 := Nat.mul_le_mul (by omega) (by omega)
  refine jB <| jB <| kx [(33, (vb (decide (((j : Nat) : Int) < (((ofNat (Int.natAbs (kC y))).length : Nat) : Int)))))] [] (zM <| zE (qC vU) <| zR (uC xY) <| zE (zB kN (L := (ofNat (Int.natAbs (kC y))))) <| zE vW <| zZ) ?_
  refine jK rfl (fun h2 => ?_) (fun h2 => ?_)
  ·replace h2 := of_decide_eq_true h2
   refine jF <| jB <| jI <| jB <| kd [(9, (yL (((o2.getD (i + j) 0) + (((ofNat (Int.natAbs (kC x))).getD i 0) * ((ofNat (Int.natAbs (kC y))).getD j 0))) + c)))] [] mo (wM <| wM <| wM <| wE (vJ (i + j)) <| wE (eY kN (i + j)) <| wR (oLp qV (i + j) (0 : Nat)) <| wE (nX yB yC (o2.getD (i + j) 0)) <| wE (qC vU) <| wR (uC xY) <| wM <| wE (hZ kN i (0 : Nat) (L := (ofNat (Int.natAbs (kC x))))) <| wE (gK qV) <| wE (nX yB yC ((ofNat (Int.natAbs (kC x))).getD i 0)) <| wE (qC vU) <| wR (uC xY) <| wM <| wE (hZ kN j (0 : Nat) (L := (ofNat (Int.natAbs (kC y))))) <| wE (gK qV) <| wE (nX yB yC ((ofNat (Int.natAbs (kC y))).getD j 0)) <| wE (oMl (((ofNat (Int.natAbs (kC x))).getD i 0) * ((ofNat (Int.natAbs (kC y))).getD j 0))) <| wE (vJ ((o2.getD (i + j) 0) + (((ofNat (Int.natAbs (kC x))).getD i 0) * ((ofNat (Int.natAbs (kC y))).getD j 0)))) <| wM <| wE (vJ (((o2.getD (i + j) 0) + (((ofNat (Int.natAbs (kC x))).getD i 0) * ((ofNat (Int.natAbs (kC y))).getD j 0))) + c)) <| wM <| wZ) ?_
   refine jB <| kx [] [(3, some (bm jD (o2.set (i + j) ((((o2.getD (i + j) 0) + (((ofNat (Int.natAbs (kC x))).getD i 0) * ((ofNat (Int.natAbs (kC y))).getD j 0))) + c) % 1000000000))))] (zM <| zM <| zM <| zE (vJ (i + j)) <| zM <| zE (oRe ((((o2.getD (i + j) 0) + (((ofNat (Int.natAbs (kC x))).getD i 0) * ((ofNat (Int.natAbs (kC y))).getD j 0))) + c) % 1000000000)) <| zE (nX gL yY ((((o2.getD (i + j) 0) + (((ofNat (Int.natAbs (kC x))).getD i 0) * ((ofNat (Int.natAbs (kC y))).getD j 0))) + c) % 1000000000)) <| zE (eY kN (i + j)) <| zT (oSp qV (i + j) ((((o2.getD (i + j) 0) + (((ofNat (Int.natAbs (kC x))).getD i 0) * ((ofNat (Int.natAbs (kC y))).getD j 0))) + c) % 1000000000)) <| zZ) ?_
   refine kx [(7, (yL ((((o2.getD (i + j) 0) + (((ofNat (Int.natAbs (kC x))).getD i 0) * ((ofNat (Int.natAbs (kC y))).getD j 0))) + c) / 1000000000)))] [] (zM <| zE (oQu ((((o2.getD (i + j) 0) + (((ofNat (Int.natAbs (kC x))).getD i 0) * ((ofNat (Int.natAbs (kC y))).getD j 0))) + c) / 1000000000)) <| zM <| zZ) ?_
   refine kx [(8, (jN (j + 1)))] [] (zM <| zE (vJ (j + 1)) <| zM <| zZ) ?_
   exact ⟨(j + 1, o2.set (i + j) ((o2.getD (i + j) 0 + (ofNat (Int.natAbs (kC x))).getD i 0 * (ofNat (Int.natAbs (kC y))).getD j 0 + c) % 1000000000), (o2.getD (i + j) 0 + (ofNat (Int.natAbs (kC x))).getD i 0 * (ofNat (Int.natAbs (kC y))).getD j 0 + c) / 1000000000), wk, (by obtain ⟨q1, q2⟩ := times_step (by omega) hdo2 hv2 rfl (val_take_succ _ j); exact ⟨by simpa using hlen2, q1, by omega, by omega, zero_set (by omega) hz2, q2⟩), (by first | omega | (dsimp only; omega))⟩
  ·replace h2 := of_decide_eq_false h2
   have hje : j = (ofNat (Int.natAbs (kC y))).length := by omega
   rw [hje] at hv2
   refine kP <| kx [] [(3, some (bm jD (o2.set (i + (ofNat (Int.natAbs (kC y))).length) c)))] (zM <| zM <| zE (qC vU) <| zR (uC xY) <| zE (zB kN (L := (ofNat (Int.natAbs (kC y))))) <| zE (vJ (i + (ofNat (Int.natAbs (kC y))).length)) <| zM <| zE (nX gL yY c) <| zE (eY kN (i + (ofNat (Int.natAbs (kC y))).length)) <| zT (oSp qV (i + (ofNat (Int.natAbs (kC y))).length) c) <| zZ) ?_
   refine kx [(6, (jN (i + 1)))] [] (zM <| zE (vJ (i + 1)) <| zM <| zZ) ?_
   exact ⟨(i + 1, o2.set (i + (ofNat (Int.natAbs (kC y))).length) c), wk, (by obtain ⟨q1, q2, q3, q4⟩ := times_row hdo2 (by omega) hlen2 hz2 hc hv2; exact ⟨q1, q2, by omega, q3, q4⟩), (by first | omega | (dsimp only; omega))⟩
 ·replace h1 := of_decide_eq_false h1
  have hie : i = (ofNat (Int.natAbs (kC x))).length := by omega
  rw [hie, List.take_length] at hv
  refine kP <| jB <| kA (xF (t := 5) (k := 3) (es := List.map jD out) rfl rfl (uG _ _ (fun _ => rfl)) (qZ _ _ uF) (uU _ _ (fun _ => rfl) uF)) ?_
  refine kx [] [(2, some (bx (jQ (vV (!(((kJ (kC x)).neg) == ((kJ (kC y)).neg))) (val out)))))] (zE (qC vN) <| zR (uC sh4) <| zE (qC vN) <| zR (uC sh4) <| zE (oNb bo4) <| zM <| zE (kG (gW (!(((kJ (kC x)).neg) == ((kJ (kC y)).neg))) out hdo (by omega))) <| zT (qF kB) <| zZ) ?_
  refine jH ⟨_, (qA (cs := (bx (jQ (vV (!(((kJ (kC x)).neg) == ((kJ (kC y)).neg))) (val out))))) (d := (jQ (vV (!(((kJ (kC x)).neg) == ((kJ (kC y)).neg))) (val out)))) rfl rfl kB rfl rfl .nil), ?_⟩
  rw [hv, rmul_eq]; rfl
theorem r_short (a : List Nat) (d : Nat) (hda : Dig a) (hd0 : 0 < d) (hd1 : d ≤ 1000000000) (hla : a.length ≤ 17592186044416) : jW Tryz.prog 240 [(.sl 140 1 (List.map jD a)), (.val (.int .u64 (((d : Nat) : Int))))] (.tup [(.sl 140 1 (List.map jD (ofNat (val a / d)))), (.val (.int .u64 ((((val a % d) : Nat) : Int))))]) := by
 refine jM Tryz.func240 rfl cb240 rfl ?_
 show qJ _ _ _ _ ⟨[(0, (vl 140 1 jD a)), (1, (yL d))], []⟩
 refine jB <| kx [] [] (zE (aK 140 1) <| zM <| zZ) ?_
 refine jB <| kx [(6, (.own 0 140 1 a.length))] [(0, some (bm jD (List.replicate a.length 0)))] (zM <| zE (zB kN) <| zN (oMk 0 jD (0 : Nat) a.length a.length kN vF xX gS) <| zM <| zZ) ?_
 refine jB <| kx [(7, (yL 0))] [] (zM <| zZ) ?_
 refine jB <| jB <| kx [(8, (vi (((a.length : Nat) : Int) - 1)))] [] (zM <| zE (zB kN) <| zE (zSb (((a.length : Nat) : Int) - 1)) <| zM <| zZ) ?_
 refine jI <| kU (α := Nat × List Nat × Nat) (fun (k, q, vY) => ⟨[(0, (vl 140 1 jD a)), (1, (yL d)), (6, (.own 0 140 1 a.length)), (7, (yL vY)), (8, (vi (((k : Nat) : Int) - 1)))], [(0, some (bm jD q))]⟩) (fun (k, q, vY) => k ≤ a.length ∧ q.length = a.length ∧ Dig q ∧ vY < d ∧ val (a.drop k) = val (q.drop k) * d + vY) (fun (k, q, vY) => k) (a.length, List.replicate a.length 0, 0) wk ⟨Nat.le_refl _, by simp, xN _, hd0, by simp [val]⟩ ?_
 rintro ⟨k, q, vY⟩ ⟨hk, uF, hdq, hr, hv⟩
 refine jB <| jB <| kx [(17, (vb (decide (0 ≤ (((k : Nat) : Int) - 1)))))] [] (zM <| zE oGe <| zZ) ?_
 refine jK (b := decide (0 ≤ (((k : Nat) : Int) - 1))) rfl (fun h1 => ?_) (fun h1 => ?_)
 ·replace h1 := of_decide_eq_true h1
  obtain ⟨i, rfl⟩ : ∃ i, k = i + 1 := ⟨k - 1, by omega⟩
  rw [show (((i + 1 : Nat) : Int) - 1) = ((i : Nat) : Int) from by omega]
  have hg := hda.getD i
  obtain ⟨hb1, hb2⟩ := short_bound hr hd1 hg
  refine jF <| jB <| jI <| jB <| kx [(8, (jN i)), (9, (yL ((vY * 1000000000) + (a.getD i 0))))] [] (zM <| zE (oMl (vY * 1000000000)) <| zM <| zM <| zE (hZ kN i (0 : Nat)) <| zE (gK qV) <| zE (nX yB yC (a.getD i 0)) <| zE (vJ ((vY * 1000000000) + (a.getD i 0))) <| zM <| zZ) ?_
  refine jB <| kx [] [(0, some (bm jD (q.set i (((vY * 1000000000) + (a.getD i 0)) / d))))] (zM <| zM <| zM <| zM <| zE (oQu (((vY * 1000000000) + (a.getD i 0)) / d)) <| zE (nX gL yY (((vY * 1000000000) + (a.getD i 0)) / d)) <| zE (eY kN i) <| zT (oSp qV i (((vY * 1000000000) + (a.getD i 0)) / d)) <| zZ) ?_
  refine kx [(7, (yL (((vY * 1000000000) + (a.getD i 0)) % d)))] [] (zM <| zM <| zE (oRe (((vY * 1000000000) + (a.getD i 0)) % d)) <| zM <| zZ) ?_
  refine kx [(8, (vi (((i : Nat) : Int) - 1)))] [] (zM <| zE (zSb (((i : Nat) : Int) - 1)) <| zM <| zZ) ?_
  exact ⟨(i, q.set i ((vY * 1000000000 + a.getD i 0) / d), (vY * 1000000000 + a.getD i 0) % d), wk, ⟨by omega, by simpa using uF, hdq.set _ hb2, Nat.mod_lt _ hd0, rshort_step (by omega) hv rfl⟩, (by first | omega | (dsimp only; omega))⟩
 ·replace h1 := of_decide_eq_false h1
  obtain rfl : k = 0 := by omega
  obtain ⟨e1, e2⟩ := short_end (a := a) (q := q) (by rw [Nat.sub_self]; exact hv) hr
  refine kP <| jB <| kA (xF (t := 6) (k := 0) (es := List.map jD q) rfl rfl (uG _ _ (fun _ => rfl)) (qZ _ _ uF) (uU _ _ (fun _ => rfl) uF)) ?_
  refine kx [(4, (vl 140 1 jD (ofNat (val q)))), (5, (yL vY))] [] (zM <| zE (kG (gW false q (by first | assumption | exact kL _ | exact (qG _).1 | exact (qI _).1) (by omega))) <| zE (oF1 fA xY) <| zM <| zM <| zM <| zZ) ?_
  refine jH ⟨_, (.tmp (d := (.sl 140 1 (List.map jD (ofNat (val q))))) rfl (.tmp (d := (.val (.int .u64 (((vY : Nat) : Int))))) rfl .nil)), ?_⟩
  rw [← e1, ← e2]; rfl
theorem r_pair (l : List Nat) (hd : Dig l) (h2 : l.length ≤ 2) : jW Tryz.prog 177 [(.sl 140 1 (List.map jD l))] (.val (.int .u64 ((((val l) : Nat) : Int)))) := by
 have h0 := hd.getD 0
 have h1 := hd.getD 1
 refine jM Tryz.func177 rfl cb177 rfl ?_
 show qJ _ _ _ _ ⟨[(0, (vl 140 1 jD l))], []⟩
 refine jB <| kx [] [] (zM <| zZ) ?_
 refine jB <| kx [(2, (yL (((l.getD 1 0) * 1000000000) + (l.getD 0 0))))] [] (zM <| zE (kG (eJ l 1 (by first | assumption | exact kL _ | exact (qG _).1 | exact (qI _).1))) <| zE (oMl ((l.getD 1 0) * 1000000000)) <| zM <| zE (kG (eJ l 0 (by first | assumption | exact kL _ | exact (qG _).1 | exact (qI _).1))) <| zE (vJ (((l.getD 1 0) * 1000000000) + (l.getD 0 0))) <| zM <| zZ) ?_
 refine jH ⟨_, (.tmp (d := (.val (.int .u64 ((((((l.getD 1 0) * 1000000000) + (l.getD 0 0)) : Nat) : Int))))) rfl .nil), ?_⟩
 rw [val_pair h2]; rfl
theorem r_parts (a b : List Nat) (hda : xT a) (hdb : xT b) (hb0 : 0 < b.length) (hla : a.length ≤ 1099511627776) (hlb : b.length ≤ 1099511627776) : jW Tryz.prog 176 [(.sl 140 1 (List.map jD a)), (.sl 140 1 (List.map jD b))] (.tup [(.sl 140 1 (List.map jD (ofNat (val a / val b)))), (.sl 140 1 (List.map jD (ofNat (val a % val b))))]) := by
 have hsc := fJ hdb hb0
 have htp := aI hdb hb0
 have hbp := mH hdb hb0
 refine jM Tryz.func176 rfl cb176 rfl ?_
 show qJ _ _ _ _ ⟨[(0, (vl 140 1 jD a)), (1, (vl 140 1 jD b))], []⟩
 refine jB <| kx [] [] (zE (aK 140 1) <| zE (aK 140 1) <| zZ) ?_
 refine jB <| kx [(6, (jN b.length))] [] (zM <| zE (zB kN) <| zM <| zZ) ?_
 refine jB <| jB <| kx [(19, (vb (((b.length : Nat) : Int) == 1)))] [] (zM <| zE gJ <| zZ) ?_
 refine jK (b := (((b.length : Nat) : Int) == 1)) rfl (fun h1 => ?_) (fun h1 => ?_)
 ·replace h1 := eq_of_beq h1
  have hg0 := hdb.1.getD 0
  have hv1 := val_len1 (b := b) (by omega)
  have hb00 : 0 < b.getD 0 0 := by omega
  have hrl : val a % b.getD 0 0 < 1000000000 := Nat.lt_trans (Nat.mod_lt _ hb00) (by omega)
  refine jB <| kx [(7, (vl 140 1 jD (ofNat (val a / (b.getD 0 0))))), (8, (yL (val a % (b.getD 0 0))))] [] (zM <| zM <| zE (hZ kN 0 (0 : Nat)) <| zE (gK qV) <| zE (nX yB yC (b.getD 0 0)) <| zE (kG (r_short a (b.getD 0 0) hda.1 (by omega) (by omega) (by omega))) <| zM <| zE vX <| zE vX <| zM <| zM <| zZ) ?_
  refine jB <| kx [(4, (vl 140 1 jD (ofNat (val a / (b.getD 0 0))))), (5, (vl 140 1 jD (ofNat (val [(val a % (b.getD 0 0))]))))] [] (zM <| zM <| zE (nX gL yY (val a % (b.getD 0 0))) <| zE (nU kN vF xX) <| zE (kG (gW false [(val a % (b.getD 0 0))] (yG.2 ⟨by omega, gC⟩) (by simp))) <| zE (oF1 fA xY) <| zM <| zM <| zZ) ?_
  refine jH ⟨_, (.tmp (d := (.sl 140 1 (List.map jD (ofNat (val a / (b.getD 0 0)))))) rfl (.tmp (d := (.sl 140 1 (List.map jD (ofNat (val [(val a % (b.getD 0 0))]))))) rfl .nil)), ?_⟩
  rw [hv1, mQ]; rfl
 ·replace h1 := ne_of_beq_false h1
  refine jF <| jB <| jB <| kx [(38, (vb (decide ((uY ((val a : Nat) : Int) ((val b : Nat) : Int)) < 0))))] [] (zM <| zM <| zE (kG (r_size a b (by first | assumption | exact qG _ | exact qI _) (by first | assumption | exact qG _ | exact qI _) (by omega) (by omega))) <| zE vW <| zZ) ?_
  refine jK rfl (fun h2 => ?_) (fun h2 => ?_)
  ·replace h2 := of_decide_eq_true h2
   refine jB <| kx [(4, (vl 140 1 jD [])), (5, (vl 140 1 jD a))] [] (zE (nU kN vF xX) <| zM <| zM <| zM <| zZ) ?_
   refine jH ⟨_, (.tmp (d := (.sl 140 1 (List.map jD []))) rfl (.tmp (d := (.sl 140 1 (List.map jD a))) rfl .nil)), ?_⟩
   have hlt := cmpI_neg h2
   rw [Nat.div_eq_of_lt hlt, Nat.mod_eq_of_lt hlt, uJ, ← can_eq hda]; rfl
  ·replace h2 := of_decide_eq_false h2
   obtain ⟨u, hue⟩ : ∃ u, u = ofNat (val a * cG b) := ⟨_, rfl⟩
   obtain ⟨v, hve⟩ : ∃ v, v = ofNat (val b * cG b) := ⟨_, rfl⟩
   have hu : Dig u := by rw [hue]; exact kL _
   have hcv : xT v := by rw [hve]; exact qG _
   have hvd := hcv.1
   have hvl : v.length = b.length := by rw [hve]; exact scl_len hdb hb0
   have hvv : val v = val b * cG b := by rw [hve]; exact kI _
   have huv : val u = val a * cG b := by rw [hue]; exact kI _
   have hab := len_of_le hda hdb (cmpI_nn h2)
   have hul : a.length ≤ u.length ∧ u.length ≤ a.length + 1 := by rw [hue]; exact scl_lenA hda hdb hb0
   have hvp := mH hcv (by omega)
   have hpv : pw (b.length - 1) ≤ val v := by have h1 := val_top hvd (by omega); have h3 := aI hcv (by omega); rw [hvl] at h1 h3; have h2 := Nat.mul_le_mul_right (pw (b.length - 1)) h3.1; omega
   refine jF <| jB <| kx [(9, (yL (cG b)))] [] (zM <| zM <| zE (oSb (b.length - 1)) <| zE (hZ kN (b.length - 1) (0 : Nat)) <| zE (gK qV) <| zE (nX yB yC (b.getD (b.length - 1) 0)) <| zE (vJ ((b.getD (b.length - 1) 0) + 1)) <| zE (oQu (cG b) (hr := by exact (quo_u64 1000000000 (b.getD (b.length - 1) 0 + 1) (by decide)))) <| zM <| zZ) ?_
   refine jB <| kx [(0, (vl 140 1 jD u)), (1, (vl 140 1 jD v))] [] (zM <| zM <| zE (kG (hue ▸ r_scaled a (cG b) hda.1 (by omega) (by omega))) <| zM <| zM <| zE (kG (hve ▸ r_scaled b (cG b) hdb.1 (by omega) (by omega))) <| zM <| zM <| zZ) ?_
   refine jB <| kx [(10, (vl 140 1 jD (ofNat (val (List.drop ((u.length - b.length) + 1) u)))))] [] (zM <| zM <| zE (zB kN) <| zM <| zE (oSb (u.length - b.length)) <| zE (vJ ((u.length - b.length) + 1)) <| zE (e_slc (l := ((u.length - b.length) + 1)) (h := (List.map jD u).length) (kl := .i64) (kh := .i64) (es' := List.map jD (List.drop ((u.length - b.length) + 1) u)) (by exact rfl) kN (by exact rfl) (by exact rfl) (by exact rfl) (by simp only [List.length_map]; omega) (Nat.le_refl _) (by rw [List.take_length, List.map_drop])) <| zE (kG (gW false (List.drop ((u.length - b.length) + 1) u) (hu.drop _) (by rw [List.length_drop]; omega))) <| zE (oF1 fA xY) <| zM <| zZ) ?_
   refine jB <| kx [(11, (.own 0 140 1 ((u.length - b.length) + 1)))] [(0, some (bm jD (List.replicate ((u.length - b.length) + 1) 0)))] (zM <| zE (zB kN) <| zM <| zE (oSb (u.length - b.length)) <| zE (vJ ((u.length - b.length) + 1)) <| zN (oMk 0 jD (0 : Nat) ((u.length - b.length) + 1) ((u.length - b.length) + 1) kN vF xX gS) <| zM <| zZ) ?_
   refine jB <| jB <| kx [(12, (vi ((((u.length - b.length) + 1 : Nat) : Int) - 1)))] [] (zM <| zE (zB kN) <| zM <| zE (zSb ((((u.length - b.length) + 1 : Nat) : Int) - 1)) <| zM <| zZ) ?_
   refine jI <| kU (α := Nat × List Nat × List Nat) (fun (k, r, q) => ⟨[(0, (vl 140 1 jD u)), (1, (vl 140 1 jD v)), (6, (jN b.length)), (9, (yL (cG b))), (10, (vl 140 1 jD r)), (11, (.own 0 140 1 ((u.length - b.length) + 1))), (12, (vi (((k : Nat) : Int) - 1)))], [(0, some (bm jD q))]⟩) (fun (k, r, q) => xT r ∧ k ≤ ((u.length - b.length) + 1) ∧ q.length = ((u.length - b.length) + 1) ∧ Dig q ∧ val r < val v ∧ val (u.drop k) = val v * val (q.drop k) + val r) (fun (k, r, q) => k) (((u.length - b.length) + 1), ofNat (val (List.drop ((u.length - b.length) + 1) u)), List.replicate ((u.length - b.length) + 1) 0) wk ⟨qG _, Nat.le_refl _, by simp, xN _, by rw [kI]; have h7 := vQ (hu.drop ((u.length - b.length) + 1)); rw [List.length_drop, show u.length - ((u.length - b.length) + 1) = b.length - 1 by omega] at h7; omega, by rw [kI]; simp [val]⟩ ?_
   rintro ⟨k, r, q⟩ ⟨hrc, hk, hql, hqd, hr, hv⟩
   refine jB <| jB <| kx [(75, (vb (decide (0 ≤ (((k : Nat) : Int) - 1)))))] [] (zM <| zE oGe <| zZ) ?_
   refine jK (b := decide (0 ≤ (((k : Nat) : Int) - 1))) rfl (fun h3 => ?_) (fun h3 => ?_)
   ·replace h3 := of_decide_eq_true h3
    obtain ⟨i, rfl⟩ : ∃ i, k = i + 1 := ⟨k - 1, by omega⟩
    rw [show (((i + 1 : Nat) : Int) - 1) = ((i : Nat) : Int) from by omega]
    have hgu := hu.getD i
    have hW : (u.getD i 0 + 1000000000 * val r) < 1000000000 * val v := by omega
    have hrs := rshift_val u hv
    obtain ⟨hg1, hg2⟩ := rguess hvd hvl hb0 hW
    have hgv := hvd.getD (b.length - 1)
    have hgw1 := (kL (u.getD i 0 + 1000000000 * val r)).getD b.length
    have hgw2 := (kL (u.getD i 0 + 1000000000 * val r)).getD (b.length - 1)
    have hrl : r.length ≤ b.length := by have h9 := vA (Nat.le_of_lt hr); rwa [← can_eq hrc, ← can_eq hcv, hvl] at h9
    have hwl : (ofNat (u.getD i 0 + 1000000000 * val r)).length ≤ b.length + 1 := qY (by rw [uT]; have := vQ hvd; rw [hvl] at this; omega)
    refine jF <| jB <| jI <| jB <| kx [(10, (vl 140 1 jD (ofNat ((u.getD i 0) + 1000000000 * val r)))), (12, (jN i))] [] (zM <| zM <| zM <| zE (hZ kN i (0 : Nat)) <| zE (gK qV) <| zE (kG (r_shifted r (u.getD i 0) hrc.1 (by omega) (by omega))) <| zM <| zZ) ?_
    refine jB <| kd [(13, (yL (((((ofNat ((u.getD i 0) + 1000000000 * val r)).getD b.length 0) * 1000000000) + ((ofNat ((u.getD i 0) + 1000000000 * val r)).getD (b.length - 1) 0)) / ((v.getD (b.length - 1) 0) + 1))))] [] mo (wM <| wM <| wE (kG (eJ (ofNat ((u.getD i 0) + 1000000000 * val r)) b.length (kL _))) <| wE (oMl (((ofNat ((u.getD i 0) + 1000000000 * val r)).getD b.length 0) * 1000000000)) <| wM <| wM <| wE (oSb (b.length - 1)) <| wE (kG (eJ (ofNat ((u.getD i 0) + 1000000000 * val r)) (b.length - 1) (by first | assumption | exact kL _ | exact (qG _).1 | exact (qI _).1))) <| wE (vJ ((((ofNat ((u.getD i 0) + 1000000000 * val r)).getD b.length 0) * 1000000000) + ((ofNat ((u.getD i 0) + 1000000000 * val r)).getD (b.length - 1) 0))) <| wM <| wM <| wE (oSb (b.length - 1)) <| wE (hZ kN (b.length - 1) (0 : Nat)) <| wE (gK qV) <| wE (nX yB yC (v.getD (b.length - 1) 0)) <| wE (vJ ((v.getD (b.length - 1) 0) + 1)) <| wE (oQu (((((ofNat ((u.getD i 0) + 1000000000 * val r)).getD b.length 0) * 1000000000) + ((ofNat ((u.getD i 0) + 1000000000 * val r)).getD (b.length - 1) 0)) / ((v.getD (b.length - 1) 0) + 1))) <| wM <| wZ) ?_
    refine jB <| kx [(10, (vl 140 1 jD (ofNat (val (ofNat ((u.getD i 0) + 1000000000 * val r)) - val (ofNat (val v * (((((ofNat ((u.getD i 0) + 1000000000 * val r)).getD b.length 0) * 1000000000) + ((ofNat ((u.getD i 0) + 1000000000 * val r)).getD (b.length - 1) 0)) / ((v.getD (b.length - 1) 0) + 1))))))))] [] (zM <| zM <| zM <| zE (kG (r_scaled v (((((ofNat ((u.getD i 0) + 1000000000 * val r)).getD b.length 0) * 1000000000) + ((ofNat ((u.getD i 0) + 1000000000 * val r)).getD (b.length - 1) 0)) / ((v.getD (b.length - 1) 0) + 1)) hvd (by omega) (by omega))) <| zE (kG (r_minus (ofNat ((u.getD i 0) + 1000000000 * val r)) (ofNat (val v * (((((ofNat ((u.getD i 0) + 1000000000 * val r)).getD b.length 0) * 1000000000) + ((ofNat ((u.getD i 0) + 1000000000 * val r)).getD (b.length - 1) 0)) / ((v.getD (b.length - 1) 0) + 1)))) (kL _) (kL _) (by rw [kI, kI, Nat.mul_comm]; exact hg1) (by omega))) <| zM <| zZ) ?_
    refine jB <| jI <| kU (α := Nat × List Nat) (fun (G, r2) => ⟨[(0, (vl 140 1 jD u)), (1, (vl 140 1 jD v)), (6, (jN b.length)), (9, (yL (cG b))), (10, (vl 140 1 jD r2)), (11, (.own 0 140 1 ((u.length - b.length) + 1))), (12, (jN i)), (13, (yL G))], [(0, some (bm jD q))]⟩) (fun (G, r2) => xT r2 ∧ val v * G + val r2 = (u.getD i 0 + 1000000000 * val r)) (fun (G, r2) => val r2) ((((ofNat (u.getD i 0 + 1000000000 * val r)).getD b.length 0 * 1000000000 + (ofNat (u.getD i 0 + 1000000000 * val r)).getD (b.length - 1) 0) / (v.getD (b.length - 1) 0 + 1)), ofNat (val (ofNat (u.getD i 0 + 1000000000 * val r)) - val (ofNat (val v * (((ofNat (u.getD i 0 + 1000000000 * val r)).getD b.length 0 * 1000000000 + (ofNat (u.getD i 0 + 1000000000 * val r)).getD (b.length - 1) 0) / (v.getD (b.length - 1) 0 + 1)))))) wk ⟨qG _, by rw [kI, kI, kI]; rw [Nat.mul_comm] at hg1; omega⟩ ?_
    rintro ⟨G, r2⟩ ⟨hr2, hr2v⟩
    have hr2l : r2.length ≤ b.length + 1 := by have h9 := vA (show val r2 ≤ (u.getD i 0 + 1000000000 * val r) by omega); rw [← can_eq hr2] at h9; omega
    refine jB <| jB <| kx [(109, (vb (decide (0 ≤ (uY ((val r2 : Nat) : Int) ((val v : Nat) : Int))))))] [] (zM <| zM <| zE (kG (r_size r2 v hr2 hcv (by omega) (by omega))) <| zE oGe <| zZ) ?_
    refine jK rfl (fun h4 => ?_) (fun h4 => ?_)
    ·replace h4 := of_decide_eq_true h4
     have hge := aG h4
     have hG := rquo_lt hr2v hW
     have hr2l : r2.length ≤ b.length + 1 := by have h9 := vA (show val r2 ≤ (u.getD i 0 + 1000000000 * val r) by omega); rw [← can_eq hr2] at h9; omega
     refine jF <| jI <| jB <| kx [(10, (vl 140 1 jD (ofNat (val r2 - val v))))] [] (zM <| zM <| zE (kG (r_minus r2 v hr2.1 hvd (by omega) (by omega))) <| zM <| zZ) ?_
     refine kx [(13, (yL (G + 1)))] [] (zM <| zE (vJ (G + 1)) <| zM <| zZ) ?_
     exact ⟨(G + 1, ofNat (val r2 - val v)), wk, (by have hge := aG h4; exact ⟨qG _, by rw [kI, Nat.mul_add, Nat.mul_one]; omega⟩), (by have hge := aG h4; dsimp only; rw [kI]; omega)⟩
    ·replace h4 := of_decide_eq_false h4
     have hG := rquo_lt hr2v hW
     have hlt : val r2 < val v := by have h9 := cmpI_lt h4; omega
     refine kP <| kx [] [(0, some (bm jD (q.set i G)))] (zM <| zM <| zM <| zE (nX gL yY G) <| zE (eY kN i) <| zT (oSp qV i G) <| zZ) ?_
     refine kx [(12, (vi (((i : Nat) : Int) - 1)))] [] (zM <| zE (zSb (((i : Nat) : Int) - 1)) <| zM <| zZ) ?_
     exact ⟨(i, r2, q.set i G), wk, ⟨hr2, by omega, by simpa using hql, hqd.set _ hG, hlt, rround (by omega) (by rw [hr2v]; exact hrs)⟩, (by first | omega | (dsimp only; omega))⟩
   ·replace h3 := of_decide_eq_false h3
    obtain rfl : k = 0 := by omega
    obtain ⟨e1, e2⟩ := scl_div (a := a) (b := b) (q := q) (u := r) hdb hb0 (by rw [List.drop_zero, List.drop_zero] at hv; rw [mD, Nat.one_mul, List.drop_zero, ← huv, ← hvv, hv]; omega) (by rw [List.drop_zero, ← hvv]; exact hr)
    have hrl : r.length ≤ b.length := by have h9 := vA (Nat.le_of_lt hr); rwa [← can_eq hrc, ← can_eq hcv, hvl] at h9
    refine kP <| jB <| kx [(14, (vl 140 1 jD (ofNat (val r / (cG b)))))] [] (zM <| zM <| zE (kG (r_short r (cG b) hrc.1 (by omega) (by omega) (by omega))) <| zM <| zE vX <| zE vX <| zM <| zM <| zZ) ?_
    refine jB <| kA (xF (t := 11) (k := 0) (es := List.map jD q) rfl rfl (uG _ _ (fun _ => rfl)) (qZ _ _ hql) (uU _ _ (fun _ => rfl) hql)) ?_
    refine kx [(4, (vl 140 1 jD (ofNat (val q)))), (5, (vl 140 1 jD (ofNat (val r / (cG b)))))] [] (zM <| zE (kG (gW false q hqd (by omega))) <| zE (oF1 fA xY) <| zM <| zM <| zM <| zZ) ?_
    refine jH ⟨_, (.tmp (d := (.sl 140 1 (List.map jD (ofNat (val q))))) rfl (.tmp (d := (.sl 140 1 (List.map jD (ofNat (val r / (cG b)))))) rfl .nil)), ?_⟩
    rw [← e1, ← e2]; rfl
end Go.Proofs.YtnajallgoaiahaaGreatDoor
