/- Part 7 of a proof: rules, plain facts, and functions walked. -/
import Derived.Test.YtbecgnplakngdaaGreatM6
import Derived.Test.YtbecgnplakngdaaGreatM4
import Derived.Test.YtbecgnplakngdaaGreatM5
namespace Go.Proofs.YtbecgnplakngdaaGreat
open Go.Fid
set_option maxRecDepth 4000
set_option linter.unusedVariables false
set_option linter.unusedSimpArgs false
theorem cb84 : callB Tryz.prog 84 = true := by kernel_rfl
theorem cb103 : callB Tryz.prog 103 = true := by kernel_rfl
theorem cb134 : callB Tryz.prog 134 = true := by kernel_rfl
theorem cb135 : callB Tryz.prog 135 = true := by kernel_rfl
theorem cb147 : callB Tryz.prog 147 = true := by kernel_rfl
theorem cb148 : callB Tryz.prog 148 = true := by kernel_rfl
theorem cb149 : callB Tryz.prog 149 = true := by kernel_rfl
theorem cb189 : callB Tryz.prog 189 = true := by kernel_rfl
theorem r_neg (x : jG) (hx : x.gs.length ≤ 1099511627776) : kD Tryz.prog 134 [(jU x)] (jU (kN (-kA x))) := by
 have hvx := cP x
 refine jK Tryz.func134 rfl cb134 rfl ?_
 show uY _ _ _ _ ⟨[(0, (.d (jU x)))], []⟩
 refine jA <| kx [(1, (.ref 0 0)), (2, (.ref 1 0))] [(0, some (bx (jU x))), (1, some (bx (jU (jG.mk false []))))] (zN (vN 0) <| zN (qP 1 gL gM) <| zZ) ?_
 refine jA <| kx [] [(0, some (bx (jU (kN (kA x)))))] (zR (jZ kF) <| zE (jX (cL x (by omega))) <| zT (kU kF) <| zZ) ?_
 refine jA <| kx [] [(1, some (bx (jU (xS (!((kN (kA x)).neg)) (val (ofNat (Int.natAbs (kA x))))))))] (zE (kO xM) <| zR (uM sh4) <| zE oNt <| zE (kO zJ) <| zR (uM yU) <| zE (jX (hC (!((kN (kA x)).neg)) (ofNat (Int.natAbs (kA x))) (by first | assumption | exact kM _ | exact (qO _).1 | exact (qR _).1) (by omega))) <| zT (kU kF) <| zZ) ?_
 refine jH ⟨_, (kZ (cs := (bx (jU (xS (!((kN (kA x)).neg)) (val (ofNat (Int.natAbs (kA x)))))))) (d := (jU (xS (!((kN (kA x)).neg)) (val (ofNat (Int.natAbs (kA x))))))) rfl rfl kF rfl rfl .nil), ?_⟩
 rw [← rneg_eq]; rfl
theorem r_sign (x : jG) (hx : x.gs.length ≤ 1099511627776) : kD Tryz.prog 84 [(jU x)] (.val (.int .i64 ((uU (kA x))))) := by
 have hvx := cP x
 refine jK Tryz.func84 rfl cb84 rfl ?_
 show uY _ _ _ _ ⟨[(0, (.d (jU x)))], []⟩
 refine jA <| kx [(1, (.ref 0 0))] [(0, some (bx (jU x)))] (zN (vN 0) <| zM <| zZ) ?_
 refine jA <| kx [] [(0, some (bx (jU (kN (kA x)))))] (zR (jZ kF) <| zE (jX (cL x (by omega))) <| zT (kU kF) <| zZ) ?_
 refine jA <| jA <| kx [(8, (vb ((((ofNat (Int.natAbs (kA x))).length : Nat) : Int) == 0)))] [] (zE (kO zJ) <| zR (uM yU) <| zE (nX kP (L := (ofNat (Int.natAbs (kA x))))) <| zE oEq <| zZ) ?_
 refine jS rfl (fun h1 => ?_) (fun h1 => ?_)
 ·replace h1 := eq_of_beq h1
  refine jA <| kx [(2, (kE 0))] [] (zM <| zZ) ?_
  refine jH ⟨_, (.tmp (d := (.val (.int .i64 (0)))) rfl .nil), ?_⟩
  rw [rsign_zero h1]; rfl
 ·replace h1 := ne_of_beq_false h1
  refine jD <| jA <| jA <| kx [(10, (vb ((kN (kA x)).neg)))] [] (zE (kO xM) <| zR (uM sh4) <| zZ) ?_
  refine jS (b := (kN (kA x)).neg) rfl (fun h2 => ?_) (fun h2 => ?_)
  ·refine jA <| kx [(2, (vi (-1)))] [] (zM <| zZ) ?_
   refine jH ⟨_, (.tmp (d := (.val (.int .i64 (-1)))) rfl .nil), ?_⟩
   rw [rsign_neg h1 h2]; rfl
  ·refine jD <| jA <| kx [(2, (kE 1))] [] (zM <| zZ) ?_
   refine jH ⟨_, (.tmp (d := (.val (.int .i64 (1)))) rfl .nil), ?_⟩
   rw [rsign_pos h1 h2]; rfl
theorem r_add (x : jG) (y : jG) (hx : x.gs.length ≤ 1099511627776) (hy : y.gs.length ≤ 1099511627776) : kD Tryz.prog 135 [(jU x), (jU y)] (jU (kN (kA x + kA y))) := by
 have hvx := cP x
 have hvy := cP y
 refine jK Tryz.func135 rfl cb135 rfl ?_
 show uY _ _ _ _ ⟨[(0, (.d (jU x))), (1, (.d (jU y)))], []⟩
 refine jA <| kx [(2, (.ref 0 0)), (3, (.ref 1 0)), (4, (.ref 2 0))] [(0, some (bx (jU x))), (1, some (bx (jU y))), (2, some (bx (jU (jG.mk false []))))] (zN (vN 0) <| zN (vN 1) <| zN (qP 2 gL gM) <| zZ) ?_
 refine jA <| kd [] [(0, some (bx (jU (kN (kA x))))), (1, some (bx (jU (kN (kA y)))))] mo (wR (jZ kF) <| wE (jX (cL x (by omega))) <| wR (jZ kF) <| wE (jX (cL y (by omega))) <| wT (kU kF) <| wT (kU kF) <| wZ) ?_
 refine jA <| jA <| kx [(13, (vb (((kN (kA x)).neg) == ((kN (kA y)).neg))))] [] (zE (kO xM) <| zR (uM sh4) <| zE (kO xM) <| zR (uM sh4) <| zE (oEb bo4) <| zZ) ?_
 refine jS rfl (fun h1 => ?_) (fun h1 => ?_)
 ·replace h1 := eq_of_beq h1
  refine jA <| kd [] [(2, some (bx (jU (xS ((kN (kA x)).neg) (val (ofNat (val (ofNat (Int.natAbs (kA x))) + val (ofNat (Int.natAbs (kA y))))))))))] mo (wE (kO xM) <| wR (uM sh4) <| wE (kO zJ) <| wR (uM yU) <| wE (kO zJ) <| wR (uM yU) <| wE (jX (r_plus (ofNat (Int.natAbs (kA x))) (ofNat (Int.natAbs (kA y))) (by first | assumption | exact kM _ | exact (qO _).1 | exact (qR _).1) (by first | assumption | exact kM _ | exact (qO _).1 | exact (qR _).1) (by omega) (by omega))) <| wE (jX (hC ((kN (kA x)).neg) (ofNat (val (ofNat (Int.natAbs (kA x))) + val (ofNat (Int.natAbs (kA y))))) (by first | assumption | exact kM _ | exact (qO _).1 | exact (qR _).1) (by first | omega | exact Nat.le_trans (add_len (kM _) (kM _)) (by omega) | exact Nat.le_trans (sub_len (kM _)) (by omega)))) <| wT (kU kF) <| wZ) ?_
  refine jH ⟨_, (kZ (cs := (bx (jU (xS ((kN (kA x)).neg) (val (ofNat (val (ofNat (Int.natAbs (kA x))) + val (ofNat (Int.natAbs (kA y)))))))))) (d := (jU (xS ((kN (kA x)).neg) (val (ofNat (val (ofNat (Int.natAbs (kA x))) + val (ofNat (Int.natAbs (kA y))))))))) rfl rfl kF rfl rfl .nil), ?_⟩
  rw [← rsum_same h1]; rfl
 ·replace h1 := ne_of_beq_false h1
  refine jD <| jA <| jA <| kx [(27, (vb (decide (0 ≤ (xB ((val (ofNat (Int.natAbs (kA x))) : Nat) : Int) ((val (ofNat (Int.natAbs (kA y))) : Nat) : Int))))))] [] (zE (kO zJ) <| zR (uM yU) <| zE (kO zJ) <| zR (uM yU) <| zE (jX (r_size (ofNat (Int.natAbs (kA x))) (ofNat (Int.natAbs (kA y))) (by first | assumption | exact qO _ | exact qR _) (by first | assumption | exact qO _ | exact qR _) (by omega) (by omega))) <| zE oGe <| zZ) ?_
  refine jS rfl (fun h2 => ?_) (fun h2 => ?_)
  ·replace h2 := of_decide_eq_true h2
   refine jA <| kd [] [(2, some (bx (jU (xS ((kN (kA x)).neg) (val (ofNat (val (ofNat (Int.natAbs (kA x))) - val (ofNat (Int.natAbs (kA y))))))))))] mo (wE (kO xM) <| wR (uM sh4) <| wE (kO zJ) <| wR (uM yU) <| wE (kO zJ) <| wR (uM yU) <| wE (jX (r_minus (ofNat (Int.natAbs (kA x))) (ofNat (Int.natAbs (kA y))) (by first | assumption | exact kM _ | exact (qO _).1 | exact (qR _).1) (by first | assumption | exact kM _ | exact (qO _).1 | exact (qR _).1) (by have := aF h2; omega) (by omega))) <| wE (jX (hC ((kN (kA x)).neg) (ofNat (val (ofNat (Int.natAbs (kA x))) - val (ofNat (Int.natAbs (kA y))))) (by first | assumption | exact kM _ | exact (qO _).1 | exact (qR _).1) (by first | omega | exact Nat.le_trans (add_len (kM _) (kM _)) (by omega) | exact Nat.le_trans (sub_len (kM _)) (by omega)))) <| wT (kU kF) <| wZ) ?_
   refine jH ⟨_, (kZ (cs := (bx (jU (xS ((kN (kA x)).neg) (val (ofNat (val (ofNat (Int.natAbs (kA x))) - val (ofNat (Int.natAbs (kA y)))))))))) (d := (jU (xS ((kN (kA x)).neg) (val (ofNat (val (ofNat (Int.natAbs (kA x))) - val (ofNat (Int.natAbs (kA y))))))))) rfl rfl kF rfl rfl .nil), ?_⟩
   rw [← rsum_first h1 (by have := aF h2; omega)]; rfl
  ·replace h2 := of_decide_eq_false h2
   refine jD <| jA <| kd [] [(2, some (bx (jU (xS ((kN (kA y)).neg) (val (ofNat (val (ofNat (Int.natAbs (kA y))) - val (ofNat (Int.natAbs (kA x))))))))))] mo (wE (kO xM) <| wR (uM sh4) <| wE (kO zJ) <| wR (uM yU) <| wE (kO zJ) <| wR (uM yU) <| wE (jX (r_minus (ofNat (Int.natAbs (kA y))) (ofNat (Int.natAbs (kA x))) (by first | assumption | exact kM _ | exact (qO _).1 | exact (qR _).1) (by first | assumption | exact kM _ | exact (qO _).1 | exact (qR _).1) (by have := cmpI_lt h2; omega) (by omega))) <| wE (jX (hC ((kN (kA y)).neg) (ofNat (val (ofNat (Int.natAbs (kA y))) - val (ofNat (Int.natAbs (kA x))))) (by first | assumption | exact kM _ | exact (qO _).1 | exact (qR _).1) (by first | omega | exact Nat.le_trans (add_len (kM _) (kM _)) (by omega) | exact Nat.le_trans (sub_len (kM _)) (by omega)))) <| wT (kU kF) <| wZ) ?_
   refine jH ⟨_, (kZ (cs := (bx (jU (xS ((kN (kA y)).neg) (val (ofNat (val (ofNat (Int.natAbs (kA y))) - val (ofNat (Int.natAbs (kA x)))))))))) (d := (jU (xS ((kN (kA y)).neg) (val (ofNat (val (ofNat (Int.natAbs (kA y))) - val (ofNat (Int.natAbs (kA x))))))))) rfl rfl kF rfl rfl .nil), ?_⟩
   rw [← rsum_second h1 (by have := cmpI_lt h2; omega)]; rfl
theorem r_sub (x : jG) (y : jG) (hx : x.gs.length ≤ 1099511627776) (hy : y.gs.length ≤ 1099511627776) : kD Tryz.prog 147 [(jU x), (jU y)] (jU (kN (kA x - kA y))) := by
 have hv := gs_neg y
 refine jK Tryz.func147 rfl cb147 rfl ?_
 show uY _ _ _ _ ⟨[(0, (.d (jU x))), (1, (.d (jU y)))], []⟩
 refine jA <| kx [(2, (.ref 0 0)), (3, (.ref 1 0)), (4, (.ref 2 0))] [(0, some (bx (jU x))), (1, some (bx (jU y))), (2, some (bx (jU (jG.mk false []))))] (zN (vN 0) <| zN (vN 1) <| zN (qP 2 gL gM) <| zZ) ?_
 refine jA <| kd [] [(2, some (bx (jU (kN (kA x + kA (kN (-kA y)))))))] mo (wR (jZ kF) <| wR (jZ kF) <| wE (jX (r_neg y (by omega))) <| wE (jX (r_add x (kN (-kA y)) (by omega) (by omega))) <| wT (kU kF) <| wZ) ?_
 refine jH ⟨_, (kZ (cs := (bx (jU (kN (kA x + kA (kN (-kA y))))))) (d := (jU (kN (kA x + kA (kN (-kA y)))))) rfl rfl kF rfl rfl .nil), ?_⟩
 rw [mO, ← Int.sub_eq_add_neg]; rfl
theorem r_mul (x : jG) (y : jG) (hx : x.gs.length ≤ 1099511627776) (hy : y.gs.length ≤ 1099511627776) : kD Tryz.prog 103 [(jU x), (jU y)] (jU (kN (kA x * kA y))) := by
 have hvx := cP x
 have hvy := cP y
 have hda := kM (Int.natAbs (kA x))
 have hdb := kM (Int.natAbs (kA y))
 refine jK Tryz.func103 rfl cb103 rfl ?_
 show uY _ _ _ _ ⟨[(0, (.d (jU x))), (1, (.d (jU y)))], []⟩
 refine jA <| kx [(2, (.ref 0 0)), (3, (.ref 1 0)), (4, (.ref 2 0))] [(0, some (bx (jU x))), (1, some (bx (jU y))), (2, some (bx (jU (jG.mk false []))))] (zN (vN 0) <| zN (vN 1) <| zN (qP 2 gL gM) <| zZ) ?_
 refine jA <| kd [] [(0, some (bx (jU (kN (kA x))))), (1, some (bx (jU (kN (kA y)))))] mo (wR (jZ kF) <| wE (jX (cL x (by omega))) <| wR (jZ kF) <| wE (jX (cL y (by omega))) <| wT (kU kF) <| wT (kU kF) <| wZ) ?_
 refine jA <| kx [(5, (.own 3 152 1 ((ofNat (Int.natAbs (kA x))).length + (ofNat (Int.natAbs (kA y))).length)))] [(3, some (bm jB (List.replicate ((ofNat (Int.natAbs (kA x))).length + (ofNat (Int.natAbs (kA y))).length) 0)))] (zE (kO zJ) <| zR (uM yU) <| zE (nX kP (L := (ofNat (Int.natAbs (kA x))))) <| zE (kO zJ) <| zR (uM yU) <| zE (nX kP (L := (ofNat (Int.natAbs (kA y))))) <| zE (uI ((ofNat (Int.natAbs (kA x))).length + (ofNat (Int.natAbs (kA y))).length)) <| zN (oMk 3 jB (0 : Nat) ((ofNat (Int.natAbs (kA x))).length + (ofNat (Int.natAbs (kA y))).length) ((ofNat (Int.natAbs (kA x))).length + (ofNat (Int.natAbs (kA y))).length) kP xE yS nA) <| zM <| zZ) ?_
 refine jA <| jA <| kx [(6, (kE 0))] [] (zM <| zZ) ?_
 refine jE <| uZ (α := Nat × List Nat) (fun (i, out) => ⟨[(2, (.ref 0 0)), (3, (.ref 1 0)), (4, (.ref 2 0)), (5, (.own 3 152 1 ((ofNat (Int.natAbs (kA x))).length + (ofNat (Int.natAbs (kA y))).length))), (6, (kE i))], [(0, some (bx (jU (kN (kA x))))), (1, some (bx (jU (kN (kA y))))), (2, some (bx (jU (jG.mk false [])))), (3, some (bm jB out))]⟩) (fun (i, out) => out.length = (ofNat (Int.natAbs (kA x))).length + (ofNat (Int.natAbs (kA y))).length ∧ Dig out ∧ i ≤ (ofNat (Int.natAbs (kA x))).length ∧ (∀ k, i + (ofNat (Int.natAbs (kA y))).length ≤ k → out.getD k 0 = 0) ∧ val out = val ((ofNat (Int.natAbs (kA x))).take i) * val (ofNat (Int.natAbs (kA y)))) (fun (i, out) => (ofNat (Int.natAbs (kA x))).length - i) (0, List.replicate ((ofNat (Int.natAbs (kA x))).length + (ofNat (Int.natAbs (kA y))).length) 0) wk ⟨by simp, zW _, Nat.zero_le _, fun k _ => dW _ k, by simp [val, cJ]⟩ ?_
 rintro ⟨i, out⟩ ⟨vR, hdo, hi, hz, hv⟩
 have hai := hda.getD i
 refine jA <| jA <| kx [(26, (vb (decide (((i : Nat) : Int) < (((ofNat (Int.natAbs (kA x))).length : Nat) : Int)))))] [] (zM <| zE (kO zJ) <| zR (uM yU) <| zE (nX kP (L := (ofNat (Int.natAbs (kA x))))) <| zE qM <| zZ) ?_
 refine jS rfl (fun h1 => ?_) (fun h1 => ?_)
 ·replace h1 := of_decide_eq_true h1
  refine jD <| jA <| jE <| jA <| kx [(7, (yY 0))] [] (zM <| zZ) ?_
  refine jA <| jA <| kx [(8, (kE 0))] [] (zM <| zZ) ?_
  refine jE <| uZ (α := Nat × List Nat × Nat) (fun (j, o2, c) => ⟨[(2, (.ref 0 0)), (3, (.ref 1 0)), (4, (.ref 2 0)), (5, (.own 3 152 1 ((ofNat (Int.natAbs (kA x))).length + (ofNat (Int.natAbs (kA y))).length))), (6, (kE i)), (7, (yY c)), (8, (kE j))], [(0, some (bx (jU (kN (kA x))))), (1, some (bx (jU (kN (kA y))))), (2, some (bx (jU (jG.mk false [])))), (3, some (bm jB o2))]⟩) (fun (j, o2, c) => o2.length = (ofNat (Int.natAbs (kA x))).length + (ofNat (Int.natAbs (kA y))).length ∧ Dig o2 ∧ j ≤ (ofNat (Int.natAbs (kA y))).length ∧ c < 1000000000 ∧ (∀ k, i + (ofNat (Int.natAbs (kA y))).length ≤ k → o2.getD k 0 = 0) ∧ val o2 + pw (i + j) * c = val ((ofNat (Int.natAbs (kA x))).take i) * val (ofNat (Int.natAbs (kA y))) + pw i * ((ofNat (Int.natAbs (kA x))).getD i 0 * val ((ofNat (Int.natAbs (kA y))).take j))) (fun (j, o2, c) => (ofNat (Int.natAbs (kA y))).length - j) (0, out, 0) wk ⟨vR, hdo, Nat.zero_le _, by decide, hz, by simp [val, hv]⟩ ?_
  rintro ⟨j, o2, c⟩ ⟨hlen2, hdo2, hj, hc, hz2, hv2⟩
  have hbj := hdb.getD j
  have hoj := hdo2.getD (i + j)
  have hpq : (ofNat (Int.natAbs (kA x))).getD i 0 * (ofNat (Int.natAbs (kA y))).getD j 0 ≤ 999999999 * 999999999 := Nat.mul_le_mul (by omega) (by omega)
  refine jA <| jA <| kx [(33, (vb (decide (((j : Nat) : Int) < (((ofNat (Int.natAbs (kA y))).length : Nat) : Int)))))] [] (zM <| zE (kO zJ) <| zR (uM yU) <| zE (nX kP (L := (ofNat (Int.natAbs (kA y))))) <| zE qM <| zZ) ?_
  refine jS rfl (fun h2 => ?_) (fun h2 => ?_)
  ·replace h2 := of_decide_eq_true h2
   refine jD <| jA <| jE <| jA <| kd [(9, (yY (((o2.getD (i + j) 0) + (((ofNat (Int.natAbs (kA x))).getD i 0) * ((ofNat (Int.natAbs (kA y))).getD j 0))) + c)))] [] mo (wM <| wM <| wM <| wE (uI (i + j)) <| wE (oXo kP (i + j)) <| wR (oLp uN (i + j) (0 : Nat)) <| wE (nS yV yO (o2.getD (i + j) 0)) <| wE (kO zJ) <| wR (uM yU) <| wM <| wE (oXl kP i (0 : Nat) (L := (ofNat (Int.natAbs (kA x))))) <| wE (xT uN) <| wE (nS yV yO ((ofNat (Int.natAbs (kA x))).getD i 0)) <| wE (kO zJ) <| wR (uM yU) <| wM <| wE (oXl kP j (0 : Nat) (L := (ofNat (Int.natAbs (kA y))))) <| wE (xT uN) <| wE (nS yV yO ((ofNat (Int.natAbs (kA y))).getD j 0)) <| wE (oMl (((ofNat (Int.natAbs (kA x))).getD i 0) * ((ofNat (Int.natAbs (kA y))).getD j 0))) <| wE (uI ((o2.getD (i + j) 0) + (((ofNat (Int.natAbs (kA x))).getD i 0) * ((ofNat (Int.natAbs (kA y))).getD j 0)))) <| wM <| wE (uI (((o2.getD (i + j) 0) + (((ofNat (Int.natAbs (kA x))).getD i 0) * ((ofNat (Int.natAbs (kA y))).getD j 0))) + c)) <| wM <| wZ) ?_
   refine jA <| kx [] [(3, some (bm jB (o2.set (i + j) ((((o2.getD (i + j) 0) + (((ofNat (Int.natAbs (kA x))).getD i 0) * ((ofNat (Int.natAbs (kA y))).getD j 0))) + c) % 1000000000))))] (zM <| zM <| zM <| zE (uI (i + j)) <| zM <| zE (oRe ((((o2.getD (i + j) 0) + (((ofNat (Int.natAbs (kA x))).getD i 0) * ((ofNat (Int.natAbs (kA y))).getD j 0))) + c) % 1000000000)) <| zE (nS gR gH ((((o2.getD (i + j) 0) + (((ofNat (Int.natAbs (kA x))).getD i 0) * ((ofNat (Int.natAbs (kA y))).getD j 0))) + c) % 1000000000)) <| zE (oXo kP (i + j)) <| zT (oSp uN (i + j) ((((o2.getD (i + j) 0) + (((ofNat (Int.natAbs (kA x))).getD i 0) * ((ofNat (Int.natAbs (kA y))).getD j 0))) + c) % 1000000000)) <| zZ) ?_
   refine kx [(7, (yY ((((o2.getD (i + j) 0) + (((ofNat (Int.natAbs (kA x))).getD i 0) * ((ofNat (Int.natAbs (kA y))).getD j 0))) + c) / 1000000000)))] [] (zM <| zE (oQu ((((o2.getD (i + j) 0) + (((ofNat (Int.natAbs (kA x))).getD i 0) * ((ofNat (Int.natAbs (kA y))).getD j 0))) + c) / 1000000000)) <| zM <| zZ) ?_
   refine kx [(8, (kE (j + 1)))] [] (zM <| zE (uI (j + 1)) <| zM <| zZ) ?_
   exact ⟨(j + 1, o2.set (i + j) ((o2.getD (i + j) 0 + (ofNat (Int.natAbs (kA x))).getD i 0 * (ofNat (Int.natAbs (kA y))).getD j 0 + c) % 1000000000), (o2.getD (i + j) 0 + (ofNat (Int.natAbs (kA x))).getD i 0 * (ofNat (Int.natAbs (kA y))).getD j 0 + c) / 1000000000), wk, (by obtain ⟨q1, q2⟩ := times_step (by omega) hdo2 hv2 rfl (val_take_succ _ j); exact ⟨by simpa using hlen2, q1, by omega, by omega, zero_set (by omega) hz2, q2⟩), (by first | omega | (dsimp only; omega))⟩
  ·replace h2 := of_decide_eq_false h2
   have hje : j = (ofNat (Int.natAbs (kA y))).length := by omega
   rw [hje] at hv2
   refine kK <| kx [] [(3, some (bm jB (o2.set (i + (ofNat (Int.natAbs (kA y))).length) c)))] (zM <| zM <| zE (kO zJ) <| zR (uM yU) <| zE (nX kP (L := (ofNat (Int.natAbs (kA y))))) <| zE (uI (i + (ofNat (Int.natAbs (kA y))).length)) <| zM <| zE (nS gR gH c) <| zE (oXo kP (i + (ofNat (Int.natAbs (kA y))).length)) <| zT (oSp uN (i + (ofNat (Int.natAbs (kA y))).length) c) <| zZ) ?_
   refine kx [(6, (kE (i + 1)))] [] (zM <| zE (uI (i + 1)) <| zM <| zZ) ?_
   exact ⟨(i + 1, o2.set (i + (ofNat (Int.natAbs (kA y))).length) c), wk, (by obtain ⟨q1, q2, q3, q4⟩ := times_row hdo2 (by omega) hlen2 hz2 hc hv2; exact ⟨q1, q2, by omega, q3, q4⟩), (by first | omega | (dsimp only; omega))⟩
 ·replace h1 := of_decide_eq_false h1
  have hie : i = (ofNat (Int.natAbs (kA x))).length := by omega
  rw [hie, List.take_length] at hv
  refine kK <| jA <| kV (xX (t := 5) (k := 3) (es := List.map jB out) rfl rfl (xL _ _ (fun _ => rfl)) (xQ _ _ vR) (zP _ _ (fun _ => rfl) vR)) ?_
  refine kx [] [(2, some (bx (jU (xS (!(((kN (kA x)).neg) == ((kN (kA y)).neg))) (val out)))))] (zE (kO xM) <| zR (uM sh4) <| zE (kO xM) <| zR (uM sh4) <| zE (oNb bo4) <| zM <| zE (jX (hC (!(((kN (kA x)).neg) == ((kN (kA y)).neg))) out hdo (by omega))) <| zT (kU kF) <| zZ) ?_
  refine jH ⟨_, (kZ (cs := (bx (jU (xS (!(((kN (kA x)).neg) == ((kN (kA y)).neg))) (val out))))) (d := (jU (xS (!(((kN (kA x)).neg) == ((kN (kA y)).neg))) (val out)))) rfl rfl kF rfl rfl .nil), ?_⟩
  rw [hv, rmul_eq]; rfl
theorem r_short (a : List Nat) (d : Nat) (hda : Dig a) (hd0 : 0 < d) (hd1 : d ≤ 1000000000) (hla : a.length ≤ 17592186044416) : kD Tryz.prog 189 [(.sl 152 1 (List.map jB a)), (.val (.int .u64 (((d : Nat) : Int))))] (.tup [(.sl 152 1 (List.map jB (ofNat (val a / d)))), (.val (.int .u64 ((((val a % d) : Nat) : Int))))]) := by
 refine jK Tryz.func189 rfl cb189 rfl ?_
 show uY _ _ _ _ ⟨[(0, (vl 152 1 jB a)), (1, (yY d))], []⟩
 refine jA <| kx [] [] (zE (oNl 152 1) <| zM <| zZ) ?_
 refine jA <| kx [(6, (.own 0 152 1 a.length))] [(0, some (bm jB (List.replicate a.length 0)))] (zM <| zE (nX kP) <| zN (oMk 0 jB (0 : Nat) a.length a.length kP xE yS nA) <| zM <| zZ) ?_
 refine jA <| kx [(7, (yY 0))] [] (zM <| zZ) ?_
 refine jA <| jA <| kx [(8, (vi (((a.length : Nat) : Int) - 1)))] [] (zM <| zE (nX kP) <| zE (dJ (((a.length : Nat) : Int) - 1)) <| zM <| zZ) ?_
 refine jE <| uZ (α := Nat × List Nat × Nat) (fun (k, q, xR) => ⟨[(0, (vl 152 1 jB a)), (1, (yY d)), (6, (.own 0 152 1 a.length)), (7, (yY xR)), (8, (vi (((k : Nat) : Int) - 1)))], [(0, some (bm jB q))]⟩) (fun (k, q, xR) => k ≤ a.length ∧ q.length = a.length ∧ Dig q ∧ xR < d ∧ val (a.drop k) = val (q.drop k) * d + xR) (fun (k, q, xR) => k) (a.length, List.replicate a.length 0, 0) wk ⟨Nat.le_refl _, by simp, zW _, hd0, by simp [val]⟩ ?_
 rintro ⟨k, q, xR⟩ ⟨hk, vR, hdq, hr, hv⟩
 refine jA <| jA <| kx [(17, (vb (decide (0 ≤ (((k : Nat) : Int) - 1)))))] [] (zM <| zE oGe <| zZ) ?_
 refine jS (b := decide (0 ≤ (((k : Nat) : Int) - 1))) rfl (fun h1 => ?_) (fun h1 => ?_)
 ·replace h1 := of_decide_eq_true h1
  obtain ⟨i, rfl⟩ : ∃ i, k = i + 1 := ⟨k - 1, by omega⟩
  rw [show (((i + 1 : Nat) : Int) - 1) = ((i : Nat) : Int) from by omega]
  have hg := hda.getD i
  obtain ⟨hb1, hb2⟩ := short_bound hr hd1 hg
  refine jD <| jA <| jE <| jA <| kx [(8, (kE i)), (9, (yY ((xR * 1000000000) + (a.getD i 0))))] [] (zM <| zE (oMl (xR * 1000000000)) <| zM <| zM <| zE (oXl kP i (0 : Nat)) <| zE (xT uN) <| zE (nS yV yO (a.getD i 0)) <| zE (uI ((xR * 1000000000) + (a.getD i 0))) <| zM <| zZ) ?_
  refine jA <| kx [] [(0, some (bm jB (q.set i (((xR * 1000000000) + (a.getD i 0)) / d))))] (zM <| zM <| zM <| zM <| zE (oQu (((xR * 1000000000) + (a.getD i 0)) / d)) <| zE (nS gR gH (((xR * 1000000000) + (a.getD i 0)) / d)) <| zE (oXo kP i) <| zT (oSp uN i (((xR * 1000000000) + (a.getD i 0)) / d)) <| zZ) ?_
  refine kx [(7, (yY (((xR * 1000000000) + (a.getD i 0)) % d)))] [] (zM <| zM <| zE (oRe (((xR * 1000000000) + (a.getD i 0)) % d)) <| zM <| zZ) ?_
  refine kx [(8, (vi (((i : Nat) : Int) - 1)))] [] (zM <| zE (dJ (((i : Nat) : Int) - 1)) <| zM <| zZ) ?_
  exact ⟨(i, q.set i ((xR * 1000000000 + a.getD i 0) / d), (xR * 1000000000 + a.getD i 0) % d), wk, ⟨by omega, by simpa using vR, hdq.set _ hb2, Nat.mod_lt _ hd0, rshort_step (by omega) hv rfl⟩, (by first | omega | (dsimp only; omega))⟩
 ·replace h1 := of_decide_eq_false h1
  obtain rfl : k = 0 := by omega
  obtain ⟨e1, e2⟩ := short_end (a := a) (q := q) (by rw [Nat.sub_self]; exact hv) hr
  refine kK <| jA <| kV (xX (t := 6) (k := 0) (es := List.map jB q) rfl rfl (xL _ _ (fun _ => rfl)) (xQ _ _ vR) (zP _ _ (fun _ => rfl) vR)) ?_
  refine kx [(4, (vl 152 1 jB (ofNat (val q)))), (5, (yY xR))] [] (zM <| zE (jX (hC false q (by first | assumption | exact kM _ | exact (qO _).1 | exact (qR _).1) (by omega))) <| zE (oF1 eV yU) <| zM <| zM <| zM <| zZ) ?_
  refine jH ⟨_, (.tmp (d := (.sl 152 1 (List.map jB (ofNat (val q))))) rfl (.tmp (d := (.val (.int .u64 (((xR : Nat) : Int))))) rfl .nil)), ?_⟩
  rw [← e1, ← e2]; rfl
theorem r_pair (l : List Nat) (hd : Dig l) (h2 : l.length ≤ 2) : kD Tryz.prog 149 [(.sl 152 1 (List.map jB l))] (.val (.int .u64 ((((val l) : Nat) : Int)))) := by
 have h0 := hd.getD 0
 have h1 := hd.getD 1
 refine jK Tryz.func149 rfl cb149 rfl ?_
 show uY _ _ _ _ ⟨[(0, (vl 152 1 jB l))], []⟩
 refine jA <| kx [] [] (zM <| zZ) ?_
 refine jA <| kx [(2, (yY (((l.getD 1 0) * 1000000000) + (l.getD 0 0))))] [] (zM <| zE (jX (eQ l 1 (by first | assumption | exact kM _ | exact (qO _).1 | exact (qR _).1))) <| zE (oMl ((l.getD 1 0) * 1000000000)) <| zM <| zE (jX (eQ l 0 (by first | assumption | exact kM _ | exact (qO _).1 | exact (qR _).1))) <| zE (uI (((l.getD 1 0) * 1000000000) + (l.getD 0 0))) <| zM <| zZ) ?_
 refine jH ⟨_, (.tmp (d := (.val (.int .u64 ((((((l.getD 1 0) * 1000000000) + (l.getD 0 0)) : Nat) : Int))))) rfl .nil), ?_⟩
 rw [val_pair h2]; rfl
theorem r_parts (a b : List Nat) (hda : gB a) (hdb : gB b) (hb0 : 0 < b.length) (hla : a.length ≤ 1099511627776) (hlb : b.length ≤ 1099511627776) : kD Tryz.prog 148 [(.sl 152 1 (List.map jB a)), (.sl 152 1 (List.map jB b))] (.tup [(.sl 152 1 (List.map jB (ofNat (val a / val b)))), (.sl 152 1 (List.map jB (ofNat (val a % val b))))]) := by
 have hsc := fQ hdb hb0
 have htp := aK hdb hb0
 have hbp := mD hdb hb0
 refine jK Tryz.func148 rfl cb148 rfl ?_
 show uY _ _ _ _ ⟨[(0, (vl 152 1 jB a)), (1, (vl 152 1 jB b))], []⟩
 refine jA <| kx [] [] (zE (oNl 152 1) <| zE (oNl 152 1) <| zZ) ?_
 refine jA <| kx [(6, (kE b.length))] [] (zM <| zE (nX kP) <| zM <| zZ) ?_
 refine jA <| jA <| kx [(19, (vb (((b.length : Nat) : Int) == 1)))] [] (zM <| zE oEq <| zZ) ?_
 refine jS (b := (((b.length : Nat) : Int) == 1)) rfl (fun h1 => ?_) (fun h1 => ?_)
 ·replace h1 := eq_of_beq h1
  have hg0 := hdb.1.getD 0
  have hv1 := val_len1 (b := b) (by omega)
  have hb00 : 0 < b.getD 0 0 := by omega
  have hrl : val a % b.getD 0 0 < 1000000000 := Nat.lt_trans (Nat.mod_lt _ hb00) (by omega)
  refine jA <| kx [(7, (vl 152 1 jB (ofNat (val a / (b.getD 0 0))))), (8, (yY (val a % (b.getD 0 0))))] [] (zM <| zM <| zE (oXl kP 0 (0 : Nat)) <| zE (xT uN) <| zE (nS yV yO (b.getD 0 0)) <| zE (jX (r_short a (b.getD 0 0) hda.1 (by omega) (by omega) (by omega))) <| zM <| zE uG <| zE uG <| zM <| zM <| zZ) ?_
  refine jA <| kx [(4, (vl 152 1 jB (ofNat (val a / (b.getD 0 0))))), (5, (vl 152 1 jB (ofNat (val [(val a % (b.getD 0 0))]))))] [] (zM <| zM <| zE (nS gR gH (val a % (b.getD 0 0))) <| zE (nM kP xE yS) <| zE (jX (hC false [(val a % (b.getD 0 0))] (yT.2 ⟨by omega, gJ⟩) (by simp))) <| zE (oF1 eV yU) <| zM <| zM <| zZ) ?_
  refine jH ⟨_, (.tmp (d := (.sl 152 1 (List.map jB (ofNat (val a / (b.getD 0 0)))))) rfl (.tmp (d := (.sl 152 1 (List.map jB (ofNat (val [(val a % (b.getD 0 0))]))))) rfl .nil)), ?_⟩
  rw [hv1, mR]; rfl
 ·replace h1 := ne_of_beq_false h1
  refine jD <| jA <| jA <| kx [(38, (vb (decide ((xB ((val a : Nat) : Int) ((val b : Nat) : Int)) < 0))))] [] (zM <| zM <| zE (jX (r_size a b (by first | assumption | exact qO _ | exact qR _) (by first | assumption | exact qO _ | exact qR _) (by omega) (by omega))) <| zE qM <| zZ) ?_
  refine jS rfl (fun h2 => ?_) (fun h2 => ?_)
  ·replace h2 := of_decide_eq_true h2
   refine jA <| kx [(4, (vl 152 1 jB [])), (5, (vl 152 1 jB a))] [] (zE (nM kP xE yS) <| zM <| zM <| zM <| zZ) ?_
   refine jH ⟨_, (.tmp (d := (.sl 152 1 (List.map jB []))) rfl (.tmp (d := (.sl 152 1 (List.map jB a))) rfl .nil)), ?_⟩
   have hlt := cmpI_neg h2
   rw [Nat.div_eq_of_lt hlt, Nat.mod_eq_of_lt hlt, vT, ← can_eq hda]; rfl
  ·replace h2 := of_decide_eq_false h2
   obtain ⟨u, hue⟩ : ∃ u, u = ofNat (val a * mU b) := ⟨_, rfl⟩
   obtain ⟨v, hve⟩ : ∃ v, v = ofNat (val b * mU b) := ⟨_, rfl⟩
   have hu : Dig u := by rw [hue]; exact kM _
   have hcv : gB v := by rw [hve]; exact qO _
   have hvd := hcv.1
   have hvl : v.length = b.length := by rw [hve]; exact scl_len hdb hb0
   have hvv : val v = val b * mU b := by rw [hve]; exact kL _
   have huv : val u = val a * mU b := by rw [hue]; exact kL _
   have hab := len_of_le hda hdb (cmpI_nn h2)
   have hul : a.length ≤ u.length ∧ u.length ≤ a.length + 1 := by rw [hue]; exact scl_lenA hda hdb hb0
   have hvp := mD hcv (by omega)
   have hpv : pw (b.length - 1) ≤ val v := by have h1 := val_top hvd (by omega); have h3 := aK hcv (by omega); rw [hvl] at h1 h3; have h2 := Nat.mul_le_mul_right (pw (b.length - 1)) h3.1; omega
   refine jD <| jA <| kx [(9, (yY (mU b)))] [] (zM <| zM <| zE (oSb (b.length - 1)) <| zE (oXl kP (b.length - 1) (0 : Nat)) <| zE (xT uN) <| zE (nS yV yO (b.getD (b.length - 1) 0)) <| zE (uI ((b.getD (b.length - 1) 0) + 1)) <| zE (oQu (mU b) (hr := by exact (quo_u64 1000000000 (b.getD (b.length - 1) 0 + 1) (by decide)))) <| zM <| zZ) ?_
   refine jA <| kx [(0, (vl 152 1 jB u)), (1, (vl 152 1 jB v))] [] (zM <| zM <| zE (jX (hue ▸ r_scaled a (mU b) hda.1 (by omega) (by omega))) <| zM <| zM <| zE (jX (hve ▸ r_scaled b (mU b) hdb.1 (by omega) (by omega))) <| zM <| zM <| zZ) ?_
   refine jA <| kx [(10, (vl 152 1 jB (ofNat (val (List.drop ((u.length - b.length) + 1) u)))))] [] (zM <| zM <| zE (nX kP) <| zM <| zE (oSb (u.length - b.length)) <| zE (uI ((u.length - b.length) + 1)) <| zE (e_slc (l := ((u.length - b.length) + 1)) (h := (List.map jB u).length) (kl := .i64) (kh := .i64) (es' := List.map jB (List.drop ((u.length - b.length) + 1) u)) (by exact rfl) kP (by exact rfl) (by exact rfl) (by exact rfl) (by simp only [List.length_map]; omega) (Nat.le_refl _) (by rw [List.take_length, List.map_drop])) <| zE (jX (hC false (List.drop ((u.length - b.length) + 1) u) (hu.drop _) (by rw [List.length_drop]; omega))) <| zE (oF1 eV yU) <| zM <| zZ) ?_
   refine jA <| kx [(11, (.own 0 152 1 ((u.length - b.length) + 1)))] [(0, some (bm jB (List.replicate ((u.length - b.length) + 1) 0)))] (zM <| zE (nX kP) <| zM <| zE (oSb (u.length - b.length)) <| zE (uI ((u.length - b.length) + 1)) <| zN (oMk 0 jB (0 : Nat) ((u.length - b.length) + 1) ((u.length - b.length) + 1) kP xE yS nA) <| zM <| zZ) ?_
   refine jA <| jA <| kx [(12, (vi ((((u.length - b.length) + 1 : Nat) : Int) - 1)))] [] (zM <| zE (nX kP) <| zM <| zE (dJ ((((u.length - b.length) + 1 : Nat) : Int) - 1)) <| zM <| zZ) ?_
   refine jE <| uZ (α := Nat × List Nat × List Nat) (fun (k, r, q) => ⟨[(0, (vl 152 1 jB u)), (1, (vl 152 1 jB v)), (6, (kE b.length)), (9, (yY (mU b))), (10, (vl 152 1 jB r)), (11, (.own 0 152 1 ((u.length - b.length) + 1))), (12, (vi (((k : Nat) : Int) - 1)))], [(0, some (bm jB q))]⟩) (fun (k, r, q) => gB r ∧ k ≤ ((u.length - b.length) + 1) ∧ q.length = ((u.length - b.length) + 1) ∧ Dig q ∧ val r < val v ∧ val (u.drop k) = val v * val (q.drop k) + val r) (fun (k, r, q) => k) (((u.length - b.length) + 1), ofNat (val (List.drop ((u.length - b.length) + 1) u)), List.replicate ((u.length - b.length) + 1) 0) wk ⟨qO _, Nat.le_refl _, by simp, zW _, by rw [kL]; have h7 := xH (hu.drop ((u.length - b.length) + 1)); rw [List.length_drop, show u.length - ((u.length - b.length) + 1) = b.length - 1 by omega] at h7; omega, by rw [kL]; simp [val]⟩ ?_
   rintro ⟨k, r, q⟩ ⟨hrc, hk, hql, hqd, hr, hv⟩
   refine jA <| jA <| kx [(75, (vb (decide (0 ≤ (((k : Nat) : Int) - 1)))))] [] (zM <| zE oGe <| zZ) ?_
   refine jS (b := decide (0 ≤ (((k : Nat) : Int) - 1))) rfl (fun h3 => ?_) (fun h3 => ?_)
   ·replace h3 := of_decide_eq_true h3
    obtain ⟨i, rfl⟩ : ∃ i, k = i + 1 := ⟨k - 1, by omega⟩
    rw [show (((i + 1 : Nat) : Int) - 1) = ((i : Nat) : Int) from by omega]
    have hgu := hu.getD i
    have hW : (u.getD i 0 + 1000000000 * val r) < 1000000000 * val v := by omega
    have hrs := rshift_val u hv
    obtain ⟨hg1, hg2⟩ := rguess hvd hvl hb0 hW
    have hgv := hvd.getD (b.length - 1)
    have hgw1 := (kM (u.getD i 0 + 1000000000 * val r)).getD b.length
    have hgw2 := (kM (u.getD i 0 + 1000000000 * val r)).getD (b.length - 1)
    have hrl : r.length ≤ b.length := by have h9 := xU (Nat.le_of_lt hr); rwa [← can_eq hrc, ← can_eq hcv, hvl] at h9
    have hwl : (ofNat (u.getD i 0 + 1000000000 * val r)).length ≤ b.length + 1 := vC (by rw [vU]; have := xH hvd; rw [hvl] at this; omega)
    refine jD <| jA <| jE <| jA <| kx [(10, (vl 152 1 jB (ofNat ((u.getD i 0) + 1000000000 * val r)))), (12, (kE i))] [] (zM <| zM <| zM <| zE (oXl kP i (0 : Nat)) <| zE (xT uN) <| zE (jX (r_shifted r (u.getD i 0) hrc.1 (by omega) (by omega))) <| zM <| zZ) ?_
    refine jA <| kd [(13, (yY (((((ofNat ((u.getD i 0) + 1000000000 * val r)).getD b.length 0) * 1000000000) + ((ofNat ((u.getD i 0) + 1000000000 * val r)).getD (b.length - 1) 0)) / ((v.getD (b.length - 1) 0) + 1))))] [] mo (wM <| wM <| wE (jX (eQ (ofNat ((u.getD i 0) + 1000000000 * val r)) b.length (kM _))) <| wE (oMl (((ofNat ((u.getD i 0) + 1000000000 * val r)).getD b.length 0) * 1000000000)) <| wM <| wM <| wE (oSb (b.length - 1)) <| wE (jX (eQ (ofNat ((u.getD i 0) + 1000000000 * val r)) (b.length - 1) (by first | assumption | exact kM _ | exact (qO _).1 | exact (qR _).1))) <| wE (uI ((((ofNat ((u.getD i 0) + 1000000000 * val r)).getD b.length 0) * 1000000000) + ((ofNat ((u.getD i 0) + 1000000000 * val r)).getD (b.length - 1) 0))) <| wM <| wM <| wE (oSb (b.length - 1)) <| wE (oXl kP (b.length - 1) (0 : Nat)) <| wE (xT uN) <| wE (nS yV yO (v.getD (b.length - 1) 0)) <| wE (uI ((v.getD (b.length - 1) 0) + 1)) <| wE (oQu (((((ofNat ((u.getD i 0) + 1000000000 * val r)).getD b.length 0) * 1000000000) + ((ofNat ((u.getD i 0) + 1000000000 * val r)).getD (b.length - 1) 0)) / ((v.getD (b.length - 1) 0) + 1))) <| wM <| wZ) ?_
    refine jA <| kx [(10, (vl 152 1 jB (ofNat (val (ofNat ((u.getD i 0) + 1000000000 * val r)) - val (ofNat (val v * (((((ofNat ((u.getD i 0) + 1000000000 * val r)).getD b.length 0) * 1000000000) + ((ofNat ((u.getD i 0) + 1000000000 * val r)).getD (b.length - 1) 0)) / ((v.getD (b.length - 1) 0) + 1))))))))] [] (zM <| zM <| zM <| zE (jX (r_scaled v (((((ofNat ((u.getD i 0) + 1000000000 * val r)).getD b.length 0) * 1000000000) + ((ofNat ((u.getD i 0) + 1000000000 * val r)).getD (b.length - 1) 0)) / ((v.getD (b.length - 1) 0) + 1)) hvd (by omega) (by omega))) <| zE (jX (r_minus (ofNat ((u.getD i 0) + 1000000000 * val r)) (ofNat (val v * (((((ofNat ((u.getD i 0) + 1000000000 * val r)).getD b.length 0) * 1000000000) + ((ofNat ((u.getD i 0) + 1000000000 * val r)).getD (b.length - 1) 0)) / ((v.getD (b.length - 1) 0) + 1)))) (kM _) (kM _) (by rw [kL, kL, Nat.mul_comm]; exact hg1) (by omega))) <| zM <| zZ) ?_
    refine jA <| jE <| uZ (α := Nat × List Nat) (fun (G, r2) => ⟨[(0, (vl 152 1 jB u)), (1, (vl 152 1 jB v)), (6, (kE b.length)), (9, (yY (mU b))), (10, (vl 152 1 jB r2)), (11, (.own 0 152 1 ((u.length - b.length) + 1))), (12, (kE i)), (13, (yY G))], [(0, some (bm jB q))]⟩) (fun (G, r2) => gB r2 ∧ val v * G + val r2 = (u.getD i 0 + 1000000000 * val r)) (fun (G, r2) => val r2) ((((ofNat (u.getD i 0 + 1000000000 * val r)).getD b.length 0 * 1000000000 + (ofNat (u.getD i 0 + 1000000000 * val r)).getD (b.length - 1) 0) / (v.getD (b.length - 1) 0 + 1)), ofNat (val (ofNat (u.getD i 0 + 1000000000 * val r)) - val (ofNat (val v * (((ofNat (u.getD i 0 + 1000000000 * val r)).getD b.length 0 * 1000000000 + (ofNat (u.getD i 0 + 1000000000 * val r)).getD (b.length - 1) 0) / (v.getD (b.length - 1) 0 + 1)))))) wk ⟨qO _, by rw [kL, kL, kL]; rw [Nat.mul_comm] at hg1; omega⟩ ?_
    rintro ⟨G, r2⟩ ⟨hr2, hr2v⟩
    have hr2l : r2.length ≤ b.length + 1 := by have h9 := xU (show val r2 ≤ (u.getD i 0 + 1000000000 * val r) by omega); rw [← can_eq hr2] at h9; omega
    refine jA <| jA <| kx [(109, (vb (decide (0 ≤ (xB ((val r2 : Nat) : Int) ((val v : Nat) : Int))))))] [] (zM <| zM <| zE (jX (r_size r2 v hr2 hcv (by omega) (by omega))) <| zE oGe <| zZ) ?_
    refine jS rfl (fun h4 => ?_) (fun h4 => ?_)
    ·replace h4 := of_decide_eq_true h4
     have hge := aF h4
     have hG := rquo_lt hr2v hW
     have hr2l : r2.length ≤ b.length + 1 := by have h9 := xU (show val r2 ≤ (u.getD i 0 + 1000000000 * val r) by omega); rw [← can_eq hr2] at h9; omega
     refine jD <| jE <| jA <| kx [(10, (vl 152 1 jB (ofNat (val r2 - val v))))] [] (zM <| zM <| zE (jX (r_minus r2 v hr2.1 hvd (by omega) (by omega))) <| zM <| zZ) ?_
     refine kx [(13, (yY (G + 1)))] [] (zM <| zE (uI (G + 1)) <| zM <| zZ) ?_
     exact ⟨(G + 1, ofNat (val r2 - val v)), wk, (by have hge := aF h4; exact ⟨qO _, by rw [kL, Nat.mul_add, Nat.mul_one]; omega⟩), (by have hge := aF h4; dsimp only; rw [kL]; omega)⟩
    ·replace h4 := of_decide_eq_false h4
     have hG := rquo_lt hr2v hW
     have hlt : val r2 < val v := by have h9 := cmpI_lt h4; omega
     refine kK <| kx [] [(0, some (bm jB (q.set i G)))] (zM <| zM <| zM <| zE (nS gR gH G) <| zE (oXo kP i) <| zT (oSp uN i G) <| zZ) ?_
     refine kx [(12, (vi (((i : Nat) : Int) - 1)))] [] (zM <| zE (dJ (((i : Nat) : Int) - 1)) <| zM <| zZ) ?_
     exact ⟨(i, r2, q.set i G), wk, ⟨hr2, by omega, by simpa using hql, hqd.set _ hG, hlt, rround (by omega) (by rw [hr2v]; exact hrs)⟩, (by first | omega | (dsimp only; omega))⟩
   ·replace h3 := of_decide_eq_false h3
    obtain rfl : k = 0 := by omega
    obtain ⟨e1, e2⟩ := scl_div (a := a) (b := b) (q := q) (u := r) hdb hb0 (by rw [List.drop_zero, List.drop_zero] at hv; rw [nR, Nat.one_mul, List.drop_zero, ← huv, ← hvv, hv]; omega) (by rw [List.drop_zero, ← hvv]; exact hr)
    have hrl : r.length ≤ b.length := by have h9 := xU (Nat.le_of_lt hr); rwa [← can_eq hrc, ← can_eq hcv, hvl] at h9
    refine kK <| jA <| kx [(14, (vl 152 1 jB (ofNat (val r / (mU b)))))] [] (zM <| zM <| zE (jX (r_short r (mU b) hrc.1 (by omega) (by omega) (by omega))) <| zM <| zE uG <| zE uG <| zM <| zM <| zZ) ?_
    refine jA <| kV (xX (t := 11) (k := 0) (es := List.map jB q) rfl rfl (xL _ _ (fun _ => rfl)) (xQ _ _ hql) (zP _ _ (fun _ => rfl) hql)) ?_
    refine kx [(4, (vl 152 1 jB (ofNat (val q)))), (5, (vl 152 1 jB (ofNat (val r / (mU b)))))] [] (zM <| zE (jX (hC false q hqd (by omega))) <| zE (oF1 eV yU) <| zM <| zM <| zM <| zZ) ?_
    refine jH ⟨_, (.tmp (d := (.sl 152 1 (List.map jB (ofNat (val q))))) rfl (.tmp (d := (.sl 152 1 (List.map jB (ofNat (val r / (mU b)))))) rfl .nil)), ?_⟩
    rw [← e1, ← e2]; rfl
end Go.Proofs.YtbecgnplakngdaaGreat
namespace Go.Proofs.YtbecgnplakngdaaGreat
open Go.Fid
set_option maxRecDepth 4000
set_option linter.unusedVariables false
set_option linter.unusedSimpArgs false
theorem cb109 : callB Tryz.prog 109 = true := by kernel_rfl
theorem cb110 : callB Tryz.prog 110 = true := by kernel_rfl
theorem cb136 : callB Tryz.prog 136 = true := by kernel_rfl
theorem r_gcd (x : jG) (y : jG) (hx : x.gs.length ≤ 1099511627776) (hy : y.gs.length ≤ 1099511627776) : kD Tryz.prog 110 [(jU x), (jU y)] (jU (kN ((Int.gcd (kA x) (kA y) : Nat) : Int))) := by
 have hvx := cP x
 have hvy := cP y
 refine jK Tryz.func110 rfl cb110 rfl ?_
 show uY _ _ _ _ ⟨[(0, (.d (jU x))), (1, (.d (jU y)))], []⟩
 refine jA <| kx [(2, (.ref 0 0)), (3, (.ref 1 0)), (4, (.ref 2 0))] [(0, some (bx (jU x))), (1, some (bx (jU y))), (2, some (bx (jU (jG.mk false []))))] (zN (vN 0) <| zN (vN 1) <| zN (qP 2 gL gM) <| zZ) ?_
 refine jA <| kd [(5, (vl 152 1 jB (ofNat (Int.natAbs (kA x))))), (6, (vl 152 1 jB (ofNat (Int.natAbs (kA y)))))] [] mo (wR (jZ kF) <| wE (jX (cL x (by omega))) <| wE (oF1 eV yU) <| wR (jZ kF) <| wE (jX (cL y (by omega))) <| wE (oF1 eV yU) <| wM <| wM <| wZ) ?_
 refine jA <| jE <| uZ (α := List Nat × List Nat) (fun (a, b) => ⟨[(4, (.ref 2 0)), (5, (vl 152 1 jB a)), (6, (vl 152 1 jB b))], [(2, some (bx (jU (jG.mk false []))))]⟩) (fun (a, b) => gB a ∧ gB b ∧ a.length ≤ 1099511627776 ∧ b.length ≤ 1099511627776 ∧ Nat.gcd (val a) (val b) = Int.gcd (kA x) (kA y)) (fun (a, b) => val b) ((ofNat (Int.natAbs (kA x))), (ofNat (Int.natAbs (kA y)))) wk ⟨qO _, qO _, by omega, by omega, by rw [kL, kL]; rfl⟩ ?_
 rintro ⟨a, b⟩ ⟨ha, hb, hla, hlb, hg⟩
 refine jA <| jA <| kx [(29, (vb (decide (0 < ((b.length : Nat) : Int)) && (decide (2 < ((a.length : Nat) : Int)) || decide (2 < ((b.length : Nat) : Int))))))] [] ?_ ?_
 ·refine zM <| zE (nX kP) <| zE hM <| zE (oV (vb (decide (0 < ((b.length : Nat) : Int)))) (vX (by kernel_rfl))) <| ?_
  rcases hb1 : (decide (0 < ((b.length : Nat) : Int))) with _ | _
  ·replace hb1 := of_decide_eq_false hb1
   exact zK <| zK <| zK <| zK <| zK <| zK <| zK <| zK <| zE mV <| zZ
  ·replace hb1 := of_decide_eq_true hb1
   refine zM <| zE (nX kP) <| zE hM <| zE (oV (vb (decide (2 < ((a.length : Nat) : Int)))) (vX (by kernel_rfl))) <| ?_
   rcases hb2 : (decide (2 < ((a.length : Nat) : Int))) with _ | _
   ·replace hb2 := of_decide_eq_false hb2
    exact zM <| zE (nX kP) <| zE hM <| zE oPo <| zE oPa <| zZ
   ·replace hb2 := of_decide_eq_true hb2
    exact zK <| zK <| zK <| zE mX <| zE mX <| zZ
 refine jS rfl (fun h3 => ?_) (fun h3 => ?_)
 ·have hbl : 0 < b.length := by rw [Bool.and_eq_true, decide_eq_true_eq] at h3; omega
  have hb0 := mD hb hbl
  refine jD <| jE <| jA <| kx [(8, (vl 152 1 jB (ofNat (val a % val b))))] [] (zM <| zM <| zE (jX (r_parts a b ha hb (by omega) (by omega) (by omega))) <| zM <| zE uG <| zE uG <| zM <| zM <| zZ) ?_
  refine kx [(5, (vl 152 1 jB b)), (6, (vl 152 1 jB (ofNat (val a % val b))))] [] (zM <| zM <| zM <| zM <| zZ) ?_
  exact ⟨(b, ofNat (val a % val b)), wk, ⟨hb, qO _, hlb, Nat.le_trans (len_rem a ha _) hla, by rw [kL, ← hg, Nat.gcd_comm, ← Nat.gcd_rec, Nat.gcd_comm]⟩, (by dsimp only; rw [kL]; exact Nat.mod_lt _ hb0)⟩
 ·have hex := h3
  refine kK <| jA <| jA <| kx [(40, (vb (((b.length : Nat) : Int) == 0)))] [] (zM <| zE (nX kP) <| zE oEq <| zZ) ?_
  refine jS (b := (((b.length : Nat) : Int) == 0)) rfl (fun h4 => ?_) (fun h4 => ?_)
  ·replace h4 := eq_of_beq h4
   have hb1 : b = [] := List.eq_nil_of_length_eq_zero (by omega)
   rw [hb1, val_nil, Nat.gcd_zero_right] at hg
   refine jA <| kx [] [(2, some (bx (jU (xS false (val a)))))] (zM <| zE (jX (hC false a ha.1 (by omega))) <| zT (kU kF) <| zZ) ?_
   refine jH ⟨_, (kZ (cs := (bx (jU (xS false (val a))))) (d := (jU (xS false (val a)))) rfl rfl kF rfl rfl .nil), ?_⟩
   rw [← hg, mkI_false]; rfl
  ·replace h4 := ne_of_beq_false h4
   have hl2 : a.length ≤ 2 ∧ b.length ≤ 2 := by simp only [Bool.and_eq_false_iff, Bool.or_eq_false_iff, decide_eq_false_iff_not] at hex; omega
   refine jD <| jA <| kx [(9, (yY (val a))), (10, (yY (val b)))] [] (zM <| zE (jX (r_pair a ha.1 (by omega))) <| zM <| zE (jX (r_pair b hb.1 (by omega))) <| zM <| zM <| zZ) ?_
   refine jA <| jE <| uZ (α := Nat × Nat) (fun (m, n) => ⟨[(4, (.ref 2 0)), (9, (yY m)), (10, (yY n))], [(2, some (bx (jU (jG.mk false []))))]⟩) (fun (m, n) => m < 1000000000000000000 ∧ n < 1000000000000000000 ∧ Nat.gcd m n = Int.gcd (kA x) (kA y)) (fun (m, n) => n) (val a, val b) wk ⟨val_len2 ha.1 hl2.1, val_len2 hb.1 hl2.2, hg⟩ ?_
   rintro ⟨m, n⟩ ⟨hm, hn, hg2⟩
   refine jA <| jA <| kx [(48, (vb (decide (0 < ((n : Nat) : Int)))))] [] (zM <| zE hM <| zZ) ?_
   refine jS (b := decide (0 < ((n : Nat) : Int))) rfl (fun h5 => ?_) (fun h5 => ?_)
   ·replace h5 := of_decide_eq_true h5
    refine jD <| jE <| kd [(9, (yY n)), (10, (yY (m % n)))] [] mo (wM <| wM <| wM <| wE (oRe (m % n)) <| wM <| wM <| wZ) ?_
    exact ⟨(n, m % n), wk, ⟨hn, Nat.lt_of_le_of_lt (Nat.mod_le _ _) hm, by rw [← hg2, Nat.gcd_comm, ← Nat.gcd_rec, Nat.gcd_comm]⟩, (by dsimp only; exact Nat.mod_lt _ (by omega))⟩
   ·replace h5 := of_decide_eq_false h5
    obtain rfl : n = 0 := by omega
    rw [Nat.gcd_zero_right] at hg2
    have hmv : val [m % 1000000000, m / 1000000000] = m := by simp only [val]; omega
    refine kK <| jA <| kx [] [(2, some (bx (jU (xS false (val [(m % 1000000000), (m / 1000000000)])))))] (zM <| zE (oRe (m % 1000000000)) <| zE (nS gR gH (m % 1000000000)) <| zM <| zE (oQu (m / 1000000000)) <| zE (nS gR gH (m / 1000000000)) <| zE (nM kP xE yS) <| zE (jX (hC false [(m % 1000000000), (m / 1000000000)] (yT.2 ⟨Nat.mod_lt _ (by decide), yT.2 ⟨by omega, gJ⟩⟩) (by simp))) <| zT (kU kF) <| zZ) ?_
    refine jH ⟨_, (kZ (cs := (bx (jU (xS false (val [(m % 1000000000), (m / 1000000000)]))))) (d := (jU (xS false (val [(m % 1000000000), (m / 1000000000)])))) rfl rfl kF rfl rfl .nil), ?_⟩
    rw [← hg2, hmv, mkI_false]; rfl
theorem r_compare (x : jG) (y : jG) (hx : x.gs.length ≤ 274877906944) (hy : y.gs.length ≤ 274877906944) : kD Tryz.prog 109 [(jU x), (jU y)] (.val (.int .i64 ((xB (kA x) (kA y))))) := by
 have hv := gs_sub x y
 refine jK Tryz.func109 rfl cb109 rfl ?_
 show uY _ _ _ _ ⟨[(0, (.d (jU x))), (1, (.d (jU y)))], []⟩
 refine jA <| kx [(2, (.ref 0 0)), (3, (.ref 1 0))] [(0, some (bx (jU x))), (1, some (bx (jU y)))] (zN (vN 0) <| zN (vN 1) <| zM <| zZ) ?_
 refine jA <| kx [(4, (vi (uU (kA (kN (kA x - kA y))))))] [] (zR (jZ kF) <| zR (jZ kF) <| zE (jX (r_sub x y (by omega) (by omega))) <| zE (jX (r_sign (kN (kA x - kA y)) (by omega))) <| zM <| zZ) ?_
 refine jH ⟨_, (.tmp (d := (.val (.int .i64 ((uU (kA (kN (kA x - kA y)))))))) rfl .nil), ?_⟩
 rw [mO, signI_sub]; rfl
theorem r_divide (x : jG) (y : jG) (hx : x.gs.length ≤ 274877906944) (hy : y.gs.length ≤ 274877906944) (hy0 : kA y ≠ 0) : kD Tryz.prog 136 [(jU x), (jU y)] (.tup [(jU (kN ((kA x).fdiv (kA y)))), (jU (kN ((kA x).fmod (kA y)))), (.val (.int .i64 (0)))]) := by
 have hvx := cP x
 have hvy := cP y
 have hmx := gs_val x
 have hmy := gs_val y
 have hy1 : 0 < (kA y).natAbs := by omega
 have hyl := cO hy1
 have hql : (ofNat (val (ofNat (Int.natAbs (kA x))) / val (ofNat (Int.natAbs (kA y))))).length ≤ 274877906944 := by have := len_quo (ofNat (Int.natAbs (kA x))) (qO _) (val (ofNat (Int.natAbs (kA y)))); omega
 have hqg : (xS (!((kN (kA x)).neg == (kN (kA y)).neg)) (val (ofNat (val (ofNat (Int.natAbs (kA x))) / val (ofNat (Int.natAbs (kA y))))))).gs.length ≤ 274877906944 := by show (ofNat (val (ofNat (val (ofNat (Int.natAbs (kA x))) / val (ofNat (Int.natAbs (kA y))))))).length ≤ _; rw [kL]; exact hql
 have hone : (kN 1).gs.length ≤ 1 := (nD (z := 1) (by decide)).l
 have hqs := gs_sub (xS (!((kN (kA x)).neg == (kN (kA y)).neg)) (val (ofNat (val (ofNat (Int.natAbs (kA x))) / val (ofNat (Int.natAbs (kA y))))))) (kN 1)
 refine jK Tryz.func136 rfl cb136 rfl ?_
 show uY _ _ _ _ ⟨[(0, (.d (jU x))), (1, (.d (jU y)))], []⟩
 refine jA <| kx [(2, (.ref 0 0)), (3, (.ref 1 0)), (4, (.ref 2 0)), (5, (.ref 3 0))] [(0, some (bx (jU x))), (1, some (bx (jU y))), (2, some (bx (jU (jG.mk false [])))), (3, some (bx (jU (jG.mk false []))))] (zN (vN 0) <| zN (vN 1) <| zN (qP 2 gL gM) <| zN (qP 3 gL gM) <| zM <| zZ) ?_
 refine jA <| kd [] [(0, some (bx (jU (kN (kA x))))), (1, some (bx (jU (kN (kA y)))))] mo (wR (jZ kF) <| wE (jX (cL x (by omega))) <| wR (jZ kF) <| wE (jX (cL y (by omega))) <| wT (kU kF) <| wT (kU kF) <| wZ) ?_
 refine jA <| jA <| kx [(17, (vb ((((ofNat (Int.natAbs (kA y))).length : Nat) : Int) == 0)))] [] (zE (kO zJ) <| zR (uM yU) <| zE (nX kP (L := (ofNat (Int.natAbs (kA y))))) <| zE oEq <| zZ) ?_
 refine jS rfl (fun h1 => ?_) (fun h1 => ?_)
 ·replace h1 := eq_of_beq h1
  exact absurd h1 (by omega)
 ·replace h1 := ne_of_beq_false h1
  refine jD <| jA <| kx [(7, (vl 152 1 jB (ofNat (val (ofNat (Int.natAbs (kA x))) / val (ofNat (Int.natAbs (kA y))))))), (8, (vl 152 1 jB (ofNat (val (ofNat (Int.natAbs (kA x))) % val (ofNat (Int.natAbs (kA y)))))))] [] (zE (kO zJ) <| zR (uM yU) <| zE (kO zJ) <| zR (uM yU) <| zE (jX (r_parts (ofNat (Int.natAbs (kA x))) (ofNat (Int.natAbs (kA y))) (by first | assumption | exact qO _ | exact qR _) (by first | assumption | exact qO _ | exact qR _) (by omega) (by omega) (by omega))) <| zM <| zE uG <| zE uG <| zM <| zM <| zZ) ?_
  refine jA <| kx [(9, (.ref 4 0))] [(4, some (bx (jU (xS (!(((kN (kA x)).neg) == ((kN (kA y)).neg))) (val (ofNat (val (ofNat (Int.natAbs (kA x))) / val (ofNat (Int.natAbs (kA y))))))))))] (zE (kO xM) <| zR (uM sh4) <| zE (kO xM) <| zR (uM sh4) <| zE (oNb bo4) <| zM <| zE (jX (hC (!(((kN (kA x)).neg) == ((kN (kA y)).neg))) (ofNat (val (ofNat (Int.natAbs (kA x))) / val (ofNat (Int.natAbs (kA y))))) (kM _) (by omega))) <| zN (qP 4 gL gM) <| zT (kU kF) <| zZ) ?_
  refine jA <| jA <| kx [(44, (vb (!(((kN (kA x)).neg) == ((kN (kA y)).neg)) && decide (0 < (((ofNat (val (ofNat (Int.natAbs (kA x))) % val (ofNat (Int.natAbs (kA y))))).length : Nat) : Int)))))] [] ?_ ?_
  ·refine zE (kO xM) <| zR (uM sh4) <| zE (kO xM) <| zR (uM sh4) <| zE (oNb bo4) <| zE (oV (vb (!(((kN (kA x)).neg) == ((kN (kA y)).neg)))) (vX (by kernel_rfl))) <| ?_
   rcases hb2 : (!(((kN (kA x)).neg) == ((kN (kA y)).neg))) with _ | _
   ·exact zK <| zK <| zK <| zE mV <| zZ
   ·exact zM <| zE (nX kP (L := (ofNat (val (ofNat (Int.natAbs (kA x))) % val (ofNat (Int.natAbs (kA y))))))) <| zE hM <| zE oPa <| zZ
  refine jS rfl (fun h3 => ?_) (fun h3 => ?_)
  ·have hqm := gs_mul (kN (kA (xS (!((kN (kA x)).neg == (kN (kA y)).neg)) (val (ofNat (val (ofNat (Int.natAbs (kA x))) / val (ofNat (Int.natAbs (kA y))))))) - kA (kN 1))) (kN (kA y))
   have hk := r_div_other (X := kA x) (Y := kA y) hy1 (by rw [Bool.and_eq_true, Bool.not_eq_true', beq_eq_false_iff_ne, decide_eq_true_eq] at h3; exact h3)
   refine kd [] [(4, some (bx (jU (kN (kA (xS (!(((kN (kA x)).neg) == ((kN (kA y)).neg))) (val (ofNat (val (ofNat (Int.natAbs (kA x))) / val (ofNat (Int.natAbs (kA y))))))) - kA (kN 1))))))] mo (wR (jZ kF) <| wE (jX (r_of 1 (by omega) (by omega))) <| wE (jX (r_sub (xS (!(((kN (kA x)).neg) == ((kN (kA y)).neg))) (val (ofNat (val (ofNat (Int.natAbs (kA x))) / val (ofNat (Int.natAbs (kA y))))))) (kN 1) (by omega) (by omega))) <| wT (kU kF) <| wZ) ?_
   refine jA <| kd [(6, (kE 0))] [(2, some (bx (jU (kN (kA (xS (!(((kN (kA x)).neg) == ((kN (kA y)).neg))) (val (ofNat (val (ofNat (Int.natAbs (kA x))) / val (ofNat (Int.natAbs (kA y))))))) - kA (kN 1)))))), (3, some (bx (jU (kN (kA (kN (kA x)) - kA (kN (kA (kN (kA (xS (!(((kN (kA x)).neg) == ((kN (kA y)).neg))) (val (ofNat (val (ofNat (Int.natAbs (kA x))) / val (ofNat (Int.natAbs (kA y))))))) - kA (kN 1))) * kA (kN (kA y)))))))))] mo (wR (jZ kF) <| wR (jZ kF) <| wR (jZ kF) <| wR (jZ kF) <| wE (jX (r_mul (kN (kA (xS (!(((kN (kA x)).neg) == ((kN (kA y)).neg))) (val (ofNat (val (ofNat (Int.natAbs (kA x))) / val (ofNat (Int.natAbs (kA y))))))) - kA (kN 1))) (kN (kA y)) (by omega) (by omega))) <| wE (jX (r_sub (kN (kA x)) (kN (kA (kN (kA (xS (!(((kN (kA x)).neg) == ((kN (kA y)).neg))) (val (ofNat (val (ofNat (Int.natAbs (kA x))) / val (ofNat (Int.natAbs (kA y))))))) - kA (kN 1))) * kA (kN (kA y)))) (by omega) (by omega))) <| wT (kU kF) <| wT (kU kF) <| wM <| wZ) ?_
   refine jH ⟨_, (kZ (cs := (bx (jU (kN (kA (xS (!(((kN (kA x)).neg) == ((kN (kA y)).neg))) (val (ofNat (val (ofNat (Int.natAbs (kA x))) / val (ofNat (Int.natAbs (kA y))))))) - kA (kN 1)))))) (d := (jU (kN (kA (xS (!(((kN (kA x)).neg) == ((kN (kA y)).neg))) (val (ofNat (val (ofNat (Int.natAbs (kA x))) / val (ofNat (Int.natAbs (kA y))))))) - kA (kN 1))))) rfl rfl kF rfl rfl (kZ (cs := (bx (jU (kN (kA (kN (kA x)) - kA (kN (kA (kN (kA (xS (!(((kN (kA x)).neg) == ((kN (kA y)).neg))) (val (ofNat (val (ofNat (Int.natAbs (kA x))) / val (ofNat (Int.natAbs (kA y))))))) - kA (kN 1))) * kA (kN (kA y))))))))) (d := (jU (kN (kA (kN (kA x)) - kA (kN (kA (kN (kA (xS (!(((kN (kA x)).neg) == ((kN (kA y)).neg))) (val (ofNat (val (ofNat (Int.natAbs (kA x))) / val (ofNat (Int.natAbs (kA y))))))) - kA (kN 1))) * kA (kN (kA y)))))))) rfl rfl kF rfl rfl (.tmp (d := (.val (.int .i64 (0)))) rfl .nil))), ?_⟩
   rw [hk, r_rem_eq]; rfl
  ·have hqm := gs_mul (xS (!((kN (kA x)).neg == (kN (kA y)).neg)) (val (ofNat (val (ofNat (Int.natAbs (kA x))) / val (ofNat (Int.natAbs (kA y))))))) (kN (kA y))
   have hk := r_div_same (X := kA x) (Y := kA y) hy1 (by rw [Bool.and_eq_false_iff, Bool.not_eq_false', beq_iff_eq, decide_eq_false_iff_not] at h3; exact h3)
   refine jD <| jA <| kd [(6, (kE 0))] [(2, some (bx (jU (xS (!(((kN (kA x)).neg) == ((kN (kA y)).neg))) (val (ofNat (val (ofNat (Int.natAbs (kA x))) / val (ofNat (Int.natAbs (kA y)))))))))), (3, some (bx (jU (kN (kA (kN (kA x)) - kA (kN (kA (xS (!(((kN (kA x)).neg) == ((kN (kA y)).neg))) (val (ofNat (val (ofNat (Int.natAbs (kA x))) / val (ofNat (Int.natAbs (kA y))))))) * kA (kN (kA y)))))))))] mo (wR (jZ kF) <| wR (jZ kF) <| wR (jZ kF) <| wR (jZ kF) <| wE (jX (r_mul (xS (!(((kN (kA x)).neg) == ((kN (kA y)).neg))) (val (ofNat (val (ofNat (Int.natAbs (kA x))) / val (ofNat (Int.natAbs (kA y))))))) (kN (kA y)) (by omega) (by omega))) <| wE (jX (r_sub (kN (kA x)) (kN (kA (xS (!(((kN (kA x)).neg) == ((kN (kA y)).neg))) (val (ofNat (val (ofNat (Int.natAbs (kA x))) / val (ofNat (Int.natAbs (kA y))))))) * kA (kN (kA y)))) (by omega) (by omega))) <| wT (kU kF) <| wT (kU kF) <| wM <| wZ) ?_
   refine jH ⟨_, (kZ (cs := (bx (jU (xS (!(((kN (kA x)).neg) == ((kN (kA y)).neg))) (val (ofNat (val (ofNat (Int.natAbs (kA x))) / val (ofNat (Int.natAbs (kA y)))))))))) (d := (jU (xS (!(((kN (kA x)).neg) == ((kN (kA y)).neg))) (val (ofNat (val (ofNat (Int.natAbs (kA x))) / val (ofNat (Int.natAbs (kA y))))))))) rfl rfl kF rfl rfl (kZ (cs := (bx (jU (kN (kA (kN (kA x)) - kA (kN (kA (xS (!(((kN (kA x)).neg) == ((kN (kA y)).neg))) (val (ofNat (val (ofNat (Int.natAbs (kA x))) / val (ofNat (Int.natAbs (kA y))))))) * kA (kN (kA y))))))))) (d := (jU (kN (kA (kN (kA x)) - kA (kN (kA (xS (!(((kN (kA x)).neg) == ((kN (kA y)).neg))) (val (ofNat (val (ofNat (Int.natAbs (kA x))) / val (ofNat (Int.natAbs (kA y))))))) * kA (kN (kA y)))))))) rfl rfl kF rfl rfl (.tmp (d := (.val (.int .i64 (0)))) rfl .nil))), ?_⟩
   rw [hk, r_rem_eq]; rfl
end Go.Proofs.YtbecgnplakngdaaGreat
namespace Go.Proofs.YtbecgnplakngdaaGreat
open Go.Fid
set_option maxRecDepth 4000
set_option linter.unusedVariables false
set_option linter.unusedSimpArgs false
theorem s_neg {x : jG} {a : Int} {m : Nat} (hx : hH x a m) (hm : m ≤ 274877906944) : kD Tryz.prog 177 [(jU x)] (jU (kN (-a))) := by
 obtain ⟨rfl, hx'⟩ := hx
 exact t_neg x (by omega)
theorem s_sign {x : jG} {a : Int} {m : Nat} (hx : hH x a m) (hm : m ≤ 274877906944) : kD Tryz.prog 138 [(jU x)] (.val (.int .i64 (uU a))) := by
 obtain ⟨rfl, hx'⟩ := hx
 exact t_sign x (by omega)
theorem s_add {x y : jG} {a b : Int} {m n : Nat} (hx : hH x a m) (hy : hH y b n) (hm : m ≤ 274877906944) (hn : n ≤ 274877906944) : kD Tryz.prog 188 [(jU x), (jU y)] (jU (kN (a + b))) := by
 obtain ⟨rfl, hx'⟩ := hx; obtain ⟨rfl, hy'⟩ := hy
 exact t_add x y (by omega) (by omega)
theorem s_mul {x y : jG} {a b : Int} {m n : Nat} (hx : hH x a m) (hy : hH y b n) (hm : m ≤ 274877906944) (hn : n ≤ 274877906944) : kD Tryz.prog 140 [(jU x), (jU y)] (jU (kN (a * b))) := by
 obtain ⟨rfl, hx'⟩ := hx; obtain ⟨rfl, hy'⟩ := hy
 exact t_mul x y (by omega) (by omega)
theorem s_compare {x y : jG} {a b : Int} {m n : Nat} (hx : hH x a m) (hy : hH y b n) (hm : m ≤ 274877906944) (hn : n ≤ 274877906944) : kD Tryz.prog 144 [(jU x), (jU y)] (.val (.int .i64 (xB a b))) := by
 obtain ⟨rfl, hx'⟩ := hx; obtain ⟨rfl, hy'⟩ := hy
 exact t_compareI x y (by omega) (by omega)
theorem s_gcd {x y : jG} {a b : Int} {m n : Nat} (hx : hH x a m) (hy : hH y b n) (hm : m ≤ 274877906944) (hn : n ≤ 274877906944) : kD Tryz.prog 145 [(jU x), (jU y)] (jU (kN ((Int.gcd a b : Nat) : Int))) := by
 obtain ⟨rfl, hx'⟩ := hx; obtain ⟨rfl, hy'⟩ := hy
 exact t_gcdI x y (by omega) (by omega)
theorem s_divide {x y : jG} {a b : Int} {m n : Nat} (hx : hH x a m) (hy : hH y b n) (hm : m ≤ 274877906944) (hn : n ≤ 274877906944) (hb : b ≠ 0) : kD Tryz.prog 151 [(jU x), (jU y)] (.tup [(jU (kN (a.fdiv b))), (jU (kN (a.fmod b))), (.val (.int .i64 0))]) := by
 obtain ⟨rfl, hx'⟩ := hx; obtain ⟨rfl, hy'⟩ := hy
 exact t_divideI x y (by omega) (by omega) hb
theorem rs_neg {x : jG} {a : Int} {m : Nat} (hx : hH x a m) (hm : m ≤ 274877906944) : kD Tryz.prog 134 [(jU x)] (jU (kN (-a))) := by
 obtain ⟨rfl, hx'⟩ := hx
 exact r_neg x (by omega)
theorem rs_sign {x : jG} {a : Int} {m : Nat} (hx : hH x a m) (hm : m ≤ 274877906944) : kD Tryz.prog 84 [(jU x)] (.val (.int .i64 (uU a))) := by
 obtain ⟨rfl, hx'⟩ := hx
 exact r_sign x (by omega)
theorem rs_add {x y : jG} {a b : Int} {m n : Nat} (hx : hH x a m) (hy : hH y b n) (hm : m ≤ 274877906944) (hn : n ≤ 274877906944) : kD Tryz.prog 135 [(jU x), (jU y)] (jU (kN (a + b))) := by
 obtain ⟨rfl, hx'⟩ := hx; obtain ⟨rfl, hy'⟩ := hy
 exact r_add x y (by omega) (by omega)
theorem rs_mul {x y : jG} {a b : Int} {m n : Nat} (hx : hH x a m) (hy : hH y b n) (hm : m ≤ 274877906944) (hn : n ≤ 274877906944) : kD Tryz.prog 103 [(jU x), (jU y)] (jU (kN (a * b))) := by
 obtain ⟨rfl, hx'⟩ := hx; obtain ⟨rfl, hy'⟩ := hy
 exact r_mul x y (by omega) (by omega)
theorem rs_compare {x y : jG} {a b : Int} {m n : Nat} (hx : hH x a m) (hy : hH y b n) (hm : m ≤ 274877906944) (hn : n ≤ 274877906944) : kD Tryz.prog 109 [(jU x), (jU y)] (.val (.int .i64 (xB a b))) := by
 obtain ⟨rfl, hx'⟩ := hx; obtain ⟨rfl, hy'⟩ := hy
 exact r_compare x y (by omega) (by omega)
theorem rs_gcd {x y : jG} {a b : Int} {m n : Nat} (hx : hH x a m) (hy : hH y b n) (hm : m ≤ 274877906944) (hn : n ≤ 274877906944) : kD Tryz.prog 110 [(jU x), (jU y)] (jU (kN ((Int.gcd a b : Nat) : Int))) := by
 obtain ⟨rfl, hx'⟩ := hx; obtain ⟨rfl, hy'⟩ := hy
 exact r_gcd x y (by omega) (by omega)
theorem rs_divide {x y : jG} {a b : Int} {m n : Nat} (hx : hH x a m) (hy : hH y b n) (hm : m ≤ 274877906944) (hn : n ≤ 274877906944) (hb : b ≠ 0) : kD Tryz.prog 136 [(jU x), (jU y)] (.tup [(jU (kN (a.fdiv b))), (jU (kN (a.fmod b))), (.val (.int .i64 0))]) := by
 obtain ⟨rfl, hx'⟩ := hx; obtain ⟨rfl, hy'⟩ := hy
 exact r_divide x y (by omega) (by omega) hb
end Go.Proofs.YtbecgnplakngdaaGreat
namespace Go.Proofs.YtbecgnplakngdaaGreat
open Go.Fid
set_option maxRecDepth 4000
set_option linter.unusedVariables false
set_option linter.unusedSimpArgs false
theorem cb97 : callB Tryz.prog 97 = true := by kernel_rfl
theorem cb102 : callB Tryz.prog 102 = true := by kernel_rfl
theorem cb104 : callB Tryz.prog 104 = true := by kernel_rfl
theorem cb105 : callB Tryz.prog 105 = true := by kernel_rfl
theorem cb121 : callB Tryz.prog 121 = true := by kernel_rfl
theorem cb130 : callB Tryz.prog 130 = true := by kernel_rfl
theorem cb137 : callB Tryz.prog 137 = true := by kernel_rfl
theorem cb139 : callB Tryz.prog 139 = true := by kernel_rfl
theorem cb146 : callB Tryz.prog 146 = true := by kernel_rfl
theorem cb170 : callB Tryz.prog 170 = true := by kernel_rfl
theorem cb176 : callB Tryz.prog 176 = true := by kernel_rfl
theorem yD : xD Tryz.prog 42 0 = some 0 := by kernel_rfl
theorem yM : xD Tryz.prog 42 1 = some 2 := by kernel_rfl
theorem ft42_0 : aN Tryz.prog 42 0 = some (0, 40) := by kernel_rfl
theorem pl42 : nT Tryz.prog 42 = some [(0, 2), (2, 2)] := by kernel_rfl
theorem jR : qY Tryz.prog 42 = some (true, 4) := by kernel_rfl
theorem qF : xC Tryz.prog 42 = some [.bool false, .slice none 0 0, .bool false, .slice none 0 0] := by kernel_rfl
theorem qQ : nV [.bool false, .slice none 0 0, .bool false, .slice none 0 0] [.val (.bool false), .sl 152 1 [], .val (.bool false), .sl 152 1 []] := by simp [nV, Value.oneCell']
theorem f_reduced (num den : jG) (a b : Int) (dD : hH num a 68719476736) (mF : hH den b 68719476736) (hb : b ≠ 0) : kD Tryz.prog 139 [(jU num), (jU den)] (jM (jC (Rat.divInt a b))) := by
 refine jK Tryz.func139 rfl cb139 rfl ?_
 show uY _ _ _ _ ⟨[(0, (.d (jU num))), (1, (.d (jU den)))], []⟩
 refine jA <| kx [(2, (.ref 0 0)), (3, (.ref 1 0)), (4, (.ref 2 0))] [(0, some (bx (jU num))), (1, some (bx (jU den))), (2, some (bx (jM (jV.mk (jG.mk false []) (jG.mk false [])))))] (zN (vN 0) <| zN (vN 1) <| zN (qP 2 qF qQ) <| zZ) ?_
 refine jA <| jA <| kx [(8, (vb (decide ((uU b) < 0))))] [] (zR (jZ kF) <| zE (jX (s_sign mF (by decide))) <| zE qM <| zZ) ?_
 refine jS (b := decide ((uU b) < 0)) rfl (fun h1 => ?_) (fun h1 => ?_)
 ·replace h1 := of_decide_eq_true h1
  have hlt := signI_lt.1 h1
  have hb2 : -b ≠ 0 := by omega
  refine kd [] [(0, some (bx (jU (kN (-a))))), (1, some (bx (jU (kN (-b)))))] mo (wR (jZ kF) <| wE (jX (s_neg dD (by decide))) <| wR (jZ kF) <| wE (jX (s_neg mF (by decide))) <| wT (kU kF) <| wT (kU kF) <| wZ) ?_
  refine jA <| kx [(5, (.ref 3 0))] [(3, some (bx (jU (kN ((Int.gcd (-a) (-b) : Nat) : Int)))))] (zR (jZ kF) <| zR (jZ kF) <| zE (jX (s_gcd (nQ dD) (nQ mF) (by decide) (by decide))) <| zN (qP 3 gL gM) <| zT (kU kF) <| zZ) ?_
  refine jA <| kx [] [(0, some (bx (jU (kN ((-a).fdiv (((Int.gcd (-a) (-b) : Nat) : Int)))))))] (zR (jZ kF) <| zR (jZ kF) <| zE (jX (s_divide (nQ dD) (gI (k := 68719476736) (nQ dD) (nQ mF) (by decide)) (by decide) (by decide) (gcd_ne (by omega)))) <| zM <| zE uG <| zE uG <| zE uG <| zT (kU kF) <| zZ) ?_
  refine jA <| kx [] [(1, some (bx (jU (kN ((-b).fdiv (((Int.gcd (-a) (-b) : Nat) : Int)))))))] (zR (jZ kF) <| zR (jZ kF) <| zE (jX (s_divide (nQ mF) (gI (k := 68719476736) (nQ dD) (nQ mF) (by decide)) (by decide) (by decide) (gcd_ne (by omega)))) <| zM <| zE uG <| zE uG <| zE uG <| zT (kU kF) <| zZ) ?_
  refine jA <| kx [] [(2, some (bx (jM (jV.mk (kN ((-a).fdiv (((Int.gcd (-a) (-b) : Nat) : Int)))) (kN ((-b).fdiv (((Int.gcd (-a) (-b) : Nat) : Int))))))))] (zR (jZ kF) <| zR (jZ kF) <| zE (oBd pl42 qF qQ) <| zT (kU jR) <| zZ) ?_
  refine jH ⟨_, (kZ (cs := (bx (jM (jV.mk (kN ((-a).fdiv (((Int.gcd (-a) (-b) : Nat) : Int)))) (kN ((-b).fdiv (((Int.gcd (-a) (-b) : Nat) : Int)))))))) (d := (jM (jV.mk (kN ((-a).fdiv (((Int.gcd (-a) (-b) : Nat) : Int)))) (kN ((-b).fdiv (((Int.gcd (-a) (-b) : Nat) : Int))))))) rfl rfl jR rfl rfl .nil), ?_⟩
  rw [red_neg hlt]; rfl
 ·replace h1 := of_decide_eq_false h1
  have hge : ¬ b < 0 := fun hh => h1 (signI_lt.2 hh)
  refine jD <| jA <| kx [(5, (.ref 4 0))] [(4, some (bx (jU (kN ((Int.gcd a b : Nat) : Int)))))] (zR (jZ kF) <| zR (jZ kF) <| zE (jX (s_gcd dD mF (by decide) (by decide))) <| zN (qP 4 gL gM) <| zT (kU kF) <| zZ) ?_
  refine jA <| kx [] [(0, some (bx (jU (kN (a.fdiv (((Int.gcd a b : Nat) : Int)))))))] (zR (jZ kF) <| zR (jZ kF) <| zE (jX (s_divide dD (gI (k := 68719476736) dD mF (by decide)) (by decide) (by decide) (gcd_ne (by omega)))) <| zM <| zE uG <| zE uG <| zE uG <| zT (kU kF) <| zZ) ?_
  refine jA <| kx [] [(1, some (bx (jU (kN (b.fdiv (((Int.gcd a b : Nat) : Int)))))))] (zR (jZ kF) <| zR (jZ kF) <| zE (jX (s_divide mF (gI (k := 68719476736) dD mF (by decide)) (by decide) (by decide) (gcd_ne (by omega)))) <| zM <| zE uG <| zE uG <| zE uG <| zT (kU kF) <| zZ) ?_
  refine jA <| kx [] [(2, some (bx (jM (jV.mk (kN (a.fdiv (((Int.gcd a b : Nat) : Int)))) (kN (b.fdiv (((Int.gcd a b : Nat) : Int))))))))] (zR (jZ kF) <| zR (jZ kF) <| zE (oBd pl42 qF qQ) <| zT (kU jR) <| zZ) ?_
  refine jH ⟨_, (kZ (cs := (bx (jM (jV.mk (kN (a.fdiv (((Int.gcd a b : Nat) : Int)))) (kN (b.fdiv (((Int.gcd a b : Nat) : Int)))))))) (d := (jM (jV.mk (kN (a.fdiv (((Int.gcd a b : Nat) : Int)))) (kN (b.fdiv (((Int.gcd a b : Nat) : Int))))))) rfl rfl jR rfl rfl .nil), ?_⟩
  rw [red_pos hge hb]; rfl
theorem dM (n : Int) (hlo : -9223372036854775808 ≤ n) (hhi : n ≤ 9223372036854775807) : kD Tryz.prog 102 [(.val (.int .i64 (n)))] (jM (jC ((n : Int) : Rat))) := by
 refine jK Tryz.func102 rfl cb102 rfl ?_
 show uY _ _ _ _ ⟨[(0, (vi n))], []⟩
 refine jA <| kx [(2, (.ref 0 0))] [(0, some (bx (jM (jV.mk (jG.mk false []) (jG.mk false [])))))] (zN (qP 0 qF qQ) <| zZ) ?_
 refine jA <| kx [] [(0, some (bx (jM (jV.mk (kN n) (kN 1)))))] (zM <| zE (jX (t_of n (by omega) (by omega))) <| zE (jX (t_of 1 (by decide) (by decide))) <| zE (oBd pl42 qF qQ) <| zT (kU jR) <| zZ) ?_
 refine jH ⟨_, (kZ (cs := (bx (jM (jV.mk (kN n) (kN 1))))) (d := (jM (jV.mk (kN n) (kN 1)))) rfl rfl jR rfl rfl .nil), ?_⟩
 rfl
theorem f_valid (x : jV) (p : Rat) (hx : QOk x p 17179869184) : kD Tryz.prog 104 [(jM x)] (.val (.bool ((xG x)))) := by
 refine jK Tryz.func104 rfl cb104 rfl ?_
 show uY _ _ _ _ ⟨[(0, (.d (jM x)))], []⟩
 refine jA <| kx [(1, (.ref 0 0))] [(0, some (bx (jM x)))] (zN (vN 0) <| zM <| zZ) ?_
 refine jA <| jA <| kx [(18, (vb ((!(vF x.num) || !(vF x.den)) || decide ((uU (kA x.den)) ≤ 0))))] [] ?_ ?_
 ·refine zE (kO yD) <| zR (jZ kF) <| zE (jX (t_valid x.num (Nat.le_trans (yW hx.n1).l (by decide)))) <| zE oNt <| zE (oV (vb (!(vF x.num))) (vX (by kernel_rfl))) <| ?_
  rcases hb1 : (!(vF x.num)) with _ | _
  ·refine zE (kO yM) <| zR (jZ kF) <| zE (jX (t_valid x.den (Nat.le_trans (yW hx.n2).l (by decide)))) <| zE oNt <| zE oPo <| zE (oV (vb (false || !(vF x.den))) (vX (by kernel_rfl))) <| ?_
   rcases hb2 : (false || !(vF x.den)) with _ | _
   ·exact zE (kO yM) <| zR (jZ kF) <| zE (jX (s_sign (yW hx.n2) (by decide))) <| zE oLe <| zE oPo <| zZ
   ·exact zK <| zK <| zK <| zK <| zE mX <| zZ
  ·exact zK <| zK <| zK <| zK <| zE mX <| zM <| zK <| zK <| zK <| zK <| zE mX <| zZ
 refine jS rfl (fun h3 => ?_) (fun h3 => ?_)
 ·refine jA <| kx [(2, (vb false))] [] (zM <| zZ) ?_
  refine jH ⟨_, (.tmp (d := (.val (.bool (false)))) rfl .nil), ?_⟩
  rw [validR_no h3]; rfl
 ·refine jD <| jA <| kx [(2, (vb ((xB (((Int.gcd (kA x.num) (kA x.den) : Nat) : Int)) 1) == 0)))] [] (zE (kO yD) <| zR (jZ kF) <| zE (kO yM) <| zR (jZ kF) <| zE (jX (s_gcd (yW hx.n1) (yW hx.n2) (by decide) (by decide))) <| zE (jX (t_of 1 (by decide) (by decide))) <| zE (jX (s_compare (gI (k := 17179869184) (yW hx.n1) (yW hx.n2) (by decide)) (nD (z := 1) (by decide)) (by decide) (by decide))) <| zE oEq <| zM <| zZ) ?_
  refine jH ⟨_, (.tmp (d := (.val (.bool (((xB (((Int.gcd (kA x.num) (kA x.den) : Nat) : Int)) 1) == 0))))) rfl .nil), ?_⟩
  rw [validR_yes h3]; rfl
theorem f_copied (x : jV) (p : Rat) (hx : QOk x p 17179869184) : kD Tryz.prog 176 [(jM x)] (jM (jV.mk (kN (-(-kA x.num))) (kN (-(-kA x.den))))) := by
 refine jK Tryz.func176 rfl cb176 rfl ?_
 show uY _ _ _ _ ⟨[(0, (.d (jM x)))], []⟩
 refine jA <| kx [(1, (.ref 0 0)), (2, (.ref 1 0))] [(0, some (bx (jM x))), (1, some (bx (jM (jV.mk (jG.mk false []) (jG.mk false [])))))] (zN (vN 0) <| zN (qP 1 qF qQ) <| zZ) ?_
 refine jA <| kd [] [(1, some (bx (jM (jV.mk (kN (-(-(kA x.num)))) (kN (-(-(kA x.den))))))))] mo (wE (kO yD) <| wR (jZ kF) <| wE (jX (s_neg (yW hx.n1) (by decide))) <| wE (jX (s_neg (nQ (yW hx.n1)) (by decide))) <| wE (kO yM) <| wR (jZ kF) <| wE (jX (s_neg (yW hx.n2) (by decide))) <| wE (jX (s_neg (nQ (yW hx.n2)) (by decide))) <| wE (oBd pl42 qF qQ) <| wT (kU jR) <| wZ) ?_
 refine jH ⟨_, (kZ (cs := (bx (jM (jV.mk (kN (-(-(kA x.num)))) (kN (-(-(kA x.den)))))))) (d := (jM (jV.mk (kN (-(-(kA x.num)))) (kN (-(-(kA x.den))))))) rfl rfl jR rfl rfl .nil), ?_⟩
 rfl
theorem eK (x : jV) (p : Rat) (hx : QOk x p 17179869184) : kD Tryz.prog 137 [(jM x)] (jM (jC p)) := by
 refine jK Tryz.func137 rfl cb137 rfl ?_
 show uY _ _ _ _ ⟨[(0, (.d (jM x)))], []⟩
 refine jA <| kx [(1, (.ref 0 0)), (2, (.ref 1 0))] [(0, some (bx (jM x))), (1, some (bx (jM (jV.mk (jG.mk false []) (jG.mk false [])))))] (zN (vN 0) <| zN (qP 1 qF qQ) <| zZ) ?_
 refine jA <| jA <| kx [(4, (vb (xG x)))] [] (zR (jZ jR) <| zE (jX (f_valid x p hx)) <| zZ) ?_
 refine jS (b := (xG x)) rfl (fun h1 => ?_) (fun h1 => ?_)
 ·refine jA <| kx [] [(1, some (bx (jM (jV.mk (kN (-(-kA x.num))) (kN (-(-kA x.den)))))))] (zR (jZ jR) <| zE (jX (f_copied x p hx)) <| zT (kU jR) <| zZ) ?_
  refine jH ⟨_, (kZ (cs := (bx (jM (jV.mk (kN (-(-kA x.num))) (kN (-(-kA x.den))))))) (d := (jM (jV.mk (kN (-(-kA x.num))) (kN (-(-kA x.den)))))) rfl rfl jR rfl rfl .nil), ?_⟩
  rw [← hx.v, ← copied_eq h1]; rfl
 ·refine jD <| jA <| kx [] [(1, some (bx (jM (jC ((0 : Int) : Rat)))))] (zE (jX (dM 0 (by decide) (by decide))) <| zT (kU jR) <| zZ) ?_
  refine jH ⟨_, (kZ (cs := (bx (jM (jC ((0 : Int) : Rat))))) (d := (jM (jC ((0 : Int) : Rat)))) rfl rfl jR rfl rfl .nil), ?_⟩
  rw [← hx.v, toQ_bad h1]; rfl
theorem f_sign (x : jV) (p : Rat) (hx : QOk x p 17179869184) : kD Tryz.prog 105 [(jM x)] (.val (.int .i64 ((qZ p)))) := by
 refine jK Tryz.func105 rfl cb105 rfl ?_
 show uY _ _ _ _ ⟨[(0, (.d (jM x)))], []⟩
 refine jA <| kx [(1, (.ref 0 0))] [(0, some (bx (jM x)))] (zN (vN 0) <| zM <| zZ) ?_
 refine jA <| kx [(2, (vi (uU p.num)))] [] (zR (jZ jR) <| zE (jX (eK x p hx)) <| zE (oFv ft42_0 kF) <| zE (jX (s_sign (uA hx.ql) (by decide))) <| zM <| zZ) ?_
 refine jH ⟨_, (.tmp (d := (.val (.int .i64 ((uU p.num))))) rfl .nil), ?_⟩
 rfl
theorem f_neg (x : jV) (p : Rat) (hx : QOk x p 17179869184) : kD Tryz.prog 170 [(jM x)] (jM (jC (-p))) := by
 refine jK Tryz.func170 rfl cb170 rfl ?_
 show uY _ _ _ _ ⟨[(0, (.d (jM x)))], []⟩
 refine jA <| kx [(1, (.ref 0 0)), (2, (.ref 1 0))] [(0, some (bx (jM x))), (1, some (bx (jM (jV.mk (jG.mk false []) (jG.mk false [])))))] (zN (vN 0) <| zN (qP 1 qF qQ) <| zZ) ?_
 refine jA <| kx [] [(0, some (bx (jM (jC p))))] (zR (jZ jR) <| zE (jX (eK x p hx)) <| zT (kU jR) <| zZ) ?_
 refine jA <| kd [] [(1, some (bx (jM (jV.mk (kN (-p.num)) ((jC p).den)))))] mo (wE (kO yD) <| wR (jZ kF) <| wE (jX (s_neg (uA hx.ql) (by decide))) <| wE (kO yM) <| wR (jZ kF) <| wE (oBd pl42 qF qQ) <| wT (kU jR) <| wZ) ?_
 refine jH ⟨_, (kZ (cs := (bx (jM (jV.mk (kN (-p.num)) ((jC p).den))))) (d := (jM (jV.mk (kN (-p.num)) ((jC p).den)))) rfl rfl jR rfl rfl .nil), ?_⟩
 rfl
theorem f_add (x : jV) (y : jV) (p : Rat) (q : Rat) (hx : QOk x p 17179869184) (hy : QOk y q 17179869184) : kD Tryz.prog 146 [(jM x), (jM y)] (jM (jC (p + q))) := by
 refine jK Tryz.func146 rfl cb146 rfl ?_
 show uY _ _ _ _ ⟨[(0, (.d (jM x))), (1, (.d (jM y)))], []⟩
 refine jA <| kx [(2, (.ref 0 0)), (3, (.ref 1 0)), (4, (.ref 2 0))] [(0, some (bx (jM x))), (1, some (bx (jM y))), (2, some (bx (jM (jV.mk (jG.mk false []) (jG.mk false [])))))] (zN (vN 0) <| zN (vN 1) <| zN (qP 2 qF qQ) <| zZ) ?_
 refine jA <| kd [] [(0, some (bx (jM (jC p)))), (1, some (bx (jM (jC q))))] mo (wR (jZ jR) <| wE (jX (eK x p hx)) <| wR (jZ jR) <| wE (jX (eK y q hy)) <| wT (kU jR) <| wT (kU jR) <| wZ) ?_
 refine jA <| kd [] [(2, some (bx (jM (jC (Rat.divInt ((p.num * (q.den : Int)) + (q.num * (p.den : Int))) ((p.den : Int) * (q.den : Int)))))))] mo (wE (kO yD) <| wR (jZ kF) <| wE (kO yM) <| wR (jZ kF) <| wE (jX (s_mul (uA hx.ql) (vA hy.ql) (by decide) (by decide))) <| wE (kO yD) <| wR (jZ kF) <| wE (kO yM) <| wR (jZ kF) <| wE (jX (s_mul (uA hy.ql) (vA hx.ql) (by decide) (by decide))) <| wE (jX (s_add (yX (k := 34359738368) (uA hx.ql) (vA hy.ql) (by decide)) (yX (k := 34359738368) (uA hy.ql) (vA hx.ql) (by decide)) (by decide) (by decide))) <| wE (kO yM) <| wR (jZ kF) <| wE (kO yM) <| wR (jZ kF) <| wE (jX (s_mul (vA hx.ql) (vA hy.ql) (by decide) (by decide))) <| wE (jX (f_reduced (kN ((p.num * (q.den : Int)) + (q.num * (p.den : Int)))) (kN ((p.den : Int) * (q.den : Int))) ((p.num * (q.den : Int)) + (q.num * (p.den : Int))) ((p.den : Int) * (q.den : Int)) (gN (iok_add (k := 34359738369) (yX (k := 34359738368) (uA hx.ql) (vA hy.ql) (by decide)) (yX (k := 34359738368) (uA hy.ql) (vA hx.ql) (by decide)) (by decide)) (by decide)) (gN (yX (k := 34359738368) (vA hx.ql) (vA hy.ql) (by decide)) (by decide)) (mul_ne (dX _) (dX _)))) <| wT (kU jR) <| wZ) ?_
 refine jH ⟨_, (kZ (cs := (bx (jM (jC (Rat.divInt ((p.num * (q.den : Int)) + (q.num * (p.den : Int))) ((p.den : Int) * (q.den : Int))))))) (d := (jM (jC (Rat.divInt ((p.num * (q.den : Int)) + (q.num * (p.den : Int))) ((p.den : Int) * (q.den : Int)))))) rfl rfl jR rfl rfl .nil), ?_⟩
 rw [add_divInt]; rfl
theorem f_sub (x : jV) (y : jV) (p : Rat) (q : Rat) (hx : QOk x p 17179869184) (hy : QOk y q 17179869184) : kD Tryz.prog 130 [(jM x), (jM y)] (jM (jC (p - q))) := by
 refine jK Tryz.func130 rfl cb130 rfl ?_
 show uY _ _ _ _ ⟨[(0, (.d (jM x))), (1, (.d (jM y)))], []⟩
 refine jA <| kx [(2, (.ref 0 0)), (3, (.ref 1 0)), (4, (.ref 2 0))] [(0, some (bx (jM x))), (1, some (bx (jM y))), (2, some (bx (jM (jV.mk (jG.mk false []) (jG.mk false [])))))] (zN (vN 0) <| zN (vN 1) <| zN (qP 2 qF qQ) <| zZ) ?_
 refine jA <| kd [] [(2, some (bx (jM (jC (p + (-q))))))] mo (wR (jZ jR) <| wR (jZ jR) <| wE (jX (f_neg y q hy)) <| wE (jX (f_add x (jC (-q)) p (-q) hx (kC (ql_neg hy.ql)))) <| wT (kU jR) <| wZ) ?_
 refine jH ⟨_, (kZ (cs := (bx (jM (jC (p + (-q)))))) (d := (jM (jC (p + (-q))))) rfl rfl jR rfl rfl .nil), ?_⟩
 rw [Rat.sub_eq_add_neg]; rfl
theorem f_mul (x : jV) (y : jV) (p : Rat) (q : Rat) (hx : QOk x p 17179869184) (hy : QOk y q 17179869184) : kD Tryz.prog 121 [(jM x), (jM y)] (jM (jC (p * q))) := by
 refine jK Tryz.func121 rfl cb121 rfl ?_
 show uY _ _ _ _ ⟨[(0, (.d (jM x))), (1, (.d (jM y)))], []⟩
 refine jA <| kx [(2, (.ref 0 0)), (3, (.ref 1 0)), (4, (.ref 2 0))] [(0, some (bx (jM x))), (1, some (bx (jM y))), (2, some (bx (jM (jV.mk (jG.mk false []) (jG.mk false [])))))] (zN (vN 0) <| zN (vN 1) <| zN (qP 2 qF qQ) <| zZ) ?_
 refine jA <| kd [] [(0, some (bx (jM (jC p)))), (1, some (bx (jM (jC q))))] mo (wR (jZ jR) <| wE (jX (eK x p hx)) <| wR (jZ jR) <| wE (jX (eK y q hy)) <| wT (kU jR) <| wT (kU jR) <| wZ) ?_
 refine jA <| kd [] [(2, some (bx (jM (jC (Rat.divInt (p.num * q.num) ((p.den : Int) * (q.den : Int)))))))] mo (wE (kO yD) <| wR (jZ kF) <| wE (kO yD) <| wR (jZ kF) <| wE (jX (s_mul (uA hx.ql) (uA hy.ql) (by decide) (by decide))) <| wE (kO yM) <| wR (jZ kF) <| wE (kO yM) <| wR (jZ kF) <| wE (jX (s_mul (vA hx.ql) (vA hy.ql) (by decide) (by decide))) <| wE (jX (f_reduced (kN (p.num * q.num)) (kN ((p.den : Int) * (q.den : Int))) (p.num * q.num) ((p.den : Int) * (q.den : Int)) (gN (yX (k := 34359738368) (uA hx.ql) (uA hy.ql) (by decide)) (by decide)) (gN (yX (k := 34359738368) (vA hx.ql) (vA hy.ql) (by decide)) (by decide)) (mul_ne (dX _) (dX _)))) <| wT (kU jR) <| wZ) ?_
 refine jH ⟨_, (kZ (cs := (bx (jM (jC (Rat.divInt (p.num * q.num) ((p.den : Int) * (q.den : Int))))))) (d := (jM (jC (Rat.divInt (p.num * q.num) ((p.den : Int) * (q.den : Int)))))) rfl rfl jR rfl rfl .nil), ?_⟩
 rw [mul_divInt]; rfl
theorem f_divide (x : jV) (y : jV) (p : Rat) (q : Rat) (hx : QOk x p 17179869184) (hy : QOk y q 17179869184) : kD Tryz.prog 97 [(jM x), (jM y)] (.tup [(jM (divR p q)), (.val (.int .i64 ((divC q))))]) := by
 refine jK Tryz.func97 rfl cb97 rfl ?_
 show uY _ _ _ _ ⟨[(0, (.d (jM x))), (1, (.d (jM y)))], []⟩
 refine jA <| kx [(2, (.ref 0 0)), (3, (.ref 1 0)), (4, (.ref 2 0))] [(0, some (bx (jM x))), (1, some (bx (jM y))), (2, some (bx (jM (jV.mk (jG.mk false []) (jG.mk false [])))))] (zN (vN 0) <| zN (vN 1) <| zN (qP 2 qF qQ) <| zM <| zZ) ?_
 refine jA <| kd [] [(0, some (bx (jM (jC p)))), (1, some (bx (jM (jC q))))] mo (wR (jZ jR) <| wE (jX (eK x p hx)) <| wR (jZ jR) <| wE (jX (eK y q hy)) <| wT (kU jR) <| wT (kU jR) <| wZ) ?_
 refine jA <| jA <| kx [(13, (vb ((uU q.num) == 0)))] [] (zE (kO yD) <| zR (jZ kF) <| zE (jX (s_sign (uA hy.ql) (by decide))) <| zE oEq <| zZ) ?_
 refine jS (b := ((uU q.num) == 0)) rfl (fun h1 => ?_) (fun h1 => ?_)
 ·replace h1 := eq_of_beq h1
  have hq0 := nZ.1 h1
  refine jA <| kx [(5, (kE 14))] [(2, some (bx (jM (jV.mk (jG.mk false []) (jG.mk false [])))))] (zE (oBd pl42 qF qQ) <| zT (kU jR) <| zM <| zZ) ?_
  refine jH ⟨_, (kZ (cs := (bx (jM (jV.mk (jG.mk false []) (jG.mk false []))))) (d := (jM (jV.mk (jG.mk false []) (jG.mk false [])))) rfl rfl jR rfl rfl (.tmp (d := (.val (.int .i64 (14)))) rfl .nil)), ?_⟩
  rw [divR_zero hq0, divC_zero hq0]; rfl
 ·replace h1 := ne_of_beq_false h1
  have hq0 : q ≠ 0 := fun hh => h1 (nZ.2 hh)
  refine jD <| jA <| kd [(5, (kE 0))] [(2, some (bx (jM (jC (Rat.divInt (p.num * (q.den : Int)) ((p.den : Int) * q.num))))))] mo (wE (kO yD) <| wR (jZ kF) <| wE (kO yM) <| wR (jZ kF) <| wE (jX (s_mul (uA hx.ql) (vA hy.ql) (by decide) (by decide))) <| wE (kO yM) <| wR (jZ kF) <| wE (kO yD) <| wR (jZ kF) <| wE (jX (s_mul (vA hx.ql) (uA hy.ql) (by decide) (by decide))) <| wE (jX (f_reduced (kN (p.num * (q.den : Int))) (kN ((p.den : Int) * q.num)) (p.num * (q.den : Int)) ((p.den : Int) * q.num) (gN (yX (k := 34359738368) (uA hx.ql) (vA hy.ql) (by decide)) (by decide)) (gN (yX (k := 34359738368) (vA hx.ql) (uA hy.ql) (by decide)) (by decide)) (mul_ne (dX _) (num_ne hq0)))) <| wT (kU jR) <| wM <| wZ) ?_
  refine jH ⟨_, (kZ (cs := (bx (jM (jC (Rat.divInt (p.num * (q.den : Int)) ((p.den : Int) * q.num)))))) (d := (jM (jC (Rat.divInt (p.num * (q.den : Int)) ((p.den : Int) * q.num))))) rfl rfl jR rfl rfl (.tmp (d := (.val (.int .i64 (0)))) rfl .nil)), ?_⟩
  rw [divR_ne hq0, divC_ne hq0, div_divInt]; rfl
end Go.Proofs.YtbecgnplakngdaaGreat
namespace Go.Proofs.YtbecgnplakngdaaGreat
open Go.Fid
set_option maxRecDepth 4000
set_option linter.unusedVariables false
set_option linter.unusedSimpArgs false
theorem cb17 : callB Tryz.prog 17 = true := by kernel_rfl
theorem cb21 : callB Tryz.prog 21 = true := by kernel_rfl
theorem cb26 : callB Tryz.prog 26 = true := by kernel_rfl
theorem cb32 : callB Tryz.prog 32 = true := by kernel_rfl
theorem cb34 : callB Tryz.prog 34 = true := by kernel_rfl
theorem cb43 : callB Tryz.prog 43 = true := by kernel_rfl
theorem cb57 : callB Tryz.prog 57 = true := by kernel_rfl
theorem cb64 : callB Tryz.prog 64 = true := by kernel_rfl
theorem cb85 : callB Tryz.prog 85 = true := by kernel_rfl
theorem cb88 : callB Tryz.prog 88 = true := by kernel_rfl
theorem cb89 : callB Tryz.prog 89 = true := by kernel_rfl
theorem cb91 : callB Tryz.prog 91 = true := by kernel_rfl
theorem cb93 : callB Tryz.prog 93 = true := by kernel_rfl
theorem g_reduced (num den : jG) (a b : Int) (dD : hH num a 68719476736) (mF : hH den b 68719476736) (hb : b ≠ 0) : kD Tryz.prog 93 [(jU num), (jU den)] (jM (jC (Rat.divInt a b))) := by
 refine jK Tryz.func93 rfl cb93 rfl ?_
 show uY _ _ _ _ ⟨[(0, (.d (jU num))), (1, (.d (jU den)))], []⟩
 refine jA <| kx [(2, (.ref 0 0)), (3, (.ref 1 0)), (4, (.ref 2 0))] [(0, some (bx (jU num))), (1, some (bx (jU den))), (2, some (bx (jM (jV.mk (jG.mk false []) (jG.mk false [])))))] (zN (vN 0) <| zN (vN 1) <| zN (qP 2 qF qQ) <| zZ) ?_
 refine jA <| kx [(5, (.ref 3 0))] [(3, some (bx (jU (kN ((Int.gcd a b : Nat) : Int)))))] (zR (jZ kF) <| zR (jZ kF) <| zE (jX (rs_gcd dD mF (by decide) (by decide))) <| zN (qP 3 gL gM) <| zT (kU kF) <| zZ) ?_
 refine jA <| jA <| kx [(17, (vb (decide ((uU b) < 0))))] [] (zR (jZ kF) <| zE (jX (rs_sign mF (by decide))) <| zE qM <| zZ) ?_
 refine jS (b := decide ((uU b) < 0)) rfl (fun h1 => ?_) (fun h1 => ?_)
 ·replace h1 := of_decide_eq_true h1
  have hlt := signI_lt.1 h1
  refine kx [] [(3, some (bx (jU (kN (-(((Int.gcd a b : Nat) : Int)))))))] (zR (jZ kF) <| zE (jX (rs_neg (gI (k := 68719476736) dD mF (by decide)) (by decide))) <| zT (kU kF) <| zZ) ?_
  refine jA <| kx [(6, (.ref 4 0))] [(4, some (bx (jU (kN (a.fdiv (-(((Int.gcd a b : Nat) : Int)))))))), (5, none)] (zR (jZ kF) <| zR (jZ kF) <| zE (jX (rs_divide dD (nQ (gI (k := 68719476736) dD mF (by decide))) (by decide) (by decide) (by have := gcd_ne (a := a) hb; omega))) <| zM <| zE uG <| zE uG <| zE uG <| zN (qP 4 gL gM) <| zN (qP 5 gL gM) <| zT (kU kF) <| zT (kU kF) <| zM <| zZ) ?_
  refine jA <| kx [(9, (.ref 6 0))] [(6, some (bx (jU (kN (b.fdiv (-(((Int.gcd a b : Nat) : Int)))))))), (7, none)] (zR (jZ kF) <| zR (jZ kF) <| zE (jX (rs_divide mF (nQ (gI (k := 68719476736) dD mF (by decide))) (by decide) (by decide) (by have := gcd_ne (a := a) hb; omega))) <| zM <| zE uG <| zE uG <| zE uG <| zN (qP 6 gL gM) <| zN (qP 7 gL gM) <| zT (kU kF) <| zT (kU kF) <| zM <| zZ) ?_
  refine jA <| kx [] [(2, some (bx (jM (jV.mk (kN (a.fdiv (-(((Int.gcd a b : Nat) : Int))))) (kN (b.fdiv (-(((Int.gcd a b : Nat) : Int)))))))))] (zR (jZ kF) <| zR (jZ kF) <| zE (oBd pl42 qF qQ) <| zT (kU jR) <| zZ) ?_
  refine jH ⟨_, (kZ (cs := (bx (jM (jV.mk (kN (a.fdiv (-(((Int.gcd a b : Nat) : Int))))) (kN (b.fdiv (-(((Int.gcd a b : Nat) : Int))))))))) (d := (jM (jV.mk (kN (a.fdiv (-(((Int.gcd a b : Nat) : Int))))) (kN (b.fdiv (-(((Int.gcd a b : Nat) : Int)))))))) rfl rfl jR rfl rfl .nil), ?_⟩
  rw [← red_neg2 hlt]; rfl
 ·replace h1 := of_decide_eq_false h1
  have hge : ¬ b < 0 := fun hh => h1 (signI_lt.2 hh)
  refine jD <| jA <| kx [(6, (.ref 8 0))] [(8, some (bx (jU (kN (a.fdiv (((Int.gcd a b : Nat) : Int))))))), (9, none)] (zR (jZ kF) <| zR (jZ kF) <| zE (jX (rs_divide dD (gI (k := 68719476736) dD mF (by decide)) (by decide) (by decide) (by have := gcd_ne (a := a) hb; omega))) <| zM <| zE uG <| zE uG <| zE uG <| zN (qP 8 gL gM) <| zN (qP 9 gL gM) <| zT (kU kF) <| zT (kU kF) <| zM <| zZ) ?_
  refine jA <| kx [(9, (.ref 10 0))] [(10, some (bx (jU (kN (b.fdiv (((Int.gcd a b : Nat) : Int))))))), (11, none)] (zR (jZ kF) <| zR (jZ kF) <| zE (jX (rs_divide mF (gI (k := 68719476736) dD mF (by decide)) (by decide) (by decide) (by have := gcd_ne (a := a) hb; omega))) <| zM <| zE uG <| zE uG <| zE uG <| zN (qP 10 gL gM) <| zN (qP 11 gL gM) <| zT (kU kF) <| zT (kU kF) <| zM <| zZ) ?_
  refine jA <| kx [] [(2, some (bx (jM (jV.mk (kN (a.fdiv (((Int.gcd a b : Nat) : Int)))) (kN (b.fdiv (((Int.gcd a b : Nat) : Int))))))))] (zR (jZ kF) <| zR (jZ kF) <| zE (oBd pl42 qF qQ) <| zT (kU jR) <| zZ) ?_
  refine jH ⟨_, (kZ (cs := (bx (jM (jV.mk (kN (a.fdiv (((Int.gcd a b : Nat) : Int)))) (kN (b.fdiv (((Int.gcd a b : Nat) : Int)))))))) (d := (jM (jV.mk (kN (a.fdiv (((Int.gcd a b : Nat) : Int)))) (kN (b.fdiv (((Int.gcd a b : Nat) : Int))))))) rfl rfl jR rfl rfl .nil), ?_⟩
  rw [red_pos hge hb]; rfl
theorem g_whole1 (n : Int) (hlo : -9223372036854775808 ≤ n) (hhi : n ≤ 9223372036854775807) : kD Tryz.prog 91 [(.val (.int .i64 (n)))] (jU (kN n)) := by
 refine jK Tryz.func91 rfl cb91 rfl ?_
 show uY _ _ _ _ ⟨[(0, (vi n))], []⟩
 refine jA <| kx [(2, (.ref 0 0))] [(0, some (bx (jU (jG.mk false []))))] (zN (qP 0 gL gM) <| zZ) ?_
 refine jA <| kx [] [(0, some (bx (jU (kN n))))] (zM <| zE (jX (r_of n (by omega) (by omega))) <| zT (kU kF) <| zZ) ?_
 refine jH ⟨_, (kZ (cs := (bx (jU (kN n)))) (d := (jU (kN n))) rfl rfl kF rfl rfl .nil), ?_⟩
 rfl
theorem cN (n : Int) (hlo : -9223372036854775808 ≤ n) (hhi : n ≤ 9223372036854775807) : kD Tryz.prog 21 [(.val (.int .i64 (n)))] (jM (jC ((n : Int) : Rat))) := by
 refine jK Tryz.func21 rfl cb21 rfl ?_
 show uY _ _ _ _ ⟨[(0, (vi n))], []⟩
 refine jA <| kx [(2, (.ref 0 0))] [(0, some (bx (jM (jV.mk (jG.mk false []) (jG.mk false [])))))] (zN (qP 0 qF qQ) <| zZ) ?_
 refine jA <| kx [] [(0, some (bx (jM (jV.mk (kN n) (kN 1)))))] (zM <| zE (jX (g_whole1 n (by omega) (by omega))) <| zE (jX (g_whole1 1 (by decide) (by decide))) <| zE (oBd pl42 qF qQ) <| zT (kU jR) <| zZ) ?_
 refine jH ⟨_, (kZ (cs := (bx (jM (jV.mk (kN n) (kN 1))))) (d := (jM (jV.mk (kN n) (kN 1)))) rfl rfl jR rfl rfl .nil), ?_⟩
 rfl
theorem g_valid (x : jV) (p : Rat) (hx : QOk x p 17179869184) : kD Tryz.prog 43 [(jM x)] (.val (.bool ((xG x)))) := by
 refine jK Tryz.func43 rfl cb43 rfl ?_
 show uY _ _ _ _ ⟨[(0, (.d (jM x)))], []⟩
 refine jA <| kx [(1, (.ref 0 0))] [(0, some (bx (jM x)))] (zN (vN 0) <| zM <| zZ) ?_
 refine jA <| jA <| kx [(18, (vb ((!(vF x.num) || !(vF x.den)) || decide ((uU (kA x.den)) ≤ 0))))] [] ?_ ?_
 ·refine zE (kO yD) <| zR (jZ kF) <| zE (jX (r_valid x.num (Nat.le_trans (yW hx.n1).l (by decide)))) <| zE oNt <| zE (oV (vb (!(vF x.num))) (vX (by kernel_rfl))) <| ?_
  rcases hb1 : (!(vF x.num)) with _ | _
  ·refine zE (kO yM) <| zR (jZ kF) <| zE (jX (r_valid x.den (Nat.le_trans (yW hx.n2).l (by decide)))) <| zE oNt <| zE oPo <| zE (oV (vb (false || !(vF x.den))) (vX (by kernel_rfl))) <| ?_
   rcases hb2 : (false || !(vF x.den)) with _ | _
   ·exact zE (kO yM) <| zR (jZ kF) <| zE (jX (rs_sign (yW hx.n2) (by decide))) <| zE oLe <| zE oPo <| zZ
   ·exact zK <| zK <| zK <| zK <| zE mX <| zZ
  ·exact zK <| zK <| zK <| zK <| zE mX <| zM <| zK <| zK <| zK <| zK <| zE mX <| zZ
 refine jS rfl (fun h3 => ?_) (fun h3 => ?_)
 ·refine jA <| kx [(2, (vb false))] [] (zM <| zZ) ?_
  refine jH ⟨_, (.tmp (d := (.val (.bool (false)))) rfl .nil), ?_⟩
  rw [validR_no h3]; rfl
 ·refine jD <| jA <| kx [(2, (vb ((xB (((Int.gcd (kA x.num) (kA x.den) : Nat) : Int)) 1) == 0)))] [] (zE (kO yD) <| zR (jZ kF) <| zE (kO yM) <| zR (jZ kF) <| zE (jX (rs_gcd (yW hx.n1) (yW hx.n2) (by decide) (by decide))) <| zE (jX (g_whole1 1 (by decide) (by decide))) <| zE (jX (rs_compare (gI (k := 17179869184) (yW hx.n1) (yW hx.n2) (by decide)) (nD (z := 1) (by decide)) (by decide) (by decide))) <| zE oEq <| zM <| zZ) ?_
  refine jH ⟨_, (.tmp (d := (.val (.bool (((xB (((Int.gcd (kA x.num) (kA x.den) : Nat) : Int)) 1) == 0))))) rfl .nil), ?_⟩
  rw [validR_yes h3]; rfl
theorem eG (x : jV) (p : Rat) (hx : QOk x p 17179869184) : kD Tryz.prog 85 [(jM x)] (jM (jC p)) := by
 refine jK Tryz.func85 rfl cb85 rfl ?_
 show uY _ _ _ _ ⟨[(0, (.d (jM x)))], []⟩
 refine jA <| kx [(1, (.ref 0 0)), (2, (.ref 1 0))] [(0, some (bx (jM x))), (1, some (bx (jM (jV.mk (jG.mk false []) (jG.mk false [])))))] (zN (vN 0) <| zN (qP 1 qF qQ) <| zZ) ?_
 refine jA <| jA <| kx [(4, (vb (xG x)))] [] (zR (jZ jR) <| zE (jX (g_valid x p hx)) <| zZ) ?_
 refine jS (b := (xG x)) rfl (fun h1 => ?_) (fun h1 => ?_)
 ·refine jA <| kx [] [(1, some (bx (jM x)))] (zR (jZ jR) <| zT (kU jR) <| zZ) ?_
  refine jH ⟨_, (kZ (cs := (bx (jM x))) (d := (jM x)) rfl rfl jR rfl rfl .nil), ?_⟩
  rw [← hx.v, ofQ_toQ h1]; rfl
 ·refine jD <| jA <| kx [] [(1, some (bx (jM (jC ((0 : Int) : Rat)))))] (zE (jX (cN 0 (by decide) (by decide))) <| zT (kU jR) <| zZ) ?_
  refine jH ⟨_, (kZ (cs := (bx (jM (jC ((0 : Int) : Rat))))) (d := (jM (jC ((0 : Int) : Rat)))) rfl rfl jR rfl rfl .nil), ?_⟩
  rw [← hx.v, toQ_bad h1]; rfl
theorem g_sign (x : jV) (p : Rat) (hx : QOk x p 17179869184) : kD Tryz.prog 17 [(jM x)] (.val (.int .i64 ((qZ p)))) := by
 refine jK Tryz.func17 rfl cb17 rfl ?_
 show uY _ _ _ _ ⟨[(0, (.d (jM x)))], []⟩
 refine jA <| kx [(1, (.ref 0 0))] [(0, some (bx (jM x)))] (zN (vN 0) <| zM <| zZ) ?_
 refine jA <| kx [(2, (vi (uU p.num)))] [] (zR (jZ jR) <| zE (jX (eG x p hx)) <| zE (oFv ft42_0 kF) <| zE (jX (rs_sign (uA hx.ql) (by decide))) <| zM <| zZ) ?_
 refine jH ⟨_, (.tmp (d := (.val (.int .i64 ((uU p.num))))) rfl .nil), ?_⟩
 rfl
theorem g_neg (x : jV) (p : Rat) (hx : QOk x p 17179869184) : kD Tryz.prog 88 [(jM x)] (jM (jC (-p))) := by
 refine jK Tryz.func88 rfl cb88 rfl ?_
 show uY _ _ _ _ ⟨[(0, (.d (jM x)))], []⟩
 refine jA <| kx [(1, (.ref 0 0)), (2, (.ref 1 0))] [(0, some (bx (jM x))), (1, some (bx (jM (jV.mk (jG.mk false []) (jG.mk false [])))))] (zN (vN 0) <| zN (qP 1 qF qQ) <| zZ) ?_
 refine jA <| kx [(3, (.ref 2 0))] [(2, some (bx (jM (jC p))))] (zR (jZ jR) <| zE (jX (eG x p hx)) <| zN (qP 2 qF qQ) <| zT (kU jR) <| zZ) ?_
 refine jA <| kd [] [(1, some (bx (jM (jV.mk (kN (-p.num)) ((jC p).den)))))] mo (wE (kO yD) <| wR (jZ kF) <| wE (jX (rs_neg (uA hx.ql) (by decide))) <| wE (kO yM) <| wR (jZ kF) <| wE (oBd pl42 qF qQ) <| wT (kU jR) <| wZ) ?_
 refine jH ⟨_, (kZ (cs := (bx (jM (jV.mk (kN (-p.num)) ((jC p).den))))) (d := (jM (jV.mk (kN (-p.num)) ((jC p).den)))) rfl rfl jR rfl rfl .nil), ?_⟩
 rfl
theorem g_add (x : jV) (y : jV) (p : Rat) (q : Rat) (hx : QOk x p 17179869184) (hy : QOk y q 17179869184) : kD Tryz.prog 89 [(jM x), (jM y)] (jM (jC (p + q))) := by
 refine jK Tryz.func89 rfl cb89 rfl ?_
 show uY _ _ _ _ ⟨[(0, (.d (jM x))), (1, (.d (jM y)))], []⟩
 refine jA <| kx [(2, (.ref 0 0)), (3, (.ref 1 0)), (4, (.ref 2 0))] [(0, some (bx (jM x))), (1, some (bx (jM y))), (2, some (bx (jM (jV.mk (jG.mk false []) (jG.mk false [])))))] (zN (vN 0) <| zN (vN 1) <| zN (qP 2 qF qQ) <| zZ) ?_
 refine jA <| kx [(5, (.ref 3 0))] [(3, some (bx (jM (jC p))))] (zR (jZ jR) <| zE (jX (eG x p hx)) <| zN (qP 3 qF qQ) <| zT (kU jR) <| zZ) ?_
 refine jA <| kx [(6, (.ref 4 0))] [(4, some (bx (jM (jC q))))] (zR (jZ jR) <| zE (jX (eG y q hy)) <| zN (qP 4 qF qQ) <| zT (kU jR) <| zZ) ?_
 refine jA <| kd [] [(2, some (bx (jM (jC (Rat.divInt ((p.num * (q.den : Int)) + (q.num * (p.den : Int))) ((p.den : Int) * (q.den : Int)))))))] mo (wE (kO yD) <| wR (jZ kF) <| wE (kO yM) <| wR (jZ kF) <| wE (jX (rs_mul (uA hx.ql) (vA hy.ql) (by decide) (by decide))) <| wE (kO yD) <| wR (jZ kF) <| wE (kO yM) <| wR (jZ kF) <| wE (jX (rs_mul (uA hy.ql) (vA hx.ql) (by decide) (by decide))) <| wE (jX (rs_add (yX (k := 34359738368) (uA hx.ql) (vA hy.ql) (by decide)) (yX (k := 34359738368) (uA hy.ql) (vA hx.ql) (by decide)) (by decide) (by decide))) <| wE (kO yM) <| wR (jZ kF) <| wE (kO yM) <| wR (jZ kF) <| wE (jX (rs_mul (vA hx.ql) (vA hy.ql) (by decide) (by decide))) <| wE (jX (g_reduced (kN ((p.num * (q.den : Int)) + (q.num * (p.den : Int)))) (kN ((p.den : Int) * (q.den : Int))) ((p.num * (q.den : Int)) + (q.num * (p.den : Int))) ((p.den : Int) * (q.den : Int)) (gN (iok_add (k := 34359738369) (yX (k := 34359738368) (uA hx.ql) (vA hy.ql) (by decide)) (yX (k := 34359738368) (uA hy.ql) (vA hx.ql) (by decide)) (by decide)) (by decide)) (gN (yX (k := 34359738368) (vA hx.ql) (vA hy.ql) (by decide)) (by decide)) (mul_ne (dX _) (dX _)))) <| wT (kU jR) <| wZ) ?_
 refine jH ⟨_, (kZ (cs := (bx (jM (jC (Rat.divInt ((p.num * (q.den : Int)) + (q.num * (p.den : Int))) ((p.den : Int) * (q.den : Int))))))) (d := (jM (jC (Rat.divInt ((p.num * (q.den : Int)) + (q.num * (p.den : Int))) ((p.den : Int) * (q.den : Int)))))) rfl rfl jR rfl rfl .nil), ?_⟩
 rw [add_divInt]; rfl
theorem g_sub (x : jV) (y : jV) (p : Rat) (q : Rat) (hx : QOk x p 17179869184) (hy : QOk y q 17179869184) : kD Tryz.prog 32 [(jM x), (jM y)] (jM (jC (p - q))) := by
 refine jK Tryz.func32 rfl cb32 rfl ?_
 show uY _ _ _ _ ⟨[(0, (.d (jM x))), (1, (.d (jM y)))], []⟩
 refine jA <| kx [(2, (.ref 0 0)), (3, (.ref 1 0)), (4, (.ref 2 0))] [(0, some (bx (jM x))), (1, some (bx (jM y))), (2, some (bx (jM (jV.mk (jG.mk false []) (jG.mk false [])))))] (zN (vN 0) <| zN (vN 1) <| zN (qP 2 qF qQ) <| zZ) ?_
 refine jA <| kd [] [(2, some (bx (jM (jC (p + (-q))))))] mo (wR (jZ jR) <| wR (jZ jR) <| wE (jX (g_neg y q hy)) <| wE (jX (g_add x (jC (-q)) p (-q) hx (kC (ql_neg hy.ql)))) <| wT (kU jR) <| wZ) ?_
 refine jH ⟨_, (kZ (cs := (bx (jM (jC (p + (-q)))))) (d := (jM (jC (p + (-q))))) rfl rfl jR rfl rfl .nil), ?_⟩
 rw [Rat.sub_eq_add_neg]; rfl
theorem eP (x : jV) (y : jV) (p : Rat) (q : Rat) (hx : QOk x p 17179869184) (hy : QOk y q 17179869184) : kD Tryz.prog 57 [(jM x), (jM y)] (jM (jC (p * q))) := by
 refine jK Tryz.func57 rfl cb57 rfl ?_
 show uY _ _ _ _ ⟨[(0, (.d (jM x))), (1, (.d (jM y)))], []⟩
 refine jA <| kx [(2, (.ref 0 0)), (3, (.ref 1 0)), (4, (.ref 2 0))] [(0, some (bx (jM x))), (1, some (bx (jM y))), (2, some (bx (jM (jV.mk (jG.mk false []) (jG.mk false [])))))] (zN (vN 0) <| zN (vN 1) <| zN (qP 2 qF qQ) <| zZ) ?_
 refine jA <| kx [(5, (.ref 3 0))] [(3, some (bx (jM (jC p))))] (zR (jZ jR) <| zE (jX (eG x p hx)) <| zN (qP 3 qF qQ) <| zT (kU jR) <| zZ) ?_
 refine jA <| kx [(6, (.ref 4 0))] [(4, some (bx (jM (jC q))))] (zR (jZ jR) <| zE (jX (eG y q hy)) <| zN (qP 4 qF qQ) <| zT (kU jR) <| zZ) ?_
 refine jA <| kd [] [(2, some (bx (jM (jC (Rat.divInt (p.num * q.num) ((p.den : Int) * (q.den : Int)))))))] mo (wE (kO yD) <| wR (jZ kF) <| wE (kO yD) <| wR (jZ kF) <| wE (jX (rs_mul (uA hx.ql) (uA hy.ql) (by decide) (by decide))) <| wE (kO yM) <| wR (jZ kF) <| wE (kO yM) <| wR (jZ kF) <| wE (jX (rs_mul (vA hx.ql) (vA hy.ql) (by decide) (by decide))) <| wE (jX (g_reduced (kN (p.num * q.num)) (kN ((p.den : Int) * (q.den : Int))) (p.num * q.num) ((p.den : Int) * (q.den : Int)) (gN (yX (k := 34359738368) (uA hx.ql) (uA hy.ql) (by decide)) (by decide)) (gN (yX (k := 34359738368) (vA hx.ql) (vA hy.ql) (by decide)) (by decide)) (mul_ne (dX _) (dX _)))) <| wT (kU jR) <| wZ) ?_
 refine jH ⟨_, (kZ (cs := (bx (jM (jC (Rat.divInt (p.num * q.num) ((p.den : Int) * (q.den : Int))))))) (d := (jM (jC (Rat.divInt (p.num * q.num) ((p.den : Int) * (q.den : Int)))))) rfl rfl jR rfl rfl .nil), ?_⟩
 rw [mul_divInt]; rfl
theorem g_new (num den : jG) (a b : Int) (dD : hH num a 68719476736) (mF : hH den b 68719476736) : kD Tryz.prog 26 [(jU num), (jU den)] (.tup [(jM (newR a b)), (.val (.int .i64 ((newC b))))]) := by
 refine jK Tryz.func26 rfl cb26 rfl ?_
 show uY _ _ _ _ ⟨[(0, (.d (jU num))), (1, (.d (jU den)))], []⟩
 refine jA <| kx [(2, (.ref 0 0)), (3, (.ref 1 0)), (4, (.ref 2 0))] [(0, some (bx (jU num))), (1, some (bx (jU den))), (2, some (bx (jM (jV.mk (jG.mk false []) (jG.mk false [])))))] (zN (vN 0) <| zN (vN 1) <| zN (qP 2 qF qQ) <| zM <| zZ) ?_
 refine jA <| jA <| kx [(8, (vb ((uU b) == 0)))] [] (zR (jZ kF) <| zE (jX (rs_sign mF (by decide))) <| zE oEq <| zZ) ?_
 refine jS (b := ((uU b) == 0)) rfl (fun h1 => ?_) (fun h1 => ?_)
 ·replace h1 := eq_of_beq h1
  have hb : b = 0 := sign0 h1
  refine jA <| kx [(5, (kE 14))] [(2, some (bx (jM (jV.mk (jG.mk false []) (jG.mk false [])))))] (zE (oBd pl42 qF qQ) <| zT (kU jR) <| zM <| zZ) ?_
  refine jH ⟨_, (kZ (cs := (bx (jM (jV.mk (jG.mk false []) (jG.mk false []))))) (d := (jM (jV.mk (jG.mk false []) (jG.mk false [])))) rfl rfl jR rfl rfl (.tmp (d := (.val (.int .i64 (14)))) rfl .nil)), ?_⟩
  rw [hb]; rfl
 ·replace h1 := ne_of_beq_false h1
  have hb : b ≠ 0 := fun hh => h1 (by rw [hh]; rfl)
  refine jD <| jA <| kx [(5, (kE 0))] [(2, some (bx (jM (jC (Rat.divInt a b)))))] (zR (jZ kF) <| zR (jZ kF) <| zE (jX (g_reduced num den a b dD mF (by assumption))) <| zT (kU jR) <| zM <| zZ) ?_
  refine jH ⟨_, (kZ (cs := (bx (jM (jC (Rat.divInt a b))))) (d := (jM (jC (Rat.divInt a b)))) rfl rfl jR rfl rfl (.tmp (d := (.val (.int .i64 (0)))) rfl .nil)), ?_⟩
  unfold newR newC; rw [if_neg hb, if_neg hb]; rfl
theorem g_divide (x : jV) (y : jV) (p : Rat) (q : Rat) (hx : QOk x p 17179869184) (hy : QOk y q 17179869184) : kD Tryz.prog 34 [(jM x), (jM y)] (.tup [(jM (divR p q)), (.val (.int .i64 ((divC q))))]) := by
 refine jK Tryz.func34 rfl cb34 rfl ?_
 show uY _ _ _ _ ⟨[(0, (.d (jM x))), (1, (.d (jM y)))], []⟩
 refine jA <| kx [(2, (.ref 0 0)), (3, (.ref 1 0)), (4, (.ref 2 0))] [(0, some (bx (jM x))), (1, some (bx (jM y))), (2, some (bx (jM (jV.mk (jG.mk false []) (jG.mk false [])))))] (zN (vN 0) <| zN (vN 1) <| zN (qP 2 qF qQ) <| zM <| zZ) ?_
 refine jA <| kx [(6, (.ref 3 0))] [(3, some (bx (jM (jC p))))] (zR (jZ jR) <| zE (jX (eG x p hx)) <| zN (qP 3 qF qQ) <| zT (kU jR) <| zZ) ?_
 refine jA <| kx [(7, (.ref 4 0))] [(4, some (bx (jM (jC q))))] (zR (jZ jR) <| zE (jX (eG y q hy)) <| zN (qP 4 qF qQ) <| zT (kU jR) <| zZ) ?_
 refine jA <| kd [(5, (vi (newC ((p.den : Int) * q.num))))] [(2, some (bx (jM (newR (p.num * (q.den : Int)) ((p.den : Int) * q.num)))))] mo (wE (kO yD) <| wR (jZ kF) <| wE (kO yM) <| wR (jZ kF) <| wE (jX (rs_mul (uA hx.ql) (vA hy.ql) (by decide) (by decide))) <| wE (kO yM) <| wR (jZ kF) <| wE (kO yD) <| wR (jZ kF) <| wE (jX (rs_mul (vA hx.ql) (uA hy.ql) (by decide) (by decide))) <| wE (jX (g_new (kN (p.num * (q.den : Int))) (kN ((p.den : Int) * q.num)) (p.num * (q.den : Int)) ((p.den : Int) * q.num) (gN (yX (k := 34359738368) (uA hx.ql) (vA hy.ql) (by decide)) (by decide)) (gN (yX (k := 34359738368) (vA hx.ql) (uA hy.ql) (by decide)) (by decide)))) <| wE uG <| wE uG <| wT (kU jR) <| wM <| wZ) ?_
 refine jH ⟨_, (kZ (cs := (bx (jM (newR (p.num * (q.den : Int)) ((p.den : Int) * q.num))))) (d := (jM (newR (p.num * (q.den : Int)) ((p.den : Int) * q.num)))) rfl rfl jR rfl rfl (.tmp (d := (.val (.int .i64 ((newC ((p.den : Int) * q.num)))))) rfl .nil)), ?_⟩
 rw [newR_div, newC_div]; rfl
theorem g_compare (x : jV) (y : jV) (p : Rat) (q : Rat) (hx : QOk x p 4294967296) (hy : QOk y q 4294967296) : kD Tryz.prog 64 [(jM x), (jM y)] (.val (.int .i64 ((cmpQ p q)))) := by
 refine jK Tryz.func64 rfl cb64 rfl ?_
 show uY _ _ _ _ ⟨[(0, (.d (jM x))), (1, (.d (jM y)))], []⟩
 refine jA <| kx [(2, (.ref 0 0)), (3, (.ref 1 0))] [(0, some (bx (jM x))), (1, some (bx (jM y)))] (zN (vN 0) <| zN (vN 1) <| zM <| zZ) ?_
 refine jA <| kx [(4, (vi (qZ (p - q))))] [] (zR (jZ jR) <| zR (jZ jR) <| zE (jX (g_sub x y p q (kB hx (by decide)) (kB hy (by decide)))) <| zE (jX (g_sign (jC (p - q)) (p - q) (kB (kC (uV (k := 8589934593) hx.ql hy.ql (by decide))) (by decide)))) <| zM <| zZ) ?_
 refine jH ⟨_, (.tmp (d := (.val (.int .i64 ((qZ (p - q)))))) rfl .nil), ?_⟩
 rw [← signQ_sub]; rfl
end Go.Proofs.YtbecgnplakngdaaGreat
namespace Go.Proofs.YtbecgnplakngdaaGreat
open Go.Fid
set_option maxRecDepth 4000
set_option linter.unusedVariables false
set_option linter.unusedSimpArgs false
theorem cb28 : callB Tryz.prog 28 = true := by kernel_rfl
theorem g_same (x : jV) (y : jV) (p : Rat) (q : Rat) (hx : QOk x p 4294967296) (hy : QOk y q 4294967296) : kD Tryz.prog 28 [(jM x), (jM y)] (.val (.bool ((sameR x y)))) := by
 refine jK Tryz.func28 rfl cb28 rfl ?_
 show uY _ _ _ _ ⟨[(0, (.d (jM x))), (1, (.d (jM y)))], []⟩
 refine jA <| kx [(2, (.ref 0 0)), (3, (.ref 1 0))] [(0, some (bx (jM x))), (1, some (bx (jM y)))] (zN (vN 0) <| zN (vN 1) <| zM <| zZ) ?_
 refine jA <| kx [(4, (vb (((xG x) && (xG y)) && ((cmpQ p q) == 0))))] [] ?_ ?_
 ·refine zR (jZ jR) <| zE (jX (g_valid x p (kB hx (by decide)))) <| zE (oV (vb (xG x)) (vX (by kernel_rfl))) <| ?_
  rcases hb1 : (xG x) with _ | _
  ·exact zK <| zK <| zE mV <| zM <| zK <| zK <| zK <| zK <| zE mV <| zM <| zZ
  ·refine zR (jZ jR) <| zE (jX (g_valid y q (kB hy (by decide)))) <| zE oPa <| zE (oV (vb (true && (xG y))) (vX (by kernel_rfl))) <| ?_
   rcases hb2 : (true && (xG y)) with _ | _
   ·exact zK <| zK <| zK <| zK <| zE mV <| zM <| zZ
   ·exact zR (jZ jR) <| zR (jZ jR) <| zE (jX (g_compare x y p q hx hy)) <| zE oEq <| zE oPa <| zM <| zZ
 refine jH ⟨_, (.tmp (d := (.val (.bool ((((xG x) && (xG y)) && ((cmpQ p q) == 0)))))) rfl .nil), ?_⟩
 unfold sameR
 rw [← sameR_eq, hx.v, hy.v]; rfl
end Go.Proofs.YtbecgnplakngdaaGreat
namespace Go.Fid
def jF (a b c x y z : Rat) : Rat := a * x + b * y + c * z
theorem dot3_eq (a b c x y z : Rat) : jF a b c x y z = (((0 : Int) : Rat) + a * x + b * y + c * z) := by
  unfold jF; rw [Rat.intCast_zero, Rat.zero_add]
theorem jQ {a b c x y z : Rat} {n k : Nat} (h1 : QL a n) (h2 : QL b n) (h3 : QL c n) (h4 : QL x n) (h5 : QL y n) (h6 : QL z n) (hk : 6 * n + 2 ≤ k) : QL (jF a b c x y z) k := by
  unfold jF
  exact uF (uF (jI h1 h4 (Nat.le_refl _)) (jI h2 h5 (Nat.le_refl _)) (Nat.le_refl _)) (jI h3 h6 (Nat.le_refl _)) (by omega)
def gC (a b c d : Int) : Nat := if a = 0 ∧ b = 0 ∧ c = 0 ∧ d = 0 then 1 else if (-1048576 ≤ a ∧ a ≤ 1048576) ∧ (-1048576 ≤ b ∧ b ≤ 1048576) ∧ (-1048576 ≤ c ∧ c ≤ 1048576) ∧ (-1048576 ≤ d ∧ d ≤ 1048576) then 0 else 3
theorem rotC_z {a b c d : Int} (h : a = 0 ∧ b = 0 ∧ c = 0 ∧ d = 0) : gC a b c d = 1 := if_pos h
theorem eU {a b c d : Int} (h : ¬ (a = 0 ∧ b = 0 ∧ c = 0 ∧ d = 0)) (h2 : ¬ ((-1048576 ≤ a ∧ a ≤ 1048576) ∧ (-1048576 ≤ b ∧ b ≤ 1048576) ∧ (-1048576 ≤ c ∧ c ≤ 1048576) ∧ (-1048576 ≤ d ∧ d ≤ 1048576))) : gC a b c d = 3 := by unfold gC; rw [if_neg h, if_neg h2]
theorem eT {a b c d : Int} (h : ¬ (a = 0 ∧ b = 0 ∧ c = 0 ∧ d = 0)) (h2 : (-1048576 ≤ a ∧ a ≤ 1048576) ∧ (-1048576 ≤ b ∧ b ≤ 1048576) ∧ (-1048576 ≤ c ∧ c ≤ 1048576) ∧ (-1048576 ≤ d ∧ d ≤ 1048576)) : gC a b c d = 0 := by unfold gC; rw [if_neg h, if_pos h2]
def nL (x y z u v f : Int) : Prop := (-1048576 ≤ x ∧ x ≤ 1048576) ∧ (-1048576 ≤ y ∧ y ≤ 1048576) ∧ (-1048576 ≤ z ∧ z ≤ 1048576) ∧ (-1048576 ≤ u ∧ u ≤ 1048576) ∧ (-1048576 ≤ v ∧ v ≤ 1048576) ∧ (1 ≤ f ∧ f ≤ 1048576)
instance {x y z u v f : Int} : Decidable (nL x y z u v f) := by unfold nL; infer_instance
def uP (x y z u v f a b c d : Int) : Nat := if nL x y z u v f then gC a b c d else 2
theorem mM {x y z u v f a b c d : Int} (h : ¬ nL x y z u v f) : uP x y z u v f a b c d = 2 := if_neg h
theorem mP {x y z u v f a b c d : Int} (h : nL x y z u v f) : uP x y z u v f a b c d = gC a b c d := if_pos h
theorem vD {a b : Int} (ha : -1048576 ≤ a ∧ a ≤ 1048576) (hb : -1048576 ≤ b ∧ b ≤ 1048576) : -1099511627776 ≤ a * b ∧ a * b ≤ 1099511627776 := by
  have h1 : (a * b).natAbs ≤ 1048576 * 1048576 := by
    rw [Int.natAbs_mul]; exact Nat.mul_le_mul (by omega) (by omega)
  omega
end Go.Fid
set_option linter.unusedVariables false
set_option linter.unusedSimpArgs false
namespace Go.Fid
open Go.RowKit (Below)
section
variable {P : Program} {o : Oper} {S : Nat → SV}
end
def RKs (P : Program) (o : Oper) (S : SL) (B : BS) (ks : List Nat) (x : SV) : Prop := ∃ rd : List (Nat × List SV), rd.map (·.1) = ks ∧ vO P o (qB S) rd x ∧ ∀ p ∈ rd, uJ B p.1 = some p.2
section
variable {P : Program} {n : Fr} {ops : Array Oper} {K : SL → BS → Prop} {S : SL} {B : BS} {l : List Oper} {o : Oper} {news : List Nat} {acc0 : List (List Nat × List Nat)}
theorem wC {ks : List Nat} {x : SV} (h : RKs P o S B ks x) (r : DK P n ops K news (acc0 ++ [(ks, [])]) ((dO o, x) :: S) B l) (g : goK n ops S o = true := by kernel_rfl) (hn : clearR ops S o news x = true := by kernel_rfl) : DK P n ops K news acc0 S B (o :: l) := by
  obtain ⟨st1, acc, r1, r0, r2⟩ := r
  obtain ⟨rd, hk, h, hbk⟩ := h
  obtain ⟨hd, hg, hb⟩ := nP g
  have hs := mW.e (P := P) (n := n) (ops := ops) (news := news) (st := ⟨S, B⟩) (o := o) h hg (by rw [hd]; exact hb) hbk hn
  rw [hd, hk] at hs
  exact ⟨st1, (ks, []) :: acc, .cons hs r1, by simpa using r0, r2⟩
end
end Go.Fid
