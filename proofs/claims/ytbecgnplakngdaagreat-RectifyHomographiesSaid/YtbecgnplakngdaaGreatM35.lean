/- Part 35 of a proof: rules, plain facts, and functions walked. -/
import Derived.Test.YtbecgnplakngdaaGreatM34
namespace Go.Proofs.YtbecgnplakngdaaGreat
open Go.Fid
set_option maxRecDepth 4000
set_option linter.unusedVariables false
set_option linter.unusedSimpArgs false
theorem cb9 : callB Tryz.prog 9 = true := by kernel_rfl
theorem w_homN (lx ly lz la lb lc ld lf lu lv rx ry rz ra rb rc rd rf ru rv : Int) (right : Bool) (p : qI) (x y : Rat) (hx : eT p.x x 140737488355328) (hy : eT p.y y 140737488355328) (hbr : bM p.x p.y = false) : kF Tryz.prog 9 [(qP (kY.mk (kJ.mk (jT.mk lx ly lz) (jN.mk la lb lc ld) lf (kM.mk lu lv)) (kJ.mk (jT.mk rx ry rz) (jN.mk ra rb rc rd) rf (kM.mk ru rv)))), (.val (.bool (right))), (kI p)] (.val (.bool (true))) := by
 let y1 := (qP (kY.mk (kJ.mk (jT.mk lx ly lz) (jN.mk la lb lc ld) lf (kM.mk lu lv)) (kJ.mk (jT.mk rx ry rz) (jN.mk ra rb rc rd) rf (kM.mk ru rv))))
 refine jL Tryz.func9 rfl cb9 rfl ?_
 show uK _ _ _ _ ⟨[(0, (.d y1)), (1, (vb right)), (2, (.d (kI p)))], []⟩
 refine jA <| kx [(3, (.ref 0 0)), (5, (.ref 1 0))] [(0, some (bx y1)), (1, some (bx (kI p)))] (zN (uX 0) <| zN (uX 1) <| zM <| zZ) ?_
 refine jA <| jA <| kx [(17, (vb false))] [] (zE (kC iA) <| zE eX <| zZ) ?_
 refine kO ?_
 refine jD <| jA <| jA <| kx [(20, (vb true))] [] (zR (kA nH) <| zE (qY false (kC (bY p x y hx hy)) (by exact hbr)) <| zE eX <| zZ) ?_
 refine kD ?_
 refine jA <| kx [(6, (vb true))] [] (zM <| zZ) ?_
 refine jG ⟨_, (.tmp (d := (.val (.bool (true)))) rfl .nil), ?_⟩
 rfl
theorem w_homE1 (lx ly lz la lb lc ld lf lu lv rx ry rz ra rb rc rd rf ru rv : Int) (right : Bool) (p : qI) (x y : Rat) (hx : eT p.x x 140737488355328) (hy : eT p.y y 140737488355328) (c : Nat) (hc : stn2 (uL lx ly lz lu lv lf la lb lc ld) (uL rx ry rz ru rv rf ra rb rc rd) = c) (hc0 : c ≠ 0) (hbr : bM p.x p.y = true) : kF Tryz.prog 9 [(qP (kY.mk (kJ.mk (jT.mk lx ly lz) (jN.mk la lb lc ld) lf (kM.mk lu lv)) (kJ.mk (jT.mk rx ry rz) (jN.mk ra rb rc rd) rf (kM.mk ru rv)))), (.val (.bool (right))), (kI p)] (.val (.bool (true))) := by
 let y3 := (A3.mk (kG.mk (jF.mk false []) (jF.mk false [])) (kG.mk (jF.mk false []) (jF.mk false [])) (kG.mk (jF.mk false []) (jF.mk false [])))
 let y2 := (qP (kY.mk (kJ.mk (jT.mk lx ly lz) (jN.mk la lb lc ld) lf (kM.mk lu lv)) (kJ.mk (jT.mk rx ry rz) (jN.mk ra rb rc rd) rf (kM.mk ru rv))))
 let y1 := (qL (A9.mk (jF.mk false []) (jF.mk false []) (jF.mk false []) (jF.mk false []) (jF.mk false []) (jF.mk false []) (jF.mk false []) (jF.mk false []) (jF.mk false [])))
 refine jL Tryz.func9 rfl cb9 rfl ?_
 show uK _ _ _ _ ⟨[(0, (.d y2)), (1, (vb right)), (2, (.d (kI p)))], []⟩
 refine jA <| kx [(3, (.ref 0 0)), (5, (.ref 1 0))] [(0, some (bx y2)), (1, some (bx (kI p)))] (zN (uX 0) <| zN (uX 1) <| zM <| zZ) ?_
 refine jA <| jA <| kx [(17, (vb false))] [] (zE (kC iA) <| zE eX <| zZ) ?_
 refine kO ?_
 refine jD <| jA <| jA <| kx [(20, (vb false))] [] (zR (kA nH) <| zE (qY true (kC (bY p x y hx hy)) (by exact hbr)) <| zE eX <| zZ) ?_
 refine kO ?_
 refine jD <| jA <| kx [(7, (.ref 2 0)), (8, (kE c))] [(2, some (bx y1))] (zR (kA bQ) <| zM <| zE (kC (q_homE1 lx ly lz la lb lc ld lf lu lv rx ry rz ra rb rc rd rf ru rv right c hc hc0)) <| zM <| zE uH <| zE uH <| zN (qH 2 ze98 zo98) <| zT (kR mI) <| zM <| zZ) ?_
 refine jA <| kx [(9, (.ref 3 0)), (10, (kE c))] [(3, some (bx (yE (RLp.mk (kY.mk (kJ.mk (jT.mk lx ly lz) (jN.mk la lb lc ld) lf (kM.mk lu lv)) (kJ.mk (jT.mk rx ry rz) (jN.mk ra rb rc rd) rf (kM.mk ru rv))) y3 (A3.mk y3 y3 y3)))))] (zR (kA bQ) <| zE (kC (qs_preE1 lx ly lz la lb lc ld lf lu lv rx ry rz ra rb rc rd rf ru rv c hc hc0)) <| zM <| zE uH <| zE uH <| zN (qH 3 ze47 zo47) <| zT (kR eO) <| zM <| zZ) ?_
 refine jA <| jA <| kx [(33, (vb true))] [] (zM <| zE (qY true mR (by exact bne_iff_ne.2 (by have hx := hc0; omega))) <| zZ) ?_
 refine kD ?_
 refine jA <| jA <| kx [(34, (.d y1)), (35, (kE 0))] [] (zR (kA mI) <| zM <| zZ) ?_
 refine jE <| qE 20 ?_
 refine qK <| jA <| kx [(36, (vb true))] [] (zE (qY true qS) <| zZ) ?_
 refine jA <| kD ?_
 refine jD <| jA <| jE <| jA <| kx [(12, (.ref 4 0))] [(4, some (bx (jH (jF.mk false []))))] (zE (iF yY jI (fun h => by cases h) 0) <| zN (qH 4 uD uE) <| zT (kR jI) <| zZ) ?_
 refine jA <| kx [(45, (vb false))] [] (zE (kU uS) <| zR (uM eI) <| zM <| zE (kU uT) <| zR (uM xI) <| zE (fT kV 0) <| zE mR <| zE fC <| zZ) ?_
 refine kO ?_
 refine jD <| kx [(35, (kE 1))] [] (zE (qQ 1 (hr := by decide)) <| zM <| zZ) ?_
 refine jJ (jZ.refl _) ?_
 refine jA <| kx [(36, (vb true))] [] (zE (qY true qS) <| zZ) ?_
 refine jA <| kD ?_
 refine jD <| jA <| jE <| jA <| kx [(12, (.ref 5 0))] [(5, some (bx (jH (jF.mk false []))))] (zE (iF yY jI (fun h => by cases h) 1) <| zN (qH 5 uD uE) <| zT (kR jI) <| zZ) ?_
 refine jA <| kx [(45, (vb false))] [] (zE (kU uS) <| zR (uM eI) <| zM <| zE (kU uT) <| zR (uM xI) <| zE (fT kV 0) <| zE mR <| zE fC <| zZ) ?_
 refine kO ?_
 refine jD <| kX (wk (l := [(8, (kE c)), (10, (kE c)), (34, (.d y1)), (35, (kE 1)), (45, (vb false))]) (b := [])) ?_
 refine kx [(35, (kE 2))] [] (zE (qQ 2 (hr := by decide)) <| zM <| zZ) ?_
 refine jJ (jZ.refl _) ?_
 refine jA <| kx [(36, (vb true))] [] (zE (qY true qS) <| zZ) ?_
 refine jA <| kD ?_
 refine jD <| jA <| jE <| jA <| kx [(12, (.ref 6 0))] [(6, some (bx (jH (jF.mk false []))))] (zE (iF yY jI (fun h => by cases h) 2) <| zN (qH 6 uD uE) <| zT (kR jI) <| zZ) ?_
 refine jA <| kx [(45, (vb false))] [] (zE (kU uS) <| zR (uM eI) <| zM <| zE (kU uT) <| zR (uM xI) <| zE (fT kV 0) <| zE mR <| zE fC <| zZ) ?_
 refine kO ?_
 refine jD <| kx [(35, (kE 3))] [] (zE (qQ 3 (hr := by decide)) <| zM <| zZ) ?_
 refine jJ (jZ.refl _) ?_
 refine jA <| kx [(36, (vb true))] [] (zE (qY true qS) <| zZ) ?_
 refine jA <| kD ?_
 refine jD <| jA <| jE <| jA <| kx [(12, (.ref 7 0))] [(7, some (bx (jH (jF.mk false []))))] (zE (iF yY jI (fun h => by cases h) 3) <| zN (qH 7 uD uE) <| zT (kR jI) <| zZ) ?_
 refine jA <| kx [(45, (vb false))] [] (zE (kU uS) <| zR (uM eI) <| zM <| zE (kU uT) <| zR (uM xI) <| zE (fT kV 0) <| zE mR <| zE fC <| zZ) ?_
 refine kO ?_
 refine jD <| kx [(35, (kE 4))] [] (zE (qQ 4 (hr := by decide)) <| zM <| zZ) ?_
 refine jJ (jZ.refl _) ?_
 refine jA <| kx [(36, (vb true))] [] (zE (qY true qS) <| zZ) ?_
 refine jA <| kD ?_
 refine jD <| jA <| jE <| jA <| kx [(12, (.ref 8 0))] [(8, some (bx (jH (jF.mk false []))))] (zE (iF yY jI (fun h => by cases h) 4) <| zN (qH 8 uD uE) <| zT (kR jI) <| zZ) ?_
 refine jA <| kx [(45, (vb false))] [] (zE (kU uS) <| zR (uM eI) <| zM <| zE (kU uT) <| zR (uM xI) <| zE (fT kV 0) <| zE mR <| zE fC <| zZ) ?_
 refine kO ?_
 refine jD <| kx [(35, (kE 5))] [] (zE (qQ 5 (hr := by decide)) <| zM <| zZ) ?_
 refine jJ (jZ.refl _) ?_
 refine jA <| kx [(36, (vb true))] [] (zE (qY true qS) <| zZ) ?_
 refine jA <| kD ?_
 refine jD <| jA <| jE <| jA <| kX (wk (l := [(8, (kE c)), (10, (kE c)), (34, (.d y1)), (35, (kE 5)), (36, (vb true))]) (b := [])) ?_
 refine kx [(12, (.ref 9 0))] [(9, some (bx (jH (jF.mk false []))))] (zE (iF yY jI (fun h => by cases h) 5) <| zN (qH 9 uD uE) <| zT (kR jI) <| zZ) ?_
 refine jA <| kx [(45, (vb false))] [] (zE (kU uS) <| zR (uM eI) <| zM <| zE (kU uT) <| zR (uM xI) <| zE (fT kV 0) <| zE mR <| zE fC <| zZ) ?_
 refine kO ?_
 refine jD <| kx [(35, (kE 6))] [] (zE (qQ 6 (hr := by decide)) <| zM <| zZ) ?_
 refine jJ (jZ.refl _) ?_
 refine jA <| kx [(36, (vb true))] [] (zE (qY true qS) <| zZ) ?_
 refine jA <| kD ?_
 refine jD <| jA <| jE <| jA <| kx [(12, (.ref 10 0))] [(10, some (bx (jH (jF.mk false []))))] (zE (iF yY jI (fun h => by cases h) 6) <| zN (qH 10 uD uE) <| zT (kR jI) <| zZ) ?_
 refine jA <| kx [(45, (vb false))] [] (zE (kU uS) <| zR (uM eI) <| zM <| zE (kU uT) <| zR (uM xI) <| zE (fT kV 0) <| zE mR <| zE fC <| zZ) ?_
 refine kO ?_
 refine jD <| kx [(35, (kE 7))] [] (zE (qQ 7 (hr := by decide)) <| zM <| zZ) ?_
 refine jJ (jZ.refl _) ?_
 refine jA <| kx [(36, (vb true))] [] (zE (qY true qS) <| zZ) ?_
 refine jA <| kD ?_
 refine jD <| jA <| jE <| jA <| kx [(12, (.ref 11 0))] [(11, some (bx (jH (jF.mk false []))))] (zE (iF yY jI (fun h => by cases h) 7) <| zN (qH 11 uD uE) <| zT (kR jI) <| zZ) ?_
 refine jA <| kx [(45, (vb false))] [] (zE (kU uS) <| zR (uM eI) <| zM <| zE (kU uT) <| zR (uM xI) <| zE (fT kV 0) <| zE mR <| zE fC <| zZ) ?_
 refine kO ?_
 refine jD <| kx [(35, (kE 8))] [] (zE (qQ 8 (hr := by decide)) <| zM <| zZ) ?_
 refine jJ (jZ.refl _) ?_
 refine jA <| kx [(36, (vb true))] [] (zE (qY true qS) <| zZ) ?_
 refine jA <| kD ?_
 refine jD <| jA <| jE <| jA <| kx [(12, (.ref 12 0))] [(12, some (bx (jH (jF.mk false []))))] (zE (iF yY jI (fun h => by cases h) 8) <| zN (qH 12 uD uE) <| zT (kR jI) <| zZ) ?_
 refine jA <| kx [(45, (vb false))] [] (zE (kU uS) <| zR (uM eI) <| zM <| zE (kU uT) <| zR (uM xI) <| zE (fT kV 0) <| zE mR <| zE fC <| zZ) ?_
 refine kO ?_
 refine jD <| kX (wk (l := [(8, (kE c)), (10, (kE c)), (34, (.d y1)), (35, (kE 8)), (45, (vb false))]) (b := [])) ?_
 refine kx [(35, (kE 9))] [] (zE (qQ 9 (hr := by decide)) <| zM <| zZ) ?_
 refine jJ (jZ.refl _) ?_
 refine jA <| kx [(36, (vb false))] [] (zE (qY false qS) <| zZ) ?_
 refine jA <| kO ?_
 refine kQ <| jA <| kx [(6, (vb true))] [] (zM <| zM <| zE (qY true aO (by exact beq_self_eq_true _)) <| zM <| zZ) ?_
 refine jG ⟨_, (.tmp (d := (.val (.bool (true)))) rfl .nil), ?_⟩
 rfl
theorem w_homE2 (lx ly lz la lb lc ld lf lu lv rx ry rz ra rb rc rd rf ru rv : Int) (right : Bool) (p : qI) (x y : Rat) (hx : eT p.x x 140737488355328) (hy : eT p.y y 140737488355328) (b0 b1 b2 : Rat) (zW : QL b0 3) (zV : QL b1 3) (zU : QL b2 3) (hl : uL lx ly lz lu lv lf la lb lc ld = 0) (hr : uL rx ry rz ru rv rf ra rb rc rd = 0) (hb0 : ((rx - lx : Int) : Rat) = b0) (hb1 : ((ry - ly : Int) : Rat) = b1) (hb2 : ((rz - lz : Int) : Rat) = b2) (hup : upV la lb lc ld ra rb rc rd b0 b1 b2 = true) (hbr : bM p.x p.y = true) : kF Tryz.prog 9 [(qP (kY.mk (kJ.mk (jT.mk lx ly lz) (jN.mk la lb lc ld) lf (kM.mk lu lv)) (kJ.mk (jT.mk rx ry rz) (jN.mk ra rb rc rd) rf (kM.mk ru rv)))), (.val (.bool (right))), (kI p)] (.val (.bool (true))) := by
 let y3 := (A3.mk (kG.mk (jF.mk false []) (jF.mk false [])) (kG.mk (jF.mk false []) (jF.mk false [])) (kG.mk (jF.mk false []) (jF.mk false [])))
 let y2 := (qP (kY.mk (kJ.mk (jT.mk lx ly lz) (jN.mk la lb lc ld) lf (kM.mk lu lv)) (kJ.mk (jT.mk rx ry rz) (jN.mk ra rb rc rd) rf (kM.mk ru rv))))
 let y1 := (qL (A9.mk (jF.mk false []) (jF.mk false []) (jF.mk false []) (jF.mk false []) (jF.mk false []) (jF.mk false []) (jF.mk false []) (jF.mk false []) (jF.mk false [])))
 refine jL Tryz.func9 rfl cb9 rfl ?_
 show uK _ _ _ _ ⟨[(0, (.d y2)), (1, (vb right)), (2, (.d (kI p)))], []⟩
 refine jA <| kx [(3, (.ref 0 0)), (5, (.ref 1 0))] [(0, some (bx y2)), (1, some (bx (kI p)))] (zN (uX 0) <| zN (uX 1) <| zM <| zZ) ?_
 refine jA <| jA <| kx [(17, (vb false))] [] (zE (kC iA) <| zE eX <| zZ) ?_
 refine kO ?_
 refine jD <| jA <| jA <| kx [(20, (vb false))] [] (zR (kA nH) <| zE (qY true (kC (bY p x y hx hy)) (by exact hbr)) <| zE eX <| zZ) ?_
 refine kO ?_
 refine jD <| jA <| kx [(7, (.ref 2 0)), (8, (vi 13))] [(2, some (bx y1))] (zR (kA bQ) <| zM <| zE (kC (q_homE2 lx ly lz la lb lc ld lf lu lv rx ry rz ra rb rc rd rf ru rv right b0 b1 b2 zW zV zU hl hr hb0 hb1 hb2 hup)) <| zM <| zE uH <| zE uH <| zN (qH 2 ze98 zo98) <| zT (kR mI) <| zM <| zZ) ?_
 refine jA <| kx [(9, (.ref 3 0)), (10, (vi 13))] [(3, some (bx (yE (RLp.mk (kY.mk (kJ.mk (jT.mk lx ly lz) (jN.mk la lb lc ld) lf (kM.mk lu lv)) (kJ.mk (jT.mk rx ry rz) (jN.mk ra rb rc rd) rf (kM.mk ru rv))) (A3.mk (jC b0) (jC b1) (jC b2)) (A3.mk y3 y3 y3)))))] (zR (kA bQ) <| zE (kC (qs_preE2 lx ly lz la lb lc ld lf lu lv rx ry rz ra rb rc rd rf ru rv b0 b1 b2 zW zV zU hl hr hb0 hb1 hb2 hup)) <| zM <| zE uH <| zE uH <| zN (qH 3 ze47 zo47) <| zT (kR eO) <| zM <| zZ) ?_
 refine jA <| jA <| kx [(33, (vb true))] [] (zM <| zE mR <| zZ) ?_
 refine kD ?_
 refine jA <| jA <| kx [(34, (.d y1)), (35, (kE 0))] [] (zR (kA mI) <| zM <| zZ) ?_
 refine jE <| qE 20 ?_
 refine qK <| jA <| kx [(36, (vb true))] [] (zE (qY true qS) <| zZ) ?_
 refine jA <| kD ?_
 refine jD <| jA <| jE <| jA <| kx [(12, (.ref 4 0))] [(4, some (bx (jH (jF.mk false []))))] (zE (iF yY jI (fun h => by cases h) 0) <| zN (qH 4 uD uE) <| zT (kR jI) <| zZ) ?_
 refine jA <| kx [(45, (vb false))] [] (zE (kU uS) <| zR (uM eI) <| zM <| zE (kU uT) <| zR (uM xI) <| zE (fT kV 0) <| zE mR <| zE fC <| zZ) ?_
 refine kO ?_
 refine jD <| kx [(35, (kE 1))] [] (zE (qQ 1 (hr := by decide)) <| zM <| zZ) ?_
 refine jJ (jZ.refl _) ?_
 refine jA <| kx [(36, (vb true))] [] (zE (qY true qS) <| zZ) ?_
 refine jA <| kD ?_
 refine jD <| jA <| jE <| jA <| kx [(12, (.ref 5 0))] [(5, some (bx (jH (jF.mk false []))))] (zE (iF yY jI (fun h => by cases h) 1) <| zN (qH 5 uD uE) <| zT (kR jI) <| zZ) ?_
 refine jA <| kx [(45, (vb false))] [] (zE (kU uS) <| zR (uM eI) <| zM <| zE (kU uT) <| zR (uM xI) <| zE (fT kV 0) <| zE mR <| zE fC <| zZ) ?_
 refine kO ?_
 refine jD <| kX (wk (l := [(8, (vi 13)), (10, (vi 13)), (34, (.d y1)), (35, (kE 1)), (45, (vb false))]) (b := [])) ?_
 refine kx [(35, (kE 2))] [] (zE (qQ 2 (hr := by decide)) <| zM <| zZ) ?_
 refine jJ (jZ.refl _) ?_
 refine jA <| kx [(36, (vb true))] [] (zE (qY true qS) <| zZ) ?_
 refine jA <| kD ?_
 refine jD <| jA <| jE <| jA <| kx [(12, (.ref 6 0))] [(6, some (bx (jH (jF.mk false []))))] (zE (iF yY jI (fun h => by cases h) 2) <| zN (qH 6 uD uE) <| zT (kR jI) <| zZ) ?_
 refine jA <| kx [(45, (vb false))] [] (zE (kU uS) <| zR (uM eI) <| zM <| zE (kU uT) <| zR (uM xI) <| zE (fT kV 0) <| zE mR <| zE fC <| zZ) ?_
 refine kO ?_
 refine jD <| kx [(35, (kE 3))] [] (zE (qQ 3 (hr := by decide)) <| zM <| zZ) ?_
 refine jJ (jZ.refl _) ?_
 refine jA <| kx [(36, (vb true))] [] (zE (qY true qS) <| zZ) ?_
 refine jA <| kD ?_
 refine jD <| jA <| jE <| jA <| kx [(12, (.ref 7 0))] [(7, some (bx (jH (jF.mk false []))))] (zE (iF yY jI (fun h => by cases h) 3) <| zN (qH 7 uD uE) <| zT (kR jI) <| zZ) ?_
 refine jA <| kx [(45, (vb false))] [] (zE (kU uS) <| zR (uM eI) <| zM <| zE (kU uT) <| zR (uM xI) <| zE (fT kV 0) <| zE mR <| zE fC <| zZ) ?_
 refine kO ?_
 refine jD <| kx [(35, (kE 4))] [] (zE (qQ 4 (hr := by decide)) <| zM <| zZ) ?_
 refine jJ (jZ.refl _) ?_
 refine jA <| kx [(36, (vb true))] [] (zE (qY true qS) <| zZ) ?_
 refine jA <| kD ?_
 refine jD <| jA <| jE <| jA <| kx [(12, (.ref 8 0))] [(8, some (bx (jH (jF.mk false []))))] (zE (iF yY jI (fun h => by cases h) 4) <| zN (qH 8 uD uE) <| zT (kR jI) <| zZ) ?_
 refine jA <| kx [(45, (vb false))] [] (zE (kU uS) <| zR (uM eI) <| zM <| zE (kU uT) <| zR (uM xI) <| zE (fT kV 0) <| zE mR <| zE fC <| zZ) ?_
 refine kO ?_
 refine jD <| kx [(35, (kE 5))] [] (zE (qQ 5 (hr := by decide)) <| zM <| zZ) ?_
 refine jJ (jZ.refl _) ?_
 refine jA <| kx [(36, (vb true))] [] (zE (qY true qS) <| zZ) ?_
 refine jA <| kD ?_
 refine jD <| jA <| jE <| jA <| kX (wk (l := [(8, (vi 13)), (10, (vi 13)), (34, (.d y1)), (35, (kE 5)), (36, (vb true))]) (b := [])) ?_
 refine kx [(12, (.ref 9 0))] [(9, some (bx (jH (jF.mk false []))))] (zE (iF yY jI (fun h => by cases h) 5) <| zN (qH 9 uD uE) <| zT (kR jI) <| zZ) ?_
 refine jA <| kx [(45, (vb false))] [] (zE (kU uS) <| zR (uM eI) <| zM <| zE (kU uT) <| zR (uM xI) <| zE (fT kV 0) <| zE mR <| zE fC <| zZ) ?_
 refine kO ?_
 refine jD <| kx [(35, (kE 6))] [] (zE (qQ 6 (hr := by decide)) <| zM <| zZ) ?_
 refine jJ (jZ.refl _) ?_
 refine jA <| kx [(36, (vb true))] [] (zE (qY true qS) <| zZ) ?_
 refine jA <| kD ?_
 refine jD <| jA <| jE <| jA <| kx [(12, (.ref 10 0))] [(10, some (bx (jH (jF.mk false []))))] (zE (iF yY jI (fun h => by cases h) 6) <| zN (qH 10 uD uE) <| zT (kR jI) <| zZ) ?_
 refine jA <| kx [(45, (vb false))] [] (zE (kU uS) <| zR (uM eI) <| zM <| zE (kU uT) <| zR (uM xI) <| zE (fT kV 0) <| zE mR <| zE fC <| zZ) ?_
 refine kO ?_
 refine jD <| kx [(35, (kE 7))] [] (zE (qQ 7 (hr := by decide)) <| zM <| zZ) ?_
 refine jJ (jZ.refl _) ?_
 refine jA <| kx [(36, (vb true))] [] (zE (qY true qS) <| zZ) ?_
 refine jA <| kD ?_
 refine jD <| jA <| jE <| jA <| kx [(12, (.ref 11 0))] [(11, some (bx (jH (jF.mk false []))))] (zE (iF yY jI (fun h => by cases h) 7) <| zN (qH 11 uD uE) <| zT (kR jI) <| zZ) ?_
 refine jA <| kx [(45, (vb false))] [] (zE (kU uS) <| zR (uM eI) <| zM <| zE (kU uT) <| zR (uM xI) <| zE (fT kV 0) <| zE mR <| zE fC <| zZ) ?_
 refine kO ?_
 refine jD <| kx [(35, (kE 8))] [] (zE (qQ 8 (hr := by decide)) <| zM <| zZ) ?_
 refine jJ (jZ.refl _) ?_
 refine jA <| kx [(36, (vb true))] [] (zE (qY true qS) <| zZ) ?_
 refine jA <| kD ?_
 refine jD <| jA <| jE <| jA <| kx [(12, (.ref 12 0))] [(12, some (bx (jH (jF.mk false []))))] (zE (iF yY jI (fun h => by cases h) 8) <| zN (qH 12 uD uE) <| zT (kR jI) <| zZ) ?_
 refine jA <| kx [(45, (vb false))] [] (zE (kU uS) <| zR (uM eI) <| zM <| zE (kU uT) <| zR (uM xI) <| zE (fT kV 0) <| zE mR <| zE fC <| zZ) ?_
 refine kO ?_
 refine jD <| kX (wk (l := [(8, (vi 13)), (10, (vi 13)), (34, (.d y1)), (35, (kE 8)), (45, (vb false))]) (b := [])) ?_
 refine kx [(35, (kE 9))] [] (zE (qQ 9 (hr := by decide)) <| zM <| zZ) ?_
 refine jJ (jZ.refl _) ?_
 refine jA <| kx [(36, (vb false))] [] (zE (qY false qS) <| zZ) ?_
 refine jA <| kO ?_
 refine kQ <| jA <| kx [(6, (vb true))] [] (zM <| zM <| zE aO <| zM <| zZ) ?_
 refine jG ⟨_, (.tmp (d := (.val (.bool (true)))) rfl .nil), ?_⟩
 rfl
theorem w_homF (lx ly lz la lb lc ld lf lu lv rx ry rz ra rb rc rd rf ru rv : Int) (right : Bool) (p : qI) (x y : Rat) (hx : eT p.x x 8) (hy : eT p.y y 8) (b0 b1 b2 e00 e01 e02 e10 e11 e12 e20 e21 e22 : Rat) (hF : RFr lx ly lz la lb lc ld rx ry rz ra rb rc rd b0 b1 b2 e00 e01 e02 e10 e11 e12 e20 e21 e22) (zW : QL b0 3) (zV : QL b1 3) (zU : QL b2 3) (vF : QL e00 400) (vG : QL e01 400) (vE : QL e02 400) (vL : QL e10 400) (vM : QL e11 400) (vN : QL e12 400) (vA : QL e20 400) (vB : QL e21 400) (vC : QL e22 400) (tx ty tz ta tb tc td tf tu tv : Int) (x00 : Rat) (dW : (jM (gD ta tb tc td) (gK ta tb tc td) (gO ta tb tc td) e00 e01 e02) = x00) (x01 : Rat) (dS : (jM (gE ta tb tc td) (gJ ta tb tc td) (gP ta tb tc td) e00 e01 e02) = x01) (x02 : Rat) (dP : (jM (zJ ta tb tc td) (yA ta tb tc td) (yB ta tb tc td) e00 e01 e02) = x02) (x10 : Rat) (dU : (jM (gD ta tb tc td) (gK ta tb tc td) (gO ta tb tc td) e10 e11 e12) = x10) (x11 : Rat) (dT : (jM (gE ta tb tc td) (gJ ta tb tc td) (gP ta tb tc td) e10 e11 e12) = x11) (x12 : Rat) (dR : (jM (zJ ta tb tc td) (yA ta tb tc td) (yB ta tb tc td) e10 e11 e12) = x12) (x20 : Rat) (dQ : (jM (gD ta tb tc td) (gK ta tb tc td) (gO ta tb tc td) e20 e21 e22) = x20) (x21 : Rat) (dN : (jM (gE ta tb tc td) (gJ ta tb tc td) (gP ta tb tc td) e20 e21 e22) = x21) (x22 : Rat) (dV : (jM (zJ ta tb tc td) (yA ta tb tc td) (yB ta tb tc td) e20 e21 e22) = x22) (a00 : Rat) (mB : (jM ((1 : Int) : Rat) ((0 : Int) : Rat) ((0 : Int) : Rat) x00 x01 x02) = a00) (a01 : Rat) (mD : (jM ((0 : Int) : Rat) ((1 : Int) : Rat) ((0 : Int) : Rat) x00 x01 x02) = a01) (a02 : Rat) (mC : (jM ((-tu : Int) : Rat) ((-tv : Int) : Rat) ((tf : Int) : Rat) x00 x01 x02) = a02) (a10 : Rat) (nW : (jM ((1 : Int) : Rat) ((0 : Int) : Rat) ((0 : Int) : Rat) x10 x11 x12) = a10) (a11 : Rat) (mE : (jM ((0 : Int) : Rat) ((1 : Int) : Rat) ((0 : Int) : Rat) x10 x11 x12) = a11) (a12 : Rat) (nY : (jM ((-tu : Int) : Rat) ((-tv : Int) : Rat) ((tf : Int) : Rat) x10 x11 x12) = a12) (a20 : Rat) (nX : (jM ((1 : Int) : Rat) ((0 : Int) : Rat) ((0 : Int) : Rat) x20 x21 x22) = a20) (a21 : Rat) (mA : (jM ((0 : Int) : Rat) ((1 : Int) : Rat) ((0 : Int) : Rat) x20 x21 x22) = a21) (a22 : Rat) (nZ : (jM ((-tu : Int) : Rat) ((-tv : Int) : Rat) ((tf : Int) : Rat) x20 x21 x22) = a22) (k0 : Int) (hk0 : (1 * (a00.den : Int)) = k0) (k1 : Int) (hk1 : (k0 * (a01.den : Int)) = k1) (k2 : Int) (hk2 : (k1 * (a02.den : Int)) = k2) (k3 : Int) (hk3 : (k2 * (a10.den : Int)) = k3) (k4 : Int) (hk4 : (k3 * (a11.den : Int)) = k4) (k5 : Int) (hk5 : (k4 * (a12.den : Int)) = k5) (k6 : Int) (hk6 : (k5 * (a20.den : Int)) = k6) (k7 : Int) (hk7 : (k6 * (a21.den : Int)) = k7) (k8 : Int) (hk8 : (k7 * (a22.den : Int)) = k8) (v0 : Int) (hv0 : ((k8.fdiv (a00.den : Int)) * a00.num) = v0) (v1 : Int) (hv1 : ((k8.fdiv (a01.den : Int)) * a01.num) = v1) (v2 : Int) (hv2 : ((k8.fdiv (a02.den : Int)) * a02.num) = v2) (v3 : Int) (hv3 : ((k8.fdiv (a10.den : Int)) * a10.num) = v3) (v4 : Int) (hv4 : ((k8.fdiv (a11.den : Int)) * a11.num) = v4) (v5 : Int) (hv5 : ((k8.fdiv (a12.den : Int)) * a12.num) = v5) (v6 : Int) (hv6 : ((k8.fdiv (a20.den : Int)) * a20.num) = v6) (v7 : Int) (hv7 : ((k8.fdiv (a21.den : Int)) * a21.num) = v7) (v8 : Int) (hv8 : ((k8.fdiv (a22.den : Int)) * a22.num) = v8) (c0 c1 c2 c3 c4 c5 c6 c7 c8 : Int) (hc : xB [v0, v1, v2, v3, v4, v5, v6, v7, v8] = [c0, c1, c2, c3, c4, c5, c6, c7, c8]) (hbr : bM p.x p.y = true) (hl : uL lx ly lz lu lv lf la lb lc ld = 0) (hr : uL rx ry rz ru rv rf ra rb rc rd = 0) (hup : upV la lb lc ld ra rb rc rd b0 b1 b2 = false) (hsd : (bif right then (kJ.mk (jT.mk rx ry rz) (jN.mk ra rb rc rd) rf (kM.mk ru rv)) else (kJ.mk (jT.mk lx ly lz) (jN.mk la lb lc ld) lf (kM.mk lu lv))) = (kJ.mk (jT.mk tx ty tz) (jN.mk ta tb tc td) tf (kM.mk tu tv))) (hst : uL tx ty tz tu tv tf ta tb tc td = 0) (hnz : vK [v0, v1, v2, v3, v4, v5, v6, v7, v8] ≠ 0) (hdv : qX (gN v0 v1 v2 v3 v4 v5 v6 v7 v8) ≠ 0) (bN : (valH [(jK c0), (jK c1), (jK c2), (jK c3), (jK c4), (jK c5), (jK c6), (jK c7), (jK c8)] (gN c0 c1 c2 c3 c4 c5 c6 c7 c8)) = true) (hv : (uV p.x && uV p.y) = false) : kF Tryz.prog 9 [(qP (kY.mk (kJ.mk (jT.mk lx ly lz) (jN.mk la lb lc ld) lf (kM.mk lu lv)) (kJ.mk (jT.mk rx ry rz) (jN.mk ra rb rc rd) rf (kM.mk ru rv)))), (.val (.bool (right))), (kI p)] (.val (.bool (true))) := by
 have hbl := xF hl
 have hbr := xF hr
 obtain ⟨hlx, hly, hlz, hlu, hlv, hlf, hlq⟩ := hbl
 obtain ⟨hrx, hry, hrz, hru, hrv, hrf, hrq⟩ := hbr
 obtain ⟨hla, hlb, hlc, hld, -⟩ := xG hlq
 obtain ⟨hra, hrb, hrc, hrd, -⟩ := xG hrq
 have hnl := nA hla hlb hlc hld
 have hnr := nA hra hrb hrc hrd
 have hz0 := fr_z0 hF hup
 have hz1 := fr_z1 hF hup
 have hz2 := fr_z2 hF hup
 obtain ⟨htx, hty, htz, htu, htv, htf, htq⟩ := xF hst
 obtain ⟨hta, htb, htc, htd, -⟩ := xG htq
 have hnt := nA hta htb htc htd
 let y1 := (qP (kY.mk (kJ.mk (jT.mk lx ly lz) (jN.mk la lb lc ld) lf (kM.mk lu lv)) (kJ.mk (jT.mk rx ry rz) (jN.mk ra rb rc rd) rf (kM.mk ru rv))))
 refine jL Tryz.func9 rfl cb9 rfl ?_
 show uK _ _ _ _ ⟨[(0, (.d y1)), (1, (vb right)), (2, (.d (kI p)))], []⟩
 refine jA <| kx [(3, (.ref 0 0)), (5, (.ref 1 0))] [(0, some (bx y1)), (1, some (bx (kI p)))] (zN (uX 0) <| zN (uX 1) <| zM <| zZ) ?_
 refine jA <| jA <| kx [(17, (vb false))] [] (zE (kC iA) <| zE eX <| zZ) ?_
 refine kO ?_
 refine jD <| jA <| jA <| kx [(20, (vb false))] [] (zR (kA nH) <| zE (qY true (kC (bY p x y (kH hx (by decide)) (kH hy (by decide)))) (by exact hbr)) <| zE eX <| zZ) ?_
 refine kO ?_
 refine jD <| jA ?_
 have bn1 : QL x00 2402 := (jX (Eq.symm dW) (jR (n := 400) (k := 2402) (kB (fM) (by decide)) (kB (eZ) (by decide)) (kB (fH) (by decide)) vF vG vE (by decide)))
 have bn2 : QL x01 2402 := (jX (Eq.symm dS) (jR (n := 400) (k := 2402) (kB (fO) (by decide)) (kB (fG) (by decide)) (kB (fP) (by decide)) vF vG vE (by decide)))
 have bn3 : QL x02 2402 := (jX (Eq.symm dP) (jR (n := 400) (k := 2402) (kB (fJ) (by decide)) (kB (fA) (by decide)) (kB (fF) (by decide)) vF vG vE (by decide)))
 have bn4 : QL x10 2402 := (jX (Eq.symm dU) (jR (n := 400) (k := 2402) (kB (fM) (by decide)) (kB (eZ) (by decide)) (kB (fH) (by decide)) vL vM vN (by decide)))
 have bn5 : QL x11 2402 := (jX (Eq.symm dT) (jR (n := 400) (k := 2402) (kB (fO) (by decide)) (kB (fG) (by decide)) (kB (fP) (by decide)) vL vM vN (by decide)))
 have bn6 : QL x12 2402 := (jX (Eq.symm dR) (jR (n := 400) (k := 2402) (kB (fJ) (by decide)) (kB (fA) (by decide)) (kB (fF) (by decide)) vL vM vN (by decide)))
 have bn7 : QL x20 2402 := (jX (Eq.symm dQ) (jR (n := 400) (k := 2402) (kB (fM) (by decide)) (kB (eZ) (by decide)) (kB (fH) (by decide)) vA vB vC (by decide)))
 have bn8 : QL x21 2402 := (jX (Eq.symm dN) (jR (n := 400) (k := 2402) (kB (fO) (by decide)) (kB (fG) (by decide)) (kB (fP) (by decide)) vA vB vC (by decide)))
 have bn9 : QL x22 2402 := (jX (Eq.symm dV) (jR (n := 400) (k := 2402) (kB (fJ) (by decide)) (kB (fA) (by decide)) (kB (fF) (by decide)) vA vB vC (by decide)))
 have bn10 : QL a00 14414 := (jX (Eq.symm mB) (jR (n := 2402) (k := 14414) (kB (qi 1) (by decide)) (kB (qi 0) (by decide)) (kB (qi 0) (by decide)) bn1 bn2 bn3 (by decide)))
 have bn11 : QL a01 14414 := (jX (Eq.symm mD) (jR (n := 2402) (k := 14414) (kB (qi 0) (by decide)) (kB (qi 1) (by decide)) (kB (qi 0) (by decide)) bn1 bn2 bn3 (by decide)))
 have bn12 : QL a02 14414 := (jX (Eq.symm mC) (jR (n := 2402) (k := 14414) (kB (qi (-tu)) (by decide)) (kB (qi (-tv)) (by decide)) (kB (qi tf) (by decide)) bn1 bn2 bn3 (by decide)))
 have bn13 : QL a10 14414 := (jX (Eq.symm nW) (jR (n := 2402) (k := 14414) (kB (qi 1) (by decide)) (kB (qi 0) (by decide)) (kB (qi 0) (by decide)) bn4 bn5 bn6 (by decide)))
 have bn14 : QL a11 14414 := (jX (Eq.symm mE) (jR (n := 2402) (k := 14414) (kB (qi 0) (by decide)) (kB (qi 1) (by decide)) (kB (qi 0) (by decide)) bn4 bn5 bn6 (by decide)))
 have bn15 : QL a12 14414 := (jX (Eq.symm nY) (jR (n := 2402) (k := 14414) (kB (qi (-tu)) (by decide)) (kB (qi (-tv)) (by decide)) (kB (qi tf) (by decide)) bn4 bn5 bn6 (by decide)))
 have bn16 : QL a20 14414 := (jX (Eq.symm nX) (jR (n := 2402) (k := 14414) (kB (qi 1) (by decide)) (kB (qi 0) (by decide)) (kB (qi 0) (by decide)) bn7 bn8 bn9 (by decide)))
 have bn17 : QL a21 14414 := (jX (Eq.symm mA) (jR (n := 2402) (k := 14414) (kB (qi 0) (by decide)) (kB (qi 1) (by decide)) (kB (qi 0) (by decide)) bn7 bn8 bn9 (by decide)))
 have bn18 : QL a22 14414 := (jX (Eq.symm nZ) (jR (n := 2402) (k := 14414) (kB (qi (-tu)) (by decide)) (kB (qi (-tv)) (by decide)) (kB (qi tf) (by decide)) bn7 bn8 bn9 (by decide)))
 have bn19 : kZ (jK k0) k0 14415 := (kT hk0.symm (jP (k := 14415) (yI (z := 1) (by decide)) (jW bn10) (by decide)))
 have bn20 : kZ (jK k1) k1 28829 := (kT hk1.symm (jP (k := 28829) bn19 (jW bn11) (by decide)))
 have bn21 : kZ (jK k2) k2 43243 := (kT hk2.symm (jP (k := 43243) bn20 (jW bn12) (by decide)))
 have bn22 : kZ (jK k3) k3 57657 := (kT hk3.symm (jP (k := 57657) bn21 (jW bn13) (by decide)))
 have bn23 : kZ (jK k4) k4 72071 := (kT hk4.symm (jP (k := 72071) bn22 (jW bn14) (by decide)))
 have bn24 : kZ (jK k5) k5 86485 := (kT hk5.symm (jP (k := 86485) bn23 (jW bn15) (by decide)))
 have bn25 : kZ (jK k6) k6 100899 := (kT hk6.symm (jP (k := 100899) bn24 (jW bn16) (by decide)))
 have bn26 : kZ (jK k7) k7 115313 := (kT hk7.symm (jP (k := 115313) bn25 (jW bn17) (by decide)))
 have bn27 : kZ (jK k8) k8 129727 := (kT hk8.symm (jP (k := 129727) bn26 (jW bn18) (by decide)))
 have bn28 : kZ (jK v0) v0 144142 := (kT hv0.symm (jP (k := 144142) (qW (k := 129728) bn27 (jW bn10) (by decide)) (kN bn10) (by decide)))
 have bn29 : kZ (jK v1) v1 144142 := (kT hv1.symm (jP (k := 144142) (qW (k := 129728) bn27 (jW bn11) (by decide)) (kN bn11) (by decide)))
 have bn30 : kZ (jK v2) v2 144142 := (kT hv2.symm (jP (k := 144142) (qW (k := 129728) bn27 (jW bn12) (by decide)) (kN bn12) (by decide)))
 have bn31 : kZ (jK v3) v3 144142 := (kT hv3.symm (jP (k := 144142) (qW (k := 129728) bn27 (jW bn13) (by decide)) (kN bn13) (by decide)))
 have bn32 : kZ (jK v4) v4 144142 := (kT hv4.symm (jP (k := 144142) (qW (k := 129728) bn27 (jW bn14) (by decide)) (kN bn14) (by decide)))
 have bn33 : kZ (jK v5) v5 144142 := (kT hv5.symm (jP (k := 144142) (qW (k := 129728) bn27 (jW bn15) (by decide)) (kN bn15) (by decide)))
 have bn34 : kZ (jK v6) v6 144142 := (kT hv6.symm (jP (k := 144142) (qW (k := 129728) bn27 (jW bn16) (by decide)) (kN bn16) (by decide)))
 have bn35 : kZ (jK v7) v7 144142 := (kT hv7.symm (jP (k := 144142) (qW (k := 129728) bn27 (jW bn17) (by decide)) (kN bn17) (by decide)))
 have bn36 : kZ (jK v8) v8 144142 := (kT hv8.symm (jP (k := 144142) (qW (k := 129728) bn27 (jW bn18) (by decide)) (kN bn18) (by decide)))
 have bn37 : ∀ c ∈ [c0, c1, c2, c3, c4, c5, c6, c7, c8], kZ (jK c) c 144142 := mZ (n := 144142) (.cons bn28 (.cons bn29 (.cons bn30 (.cons bn31 (.cons bn32 (.cons bn33 (.cons bn34 (.cons bn35 (.cons bn36 .nil))))))))) hc
 refine kx [(7, (.ref 2 0)), (8, (vi 0))] [(2, some (bx (qL (A9.mk (jK c0) (jK c1) (jK c2) (jK c3) (jK c4) (jK c5) (jK c6) (jK c7) (jK c8)))))] (zR (kA bQ) <| zM <| zE (kC (q_hom lx ly lz la lb lc ld lf lu lv rx ry rz ra rb rc rd rf ru rv right b0 b1 b2 e00 e01 e02 e10 e11 e12 e20 e21 e22 hF zW zV zU vF vG vE vL vM vN vA vB vC tx ty tz ta tb tc td tf tu tv x00 dW x01 dS x02 dP x10 dU x11 dT x12 dR x20 dQ x21 dN x22 dV a00 mB a01 mD a02 mC a10 nW a11 mE a12 nY a20 nX a21 mA a22 nZ k0 hk0 k1 hk1 k2 hk2 k3 hk3 k4 hk4 k5 hk5 k6 hk6 k7 hk7 k8 hk8 v0 hv0 v1 hv1 v2 hv2 v3 hv3 v4 hv4 v5 hv5 v6 hv6 v7 hv7 v8 hv8 c0 c1 c2 c3 c4 c5 c6 c7 c8 hc hl hr hup hsd hst hnz hdv)) <| zM <| zE uH <| zE uH <| zN (qH 2 ze98 zo98) <| zT (kR mI) <| zM <| zZ) ?_
 refine jA <| kx [(9, (.ref 3 0)), (10, (vi 0))] [(3, some (bx (yE (RLp.mk (kY.mk (kJ.mk (jT.mk lx ly lz) (jN.mk la lb lc ld) lf (kM.mk lu lv)) (kJ.mk (jT.mk rx ry rz) (jN.mk ra rb rc rd) rf (kM.mk ru rv))) (A3.mk (jC b0) (jC b1) (jC b2)) (A3.mk (A3.mk (jC e00) (jC e01) (jC e02)) (A3.mk (jC e10) (jC e11) (jC e12)) (A3.mk (jC e20) (jC e21) (jC e22)))))))] (zR (kA bQ) <| zE (kC (qs_pre lx ly lz la lb lc ld lf lu lv rx ry rz ra rb rc rd rf ru rv b0 b1 b2 e00 e01 e02 e10 e11 e12 e20 e21 e22 hF zW zV zU vF vG vE vL vM vN vA vB vC hl hr hup)) <| zM <| zE uH <| zE uH <| zN (qH 3 ze47 zo47) <| zT (kR eO) <| zM <| zZ) ?_
 refine jA <| jA <| kx [(33, (vb false))] [] (zM <| zE mR <| zZ) ?_
 refine kO ?_
 refine jD <| jA <| jA <| kx [(56, (vb false))] [] (zM <| zE mR <| zM <| zR (kA mI) <| zE (qY true (kC (l_Valid (A9.mk (jK c0) (jK c1) (jK c2) (jK c3) (jK c4) (jK c5) (jK c6) (jK c7) (jK c8)) c0 c1 c2 c3 c4 c5 c6 c7 c8 (qJ (bn37 c0 (by simp)) (by decide)) (qJ (bn37 c1 (by simp)) (by decide)) (qJ (bn37 c2 (by simp)) (by decide)) (qJ (bn37 c3 (by simp)) (by decide)) (qJ (bn37 c4 (by simp)) (by decide)) (qJ (bn37 c5 (by simp)) (by decide)) (qJ (bn37 c6 (by simp)) (by decide)) (qJ (bn37 c7 (by simp)) (by decide)) (qJ (bn37 c8 (by simp)) (by decide)))) (by exact bN)) <| zE eX <| zE fC <| zZ) ?_
 refine kO ?_
 refine jD <| jA <| jA <| kx [(59, (vb true))] [] (zR (kA nH) <| zE (kC (qs_canF p x y (kH hx (by decide)) (kH hy (by decide)) hv)) <| zE mR <| zZ) ?_
 refine kD ?_
 refine jA <| kx [(6, (vb true))] [] (zM <| zZ) ?_
 refine jG ⟨_, (.tmp (d := (.val (.bool (true)))) rfl .nil), ?_⟩
 rfl
theorem w_homB (lx ly lz la lb lc ld lf lu lv rx ry rz ra rb rc rd rf ru rv : Int) (right : Bool) (x y : Rat) (hx : QL x 8) (hy : QL y 8) (b0 b1 b2 e00 e01 e02 e10 e11 e12 e20 e21 e22 : Rat) (hF : RFr lx ly lz la lb lc ld rx ry rz ra rb rc rd b0 b1 b2 e00 e01 e02 e10 e11 e12 e20 e21 e22) (zW : QL b0 3) (zV : QL b1 3) (zU : QL b2 3) (vF : QL e00 400) (vG : QL e01 400) (vE : QL e02 400) (vL : QL e10 400) (vM : QL e11 400) (vN : QL e12 400) (vA : QL e20 400) (vB : QL e21 400) (vC : QL e22 400) (tx ty tz ta tb tc td tf tu tv : Int) (x00 : Rat) (dW : (jM (gD ta tb tc td) (gK ta tb tc td) (gO ta tb tc td) e00 e01 e02) = x00) (x01 : Rat) (dS : (jM (gE ta tb tc td) (gJ ta tb tc td) (gP ta tb tc td) e00 e01 e02) = x01) (x02 : Rat) (dP : (jM (zJ ta tb tc td) (yA ta tb tc td) (yB ta tb tc td) e00 e01 e02) = x02) (x10 : Rat) (dU : (jM (gD ta tb tc td) (gK ta tb tc td) (gO ta tb tc td) e10 e11 e12) = x10) (x11 : Rat) (dT : (jM (gE ta tb tc td) (gJ ta tb tc td) (gP ta tb tc td) e10 e11 e12) = x11) (x12 : Rat) (dR : (jM (zJ ta tb tc td) (yA ta tb tc td) (yB ta tb tc td) e10 e11 e12) = x12) (x20 : Rat) (dQ : (jM (gD ta tb tc td) (gK ta tb tc td) (gO ta tb tc td) e20 e21 e22) = x20) (x21 : Rat) (dN : (jM (gE ta tb tc td) (gJ ta tb tc td) (gP ta tb tc td) e20 e21 e22) = x21) (x22 : Rat) (dV : (jM (zJ ta tb tc td) (yA ta tb tc td) (yB ta tb tc td) e20 e21 e22) = x22) (a00 : Rat) (mB : (jM ((1 : Int) : Rat) ((0 : Int) : Rat) ((0 : Int) : Rat) x00 x01 x02) = a00) (a01 : Rat) (mD : (jM ((0 : Int) : Rat) ((1 : Int) : Rat) ((0 : Int) : Rat) x00 x01 x02) = a01) (a02 : Rat) (mC : (jM ((-tu : Int) : Rat) ((-tv : Int) : Rat) ((tf : Int) : Rat) x00 x01 x02) = a02) (a10 : Rat) (nW : (jM ((1 : Int) : Rat) ((0 : Int) : Rat) ((0 : Int) : Rat) x10 x11 x12) = a10) (a11 : Rat) (mE : (jM ((0 : Int) : Rat) ((1 : Int) : Rat) ((0 : Int) : Rat) x10 x11 x12) = a11) (a12 : Rat) (nY : (jM ((-tu : Int) : Rat) ((-tv : Int) : Rat) ((tf : Int) : Rat) x10 x11 x12) = a12) (a20 : Rat) (nX : (jM ((1 : Int) : Rat) ((0 : Int) : Rat) ((0 : Int) : Rat) x20 x21 x22) = a20) (a21 : Rat) (mA : (jM ((0 : Int) : Rat) ((1 : Int) : Rat) ((0 : Int) : Rat) x20 x21 x22) = a21) (a22 : Rat) (nZ : (jM ((-tu : Int) : Rat) ((-tv : Int) : Rat) ((tf : Int) : Rat) x20 x21 x22) = a22) (k0 : Int) (hk0 : (1 * (a00.den : Int)) = k0) (k1 : Int) (hk1 : (k0 * (a01.den : Int)) = k1) (k2 : Int) (hk2 : (k1 * (a02.den : Int)) = k2) (k3 : Int) (hk3 : (k2 * (a10.den : Int)) = k3) (k4 : Int) (hk4 : (k3 * (a11.den : Int)) = k4) (k5 : Int) (hk5 : (k4 * (a12.den : Int)) = k5) (k6 : Int) (hk6 : (k5 * (a20.den : Int)) = k6) (k7 : Int) (hk7 : (k6 * (a21.den : Int)) = k7) (k8 : Int) (hk8 : (k7 * (a22.den : Int)) = k8) (v0 : Int) (hv0 : ((k8.fdiv (a00.den : Int)) * a00.num) = v0) (v1 : Int) (hv1 : ((k8.fdiv (a01.den : Int)) * a01.num) = v1) (v2 : Int) (hv2 : ((k8.fdiv (a02.den : Int)) * a02.num) = v2) (v3 : Int) (hv3 : ((k8.fdiv (a10.den : Int)) * a10.num) = v3) (v4 : Int) (hv4 : ((k8.fdiv (a11.den : Int)) * a11.num) = v4) (v5 : Int) (hv5 : ((k8.fdiv (a12.den : Int)) * a12.num) = v5) (v6 : Int) (hv6 : ((k8.fdiv (a20.den : Int)) * a20.num) = v6) (v7 : Int) (hv7 : ((k8.fdiv (a21.den : Int)) * a21.num) = v7) (v8 : Int) (hv8 : ((k8.fdiv (a22.den : Int)) * a22.num) = v8) (w0 : Rat) (hw0 : (jM (gD ta tb tc td) (gE ta tb tc td) (zJ ta tb tc td) (x - ((tu : Int) : Rat)) (y - ((tv : Int) : Rat)) ((tf : Int) : Rat)) = w0) (w1 : Rat) (hw1 : (jM (gK ta tb tc td) (gJ ta tb tc td) (yA ta tb tc td) (x - ((tu : Int) : Rat)) (y - ((tv : Int) : Rat)) ((tf : Int) : Rat)) = w1) (w2 : Rat) (hw2 : (jM (gO ta tb tc td) (gP ta tb tc td) (yB ta tb tc td) (x - ((tu : Int) : Rat)) (y - ((tv : Int) : Rat)) ((tf : Int) : Rat)) = w2) (c0 c1 c2 c3 c4 c5 c6 c7 c8 : Int) (hc : xB [v0, v1, v2, v3, v4, v5, v6, v7, v8] = [c0, c1, c2, c3, c4, c5, c6, c7, c8]) (hbr : bM (jC x) (jC y) = true) (hl : uL lx ly lz lu lv lf la lb lc ld = 0) (hr : uL rx ry rz ru rv rf ra rb rc rd = 0) (hup : upV la lb lc ld ra rb rc rd b0 b1 b2 = false) (hsd : (bif right then (kJ.mk (jT.mk rx ry rz) (jN.mk ra rb rc rd) rf (kM.mk ru rv)) else (kJ.mk (jT.mk lx ly lz) (jN.mk la lb lc ld) lf (kM.mk lu lv))) = (kJ.mk (jT.mk tx ty tz) (jN.mk ta tb tc td) tf (kM.mk tu tv))) (hst : uL tx ty tz tu tv tf ta tb tc td = 0) (hnz : vK [v0, v1, v2, v3, v4, v5, v6, v7, v8] ≠ 0) (hdv : qX (gN v0 v1 v2 v3 v4 v5 v6 v7 v8) ≠ 0) (bN : (valH [(jK c0), (jK c1), (jK c2), (jK c3), (jK c4), (jK c5), (jK c6), (jK c7), (jK c8)] (gN c0 c1 c2 c3 c4 c5 c6 c7 c8)) = true) (hd : (yT (jM e20 e21 e22 w0 w1 w2)) ≤ 0) : kF Tryz.prog 9 [(qP (kY.mk (kJ.mk (jT.mk lx ly lz) (jN.mk la lb lc ld) lf (kM.mk lu lv)) (kJ.mk (jT.mk rx ry rz) (jN.mk ra rb rc rd) rf (kM.mk ru rv)))), (.val (.bool (right))), (kI (qI.mk (jC x) (jC y)))] (.val (.bool (true))) := by
 have hbl := xF hl
 have hbr := xF hr
 obtain ⟨hlx, hly, hlz, hlu, hlv, hlf, hlq⟩ := hbl
 obtain ⟨hrx, hry, hrz, hru, hrv, hrf, hrq⟩ := hbr
 obtain ⟨hla, hlb, hlc, hld, -⟩ := xG hlq
 obtain ⟨hra, hrb, hrc, hrd, -⟩ := xG hrq
 have hnl := nA hla hlb hlc hld
 have hnr := nA hra hrb hrc hrd
 have hz0 := fr_z0 hF hup
 have hz1 := fr_z1 hF hup
 have hz2 := fr_z2 hF hup
 obtain ⟨htx, hty, htz, htu, htv, htf, htq⟩ := xF hst
 obtain ⟨hta, htb, htc, htd, -⟩ := xG htq
 have hnt := nA hta htb htc htd
 let y1 := (qP (kY.mk (kJ.mk (jT.mk lx ly lz) (jN.mk la lb lc ld) lf (kM.mk lu lv)) (kJ.mk (jT.mk rx ry rz) (jN.mk ra rb rc rd) rf (kM.mk ru rv))))
 refine jL Tryz.func9 rfl cb9 rfl ?_
 show uK _ _ _ _ ⟨[(0, (.d y1)), (1, (vb right)), (2, (.d (kI (qI.mk (jC x) (jC y)))))], []⟩
 refine jA <| kx [(3, (.ref 0 0)), (5, (.ref 1 0))] [(0, some (bx y1)), (1, some (bx (kI (qI.mk (jC x) (jC y)))))] (zN (uX 0) <| zN (uX 1) <| zM <| zZ) ?_
 refine jA <| jA <| kx [(17, (vb false))] [] (zE (kC iA) <| zE eX <| zZ) ?_
 refine kO ?_
 refine jD <| jA <| jA <| kx [(20, (vb false))] [] (zR (kA nH) <| zE (qY true (kC (bY (qI.mk (jC x) (jC y)) x y (kH (kL hx) (by decide)) (kH (kL hy) (by decide)))) (by exact hbr)) <| zE eX <| zZ) ?_
 refine kO ?_
 refine jD <| jA ?_
 have bn1 : QL x00 2402 := (jX (Eq.symm dW) (jR (n := 400) (k := 2402) (kB (fM) (by decide)) (kB (eZ) (by decide)) (kB (fH) (by decide)) vF vG vE (by decide)))
 have bn2 : QL x01 2402 := (jX (Eq.symm dS) (jR (n := 400) (k := 2402) (kB (fO) (by decide)) (kB (fG) (by decide)) (kB (fP) (by decide)) vF vG vE (by decide)))
 have bn3 : QL x02 2402 := (jX (Eq.symm dP) (jR (n := 400) (k := 2402) (kB (fJ) (by decide)) (kB (fA) (by decide)) (kB (fF) (by decide)) vF vG vE (by decide)))
 have bn4 : QL x10 2402 := (jX (Eq.symm dU) (jR (n := 400) (k := 2402) (kB (fM) (by decide)) (kB (eZ) (by decide)) (kB (fH) (by decide)) vL vM vN (by decide)))
 have bn5 : QL x11 2402 := (jX (Eq.symm dT) (jR (n := 400) (k := 2402) (kB (fO) (by decide)) (kB (fG) (by decide)) (kB (fP) (by decide)) vL vM vN (by decide)))
 have bn6 : QL x12 2402 := (jX (Eq.symm dR) (jR (n := 400) (k := 2402) (kB (fJ) (by decide)) (kB (fA) (by decide)) (kB (fF) (by decide)) vL vM vN (by decide)))
 have bn7 : QL x20 2402 := (jX (Eq.symm dQ) (jR (n := 400) (k := 2402) (kB (fM) (by decide)) (kB (eZ) (by decide)) (kB (fH) (by decide)) vA vB vC (by decide)))
 have bn8 : QL x21 2402 := (jX (Eq.symm dN) (jR (n := 400) (k := 2402) (kB (fO) (by decide)) (kB (fG) (by decide)) (kB (fP) (by decide)) vA vB vC (by decide)))
 have bn9 : QL x22 2402 := (jX (Eq.symm dV) (jR (n := 400) (k := 2402) (kB (fJ) (by decide)) (kB (fA) (by decide)) (kB (fF) (by decide)) vA vB vC (by decide)))
 have bn10 : QL a00 14414 := (jX (Eq.symm mB) (jR (n := 2402) (k := 14414) (kB (qi 1) (by decide)) (kB (qi 0) (by decide)) (kB (qi 0) (by decide)) bn1 bn2 bn3 (by decide)))
 have bn11 : QL a01 14414 := (jX (Eq.symm mD) (jR (n := 2402) (k := 14414) (kB (qi 0) (by decide)) (kB (qi 1) (by decide)) (kB (qi 0) (by decide)) bn1 bn2 bn3 (by decide)))
 have bn12 : QL a02 14414 := (jX (Eq.symm mC) (jR (n := 2402) (k := 14414) (kB (qi (-tu)) (by decide)) (kB (qi (-tv)) (by decide)) (kB (qi tf) (by decide)) bn1 bn2 bn3 (by decide)))
 have bn13 : QL a10 14414 := (jX (Eq.symm nW) (jR (n := 2402) (k := 14414) (kB (qi 1) (by decide)) (kB (qi 0) (by decide)) (kB (qi 0) (by decide)) bn4 bn5 bn6 (by decide)))
 have bn14 : QL a11 14414 := (jX (Eq.symm mE) (jR (n := 2402) (k := 14414) (kB (qi 0) (by decide)) (kB (qi 1) (by decide)) (kB (qi 0) (by decide)) bn4 bn5 bn6 (by decide)))
 have bn15 : QL a12 14414 := (jX (Eq.symm nY) (jR (n := 2402) (k := 14414) (kB (qi (-tu)) (by decide)) (kB (qi (-tv)) (by decide)) (kB (qi tf) (by decide)) bn4 bn5 bn6 (by decide)))
 have bn16 : QL a20 14414 := (jX (Eq.symm nX) (jR (n := 2402) (k := 14414) (kB (qi 1) (by decide)) (kB (qi 0) (by decide)) (kB (qi 0) (by decide)) bn7 bn8 bn9 (by decide)))
 have bn17 : QL a21 14414 := (jX (Eq.symm mA) (jR (n := 2402) (k := 14414) (kB (qi 0) (by decide)) (kB (qi 1) (by decide)) (kB (qi 0) (by decide)) bn7 bn8 bn9 (by decide)))
 have bn18 : QL a22 14414 := (jX (Eq.symm nZ) (jR (n := 2402) (k := 14414) (kB (qi (-tu)) (by decide)) (kB (qi (-tv)) (by decide)) (kB (qi tf) (by decide)) bn7 bn8 bn9 (by decide)))
 have bn19 : kZ (jK k0) k0 14415 := (kT hk0.symm (jP (k := 14415) (yI (z := 1) (by decide)) (jW bn10) (by decide)))
 have bn20 : kZ (jK k1) k1 28829 := (kT hk1.symm (jP (k := 28829) bn19 (jW bn11) (by decide)))
 have bn21 : kZ (jK k2) k2 43243 := (kT hk2.symm (jP (k := 43243) bn20 (jW bn12) (by decide)))
 have bn22 : kZ (jK k3) k3 57657 := (kT hk3.symm (jP (k := 57657) bn21 (jW bn13) (by decide)))
 have bn23 : kZ (jK k4) k4 72071 := (kT hk4.symm (jP (k := 72071) bn22 (jW bn14) (by decide)))
 have bn24 : kZ (jK k5) k5 86485 := (kT hk5.symm (jP (k := 86485) bn23 (jW bn15) (by decide)))
 have bn25 : kZ (jK k6) k6 100899 := (kT hk6.symm (jP (k := 100899) bn24 (jW bn16) (by decide)))
 have bn26 : kZ (jK k7) k7 115313 := (kT hk7.symm (jP (k := 115313) bn25 (jW bn17) (by decide)))
 have bn27 : kZ (jK k8) k8 129727 := (kT hk8.symm (jP (k := 129727) bn26 (jW bn18) (by decide)))
 have bn28 : kZ (jK v0) v0 144142 := (kT hv0.symm (jP (k := 144142) (qW (k := 129728) bn27 (jW bn10) (by decide)) (kN bn10) (by decide)))
 have bn29 : kZ (jK v1) v1 144142 := (kT hv1.symm (jP (k := 144142) (qW (k := 129728) bn27 (jW bn11) (by decide)) (kN bn11) (by decide)))
 have bn30 : kZ (jK v2) v2 144142 := (kT hv2.symm (jP (k := 144142) (qW (k := 129728) bn27 (jW bn12) (by decide)) (kN bn12) (by decide)))
 have bn31 : kZ (jK v3) v3 144142 := (kT hv3.symm (jP (k := 144142) (qW (k := 129728) bn27 (jW bn13) (by decide)) (kN bn13) (by decide)))
 have bn32 : kZ (jK v4) v4 144142 := (kT hv4.symm (jP (k := 144142) (qW (k := 129728) bn27 (jW bn14) (by decide)) (kN bn14) (by decide)))
 have bn33 : kZ (jK v5) v5 144142 := (kT hv5.symm (jP (k := 144142) (qW (k := 129728) bn27 (jW bn15) (by decide)) (kN bn15) (by decide)))
 have bn34 : kZ (jK v6) v6 144142 := (kT hv6.symm (jP (k := 144142) (qW (k := 129728) bn27 (jW bn16) (by decide)) (kN bn16) (by decide)))
 have bn35 : kZ (jK v7) v7 144142 := (kT hv7.symm (jP (k := 144142) (qW (k := 129728) bn27 (jW bn17) (by decide)) (kN bn17) (by decide)))
 have bn36 : kZ (jK v8) v8 144142 := (kT hv8.symm (jP (k := 144142) (qW (k := 129728) bn27 (jW bn18) (by decide)) (kN bn18) (by decide)))
 have bn37 : ∀ c ∈ [c0, c1, c2, c3, c4, c5, c6, c7, c8], kZ (jK c) c 144142 := mZ (n := 144142) (.cons bn28 (.cons bn29 (.cons bn30 (.cons bn31 (.cons bn32 (.cons bn33 (.cons bn34 (.cons bn35 (.cons bn36 .nil))))))))) hc
 refine kx [(7, (.ref 2 0)), (8, (vi 0))] [(2, some (bx (qL (A9.mk (jK c0) (jK c1) (jK c2) (jK c3) (jK c4) (jK c5) (jK c6) (jK c7) (jK c8)))))] (zR (kA bQ) <| zM <| zE (kC (q_hom lx ly lz la lb lc ld lf lu lv rx ry rz ra rb rc rd rf ru rv right b0 b1 b2 e00 e01 e02 e10 e11 e12 e20 e21 e22 hF zW zV zU vF vG vE vL vM vN vA vB vC tx ty tz ta tb tc td tf tu tv x00 dW x01 dS x02 dP x10 dU x11 dT x12 dR x20 dQ x21 dN x22 dV a00 mB a01 mD a02 mC a10 nW a11 mE a12 nY a20 nX a21 mA a22 nZ k0 hk0 k1 hk1 k2 hk2 k3 hk3 k4 hk4 k5 hk5 k6 hk6 k7 hk7 k8 hk8 v0 hv0 v1 hv1 v2 hv2 v3 hv3 v4 hv4 v5 hv5 v6 hv6 v7 hv7 v8 hv8 c0 c1 c2 c3 c4 c5 c6 c7 c8 hc hl hr hup hsd hst hnz hdv)) <| zM <| zE uH <| zE uH <| zN (qH 2 ze98 zo98) <| zT (kR mI) <| zM <| zZ) ?_
 refine jA <| kx [(9, (.ref 3 0)), (10, (vi 0))] [(3, some (bx (yE (RLp.mk (kY.mk (kJ.mk (jT.mk lx ly lz) (jN.mk la lb lc ld) lf (kM.mk lu lv)) (kJ.mk (jT.mk rx ry rz) (jN.mk ra rb rc rd) rf (kM.mk ru rv))) (A3.mk (jC b0) (jC b1) (jC b2)) (A3.mk (A3.mk (jC e00) (jC e01) (jC e02)) (A3.mk (jC e10) (jC e11) (jC e12)) (A3.mk (jC e20) (jC e21) (jC e22)))))))] (zR (kA bQ) <| zE (kC (qs_pre lx ly lz la lb lc ld lf lu lv rx ry rz ra rb rc rd rf ru rv b0 b1 b2 e00 e01 e02 e10 e11 e12 e20 e21 e22 hF zW zV zU vF vG vE vL vM vN vA vB vC hl hr hup)) <| zM <| zE uH <| zE uH <| zN (qH 3 ze47 zo47) <| zT (kR eO) <| zM <| zZ) ?_
 refine jA <| jA <| kx [(33, (vb false))] [] (zM <| zE mR <| zZ) ?_
 refine kO ?_
 refine jD <| jA <| jA <| kx [(56, (vb false))] [] (zM <| zE mR <| zM <| zR (kA mI) <| zE (qY true (kC (l_Valid (A9.mk (jK c0) (jK c1) (jK c2) (jK c3) (jK c4) (jK c5) (jK c6) (jK c7) (jK c8)) c0 c1 c2 c3 c4 c5 c6 c7 c8 (qJ (bn37 c0 (by simp)) (by decide)) (qJ (bn37 c1 (by simp)) (by decide)) (qJ (bn37 c2 (by simp)) (by decide)) (qJ (bn37 c3 (by simp)) (by decide)) (qJ (bn37 c4 (by simp)) (by decide)) (qJ (bn37 c5 (by simp)) (by decide)) (qJ (bn37 c6 (by simp)) (by decide)) (qJ (bn37 c7 (by simp)) (by decide)) (qJ (bn37 c8 (by simp)) (by decide)))) (by exact bN)) <| zE eX <| zE fC <| zZ) ?_
 refine kO ?_
 refine jD <| jA <| jA <| kx [(59, (vb false))] [] (zR (kA nH) <| zE (kC (qs_canT x y (qu hx) (qu hy))) <| zE mR <| zZ) ?_
 refine kO ?_
 refine jD <| jA ?_
 have bn38 : QL w0 74 := (jX (Eq.symm hw0) (jR (n := 12) (k := 74) (kB (fM) (by decide)) (kB (fO) (by decide)) (kB (fJ) (by decide)) (qZ (k := 12) hx (qi tu) (by decide)) (qZ (k := 12) hy (qi tv) (by decide)) (kB (qi tf) (by decide)) (by decide)))
 have bn39 : QL w1 74 := (jX (Eq.symm hw1) (jR (n := 12) (k := 74) (kB (eZ) (by decide)) (kB (fG) (by decide)) (kB (fA) (by decide)) (qZ (k := 12) hx (qi tu) (by decide)) (qZ (k := 12) hy (qi tv) (by decide)) (kB (qi tf) (by decide)) (by decide)))
 have bn40 : QL w2 74 := (jX (Eq.symm hw2) (jR (n := 12) (k := 74) (kB (fH) (by decide)) (kB (fP) (by decide)) (kB (fF) (by decide)) (qZ (k := 12) hx (qi tu) (by decide)) (qZ (k := 12) hy (qi tv) (by decide)) (kB (qi tf) (by decide)) (by decide)))
 refine kx [(10, (vi 20)), (13, (.ref 4 0))] [(4, some (bx (kI (qI.mk (kG.mk (jF.mk false []) (jF.mk false [])) (kG.mk (jF.mk false []) (jF.mk false []))))))] (zR (kA eO) <| zM <| zR (kA nH) <| zE (kC (qs_recN lx ly lz la lb lc ld lf lu lv rx ry rz ra rb rc rd rf ru rv b0 b1 b2 e00 e01 e02 e10 e11 e12 e20 e21 e22 zW zV zU vF vG vE vL vM vN vA vB vC right x y (qu hx) (qu hy) tx ty tz ta tb tc td tf tu tv w0 hw0 w1 hw1 w2 hw2 hsd hst hd)) <| zM <| zE uH <| zE uH <| zN (qH 4 ze56 zo56) <| zT (kR nH) <| zM <| zZ) ?_
 refine jA <| jA <| kx [(68, (vb true))] [] (zM <| zE mR <| zZ) ?_
 refine kD ?_
 refine jA <| kx [(6, (vb true))] [] (zM <| zZ) ?_
 refine jG ⟨_, (.tmp (d := (.val (.bool (true)))) rfl .nil), ?_⟩
 rfl
theorem w_homO (lx ly lz la lb lc ld lf lu lv rx ry rz ra rb rc rd rf ru rv : Int) (right : Bool) (x y : Rat) (hx : QL x 8) (hy : QL y 8) (b0 b1 b2 e00 e01 e02 e10 e11 e12 e20 e21 e22 : Rat) (hF : RFr lx ly lz la lb lc ld rx ry rz ra rb rc rd b0 b1 b2 e00 e01 e02 e10 e11 e12 e20 e21 e22) (zW : QL b0 3) (zV : QL b1 3) (zU : QL b2 3) (vF : QL e00 400) (vG : QL e01 400) (vE : QL e02 400) (vL : QL e10 400) (vM : QL e11 400) (vN : QL e12 400) (vA : QL e20 400) (vB : QL e21 400) (vC : QL e22 400) (tx ty tz ta tb tc td tf tu tv : Int) (x00 : Rat) (dW : (jM (gD ta tb tc td) (gK ta tb tc td) (gO ta tb tc td) e00 e01 e02) = x00) (x01 : Rat) (dS : (jM (gE ta tb tc td) (gJ ta tb tc td) (gP ta tb tc td) e00 e01 e02) = x01) (x02 : Rat) (dP : (jM (zJ ta tb tc td) (yA ta tb tc td) (yB ta tb tc td) e00 e01 e02) = x02) (x10 : Rat) (dU : (jM (gD ta tb tc td) (gK ta tb tc td) (gO ta tb tc td) e10 e11 e12) = x10) (x11 : Rat) (dT : (jM (gE ta tb tc td) (gJ ta tb tc td) (gP ta tb tc td) e10 e11 e12) = x11) (x12 : Rat) (dR : (jM (zJ ta tb tc td) (yA ta tb tc td) (yB ta tb tc td) e10 e11 e12) = x12) (x20 : Rat) (dQ : (jM (gD ta tb tc td) (gK ta tb tc td) (gO ta tb tc td) e20 e21 e22) = x20) (x21 : Rat) (dN : (jM (gE ta tb tc td) (gJ ta tb tc td) (gP ta tb tc td) e20 e21 e22) = x21) (x22 : Rat) (dV : (jM (zJ ta tb tc td) (yA ta tb tc td) (yB ta tb tc td) e20 e21 e22) = x22) (a00 : Rat) (mB : (jM ((1 : Int) : Rat) ((0 : Int) : Rat) ((0 : Int) : Rat) x00 x01 x02) = a00) (a01 : Rat) (mD : (jM ((0 : Int) : Rat) ((1 : Int) : Rat) ((0 : Int) : Rat) x00 x01 x02) = a01) (a02 : Rat) (mC : (jM ((-tu : Int) : Rat) ((-tv : Int) : Rat) ((tf : Int) : Rat) x00 x01 x02) = a02) (a10 : Rat) (nW : (jM ((1 : Int) : Rat) ((0 : Int) : Rat) ((0 : Int) : Rat) x10 x11 x12) = a10) (a11 : Rat) (mE : (jM ((0 : Int) : Rat) ((1 : Int) : Rat) ((0 : Int) : Rat) x10 x11 x12) = a11) (a12 : Rat) (nY : (jM ((-tu : Int) : Rat) ((-tv : Int) : Rat) ((tf : Int) : Rat) x10 x11 x12) = a12) (a20 : Rat) (nX : (jM ((1 : Int) : Rat) ((0 : Int) : Rat) ((0 : Int) : Rat) x20 x21 x22) = a20) (a21 : Rat) (mA : (jM ((0 : Int) : Rat) ((1 : Int) : Rat) ((0 : Int) : Rat) x20 x21 x22) = a21) (a22 : Rat) (nZ : (jM ((-tu : Int) : Rat) ((-tv : Int) : Rat) ((tf : Int) : Rat) x20 x21 x22) = a22) (k0 : Int) (hk0 : (1 * (a00.den : Int)) = k0) (k1 : Int) (hk1 : (k0 * (a01.den : Int)) = k1) (k2 : Int) (hk2 : (k1 * (a02.den : Int)) = k2) (k3 : Int) (hk3 : (k2 * (a10.den : Int)) = k3) (k4 : Int) (hk4 : (k3 * (a11.den : Int)) = k4) (k5 : Int) (hk5 : (k4 * (a12.den : Int)) = k5) (k6 : Int) (hk6 : (k5 * (a20.den : Int)) = k6) (k7 : Int) (hk7 : (k6 * (a21.den : Int)) = k7) (k8 : Int) (hk8 : (k7 * (a22.den : Int)) = k8) (v0 : Int) (hv0 : ((k8.fdiv (a00.den : Int)) * a00.num) = v0) (v1 : Int) (hv1 : ((k8.fdiv (a01.den : Int)) * a01.num) = v1) (v2 : Int) (hv2 : ((k8.fdiv (a02.den : Int)) * a02.num) = v2) (v3 : Int) (hv3 : ((k8.fdiv (a10.den : Int)) * a10.num) = v3) (v4 : Int) (hv4 : ((k8.fdiv (a11.den : Int)) * a11.num) = v4) (v5 : Int) (hv5 : ((k8.fdiv (a12.den : Int)) * a12.num) = v5) (v6 : Int) (hv6 : ((k8.fdiv (a20.den : Int)) * a20.num) = v6) (v7 : Int) (hv7 : ((k8.fdiv (a21.den : Int)) * a21.num) = v7) (v8 : Int) (hv8 : ((k8.fdiv (a22.den : Int)) * a22.num) = v8) (w0 : Rat) (hw0 : (jM (gD ta tb tc td) (gE ta tb tc td) (zJ ta tb tc td) (x - ((tu : Int) : Rat)) (y - ((tv : Int) : Rat)) ((tf : Int) : Rat)) = w0) (w1 : Rat) (hw1 : (jM (gK ta tb tc td) (gJ ta tb tc td) (yA ta tb tc td) (x - ((tu : Int) : Rat)) (y - ((tv : Int) : Rat)) ((tf : Int) : Rat)) = w1) (w2 : Rat) (hw2 : (jM (gO ta tb tc td) (gP ta tb tc td) (yB ta tb tc td) (x - ((tu : Int) : Rat)) (y - ((tv : Int) : Rat)) ((tf : Int) : Rat)) = w2) (c0 c1 c2 c3 c4 c5 c6 c7 c8 : Int) (hc : xB [v0, v1, v2, v3, v4, v5, v6, v7, v8] = [c0, c1, c2, c3, c4, c5, c6, c7, c8]) (p0 p1 p2 : Int) (hp : xB [(x.num * (y.den : Int)), (y.num * (x.den : Int)), ((x.den : Int) * (y.den : Int))] = [p0, p1, p2]) (t0 t1 t2 : Int) (ht : xB [(((c0 * p0) + (c1 * p1)) + (c2 * p2)), (((c3 * p0) + (c4 * p1)) + (c5 * p2)), (((c6 * p0) + (c7 * p1)) + (c8 * p2))] = [t0, t1, t2]) (hbr : bM (jC x) (jC y) = true) (hl : uL lx ly lz lu lv lf la lb lc ld = 0) (hr : uL rx ry rz ru rv rf ra rb rc rd = 0) (hup : upV la lb lc ld ra rb rc rd b0 b1 b2 = false) (hsd : (bif right then (kJ.mk (jT.mk rx ry rz) (jN.mk ra rb rc rd) rf (kM.mk ru rv)) else (kJ.mk (jT.mk lx ly lz) (jN.mk la lb lc ld) lf (kM.mk lu lv))) = (kJ.mk (jT.mk tx ty tz) (jN.mk ta tb tc td) tf (kM.mk tu tv))) (hst : uL tx ty tz tu tv tf ta tb tc td = 0) (hnz : vK [v0, v1, v2, v3, v4, v5, v6, v7, v8] ≠ 0) (hdv : qX (gN v0 v1 v2 v3 v4 v5 v6 v7 v8) ≠ 0) (bN : (valH [(jK c0), (jK c1), (jK c2), (jK c3), (jK c4), (jK c5), (jK c6), (jK c7), (jK c8)] (gN c0 c1 c2 c3 c4 c5 c6 c7 c8)) = true) (hd : ¬ (yT (jM e20 e21 e22 w0 w1 w2)) ≤ 0) (hnp : vK [(x.num * (y.den : Int)), (y.num * (x.den : Int)), ((x.den : Int) * (y.den : Int))] ≠ 0) (hnzt : vK [(((c0 * p0) + (c1 * p1)) + (c2 * p2)), (((c3 * p0) + (c4 * p1)) + (c5 * p2)), (((c6 * p0) + (c7 * p1)) + (c8 * p2))] ≠ 0) (ht2 : t2 ≠ 0) (hix : (Rat.divInt t0 t2) = ((jM e00 e01 e02 w0 w1 w2) / (jM e20 e21 e22 w0 w1 w2))) (hiy : (Rat.divInt t1 t2) = ((jM e10 e11 e12 w0 w1 w2) / (jM e20 e21 e22 w0 w1 w2))) : kF Tryz.prog 9 [(qP (kY.mk (kJ.mk (jT.mk lx ly lz) (jN.mk la lb lc ld) lf (kM.mk lu lv)) (kJ.mk (jT.mk rx ry rz) (jN.mk ra rb rc rd) rf (kM.mk ru rv)))), (.val (.bool (right))), (kI (qI.mk (jC x) (jC y)))] (.val (.bool (true))) := by
 have hbl := xF hl
 have hbr := xF hr
 obtain ⟨hlx, hly, hlz, hlu, hlv, hlf, hlq⟩ := hbl
 obtain ⟨hrx, hry, hrz, hru, hrv, hrf, hrq⟩ := hbr
 obtain ⟨hla, hlb, hlc, hld, -⟩ := xG hlq
 obtain ⟨hra, hrb, hrc, hrd, -⟩ := xG hrq
 have hnl := nA hla hlb hlc hld
 have hnr := nA hra hrb hrc hrd
 have hz0 := fr_z0 hF hup
 have hz1 := fr_z1 hF hup
 have hz2 := fr_z2 hF hup
 obtain ⟨htx, hty, htz, htu, htv, htf, htq⟩ := xF hst
 obtain ⟨hta, htb, htc, htd, -⟩ := xG htq
 have hnt := nA hta htb htc htd
 let y2 := (A9.mk (jK c0) (jK c1) (jK c2) (jK c3) (jK c4) (jK c5) (jK c6) (jK c7) (jK c8))
 let y1 := (qP (kY.mk (kJ.mk (jT.mk lx ly lz) (jN.mk la lb lc ld) lf (kM.mk lu lv)) (kJ.mk (jT.mk rx ry rz) (jN.mk ra rb rc rd) rf (kM.mk ru rv))))
 refine jL Tryz.func9 rfl cb9 rfl ?_
 show uK _ _ _ _ ⟨[(0, (.d y1)), (1, (vb right)), (2, (.d (kI (qI.mk (jC x) (jC y)))))], []⟩
 refine jA <| kx [(3, (.ref 0 0)), (5, (.ref 1 0))] [(0, some (bx y1)), (1, some (bx (kI (qI.mk (jC x) (jC y)))))] (zN (uX 0) <| zN (uX 1) <| zM <| zZ) ?_
 refine jA <| jA <| kx [(17, (vb false))] [] (zE (kC iA) <| zE eX <| zZ) ?_
 refine kO ?_
 refine jD <| jA <| jA <| kx [(20, (vb false))] [] (zR (kA nH) <| zE (qY true (kC (bY (qI.mk (jC x) (jC y)) x y (kH (kL hx) (by decide)) (kH (kL hy) (by decide)))) (by exact hbr)) <| zE eX <| zZ) ?_
 refine kO ?_
 refine jD <| jA ?_
 have bn1 : QL x00 2402 := (jX (Eq.symm dW) (jR (n := 400) (k := 2402) (kB (fM) (by decide)) (kB (eZ) (by decide)) (kB (fH) (by decide)) vF vG vE (by decide)))
 have bn2 : QL x01 2402 := (jX (Eq.symm dS) (jR (n := 400) (k := 2402) (kB (fO) (by decide)) (kB (fG) (by decide)) (kB (fP) (by decide)) vF vG vE (by decide)))
 have bn3 : QL x02 2402 := (jX (Eq.symm dP) (jR (n := 400) (k := 2402) (kB (fJ) (by decide)) (kB (fA) (by decide)) (kB (fF) (by decide)) vF vG vE (by decide)))
 have bn4 : QL x10 2402 := (jX (Eq.symm dU) (jR (n := 400) (k := 2402) (kB (fM) (by decide)) (kB (eZ) (by decide)) (kB (fH) (by decide)) vL vM vN (by decide)))
 have bn5 : QL x11 2402 := (jX (Eq.symm dT) (jR (n := 400) (k := 2402) (kB (fO) (by decide)) (kB (fG) (by decide)) (kB (fP) (by decide)) vL vM vN (by decide)))
 have bn6 : QL x12 2402 := (jX (Eq.symm dR) (jR (n := 400) (k := 2402) (kB (fJ) (by decide)) (kB (fA) (by decide)) (kB (fF) (by decide)) vL vM vN (by decide)))
 have bn7 : QL x20 2402 := (jX (Eq.symm dQ) (jR (n := 400) (k := 2402) (kB (fM) (by decide)) (kB (eZ) (by decide)) (kB (fH) (by decide)) vA vB vC (by decide)))
 have bn8 : QL x21 2402 := (jX (Eq.symm dN) (jR (n := 400) (k := 2402) (kB (fO) (by decide)) (kB (fG) (by decide)) (kB (fP) (by decide)) vA vB vC (by decide)))
 have bn9 : QL x22 2402 := (jX (Eq.symm dV) (jR (n := 400) (k := 2402) (kB (fJ) (by decide)) (kB (fA) (by decide)) (kB (fF) (by decide)) vA vB vC (by decide)))
 have bn10 : QL a00 14414 := (jX (Eq.symm mB) (jR (n := 2402) (k := 14414) (kB (qi 1) (by decide)) (kB (qi 0) (by decide)) (kB (qi 0) (by decide)) bn1 bn2 bn3 (by decide)))
 have bn11 : QL a01 14414 := (jX (Eq.symm mD) (jR (n := 2402) (k := 14414) (kB (qi 0) (by decide)) (kB (qi 1) (by decide)) (kB (qi 0) (by decide)) bn1 bn2 bn3 (by decide)))
 have bn12 : QL a02 14414 := (jX (Eq.symm mC) (jR (n := 2402) (k := 14414) (kB (qi (-tu)) (by decide)) (kB (qi (-tv)) (by decide)) (kB (qi tf) (by decide)) bn1 bn2 bn3 (by decide)))
 have bn13 : QL a10 14414 := (jX (Eq.symm nW) (jR (n := 2402) (k := 14414) (kB (qi 1) (by decide)) (kB (qi 0) (by decide)) (kB (qi 0) (by decide)) bn4 bn5 bn6 (by decide)))
 have bn14 : QL a11 14414 := (jX (Eq.symm mE) (jR (n := 2402) (k := 14414) (kB (qi 0) (by decide)) (kB (qi 1) (by decide)) (kB (qi 0) (by decide)) bn4 bn5 bn6 (by decide)))
 have bn15 : QL a12 14414 := (jX (Eq.symm nY) (jR (n := 2402) (k := 14414) (kB (qi (-tu)) (by decide)) (kB (qi (-tv)) (by decide)) (kB (qi tf) (by decide)) bn4 bn5 bn6 (by decide)))
 have bn16 : QL a20 14414 := (jX (Eq.symm nX) (jR (n := 2402) (k := 14414) (kB (qi 1) (by decide)) (kB (qi 0) (by decide)) (kB (qi 0) (by decide)) bn7 bn8 bn9 (by decide)))
 have bn17 : QL a21 14414 := (jX (Eq.symm mA) (jR (n := 2402) (k := 14414) (kB (qi 0) (by decide)) (kB (qi 1) (by decide)) (kB (qi 0) (by decide)) bn7 bn8 bn9 (by decide)))
 have bn18 : QL a22 14414 := (jX (Eq.symm nZ) (jR (n := 2402) (k := 14414) (kB (qi (-tu)) (by decide)) (kB (qi (-tv)) (by decide)) (kB (qi tf) (by decide)) bn7 bn8 bn9 (by decide)))
 have bn19 : kZ (jK k0) k0 14415 := (kT hk0.symm (jP (k := 14415) (yI (z := 1) (by decide)) (jW bn10) (by decide)))
 have bn20 : kZ (jK k1) k1 28829 := (kT hk1.symm (jP (k := 28829) bn19 (jW bn11) (by decide)))
 have bn21 : kZ (jK k2) k2 43243 := (kT hk2.symm (jP (k := 43243) bn20 (jW bn12) (by decide)))
 have bn22 : kZ (jK k3) k3 57657 := (kT hk3.symm (jP (k := 57657) bn21 (jW bn13) (by decide)))
 have bn23 : kZ (jK k4) k4 72071 := (kT hk4.symm (jP (k := 72071) bn22 (jW bn14) (by decide)))
 have bn24 : kZ (jK k5) k5 86485 := (kT hk5.symm (jP (k := 86485) bn23 (jW bn15) (by decide)))
 have bn25 : kZ (jK k6) k6 100899 := (kT hk6.symm (jP (k := 100899) bn24 (jW bn16) (by decide)))
 have bn26 : kZ (jK k7) k7 115313 := (kT hk7.symm (jP (k := 115313) bn25 (jW bn17) (by decide)))
 have bn27 : kZ (jK k8) k8 129727 := (kT hk8.symm (jP (k := 129727) bn26 (jW bn18) (by decide)))
 have bn28 : kZ (jK v0) v0 144142 := (kT hv0.symm (jP (k := 144142) (qW (k := 129728) bn27 (jW bn10) (by decide)) (kN bn10) (by decide)))
 have bn29 : kZ (jK v1) v1 144142 := (kT hv1.symm (jP (k := 144142) (qW (k := 129728) bn27 (jW bn11) (by decide)) (kN bn11) (by decide)))
 have bn30 : kZ (jK v2) v2 144142 := (kT hv2.symm (jP (k := 144142) (qW (k := 129728) bn27 (jW bn12) (by decide)) (kN bn12) (by decide)))
 have bn31 : kZ (jK v3) v3 144142 := (kT hv3.symm (jP (k := 144142) (qW (k := 129728) bn27 (jW bn13) (by decide)) (kN bn13) (by decide)))
 have bn32 : kZ (jK v4) v4 144142 := (kT hv4.symm (jP (k := 144142) (qW (k := 129728) bn27 (jW bn14) (by decide)) (kN bn14) (by decide)))
 have bn33 : kZ (jK v5) v5 144142 := (kT hv5.symm (jP (k := 144142) (qW (k := 129728) bn27 (jW bn15) (by decide)) (kN bn15) (by decide)))
 have bn34 : kZ (jK v6) v6 144142 := (kT hv6.symm (jP (k := 144142) (qW (k := 129728) bn27 (jW bn16) (by decide)) (kN bn16) (by decide)))
 have bn35 : kZ (jK v7) v7 144142 := (kT hv7.symm (jP (k := 144142) (qW (k := 129728) bn27 (jW bn17) (by decide)) (kN bn17) (by decide)))
 have bn36 : kZ (jK v8) v8 144142 := (kT hv8.symm (jP (k := 144142) (qW (k := 129728) bn27 (jW bn18) (by decide)) (kN bn18) (by decide)))
 have bn37 : ∀ c ∈ [c0, c1, c2, c3, c4, c5, c6, c7, c8], kZ (jK c) c 144142 := mZ (n := 144142) (.cons bn28 (.cons bn29 (.cons bn30 (.cons bn31 (.cons bn32 (.cons bn33 (.cons bn34 (.cons bn35 (.cons bn36 .nil))))))))) hc
 refine kx [(7, (.ref 2 0)), (8, (vi 0))] [(2, some (bx (qL y2)))] (zR (kA bQ) <| zM <| zE (kC (q_hom lx ly lz la lb lc ld lf lu lv rx ry rz ra rb rc rd rf ru rv right b0 b1 b2 e00 e01 e02 e10 e11 e12 e20 e21 e22 hF zW zV zU vF vG vE vL vM vN vA vB vC tx ty tz ta tb tc td tf tu tv x00 dW x01 dS x02 dP x10 dU x11 dT x12 dR x20 dQ x21 dN x22 dV a00 mB a01 mD a02 mC a10 nW a11 mE a12 nY a20 nX a21 mA a22 nZ k0 hk0 k1 hk1 k2 hk2 k3 hk3 k4 hk4 k5 hk5 k6 hk6 k7 hk7 k8 hk8 v0 hv0 v1 hv1 v2 hv2 v3 hv3 v4 hv4 v5 hv5 v6 hv6 v7 hv7 v8 hv8 c0 c1 c2 c3 c4 c5 c6 c7 c8 hc hl hr hup hsd hst hnz hdv)) <| zM <| zE uH <| zE uH <| zN (qH 2 ze98 zo98) <| zT (kR mI) <| zM <| zZ) ?_
 refine jA <| kx [(9, (.ref 3 0)), (10, (vi 0))] [(3, some (bx (yE (RLp.mk (kY.mk (kJ.mk (jT.mk lx ly lz) (jN.mk la lb lc ld) lf (kM.mk lu lv)) (kJ.mk (jT.mk rx ry rz) (jN.mk ra rb rc rd) rf (kM.mk ru rv))) (A3.mk (jC b0) (jC b1) (jC b2)) (A3.mk (A3.mk (jC e00) (jC e01) (jC e02)) (A3.mk (jC e10) (jC e11) (jC e12)) (A3.mk (jC e20) (jC e21) (jC e22)))))))] (zR (kA bQ) <| zE (kC (qs_pre lx ly lz la lb lc ld lf lu lv rx ry rz ra rb rc rd rf ru rv b0 b1 b2 e00 e01 e02 e10 e11 e12 e20 e21 e22 hF zW zV zU vF vG vE vL vM vN vA vB vC hl hr hup)) <| zM <| zE uH <| zE uH <| zN (qH 3 ze47 zo47) <| zT (kR eO) <| zM <| zZ) ?_
 refine jA <| jA <| kx [(33, (vb false))] [] (zM <| zE mR <| zZ) ?_
 refine kO ?_
 refine jD <| jA <| jA <| kx [(56, (vb false))] [] (zM <| zE mR <| zM <| zR (kA mI) <| zE (qY true (kC (l_Valid y2 c0 c1 c2 c3 c4 c5 c6 c7 c8 (qJ (bn37 c0 (by simp)) (by decide)) (qJ (bn37 c1 (by simp)) (by decide)) (qJ (bn37 c2 (by simp)) (by decide)) (qJ (bn37 c3 (by simp)) (by decide)) (qJ (bn37 c4 (by simp)) (by decide)) (qJ (bn37 c5 (by simp)) (by decide)) (qJ (bn37 c6 (by simp)) (by decide)) (qJ (bn37 c7 (by simp)) (by decide)) (qJ (bn37 c8 (by simp)) (by decide)))) (by exact bN)) <| zE eX <| zE fC <| zZ) ?_
 refine kO ?_
 refine jD <| jA <| jA <| kx [(59, (vb false))] [] (zR (kA nH) <| zE (kC (qs_canT x y (qu hx) (qu hy))) <| zE mR <| zZ) ?_
 refine kO ?_
 refine jD <| jA ?_
 have bn38 : QL w0 74 := (jX (Eq.symm hw0) (jR (n := 12) (k := 74) (kB (fM) (by decide)) (kB (fO) (by decide)) (kB (fJ) (by decide)) (qZ (k := 12) hx (qi tu) (by decide)) (qZ (k := 12) hy (qi tv) (by decide)) (kB (qi tf) (by decide)) (by decide)))
 have bn39 : QL w1 74 := (jX (Eq.symm hw1) (jR (n := 12) (k := 74) (kB (eZ) (by decide)) (kB (fG) (by decide)) (kB (fA) (by decide)) (qZ (k := 12) hx (qi tu) (by decide)) (qZ (k := 12) hy (qi tv) (by decide)) (kB (qi tf) (by decide)) (by decide)))
 have bn40 : QL w2 74 := (jX (Eq.symm hw2) (jR (n := 12) (k := 74) (kB (fH) (by decide)) (kB (fP) (by decide)) (kB (fF) (by decide)) (qZ (k := 12) hx (qi tu) (by decide)) (qZ (k := 12) hy (qi tv) (by decide)) (kB (qi tf) (by decide)) (by decide)))
 have bn41 : QL ((jM e00 e01 e02 w0 w1 w2) / (jM e20 e21 e22 w0 w1 w2)) 4804 := (lC (k := 4804) (jR (n := 400) (k := 2402) vF vG vE (qu bn38) (qu bn39) (qu bn40) (by decide)) (jR (n := 400) (k := 2402) vA vB vC (qu bn38) (qu bn39) (qu bn40) (by decide)) (by decide))
 have bn42 : QL ((jM e10 e11 e12 w0 w1 w2) / (jM e20 e21 e22 w0 w1 w2)) 4804 := (lC (k := 4804) (jR (n := 400) (k := 2402) vL vM vN (qu bn38) (qu bn39) (qu bn40) (by decide)) (jR (n := 400) (k := 2402) vA vB vC (qu bn38) (qu bn39) (qu bn40) (by decide)) (by decide))
 refine kx [(10, (vi 0)), (13, (.ref 4 0))] [(4, some (bx (kI (qI.mk (jC ((jM e00 e01 e02 w0 w1 w2) / (jM e20 e21 e22 w0 w1 w2))) (jC ((jM e10 e11 e12 w0 w1 w2) / (jM e20 e21 e22 w0 w1 w2)))))))] (zR (kA eO) <| zM <| zR (kA nH) <| zE (kC (qs_rec lx ly lz la lb lc ld lf lu lv rx ry rz ra rb rc rd rf ru rv b0 b1 b2 e00 e01 e02 e10 e11 e12 e20 e21 e22 zW zV zU vF vG vE vL vM vN vA vB vC right x y (qu hx) (qu hy) tx ty tz ta tb tc td tf tu tv w0 hw0 w1 hw1 w2 hw2 hsd hst hd)) <| zM <| zE uH <| zE uH <| zN (qH 4 ze56 zo56) <| zT (kR nH) <| zM <| zZ) ?_
 refine jA <| jA <| kx [(68, (vb false))] [] (zM <| zE mR <| zZ) ?_
 refine kO ?_
 refine jD <| jA ?_
 have bn43 : ∀ c ∈ [p0, p1, p2], kZ (jK c) c 16 := mZ (n := 16) (.cons (jP (k := 16) (kN hx) (jW hy) (by decide)) (.cons (jP (k := 16) (kN hy) (jW hx) (by decide)) (.cons (jP (k := 16) (jW hx) (jW hy) (by decide)) .nil))) hp
 have bn44 : ∀ c ∈ [t0, t1, t2], kZ (jK c) c 144160 := mZ (n := 144160) (.cons (xO (k := 144160) (xO (k := 144159) (jP (k := 144158) (bn37 c0 (by simp)) (bn43 p0 (by simp)) (by decide)) (jP (k := 144158) (bn37 c1 (by simp)) (bn43 p1 (by simp)) (by decide)) (by decide)) (jP (k := 144158) (bn37 c2 (by simp)) (bn43 p2 (by simp)) (by decide)) (by decide)) (.cons (xO (k := 144160) (xO (k := 144159) (jP (k := 144158) (bn37 c3 (by simp)) (bn43 p0 (by simp)) (by decide)) (jP (k := 144158) (bn37 c4 (by simp)) (bn43 p1 (by simp)) (by decide)) (by decide)) (jP (k := 144158) (bn37 c5 (by simp)) (bn43 p2 (by simp)) (by decide)) (by decide)) (.cons (xO (k := 144160) (xO (k := 144159) (jP (k := 144158) (bn37 c6 (by simp)) (bn43 p0 (by simp)) (by decide)) (jP (k := 144158) (bn37 c7 (by simp)) (bn43 p1 (by simp)) (by decide)) (by decide)) (jP (k := 144158) (bn37 c8 (by simp)) (bn43 p2 (by simp)) (by decide)) (by decide)) .nil))) ht
 have bn45 : QL (Rat.divInt t0 t2) 144160 := (qO (n := 144160) (Nat.le_trans (kZ.ln (bn44 t0 (by simp))) (by decide)) (Nat.le_trans (kZ.ln (bn44 t2 (by simp))) (by decide)) (by decide))
 have bn46 : QL (Rat.divInt t1 t2) 144160 := (qO (n := 144160) (Nat.le_trans (kZ.ln (bn44 t1 (by simp))) (by decide)) (Nat.le_trans (kZ.ln (bn44 t2 (by simp))) (by decide)) (by decide))
 refine kx [(14, (.ref 5 0)), (15, (vb true))] [(5, some (bx (kI (qI.mk (jC (Rat.divInt t0 t2)) (jC (Rat.divInt t1 t2))))))] (zR (kA mI) <| zR (kA nH) <| zE (kC (l_Image y2 c0 c1 c2 c3 c4 c5 c6 c7 c8 (qJ (bn37 c0 (by simp)) (by decide)) (qJ (bn37 c1 (by simp)) (by decide)) (qJ (bn37 c2 (by simp)) (by decide)) (qJ (bn37 c3 (by simp)) (by decide)) (qJ (bn37 c4 (by simp)) (by decide)) (qJ (bn37 c5 (by simp)) (by decide)) (qJ (bn37 c6 (by simp)) (by decide)) (qJ (bn37 c7 (by simp)) (by decide)) (qJ (bn37 c8 (by simp)) (by decide)) x y hx hy p0 p1 p2 hp t0 t1 t2 ht hnp hnzt ht2)) <| zM <| zE uH <| zE uH <| zN (qH 5 ze56 zo56) <| zT (kR nH) <| zM <| zZ) ?_
 refine jA <| kx [(6, (vb true))] [] (zM <| zM <| zR (kA nH) <| zR (kA nH) <| zE (kC (qs_samep (Rat.divInt t0 t2) (Rat.divInt t1 t2) (qu bn45) (qu bn46) ((jM e00 e01 e02 w0 w1 w2) / (jM e20 e21 e22 w0 w1 w2)) ((jM e10 e11 e12 w0 w1 w2) / (jM e20 e21 e22 w0 w1 w2)) (qu bn41) (qu bn42) hix hiy)) <| zE bG <| zM <| zZ) ?_
 refine jG ⟨_, (.tmp (d := (.val (.bool (true)))) rfl .nil), ?_⟩
 rfl
end Go.Proofs.YtbecgnplakngdaaGreat
