/- Part 16 of a proof: rules, plain facts, and functions walked. -/
import Derived.Test.YtbecgnplakngdaaGreatM15
import Derived.Test.YtbecgnplakngdaaGreatM14
import Derived.Test.YtbecgnplakngdaaGreatM11
import Derived.OpenShut
import Derived.Test.YtbecgnplakngdaaGreatM2
import Derived.ChangeArms
import Derived.SizedLaws
namespace Go.Proofs.YtbecgnplakngdaaGreat
open Go.Fid
set_option maxRecDepth 4000
set_option linter.unusedVariables false
set_option linter.unusedSimpArgs false
theorem cb9 : callB Tryz.prog 9 = true := by kernel_rfl
theorem w_homN (lx ly lz la lb lc ld lf lu lv rx ry rz ra rb rc rd rf ru rv : Int) (right : Bool) (p : qH) (x y : Rat) (hx : eV p.x x 140737488355328) (hy : eV p.y y 140737488355328) (hbr : bJ p.x p.y = false) : kF Tryz.prog 9 [(qP (kY.mk (kJ.mk (jT.mk lx ly lz) (jN.mk la lb lc ld) lf (kM.mk lu lv)) (kJ.mk (jT.mk rx ry rz) (jN.mk ra rb rc rd) rf (kM.mk ru rv)))), (.val (.bool (right))), (kI p)] (.val (.bool (true))) := by
 let y1 := (qP (kY.mk (kJ.mk (jT.mk lx ly lz) (jN.mk la lb lc ld) lf (kM.mk lu lv)) (kJ.mk (jT.mk rx ry rz) (jN.mk ra rb rc rd) rf (kM.mk ru rv))))
 refine jL Tryz.func9 rfl cb9 rfl ?_
 show uK _ _ _ _ ⟨[(0, (.d y1)), (1, (vb right)), (2, (.d (kI p)))], []⟩
 refine jA <| kx [(3, (.ref 0 0)), (5, (.ref 1 0))] [(0, some (bx y1)), (1, some (bx (kI p)))] (zN (uX 0) <| zN (uX 1) <| zM <| zZ) ?_
 refine jA <| jA <| kx [(17, (vb false))] [] (zE (kC bS) <| zE eX <| zZ) ?_
 refine kO ?_
 refine jD <| jA <| jA <| kx [(20, (vb true))] [] (zR (kA nH) <| zE (qY false (kC (bW p x y hx hy)) (by exact hbr)) <| zE eX <| zZ) ?_
 refine kD ?_
 refine jA <| kx [(6, (vb true))] [] (zM <| zZ) ?_
 refine jG ⟨_, (.tmp (d := (.val (.bool (true)))) rfl .nil), ?_⟩
 rfl
theorem w_homE1 (lx ly lz la lb lc ld lf lu lv rx ry rz ra rb rc rd rf ru rv : Int) (right : Bool) (p : qH) (x y : Rat) (hx : eV p.x x 140737488355328) (hy : eV p.y y 140737488355328) (c : Nat) (hc : stn2 (uL lx ly lz lu lv lf la lb lc ld) (uL rx ry rz ru rv rf ra rb rc rd) = c) (hc0 : c ≠ 0) (hbr : bJ p.x p.y = true) : kF Tryz.prog 9 [(qP (kY.mk (kJ.mk (jT.mk lx ly lz) (jN.mk la lb lc ld) lf (kM.mk lu lv)) (kJ.mk (jT.mk rx ry rz) (jN.mk ra rb rc rd) rf (kM.mk ru rv)))), (.val (.bool (right))), (kI p)] (.val (.bool (true))) := by
 let y3 := (A3.mk (kG.mk (jF.mk false []) (jF.mk false [])) (kG.mk (jF.mk false []) (jF.mk false [])) (kG.mk (jF.mk false []) (jF.mk false [])))
 let y2 := (qP (kY.mk (kJ.mk (jT.mk lx ly lz) (jN.mk la lb lc ld) lf (kM.mk lu lv)) (kJ.mk (jT.mk rx ry rz) (jN.mk ra rb rc rd) rf (kM.mk ru rv))))
 let y1 := (qL (A9.mk (jF.mk false []) (jF.mk false []) (jF.mk false []) (jF.mk false []) (jF.mk false []) (jF.mk false []) (jF.mk false []) (jF.mk false []) (jF.mk false [])))
 refine jL Tryz.func9 rfl cb9 rfl ?_
 show uK _ _ _ _ ⟨[(0, (.d y2)), (1, (vb right)), (2, (.d (kI p)))], []⟩
 refine jA <| kx [(3, (.ref 0 0)), (5, (.ref 1 0))] [(0, some (bx y2)), (1, some (bx (kI p)))] (zN (uX 0) <| zN (uX 1) <| zM <| zZ) ?_
 refine jA <| jA <| kx [(17, (vb false))] [] (zE (kC bS) <| zE eX <| zZ) ?_
 refine kO ?_
 refine jD <| jA <| jA <| kx [(20, (vb false))] [] (zR (kA nH) <| zE (qY true (kC (bW p x y hx hy)) (by exact hbr)) <| zE eX <| zZ) ?_
 refine kO ?_
 refine jD <| jA <| kx [(7, (.ref 2 0)), (8, (kE c))] [(2, some (bx y1))] (zR (kA bZ) <| zM <| zE (kC (q_homE1 lx ly lz la lb lc ld lf lu lv rx ry rz ra rb rc rd rf ru rv right c hc hc0)) <| zM <| zE uH <| zE uH <| zN (qI 2 ze98 zo98) <| zT (kR mJ) <| zM <| zZ) ?_
 refine jA <| kx [(9, (.ref 3 0)), (10, (kE c))] [(3, some (bx (yF (RLp.mk (kY.mk (kJ.mk (jT.mk lx ly lz) (jN.mk la lb lc ld) lf (kM.mk lu lv)) (kJ.mk (jT.mk rx ry rz) (jN.mk ra rb rc rd) rf (kM.mk ru rv))) y3 (A3.mk y3 y3 y3)))))] (zR (kA bZ) <| zE (kC (qs_preE1 lx ly lz la lb lc ld lf lu lv rx ry rz ra rb rc rd rf ru rv c hc hc0)) <| zM <| zE uH <| zE uH <| zN (qI 3 ze47 zo47) <| zT (kR eI) <| zM <| zZ) ?_
 refine jA <| jA <| kx [(33, (vb true))] [] (zM <| zE (qY true mR (by exact bne_iff_ne.2 (by have hx := hc0; omega))) <| zZ) ?_
 refine kD ?_
 refine jA <| jA <| kx [(34, (.d y1)), (35, (kE 0))] [] (zR (kA mJ) <| zM <| zZ) ?_
 refine jE <| qE 20 ?_
 refine qK <| jA <| kx [(36, (vb true))] [] (zE (qY true qS) <| zZ) ?_
 refine jA <| kD ?_
 refine jD <| jA <| jE <| jA <| kx [(12, (.ref 4 0))] [(4, some (bx (jH (jF.mk false []))))] (zE (iF yW jI (fun h => by cases h) 0) <| zN (qI 4 uD uE) <| zT (kR jI) <| zZ) ?_
 refine jA <| kx [(45, (vb false))] [] (zE (kU uT) <| zR (uM eL) <| zM <| zE (kU uS) <| zR (uM xI) <| zE (fT kV 0) <| zE mR <| zE fC <| zZ) ?_
 refine kO ?_
 refine jD <| kx [(35, (kE 1))] [] (zE (qQ 1 (hr := by decide)) <| zM <| zZ) ?_
 refine jJ (jZ.refl _) ?_
 refine jA <| kx [(36, (vb true))] [] (zE (qY true qS) <| zZ) ?_
 refine jA <| kD ?_
 refine jD <| jA <| jE <| jA <| kx [(12, (.ref 5 0))] [(5, some (bx (jH (jF.mk false []))))] (zE (iF yW jI (fun h => by cases h) 1) <| zN (qI 5 uD uE) <| zT (kR jI) <| zZ) ?_
 refine jA <| kx [(45, (vb false))] [] (zE (kU uT) <| zR (uM eL) <| zM <| zE (kU uS) <| zR (uM xI) <| zE (fT kV 0) <| zE mR <| zE fC <| zZ) ?_
 refine kO ?_
 refine jD <| kX (wk (l := [(8, (kE c)), (10, (kE c)), (34, (.d y1)), (35, (kE 1)), (45, (vb false))]) (b := [])) ?_
 refine kx [(35, (kE 2))] [] (zE (qQ 2 (hr := by decide)) <| zM <| zZ) ?_
 refine jJ (jZ.refl _) ?_
 refine jA <| kx [(36, (vb true))] [] (zE (qY true qS) <| zZ) ?_
 refine jA <| kD ?_
 refine jD <| jA <| jE <| jA <| kx [(12, (.ref 6 0))] [(6, some (bx (jH (jF.mk false []))))] (zE (iF yW jI (fun h => by cases h) 2) <| zN (qI 6 uD uE) <| zT (kR jI) <| zZ) ?_
 refine jA <| kx [(45, (vb false))] [] (zE (kU uT) <| zR (uM eL) <| zM <| zE (kU uS) <| zR (uM xI) <| zE (fT kV 0) <| zE mR <| zE fC <| zZ) ?_
 refine kO ?_
 refine jD <| kx [(35, (kE 3))] [] (zE (qQ 3 (hr := by decide)) <| zM <| zZ) ?_
 refine jJ (jZ.refl _) ?_
 refine jA <| kx [(36, (vb true))] [] (zE (qY true qS) <| zZ) ?_
 refine jA <| kD ?_
 refine jD <| jA <| jE <| jA <| kx [(12, (.ref 7 0))] [(7, some (bx (jH (jF.mk false []))))] (zE (iF yW jI (fun h => by cases h) 3) <| zN (qI 7 uD uE) <| zT (kR jI) <| zZ) ?_
 refine jA <| kx [(45, (vb false))] [] (zE (kU uT) <| zR (uM eL) <| zM <| zE (kU uS) <| zR (uM xI) <| zE (fT kV 0) <| zE mR <| zE fC <| zZ) ?_
 refine kO ?_
 refine jD <| kx [(35, (kE 4))] [] (zE (qQ 4 (hr := by decide)) <| zM <| zZ) ?_
 refine jJ (jZ.refl _) ?_
 refine jA <| kx [(36, (vb true))] [] (zE (qY true qS) <| zZ) ?_
 refine jA <| kD ?_
 refine jD <| jA <| jE <| jA <| kx [(12, (.ref 8 0))] [(8, some (bx (jH (jF.mk false []))))] (zE (iF yW jI (fun h => by cases h) 4) <| zN (qI 8 uD uE) <| zT (kR jI) <| zZ) ?_
 refine jA <| kx [(45, (vb false))] [] (zE (kU uT) <| zR (uM eL) <| zM <| zE (kU uS) <| zR (uM xI) <| zE (fT kV 0) <| zE mR <| zE fC <| zZ) ?_
 refine kO ?_
 refine jD <| kx [(35, (kE 5))] [] (zE (qQ 5 (hr := by decide)) <| zM <| zZ) ?_
 refine jJ (jZ.refl _) ?_
 refine jA <| kx [(36, (vb true))] [] (zE (qY true qS) <| zZ) ?_
 refine jA <| kD ?_
 refine jD <| jA <| jE <| jA <| kX (wk (l := [(8, (kE c)), (10, (kE c)), (34, (.d y1)), (35, (kE 5)), (36, (vb true))]) (b := [])) ?_
 refine kx [(12, (.ref 9 0))] [(9, some (bx (jH (jF.mk false []))))] (zE (iF yW jI (fun h => by cases h) 5) <| zN (qI 9 uD uE) <| zT (kR jI) <| zZ) ?_
 refine jA <| kx [(45, (vb false))] [] (zE (kU uT) <| zR (uM eL) <| zM <| zE (kU uS) <| zR (uM xI) <| zE (fT kV 0) <| zE mR <| zE fC <| zZ) ?_
 refine kO ?_
 refine jD <| kx [(35, (kE 6))] [] (zE (qQ 6 (hr := by decide)) <| zM <| zZ) ?_
 refine jJ (jZ.refl _) ?_
 refine jA <| kx [(36, (vb true))] [] (zE (qY true qS) <| zZ) ?_
 refine jA <| kD ?_
 refine jD <| jA <| jE <| jA <| kx [(12, (.ref 10 0))] [(10, some (bx (jH (jF.mk false []))))] (zE (iF yW jI (fun h => by cases h) 6) <| zN (qI 10 uD uE) <| zT (kR jI) <| zZ) ?_
 refine jA <| kx [(45, (vb false))] [] (zE (kU uT) <| zR (uM eL) <| zM <| zE (kU uS) <| zR (uM xI) <| zE (fT kV 0) <| zE mR <| zE fC <| zZ) ?_
 refine kO ?_
 refine jD <| kx [(35, (kE 7))] [] (zE (qQ 7 (hr := by decide)) <| zM <| zZ) ?_
 refine jJ (jZ.refl _) ?_
 refine jA <| kx [(36, (vb true))] [] (zE (qY true qS) <| zZ) ?_
 refine jA <| kD ?_
 refine jD <| jA <| jE <| jA <| kx [(12, (.ref 11 0))] [(11, some (bx (jH (jF.mk false []))))] (zE (iF yW jI (fun h => by cases h) 7) <| zN (qI 11 uD uE) <| zT (kR jI) <| zZ) ?_
 refine jA <| kx [(45, (vb false))] [] (zE (kU uT) <| zR (uM eL) <| zM <| zE (kU uS) <| zR (uM xI) <| zE (fT kV 0) <| zE mR <| zE fC <| zZ) ?_
 refine kO ?_
 refine jD <| kx [(35, (kE 8))] [] (zE (qQ 8 (hr := by decide)) <| zM <| zZ) ?_
 refine jJ (jZ.refl _) ?_
 refine jA <| kx [(36, (vb true))] [] (zE (qY true qS) <| zZ) ?_
 refine jA <| kD ?_
 refine jD <| jA <| jE <| jA <| kx [(12, (.ref 12 0))] [(12, some (bx (jH (jF.mk false []))))] (zE (iF yW jI (fun h => by cases h) 8) <| zN (qI 12 uD uE) <| zT (kR jI) <| zZ) ?_
 refine jA <| kx [(45, (vb false))] [] (zE (kU uT) <| zR (uM eL) <| zM <| zE (kU uS) <| zR (uM xI) <| zE (fT kV 0) <| zE mR <| zE fC <| zZ) ?_
 refine kO ?_
 refine jD <| kX (wk (l := [(8, (kE c)), (10, (kE c)), (34, (.d y1)), (35, (kE 8)), (45, (vb false))]) (b := [])) ?_
 refine kx [(35, (kE 9))] [] (zE (qQ 9 (hr := by decide)) <| zM <| zZ) ?_
 refine jJ (jZ.refl _) ?_
 refine jA <| kx [(36, (vb false))] [] (zE (qY false qS) <| zZ) ?_
 refine jA <| kO ?_
 refine kQ <| jA <| kx [(6, (vb true))] [] (zM <| zM <| zE (qY true aL (by exact beq_self_eq_true _)) <| zM <| zZ) ?_
 refine jG ⟨_, (.tmp (d := (.val (.bool (true)))) rfl .nil), ?_⟩
 rfl
theorem w_homE2 (lx ly lz la lb lc ld lf lu lv rx ry rz ra rb rc rd rf ru rv : Int) (right : Bool) (p : qH) (x y : Rat) (hx : eV p.x x 140737488355328) (hy : eV p.y y 140737488355328) (b0 b1 b2 : Rat) (zV : QL b0 3) (zW : QL b1 3) (zU : QL b2 3) (hl : uL lx ly lz lu lv lf la lb lc ld = 0) (hr : uL rx ry rz ru rv rf ra rb rc rd = 0) (hb0 : ((rx - lx : Int) : Rat) = b0) (hb1 : ((ry - ly : Int) : Rat) = b1) (hb2 : ((rz - lz : Int) : Rat) = b2) (hup : upV la lb lc ld ra rb rc rd b0 b1 b2 = true) (hbr : bJ p.x p.y = true) : kF Tryz.prog 9 [(qP (kY.mk (kJ.mk (jT.mk lx ly lz) (jN.mk la lb lc ld) lf (kM.mk lu lv)) (kJ.mk (jT.mk rx ry rz) (jN.mk ra rb rc rd) rf (kM.mk ru rv)))), (.val (.bool (right))), (kI p)] (.val (.bool (true))) := by
 let y3 := (A3.mk (kG.mk (jF.mk false []) (jF.mk false [])) (kG.mk (jF.mk false []) (jF.mk false [])) (kG.mk (jF.mk false []) (jF.mk false [])))
 let y2 := (qP (kY.mk (kJ.mk (jT.mk lx ly lz) (jN.mk la lb lc ld) lf (kM.mk lu lv)) (kJ.mk (jT.mk rx ry rz) (jN.mk ra rb rc rd) rf (kM.mk ru rv))))
 let y1 := (qL (A9.mk (jF.mk false []) (jF.mk false []) (jF.mk false []) (jF.mk false []) (jF.mk false []) (jF.mk false []) (jF.mk false []) (jF.mk false []) (jF.mk false [])))
 refine jL Tryz.func9 rfl cb9 rfl ?_
 show uK _ _ _ _ ⟨[(0, (.d y2)), (1, (vb right)), (2, (.d (kI p)))], []⟩
 refine jA <| kx [(3, (.ref 0 0)), (5, (.ref 1 0))] [(0, some (bx y2)), (1, some (bx (kI p)))] (zN (uX 0) <| zN (uX 1) <| zM <| zZ) ?_
 refine jA <| jA <| kx [(17, (vb false))] [] (zE (kC bS) <| zE eX <| zZ) ?_
 refine kO ?_
 refine jD <| jA <| jA <| kx [(20, (vb false))] [] (zR (kA nH) <| zE (qY true (kC (bW p x y hx hy)) (by exact hbr)) <| zE eX <| zZ) ?_
 refine kO ?_
 refine jD <| jA <| kx [(7, (.ref 2 0)), (8, (vi 13))] [(2, some (bx y1))] (zR (kA bZ) <| zM <| zE (kC (q_homE2 lx ly lz la lb lc ld lf lu lv rx ry rz ra rb rc rd rf ru rv right b0 b1 b2 zV zW zU hl hr hb0 hb1 hb2 hup)) <| zM <| zE uH <| zE uH <| zN (qI 2 ze98 zo98) <| zT (kR mJ) <| zM <| zZ) ?_
 refine jA <| kx [(9, (.ref 3 0)), (10, (vi 13))] [(3, some (bx (yF (RLp.mk (kY.mk (kJ.mk (jT.mk lx ly lz) (jN.mk la lb lc ld) lf (kM.mk lu lv)) (kJ.mk (jT.mk rx ry rz) (jN.mk ra rb rc rd) rf (kM.mk ru rv))) (A3.mk (jC b0) (jC b1) (jC b2)) (A3.mk y3 y3 y3)))))] (zR (kA bZ) <| zE (kC (qs_preE2 lx ly lz la lb lc ld lf lu lv rx ry rz ra rb rc rd rf ru rv b0 b1 b2 zV zW zU hl hr hb0 hb1 hb2 hup)) <| zM <| zE uH <| zE uH <| zN (qI 3 ze47 zo47) <| zT (kR eI) <| zM <| zZ) ?_
 refine jA <| jA <| kx [(33, (vb true))] [] (zM <| zE mR <| zZ) ?_
 refine kD ?_
 refine jA <| jA <| kx [(34, (.d y1)), (35, (kE 0))] [] (zR (kA mJ) <| zM <| zZ) ?_
 refine jE <| qE 20 ?_
 refine qK <| jA <| kx [(36, (vb true))] [] (zE (qY true qS) <| zZ) ?_
 refine jA <| kD ?_
 refine jD <| jA <| jE <| jA <| kx [(12, (.ref 4 0))] [(4, some (bx (jH (jF.mk false []))))] (zE (iF yW jI (fun h => by cases h) 0) <| zN (qI 4 uD uE) <| zT (kR jI) <| zZ) ?_
 refine jA <| kx [(45, (vb false))] [] (zE (kU uT) <| zR (uM eL) <| zM <| zE (kU uS) <| zR (uM xI) <| zE (fT kV 0) <| zE mR <| zE fC <| zZ) ?_
 refine kO ?_
 refine jD <| kx [(35, (kE 1))] [] (zE (qQ 1 (hr := by decide)) <| zM <| zZ) ?_
 refine jJ (jZ.refl _) ?_
 refine jA <| kx [(36, (vb true))] [] (zE (qY true qS) <| zZ) ?_
 refine jA <| kD ?_
 refine jD <| jA <| jE <| jA <| kx [(12, (.ref 5 0))] [(5, some (bx (jH (jF.mk false []))))] (zE (iF yW jI (fun h => by cases h) 1) <| zN (qI 5 uD uE) <| zT (kR jI) <| zZ) ?_
 refine jA <| kx [(45, (vb false))] [] (zE (kU uT) <| zR (uM eL) <| zM <| zE (kU uS) <| zR (uM xI) <| zE (fT kV 0) <| zE mR <| zE fC <| zZ) ?_
 refine kO ?_
 refine jD <| kX (wk (l := [(8, (vi 13)), (10, (vi 13)), (34, (.d y1)), (35, (kE 1)), (45, (vb false))]) (b := [])) ?_
 refine kx [(35, (kE 2))] [] (zE (qQ 2 (hr := by decide)) <| zM <| zZ) ?_
 refine jJ (jZ.refl _) ?_
 refine jA <| kx [(36, (vb true))] [] (zE (qY true qS) <| zZ) ?_
 refine jA <| kD ?_
 refine jD <| jA <| jE <| jA <| kx [(12, (.ref 6 0))] [(6, some (bx (jH (jF.mk false []))))] (zE (iF yW jI (fun h => by cases h) 2) <| zN (qI 6 uD uE) <| zT (kR jI) <| zZ) ?_
 refine jA <| kx [(45, (vb false))] [] (zE (kU uT) <| zR (uM eL) <| zM <| zE (kU uS) <| zR (uM xI) <| zE (fT kV 0) <| zE mR <| zE fC <| zZ) ?_
 refine kO ?_
 refine jD <| kx [(35, (kE 3))] [] (zE (qQ 3 (hr := by decide)) <| zM <| zZ) ?_
 refine jJ (jZ.refl _) ?_
 refine jA <| kx [(36, (vb true))] [] (zE (qY true qS) <| zZ) ?_
 refine jA <| kD ?_
 refine jD <| jA <| jE <| jA <| kx [(12, (.ref 7 0))] [(7, some (bx (jH (jF.mk false []))))] (zE (iF yW jI (fun h => by cases h) 3) <| zN (qI 7 uD uE) <| zT (kR jI) <| zZ) ?_
 refine jA <| kx [(45, (vb false))] [] (zE (kU uT) <| zR (uM eL) <| zM <| zE (kU uS) <| zR (uM xI) <| zE (fT kV 0) <| zE mR <| zE fC <| zZ) ?_
 refine kO ?_
 refine jD <| kx [(35, (kE 4))] [] (zE (qQ 4 (hr := by decide)) <| zM <| zZ) ?_
 refine jJ (jZ.refl _) ?_
 refine jA <| kx [(36, (vb true))] [] (zE (qY true qS) <| zZ) ?_
 refine jA <| kD ?_
 refine jD <| jA <| jE <| jA <| kx [(12, (.ref 8 0))] [(8, some (bx (jH (jF.mk false []))))] (zE (iF yW jI (fun h => by cases h) 4) <| zN (qI 8 uD uE) <| zT (kR jI) <| zZ) ?_
 refine jA <| kx [(45, (vb false))] [] (zE (kU uT) <| zR (uM eL) <| zM <| zE (kU uS) <| zR (uM xI) <| zE (fT kV 0) <| zE mR <| zE fC <| zZ) ?_
 refine kO ?_
 refine jD <| kx [(35, (kE 5))] [] (zE (qQ 5 (hr := by decide)) <| zM <| zZ) ?_
 refine jJ (jZ.refl _) ?_
 refine jA <| kx [(36, (vb true))] [] (zE (qY true qS) <| zZ) ?_
 refine jA <| kD ?_
 refine jD <| jA <| jE <| jA <| kX (wk (l := [(8, (vi 13)), (10, (vi 13)), (34, (.d y1)), (35, (kE 5)), (36, (vb true))]) (b := [])) ?_
 refine kx [(12, (.ref 9 0))] [(9, some (bx (jH (jF.mk false []))))] (zE (iF yW jI (fun h => by cases h) 5) <| zN (qI 9 uD uE) <| zT (kR jI) <| zZ) ?_
 refine jA <| kx [(45, (vb false))] [] (zE (kU uT) <| zR (uM eL) <| zM <| zE (kU uS) <| zR (uM xI) <| zE (fT kV 0) <| zE mR <| zE fC <| zZ) ?_
 refine kO ?_
 refine jD <| kx [(35, (kE 6))] [] (zE (qQ 6 (hr := by decide)) <| zM <| zZ) ?_
 refine jJ (jZ.refl _) ?_
 refine jA <| kx [(36, (vb true))] [] (zE (qY true qS) <| zZ) ?_
 refine jA <| kD ?_
 refine jD <| jA <| jE <| jA <| kx [(12, (.ref 10 0))] [(10, some (bx (jH (jF.mk false []))))] (zE (iF yW jI (fun h => by cases h) 6) <| zN (qI 10 uD uE) <| zT (kR jI) <| zZ) ?_
 refine jA <| kx [(45, (vb false))] [] (zE (kU uT) <| zR (uM eL) <| zM <| zE (kU uS) <| zR (uM xI) <| zE (fT kV 0) <| zE mR <| zE fC <| zZ) ?_
 refine kO ?_
 refine jD <| kx [(35, (kE 7))] [] (zE (qQ 7 (hr := by decide)) <| zM <| zZ) ?_
 refine jJ (jZ.refl _) ?_
 refine jA <| kx [(36, (vb true))] [] (zE (qY true qS) <| zZ) ?_
 refine jA <| kD ?_
 refine jD <| jA <| jE <| jA <| kx [(12, (.ref 11 0))] [(11, some (bx (jH (jF.mk false []))))] (zE (iF yW jI (fun h => by cases h) 7) <| zN (qI 11 uD uE) <| zT (kR jI) <| zZ) ?_
 refine jA <| kx [(45, (vb false))] [] (zE (kU uT) <| zR (uM eL) <| zM <| zE (kU uS) <| zR (uM xI) <| zE (fT kV 0) <| zE mR <| zE fC <| zZ) ?_
 refine kO ?_
 refine jD <| kx [(35, (kE 8))] [] (zE (qQ 8 (hr := by decide)) <| zM <| zZ) ?_
 refine jJ (jZ.refl _) ?_
 refine jA <| kx [(36, (vb true))] [] (zE (qY true qS) <| zZ) ?_
 refine jA <| kD ?_
 refine jD <| jA <| jE <| jA <| kx [(12, (.ref 12 0))] [(12, some (bx (jH (jF.mk false []))))] (zE (iF yW jI (fun h => by cases h) 8) <| zN (qI 12 uD uE) <| zT (kR jI) <| zZ) ?_
 refine jA <| kx [(45, (vb false))] [] (zE (kU uT) <| zR (uM eL) <| zM <| zE (kU uS) <| zR (uM xI) <| zE (fT kV 0) <| zE mR <| zE fC <| zZ) ?_
 refine kO ?_
 refine jD <| kX (wk (l := [(8, (vi 13)), (10, (vi 13)), (34, (.d y1)), (35, (kE 8)), (45, (vb false))]) (b := [])) ?_
 refine kx [(35, (kE 9))] [] (zE (qQ 9 (hr := by decide)) <| zM <| zZ) ?_
 refine jJ (jZ.refl _) ?_
 refine jA <| kx [(36, (vb false))] [] (zE (qY false qS) <| zZ) ?_
 refine jA <| kO ?_
 refine kQ <| jA <| kx [(6, (vb true))] [] (zM <| zM <| zE aL <| zM <| zZ) ?_
 refine jG ⟨_, (.tmp (d := (.val (.bool (true)))) rfl .nil), ?_⟩
 rfl
theorem w_homF (lx ly lz la lb lc ld lf lu lv rx ry rz ra rb rc rd rf ru rv : Int) (right : Bool) (p : qH) (x y : Rat) (hx : eV p.x x 8) (hy : eV p.y y 8) (b0 b1 b2 e00 e01 e02 e10 e11 e12 e20 e21 e22 : Rat) (hF : RFr lx ly lz la lb lc ld rx ry rz ra rb rc rd b0 b1 b2 e00 e01 e02 e10 e11 e12 e20 e21 e22) (zV : QL b0 3) (zW : QL b1 3) (zU : QL b2 3) (vG : QL e00 400) (vE : QL e01 400) (vF : QL e02 400) (vN : QL e10 400) (vL : QL e11 400) (vM : QL e12 400) (vC : QL e20 400) (vA : QL e21 400) (vB : QL e22 400) (tx ty tz ta tb tc td tf tu tv : Int) (x00 : Rat) (dQ : (jM (gD ta tb tc td) (gL ta tb tc td) (gP ta tb tc td) e00 e01 e02) = x00) (x01 : Rat) (dT : (jM (gE ta tb tc td) (gK ta tb tc td) (gO ta tb tc td) e00 e01 e02) = x01) (x02 : Rat) (dV : (jM (zJ ta tb tc td) (zY ta tb tc td) (yB ta tb tc td) e00 e01 e02) = x02) (x10 : Rat) (dW : (jM (gD ta tb tc td) (gL ta tb tc td) (gP ta tb tc td) e10 e11 e12) = x10) (x11 : Rat) (dP : (jM (gE ta tb tc td) (gK ta tb tc td) (gO ta tb tc td) e10 e11 e12) = x11) (x12 : Rat) (dU : (jM (zJ ta tb tc td) (zY ta tb tc td) (yB ta tb tc td) e10 e11 e12) = x12) (x20 : Rat) (dN : (jM (gD ta tb tc td) (gL ta tb tc td) (gP ta tb tc td) e20 e21 e22) = x20) (x21 : Rat) (dS : (jM (gE ta tb tc td) (gK ta tb tc td) (gO ta tb tc td) e20 e21 e22) = x21) (x22 : Rat) (dR : (jM (zJ ta tb tc td) (zY ta tb tc td) (yB ta tb tc td) e20 e21 e22) = x22) (a00 : Rat) (mE : (jM ((1 : Int) : Rat) ((0 : Int) : Rat) ((0 : Int) : Rat) x00 x01 x02) = a00) (a01 : Rat) (nY : (jM ((0 : Int) : Rat) ((1 : Int) : Rat) ((0 : Int) : Rat) x00 x01 x02) = a01) (a02 : Rat) (mD : (jM ((-tu : Int) : Rat) ((-tv : Int) : Rat) ((tf : Int) : Rat) x00 x01 x02) = a02) (a10 : Rat) (nW : (jM ((1 : Int) : Rat) ((0 : Int) : Rat) ((0 : Int) : Rat) x10 x11 x12) = a10) (a11 : Rat) (mA : (jM ((0 : Int) : Rat) ((1 : Int) : Rat) ((0 : Int) : Rat) x10 x11 x12) = a11) (a12 : Rat) (nX : (jM ((-tu : Int) : Rat) ((-tv : Int) : Rat) ((tf : Int) : Rat) x10 x11 x12) = a12) (a20 : Rat) (mC : (jM ((1 : Int) : Rat) ((0 : Int) : Rat) ((0 : Int) : Rat) x20 x21 x22) = a20) (a21 : Rat) (mB : (jM ((0 : Int) : Rat) ((1 : Int) : Rat) ((0 : Int) : Rat) x20 x21 x22) = a21) (a22 : Rat) (nZ : (jM ((-tu : Int) : Rat) ((-tv : Int) : Rat) ((tf : Int) : Rat) x20 x21 x22) = a22) (k0 : Int) (hk0 : (1 * (a00.den : Int)) = k0) (k1 : Int) (hk1 : (k0 * (a01.den : Int)) = k1) (k2 : Int) (hk2 : (k1 * (a02.den : Int)) = k2) (k3 : Int) (hk3 : (k2 * (a10.den : Int)) = k3) (k4 : Int) (hk4 : (k3 * (a11.den : Int)) = k4) (k5 : Int) (hk5 : (k4 * (a12.den : Int)) = k5) (k6 : Int) (hk6 : (k5 * (a20.den : Int)) = k6) (k7 : Int) (hk7 : (k6 * (a21.den : Int)) = k7) (k8 : Int) (hk8 : (k7 * (a22.den : Int)) = k8) (v0 : Int) (hv0 : ((k8.fdiv (a00.den : Int)) * a00.num) = v0) (v1 : Int) (hv1 : ((k8.fdiv (a01.den : Int)) * a01.num) = v1) (v2 : Int) (hv2 : ((k8.fdiv (a02.den : Int)) * a02.num) = v2) (v3 : Int) (hv3 : ((k8.fdiv (a10.den : Int)) * a10.num) = v3) (v4 : Int) (hv4 : ((k8.fdiv (a11.den : Int)) * a11.num) = v4) (v5 : Int) (hv5 : ((k8.fdiv (a12.den : Int)) * a12.num) = v5) (v6 : Int) (hv6 : ((k8.fdiv (a20.den : Int)) * a20.num) = v6) (v7 : Int) (hv7 : ((k8.fdiv (a21.den : Int)) * a21.num) = v7) (v8 : Int) (hv8 : ((k8.fdiv (a22.den : Int)) * a22.num) = v8) (c0 c1 c2 c3 c4 c5 c6 c7 c8 : Int) (hc : xB [v0, v1, v2, v3, v4, v5, v6, v7, v8] = [c0, c1, c2, c3, c4, c5, c6, c7, c8]) (hbr : bJ p.x p.y = true) (hl : uL lx ly lz lu lv lf la lb lc ld = 0) (hr : uL rx ry rz ru rv rf ra rb rc rd = 0) (hup : upV la lb lc ld ra rb rc rd b0 b1 b2 = false) (hsd : (bif right then (kJ.mk (jT.mk rx ry rz) (jN.mk ra rb rc rd) rf (kM.mk ru rv)) else (kJ.mk (jT.mk lx ly lz) (jN.mk la lb lc ld) lf (kM.mk lu lv))) = (kJ.mk (jT.mk tx ty tz) (jN.mk ta tb tc td) tf (kM.mk tu tv))) (hst : uL tx ty tz tu tv tf ta tb tc td = 0) (hnz : vK [v0, v1, v2, v3, v4, v5, v6, v7, v8] ≠ 0) (hdv : qX (gM v0 v1 v2 v3 v4 v5 v6 v7 v8) ≠ 0) (bN : (valH [(jK c0), (jK c1), (jK c2), (jK c3), (jK c4), (jK c5), (jK c6), (jK c7), (jK c8)] (gM c0 c1 c2 c3 c4 c5 c6 c7 c8)) = true) (hv : (uV p.x && uV p.y) = false) : kF Tryz.prog 9 [(qP (kY.mk (kJ.mk (jT.mk lx ly lz) (jN.mk la lb lc ld) lf (kM.mk lu lv)) (kJ.mk (jT.mk rx ry rz) (jN.mk ra rb rc rd) rf (kM.mk ru rv)))), (.val (.bool (right))), (kI p)] (.val (.bool (true))) := by
 have hbl := xE hl
 have hbr := xE hr
 obtain ⟨hlx, hly, hlz, hlu, hlv, hlf, hlq⟩ := hbl
 obtain ⟨hrx, hry, hrz, hru, hrv, hrf, hrq⟩ := hbr
 obtain ⟨hla, hlb, hlc, hld, -⟩ := xG hlq
 obtain ⟨hra, hrb, hrc, hrd, -⟩ := xG hrq
 have hnl := nB hla hlb hlc hld
 have hnr := nB hra hrb hrc hrd
 have hz0 := fr_z0 hF hup
 have hz1 := fr_z1 hF hup
 have hz2 := fr_z2 hF hup
 obtain ⟨htx, hty, htz, htu, htv, htf, htq⟩ := xE hst
 obtain ⟨hta, htb, htc, htd, -⟩ := xG htq
 have hnt := nB hta htb htc htd
 let y1 := (qP (kY.mk (kJ.mk (jT.mk lx ly lz) (jN.mk la lb lc ld) lf (kM.mk lu lv)) (kJ.mk (jT.mk rx ry rz) (jN.mk ra rb rc rd) rf (kM.mk ru rv))))
 refine jL Tryz.func9 rfl cb9 rfl ?_
 show uK _ _ _ _ ⟨[(0, (.d y1)), (1, (vb right)), (2, (.d (kI p)))], []⟩
 refine jA <| kx [(3, (.ref 0 0)), (5, (.ref 1 0))] [(0, some (bx y1)), (1, some (bx (kI p)))] (zN (uX 0) <| zN (uX 1) <| zM <| zZ) ?_
 refine jA <| jA <| kx [(17, (vb false))] [] (zE (kC bS) <| zE eX <| zZ) ?_
 refine kO ?_
 refine jD <| jA <| jA <| kx [(20, (vb false))] [] (zR (kA nH) <| zE (qY true (kC (bW p x y (kH hx (by decide)) (kH hy (by decide)))) (by exact hbr)) <| zE eX <| zZ) ?_
 refine kO ?_
 refine jD <| jA ?_
 have bn1 : QL x00 2402 := (jX (Eq.symm dQ) (jR (n := 400) (k := 2402) (kB (fR) (by decide)) (kB (fP) (by decide)) (kB (fK) (by decide)) vG vE vF (by decide)))
 have bn2 : QL x01 2402 := (jX (Eq.symm dT) (jR (n := 400) (k := 2402) (kB (fM) (by decide)) (kB (fL) (by decide)) (kB (fN) (by decide)) vG vE vF (by decide)))
 have bn3 : QL x02 2402 := (jX (Eq.symm dV) (jR (n := 400) (k := 2402) (kB (fJ) (by decide)) (kB (fA) (by decide)) (kB (fH) (by decide)) vG vE vF (by decide)))
 have bn4 : QL x10 2402 := (jX (Eq.symm dW) (jR (n := 400) (k := 2402) (kB (fR) (by decide)) (kB (fP) (by decide)) (kB (fK) (by decide)) vN vL vM (by decide)))
 have bn5 : QL x11 2402 := (jX (Eq.symm dP) (jR (n := 400) (k := 2402) (kB (fM) (by decide)) (kB (fL) (by decide)) (kB (fN) (by decide)) vN vL vM (by decide)))
 have bn6 : QL x12 2402 := (jX (Eq.symm dU) (jR (n := 400) (k := 2402) (kB (fJ) (by decide)) (kB (fA) (by decide)) (kB (fH) (by decide)) vN vL vM (by decide)))
 have bn7 : QL x20 2402 := (jX (Eq.symm dN) (jR (n := 400) (k := 2402) (kB (fR) (by decide)) (kB (fP) (by decide)) (kB (fK) (by decide)) vC vA vB (by decide)))
 have bn8 : QL x21 2402 := (jX (Eq.symm dS) (jR (n := 400) (k := 2402) (kB (fM) (by decide)) (kB (fL) (by decide)) (kB (fN) (by decide)) vC vA vB (by decide)))
 have bn9 : QL x22 2402 := (jX (Eq.symm dR) (jR (n := 400) (k := 2402) (kB (fJ) (by decide)) (kB (fA) (by decide)) (kB (fH) (by decide)) vC vA vB (by decide)))
 have bn10 : QL a00 14414 := (jX (Eq.symm mE) (jR (n := 2402) (k := 14414) (kB (qi 1) (by decide)) (kB (qi 0) (by decide)) (kB (qi 0) (by decide)) bn1 bn2 bn3 (by decide)))
 have bn11 : QL a01 14414 := (jX (Eq.symm nY) (jR (n := 2402) (k := 14414) (kB (qi 0) (by decide)) (kB (qi 1) (by decide)) (kB (qi 0) (by decide)) bn1 bn2 bn3 (by decide)))
 have bn12 : QL a02 14414 := (jX (Eq.symm mD) (jR (n := 2402) (k := 14414) (kB (qi (-tu)) (by decide)) (kB (qi (-tv)) (by decide)) (kB (qi tf) (by decide)) bn1 bn2 bn3 (by decide)))
 have bn13 : QL a10 14414 := (jX (Eq.symm nW) (jR (n := 2402) (k := 14414) (kB (qi 1) (by decide)) (kB (qi 0) (by decide)) (kB (qi 0) (by decide)) bn4 bn5 bn6 (by decide)))
 have bn14 : QL a11 14414 := (jX (Eq.symm mA) (jR (n := 2402) (k := 14414) (kB (qi 0) (by decide)) (kB (qi 1) (by decide)) (kB (qi 0) (by decide)) bn4 bn5 bn6 (by decide)))
 have bn15 : QL a12 14414 := (jX (Eq.symm nX) (jR (n := 2402) (k := 14414) (kB (qi (-tu)) (by decide)) (kB (qi (-tv)) (by decide)) (kB (qi tf) (by decide)) bn4 bn5 bn6 (by decide)))
 have bn16 : QL a20 14414 := (jX (Eq.symm mC) (jR (n := 2402) (k := 14414) (kB (qi 1) (by decide)) (kB (qi 0) (by decide)) (kB (qi 0) (by decide)) bn7 bn8 bn9 (by decide)))
 have bn17 : QL a21 14414 := (jX (Eq.symm mB) (jR (n := 2402) (k := 14414) (kB (qi 0) (by decide)) (kB (qi 1) (by decide)) (kB (qi 0) (by decide)) bn7 bn8 bn9 (by decide)))
 have bn18 : QL a22 14414 := (jX (Eq.symm nZ) (jR (n := 2402) (k := 14414) (kB (qi (-tu)) (by decide)) (kB (qi (-tv)) (by decide)) (kB (qi tf) (by decide)) bn7 bn8 bn9 (by decide)))
 have bn19 : kZ (jK k0) k0 14415 := (kT hk0.symm (jP (k := 14415) (yI (z := 1) (by decide)) (jW bn10) (by decide)))
 have bn20 : kZ (jK k1) k1 28829 := (kT hk1.symm (jP (k := 28829) bn19 (jW bn11) (by decide)))
 have bn21 : kZ (jK k2) k2 43243 := (kT hk2.symm (jP (k := 43243) bn20 (jW bn12) (by decide)))
 have bn22 : kZ (jK k3) k3 57657 := (kT hk3.symm (jP (k := 57657) bn21 (jW bn13) (by decide)))
 have bn23 : kZ (jK k4) k4 72071 := (kT hk4.symm (jP (k := 72071) bn22 (jW bn14) (by decide)))
 have bn24 : kZ (jK k5) k5 86485 := (kT hk5.symm (jP (k := 86485) bn23 (jW bn15) (by decide)))
 have bn25 : kZ (jK k6) k6 100899 := (kT hk6.symm (jP (k := 100899) bn24 (jW bn16) (by decide)))
 have bn26 : kZ (jK k7) k7 115313 := (kT hk7.symm (jP (k := 115313) bn25 (jW bn17) (by decide)))
 have bn27 : kZ (jK k8) k8 129727 := (kT hk8.symm (jP (k := 129727) bn26 (jW bn18) (by decide)))
 have bn28 : kZ (jK v0) v0 144142 := (kT hv0.symm (jP (k := 144142) (qW (k := 129728) bn27 (jW bn10) (by decide)) (kN bn10) (by decide)))
 have bn29 : kZ (jK v1) v1 144142 := (kT hv1.symm (jP (k := 144142) (qW (k := 129728) bn27 (jW bn11) (by decide)) (kN bn11) (by decide)))
 have bn30 : kZ (jK v2) v2 144142 := (kT hv2.symm (jP (k := 144142) (qW (k := 129728) bn27 (jW bn12) (by decide)) (kN bn12) (by decide)))
 have bn31 : kZ (jK v3) v3 144142 := (kT hv3.symm (jP (k := 144142) (qW (k := 129728) bn27 (jW bn13) (by decide)) (kN bn13) (by decide)))
 have bn32 : kZ (jK v4) v4 144142 := (kT hv4.symm (jP (k := 144142) (qW (k := 129728) bn27 (jW bn14) (by decide)) (kN bn14) (by decide)))
 have bn33 : kZ (jK v5) v5 144142 := (kT hv5.symm (jP (k := 144142) (qW (k := 129728) bn27 (jW bn15) (by decide)) (kN bn15) (by decide)))
 have bn34 : kZ (jK v6) v6 144142 := (kT hv6.symm (jP (k := 144142) (qW (k := 129728) bn27 (jW bn16) (by decide)) (kN bn16) (by decide)))
 have bn35 : kZ (jK v7) v7 144142 := (kT hv7.symm (jP (k := 144142) (qW (k := 129728) bn27 (jW bn17) (by decide)) (kN bn17) (by decide)))
 have bn36 : kZ (jK v8) v8 144142 := (kT hv8.symm (jP (k := 144142) (qW (k := 129728) bn27 (jW bn18) (by decide)) (kN bn18) (by decide)))
 have bn37 : ∀ c ∈ [c0, c1, c2, c3, c4, c5, c6, c7, c8], kZ (jK c) c 144142 := mZ (n := 144142) (.cons bn28 (.cons bn29 (.cons bn30 (.cons bn31 (.cons bn32 (.cons bn33 (.cons bn34 (.cons bn35 (.cons bn36 .nil))))))))) hc
 refine kx [(7, (.ref 2 0)), (8, (vi 0))] [(2, some (bx (qL (A9.mk (jK c0) (jK c1) (jK c2) (jK c3) (jK c4) (jK c5) (jK c6) (jK c7) (jK c8)))))] (zR (kA bZ) <| zM <| zE (kC (q_hom lx ly lz la lb lc ld lf lu lv rx ry rz ra rb rc rd rf ru rv right b0 b1 b2 e00 e01 e02 e10 e11 e12 e20 e21 e22 hF zV zW zU vG vE vF vN vL vM vC vA vB tx ty tz ta tb tc td tf tu tv x00 dQ x01 dT x02 dV x10 dW x11 dP x12 dU x20 dN x21 dS x22 dR a00 mE a01 nY a02 mD a10 nW a11 mA a12 nX a20 mC a21 mB a22 nZ k0 hk0 k1 hk1 k2 hk2 k3 hk3 k4 hk4 k5 hk5 k6 hk6 k7 hk7 k8 hk8 v0 hv0 v1 hv1 v2 hv2 v3 hv3 v4 hv4 v5 hv5 v6 hv6 v7 hv7 v8 hv8 c0 c1 c2 c3 c4 c5 c6 c7 c8 hc hl hr hup hsd hst hnz hdv)) <| zM <| zE uH <| zE uH <| zN (qI 2 ze98 zo98) <| zT (kR mJ) <| zM <| zZ) ?_
 refine jA <| kx [(9, (.ref 3 0)), (10, (vi 0))] [(3, some (bx (yF (RLp.mk (kY.mk (kJ.mk (jT.mk lx ly lz) (jN.mk la lb lc ld) lf (kM.mk lu lv)) (kJ.mk (jT.mk rx ry rz) (jN.mk ra rb rc rd) rf (kM.mk ru rv))) (A3.mk (jC b0) (jC b1) (jC b2)) (A3.mk (A3.mk (jC e00) (jC e01) (jC e02)) (A3.mk (jC e10) (jC e11) (jC e12)) (A3.mk (jC e20) (jC e21) (jC e22)))))))] (zR (kA bZ) <| zE (kC (qs_pre lx ly lz la lb lc ld lf lu lv rx ry rz ra rb rc rd rf ru rv b0 b1 b2 e00 e01 e02 e10 e11 e12 e20 e21 e22 hF zV zW zU vG vE vF vN vL vM vC vA vB hl hr hup)) <| zM <| zE uH <| zE uH <| zN (qI 3 ze47 zo47) <| zT (kR eI) <| zM <| zZ) ?_
 refine jA <| jA <| kx [(33, (vb false))] [] (zM <| zE mR <| zZ) ?_
 refine kO ?_
 refine jD <| jA <| jA <| kx [(56, (vb false))] [] (zM <| zE mR <| zM <| zR (kA mJ) <| zE (qY true (kC (l_Valid (A9.mk (jK c0) (jK c1) (jK c2) (jK c3) (jK c4) (jK c5) (jK c6) (jK c7) (jK c8)) c0 c1 c2 c3 c4 c5 c6 c7 c8 (qJ (bn37 c0 (by simp)) (by decide)) (qJ (bn37 c1 (by simp)) (by decide)) (qJ (bn37 c2 (by simp)) (by decide)) (qJ (bn37 c3 (by simp)) (by decide)) (qJ (bn37 c4 (by simp)) (by decide)) (qJ (bn37 c5 (by simp)) (by decide)) (qJ (bn37 c6 (by simp)) (by decide)) (qJ (bn37 c7 (by simp)) (by decide)) (qJ (bn37 c8 (by simp)) (by decide)))) (by exact bN)) <| zE eX <| zE fC <| zZ) ?_
 refine kO ?_
 refine jD <| jA <| jA <| kx [(59, (vb true))] [] (zR (kA nH) <| zE (kC (qs_canF p x y (kH hx (by decide)) (kH hy (by decide)) hv)) <| zE mR <| zZ) ?_
 refine kD ?_
 refine jA <| kx [(6, (vb true))] [] (zM <| zZ) ?_
 refine jG ⟨_, (.tmp (d := (.val (.bool (true)))) rfl .nil), ?_⟩
 rfl
theorem w_homB (lx ly lz la lb lc ld lf lu lv rx ry rz ra rb rc rd rf ru rv : Int) (right : Bool) (x y : Rat) (hx : QL x 8) (hy : QL y 8) (b0 b1 b2 e00 e01 e02 e10 e11 e12 e20 e21 e22 : Rat) (hF : RFr lx ly lz la lb lc ld rx ry rz ra rb rc rd b0 b1 b2 e00 e01 e02 e10 e11 e12 e20 e21 e22) (zV : QL b0 3) (zW : QL b1 3) (zU : QL b2 3) (vG : QL e00 400) (vE : QL e01 400) (vF : QL e02 400) (vN : QL e10 400) (vL : QL e11 400) (vM : QL e12 400) (vC : QL e20 400) (vA : QL e21 400) (vB : QL e22 400) (tx ty tz ta tb tc td tf tu tv : Int) (x00 : Rat) (dQ : (jM (gD ta tb tc td) (gL ta tb tc td) (gP ta tb tc td) e00 e01 e02) = x00) (x01 : Rat) (dT : (jM (gE ta tb tc td) (gK ta tb tc td) (gO ta tb tc td) e00 e01 e02) = x01) (x02 : Rat) (dV : (jM (zJ ta tb tc td) (zY ta tb tc td) (yB ta tb tc td) e00 e01 e02) = x02) (x10 : Rat) (dW : (jM (gD ta tb tc td) (gL ta tb tc td) (gP ta tb tc td) e10 e11 e12) = x10) (x11 : Rat) (dP : (jM (gE ta tb tc td) (gK ta tb tc td) (gO ta tb tc td) e10 e11 e12) = x11) (x12 : Rat) (dU : (jM (zJ ta tb tc td) (zY ta tb tc td) (yB ta tb tc td) e10 e11 e12) = x12) (x20 : Rat) (dN : (jM (gD ta tb tc td) (gL ta tb tc td) (gP ta tb tc td) e20 e21 e22) = x20) (x21 : Rat) (dS : (jM (gE ta tb tc td) (gK ta tb tc td) (gO ta tb tc td) e20 e21 e22) = x21) (x22 : Rat) (dR : (jM (zJ ta tb tc td) (zY ta tb tc td) (yB ta tb tc td) e20 e21 e22) = x22) (a00 : Rat) (mE : (jM ((1 : Int) : Rat) ((0 : Int) : Rat) ((0 : Int) : Rat) x00 x01 x02) = a00) (a01 : Rat) (nY : (jM ((0 : Int) : Rat) ((1 : Int) : Rat) ((0 : Int) : Rat) x00 x01 x02) = a01) (a02 : Rat) (mD : (jM ((-tu : Int) : Rat) ((-tv : Int) : Rat) ((tf : Int) : Rat) x00 x01 x02) = a02) (a10 : Rat) (nW : (jM ((1 : Int) : Rat) ((0 : Int) : Rat) ((0 : Int) : Rat) x10 x11 x12) = a10) (a11 : Rat) (mA : (jM ((0 : Int) : Rat) ((1 : Int) : Rat) ((0 : Int) : Rat) x10 x11 x12) = a11) (a12 : Rat) (nX : (jM ((-tu : Int) : Rat) ((-tv : Int) : Rat) ((tf : Int) : Rat) x10 x11 x12) = a12) (a20 : Rat) (mC : (jM ((1 : Int) : Rat) ((0 : Int) : Rat) ((0 : Int) : Rat) x20 x21 x22) = a20) (a21 : Rat) (mB : (jM ((0 : Int) : Rat) ((1 : Int) : Rat) ((0 : Int) : Rat) x20 x21 x22) = a21) (a22 : Rat) (nZ : (jM ((-tu : Int) : Rat) ((-tv : Int) : Rat) ((tf : Int) : Rat) x20 x21 x22) = a22) (k0 : Int) (hk0 : (1 * (a00.den : Int)) = k0) (k1 : Int) (hk1 : (k0 * (a01.den : Int)) = k1) (k2 : Int) (hk2 : (k1 * (a02.den : Int)) = k2) (k3 : Int) (hk3 : (k2 * (a10.den : Int)) = k3) (k4 : Int) (hk4 : (k3 * (a11.den : Int)) = k4) (k5 : Int) (hk5 : (k4 * (a12.den : Int)) = k5) (k6 : Int) (hk6 : (k5 * (a20.den : Int)) = k6) (k7 : Int) (hk7 : (k6 * (a21.den : Int)) = k7) (k8 : Int) (hk8 : (k7 * (a22.den : Int)) = k8) (v0 : Int) (hv0 : ((k8.fdiv (a00.den : Int)) * a00.num) = v0) (v1 : Int) (hv1 : ((k8.fdiv (a01.den : Int)) * a01.num) = v1) (v2 : Int) (hv2 : ((k8.fdiv (a02.den : Int)) * a02.num) = v2) (v3 : Int) (hv3 : ((k8.fdiv (a10.den : Int)) * a10.num) = v3) (v4 : Int) (hv4 : ((k8.fdiv (a11.den : Int)) * a11.num) = v4) (v5 : Int) (hv5 : ((k8.fdiv (a12.den : Int)) * a12.num) = v5) (v6 : Int) (hv6 : ((k8.fdiv (a20.den : Int)) * a20.num) = v6) (v7 : Int) (hv7 : ((k8.fdiv (a21.den : Int)) * a21.num) = v7) (v8 : Int) (hv8 : ((k8.fdiv (a22.den : Int)) * a22.num) = v8) (w0 : Rat) (hw0 : (jM (gD ta tb tc td) (gE ta tb tc td) (zJ ta tb tc td) (x - ((tu : Int) : Rat)) (y - ((tv : Int) : Rat)) ((tf : Int) : Rat)) = w0) (w1 : Rat) (hw1 : (jM (gL ta tb tc td) (gK ta tb tc td) (zY ta tb tc td) (x - ((tu : Int) : Rat)) (y - ((tv : Int) : Rat)) ((tf : Int) : Rat)) = w1) (w2 : Rat) (hw2 : (jM (gP ta tb tc td) (gO ta tb tc td) (yB ta tb tc td) (x - ((tu : Int) : Rat)) (y - ((tv : Int) : Rat)) ((tf : Int) : Rat)) = w2) (c0 c1 c2 c3 c4 c5 c6 c7 c8 : Int) (hc : xB [v0, v1, v2, v3, v4, v5, v6, v7, v8] = [c0, c1, c2, c3, c4, c5, c6, c7, c8]) (hbr : bJ (jC x) (jC y) = true) (hl : uL lx ly lz lu lv lf la lb lc ld = 0) (hr : uL rx ry rz ru rv rf ra rb rc rd = 0) (hup : upV la lb lc ld ra rb rc rd b0 b1 b2 = false) (hsd : (bif right then (kJ.mk (jT.mk rx ry rz) (jN.mk ra rb rc rd) rf (kM.mk ru rv)) else (kJ.mk (jT.mk lx ly lz) (jN.mk la lb lc ld) lf (kM.mk lu lv))) = (kJ.mk (jT.mk tx ty tz) (jN.mk ta tb tc td) tf (kM.mk tu tv))) (hst : uL tx ty tz tu tv tf ta tb tc td = 0) (hnz : vK [v0, v1, v2, v3, v4, v5, v6, v7, v8] ≠ 0) (hdv : qX (gM v0 v1 v2 v3 v4 v5 v6 v7 v8) ≠ 0) (bN : (valH [(jK c0), (jK c1), (jK c2), (jK c3), (jK c4), (jK c5), (jK c6), (jK c7), (jK c8)] (gM c0 c1 c2 c3 c4 c5 c6 c7 c8)) = true) (hd : (yT (jM e20 e21 e22 w0 w1 w2)) ≤ 0) : kF Tryz.prog 9 [(qP (kY.mk (kJ.mk (jT.mk lx ly lz) (jN.mk la lb lc ld) lf (kM.mk lu lv)) (kJ.mk (jT.mk rx ry rz) (jN.mk ra rb rc rd) rf (kM.mk ru rv)))), (.val (.bool (right))), (kI (qH.mk (jC x) (jC y)))] (.val (.bool (true))) := by
 have hbl := xE hl
 have hbr := xE hr
 obtain ⟨hlx, hly, hlz, hlu, hlv, hlf, hlq⟩ := hbl
 obtain ⟨hrx, hry, hrz, hru, hrv, hrf, hrq⟩ := hbr
 obtain ⟨hla, hlb, hlc, hld, -⟩ := xG hlq
 obtain ⟨hra, hrb, hrc, hrd, -⟩ := xG hrq
 have hnl := nB hla hlb hlc hld
 have hnr := nB hra hrb hrc hrd
 have hz0 := fr_z0 hF hup
 have hz1 := fr_z1 hF hup
 have hz2 := fr_z2 hF hup
 obtain ⟨htx, hty, htz, htu, htv, htf, htq⟩ := xE hst
 obtain ⟨hta, htb, htc, htd, -⟩ := xG htq
 have hnt := nB hta htb htc htd
 let y1 := (qP (kY.mk (kJ.mk (jT.mk lx ly lz) (jN.mk la lb lc ld) lf (kM.mk lu lv)) (kJ.mk (jT.mk rx ry rz) (jN.mk ra rb rc rd) rf (kM.mk ru rv))))
 refine jL Tryz.func9 rfl cb9 rfl ?_
 show uK _ _ _ _ ⟨[(0, (.d y1)), (1, (vb right)), (2, (.d (kI (qH.mk (jC x) (jC y)))))], []⟩
 refine jA <| kx [(3, (.ref 0 0)), (5, (.ref 1 0))] [(0, some (bx y1)), (1, some (bx (kI (qH.mk (jC x) (jC y)))))] (zN (uX 0) <| zN (uX 1) <| zM <| zZ) ?_
 refine jA <| jA <| kx [(17, (vb false))] [] (zE (kC bS) <| zE eX <| zZ) ?_
 refine kO ?_
 refine jD <| jA <| jA <| kx [(20, (vb false))] [] (zR (kA nH) <| zE (qY true (kC (bW (qH.mk (jC x) (jC y)) x y (kH (kL hx) (by decide)) (kH (kL hy) (by decide)))) (by exact hbr)) <| zE eX <| zZ) ?_
 refine kO ?_
 refine jD <| jA ?_
 have bn1 : QL x00 2402 := (jX (Eq.symm dQ) (jR (n := 400) (k := 2402) (kB (fR) (by decide)) (kB (fP) (by decide)) (kB (fK) (by decide)) vG vE vF (by decide)))
 have bn2 : QL x01 2402 := (jX (Eq.symm dT) (jR (n := 400) (k := 2402) (kB (fM) (by decide)) (kB (fL) (by decide)) (kB (fN) (by decide)) vG vE vF (by decide)))
 have bn3 : QL x02 2402 := (jX (Eq.symm dV) (jR (n := 400) (k := 2402) (kB (fJ) (by decide)) (kB (fA) (by decide)) (kB (fH) (by decide)) vG vE vF (by decide)))
 have bn4 : QL x10 2402 := (jX (Eq.symm dW) (jR (n := 400) (k := 2402) (kB (fR) (by decide)) (kB (fP) (by decide)) (kB (fK) (by decide)) vN vL vM (by decide)))
 have bn5 : QL x11 2402 := (jX (Eq.symm dP) (jR (n := 400) (k := 2402) (kB (fM) (by decide)) (kB (fL) (by decide)) (kB (fN) (by decide)) vN vL vM (by decide)))
 have bn6 : QL x12 2402 := (jX (Eq.symm dU) (jR (n := 400) (k := 2402) (kB (fJ) (by decide)) (kB (fA) (by decide)) (kB (fH) (by decide)) vN vL vM (by decide)))
 have bn7 : QL x20 2402 := (jX (Eq.symm dN) (jR (n := 400) (k := 2402) (kB (fR) (by decide)) (kB (fP) (by decide)) (kB (fK) (by decide)) vC vA vB (by decide)))
 have bn8 : QL x21 2402 := (jX (Eq.symm dS) (jR (n := 400) (k := 2402) (kB (fM) (by decide)) (kB (fL) (by decide)) (kB (fN) (by decide)) vC vA vB (by decide)))
 have bn9 : QL x22 2402 := (jX (Eq.symm dR) (jR (n := 400) (k := 2402) (kB (fJ) (by decide)) (kB (fA) (by decide)) (kB (fH) (by decide)) vC vA vB (by decide)))
 have bn10 : QL a00 14414 := (jX (Eq.symm mE) (jR (n := 2402) (k := 14414) (kB (qi 1) (by decide)) (kB (qi 0) (by decide)) (kB (qi 0) (by decide)) bn1 bn2 bn3 (by decide)))
 have bn11 : QL a01 14414 := (jX (Eq.symm nY) (jR (n := 2402) (k := 14414) (kB (qi 0) (by decide)) (kB (qi 1) (by decide)) (kB (qi 0) (by decide)) bn1 bn2 bn3 (by decide)))
 have bn12 : QL a02 14414 := (jX (Eq.symm mD) (jR (n := 2402) (k := 14414) (kB (qi (-tu)) (by decide)) (kB (qi (-tv)) (by decide)) (kB (qi tf) (by decide)) bn1 bn2 bn3 (by decide)))
 have bn13 : QL a10 14414 := (jX (Eq.symm nW) (jR (n := 2402) (k := 14414) (kB (qi 1) (by decide)) (kB (qi 0) (by decide)) (kB (qi 0) (by decide)) bn4 bn5 bn6 (by decide)))
 have bn14 : QL a11 14414 := (jX (Eq.symm mA) (jR (n := 2402) (k := 14414) (kB (qi 0) (by decide)) (kB (qi 1) (by decide)) (kB (qi 0) (by decide)) bn4 bn5 bn6 (by decide)))
 have bn15 : QL a12 14414 := (jX (Eq.symm nX) (jR (n := 2402) (k := 14414) (kB (qi (-tu)) (by decide)) (kB (qi (-tv)) (by decide)) (kB (qi tf) (by decide)) bn4 bn5 bn6 (by decide)))
 have bn16 : QL a20 14414 := (jX (Eq.symm mC) (jR (n := 2402) (k := 14414) (kB (qi 1) (by decide)) (kB (qi 0) (by decide)) (kB (qi 0) (by decide)) bn7 bn8 bn9 (by decide)))
 have bn17 : QL a21 14414 := (jX (Eq.symm mB) (jR (n := 2402) (k := 14414) (kB (qi 0) (by decide)) (kB (qi 1) (by decide)) (kB (qi 0) (by decide)) bn7 bn8 bn9 (by decide)))
 have bn18 : QL a22 14414 := (jX (Eq.symm nZ) (jR (n := 2402) (k := 14414) (kB (qi (-tu)) (by decide)) (kB (qi (-tv)) (by decide)) (kB (qi tf) (by decide)) bn7 bn8 bn9 (by decide)))
 have bn19 : kZ (jK k0) k0 14415 := (kT hk0.symm (jP (k := 14415) (yI (z := 1) (by decide)) (jW bn10) (by decide)))
 have bn20 : kZ (jK k1) k1 28829 := (kT hk1.symm (jP (k := 28829) bn19 (jW bn11) (by decide)))
 have bn21 : kZ (jK k2) k2 43243 := (kT hk2.symm (jP (k := 43243) bn20 (jW bn12) (by decide)))
 have bn22 : kZ (jK k3) k3 57657 := (kT hk3.symm (jP (k := 57657) bn21 (jW bn13) (by decide)))
 have bn23 : kZ (jK k4) k4 72071 := (kT hk4.symm (jP (k := 72071) bn22 (jW bn14) (by decide)))
 have bn24 : kZ (jK k5) k5 86485 := (kT hk5.symm (jP (k := 86485) bn23 (jW bn15) (by decide)))
 have bn25 : kZ (jK k6) k6 100899 := (kT hk6.symm (jP (k := 100899) bn24 (jW bn16) (by decide)))
 have bn26 : kZ (jK k7) k7 115313 := (kT hk7.symm (jP (k := 115313) bn25 (jW bn17) (by decide)))
 have bn27 : kZ (jK k8) k8 129727 := (kT hk8.symm (jP (k := 129727) bn26 (jW bn18) (by decide)))
 have bn28 : kZ (jK v0) v0 144142 := (kT hv0.symm (jP (k := 144142) (qW (k := 129728) bn27 (jW bn10) (by decide)) (kN bn10) (by decide)))
 have bn29 : kZ (jK v1) v1 144142 := (kT hv1.symm (jP (k := 144142) (qW (k := 129728) bn27 (jW bn11) (by decide)) (kN bn11) (by decide)))
 have bn30 : kZ (jK v2) v2 144142 := (kT hv2.symm (jP (k := 144142) (qW (k := 129728) bn27 (jW bn12) (by decide)) (kN bn12) (by decide)))
 have bn31 : kZ (jK v3) v3 144142 := (kT hv3.symm (jP (k := 144142) (qW (k := 129728) bn27 (jW bn13) (by decide)) (kN bn13) (by decide)))
 have bn32 : kZ (jK v4) v4 144142 := (kT hv4.symm (jP (k := 144142) (qW (k := 129728) bn27 (jW bn14) (by decide)) (kN bn14) (by decide)))
 have bn33 : kZ (jK v5) v5 144142 := (kT hv5.symm (jP (k := 144142) (qW (k := 129728) bn27 (jW bn15) (by decide)) (kN bn15) (by decide)))
 have bn34 : kZ (jK v6) v6 144142 := (kT hv6.symm (jP (k := 144142) (qW (k := 129728) bn27 (jW bn16) (by decide)) (kN bn16) (by decide)))
 have bn35 : kZ (jK v7) v7 144142 := (kT hv7.symm (jP (k := 144142) (qW (k := 129728) bn27 (jW bn17) (by decide)) (kN bn17) (by decide)))
 have bn36 : kZ (jK v8) v8 144142 := (kT hv8.symm (jP (k := 144142) (qW (k := 129728) bn27 (jW bn18) (by decide)) (kN bn18) (by decide)))
 have bn37 : ∀ c ∈ [c0, c1, c2, c3, c4, c5, c6, c7, c8], kZ (jK c) c 144142 := mZ (n := 144142) (.cons bn28 (.cons bn29 (.cons bn30 (.cons bn31 (.cons bn32 (.cons bn33 (.cons bn34 (.cons bn35 (.cons bn36 .nil))))))))) hc
 refine kx [(7, (.ref 2 0)), (8, (vi 0))] [(2, some (bx (qL (A9.mk (jK c0) (jK c1) (jK c2) (jK c3) (jK c4) (jK c5) (jK c6) (jK c7) (jK c8)))))] (zR (kA bZ) <| zM <| zE (kC (q_hom lx ly lz la lb lc ld lf lu lv rx ry rz ra rb rc rd rf ru rv right b0 b1 b2 e00 e01 e02 e10 e11 e12 e20 e21 e22 hF zV zW zU vG vE vF vN vL vM vC vA vB tx ty tz ta tb tc td tf tu tv x00 dQ x01 dT x02 dV x10 dW x11 dP x12 dU x20 dN x21 dS x22 dR a00 mE a01 nY a02 mD a10 nW a11 mA a12 nX a20 mC a21 mB a22 nZ k0 hk0 k1 hk1 k2 hk2 k3 hk3 k4 hk4 k5 hk5 k6 hk6 k7 hk7 k8 hk8 v0 hv0 v1 hv1 v2 hv2 v3 hv3 v4 hv4 v5 hv5 v6 hv6 v7 hv7 v8 hv8 c0 c1 c2 c3 c4 c5 c6 c7 c8 hc hl hr hup hsd hst hnz hdv)) <| zM <| zE uH <| zE uH <| zN (qI 2 ze98 zo98) <| zT (kR mJ) <| zM <| zZ) ?_
 refine jA <| kx [(9, (.ref 3 0)), (10, (vi 0))] [(3, some (bx (yF (RLp.mk (kY.mk (kJ.mk (jT.mk lx ly lz) (jN.mk la lb lc ld) lf (kM.mk lu lv)) (kJ.mk (jT.mk rx ry rz) (jN.mk ra rb rc rd) rf (kM.mk ru rv))) (A3.mk (jC b0) (jC b1) (jC b2)) (A3.mk (A3.mk (jC e00) (jC e01) (jC e02)) (A3.mk (jC e10) (jC e11) (jC e12)) (A3.mk (jC e20) (jC e21) (jC e22)))))))] (zR (kA bZ) <| zE (kC (qs_pre lx ly lz la lb lc ld lf lu lv rx ry rz ra rb rc rd rf ru rv b0 b1 b2 e00 e01 e02 e10 e11 e12 e20 e21 e22 hF zV zW zU vG vE vF vN vL vM vC vA vB hl hr hup)) <| zM <| zE uH <| zE uH <| zN (qI 3 ze47 zo47) <| zT (kR eI) <| zM <| zZ) ?_
 refine jA <| jA <| kx [(33, (vb false))] [] (zM <| zE mR <| zZ) ?_
 refine kO ?_
 refine jD <| jA <| jA <| kx [(56, (vb false))] [] (zM <| zE mR <| zM <| zR (kA mJ) <| zE (qY true (kC (l_Valid (A9.mk (jK c0) (jK c1) (jK c2) (jK c3) (jK c4) (jK c5) (jK c6) (jK c7) (jK c8)) c0 c1 c2 c3 c4 c5 c6 c7 c8 (qJ (bn37 c0 (by simp)) (by decide)) (qJ (bn37 c1 (by simp)) (by decide)) (qJ (bn37 c2 (by simp)) (by decide)) (qJ (bn37 c3 (by simp)) (by decide)) (qJ (bn37 c4 (by simp)) (by decide)) (qJ (bn37 c5 (by simp)) (by decide)) (qJ (bn37 c6 (by simp)) (by decide)) (qJ (bn37 c7 (by simp)) (by decide)) (qJ (bn37 c8 (by simp)) (by decide)))) (by exact bN)) <| zE eX <| zE fC <| zZ) ?_
 refine kO ?_
 refine jD <| jA <| jA <| kx [(59, (vb false))] [] (zR (kA nH) <| zE (kC (qs_canT x y (qu hx) (qu hy))) <| zE mR <| zZ) ?_
 refine kO ?_
 refine jD <| jA ?_
 have bn38 : QL w0 74 := (jX (Eq.symm hw0) (jR (n := 12) (k := 74) (kB (fR) (by decide)) (kB (fM) (by decide)) (kB (fJ) (by decide)) (qZ (k := 12) hx (qi tu) (by decide)) (qZ (k := 12) hy (qi tv) (by decide)) (kB (qi tf) (by decide)) (by decide)))
 have bn39 : QL w1 74 := (jX (Eq.symm hw1) (jR (n := 12) (k := 74) (kB (fP) (by decide)) (kB (fL) (by decide)) (kB (fA) (by decide)) (qZ (k := 12) hx (qi tu) (by decide)) (qZ (k := 12) hy (qi tv) (by decide)) (kB (qi tf) (by decide)) (by decide)))
 have bn40 : QL w2 74 := (jX (Eq.symm hw2) (jR (n := 12) (k := 74) (kB (fK) (by decide)) (kB (fN) (by decide)) (kB (fH) (by decide)) (qZ (k := 12) hx (qi tu) (by decide)) (qZ (k := 12) hy (qi tv) (by decide)) (kB (qi tf) (by decide)) (by decide)))
 refine kx [(10, (vi 20)), (13, (.ref 4 0))] [(4, some (bx (kI (qH.mk (kG.mk (jF.mk false []) (jF.mk false [])) (kG.mk (jF.mk false []) (jF.mk false []))))))] (zR (kA eI) <| zM <| zR (kA nH) <| zE (kC (qs_recN lx ly lz la lb lc ld lf lu lv rx ry rz ra rb rc rd rf ru rv b0 b1 b2 e00 e01 e02 e10 e11 e12 e20 e21 e22 zV zW zU vG vE vF vN vL vM vC vA vB right x y (qu hx) (qu hy) tx ty tz ta tb tc td tf tu tv w0 hw0 w1 hw1 w2 hw2 hsd hst hd)) <| zM <| zE uH <| zE uH <| zN (qI 4 ze56 zo56) <| zT (kR nH) <| zM <| zZ) ?_
 refine jA <| jA <| kx [(68, (vb true))] [] (zM <| zE mR <| zZ) ?_
 refine kD ?_
 refine jA <| kx [(6, (vb true))] [] (zM <| zZ) ?_
 refine jG ⟨_, (.tmp (d := (.val (.bool (true)))) rfl .nil), ?_⟩
 rfl
theorem w_homO (lx ly lz la lb lc ld lf lu lv rx ry rz ra rb rc rd rf ru rv : Int) (right : Bool) (x y : Rat) (hx : QL x 8) (hy : QL y 8) (b0 b1 b2 e00 e01 e02 e10 e11 e12 e20 e21 e22 : Rat) (hF : RFr lx ly lz la lb lc ld rx ry rz ra rb rc rd b0 b1 b2 e00 e01 e02 e10 e11 e12 e20 e21 e22) (zV : QL b0 3) (zW : QL b1 3) (zU : QL b2 3) (vG : QL e00 400) (vE : QL e01 400) (vF : QL e02 400) (vN : QL e10 400) (vL : QL e11 400) (vM : QL e12 400) (vC : QL e20 400) (vA : QL e21 400) (vB : QL e22 400) (tx ty tz ta tb tc td tf tu tv : Int) (x00 : Rat) (dQ : (jM (gD ta tb tc td) (gL ta tb tc td) (gP ta tb tc td) e00 e01 e02) = x00) (x01 : Rat) (dT : (jM (gE ta tb tc td) (gK ta tb tc td) (gO ta tb tc td) e00 e01 e02) = x01) (x02 : Rat) (dV : (jM (zJ ta tb tc td) (zY ta tb tc td) (yB ta tb tc td) e00 e01 e02) = x02) (x10 : Rat) (dW : (jM (gD ta tb tc td) (gL ta tb tc td) (gP ta tb tc td) e10 e11 e12) = x10) (x11 : Rat) (dP : (jM (gE ta tb tc td) (gK ta tb tc td) (gO ta tb tc td) e10 e11 e12) = x11) (x12 : Rat) (dU : (jM (zJ ta tb tc td) (zY ta tb tc td) (yB ta tb tc td) e10 e11 e12) = x12) (x20 : Rat) (dN : (jM (gD ta tb tc td) (gL ta tb tc td) (gP ta tb tc td) e20 e21 e22) = x20) (x21 : Rat) (dS : (jM (gE ta tb tc td) (gK ta tb tc td) (gO ta tb tc td) e20 e21 e22) = x21) (x22 : Rat) (dR : (jM (zJ ta tb tc td) (zY ta tb tc td) (yB ta tb tc td) e20 e21 e22) = x22) (a00 : Rat) (mE : (jM ((1 : Int) : Rat) ((0 : Int) : Rat) ((0 : Int) : Rat) x00 x01 x02) = a00) (a01 : Rat) (nY : (jM ((0 : Int) : Rat) ((1 : Int) : Rat) ((0 : Int) : Rat) x00 x01 x02) = a01) (a02 : Rat) (mD : (jM ((-tu : Int) : Rat) ((-tv : Int) : Rat) ((tf : Int) : Rat) x00 x01 x02) = a02) (a10 : Rat) (nW : (jM ((1 : Int) : Rat) ((0 : Int) : Rat) ((0 : Int) : Rat) x10 x11 x12) = a10) (a11 : Rat) (mA : (jM ((0 : Int) : Rat) ((1 : Int) : Rat) ((0 : Int) : Rat) x10 x11 x12) = a11) (a12 : Rat) (nX : (jM ((-tu : Int) : Rat) ((-tv : Int) : Rat) ((tf : Int) : Rat) x10 x11 x12) = a12) (a20 : Rat) (mC : (jM ((1 : Int) : Rat) ((0 : Int) : Rat) ((0 : Int) : Rat) x20 x21 x22) = a20) (a21 : Rat) (mB : (jM ((0 : Int) : Rat) ((1 : Int) : Rat) ((0 : Int) : Rat) x20 x21 x22) = a21) (a22 : Rat) (nZ : (jM ((-tu : Int) : Rat) ((-tv : Int) : Rat) ((tf : Int) : Rat) x20 x21 x22) = a22) (k0 : Int) (hk0 : (1 * (a00.den : Int)) = k0) (k1 : Int) (hk1 : (k0 * (a01.den : Int)) = k1) (k2 : Int) (hk2 : (k1 * (a02.den : Int)) = k2) (k3 : Int) (hk3 : (k2 * (a10.den : Int)) = k3) (k4 : Int) (hk4 : (k3 * (a11.den : Int)) = k4) (k5 : Int) (hk5 : (k4 * (a12.den : Int)) = k5) (k6 : Int) (hk6 : (k5 * (a20.den : Int)) = k6) (k7 : Int) (hk7 : (k6 * (a21.den : Int)) = k7) (k8 : Int) (hk8 : (k7 * (a22.den : Int)) = k8) (v0 : Int) (hv0 : ((k8.fdiv (a00.den : Int)) * a00.num) = v0) (v1 : Int) (hv1 : ((k8.fdiv (a01.den : Int)) * a01.num) = v1) (v2 : Int) (hv2 : ((k8.fdiv (a02.den : Int)) * a02.num) = v2) (v3 : Int) (hv3 : ((k8.fdiv (a10.den : Int)) * a10.num) = v3) (v4 : Int) (hv4 : ((k8.fdiv (a11.den : Int)) * a11.num) = v4) (v5 : Int) (hv5 : ((k8.fdiv (a12.den : Int)) * a12.num) = v5) (v6 : Int) (hv6 : ((k8.fdiv (a20.den : Int)) * a20.num) = v6) (v7 : Int) (hv7 : ((k8.fdiv (a21.den : Int)) * a21.num) = v7) (v8 : Int) (hv8 : ((k8.fdiv (a22.den : Int)) * a22.num) = v8) (w0 : Rat) (hw0 : (jM (gD ta tb tc td) (gE ta tb tc td) (zJ ta tb tc td) (x - ((tu : Int) : Rat)) (y - ((tv : Int) : Rat)) ((tf : Int) : Rat)) = w0) (w1 : Rat) (hw1 : (jM (gL ta tb tc td) (gK ta tb tc td) (zY ta tb tc td) (x - ((tu : Int) : Rat)) (y - ((tv : Int) : Rat)) ((tf : Int) : Rat)) = w1) (w2 : Rat) (hw2 : (jM (gP ta tb tc td) (gO ta tb tc td) (yB ta tb tc td) (x - ((tu : Int) : Rat)) (y - ((tv : Int) : Rat)) ((tf : Int) : Rat)) = w2) (c0 c1 c2 c3 c4 c5 c6 c7 c8 : Int) (hc : xB [v0, v1, v2, v3, v4, v5, v6, v7, v8] = [c0, c1, c2, c3, c4, c5, c6, c7, c8]) (p0 p1 p2 : Int) (hp : xB [(x.num * (y.den : Int)), (y.num * (x.den : Int)), ((x.den : Int) * (y.den : Int))] = [p0, p1, p2]) (t0 t1 t2 : Int) (ht : xB [(((c0 * p0) + (c1 * p1)) + (c2 * p2)), (((c3 * p0) + (c4 * p1)) + (c5 * p2)), (((c6 * p0) + (c7 * p1)) + (c8 * p2))] = [t0, t1, t2]) (hbr : bJ (jC x) (jC y) = true) (hl : uL lx ly lz lu lv lf la lb lc ld = 0) (hr : uL rx ry rz ru rv rf ra rb rc rd = 0) (hup : upV la lb lc ld ra rb rc rd b0 b1 b2 = false) (hsd : (bif right then (kJ.mk (jT.mk rx ry rz) (jN.mk ra rb rc rd) rf (kM.mk ru rv)) else (kJ.mk (jT.mk lx ly lz) (jN.mk la lb lc ld) lf (kM.mk lu lv))) = (kJ.mk (jT.mk tx ty tz) (jN.mk ta tb tc td) tf (kM.mk tu tv))) (hst : uL tx ty tz tu tv tf ta tb tc td = 0) (hnz : vK [v0, v1, v2, v3, v4, v5, v6, v7, v8] ≠ 0) (hdv : qX (gM v0 v1 v2 v3 v4 v5 v6 v7 v8) ≠ 0) (bN : (valH [(jK c0), (jK c1), (jK c2), (jK c3), (jK c4), (jK c5), (jK c6), (jK c7), (jK c8)] (gM c0 c1 c2 c3 c4 c5 c6 c7 c8)) = true) (hd : ¬ (yT (jM e20 e21 e22 w0 w1 w2)) ≤ 0) (hnp : vK [(x.num * (y.den : Int)), (y.num * (x.den : Int)), ((x.den : Int) * (y.den : Int))] ≠ 0) (hnzt : vK [(((c0 * p0) + (c1 * p1)) + (c2 * p2)), (((c3 * p0) + (c4 * p1)) + (c5 * p2)), (((c6 * p0) + (c7 * p1)) + (c8 * p2))] ≠ 0) (ht2 : t2 ≠ 0) (hix : (Rat.divInt t0 t2) = ((jM e00 e01 e02 w0 w1 w2) / (jM e20 e21 e22 w0 w1 w2))) (hiy : (Rat.divInt t1 t2) = ((jM e10 e11 e12 w0 w1 w2) / (jM e20 e21 e22 w0 w1 w2))) : kF Tryz.prog 9 [(qP (kY.mk (kJ.mk (jT.mk lx ly lz) (jN.mk la lb lc ld) lf (kM.mk lu lv)) (kJ.mk (jT.mk rx ry rz) (jN.mk ra rb rc rd) rf (kM.mk ru rv)))), (.val (.bool (right))), (kI (qH.mk (jC x) (jC y)))] (.val (.bool (true))) := by
 have hbl := xE hl
 have hbr := xE hr
 obtain ⟨hlx, hly, hlz, hlu, hlv, hlf, hlq⟩ := hbl
 obtain ⟨hrx, hry, hrz, hru, hrv, hrf, hrq⟩ := hbr
 obtain ⟨hla, hlb, hlc, hld, -⟩ := xG hlq
 obtain ⟨hra, hrb, hrc, hrd, -⟩ := xG hrq
 have hnl := nB hla hlb hlc hld
 have hnr := nB hra hrb hrc hrd
 have hz0 := fr_z0 hF hup
 have hz1 := fr_z1 hF hup
 have hz2 := fr_z2 hF hup
 obtain ⟨htx, hty, htz, htu, htv, htf, htq⟩ := xE hst
 obtain ⟨hta, htb, htc, htd, -⟩ := xG htq
 have hnt := nB hta htb htc htd
 let y2 := (A9.mk (jK c0) (jK c1) (jK c2) (jK c3) (jK c4) (jK c5) (jK c6) (jK c7) (jK c8))
 let y1 := (qP (kY.mk (kJ.mk (jT.mk lx ly lz) (jN.mk la lb lc ld) lf (kM.mk lu lv)) (kJ.mk (jT.mk rx ry rz) (jN.mk ra rb rc rd) rf (kM.mk ru rv))))
 refine jL Tryz.func9 rfl cb9 rfl ?_
 show uK _ _ _ _ ⟨[(0, (.d y1)), (1, (vb right)), (2, (.d (kI (qH.mk (jC x) (jC y)))))], []⟩
 refine jA <| kx [(3, (.ref 0 0)), (5, (.ref 1 0))] [(0, some (bx y1)), (1, some (bx (kI (qH.mk (jC x) (jC y)))))] (zN (uX 0) <| zN (uX 1) <| zM <| zZ) ?_
 refine jA <| jA <| kx [(17, (vb false))] [] (zE (kC bS) <| zE eX <| zZ) ?_
 refine kO ?_
 refine jD <| jA <| jA <| kx [(20, (vb false))] [] (zR (kA nH) <| zE (qY true (kC (bW (qH.mk (jC x) (jC y)) x y (kH (kL hx) (by decide)) (kH (kL hy) (by decide)))) (by exact hbr)) <| zE eX <| zZ) ?_
 refine kO ?_
 refine jD <| jA ?_
 have bn1 : QL x00 2402 := (jX (Eq.symm dQ) (jR (n := 400) (k := 2402) (kB (fR) (by decide)) (kB (fP) (by decide)) (kB (fK) (by decide)) vG vE vF (by decide)))
 have bn2 : QL x01 2402 := (jX (Eq.symm dT) (jR (n := 400) (k := 2402) (kB (fM) (by decide)) (kB (fL) (by decide)) (kB (fN) (by decide)) vG vE vF (by decide)))
 have bn3 : QL x02 2402 := (jX (Eq.symm dV) (jR (n := 400) (k := 2402) (kB (fJ) (by decide)) (kB (fA) (by decide)) (kB (fH) (by decide)) vG vE vF (by decide)))
 have bn4 : QL x10 2402 := (jX (Eq.symm dW) (jR (n := 400) (k := 2402) (kB (fR) (by decide)) (kB (fP) (by decide)) (kB (fK) (by decide)) vN vL vM (by decide)))
 have bn5 : QL x11 2402 := (jX (Eq.symm dP) (jR (n := 400) (k := 2402) (kB (fM) (by decide)) (kB (fL) (by decide)) (kB (fN) (by decide)) vN vL vM (by decide)))
 have bn6 : QL x12 2402 := (jX (Eq.symm dU) (jR (n := 400) (k := 2402) (kB (fJ) (by decide)) (kB (fA) (by decide)) (kB (fH) (by decide)) vN vL vM (by decide)))
 have bn7 : QL x20 2402 := (jX (Eq.symm dN) (jR (n := 400) (k := 2402) (kB (fR) (by decide)) (kB (fP) (by decide)) (kB (fK) (by decide)) vC vA vB (by decide)))
 have bn8 : QL x21 2402 := (jX (Eq.symm dS) (jR (n := 400) (k := 2402) (kB (fM) (by decide)) (kB (fL) (by decide)) (kB (fN) (by decide)) vC vA vB (by decide)))
 have bn9 : QL x22 2402 := (jX (Eq.symm dR) (jR (n := 400) (k := 2402) (kB (fJ) (by decide)) (kB (fA) (by decide)) (kB (fH) (by decide)) vC vA vB (by decide)))
 have bn10 : QL a00 14414 := (jX (Eq.symm mE) (jR (n := 2402) (k := 14414) (kB (qi 1) (by decide)) (kB (qi 0) (by decide)) (kB (qi 0) (by decide)) bn1 bn2 bn3 (by decide)))
 have bn11 : QL a01 14414 := (jX (Eq.symm nY) (jR (n := 2402) (k := 14414) (kB (qi 0) (by decide)) (kB (qi 1) (by decide)) (kB (qi 0) (by decide)) bn1 bn2 bn3 (by decide)))
 have bn12 : QL a02 14414 := (jX (Eq.symm mD) (jR (n := 2402) (k := 14414) (kB (qi (-tu)) (by decide)) (kB (qi (-tv)) (by decide)) (kB (qi tf) (by decide)) bn1 bn2 bn3 (by decide)))
 have bn13 : QL a10 14414 := (jX (Eq.symm nW) (jR (n := 2402) (k := 14414) (kB (qi 1) (by decide)) (kB (qi 0) (by decide)) (kB (qi 0) (by decide)) bn4 bn5 bn6 (by decide)))
 have bn14 : QL a11 14414 := (jX (Eq.symm mA) (jR (n := 2402) (k := 14414) (kB (qi 0) (by decide)) (kB (qi 1) (by decide)) (kB (qi 0) (by decide)) bn4 bn5 bn6 (by decide)))
 have bn15 : QL a12 14414 := (jX (Eq.symm nX) (jR (n := 2402) (k := 14414) (kB (qi (-tu)) (by decide)) (kB (qi (-tv)) (by decide)) (kB (qi tf) (by decide)) bn4 bn5 bn6 (by decide)))
 have bn16 : QL a20 14414 := (jX (Eq.symm mC) (jR (n := 2402) (k := 14414) (kB (qi 1) (by decide)) (kB (qi 0) (by decide)) (kB (qi 0) (by decide)) bn7 bn8 bn9 (by decide)))
 have bn17 : QL a21 14414 := (jX (Eq.symm mB) (jR (n := 2402) (k := 14414) (kB (qi 0) (by decide)) (kB (qi 1) (by decide)) (kB (qi 0) (by decide)) bn7 bn8 bn9 (by decide)))
 have bn18 : QL a22 14414 := (jX (Eq.symm nZ) (jR (n := 2402) (k := 14414) (kB (qi (-tu)) (by decide)) (kB (qi (-tv)) (by decide)) (kB (qi tf) (by decide)) bn7 bn8 bn9 (by decide)))
 have bn19 : kZ (jK k0) k0 14415 := (kT hk0.symm (jP (k := 14415) (yI (z := 1) (by decide)) (jW bn10) (by decide)))
 have bn20 : kZ (jK k1) k1 28829 := (kT hk1.symm (jP (k := 28829) bn19 (jW bn11) (by decide)))
 have bn21 : kZ (jK k2) k2 43243 := (kT hk2.symm (jP (k := 43243) bn20 (jW bn12) (by decide)))
 have bn22 : kZ (jK k3) k3 57657 := (kT hk3.symm (jP (k := 57657) bn21 (jW bn13) (by decide)))
 have bn23 : kZ (jK k4) k4 72071 := (kT hk4.symm (jP (k := 72071) bn22 (jW bn14) (by decide)))
 have bn24 : kZ (jK k5) k5 86485 := (kT hk5.symm (jP (k := 86485) bn23 (jW bn15) (by decide)))
 have bn25 : kZ (jK k6) k6 100899 := (kT hk6.symm (jP (k := 100899) bn24 (jW bn16) (by decide)))
 have bn26 : kZ (jK k7) k7 115313 := (kT hk7.symm (jP (k := 115313) bn25 (jW bn17) (by decide)))
 have bn27 : kZ (jK k8) k8 129727 := (kT hk8.symm (jP (k := 129727) bn26 (jW bn18) (by decide)))
 have bn28 : kZ (jK v0) v0 144142 := (kT hv0.symm (jP (k := 144142) (qW (k := 129728) bn27 (jW bn10) (by decide)) (kN bn10) (by decide)))
 have bn29 : kZ (jK v1) v1 144142 := (kT hv1.symm (jP (k := 144142) (qW (k := 129728) bn27 (jW bn11) (by decide)) (kN bn11) (by decide)))
 have bn30 : kZ (jK v2) v2 144142 := (kT hv2.symm (jP (k := 144142) (qW (k := 129728) bn27 (jW bn12) (by decide)) (kN bn12) (by decide)))
 have bn31 : kZ (jK v3) v3 144142 := (kT hv3.symm (jP (k := 144142) (qW (k := 129728) bn27 (jW bn13) (by decide)) (kN bn13) (by decide)))
 have bn32 : kZ (jK v4) v4 144142 := (kT hv4.symm (jP (k := 144142) (qW (k := 129728) bn27 (jW bn14) (by decide)) (kN bn14) (by decide)))
 have bn33 : kZ (jK v5) v5 144142 := (kT hv5.symm (jP (k := 144142) (qW (k := 129728) bn27 (jW bn15) (by decide)) (kN bn15) (by decide)))
 have bn34 : kZ (jK v6) v6 144142 := (kT hv6.symm (jP (k := 144142) (qW (k := 129728) bn27 (jW bn16) (by decide)) (kN bn16) (by decide)))
 have bn35 : kZ (jK v7) v7 144142 := (kT hv7.symm (jP (k := 144142) (qW (k := 129728) bn27 (jW bn17) (by decide)) (kN bn17) (by decide)))
 have bn36 : kZ (jK v8) v8 144142 := (kT hv8.symm (jP (k := 144142) (qW (k := 129728) bn27 (jW bn18) (by decide)) (kN bn18) (by decide)))
 have bn37 : ∀ c ∈ [c0, c1, c2, c3, c4, c5, c6, c7, c8], kZ (jK c) c 144142 := mZ (n := 144142) (.cons bn28 (.cons bn29 (.cons bn30 (.cons bn31 (.cons bn32 (.cons bn33 (.cons bn34 (.cons bn35 (.cons bn36 .nil))))))))) hc
 refine kx [(7, (.ref 2 0)), (8, (vi 0))] [(2, some (bx (qL y2)))] (zR (kA bZ) <| zM <| zE (kC (q_hom lx ly lz la lb lc ld lf lu lv rx ry rz ra rb rc rd rf ru rv right b0 b1 b2 e00 e01 e02 e10 e11 e12 e20 e21 e22 hF zV zW zU vG vE vF vN vL vM vC vA vB tx ty tz ta tb tc td tf tu tv x00 dQ x01 dT x02 dV x10 dW x11 dP x12 dU x20 dN x21 dS x22 dR a00 mE a01 nY a02 mD a10 nW a11 mA a12 nX a20 mC a21 mB a22 nZ k0 hk0 k1 hk1 k2 hk2 k3 hk3 k4 hk4 k5 hk5 k6 hk6 k7 hk7 k8 hk8 v0 hv0 v1 hv1 v2 hv2 v3 hv3 v4 hv4 v5 hv5 v6 hv6 v7 hv7 v8 hv8 c0 c1 c2 c3 c4 c5 c6 c7 c8 hc hl hr hup hsd hst hnz hdv)) <| zM <| zE uH <| zE uH <| zN (qI 2 ze98 zo98) <| zT (kR mJ) <| zM <| zZ) ?_
 refine jA <| kx [(9, (.ref 3 0)), (10, (vi 0))] [(3, some (bx (yF (RLp.mk (kY.mk (kJ.mk (jT.mk lx ly lz) (jN.mk la lb lc ld) lf (kM.mk lu lv)) (kJ.mk (jT.mk rx ry rz) (jN.mk ra rb rc rd) rf (kM.mk ru rv))) (A3.mk (jC b0) (jC b1) (jC b2)) (A3.mk (A3.mk (jC e00) (jC e01) (jC e02)) (A3.mk (jC e10) (jC e11) (jC e12)) (A3.mk (jC e20) (jC e21) (jC e22)))))))] (zR (kA bZ) <| zE (kC (qs_pre lx ly lz la lb lc ld lf lu lv rx ry rz ra rb rc rd rf ru rv b0 b1 b2 e00 e01 e02 e10 e11 e12 e20 e21 e22 hF zV zW zU vG vE vF vN vL vM vC vA vB hl hr hup)) <| zM <| zE uH <| zE uH <| zN (qI 3 ze47 zo47) <| zT (kR eI) <| zM <| zZ) ?_
 refine jA <| jA <| kx [(33, (vb false))] [] (zM <| zE mR <| zZ) ?_
 refine kO ?_
 refine jD <| jA <| jA <| kx [(56, (vb false))] [] (zM <| zE mR <| zM <| zR (kA mJ) <| zE (qY true (kC (l_Valid y2 c0 c1 c2 c3 c4 c5 c6 c7 c8 (qJ (bn37 c0 (by simp)) (by decide)) (qJ (bn37 c1 (by simp)) (by decide)) (qJ (bn37 c2 (by simp)) (by decide)) (qJ (bn37 c3 (by simp)) (by decide)) (qJ (bn37 c4 (by simp)) (by decide)) (qJ (bn37 c5 (by simp)) (by decide)) (qJ (bn37 c6 (by simp)) (by decide)) (qJ (bn37 c7 (by simp)) (by decide)) (qJ (bn37 c8 (by simp)) (by decide)))) (by exact bN)) <| zE eX <| zE fC <| zZ) ?_
 refine kO ?_
 refine jD <| jA <| jA <| kx [(59, (vb false))] [] (zR (kA nH) <| zE (kC (qs_canT x y (qu hx) (qu hy))) <| zE mR <| zZ) ?_
 refine kO ?_
 refine jD <| jA ?_
 have bn38 : QL w0 74 := (jX (Eq.symm hw0) (jR (n := 12) (k := 74) (kB (fR) (by decide)) (kB (fM) (by decide)) (kB (fJ) (by decide)) (qZ (k := 12) hx (qi tu) (by decide)) (qZ (k := 12) hy (qi tv) (by decide)) (kB (qi tf) (by decide)) (by decide)))
 have bn39 : QL w1 74 := (jX (Eq.symm hw1) (jR (n := 12) (k := 74) (kB (fP) (by decide)) (kB (fL) (by decide)) (kB (fA) (by decide)) (qZ (k := 12) hx (qi tu) (by decide)) (qZ (k := 12) hy (qi tv) (by decide)) (kB (qi tf) (by decide)) (by decide)))
 have bn40 : QL w2 74 := (jX (Eq.symm hw2) (jR (n := 12) (k := 74) (kB (fK) (by decide)) (kB (fN) (by decide)) (kB (fH) (by decide)) (qZ (k := 12) hx (qi tu) (by decide)) (qZ (k := 12) hy (qi tv) (by decide)) (kB (qi tf) (by decide)) (by decide)))
 have bn41 : QL ((jM e00 e01 e02 w0 w1 w2) / (jM e20 e21 e22 w0 w1 w2)) 4804 := (iL (k := 4804) (jR (n := 400) (k := 2402) vG vE vF (qu bn38) (qu bn39) (qu bn40) (by decide)) (jR (n := 400) (k := 2402) vC vA vB (qu bn38) (qu bn39) (qu bn40) (by decide)) (by decide))
 have bn42 : QL ((jM e10 e11 e12 w0 w1 w2) / (jM e20 e21 e22 w0 w1 w2)) 4804 := (iL (k := 4804) (jR (n := 400) (k := 2402) vN vL vM (qu bn38) (qu bn39) (qu bn40) (by decide)) (jR (n := 400) (k := 2402) vC vA vB (qu bn38) (qu bn39) (qu bn40) (by decide)) (by decide))
 refine kx [(10, (vi 0)), (13, (.ref 4 0))] [(4, some (bx (kI (qH.mk (jC ((jM e00 e01 e02 w0 w1 w2) / (jM e20 e21 e22 w0 w1 w2))) (jC ((jM e10 e11 e12 w0 w1 w2) / (jM e20 e21 e22 w0 w1 w2)))))))] (zR (kA eI) <| zM <| zR (kA nH) <| zE (kC (qs_rec lx ly lz la lb lc ld lf lu lv rx ry rz ra rb rc rd rf ru rv b0 b1 b2 e00 e01 e02 e10 e11 e12 e20 e21 e22 zV zW zU vG vE vF vN vL vM vC vA vB right x y (qu hx) (qu hy) tx ty tz ta tb tc td tf tu tv w0 hw0 w1 hw1 w2 hw2 hsd hst hd)) <| zM <| zE uH <| zE uH <| zN (qI 4 ze56 zo56) <| zT (kR nH) <| zM <| zZ) ?_
 refine jA <| jA <| kx [(68, (vb false))] [] (zM <| zE mR <| zZ) ?_
 refine kO ?_
 refine jD <| jA ?_
 have bn43 : ∀ c ∈ [p0, p1, p2], kZ (jK c) c 16 := mZ (n := 16) (.cons (jP (k := 16) (kN hx) (jW hy) (by decide)) (.cons (jP (k := 16) (kN hy) (jW hx) (by decide)) (.cons (jP (k := 16) (jW hx) (jW hy) (by decide)) .nil))) hp
 have bn44 : ∀ c ∈ [t0, t1, t2], kZ (jK c) c 144160 := mZ (n := 144160) (.cons (xO (k := 144160) (xO (k := 144159) (jP (k := 144158) (bn37 c0 (by simp)) (bn43 p0 (by simp)) (by decide)) (jP (k := 144158) (bn37 c1 (by simp)) (bn43 p1 (by simp)) (by decide)) (by decide)) (jP (k := 144158) (bn37 c2 (by simp)) (bn43 p2 (by simp)) (by decide)) (by decide)) (.cons (xO (k := 144160) (xO (k := 144159) (jP (k := 144158) (bn37 c3 (by simp)) (bn43 p0 (by simp)) (by decide)) (jP (k := 144158) (bn37 c4 (by simp)) (bn43 p1 (by simp)) (by decide)) (by decide)) (jP (k := 144158) (bn37 c5 (by simp)) (bn43 p2 (by simp)) (by decide)) (by decide)) (.cons (xO (k := 144160) (xO (k := 144159) (jP (k := 144158) (bn37 c6 (by simp)) (bn43 p0 (by simp)) (by decide)) (jP (k := 144158) (bn37 c7 (by simp)) (bn43 p1 (by simp)) (by decide)) (by decide)) (jP (k := 144158) (bn37 c8 (by simp)) (bn43 p2 (by simp)) (by decide)) (by decide)) .nil))) ht
 have bn45 : QL (Rat.divInt t0 t2) 144160 := (qO (n := 144160) (Nat.le_trans (kZ.ln (bn44 t0 (by simp))) (by decide)) (Nat.le_trans (kZ.ln (bn44 t2 (by simp))) (by decide)) (by decide))
 have bn46 : QL (Rat.divInt t1 t2) 144160 := (qO (n := 144160) (Nat.le_trans (kZ.ln (bn44 t1 (by simp))) (by decide)) (Nat.le_trans (kZ.ln (bn44 t2 (by simp))) (by decide)) (by decide))
 refine kx [(14, (.ref 5 0)), (15, (vb true))] [(5, some (bx (kI (qH.mk (jC (Rat.divInt t0 t2)) (jC (Rat.divInt t1 t2))))))] (zR (kA mJ) <| zR (kA nH) <| zE (kC (l_Image y2 c0 c1 c2 c3 c4 c5 c6 c7 c8 (qJ (bn37 c0 (by simp)) (by decide)) (qJ (bn37 c1 (by simp)) (by decide)) (qJ (bn37 c2 (by simp)) (by decide)) (qJ (bn37 c3 (by simp)) (by decide)) (qJ (bn37 c4 (by simp)) (by decide)) (qJ (bn37 c5 (by simp)) (by decide)) (qJ (bn37 c6 (by simp)) (by decide)) (qJ (bn37 c7 (by simp)) (by decide)) (qJ (bn37 c8 (by simp)) (by decide)) x y hx hy p0 p1 p2 hp t0 t1 t2 ht hnp hnzt ht2)) <| zM <| zE uH <| zE uH <| zN (qI 5 ze56 zo56) <| zT (kR nH) <| zM <| zZ) ?_
 refine jA <| kx [(6, (vb true))] [] (zM <| zM <| zR (kA nH) <| zR (kA nH) <| zE (kC (qs_samep (Rat.divInt t0 t2) (Rat.divInt t1 t2) (qu bn45) (qu bn46) ((jM e00 e01 e02 w0 w1 w2) / (jM e20 e21 e22 w0 w1 w2)) ((jM e10 e11 e12 w0 w1 w2) / (jM e20 e21 e22 w0 w1 w2)) (qu bn41) (qu bn42) hix hiy)) <| zE bD <| zM <| zZ) ?_
 refine jG ⟨_, (.tmp (d := (.val (.bool (true)))) rfl .nil), ?_⟩
 rfl
end Go.Proofs.YtbecgnplakngdaaGreat
set_option linter.unusedVariables false
set_option linter.unusedSimpArgs false
namespace Go.Fid
theorem xX.den {q : Rat} (h : xX q) : (q.den : Int) = 1 := by
  obtain ⟨z, rfl⟩ := h
  rfl
theorem xX.num {q : Rat} (h : xX q) : ((q.num : Int) : Rat) = q := by
  obtain ⟨z, rfl⟩ := h
  rfl
theorem xX.dot {a b c x y z : Rat} (ha : xX a) (hb : xX b) (hc : xX c) (hx : xX x) (hy : xX y) (hz : xX z) : xX (jM a b c x y z) := by
  unfold jM
  exact ((ha.mul hx).add (hb.mul hy)).add (hc.mul hz)
theorem det3_cast (a b c d e f g h i : Int) : ((gM a b c d e f g h i : Int) : Rat) = cQ a b c d e f g h i := by
  unfold gM cQ det2Q
  simp only [Rat.intCast_add, Rat.intCast_sub, Rat.intCast_mul]
  grind
theorem det_T (a b c d e f g h i : Rat) : cQ a d g b e h c f i = cQ a b c d e f g h i := by unfold cQ det2Q; grind
theorem det_R (a b c d : Int) : cQ (gD a b c d) (gE a b c d) (zJ a b c d) (gL a b c d) (gK a b c d) (zY a b c d) (gP a b c d) (gO a b c d) (yB a b c d) = N4 a b c d * N4 a b c d * N4 a b c d := by
  obtain ⟨e0, e1, e2, e3, e4, e5, e6, e7, e8, e9⟩ := Rcast a b c d
  rw [e0, e1, e2, e3, e4, e5, e6, e7, e8, e9]
  generalize ((a : Int) : Rat) = p
  generalize ((b : Int) : Rat) = q
  generalize ((c : Int) : Rat) = r
  generalize ((d : Int) : Rat) = s
  unfold cQ det2Q
  grind
theorem det_K (u v f : Int) : cQ ((1 : Int) : Rat) ((0 : Int) : Rat) ((-u : Int) : Rat) ((0 : Int) : Rat) ((1 : Int) : Rat) ((-v : Int) : Rat) ((0 : Int) : Rat) ((0 : Int) : Rat) ((f : Int) : Rat) = ((f : Int) : Rat) := by
  rw [Rat.intCast_zero, Rat.intCast_one]; unfold cQ det2Q; grind
theorem fQ {a b : Rat} (ha : a ≠ 0) (hb : b ≠ 0) : a * b ≠ 0 := fun e => by
  rcases Rat.mul_eq_zero.1 e with h | h
  · exact ha h
  · exact hb h
section
variable {lx ly lz la lb lc ld rx ry rz ra rb rc rd ta tb tc td tu tv tf : Int} {b0 b1 b2 e00 e01 e02 e10 e11 e12 e20 e21 e22 x00 x01 x02 x10 x11 x12 x20 x21 x22 a00 a01 a02 a10 a11 a12 a20 a21 a22 : Rat}
theorem det_E (hF : RFr lx ly lz la lb lc ld rx ry rz ra rb rc rd b0 b1 b2 e00 e01 e02 e10 e11 e12 e20 e21 e22) (hup : upV la lb lc ld ra rb rc rd b0 b1 b2 = false) : cQ e00 e01 e02 e10 e11 e12 e20 e21 e22 ≠ 0 := by
  have hzt := fr_zt hF hup
  have hk := redK_ne hzt
  have hd := dot3_ne hzt
  obtain ⟨-, -, -, -, -, -, -, -, -, h20, h21, h22⟩ := hF
  rw [← h20, ← h21, ← h22]
  generalize yC ((e01 * e12) - (e02 * e11)) ((e02 * e10) - (e00 * e12)) ((e00 * e11) - (e01 * e10)) = k at *
  have : cQ e00 e01 e02 e10 e11 e12 (((e01 * e12) - (e02 * e11)) * k) (((e02 * e10) - (e00 * e12)) * k) (((e00 * e11) - (e01 * e10)) * k) = k * jM ((e01 * e12) - (e02 * e11)) ((e02 * e10) - (e00 * e12)) ((e00 * e11) - (e01 * e10)) ((e01 * e12) - (e02 * e11)) ((e02 * e10) - (e00 * e12)) ((e00 * e11) - (e01 * e10)) := by
    unfold cQ det2Q jM; grind
  rw [this]
  exact fQ hk hd
theorem hom_det (hF : RFr lx ly lz la lb lc ld rx ry rz ra rb rc rd b0 b1 b2 e00 e01 e02 e10 e11 e12 e20 e21 e22) (hup : upV la lb lc ld ra rb rc rd b0 b1 b2 = false) (hq : gS ta tb tc td = 0) (hf : 1 ≤ tf) (dQ : (jM (gD ta tb tc td) (gL ta tb tc td) (gP ta tb tc td) e00 e01 e02) = x00) (dT : (jM (gE ta tb tc td) (gK ta tb tc td) (gO ta tb tc td) e00 e01 e02) = x01) (dV : (jM (zJ ta tb tc td) (zY ta tb tc td) (yB ta tb tc td) e00 e01 e02) = x02) (dW : (jM (gD ta tb tc td) (gL ta tb tc td) (gP ta tb tc td) e10 e11 e12) = x10) (dP : (jM (gE ta tb tc td) (gK ta tb tc td) (gO ta tb tc td) e10 e11 e12) = x11) (dU : (jM (zJ ta tb tc td) (zY ta tb tc td) (yB ta tb tc td) e10 e11 e12) = x12) (dN : (jM (gD ta tb tc td) (gL ta tb tc td) (gP ta tb tc td) e20 e21 e22) = x20) (dS : (jM (gE ta tb tc td) (gK ta tb tc td) (gO ta tb tc td) e20 e21 e22) = x21) (dR : (jM (zJ ta tb tc td) (zY ta tb tc td) (yB ta tb tc td) e20 e21 e22) = x22) (mE : (jM ((1 : Int) : Rat) ((0 : Int) : Rat) ((0 : Int) : Rat) x00 x01 x02) = a00) (nY : (jM ((0 : Int) : Rat) ((1 : Int) : Rat) ((0 : Int) : Rat) x00 x01 x02) = a01) (mD : (jM ((-tu : Int) : Rat) ((-tv : Int) : Rat) ((tf : Int) : Rat) x00 x01 x02) = a02) (nW : (jM ((1 : Int) : Rat) ((0 : Int) : Rat) ((0 : Int) : Rat) x10 x11 x12) = a10) (mA : (jM ((0 : Int) : Rat) ((1 : Int) : Rat) ((0 : Int) : Rat) x10 x11 x12) = a11) (nX : (jM ((-tu : Int) : Rat) ((-tv : Int) : Rat) ((tf : Int) : Rat) x10 x11 x12) = a12) (mC : (jM ((1 : Int) : Rat) ((0 : Int) : Rat) ((0 : Int) : Rat) x20 x21 x22) = a20) (mB : (jM ((0 : Int) : Rat) ((1 : Int) : Rat) ((0 : Int) : Rat) x20 x21 x22) = a21) (nZ : (jM ((-tu : Int) : Rat) ((-tv : Int) : Rat) ((tf : Int) : Rat) x20 x21 x22) = a22) : cQ a00 a01 a02 a10 a11 a12 a20 a21 a22 ≠ 0 := by
  have hx : cQ x00 x01 x02 x10 x11 x12 x20 x21 x22 ≠ 0 := by
    rw [← dQ, ← dT, ← dV, ← dW, ← dP, ← dU, ← dN, ← dS, ← dR, det_mul]
    refine fQ ?_ ?_
    · rw [det_T]; exact det_E hF hup
    · rw [det_R]
      have hn : N4 ta tb tc td ≠ 0 := fun e => by have := N4_pos hq; rw [e] at this; exact absurd this (by decide)
      exact fQ (fQ hn hn) hn
  rw [← mE, ← nY, ← mD, ← nW, ← mA, ← nX, ← mC, ← mB, ← nZ, det_mul]
  refine fQ ?_ ?_
  · rw [det_T]; exact hx
  · rw [det_K]
    exact fun e => by have := Rat.intCast_eq_zero_iff.1 e; omega
theorem hom_isz (hF : RFr lx ly lz la lb lc ld rx ry rz ra rb rc rd b0 b1 b2 e00 e01 e02 e10 e11 e12 e20 e21 e22) (dQ : (jM (gD ta tb tc td) (gL ta tb tc td) (gP ta tb tc td) e00 e01 e02) = x00) (dT : (jM (gE ta tb tc td) (gK ta tb tc td) (gO ta tb tc td) e00 e01 e02) = x01) (dV : (jM (zJ ta tb tc td) (zY ta tb tc td) (yB ta tb tc td) e00 e01 e02) = x02) (dW : (jM (gD ta tb tc td) (gL ta tb tc td) (gP ta tb tc td) e10 e11 e12) = x10) (dP : (jM (gE ta tb tc td) (gK ta tb tc td) (gO ta tb tc td) e10 e11 e12) = x11) (dU : (jM (zJ ta tb tc td) (zY ta tb tc td) (yB ta tb tc td) e10 e11 e12) = x12) (dN : (jM (gD ta tb tc td) (gL ta tb tc td) (gP ta tb tc td) e20 e21 e22) = x20) (dS : (jM (gE ta tb tc td) (gK ta tb tc td) (gO ta tb tc td) e20 e21 e22) = x21) (dR : (jM (zJ ta tb tc td) (zY ta tb tc td) (yB ta tb tc td) e20 e21 e22) = x22) (mE : (jM ((1 : Int) : Rat) ((0 : Int) : Rat) ((0 : Int) : Rat) x00 x01 x02) = a00) (nY : (jM ((0 : Int) : Rat) ((1 : Int) : Rat) ((0 : Int) : Rat) x00 x01 x02) = a01) (mD : (jM ((-tu : Int) : Rat) ((-tv : Int) : Rat) ((tf : Int) : Rat) x00 x01 x02) = a02) (nW : (jM ((1 : Int) : Rat) ((0 : Int) : Rat) ((0 : Int) : Rat) x10 x11 x12) = a10) (mA : (jM ((0 : Int) : Rat) ((1 : Int) : Rat) ((0 : Int) : Rat) x10 x11 x12) = a11) (nX : (jM ((-tu : Int) : Rat) ((-tv : Int) : Rat) ((tf : Int) : Rat) x10 x11 x12) = a12) (mC : (jM ((1 : Int) : Rat) ((0 : Int) : Rat) ((0 : Int) : Rat) x20 x21 x22) = a20) (mB : (jM ((0 : Int) : Rat) ((1 : Int) : Rat) ((0 : Int) : Rat) x20 x21 x22) = a21) (nZ : (jM ((-tu : Int) : Rat) ((-tv : Int) : Rat) ((tf : Int) : Rat) x20 x21 x22) = a22) : xX a00 ∧ xX a01 ∧ xX a02 ∧ xX a10 ∧ xX a11 ∧ xX a12 ∧ xX a20 ∧ xX a21 ∧ xX a22 := by
  obtain ⟨z00, z01, z02, z10, z11, z12, z20, z21, z22⟩ := fr_isz hF
  have y00 : xX x00 := dQ ▸ xX.dot ⟨_, rfl⟩ ⟨_, rfl⟩ ⟨_, rfl⟩ z00 z01 z02
  have y01 : xX x01 := dT ▸ xX.dot ⟨_, rfl⟩ ⟨_, rfl⟩ ⟨_, rfl⟩ z00 z01 z02
  have y02 : xX x02 := dV ▸ xX.dot ⟨_, rfl⟩ ⟨_, rfl⟩ ⟨_, rfl⟩ z00 z01 z02
  have y10 : xX x10 := dW ▸ xX.dot ⟨_, rfl⟩ ⟨_, rfl⟩ ⟨_, rfl⟩ z10 z11 z12
  have y11 : xX x11 := dP ▸ xX.dot ⟨_, rfl⟩ ⟨_, rfl⟩ ⟨_, rfl⟩ z10 z11 z12
  have y12 : xX x12 := dU ▸ xX.dot ⟨_, rfl⟩ ⟨_, rfl⟩ ⟨_, rfl⟩ z10 z11 z12
  have y20 : xX x20 := dN ▸ xX.dot ⟨_, rfl⟩ ⟨_, rfl⟩ ⟨_, rfl⟩ z20 z21 z22
  have y21 : xX x21 := dS ▸ xX.dot ⟨_, rfl⟩ ⟨_, rfl⟩ ⟨_, rfl⟩ z20 z21 z22
  have y22 : xX x22 := dR ▸ xX.dot ⟨_, rfl⟩ ⟨_, rfl⟩ ⟨_, rfl⟩ z20 z21 z22
  exact ⟨mE ▸ xX.dot (xX.of _) (xX.of _) (xX.of _) y00 y01 y02, nY ▸ xX.dot (xX.of _) (xX.of _) (xX.of _) y00 y01 y02, mD ▸ xX.dot (xX.of _) (xX.of _) (xX.of _) y00 y01 y02, nW ▸ xX.dot (xX.of _) (xX.of _) (xX.of _) y10 y11 y12, mA ▸ xX.dot (xX.of _) (xX.of _) (xX.of _) y10 y11 y12, nX ▸ xX.dot (xX.of _) (xX.of _) (xX.of _) y10 y11 y12, mC ▸ xX.dot (xX.of _) (xX.of _) (xX.of _) y20 y21 y22, mB ▸ xX.dot (xX.of _) (xX.of _) (xX.of _) y20 y21 y22, nZ ▸ xX.dot (xX.of _) (xX.of _) (xX.of _) y20 y21 y22⟩
theorem hom_v {v0 v1 v2 v3 v4 v5 v6 v7 v8 k0 k1 k2 k3 k4 k5 k6 k7 k8 : Int} (hz : xX a00 ∧ xX a01 ∧ xX a02 ∧ xX a10 ∧ xX a11 ∧ xX a12 ∧ xX a20 ∧ xX a21 ∧ xX a22) (hk0 : (1 * (a00.den : Int)) = k0) (hk1 : (k0 * (a01.den : Int)) = k1) (hk2 : (k1 * (a02.den : Int)) = k2) (hk3 : (k2 * (a10.den : Int)) = k3) (hk4 : (k3 * (a11.den : Int)) = k4) (hk5 : (k4 * (a12.den : Int)) = k5) (hk6 : (k5 * (a20.den : Int)) = k6) (hk7 : (k6 * (a21.den : Int)) = k7) (hk8 : (k7 * (a22.den : Int)) = k8) (hv0 : ((k8.fdiv (a00.den : Int)) * a00.num) = v0) (hv1 : ((k8.fdiv (a01.den : Int)) * a01.num) = v1) (hv2 : ((k8.fdiv (a02.den : Int)) * a02.num) = v2) (hv3 : ((k8.fdiv (a10.den : Int)) * a10.num) = v3) (hv4 : ((k8.fdiv (a11.den : Int)) * a11.num) = v4) (hv5 : ((k8.fdiv (a12.den : Int)) * a12.num) = v5) (hv6 : ((k8.fdiv (a20.den : Int)) * a20.num) = v6) (hv7 : ((k8.fdiv (a21.den : Int)) * a21.num) = v7) (hv8 : ((k8.fdiv (a22.den : Int)) * a22.num) = v8) : ((v0 : Int) : Rat) = a00 ∧ ((v1 : Int) : Rat) = a01 ∧ ((v2 : Int) : Rat) = a02 ∧ ((v3 : Int) : Rat) = a10 ∧ ((v4 : Int) : Rat) = a11 ∧ ((v5 : Int) : Rat) = a12 ∧ ((v6 : Int) : Rat) = a20 ∧ ((v7 : Int) : Rat) = a21 ∧ ((v8 : Int) : Rat) = a22 := by
  obtain ⟨z0, z1, z2, z3, z4, z5, z6, z7, z8⟩ := hz
  simp only [z0.den, z1.den, z2.den, z3.den, z4.den, z5.den, z6.den, z7.den, z8.den, Int.mul_one] at *
  subst hk0; subst hk1; subst hk2; subst hk3; subst hk4; subst hk5; subst hk6; subst hk7; subst hk8
  simp only [Int.fdiv_one, Int.one_mul] at *
  subst hv0; subst hv1; subst hv2; subst hv3; subst hv4; subst hv5; subst hv6; subst hv7; subst hv8
  exact ⟨z0.num, z1.num, z2.num, z3.num, z4.num, z5.num, z6.num, z7.num, z8.num⟩
theorem hom_dz {v0 v1 v2 v3 v4 v5 v6 v7 v8 : Int} (he : ((v0 : Int) : Rat) = a00 ∧ ((v1 : Int) : Rat) = a01 ∧ ((v2 : Int) : Rat) = a02 ∧ ((v3 : Int) : Rat) = a10 ∧ ((v4 : Int) : Rat) = a11 ∧ ((v5 : Int) : Rat) = a12 ∧ ((v6 : Int) : Rat) = a20 ∧ ((v7 : Int) : Rat) = a21 ∧ ((v8 : Int) : Rat) = a22) (hd : cQ a00 a01 a02 a10 a11 a12 a20 a21 a22 ≠ 0) : gM v0 v1 v2 v3 v4 v5 v6 v7 v8 ≠ 0 := fun e => by
  obtain ⟨h0, h1, h2, h3, h4, h5, h6, h7, h8⟩ := he
  apply hd
  rw [← h0, ← h1, ← h2, ← h3, ← h4, ← h5, ← h6, ← h7, ← h8, ← det3_cast, e, Rat.intCast_zero]
theorem hom_L0 {x y w0 w1 w2 : Rat} (dQ : (jM (gD ta tb tc td) (gL ta tb tc td) (gP ta tb tc td) e00 e01 e02) = x00) (dT : (jM (gE ta tb tc td) (gK ta tb tc td) (gO ta tb tc td) e00 e01 e02) = x01) (dV : (jM (zJ ta tb tc td) (zY ta tb tc td) (yB ta tb tc td) e00 e01 e02) = x02) (mE : (jM ((1 : Int) : Rat) ((0 : Int) : Rat) ((0 : Int) : Rat) x00 x01 x02) = a00) (nY : (jM ((0 : Int) : Rat) ((1 : Int) : Rat) ((0 : Int) : Rat) x00 x01 x02) = a01) (mD : (jM ((-tu : Int) : Rat) ((-tv : Int) : Rat) ((tf : Int) : Rat) x00 x01 x02) = a02) (hw0 : (jM (gD ta tb tc td) (gE ta tb tc td) (zJ ta tb tc td) (x - ((tu : Int) : Rat)) (y - ((tv : Int) : Rat)) ((tf : Int) : Rat)) = w0) (hw1 : (jM (gL ta tb tc td) (gK ta tb tc td) (zY ta tb tc td) (x - ((tu : Int) : Rat)) (y - ((tv : Int) : Rat)) ((tf : Int) : Rat)) = w1) (hw2 : (jM (gP ta tb tc td) (gO ta tb tc td) (yB ta tb tc td) (x - ((tu : Int) : Rat)) (y - ((tv : Int) : Rat)) ((tf : Int) : Rat)) = w2) : jM a00 a01 a02 x y ((1 : Int) : Rat) = jM e00 e01 e02 w0 w1 w2 := by
  rw [← mE, ← nY, ← mD, lens_v, ← dQ, ← dT, ← dV, ← hw0, ← hw1, ← hw2]
  unfold jM
  grind
theorem hom_L1 {x y w0 w1 w2 : Rat} (dW : (jM (gD ta tb tc td) (gL ta tb tc td) (gP ta tb tc td) e10 e11 e12) = x10) (dP : (jM (gE ta tb tc td) (gK ta tb tc td) (gO ta tb tc td) e10 e11 e12) = x11) (dU : (jM (zJ ta tb tc td) (zY ta tb tc td) (yB ta tb tc td) e10 e11 e12) = x12) (nW : (jM ((1 : Int) : Rat) ((0 : Int) : Rat) ((0 : Int) : Rat) x10 x11 x12) = a10) (mA : (jM ((0 : Int) : Rat) ((1 : Int) : Rat) ((0 : Int) : Rat) x10 x11 x12) = a11) (nX : (jM ((-tu : Int) : Rat) ((-tv : Int) : Rat) ((tf : Int) : Rat) x10 x11 x12) = a12) (hw0 : (jM (gD ta tb tc td) (gE ta tb tc td) (zJ ta tb tc td) (x - ((tu : Int) : Rat)) (y - ((tv : Int) : Rat)) ((tf : Int) : Rat)) = w0) (hw1 : (jM (gL ta tb tc td) (gK ta tb tc td) (zY ta tb tc td) (x - ((tu : Int) : Rat)) (y - ((tv : Int) : Rat)) ((tf : Int) : Rat)) = w1) (hw2 : (jM (gP ta tb tc td) (gO ta tb tc td) (yB ta tb tc td) (x - ((tu : Int) : Rat)) (y - ((tv : Int) : Rat)) ((tf : Int) : Rat)) = w2) : jM a10 a11 a12 x y ((1 : Int) : Rat) = jM e10 e11 e12 w0 w1 w2 := by
  rw [← nW, ← mA, ← nX, lens_v, ← dW, ← dP, ← dU, ← hw0, ← hw1, ← hw2]
  unfold jM
  grind
theorem hom_L2 {x y w0 w1 w2 : Rat} (dN : (jM (gD ta tb tc td) (gL ta tb tc td) (gP ta tb tc td) e20 e21 e22) = x20) (dS : (jM (gE ta tb tc td) (gK ta tb tc td) (gO ta tb tc td) e20 e21 e22) = x21) (dR : (jM (zJ ta tb tc td) (zY ta tb tc td) (yB ta tb tc td) e20 e21 e22) = x22) (mC : (jM ((1 : Int) : Rat) ((0 : Int) : Rat) ((0 : Int) : Rat) x20 x21 x22) = a20) (mB : (jM ((0 : Int) : Rat) ((1 : Int) : Rat) ((0 : Int) : Rat) x20 x21 x22) = a21) (nZ : (jM ((-tu : Int) : Rat) ((-tv : Int) : Rat) ((tf : Int) : Rat) x20 x21 x22) = a22) (hw0 : (jM (gD ta tb tc td) (gE ta tb tc td) (zJ ta tb tc td) (x - ((tu : Int) : Rat)) (y - ((tv : Int) : Rat)) ((tf : Int) : Rat)) = w0) (hw1 : (jM (gL ta tb tc td) (gK ta tb tc td) (zY ta tb tc td) (x - ((tu : Int) : Rat)) (y - ((tv : Int) : Rat)) ((tf : Int) : Rat)) = w1) (hw2 : (jM (gP ta tb tc td) (gO ta tb tc td) (yB ta tb tc td) (x - ((tu : Int) : Rat)) (y - ((tv : Int) : Rat)) ((tf : Int) : Rat)) = w2) : jM a20 a21 a22 x y ((1 : Int) : Rat) = jM e20 e21 e22 w0 w1 w2 := by
  rw [← mC, ← mB, ← nZ, lens_v, ← dN, ← dS, ← dR, ← hw0, ← hw1, ← hw2]
  unfold jM
  grind
end
theorem den_neQ (q : Rat) : ((q.den : Int) : Rat) ≠ 0 := fun e => gX q (Rat.intCast_eq_zero_iff.1 e)
theorem num_q (q : Rat) : ((q.num : Int) : Rat) = q * ((q.den : Int) : Rat) := by
  have h := Rat.num_divInt_den q
  rw [Rat.divInt_eq_div] at h
  have hd := den_neQ q
  have e : ((q.num : Int) : Rat) / ((q.den : Int) : Rat) * ((q.den : Int) : Rat) = ((q.num : Int) : Rat) := by
    rw [Rat.div_def, Rat.mul_assoc, Rat.inv_mul_cancel _ hd, Rat.mul_one]
  rw [← e, h]
theorem hom_img {v0 v1 v2 v3 v4 v5 v6 v7 v8 c0 c1 c2 c3 c4 c5 c6 c7 c8 p0 p1 p2 t0 t1 t2 : Int} {x y L0 L1 L2 a00 a01 a02 a10 a11 a12 a20 a21 a22 : Rat} (he : ((v0 : Int) : Rat) = a00 ∧ ((v1 : Int) : Rat) = a01 ∧ ((v2 : Int) : Rat) = a02 ∧ ((v3 : Int) : Rat) = a10 ∧ ((v4 : Int) : Rat) = a11 ∧ ((v5 : Int) : Rat) = a12 ∧ ((v6 : Int) : Rat) = a20 ∧ ((v7 : Int) : Rat) = a21 ∧ ((v8 : Int) : Rat) = a22) (hdv : gM v0 v1 v2 v3 v4 v5 v6 v7 v8 ≠ 0)
    (hc : xB [v0, v1, v2, v3, v4, v5, v6, v7, v8] = [c0, c1, c2, c3, c4, c5, c6, c7, c8]) (hp : xB [x.num * (y.den : Int), y.num * (x.den : Int), (x.den : Int) * (y.den : Int)] = [p0, p1, p2])
    (ht : xB [((c0 * p0) + (c1 * p1)) + (c2 * p2), ((c3 * p0) + (c4 * p1)) + (c5 * p2), ((c6 * p0) + (c7 * p1)) + (c8 * p2)] = [t0, t1, t2])
    (h0 : jM a00 a01 a02 x y ((1 : Int) : Rat) = L0) (h1 : jM a10 a11 a12 x y ((1 : Int) : Rat) = L1) (h2 : jM a20 a21 a22 x y ((1 : Int) : Rat) = L2) (hL : L2 ≠ 0) :
    vK [((c0 * p0) + (c1 * p1)) + (c2 * p2), ((c3 * p0) + (c4 * p1)) + (c5 * p2), ((c6 * p0) + (c7 * p1)) + (c8 * p2)] ≠ 0 ∧ t2 ≠ 0 ∧ Rat.divInt t0 t2 = L0 / L2 ∧ Rat.divInt t1 t2 = L1 / L2 := by
  obtain ⟨d, hd, ⟨d0, d1, d2, d3, d4, d5, d6, d7, d8⟩, hcd, -⟩ := red9 hdv hc
  have hpz := point_nz x y
  obtain ⟨m, hm, m0, m1, m2, hps, -⟩ := red3_back hpz hp
  have htz := app_nz hcd hps
  obtain ⟨n, hn, n0, n1, n2, -, -⟩ := red3_back htz ht
  have hx : ((x.num : Int) : Rat) = x * ((x.den : Int) : Rat) := num_q x
  have hy : ((y.num : Int) : Rat) = y * ((y.den : Int) : Rat) := num_q y
  have hdx := den_neQ x
  have hdy := den_neQ y
  have hdq : ((d : Int) : Rat) ≠ 0 := fun e => hd (Rat.intCast_eq_zero_iff.1 e)
  have hmq : ((m : Int) : Rat) ≠ 0 := fun e => hm (Rat.intCast_eq_zero_iff.1 e)
  have hnq : ((n : Int) : Rat) ≠ 0 := fun e => hn (Rat.intCast_eq_zero_iff.1 e)
  obtain ⟨q0, q1, q2, q3, q4, q5, q6, q7, q8⟩ := he
  have M0 : ((m : Int) : Rat) * ((p0 : Int) : Rat) = x * (((x.den : Int) : Rat) * ((y.den : Int) : Rat)) := by rw [← Rat.intCast_mul, ← m0, Rat.intCast_mul, hx]; grind
  have M1 : ((m : Int) : Rat) * ((p1 : Int) : Rat) = y * (((x.den : Int) : Rat) * ((y.den : Int) : Rat)) := by rw [← Rat.intCast_mul, ← m1, Rat.intCast_mul, hy]; grind
  have M2 : ((m : Int) : Rat) * ((p2 : Int) : Rat) = (((x.den : Int) : Rat) * ((y.den : Int) : Rat)) := by rw [← Rat.intCast_mul, ← m2, Rat.intCast_mul]
  have hD : (((x.den : Int) : Rat) * ((y.den : Int) : Rat)) ≠ 0 := fQ hdx hdy
  generalize (((x.den : Int) : Rat) * ((y.den : Int) : Rat)) = D at *
  have key : ∀ {c c' c'' v v' v'' t : Int} {a a' a'' L : Rat}, d * c = v → d * c' = v' → d * c'' = v'' → ((v : Int) : Rat) = a → ((v' : Int) : Rat) = a' → ((v'' : Int) : Rat) = a'' → ((c * p0) + (c' * p1)) + (c'' * p2) = n * t → jM a a' a'' x y ((1 : Int) : Rat) = L →
      ((d : Int) : Rat) * ((m : Int) : Rat) * ((n : Int) : Rat) * ((t : Int) : Rat) = D * L := by
    intro c c' c'' v v' v'' t a a' a'' L e1 e2 e3 f1 f2 f3 g1 g2
    subst e1 e2 e3 f1 f2 f3 g2
    have g3 : ((((c * p0) + (c' * p1)) + (c'' * p2) : Int) : Rat) = ((n * t : Int) : Rat) := congrArg _ g1
    simp only [Rat.intCast_add, Rat.intCast_mul] at g3 ⊢
    unfold jM
    rw [Rat.intCast_one]
    grind
  have k0 := key d0 d1 d2 q0 q1 q2 n0 h0
  have k1 := key d3 d4 d5 q3 q4 q5 n1 h1
  have k2 := key d6 d7 d8 q6 q7 q8 n2 h2
  have hK : ((d : Int) : Rat) * ((m : Int) : Rat) * ((n : Int) : Rat) ≠ 0 := fQ (fQ hdq hmq) hnq
  generalize ((d : Int) : Rat) * ((m : Int) : Rat) * ((n : Int) : Rat) = K at *
  have ht2 : t2 ≠ 0 := fun e => by
    rw [e, Rat.intCast_zero, Rat.mul_zero] at k2
    exact fQ hD hL k2.symm
  have ht2q : ((t2 : Int) : Rat) ≠ 0 := fun e => ht2 (Rat.intCast_eq_zero_iff.1 e)
  refine ⟨htz, ht2, ?_, ?_⟩
  · rw [Rat.divInt_eq_div]
    grind
  · rw [Rat.divInt_eq_div]
    grind
end Go.Fid
namespace Go.Fid
set_option linter.unusedVariables false
set_option linter.unusedSimpArgs false
open Go.RowKit (Below)
mutual
inductive Ty where
  | int (k : IntKind)
  | bool
  | sl (E : TypeId) (s : Nat) (e : Ty)
  | st (fs : TyL)
  | ar (n : Nat) (E : TypeId) (fs : TyL)
inductive TyL where
  | nil
  | cons (t : TypeId) (ty : Ty) (r : TyL)
end
mutual
def Ty.size : Ty → Nat
  | .int _ => 1
  | .bool => 1
  | .sl _ _ _ => 1
  | .st fs => fs.size
  | .ar _ _ fs => fs.size
def TyL.size : TyL → Nat
  | .nil => 0
  | .cons _ ty r => ty.size + r.size
end
def fieldsB : List Field → Nat → TyL → Bool
  | [], _, .nil => true
  | f :: l, off, .cons t ty r => Nat.beq f.type t && (Nat.beq f.offset off && fieldsB l (off + ty.size) r)
  | _, _, _ => false
def arFs (E : TypeId) (z : Nat) : Nat → Nat → List Field
  | 0, _ => []
  | n + 1, i => { name := "", type := E, offset := i * z, embedded := false, tag := "", pkgPath := "", byteOffset := 0 } :: arFs E z n (i + 1)
theorem arFs_mem {E : TypeId} {z : Nat} : ∀ {n i : Nat} {f : Field}, f ∈ arFs E z n i → ∃ j, j < n ∧ f.type = E ∧ f.offset = (i + j) * z
  | 0, _, _, h => by cases h
  | n + 1, i, f, h => by
    rcases List.mem_cons.1 h with e | h
    · exact ⟨0, by omega, by rw [e], by rw [e]; rfl⟩
    · obtain ⟨j, h1, h2, h3⟩ := arFs_mem h
      exact ⟨j + 1, by omega, h2, by rw [h3]; congr 1; omega⟩
mutual
def tyB (P : Program) : TypeId → Ty → Bool
  | t, .int k => match P.underlying t with
    | some (.int k') => decide (k' = k)
    | _ => false
  | t, .bool => match P.underlying t with
    | some .bool => true
    | _ => false
  | t, .sl E s e => match P.underlying t with
    | some (.slice E') => Nat.beq E' E && (Nat.beq (P.cellsOf E) s && (Nat.beq e.size s && (Nat.ble 1 s && (Nat.ble 1 (P.bytesOf E) && tyB P E e))))
    | _ => false
  | t, .st fs => match P.underlying t with
    | some (.struct fds) => Nat.beq (P.cellsOf t) fs.size && (fieldsB fds.toList 0 fs && tysB P fs)
    | _ => false
  | t, .ar n E fs => match P.underlying t with
    | some (.array n' E') => Nat.beq n' n && (Nat.beq E' E && (Nat.beq (P.cellsOf t) fs.size && (fieldsB (arFs E (P.cellsOf E) n 0) 0 fs && tysB P fs)))
    | _ => false
def tysB (P : Program) : TyL → Bool
  | .nil => true
  | .cons t ty r => Nat.beq (P.cellsOf t) ty.size && (tyB P t ty && tysB P r)
end
def isSt : Ty → Bool
  | .st _ => true
  | .ar _ _ _ => true
  | _ => false
def mkD (ty : Ty) (ds : List qF) : qF := bif isSt ty then .agg ds else ds.headD (.tup [])
mutual
def Sh : Ty → List qF → Prop
  | .int k, ds => ∃ z, ds = [.val (.int k z)] ∧ (Lit.int k z).wf = true
  | .bool, ds => ∃ b, ds = [.val (.bool b)]
  | .sl E s e, ds => ∃ es : List (List qF), ds = [.sl E s (es.map (mkD e))] ∧ es.length ≤ 140737488355328 ∧ ∀ x ∈ es, Sh e x
  | .st fs, ds => ShL fs ds
  | .ar _ _ fs, ds => ShL fs ds
def ShL : TyL → List qF → Prop
  | .nil, ds => ds = []
  | .cons _ ty r, ds => ∃ a b, ds = a ++ b ∧ Sh ty a ∧ ShL r b
end
mutual
theorem Sh.len : ∀ {ty : Ty} {ds : List qF}, Sh ty ds → ds.length = ty.size
  | .int k, ds, h => by obtain ⟨z, rfl, _⟩ := h; rfl
  | .bool, ds, h => by obtain ⟨b, rfl⟩ := h; rfl
  | .sl E s e, ds, h => by obtain ⟨es, rfl, _⟩ := h; rfl
  | .st fs, ds, h => ShL.len (h : ShL fs ds)
  | .ar _ _ fs, ds, h => ShL.len (h : ShL fs ds)
theorem ShL.len : ∀ {fs : TyL} {ds : List qF}, ShL fs ds → ds.length = fs.size
  | .nil, ds, h => by have h : ds = [] := h; subst h; rfl
  | .cons t ty r, ds, h => by
    obtain ⟨a, b, rfl, h1, h2⟩ := h
    rw [List.length_append, Sh.len h1, ShL.len h2]; rfl
end
theorem mkD_cells {ty : Ty} {ds : List qF} (h : Sh ty ds) : (mkD ty ds).cells = ds := by
  cases ty with
  | int k => obtain ⟨z, rfl, _⟩ := h; rfl
  | bool => obtain ⟨b, rfl⟩ := h; rfl
  | sl E s e => obtain ⟨es, rfl, _⟩ := h; rfl
  | st fs => rfl
  | ar n E fs => rfl
def oldD (w : World) : uW := fun _ g _ => g < w.heap.size
def RepC (w : World) (cs : List Value) (ds : List qF) : Prop := ds.length = cs.length ∧ (∀ v ∈ cs, v.oneCell' = true) ∧ ∀ (i : Nat) v d, cs[i]? = some v → ds[i]? = some d → xJ w (oldD w) v d
theorem RepC.append {w : World} {cs1 cs2 : List Value} {d1 d2 : List qF} (h1 : RepC w cs1 d1) (h2 : RepC w cs2 d2) : RepC w (cs1 ++ cs2) (d1 ++ d2) := by
  refine ⟨by rw [List.length_append, List.length_append, h1.1, h2.1], fun v hv => ?_, fun i v d hv hd => ?_⟩
  · rcases List.mem_append.1 hv with h | h
    · exact h1.2.1 v h
    · exact h2.2.1 v h
  · by_cases hi : i < cs1.length
    · rw [List.getElem?_append_left hi] at hv
      rw [List.getElem?_append_left (by rw [h1.1]; exact hi)] at hd
      exact h1.2.2 i v d hv hd
    · rw [List.getElem?_append_right (by omega)] at hv
      rw [List.getElem?_append_right (by rw [h1.1]; omega), h1.1] at hd
      exact h2.2.2 _ v d hv hd
section
variable {H : Type} {enc : TypeId × Value → H} {P : Program} {w : World} {sp : Nat → Bool} {held : Bool}
theorem aA {e : TypeId} : ∀ {l : List (DataW H)} {d : DataW H}, d ∈ l → ∀ {n : Nat}, n ∈ d.weights P e → n ∈ DataW.weightsAll P e l
  | [], _, h, _, _ => by cases h
  | x :: l, d, h, n, hn => by
    simp only [DataW.weightsAll]
    rcases List.mem_cons.1 h with rfl | h
    · exact List.mem_append_left _ hn
    · exact List.mem_append_right _ (aA h hn)
theorem cells_get {a : Addr} {n : Nat} {cs : List Value} (h : w.cells? 0 a n = some cs) : cs.length = n ∧ ∀ i, i < n → w.cell? (a.add i) = cs[i]? := by
  unfold World.cells? at h
  rw [if_pos (Nat.zero_le _)] at h
  refine ⟨by simpa using mapM_some_length h, fun i hi => ?_⟩
  have := mapM_some_get h i i (by simp [hi])
  exact this
theorem drop_take_split {α : Type} {cs : List α} {off n m : Nat} (h : cs.length = off + (n + m)) : cs.drop off = (cs.drop off).take n ++ cs.drop (off + n) := by
  rw [← List.drop_drop, List.take_append_drop]
mutual
theorem bridge : ∀ {ty : Ty} {t : TypeId} {fuel : Nat} {cs : List Value} {x : DataW H × List MemPlace}, tyB P t ty = true → DataW.trod enc P w 0 sp held fuel t cs = some x → (∀ n ∈ x.1.weights P t, n ≤ reachBytes) → ∃ ds, RepC w cs ds ∧ Sh ty ds
  | .int k, t, fuel, cs, x, ht, h, _ => by
    unfold tyB at ht
    split at ht
    · rename_i k' hu
      obtain rfl : k' = k := of_decide_eq_true ht
      obtain ⟨n, rfl, _, hw⟩ := DataW.trod_int hu h
      refine ⟨[.val (.int k' n)], ⟨rfl, by simp [Value.oneCell'], fun i v d hv hd => ?_⟩, n, rfl, hw⟩
      rcases i with _ | i
      · simp at hv hd; subst hv; subst hd; exact .val _
      · simp at hv
    · cases ht
  | .bool, t, fuel, cs, x, ht, h, _ => by
    unfold tyB at ht
    split at ht
    · rename_i hu
      obtain ⟨b, rfl, _⟩ := DataW.trod_bool hu h
      refine ⟨[.val (.bool b)], ⟨rfl, by simp [Value.oneCell'], fun i v d hv hd => ?_⟩, b, rfl⟩
      rcases i with _ | i
      · simp at hv hd; subst hv; subst hd; exact .val _
      · simp at hv
    · cases ht
  | .sl E s e, t, fuel, cs, x, ht, h, hwt => by
    unfold tyB at ht
    split at ht
    · rename_i E' hu
      simp only [Bool.and_eq_true] at ht
      obtain ⟨h1, h2, h3, h4, h6, h5⟩ := ht
      obtain rfl : E' = E := Nat.eq_of_beq_eq_true h1
      have hs : P.cellsOf E' = s := Nat.eq_of_beq_eq_true h2
      have hes : e.size = s := Nat.eq_of_beq_eq_true h3
      have hs1 : 1 ≤ s := Nat.le_of_ble_eq_true h4
      have one : ∀ v : Value, v.oneCell' = true → ∀ d, xJ w (oldD w) v d → RepC w [v] [d] := fun v h1 d h2 => ⟨rfl, by simpa using h1, fun i v' d' hv hd => by
        rcases i with _ | i
        · simp at hv hd; subst hv; subst hd; exact h2
        · simp at hv⟩
      rcases DataW.trod_slice hu h with ⟨rfl, _⟩ | ⟨a, len, cap, elems, zG, n, _, rfl, hx, _, hl, hm, vD, hel, _⟩
      · exact ⟨[.sl E' s []], one _ rfl _ (iS w _ E' s), [], rfl, Nat.zero_le _, by simp⟩
      · have hws : ∀ n ∈ (elems.length + zG.length) * P.bytesOf E' :: (DataW.weightsAll P E' (elems.map (·.1)) ++ DataW.weightsAll P E' (zG.map (·.1))), n ≤ reachBytes := by
          intro n hn
          refine hwt n ?_
          rw [hx]
          simp only [DataW.weights, hu, List.length_map]
          exact hn
        have hlen47 : len ≤ 140737488355328 := by
          have h7 := hws _ (List.mem_cons_self)
          have h8 : 1 ≤ P.bytesOf E' := Nat.le_of_ble_eq_true h6
          have h9 := Nat.mul_le_mul_left (elems.length + zG.length) h8
          have h10 := reachBytes_lt
          omega
        have each : ∀ i, ∃ d : List qF × List Value, i < len → (d.2.length = s ∧ (∀ j, j < s → w.cell? ((a.add (i * s)).add j) = d.2[j]?) ∧ RepC w d.2 d.1 ∧ Sh e d.1) := by
          intro i
          by_cases hi : i < len
          · have he := hel i hi
            rw [List.getElem?_eq_getElem (by omega), hs] at he
            cases hc : w.cells? 0 (a.add (i * s)) s with
            | none => rw [hc] at he; cases he
            | some ci =>
              rw [hc] at he
              obtain ⟨g1, g2⟩ := cells_get hc
              have hmem : elems[i] ∈ elems := List.getElem_mem _
              obtain ⟨ds, r1, r2⟩ := bridge (ty := e) h5 he (fun n hn => hws n (by
                refine List.mem_cons_of_mem _ (List.mem_append_left _ ?_)
                exact aA (List.mem_map_of_mem (f := (·.1)) hmem) hn))
              exact ⟨(ds, ci), fun _ => ⟨g1, g2, r1, r2⟩⟩
          · exact ⟨([], []), fun h => absurd h hi⟩
        obtain ⟨F, hF⟩ := Classical.axiomOfChoice each
        have hspot : 0 < len → a = ⟨a.block, a.off, none⟩ ∧ a.block < w.heap.size := by
          intro h0
          obtain ⟨q1, q2, _, _⟩ := hF 0 h0
          have q3 := q2 0 (by omega)
          rw [List.getElem?_eq_getElem (by omega)] at q3
          obtain ⟨b, o, sp'⟩ := a
          cases sp' with
          | none =>
            refine ⟨rfl, ?_⟩
            unfold World.cell? at q3
            split at q3
            · rename_i c _ _ hh
              simpa [Addr.add] using (Array.getElem?_eq_some_iff.1 hh).1
            · cases q3
          | some z =>
            exfalso
            unfold World.cell? at q3
            split at q3
            · simp [Addr.add] at q3
            · cases q3
        have hesl : ∀ d ∈ ((List.range len).map fun i => mkD e (F i).1), d.cells.length = s := by
          intro d hd
          rw [List.mem_map] at hd
          obtain ⟨i, hi, rfl⟩ := hd
          obtain ⟨q1, q2, q3, q4⟩ := hF i (by simpa using hi)
          rw [mkD_cells q4, Sh.len q4, hes]
        have hfl := xL hesl
        rw [List.length_map, List.length_range] at hfl
        have hget : ∀ q, q < len * s → ∃ u d, w.cell? (a.add q) = some u ∧ (uU ((List.range len).map fun i => mkD e (F i).1))[q]? = some d ∧ u.oneCell' = true ∧ xJ w (oldD w) u d := by
          intro q hq
          have hi : q / s < len := (Nat.div_lt_iff_lt_mul (by omega)).2 hq
          have hj : q % s < s := Nat.mod_lt _ (by omega)
          have hqe : q / s * s + q % s = q := by rw [Nat.mul_comm]; exact Nat.div_add_mod q s
          obtain ⟨q1, q2, q3, q4⟩ := hF (q / s) hi
          have c1 := q2 (q % s) hj
          have c2 : ((a.add (q / s * s)).add (q % s)) = a.add q := by
            rw [(hspot (Nat.lt_of_le_of_lt (Nat.zero_le _) hi)).1, Addr.add_lit, Addr.add_lit, Addr.add_lit, Nat.add_assoc, hqe]
          have hlen1 : (F (q / s)).1.length = s := by rw [q3.1, q1]
          have c4 : (F (q / s)).1[q % s]? = some ((F (q / s)).1[q % s]'(by rw [hlen1]; exact hj)) := List.getElem?_eq_getElem _
          have c5 : (F (q / s)).2[q % s]? = some ((F (q / s)).2[q % s]'(by rw [q1]; exact hj)) := List.getElem?_eq_getElem _
          rw [c2, c5] at c1
          have c3 := flat_get (es := (List.range len).map fun i => mkD e (F i).1) (i := q / s) (j := q % s) (e := mkD e (F (q / s)).1) hesl (by rw [List.getElem?_map, List.getElem?_range hi]; rfl) hj
          rw [hqe, mkD_cells q4, c4] at c3
          exact ⟨_, _, c1, c3, q3.2.1 _ (List.getElem_mem _), q3.2.2 (q % s) _ _ c5 c4⟩
        refine ⟨[.sl E' s ((List.range len).map fun i => mkD e (F i).1)], one _ rfl _ ?_, (List.range len).map fun i => (F i).1, ?_, by simpa using hlen47, ?_⟩
        · rcases Nat.eq_zero_or_pos len with h0 | h0
          · subst h0
            exact xJ.sl 0 0 (fun _ => undef) (by simp) hl hm (by simp) (fun h => absurd h (Nat.lt_irrefl 0)) (by simp [uU]) (by simp [uU]) (by simp [uU]) (by simp [uU])
          · obtain ⟨ha, hb⟩ := hspot h0
            refine xJ.sl a.block a.off (fun q => (w.cell? (a.add q)).getD undef) (by simp) hl hm hesl (fun _ => congrArg some ha) (fun q hq => hb) (fun q hq => ?_) (fun q hq => ?_) (fun q d hd => ?_)
            · obtain ⟨u, d, g1, _, _, _⟩ := hget q (by omega)
              have e1 : a.add q = ⟨a.block, a.off + q, none⟩ := by rw [ha, Addr.add_lit]
              rw [← e1, g1]; rfl
            · obtain ⟨u, d, g1, _, g3, _⟩ := hget q (by omega)
              rw [g1]; exact g3
            · have hq := (List.getElem?_eq_some_iff.1 hd).1
              obtain ⟨u, d', g1, g2, _, g4⟩ := hget q (by omega)
              rw [hd] at g2
              injection g2 with g2
              subst g2
              rw [g1]; exact g4
        · rw [List.map_map]; rfl
        · intro y hy
          rw [List.mem_map] at hy
          obtain ⟨i, hi, rfl⟩ := hy
          exact (hF i (by simpa using hi)).2.2.2
    · cases ht
  | .st fs, t, fuel, cs, x, ht, h, hwt => by
    unfold tyB at ht
    split at ht
    · rename_i fds hu
      simp only [Bool.and_eq_true] at ht
      obtain ⟨h1, h2, h3⟩ := ht
      obtain ⟨xs, n, _, hx, hl, hxl, hf⟩ := DataW.trod_struct hu h
      have hcl : cs.length = 0 + fs.size := by rw [hl, Nat.eq_of_beq_eq_true h1, Nat.zero_add]
      have key := bridgeL (fs := fs) (off := 0) (cs := cs) (l := fds.toList) (n := n) h2 h3 hcl (fun f hfm => by
        obtain ⟨i, hi⟩ := List.getElem?_of_mem hfm
        have := hf i f (by simpa using hi)
        have hlt : i < xs.length := by
          have := (List.getElem?_eq_some_iff.1 hi).1
          simp at this; omega
        rw [List.getElem?_eq_getElem hlt] at this
        refine ⟨_, this, fun m hm => hwt m ?_⟩
        rw [hx]
        simp only [DataW.weights, hu]
        exact DataW.weights_mem_each (j := i) (by rw [List.getElem?_map, hi]; rfl) (by rw [List.getElem?_map, List.getElem?_eq_getElem hlt]; rfl) m hm)
      rw [List.drop_zero] at key
      exact key
    · cases ht
  | .ar k E fs, t, fuel, cs, x, ht, h, hwt => by
    unfold tyB at ht
    split at ht
    · rename_i k' E' hu
      simp only [Bool.and_eq_true] at ht
      obtain ⟨h0, h1, h4, h2, h3⟩ := ht
      obtain rfl : k' = k := Nat.eq_of_beq_eq_true h0
      obtain rfl : E' = E := Nat.eq_of_beq_eq_true h1
      obtain ⟨xs, n, _, hx, hl, hxl, hf⟩ := DataW.trod_array hu h
      have hcl : cs.length = 0 + fs.size := by rw [hl, Nat.eq_of_beq_eq_true h4, Nat.zero_add]
      have key := bridgeL (fs := fs) (off := 0) (cs := cs) (l := arFs E' (P.cellsOf E') k' 0) (n := n) h2 h3 hcl (fun f hfm => by
        obtain ⟨j, hj, ft, fo⟩ := arFs_mem hfm
        have := hf j hj
        have hlt : j < xs.length := by omega
        rw [List.getElem?_eq_getElem hlt] at this
        refine ⟨xs[j], ?_, fun m hm => hwt m ?_⟩
        · rw [ft, fo, Nat.zero_add]; exact this
        · rw [hx]
          simp only [DataW.weights, hu]
          rw [ft] at hm
          exact aA (List.mem_map_of_mem (f := (·.1)) (List.getElem_mem hlt)) hm)
      rw [List.drop_zero] at key
      exact key
    · cases ht
theorem bridgeL : ∀ {fs : TyL} {l : List Field} {off n : Nat} {cs : List Value}, fieldsB l off fs = true → tysB P fs = true → cs.length = off + fs.size → (∀ f ∈ l, ∃ y, DataW.trod enc P w 0 sp held n f.type ((cs.drop f.offset).take (P.cellsOf f.type)) = some y ∧ ∀ m ∈ y.1.weights P f.type, m ≤ reachBytes) →
    ∃ ds, RepC w (cs.drop off) ds ∧ ShL fs ds
  | .nil, l, off, n, cs, h1, h2, h3, h4 => by
    have : cs.drop off = [] := List.drop_eq_nil_of_le (by rw [h3]; exact Nat.le_refl _)
    rw [this]
    exact ⟨[], ⟨rfl, by simp, by simp⟩, rfl⟩
  | .cons t ty r, l, off, n, cs, h1, h2, h3, h4 => by
    cases l with
    | nil => cases h1
    | cons f l =>
      simp only [fieldsB, Bool.and_eq_true] at h1
      obtain ⟨e1, e2, e3⟩ := h1
      simp only [tysB, Bool.and_eq_true] at h2
      obtain ⟨f1, f2, f3⟩ := h2
      have et := Nat.eq_of_beq_eq_true e1
      have eo := Nat.eq_of_beq_eq_true e2
      have ec := Nat.eq_of_beq_eq_true f1
      obtain ⟨y, hy, hyw⟩ := h4 f (by simp)
      rw [et, eo, ec] at hy
      rw [et] at hyw
      obtain ⟨d1, r1, s1⟩ := bridge (ty := ty) f2 hy hyw
      have h3' : cs.length = off + ty.size + r.size := by rw [h3]; show off + (ty.size + r.size) = _; omega
      obtain ⟨d2, r2, s2⟩ := bridgeL (fs := r) (off := off + ty.size) (cs := cs) (l := l) (n := n) e3 f3 h3' (fun g hg => h4 g (by simp [hg]))
      refine ⟨d1 ++ d2, ?_, d1, d2, rfl, s1, s2⟩
      rw [drop_take_split (cs := cs) (off := off) (n := ty.size) (m := r.size) (by omega)]
      exact r1.append r2
end
theorem open_arg {ty : Ty} {t : TypeId} {v : Value} {d : DataW H} {p : List MemPlace} (hty : tyB P t ty = true) (hv : isSt ty = true → ∃ cs, v = .agg cs) (hv1 : isSt ty = false → v.cells = #[v]) (h : DataW.Trod enc P w 0 sp held t v d p) (hwt : ∀ n ∈ d.weights P t, n ≤ reachBytes) :
    ∃ ds, xJ w (oldD w) v (mkD ty ds) ∧ Sh ty ds := by
  obtain ⟨fuel, hf⟩ := h
  obtain ⟨ds, hr, hs⟩ := bridge (ty := ty) hty hf hwt
  refine ⟨ds, ?_, hs⟩
  cases hst : isSt ty with
  | true =>
    obtain ⟨cs, rfl⟩ := hv hst
    have e : mkD ty ds = .agg ds := by unfold mkD; rw [hst]; rfl
    rw [e]
    have := xJ.agg (w := w) (D := oldD w) (cs := ds) cs.toList hr.1.symm hr.2.1 hr.2.2
    simpa using this
  | false =>
    have hv2 := hv1 hst
    have hc := hr.1
    rw [hv2] at hr
    simp only [Array.toList] at hr
    obtain ⟨h1, h2, h3⟩ := hr
    have hl : ds.length = 1 := by simpa using h1
    obtain ⟨d0, rfl⟩ := List.length_eq_one_iff.1 hl
    have e : mkD ty [d0] = d0 := by unfold mkD; rw [hst]; rfl
    rw [e]
    exact h3 0 v d0 rfl rfl
end
theorem oldD_ok (w : World) : DOk (oldD w) w := fun _ _ _ h => h
end Go.Fid
