/- Part 34 of a proof: rules, plain facts, and functions walked. -/
import Derived.Test.YtbecgnplakngdaaGreatM33
namespace Go.Proofs.YtbecgnplakngdaaGreat
open Go.Fid
set_option maxRecDepth 4000
set_option linter.unusedVariables false
set_option linter.unusedSimpArgs false
theorem cb51 : callB Tryz.prog 51 = true := by kernel_rfl
theorem cb52 : callB Tryz.prog 52 = true := by kernel_rfl
theorem cb53 : callB Tryz.prog 53 = true := by kernel_rfl
theorem d_ofC (a00 a01 a02 a10 a11 a12 a20 a21 a22 : Rat) (mB : QL a00 20000) (mD : QL a01 20000) (mC : QL a02 20000) (nW : QL a10 20000) (mE : QL a11 20000) (nY : QL a12 20000) (nX : QL a20 20000) (mA : QL a21 20000) (nZ : QL a22 20000) (k0 : Int) (hk0 : (1 * (a00.den : Int)) = k0) (k1 : Int) (hk1 : (k0 * (a01.den : Int)) = k1) (k2 : Int) (hk2 : (k1 * (a02.den : Int)) = k2) (k3 : Int) (hk3 : (k2 * (a10.den : Int)) = k3) (k4 : Int) (hk4 : (k3 * (a11.den : Int)) = k4) (k5 : Int) (hk5 : (k4 * (a12.den : Int)) = k5) (k6 : Int) (hk6 : (k5 * (a20.den : Int)) = k6) (k7 : Int) (hk7 : (k6 * (a21.den : Int)) = k7) (k8 : Int) (hk8 : (k7 * (a22.den : Int)) = k8) (v0 : Int) (hv0 : ((k8.fdiv (a00.den : Int)) * a00.num) = v0) (v1 : Int) (hv1 : ((k8.fdiv (a01.den : Int)) * a01.num) = v1) (v2 : Int) (hv2 : ((k8.fdiv (a02.den : Int)) * a02.num) = v2) (v3 : Int) (hv3 : ((k8.fdiv (a10.den : Int)) * a10.num) = v3) (v4 : Int) (hv4 : ((k8.fdiv (a11.den : Int)) * a11.num) = v4) (v5 : Int) (hv5 : ((k8.fdiv (a12.den : Int)) * a12.num) = v5) (v6 : Int) (hv6 : ((k8.fdiv (a20.den : Int)) * a20.num) = v6) (v7 : Int) (hv7 : ((k8.fdiv (a21.den : Int)) * a21.num) = v7) (v8 : Int) (hv8 : ((k8.fdiv (a22.den : Int)) * a22.num) = v8) (c0 c1 c2 c3 c4 c5 c6 c7 c8 : Int) (hc : xB [v0, v1, v2, v3, v4, v5, v6, v7, v8] = [c0, c1, c2, c3, c4, c5, c6, c7, c8]) (hnz : vK [v0, v1, v2, v3, v4, v5, v6, v7, v8] ≠ 0) (hd : qX (gN v0 v1 v2 v3 v4 v5 v6 v7 v8) ≠ 0) : kF Tryz.prog 112 [(.sl 52 1 (List.map kP [[(jC a00), (jC a01), (jC a02)], [(jC a10), (jC a11), (jC a12)], [(jC a20), (jC a21), (jC a22)]]))] (.tup [(qL (A9.mk (jK c0) (jK c1) (jK c2) (jK c3) (jK c4) (jK c5) (jK c6) (jK c7) (jK c8))), (.val (.int .i64 (0)))]) := by
 have hz00 := gY a00
 have hz01 := gY a01
 have hz02 := gY a02
 have hz10 := gY a10
 have hz11 := gY a11
 have hz12 := gY a12
 have hz20 := gY a20
 have hz21 := gY a21
 have hz22 := gY a22
 let y3 := (A9.mk (jK v0) (jK v1) (jK v2) (jK v3) (jK v4) (jK v5) (jK v6) (jK v7) (jK v8))
 let y2 := (bx (qL (A9.mk (jK v0) (jK v1) (jF.mk false []) (jF.mk false []) (jF.mk false []) (jF.mk false []) (jF.mk false []) (jF.mk false []) (jF.mk false []))))
 let y1 := (bx (qL (A9.mk (jF.mk false []) (jF.mk false []) (jF.mk false []) (jF.mk false []) (jF.mk false []) (jF.mk false []) (jF.mk false []) (jF.mk false []) (jF.mk false []))))
 refine jL Tryz.func112 rfl cb112 rfl ?_
 show uK _ _ _ _ ⟨[(0, (vl 52 1 kP [[(jC a00), (jC a01), (jC a02)], [(jC a10), (jC a11), (jC a12)], [(jC a20), (jC a21), (jC a22)]]))], []⟩
 refine jA <| kx [(2, (.ref 0 0))] [(0, some y1)] (zN (qH 0 ze98 zo98) <| zM <| zZ) ?_
 refine jA <| kx [(4, (vb true))] [] (zM <| zE (fT yM 3) <| zE aO <| zM <| zZ) ?_
 refine jA <| jA <| kx [(23, (vl 52 1 kP [[(jC a00), (jC a01), (jC a02)], [(jC a10), (jC a11), (jC a12)], [(jC a20), (jC a21), (jC a22)]])), (24, (kE 3)), (25, (kE 0))] [] (zM <| zE (fT yM 3) <| zM <| zZ) ?_
 refine jE <| qE 20 ?_
 refine qK <| jA <| kx [(26, (vb true))] [] (zE (qY true qS) <| zZ) ?_
 refine jA <| kD ?_
 refine jD <| jA <| jE <| jA <| kx [(6, (vl 42 4 jO [(jC a00), (jC a01), (jC a02)]))] [] (zE (zD yM 0) <| zE (yN cL) <| zM <| zZ) ?_
 refine jA <| kx [(4, (vb true))] [] (zM <| zM <| zM <| zE (fT uO 3) <| zE aO <| zE bG <| zM <| zZ) ?_
 refine jA <| kx [(35, (vl 42 4 jO [(jC a00), (jC a01), (jC a02)])), (36, (kE 3)), (37, (kE 0))] [] (zM <| zE (fT uO 3) <| zM <| zZ) ?_
 refine jE <| qE 20 ?_
 refine qK <| jA <| kx [(38, (vb true))] [] (zE (qY true qS) <| zZ) ?_
 refine jA <| kD ?_
 refine jD <| jA <| jE <| jA <| kx [(8, (.ref 1 0))] [(1, some (bx (jO (jC a00))))] (zE (zD uO 0) <| zE (gZ jS) <| zN (qH 1 qM qR) <| zT (kR jS) <| zZ) ?_
 refine jA <| kx [(43, (vb false))] [] (zR (kA jS) <| zE (qY true (kC (dZ (jC a00) a00 (kH (kL mB) (by decide)))) (by exact (yH a00))) <| zE eX <| zZ) ?_
 refine kO ?_
 refine jD <| kx [(37, (kE 1))] [] (zE (qQ 1 (hr := by decide)) <| zM <| zZ) ?_
 refine jJ (jZ.refl _) ?_
 refine jA <| kx [(38, (vb true))] [] (zE (qY true qS) <| zZ) ?_
 refine jA <| kD ?_
 refine jD <| jA <| jE <| jA <| kx [(8, (.ref 2 0))] [(2, some (bx (jO (jC a01))))] (zE (zD uO 1) <| zE (gZ jS) <| zN (qH 2 qM qR) <| zT (kR jS) <| zZ) ?_
 refine jA <| kx [(43, (vb false))] [] (zR (kA jS) <| zE (qY true (kC (dZ (jC a01) a01 (kH (kL mD) (by decide)))) (by exact (yH a01))) <| zE eX <| zZ) ?_
 refine kO ?_
 refine jD <| kX (wk (l := [(0, (vl 52 1 kP [[(jC a00), (jC a01), (jC a02)], [(jC a10), (jC a11), (jC a12)], [(jC a20), (jC a21), (jC a22)]])), (2, (.ref 0 0)), (4, (vb true)), (23, (vl 52 1 kP [[(jC a00), (jC a01), (jC a02)], [(jC a10), (jC a11), (jC a12)], [(jC a20), (jC a21), (jC a22)]])), (24, (kE 3)), (25, (kE 0)), (35, (vl 42 4 jO [(jC a00), (jC a01), (jC a02)])), (36, (kE 3)), (37, (kE 1)), (43, (vb false))]) (b := [(0, some y1)])) ?_
 refine kx [(37, (kE 2))] [] (zE (qQ 2 (hr := by decide)) <| zM <| zZ) ?_
 refine jJ (jZ.refl _) ?_
 refine jA <| kx [(38, (vb true))] [] (zE (qY true qS) <| zZ) ?_
 refine jA <| kD ?_
 refine jD <| jA <| jE <| jA <| kx [(8, (.ref 3 0))] [(3, some (bx (jO (jC a02))))] (zE (zD uO 2) <| zE (gZ jS) <| zN (qH 3 qM qR) <| zT (kR jS) <| zZ) ?_
 refine jA <| kx [(43, (vb false))] [] (zR (kA jS) <| zE (qY true (kC (dZ (jC a02) a02 (kH (kL mC) (by decide)))) (by exact (yH a02))) <| zE eX <| zZ) ?_
 refine kO ?_
 refine jD <| kx [(37, (kE 3))] [] (zE (qQ 3 (hr := by decide)) <| zM <| zZ) ?_
 refine jJ (jZ.refl _) ?_
 refine jA <| kx [(38, (vb false))] [] (zE (qY false qS) <| zZ) ?_
 refine jA <| kO ?_
 refine kQ <| kx [(25, (kE 1))] [] (zE (qQ 1 (hr := by decide)) <| zM <| zZ) ?_
 refine jJ (jZ.refl _) ?_
 refine jA <| kx [(26, (vb true))] [] (zE (qY true qS) <| zZ) ?_
 refine jA <| kD ?_
 refine jD <| jA <| jE <| jA <| kx [(6, (vl 42 4 jO [(jC a10), (jC a11), (jC a12)]))] [] (zE (zD yM 1) <| zE (yN cL) <| zM <| zZ) ?_
 refine jA <| kx [(4, (vb true))] [] (zM <| zM <| zM <| zE (fT uO 3) <| zE aO <| zE bG <| zM <| zZ) ?_
 refine jA <| kx [(35, (vl 42 4 jO [(jC a10), (jC a11), (jC a12)])), (36, (kE 3)), (37, (kE 0))] [] (zM <| zE (fT uO 3) <| zM <| zZ) ?_
 refine jE <| qE 20 ?_
 refine qK <| jA <| kx [(38, (vb true))] [] (zE (qY true qS) <| zZ) ?_
 refine jA <| kD ?_
 refine jD <| jA <| jE <| jA <| kx [(8, (.ref 4 0))] [(4, some (bx (jO (jC a10))))] (zE (zD uO 0) <| zE (gZ jS) <| zN (qH 4 qM qR) <| zT (kR jS) <| zZ) ?_
 refine jA <| kx [(43, (vb false))] [] (zR (kA jS) <| zE (qY true (kC (dZ (jC a10) a10 (kH (kL nW) (by decide)))) (by exact (yH a10))) <| zE eX <| zZ) ?_
 refine kO ?_
 refine jD <| kX (wk (l := [(0, (vl 52 1 kP [[(jC a00), (jC a01), (jC a02)], [(jC a10), (jC a11), (jC a12)], [(jC a20), (jC a21), (jC a22)]])), (2, (.ref 0 0)), (4, (vb true)), (23, (vl 52 1 kP [[(jC a00), (jC a01), (jC a02)], [(jC a10), (jC a11), (jC a12)], [(jC a20), (jC a21), (jC a22)]])), (24, (kE 3)), (25, (kE 1)), (35, (vl 42 4 jO [(jC a10), (jC a11), (jC a12)])), (36, (kE 3)), (37, (kE 0)), (43, (vb false))]) (b := [(0, some y1)])) ?_
 refine kx [(37, (kE 1))] [] (zE (qQ 1 (hr := by decide)) <| zM <| zZ) ?_
 refine jJ (jZ.refl _) ?_
 refine jA <| kx [(38, (vb true))] [] (zE (qY true qS) <| zZ) ?_
 refine jA <| kD ?_
 refine jD <| jA <| jE <| jA <| kx [(8, (.ref 5 0))] [(5, some (bx (jO (jC a11))))] (zE (zD uO 1) <| zE (gZ jS) <| zN (qH 5 qM qR) <| zT (kR jS) <| zZ) ?_
 refine jA <| kx [(43, (vb false))] [] (zR (kA jS) <| zE (qY true (kC (dZ (jC a11) a11 (kH (kL mE) (by decide)))) (by exact (yH a11))) <| zE eX <| zZ) ?_
 refine kO ?_
 refine jD <| kx [(37, (kE 2))] [] (zE (qQ 2 (hr := by decide)) <| zM <| zZ) ?_
 refine jJ (jZ.refl _) ?_
 refine jA <| kx [(38, (vb true))] [] (zE (qY true qS) <| zZ) ?_
 refine jA <| kD ?_
 refine jD <| jA <| jE <| jA <| kx [(8, (.ref 6 0))] [(6, some (bx (jO (jC a12))))] (zE (zD uO 2) <| zE (gZ jS) <| zN (qH 6 qM qR) <| zT (kR jS) <| zZ) ?_
 refine jA <| kx [(43, (vb false))] [] (zR (kA jS) <| zE (qY true (kC (dZ (jC a12) a12 (kH (kL nY) (by decide)))) (by exact (yH a12))) <| zE eX <| zZ) ?_
 refine kO ?_
 refine jD <| kx [(37, (kE 3))] [] (zE (qQ 3 (hr := by decide)) <| zM <| zZ) ?_
 refine jJ (jZ.refl _) ?_
 refine jA <| kx [(38, (vb false))] [] (zE (qY false qS) <| zZ) ?_
 refine jA <| kO ?_
 refine kQ <| kx [(25, (kE 2))] [] (zE (qQ 2 (hr := by decide)) <| zM <| zZ) ?_
 refine jJ (jZ.refl _) ?_
 refine jA <| kx [(26, (vb true))] [] (zE (qY true qS) <| zZ) ?_
 refine jA <| kD ?_
 refine jD <| jA <| jE <| jA <| kx [(6, (vl 42 4 jO [(jC a20), (jC a21), (jC a22)]))] [] (zE (zD yM 2) <| zE (yN cL) <| zM <| zZ) ?_
 refine jA <| kx [(4, (vb true))] [] (zM <| zM <| zM <| zE (fT uO 3) <| zE aO <| zE bG <| zM <| zZ) ?_
 refine jA <| kX (wk (l := [(0, (vl 52 1 kP [[(jC a00), (jC a01), (jC a02)], [(jC a10), (jC a11), (jC a12)], [(jC a20), (jC a21), (jC a22)]])), (2, (.ref 0 0)), (4, (vb true)), (6, (vl 42 4 jO [(jC a20), (jC a21), (jC a22)])), (23, (vl 52 1 kP [[(jC a00), (jC a01), (jC a02)], [(jC a10), (jC a11), (jC a12)], [(jC a20), (jC a21), (jC a22)]])), (24, (kE 3)), (25, (kE 2))]) (b := [(0, some y1)])) ?_
 refine kx [(35, (vl 42 4 jO [(jC a20), (jC a21), (jC a22)])), (36, (kE 3)), (37, (kE 0))] [] (zM <| zE (fT uO 3) <| zM <| zZ) ?_
 refine jE <| qE 20 ?_
 refine qK <| jA <| kx [(38, (vb true))] [] (zE (qY true qS) <| zZ) ?_
 refine jA <| kD ?_
 refine jD <| jA <| jE <| jA <| kx [(8, (.ref 7 0))] [(7, some (bx (jO (jC a20))))] (zE (zD uO 0) <| zE (gZ jS) <| zN (qH 7 qM qR) <| zT (kR jS) <| zZ) ?_
 refine jA <| kx [(43, (vb false))] [] (zR (kA jS) <| zE (qY true (kC (dZ (jC a20) a20 (kH (kL nX) (by decide)))) (by exact (yH a20))) <| zE eX <| zZ) ?_
 refine kO ?_
 refine jD <| kx [(37, (kE 1))] [] (zE (qQ 1 (hr := by decide)) <| zM <| zZ) ?_
 refine jJ (jZ.refl _) ?_
 refine jA <| kx [(38, (vb true))] [] (zE (qY true qS) <| zZ) ?_
 refine jA <| kD ?_
 refine jD <| jA <| jE <| jA <| kx [(8, (.ref 8 0))] [(8, some (bx (jO (jC a21))))] (zE (zD uO 1) <| zE (gZ jS) <| zN (qH 8 qM qR) <| zT (kR jS) <| zZ) ?_
 refine jA <| kx [(43, (vb false))] [] (zR (kA jS) <| zE (qY true (kC (dZ (jC a21) a21 (kH (kL mA) (by decide)))) (by exact (yH a21))) <| zE eX <| zZ) ?_
 refine kO ?_
 refine jD <| kx [(37, (kE 2))] [] (zE (qQ 2 (hr := by decide)) <| zM <| zZ) ?_
 refine jJ (jZ.refl _) ?_
 refine jA <| kx [(38, (vb true))] [] (zE (qY true qS) <| zZ) ?_
 refine jA <| kD ?_
 refine jD <| jA <| jE <| jA <| kx [(8, (.ref 9 0))] [(9, some (bx (jO (jC a22))))] (zE (zD uO 2) <| zE (gZ jS) <| zN (qH 9 qM qR) <| zT (kR jS) <| zZ) ?_
 refine jA <| kx [(43, (vb false))] [] (zR (kA jS) <| zE (qY true (kC (dZ (jC a22) a22 (kH (kL nZ) (by decide)))) (by exact (yH a22))) <| zE eX <| zZ) ?_
 refine kO ?_
 refine jD <| kx [(37, (kE 3))] [] (zE (qQ 3 (hr := by decide)) <| zM <| zZ) ?_
 refine jJ (jZ.refl _) ?_
 refine jA <| kx [(38, (vb false))] [] (zE (qY false qS) <| zZ) ?_
 refine jA <| kO ?_
 refine kQ <| kX (wk (l := [(0, (vl 52 1 kP [[(jC a00), (jC a01), (jC a02)], [(jC a10), (jC a11), (jC a12)], [(jC a20), (jC a21), (jC a22)]])), (2, (.ref 0 0)), (4, (vb true)), (23, (vl 52 1 kP [[(jC a00), (jC a01), (jC a02)], [(jC a10), (jC a11), (jC a12)], [(jC a20), (jC a21), (jC a22)]])), (24, (kE 3)), (25, (kE 2)), (35, (vl 42 4 jO [(jC a20), (jC a21), (jC a22)])), (36, (kE 3)), (37, (kE 3)), (38, (vb false))]) (b := [(0, some y1)])) ?_
 refine kx [(25, (kE 3))] [] (zE (qQ 3 (hr := by decide)) <| zM <| zZ) ?_
 refine jJ (jZ.refl _) ?_
 refine jA <| kx [(26, (vb false))] [] (zE (qY false qS) <| zZ) ?_
 refine jA <| kO ?_
 refine kQ <| jA <| jA <| kx [(48, (vb false))] [] (zM <| zE eX <| zZ) ?_
 refine kO ?_
 refine jD <| jA <| kx [(9, (.ref 10 0))] [(10, some (bx (jH (jK 1))))] (zE (kC (t_of 1 (by decide) (by decide))) <| zN (qH 10 uD uE) <| zT (kR jI) <| zZ) ?_
 refine jA <| jA <| kx [(51, (vl 52 1 kP [[(jC a00), (jC a01), (jC a02)], [(jC a10), (jC a11), (jC a12)], [(jC a20), (jC a21), (jC a22)]])), (52, (kE 3)), (53, (kE 0))] [] (zM <| zE (fT yM 3) <| zM <| zZ) ?_
 refine jE <| qE 20 ?_
 refine qK <| jA <| kx [(54, (vb true))] [] (zE (qY true qS) <| zZ) ?_
 refine jA <| kD ?_
 refine jD <| jA <| jE <| jA <| kx [(11, (vl 42 4 jO [(jC a00), (jC a01), (jC a02)]))] [] (zE (zD yM 0) <| zE (yN cL) <| zM <| zZ) ?_
 refine jA <| kx [(57, (vl 42 4 jO [(jC a00), (jC a01), (jC a02)])), (58, (kE 3)), (59, (kE 0))] [] (zM <| zE (fT uO 3) <| zM <| zZ) ?_
 refine jE <| qE 20 ?_
 refine qK <| jA <| kx [(60, (vb true))] [] (zE (qY true qS) <| zZ) ?_
 refine jA <| kD ?_
 refine jD <| jA <| jE <| jA <| kx [(13, (.ref 11 0))] [(11, some (bx (jO (jC a00))))] (zE (zD uO 0) <| zE (gZ jS) <| zN (qH 11 qM qR) <| zT (kR jS) <| zZ) ?_
 have bn1 : kZ (jK k0) k0 20001 := (kT hk0.symm (jP (k := 20001) (yI (z := 1) (by decide)) (jW mB) (by decide)))
 refine kx [] [(10, some (bx (jH (jK k0))))] (zR (kA jI) <| zE (kU uY) <| zR (kA jI) <| zE (kC (by have h := yS (yI (z := 1) (by decide)) (jW mB) (by decide) (by decide); rw [hk0] at h; exact h)) <| zT (kR jI) <| zZ) ?_
 refine kx [(59, (kE 1))] [] (zE (qQ 1 (hr := by decide)) <| zM <| zZ) ?_
 refine jJ (jZ.refl _) ?_
 refine jA <| kx [(60, (vb true))] [] (zE (qY true qS) <| zZ) ?_
 refine jA <| kD ?_
 refine jD <| jA <| jE <| jA <| kx [(13, (.ref 12 0))] [(12, some (bx (jO (jC a01))))] (zE (zD uO 1) <| zE (gZ jS) <| zN (qH 12 qM qR) <| zT (kR jS) <| zZ) ?_
 refine kX (wk (l := [(0, (vl 52 1 kP [[(jC a00), (jC a01), (jC a02)], [(jC a10), (jC a11), (jC a12)], [(jC a20), (jC a21), (jC a22)]])), (2, (.ref 0 0)), (9, (.ref 10 0)), (13, (.ref 12 0)), (51, (vl 52 1 kP [[(jC a00), (jC a01), (jC a02)], [(jC a10), (jC a11), (jC a12)], [(jC a20), (jC a21), (jC a22)]])), (52, (kE 3)), (53, (kE 0)), (57, (vl 42 4 jO [(jC a00), (jC a01), (jC a02)])), (58, (kE 3)), (59, (kE 1))]) (b := [(0, some y1), (10, some (bx (jH (jK k0)))), (12, some (bx (jO (jC a01))))])) ?_
 have bn2 : kZ (jK k1) k1 40001 := (kT hk1.symm (jP (k := 40001) bn1 (jW mD) (by decide)))
 refine kx [] [(10, some (bx (jH (jK k1))))] (zR (kA jI) <| zE (kU uY) <| zR (kA jI) <| zE (kC (by have h := yS bn1 (jW mD) (by decide) (by decide); rw [hk1] at h; exact h)) <| zT (kR jI) <| zZ) ?_
 refine kx [(59, (kE 2))] [] (zE (qQ 2 (hr := by decide)) <| zM <| zZ) ?_
 refine jJ (jZ.refl _) ?_
 refine jA <| kx [(60, (vb true))] [] (zE (qY true qS) <| zZ) ?_
 refine jA <| kD ?_
 refine jD <| jA <| jE <| jA <| kx [(13, (.ref 13 0))] [(13, some (bx (jO (jC a02))))] (zE (zD uO 2) <| zE (gZ jS) <| zN (qH 13 qM qR) <| zT (kR jS) <| zZ) ?_
 have bn3 : kZ (jK k2) k2 60001 := (kT hk2.symm (jP (k := 60001) bn2 (jW mC) (by decide)))
 refine kx [] [(10, some (bx (jH (jK k2))))] (zR (kA jI) <| zE (kU uY) <| zR (kA jI) <| zE (kC (by have h := yS bn2 (jW mC) (by decide) (by decide); rw [hk2] at h; exact h)) <| zT (kR jI) <| zZ) ?_
 refine kx [(59, (kE 3))] [] (zE (qQ 3 (hr := by decide)) <| zM <| zZ) ?_
 refine jJ (jZ.refl _) ?_
 refine jA <| kx [(60, (vb false))] [] (zE (qY false qS) <| zZ) ?_
 refine jA <| kO ?_
 refine kQ <| kx [(53, (kE 1))] [] (zE (qQ 1 (hr := by decide)) <| zM <| zZ) ?_
 refine jJ (jZ.refl _) ?_
 refine jA <| kx [(54, (vb true))] [] (zE (qY true qS) <| zZ) ?_
 refine jA <| kD ?_
 refine jD <| jA <| jE <| jA <| kx [(11, (vl 42 4 jO [(jC a10), (jC a11), (jC a12)]))] [] (zE (zD yM 1) <| zE (yN cL) <| zM <| zZ) ?_
 refine jA <| kx [(57, (vl 42 4 jO [(jC a10), (jC a11), (jC a12)])), (58, (kE 3)), (59, (kE 0))] [] (zM <| zE (fT uO 3) <| zM <| zZ) ?_
 refine jE <| qE 20 ?_
 refine qK <| jA <| kx [(60, (vb true))] [] (zE (qY true qS) <| zZ) ?_
 refine jA <| kD ?_
 refine jD <| jA <| jE <| jA <| kx [(13, (.ref 14 0))] [(14, some (bx (jO (jC a10))))] (zE (zD uO 0) <| zE (gZ jS) <| zN (qH 14 qM qR) <| zT (kR jS) <| zZ) ?_
 have bn4 : kZ (jK k3) k3 80001 := (kT hk3.symm (jP (k := 80001) bn3 (jW nW) (by decide)))
 refine kx [] [(10, some (bx (jH (jK k3))))] (zR (kA jI) <| zE (kU uY) <| zR (kA jI) <| zE (kC (by have h := yS bn3 (jW nW) (by decide) (by decide); rw [hk3] at h; exact h)) <| zT (kR jI) <| zZ) ?_
 refine kX (wk (l := [(0, (vl 52 1 kP [[(jC a00), (jC a01), (jC a02)], [(jC a10), (jC a11), (jC a12)], [(jC a20), (jC a21), (jC a22)]])), (2, (.ref 0 0)), (9, (.ref 10 0)), (51, (vl 52 1 kP [[(jC a00), (jC a01), (jC a02)], [(jC a10), (jC a11), (jC a12)], [(jC a20), (jC a21), (jC a22)]])), (52, (kE 3)), (53, (kE 1)), (57, (vl 42 4 jO [(jC a10), (jC a11), (jC a12)])), (58, (kE 3)), (59, (kE 0))]) (b := [(0, some y1), (10, some (bx (jH (jK k3))))])) ?_
 refine kx [(59, (kE 1))] [] (zE (qQ 1 (hr := by decide)) <| zM <| zZ) ?_
 refine jJ (jZ.refl _) ?_
 refine jA <| kx [(60, (vb true))] [] (zE (qY true qS) <| zZ) ?_
 refine jA <| kD ?_
 refine jD <| jA <| jE <| jA <| kx [(13, (.ref 15 0))] [(15, some (bx (jO (jC a11))))] (zE (zD uO 1) <| zE (gZ jS) <| zN (qH 15 qM qR) <| zT (kR jS) <| zZ) ?_
 have bn5 : kZ (jK k4) k4 100001 := (kT hk4.symm (jP (k := 100001) bn4 (jW mE) (by decide)))
 refine kx [] [(10, some (bx (jH (jK k4))))] (zR (kA jI) <| zE (kU uY) <| zR (kA jI) <| zE (kC (by have h := yS bn4 (jW mE) (by decide) (by decide); rw [hk4] at h; exact h)) <| zT (kR jI) <| zZ) ?_
 refine kx [(59, (kE 2))] [] (zE (qQ 2 (hr := by decide)) <| zM <| zZ) ?_
 refine jJ (jZ.refl _) ?_
 refine jA <| kx [(60, (vb true))] [] (zE (qY true qS) <| zZ) ?_
 refine jA <| kD ?_
 refine jD <| jA <| jE <| jA <| kx [(13, (.ref 16 0))] [(16, some (bx (jO (jC a12))))] (zE (zD uO 2) <| zE (gZ jS) <| zN (qH 16 qM qR) <| zT (kR jS) <| zZ) ?_
 have bn6 : kZ (jK k5) k5 120001 := (kT hk5.symm (jP (k := 120001) bn5 (jW nY) (by decide)))
 refine kx [] [(10, some (bx (jH (jK k5))))] (zR (kA jI) <| zE (kU uY) <| zR (kA jI) <| zE (kC (by have h := yS bn5 (jW nY) (by decide) (by decide); rw [hk5] at h; exact h)) <| zT (kR jI) <| zZ) ?_
 refine kx [(59, (kE 3))] [] (zE (qQ 3 (hr := by decide)) <| zM <| zZ) ?_
 refine jJ (jZ.refl _) ?_
 refine jA <| kx [(60, (vb false))] [] (zE (qY false qS) <| zZ) ?_
 refine jA <| kO ?_
 refine kQ <| kx [(53, (kE 2))] [] (zE (qQ 2 (hr := by decide)) <| zM <| zZ) ?_
 refine jJ (jZ.refl _) ?_
 refine jA <| kx [(54, (vb true))] [] (zE (qY true qS) <| zZ) ?_
 refine jA <| kD ?_
 refine jD <| jA <| jE <| jA <| kx [(11, (vl 42 4 jO [(jC a20), (jC a21), (jC a22)]))] [] (zE (zD yM 2) <| zE (yN cL) <| zM <| zZ) ?_
 refine jA <| kx [(57, (vl 42 4 jO [(jC a20), (jC a21), (jC a22)])), (58, (kE 3)), (59, (kE 0))] [] (zM <| zE (fT uO 3) <| zM <| zZ) ?_
 refine jE <| qE 20 ?_
 refine qK <| jA <| kX (wk (l := [(0, (vl 52 1 kP [[(jC a00), (jC a01), (jC a02)], [(jC a10), (jC a11), (jC a12)], [(jC a20), (jC a21), (jC a22)]])), (2, (.ref 0 0)), (9, (.ref 10 0)), (51, (vl 52 1 kP [[(jC a00), (jC a01), (jC a02)], [(jC a10), (jC a11), (jC a12)], [(jC a20), (jC a21), (jC a22)]])), (52, (kE 3)), (53, (kE 2)), (57, (vl 42 4 jO [(jC a20), (jC a21), (jC a22)])), (58, (kE 3)), (59, (kE 0))]) (b := [(0, some y1), (10, some (bx (jH (jK k5))))])) ?_
 refine kx [(60, (vb true))] [] (zE (qY true qS) <| zZ) ?_
 refine jA <| kD ?_
 refine jD <| jA <| jE <| jA <| kx [(13, (.ref 17 0))] [(17, some (bx (jO (jC a20))))] (zE (zD uO 0) <| zE (gZ jS) <| zN (qH 17 qM qR) <| zT (kR jS) <| zZ) ?_
 have bn7 : kZ (jK k6) k6 140001 := (kT hk6.symm (jP (k := 140001) bn6 (jW nX) (by decide)))
 refine kx [] [(10, some (bx (jH (jK k6))))] (zR (kA jI) <| zE (kU uY) <| zR (kA jI) <| zE (kC (by have h := yS bn6 (jW nX) (by decide) (by decide); rw [hk6] at h; exact h)) <| zT (kR jI) <| zZ) ?_
 refine kx [(59, (kE 1))] [] (zE (qQ 1 (hr := by decide)) <| zM <| zZ) ?_
 refine jJ (jZ.refl _) ?_
 refine jA <| kx [(60, (vb true))] [] (zE (qY true qS) <| zZ) ?_
 refine jA <| kD ?_
 refine jD <| jA <| jE <| jA <| kx [(13, (.ref 18 0))] [(18, some (bx (jO (jC a21))))] (zE (zD uO 1) <| zE (gZ jS) <| zN (qH 18 qM qR) <| zT (kR jS) <| zZ) ?_
 have bn8 : kZ (jK k7) k7 160001 := (kT hk7.symm (jP (k := 160001) bn7 (jW mA) (by decide)))
 refine kx [] [(10, some (bx (jH (jK k7))))] (zR (kA jI) <| zE (kU uY) <| zR (kA jI) <| zE (kC (by have h := yS bn7 (jW mA) (by decide) (by decide); rw [hk7] at h; exact h)) <| zT (kR jI) <| zZ) ?_
 refine kx [(59, (kE 2))] [] (zE (qQ 2 (hr := by decide)) <| zM <| zZ) ?_
 refine jJ (jZ.refl _) ?_
 refine jA <| kx [(60, (vb true))] [] (zE (qY true qS) <| zZ) ?_
 refine jA <| kD ?_
 refine jD <| jA <| jE <| jA <| kx [(13, (.ref 19 0))] [(19, some (bx (jO (jC a22))))] (zE (zD uO 2) <| zE (gZ jS) <| zN (qH 19 qM qR) <| zT (kR jS) <| zZ) ?_
 have bn9 : kZ (jK k8) k8 180001 := (kT hk8.symm (jP (k := 180001) bn8 (jW nZ) (by decide)))
 refine kx [] [(10, some (bx (jH (jK k8))))] (zR (kA jI) <| zE (kU uY) <| zR (kA jI) <| zE (kC (by have h := yS bn8 (jW nZ) (by decide) (by decide); rw [hk8] at h; exact h)) <| zT (kR jI) <| zZ) ?_
 refine kx [(59, (kE 3))] [] (zE (qQ 3 (hr := by decide)) <| zM <| zZ) ?_
 refine jJ (jZ.refl _) ?_
 refine jA <| kx [(60, (vb false))] [] (zE (qY false qS) <| zZ) ?_
 refine jA <| kO ?_
 refine kQ <| kx [(53, (kE 3))] [] (zE (qQ 3 (hr := by decide)) <| zM <| zZ) ?_
 refine jJ (jZ.refl _) ?_
 refine jA <| kX (wk (l := [(0, (vl 52 1 kP [[(jC a00), (jC a01), (jC a02)], [(jC a10), (jC a11), (jC a12)], [(jC a20), (jC a21), (jC a22)]])), (2, (.ref 0 0)), (9, (.ref 10 0)), (51, (vl 52 1 kP [[(jC a00), (jC a01), (jC a02)], [(jC a10), (jC a11), (jC a12)], [(jC a20), (jC a21), (jC a22)]])), (52, (kE 3)), (53, (kE 3))]) (b := [(0, some y1), (10, some (bx (jH (jK k8))))])) ?_
 refine kx [(54, (vb false))] [] (zE (qY false qS) <| zZ) ?_
 refine jA <| kO ?_
 refine kQ <| jA <| kx [(14, (.ref 20 0))] [(20, some y1)] (zN (qH 20 ze98 zo98) <| zZ) ?_
 refine jA <| jA <| kx [(69, (kE 0))] [] (zM <| zZ) ?_
 refine jE <| qE 20 ?_
 refine qK <| jA <| kx [(70, (vb true))] [] (zE (qY true qS) <| zZ) ?_
 refine jA <| kD ?_
 refine jD <| jA <| jE <| jA <| kx [(15, (kE 0))] [] (zM <| zM <| zZ) ?_
 refine jA <| kx [(16, (.ref 21 0))] [(21, some (bx (jO (jC a00))))] (zM <| zM <| zE (oQu 0 (hr := by decide)) <| zE (zD yM 0) <| zE (yN cL) <| zM <| zE (aI 0 (hr := by decide)) <| zE (zD uO 0) <| zE (gZ jS) <| zN (qH 21 qM qR) <| zT (kR jS) <| zZ) ?_
 refine jA ?_
 have bn10 : kZ (jK (k8.fdiv (a00.den : Int))) (k8.fdiv (a00.den : Int)) 180002 := (qW (k := 180002) bn9 (jW mB) (by decide))
 refine kx [(17, (.ref 22 0))] [(22, some (bx (jH (jK (k8.fdiv (a00.den : Int)))))), (23, none)] (zR (kA jI) <| zE (kU uY) <| zR (kA jI) <| zE (kC (xQ bn9 (jW mB) (by decide) (by decide) (by omega))) <| zM <| zE uH <| zE uH <| zE uH <| zN (qH 22 uD uE) <| zN (qH 23 uD uE) <| zT (kR jI) <| zT (kR jI) <| zM <| zZ) ?_
 have bn11 : kZ (jK v0) v0 200002 := (kT hv0.symm (jP (k := 200002) bn10 (kN mB) (by decide)))
 refine kx [] [(20, some (bx (qL (A9.mk (jK v0) (jF.mk false []) (jF.mk false []) (jF.mk false []) (jF.mk false []) (jF.mk false []) (jF.mk false []) (jF.mk false []) (jF.mk false [])))))] (zM <| zR (kA jI) <| zE (kU vZ) <| zR (kA jI) <| zE (kC (by have h := yS bn10 (kN mB) (by decide) (by decide); rw [hv0] at h; exact h)) <| zE (uJ yY 0) <| zT (kR jI) <| zZ) ?_
 refine kx [(69, (kE 1))] [] (zE (qQ 1 (hr := by decide)) <| zM <| zZ) ?_
 refine jJ (jZ.refl _) ?_
 refine jA <| kx [(70, (vb true))] [] (zE (qY true qS) <| zZ) ?_
 refine jA <| kD ?_
 refine jD <| jA <| jE <| jA <| kx [(15, (kE 1))] [] (zM <| zM <| zZ) ?_
 refine jA <| kx [(16, (.ref 24 0))] [(24, some (bx (jO (jC a01))))] (zM <| zM <| zE (oQu 0 (hr := by decide)) <| zE (zD yM 0) <| zE (yN cL) <| zM <| zE (aI 1 (hr := by decide)) <| zE (zD uO 1) <| zE (gZ jS) <| zN (qH 24 qM qR) <| zT (kR jS) <| zZ) ?_
 refine jA ?_
 have bn12 : kZ (jK (k8.fdiv (a01.den : Int))) (k8.fdiv (a01.den : Int)) 180002 := (qW (k := 180002) bn9 (jW mD) (by decide))
 refine kx [(17, (.ref 25 0))] [(25, some (bx (jH (jK (k8.fdiv (a01.den : Int)))))), (26, none)] (zR (kA jI) <| zE (kU uY) <| zR (kA jI) <| zE (kC (xQ bn9 (jW mD) (by decide) (by decide) (by omega))) <| zM <| zE uH <| zE uH <| zE uH <| zN (qH 25 uD uE) <| zN (qH 26 uD uE) <| zT (kR jI) <| zT (kR jI) <| zM <| zZ) ?_
 have bn13 : kZ (jK v1) v1 200002 := (kT hv1.symm (jP (k := 200002) bn12 (kN mD) (by decide)))
 refine kx [] [(20, some y2)] (zM <| zR (kA jI) <| zE (kU vZ) <| zR (kA jI) <| zE (kC (by have h := yS bn12 (kN mD) (by decide) (by decide); rw [hv1] at h; exact h)) <| zE (uJ yY 1) <| zT (kR jI) <| zZ) ?_
 refine kX (wk (l := [(0, (vl 52 1 kP [[(jC a00), (jC a01), (jC a02)], [(jC a10), (jC a11), (jC a12)], [(jC a20), (jC a21), (jC a22)]])), (2, (.ref 0 0)), (9, (.ref 10 0)), (14, (.ref 20 0)), (69, (kE 1))]) (b := [(0, some y1), (10, some (bx (jH (jK k8)))), (20, some y2)])) ?_
 refine kx [(69, (kE 2))] [] (zE (qQ 2 (hr := by decide)) <| zM <| zZ) ?_
 refine jJ (jZ.refl _) ?_
 refine jA <| kx [(70, (vb true))] [] (zE (qY true qS) <| zZ) ?_
 refine jA <| kD ?_
 refine jD <| jA <| jE <| jA <| kx [(15, (kE 2))] [] (zM <| zM <| zZ) ?_
 refine jA <| kx [(16, (.ref 27 0))] [(27, some (bx (jO (jC a02))))] (zM <| zM <| zE (oQu 0 (hr := by decide)) <| zE (zD yM 0) <| zE (yN cL) <| zM <| zE (aI 2 (hr := by decide)) <| zE (zD uO 2) <| zE (gZ jS) <| zN (qH 27 qM qR) <| zT (kR jS) <| zZ) ?_
 refine jA ?_
 have bn14 : kZ (jK (k8.fdiv (a02.den : Int))) (k8.fdiv (a02.den : Int)) 180002 := (qW (k := 180002) bn9 (jW mC) (by decide))
 refine kx [(17, (.ref 28 0))] [(28, some (bx (jH (jK (k8.fdiv (a02.den : Int)))))), (29, none)] (zR (kA jI) <| zE (kU uY) <| zR (kA jI) <| zE (kC (xQ bn9 (jW mC) (by decide) (by decide) (by omega))) <| zM <| zE uH <| zE uH <| zE uH <| zN (qH 28 uD uE) <| zN (qH 29 uD uE) <| zT (kR jI) <| zT (kR jI) <| zM <| zZ) ?_
 have bn15 : kZ (jK v2) v2 200002 := (kT hv2.symm (jP (k := 200002) bn14 (kN mC) (by decide)))
 refine kx [] [(20, some (bx (qL (A9.mk (jK v0) (jK v1) (jK v2) (jF.mk false []) (jF.mk false []) (jF.mk false []) (jF.mk false []) (jF.mk false []) (jF.mk false [])))))] (zM <| zR (kA jI) <| zE (kU vZ) <| zR (kA jI) <| zE (kC (by have h := yS bn14 (kN mC) (by decide) (by decide); rw [hv2] at h; exact h)) <| zE (uJ yY 2) <| zT (kR jI) <| zZ) ?_
 refine kx [(69, (kE 3))] [] (zE (qQ 3 (hr := by decide)) <| zM <| zZ) ?_
 refine jJ (jZ.refl _) ?_
 refine jA <| kx [(70, (vb true))] [] (zE (qY true qS) <| zZ) ?_
 refine jA <| kD ?_
 refine jD <| jA <| jE <| jA <| kx [(15, (kE 3))] [] (zM <| zM <| zZ) ?_
 refine jA <| kx [(16, (.ref 30 0))] [(30, some (bx (jO (jC a10))))] (zM <| zM <| zE (oQu 1 (hr := by decide)) <| zE (zD yM 1) <| zE (yN cL) <| zM <| zE (aI 0 (hr := by decide)) <| zE (zD uO 0) <| zE (gZ jS) <| zN (qH 30 qM qR) <| zT (kR jS) <| zZ) ?_
 refine jA ?_
 have bn16 : kZ (jK (k8.fdiv (a10.den : Int))) (k8.fdiv (a10.den : Int)) 180002 := (qW (k := 180002) bn9 (jW nW) (by decide))
 refine kx [(17, (.ref 31 0))] [(31, some (bx (jH (jK (k8.fdiv (a10.den : Int)))))), (32, none)] (zR (kA jI) <| zE (kU uY) <| zR (kA jI) <| zE (kC (xQ bn9 (jW nW) (by decide) (by decide) (by omega))) <| zM <| zE uH <| zE uH <| zE uH <| zN (qH 31 uD uE) <| zN (qH 32 uD uE) <| zT (kR jI) <| zT (kR jI) <| zM <| zZ) ?_
 have bn17 : kZ (jK v3) v3 200002 := (kT hv3.symm (jP (k := 200002) bn16 (kN nW) (by decide)))
 refine kx [] [(20, some (bx (qL (A9.mk (jK v0) (jK v1) (jK v2) (jK v3) (jF.mk false []) (jF.mk false []) (jF.mk false []) (jF.mk false []) (jF.mk false [])))))] (zM <| zR (kA jI) <| zE (kU vZ) <| zR (kA jI) <| zE (kC (by have h := yS bn16 (kN nW) (by decide) (by decide); rw [hv3] at h; exact h)) <| zE (uJ yY 3) <| zT (kR jI) <| zZ) ?_
 refine kx [(69, (kE 4))] [] (zE (qQ 4 (hr := by decide)) <| zM <| zZ) ?_
 refine jJ (jZ.refl _) ?_
 refine jA <| kx [(70, (vb true))] [] (zE (qY true qS) <| zZ) ?_
 refine jA <| kD ?_
 refine jD <| jA <| jE <| jA <| kX (wk (l := [(0, (vl 52 1 kP [[(jC a00), (jC a01), (jC a02)], [(jC a10), (jC a11), (jC a12)], [(jC a20), (jC a21), (jC a22)]])), (2, (.ref 0 0)), (9, (.ref 10 0)), (14, (.ref 20 0)), (69, (kE 4)), (70, (vb true))]) (b := [(0, some y1), (10, some (bx (jH (jK k8)))), (20, some (bx (qL (A9.mk (jK v0) (jK v1) (jK v2) (jK v3) (jF.mk false []) (jF.mk false []) (jF.mk false []) (jF.mk false []) (jF.mk false [])))))])) ?_
 refine kx [(15, (kE 4))] [] (zM <| zM <| zZ) ?_
 refine jA <| kx [(16, (.ref 33 0))] [(33, some (bx (jO (jC a11))))] (zM <| zM <| zE (oQu 1 (hr := by decide)) <| zE (zD yM 1) <| zE (yN cL) <| zM <| zE (aI 1 (hr := by decide)) <| zE (zD uO 1) <| zE (gZ jS) <| zN (qH 33 qM qR) <| zT (kR jS) <| zZ) ?_
 refine jA ?_
 have bn18 : kZ (jK (k8.fdiv (a11.den : Int))) (k8.fdiv (a11.den : Int)) 180002 := (qW (k := 180002) bn9 (jW mE) (by decide))
 refine kx [(17, (.ref 34 0))] [(34, some (bx (jH (jK (k8.fdiv (a11.den : Int)))))), (35, none)] (zR (kA jI) <| zE (kU uY) <| zR (kA jI) <| zE (kC (xQ bn9 (jW mE) (by decide) (by decide) (by omega))) <| zM <| zE uH <| zE uH <| zE uH <| zN (qH 34 uD uE) <| zN (qH 35 uD uE) <| zT (kR jI) <| zT (kR jI) <| zM <| zZ) ?_
 have bn19 : kZ (jK v4) v4 200002 := (kT hv4.symm (jP (k := 200002) bn18 (kN mE) (by decide)))
 refine kx [] [(20, some (bx (qL (A9.mk (jK v0) (jK v1) (jK v2) (jK v3) (jK v4) (jF.mk false []) (jF.mk false []) (jF.mk false []) (jF.mk false [])))))] (zM <| zR (kA jI) <| zE (kU vZ) <| zR (kA jI) <| zE (kC (by have h := yS bn18 (kN mE) (by decide) (by decide); rw [hv4] at h; exact h)) <| zE (uJ yY 4) <| zT (kR jI) <| zZ) ?_
 refine kx [(69, (kE 5))] [] (zE (qQ 5 (hr := by decide)) <| zM <| zZ) ?_
 refine jJ (jZ.refl _) ?_
 refine jA <| kx [(70, (vb true))] [] (zE (qY true qS) <| zZ) ?_
 refine jA <| kD ?_
 refine jD <| jA <| jE <| jA <| kx [(15, (kE 5))] [] (zM <| zM <| zZ) ?_
 refine jA <| kx [(16, (.ref 36 0))] [(36, some (bx (jO (jC a12))))] (zM <| zM <| zE (oQu 1 (hr := by decide)) <| zE (zD yM 1) <| zE (yN cL) <| zM <| zE (aI 2 (hr := by decide)) <| zE (zD uO 2) <| zE (gZ jS) <| zN (qH 36 qM qR) <| zT (kR jS) <| zZ) ?_
 refine jA ?_
 have bn20 : kZ (jK (k8.fdiv (a12.den : Int))) (k8.fdiv (a12.den : Int)) 180002 := (qW (k := 180002) bn9 (jW nY) (by decide))
 refine kx [(17, (.ref 37 0))] [(37, some (bx (jH (jK (k8.fdiv (a12.den : Int)))))), (38, none)] (zR (kA jI) <| zE (kU uY) <| zR (kA jI) <| zE (kC (xQ bn9 (jW nY) (by decide) (by decide) (by omega))) <| zM <| zE uH <| zE uH <| zE uH <| zN (qH 37 uD uE) <| zN (qH 38 uD uE) <| zT (kR jI) <| zT (kR jI) <| zM <| zZ) ?_
 have bn21 : kZ (jK v5) v5 200002 := (kT hv5.symm (jP (k := 200002) bn20 (kN nY) (by decide)))
 refine kx [] [(20, some (bx (qL (A9.mk (jK v0) (jK v1) (jK v2) (jK v3) (jK v4) (jK v5) (jF.mk false []) (jF.mk false []) (jF.mk false [])))))] (zM <| zR (kA jI) <| zE (kU vZ) <| zR (kA jI) <| zE (kC (by have h := yS bn20 (kN nY) (by decide) (by decide); rw [hv5] at h; exact h)) <| zE (uJ yY 5) <| zT (kR jI) <| zZ) ?_
 refine kx [(69, (kE 6))] [] (zE (qQ 6 (hr := by decide)) <| zM <| zZ) ?_
 refine jJ (jZ.refl _) ?_
 refine jA <| kx [(70, (vb true))] [] (zE (qY true qS) <| zZ) ?_
 refine jA <| kD ?_
 refine jD <| jA <| jE <| jA <| kx [(15, (kE 6))] [] (zM <| zM <| zZ) ?_
 refine jA <| kx [(16, (.ref 39 0))] [(39, some (bx (jO (jC a20))))] (zM <| zM <| zE (oQu 2 (hr := by decide)) <| zE (zD yM 2) <| zE (yN cL) <| zM <| zE (aI 0 (hr := by decide)) <| zE (zD uO 0) <| zE (gZ jS) <| zN (qH 39 qM qR) <| zT (kR jS) <| zZ) ?_
 refine jA <| kX (wk (l := [(0, (vl 52 1 kP [[(jC a00), (jC a01), (jC a02)], [(jC a10), (jC a11), (jC a12)], [(jC a20), (jC a21), (jC a22)]])), (2, (.ref 0 0)), (9, (.ref 10 0)), (14, (.ref 20 0)), (15, (kE 6)), (16, (.ref 39 0)), (69, (kE 6))]) (b := [(0, some y1), (10, some (bx (jH (jK k8)))), (20, some (bx (qL (A9.mk (jK v0) (jK v1) (jK v2) (jK v3) (jK v4) (jK v5) (jF.mk false []) (jF.mk false []) (jF.mk false []))))), (39, some (bx (jO (jC a20))))])) ?_
 have bn22 : kZ (jK (k8.fdiv (a20.den : Int))) (k8.fdiv (a20.den : Int)) 180002 := (qW (k := 180002) bn9 (jW nX) (by decide))
 refine kx [(17, (.ref 40 0))] [(40, some (bx (jH (jK (k8.fdiv (a20.den : Int)))))), (41, none)] (zR (kA jI) <| zE (kU uY) <| zR (kA jI) <| zE (kC (xQ bn9 (jW nX) (by decide) (by decide) (by omega))) <| zM <| zE uH <| zE uH <| zE uH <| zN (qH 40 uD uE) <| zN (qH 41 uD uE) <| zT (kR jI) <| zT (kR jI) <| zM <| zZ) ?_
 have bn23 : kZ (jK v6) v6 200002 := (kT hv6.symm (jP (k := 200002) bn22 (kN nX) (by decide)))
 refine kx [] [(20, some (bx (qL (A9.mk (jK v0) (jK v1) (jK v2) (jK v3) (jK v4) (jK v5) (jK v6) (jF.mk false []) (jF.mk false [])))))] (zM <| zR (kA jI) <| zE (kU vZ) <| zR (kA jI) <| zE (kC (by have h := yS bn22 (kN nX) (by decide) (by decide); rw [hv6] at h; exact h)) <| zE (uJ yY 6) <| zT (kR jI) <| zZ) ?_
 refine kx [(69, (kE 7))] [] (zE (qQ 7 (hr := by decide)) <| zM <| zZ) ?_
 refine jJ (jZ.refl _) ?_
 refine jA <| kx [(70, (vb true))] [] (zE (qY true qS) <| zZ) ?_
 refine jA <| kD ?_
 refine jD <| jA <| jE <| jA <| kx [(15, (kE 7))] [] (zM <| zM <| zZ) ?_
 refine jA <| kx [(16, (.ref 42 0))] [(42, some (bx (jO (jC a21))))] (zM <| zM <| zE (oQu 2 (hr := by decide)) <| zE (zD yM 2) <| zE (yN cL) <| zM <| zE (aI 1 (hr := by decide)) <| zE (zD uO 1) <| zE (gZ jS) <| zN (qH 42 qM qR) <| zT (kR jS) <| zZ) ?_
 refine jA ?_
 have bn24 : kZ (jK (k8.fdiv (a21.den : Int))) (k8.fdiv (a21.den : Int)) 180002 := (qW (k := 180002) bn9 (jW mA) (by decide))
 refine kx [(17, (.ref 43 0))] [(43, some (bx (jH (jK (k8.fdiv (a21.den : Int)))))), (44, none)] (zR (kA jI) <| zE (kU uY) <| zR (kA jI) <| zE (kC (xQ bn9 (jW mA) (by decide) (by decide) (by omega))) <| zM <| zE uH <| zE uH <| zE uH <| zN (qH 43 uD uE) <| zN (qH 44 uD uE) <| zT (kR jI) <| zT (kR jI) <| zM <| zZ) ?_
 have bn25 : kZ (jK v7) v7 200002 := (kT hv7.symm (jP (k := 200002) bn24 (kN mA) (by decide)))
 refine kx [] [(20, some (bx (qL (A9.mk (jK v0) (jK v1) (jK v2) (jK v3) (jK v4) (jK v5) (jK v6) (jK v7) (jF.mk false [])))))] (zM <| zR (kA jI) <| zE (kU vZ) <| zR (kA jI) <| zE (kC (by have h := yS bn24 (kN mA) (by decide) (by decide); rw [hv7] at h; exact h)) <| zE (uJ yY 7) <| zT (kR jI) <| zZ) ?_
 refine kx [(69, (kE 8))] [] (zE (qQ 8 (hr := by decide)) <| zM <| zZ) ?_
 refine jJ (jZ.refl _) ?_
 refine jA <| kx [(70, (vb true))] [] (zE (qY true qS) <| zZ) ?_
 refine jA <| kD ?_
 refine jD <| jA <| jE <| jA <| kx [(15, (kE 8))] [] (zM <| zM <| zZ) ?_
 refine jA <| kx [(16, (.ref 45 0))] [(45, some (bx (jO (jC a22))))] (zM <| zM <| zE (oQu 2 (hr := by decide)) <| zE (zD yM 2) <| zE (yN cL) <| zM <| zE (aI 2 (hr := by decide)) <| zE (zD uO 2) <| zE (gZ jS) <| zN (qH 45 qM qR) <| zT (kR jS) <| zZ) ?_
 refine jA ?_
 have bn26 : kZ (jK (k8.fdiv (a22.den : Int))) (k8.fdiv (a22.den : Int)) 180002 := (qW (k := 180002) bn9 (jW nZ) (by decide))
 refine kx [(17, (.ref 46 0))] [(46, some (bx (jH (jK (k8.fdiv (a22.den : Int)))))), (47, none)] (zR (kA jI) <| zE (kU uY) <| zR (kA jI) <| zE (kC (xQ bn9 (jW nZ) (by decide) (by decide) (by omega))) <| zM <| zE uH <| zE uH <| zE uH <| zN (qH 46 uD uE) <| zN (qH 47 uD uE) <| zT (kR jI) <| zT (kR jI) <| zM <| zZ) ?_
 have bn27 : kZ (jK v8) v8 200002 := (kT hv8.symm (jP (k := 200002) bn26 (kN nZ) (by decide)))
 refine kx [] [(20, some (bx (qL y3)))] (zM <| zR (kA jI) <| zE (kU vZ) <| zR (kA jI) <| zE (kC (by have h := yS bn26 (kN nZ) (by decide) (by decide); rw [hv8] at h; exact h)) <| zE (uJ yY 8) <| zT (kR jI) <| zZ) ?_
 refine kX (wk (l := [(0, (vl 52 1 kP [[(jC a00), (jC a01), (jC a02)], [(jC a10), (jC a11), (jC a12)], [(jC a20), (jC a21), (jC a22)]])), (2, (.ref 0 0)), (9, (.ref 10 0)), (14, (.ref 20 0)), (69, (kE 8))]) (b := [(0, some y1), (10, some (bx (jH (jK k8)))), (20, some (bx (qL y3)))])) ?_
 refine kx [(69, (kE 9))] [] (zE (qQ 9 (hr := by decide)) <| zM <| zZ) ?_
 refine jJ (jZ.refl _) ?_
 refine jA <| kx [(70, (vb false))] [] (zE (qY false qS) <| zZ) ?_
 refine jA <| kO ?_
 refine kQ <| jA <| jA ?_
 have bn28 : kZ (jK (gN v0 v1 v2 v3 v4 v5 v6 v7 v8)) (gN v0 v1 v2 v3 v4 v5 v6 v7 v8) 600009 := (iok_det3 (n := 200002) (k := 600009) bn11 bn13 bn15 bn17 bn19 bn21 bn23 bn25 bn27 (by decide))
 refine kd [(104, (vb false))] [] mo (wR (kA mI) <| wE (kC (d_row0 y3 v0 v1 v2 v3 v4 v5 v6 v7 v8 (iu bn11) (iu bn13) (iu bn15) (iu bn17) (iu bn19) (iu bn21) (iu bn23) (iu bn25) (iu bn27))) <| wR (kA mI) <| wE (kC (d_row1 y3 v0 v1 v2 v3 v4 v5 v6 v7 v8 (iu bn11) (iu bn13) (iu bn15) (iu bn17) (iu bn19) (iu bn21) (iu bn23) (iu bn25) (iu bn27))) <| wR (kA mI) <| wE (kC (d_row2 y3 v0 v1 v2 v3 v4 v5 v6 v7 v8 (iu bn11) (iu bn13) (iu bn15) (iu bn17) (iu bn19) (iu bn21) (iu bn23) (iu bn25) (iu bn27))) <| wE (kC (d_det (A3.mk (jK v0) (jK v1) (jK v2)) v0 v1 v2 (iu bn11) (iu bn13) (iu bn15) (A3.mk (jK v3) (jK v4) (jK v5)) v3 v4 v5 (iu bn17) (iu bn19) (iu bn21) (A3.mk (jK v6) (jK v7) (jK v8)) v6 v7 v8 (iu bn23) (iu bn25) (iu bn27))) <| wE (kC (s_sign bn28 (by decide))) <| wE (qY false aO (by exact beq_eq_false_iff_ne.2 hd)) <| wZ) ?_
 refine kO ?_
 refine jD <| jA ?_
 have bn29 : ∀ c ∈ [c0, c1, c2, c3, c4, c5, c6, c7, c8], kZ (jK c) c 200002 := mZ (n := 200002) (.cons bn11 (.cons bn13 (.cons bn15 (.cons bn17 (.cons bn19 (.cons bn21 (.cons bn23 (.cons bn25 (.cons bn27 .nil))))))))) hc
 refine kx [(3, (kE 0))] [(0, some (bx (qL (A9.mk (jK c0) (jK c1) (jK c2) (jK c3) (jK c4) (jK c5) (jK c6) (jK c7) (jK c8)))))] (zR (kA mI) <| zE (kC (d_red9 v0 v1 v2 v3 v4 v5 v6 v7 v8 (iu bn11) (iu bn13) (iu bn15) (iu bn17) (iu bn19) (iu bn21) (iu bn23) (iu bn25) (iu bn27) c0 c1 c2 c3 c4 c5 c6 c7 c8 hc hnz)) <| zT (kR mI) <| zM <| zZ) ?_
 refine jG ⟨_, (qB (cs := (bx (qL (A9.mk (jK c0) (jK c1) (jK c2) (jK c3) (jK c4) (jK c5) (jK c6) (jK c7) (jK c8))))) (d := (qL (A9.mk (jK c0) (jK c1) (jK c2) (jK c3) (jK c4) (jK c5) (jK c6) (jK c7) (jK c8)))) rfl rfl mI rfl rfl (.tmp (d := (.val (.int .i64 (((0 : Nat) : Int))))) rfl .nil)), ?_⟩
 rfl
theorem l_applyB (h : A9 jF) (h0 h1 h2 h3 h4 h5 h6 h7 h8 : Int) (hh0 : kZ h.a0 h0 200000) (hh1 : kZ h.a1 h1 200000) (hh2 : kZ h.a2 h2 200000) (hh3 : kZ h.a3 h3 200000) (hh4 : kZ h.a4 h4 200000) (hh5 : kZ h.a5 h5 200000) (hh6 : kZ h.a6 h6 200000) (hh7 : kZ h.a7 h7 200000) (hh8 : kZ h.a8 h8 200000) (p : A3 jF) (p0 p1 p2 : Int) (hp0 : kZ p.a0 p0 1000) (hp1 : kZ p.a1 p1 1000) (hp2 : kZ p.a2 p2 1000) (c0 c1 c2 : Int) (hc : xB [(((h0 * p0) + (h1 * p1)) + (h2 * p2)), (((h3 * p0) + (h4 * p1)) + (h5 * p2)), (((h6 * p0) + (h7 * p1)) + (h8 * p2))] = [c0, c1, c2]) (hnz : vK [(((h0 * p0) + (h1 * p1)) + (h2 * p2)), (((h3 * p0) + (h4 * p1)) + (h5 * p2)), (((h6 * p0) + (h7 * p1)) + (h8 * p2))] ≠ 0) : kF Tryz.prog 115 [(qL h), (kS p)] (kS (A3.mk (jK c0) (jK c1) (jK c2))) := by
 refine jL Tryz.func115 rfl cb115 rfl ?_
 show uK _ _ _ _ ⟨[(0, (.d (qL h))), (1, (.d (kS p)))], []⟩
 refine jA <| kx [(2, (.ref 0 0)), (3, (.ref 1 0)), (4, (.ref 2 0))] [(0, some (bx (qL h))), (1, some (bx (kS p))), (2, some (bx (kS (A3.mk (jF.mk false []) (jF.mk false []) (jF.mk false [])))))] (zN (uX 0) <| zN (uX 1) <| zN (qH 2 nU nS) <| zZ) ?_
 refine jA ?_
 have bn1 : kZ (jK (((h0 * p0) + (h1 * p1)) + (h2 * p2))) (((h0 * p0) + (h1 * p1)) + (h2 * p2)) 201002 := (xO (k := 201002) (xO (k := 201001) (jP (k := 201000) hh0 hp0 (by decide)) (jP (k := 201000) hh1 hp1 (by decide)) (by decide)) (jP (k := 201000) hh2 hp2 (by decide)) (by decide))
 have bn2 : kZ (jK (((h3 * p0) + (h4 * p1)) + (h5 * p2))) (((h3 * p0) + (h4 * p1)) + (h5 * p2)) 201002 := (xO (k := 201002) (xO (k := 201001) (jP (k := 201000) hh3 hp0 (by decide)) (jP (k := 201000) hh4 hp1 (by decide)) (by decide)) (jP (k := 201000) hh5 hp2 (by decide)) (by decide))
 have bn3 : kZ (jK (((h6 * p0) + (h7 * p1)) + (h8 * p2))) (((h6 * p0) + (h7 * p1)) + (h8 * p2)) 201002 := (xO (k := 201002) (xO (k := 201001) (jP (k := 201000) hh6 hp0 (by decide)) (jP (k := 201000) hh7 hp1 (by decide)) (by decide)) (jP (k := 201000) hh8 hp2 (by decide)) (by decide))
 have bn4 : ∀ c ∈ [c0, c1, c2], kZ (jK c) c 201002 := mZ (n := 201002) (.cons bn1 (.cons bn2 (.cons bn3 .nil))) hc
 refine kd [(5, (.ref 3 0))] [(3, some (bx (kS (A3.mk (jK c0) (jK c1) (jK c2)))))] mo (wR (kA mI) <| wE (kC (l_row0 h h0 h1 h2 h3 h4 h5 h6 h7 h8 (iu hh0) (iu hh1) (iu hh2) (iu hh3) (iu hh4) (iu hh5) (iu hh6) (iu hh7) (iu hh8))) <| wR (kA yD) <| wE (kC (l_dot (A3.mk h.a0 h.a1 h.a2) h0 h1 h2 (iu hh0) (iu hh1) (iu hh2) p p0 p1 p2 (iu hp0) (iu hp1) (iu hp2))) <| wR (kA mI) <| wE (kC (l_row1 h h0 h1 h2 h3 h4 h5 h6 h7 h8 (iu hh0) (iu hh1) (iu hh2) (iu hh3) (iu hh4) (iu hh5) (iu hh6) (iu hh7) (iu hh8))) <| wR (kA yD) <| wE (kC (l_dot (A3.mk h.a3 h.a4 h.a5) h3 h4 h5 (iu hh3) (iu hh4) (iu hh5) p p0 p1 p2 (iu hp0) (iu hp1) (iu hp2))) <| wR (kA mI) <| wE (kC (l_row2 h h0 h1 h2 h3 h4 h5 h6 h7 h8 (iu hh0) (iu hh1) (iu hh2) (iu hh3) (iu hh4) (iu hh5) (iu hh6) (iu hh7) (iu hh8))) <| wR (kA yD) <| wE (kC (l_dot (A3.mk h.a6 h.a7 h.a8) h6 h7 h8 (iu hh6) (iu hh7) (iu hh8) p p0 p1 p2 (iu hp0) (iu hp1) (iu hp2))) <| wE (oBf vQ nU nS) <| wE (kC (l_trip (A3.mk (jK (((h0 * p0) + (h1 * p1)) + (h2 * p2))) (jK (((h3 * p0) + (h4 * p1)) + (h5 * p2))) (jK (((h6 * p0) + (h7 * p1)) + (h8 * p2)))) (((h0 * p0) + (h1 * p1)) + (h2 * p2)) (((h3 * p0) + (h4 * p1)) + (h5 * p2)) (((h6 * p0) + (h7 * p1)) + (h8 * p2)) (iu bn1) (iu bn2) (iu bn3) c0 c1 c2 hc hnz)) <| wM <| wE uH <| wE uH <| wN (qH 3 nU nS) <| wT (kR yD) <| wM <| wZ) ?_
 refine jA <| kx [] [(2, some (bx (kS (A3.mk (jK c0) (jK c1) (jK c2)))))] (zR (kA yD) <| zT (kR yD) <| zZ) ?_
 refine jG ⟨_, (qB (cs := (bx (kS (A3.mk (jK c0) (jK c1) (jK c2))))) (d := (kS (A3.mk (jK c0) (jK c1) (jK c2)))) rfl rfl yD rfl rfl .nil), ?_⟩
 rfl
theorem l_Valid (h : A9 jF) (h0 h1 h2 h3 h4 h5 h6 h7 h8 : Int) (hh0 : kZ h.a0 h0 200000) (hh1 : kZ h.a1 h1 200000) (hh2 : kZ h.a2 h2 200000) (hh3 : kZ h.a3 h3 200000) (hh4 : kZ h.a4 h4 200000) (hh5 : kZ h.a5 h5 200000) (hh6 : kZ h.a6 h6 200000) (hh7 : kZ h.a7 h7 200000) (hh8 : kZ h.a8 h8 200000) : kF Tryz.prog 52 [(qL h)] (.val (.bool ((valH [h.a0, h.a1, h.a2, h.a3, h.a4, h.a5, h.a6, h.a7, h.a8] (gN h0 h1 h2 h3 h4 h5 h6 h7 h8))))) := by
 refine jL Tryz.func52 rfl cb52 rfl ?_
 show uK _ _ _ _ ⟨[(0, (.d (qL h)))], []⟩
 refine jA <| kx [(1, (.ref 0 0))] [(0, some (bx (qL h)))] (zN (uX 0) <| zM <| zZ) ?_
 refine jA <| kx [(2, (vb (valH [h.a0, h.a1, h.a2, h.a3, h.a4, h.a5, h.a6, h.a7, h.a8] (gN h0 h1 h2 h3 h4 h5 h6 h7 h8))))] [] (zR (kA mI) <| zE (kC (l_valid h h0 h1 h2 h3 h4 h5 h6 h7 h8 (iu hh0) (iu hh1) (iu hh2) (iu hh3) (iu hh4) (iu hh5) (iu hh6) (iu hh7) (iu hh8))) <| zM <| zZ) ?_
 refine jG ⟨_, (.tmp (d := (.val (.bool ((valH [h.a0, h.a1, h.a2, h.a3, h.a4, h.a5, h.a6, h.a7, h.a8] (gN h0 h1 h2 h3 h4 h5 h6 h7 h8)))))) rfl .nil), ?_⟩
 rfl
theorem l_Image (h : A9 jF) (h0 h1 h2 h3 h4 h5 h6 h7 h8 : Int) (hh0 : kZ h.a0 h0 200000) (hh1 : kZ h.a1 h1 200000) (hh2 : kZ h.a2 h2 200000) (hh3 : kZ h.a3 h3 200000) (hh4 : kZ h.a4 h4 200000) (hh5 : kZ h.a5 h5 200000) (hh6 : kZ h.a6 h6 200000) (hh7 : kZ h.a7 h7 200000) (hh8 : kZ h.a8 h8 200000) (u v : Rat) (hu : QL u 8) (hv : QL v 8) (p0 p1 p2 : Int) (hp : xB [(u.num * (v.den : Int)), (v.num * (u.den : Int)), ((u.den : Int) * (v.den : Int))] = [p0, p1, p2]) (t0 t1 t2 : Int) (ht : xB [(((h0 * p0) + (h1 * p1)) + (h2 * p2)), (((h3 * p0) + (h4 * p1)) + (h5 * p2)), (((h6 * p0) + (h7 * p1)) + (h8 * p2))] = [t0, t1, t2]) (hnp : vK [(u.num * (v.den : Int)), (v.num * (u.den : Int)), ((u.den : Int) * (v.den : Int))] ≠ 0) (hnt : vK [(((h0 * p0) + (h1 * p1)) + (h2 * p2)), (((h3 * p0) + (h4 * p1)) + (h5 * p2)), (((h6 * p0) + (h7 * p1)) + (h8 * p2))] ≠ 0) (ht2 : t2 ≠ 0) : kF Tryz.prog 53 [(qL h), (kI (qI.mk (jC u) (jC v)))] (.tup [(kI (qI.mk (jC (Rat.divInt t0 t2)) (jC (Rat.divInt t1 t2)))), (.val (.bool (true)))]) := by
 refine jL Tryz.func53 rfl cb53 rfl ?_
 show uK _ _ _ _ ⟨[(0, (.d (qL h))), (1, (.d (kI (qI.mk (jC u) (jC v)))))], []⟩
 refine jA <| kx [(2, (.ref 0 0)), (3, (.ref 1 0)), (4, (.ref 2 0))] [(0, some (bx (qL h))), (1, some (bx (kI (qI.mk (jC u) (jC v))))), (2, some (bx (kI (qI.mk (kG.mk (jF.mk false []) (jF.mk false [])) (kG.mk (jF.mk false []) (jF.mk false []))))))] (zN (uX 0) <| zN (uX 1) <| zN (qH 2 ze56 zo56) <| zM <| zZ) ?_
 refine jA ?_
 have bn1 : ∀ c ∈ [p0, p1, p2], kZ (jK c) c 16 := mZ (n := 16) (.cons (jP (k := 16) (kN hu) (jW hv) (by decide)) (.cons (jP (k := 16) (kN hv) (jW hu) (by decide)) (.cons (jP (k := 16) (jW hu) (jW hv) (by decide)) .nil))) hp
 have bn2 : ∀ c ∈ [t0, t1, t2], kZ (jK c) c 200018 := mZ (n := 200018) (.cons (xO (k := 200018) (xO (k := 200017) (jP (k := 200016) hh0 (bn1 p0 (by simp)) (by decide)) (jP (k := 200016) hh1 (bn1 p1 (by simp)) (by decide)) (by decide)) (jP (k := 200016) hh2 (bn1 p2 (by simp)) (by decide)) (by decide)) (.cons (xO (k := 200018) (xO (k := 200017) (jP (k := 200016) hh3 (bn1 p0 (by simp)) (by decide)) (jP (k := 200016) hh4 (bn1 p1 (by simp)) (by decide)) (by decide)) (jP (k := 200016) hh5 (bn1 p2 (by simp)) (by decide)) (by decide)) (.cons (xO (k := 200018) (xO (k := 200017) (jP (k := 200016) hh6 (bn1 p0 (by simp)) (by decide)) (jP (k := 200016) hh7 (bn1 p1 (by simp)) (by decide)) (by decide)) (jP (k := 200016) hh8 (bn1 p2 (by simp)) (by decide)) (by decide)) .nil))) ht
 have bn3 : QL (Rat.divInt t0 t2) 200018 := (qO (n := 200018) (Nat.le_trans (kZ.ln (bn2 t0 (by simp))) (by decide)) (Nat.le_trans (kZ.ln (bn2 t2 (by simp))) (by decide)) (by decide))
 have bn4 : QL (Rat.divInt t1 t2) 200018 := (qO (n := 200018) (Nat.le_trans (kZ.ln (bn2 t1 (by simp))) (by decide)) (Nat.le_trans (kZ.ln (bn2 t2 (by simp))) (by decide)) (by decide))
 refine kd [(5, (vb true))] [(2, some (bx (kI (qI.mk (jC (Rat.divInt t0 t2)) (jC (Rat.divInt t1 t2))))))] mo (wR (kA mI) <| wR (kA nH) <| wE (kC (l_point u v (qu hu) (qu hv) p0 p1 p2 hp hnp)) <| wE (kC (l_applyB h h0 h1 h2 h3 h4 h5 h6 h7 h8 hh0 hh1 hh2 hh3 hh4 hh5 hh6 hh7 hh8 (A3.mk (jK p0) (jK p1) (jK p2)) p0 p1 p2 (qJ (bn1 p0 (by simp)) (by decide)) (qJ (bn1 p1 (by simp)) (by decide)) (qJ (bn1 p2 (by simp)) (by decide)) t0 t1 t2 ht hnt)) <| wE (kC (l_placeO (A3.mk (jK t0) (jK t1) (jK t2)) t0 t1 t2 (qJ (bn2 t0 (by simp)) (by decide)) (qJ (bn2 t1 (by simp)) (by decide)) (qJ (bn2 t2 (by simp)) (by decide)) ht2)) <| wE uH <| wE uH <| wT (kR nH) <| wM <| wZ) ?_
 refine jG ⟨_, (qB (cs := (bx (kI (qI.mk (jC (Rat.divInt t0 t2)) (jC (Rat.divInt t1 t2)))))) (d := (kI (qI.mk (jC (Rat.divInt t0 t2)) (jC (Rat.divInt t1 t2))))) rfl rfl nH rfl rfl (.tmp (d := (.val (.bool (true)))) rfl .nil)), ?_⟩
 rfl
theorem q_homE1 (lx ly lz la lb lc ld lf lu lv rx ry rz ra rb rc rd rf ru rv : Int) (right : Bool) (c : Nat) (hc : stn2 (uL lx ly lz lu lv lf la lb lc ld) (uL rx ry rz ru rv rf ra rb rc rd) = c) (hc0 : c ≠ 0) : kF Tryz.prog 51 [(qP (kY.mk (kJ.mk (jT.mk lx ly lz) (jN.mk la lb lc ld) lf (kM.mk lu lv)) (kJ.mk (jT.mk rx ry rz) (jN.mk ra rb rc rd) rf (kM.mk ru rv)))), (.val (.bool (right)))] (.tup [(qL (A9.mk (jF.mk false []) (jF.mk false []) (jF.mk false []) (jF.mk false []) (jF.mk false []) (jF.mk false []) (jF.mk false []) (jF.mk false []) (jF.mk false []))), (.val (.int .i64 (((c : Nat) : Int))))]) := by
 let y2 := (qP (kY.mk (kJ.mk (jT.mk lx ly lz) (jN.mk la lb lc ld) lf (kM.mk lu lv)) (kJ.mk (jT.mk rx ry rz) (jN.mk ra rb rc rd) rf (kM.mk ru rv))))
 let y1 := (bx (qL (A9.mk (jF.mk false []) (jF.mk false []) (jF.mk false []) (jF.mk false []) (jF.mk false []) (jF.mk false []) (jF.mk false []) (jF.mk false []) (jF.mk false []))))
 refine jL Tryz.func51 rfl cb51 rfl ?_
 show uK _ _ _ _ ⟨[(0, (.d y2)), (1, (vb right))], []⟩
 refine jA <| kx [(2, (.ref 0 0)), (4, (.ref 1 0))] [(0, some (bx y2)), (1, some y1)] (zN (uX 0) <| zN (qH 1 ze98 zo98) <| zM <| zZ) ?_
 refine jA <| kx [(6, (.d (.val (.pointer none)))), (7, (kE c))] [] (zR (kA bQ) <| zE (kC (q_recE1 lx ly lz la lb lc ld lf lu lv rx ry rz ra rb rc rd rf ru rv c hc hc0)) <| zM <| zE uH <| zE uH <| zM <| zM <| zZ) ?_
 refine jA <| jA <| kx [(15, (vb true))] [] (zM <| zE (qY true mR (by exact bne_iff_ne.2 (by have hx := hc0; omega))) <| zZ) ?_
 refine kD ?_
 refine jA <| kx [(5, (kE c))] [(1, some y1)] (zE (oBa yY ze98 zo98) <| zM <| zT (kR mI) <| zM <| zZ) ?_
 refine jG ⟨_, (qB (cs := (bx (qL (A9.mk (jF.mk false []) (jF.mk false []) (jF.mk false []) (jF.mk false []) (jF.mk false []) (jF.mk false []) (jF.mk false []) (jF.mk false []) (jF.mk false []))))) (d := (qL (A9.mk (jF.mk false []) (jF.mk false []) (jF.mk false []) (jF.mk false []) (jF.mk false []) (jF.mk false []) (jF.mk false []) (jF.mk false []) (jF.mk false [])))) rfl rfl mI rfl rfl (.tmp (d := (.val (.int .i64 (((c : Nat) : Int))))) rfl .nil)), ?_⟩
 rfl
theorem q_homE2 (lx ly lz la lb lc ld lf lu lv rx ry rz ra rb rc rd rf ru rv : Int) (right : Bool) (b0 b1 b2 : Rat) (zW : QL b0 3) (zV : QL b1 3) (zU : QL b2 3) (hl : uL lx ly lz lu lv lf la lb lc ld = 0) (hr : uL rx ry rz ru rv rf ra rb rc rd = 0) (hb0 : ((rx - lx : Int) : Rat) = b0) (hb1 : ((ry - ly : Int) : Rat) = b1) (hb2 : ((rz - lz : Int) : Rat) = b2) (hup : upV la lb lc ld ra rb rc rd b0 b1 b2 = true) : kF Tryz.prog 51 [(qP (kY.mk (kJ.mk (jT.mk lx ly lz) (jN.mk la lb lc ld) lf (kM.mk lu lv)) (kJ.mk (jT.mk rx ry rz) (jN.mk ra rb rc rd) rf (kM.mk ru rv)))), (.val (.bool (right)))] (.tup [(qL (A9.mk (jF.mk false []) (jF.mk false []) (jF.mk false []) (jF.mk false []) (jF.mk false []) (jF.mk false []) (jF.mk false []) (jF.mk false []) (jF.mk false []))), (.val (.int .i64 (13)))]) := by
 let y2 := (qP (kY.mk (kJ.mk (jT.mk lx ly lz) (jN.mk la lb lc ld) lf (kM.mk lu lv)) (kJ.mk (jT.mk rx ry rz) (jN.mk ra rb rc rd) rf (kM.mk ru rv))))
 let y1 := (bx (qL (A9.mk (jF.mk false []) (jF.mk false []) (jF.mk false []) (jF.mk false []) (jF.mk false []) (jF.mk false []) (jF.mk false []) (jF.mk false []) (jF.mk false []))))
 refine jL Tryz.func51 rfl cb51 rfl ?_
 show uK _ _ _ _ ⟨[(0, (.d y2)), (1, (vb right))], []⟩
 refine jA <| kx [(2, (.ref 0 0)), (4, (.ref 1 0))] [(0, some (bx y2)), (1, some y1)] (zN (uX 0) <| zN (qH 1 ze98 zo98) <| zM <| zZ) ?_
 refine jA <| kx [(6, (.d (.val (.pointer none)))), (7, (vi 13))] [] (zR (kA bQ) <| zE (kC (q_recE2 lx ly lz la lb lc ld lf lu lv rx ry rz ra rb rc rd rf ru rv b0 b1 b2 zW zV zU hl hr hb0 hb1 hb2 hup)) <| zM <| zE uH <| zE uH <| zM <| zM <| zZ) ?_
 refine jA <| jA <| kx [(15, (vb true))] [] (zM <| zE mR <| zZ) ?_
 refine kD ?_
 refine jA <| kx [(5, (vi 13))] [(1, some y1)] (zE (oBa yY ze98 zo98) <| zM <| zT (kR mI) <| zM <| zZ) ?_
 refine jG ⟨_, (qB (cs := (bx (qL (A9.mk (jF.mk false []) (jF.mk false []) (jF.mk false []) (jF.mk false []) (jF.mk false []) (jF.mk false []) (jF.mk false []) (jF.mk false []) (jF.mk false []))))) (d := (qL (A9.mk (jF.mk false []) (jF.mk false []) (jF.mk false []) (jF.mk false []) (jF.mk false []) (jF.mk false []) (jF.mk false []) (jF.mk false []) (jF.mk false [])))) rfl rfl mI rfl rfl (.tmp (d := (.val (.int .i64 (13)))) rfl .nil)), ?_⟩
 rfl
theorem q_hom (lx ly lz la lb lc ld lf lu lv rx ry rz ra rb rc rd rf ru rv : Int) (right : Bool) (b0 b1 b2 e00 e01 e02 e10 e11 e12 e20 e21 e22 : Rat) (hF : RFr lx ly lz la lb lc ld rx ry rz ra rb rc rd b0 b1 b2 e00 e01 e02 e10 e11 e12 e20 e21 e22) (zW : QL b0 3) (zV : QL b1 3) (zU : QL b2 3) (vF : QL e00 400) (vG : QL e01 400) (vE : QL e02 400) (vL : QL e10 400) (vM : QL e11 400) (vN : QL e12 400) (vA : QL e20 400) (vB : QL e21 400) (vC : QL e22 400) (tx ty tz ta tb tc td tf tu tv : Int) (x00 : Rat) (dW : (jM (gD ta tb tc td) (gK ta tb tc td) (gO ta tb tc td) e00 e01 e02) = x00) (x01 : Rat) (dS : (jM (gE ta tb tc td) (gJ ta tb tc td) (gP ta tb tc td) e00 e01 e02) = x01) (x02 : Rat) (dP : (jM (zJ ta tb tc td) (yA ta tb tc td) (yB ta tb tc td) e00 e01 e02) = x02) (x10 : Rat) (dU : (jM (gD ta tb tc td) (gK ta tb tc td) (gO ta tb tc td) e10 e11 e12) = x10) (x11 : Rat) (dT : (jM (gE ta tb tc td) (gJ ta tb tc td) (gP ta tb tc td) e10 e11 e12) = x11) (x12 : Rat) (dR : (jM (zJ ta tb tc td) (yA ta tb tc td) (yB ta tb tc td) e10 e11 e12) = x12) (x20 : Rat) (dQ : (jM (gD ta tb tc td) (gK ta tb tc td) (gO ta tb tc td) e20 e21 e22) = x20) (x21 : Rat) (dN : (jM (gE ta tb tc td) (gJ ta tb tc td) (gP ta tb tc td) e20 e21 e22) = x21) (x22 : Rat) (dV : (jM (zJ ta tb tc td) (yA ta tb tc td) (yB ta tb tc td) e20 e21 e22) = x22) (a00 : Rat) (mB : (jM ((1 : Int) : Rat) ((0 : Int) : Rat) ((0 : Int) : Rat) x00 x01 x02) = a00) (a01 : Rat) (mD : (jM ((0 : Int) : Rat) ((1 : Int) : Rat) ((0 : Int) : Rat) x00 x01 x02) = a01) (a02 : Rat) (mC : (jM ((-tu : Int) : Rat) ((-tv : Int) : Rat) ((tf : Int) : Rat) x00 x01 x02) = a02) (a10 : Rat) (nW : (jM ((1 : Int) : Rat) ((0 : Int) : Rat) ((0 : Int) : Rat) x10 x11 x12) = a10) (a11 : Rat) (mE : (jM ((0 : Int) : Rat) ((1 : Int) : Rat) ((0 : Int) : Rat) x10 x11 x12) = a11) (a12 : Rat) (nY : (jM ((-tu : Int) : Rat) ((-tv : Int) : Rat) ((tf : Int) : Rat) x10 x11 x12) = a12) (a20 : Rat) (nX : (jM ((1 : Int) : Rat) ((0 : Int) : Rat) ((0 : Int) : Rat) x20 x21 x22) = a20) (a21 : Rat) (mA : (jM ((0 : Int) : Rat) ((1 : Int) : Rat) ((0 : Int) : Rat) x20 x21 x22) = a21) (a22 : Rat) (nZ : (jM ((-tu : Int) : Rat) ((-tv : Int) : Rat) ((tf : Int) : Rat) x20 x21 x22) = a22) (k0 : Int) (hk0 : (1 * (a00.den : Int)) = k0) (k1 : Int) (hk1 : (k0 * (a01.den : Int)) = k1) (k2 : Int) (hk2 : (k1 * (a02.den : Int)) = k2) (k3 : Int) (hk3 : (k2 * (a10.den : Int)) = k3) (k4 : Int) (hk4 : (k3 * (a11.den : Int)) = k4) (k5 : Int) (hk5 : (k4 * (a12.den : Int)) = k5) (k6 : Int) (hk6 : (k5 * (a20.den : Int)) = k6) (k7 : Int) (hk7 : (k6 * (a21.den : Int)) = k7) (k8 : Int) (hk8 : (k7 * (a22.den : Int)) = k8) (v0 : Int) (hv0 : ((k8.fdiv (a00.den : Int)) * a00.num) = v0) (v1 : Int) (hv1 : ((k8.fdiv (a01.den : Int)) * a01.num) = v1) (v2 : Int) (hv2 : ((k8.fdiv (a02.den : Int)) * a02.num) = v2) (v3 : Int) (hv3 : ((k8.fdiv (a10.den : Int)) * a10.num) = v3) (v4 : Int) (hv4 : ((k8.fdiv (a11.den : Int)) * a11.num) = v4) (v5 : Int) (hv5 : ((k8.fdiv (a12.den : Int)) * a12.num) = v5) (v6 : Int) (hv6 : ((k8.fdiv (a20.den : Int)) * a20.num) = v6) (v7 : Int) (hv7 : ((k8.fdiv (a21.den : Int)) * a21.num) = v7) (v8 : Int) (hv8 : ((k8.fdiv (a22.den : Int)) * a22.num) = v8) (c0 c1 c2 c3 c4 c5 c6 c7 c8 : Int) (hc : xB [v0, v1, v2, v3, v4, v5, v6, v7, v8] = [c0, c1, c2, c3, c4, c5, c6, c7, c8]) (hl : uL lx ly lz lu lv lf la lb lc ld = 0) (hr : uL rx ry rz ru rv rf ra rb rc rd = 0) (hup : upV la lb lc ld ra rb rc rd b0 b1 b2 = false) (hsd : (bif right then (kJ.mk (jT.mk rx ry rz) (jN.mk ra rb rc rd) rf (kM.mk ru rv)) else (kJ.mk (jT.mk lx ly lz) (jN.mk la lb lc ld) lf (kM.mk lu lv))) = (kJ.mk (jT.mk tx ty tz) (jN.mk ta tb tc td) tf (kM.mk tu tv))) (hst : uL tx ty tz tu tv tf ta tb tc td = 0) (hnz : vK [v0, v1, v2, v3, v4, v5, v6, v7, v8] ≠ 0) (hdv : qX (gN v0 v1 v2 v3 v4 v5 v6 v7 v8) ≠ 0) : kF Tryz.prog 51 [(qP (kY.mk (kJ.mk (jT.mk lx ly lz) (jN.mk la lb lc ld) lf (kM.mk lu lv)) (kJ.mk (jT.mk rx ry rz) (jN.mk ra rb rc rd) rf (kM.mk ru rv)))), (.val (.bool (right)))] (.tup [(qL (A9.mk (jK c0) (jK c1) (jK c2) (jK c3) (jK c4) (jK c5) (jK c6) (jK c7) (jK c8))), (.val (.int .i64 (0)))]) := by
 have hbl := xF hl
 have hbr := xF hr
 obtain ⟨hlx, hly, hlz, hlu, hlv, hlf, hlq⟩ := hbl
 obtain ⟨hrx, hry, hrz, hru, hrv, hrf, hrq⟩ := hbr
 obtain ⟨hla, hlb, hlc, hld, -⟩ := xG hlq
 obtain ⟨hra, hrb, hrc, hrd, -⟩ := xG hrq
 have hnl := nA hla hlb hlc hld
 have hnr := nA hra hrb hrc hrd
 have hz0 := fr_z0 hF hup
 have hz1 := fr_z1 hF hup
 have hz2 := fr_z2 hF hup
 obtain ⟨htx, hty, htz, htu, htv, htf, htq⟩ := xF hst
 obtain ⟨hta, htb, htc, htd, -⟩ := xG htq
 have hnt := nA hta htb htc htd
 let y1 := (qP (kY.mk (kJ.mk (jT.mk lx ly lz) (jN.mk la lb lc ld) lf (kM.mk lu lv)) (kJ.mk (jT.mk rx ry rz) (jN.mk ra rb rc rd) rf (kM.mk ru rv))))
 refine jL Tryz.func51 rfl cb51 rfl ?_
 show uK _ _ _ _ ⟨[(0, (.d y1)), (1, (vb right))], []⟩
 refine jA <| kx [(2, (.ref 0 0)), (4, (.ref 1 0))] [(0, some (bx y1)), (1, some (bx (qL (A9.mk (jF.mk false []) (jF.mk false []) (jF.mk false []) (jF.mk false []) (jF.mk false []) (jF.mk false []) (jF.mk false []) (jF.mk false []) (jF.mk false [])))))] (zN (uX 0) <| zN (qH 1 ze98 zo98) <| zM <| zZ) ?_
 refine jA <| kx [(6, (.d (.cptr 1000001 (qF.cells (eG (RRp.mk (kJ.mk (jT.mk lx ly lz) (jN.mk la lb lc ld) lf (kM.mk lu lv)) (kJ.mk (jT.mk rx ry rz) (jN.mk ra rb rc rd) rf (kM.mk ru rv)) (A3.mk (jC b0) (jC b1) (jC b2)) (A3.mk (A3.mk (jC e00) (jC e01) (jC e02)) (A3.mk (jC e10) (jC e11) (jC e12)) (A3.mk (jC e20) (jC e21) (jC e22)))))) 0))), (7, (vi 0))] [] (zR (kA bQ) <| zE (kC (q_rec lx ly lz la lb lc ld lf lu lv rx ry rz ra rb rc rd rf ru rv b0 b1 b2 e00 e01 e02 e10 e11 e12 e20 e21 e22 hF zW zV zU vF vG vE vL vM vN vA vB vC hl hr hup)) <| zM <| zE uH <| zE uH <| zM <| zM <| zZ) ?_
 refine jA <| jA <| kx [(15, (vb false))] [] (zM <| zE mR <| zZ) ?_
 refine kO ?_
 refine jD <| jA <| kx [(8, (.ref 2 0))] [(2, some (bx (uZ (kJ.mk (jT.mk tx ty tz) (jN.mk ta tb tc td) tf (kM.mk tu tv)))))] (zM <| zM <| zE (kC (q_side lx ly lz la lb lc ld lf lu lv rx ry rz ra rb rc rd rf ru rv b0 b1 b2 e00 e01 e02 e10 e11 e12 e20 e21 e22 zW zV zU vF vG vE vL vM vN vA vB vC right tx ty tz ta tb tc td tf tu tv hsd)) <| zN (qH 2 aZ bE) <| zT (kR xX) <| zZ) ?_
 refine jA ?_
 have bn1 : QL (gD ta tb tc td) 3 := (fM)
 have bn2 : QL (gE ta tb tc td) 3 := (fO)
 have bn3 : QL (zJ ta tb tc td) 3 := (fJ)
 have bn4 : QL (gK ta tb tc td) 3 := (eZ)
 have bn5 : QL (gJ ta tb tc td) 3 := (fG)
 have bn6 : QL (yA ta tb tc td) 3 := (fA)
 have bn7 : QL (gO ta tb tc td) 3 := (fH)
 have bn8 : QL (gP ta tb tc td) 3 := (fP)
 have bn9 : QL (yB ta tb tc td) 3 := (fF)
 have bn10 : QL x00 2402 := (jX (Eq.symm dW) (jR (n := 400) (k := 2402) (qu bn1) (qu bn4) (qu bn7) vF vG vE (by decide)))
 have bn11 : QL x01 2402 := (jX (Eq.symm dS) (jR (n := 400) (k := 2402) (qu bn2) (qu bn5) (qu bn8) vF vG vE (by decide)))
 have bn12 : QL x02 2402 := (jX (Eq.symm dP) (jR (n := 400) (k := 2402) (qu bn3) (qu bn6) (qu bn9) vF vG vE (by decide)))
 have bn13 : QL x10 2402 := (jX (Eq.symm dU) (jR (n := 400) (k := 2402) (qu bn1) (qu bn4) (qu bn7) vL vM vN (by decide)))
 have bn14 : QL x11 2402 := (jX (Eq.symm dT) (jR (n := 400) (k := 2402) (qu bn2) (qu bn5) (qu bn8) vL vM vN (by decide)))
 have bn15 : QL x12 2402 := (jX (Eq.symm dR) (jR (n := 400) (k := 2402) (qu bn3) (qu bn6) (qu bn9) vL vM vN (by decide)))
 have bn16 : QL x20 2402 := (jX (Eq.symm dQ) (jR (n := 400) (k := 2402) (qu bn1) (qu bn4) (qu bn7) vA vB vC (by decide)))
 have bn17 : QL x21 2402 := (jX (Eq.symm dN) (jR (n := 400) (k := 2402) (qu bn2) (qu bn5) (qu bn8) vA vB vC (by decide)))
 have bn18 : QL x22 2402 := (jX (Eq.symm dV) (jR (n := 400) (k := 2402) (qu bn3) (qu bn6) (qu bn9) vA vB vC (by decide)))
 have bn19 : QL ((1 : Int) : Rat) 3 := (qi 1)
 have bn20 : QL ((0 : Int) : Rat) 3 := (qi 0)
 have bn21 : QL ((-tu : Int) : Rat) 3 := (qi (-tu))
 have bn22 : QL ((-tv : Int) : Rat) 3 := (qi (-tv))
 have bn23 : QL ((tf : Int) : Rat) 3 := (qi tf)
 have bn24 : QL a00 14414 := (jX (Eq.symm mB) (jR (n := 2402) (k := 14414) (qu bn19) (qu bn20) (qu bn20) bn10 bn11 bn12 (by decide)))
 have bn25 : QL a01 14414 := (jX (Eq.symm mD) (jR (n := 2402) (k := 14414) (qu bn20) (qu bn19) (qu bn20) bn10 bn11 bn12 (by decide)))
 have bn26 : QL a02 14414 := (jX (Eq.symm mC) (jR (n := 2402) (k := 14414) (qu bn21) (qu bn22) (qu bn23) bn10 bn11 bn12 (by decide)))
 have bn27 : QL a10 14414 := (jX (Eq.symm nW) (jR (n := 2402) (k := 14414) (qu bn19) (qu bn20) (qu bn20) bn13 bn14 bn15 (by decide)))
 have bn28 : QL a11 14414 := (jX (Eq.symm mE) (jR (n := 2402) (k := 14414) (qu bn20) (qu bn19) (qu bn20) bn13 bn14 bn15 (by decide)))
 have bn29 : QL a12 14414 := (jX (Eq.symm nY) (jR (n := 2402) (k := 14414) (qu bn21) (qu bn22) (qu bn23) bn13 bn14 bn15 (by decide)))
 have bn30 : QL a20 14414 := (jX (Eq.symm nX) (jR (n := 2402) (k := 14414) (qu bn19) (qu bn20) (qu bn20) bn16 bn17 bn18 (by decide)))
 have bn31 : QL a21 14414 := (jX (Eq.symm mA) (jR (n := 2402) (k := 14414) (qu bn20) (qu bn19) (qu bn20) bn16 bn17 bn18 (by decide)))
 have bn32 : QL a22 14414 := (jX (Eq.symm nZ) (jR (n := 2402) (k := 14414) (qu bn21) (qu bn22) (qu bn23) bn16 bn17 bn18 (by decide)))
 have bn33 : kZ (jK k0) k0 14415 := (kT hk0.symm (jP (k := 14415) (yI (z := 1) (by decide)) (jW bn24) (by decide)))
 have bn34 : kZ (jK k1) k1 28829 := (kT hk1.symm (jP (k := 28829) bn33 (jW bn25) (by decide)))
 have bn35 : kZ (jK k2) k2 43243 := (kT hk2.symm (jP (k := 43243) bn34 (jW bn26) (by decide)))
 have bn36 : kZ (jK k3) k3 57657 := (kT hk3.symm (jP (k := 57657) bn35 (jW bn27) (by decide)))
 have bn37 : kZ (jK k4) k4 72071 := (kT hk4.symm (jP (k := 72071) bn36 (jW bn28) (by decide)))
 have bn38 : kZ (jK k5) k5 86485 := (kT hk5.symm (jP (k := 86485) bn37 (jW bn29) (by decide)))
 have bn39 : kZ (jK k6) k6 100899 := (kT hk6.symm (jP (k := 100899) bn38 (jW bn30) (by decide)))
 have bn40 : kZ (jK k7) k7 115313 := (kT hk7.symm (jP (k := 115313) bn39 (jW bn31) (by decide)))
 have bn41 : kZ (jK k8) k8 129727 := (kT hk8.symm (jP (k := 129727) bn40 (jW bn32) (by decide)))
 have bn42 : kZ (jK v0) v0 144142 := (kT hv0.symm (jP (k := 144142) (qW (k := 129728) bn41 (jW bn24) (by decide)) (kN bn24) (by decide)))
 have bn43 : kZ (jK v1) v1 144142 := (kT hv1.symm (jP (k := 144142) (qW (k := 129728) bn41 (jW bn25) (by decide)) (kN bn25) (by decide)))
 have bn44 : kZ (jK v2) v2 144142 := (kT hv2.symm (jP (k := 144142) (qW (k := 129728) bn41 (jW bn26) (by decide)) (kN bn26) (by decide)))
 have bn45 : kZ (jK v3) v3 144142 := (kT hv3.symm (jP (k := 144142) (qW (k := 129728) bn41 (jW bn27) (by decide)) (kN bn27) (by decide)))
 have bn46 : kZ (jK v4) v4 144142 := (kT hv4.symm (jP (k := 144142) (qW (k := 129728) bn41 (jW bn28) (by decide)) (kN bn28) (by decide)))
 have bn47 : kZ (jK v5) v5 144142 := (kT hv5.symm (jP (k := 144142) (qW (k := 129728) bn41 (jW bn29) (by decide)) (kN bn29) (by decide)))
 have bn48 : kZ (jK v6) v6 144142 := (kT hv6.symm (jP (k := 144142) (qW (k := 129728) bn41 (jW bn30) (by decide)) (kN bn30) (by decide)))
 have bn49 : kZ (jK v7) v7 144142 := (kT hv7.symm (jP (k := 144142) (qW (k := 129728) bn41 (jW bn31) (by decide)) (kN bn31) (by decide)))
 have bn50 : kZ (jK v8) v8 144142 := (kT hv8.symm (jP (k := 144142) (qW (k := 129728) bn41 (jW bn32) (by decide)) (kN bn32) (by decide)))
 have bn51 : ∀ c ∈ [c0, c1, c2, c3, c4, c5, c6, c7, c8], kZ (jK c) c 144142 := mZ (n := 144142) (.cons bn42 (.cons bn43 (.cons bn44 (.cons bn45 (.cons bn46 (.cons bn47 (.cons bn48 (.cons bn49 (.cons bn50 .nil))))))))) hc
 refine kd [(5, (vi 0))] [(1, some (bx (qL (A9.mk (jK c0) (jK c1) (jK c2) (jK c3) (jK c4) (jK c5) (jK c6) (jK c7) (jK c8)))))] mo (wM <| wE oNd <| wE (oFc cW) <| wE (gZ hC) <| wE (kU gF) <| wR (kA yO) <| wE (kC (q_turn ta tb tc td (by omega) (by omega) (by omega) (by omega) htq)) <| wE (kC (by have h := q_mul e00 e01 e02 e10 e11 e12 e20 e21 e22 (qu vF) (qu vG) (qu vE) (qu vL) (qu vM) (qu vN) (qu vA) (qu vB) (qu vC) (gD ta tb tc td) (gE ta tb tc td) (zJ ta tb tc td) (gK ta tb tc td) (gJ ta tb tc td) (yA ta tb tc td) (gO ta tb tc td) (gP ta tb tc td) (yB ta tb tc td) (qu bn1) (qu bn2) (qu bn3) (qu bn4) (qu bn5) (qu bn6) (qu bn7) (qu bn8) (qu bn9); rw [dW, dS, dP, dU, dT, dR, dQ, dN, dV] at h; exact h)) <| wR (kA xX) <| wE (kC (q_inner tx ty tz ta tb tc td tf tu tv (by omega) (by omega) (by omega))) <| wE (kC (by have h := q_mul x00 x01 x02 x10 x11 x12 x20 x21 x22 (qu bn10) (qu bn11) (qu bn12) (qu bn13) (qu bn14) (qu bn15) (qu bn16) (qu bn17) (qu bn18) ((1 : Int) : Rat) ((0 : Int) : Rat) ((-tu : Int) : Rat) ((0 : Int) : Rat) ((1 : Int) : Rat) ((-tv : Int) : Rat) ((0 : Int) : Rat) ((0 : Int) : Rat) ((tf : Int) : Rat) (qu bn19) (qu bn20) (qu bn21) (qu bn20) (qu bn19) (qu bn22) (qu bn20) (qu bn20) (qu bn23); rw [mB, mD, mC, nW, mE, nY, nX, mA, nZ] at h; exact h)) <| wE (kC (q_tmat a00 a01 a02 a10 a11 a12 a20 a21 a22 (qu bn24) (qu bn25) (qu bn26) (qu bn27) (qu bn28) (qu bn29) (qu bn30) (qu bn31) (qu bn32))) <| wE (kC (d_ofC a00 a01 a02 a10 a11 a12 a20 a21 a22 (qu bn24) (qu bn25) (qu bn26) (qu bn27) (qu bn28) (qu bn29) (qu bn30) (qu bn31) (qu bn32) k0 hk0 k1 hk1 k2 hk2 k3 hk3 k4 hk4 k5 hk5 k6 hk6 k7 hk7 k8 hk8 v0 hv0 v1 hv1 v2 hv2 v3 hv3 v4 hv4 v5 hv5 v6 hv6 v7 hv7 v8 hv8 c0 c1 c2 c3 c4 c5 c6 c7 c8 hc hnz hdv)) <| wE uH <| wE uH <| wT (kR mI) <| wM <| wZ) ?_
 refine jG ⟨_, (qB (cs := (bx (qL (A9.mk (jK c0) (jK c1) (jK c2) (jK c3) (jK c4) (jK c5) (jK c6) (jK c7) (jK c8))))) (d := (qL (A9.mk (jK c0) (jK c1) (jK c2) (jK c3) (jK c4) (jK c5) (jK c6) (jK c7) (jK c8)))) rfl rfl mI rfl rfl (.tmp (d := (.val (.int .i64 (0)))) rfl .nil)), ?_⟩
 rfl
end Go.Proofs.YtbecgnplakngdaaGreat
