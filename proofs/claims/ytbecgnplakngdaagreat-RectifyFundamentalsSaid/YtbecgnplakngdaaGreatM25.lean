/- Part 25 of a proof: rules, plain facts, and functions walked. -/
import Derived.Test.YtbecgnplakngdaaGreatM24
namespace Go.Proofs.YtbecgnplakngdaaGreat
open Go.Fid
set_option maxRecDepth 4000
set_option linter.unusedVariables false
set_option linter.unusedSimpArgs false
theorem cb69 : callB Tryz.prog 69 = true := by kernel_rfl
theorem cb71 : callB Tryz.prog 71 = true := by kernel_rfl
theorem cb75 : callB Tryz.prog 75 = true := by kernel_rfl
theorem cb76 : callB Tryz.prog 76 = true := by kernel_rfl
theorem cb79 : callB Tryz.prog 79 = true := by kernel_rfl
theorem cb80 : callB Tryz.prog 80 = true := by kernel_rfl
theorem cb82 : callB Tryz.prog 82 = true := by kernel_rfl
theorem cb125 : callB Tryz.prog 125 = true := by kernel_rfl
theorem cb127 : callB Tryz.prog 127 = true := by kernel_rfl
theorem cb128 : callB Tryz.prog 128 = true := by kernel_rfl
theorem yH : xH Tryz.prog 23 0 = some 0 := by kernel_rfl
theorem yT : xH Tryz.prog 23 1 = some 1 := by kernel_rfl
theorem yV : xH Tryz.prog 23 2 = some 2 := by kernel_rfl
theorem fo27_0 : xH Tryz.prog 27 0 = some 0 := by kernel_rfl
theorem fo27_1 : xH Tryz.prog 27 1 = some 1 := by kernel_rfl
theorem yC : xH Tryz.prog 29 0 = some 0 := by kernel_rfl
theorem yW : xH Tryz.prog 29 1 = some 3 := by kernel_rfl
theorem fo29_2 : xH Tryz.prog 29 2 = some 7 := by kernel_rfl
theorem bN : xH Tryz.prog 29 3 = some 8 := by kernel_rfl
theorem yB : qY Tryz.prog 52 = some (false, 1) := by kernel_rfl
theorem q_turn (a b c d : Int) (ha : -1048576 ≤ a ∧ a ≤ 1048576) (hb : -1048576 ≤ b ∧ b ≤ 1048576) (hc : -1048576 ≤ c ∧ c ≤ 1048576) (hd : -1048576 ≤ d ∧ d ≤ 1048576) (hq : gX a b c d = 0) : kH Tryz.prog 69 [(qX (jU.mk a b c d))] (qM (A3.mk (A3.mk (jB (uY a b c d)) (jB (vA a b c d)) (jB (qN a b c d))) (A3.mk (jB (vD a b c d)) (jB (vC a b c d)) (jB (qO a b c d))) (A3.mk (jB (vH a b c d)) (jB (vG a b c d)) (jB (qQ a b c d))))) := by
 have hn0 := nq_ne hq
 have hnq := nU ha hb hc hd
 let y4 := (A3.mk (kC.mk (jK.mk false []) (jK.mk false [])) (kC.mk (jK.mk false []) (jK.mk false [])) (kC.mk (jK.mk false []) (jK.mk false [])))
 let y3 := (bx (qM (A3.mk (A3.mk (jB (uY a b c d)) (jB (vA a b c d)) (jB (qN a b c d))) (A3.mk (jB (vD a b c d)) (jB (vC a b c d)) (jB (qO a b c d))) (A3.mk (jB (vH a b c d)) (jB (vG a b c d)) (jB (qQ a b c d))))))
 let y2 := (bx (qM (A3.mk (A3.mk (jB (uY a b c d)) (jB (vA a b c d)) (jB (qN a b c d))) (A3.mk (jB (vD a b c d)) (jB (vC a b c d)) (jB (qO a b c d))) y4)))
 let y1 := (bx (qM (A3.mk y4 y4 y4)))
 refine jP Tryz.func69 rfl cb69 rfl ?_
 show uK _ _ _ _ ⟨[(0, (.d (qX (jU.mk a b c d))))], []⟩
 refine jA <| kx [(1, (.ref 0 0)), (2, (.ref 1 0))] [(0, some (bx (qX (jU.mk a b c d)))), (1, some y1)] (zN (vS 0) <| zN (qW 1 fC fE) <| zZ) ?_
 refine jA ?_
 have bn1 : QL (Q00 a b c d) 3 := (kQ00)
 have bn2 : QL (Q01 a b c d) 3 := (kQ01)
 have bn3 : QL (Q02 a b c d) 3 := (kQ02)
 have bn4 : QL (Q10 a b c d) 3 := (kQ10)
 have bn5 : QL (Q11 a b c d) 3 := (kQ11)
 have bn6 : QL (Q12 a b c d) 3 := (kQ12)
 have bn7 : QL (Q20 a b c d) 3 := (kQ20)
 have bn8 : QL (Q21 a b c d) 3 := (kQ21)
 have bn9 : QL (Q22 a b c d) 3 := (kQ22)
 refine kx [(3, (vl 52 1 jN [[(jB (Q00 a b c d)), (jB (Q01 a b c d)), (jB (Q02 a b c d))], [(jB (Q10 a b c d)), (jB (Q11 a b c d)), (jB (Q12 a b c d))], [(jB (Q20 a b c d)), (jB (Q21 a b c d)), (jB (Q22 a b c d))]]))] [] (zR (kF yF) <| zE (kA (q_rmat a b c d (by omega) (by omega) (by omega) (by omega) hq hn0)) <| zM <| zE uZ <| zE uZ <| zM <| zM <| zZ) ?_
 refine jA ?_
 have bn10 : QL (N4 a b c d) 3 := (jH (Eq.symm (show ((nq a b c d : Int) : Rat) = N4 a b c d from rfl)) (kV (z := (nq a b c d)) (jQ (by omega) (by omega)) (by decide)))
 refine kx [(5, (.ref 2 0))] [(2, some (bx (jM (jB (N4 a b c d)))))] (zR (kF yF) <| zE (kA (q_norm a b c d (by omega) (by omega) (by omega) (by omega))) <| zE (kA (by have h := eU (nq a b c d) (by omega) (by omega); rw [(show ((nq a b c d : Int) : Rat) = N4 a b c d from rfl)] at h; exact h)) <| zN (qW 2 qA qH) <| zT (kW jO) <| zZ) ?_
 refine jA <| kx [(6, (.ref 3 0))] [(3, some y1)] (zN (qW 3 fC fE) <| zZ) ?_
 refine jA <| jA <| kx [(16, (kD 0))] [] (zM <| zZ) ?_
 refine jF <| kN 20 ?_
 refine kU <| jA <| kx [(17, (vb true))] [] (zE (qL true qI) <| zZ) ?_
 refine jA <| jS ?_
 refine jE <| jA <| jF <| jA <| kx [(7, (kD 0))] [] (zM <| zM <| zZ) ?_
 have bn11 : QL (uY a b c d) 6 := (jH (Eq.symm (Q00_n (a := a) (b := b) (c := c) (d := d) hn0)) (jD (k := 6) bn1 bn10 (by decide)))
 have bn12 : QL (vA a b c d) 6 := (jH (Eq.symm (Q01_n (a := a) (b := b) (c := c) (d := d) hn0)) (jD (k := 6) bn2 bn10 (by decide)))
 have bn13 : QL (qN a b c d) 6 := (jH (Eq.symm (Q02_n (a := a) (b := b) (c := c) (d := d) hn0)) (jD (k := 6) bn3 bn10 (by decide)))
 refine kd [] [(3, some (bx (qM (A3.mk (A3.mk (jB (uY a b c d)) (jB (vA a b c d)) (jB (qN a b c d))) y4 y4))))] mo (wM <| wM <| wM <| wE (vM kZ 0) <| wE (xX yB) <| wE (vM qF 0) <| wE (nL jO) <| wM <| wM <| wE (vM kZ 0) <| wE (xX yB) <| wE (vM qF 1) <| wE (nL jO) <| wM <| wM <| wE (vM kZ 0) <| wE (xX yB) <| wE (vM qF 2) <| wE (nL jO) <| wE (oBf uD dG dJ) <| wR (kF jO) <| wE (kA (by have h := fF (Q00 a b c d) (Q01 a b c d) (Q02 a b c d) (qu bn1) (qu bn2) (qu bn3) (N4 a b c d) (qu bn10); rw [(Q00_n (a := a) (b := b) (c := c) (d := d) hn0), (Q01_n (a := a) (b := b) (c := c) (d := d) hn0), (Q02_n (a := a) (b := b) (c := c) (d := d) hn0)] at h; exact h)) <| wE (uH vT 0) <| wT (kW uC) <| wZ) ?_
 refine kx [(16, (kD 1))] [] (zE (qP 1 (hr := by decide)) <| zM <| zZ) ?_
 refine jI (jT.refl _) ?_
 refine jA <| kx [(17, (vb true))] [] (zE (qL true qI) <| zZ) ?_
 refine jA <| jS ?_
 refine jE <| jA <| jF <| jA <| kx [(7, (kD 1))] [] (zM <| zM <| zZ) ?_
 have bn14 : QL (vD a b c d) 6 := (jH (Eq.symm (Q10_n (a := a) (b := b) (c := c) (d := d) hn0)) (jD (k := 6) bn4 bn10 (by decide)))
 have bn15 : QL (vC a b c d) 6 := (jH (Eq.symm (Q11_n (a := a) (b := b) (c := c) (d := d) hn0)) (jD (k := 6) bn5 bn10 (by decide)))
 have bn16 : QL (qO a b c d) 6 := (jH (Eq.symm (Q12_n (a := a) (b := b) (c := c) (d := d) hn0)) (jD (k := 6) bn6 bn10 (by decide)))
 refine kd [] [(3, some y2)] mo (wM <| wM <| wM <| wE (vM kZ 1) <| wE (xX yB) <| wE (vM qF 0) <| wE (nL jO) <| wM <| wM <| wE (vM kZ 1) <| wE (xX yB) <| wE (vM qF 1) <| wE (nL jO) <| wM <| wM <| wE (vM kZ 1) <| wE (xX yB) <| wE (vM qF 2) <| wE (nL jO) <| wE (oBf uD dG dJ) <| wR (kF jO) <| wE (kA (by have h := fF (Q10 a b c d) (Q11 a b c d) (Q12 a b c d) (qu bn4) (qu bn5) (qu bn6) (N4 a b c d) (qu bn10); rw [(Q10_n (a := a) (b := b) (c := c) (d := d) hn0), (Q11_n (a := a) (b := b) (c := c) (d := d) hn0), (Q12_n (a := a) (b := b) (c := c) (d := d) hn0)] at h; exact h)) <| wE (uH vT 1) <| wT (kW uC) <| wZ) ?_
 refine kx [(16, (kD 2))] [] (zE (qP 2 (hr := by decide)) <| zM <| zZ) ?_
 refine jI (jT.refl _) ?_
 refine jA <| kx [(17, (vb true))] [] (zE (qL true qI) <| zZ) ?_
 refine jA <| jS ?_
 refine jE <| jA <| jF <| jA <| kJ (wk (l := [(2, (.ref 1 0)), (3, (vl 52 1 jN [[(jB (Q00 a b c d)), (jB (Q01 a b c d)), (jB (Q02 a b c d))], [(jB (Q10 a b c d)), (jB (Q11 a b c d)), (jB (Q12 a b c d))], [(jB (Q20 a b c d)), (jB (Q21 a b c d)), (jB (Q22 a b c d))]])), (5, (.ref 2 0)), (6, (.ref 3 0)), (16, (kD 2)), (17, (vb true))]) (b := [(1, some y1), (2, some (bx (jM (jB (N4 a b c d))))), (3, some y2)])) ?_
 refine kx [(7, (kD 2))] [] (zM <| zM <| zZ) ?_
 have bn17 : QL (vH a b c d) 6 := (jH (Eq.symm (Q20_n (a := a) (b := b) (c := c) (d := d) hn0)) (jD (k := 6) bn7 bn10 (by decide)))
 have bn18 : QL (vG a b c d) 6 := (jH (Eq.symm (Q21_n (a := a) (b := b) (c := c) (d := d) hn0)) (jD (k := 6) bn8 bn10 (by decide)))
 have bn19 : QL (qQ a b c d) 6 := (jH (Eq.symm (Q22_n (a := a) (b := b) (c := c) (d := d) hn0)) (jD (k := 6) bn9 bn10 (by decide)))
 refine kd [] [(3, some y3)] mo (wM <| wM <| wM <| wE (vM kZ 2) <| wE (xX yB) <| wE (vM qF 0) <| wE (nL jO) <| wM <| wM <| wE (vM kZ 2) <| wE (xX yB) <| wE (vM qF 1) <| wE (nL jO) <| wM <| wM <| wE (vM kZ 2) <| wE (xX yB) <| wE (vM qF 2) <| wE (nL jO) <| wE (oBf uD dG dJ) <| wR (kF jO) <| wE (kA (by have h := fF (Q20 a b c d) (Q21 a b c d) (Q22 a b c d) (qu bn7) (qu bn8) (qu bn9) (N4 a b c d) (qu bn10); rw [(Q20_n (a := a) (b := b) (c := c) (d := d) hn0), (Q21_n (a := a) (b := b) (c := c) (d := d) hn0), (Q22_n (a := a) (b := b) (c := c) (d := d) hn0)] at h; exact h)) <| wE (uH vT 2) <| wT (kW uC) <| wZ) ?_
 refine kx [(16, (kD 3))] [] (zE (qP 3 (hr := by decide)) <| zM <| zZ) ?_
 refine jI (jT.refl _) ?_
 refine jA <| kx [(17, (vb false))] [] (zE (qL false qI) <| zZ) ?_
 refine jA <| kG ?_
 refine kB <| jA <| kx [] [(1, some y3)] (zR (kF nT) <| zT (kW nT) <| zZ) ?_
 refine jJ ⟨_, (qC (cs := (bx (qM (A3.mk (A3.mk (jB (uY a b c d)) (jB (vA a b c d)) (jB (qN a b c d))) (A3.mk (jB (vD a b c d)) (jB (vC a b c d)) (jB (qO a b c d))) (A3.mk (jB (vH a b c d)) (jB (vG a b c d)) (jB (qQ a b c d))))))) (d := (qM (A3.mk (A3.mk (jB (uY a b c d)) (jB (vA a b c d)) (jB (qN a b c d))) (A3.mk (jB (vD a b c d)) (jB (vC a b c d)) (jB (qO a b c d))) (A3.mk (jB (vH a b c d)) (jB (vG a b c d)) (jB (qQ a b c d)))))) rfl rfl nT rfl rfl .nil), ?_⟩
 rfl
theorem qs_mat (a b c d : Int) (ha : -1048576 ≤ a ∧ a ≤ 1048576) (hb : -1048576 ≤ b ∧ b ≤ 1048576) (hc : -1048576 ≤ c ∧ c ≤ 1048576) (hd : -1048576 ≤ d ∧ d ≤ 1048576) (hq : gX a b c d = 0) : kH Tryz.prog 76 [(qX (jU.mk a b c d))] (qS (A3.mk (A3.mk (jB (uY a b c d)) (jB (vA a b c d)) (jB (qN a b c d))) (A3.mk (jB (vD a b c d)) (jB (vC a b c d)) (jB (qO a b c d))) (A3.mk (jB (vH a b c d)) (jB (vG a b c d)) (jB (qQ a b c d))))) := by
 have hn0 := nq_ne hq
 have hnq := nU ha hb hc hd
 let y4 := (A3.mk (kC.mk (jK.mk false []) (jK.mk false [])) (kC.mk (jK.mk false []) (jK.mk false [])) (kC.mk (jK.mk false []) (jK.mk false [])))
 let y3 := (bx (qS (A3.mk (A3.mk (jB (uY a b c d)) (jB (vA a b c d)) (jB (qN a b c d))) (A3.mk (jB (vD a b c d)) (jB (vC a b c d)) (jB (qO a b c d))) (A3.mk (jB (vH a b c d)) (jB (vG a b c d)) (jB (qQ a b c d))))))
 let y2 := (bx (qS (A3.mk (A3.mk (jB (uY a b c d)) (jB (vA a b c d)) (jB (qN a b c d))) (A3.mk (jB (vD a b c d)) (jB (vC a b c d)) (jB (qO a b c d))) y4)))
 let y1 := (bx (qS (A3.mk y4 y4 y4)))
 refine jP Tryz.func76 rfl cb76 rfl ?_
 show uK _ _ _ _ ⟨[(0, (.d (qX (jU.mk a b c d))))], []⟩
 refine jA <| kx [(1, (.ref 0 0)), (2, (.ref 1 0))] [(0, some (bx (qX (jU.mk a b c d)))), (1, some y1)] (zN (vS 0) <| zN (qW 1 bV bO) <| zZ) ?_
 refine jA ?_
 have bn1 : QL (Q00 a b c d) 3 := (kQ00)
 have bn2 : QL (Q01 a b c d) 3 := (kQ01)
 have bn3 : QL (Q02 a b c d) 3 := (kQ02)
 have bn4 : QL (Q10 a b c d) 3 := (kQ10)
 have bn5 : QL (Q11 a b c d) 3 := (kQ11)
 have bn6 : QL (Q12 a b c d) 3 := (kQ12)
 have bn7 : QL (Q20 a b c d) 3 := (kQ20)
 have bn8 : QL (Q21 a b c d) 3 := (kQ21)
 have bn9 : QL (Q22 a b c d) 3 := (kQ22)
 refine kx [(3, (vl 52 1 jN [[(jB (Q00 a b c d)), (jB (Q01 a b c d)), (jB (Q02 a b c d))], [(jB (Q10 a b c d)), (jB (Q11 a b c d)), (jB (Q12 a b c d))], [(jB (Q20 a b c d)), (jB (Q21 a b c d)), (jB (Q22 a b c d))]]))] [] (zR (kF yF) <| zE (kA (qs_rmat a b c d (by omega) (by omega) (by omega) (by omega) hq hn0)) <| zM <| zE uZ <| zE uZ <| zM <| zM <| zZ) ?_
 refine jA <| kx [(5, (.ref 2 0))] [(2, some y1)] (zE (oBa zQ bV bO) <| zN (qW 2 bV bO) <| zT (kW dE) <| zZ) ?_
 refine jA <| jA <| kx [(13, (kD 0))] [] (zM <| zZ) ?_
 refine jF <| kN 20 ?_
 refine kU <| jA <| kx [(14, (vb true))] [] (zE (qL true qI) <| zZ) ?_
 refine jA <| jS ?_
 refine jE <| jA <| jF <| jA <| kx [(6, (kD 0))] [] (zM <| zM <| zZ) ?_
 have bn10 : QL (N4 a b c d) 3 := (kN4)
 have bn11 : QL (uY a b c d) 6 := (jH (Eq.symm (Q00_n (a := a) (b := b) (c := c) (d := d) hn0)) (jD (k := 6) bn1 bn10 (by decide)))
 have bn12 : QL (vA a b c d) 6 := (jH (Eq.symm (Q01_n (a := a) (b := b) (c := c) (d := d) hn0)) (jD (k := 6) bn2 bn10 (by decide)))
 have bn13 : QL (qN a b c d) 6 := (jH (Eq.symm (Q02_n (a := a) (b := b) (c := c) (d := d) hn0)) (jD (k := 6) bn3 bn10 (by decide)))
 refine kd [] [(2, some (bx (qS (A3.mk (A3.mk (jB (uY a b c d)) (jB (vA a b c d)) (jB (qN a b c d))) y4 y4))))] mo (wM <| wM <| wM <| wE (vM kZ 0) <| wE (xX yB) <| wE (e_sap (cs := (qE.cells (jR (A3.mk (jB (Q00 a b c d)) (jB (Q01 a b c d)) (jB (Q02 a b c d)))))) (by exact rfl) vE (by exact rfl) (by kernel_rfl) (by kernel_rfl) (by kernel_rfl)) <| wE (nL vX) <| wR (kF yF) <| wE (kA (iX a b c d (by omega) (by omega) (by omega) (by omega))) <| wE (kA (by have h := nQ (Q00 a b c d) (Q01 a b c d) (Q02 a b c d) (qu bn1) (qu bn2) (qu bn3) (N4 a b c d) (qu bn10); rw [(Q00_n (a := a) (b := b) (c := c) (d := d) hn0), (Q01_n (a := a) (b := b) (c := c) (d := d) hn0), (Q02_n (a := a) (b := b) (c := c) (d := d) hn0)] at h; exact h)) <| wE (uH zQ 0) <| wT (kW vX) <| wZ) ?_
 refine kx [(13, (kD 1))] [] (zE (qP 1 (hr := by decide)) <| zM <| zZ) ?_
 refine jI (jT.refl _) ?_
 refine jA <| kx [(14, (vb true))] [] (zE (qL true qI) <| zZ) ?_
 refine jA <| jS ?_
 refine jE <| jA <| jF <| jA <| kx [(6, (kD 1))] [] (zM <| zM <| zZ) ?_
 have bn14 : QL (vD a b c d) 6 := (jH (Eq.symm (Q10_n (a := a) (b := b) (c := c) (d := d) hn0)) (jD (k := 6) bn4 bn10 (by decide)))
 have bn15 : QL (vC a b c d) 6 := (jH (Eq.symm (Q11_n (a := a) (b := b) (c := c) (d := d) hn0)) (jD (k := 6) bn5 bn10 (by decide)))
 have bn16 : QL (qO a b c d) 6 := (jH (Eq.symm (Q12_n (a := a) (b := b) (c := c) (d := d) hn0)) (jD (k := 6) bn6 bn10 (by decide)))
 refine kd [] [(2, some y2)] mo (wM <| wM <| wM <| wE (vM kZ 1) <| wE (xX yB) <| wE (e_sap (cs := (qE.cells (jR (A3.mk (jB (Q10 a b c d)) (jB (Q11 a b c d)) (jB (Q12 a b c d)))))) (by exact rfl) vE (by exact rfl) (by kernel_rfl) (by kernel_rfl) (by kernel_rfl)) <| wE (nL vX) <| wR (kF yF) <| wE (kA (iX a b c d (by omega) (by omega) (by omega) (by omega))) <| wE (kA (by have h := nQ (Q10 a b c d) (Q11 a b c d) (Q12 a b c d) (qu bn4) (qu bn5) (qu bn6) (N4 a b c d) (qu bn10); rw [(Q10_n (a := a) (b := b) (c := c) (d := d) hn0), (Q11_n (a := a) (b := b) (c := c) (d := d) hn0), (Q12_n (a := a) (b := b) (c := c) (d := d) hn0)] at h; exact h)) <| wE (uH zQ 1) <| wT (kW vX) <| wZ) ?_
 refine kx [(13, (kD 2))] [] (zE (qP 2 (hr := by decide)) <| zM <| zZ) ?_
 refine jI (jT.refl _) ?_
 refine jA <| kx [(14, (vb true))] [] (zE (qL true qI) <| zZ) ?_
 refine jA <| jS ?_
 refine jE <| jA <| jF <| jA <| kx [(6, (kD 2))] [] (zM <| zM <| zZ) ?_
 refine kJ (wk (l := [(1, (.ref 0 0)), (2, (.ref 1 0)), (3, (vl 52 1 jN [[(jB (Q00 a b c d)), (jB (Q01 a b c d)), (jB (Q02 a b c d))], [(jB (Q10 a b c d)), (jB (Q11 a b c d)), (jB (Q12 a b c d))], [(jB (Q20 a b c d)), (jB (Q21 a b c d)), (jB (Q22 a b c d))]])), (5, (.ref 2 0)), (6, (kD 2)), (13, (kD 2))]) (b := [(0, some (bx (qX (jU.mk a b c d)))), (1, some y1), (2, some y2)])) ?_
 have bn17 : QL (vH a b c d) 6 := (jH (Eq.symm (Q20_n (a := a) (b := b) (c := c) (d := d) hn0)) (jD (k := 6) bn7 bn10 (by decide)))
 have bn18 : QL (vG a b c d) 6 := (jH (Eq.symm (Q21_n (a := a) (b := b) (c := c) (d := d) hn0)) (jD (k := 6) bn8 bn10 (by decide)))
 have bn19 : QL (qQ a b c d) 6 := (jH (Eq.symm (Q22_n (a := a) (b := b) (c := c) (d := d) hn0)) (jD (k := 6) bn9 bn10 (by decide)))
 refine kd [] [(2, some y3)] mo (wM <| wM <| wM <| wE (vM kZ 2) <| wE (xX yB) <| wE (e_sap (cs := (qE.cells (jR (A3.mk (jB (Q20 a b c d)) (jB (Q21 a b c d)) (jB (Q22 a b c d)))))) (by exact rfl) vE (by exact rfl) (by kernel_rfl) (by kernel_rfl) (by kernel_rfl)) <| wE (nL vX) <| wR (kF yF) <| wE (kA (iX a b c d (by omega) (by omega) (by omega) (by omega))) <| wE (kA (by have h := nQ (Q20 a b c d) (Q21 a b c d) (Q22 a b c d) (qu bn7) (qu bn8) (qu bn9) (N4 a b c d) (qu bn10); rw [(Q20_n (a := a) (b := b) (c := c) (d := d) hn0), (Q21_n (a := a) (b := b) (c := c) (d := d) hn0), (Q22_n (a := a) (b := b) (c := c) (d := d) hn0)] at h; exact h)) <| wE (uH zQ 2) <| wT (kW vX) <| wZ) ?_
 refine kx [(13, (kD 3))] [] (zE (qP 3 (hr := by decide)) <| zM <| zZ) ?_
 refine jI (jT.refl _) ?_
 refine jA <| kx [(14, (vb false))] [] (zE (qL false qI) <| zZ) ?_
 refine jA <| kG ?_
 refine kB <| jA <| kx [] [(1, some y3)] (zR (kF dE) <| zT (kW dE) <| zZ) ?_
 refine jJ ⟨_, (qC (cs := (bx (qS (A3.mk (A3.mk (jB (uY a b c d)) (jB (vA a b c d)) (jB (qN a b c d))) (A3.mk (jB (vD a b c d)) (jB (vC a b c d)) (jB (qO a b c d))) (A3.mk (jB (vH a b c d)) (jB (vG a b c d)) (jB (qQ a b c d))))))) (d := (qS (A3.mk (A3.mk (jB (uY a b c d)) (jB (vA a b c d)) (jB (qN a b c d))) (A3.mk (jB (vD a b c d)) (jB (vC a b c d)) (jB (qO a b c d))) (A3.mk (jB (vH a b c d)) (jB (vG a b c d)) (jB (qQ a b c d)))))) rfl rfl dE rfl rfl .nil), ?_⟩
 rfl
theorem q_stn (sx sy sz sa sb sc sd sf su sv : Int) : kH Tryz.prog 125 [(vL (kO.mk (jW.mk sx sy sz) (jU.mk sa sb sc sd) sf (kP.mk su sv)))] (.val (.int .i64 ((((uB sx sy sz su sv sf sa sb sc sd) : Nat) : Int)))) := by
 refine jP Tryz.func125 rfl cb125 rfl ?_
 show uK _ _ _ _ ⟨[(0, (.d (vL (kO.mk (jW.mk sx sy sz) (jU.mk sa sb sc sd) sf (kP.mk su sv)))))], []⟩
 refine jA <| kx [(1, (.ref 0 0))] [(0, some (bx (vL (kO.mk (jW.mk sx sy sz) (jU.mk sa sb sc sd) sf (kP.mk su sv)))))] (zN (vS 0) <| zM <| zZ) ?_
 refine jA <| jA <| kx [(20, (vl 3 1 cW [sx, sy, sz, su, sv])), (21, (kD 5)), (22, (kD 0))] [] (zE (kS yC) <| zE (kS yH) <| zR (uF uQ) <| zE (kS yC) <| zE (kS yT) <| zR (uF uQ) <| zE (kS yC) <| zE (kS yV) <| zR (uF uQ) <| zE (kS bN) <| zE (kS fo27_0) <| zR (uF uQ) <| zE (kS bN) <| zE (kS fo27_1) <| zR (uF uQ) <| zE (nO nV ze3 zo3) <| zE (yK nV 5) <| zM <| zZ) ?_
 refine jF <| kN 20 ?_
 refine kU <| jA <| kx [(23, (vb true))] [] (zE (qL true qI) <| zZ) ?_
 refine jA <| jS ?_
 refine jE <| jA <| jF <| jA <| kx [(4, (vi sx))] [] (zE (vM nV 0) <| zE (xX uQ) <| zM <| zZ) ?_
 refine jA <| kx [(31, (vb (decide (sx < -1048576) || decide (((1048576 : Nat) : Int) < sx))))] [] ?_ ?_
 ·refine zM <| zE qI <| zE (oV (vb (decide (sx < -1048576))) (xI (by kernel_rfl))) <| ?_
  rcases hb1 : (decide (sx < -1048576)) with _ | _
  ·replace hb1 := of_decide_eq_false hb1
   exact zM <| zE aG <| zE oPo <| zZ
  ·replace hb1 := of_decide_eq_true hb1
   exact zK <| zK <| zE bW <| zZ
 refine jV rfl (fun h2 => ?_) (fun h2 => ?_)
 ·refine jA <| kx [(2, (kD 2))] [] (zM <| zZ) ?_
  refine jJ ⟨_, (.tmp (d := (.val (.int .i64 (((2 : Nat) : Int))))) rfl .nil), ?_⟩
  first | (rw [show uB sx sy sz su sv sf sa sb sc sd = gX sa sb sc sd from dV (by unfold cP; simp_all <;> omega)]; rfl) | (rw [show uB sx sy sz su sv sf sa sb sc sd = 2 from dS (by unfold cP; simp_all <;> omega)]; rfl)
 ·refine jE <| kx [(22, (kD 1))] [] (zE (qP 1 (hr := by decide)) <| zM <| zZ) ?_
  refine jI (jT.refl _) ?_
  refine jA <| kx [(23, (vb true))] [] (zE (qL true qI) <| zZ) ?_
  refine jA <| jS ?_
  refine jE <| jA <| jF <| jA <| kx [(4, (vi sy))] [] (zE (vM nV 1) <| zE (xX uQ) <| zM <| zZ) ?_
  refine jA <| kx [(31, (vb (decide (sy < -1048576) || decide (((1048576 : Nat) : Int) < sy))))] [] ?_ ?_
  ·refine zM <| zE qI <| zE (oV (vb (decide (sy < -1048576))) (xI (by kernel_rfl))) <| ?_
   rcases hb3 : (decide (sy < -1048576)) with _ | _
   ·replace hb3 := of_decide_eq_false hb3
    exact zM <| zE aG <| zE oPo <| zZ
   ·replace hb3 := of_decide_eq_true hb3
    exact zK <| zK <| zE bW <| zZ
  refine jV rfl (fun h4 => ?_) (fun h4 => ?_)
  ·refine jA <| kx [(2, (kD 2))] [] (zM <| zZ) ?_
   refine jJ ⟨_, (.tmp (d := (.val (.int .i64 (((2 : Nat) : Int))))) rfl .nil), ?_⟩
   first | (rw [show uB sx sy sz su sv sf sa sb sc sd = gX sa sb sc sd from dV (by unfold cP; simp_all <;> omega)]; rfl) | (rw [show uB sx sy sz su sv sf sa sb sc sd = 2 from dS (by unfold cP; simp_all <;> omega)]; rfl)
  ·refine jE <| kx [(22, (kD 2))] [] (zE (qP 2 (hr := by decide)) <| zM <| zZ) ?_
   refine jI (jT.refl _) ?_
   refine jA <| kx [(23, (vb true))] [] (zE (qL true qI) <| zZ) ?_
   refine jA <| jS ?_
   refine jE <| jA <| jF <| jA <| kx [(4, (vi sz))] [] (zE (vM nV 2) <| zE (xX uQ) <| zM <| zZ) ?_
   refine jA <| kx [(31, (vb (decide (sz < -1048576) || decide (((1048576 : Nat) : Int) < sz))))] [] ?_ ?_
   ·refine zM <| zE qI <| zE (oV (vb (decide (sz < -1048576))) (xI (by kernel_rfl))) <| ?_
    rcases hb5 : (decide (sz < -1048576)) with _ | _
    ·replace hb5 := of_decide_eq_false hb5
     exact zM <| zE aG <| zE oPo <| zZ
    ·replace hb5 := of_decide_eq_true hb5
     exact zK <| zK <| zE bW <| zZ
   refine jV rfl (fun h6 => ?_) (fun h6 => ?_)
   ·refine jA <| kx [(2, (kD 2))] [] (zM <| zZ) ?_
    refine jJ ⟨_, (.tmp (d := (.val (.int .i64 (((2 : Nat) : Int))))) rfl .nil), ?_⟩
    first | (rw [show uB sx sy sz su sv sf sa sb sc sd = gX sa sb sc sd from dV (by unfold cP; simp_all <;> omega)]; rfl) | (rw [show uB sx sy sz su sv sf sa sb sc sd = 2 from dS (by unfold cP; simp_all <;> omega)]; rfl)
   ·refine jE <| kx [(22, (kD 3))] [] (zE (qP 3 (hr := by decide)) <| zM <| zZ) ?_
    refine jI (jT.refl _) ?_
    refine jA <| kJ (wk (l := [(1, (.ref 0 0)), (20, (vl 3 1 cW [sx, sy, sz, su, sv])), (21, (kD 5)), (22, (kD 3))]) (b := [(0, some (bx (vL (kO.mk (jW.mk sx sy sz) (jU.mk sa sb sc sd) sf (kP.mk su sv)))))])) ?_
    refine kx [(23, (vb true))] [] (zE (qL true qI) <| zZ) ?_
    refine jA <| jS ?_
    refine jE <| jA <| jF <| jA <| kx [(4, (vi su))] [] (zE (vM nV 3) <| zE (xX uQ) <| zM <| zZ) ?_
    refine jA <| kx [(31, (vb (decide (su < -1048576) || decide (((1048576 : Nat) : Int) < su))))] [] ?_ ?_
    ·refine zM <| zE qI <| zE (oV (vb (decide (su < -1048576))) (xI (by kernel_rfl))) <| ?_
     rcases hb7 : (decide (su < -1048576)) with _ | _
     ·replace hb7 := of_decide_eq_false hb7
      exact zM <| zE aG <| zE oPo <| zZ
     ·replace hb7 := of_decide_eq_true hb7
      exact zK <| zK <| zE bW <| zZ
    refine jV rfl (fun h8 => ?_) (fun h8 => ?_)
    ·refine jA <| kx [(2, (kD 2))] [] (zM <| zZ) ?_
     refine jJ ⟨_, (.tmp (d := (.val (.int .i64 (((2 : Nat) : Int))))) rfl .nil), ?_⟩
     first | (rw [show uB sx sy sz su sv sf sa sb sc sd = gX sa sb sc sd from dV (by unfold cP; simp_all <;> omega)]; rfl) | (rw [show uB sx sy sz su sv sf sa sb sc sd = 2 from dS (by unfold cP; simp_all <;> omega)]; rfl)
    ·refine jE <| kx [(22, (kD 4))] [] (zE (qP 4 (hr := by decide)) <| zM <| zZ) ?_
     refine jI (jT.refl _) ?_
     refine jA <| kx [(23, (vb true))] [] (zE (qL true qI) <| zZ) ?_
     refine jA <| jS ?_
     refine jE <| jA <| jF <| jA <| kx [(4, (vi sv))] [] (zE (vM nV 4) <| zE (xX uQ) <| zM <| zZ) ?_
     refine jA <| kx [(31, (vb (decide (sv < -1048576) || decide (((1048576 : Nat) : Int) < sv))))] [] ?_ ?_
     ·refine zM <| zE qI <| zE (oV (vb (decide (sv < -1048576))) (xI (by kernel_rfl))) <| ?_
      rcases hb9 : (decide (sv < -1048576)) with _ | _
      ·replace hb9 := of_decide_eq_false hb9
       exact zM <| zE aG <| zE oPo <| zZ
      ·replace hb9 := of_decide_eq_true hb9
       exact zK <| zK <| zE bW <| zZ
     refine jV rfl (fun h10 => ?_) (fun h10 => ?_)
     ·refine jA <| kx [(2, (kD 2))] [] (zM <| zZ) ?_
      refine jJ ⟨_, (.tmp (d := (.val (.int .i64 (((2 : Nat) : Int))))) rfl .nil), ?_⟩
      first | (rw [show uB sx sy sz su sv sf sa sb sc sd = gX sa sb sc sd from dV (by unfold cP; simp_all <;> omega)]; rfl) | (rw [show uB sx sy sz su sv sf sa sb sc sd = 2 from dS (by unfold cP; simp_all <;> omega)]; rfl)
     ·refine jE <| kx [(22, (kD 5))] [] (zE (qP 5 (hr := by decide)) <| zM <| zZ) ?_
      refine jI (jT.refl _) ?_
      refine jA <| kx [(23, (vb false))] [] (zE (qL false qI) <| zZ) ?_
      refine jA <| kG ?_
      refine kB <| jA <| jA <| kx [(40, (vb (decide (sf < ((1 : Nat) : Int)) || decide (((1048576 : Nat) : Int) < sf))))] [] ?_ ?_
      ·refine zE (kS fo29_2) <| zR (uF uQ) <| zE qI <| zE (oV (vb (decide (sf < ((1 : Nat) : Int)))) (xI (by kernel_rfl))) <| ?_
       rcases hb11 : (decide (sf < ((1 : Nat) : Int))) with _ | _
       ·replace hb11 := of_decide_eq_false hb11
        exact zE (kS fo29_2) <| zR (uF uQ) <| zE aG <| zE oPo <| zZ
       ·replace hb11 := of_decide_eq_true hb11
        exact zK <| zK <| zK <| zE bW <| zZ
      refine jV rfl (fun h12 => ?_) (fun h12 => ?_)
      ·refine jA <| kx [(2, (kD 2))] [] (zM <| zZ) ?_
       refine jJ ⟨_, (.tmp (d := (.val (.int .i64 (((2 : Nat) : Int))))) rfl .nil), ?_⟩
       first | (rw [show uB sx sy sz su sv sf sa sb sc sd = gX sa sb sc sd from dV (by unfold cP; simp_all <;> omega)]; rfl) | (rw [show uB sx sy sz su sv sf sa sb sc sd = 2 from dS (by unfold cP; simp_all <;> omega)]; rfl)
      ·refine jE <| jA <| kx [(2, (kD (gX sa sb sc sd)))] [] (zE (kS yW) <| zR (kF yF) <| zE (kA (q_chk sa sb sc sd)) <| zM <| zZ) ?_
       refine jJ ⟨_, (.tmp (d := (.val (.int .i64 ((((gX sa sb sc sd) : Nat) : Int))))) rfl .nil), ?_⟩
       first | (rw [show uB sx sy sz su sv sf sa sb sc sd = gX sa sb sc sd from dV (by unfold cP; simp_all <;> omega)]; rfl) | (rw [show uB sx sy sz su sv sf sa sb sc sd = 2 from dS (by unfold cP; simp_all <;> omega)]; rfl)
theorem qs_stn (sx sy sz sa sb sc sd sf su sv : Int) : kH Tryz.prog 75 [(vL (kO.mk (jW.mk sx sy sz) (jU.mk sa sb sc sd) sf (kP.mk su sv)))] (.val (.int .i64 ((((uB sx sy sz su sv sf sa sb sc sd) : Nat) : Int)))) := by
 refine jP Tryz.func75 rfl cb75 rfl ?_
 show uK _ _ _ _ ⟨[(0, (.d (vL (kO.mk (jW.mk sx sy sz) (jU.mk sa sb sc sd) sf (kP.mk su sv)))))], []⟩
 refine jA <| kx [(1, (.ref 0 0))] [(0, some (bx (vL (kO.mk (jW.mk sx sy sz) (jU.mk sa sb sc sd) sf (kP.mk su sv)))))] (zN (vS 0) <| zM <| zZ) ?_
 refine jA <| jA <| kx [(20, (vl 3 1 cW [sx, sy, sz, su, sv])), (21, (kD 5)), (22, (kD 0))] [] (zE (kS yC) <| zE (kS yH) <| zR (uF uQ) <| zE (kS yC) <| zE (kS yT) <| zR (uF uQ) <| zE (kS yC) <| zE (kS yV) <| zR (uF uQ) <| zE (kS bN) <| zE (kS fo27_0) <| zR (uF uQ) <| zE (kS bN) <| zE (kS fo27_1) <| zR (uF uQ) <| zE (nO nV ze3 zo3) <| zE (yK nV 5) <| zM <| zZ) ?_
 refine jF <| kN 20 ?_
 refine kU <| jA <| kx [(23, (vb true))] [] (zE (qL true qI) <| zZ) ?_
 refine jA <| jS ?_
 refine jE <| jA <| jF <| jA <| kx [(4, (vi sx))] [] (zE (vM nV 0) <| zE (xX uQ) <| zM <| zZ) ?_
 refine jA <| kx [(31, (vb (decide (sx < -1048576) || decide (((1048576 : Nat) : Int) < sx))))] [] ?_ ?_
 ·refine zM <| zE qI <| zE (oV (vb (decide (sx < -1048576))) (xI (by kernel_rfl))) <| ?_
  rcases hb1 : (decide (sx < -1048576)) with _ | _
  ·replace hb1 := of_decide_eq_false hb1
   exact zM <| zE aG <| zE oPo <| zZ
  ·replace hb1 := of_decide_eq_true hb1
   exact zK <| zK <| zE bW <| zZ
 refine jV rfl (fun h2 => ?_) (fun h2 => ?_)
 ·refine jA <| kx [(2, (kD 2))] [] (zM <| zZ) ?_
  refine jJ ⟨_, (.tmp (d := (.val (.int .i64 (((2 : Nat) : Int))))) rfl .nil), ?_⟩
  first | (rw [show uB sx sy sz su sv sf sa sb sc sd = gX sa sb sc sd from dV (by unfold cP; simp_all <;> omega)]; rfl) | (rw [show uB sx sy sz su sv sf sa sb sc sd = 2 from dS (by unfold cP; simp_all <;> omega)]; rfl)
 ·refine jE <| kx [(22, (kD 1))] [] (zE (qP 1 (hr := by decide)) <| zM <| zZ) ?_
  refine jI (jT.refl _) ?_
  refine jA <| kx [(23, (vb true))] [] (zE (qL true qI) <| zZ) ?_
  refine jA <| jS ?_
  refine jE <| jA <| jF <| jA <| kx [(4, (vi sy))] [] (zE (vM nV 1) <| zE (xX uQ) <| zM <| zZ) ?_
  refine jA <| kx [(31, (vb (decide (sy < -1048576) || decide (((1048576 : Nat) : Int) < sy))))] [] ?_ ?_
  ·refine zM <| zE qI <| zE (oV (vb (decide (sy < -1048576))) (xI (by kernel_rfl))) <| ?_
   rcases hb3 : (decide (sy < -1048576)) with _ | _
   ·replace hb3 := of_decide_eq_false hb3
    exact zM <| zE aG <| zE oPo <| zZ
   ·replace hb3 := of_decide_eq_true hb3
    exact zK <| zK <| zE bW <| zZ
  refine jV rfl (fun h4 => ?_) (fun h4 => ?_)
  ·refine jA <| kx [(2, (kD 2))] [] (zM <| zZ) ?_
   refine jJ ⟨_, (.tmp (d := (.val (.int .i64 (((2 : Nat) : Int))))) rfl .nil), ?_⟩
   first | (rw [show uB sx sy sz su sv sf sa sb sc sd = gX sa sb sc sd from dV (by unfold cP; simp_all <;> omega)]; rfl) | (rw [show uB sx sy sz su sv sf sa sb sc sd = 2 from dS (by unfold cP; simp_all <;> omega)]; rfl)
  ·refine jE <| kx [(22, (kD 2))] [] (zE (qP 2 (hr := by decide)) <| zM <| zZ) ?_
   refine jI (jT.refl _) ?_
   refine jA <| kx [(23, (vb true))] [] (zE (qL true qI) <| zZ) ?_
   refine jA <| jS ?_
   refine jE <| jA <| jF <| jA <| kx [(4, (vi sz))] [] (zE (vM nV 2) <| zE (xX uQ) <| zM <| zZ) ?_
   refine jA <| kx [(31, (vb (decide (sz < -1048576) || decide (((1048576 : Nat) : Int) < sz))))] [] ?_ ?_
   ·refine zM <| zE qI <| zE (oV (vb (decide (sz < -1048576))) (xI (by kernel_rfl))) <| ?_
    rcases hb5 : (decide (sz < -1048576)) with _ | _
    ·replace hb5 := of_decide_eq_false hb5
     exact zM <| zE aG <| zE oPo <| zZ
    ·replace hb5 := of_decide_eq_true hb5
     exact zK <| zK <| zE bW <| zZ
   refine jV rfl (fun h6 => ?_) (fun h6 => ?_)
   ·refine jA <| kx [(2, (kD 2))] [] (zM <| zZ) ?_
    refine jJ ⟨_, (.tmp (d := (.val (.int .i64 (((2 : Nat) : Int))))) rfl .nil), ?_⟩
    first | (rw [show uB sx sy sz su sv sf sa sb sc sd = gX sa sb sc sd from dV (by unfold cP; simp_all <;> omega)]; rfl) | (rw [show uB sx sy sz su sv sf sa sb sc sd = 2 from dS (by unfold cP; simp_all <;> omega)]; rfl)
   ·refine jE <| kx [(22, (kD 3))] [] (zE (qP 3 (hr := by decide)) <| zM <| zZ) ?_
    refine jI (jT.refl _) ?_
    refine jA <| kJ (wk (l := [(1, (.ref 0 0)), (20, (vl 3 1 cW [sx, sy, sz, su, sv])), (21, (kD 5)), (22, (kD 3))]) (b := [(0, some (bx (vL (kO.mk (jW.mk sx sy sz) (jU.mk sa sb sc sd) sf (kP.mk su sv)))))])) ?_
    refine kx [(23, (vb true))] [] (zE (qL true qI) <| zZ) ?_
    refine jA <| jS ?_
    refine jE <| jA <| jF <| jA <| kx [(4, (vi su))] [] (zE (vM nV 3) <| zE (xX uQ) <| zM <| zZ) ?_
    refine jA <| kx [(31, (vb (decide (su < -1048576) || decide (((1048576 : Nat) : Int) < su))))] [] ?_ ?_
    ·refine zM <| zE qI <| zE (oV (vb (decide (su < -1048576))) (xI (by kernel_rfl))) <| ?_
     rcases hb7 : (decide (su < -1048576)) with _ | _
     ·replace hb7 := of_decide_eq_false hb7
      exact zM <| zE aG <| zE oPo <| zZ
     ·replace hb7 := of_decide_eq_true hb7
      exact zK <| zK <| zE bW <| zZ
    refine jV rfl (fun h8 => ?_) (fun h8 => ?_)
    ·refine jA <| kx [(2, (kD 2))] [] (zM <| zZ) ?_
     refine jJ ⟨_, (.tmp (d := (.val (.int .i64 (((2 : Nat) : Int))))) rfl .nil), ?_⟩
     first | (rw [show uB sx sy sz su sv sf sa sb sc sd = gX sa sb sc sd from dV (by unfold cP; simp_all <;> omega)]; rfl) | (rw [show uB sx sy sz su sv sf sa sb sc sd = 2 from dS (by unfold cP; simp_all <;> omega)]; rfl)
    ·refine jE <| kx [(22, (kD 4))] [] (zE (qP 4 (hr := by decide)) <| zM <| zZ) ?_
     refine jI (jT.refl _) ?_
     refine jA <| kx [(23, (vb true))] [] (zE (qL true qI) <| zZ) ?_
     refine jA <| jS ?_
     refine jE <| jA <| jF <| jA <| kx [(4, (vi sv))] [] (zE (vM nV 4) <| zE (xX uQ) <| zM <| zZ) ?_
     refine jA <| kx [(31, (vb (decide (sv < -1048576) || decide (((1048576 : Nat) : Int) < sv))))] [] ?_ ?_
     ·refine zM <| zE qI <| zE (oV (vb (decide (sv < -1048576))) (xI (by kernel_rfl))) <| ?_
      rcases hb9 : (decide (sv < -1048576)) with _ | _
      ·replace hb9 := of_decide_eq_false hb9
       exact zM <| zE aG <| zE oPo <| zZ
      ·replace hb9 := of_decide_eq_true hb9
       exact zK <| zK <| zE bW <| zZ
     refine jV rfl (fun h10 => ?_) (fun h10 => ?_)
     ·refine jA <| kx [(2, (kD 2))] [] (zM <| zZ) ?_
      refine jJ ⟨_, (.tmp (d := (.val (.int .i64 (((2 : Nat) : Int))))) rfl .nil), ?_⟩
      first | (rw [show uB sx sy sz su sv sf sa sb sc sd = gX sa sb sc sd from dV (by unfold cP; simp_all <;> omega)]; rfl) | (rw [show uB sx sy sz su sv sf sa sb sc sd = 2 from dS (by unfold cP; simp_all <;> omega)]; rfl)
     ·refine jE <| kx [(22, (kD 5))] [] (zE (qP 5 (hr := by decide)) <| zM <| zZ) ?_
      refine jI (jT.refl _) ?_
      refine jA <| kx [(23, (vb false))] [] (zE (qL false qI) <| zZ) ?_
      refine jA <| kG ?_
      refine kB <| jA <| jA <| kx [(40, (vb (decide (sf < ((1 : Nat) : Int)) || decide (((1048576 : Nat) : Int) < sf))))] [] ?_ ?_
      ·refine zE (kS fo29_2) <| zR (uF uQ) <| zE qI <| zE (oV (vb (decide (sf < ((1 : Nat) : Int)))) (xI (by kernel_rfl))) <| ?_
       rcases hb11 : (decide (sf < ((1 : Nat) : Int))) with _ | _
       ·replace hb11 := of_decide_eq_false hb11
        exact zE (kS fo29_2) <| zR (uF uQ) <| zE aG <| zE oPo <| zZ
       ·replace hb11 := of_decide_eq_true hb11
        exact zK <| zK <| zK <| zE bW <| zZ
      refine jV rfl (fun h12 => ?_) (fun h12 => ?_)
      ·refine jA <| kx [(2, (kD 2))] [] (zM <| zZ) ?_
       refine jJ ⟨_, (.tmp (d := (.val (.int .i64 (((2 : Nat) : Int))))) rfl .nil), ?_⟩
       first | (rw [show uB sx sy sz su sv sf sa sb sc sd = gX sa sb sc sd from dV (by unfold cP; simp_all <;> omega)]; rfl) | (rw [show uB sx sy sz su sv sf sa sb sc sd = 2 from dS (by unfold cP; simp_all <;> omega)]; rfl)
      ·refine jE <| jA <| kx [(2, (kD (gX sa sb sc sd)))] [] (zE (kS yW) <| zR (kF yF) <| zE (kA (qs_chk sa sb sc sd)) <| zM <| zZ) ?_
       refine jJ ⟨_, (.tmp (d := (.val (.int .i64 ((((gX sa sb sc sd) : Nat) : Int))))) rfl .nil), ?_⟩
       first | (rw [show uB sx sy sz su sv sf sa sb sc sd = gX sa sb sc sd from dV (by unfold cP; simp_all <;> omega)]; rfl) | (rw [show uB sx sy sz su sv sf sa sb sc sd = 2 from dS (by unfold cP; simp_all <;> omega)]; rfl)
theorem q_inner (sx sy sz sa sb sc sd sf su sv : Int) (hsu : -1048576 ≤ su ∧ su ≤ 1048576) (hsv : -1048576 ≤ sv ∧ sv ≤ 1048576) (hsf : 1 ≤ sf ∧ sf ≤ 1048576) : kH Tryz.prog 71 [(vL (kO.mk (jW.mk sx sy sz) (jU.mk sa sb sc sd) sf (kP.mk su sv)))] (qM (A3.mk (A3.mk (jB ((1 : Int) : Rat)) (jB ((0 : Int) : Rat)) (jB ((-su : Int) : Rat))) (A3.mk (jB ((0 : Int) : Rat)) (jB ((1 : Int) : Rat)) (jB ((-sv : Int) : Rat))) (A3.mk (jB ((0 : Int) : Rat)) (jB ((0 : Int) : Rat)) (jB ((sf : Int) : Rat))))) := by
 let y1 := (A3.mk (kC.mk (jK.mk false []) (jK.mk false [])) (kC.mk (jK.mk false []) (jK.mk false [])) (kC.mk (jK.mk false []) (jK.mk false [])))
 refine jP Tryz.func71 rfl cb71 rfl ?_
 show uK _ _ _ _ ⟨[(0, (.d (vL (kO.mk (jW.mk sx sy sz) (jU.mk sa sb sc sd) sf (kP.mk su sv)))))], []⟩
 refine jA <| kx [(1, (.ref 0 0)), (2, (.ref 1 0))] [(0, some (bx (vL (kO.mk (jW.mk sx sy sz) (jU.mk sa sb sc sd) sf (kP.mk su sv))))), (1, some (bx (qM (A3.mk y1 y1 y1))))] (zN (vS 0) <| zN (qW 1 fC fE) <| zZ) ?_
 refine jA ?_
 have bn1 : QL ((1 : Int) : Rat) 3 := (qi 1)
 have bn2 : QL ((0 : Int) : Rat) 3 := (qi 0)
 have bn3 : QL ((-su : Int) : Rat) 3 := (qi (-su))
 have bn4 : QL ((-sv : Int) : Rat) 3 := (qi (-sv))
 have bn5 : QL ((sf : Int) : Rat) 3 := (qi sf)
 refine kd [] [(1, some (bx (qM (A3.mk (A3.mk (jB ((1 : Int) : Rat)) (jB ((0 : Int) : Rat)) (jB ((-su : Int) : Rat))) (A3.mk (jB ((0 : Int) : Rat)) (jB ((1 : Int) : Rat)) (jB ((-sv : Int) : Rat))) (A3.mk (jB ((0 : Int) : Rat)) (jB ((0 : Int) : Rat)) (jB ((sf : Int) : Rat)))))))] mo (wE (kS bN) <| wE (kS fo27_0) <| wR (uF uQ) <| wE (oNg (-su)) <| wE (kA (q_whole ((1 : Nat) : Int) (by omega) (by omega) ((0 : Nat) : Int) (by omega) (by omega) (-su) (by omega) (by omega))) <| wE (kS bN) <| wE (kS fo27_1) <| wR (uF uQ) <| wE (oNg (-sv)) <| wE (kA (q_whole ((0 : Nat) : Int) (by omega) (by omega) ((1 : Nat) : Int) (by omega) (by omega) (-sv) (by omega) (by omega))) <| wE (kS fo29_2) <| wR (uF uQ) <| wE (kA (q_whole ((0 : Nat) : Int) (by omega) (by omega) ((0 : Nat) : Int) (by omega) (by omega) sf (by omega) (by omega))) <| wE (oBf vT fC fE) <| wT (kW nT) <| wZ) ?_
 refine jJ ⟨_, (qC (cs := (bx (qM (A3.mk (A3.mk (jB ((1 : Int) : Rat)) (jB ((0 : Int) : Rat)) (jB ((-su : Int) : Rat))) (A3.mk (jB ((0 : Int) : Rat)) (jB ((1 : Int) : Rat)) (jB ((-sv : Int) : Rat))) (A3.mk (jB ((0 : Int) : Rat)) (jB ((0 : Int) : Rat)) (jB ((sf : Int) : Rat))))))) (d := (qM (A3.mk (A3.mk (jB ((1 : Int) : Rat)) (jB ((0 : Int) : Rat)) (jB ((-su : Int) : Rat))) (A3.mk (jB ((0 : Int) : Rat)) (jB ((1 : Int) : Rat)) (jB ((-sv : Int) : Rat))) (A3.mk (jB ((0 : Int) : Rat)) (jB ((0 : Int) : Rat)) (jB ((sf : Int) : Rat)))))) rfl rfl nT rfl rfl .nil), ?_⟩
 rfl
theorem qs_lens (sx sy sz sa sb sc sd sf su sv : Int) (hsu : -1048576 ≤ su ∧ su ≤ 1048576) (hsv : -1048576 ≤ sv ∧ sv ≤ 1048576) (hsf : 1 ≤ sf ∧ sf ≤ 1048576) : kH Tryz.prog 82 [(vL (kO.mk (jW.mk sx sy sz) (jU.mk sa sb sc sd) sf (kP.mk su sv)))] (qS (A3.mk (A3.mk (jB ((1 : Int) : Rat)) (jB ((0 : Int) : Rat)) (jB ((-su : Int) : Rat))) (A3.mk (jB ((0 : Int) : Rat)) (jB ((1 : Int) : Rat)) (jB ((-sv : Int) : Rat))) (A3.mk (jB ((0 : Int) : Rat)) (jB ((0 : Int) : Rat)) (jB ((sf : Int) : Rat))))) := by
 let y1 := (A3.mk (kC.mk (jK.mk false []) (jK.mk false [])) (kC.mk (jK.mk false []) (jK.mk false [])) (kC.mk (jK.mk false []) (jK.mk false [])))
 refine jP Tryz.func82 rfl cb82 rfl ?_
 show uK _ _ _ _ ⟨[(0, (.d (vL (kO.mk (jW.mk sx sy sz) (jU.mk sa sb sc sd) sf (kP.mk su sv)))))], []⟩
 refine jA <| kx [(1, (.ref 0 0)), (2, (.ref 1 0))] [(0, some (bx (vL (kO.mk (jW.mk sx sy sz) (jU.mk sa sb sc sd) sf (kP.mk su sv))))), (1, some (bx (qS (A3.mk y1 y1 y1))))] (zN (vS 0) <| zN (qW 1 bV bO) <| zZ) ?_
 refine jA ?_
 have bn1 : QL ((1 : Int) : Rat) 3 := (qi 1)
 have bn2 : QL ((0 : Int) : Rat) 3 := (qi 0)
 have bn3 : QL ((-su : Int) : Rat) 3 := (qi (-su))
 have bn4 : QL ((-sv : Int) : Rat) 3 := (qi (-sv))
 have bn5 : QL ((sf : Int) : Rat) 3 := (qi sf)
 refine kd [] [(1, some (bx (qS (A3.mk (A3.mk (jB ((1 : Int) : Rat)) (jB ((0 : Int) : Rat)) (jB ((-su : Int) : Rat))) (A3.mk (jB ((0 : Int) : Rat)) (jB ((1 : Int) : Rat)) (jB ((-sv : Int) : Rat))) (A3.mk (jB ((0 : Int) : Rat)) (jB ((0 : Int) : Rat)) (jB ((sf : Int) : Rat)))))))] mo (wE (kS bN) <| wE (kS fo27_0) <| wR (uF uQ) <| wE (oNg (-su)) <| wE (kA (cE ((1 : Nat) : Int) (by omega) (by omega) ((0 : Nat) : Int) (by omega) (by omega) (-su) (by omega) (by omega))) <| wE (kS bN) <| wE (kS fo27_1) <| wR (uF uQ) <| wE (oNg (-sv)) <| wE (kA (cE ((0 : Nat) : Int) (by omega) (by omega) ((1 : Nat) : Int) (by omega) (by omega) (-sv) (by omega) (by omega))) <| wE (kS fo29_2) <| wR (uF uQ) <| wE (kA (cE ((0 : Nat) : Int) (by omega) (by omega) ((0 : Nat) : Int) (by omega) (by omega) sf (by omega) (by omega))) <| wE (oBf zQ bV bO) <| wT (kW dE) <| wZ) ?_
 refine jJ ⟨_, (qC (cs := (bx (qS (A3.mk (A3.mk (jB ((1 : Int) : Rat)) (jB ((0 : Int) : Rat)) (jB ((-su : Int) : Rat))) (A3.mk (jB ((0 : Int) : Rat)) (jB ((1 : Int) : Rat)) (jB ((-sv : Int) : Rat))) (A3.mk (jB ((0 : Int) : Rat)) (jB ((0 : Int) : Rat)) (jB ((sf : Int) : Rat))))))) (d := (qS (A3.mk (A3.mk (jB ((1 : Int) : Rat)) (jB ((0 : Int) : Rat)) (jB ((-su : Int) : Rat))) (A3.mk (jB ((0 : Int) : Rat)) (jB ((1 : Int) : Rat)) (jB ((-sv : Int) : Rat))) (A3.mk (jB ((0 : Int) : Rat)) (jB ((0 : Int) : Rat)) (jB ((sf : Int) : Rat)))))) rfl rfl dE rfl rfl .nil), ?_⟩
 rfl
theorem q_red (a0 a1 a2 : Rat) (ha0 : QL a0 10000000) (ha1 : QL a1 10000000) (ha2 : QL a2 10000000) (hz : gA a0 a1 a2 = false) : kH Tryz.prog 127 [(jR (A3.mk (jB a0) (jB a1) (jB a2)))] (jR (A3.mk (jB (a0 * (yM a0 a1 a2))) (jB (a1 * (yM a0 a1 a2))) (jB (a2 * (yM a0 a1 a2))))) := by
 refine jP Tryz.func127 rfl cb127 rfl ?_
 show uK _ _ _ _ ⟨[(0, (.d (jR (A3.mk (jB a0) (jB a1) (jB a2)))))], []⟩
 refine jA <| kx [(1, (.ref 0 0)), (2, (.ref 1 0))] [(0, some (bx (jR (A3.mk (jB a0) (jB a1) (jB a2))))), (1, some (bx (jR (A3.mk (kC.mk (jK.mk false []) (jK.mk false [])) (kC.mk (jK.mk false []) (jK.mk false [])) (kC.mk (jK.mk false []) (jK.mk false []))))))] (zN (vS 0) <| zN (qW 1 dG dJ) <| zZ) ?_
 refine jA ?_
 have bn1 : mG (kT (((Int.gcd a1.num a2.num : Nat) : Int))) (((Int.gcd a1.num a2.num : Nat) : Int)) 10000000 := (nJ (k := 10000000) (qZ ha1) (qZ ha2) (by decide))
 have bn2 : mG (kT (((Int.gcd a0.num (((Int.gcd a1.num a2.num : Nat) : Int)) : Nat) : Int))) (((Int.gcd a0.num (((Int.gcd a1.num a2.num : Nat) : Int)) : Nat) : Int)) 10000000 := (nJ (k := 10000000) (qZ ha0) bn1 (by decide))
 refine kd [(3, (.ref 2 0))] [(2, some (bx (jZ (kT ((Int.gcd a0.num (((Int.gcd a1.num a2.num : Nat) : Int)) : Nat) : Int)))))] mo (wE (uH uD 0) <| wE (kS yG) <| wR (kF kK) <| wE (uH uD 1) <| wE (kS yG) <| wR (kF kK) <| wE (uH uD 2) <| wE (kS yG) <| wR (kF kK) <| wE (kA (s_gcd (qZ ha1) (qZ ha2) (by decide) (by decide))) <| wE (kA (s_gcd (qZ ha0) bn1 (by decide) (by decide))) <| wN (qW 2 nN nR) <| wT (kW kK) <| wZ) ?_
 refine jA ?_
 have bn3 : QL (Rat.divInt 1 (((Int.gcd a0.num (((Int.gcd a1.num a2.num : Nat) : Int)) : Nat) : Int))) 10000000 := (qR (n := 10000000) (Nat.le_trans (mG.ln (cJ (z := 1) (by decide))) (by decide)) (Nat.le_trans (mG.ln bn2) (by decide)) (by decide))
 refine kd [(4, (.ref 3 0))] [(3, some (bx (jM (jB (Rat.divInt 1 (((Int.gcd a0.num (((Int.gcd a1.num a2.num : Nat) : Int)) : Nat) : Int)))))))] mo (wE (kA (t_of 1 (by decide) (by decide))) <| wR (kF kK) <| wE (kA (f_newO (kT 1) 1 (nS (cJ (z := 1) (by decide)) (by decide)) (kT ((Int.gcd a0.num (((Int.gcd a1.num a2.num : Nat) : Int)) : Nat) : Int)) (((Int.gcd a0.num (((Int.gcd a1.num a2.num : Nat) : Int)) : Nat) : Int)) (iu bn2) (gcd3_ne hz))) <| wM <| wE uZ <| wE uZ <| wN (qW 3 qA qH) <| wT (kW jO) <| wM <| wZ) ?_
 refine jA <| kx [] [(1, some (bx (jR (A3.mk (jB (a0 * (Rat.divInt 1 (((Int.gcd a0.num (((Int.gcd a1.num a2.num : Nat) : Int)) : Nat) : Int))))) (jB (a1 * (Rat.divInt 1 (((Int.gcd a0.num (((Int.gcd a1.num a2.num : Nat) : Int)) : Nat) : Int))))) (jB (a2 * (Rat.divInt 1 (((Int.gcd a0.num (((Int.gcd a1.num a2.num : Nat) : Int)) : Nat) : Int)))))))))] (zR (kF uC) <| zR (kF jO) <| zE (kA (fF a0 a1 a2 (qu ha0) (qu ha1) (qu ha2) (Rat.divInt 1 (((Int.gcd a0.num (((Int.gcd a1.num a2.num : Nat) : Int)) : Nat) : Int))) (qu bn3))) <| zT (kW uC) <| zZ) ?_
 refine jJ ⟨_, (qC (cs := (bx (jR (A3.mk (jB (a0 * (Rat.divInt 1 (((Int.gcd a0.num (((Int.gcd a1.num a2.num : Nat) : Int)) : Nat) : Int))))) (jB (a1 * (Rat.divInt 1 (((Int.gcd a0.num (((Int.gcd a1.num a2.num : Nat) : Int)) : Nat) : Int))))) (jB (a2 * (Rat.divInt 1 (((Int.gcd a0.num (((Int.gcd a1.num a2.num : Nat) : Int)) : Nat) : Int))))))))) (d := (jR (A3.mk (jB (a0 * (Rat.divInt 1 (((Int.gcd a0.num (((Int.gcd a1.num a2.num : Nat) : Int)) : Nat) : Int))))) (jB (a1 * (Rat.divInt 1 (((Int.gcd a0.num (((Int.gcd a1.num a2.num : Nat) : Int)) : Nat) : Int))))) (jB (a2 * (Rat.divInt 1 (((Int.gcd a0.num (((Int.gcd a1.num a2.num : Nat) : Int)) : Nat) : Int)))))))) rfl rfl uC rfl rfl .nil), ?_⟩
 rfl
theorem qs_red (a0 a1 a2 : Rat) (ha0 : QL a0 10000000) (ha1 : QL a1 10000000) (ha2 : QL a2 10000000) (hz : gA a0 a1 a2 = false) : kH Tryz.prog 80 [(jR (A3.mk (jB a0) (jB a1) (jB a2)))] (jR (A3.mk (jB (a0 * (yM a0 a1 a2))) (jB (a1 * (yM a0 a1 a2))) (jB (a2 * (yM a0 a1 a2))))) := by
 let y1 := (kC.mk (jK.mk false []) (jK.mk false []))
 refine jP Tryz.func80 rfl cb80 rfl ?_
 show uK _ _ _ _ ⟨[(0, (.d (jR (A3.mk (jB a0) (jB a1) (jB a2)))))], []⟩
 refine jA <| kx [(1, (.ref 0 0)), (2, (.ref 1 0))] [(0, some (bx (jR (A3.mk (jB a0) (jB a1) (jB a2))))), (1, some (bx (jR (A3.mk y1 y1 y1))))] (zN (vS 0) <| zN (qW 1 aM aO) <| zZ) ?_
 refine jA <| kx [(3, (.ref 2 0))] [(2, some (bx (jZ (kT 0))))] (zE (kA (r_of 0 (by decide) (by decide))) <| zN (qW 2 nN nR) <| zT (kW kK) <| zZ) ?_
 refine jA <| jA <| kx [(9, (.d (jR (A3.mk (jB a0) (jB a1) (jB a2))))), (10, (kD 0))] [] (zR (kF vX) <| zM <| zZ) ?_
 refine jF <| kN 20 ?_
 refine kU <| jA <| kx [(11, (vb true))] [] (zE (qL true qI) <| zZ) ?_
 refine jA <| jS ?_
 refine jE <| jA <| jF <| jA <| kx [(5, (.ref 3 0))] [(3, some (bx (jM (jB a0))))] (zE (oXa vE jO (fun h => by cases h) 0) <| zN (qW 3 qA qH) <| zT (kW jO) <| zZ) ?_
 have bn1 : mG (kT (((Int.gcd 0 a0.num : Nat) : Int))) (((Int.gcd 0 a0.num : Nat) : Int)) 10000000 := (nJ (k := 10000000) (cJ (z := 0) (by decide)) (qZ ha0) (by decide))
 refine kx [] [(2, some (bx (jZ (kT ((Int.gcd 0 a0.num : Nat) : Int)))))] (zR (kF kK) <| zE (kS yG) <| zR (kF kK) <| zE (kA (rs_gcd (cJ (z := 0) (by decide)) (qZ ha0) (by decide) (by decide))) <| zT (kW kK) <| zZ) ?_
 refine kx [(10, (kD 1))] [] (zE (qP 1 (hr := by decide)) <| zM <| zZ) ?_
 refine jI (jT.refl _) ?_
 refine jA <| kx [(11, (vb true))] [] (zE (qL true qI) <| zZ) ?_
 refine jA <| jS ?_
 refine jE <| jA <| jF <| jA <| kx [(5, (.ref 4 0))] [(4, some (bx (jM (jB a1))))] (zE (oXa vE jO (fun h => by cases h) 1) <| zN (qW 4 qA qH) <| zT (kW jO) <| zZ) ?_
 have bn2 : mG (kT (((Int.gcd (((Int.gcd 0 a0.num : Nat) : Int)) a1.num : Nat) : Int))) (((Int.gcd (((Int.gcd 0 a0.num : Nat) : Int)) a1.num : Nat) : Int)) 10000000 := (nJ (k := 10000000) bn1 (qZ ha1) (by decide))
 refine kx [] [(2, some (bx (jZ (kT ((Int.gcd (((Int.gcd 0 a0.num : Nat) : Int)) a1.num : Nat) : Int)))))] (zR (kF kK) <| zE (kS yG) <| zR (kF kK) <| zE (kA (rs_gcd bn1 (qZ ha1) (by decide) (by decide))) <| zT (kW kK) <| zZ) ?_
 refine kx [(10, (kD 2))] [] (zE (qP 2 (hr := by decide)) <| zM <| zZ) ?_
 refine jI (jT.refl _) ?_
 refine jA <| kx [(11, (vb true))] [] (zE (qL true qI) <| zZ) ?_
 refine jA <| jS ?_
 refine jE <| jA <| jF <| jA <| kx [(5, (.ref 5 0))] [(5, some (bx (jM (jB a2))))] (zE (oXa vE jO (fun h => by cases h) 2) <| zN (qW 5 qA qH) <| zT (kW jO) <| zZ) ?_
 have bn3 : mG (kT (fP a0 a1 a2)) (fP a0 a1 a2) 10000000 := (iok_eqz (gcd3_ref a0 a1 a2).symm (nJ (k := 10000000) bn2 (qZ ha2) (by decide)))
 refine kx [] [(2, some (bx (jZ (kT (fP a0 a1 a2)))))] (zR (kF kK) <| zE (kS yG) <| zR (kF kK) <| zE (kA (by have h := rs_gcd bn2 (qZ ha2) (by decide) (by decide); rw [(gcd3_ref a0 a1 a2)] at h; exact h)) <| zT (kW kK) <| zZ) ?_
 refine kJ (wk (l := [(1, (.ref 0 0)), (2, (.ref 1 0)), (3, (.ref 2 0)), (9, (.d (jR (A3.mk (jB a0) (jB a1) (jB a2))))), (10, (kD 2))]) (b := [(0, some (bx (jR (A3.mk (jB a0) (jB a1) (jB a2))))), (1, some (bx (jR (A3.mk y1 y1 y1)))), (2, some (bx (jZ (kT (fP a0 a1 a2)))))])) ?_
 refine kx [(10, (kD 3))] [] (zE (qP 3 (hr := by decide)) <| zM <| zZ) ?_
 refine jI (jT.refl _) ?_
 refine jA <| kx [(11, (vb false))] [] (zE (qL false qI) <| zZ) ?_
 refine jA <| kG ?_
 refine kB <| jA ?_
 have bn4 : QL (Rat.divInt 1 (fP a0 a1 a2)) 10000000 := (qR (n := 10000000) (Nat.le_trans (mG.ln (cJ (z := 1) (by decide))) (by decide)) (Nat.le_trans (mG.ln bn3) (by decide)) (by decide))
 refine kd [(6, (.ref 6 0))] [(6, some (bx (jM (jB (Rat.divInt 1 (fP a0 a1 a2))))))] mo (wE (kA (r_of 1 (by decide) (by decide))) <| wR (kF kK) <| wE (kA (g_newO (kT 1) 1 (nS (cJ (z := 1) (by decide)) (by decide)) (kT (fP a0 a1 a2)) (fP a0 a1 a2) (iu bn3) (gcd3_ne hz))) <| wM <| wE uZ <| wE uZ <| wN (qW 6 qA qH) <| wT (kW jO) <| wM <| wZ) ?_
 refine jA <| kx [] [(1, some (bx (jR (A3.mk (jB (a0 * (Rat.divInt 1 (fP a0 a1 a2)))) (jB (a1 * (Rat.divInt 1 (fP a0 a1 a2)))) (jB (a2 * (Rat.divInt 1 (fP a0 a1 a2))))))))] (zR (kF vX) <| zR (kF jO) <| zE (kA (nQ a0 a1 a2 (qu ha0) (qu ha1) (qu ha2) (Rat.divInt 1 (fP a0 a1 a2)) (qu bn4))) <| zT (kW vX) <| zZ) ?_
 refine jJ ⟨_, (qC (cs := (bx (jR (A3.mk (jB (a0 * (Rat.divInt 1 (fP a0 a1 a2)))) (jB (a1 * (Rat.divInt 1 (fP a0 a1 a2)))) (jB (a2 * (Rat.divInt 1 (fP a0 a1 a2)))))))) (d := (jR (A3.mk (jB (a0 * (Rat.divInt 1 (fP a0 a1 a2)))) (jB (a1 * (Rat.divInt 1 (fP a0 a1 a2)))) (jB (a2 * (Rat.divInt 1 (fP a0 a1 a2))))))) rfl rfl vX rfl rfl .nil), ?_⟩
 rfl
theorem q_isz (a0 a1 a2 : Rat) (ha0 : QL a0 100000000) (ha1 : QL a1 100000000) (ha2 : QL a2 100000000) : kH Tryz.prog 128 [(jR (A3.mk (jB a0) (jB a1) (jB a2)))] (.val (.bool ((gA a0 a1 a2)))) := by
 refine jP Tryz.func128 rfl cb128 rfl ?_
 show uK _ _ _ _ ⟨[(0, (.d (jR (A3.mk (jB a0) (jB a1) (jB a2)))))], []⟩
 refine jA <| kx [(1, (.ref 0 0))] [(0, some (bx (jR (A3.mk (jB a0) (jB a1) (jB a2)))))] (zN (vS 0) <| zM <| zZ) ?_
 refine jA <| kx [(2, (vb ((uI (jG a0 a1 a2 a0 a1 a2)) == 0)))] [] (zR (kF uC) <| zR (kF uC) <| zE (kA (q_dot a0 a1 a2 ha0 ha1 ha2 a0 a1 a2 ha0 ha1 ha2)) <| zE (kA (f_sign (jB (jG a0 a1 a2 a0 a1 a2)) (jG a0 a1 a2 a0 a1 a2) (jX (jY (jL (n := 100000000) (k := 600000002) ha0 ha1 ha2 ha0 ha1 ha2 (by decide))) (by decide)))) <| zE cB <| zM <| zZ) ?_
 refine jJ ⟨_, (.tmp (d := (.val (.bool (((uI (jG a0 a1 a2 a0 a1 a2)) == 0))))) rfl .nil), ?_⟩
 rw [← zeroV_dot]; rfl
theorem qs_zero (a0 a1 a2 : Rat) (ha0 : QL a0 100000000) (ha1 : QL a1 100000000) (ha2 : QL a2 100000000) : kH Tryz.prog 79 [(jR (A3.mk (jB a0) (jB a1) (jB a2)))] (.val (.bool ((gA a0 a1 a2)))) := by
 refine jP Tryz.func79 rfl cb79 rfl ?_
 show uK _ _ _ _ ⟨[(0, (.d (jR (A3.mk (jB a0) (jB a1) (jB a2)))))], []⟩
 refine jA <| kx [(1, (.ref 0 0))] [(0, some (bx (jR (A3.mk (jB a0) (jB a1) (jB a2)))))] (zN (vS 0) <| zM <| zZ) ?_
 refine jA <| kx [(2, (vb ((((uI a0) == 0) && ((uI a1) == 0)) && ((uI a2) == 0))))] [] ?_ ?_
 ·refine zE (uH vE 0) <| zR (kF jO) <| zE (kA (gQ (jB a0) a0 (jX (jY ha0) (by decide)))) <| zE cB <| zE (oV (vb ((uI a0) == 0)) (xI (by kernel_rfl))) <| ?_
  rcases hb1 : ((uI a0) == 0) with _ | _
  ·replace hb1 := ne_of_beq_false hb1
   exact zK <| zK <| zK <| zK <| zE iL <| zM <| zK <| zK <| zK <| zK <| zE iL <| zM <| zZ
  ·replace hb1 := eq_of_beq hb1
   refine zE (uH vE 1) <| zR (kF jO) <| zE (kA (gQ (jB a1) a1 (jX (jY ha1) (by decide)))) <| zE cB <| zE oPa <| zE (oV (vb (true && ((uI a1) == 0))) (xI (by kernel_rfl))) <| ?_
   rcases hb2 : (true && ((uI a1) == 0)) with _ | _
   ·exact zK <| zK <| zK <| zK <| zE iL <| zM <| zZ
   ·exact zE (uH vE 2) <| zR (kF jO) <| zE (kA (gQ (jB a2) a2 (jX (jY ha2) (by decide)))) <| zE cB <| zE oPa <| zM <| zZ
 refine jJ ⟨_, (.tmp (d := (.val (.bool (((((uI a0) == 0) && ((uI a1) == 0)) && ((uI a2) == 0)))))) rfl .nil), ?_⟩
 rw [zeroV_sgn]; rfl
end Go.Proofs.YtbecgnplakngdaaGreat
