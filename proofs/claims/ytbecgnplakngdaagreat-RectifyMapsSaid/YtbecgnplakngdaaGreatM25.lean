/- Part 25 of a proof: rules, plain facts, and functions walked. -/
import Derived.Test.YtbecgnplakngdaaGreatM24
namespace Go.Proofs.YtbecgnplakngdaaGreat
open Go.Fid
set_option maxRecDepth 4000
set_option linter.unusedVariables false
set_option linter.unusedSimpArgs false
theorem cb69 : callB Tryz.prog 69 = true := by kernel_rfl
theorem cb71 : callB Tryz.prog 71 = true := by kernel_rfl
theorem cb75 : callB Tryz.prog 75 = true := by kernel_rfl
theorem cb76 : callB Tryz.prog 76 = true := by kernel_rfl
theorem cb79 : callB Tryz.prog 79 = true := by kernel_rfl
theorem cb80 : callB Tryz.prog 80 = true := by kernel_rfl
theorem cb125 : callB Tryz.prog 125 = true := by kernel_rfl
theorem cb127 : callB Tryz.prog 127 = true := by kernel_rfl
theorem cb128 : callB Tryz.prog 128 = true := by kernel_rfl
theorem mV : xE Tryz.prog 23 0 = some 0 := by kernel_rfl
theorem cN : xE Tryz.prog 23 1 = some 1 := by kernel_rfl
theorem cL : xE Tryz.prog 23 2 = some 2 := by kernel_rfl
theorem fo27_0 : xE Tryz.prog 27 0 = some 0 := by kernel_rfl
theorem fo27_1 : xE Tryz.prog 27 1 = some 1 := by kernel_rfl
theorem yP : xE Tryz.prog 29 0 = some 0 := by kernel_rfl
theorem zY : xE Tryz.prog 29 1 = some 3 := by kernel_rfl
theorem bK : xE Tryz.prog 29 2 = some 7 := by kernel_rfl
theorem mQ : xE Tryz.prog 29 3 = some 8 := by kernel_rfl
theorem sh52 : uK Tryz.prog 52 = some (false, 1) := by kernel_rfl
theorem fY (a b c d : Int) (ha : -1048576 ≤ a ∧ a ≤ 1048576) (hb : -1048576 ≤ b ∧ b ≤ 1048576) (hc : -1048576 ≤ c ∧ c ≤ 1048576) (hd : -1048576 ≤ d ∧ d ≤ 1048576) (hq : yY a b c d = 0) : kE Tryz.prog 69 [(uJ (jK.mk a b c d))] (qW (A3.mk (A3.mk (jB (vY a b c d)) (jB (vX a b c d)) (jB (uL a b c d))) (A3.mk (jB (xA a b c d)) (jB (xB a b c d)) (jB (uN a b c d))) (A3.mk (jB (xD a b c d)) (jB (xF a b c d)) (jB (uO a b c d))))) := by
 have hn0 := nq_ne hq
 have hnq := xV ha hb hc hd
 let y4 := (A3.mk (jQ.mk (jF.mk false []) (jF.mk false [])) (jQ.mk (jF.mk false []) (jF.mk false [])) (jQ.mk (jF.mk false []) (jF.mk false [])))
 let y3 := (bx (qW (A3.mk (A3.mk (jB (vY a b c d)) (jB (vX a b c d)) (jB (uL a b c d))) (A3.mk (jB (xA a b c d)) (jB (xB a b c d)) (jB (uN a b c d))) (A3.mk (jB (xD a b c d)) (jB (xF a b c d)) (jB (uO a b c d))))))
 let y2 := (bx (qW (A3.mk (A3.mk (jB (vY a b c d)) (jB (vX a b c d)) (jB (uL a b c d))) (A3.mk (jB (xA a b c d)) (jB (xB a b c d)) (jB (uN a b c d))) y4)))
 let y1 := (bx (qW (A3.mk y4 y4 y4)))
 refine jN Tryz.func69 rfl cb69 rfl ?_
 show uT _ _ _ _ ⟨[(0, (.d (uJ (jK.mk a b c d))))], []⟩
 refine jA <| kx [(1, (.ref 0 0)), (2, (.ref 1 0))] [(0, some (bx (uJ (jK.mk a b c d)))), (1, some y1)] (zN (uX 0) <| zN (qS 1 dQ dM) <| zZ) ?_
 refine jA ?_
 have bn1 : QL (Q00 a b c d) 3 := (kQ00)
 have bn2 : QL (Q01 a b c d) 3 := (kQ01)
 have bn3 : QL (Q02 a b c d) 3 := (kQ02)
 have bn4 : QL (Q10 a b c d) 3 := (kQ10)
 have bn5 : QL (Q11 a b c d) 3 := (kQ11)
 have bn6 : QL (Q12 a b c d) 3 := (kQ12)
 have bn7 : QL (Q20 a b c d) 3 := (kQ20)
 have bn8 : QL (Q21 a b c d) 3 := (kQ21)
 have bn9 : QL (Q22 a b c d) 3 := (kQ22)
 refine kx [(3, (vl 52 1 qJ [[(jB (Q00 a b c d)), (jB (Q01 a b c d)), (jB (Q02 a b c d))], [(jB (Q10 a b c d)), (jB (Q11 a b c d)), (jB (Q12 a b c d))], [(jB (Q20 a b c d)), (jB (Q21 a b c d)), (jB (Q22 a b c d))]]))] [] (zR (kC zV) <| zE (kA (q_rmat a b c d (by omega) (by omega) (by omega) (by omega) hq hn0)) <| zM <| zE uH <| zE uH <| zM <| zM <| zZ) ?_
 refine jA ?_
 have bn10 : QL (N4 a b c d) 3 := (jW (Eq.symm (show ((nq a b c d : Int) : Rat) = N4 a b c d from rfl)) (kQ (z := (nq a b c d)) (jO (by omega) (by omega)) (by decide)))
 refine kx [(5, (.ref 2 0))] [(2, some (bx (jR (jB (N4 a b c d)))))] (zR (kC zV) <| zE (kA (q_norm a b c d (by omega) (by omega) (by omega) (by omega))) <| zE (kA (by have h := gX (nq a b c d) (by omega) (by omega); rw [(show ((nq a b c d : Int) : Rat) = N4 a b c d from rfl)] at h; exact h)) <| zN (qS 2 qR qY) <| zT (qB jT) <| zZ) ?_
 refine jA <| kx [(6, (.ref 3 0))] [(3, some y1)] (zN (qS 3 dQ dM) <| zZ) ?_
 refine jA <| jA <| kx [(16, (kX 0))] [] (zM <| zZ) ?_
 refine jG <| qU 20 ?_
 refine uF <| jA <| kx [(17, (vb true))] [] (zE (vB true uW) <| zZ) ?_
 refine jA <| kS ?_
 refine jE <| jA <| jG <| jA <| kx [(7, (kX 0))] [] (zM <| zM <| zZ) ?_
 have bn11 : QL (vY a b c d) 6 := (jW (Eq.symm (Q00_n (a := a) (b := b) (c := c) (d := d) hn0)) (jH (k := 6) bn1 bn10 (by decide)))
 have bn12 : QL (vX a b c d) 6 := (jW (Eq.symm (Q01_n (a := a) (b := b) (c := c) (d := d) hn0)) (jH (k := 6) bn2 bn10 (by decide)))
 have bn13 : QL (uL a b c d) 6 := (jW (Eq.symm (Q02_n (a := a) (b := b) (c := c) (d := d) hn0)) (jH (k := 6) bn3 bn10 (by decide)))
 refine kd [] [(3, some (bx (qW (A3.mk (A3.mk (jB (vY a b c d)) (jB (vX a b c d)) (jB (uL a b c d))) y4 y4))))] mo (wM <| wM <| wM <| wE (gL nN 0) <| wE (gA sh52) <| wE (gL vT 0) <| wE (cG jT) <| wM <| wM <| wE (gL nN 0) <| wE (gA sh52) <| wE (gL vT 1) <| wE (cG jT) <| wM <| wM <| wE (gL nN 0) <| wE (gA sh52) <| wE (gL vT 2) <| wE (cG jT) <| wE (oBf uE yN yO) <| wR (kC jT) <| wE (kA (by have h := nJ (Q00 a b c d) (Q01 a b c d) (Q02 a b c d) (qu bn1) (qu bn2) (qu bn3) (N4 a b c d) (qu bn10); rw [(Q00_n (a := a) (b := b) (c := c) (d := d) hn0), (Q01_n (a := a) (b := b) (c := c) (d := d) hn0), (Q02_n (a := a) (b := b) (c := c) (d := d) hn0)] at h; exact h)) <| wE (vF vH 0) <| wT (qB qO) <| wZ) ?_
 refine kx [(16, (kX 1))] [] (zE (uZ 1 (hr := by decide)) <| zM <| zZ) ?_
 refine jV (kU.refl _) ?_
 refine jA <| kx [(17, (vb true))] [] (zE (vB true uW) <| zZ) ?_
 refine jA <| kS ?_
 refine jE <| jA <| jG <| jA <| kx [(7, (kX 1))] [] (zM <| zM <| zZ) ?_
 have bn14 : QL (xA a b c d) 6 := (jW (Eq.symm (Q10_n (a := a) (b := b) (c := c) (d := d) hn0)) (jH (k := 6) bn4 bn10 (by decide)))
 have bn15 : QL (xB a b c d) 6 := (jW (Eq.symm (Q11_n (a := a) (b := b) (c := c) (d := d) hn0)) (jH (k := 6) bn5 bn10 (by decide)))
 have bn16 : QL (uN a b c d) 6 := (jW (Eq.symm (Q12_n (a := a) (b := b) (c := c) (d := d) hn0)) (jH (k := 6) bn6 bn10 (by decide)))
 refine kd [] [(3, some y2)] mo (wM <| wM <| wM <| wE (gL nN 1) <| wE (gA sh52) <| wE (gL vT 0) <| wE (cG jT) <| wM <| wM <| wE (gL nN 1) <| wE (gA sh52) <| wE (gL vT 1) <| wE (cG jT) <| wM <| wM <| wE (gL nN 1) <| wE (gA sh52) <| wE (gL vT 2) <| wE (cG jT) <| wE (oBf uE yN yO) <| wR (kC jT) <| wE (kA (by have h := nJ (Q10 a b c d) (Q11 a b c d) (Q12 a b c d) (qu bn4) (qu bn5) (qu bn6) (N4 a b c d) (qu bn10); rw [(Q10_n (a := a) (b := b) (c := c) (d := d) hn0), (Q11_n (a := a) (b := b) (c := c) (d := d) hn0), (Q12_n (a := a) (b := b) (c := c) (d := d) hn0)] at h; exact h)) <| wE (vF vH 1) <| wT (qB qO) <| wZ) ?_
 refine kx [(16, (kX 2))] [] (zE (uZ 2 (hr := by decide)) <| zM <| zZ) ?_
 refine jV (kU.refl _) ?_
 refine jA <| kx [(17, (vb true))] [] (zE (vB true uW) <| zZ) ?_
 refine jA <| kS ?_
 refine jE <| jA <| jG <| jA <| qM (wk (l := [(2, (.ref 1 0)), (3, (vl 52 1 qJ [[(jB (Q00 a b c d)), (jB (Q01 a b c d)), (jB (Q02 a b c d))], [(jB (Q10 a b c d)), (jB (Q11 a b c d)), (jB (Q12 a b c d))], [(jB (Q20 a b c d)), (jB (Q21 a b c d)), (jB (Q22 a b c d))]])), (5, (.ref 2 0)), (6, (.ref 3 0)), (16, (kX 2)), (17, (vb true))]) (b := [(1, some y1), (2, some (bx (jR (jB (N4 a b c d))))), (3, some y2)])) ?_
 refine kx [(7, (kX 2))] [] (zM <| zM <| zZ) ?_
 have bn17 : QL (xD a b c d) 6 := (jW (Eq.symm (Q20_n (a := a) (b := b) (c := c) (d := d) hn0)) (jH (k := 6) bn7 bn10 (by decide)))
 have bn18 : QL (xF a b c d) 6 := (jW (Eq.symm (Q21_n (a := a) (b := b) (c := c) (d := d) hn0)) (jH (k := 6) bn8 bn10 (by decide)))
 have bn19 : QL (uO a b c d) 6 := (jW (Eq.symm (Q22_n (a := a) (b := b) (c := c) (d := d) hn0)) (jH (k := 6) bn9 bn10 (by decide)))
 refine kd [] [(3, some y3)] mo (wM <| wM <| wM <| wE (gL nN 2) <| wE (gA sh52) <| wE (gL vT 0) <| wE (cG jT) <| wM <| wM <| wE (gL nN 2) <| wE (gA sh52) <| wE (gL vT 1) <| wE (cG jT) <| wM <| wM <| wE (gL nN 2) <| wE (gA sh52) <| wE (gL vT 2) <| wE (cG jT) <| wE (oBf uE yN yO) <| wR (kC jT) <| wE (kA (by have h := nJ (Q20 a b c d) (Q21 a b c d) (Q22 a b c d) (qu bn7) (qu bn8) (qu bn9) (N4 a b c d) (qu bn10); rw [(Q20_n (a := a) (b := b) (c := c) (d := d) hn0), (Q21_n (a := a) (b := b) (c := c) (d := d) hn0), (Q22_n (a := a) (b := b) (c := c) (d := d) hn0)] at h; exact h)) <| wE (vF vH 2) <| wT (qB qO) <| wZ) ?_
 refine kx [(16, (kX 3))] [] (zE (uZ 3 (hr := by decide)) <| zM <| zZ) ?_
 refine jV (kU.refl _) ?_
 refine jA <| kx [(17, (vb false))] [] (zE (vB false uW) <| zZ) ?_
 refine jA <| kY ?_
 refine qF <| jA <| kx [] [(1, some y3)] (zR (kC gJ) <| zT (qB gJ) <| zZ) ?_
 refine jJ ⟨_, (qI (cs := (bx (qW (A3.mk (A3.mk (jB (vY a b c d)) (jB (vX a b c d)) (jB (uL a b c d))) (A3.mk (jB (xA a b c d)) (jB (xB a b c d)) (jB (uN a b c d))) (A3.mk (jB (xD a b c d)) (jB (xF a b c d)) (jB (uO a b c d))))))) (d := (qW (A3.mk (A3.mk (jB (vY a b c d)) (jB (vX a b c d)) (jB (uL a b c d))) (A3.mk (jB (xA a b c d)) (jB (xB a b c d)) (jB (uN a b c d))) (A3.mk (jB (xD a b c d)) (jB (xF a b c d)) (jB (uO a b c d)))))) rfl rfl gJ rfl rfl .nil), ?_⟩
 rfl
theorem qs_mat (a b c d : Int) (ha : -1048576 ≤ a ∧ a ≤ 1048576) (hb : -1048576 ≤ b ∧ b ≤ 1048576) (hc : -1048576 ≤ c ∧ c ≤ 1048576) (hd : -1048576 ≤ d ∧ d ≤ 1048576) (hq : yY a b c d = 0) : kE Tryz.prog 76 [(uJ (jK.mk a b c d))] (cZ (A3.mk (A3.mk (jB (vY a b c d)) (jB (vX a b c d)) (jB (uL a b c d))) (A3.mk (jB (xA a b c d)) (jB (xB a b c d)) (jB (uN a b c d))) (A3.mk (jB (xD a b c d)) (jB (xF a b c d)) (jB (uO a b c d))))) := by
 have hn0 := nq_ne hq
 have hnq := xV ha hb hc hd
 let y4 := (A3.mk (jQ.mk (jF.mk false []) (jF.mk false [])) (jQ.mk (jF.mk false []) (jF.mk false [])) (jQ.mk (jF.mk false []) (jF.mk false [])))
 let y3 := (bx (cZ (A3.mk (A3.mk (jB (vY a b c d)) (jB (vX a b c d)) (jB (uL a b c d))) (A3.mk (jB (xA a b c d)) (jB (xB a b c d)) (jB (uN a b c d))) (A3.mk (jB (xD a b c d)) (jB (xF a b c d)) (jB (uO a b c d))))))
 let y2 := (bx (cZ (A3.mk (A3.mk (jB (vY a b c d)) (jB (vX a b c d)) (jB (uL a b c d))) (A3.mk (jB (xA a b c d)) (jB (xB a b c d)) (jB (uN a b c d))) y4)))
 let y1 := (bx (cZ (A3.mk y4 y4 y4)))
 refine jN Tryz.func76 rfl cb76 rfl ?_
 show uT _ _ _ _ ⟨[(0, (.d (uJ (jK.mk a b c d))))], []⟩
 refine jA <| kx [(1, (.ref 0 0)), (2, (.ref 1 0))] [(0, some (bx (uJ (jK.mk a b c d)))), (1, some y1)] (zN (uX 0) <| zN (qS 1 ze45 zo45) <| zZ) ?_
 refine jA ?_
 have bn1 : QL (Q00 a b c d) 3 := (kQ00)
 have bn2 : QL (Q01 a b c d) 3 := (kQ01)
 have bn3 : QL (Q02 a b c d) 3 := (kQ02)
 have bn4 : QL (Q10 a b c d) 3 := (kQ10)
 have bn5 : QL (Q11 a b c d) 3 := (kQ11)
 have bn6 : QL (Q12 a b c d) 3 := (kQ12)
 have bn7 : QL (Q20 a b c d) 3 := (kQ20)
 have bn8 : QL (Q21 a b c d) 3 := (kQ21)
 have bn9 : QL (Q22 a b c d) 3 := (kQ22)
 refine kx [(3, (vl 52 1 qJ [[(jB (Q00 a b c d)), (jB (Q01 a b c d)), (jB (Q02 a b c d))], [(jB (Q10 a b c d)), (jB (Q11 a b c d)), (jB (Q12 a b c d))], [(jB (Q20 a b c d)), (jB (Q21 a b c d)), (jB (Q22 a b c d))]]))] [] (zR (kC zV) <| zE (kA (qs_rmat a b c d (by omega) (by omega) (by omega) (by omega) hq hn0)) <| zM <| zE uH <| zE uH <| zM <| zM <| zZ) ?_
 refine jA <| kx [(5, (.ref 2 0))] [(2, some y1)] (zE (oBa mU ze45 zo45) <| zN (qS 2 ze45 zo45) <| zT (qB sh45) <| zZ) ?_
 refine jA <| jA <| kx [(13, (kX 0))] [] (zM <| zZ) ?_
 refine jG <| qU 20 ?_
 refine uF <| jA <| kx [(14, (vb true))] [] (zE (vB true uW) <| zZ) ?_
 refine jA <| kS ?_
 refine jE <| jA <| jG <| jA <| kx [(6, (kX 0))] [] (zM <| zM <| zZ) ?_
 have bn10 : QL (N4 a b c d) 3 := (kN4)
 have bn11 : QL (vY a b c d) 6 := (jW (Eq.symm (Q00_n (a := a) (b := b) (c := c) (d := d) hn0)) (jH (k := 6) bn1 bn10 (by decide)))
 have bn12 : QL (vX a b c d) 6 := (jW (Eq.symm (Q01_n (a := a) (b := b) (c := c) (d := d) hn0)) (jH (k := 6) bn2 bn10 (by decide)))
 have bn13 : QL (uL a b c d) 6 := (jW (Eq.symm (Q02_n (a := a) (b := b) (c := c) (d := d) hn0)) (jH (k := 6) bn3 bn10 (by decide)))
 refine kd [] [(2, some (bx (cZ (A3.mk (A3.mk (jB (vY a b c d)) (jB (vX a b c d)) (jB (uL a b c d))) y4 y4))))] mo (wM <| wM <| wM <| wE (gL nN 0) <| wE (gA sh52) <| wE (e_sap (cs := (qH.cells (jP (A3.mk (jB (Q00 a b c d)) (jB (Q01 a b c d)) (jB (Q02 a b c d)))))) (by exact rfl) yG (by exact rfl) (by kernel_rfl) (by kernel_rfl) (by kernel_rfl)) <| wE (cG vC) <| wR (kC zV) <| wE (kA (bG a b c d (by omega) (by omega) (by omega) (by omega))) <| wE (kA (by have h := yL (Q00 a b c d) (Q01 a b c d) (Q02 a b c d) (qu bn1) (qu bn2) (qu bn3) (N4 a b c d) (qu bn10); rw [(Q00_n (a := a) (b := b) (c := c) (d := d) hn0), (Q01_n (a := a) (b := b) (c := c) (d := d) hn0), (Q02_n (a := a) (b := b) (c := c) (d := d) hn0)] at h; exact h)) <| wE (vF mU 0) <| wT (qB vC) <| wZ) ?_
 refine kx [(13, (kX 1))] [] (zE (uZ 1 (hr := by decide)) <| zM <| zZ) ?_
 refine jV (kU.refl _) ?_
 refine jA <| kx [(14, (vb true))] [] (zE (vB true uW) <| zZ) ?_
 refine jA <| kS ?_
 refine jE <| jA <| jG <| jA <| kx [(6, (kX 1))] [] (zM <| zM <| zZ) ?_
 have bn14 : QL (xA a b c d) 6 := (jW (Eq.symm (Q10_n (a := a) (b := b) (c := c) (d := d) hn0)) (jH (k := 6) bn4 bn10 (by decide)))
 have bn15 : QL (xB a b c d) 6 := (jW (Eq.symm (Q11_n (a := a) (b := b) (c := c) (d := d) hn0)) (jH (k := 6) bn5 bn10 (by decide)))
 have bn16 : QL (uN a b c d) 6 := (jW (Eq.symm (Q12_n (a := a) (b := b) (c := c) (d := d) hn0)) (jH (k := 6) bn6 bn10 (by decide)))
 refine kd [] [(2, some y2)] mo (wM <| wM <| wM <| wE (gL nN 1) <| wE (gA sh52) <| wE (e_sap (cs := (qH.cells (jP (A3.mk (jB (Q10 a b c d)) (jB (Q11 a b c d)) (jB (Q12 a b c d)))))) (by exact rfl) yG (by exact rfl) (by kernel_rfl) (by kernel_rfl) (by kernel_rfl)) <| wE (cG vC) <| wR (kC zV) <| wE (kA (bG a b c d (by omega) (by omega) (by omega) (by omega))) <| wE (kA (by have h := yL (Q10 a b c d) (Q11 a b c d) (Q12 a b c d) (qu bn4) (qu bn5) (qu bn6) (N4 a b c d) (qu bn10); rw [(Q10_n (a := a) (b := b) (c := c) (d := d) hn0), (Q11_n (a := a) (b := b) (c := c) (d := d) hn0), (Q12_n (a := a) (b := b) (c := c) (d := d) hn0)] at h; exact h)) <| wE (vF mU 1) <| wT (qB vC) <| wZ) ?_
 refine kx [(13, (kX 2))] [] (zE (uZ 2 (hr := by decide)) <| zM <| zZ) ?_
 refine jV (kU.refl _) ?_
 refine jA <| kx [(14, (vb true))] [] (zE (vB true uW) <| zZ) ?_
 refine jA <| kS ?_
 refine jE <| jA <| jG <| jA <| kx [(6, (kX 2))] [] (zM <| zM <| zZ) ?_
 refine qM (wk (l := [(1, (.ref 0 0)), (2, (.ref 1 0)), (3, (vl 52 1 qJ [[(jB (Q00 a b c d)), (jB (Q01 a b c d)), (jB (Q02 a b c d))], [(jB (Q10 a b c d)), (jB (Q11 a b c d)), (jB (Q12 a b c d))], [(jB (Q20 a b c d)), (jB (Q21 a b c d)), (jB (Q22 a b c d))]])), (5, (.ref 2 0)), (6, (kX 2)), (13, (kX 2))]) (b := [(0, some (bx (uJ (jK.mk a b c d)))), (1, some y1), (2, some y2)])) ?_
 have bn17 : QL (xD a b c d) 6 := (jW (Eq.symm (Q20_n (a := a) (b := b) (c := c) (d := d) hn0)) (jH (k := 6) bn7 bn10 (by decide)))
 have bn18 : QL (xF a b c d) 6 := (jW (Eq.symm (Q21_n (a := a) (b := b) (c := c) (d := d) hn0)) (jH (k := 6) bn8 bn10 (by decide)))
 have bn19 : QL (uO a b c d) 6 := (jW (Eq.symm (Q22_n (a := a) (b := b) (c := c) (d := d) hn0)) (jH (k := 6) bn9 bn10 (by decide)))
 refine kd [] [(2, some y3)] mo (wM <| wM <| wM <| wE (gL nN 2) <| wE (gA sh52) <| wE (e_sap (cs := (qH.cells (jP (A3.mk (jB (Q20 a b c d)) (jB (Q21 a b c d)) (jB (Q22 a b c d)))))) (by exact rfl) yG (by exact rfl) (by kernel_rfl) (by kernel_rfl) (by kernel_rfl)) <| wE (cG vC) <| wR (kC zV) <| wE (kA (bG a b c d (by omega) (by omega) (by omega) (by omega))) <| wE (kA (by have h := yL (Q20 a b c d) (Q21 a b c d) (Q22 a b c d) (qu bn7) (qu bn8) (qu bn9) (N4 a b c d) (qu bn10); rw [(Q20_n (a := a) (b := b) (c := c) (d := d) hn0), (Q21_n (a := a) (b := b) (c := c) (d := d) hn0), (Q22_n (a := a) (b := b) (c := c) (d := d) hn0)] at h; exact h)) <| wE (vF mU 2) <| wT (qB vC) <| wZ) ?_
 refine kx [(13, (kX 3))] [] (zE (uZ 3 (hr := by decide)) <| zM <| zZ) ?_
 refine jV (kU.refl _) ?_
 refine jA <| kx [(14, (vb false))] [] (zE (vB false uW) <| zZ) ?_
 refine jA <| kY ?_
 refine qF <| jA <| kx [] [(1, some y3)] (zR (kC sh45) <| zT (qB sh45) <| zZ) ?_
 refine jJ ⟨_, (qI (cs := (bx (cZ (A3.mk (A3.mk (jB (vY a b c d)) (jB (vX a b c d)) (jB (uL a b c d))) (A3.mk (jB (xA a b c d)) (jB (xB a b c d)) (jB (uN a b c d))) (A3.mk (jB (xD a b c d)) (jB (xF a b c d)) (jB (uO a b c d))))))) (d := (cZ (A3.mk (A3.mk (jB (vY a b c d)) (jB (vX a b c d)) (jB (uL a b c d))) (A3.mk (jB (xA a b c d)) (jB (xB a b c d)) (jB (uN a b c d))) (A3.mk (jB (xD a b c d)) (jB (xF a b c d)) (jB (uO a b c d)))))) rfl rfl sh45 rfl rfl .nil), ?_⟩
 rfl
theorem q_stn (sx sy sz sa sb sc sd sf su sv : Int) : kE Tryz.prog 125 [(uI (jX.mk (jM.mk sx sy sz) (jK.mk sa sb sc sd) sf (jZ.mk su sv)))] (.val (.int .i64 ((((qV sx sy sz su sv sf sa sb sc sd) : Nat) : Int)))) := by
 refine jN Tryz.func125 rfl cb125 rfl ?_
 show uT _ _ _ _ ⟨[(0, (.d (uI (jX.mk (jM.mk sx sy sz) (jK.mk sa sb sc sd) sf (jZ.mk su sv)))))], []⟩
 refine jA <| kx [(1, (.ref 0 0))] [(0, some (bx (uI (jX.mk (jM.mk sx sy sz) (jK.mk sa sb sc sd) sf (jZ.mk su sv)))))] (zN (uX 0) <| zM <| zZ) ?_
 refine jA <| jA <| kx [(20, (vl 3 1 mC [sx, sy, sz, su, sv])), (21, (kX 5)), (22, (kX 0))] [] (zE (qE yP) <| zE (qE mV) <| zR (vD vQ) <| zE (qE yP) <| zE (qE cN) <| zR (vD vQ) <| zE (qE yP) <| zE (qE cL) <| zR (vD vQ) <| zE (qE mQ) <| zE (qE fo27_0) <| zR (vD vQ) <| zE (qE mQ) <| zE (qE fo27_1) <| zR (vD vQ) <| zE (cH gU ze3 zo3) <| zE (oLn gU 5) <| zM <| zZ) ?_
 refine jG <| qU 20 ?_
 refine uF <| jA <| kx [(23, (vb true))] [] (zE (vB true uW) <| zZ) ?_
 refine jA <| kS ?_
 refine jE <| jA <| jG <| jA <| kx [(4, (vi sx))] [] (zE (gL gU 0) <| zE (gA vQ) <| zM <| zZ) ?_
 refine jA <| kx [(31, (vb (decide (sx < -1048576) || decide (((1048576 : Nat) : Int) < sx))))] [] ?_ ?_
 ·refine zM <| zE uW <| zE (oV (vb (decide (sx < -1048576))) (vZ (by kernel_rfl))) <| ?_
  rcases hb1 : (decide (sx < -1048576)) with _ | _
  ·replace hb1 := of_decide_eq_false hb1
   exact zM <| zE aG <| zE oPo <| zZ
  ·replace hb1 := of_decide_eq_true hb1
   exact zK <| zK <| zE eE <| zZ
 refine jY rfl (fun h2 => ?_) (fun h2 => ?_)
 ·refine jA <| kx [(2, (kX 2))] [] (zM <| zZ) ?_
  refine jJ ⟨_, (.tmp (d := (.val (.int .i64 (((2 : Nat) : Int))))) rfl .nil), ?_⟩
  first | (rw [show qV sx sy sz su sv sf sa sb sc sd = yY sa sb sc sd from mS (by unfold nS; simp_all <;> omega)]; rfl) | (rw [show qV sx sy sz su sv sf sa sb sc sd = 2 from mX (by unfold nS; simp_all <;> omega)]; rfl)
 ·refine jE <| kx [(22, (kX 1))] [] (zE (uZ 1 (hr := by decide)) <| zM <| zZ) ?_
  refine jV (kU.refl _) ?_
  refine jA <| kx [(23, (vb true))] [] (zE (vB true uW) <| zZ) ?_
  refine jA <| kS ?_
  refine jE <| jA <| jG <| jA <| kx [(4, (vi sy))] [] (zE (gL gU 1) <| zE (gA vQ) <| zM <| zZ) ?_
  refine jA <| kx [(31, (vb (decide (sy < -1048576) || decide (((1048576 : Nat) : Int) < sy))))] [] ?_ ?_
  ·refine zM <| zE uW <| zE (oV (vb (decide (sy < -1048576))) (vZ (by kernel_rfl))) <| ?_
   rcases hb3 : (decide (sy < -1048576)) with _ | _
   ·replace hb3 := of_decide_eq_false hb3
    exact zM <| zE aG <| zE oPo <| zZ
   ·replace hb3 := of_decide_eq_true hb3
    exact zK <| zK <| zE eE <| zZ
  refine jY rfl (fun h4 => ?_) (fun h4 => ?_)
  ·refine jA <| kx [(2, (kX 2))] [] (zM <| zZ) ?_
   refine jJ ⟨_, (.tmp (d := (.val (.int .i64 (((2 : Nat) : Int))))) rfl .nil), ?_⟩
   first | (rw [show qV sx sy sz su sv sf sa sb sc sd = yY sa sb sc sd from mS (by unfold nS; simp_all <;> omega)]; rfl) | (rw [show qV sx sy sz su sv sf sa sb sc sd = 2 from mX (by unfold nS; simp_all <;> omega)]; rfl)
  ·refine jE <| kx [(22, (kX 2))] [] (zE (uZ 2 (hr := by decide)) <| zM <| zZ) ?_
   refine jV (kU.refl _) ?_
   refine jA <| kx [(23, (vb true))] [] (zE (vB true uW) <| zZ) ?_
   refine jA <| kS ?_
   refine jE <| jA <| jG <| jA <| kx [(4, (vi sz))] [] (zE (gL gU 2) <| zE (gA vQ) <| zM <| zZ) ?_
   refine jA <| kx [(31, (vb (decide (sz < -1048576) || decide (((1048576 : Nat) : Int) < sz))))] [] ?_ ?_
   ·refine zM <| zE uW <| zE (oV (vb (decide (sz < -1048576))) (vZ (by kernel_rfl))) <| ?_
    rcases hb5 : (decide (sz < -1048576)) with _ | _
    ·replace hb5 := of_decide_eq_false hb5
     exact zM <| zE aG <| zE oPo <| zZ
    ·replace hb5 := of_decide_eq_true hb5
     exact zK <| zK <| zE eE <| zZ
   refine jY rfl (fun h6 => ?_) (fun h6 => ?_)
   ·refine jA <| kx [(2, (kX 2))] [] (zM <| zZ) ?_
    refine jJ ⟨_, (.tmp (d := (.val (.int .i64 (((2 : Nat) : Int))))) rfl .nil), ?_⟩
    first | (rw [show qV sx sy sz su sv sf sa sb sc sd = yY sa sb sc sd from mS (by unfold nS; simp_all <;> omega)]; rfl) | (rw [show qV sx sy sz su sv sf sa sb sc sd = 2 from mX (by unfold nS; simp_all <;> omega)]; rfl)
   ·refine jE <| kx [(22, (kX 3))] [] (zE (uZ 3 (hr := by decide)) <| zM <| zZ) ?_
    refine jV (kU.refl _) ?_
    refine jA <| qM (wk (l := [(1, (.ref 0 0)), (20, (vl 3 1 mC [sx, sy, sz, su, sv])), (21, (kX 5)), (22, (kX 3))]) (b := [(0, some (bx (uI (jX.mk (jM.mk sx sy sz) (jK.mk sa sb sc sd) sf (jZ.mk su sv)))))])) ?_
    refine kx [(23, (vb true))] [] (zE (vB true uW) <| zZ) ?_
    refine jA <| kS ?_
    refine jE <| jA <| jG <| jA <| kx [(4, (vi su))] [] (zE (gL gU 3) <| zE (gA vQ) <| zM <| zZ) ?_
    refine jA <| kx [(31, (vb (decide (su < -1048576) || decide (((1048576 : Nat) : Int) < su))))] [] ?_ ?_
    ·refine zM <| zE uW <| zE (oV (vb (decide (su < -1048576))) (vZ (by kernel_rfl))) <| ?_
     rcases hb7 : (decide (su < -1048576)) with _ | _
     ·replace hb7 := of_decide_eq_false hb7
      exact zM <| zE aG <| zE oPo <| zZ
     ·replace hb7 := of_decide_eq_true hb7
      exact zK <| zK <| zE eE <| zZ
    refine jY rfl (fun h8 => ?_) (fun h8 => ?_)
    ·refine jA <| kx [(2, (kX 2))] [] (zM <| zZ) ?_
     refine jJ ⟨_, (.tmp (d := (.val (.int .i64 (((2 : Nat) : Int))))) rfl .nil), ?_⟩
     first | (rw [show qV sx sy sz su sv sf sa sb sc sd = yY sa sb sc sd from mS (by unfold nS; simp_all <;> omega)]; rfl) | (rw [show qV sx sy sz su sv sf sa sb sc sd = 2 from mX (by unfold nS; simp_all <;> omega)]; rfl)
    ·refine jE <| kx [(22, (kX 4))] [] (zE (uZ 4 (hr := by decide)) <| zM <| zZ) ?_
     refine jV (kU.refl _) ?_
     refine jA <| kx [(23, (vb true))] [] (zE (vB true uW) <| zZ) ?_
     refine jA <| kS ?_
     refine jE <| jA <| jG <| jA <| kx [(4, (vi sv))] [] (zE (gL gU 4) <| zE (gA vQ) <| zM <| zZ) ?_
     refine jA <| kx [(31, (vb (decide (sv < -1048576) || decide (((1048576 : Nat) : Int) < sv))))] [] ?_ ?_
     ·refine zM <| zE uW <| zE (oV (vb (decide (sv < -1048576))) (vZ (by kernel_rfl))) <| ?_
      rcases hb9 : (decide (sv < -1048576)) with _ | _
      ·replace hb9 := of_decide_eq_false hb9
       exact zM <| zE aG <| zE oPo <| zZ
      ·replace hb9 := of_decide_eq_true hb9
       exact zK <| zK <| zE eE <| zZ
     refine jY rfl (fun h10 => ?_) (fun h10 => ?_)
     ·refine jA <| kx [(2, (kX 2))] [] (zM <| zZ) ?_
      refine jJ ⟨_, (.tmp (d := (.val (.int .i64 (((2 : Nat) : Int))))) rfl .nil), ?_⟩
      first | (rw [show qV sx sy sz su sv sf sa sb sc sd = yY sa sb sc sd from mS (by unfold nS; simp_all <;> omega)]; rfl) | (rw [show qV sx sy sz su sv sf sa sb sc sd = 2 from mX (by unfold nS; simp_all <;> omega)]; rfl)
     ·refine jE <| kx [(22, (kX 5))] [] (zE (uZ 5 (hr := by decide)) <| zM <| zZ) ?_
      refine jV (kU.refl _) ?_
      refine jA <| kx [(23, (vb false))] [] (zE (vB false uW) <| zZ) ?_
      refine jA <| kY ?_
      refine qF <| jA <| jA <| kx [(40, (vb (decide (sf < ((1 : Nat) : Int)) || decide (((1048576 : Nat) : Int) < sf))))] [] ?_ ?_
      ·refine zE (qE bK) <| zR (vD vQ) <| zE uW <| zE (oV (vb (decide (sf < ((1 : Nat) : Int)))) (vZ (by kernel_rfl))) <| ?_
       rcases hb11 : (decide (sf < ((1 : Nat) : Int))) with _ | _
       ·replace hb11 := of_decide_eq_false hb11
        exact zE (qE bK) <| zR (vD vQ) <| zE aG <| zE oPo <| zZ
       ·replace hb11 := of_decide_eq_true hb11
        exact zK <| zK <| zK <| zE eE <| zZ
      refine jY rfl (fun h12 => ?_) (fun h12 => ?_)
      ·refine jA <| kx [(2, (kX 2))] [] (zM <| zZ) ?_
       refine jJ ⟨_, (.tmp (d := (.val (.int .i64 (((2 : Nat) : Int))))) rfl .nil), ?_⟩
       first | (rw [show qV sx sy sz su sv sf sa sb sc sd = yY sa sb sc sd from mS (by unfold nS; simp_all <;> omega)]; rfl) | (rw [show qV sx sy sz su sv sf sa sb sc sd = 2 from mX (by unfold nS; simp_all <;> omega)]; rfl)
      ·refine jE <| jA <| kx [(2, (kX (yY sa sb sc sd)))] [] (zE (qE zY) <| zR (kC zV) <| zE (kA (q_chk sa sb sc sd)) <| zM <| zZ) ?_
       refine jJ ⟨_, (.tmp (d := (.val (.int .i64 ((((yY sa sb sc sd) : Nat) : Int))))) rfl .nil), ?_⟩
       first | (rw [show qV sx sy sz su sv sf sa sb sc sd = yY sa sb sc sd from mS (by unfold nS; simp_all <;> omega)]; rfl) | (rw [show qV sx sy sz su sv sf sa sb sc sd = 2 from mX (by unfold nS; simp_all <;> omega)]; rfl)
theorem qs_stn (sx sy sz sa sb sc sd sf su sv : Int) : kE Tryz.prog 75 [(uI (jX.mk (jM.mk sx sy sz) (jK.mk sa sb sc sd) sf (jZ.mk su sv)))] (.val (.int .i64 ((((qV sx sy sz su sv sf sa sb sc sd) : Nat) : Int)))) := by
 refine jN Tryz.func75 rfl cb75 rfl ?_
 show uT _ _ _ _ ⟨[(0, (.d (uI (jX.mk (jM.mk sx sy sz) (jK.mk sa sb sc sd) sf (jZ.mk su sv)))))], []⟩
 refine jA <| kx [(1, (.ref 0 0))] [(0, some (bx (uI (jX.mk (jM.mk sx sy sz) (jK.mk sa sb sc sd) sf (jZ.mk su sv)))))] (zN (uX 0) <| zM <| zZ) ?_
 refine jA <| jA <| kx [(20, (vl 3 1 mC [sx, sy, sz, su, sv])), (21, (kX 5)), (22, (kX 0))] [] (zE (qE yP) <| zE (qE mV) <| zR (vD vQ) <| zE (qE yP) <| zE (qE cN) <| zR (vD vQ) <| zE (qE yP) <| zE (qE cL) <| zR (vD vQ) <| zE (qE mQ) <| zE (qE fo27_0) <| zR (vD vQ) <| zE (qE mQ) <| zE (qE fo27_1) <| zR (vD vQ) <| zE (cH gU ze3 zo3) <| zE (oLn gU 5) <| zM <| zZ) ?_
 refine jG <| qU 20 ?_
 refine uF <| jA <| kx [(23, (vb true))] [] (zE (vB true uW) <| zZ) ?_
 refine jA <| kS ?_
 refine jE <| jA <| jG <| jA <| kx [(4, (vi sx))] [] (zE (gL gU 0) <| zE (gA vQ) <| zM <| zZ) ?_
 refine jA <| kx [(31, (vb (decide (sx < -1048576) || decide (((1048576 : Nat) : Int) < sx))))] [] ?_ ?_
 ·refine zM <| zE uW <| zE (oV (vb (decide (sx < -1048576))) (vZ (by kernel_rfl))) <| ?_
  rcases hb1 : (decide (sx < -1048576)) with _ | _
  ·replace hb1 := of_decide_eq_false hb1
   exact zM <| zE aG <| zE oPo <| zZ
  ·replace hb1 := of_decide_eq_true hb1
   exact zK <| zK <| zE eE <| zZ
 refine jY rfl (fun h2 => ?_) (fun h2 => ?_)
 ·refine jA <| kx [(2, (kX 2))] [] (zM <| zZ) ?_
  refine jJ ⟨_, (.tmp (d := (.val (.int .i64 (((2 : Nat) : Int))))) rfl .nil), ?_⟩
  first | (rw [show qV sx sy sz su sv sf sa sb sc sd = yY sa sb sc sd from mS (by unfold nS; simp_all <;> omega)]; rfl) | (rw [show qV sx sy sz su sv sf sa sb sc sd = 2 from mX (by unfold nS; simp_all <;> omega)]; rfl)
 ·refine jE <| kx [(22, (kX 1))] [] (zE (uZ 1 (hr := by decide)) <| zM <| zZ) ?_
  refine jV (kU.refl _) ?_
  refine jA <| kx [(23, (vb true))] [] (zE (vB true uW) <| zZ) ?_
  refine jA <| kS ?_
  refine jE <| jA <| jG <| jA <| kx [(4, (vi sy))] [] (zE (gL gU 1) <| zE (gA vQ) <| zM <| zZ) ?_
  refine jA <| kx [(31, (vb (decide (sy < -1048576) || decide (((1048576 : Nat) : Int) < sy))))] [] ?_ ?_
  ·refine zM <| zE uW <| zE (oV (vb (decide (sy < -1048576))) (vZ (by kernel_rfl))) <| ?_
   rcases hb3 : (decide (sy < -1048576)) with _ | _
   ·replace hb3 := of_decide_eq_false hb3
    exact zM <| zE aG <| zE oPo <| zZ
   ·replace hb3 := of_decide_eq_true hb3
    exact zK <| zK <| zE eE <| zZ
  refine jY rfl (fun h4 => ?_) (fun h4 => ?_)
  ·refine jA <| kx [(2, (kX 2))] [] (zM <| zZ) ?_
   refine jJ ⟨_, (.tmp (d := (.val (.int .i64 (((2 : Nat) : Int))))) rfl .nil), ?_⟩
   first | (rw [show qV sx sy sz su sv sf sa sb sc sd = yY sa sb sc sd from mS (by unfold nS; simp_all <;> omega)]; rfl) | (rw [show qV sx sy sz su sv sf sa sb sc sd = 2 from mX (by unfold nS; simp_all <;> omega)]; rfl)
  ·refine jE <| kx [(22, (kX 2))] [] (zE (uZ 2 (hr := by decide)) <| zM <| zZ) ?_
   refine jV (kU.refl _) ?_
   refine jA <| kx [(23, (vb true))] [] (zE (vB true uW) <| zZ) ?_
   refine jA <| kS ?_
   refine jE <| jA <| jG <| jA <| kx [(4, (vi sz))] [] (zE (gL gU 2) <| zE (gA vQ) <| zM <| zZ) ?_
   refine jA <| kx [(31, (vb (decide (sz < -1048576) || decide (((1048576 : Nat) : Int) < sz))))] [] ?_ ?_
   ·refine zM <| zE uW <| zE (oV (vb (decide (sz < -1048576))) (vZ (by kernel_rfl))) <| ?_
    rcases hb5 : (decide (sz < -1048576)) with _ | _
    ·replace hb5 := of_decide_eq_false hb5
     exact zM <| zE aG <| zE oPo <| zZ
    ·replace hb5 := of_decide_eq_true hb5
     exact zK <| zK <| zE eE <| zZ
   refine jY rfl (fun h6 => ?_) (fun h6 => ?_)
   ·refine jA <| kx [(2, (kX 2))] [] (zM <| zZ) ?_
    refine jJ ⟨_, (.tmp (d := (.val (.int .i64 (((2 : Nat) : Int))))) rfl .nil), ?_⟩
    first | (rw [show qV sx sy sz su sv sf sa sb sc sd = yY sa sb sc sd from mS (by unfold nS; simp_all <;> omega)]; rfl) | (rw [show qV sx sy sz su sv sf sa sb sc sd = 2 from mX (by unfold nS; simp_all <;> omega)]; rfl)
   ·refine jE <| kx [(22, (kX 3))] [] (zE (uZ 3 (hr := by decide)) <| zM <| zZ) ?_
    refine jV (kU.refl _) ?_
    refine jA <| qM (wk (l := [(1, (.ref 0 0)), (20, (vl 3 1 mC [sx, sy, sz, su, sv])), (21, (kX 5)), (22, (kX 3))]) (b := [(0, some (bx (uI (jX.mk (jM.mk sx sy sz) (jK.mk sa sb sc sd) sf (jZ.mk su sv)))))])) ?_
    refine kx [(23, (vb true))] [] (zE (vB true uW) <| zZ) ?_
    refine jA <| kS ?_
    refine jE <| jA <| jG <| jA <| kx [(4, (vi su))] [] (zE (gL gU 3) <| zE (gA vQ) <| zM <| zZ) ?_
    refine jA <| kx [(31, (vb (decide (su < -1048576) || decide (((1048576 : Nat) : Int) < su))))] [] ?_ ?_
    ·refine zM <| zE uW <| zE (oV (vb (decide (su < -1048576))) (vZ (by kernel_rfl))) <| ?_
     rcases hb7 : (decide (su < -1048576)) with _ | _
     ·replace hb7 := of_decide_eq_false hb7
      exact zM <| zE aG <| zE oPo <| zZ
     ·replace hb7 := of_decide_eq_true hb7
      exact zK <| zK <| zE eE <| zZ
    refine jY rfl (fun h8 => ?_) (fun h8 => ?_)
    ·refine jA <| kx [(2, (kX 2))] [] (zM <| zZ) ?_
     refine jJ ⟨_, (.tmp (d := (.val (.int .i64 (((2 : Nat) : Int))))) rfl .nil), ?_⟩
     first | (rw [show qV sx sy sz su sv sf sa sb sc sd = yY sa sb sc sd from mS (by unfold nS; simp_all <;> omega)]; rfl) | (rw [show qV sx sy sz su sv sf sa sb sc sd = 2 from mX (by unfold nS; simp_all <;> omega)]; rfl)
    ·refine jE <| kx [(22, (kX 4))] [] (zE (uZ 4 (hr := by decide)) <| zM <| zZ) ?_
     refine jV (kU.refl _) ?_
     refine jA <| kx [(23, (vb true))] [] (zE (vB true uW) <| zZ) ?_
     refine jA <| kS ?_
     refine jE <| jA <| jG <| jA <| kx [(4, (vi sv))] [] (zE (gL gU 4) <| zE (gA vQ) <| zM <| zZ) ?_
     refine jA <| kx [(31, (vb (decide (sv < -1048576) || decide (((1048576 : Nat) : Int) < sv))))] [] ?_ ?_
     ·refine zM <| zE uW <| zE (oV (vb (decide (sv < -1048576))) (vZ (by kernel_rfl))) <| ?_
      rcases hb9 : (decide (sv < -1048576)) with _ | _
      ·replace hb9 := of_decide_eq_false hb9
       exact zM <| zE aG <| zE oPo <| zZ
      ·replace hb9 := of_decide_eq_true hb9
       exact zK <| zK <| zE eE <| zZ
     refine jY rfl (fun h10 => ?_) (fun h10 => ?_)
     ·refine jA <| kx [(2, (kX 2))] [] (zM <| zZ) ?_
      refine jJ ⟨_, (.tmp (d := (.val (.int .i64 (((2 : Nat) : Int))))) rfl .nil), ?_⟩
      first | (rw [show qV sx sy sz su sv sf sa sb sc sd = yY sa sb sc sd from mS (by unfold nS; simp_all <;> omega)]; rfl) | (rw [show qV sx sy sz su sv sf sa sb sc sd = 2 from mX (by unfold nS; simp_all <;> omega)]; rfl)
     ·refine jE <| kx [(22, (kX 5))] [] (zE (uZ 5 (hr := by decide)) <| zM <| zZ) ?_
      refine jV (kU.refl _) ?_
      refine jA <| kx [(23, (vb false))] [] (zE (vB false uW) <| zZ) ?_
      refine jA <| kY ?_
      refine qF <| jA <| jA <| kx [(40, (vb (decide (sf < ((1 : Nat) : Int)) || decide (((1048576 : Nat) : Int) < sf))))] [] ?_ ?_
      ·refine zE (qE bK) <| zR (vD vQ) <| zE uW <| zE (oV (vb (decide (sf < ((1 : Nat) : Int)))) (vZ (by kernel_rfl))) <| ?_
       rcases hb11 : (decide (sf < ((1 : Nat) : Int))) with _ | _
       ·replace hb11 := of_decide_eq_false hb11
        exact zE (qE bK) <| zR (vD vQ) <| zE aG <| zE oPo <| zZ
       ·replace hb11 := of_decide_eq_true hb11
        exact zK <| zK <| zK <| zE eE <| zZ
      refine jY rfl (fun h12 => ?_) (fun h12 => ?_)
      ·refine jA <| kx [(2, (kX 2))] [] (zM <| zZ) ?_
       refine jJ ⟨_, (.tmp (d := (.val (.int .i64 (((2 : Nat) : Int))))) rfl .nil), ?_⟩
       first | (rw [show qV sx sy sz su sv sf sa sb sc sd = yY sa sb sc sd from mS (by unfold nS; simp_all <;> omega)]; rfl) | (rw [show qV sx sy sz su sv sf sa sb sc sd = 2 from mX (by unfold nS; simp_all <;> omega)]; rfl)
      ·refine jE <| jA <| kx [(2, (kX (yY sa sb sc sd)))] [] (zE (qE zY) <| zR (kC zV) <| zE (kA (qs_chk sa sb sc sd)) <| zM <| zZ) ?_
       refine jJ ⟨_, (.tmp (d := (.val (.int .i64 ((((yY sa sb sc sd) : Nat) : Int))))) rfl .nil), ?_⟩
       first | (rw [show qV sx sy sz su sv sf sa sb sc sd = yY sa sb sc sd from mS (by unfold nS; simp_all <;> omega)]; rfl) | (rw [show qV sx sy sz su sv sf sa sb sc sd = 2 from mX (by unfold nS; simp_all <;> omega)]; rfl)
theorem q_inner (sx sy sz sa sb sc sd sf su sv : Int) (hsu : -1048576 ≤ su ∧ su ≤ 1048576) (hsv : -1048576 ≤ sv ∧ sv ≤ 1048576) (hsf : 1 ≤ sf ∧ sf ≤ 1048576) : kE Tryz.prog 71 [(uI (jX.mk (jM.mk sx sy sz) (jK.mk sa sb sc sd) sf (jZ.mk su sv)))] (qW (A3.mk (A3.mk (jB ((1 : Int) : Rat)) (jB ((0 : Int) : Rat)) (jB ((-su : Int) : Rat))) (A3.mk (jB ((0 : Int) : Rat)) (jB ((1 : Int) : Rat)) (jB ((-sv : Int) : Rat))) (A3.mk (jB ((0 : Int) : Rat)) (jB ((0 : Int) : Rat)) (jB ((sf : Int) : Rat))))) := by
 let y1 := (A3.mk (jQ.mk (jF.mk false []) (jF.mk false [])) (jQ.mk (jF.mk false []) (jF.mk false [])) (jQ.mk (jF.mk false []) (jF.mk false [])))
 refine jN Tryz.func71 rfl cb71 rfl ?_
 show uT _ _ _ _ ⟨[(0, (.d (uI (jX.mk (jM.mk sx sy sz) (jK.mk sa sb sc sd) sf (jZ.mk su sv)))))], []⟩
 refine jA <| kx [(1, (.ref 0 0)), (2, (.ref 1 0))] [(0, some (bx (uI (jX.mk (jM.mk sx sy sz) (jK.mk sa sb sc sd) sf (jZ.mk su sv))))), (1, some (bx (qW (A3.mk y1 y1 y1))))] (zN (uX 0) <| zN (qS 1 dQ dM) <| zZ) ?_
 refine jA ?_
 have bn1 : QL ((1 : Int) : Rat) 3 := (qi 1)
 have bn2 : QL ((0 : Int) : Rat) 3 := (qi 0)
 have bn3 : QL ((-su : Int) : Rat) 3 := (qi (-su))
 have bn4 : QL ((-sv : Int) : Rat) 3 := (qi (-sv))
 have bn5 : QL ((sf : Int) : Rat) 3 := (qi sf)
 refine kd [] [(1, some (bx (qW (A3.mk (A3.mk (jB ((1 : Int) : Rat)) (jB ((0 : Int) : Rat)) (jB ((-su : Int) : Rat))) (A3.mk (jB ((0 : Int) : Rat)) (jB ((1 : Int) : Rat)) (jB ((-sv : Int) : Rat))) (A3.mk (jB ((0 : Int) : Rat)) (jB ((0 : Int) : Rat)) (jB ((sf : Int) : Rat)))))))] mo (wE (qE mQ) <| wE (qE fo27_0) <| wR (vD vQ) <| wE (oNg (-su)) <| wE (kA (q_whole ((1 : Nat) : Int) (by omega) (by omega) ((0 : Nat) : Int) (by omega) (by omega) (-su) (by omega) (by omega))) <| wE (qE mQ) <| wE (qE fo27_1) <| wR (vD vQ) <| wE (oNg (-sv)) <| wE (kA (q_whole ((0 : Nat) : Int) (by omega) (by omega) ((1 : Nat) : Int) (by omega) (by omega) (-sv) (by omega) (by omega))) <| wE (qE bK) <| wR (vD vQ) <| wE (kA (q_whole ((0 : Nat) : Int) (by omega) (by omega) ((0 : Nat) : Int) (by omega) (by omega) sf (by omega) (by omega))) <| wE (oBf vH dQ dM) <| wT (qB gJ) <| wZ) ?_
 refine jJ ⟨_, (qI (cs := (bx (qW (A3.mk (A3.mk (jB ((1 : Int) : Rat)) (jB ((0 : Int) : Rat)) (jB ((-su : Int) : Rat))) (A3.mk (jB ((0 : Int) : Rat)) (jB ((1 : Int) : Rat)) (jB ((-sv : Int) : Rat))) (A3.mk (jB ((0 : Int) : Rat)) (jB ((0 : Int) : Rat)) (jB ((sf : Int) : Rat))))))) (d := (qW (A3.mk (A3.mk (jB ((1 : Int) : Rat)) (jB ((0 : Int) : Rat)) (jB ((-su : Int) : Rat))) (A3.mk (jB ((0 : Int) : Rat)) (jB ((1 : Int) : Rat)) (jB ((-sv : Int) : Rat))) (A3.mk (jB ((0 : Int) : Rat)) (jB ((0 : Int) : Rat)) (jB ((sf : Int) : Rat)))))) rfl rfl gJ rfl rfl .nil), ?_⟩
 rfl
theorem q_red (a0 a1 a2 : Rat) (ha0 : QL a0 10000000) (ha1 : QL a1 10000000) (ha2 : QL a2 10000000) (hz : xM a0 a1 a2 = false) : kE Tryz.prog 127 [(jP (A3.mk (jB a0) (jB a1) (jB a2)))] (jP (A3.mk (jB (a0 * (yC a0 a1 a2))) (jB (a1 * (yC a0 a1 a2))) (jB (a2 * (yC a0 a1 a2))))) := by
 refine jN Tryz.func127 rfl cb127 rfl ?_
 show uT _ _ _ _ ⟨[(0, (.d (jP (A3.mk (jB a0) (jB a1) (jB a2)))))], []⟩
 refine jA <| kx [(1, (.ref 0 0)), (2, (.ref 1 0))] [(0, some (bx (jP (A3.mk (jB a0) (jB a1) (jB a2))))), (1, some (bx (jP (A3.mk (jQ.mk (jF.mk false []) (jF.mk false [])) (jQ.mk (jF.mk false []) (jF.mk false [])) (jQ.mk (jF.mk false []) (jF.mk false []))))))] (zN (uX 0) <| zN (qS 1 yN yO) <| zZ) ?_
 refine jA ?_
 have bn1 : nB (qD (((Int.gcd a1.num a2.num : Nat) : Int))) (((Int.gcd a1.num a2.num : Nat) : Int)) 10000000 := (gM (k := 10000000) (uM ha1) (uM ha2) (by decide))
 have bn2 : nB (qD (((Int.gcd a0.num (((Int.gcd a1.num a2.num : Nat) : Int)) : Nat) : Int))) (((Int.gcd a0.num (((Int.gcd a1.num a2.num : Nat) : Int)) : Nat) : Int)) 10000000 := (gM (k := 10000000) (uM ha0) bn1 (by decide))
 refine kd [(3, (.ref 2 0))] [(2, some (bx (kB (qD ((Int.gcd a0.num (((Int.gcd a1.num a2.num : Nat) : Int)) : Nat) : Int)))))] mo (wE (vF uE 0) <| wE (qE zL) <| wR (kC kW) <| wE (vF uE 1) <| wE (qE zL) <| wR (kC kW) <| wE (vF uE 2) <| wE (qE zL) <| wR (kC kW) <| wE (kA (s_gcd (uM ha1) (uM ha2) (by decide) (by decide))) <| wE (kA (s_gcd (uM ha0) bn1 (by decide) (by decide))) <| wN (qS 2 gR gQ) <| wT (qB kW) <| wZ) ?_
 refine jA ?_
 have bn3 : QL (Rat.divInt 1 (((Int.gcd a0.num (((Int.gcd a1.num a2.num : Nat) : Int)) : Nat) : Int))) 10000000 := (qZ (n := 10000000) (Nat.le_trans (nB.ln (nO (z := 1) (by decide))) (by decide)) (Nat.le_trans (nB.ln bn2) (by decide)) (by decide))
 refine kd [(4, (.ref 3 0))] [(3, some (bx (jR (jB (Rat.divInt 1 (((Int.gcd a0.num (((Int.gcd a1.num a2.num : Nat) : Int)) : Nat) : Int)))))))] mo (wE (kA (t_of 1 (by decide) (by decide))) <| wR (kC kW) <| wE (kA (f_newO (qD 1) 1 (gP (nO (z := 1) (by decide)) (by decide)) (qD ((Int.gcd a0.num (((Int.gcd a1.num a2.num : Nat) : Int)) : Nat) : Int)) (((Int.gcd a0.num (((Int.gcd a1.num a2.num : Nat) : Int)) : Nat) : Int)) (iu bn2) (gcd3_ne hz))) <| wM <| wE uH <| wE uH <| wN (qS 3 qR qY) <| wT (qB jT) <| wM <| wZ) ?_
 refine jA <| kx [] [(1, some (bx (jP (A3.mk (jB (a0 * (Rat.divInt 1 (((Int.gcd a0.num (((Int.gcd a1.num a2.num : Nat) : Int)) : Nat) : Int))))) (jB (a1 * (Rat.divInt 1 (((Int.gcd a0.num (((Int.gcd a1.num a2.num : Nat) : Int)) : Nat) : Int))))) (jB (a2 * (Rat.divInt 1 (((Int.gcd a0.num (((Int.gcd a1.num a2.num : Nat) : Int)) : Nat) : Int)))))))))] (zR (kC qO) <| zR (kC jT) <| zE (kA (nJ a0 a1 a2 (qu ha0) (qu ha1) (qu ha2) (Rat.divInt 1 (((Int.gcd a0.num (((Int.gcd a1.num a2.num : Nat) : Int)) : Nat) : Int))) (qu bn3))) <| zT (qB qO) <| zZ) ?_
 refine jJ ⟨_, (qI (cs := (bx (jP (A3.mk (jB (a0 * (Rat.divInt 1 (((Int.gcd a0.num (((Int.gcd a1.num a2.num : Nat) : Int)) : Nat) : Int))))) (jB (a1 * (Rat.divInt 1 (((Int.gcd a0.num (((Int.gcd a1.num a2.num : Nat) : Int)) : Nat) : Int))))) (jB (a2 * (Rat.divInt 1 (((Int.gcd a0.num (((Int.gcd a1.num a2.num : Nat) : Int)) : Nat) : Int))))))))) (d := (jP (A3.mk (jB (a0 * (Rat.divInt 1 (((Int.gcd a0.num (((Int.gcd a1.num a2.num : Nat) : Int)) : Nat) : Int))))) (jB (a1 * (Rat.divInt 1 (((Int.gcd a0.num (((Int.gcd a1.num a2.num : Nat) : Int)) : Nat) : Int))))) (jB (a2 * (Rat.divInt 1 (((Int.gcd a0.num (((Int.gcd a1.num a2.num : Nat) : Int)) : Nat) : Int)))))))) rfl rfl qO rfl rfl .nil), ?_⟩
 rfl
theorem qs_red (a0 a1 a2 : Rat) (ha0 : QL a0 10000000) (ha1 : QL a1 10000000) (ha2 : QL a2 10000000) (hz : xM a0 a1 a2 = false) : kE Tryz.prog 80 [(jP (A3.mk (jB a0) (jB a1) (jB a2)))] (jP (A3.mk (jB (a0 * (yC a0 a1 a2))) (jB (a1 * (yC a0 a1 a2))) (jB (a2 * (yC a0 a1 a2))))) := by
 let y1 := (jQ.mk (jF.mk false []) (jF.mk false []))
 refine jN Tryz.func80 rfl cb80 rfl ?_
 show uT _ _ _ _ ⟨[(0, (.d (jP (A3.mk (jB a0) (jB a1) (jB a2)))))], []⟩
 refine jA <| kx [(1, (.ref 0 0)), (2, (.ref 1 0))] [(0, some (bx (jP (A3.mk (jB a0) (jB a1) (jB a2))))), (1, some (bx (jP (A3.mk y1 y1 y1))))] (zN (uX 0) <| zN (qS 1 dX dW) <| zZ) ?_
 refine jA <| kx [(3, (.ref 2 0))] [(2, some (bx (kB (qD 0))))] (zE (kA (r_of 0 (by decide) (by decide))) <| zN (qS 2 gR gQ) <| zT (qB kW) <| zZ) ?_
 refine jA <| jA <| kx [(9, (.d (jP (A3.mk (jB a0) (jB a1) (jB a2))))), (10, (kX 0))] [] (zR (kC vC) <| zM <| zZ) ?_
 refine jG <| qU 20 ?_
 refine uF <| jA <| kx [(11, (vb true))] [] (zE (vB true uW) <| zZ) ?_
 refine jA <| kS ?_
 refine jE <| jA <| jG <| jA <| kx [(5, (.ref 3 0))] [(3, some (bx (jR (jB a0))))] (zE (oXa yG jT (fun h => by cases h) 0) <| zN (qS 3 qR qY) <| zT (qB jT) <| zZ) ?_
 have bn1 : nB (qD (((Int.gcd 0 a0.num : Nat) : Int))) (((Int.gcd 0 a0.num : Nat) : Int)) 10000000 := (gM (k := 10000000) (nO (z := 0) (by decide)) (uM ha0) (by decide))
 refine kx [] [(2, some (bx (kB (qD ((Int.gcd 0 a0.num : Nat) : Int)))))] (zR (kC kW) <| zE (qE zL) <| zR (kC kW) <| zE (kA (rs_gcd (nO (z := 0) (by decide)) (uM ha0) (by decide) (by decide))) <| zT (qB kW) <| zZ) ?_
 refine kx [(10, (kX 1))] [] (zE (uZ 1 (hr := by decide)) <| zM <| zZ) ?_
 refine jV (kU.refl _) ?_
 refine jA <| kx [(11, (vb true))] [] (zE (vB true uW) <| zZ) ?_
 refine jA <| kS ?_
 refine jE <| jA <| jG <| jA <| kx [(5, (.ref 4 0))] [(4, some (bx (jR (jB a1))))] (zE (oXa yG jT (fun h => by cases h) 1) <| zN (qS 4 qR qY) <| zT (qB jT) <| zZ) ?_
 have bn2 : nB (qD (((Int.gcd (((Int.gcd 0 a0.num : Nat) : Int)) a1.num : Nat) : Int))) (((Int.gcd (((Int.gcd 0 a0.num : Nat) : Int)) a1.num : Nat) : Int)) 10000000 := (gM (k := 10000000) bn1 (uM ha1) (by decide))
 refine kx [] [(2, some (bx (kB (qD ((Int.gcd (((Int.gcd 0 a0.num : Nat) : Int)) a1.num : Nat) : Int)))))] (zR (kC kW) <| zE (qE zL) <| zR (kC kW) <| zE (kA (rs_gcd bn1 (uM ha1) (by decide) (by decide))) <| zT (qB kW) <| zZ) ?_
 refine kx [(10, (kX 2))] [] (zE (uZ 2 (hr := by decide)) <| zM <| zZ) ?_
 refine jV (kU.refl _) ?_
 refine jA <| kx [(11, (vb true))] [] (zE (vB true uW) <| zZ) ?_
 refine jA <| kS ?_
 refine jE <| jA <| jG <| jA <| kx [(5, (.ref 5 0))] [(5, some (bx (jR (jB a2))))] (zE (oXa yG jT (fun h => by cases h) 2) <| zN (qS 5 qR qY) <| zT (qB jT) <| zZ) ?_
 have bn3 : nB (qD (eR a0 a1 a2)) (eR a0 a1 a2) 10000000 := (iok_eqz (gcd3_ref a0 a1 a2).symm (gM (k := 10000000) bn2 (uM ha2) (by decide)))
 refine kx [] [(2, some (bx (kB (qD (eR a0 a1 a2)))))] (zR (kC kW) <| zE (qE zL) <| zR (kC kW) <| zE (kA (by have h := rs_gcd bn2 (uM ha2) (by decide) (by decide); rw [(gcd3_ref a0 a1 a2)] at h; exact h)) <| zT (qB kW) <| zZ) ?_
 refine qM (wk (l := [(1, (.ref 0 0)), (2, (.ref 1 0)), (3, (.ref 2 0)), (9, (.d (jP (A3.mk (jB a0) (jB a1) (jB a2))))), (10, (kX 2))]) (b := [(0, some (bx (jP (A3.mk (jB a0) (jB a1) (jB a2))))), (1, some (bx (jP (A3.mk y1 y1 y1)))), (2, some (bx (kB (qD (eR a0 a1 a2)))))])) ?_
 refine kx [(10, (kX 3))] [] (zE (uZ 3 (hr := by decide)) <| zM <| zZ) ?_
 refine jV (kU.refl _) ?_
 refine jA <| kx [(11, (vb false))] [] (zE (vB false uW) <| zZ) ?_
 refine jA <| kY ?_
 refine qF <| jA ?_
 have bn4 : QL (Rat.divInt 1 (eR a0 a1 a2)) 10000000 := (qZ (n := 10000000) (Nat.le_trans (nB.ln (nO (z := 1) (by decide))) (by decide)) (Nat.le_trans (nB.ln bn3) (by decide)) (by decide))
 refine kd [(6, (.ref 6 0))] [(6, some (bx (jR (jB (Rat.divInt 1 (eR a0 a1 a2))))))] mo (wE (kA (r_of 1 (by decide) (by decide))) <| wR (kC kW) <| wE (kA (g_newO (qD 1) 1 (gP (nO (z := 1) (by decide)) (by decide)) (qD (eR a0 a1 a2)) (eR a0 a1 a2) (iu bn3) (gcd3_ne hz))) <| wM <| wE uH <| wE uH <| wN (qS 6 qR qY) <| wT (qB jT) <| wM <| wZ) ?_
 refine jA <| kx [] [(1, some (bx (jP (A3.mk (jB (a0 * (Rat.divInt 1 (eR a0 a1 a2)))) (jB (a1 * (Rat.divInt 1 (eR a0 a1 a2)))) (jB (a2 * (Rat.divInt 1 (eR a0 a1 a2))))))))] (zR (kC vC) <| zR (kC jT) <| zE (kA (yL a0 a1 a2 (qu ha0) (qu ha1) (qu ha2) (Rat.divInt 1 (eR a0 a1 a2)) (qu bn4))) <| zT (qB vC) <| zZ) ?_
 refine jJ ⟨_, (qI (cs := (bx (jP (A3.mk (jB (a0 * (Rat.divInt 1 (eR a0 a1 a2)))) (jB (a1 * (Rat.divInt 1 (eR a0 a1 a2)))) (jB (a2 * (Rat.divInt 1 (eR a0 a1 a2)))))))) (d := (jP (A3.mk (jB (a0 * (Rat.divInt 1 (eR a0 a1 a2)))) (jB (a1 * (Rat.divInt 1 (eR a0 a1 a2)))) (jB (a2 * (Rat.divInt 1 (eR a0 a1 a2))))))) rfl rfl vC rfl rfl .nil), ?_⟩
 rfl
theorem q_isz (a0 a1 a2 : Rat) (ha0 : QL a0 100000000) (ha1 : QL a1 100000000) (ha2 : QL a2 100000000) : kE Tryz.prog 128 [(jP (A3.mk (jB a0) (jB a1) (jB a2)))] (.val (.bool ((xM a0 a1 a2)))) := by
 refine jN Tryz.func128 rfl cb128 rfl ?_
 show uT _ _ _ _ ⟨[(0, (.d (jP (A3.mk (jB a0) (jB a1) (jB a2)))))], []⟩
 refine jA <| kx [(1, (.ref 0 0))] [(0, some (bx (jP (A3.mk (jB a0) (jB a1) (jB a2)))))] (zN (uX 0) <| zM <| zZ) ?_
 refine jA <| kx [(2, (vb ((vJ (jD a0 a1 a2 a0 a1 a2)) == 0)))] [] (zR (kC qO) <| zR (kC qO) <| zE (kA (q_dot a0 a1 a2 ha0 ha1 ha2 a0 a1 a2 ha0 ha1 ha2)) <| zE (kA (f_sign (jB (jD a0 a1 a2 a0 a1 a2)) (jD a0 a1 a2 a0 a1 a2) (jU (kD (jL (n := 100000000) (k := 600000002) ha0 ha1 ha2 ha0 ha1 ha2 (by decide))) (by decide)))) <| zE fA <| zM <| zZ) ?_
 refine jJ ⟨_, (.tmp (d := (.val (.bool (((vJ (jD a0 a1 a2 a0 a1 a2)) == 0))))) rfl .nil), ?_⟩
 rw [← zeroV_dot]; rfl
theorem qs_zero (a0 a1 a2 : Rat) (ha0 : QL a0 100000000) (ha1 : QL a1 100000000) (ha2 : QL a2 100000000) : kE Tryz.prog 79 [(jP (A3.mk (jB a0) (jB a1) (jB a2)))] (.val (.bool ((xM a0 a1 a2)))) := by
 refine jN Tryz.func79 rfl cb79 rfl ?_
 show uT _ _ _ _ ⟨[(0, (.d (jP (A3.mk (jB a0) (jB a1) (jB a2)))))], []⟩
 refine jA <| kx [(1, (.ref 0 0))] [(0, some (bx (jP (A3.mk (jB a0) (jB a1) (jB a2)))))] (zN (uX 0) <| zM <| zZ) ?_
 refine jA <| kx [(2, (vb ((((vJ a0) == 0) && ((vJ a1) == 0)) && ((vJ a2) == 0))))] [] ?_ ?_
 ·refine zE (vF yG 0) <| zR (kC jT) <| zE (kA (g_sign (jB a0) a0 (jU (kD ha0) (by decide)))) <| zE fA <| zE (oV (vb ((vJ a0) == 0)) (vZ (by kernel_rfl))) <| ?_
  rcases hb1 : ((vJ a0) == 0) with _ | _
  ·replace hb1 := ne_of_beq_false hb1
   exact zK <| zK <| zK <| zK <| zE oPf <| zM <| zK <| zK <| zK <| zK <| zE oPf <| zM <| zZ
  ·replace hb1 := eq_of_beq hb1
   refine zE (vF yG 1) <| zR (kC jT) <| zE (kA (g_sign (jB a1) a1 (jU (kD ha1) (by decide)))) <| zE fA <| zE oPa <| zE (oV (vb (true && ((vJ a1) == 0))) (vZ (by kernel_rfl))) <| ?_
   rcases hb2 : (true && ((vJ a1) == 0)) with _ | _
   ·exact zK <| zK <| zK <| zK <| zE oPf <| zM <| zZ
   ·exact zE (vF yG 2) <| zR (kC jT) <| zE (kA (g_sign (jB a2) a2 (jU (kD ha2) (by decide)))) <| zE fA <| zE oPa <| zM <| zZ
 refine jJ ⟨_, (.tmp (d := (.val (.bool (((((vJ a0) == 0) && ((vJ a1) == 0)) && ((vJ a2) == 0)))))) rfl .nil), ?_⟩
 rw [zeroV_sgn]; rfl
end Go.Proofs.YtbecgnplakngdaaGreat
