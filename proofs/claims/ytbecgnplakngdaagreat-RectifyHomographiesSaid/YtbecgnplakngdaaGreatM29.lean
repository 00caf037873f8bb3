/- Part 29 of a proof: rules, plain facts, and functions walked. -/
import Derived.Test.YtbecgnplakngdaaGreatM28
namespace Go.Proofs.YtbecgnplakngdaaGreat
open Go.Fid
set_option maxRecDepth 4000
set_option linter.unusedVariables false
set_option linter.unusedSimpArgs false
theorem cb69 : callB Tryz.prog 69 = true := by kernel_rfl
theorem cb71 : callB Tryz.prog 71 = true := by kernel_rfl
theorem cb75 : callB Tryz.prog 75 = true := by kernel_rfl
theorem cb76 : callB Tryz.prog 76 = true := by kernel_rfl
theorem cb79 : callB Tryz.prog 79 = true := by kernel_rfl
theorem cb80 : callB Tryz.prog 80 = true := by kernel_rfl
theorem cb125 : callB Tryz.prog 125 = true := by kernel_rfl
theorem cb127 : callB Tryz.prog 127 = true := by kernel_rfl
theorem cb128 : callB Tryz.prog 128 = true := by kernel_rfl
theorem cO : xJ Tryz.prog 23 0 = some 0 := by kernel_rfl
theorem dE : xJ Tryz.prog 23 1 = some 1 := by kernel_rfl
theorem dI : xJ Tryz.prog 23 2 = some 2 := by kernel_rfl
theorem fo27_0 : xJ Tryz.prog 27 0 = some 0 := by kernel_rfl
theorem fo27_1 : xJ Tryz.prog 27 1 = some 1 := by kernel_rfl
theorem yZ : xJ Tryz.prog 29 0 = some 0 := by kernel_rfl
theorem gF : xJ Tryz.prog 29 1 = some 3 := by kernel_rfl
theorem fo29_2 : xJ Tryz.prog 29 2 = some 7 := by kernel_rfl
theorem bI : xJ Tryz.prog 29 3 = some 8 := by kernel_rfl
theorem cL : uF Tryz.prog 52 = some (false, 1) := by kernel_rfl
theorem q_turn (a b c d : Int) (ha : -1048576 ≤ a ∧ a ≤ 1048576) (hb : -1048576 ≤ b ∧ b ≤ 1048576) (hc : -1048576 ≤ c ∧ c ≤ 1048576) (hd : -1048576 ≤ d ∧ d ≤ 1048576) (hq : gU a b c d = 0) : kF Tryz.prog 69 [(uI (jN.mk a b c d))] (qU (A3.mk (A3.mk (jC (gD a b c d)) (jC (gE a b c d)) (jC (zJ a b c d))) (A3.mk (jC (gK a b c d)) (jC (gJ a b c d)) (jC (yA a b c d))) (A3.mk (jC (gO a b c d)) (jC (gP a b c d)) (jC (yB a b c d))))) := by
 have hn0 := nq_ne hq
 have hnq := nA ha hb hc hd
 let y4 := (A3.mk (kG.mk (jF.mk false []) (jF.mk false [])) (kG.mk (jF.mk false []) (jF.mk false [])) (kG.mk (jF.mk false []) (jF.mk false [])))
 let y3 := (bx (qU (A3.mk (A3.mk (jC (gD a b c d)) (jC (gE a b c d)) (jC (zJ a b c d))) (A3.mk (jC (gK a b c d)) (jC (gJ a b c d)) (jC (yA a b c d))) (A3.mk (jC (gO a b c d)) (jC (gP a b c d)) (jC (yB a b c d))))))
 let y2 := (bx (qU (A3.mk (A3.mk (jC (gD a b c d)) (jC (gE a b c d)) (jC (zJ a b c d))) (A3.mk (jC (gK a b c d)) (jC (gJ a b c d)) (jC (yA a b c d))) y4)))
 let y1 := (bx (qU (A3.mk y4 y4 y4)))
 refine jL Tryz.func69 rfl cb69 rfl ?_
 show uK _ _ _ _ ⟨[(0, (.d (uI (jN.mk a b c d))))], []⟩
 refine jA <| kx [(1, (.ref 0 0)), (2, (.ref 1 0))] [(0, some (bx (uI (jN.mk a b c d)))), (1, some y1)] (zN (uX 0) <| zN (qH 1 eL eF) <| zZ) ?_
 refine jA ?_
 have bn1 : QL (Q00 a b c d) 3 := (kQ00)
 have bn2 : QL (Q01 a b c d) 3 := (kQ01)
 have bn3 : QL (Q02 a b c d) 3 := (kQ02)
 have bn4 : QL (Q10 a b c d) 3 := (kQ10)
 have bn5 : QL (Q11 a b c d) 3 := (kQ11)
 have bn6 : QL (Q12 a b c d) 3 := (kQ12)
 have bn7 : QL (Q20 a b c d) 3 := (kQ20)
 have bn8 : QL (Q21 a b c d) 3 := (kQ21)
 have bn9 : QL (Q22 a b c d) 3 := (kQ22)
 refine kx [(3, (vl 52 1 kP [[(jC (Q00 a b c d)), (jC (Q01 a b c d)), (jC (Q02 a b c d))], [(jC (Q10 a b c d)), (jC (Q11 a b c d)), (jC (Q12 a b c d))], [(jC (Q20 a b c d)), (jC (Q21 a b c d)), (jC (Q22 a b c d))]]))] [] (zR (kA yO) <| zE (kC (q_rmat a b c d (by omega) (by omega) (by omega) (by omega) hq hn0)) <| zM <| zE uH <| zE uH <| zM <| zM <| zZ) ?_
 refine jA ?_
 have bn10 : QL (N4 a b c d) 3 := (jX (Eq.symm (show ((nq a b c d : Int) : Rat) = N4 a b c d from rfl)) (qC (z := (nq a b c d)) (jU (by omega) (by omega)) (by decide)))
 refine kx [(5, (.ref 2 0))] [(2, some (bx (jO (jC (N4 a b c d)))))] (zR (kA yO) <| zE (kC (q_norm a b c d (by omega) (by omega) (by omega) (by omega))) <| zE (kC (by have h := eD (nq a b c d) (by omega) (by omega); rw [(show ((nq a b c d : Int) : Rat) = N4 a b c d from rfl)] at h; exact h)) <| zN (qH 2 qM qR) <| zT (kR jS) <| zZ) ?_
 refine jA <| kx [(6, (.ref 3 0))] [(3, some y1)] (zN (qH 3 eL eF) <| zZ) ?_
 refine jA <| jA <| kx [(16, (kE 0))] [] (zM <| zZ) ?_
 refine jE <| qE 20 ?_
 refine qK <| jA <| kx [(17, (vb true))] [] (zE (qY true qS) <| zZ) ?_
 refine jA <| kD ?_
 refine jD <| jA <| jE <| jA <| kx [(7, (kE 0))] [] (zM <| zM <| zZ) ?_
 have bn11 : QL (gD a b c d) 6 := (jX (Eq.symm (Q00_n (a := a) (b := b) (c := c) (d := d) hn0)) (jV (k := 6) bn1 bn10 (by decide)))
 have bn12 : QL (gE a b c d) 6 := (jX (Eq.symm (Q01_n (a := a) (b := b) (c := c) (d := d) hn0)) (jV (k := 6) bn2 bn10 (by decide)))
 have bn13 : QL (zJ a b c d) 6 := (jX (Eq.symm (Q02_n (a := a) (b := b) (c := c) (d := d) hn0)) (jV (k := 6) bn3 bn10 (by decide)))
 refine kd [] [(3, some (bx (qU (A3.mk (A3.mk (jC (gD a b c d)) (jC (gE a b c d)) (jC (zJ a b c d))) y4 y4))))] mo (wM <| wM <| wM <| wE (zD yM 0) <| wE (yN cL) <| wE (zD uO 0) <| wE (gZ jS) <| wM <| wM <| wE (zD yM 0) <| wE (yN cL) <| wE (zD uO 1) <| wE (gZ jS) <| wM <| wM <| wE (zD yM 0) <| wE (yN cL) <| wE (zD uO 2) <| wE (gZ jS) <| wE (oBf uP cH cG) <| wR (kA jS) <| wE (kC (by have h := eJ (Q00 a b c d) (Q01 a b c d) (Q02 a b c d) (qu bn1) (qu bn2) (qu bn3) (N4 a b c d) (qu bn10); rw [(Q00_n (a := a) (b := b) (c := c) (d := d) hn0), (Q01_n (a := a) (b := b) (c := c) (d := d) hn0), (Q02_n (a := a) (b := b) (c := c) (d := d) hn0)] at h; exact h)) <| wE (uJ vY 0) <| wT (kR uN) <| wZ) ?_
 refine kx [(16, (kE 1))] [] (zE (qQ 1 (hr := by decide)) <| zM <| zZ) ?_
 refine jJ (jZ.refl _) ?_
 refine jA <| kx [(17, (vb true))] [] (zE (qY true qS) <| zZ) ?_
 refine jA <| kD ?_
 refine jD <| jA <| jE <| jA <| kx [(7, (kE 1))] [] (zM <| zM <| zZ) ?_
 have bn14 : QL (gK a b c d) 6 := (jX (Eq.symm (Q10_n (a := a) (b := b) (c := c) (d := d) hn0)) (jV (k := 6) bn4 bn10 (by decide)))
 have bn15 : QL (gJ a b c d) 6 := (jX (Eq.symm (Q11_n (a := a) (b := b) (c := c) (d := d) hn0)) (jV (k := 6) bn5 bn10 (by decide)))
 have bn16 : QL (yA a b c d) 6 := (jX (Eq.symm (Q12_n (a := a) (b := b) (c := c) (d := d) hn0)) (jV (k := 6) bn6 bn10 (by decide)))
 refine kd [] [(3, some y2)] mo (wM <| wM <| wM <| wE (zD yM 1) <| wE (yN cL) <| wE (zD uO 0) <| wE (gZ jS) <| wM <| wM <| wE (zD yM 1) <| wE (yN cL) <| wE (zD uO 1) <| wE (gZ jS) <| wM <| wM <| wE (zD yM 1) <| wE (yN cL) <| wE (zD uO 2) <| wE (gZ jS) <| wE (oBf uP cH cG) <| wR (kA jS) <| wE (kC (by have h := eJ (Q10 a b c d) (Q11 a b c d) (Q12 a b c d) (qu bn4) (qu bn5) (qu bn6) (N4 a b c d) (qu bn10); rw [(Q10_n (a := a) (b := b) (c := c) (d := d) hn0), (Q11_n (a := a) (b := b) (c := c) (d := d) hn0), (Q12_n (a := a) (b := b) (c := c) (d := d) hn0)] at h; exact h)) <| wE (uJ vY 1) <| wT (kR uN) <| wZ) ?_
 refine kx [(16, (kE 2))] [] (zE (qQ 2 (hr := by decide)) <| zM <| zZ) ?_
 refine jJ (jZ.refl _) ?_
 refine jA <| kx [(17, (vb true))] [] (zE (qY true qS) <| zZ) ?_
 refine jA <| kD ?_
 refine jD <| jA <| jE <| jA <| kX (wk (l := [(2, (.ref 1 0)), (3, (vl 52 1 kP [[(jC (Q00 a b c d)), (jC (Q01 a b c d)), (jC (Q02 a b c d))], [(jC (Q10 a b c d)), (jC (Q11 a b c d)), (jC (Q12 a b c d))], [(jC (Q20 a b c d)), (jC (Q21 a b c d)), (jC (Q22 a b c d))]])), (5, (.ref 2 0)), (6, (.ref 3 0)), (16, (kE 2)), (17, (vb true))]) (b := [(1, some y1), (2, some (bx (jO (jC (N4 a b c d))))), (3, some y2)])) ?_
 refine kx [(7, (kE 2))] [] (zM <| zM <| zZ) ?_
 have bn17 : QL (gO a b c d) 6 := (jX (Eq.symm (Q20_n (a := a) (b := b) (c := c) (d := d) hn0)) (jV (k := 6) bn7 bn10 (by decide)))
 have bn18 : QL (gP a b c d) 6 := (jX (Eq.symm (Q21_n (a := a) (b := b) (c := c) (d := d) hn0)) (jV (k := 6) bn8 bn10 (by decide)))
 have bn19 : QL (yB a b c d) 6 := (jX (Eq.symm (Q22_n (a := a) (b := b) (c := c) (d := d) hn0)) (jV (k := 6) bn9 bn10 (by decide)))
 refine kd [] [(3, some y3)] mo (wM <| wM <| wM <| wE (zD yM 2) <| wE (yN cL) <| wE (zD uO 0) <| wE (gZ jS) <| wM <| wM <| wE (zD yM 2) <| wE (yN cL) <| wE (zD uO 1) <| wE (gZ jS) <| wM <| wM <| wE (zD yM 2) <| wE (yN cL) <| wE (zD uO 2) <| wE (gZ jS) <| wE (oBf uP cH cG) <| wR (kA jS) <| wE (kC (by have h := eJ (Q20 a b c d) (Q21 a b c d) (Q22 a b c d) (qu bn7) (qu bn8) (qu bn9) (N4 a b c d) (qu bn10); rw [(Q20_n (a := a) (b := b) (c := c) (d := d) hn0), (Q21_n (a := a) (b := b) (c := c) (d := d) hn0), (Q22_n (a := a) (b := b) (c := c) (d := d) hn0)] at h; exact h)) <| wE (uJ vY 2) <| wT (kR uN) <| wZ) ?_
 refine kx [(16, (kE 3))] [] (zE (qQ 3 (hr := by decide)) <| zM <| zZ) ?_
 refine jJ (jZ.refl _) ?_
 refine jA <| kx [(17, (vb false))] [] (zE (qY false qS) <| zZ) ?_
 refine jA <| kO ?_
 refine kQ <| jA <| kx [] [(1, some y3)] (zR (kA hC) <| zT (kR hC) <| zZ) ?_
 refine jG ⟨_, (qB (cs := (bx (qU (A3.mk (A3.mk (jC (gD a b c d)) (jC (gE a b c d)) (jC (zJ a b c d))) (A3.mk (jC (gK a b c d)) (jC (gJ a b c d)) (jC (yA a b c d))) (A3.mk (jC (gO a b c d)) (jC (gP a b c d)) (jC (yB a b c d))))))) (d := (qU (A3.mk (A3.mk (jC (gD a b c d)) (jC (gE a b c d)) (jC (zJ a b c d))) (A3.mk (jC (gK a b c d)) (jC (gJ a b c d)) (jC (yA a b c d))) (A3.mk (jC (gO a b c d)) (jC (gP a b c d)) (jC (yB a b c d)))))) rfl rfl hC rfl rfl .nil), ?_⟩
 rfl
theorem qs_mat (a b c d : Int) (ha : -1048576 ≤ a ∧ a ≤ 1048576) (hb : -1048576 ≤ b ∧ b ≤ 1048576) (hc : -1048576 ≤ c ∧ c ≤ 1048576) (hd : -1048576 ≤ d ∧ d ≤ 1048576) (hq : gU a b c d = 0) : kF Tryz.prog 76 [(uI (jN.mk a b c d))] (bJ (A3.mk (A3.mk (jC (gD a b c d)) (jC (gE a b c d)) (jC (zJ a b c d))) (A3.mk (jC (gK a b c d)) (jC (gJ a b c d)) (jC (yA a b c d))) (A3.mk (jC (gO a b c d)) (jC (gP a b c d)) (jC (yB a b c d))))) := by
 have hn0 := nq_ne hq
 have hnq := nA ha hb hc hd
 let y4 := (A3.mk (kG.mk (jF.mk false []) (jF.mk false [])) (kG.mk (jF.mk false []) (jF.mk false [])) (kG.mk (jF.mk false []) (jF.mk false [])))
 let y3 := (bx (bJ (A3.mk (A3.mk (jC (gD a b c d)) (jC (gE a b c d)) (jC (zJ a b c d))) (A3.mk (jC (gK a b c d)) (jC (gJ a b c d)) (jC (yA a b c d))) (A3.mk (jC (gO a b c d)) (jC (gP a b c d)) (jC (yB a b c d))))))
 let y2 := (bx (bJ (A3.mk (A3.mk (jC (gD a b c d)) (jC (gE a b c d)) (jC (zJ a b c d))) (A3.mk (jC (gK a b c d)) (jC (gJ a b c d)) (jC (yA a b c d))) y4)))
 let y1 := (bx (bJ (A3.mk y4 y4 y4)))
 refine jL Tryz.func76 rfl cb76 rfl ?_
 show uK _ _ _ _ ⟨[(0, (.d (uI (jN.mk a b c d))))], []⟩
 refine jA <| kx [(1, (.ref 0 0)), (2, (.ref 1 0))] [(0, some (bx (uI (jN.mk a b c d)))), (1, some y1)] (zN (uX 0) <| zN (qH 1 ze45 zo45) <| zZ) ?_
 refine jA ?_
 have bn1 : QL (Q00 a b c d) 3 := (kQ00)
 have bn2 : QL (Q01 a b c d) 3 := (kQ01)
 have bn3 : QL (Q02 a b c d) 3 := (kQ02)
 have bn4 : QL (Q10 a b c d) 3 := (kQ10)
 have bn5 : QL (Q11 a b c d) 3 := (kQ11)
 have bn6 : QL (Q12 a b c d) 3 := (kQ12)
 have bn7 : QL (Q20 a b c d) 3 := (kQ20)
 have bn8 : QL (Q21 a b c d) 3 := (kQ21)
 have bn9 : QL (Q22 a b c d) 3 := (kQ22)
 refine kx [(3, (vl 52 1 kP [[(jC (Q00 a b c d)), (jC (Q01 a b c d)), (jC (Q02 a b c d))], [(jC (Q10 a b c d)), (jC (Q11 a b c d)), (jC (Q12 a b c d))], [(jC (Q20 a b c d)), (jC (Q21 a b c d)), (jC (Q22 a b c d))]]))] [] (zR (kA yO) <| zE (kC (qs_rmat a b c d (by omega) (by omega) (by omega) (by omega) hq hn0)) <| zM <| zE uH <| zE uH <| zM <| zM <| zZ) ?_
 refine jA <| kx [(5, (.ref 2 0))] [(2, some y1)] (zE (oBa ar45 ze45 zo45) <| zN (qH 2 ze45 zo45) <| zT (kR sh45) <| zZ) ?_
 refine jA <| jA <| kx [(13, (kE 0))] [] (zM <| zZ) ?_
 refine jE <| qE 20 ?_
 refine qK <| jA <| kx [(14, (vb true))] [] (zE (qY true qS) <| zZ) ?_
 refine jA <| kD ?_
 refine jD <| jA <| jE <| jA <| kx [(6, (kE 0))] [] (zM <| zM <| zZ) ?_
 have bn10 : QL (N4 a b c d) 3 := (kN4)
 have bn11 : QL (gD a b c d) 6 := (jX (Eq.symm (Q00_n (a := a) (b := b) (c := c) (d := d) hn0)) (jV (k := 6) bn1 bn10 (by decide)))
 have bn12 : QL (gE a b c d) 6 := (jX (Eq.symm (Q01_n (a := a) (b := b) (c := c) (d := d) hn0)) (jV (k := 6) bn2 bn10 (by decide)))
 have bn13 : QL (zJ a b c d) 6 := (jX (Eq.symm (Q02_n (a := a) (b := b) (c := c) (d := d) hn0)) (jV (k := 6) bn3 bn10 (by decide)))
 refine kd [] [(2, some (bx (bJ (A3.mk (A3.mk (jC (gD a b c d)) (jC (gE a b c d)) (jC (zJ a b c d))) y4 y4))))] mo (wM <| wM <| wM <| wE (zD yM 0) <| wE (yN cL) <| wE (e_sap (cs := (qF.cells (jY (A3.mk (jC (Q00 a b c d)) (jC (Q01 a b c d)) (jC (Q02 a b c d)))))) (by exact rfl) gM (by exact rfl) (by kernel_rfl) (by kernel_rfl) (by kernel_rfl)) <| wE (gZ xR) <| wR (kA yO) <| wE (kC (iH a b c d (by omega) (by omega) (by omega) (by omega))) <| wE (kC (by have h := cD (Q00 a b c d) (Q01 a b c d) (Q02 a b c d) (qu bn1) (qu bn2) (qu bn3) (N4 a b c d) (qu bn10); rw [(Q00_n (a := a) (b := b) (c := c) (d := d) hn0), (Q01_n (a := a) (b := b) (c := c) (d := d) hn0), (Q02_n (a := a) (b := b) (c := c) (d := d) hn0)] at h; exact h)) <| wE (uJ ar45 0) <| wT (kR xR) <| wZ) ?_
 refine kx [(13, (kE 1))] [] (zE (qQ 1 (hr := by decide)) <| zM <| zZ) ?_
 refine jJ (jZ.refl _) ?_
 refine jA <| kx [(14, (vb true))] [] (zE (qY true qS) <| zZ) ?_
 refine jA <| kD ?_
 refine jD <| jA <| jE <| jA <| kx [(6, (kE 1))] [] (zM <| zM <| zZ) ?_
 have bn14 : QL (gK a b c d) 6 := (jX (Eq.symm (Q10_n (a := a) (b := b) (c := c) (d := d) hn0)) (jV (k := 6) bn4 bn10 (by decide)))
 have bn15 : QL (gJ a b c d) 6 := (jX (Eq.symm (Q11_n (a := a) (b := b) (c := c) (d := d) hn0)) (jV (k := 6) bn5 bn10 (by decide)))
 have bn16 : QL (yA a b c d) 6 := (jX (Eq.symm (Q12_n (a := a) (b := b) (c := c) (d := d) hn0)) (jV (k := 6) bn6 bn10 (by decide)))
 refine kd [] [(2, some y2)] mo (wM <| wM <| wM <| wE (zD yM 1) <| wE (yN cL) <| wE (e_sap (cs := (qF.cells (jY (A3.mk (jC (Q10 a b c d)) (jC (Q11 a b c d)) (jC (Q12 a b c d)))))) (by exact rfl) gM (by exact rfl) (by kernel_rfl) (by kernel_rfl) (by kernel_rfl)) <| wE (gZ xR) <| wR (kA yO) <| wE (kC (iH a b c d (by omega) (by omega) (by omega) (by omega))) <| wE (kC (by have h := cD (Q10 a b c d) (Q11 a b c d) (Q12 a b c d) (qu bn4) (qu bn5) (qu bn6) (N4 a b c d) (qu bn10); rw [(Q10_n (a := a) (b := b) (c := c) (d := d) hn0), (Q11_n (a := a) (b := b) (c := c) (d := d) hn0), (Q12_n (a := a) (b := b) (c := c) (d := d) hn0)] at h; exact h)) <| wE (uJ ar45 1) <| wT (kR xR) <| wZ) ?_
 refine kx [(13, (kE 2))] [] (zE (qQ 2 (hr := by decide)) <| zM <| zZ) ?_
 refine jJ (jZ.refl _) ?_
 refine jA <| kx [(14, (vb true))] [] (zE (qY true qS) <| zZ) ?_
 refine jA <| kD ?_
 refine jD <| jA <| jE <| jA <| kx [(6, (kE 2))] [] (zM <| zM <| zZ) ?_
 refine kX (wk (l := [(1, (.ref 0 0)), (2, (.ref 1 0)), (3, (vl 52 1 kP [[(jC (Q00 a b c d)), (jC (Q01 a b c d)), (jC (Q02 a b c d))], [(jC (Q10 a b c d)), (jC (Q11 a b c d)), (jC (Q12 a b c d))], [(jC (Q20 a b c d)), (jC (Q21 a b c d)), (jC (Q22 a b c d))]])), (5, (.ref 2 0)), (6, (kE 2)), (13, (kE 2))]) (b := [(0, some (bx (uI (jN.mk a b c d)))), (1, some y1), (2, some y2)])) ?_
 have bn17 : QL (gO a b c d) 6 := (jX (Eq.symm (Q20_n (a := a) (b := b) (c := c) (d := d) hn0)) (jV (k := 6) bn7 bn10 (by decide)))
 have bn18 : QL (gP a b c d) 6 := (jX (Eq.symm (Q21_n (a := a) (b := b) (c := c) (d := d) hn0)) (jV (k := 6) bn8 bn10 (by decide)))
 have bn19 : QL (yB a b c d) 6 := (jX (Eq.symm (Q22_n (a := a) (b := b) (c := c) (d := d) hn0)) (jV (k := 6) bn9 bn10 (by decide)))
 refine kd [] [(2, some y3)] mo (wM <| wM <| wM <| wE (zD yM 2) <| wE (yN cL) <| wE (e_sap (cs := (qF.cells (jY (A3.mk (jC (Q20 a b c d)) (jC (Q21 a b c d)) (jC (Q22 a b c d)))))) (by exact rfl) gM (by exact rfl) (by kernel_rfl) (by kernel_rfl) (by kernel_rfl)) <| wE (gZ xR) <| wR (kA yO) <| wE (kC (iH a b c d (by omega) (by omega) (by omega) (by omega))) <| wE (kC (by have h := cD (Q20 a b c d) (Q21 a b c d) (Q22 a b c d) (qu bn7) (qu bn8) (qu bn9) (N4 a b c d) (qu bn10); rw [(Q20_n (a := a) (b := b) (c := c) (d := d) hn0), (Q21_n (a := a) (b := b) (c := c) (d := d) hn0), (Q22_n (a := a) (b := b) (c := c) (d := d) hn0)] at h; exact h)) <| wE (uJ ar45 2) <| wT (kR xR) <| wZ) ?_
 refine kx [(13, (kE 3))] [] (zE (qQ 3 (hr := by decide)) <| zM <| zZ) ?_
 refine jJ (jZ.refl _) ?_
 refine jA <| kx [(14, (vb false))] [] (zE (qY false qS) <| zZ) ?_
 refine jA <| kO ?_
 refine kQ <| jA <| kx [] [(1, some y3)] (zR (kA sh45) <| zT (kR sh45) <| zZ) ?_
 refine jG ⟨_, (qB (cs := (bx (bJ (A3.mk (A3.mk (jC (gD a b c d)) (jC (gE a b c d)) (jC (zJ a b c d))) (A3.mk (jC (gK a b c d)) (jC (gJ a b c d)) (jC (yA a b c d))) (A3.mk (jC (gO a b c d)) (jC (gP a b c d)) (jC (yB a b c d))))))) (d := (bJ (A3.mk (A3.mk (jC (gD a b c d)) (jC (gE a b c d)) (jC (zJ a b c d))) (A3.mk (jC (gK a b c d)) (jC (gJ a b c d)) (jC (yA a b c d))) (A3.mk (jC (gO a b c d)) (jC (gP a b c d)) (jC (yB a b c d)))))) rfl rfl sh45 rfl rfl .nil), ?_⟩
 rfl
theorem q_stn (sx sy sz sa sb sc sd sf su sv : Int) : kF Tryz.prog 125 [(uZ (kJ.mk (jT.mk sx sy sz) (jN.mk sa sb sc sd) sf (kM.mk su sv)))] (.val (.int .i64 ((((uL sx sy sz su sv sf sa sb sc sd) : Nat) : Int)))) := by
 refine jL Tryz.func125 rfl cb125 rfl ?_
 show uK _ _ _ _ ⟨[(0, (.d (uZ (kJ.mk (jT.mk sx sy sz) (jN.mk sa sb sc sd) sf (kM.mk su sv)))))], []⟩
 refine jA <| kx [(1, (.ref 0 0))] [(0, some (bx (uZ (kJ.mk (jT.mk sx sy sz) (jN.mk sa sb sc sd) sf (kM.mk su sv)))))] (zN (uX 0) <| zM <| zZ) ?_
 refine jA <| jA <| kx [(20, (vl 3 1 mW [sx, sy, sz, su, sv])), (21, (kE 5)), (22, (kE 0))] [] (zE (kU yZ) <| zE (kU cO) <| zR (uM vW) <| zE (kU yZ) <| zE (kU dE) <| zR (uM vW) <| zE (kU yZ) <| zE (kU dI) <| zR (uM vW) <| zE (kU bI) <| zE (kU fo27_0) <| zR (uM vW) <| zE (kU bI) <| zE (kU fo27_1) <| zR (uM vW) <| zE (cP nB ze3 zo3) <| zE (fT nB 5) <| zM <| zZ) ?_
 refine jE <| qE 20 ?_
 refine qK <| jA <| kx [(23, (vb true))] [] (zE (qY true qS) <| zZ) ?_
 refine jA <| kD ?_
 refine jD <| jA <| jE <| jA <| kx [(4, (vi sx))] [] (zE (zD nB 0) <| zE (yN vW) <| zM <| zZ) ?_
 refine jA <| kx [(31, (vb (decide (sx < -1048576) || decide (((1048576 : Nat) : Int) < sx))))] [] ?_ ?_
 ·refine zM <| zE qS <| zE (oV (vb (decide (sx < -1048576))) (xD (by kernel_rfl))) <| ?_
  rcases hb1 : (decide (sx < -1048576)) with _ | _
  ·replace hb1 := of_decide_eq_false hb1
   exact zM <| zE bO <| zE oPo <| zZ
  ·replace hb1 := of_decide_eq_true hb1
   exact zK <| zK <| zE bG <| zZ
 refine jQ rfl (fun h2 => ?_) (fun h2 => ?_)
 ·refine jA <| kx [(2, (kE 2))] [] (zM <| zZ) ?_
  refine jG ⟨_, (.tmp (d := (.val (.int .i64 (((2 : Nat) : Int))))) rfl .nil), ?_⟩
  first | (rw [show uL sx sy sz su sv sf sa sb sc sd = gU sa sb sc sd from cV (by unfold mQ; simp_all <;> omega)]; rfl) | (rw [show uL sx sy sz su sv sf sa sb sc sd = 2 from cS (by unfold mQ; simp_all <;> omega)]; rfl)
 ·refine jD <| kx [(22, (kE 1))] [] (zE (qQ 1 (hr := by decide)) <| zM <| zZ) ?_
  refine jJ (jZ.refl _) ?_
  refine jA <| kx [(23, (vb true))] [] (zE (qY true qS) <| zZ) ?_
  refine jA <| kD ?_
  refine jD <| jA <| jE <| jA <| kx [(4, (vi sy))] [] (zE (zD nB 1) <| zE (yN vW) <| zM <| zZ) ?_
  refine jA <| kx [(31, (vb (decide (sy < -1048576) || decide (((1048576 : Nat) : Int) < sy))))] [] ?_ ?_
  ·refine zM <| zE qS <| zE (oV (vb (decide (sy < -1048576))) (xD (by kernel_rfl))) <| ?_
   rcases hb3 : (decide (sy < -1048576)) with _ | _
   ·replace hb3 := of_decide_eq_false hb3
    exact zM <| zE bO <| zE oPo <| zZ
   ·replace hb3 := of_decide_eq_true hb3
    exact zK <| zK <| zE bG <| zZ
  refine jQ rfl (fun h4 => ?_) (fun h4 => ?_)
  ·refine jA <| kx [(2, (kE 2))] [] (zM <| zZ) ?_
   refine jG ⟨_, (.tmp (d := (.val (.int .i64 (((2 : Nat) : Int))))) rfl .nil), ?_⟩
   first | (rw [show uL sx sy sz su sv sf sa sb sc sd = gU sa sb sc sd from cV (by unfold mQ; simp_all <;> omega)]; rfl) | (rw [show uL sx sy sz su sv sf sa sb sc sd = 2 from cS (by unfold mQ; simp_all <;> omega)]; rfl)
  ·refine jD <| kx [(22, (kE 2))] [] (zE (qQ 2 (hr := by decide)) <| zM <| zZ) ?_
   refine jJ (jZ.refl _) ?_
   refine jA <| kx [(23, (vb true))] [] (zE (qY true qS) <| zZ) ?_
   refine jA <| kD ?_
   refine jD <| jA <| jE <| jA <| kx [(4, (vi sz))] [] (zE (zD nB 2) <| zE (yN vW) <| zM <| zZ) ?_
   refine jA <| kx [(31, (vb (decide (sz < -1048576) || decide (((1048576 : Nat) : Int) < sz))))] [] ?_ ?_
   ·refine zM <| zE qS <| zE (oV (vb (decide (sz < -1048576))) (xD (by kernel_rfl))) <| ?_
    rcases hb5 : (decide (sz < -1048576)) with _ | _
    ·replace hb5 := of_decide_eq_false hb5
     exact zM <| zE bO <| zE oPo <| zZ
    ·replace hb5 := of_decide_eq_true hb5
     exact zK <| zK <| zE bG <| zZ
   refine jQ rfl (fun h6 => ?_) (fun h6 => ?_)
   ·refine jA <| kx [(2, (kE 2))] [] (zM <| zZ) ?_
    refine jG ⟨_, (.tmp (d := (.val (.int .i64 (((2 : Nat) : Int))))) rfl .nil), ?_⟩
    first | (rw [show uL sx sy sz su sv sf sa sb sc sd = gU sa sb sc sd from cV (by unfold mQ; simp_all <;> omega)]; rfl) | (rw [show uL sx sy sz su sv sf sa sb sc sd = 2 from cS (by unfold mQ; simp_all <;> omega)]; rfl)
   ·refine jD <| kx [(22, (kE 3))] [] (zE (qQ 3 (hr := by decide)) <| zM <| zZ) ?_
    refine jJ (jZ.refl _) ?_
    refine jA <| kX (wk (l := [(1, (.ref 0 0)), (20, (vl 3 1 mW [sx, sy, sz, su, sv])), (21, (kE 5)), (22, (kE 3))]) (b := [(0, some (bx (uZ (kJ.mk (jT.mk sx sy sz) (jN.mk sa sb sc sd) sf (kM.mk su sv)))))])) ?_
    refine kx [(23, (vb true))] [] (zE (qY true qS) <| zZ) ?_
    refine jA <| kD ?_
    refine jD <| jA <| jE <| jA <| kx [(4, (vi su))] [] (zE (zD nB 3) <| zE (yN vW) <| zM <| zZ) ?_
    refine jA <| kx [(31, (vb (decide (su < -1048576) || decide (((1048576 : Nat) : Int) < su))))] [] ?_ ?_
    ·refine zM <| zE qS <| zE (oV (vb (decide (su < -1048576))) (xD (by kernel_rfl))) <| ?_
     rcases hb7 : (decide (su < -1048576)) with _ | _
     ·replace hb7 := of_decide_eq_false hb7
      exact zM <| zE bO <| zE oPo <| zZ
     ·replace hb7 := of_decide_eq_true hb7
      exact zK <| zK <| zE bG <| zZ
    refine jQ rfl (fun h8 => ?_) (fun h8 => ?_)
    ·refine jA <| kx [(2, (kE 2))] [] (zM <| zZ) ?_
     refine jG ⟨_, (.tmp (d := (.val (.int .i64 (((2 : Nat) : Int))))) rfl .nil), ?_⟩
     first | (rw [show uL sx sy sz su sv sf sa sb sc sd = gU sa sb sc sd from cV (by unfold mQ; simp_all <;> omega)]; rfl) | (rw [show uL sx sy sz su sv sf sa sb sc sd = 2 from cS (by unfold mQ; simp_all <;> omega)]; rfl)
    ·refine jD <| kx [(22, (kE 4))] [] (zE (qQ 4 (hr := by decide)) <| zM <| zZ) ?_
     refine jJ (jZ.refl _) ?_
     refine jA <| kx [(23, (vb true))] [] (zE (qY true qS) <| zZ) ?_
     refine jA <| kD ?_
     refine jD <| jA <| jE <| jA <| kx [(4, (vi sv))] [] (zE (zD nB 4) <| zE (yN vW) <| zM <| zZ) ?_
     refine jA <| kx [(31, (vb (decide (sv < -1048576) || decide (((1048576 : Nat) : Int) < sv))))] [] ?_ ?_
     ·refine zM <| zE qS <| zE (oV (vb (decide (sv < -1048576))) (xD (by kernel_rfl))) <| ?_
      rcases hb9 : (decide (sv < -1048576)) with _ | _
      ·replace hb9 := of_decide_eq_false hb9
       exact zM <| zE bO <| zE oPo <| zZ
      ·replace hb9 := of_decide_eq_true hb9
       exact zK <| zK <| zE bG <| zZ
     refine jQ rfl (fun h10 => ?_) (fun h10 => ?_)
     ·refine jA <| kx [(2, (kE 2))] [] (zM <| zZ) ?_
      refine jG ⟨_, (.tmp (d := (.val (.int .i64 (((2 : Nat) : Int))))) rfl .nil), ?_⟩
      first | (rw [show uL sx sy sz su sv sf sa sb sc sd = gU sa sb sc sd from cV (by unfold mQ; simp_all <;> omega)]; rfl) | (rw [show uL sx sy sz su sv sf sa sb sc sd = 2 from cS (by unfold mQ; simp_all <;> omega)]; rfl)
     ·refine jD <| kx [(22, (kE 5))] [] (zE (qQ 5 (hr := by decide)) <| zM <| zZ) ?_
      refine jJ (jZ.refl _) ?_
      refine jA <| kx [(23, (vb false))] [] (zE (qY false qS) <| zZ) ?_
      refine jA <| kO ?_
      refine kQ <| jA <| jA <| kx [(40, (vb (decide (sf < ((1 : Nat) : Int)) || decide (((1048576 : Nat) : Int) < sf))))] [] ?_ ?_
      ·refine zE (kU fo29_2) <| zR (uM vW) <| zE qS <| zE (oV (vb (decide (sf < ((1 : Nat) : Int)))) (xD (by kernel_rfl))) <| ?_
       rcases hb11 : (decide (sf < ((1 : Nat) : Int))) with _ | _
       ·replace hb11 := of_decide_eq_false hb11
        exact zE (kU fo29_2) <| zR (uM vW) <| zE bO <| zE oPo <| zZ
       ·replace hb11 := of_decide_eq_true hb11
        exact zK <| zK <| zK <| zE bG <| zZ
      refine jQ rfl (fun h12 => ?_) (fun h12 => ?_)
      ·refine jA <| kx [(2, (kE 2))] [] (zM <| zZ) ?_
       refine jG ⟨_, (.tmp (d := (.val (.int .i64 (((2 : Nat) : Int))))) rfl .nil), ?_⟩
       first | (rw [show uL sx sy sz su sv sf sa sb sc sd = gU sa sb sc sd from cV (by unfold mQ; simp_all <;> omega)]; rfl) | (rw [show uL sx sy sz su sv sf sa sb sc sd = 2 from cS (by unfold mQ; simp_all <;> omega)]; rfl)
      ·refine jD <| jA <| kx [(2, (kE (gU sa sb sc sd)))] [] (zE (kU gF) <| zR (kA yO) <| zE (kC (q_chk sa sb sc sd)) <| zM <| zZ) ?_
       refine jG ⟨_, (.tmp (d := (.val (.int .i64 ((((gU sa sb sc sd) : Nat) : Int))))) rfl .nil), ?_⟩
       first | (rw [show uL sx sy sz su sv sf sa sb sc sd = gU sa sb sc sd from cV (by unfold mQ; simp_all <;> omega)]; rfl) | (rw [show uL sx sy sz su sv sf sa sb sc sd = 2 from cS (by unfold mQ; simp_all <;> omega)]; rfl)
theorem qs_stn (sx sy sz sa sb sc sd sf su sv : Int) : kF Tryz.prog 75 [(uZ (kJ.mk (jT.mk sx sy sz) (jN.mk sa sb sc sd) sf (kM.mk su sv)))] (.val (.int .i64 ((((uL sx sy sz su sv sf sa sb sc sd) : Nat) : Int)))) := by
 refine jL Tryz.func75 rfl cb75 rfl ?_
 show uK _ _ _ _ ⟨[(0, (.d (uZ (kJ.mk (jT.mk sx sy sz) (jN.mk sa sb sc sd) sf (kM.mk su sv)))))], []⟩
 refine jA <| kx [(1, (.ref 0 0))] [(0, some (bx (uZ (kJ.mk (jT.mk sx sy sz) (jN.mk sa sb sc sd) sf (kM.mk su sv)))))] (zN (uX 0) <| zM <| zZ) ?_
 refine jA <| jA <| kx [(20, (vl 3 1 mW [sx, sy, sz, su, sv])), (21, (kE 5)), (22, (kE 0))] [] (zE (kU yZ) <| zE (kU cO) <| zR (uM vW) <| zE (kU yZ) <| zE (kU dE) <| zR (uM vW) <| zE (kU yZ) <| zE (kU dI) <| zR (uM vW) <| zE (kU bI) <| zE (kU fo27_0) <| zR (uM vW) <| zE (kU bI) <| zE (kU fo27_1) <| zR (uM vW) <| zE (cP nB ze3 zo3) <| zE (fT nB 5) <| zM <| zZ) ?_
 refine jE <| qE 20 ?_
 refine qK <| jA <| kx [(23, (vb true))] [] (zE (qY true qS) <| zZ) ?_
 refine jA <| kD ?_
 refine jD <| jA <| jE <| jA <| kx [(4, (vi sx))] [] (zE (zD nB 0) <| zE (yN vW) <| zM <| zZ) ?_
 refine jA <| kx [(31, (vb (decide (sx < -1048576) || decide (((1048576 : Nat) : Int) < sx))))] [] ?_ ?_
 ·refine zM <| zE qS <| zE (oV (vb (decide (sx < -1048576))) (xD (by kernel_rfl))) <| ?_
  rcases hb1 : (decide (sx < -1048576)) with _ | _
  ·replace hb1 := of_decide_eq_false hb1
   exact zM <| zE bO <| zE oPo <| zZ
  ·replace hb1 := of_decide_eq_true hb1
   exact zK <| zK <| zE bG <| zZ
 refine jQ rfl (fun h2 => ?_) (fun h2 => ?_)
 ·refine jA <| kx [(2, (kE 2))] [] (zM <| zZ) ?_
  refine jG ⟨_, (.tmp (d := (.val (.int .i64 (((2 : Nat) : Int))))) rfl .nil), ?_⟩
  first | (rw [show uL sx sy sz su sv sf sa sb sc sd = gU sa sb sc sd from cV (by unfold mQ; simp_all <;> omega)]; rfl) | (rw [show uL sx sy sz su sv sf sa sb sc sd = 2 from cS (by unfold mQ; simp_all <;> omega)]; rfl)
 ·refine jD <| kx [(22, (kE 1))] [] (zE (qQ 1 (hr := by decide)) <| zM <| zZ) ?_
  refine jJ (jZ.refl _) ?_
  refine jA <| kx [(23, (vb true))] [] (zE (qY true qS) <| zZ) ?_
  refine jA <| kD ?_
  refine jD <| jA <| jE <| jA <| kx [(4, (vi sy))] [] (zE (zD nB 1) <| zE (yN vW) <| zM <| zZ) ?_
  refine jA <| kx [(31, (vb (decide (sy < -1048576) || decide (((1048576 : Nat) : Int) < sy))))] [] ?_ ?_
  ·refine zM <| zE qS <| zE (oV (vb (decide (sy < -1048576))) (xD (by kernel_rfl))) <| ?_
   rcases hb3 : (decide (sy < -1048576)) with _ | _
   ·replace hb3 := of_decide_eq_false hb3
    exact zM <| zE bO <| zE oPo <| zZ
   ·replace hb3 := of_decide_eq_true hb3
    exact zK <| zK <| zE bG <| zZ
  refine jQ rfl (fun h4 => ?_) (fun h4 => ?_)
  ·refine jA <| kx [(2, (kE 2))] [] (zM <| zZ) ?_
   refine jG ⟨_, (.tmp (d := (.val (.int .i64 (((2 : Nat) : Int))))) rfl .nil), ?_⟩
   first | (rw [show uL sx sy sz su sv sf sa sb sc sd = gU sa sb sc sd from cV (by unfold mQ; simp_all <;> omega)]; rfl) | (rw [show uL sx sy sz su sv sf sa sb sc sd = 2 from cS (by unfold mQ; simp_all <;> omega)]; rfl)
  ·refine jD <| kx [(22, (kE 2))] [] (zE (qQ 2 (hr := by decide)) <| zM <| zZ) ?_
   refine jJ (jZ.refl _) ?_
   refine jA <| kx [(23, (vb true))] [] (zE (qY true qS) <| zZ) ?_
   refine jA <| kD ?_
   refine jD <| jA <| jE <| jA <| kx [(4, (vi sz))] [] (zE (zD nB 2) <| zE (yN vW) <| zM <| zZ) ?_
   refine jA <| kx [(31, (vb (decide (sz < -1048576) || decide (((1048576 : Nat) : Int) < sz))))] [] ?_ ?_
   ·refine zM <| zE qS <| zE (oV (vb (decide (sz < -1048576))) (xD (by kernel_rfl))) <| ?_
    rcases hb5 : (decide (sz < -1048576)) with _ | _
    ·replace hb5 := of_decide_eq_false hb5
     exact zM <| zE bO <| zE oPo <| zZ
    ·replace hb5 := of_decide_eq_true hb5
     exact zK <| zK <| zE bG <| zZ
   refine jQ rfl (fun h6 => ?_) (fun h6 => ?_)
   ·refine jA <| kx [(2, (kE 2))] [] (zM <| zZ) ?_
    refine jG ⟨_, (.tmp (d := (.val (.int .i64 (((2 : Nat) : Int))))) rfl .nil), ?_⟩
    first | (rw [show uL sx sy sz su sv sf sa sb sc sd = gU sa sb sc sd from cV (by unfold mQ; simp_all <;> omega)]; rfl) | (rw [show uL sx sy sz su sv sf sa sb sc sd = 2 from cS (by unfold mQ; simp_all <;> omega)]; rfl)
   ·refine jD <| kx [(22, (kE 3))] [] (zE (qQ 3 (hr := by decide)) <| zM <| zZ) ?_
    refine jJ (jZ.refl _) ?_
    refine jA <| kX (wk (l := [(1, (.ref 0 0)), (20, (vl 3 1 mW [sx, sy, sz, su, sv])), (21, (kE 5)), (22, (kE 3))]) (b := [(0, some (bx (uZ (kJ.mk (jT.mk sx sy sz) (jN.mk sa sb sc sd) sf (kM.mk su sv)))))])) ?_
    refine kx [(23, (vb true))] [] (zE (qY true qS) <| zZ) ?_
    refine jA <| kD ?_
    refine jD <| jA <| jE <| jA <| kx [(4, (vi su))] [] (zE (zD nB 3) <| zE (yN vW) <| zM <| zZ) ?_
    refine jA <| kx [(31, (vb (decide (su < -1048576) || decide (((1048576 : Nat) : Int) < su))))] [] ?_ ?_
    ·refine zM <| zE qS <| zE (oV (vb (decide (su < -1048576))) (xD (by kernel_rfl))) <| ?_
     rcases hb7 : (decide (su < -1048576)) with _ | _
     ·replace hb7 := of_decide_eq_false hb7
      exact zM <| zE bO <| zE oPo <| zZ
     ·replace hb7 := of_decide_eq_true hb7
      exact zK <| zK <| zE bG <| zZ
    refine jQ rfl (fun h8 => ?_) (fun h8 => ?_)
    ·refine jA <| kx [(2, (kE 2))] [] (zM <| zZ) ?_
     refine jG ⟨_, (.tmp (d := (.val (.int .i64 (((2 : Nat) : Int))))) rfl .nil), ?_⟩
     first | (rw [show uL sx sy sz su sv sf sa sb sc sd = gU sa sb sc sd from cV (by unfold mQ; simp_all <;> omega)]; rfl) | (rw [show uL sx sy sz su sv sf sa sb sc sd = 2 from cS (by unfold mQ; simp_all <;> omega)]; rfl)
    ·refine jD <| kx [(22, (kE 4))] [] (zE (qQ 4 (hr := by decide)) <| zM <| zZ) ?_
     refine jJ (jZ.refl _) ?_
     refine jA <| kx [(23, (vb true))] [] (zE (qY true qS) <| zZ) ?_
     refine jA <| kD ?_
     refine jD <| jA <| jE <| jA <| kx [(4, (vi sv))] [] (zE (zD nB 4) <| zE (yN vW) <| zM <| zZ) ?_
     refine jA <| kx [(31, (vb (decide (sv < -1048576) || decide (((1048576 : Nat) : Int) < sv))))] [] ?_ ?_
     ·refine zM <| zE qS <| zE (oV (vb (decide (sv < -1048576))) (xD (by kernel_rfl))) <| ?_
      rcases hb9 : (decide (sv < -1048576)) with _ | _
      ·replace hb9 := of_decide_eq_false hb9
       exact zM <| zE bO <| zE oPo <| zZ
      ·replace hb9 := of_decide_eq_true hb9
       exact zK <| zK <| zE bG <| zZ
     refine jQ rfl (fun h10 => ?_) (fun h10 => ?_)
     ·refine jA <| kx [(2, (kE 2))] [] (zM <| zZ) ?_
      refine jG ⟨_, (.tmp (d := (.val (.int .i64 (((2 : Nat) : Int))))) rfl .nil), ?_⟩
      first | (rw [show uL sx sy sz su sv sf sa sb sc sd = gU sa sb sc sd from cV (by unfold mQ; simp_all <;> omega)]; rfl) | (rw [show uL sx sy sz su sv sf sa sb sc sd = 2 from cS (by unfold mQ; simp_all <;> omega)]; rfl)
     ·refine jD <| kx [(22, (kE 5))] [] (zE (qQ 5 (hr := by decide)) <| zM <| zZ) ?_
      refine jJ (jZ.refl _) ?_
      refine jA <| kx [(23, (vb false))] [] (zE (qY false qS) <| zZ) ?_
      refine jA <| kO ?_
      refine kQ <| jA <| jA <| kx [(40, (vb (decide (sf < ((1 : Nat) : Int)) || decide (((1048576 : Nat) : Int) < sf))))] [] ?_ ?_
      ·refine zE (kU fo29_2) <| zR (uM vW) <| zE qS <| zE (oV (vb (decide (sf < ((1 : Nat) : Int)))) (xD (by kernel_rfl))) <| ?_
       rcases hb11 : (decide (sf < ((1 : Nat) : Int))) with _ | _
       ·replace hb11 := of_decide_eq_false hb11
        exact zE (kU fo29_2) <| zR (uM vW) <| zE bO <| zE oPo <| zZ
       ·replace hb11 := of_decide_eq_true hb11
        exact zK <| zK <| zK <| zE bG <| zZ
      refine jQ rfl (fun h12 => ?_) (fun h12 => ?_)
      ·refine jA <| kx [(2, (kE 2))] [] (zM <| zZ) ?_
       refine jG ⟨_, (.tmp (d := (.val (.int .i64 (((2 : Nat) : Int))))) rfl .nil), ?_⟩
       first | (rw [show uL sx sy sz su sv sf sa sb sc sd = gU sa sb sc sd from cV (by unfold mQ; simp_all <;> omega)]; rfl) | (rw [show uL sx sy sz su sv sf sa sb sc sd = 2 from cS (by unfold mQ; simp_all <;> omega)]; rfl)
      ·refine jD <| jA <| kx [(2, (kE (gU sa sb sc sd)))] [] (zE (kU gF) <| zR (kA yO) <| zE (kC (qs_chk sa sb sc sd)) <| zM <| zZ) ?_
       refine jG ⟨_, (.tmp (d := (.val (.int .i64 ((((gU sa sb sc sd) : Nat) : Int))))) rfl .nil), ?_⟩
       first | (rw [show uL sx sy sz su sv sf sa sb sc sd = gU sa sb sc sd from cV (by unfold mQ; simp_all <;> omega)]; rfl) | (rw [show uL sx sy sz su sv sf sa sb sc sd = 2 from cS (by unfold mQ; simp_all <;> omega)]; rfl)
theorem q_inner (sx sy sz sa sb sc sd sf su sv : Int) (hsu : -1048576 ≤ su ∧ su ≤ 1048576) (hsv : -1048576 ≤ sv ∧ sv ≤ 1048576) (hsf : 1 ≤ sf ∧ sf ≤ 1048576) : kF Tryz.prog 71 [(uZ (kJ.mk (jT.mk sx sy sz) (jN.mk sa sb sc sd) sf (kM.mk su sv)))] (qU (A3.mk (A3.mk (jC ((1 : Int) : Rat)) (jC ((0 : Int) : Rat)) (jC ((-su : Int) : Rat))) (A3.mk (jC ((0 : Int) : Rat)) (jC ((1 : Int) : Rat)) (jC ((-sv : Int) : Rat))) (A3.mk (jC ((0 : Int) : Rat)) (jC ((0 : Int) : Rat)) (jC ((sf : Int) : Rat))))) := by
 let y1 := (A3.mk (kG.mk (jF.mk false []) (jF.mk false [])) (kG.mk (jF.mk false []) (jF.mk false [])) (kG.mk (jF.mk false []) (jF.mk false [])))
 refine jL Tryz.func71 rfl cb71 rfl ?_
 show uK _ _ _ _ ⟨[(0, (.d (uZ (kJ.mk (jT.mk sx sy sz) (jN.mk sa sb sc sd) sf (kM.mk su sv)))))], []⟩
 refine jA <| kx [(1, (.ref 0 0)), (2, (.ref 1 0))] [(0, some (bx (uZ (kJ.mk (jT.mk sx sy sz) (jN.mk sa sb sc sd) sf (kM.mk su sv))))), (1, some (bx (qU (A3.mk y1 y1 y1))))] (zN (uX 0) <| zN (qH 1 eL eF) <| zZ) ?_
 refine jA ?_
 have bn1 : QL ((1 : Int) : Rat) 3 := (qi 1)
 have bn2 : QL ((0 : Int) : Rat) 3 := (qi 0)
 have bn3 : QL ((-su : Int) : Rat) 3 := (qi (-su))
 have bn4 : QL ((-sv : Int) : Rat) 3 := (qi (-sv))
 have bn5 : QL ((sf : Int) : Rat) 3 := (qi sf)
 refine kd [] [(1, some (bx (qU (A3.mk (A3.mk (jC ((1 : Int) : Rat)) (jC ((0 : Int) : Rat)) (jC ((-su : Int) : Rat))) (A3.mk (jC ((0 : Int) : Rat)) (jC ((1 : Int) : Rat)) (jC ((-sv : Int) : Rat))) (A3.mk (jC ((0 : Int) : Rat)) (jC ((0 : Int) : Rat)) (jC ((sf : Int) : Rat)))))))] mo (wE (kU bI) <| wE (kU fo27_0) <| wR (uM vW) <| wE (oNg (-su)) <| wE (kC (q_whole ((1 : Nat) : Int) (by omega) (by omega) ((0 : Nat) : Int) (by omega) (by omega) (-su) (by omega) (by omega))) <| wE (kU bI) <| wE (kU fo27_1) <| wR (uM vW) <| wE (oNg (-sv)) <| wE (kC (q_whole ((0 : Nat) : Int) (by omega) (by omega) ((1 : Nat) : Int) (by omega) (by omega) (-sv) (by omega) (by omega))) <| wE (kU fo29_2) <| wR (uM vW) <| wE (kC (q_whole ((0 : Nat) : Int) (by omega) (by omega) ((0 : Nat) : Int) (by omega) (by omega) sf (by omega) (by omega))) <| wE (oBf vY eL eF) <| wT (kR hC) <| wZ) ?_
 refine jG ⟨_, (qB (cs := (bx (qU (A3.mk (A3.mk (jC ((1 : Int) : Rat)) (jC ((0 : Int) : Rat)) (jC ((-su : Int) : Rat))) (A3.mk (jC ((0 : Int) : Rat)) (jC ((1 : Int) : Rat)) (jC ((-sv : Int) : Rat))) (A3.mk (jC ((0 : Int) : Rat)) (jC ((0 : Int) : Rat)) (jC ((sf : Int) : Rat))))))) (d := (qU (A3.mk (A3.mk (jC ((1 : Int) : Rat)) (jC ((0 : Int) : Rat)) (jC ((-su : Int) : Rat))) (A3.mk (jC ((0 : Int) : Rat)) (jC ((1 : Int) : Rat)) (jC ((-sv : Int) : Rat))) (A3.mk (jC ((0 : Int) : Rat)) (jC ((0 : Int) : Rat)) (jC ((sf : Int) : Rat)))))) rfl rfl hC rfl rfl .nil), ?_⟩
 rfl
theorem q_red (a0 a1 a2 : Rat) (ha0 : QL a0 10000000) (ha1 : QL a1 10000000) (ha2 : QL a2 10000000) (hz : yU a0 a1 a2 = false) : kF Tryz.prog 127 [(jY (A3.mk (jC a0) (jC a1) (jC a2)))] (jY (A3.mk (jC (a0 * (yC a0 a1 a2))) (jC (a1 * (yC a0 a1 a2))) (jC (a2 * (yC a0 a1 a2))))) := by
 refine jL Tryz.func127 rfl cb127 rfl ?_
 show uK _ _ _ _ ⟨[(0, (.d (jY (A3.mk (jC a0) (jC a1) (jC a2)))))], []⟩
 refine jA <| kx [(1, (.ref 0 0)), (2, (.ref 1 0))] [(0, some (bx (jY (A3.mk (jC a0) (jC a1) (jC a2))))), (1, some (bx (jY (A3.mk (kG.mk (jF.mk false []) (jF.mk false [])) (kG.mk (jF.mk false []) (jF.mk false [])) (kG.mk (jF.mk false []) (jF.mk false []))))))] (zN (uX 0) <| zN (qH 1 cH cG) <| zZ) ?_
 refine jA ?_
 have bn1 : kZ (jK (((Int.gcd a1.num a2.num : Nat) : Int))) (((Int.gcd a1.num a2.num : Nat) : Int)) 10000000 := (hM (k := 10000000) (kN ha1) (kN ha2) (by decide))
 have bn2 : kZ (jK (((Int.gcd a0.num (((Int.gcd a1.num a2.num : Nat) : Int)) : Nat) : Int))) (((Int.gcd a0.num (((Int.gcd a1.num a2.num : Nat) : Int)) : Nat) : Int)) 10000000 := (hM (k := 10000000) (kN ha0) bn1 (by decide))
 refine kd [(3, (.ref 2 0))] [(2, some (bx (jH (jK ((Int.gcd a0.num (((Int.gcd a1.num a2.num : Nat) : Int)) : Nat) : Int)))))] mo (wE (uJ uP 0) <| wE (kU vZ) <| wR (kA jI) <| wE (uJ uP 1) <| wE (kU vZ) <| wR (kA jI) <| wE (uJ uP 2) <| wE (kU vZ) <| wR (kA jI) <| wE (kC (s_gcd (kN ha1) (kN ha2) (by decide) (by decide))) <| wE (kC (s_gcd (kN ha0) bn1 (by decide) (by decide))) <| wN (qH 2 uD uE) <| wT (kR jI) <| wZ) ?_
 refine jA ?_
 have bn3 : QL (Rat.divInt 1 (((Int.gcd a0.num (((Int.gcd a1.num a2.num : Nat) : Int)) : Nat) : Int))) 10000000 := (qO (n := 10000000) (Nat.le_trans (kZ.ln (yI (z := 1) (by decide))) (by decide)) (Nat.le_trans (kZ.ln bn2) (by decide)) (by decide))
 refine kd [(4, (.ref 3 0))] [(3, some (bx (jO (jC (Rat.divInt 1 (((Int.gcd a0.num (((Int.gcd a1.num a2.num : Nat) : Int)) : Nat) : Int)))))))] mo (wE (kC (t_of 1 (by decide) (by decide))) <| wR (kA jI) <| wE (kC (f_newO (jK 1) 1 (qJ (yI (z := 1) (by decide)) (by decide)) (jK ((Int.gcd a0.num (((Int.gcd a1.num a2.num : Nat) : Int)) : Nat) : Int)) (((Int.gcd a0.num (((Int.gcd a1.num a2.num : Nat) : Int)) : Nat) : Int)) (iu bn2) (gcd3_ne hz))) <| wM <| wE uH <| wE uH <| wN (qH 3 qM qR) <| wT (kR jS) <| wM <| wZ) ?_
 refine jA <| kx [] [(1, some (bx (jY (A3.mk (jC (a0 * (Rat.divInt 1 (((Int.gcd a0.num (((Int.gcd a1.num a2.num : Nat) : Int)) : Nat) : Int))))) (jC (a1 * (Rat.divInt 1 (((Int.gcd a0.num (((Int.gcd a1.num a2.num : Nat) : Int)) : Nat) : Int))))) (jC (a2 * (Rat.divInt 1 (((Int.gcd a0.num (((Int.gcd a1.num a2.num : Nat) : Int)) : Nat) : Int)))))))))] (zR (kA uN) <| zR (kA jS) <| zE (kC (eJ a0 a1 a2 (qu ha0) (qu ha1) (qu ha2) (Rat.divInt 1 (((Int.gcd a0.num (((Int.gcd a1.num a2.num : Nat) : Int)) : Nat) : Int))) (qu bn3))) <| zT (kR uN) <| zZ) ?_
 refine jG ⟨_, (qB (cs := (bx (jY (A3.mk (jC (a0 * (Rat.divInt 1 (((Int.gcd a0.num (((Int.gcd a1.num a2.num : Nat) : Int)) : Nat) : Int))))) (jC (a1 * (Rat.divInt 1 (((Int.gcd a0.num (((Int.gcd a1.num a2.num : Nat) : Int)) : Nat) : Int))))) (jC (a2 * (Rat.divInt 1 (((Int.gcd a0.num (((Int.gcd a1.num a2.num : Nat) : Int)) : Nat) : Int))))))))) (d := (jY (A3.mk (jC (a0 * (Rat.divInt 1 (((Int.gcd a0.num (((Int.gcd a1.num a2.num : Nat) : Int)) : Nat) : Int))))) (jC (a1 * (Rat.divInt 1 (((Int.gcd a0.num (((Int.gcd a1.num a2.num : Nat) : Int)) : Nat) : Int))))) (jC (a2 * (Rat.divInt 1 (((Int.gcd a0.num (((Int.gcd a1.num a2.num : Nat) : Int)) : Nat) : Int)))))))) rfl rfl uN rfl rfl .nil), ?_⟩
 rfl
theorem qs_red (a0 a1 a2 : Rat) (ha0 : QL a0 10000000) (ha1 : QL a1 10000000) (ha2 : QL a2 10000000) (hz : yU a0 a1 a2 = false) : kF Tryz.prog 80 [(jY (A3.mk (jC a0) (jC a1) (jC a2)))] (jY (A3.mk (jC (a0 * (yC a0 a1 a2))) (jC (a1 * (yC a0 a1 a2))) (jC (a2 * (yC a0 a1 a2))))) := by
 let y1 := (kG.mk (jF.mk false []) (jF.mk false []))
 refine jL Tryz.func80 rfl cb80 rfl ?_
 show uK _ _ _ _ ⟨[(0, (.d (jY (A3.mk (jC a0) (jC a1) (jC a2)))))], []⟩
 refine jA <| kx [(1, (.ref 0 0)), (2, (.ref 1 0))] [(0, some (bx (jY (A3.mk (jC a0) (jC a1) (jC a2))))), (1, some (bx (jY (A3.mk y1 y1 y1))))] (zN (uX 0) <| zN (qH 1 iE bV) <| zZ) ?_
 refine jA <| kx [(3, (.ref 2 0))] [(2, some (bx (jH (jK 0))))] (zE (kC (r_of 0 (by decide) (by decide))) <| zN (qH 2 uD uE) <| zT (kR jI) <| zZ) ?_
 refine jA <| jA <| kx [(9, (.d (jY (A3.mk (jC a0) (jC a1) (jC a2))))), (10, (kE 0))] [] (zR (kA xR) <| zM <| zZ) ?_
 refine jE <| qE 20 ?_
 refine qK <| jA <| kx [(11, (vb true))] [] (zE (qY true qS) <| zZ) ?_
 refine jA <| kD ?_
 refine jD <| jA <| jE <| jA <| kx [(5, (.ref 3 0))] [(3, some (bx (jO (jC a0))))] (zE (iF gM jS (fun h => by cases h) 0) <| zN (qH 3 qM qR) <| zT (kR jS) <| zZ) ?_
 have bn1 : kZ (jK (((Int.gcd 0 a0.num : Nat) : Int))) (((Int.gcd 0 a0.num : Nat) : Int)) 10000000 := (hM (k := 10000000) (yI (z := 0) (by decide)) (kN ha0) (by decide))
 refine kx [] [(2, some (bx (jH (jK ((Int.gcd 0 a0.num : Nat) : Int)))))] (zR (kA jI) <| zE (kU vZ) <| zR (kA jI) <| zE (kC (rs_gcd (yI (z := 0) (by decide)) (kN ha0) (by decide) (by decide))) <| zT (kR jI) <| zZ) ?_
 refine kx [(10, (kE 1))] [] (zE (qQ 1 (hr := by decide)) <| zM <| zZ) ?_
 refine jJ (jZ.refl _) ?_
 refine jA <| kx [(11, (vb true))] [] (zE (qY true qS) <| zZ) ?_
 refine jA <| kD ?_
 refine jD <| jA <| jE <| jA <| kx [(5, (.ref 4 0))] [(4, some (bx (jO (jC a1))))] (zE (iF gM jS (fun h => by cases h) 1) <| zN (qH 4 qM qR) <| zT (kR jS) <| zZ) ?_
 have bn2 : kZ (jK (((Int.gcd (((Int.gcd 0 a0.num : Nat) : Int)) a1.num : Nat) : Int))) (((Int.gcd (((Int.gcd 0 a0.num : Nat) : Int)) a1.num : Nat) : Int)) 10000000 := (hM (k := 10000000) bn1 (kN ha1) (by decide))
 refine kx [] [(2, some (bx (jH (jK ((Int.gcd (((Int.gcd 0 a0.num : Nat) : Int)) a1.num : Nat) : Int)))))] (zR (kA jI) <| zE (kU vZ) <| zR (kA jI) <| zE (kC (rs_gcd bn1 (kN ha1) (by decide) (by decide))) <| zT (kR jI) <| zZ) ?_
 refine kx [(10, (kE 2))] [] (zE (qQ 2 (hr := by decide)) <| zM <| zZ) ?_
 refine jJ (jZ.refl _) ?_
 refine jA <| kx [(11, (vb true))] [] (zE (qY true qS) <| zZ) ?_
 refine jA <| kD ?_
 refine jD <| jA <| jE <| jA <| kx [(5, (.ref 5 0))] [(5, some (bx (jO (jC a2))))] (zE (iF gM jS (fun h => by cases h) 2) <| zN (qH 5 qM qR) <| zT (kR jS) <| zZ) ?_
 have bn3 : kZ (jK (eU a0 a1 a2)) (eU a0 a1 a2) 10000000 := (kT (gcd3_ref a0 a1 a2).symm (hM (k := 10000000) bn2 (kN ha2) (by decide)))
 refine kx [] [(2, some (bx (jH (jK (eU a0 a1 a2)))))] (zR (kA jI) <| zE (kU vZ) <| zR (kA jI) <| zE (kC (by have h := rs_gcd bn2 (kN ha2) (by decide) (by decide); rw [(gcd3_ref a0 a1 a2)] at h; exact h)) <| zT (kR jI) <| zZ) ?_
 refine kX (wk (l := [(1, (.ref 0 0)), (2, (.ref 1 0)), (3, (.ref 2 0)), (9, (.d (jY (A3.mk (jC a0) (jC a1) (jC a2))))), (10, (kE 2))]) (b := [(0, some (bx (jY (A3.mk (jC a0) (jC a1) (jC a2))))), (1, some (bx (jY (A3.mk y1 y1 y1)))), (2, some (bx (jH (jK (eU a0 a1 a2)))))])) ?_
 refine kx [(10, (kE 3))] [] (zE (qQ 3 (hr := by decide)) <| zM <| zZ) ?_
 refine jJ (jZ.refl _) ?_
 refine jA <| kx [(11, (vb false))] [] (zE (qY false qS) <| zZ) ?_
 refine jA <| kO ?_
 refine kQ <| jA ?_
 have bn4 : QL (Rat.divInt 1 (eU a0 a1 a2)) 10000000 := (qO (n := 10000000) (Nat.le_trans (kZ.ln (yI (z := 1) (by decide))) (by decide)) (Nat.le_trans (kZ.ln bn3) (by decide)) (by decide))
 refine kd [(6, (.ref 6 0))] [(6, some (bx (jO (jC (Rat.divInt 1 (eU a0 a1 a2))))))] mo (wE (kC (r_of 1 (by decide) (by decide))) <| wR (kA jI) <| wE (kC (g_newO (jK 1) 1 (qJ (yI (z := 1) (by decide)) (by decide)) (jK (eU a0 a1 a2)) (eU a0 a1 a2) (iu bn3) (gcd3_ne hz))) <| wM <| wE uH <| wE uH <| wN (qH 6 qM qR) <| wT (kR jS) <| wM <| wZ) ?_
 refine jA <| kx [] [(1, some (bx (jY (A3.mk (jC (a0 * (Rat.divInt 1 (eU a0 a1 a2)))) (jC (a1 * (Rat.divInt 1 (eU a0 a1 a2)))) (jC (a2 * (Rat.divInt 1 (eU a0 a1 a2))))))))] (zR (kA xR) <| zR (kA jS) <| zE (kC (cD a0 a1 a2 (qu ha0) (qu ha1) (qu ha2) (Rat.divInt 1 (eU a0 a1 a2)) (qu bn4))) <| zT (kR xR) <| zZ) ?_
 refine jG ⟨_, (qB (cs := (bx (jY (A3.mk (jC (a0 * (Rat.divInt 1 (eU a0 a1 a2)))) (jC (a1 * (Rat.divInt 1 (eU a0 a1 a2)))) (jC (a2 * (Rat.divInt 1 (eU a0 a1 a2)))))))) (d := (jY (A3.mk (jC (a0 * (Rat.divInt 1 (eU a0 a1 a2)))) (jC (a1 * (Rat.divInt 1 (eU a0 a1 a2)))) (jC (a2 * (Rat.divInt 1 (eU a0 a1 a2))))))) rfl rfl xR rfl rfl .nil), ?_⟩
 rfl
theorem q_isz (a0 a1 a2 : Rat) (ha0 : QL a0 100000000) (ha1 : QL a1 100000000) (ha2 : QL a2 100000000) : kF Tryz.prog 128 [(jY (A3.mk (jC a0) (jC a1) (jC a2)))] (.val (.bool ((yU a0 a1 a2)))) := by
 refine jL Tryz.func128 rfl cb128 rfl ?_
 show uK _ _ _ _ ⟨[(0, (.d (jY (A3.mk (jC a0) (jC a1) (jC a2)))))], []⟩
 refine jA <| kx [(1, (.ref 0 0))] [(0, some (bx (jY (A3.mk (jC a0) (jC a1) (jC a2)))))] (zN (uX 0) <| zM <| zZ) ?_
 refine jA <| kx [(2, (vb ((yT (jM a0 a1 a2 a0 a1 a2)) == 0)))] [] (zR (kA uN) <| zR (kA uN) <| zE (kC (q_dot a0 a1 a2 ha0 ha1 ha2 a0 a1 a2 ha0 ha1 ha2)) <| zE (kC (f_sign (jC (jM a0 a1 a2 a0 a1 a2)) (jM a0 a1 a2 a0 a1 a2) (kH (kL (jR (n := 100000000) (k := 600000002) ha0 ha1 ha2 ha0 ha1 ha2 (by decide))) (by decide)))) <| zE aO <| zM <| zZ) ?_
 refine jG ⟨_, (.tmp (d := (.val (.bool (((yT (jM a0 a1 a2 a0 a1 a2)) == 0))))) rfl .nil), ?_⟩
 rw [← zeroV_dot]; rfl
theorem qs_zero (a0 a1 a2 : Rat) (ha0 : QL a0 100000000) (ha1 : QL a1 100000000) (ha2 : QL a2 100000000) : kF Tryz.prog 79 [(jY (A3.mk (jC a0) (jC a1) (jC a2)))] (.val (.bool ((yU a0 a1 a2)))) := by
 refine jL Tryz.func79 rfl cb79 rfl ?_
 show uK _ _ _ _ ⟨[(0, (.d (jY (A3.mk (jC a0) (jC a1) (jC a2)))))], []⟩
 refine jA <| kx [(1, (.ref 0 0))] [(0, some (bx (jY (A3.mk (jC a0) (jC a1) (jC a2)))))] (zN (uX 0) <| zM <| zZ) ?_
 refine jA <| kx [(2, (vb ((((yT a0) == 0) && ((yT a1) == 0)) && ((yT a2) == 0))))] [] ?_ ?_
 ·refine zE (uJ gM 0) <| zR (kA jS) <| zE (kC (g_sign (jC a0) a0 (kH (kL ha0) (by decide)))) <| zE aO <| zE (oV (vb ((yT a0) == 0)) (xD (by kernel_rfl))) <| ?_
  rcases hb1 : ((yT a0) == 0) with _ | _
  ·replace hb1 := ne_of_beq_false hb1
   exact zK <| zK <| zK <| zK <| zE fC <| zM <| zK <| zK <| zK <| zK <| zE fC <| zM <| zZ
  ·replace hb1 := eq_of_beq hb1
   refine zE (uJ gM 1) <| zR (kA jS) <| zE (kC (g_sign (jC a1) a1 (kH (kL ha1) (by decide)))) <| zE aO <| zE oPa <| zE (oV (vb (true && ((yT a1) == 0))) (xD (by kernel_rfl))) <| ?_
   rcases hb2 : (true && ((yT a1) == 0)) with _ | _
   ·exact zK <| zK <| zK <| zK <| zE fC <| zM <| zZ
   ·exact zE (uJ gM 2) <| zR (kA jS) <| zE (kC (g_sign (jC a2) a2 (kH (kL ha2) (by decide)))) <| zE aO <| zE oPa <| zM <| zZ
 refine jG ⟨_, (.tmp (d := (.val (.bool (((((yT a0) == 0) && ((yT a1) == 0)) && ((yT a2) == 0)))))) rfl .nil), ?_⟩
 rw [zeroV_sgn]; rfl
end Go.Proofs.YtbecgnplakngdaaGreat
