/- Part 29 of a proof: rules, plain facts, and functions walked. -/
import Derived.Test.YtbecgnplakngdaaGreatM28
namespace Go.Proofs.YtbecgnplakngdaaGreat
open Go.Fid
set_option maxRecDepth 4000
set_option linter.unusedVariables false
set_option linter.unusedSimpArgs false
theorem cb19 : callB Tryz.prog 19 = true := by kernel_rfl
theorem cb31 : callB Tryz.prog 31 = true := by kernel_rfl
theorem cb35 : callB Tryz.prog 35 = true := by kernel_rfl
theorem cb40 : callB Tryz.prog 40 = true := by kernel_rfl
theorem cb42 : callB Tryz.prog 42 = true := by kernel_rfl
theorem cb48 : callB Tryz.prog 48 = true := by kernel_rfl
theorem cb99 : callB Tryz.prog 99 = true := by kernel_rfl
theorem cb111 : callB Tryz.prog 111 = true := by kernel_rfl
theorem cb150 : callB Tryz.prog 150 = true := by kernel_rfl
theorem q_along (n : Int) (hnl : -1048576 ≤ n) (hnh : n ≤ 1048576) (x : Rat) (hx : QL x 1000000) (sx sy sz sa sb sc sd sf su sv : Int) (hsu : -1048576 ≤ su ∧ su ≤ 1048576) (hsv : -1048576 ≤ sv ∧ sv ≤ 1048576) (hsf : 1 ≤ sf ∧ sf ≤ 1048576) (v0 v1 v2 : Rat) (hv0 : QL v0 1000000) (hv1 : QL v1 1000000) (hv2 : QL v2 1000000) (hs2 : ¬ (vJ v2) ≤ 0) : kE Tryz.prog 150 [(.val (.int .i64 (n))), (jR (jB x)), (.cptr 1000000 (qH.cells (uI (jX.mk (jM.mk sx sy sz) (jK.mk sa sb sc sd) sf (jZ.mk su sv)))) 0), (.cptr 1000000 (qH.cells (jP (A3.mk (jB v0) (jB v1) (jB v2)))) 0)] (jR (jB (((n : Int) : Rat) + ((((sf : Int) : Rat) * x) / v2)))) := by
 refine jN Tryz.func150 rfl cb150 rfl ?_
 show uT _ _ _ _ ⟨[(0, (vi n)), (1, (.d (jR (jB x)))), (2, (.d (.cptr 1000000 (qH.cells (uI (jX.mk (jM.mk sx sy sz) (jK.mk sa sb sc sd) sf (jZ.mk su sv)))) 0))), (3, (.d (.cptr 1000000 (qH.cells (jP (A3.mk (jB v0) (jB v1) (jB v2)))) 0)))], []⟩
 refine jA <| kx [(5, (.ref 0 0)), (6, (.ref 1 0))] [(0, some (bx (jR (jB x)))), (1, some (bx (jR (jQ.mk (jF.mk false []) (jF.mk false [])))))] (zN (uX 0) <| zN (qS 1 qR qY) <| zZ) ?_
 refine jA ?_
 have bn1 : QL ((sf : Int) : Rat) 3 := (kQ (z := sf) (jO (by omega) (by omega)) (by decide))
 have bn2 : QL ((((sf : Int) : Rat) * x) / v2) 2000003 := (kF (k := 2000003) (jH (k := 1000003) bn1 hx (by decide)) hv2 (by decide))
 refine kd [(7, (.ref 2 0))] [(2, some (bx (jR (jB ((((sf : Int) : Rat) * x) / v2)))))] mo (wE (oFc bK) <| wE (gA vQ) <| wE (kA (gX sf (by omega) (by omega))) <| wR (kC jT) <| wE (kA (aQ (jB ((sf : Int) : Rat)) (jB x) ((sf : Int) : Rat) x (jU (kD bn1) (by decide)) (jU (kD hx) (by decide)))) <| wE (oXc uE 2) <| wE (cG jT) <| wE (kA (by have h := fD (jB (((sf : Int) : Rat) * x)) (jB v2) (((sf : Int) : Rat) * x) v2 (jU (kD (jH (k := 1000003) bn1 hx (by decide))) (by decide)) (jU (kD hv2) (by decide)); rw [nD (hH hs2), nC (hH hs2)] at h; exact h)) <| wM <| wE uH <| wE uH <| wN (qS 2 qR qY) <| wT (qB jT) <| wM <| wZ) ?_
 refine jA ?_
 have bn3 : QL ((n : Int) : Rat) 3 := (kQ (z := n) (jO (by omega) (by omega)) (by decide))
 refine kd [] [(1, some (bx (jR (jB (((n : Int) : Rat) + ((((sf : Int) : Rat) * x) / v2))))))] mo (wM <| wE (kA (gX n (by omega) (by omega))) <| wR (kC jT) <| wE (kA (f_add (jB ((n : Int) : Rat)) (jB ((((sf : Int) : Rat) * x) / v2)) ((n : Int) : Rat) ((((sf : Int) : Rat) * x) / v2) (jU (kD bn3) (by decide)) (jU (kD bn2) (by decide)))) <| wT (qB jT) <| wZ) ?_
 refine jJ ⟨_, (qI (cs := (bx (jR (jB (((n : Int) : Rat) + ((((sf : Int) : Rat) * x) / v2)))))) (d := (jR (jB (((n : Int) : Rat) + ((((sf : Int) : Rat) * x) / v2))))) rfl rfl jT rfl rfl .nil), ?_⟩
 rfl
theorem qs_shownN (tx ty tz ta tb tc td tf tu tv : Int) (w0 w1 w2 : Rat) (hw0 : QL w0 100000) (hw1 : QL w1 100000) (hw2 : QL w2 100000) (hst : qV tx ty tz tu tv tf ta tb tc td = 0) (hs2 : (vJ (jD (uL ta tb tc td) (uN ta tb tc td) (uO ta tb tc td) w0 w1 w2)) ≤ 0) : kE Tryz.prog 19 [(uI (jX.mk (jM.mk tx ty tz) (jK.mk ta tb tc td) tf (jZ.mk tu tv))), (jP (A3.mk (jB w0) (jB w1) (jB w2)))] (.tup [(jI (jS.mk (jQ.mk (jF.mk false []) (jF.mk false [])) (jQ.mk (jF.mk false []) (jF.mk false [])))), (.val (.int .i64 (20)))]) := by
 obtain ⟨htx, hty, htz, htu, htv, htf, htq⟩ := uB hst
 obtain ⟨hta, htb, htc, htd, -⟩ := uA htq
 have hnt := xV hta htb htc htd
 refine jN Tryz.func19 rfl cb19 rfl ?_
 show uT _ _ _ _ ⟨[(0, (.d (uI (jX.mk (jM.mk tx ty tz) (jK.mk ta tb tc td) tf (jZ.mk tu tv))))), (1, (.d (jP (A3.mk (jB w0) (jB w1) (jB w2)))))], []⟩
 refine jA <| kx [(2, (.ref 0 0)), (3, (.ref 1 0)), (4, (.ref 2 0))] [(0, some (bx (uI (jX.mk (jM.mk tx ty tz) (jK.mk ta tb tc td) tf (jZ.mk tu tv))))), (1, some (bx (jP (A3.mk (jB w0) (jB w1) (jB w2))))), (2, some (bx (jI (jS.mk (jQ.mk (jF.mk false []) (jF.mk false [])) (jQ.mk (jF.mk false []) (jF.mk false []))))))] (zN (uX 0) <| zN (uX 1) <| zN (qS 2 xN xL) <| zM <| zZ) ?_
 refine jA ?_
 have bn1 : QL (vY ta tb tc td) 3 := (cY)
 have bn2 : QL (vX ta tb tc td) 3 := (dC)
 have bn3 : QL (uL ta tb tc td) 3 := (nV)
 have bn4 : QL (xA ta tb tc td) 3 := (cT)
 have bn5 : QL (xB ta tb tc td) 3 := (dB)
 have bn6 : QL (uN ta tb tc td) 3 := (nW)
 have bn7 : QL (xD ta tb tc td) 3 := (cO)
 have bn8 : QL (xF ta tb tc td) 3 := (cX)
 have bn9 : QL (uO ta tb tc td) 3 := (nT)
 have bn10 : QL (jD (vY ta tb tc td) (xA ta tb tc td) (xD ta tb tc td) w0 w1 w2) 300011 := (jW (Eq.symm (gC (vY ta tb tc td) (xA ta tb tc td) (xD ta tb tc td) w0 w1 w2)) (kR (k := 300011) (kR (k := 200007) (jH (k := 100003) bn1 hw0 (by decide)) (jH (k := 100003) bn4 hw1 (by decide)) (by decide)) (jH (k := 100003) bn7 hw2 (by decide)) (by decide)))
 have bn11 : QL (jD (vX ta tb tc td) (xB ta tb tc td) (xF ta tb tc td) w0 w1 w2) 300011 := (jW (Eq.symm (gC (vX ta tb tc td) (xB ta tb tc td) (xF ta tb tc td) w0 w1 w2)) (kR (k := 300011) (kR (k := 200007) (jH (k := 100003) bn2 hw0 (by decide)) (jH (k := 100003) bn5 hw1 (by decide)) (by decide)) (jH (k := 100003) bn8 hw2 (by decide)) (by decide)))
 have bn12 : QL (jD (uL ta tb tc td) (uN ta tb tc td) (uO ta tb tc td) w0 w1 w2) 300011 := (jW (Eq.symm (gC (uL ta tb tc td) (uN ta tb tc td) (uO ta tb tc td) w0 w1 w2)) (kR (k := 300011) (kR (k := 200007) (jH (k := 100003) bn3 hw0 (by decide)) (jH (k := 100003) bn6 hw1 (by decide)) (by decide)) (jH (k := 100003) bn9 hw2 (by decide)) (by decide)))
 refine kd [(6, (.ref 3 0))] [(3, some (bx (jP (A3.mk (jB (jD (vY ta tb tc td) (xA ta tb tc td) (xD ta tb tc td) w0 w1 w2)) (jB (jD (vX ta tb tc td) (xB ta tb tc td) (xF ta tb tc td) w0 w1 w2)) (jB (jD (uL ta tb tc td) (uN ta tb tc td) (uO ta tb tc td) w0 w1 w2))))))] mo (wE (qE zY) <| wR (kC zV) <| wE (kA (qs_mat ta tb tc td (by omega) (by omega) (by omega) (by omega) htq)) <| wR (kC vC) <| wE (kA (by have h := qs_back (vY ta tb tc td) (vX ta tb tc td) (uL ta tb tc td) (xA ta tb tc td) (xB ta tb tc td) (uN ta tb tc td) (xD ta tb tc td) (xF ta tb tc td) (uO ta tb tc td) (qu bn1) (qu bn2) (qu bn3) (qu bn4) (qu bn5) (qu bn6) (qu bn7) (qu bn8) (qu bn9) w0 w1 w2 (qu hw0) (qu hw1) (qu hw2); rw [(gC (vY ta tb tc td) (xA ta tb tc td) (xD ta tb tc td) w0 w1 w2), (gC (vX ta tb tc td) (xB ta tb tc td) (xF ta tb tc td) w0 w1 w2), (gC (uL ta tb tc td) (uN ta tb tc td) (uO ta tb tc td) w0 w1 w2)] at h; exact h)) <| wN (qS 3 dX dW) <| wT (qB vC) <| wZ) ?_
 refine jA <| jA <| kx [(17, (vb true))] [] (zE (vF yG 2) <| zR (kC jT) <| zE (kA (g_sign (jB (jD (uL ta tb tc td) (uN ta tb tc td) (uO ta tb tc td) w0 w1 w2)) (jD (uL ta tb tc td) (uN ta tb tc td) (uO ta tb tc td) w0 w1 w2) (jU (kD bn12) (by decide)))) <| zE (vB true oLe (by exact decide_eq_true hs2)) <| zZ) ?_
 refine kS ?_
 refine jA <| kx [(5, (kX 20))] [(2, some (bx (jI (jS.mk (jQ.mk (jF.mk false []) (jF.mk false [])) (jQ.mk (jF.mk false []) (jF.mk false []))))))] (zE (fK pl56 xN xL) <| zT (qB qN) <| zM <| zZ) ?_
 refine jJ ⟨_, (qI (cs := (bx (jI (jS.mk (jQ.mk (jF.mk false []) (jF.mk false [])) (jQ.mk (jF.mk false []) (jF.mk false [])))))) (d := (jI (jS.mk (jQ.mk (jF.mk false []) (jF.mk false [])) (jQ.mk (jF.mk false []) (jF.mk false []))))) rfl rfl qN rfl rfl (.tmp (d := (.val (.int .i64 (((20 : Nat) : Int))))) rfl .nil)), ?_⟩
 rfl
theorem qs_shown (tx ty tz ta tb tc td tf tu tv : Int) (w0 w1 w2 : Rat) (hw0 : QL w0 100000) (hw1 : QL w1 100000) (hw2 : QL w2 100000) (hst : qV tx ty tz tu tv tf ta tb tc td = 0) (hs2 : ¬ (vJ (jD (uL ta tb tc td) (uN ta tb tc td) (uO ta tb tc td) w0 w1 w2)) ≤ 0) : kE Tryz.prog 19 [(uI (jX.mk (jM.mk tx ty tz) (jK.mk ta tb tc td) tf (jZ.mk tu tv))), (jP (A3.mk (jB w0) (jB w1) (jB w2)))] (.tup [(jI (jS.mk (jB (((tu : Int) : Rat) + ((((tf : Int) : Rat) * (jD (vY ta tb tc td) (xA ta tb tc td) (xD ta tb tc td) w0 w1 w2)) / (jD (uL ta tb tc td) (uN ta tb tc td) (uO ta tb tc td) w0 w1 w2)))) (jB (((tv : Int) : Rat) + ((((tf : Int) : Rat) * (jD (vX ta tb tc td) (xB ta tb tc td) (xF ta tb tc td) w0 w1 w2)) / (jD (uL ta tb tc td) (uN ta tb tc td) (uO ta tb tc td) w0 w1 w2)))))), (.val (.int .i64 (0)))]) := by
 obtain ⟨htx, hty, htz, htu, htv, htf, htq⟩ := uB hst
 obtain ⟨hta, htb, htc, htd, -⟩ := uA htq
 have hnt := xV hta htb htc htd
 let y1 := (jB (((tf : Int) : Rat) / (jD (uL ta tb tc td) (uN ta tb tc td) (uO ta tb tc td) w0 w1 w2)))
 refine jN Tryz.func19 rfl cb19 rfl ?_
 show uT _ _ _ _ ⟨[(0, (.d (uI (jX.mk (jM.mk tx ty tz) (jK.mk ta tb tc td) tf (jZ.mk tu tv))))), (1, (.d (jP (A3.mk (jB w0) (jB w1) (jB w2)))))], []⟩
 refine jA <| kx [(2, (.ref 0 0)), (3, (.ref 1 0)), (4, (.ref 2 0))] [(0, some (bx (uI (jX.mk (jM.mk tx ty tz) (jK.mk ta tb tc td) tf (jZ.mk tu tv))))), (1, some (bx (jP (A3.mk (jB w0) (jB w1) (jB w2))))), (2, some (bx (jI (jS.mk (jQ.mk (jF.mk false []) (jF.mk false [])) (jQ.mk (jF.mk false []) (jF.mk false []))))))] (zN (uX 0) <| zN (uX 1) <| zN (qS 2 xN xL) <| zM <| zZ) ?_
 refine jA ?_
 have bn1 : QL (vY ta tb tc td) 3 := (cY)
 have bn2 : QL (vX ta tb tc td) 3 := (dC)
 have bn3 : QL (uL ta tb tc td) 3 := (nV)
 have bn4 : QL (xA ta tb tc td) 3 := (cT)
 have bn5 : QL (xB ta tb tc td) 3 := (dB)
 have bn6 : QL (uN ta tb tc td) 3 := (nW)
 have bn7 : QL (xD ta tb tc td) 3 := (cO)
 have bn8 : QL (xF ta tb tc td) 3 := (cX)
 have bn9 : QL (uO ta tb tc td) 3 := (nT)
 have bn10 : QL (jD (vY ta tb tc td) (xA ta tb tc td) (xD ta tb tc td) w0 w1 w2) 300011 := (jW (Eq.symm (gC (vY ta tb tc td) (xA ta tb tc td) (xD ta tb tc td) w0 w1 w2)) (kR (k := 300011) (kR (k := 200007) (jH (k := 100003) bn1 hw0 (by decide)) (jH (k := 100003) bn4 hw1 (by decide)) (by decide)) (jH (k := 100003) bn7 hw2 (by decide)) (by decide)))
 have bn11 : QL (jD (vX ta tb tc td) (xB ta tb tc td) (xF ta tb tc td) w0 w1 w2) 300011 := (jW (Eq.symm (gC (vX ta tb tc td) (xB ta tb tc td) (xF ta tb tc td) w0 w1 w2)) (kR (k := 300011) (kR (k := 200007) (jH (k := 100003) bn2 hw0 (by decide)) (jH (k := 100003) bn5 hw1 (by decide)) (by decide)) (jH (k := 100003) bn8 hw2 (by decide)) (by decide)))
 have bn12 : QL (jD (uL ta tb tc td) (uN ta tb tc td) (uO ta tb tc td) w0 w1 w2) 300011 := (jW (Eq.symm (gC (uL ta tb tc td) (uN ta tb tc td) (uO ta tb tc td) w0 w1 w2)) (kR (k := 300011) (kR (k := 200007) (jH (k := 100003) bn3 hw0 (by decide)) (jH (k := 100003) bn6 hw1 (by decide)) (by decide)) (jH (k := 100003) bn9 hw2 (by decide)) (by decide)))
 refine kd [(6, (.ref 3 0))] [(3, some (bx (jP (A3.mk (jB (jD (vY ta tb tc td) (xA ta tb tc td) (xD ta tb tc td) w0 w1 w2)) (jB (jD (vX ta tb tc td) (xB ta tb tc td) (xF ta tb tc td) w0 w1 w2)) (jB (jD (uL ta tb tc td) (uN ta tb tc td) (uO ta tb tc td) w0 w1 w2))))))] mo (wE (qE zY) <| wR (kC zV) <| wE (kA (qs_mat ta tb tc td (by omega) (by omega) (by omega) (by omega) htq)) <| wR (kC vC) <| wE (kA (by have h := qs_back (vY ta tb tc td) (vX ta tb tc td) (uL ta tb tc td) (xA ta tb tc td) (xB ta tb tc td) (uN ta tb tc td) (xD ta tb tc td) (xF ta tb tc td) (uO ta tb tc td) (qu bn1) (qu bn2) (qu bn3) (qu bn4) (qu bn5) (qu bn6) (qu bn7) (qu bn8) (qu bn9) w0 w1 w2 (qu hw0) (qu hw1) (qu hw2); rw [(gC (vY ta tb tc td) (xA ta tb tc td) (xD ta tb tc td) w0 w1 w2), (gC (vX ta tb tc td) (xB ta tb tc td) (xF ta tb tc td) w0 w1 w2), (gC (uL ta tb tc td) (uN ta tb tc td) (uO ta tb tc td) w0 w1 w2)] at h; exact h)) <| wN (qS 3 dX dW) <| wT (qB vC) <| wZ) ?_
 refine jA <| jA <| kx [(17, (vb false))] [] (zE (vF yG 2) <| zR (kC jT) <| zE (kA (g_sign (jB (jD (uL ta tb tc td) (uN ta tb tc td) (uO ta tb tc td) w0 w1 w2)) (jD (uL ta tb tc td) (uN ta tb tc td) (uO ta tb tc td) w0 w1 w2) (jU (kD bn12) (by decide)))) <| zE (vB false oLe (by exact decide_eq_false hs2)) <| zZ) ?_
 refine kY ?_
 refine jE <| jA ?_
 have bn13 : QL ((tf : Int) : Rat) 3 := (kQ (z := tf) (jO (by omega) (by omega)) (by decide))
 refine kd [(7, (.ref 4 0))] [(4, some (bx (jR y1)))] mo (wE (qE bK) <| wR (vD vQ) <| wE (kA (gD tf (by omega) (by omega))) <| wE (vF yG 2) <| wR (kC jT) <| wE (kA (by have h := aI (jB ((tf : Int) : Rat)) (jB (jD (uL ta tb tc td) (uN ta tb tc td) (uO ta tb tc td) w0 w1 w2)) ((tf : Int) : Rat) (jD (uL ta tb tc td) (uN ta tb tc td) (uO ta tb tc td) w0 w1 w2) (jU (kD bn13) (by decide)) (jU (kD bn12) (by decide)); rw [nD (hH hs2), nC (hH hs2)] at h; exact h)) <| wM <| wE uH <| wE uH <| wN (qS 4 qR qY) <| wT (qB jT) <| wM <| wZ) ?_
 refine jA ?_
 have bn14 : QL ((tu : Int) : Rat) 3 := (kQ (z := tu) (jO (by omega) (by omega)) (by decide))
 have bn15 : QL ((((tf : Int) : Rat) * (jD (vY ta tb tc td) (xA ta tb tc td) (xD ta tb tc td) w0 w1 w2)) / (jD (uL ta tb tc td) (uN ta tb tc td) (uO ta tb tc td) w0 w1 w2)) 600025 := (jW (Eq.symm (div_mul_q ((tf : Int) : Rat) (jD (uL ta tb tc td) (uN ta tb tc td) (uO ta tb tc td) w0 w1 w2) (jD (vY ta tb tc td) (xA ta tb tc td) (xD ta tb tc td) w0 w1 w2))) (jH (k := 600025) (kF (k := 300014) bn13 bn12 (by decide)) bn10 (by decide)))
 have bn16 : QL ((tv : Int) : Rat) 3 := (kQ (z := tv) (jO (by omega) (by omega)) (by decide))
 have bn17 : QL ((((tf : Int) : Rat) * (jD (vX ta tb tc td) (xB ta tb tc td) (xF ta tb tc td) w0 w1 w2)) / (jD (uL ta tb tc td) (uN ta tb tc td) (uO ta tb tc td) w0 w1 w2)) 600025 := (jW (Eq.symm (div_mul_q ((tf : Int) : Rat) (jD (uL ta tb tc td) (uN ta tb tc td) (uO ta tb tc td) w0 w1 w2) (jD (vX ta tb tc td) (xB ta tb tc td) (xF ta tb tc td) w0 w1 w2))) (jH (k := 600025) (kF (k := 300014) bn13 bn12 (by decide)) bn11 (by decide)))
 refine kd [(5, (kX 0))] [(2, some (bx (jI (jS.mk (jB (((tu : Int) : Rat) + ((((tf : Int) : Rat) * (jD (vY ta tb tc td) (xA ta tb tc td) (xD ta tb tc td) w0 w1 w2)) / (jD (uL ta tb tc td) (uN ta tb tc td) (uO ta tb tc td) w0 w1 w2)))) (jB (((tv : Int) : Rat) + ((((tf : Int) : Rat) * (jD (vX ta tb tc td) (xB ta tb tc td) (xF ta tb tc td) w0 w1 w2)) / (jD (uL ta tb tc td) (uN ta tb tc td) (uO ta tb tc td) w0 w1 w2))))))))] mo (wE (qE mQ) <| wE (qE fo27_0) <| wR (vD vQ) <| wE (kA (gD tu (by omega) (by omega))) <| wR (kC jT) <| wE (vF yG 0) <| wR (kC jT) <| wE (kA (by have h := fV y1 (jB (jD (vY ta tb tc td) (xA ta tb tc td) (xD ta tb tc td) w0 w1 w2)) (((tf : Int) : Rat) / (jD (uL ta tb tc td) (uN ta tb tc td) (uO ta tb tc td) w0 w1 w2)) (jD (vY ta tb tc td) (xA ta tb tc td) (xD ta tb tc td) w0 w1 w2) (jU (kD (kF (k := 300014) bn13 bn12 (by decide))) (by decide)) (jU (kD bn10) (by decide)); rw [(div_mul_q ((tf : Int) : Rat) (jD (uL ta tb tc td) (uN ta tb tc td) (uO ta tb tc td) w0 w1 w2) (jD (vY ta tb tc td) (xA ta tb tc td) (xD ta tb tc td) w0 w1 w2))] at h; exact h)) <| wE (kA (g_add (jB ((tu : Int) : Rat)) (jB ((((tf : Int) : Rat) * (jD (vY ta tb tc td) (xA ta tb tc td) (xD ta tb tc td) w0 w1 w2)) / (jD (uL ta tb tc td) (uN ta tb tc td) (uO ta tb tc td) w0 w1 w2))) ((tu : Int) : Rat) ((((tf : Int) : Rat) * (jD (vY ta tb tc td) (xA ta tb tc td) (xD ta tb tc td) w0 w1 w2)) / (jD (uL ta tb tc td) (uN ta tb tc td) (uO ta tb tc td) w0 w1 w2)) (jU (kD bn14) (by decide)) (jU (kD bn15) (by decide)))) <| wE (qE mQ) <| wE (qE fo27_1) <| wR (vD vQ) <| wE (kA (gD tv (by omega) (by omega))) <| wR (kC jT) <| wE (vF yG 1) <| wR (kC jT) <| wE (kA (by have h := fV y1 (jB (jD (vX ta tb tc td) (xB ta tb tc td) (xF ta tb tc td) w0 w1 w2)) (((tf : Int) : Rat) / (jD (uL ta tb tc td) (uN ta tb tc td) (uO ta tb tc td) w0 w1 w2)) (jD (vX ta tb tc td) (xB ta tb tc td) (xF ta tb tc td) w0 w1 w2) (jU (kD (kF (k := 300014) bn13 bn12 (by decide))) (by decide)) (jU (kD bn11) (by decide)); rw [(div_mul_q ((tf : Int) : Rat) (jD (uL ta tb tc td) (uN ta tb tc td) (uO ta tb tc td) w0 w1 w2) (jD (vX ta tb tc td) (xB ta tb tc td) (xF ta tb tc td) w0 w1 w2))] at h; exact h)) <| wE (kA (g_add (jB ((tv : Int) : Rat)) (jB ((((tf : Int) : Rat) * (jD (vX ta tb tc td) (xB ta tb tc td) (xF ta tb tc td) w0 w1 w2)) / (jD (uL ta tb tc td) (uN ta tb tc td) (uO ta tb tc td) w0 w1 w2))) ((tv : Int) : Rat) ((((tf : Int) : Rat) * (jD (vX ta tb tc td) (xB ta tb tc td) (xF ta tb tc td) w0 w1 w2)) / (jD (uL ta tb tc td) (uN ta tb tc td) (uO ta tb tc td) w0 w1 w2)) (jU (kD bn16) (by decide)) (jU (kD bn17) (by decide)))) <| wE (fK pl56 xN xL) <| wT (qB qN) <| wM <| wZ) ?_
 refine jJ ⟨_, (qI (cs := (bx (jI (jS.mk (jB (((tu : Int) : Rat) + ((((tf : Int) : Rat) * (jD (vY ta tb tc td) (xA ta tb tc td) (xD ta tb tc td) w0 w1 w2)) / (jD (uL ta tb tc td) (uN ta tb tc td) (uO ta tb tc td) w0 w1 w2)))) (jB (((tv : Int) : Rat) + ((((tf : Int) : Rat) * (jD (vX ta tb tc td) (xB ta tb tc td) (xF ta tb tc td) w0 w1 w2)) / (jD (uL ta tb tc td) (uN ta tb tc td) (uO ta tb tc td) w0 w1 w2)))))))) (d := (jI (jS.mk (jB (((tu : Int) : Rat) + ((((tf : Int) : Rat) * (jD (vY ta tb tc td) (xA ta tb tc td) (xD ta tb tc td) w0 w1 w2)) / (jD (uL ta tb tc td) (uN ta tb tc td) (uO ta tb tc td) w0 w1 w2)))) (jB (((tv : Int) : Rat) + ((((tf : Int) : Rat) * (jD (vX ta tb tc td) (xB ta tb tc td) (xF ta tb tc td) w0 w1 w2)) / (jD (uL ta tb tc td) (uN ta tb tc td) (uO ta tb tc td) w0 w1 w2))))))) rfl rfl qN rfl rfl (.tmp (d := (.val (.int .i64 (((0 : Nat) : Int))))) rfl .nil)), ?_⟩
 rfl
theorem q_unmN (lx ly lz la lb lc ld lf lu lv rx ry rz ra rb rc rd rf ru rv : Int) (b0 b1 b2 e00 e01 e02 e10 e11 e12 e20 e21 e22 : Rat) (uR : QL b0 3) (uP : QL b1 3) (uQ : QL b2 3) (kM : QL e00 400) (kK : QL e01 400) (kL : QL e02 400) (kO : QL e10 400) (kP : QL e11 400) (kN : QL e12 400) (kH : QL e20 400) (kG : QL e21 400) (kI : QL e22 400) (right : Bool) (x y : Rat) (hx : QL x 10000) (hy : QL y 10000) (tx ty tz ta tb tc td tf tu tv : Int) (d0 : Rat) (hd0 : (((e00 * (x / (jD e00 e01 e02 e00 e01 e02))) + (e10 * (y / (jD e10 e11 e12 e10 e11 e12)))) + (e20 * (((1 : Int) : Rat) / (jD e20 e21 e22 e20 e21 e22)))) = d0) (d1 : Rat) (hd1 : (((e01 * (x / (jD e00 e01 e02 e00 e01 e02))) + (e11 * (y / (jD e10 e11 e12 e10 e11 e12)))) + (e21 * (((1 : Int) : Rat) / (jD e20 e21 e22 e20 e21 e22)))) = d1) (d2 : Rat) (hd2 : (((e02 * (x / (jD e00 e01 e02 e00 e01 e02))) + (e12 * (y / (jD e10 e11 e12 e10 e11 e12)))) + (e22 * (((1 : Int) : Rat) / (jD e20 e21 e22 e20 e21 e22)))) = d2) (hz0 : xM e00 e01 e02 = false) (hz1 : xM e10 e11 e12 = false) (hz2 : xM e20 e21 e22 = false) (hsd : (bif right then (jX.mk (jM.mk rx ry rz) (jK.mk ra rb rc rd) rf (jZ.mk ru rv)) else (jX.mk (jM.mk lx ly lz) (jK.mk la lb lc ld) lf (jZ.mk lu lv))) = (jX.mk (jM.mk tx ty tz) (jK.mk ta tb tc td) tf (jZ.mk tu tv))) (hst : qV tx ty tz tu tv tf ta tb tc td = 0) (hs2 : (vJ (jD (uL ta tb tc td) (uN ta tb tc td) (uO ta tb tc td) d0 d1 d2)) ≤ 0) : kE Tryz.prog 111 [(.cptr 1000001 (qH.cells (yZ (RRp.mk (jX.mk (jM.mk lx ly lz) (jK.mk la lb lc ld) lf (jZ.mk lu lv)) (jX.mk (jM.mk rx ry rz) (jK.mk ra rb rc rd) rf (jZ.mk ru rv)) (A3.mk (jB b0) (jB b1) (jB b2)) (A3.mk (A3.mk (jB e00) (jB e01) (jB e02)) (A3.mk (jB e10) (jB e11) (jB e12)) (A3.mk (jB e20) (jB e21) (jB e22)))))) 0), (.val (.bool (right))), (jI (jS.mk (jB x) (jB y)))] (.tup [(jI (jS.mk (jQ.mk (jF.mk false []) (jF.mk false [])) (jQ.mk (jF.mk false []) (jF.mk false [])))), (.val (.bool (false)))]) := by
 obtain ⟨htx, hty, htz, htu, htv, htf, htq⟩ := uB hst
 obtain ⟨hta, htb, htc, htd, -⟩ := uA htq
 have hnt := xV hta htb htc htd
 refine jN Tryz.func111 rfl cb111 rfl ?_
 show uT _ _ _ _ ⟨[(0, (.d (.cptr 1000001 (qH.cells (yZ (RRp.mk (jX.mk (jM.mk lx ly lz) (jK.mk la lb lc ld) lf (jZ.mk lu lv)) (jX.mk (jM.mk rx ry rz) (jK.mk ra rb rc rd) rf (jZ.mk ru rv)) (A3.mk (jB b0) (jB b1) (jB b2)) (A3.mk (A3.mk (jB e00) (jB e01) (jB e02)) (A3.mk (jB e10) (jB e11) (jB e12)) (A3.mk (jB e20) (jB e21) (jB e22)))))) 0))), (1, (vb right)), (2, (.d (jI (jS.mk (jB x) (jB y)))))], []⟩
 refine jA <| kx [(5, (.ref 0 0)), (6, (.ref 1 0))] [(0, some (bx (jI (jS.mk (jB x) (jB y))))), (1, some (bx (jI (jS.mk (jQ.mk (jF.mk false []) (jF.mk false [])) (jQ.mk (jF.mk false []) (jF.mk false []))))))] (zN (uX 0) <| zN (qS 1 xN xL) <| zM <| zZ) ?_
 refine jA <| kx [(8, (.ref 2 0))] [(2, some (bx (uI (jX.mk (jM.mk tx ty tz) (jK.mk ta tb tc td) tf (jZ.mk tu tv)))))] (zM <| zM <| zE (kA (q_side lx ly lz la lb lc ld lf lu lv rx ry rz ra rb rc rd rf ru rv b0 b1 b2 e00 e01 e02 e10 e11 e12 e20 e21 e22 uR uP uQ kM kK kL kO kP kN kH kG kI right tx ty tz ta tb tc td tf tu tv hsd)) <| zN (qS 2 eL eH) <| zT (qB xK) <| zZ) ?_
 refine jA ?_
 have bn1 : QL (vY ta tb tc td) 3 := (cY)
 have bn2 : QL (vX ta tb tc td) 3 := (dC)
 have bn3 : QL (uL ta tb tc td) 3 := (nV)
 have bn4 : QL (xA ta tb tc td) 3 := (cT)
 have bn5 : QL (xB ta tb tc td) 3 := (dB)
 have bn6 : QL (uN ta tb tc td) 3 := (nW)
 have bn7 : QL (xD ta tb tc td) 3 := (cO)
 have bn8 : QL (xF ta tb tc td) 3 := (cX)
 have bn9 : QL (uO ta tb tc td) 3 := (nT)
 have bn10 : QL d0 28411 := (jW (Eq.symm hd0) (kR (k := 28411) (kR (k := 25605) (jH (k := 12802) kM (kF (k := 12402) hx (jL (n := 400) (k := 2402) kM kK kL kM kK kL (by decide)) (by decide)) (by decide)) (jH (k := 12802) kO (kF (k := 12402) hy (jL (n := 400) (k := 2402) kO kP kN kO kP kN (by decide)) (by decide)) (by decide)) (by decide)) (jH (k := 2805) kH (kF (k := 2405) (kQ (z := 1) (n := 3) (jO (by decide) (by decide)) (by decide)) (jL (n := 400) (k := 2402) kH kG kI kH kG kI (by decide)) (by decide)) (by decide)) (by decide)))
 have bn11 : QL d1 28411 := (jW (Eq.symm hd1) (kR (k := 28411) (kR (k := 25605) (jH (k := 12802) kK (kF (k := 12402) hx (jL (n := 400) (k := 2402) kM kK kL kM kK kL (by decide)) (by decide)) (by decide)) (jH (k := 12802) kP (kF (k := 12402) hy (jL (n := 400) (k := 2402) kO kP kN kO kP kN (by decide)) (by decide)) (by decide)) (by decide)) (jH (k := 2805) kG (kF (k := 2405) (kQ (z := 1) (n := 3) (jO (by decide) (by decide)) (by decide)) (jL (n := 400) (k := 2402) kH kG kI kH kG kI (by decide)) (by decide)) (by decide)) (by decide)))
 have bn12 : QL d2 28411 := (jW (Eq.symm hd2) (kR (k := 28411) (kR (k := 25605) (jH (k := 12802) kL (kF (k := 12402) hx (jL (n := 400) (k := 2402) kM kK kL kM kK kL (by decide)) (by decide)) (by decide)) (jH (k := 12802) kN (kF (k := 12402) hy (jL (n := 400) (k := 2402) kO kP kN kO kP kN (by decide)) (by decide)) (by decide)) (by decide)) (jH (k := 2805) kI (kF (k := 2405) (kQ (z := 1) (n := 3) (jO (by decide) (by decide)) (by decide)) (jL (n := 400) (k := 2402) kH kG kI kH kG kI (by decide)) (by decide)) (by decide)) (by decide)))
 have bn13 : QL (jD (vY ta tb tc td) (xA ta tb tc td) (xD ta tb tc td) d0 d1 d2) 170468 := (jL (n := 28411) (k := 170468) (qu bn1) (qu bn4) (qu bn7) bn10 bn11 bn12 (by decide))
 have bn14 : QL (jD (vX ta tb tc td) (xB ta tb tc td) (xF ta tb tc td) d0 d1 d2) 170468 := (jL (n := 28411) (k := 170468) (qu bn2) (qu bn5) (qu bn8) bn10 bn11 bn12 (by decide))
 have bn15 : QL (jD (uL ta tb tc td) (uN ta tb tc td) (uO ta tb tc td) d0 d1 d2) 170468 := (jL (n := 28411) (k := 170468) (qu bn3) (qu bn6) (qu bn9) bn10 bn11 bn12 (by decide))
 refine kd [(9, (.ref 3 0))] [(3, some (bx (jP (A3.mk (jB (jD (vY ta tb tc td) (xA ta tb tc td) (xD ta tb tc td) d0 d1 d2)) (jB (jD (vX ta tb tc td) (xB ta tb tc td) (xF ta tb tc td) d0 d1 d2)) (jB (jD (uL ta tb tc td) (uN ta tb tc td) (uO ta tb tc td) d0 d1 d2))))))] mo (wE (qE zY) <| wR (kC zV) <| wE (kA (fY ta tb tc td (by omega) (by omega) (by omega) (by omega) htq)) <| wE (kA (nX (vY ta tb tc td) (vX ta tb tc td) (uL ta tb tc td) (xA ta tb tc td) (xB ta tb tc td) (uN ta tb tc td) (xD ta tb tc td) (xF ta tb tc td) (uO ta tb tc td) (qu bn1) (qu bn2) (qu bn3) (qu bn4) (qu bn5) (qu bn6) (qu bn7) (qu bn8) (qu bn9))) <| wM <| wR (kC qN) <| wE (kA (by have h := q_dir lx ly lz la lb lc ld lf lu lv rx ry rz ra rb rc rd rf ru rv b0 b1 b2 e00 e01 e02 e10 e11 e12 e20 e21 e22 uR uP uQ kM kK kL kO kP kN kH kG kI x y (qu hx) (qu hy) hz0 hz1 hz2; rw [hd0, hd1, hd2] at h; exact h)) <| wE (kA (mZ (vY ta tb tc td) (xA ta tb tc td) (xD ta tb tc td) (vX ta tb tc td) (xB ta tb tc td) (xF ta tb tc td) (uL ta tb tc td) (uN ta tb tc td) (uO ta tb tc td) (qu bn1) (qu bn4) (qu bn7) (qu bn2) (qu bn5) (qu bn8) (qu bn3) (qu bn6) (qu bn9) d0 d1 d2 (qu bn10) (qu bn11) (qu bn12))) <| wN (qS 3 yN yO) <| wT (qB qO) <| wZ) ?_
 refine jA <| jA <| kx [(25, (vb true))] [] (zE (vF uE 2) <| zR (kC jT) <| zE (kA (f_sign (jB (jD (uL ta tb tc td) (uN ta tb tc td) (uO ta tb tc td) d0 d1 d2)) (jD (uL ta tb tc td) (uN ta tb tc td) (uO ta tb tc td) d0 d1 d2) (jU (kD bn15) (by decide)))) <| zE (vB true oLe (by exact decide_eq_true hs2)) <| zZ) ?_
 refine kS ?_
 refine jA <| kx [(7, (vb false))] [(1, some (bx (jI (jS.mk (jQ.mk (jF.mk false []) (jF.mk false [])) (jQ.mk (jF.mk false []) (jF.mk false []))))))] (zE (fK pl56 xN xL) <| zT (qB qN) <| zM <| zZ) ?_
 refine jJ ⟨_, (qI (cs := (bx (jI (jS.mk (jQ.mk (jF.mk false []) (jF.mk false [])) (jQ.mk (jF.mk false []) (jF.mk false [])))))) (d := (jI (jS.mk (jQ.mk (jF.mk false []) (jF.mk false [])) (jQ.mk (jF.mk false []) (jF.mk false []))))) rfl rfl qN rfl rfl (.tmp (d := (.val (.bool (false)))) rfl .nil)), ?_⟩
 rfl
theorem q_unm (lx ly lz la lb lc ld lf lu lv rx ry rz ra rb rc rd rf ru rv : Int) (b0 b1 b2 e00 e01 e02 e10 e11 e12 e20 e21 e22 : Rat) (uR : QL b0 3) (uP : QL b1 3) (uQ : QL b2 3) (kM : QL e00 400) (kK : QL e01 400) (kL : QL e02 400) (kO : QL e10 400) (kP : QL e11 400) (kN : QL e12 400) (kH : QL e20 400) (kG : QL e21 400) (kI : QL e22 400) (right : Bool) (x y : Rat) (hx : QL x 10000) (hy : QL y 10000) (tx ty tz ta tb tc td tf tu tv : Int) (d0 : Rat) (hd0 : (((e00 * (x / (jD e00 e01 e02 e00 e01 e02))) + (e10 * (y / (jD e10 e11 e12 e10 e11 e12)))) + (e20 * (((1 : Int) : Rat) / (jD e20 e21 e22 e20 e21 e22)))) = d0) (d1 : Rat) (hd1 : (((e01 * (x / (jD e00 e01 e02 e00 e01 e02))) + (e11 * (y / (jD e10 e11 e12 e10 e11 e12)))) + (e21 * (((1 : Int) : Rat) / (jD e20 e21 e22 e20 e21 e22)))) = d1) (d2 : Rat) (hd2 : (((e02 * (x / (jD e00 e01 e02 e00 e01 e02))) + (e12 * (y / (jD e10 e11 e12 e10 e11 e12)))) + (e22 * (((1 : Int) : Rat) / (jD e20 e21 e22 e20 e21 e22)))) = d2) (hz0 : xM e00 e01 e02 = false) (hz1 : xM e10 e11 e12 = false) (hz2 : xM e20 e21 e22 = false) (hsd : (bif right then (jX.mk (jM.mk rx ry rz) (jK.mk ra rb rc rd) rf (jZ.mk ru rv)) else (jX.mk (jM.mk lx ly lz) (jK.mk la lb lc ld) lf (jZ.mk lu lv))) = (jX.mk (jM.mk tx ty tz) (jK.mk ta tb tc td) tf (jZ.mk tu tv))) (hst : qV tx ty tz tu tv tf ta tb tc td = 0) (hs2 : ¬ (vJ (jD (uL ta tb tc td) (uN ta tb tc td) (uO ta tb tc td) d0 d1 d2)) ≤ 0) : kE Tryz.prog 111 [(.cptr 1000001 (qH.cells (yZ (RRp.mk (jX.mk (jM.mk lx ly lz) (jK.mk la lb lc ld) lf (jZ.mk lu lv)) (jX.mk (jM.mk rx ry rz) (jK.mk ra rb rc rd) rf (jZ.mk ru rv)) (A3.mk (jB b0) (jB b1) (jB b2)) (A3.mk (A3.mk (jB e00) (jB e01) (jB e02)) (A3.mk (jB e10) (jB e11) (jB e12)) (A3.mk (jB e20) (jB e21) (jB e22)))))) 0), (.val (.bool (right))), (jI (jS.mk (jB x) (jB y)))] (.tup [(jI (jS.mk (jB (((tu : Int) : Rat) + ((((tf : Int) : Rat) * (jD (vY ta tb tc td) (xA ta tb tc td) (xD ta tb tc td) d0 d1 d2)) / (jD (uL ta tb tc td) (uN ta tb tc td) (uO ta tb tc td) d0 d1 d2)))) (jB (((tv : Int) : Rat) + ((((tf : Int) : Rat) * (jD (vX ta tb tc td) (xB ta tb tc td) (xF ta tb tc td) d0 d1 d2)) / (jD (uL ta tb tc td) (uN ta tb tc td) (uO ta tb tc td) d0 d1 d2)))))), (.val (.bool (true)))]) := by
 obtain ⟨htx, hty, htz, htu, htv, htf, htq⟩ := uB hst
 obtain ⟨hta, htb, htc, htd, -⟩ := uA htq
 have hnt := xV hta htb htc htd
 let y2 := (jP (A3.mk (jB (jD (vY ta tb tc td) (xA ta tb tc td) (xD ta tb tc td) d0 d1 d2)) (jB (jD (vX ta tb tc td) (xB ta tb tc td) (xF ta tb tc td) d0 d1 d2)) (jB (jD (uL ta tb tc td) (uN ta tb tc td) (uO ta tb tc td) d0 d1 d2))))
 let y1 := [(qH.cells (uI (jX.mk (jM.mk tx ty tz) (jK.mk ta tb tc td) tf (jZ.mk tu tv)))), (qH.cells y2)]
 refine jN Tryz.func111 rfl cb111 rfl ?_
 show uT _ _ _ _ ⟨[(0, (.d (.cptr 1000001 (qH.cells (yZ (RRp.mk (jX.mk (jM.mk lx ly lz) (jK.mk la lb lc ld) lf (jZ.mk lu lv)) (jX.mk (jM.mk rx ry rz) (jK.mk ra rb rc rd) rf (jZ.mk ru rv)) (A3.mk (jB b0) (jB b1) (jB b2)) (A3.mk (A3.mk (jB e00) (jB e01) (jB e02)) (A3.mk (jB e10) (jB e11) (jB e12)) (A3.mk (jB e20) (jB e21) (jB e22)))))) 0))), (1, (vb right)), (2, (.d (jI (jS.mk (jB x) (jB y)))))], []⟩
 refine jA <| kx [(5, (.ref 0 0)), (6, (.ref 1 0))] [(0, some (bx (jI (jS.mk (jB x) (jB y))))), (1, some (bx (jI (jS.mk (jQ.mk (jF.mk false []) (jF.mk false [])) (jQ.mk (jF.mk false []) (jF.mk false []))))))] (zN (uX 0) <| zN (qS 1 xN xL) <| zM <| zZ) ?_
 refine jA <| kx [(8, (.ref 2 0))] [(2, some (bx (uI (jX.mk (jM.mk tx ty tz) (jK.mk ta tb tc td) tf (jZ.mk tu tv)))))] (zM <| zM <| zE (kA (q_side lx ly lz la lb lc ld lf lu lv rx ry rz ra rb rc rd rf ru rv b0 b1 b2 e00 e01 e02 e10 e11 e12 e20 e21 e22 uR uP uQ kM kK kL kO kP kN kH kG kI right tx ty tz ta tb tc td tf tu tv hsd)) <| zN (qS 2 eL eH) <| zT (qB xK) <| zZ) ?_
 refine jA ?_
 have bn1 : QL (vY ta tb tc td) 3 := (cY)
 have bn2 : QL (vX ta tb tc td) 3 := (dC)
 have bn3 : QL (uL ta tb tc td) 3 := (nV)
 have bn4 : QL (xA ta tb tc td) 3 := (cT)
 have bn5 : QL (xB ta tb tc td) 3 := (dB)
 have bn6 : QL (uN ta tb tc td) 3 := (nW)
 have bn7 : QL (xD ta tb tc td) 3 := (cO)
 have bn8 : QL (xF ta tb tc td) 3 := (cX)
 have bn9 : QL (uO ta tb tc td) 3 := (nT)
 have bn10 : QL d0 28411 := (jW (Eq.symm hd0) (kR (k := 28411) (kR (k := 25605) (jH (k := 12802) kM (kF (k := 12402) hx (jL (n := 400) (k := 2402) kM kK kL kM kK kL (by decide)) (by decide)) (by decide)) (jH (k := 12802) kO (kF (k := 12402) hy (jL (n := 400) (k := 2402) kO kP kN kO kP kN (by decide)) (by decide)) (by decide)) (by decide)) (jH (k := 2805) kH (kF (k := 2405) (kQ (z := 1) (n := 3) (jO (by decide) (by decide)) (by decide)) (jL (n := 400) (k := 2402) kH kG kI kH kG kI (by decide)) (by decide)) (by decide)) (by decide)))
 have bn11 : QL d1 28411 := (jW (Eq.symm hd1) (kR (k := 28411) (kR (k := 25605) (jH (k := 12802) kK (kF (k := 12402) hx (jL (n := 400) (k := 2402) kM kK kL kM kK kL (by decide)) (by decide)) (by decide)) (jH (k := 12802) kP (kF (k := 12402) hy (jL (n := 400) (k := 2402) kO kP kN kO kP kN (by decide)) (by decide)) (by decide)) (by decide)) (jH (k := 2805) kG (kF (k := 2405) (kQ (z := 1) (n := 3) (jO (by decide) (by decide)) (by decide)) (jL (n := 400) (k := 2402) kH kG kI kH kG kI (by decide)) (by decide)) (by decide)) (by decide)))
 have bn12 : QL d2 28411 := (jW (Eq.symm hd2) (kR (k := 28411) (kR (k := 25605) (jH (k := 12802) kL (kF (k := 12402) hx (jL (n := 400) (k := 2402) kM kK kL kM kK kL (by decide)) (by decide)) (by decide)) (jH (k := 12802) kN (kF (k := 12402) hy (jL (n := 400) (k := 2402) kO kP kN kO kP kN (by decide)) (by decide)) (by decide)) (by decide)) (jH (k := 2805) kI (kF (k := 2405) (kQ (z := 1) (n := 3) (jO (by decide) (by decide)) (by decide)) (jL (n := 400) (k := 2402) kH kG kI kH kG kI (by decide)) (by decide)) (by decide)) (by decide)))
 have bn13 : QL (jD (vY ta tb tc td) (xA ta tb tc td) (xD ta tb tc td) d0 d1 d2) 170468 := (jL (n := 28411) (k := 170468) (qu bn1) (qu bn4) (qu bn7) bn10 bn11 bn12 (by decide))
 have bn14 : QL (jD (vX ta tb tc td) (xB ta tb tc td) (xF ta tb tc td) d0 d1 d2) 170468 := (jL (n := 28411) (k := 170468) (qu bn2) (qu bn5) (qu bn8) bn10 bn11 bn12 (by decide))
 have bn15 : QL (jD (uL ta tb tc td) (uN ta tb tc td) (uO ta tb tc td) d0 d1 d2) 170468 := (jL (n := 28411) (k := 170468) (qu bn3) (qu bn6) (qu bn9) bn10 bn11 bn12 (by decide))
 refine kd [(9, (.ref 3 0))] [(3, some (bx y2))] mo (wE (qE zY) <| wR (kC zV) <| wE (kA (fY ta tb tc td (by omega) (by omega) (by omega) (by omega) htq)) <| wE (kA (nX (vY ta tb tc td) (vX ta tb tc td) (uL ta tb tc td) (xA ta tb tc td) (xB ta tb tc td) (uN ta tb tc td) (xD ta tb tc td) (xF ta tb tc td) (uO ta tb tc td) (qu bn1) (qu bn2) (qu bn3) (qu bn4) (qu bn5) (qu bn6) (qu bn7) (qu bn8) (qu bn9))) <| wM <| wR (kC qN) <| wE (kA (by have h := q_dir lx ly lz la lb lc ld lf lu lv rx ry rz ra rb rc rd rf ru rv b0 b1 b2 e00 e01 e02 e10 e11 e12 e20 e21 e22 uR uP uQ kM kK kL kO kP kN kH kG kI x y (qu hx) (qu hy) hz0 hz1 hz2; rw [hd0, hd1, hd2] at h; exact h)) <| wE (kA (mZ (vY ta tb tc td) (xA ta tb tc td) (xD ta tb tc td) (vX ta tb tc td) (xB ta tb tc td) (xF ta tb tc td) (uL ta tb tc td) (uN ta tb tc td) (uO ta tb tc td) (qu bn1) (qu bn4) (qu bn7) (qu bn2) (qu bn5) (qu bn8) (qu bn3) (qu bn6) (qu bn9) d0 d1 d2 (qu bn10) (qu bn11) (qu bn12))) <| wN (qS 3 yN yO) <| wT (qB qO) <| wZ) ?_
 refine jA <| jA <| kx [(25, (vb false))] [] (zE (vF uE 2) <| zR (kC jT) <| zE (kA (f_sign (jB (jD (uL ta tb tc td) (uN ta tb tc td) (uO ta tb tc td) d0 d1 d2)) (jD (uL ta tb tc td) (uN ta tb tc td) (uO ta tb tc td) d0 d1 d2) (jU (kD bn15) (by decide)))) <| zE (vB false oLe (by exact decide_eq_false hs2)) <| zZ) ?_
 refine kY ?_
 refine jE <| jA <| kx [(10, (.clo 150 [2, 3]))] [] (zE (oMf [2, 3]) <| zM <| zZ) ?_
 refine jA ?_
 have bn16 : QL (((tu : Int) : Rat) + ((((tf : Int) : Rat) * (jD (vY ta tb tc td) (xA ta tb tc td) (xD ta tb tc td) d0 d1 d2)) / (jD (uL ta tb tc td) (uN ta tb tc td) (uO ta tb tc td) d0 d1 d2))) 340943 := (kR (k := 340943) (qi tu) (kF (k := 340939) (jH (k := 170471) (qi tf) bn13 (by decide)) bn15 (by decide)) (by decide))
 have bn17 : QL (((tv : Int) : Rat) + ((((tf : Int) : Rat) * (jD (vX ta tb tc td) (xB ta tb tc td) (xF ta tb tc td) d0 d1 d2)) / (jD (uL ta tb tc td) (uN ta tb tc td) (uO ta tb tc td) d0 d1 d2))) 340943 := (kR (k := 340943) (qi tv) (kF (k := 340939) (jH (k := 170471) (qi tf) bn14 (by decide)) bn15 (by decide)) (by decide))
 refine kd [(7, (vb true))] [(1, some (bx (jI (jS.mk (jB (((tu : Int) : Rat) + ((((tf : Int) : Rat) * (jD (vY ta tb tc td) (xA ta tb tc td) (xD ta tb tc td) d0 d1 d2)) / (jD (uL ta tb tc td) (uN ta tb tc td) (uO ta tb tc td) d0 d1 d2)))) (jB (((tv : Int) : Rat) + ((((tf : Int) : Rat) * (jD (vX ta tb tc td) (xB ta tb tc td) (xF ta tb tc td) d0 d1 d2)) / (jD (uL ta tb tc td) (uN ta tb tc td) (uO ta tb tc td) d0 d1 d2))))))))] mo (wM <| wE (qE mQ) <| wE (qE fo27_0) <| wR (vD vQ) <| wE (vF uE 0) <| wR (kC jT) <| wC (oCc (ds := [(.val (.int .i64 (tu))), (jR (jB (jD (vY ta tb tc td) (xA ta tb tc td) (xD ta tb tc td) d0 d1 d2)))]) [2, 3] y1 (q_along tu (by omega) (by omega) (jD (vY ta tb tc td) (xA ta tb tc td) (xD ta tb tc td) d0 d1 d2) (qu bn13) tx ty tz ta tb tc td tf tu tv (by omega) (by omega) (by omega) (jD (vY ta tb tc td) (xA ta tb tc td) (xD ta tb tc td) d0 d1 d2) (jD (vX ta tb tc td) (xB ta tb tc td) (xF ta tb tc td) d0 d1 d2) (jD (uL ta tb tc td) (uN ta tb tc td) (uO ta tb tc td) d0 d1 d2) (qu bn13) (qu bn14) (qu bn15) hs2) (avo_encR (by decide) _)) <| wM <| wE (qE mQ) <| wE (qE fo27_1) <| wR (vD vQ) <| wE (vF uE 1) <| wR (kC jT) <| wC (oCc (ds := [(.val (.int .i64 (tv))), (jR (jB (jD (vX ta tb tc td) (xB ta tb tc td) (xF ta tb tc td) d0 d1 d2)))]) [2, 3] y1 (q_along tv (by omega) (by omega) (jD (vX ta tb tc td) (xB ta tb tc td) (xF ta tb tc td) d0 d1 d2) (qu bn14) tx ty tz ta tb tc td tf tu tv (by omega) (by omega) (by omega) (jD (vY ta tb tc td) (xA ta tb tc td) (xD ta tb tc td) d0 d1 d2) (jD (vX ta tb tc td) (xB ta tb tc td) (xF ta tb tc td) d0 d1 d2) (jD (uL ta tb tc td) (uN ta tb tc td) (uO ta tb tc td) d0 d1 d2) (qu bn13) (qu bn14) (qu bn15) hs2) (avo_encR (by decide) _)) <| wE (fK pl56 xN xL) <| wT (qB qN) <| wM <| wZ) ?_
 refine jJ ⟨_, (qI (cs := (bx (jI (jS.mk (jB (((tu : Int) : Rat) + ((((tf : Int) : Rat) * (jD (vY ta tb tc td) (xA ta tb tc td) (xD ta tb tc td) d0 d1 d2)) / (jD (uL ta tb tc td) (uN ta tb tc td) (uO ta tb tc td) d0 d1 d2)))) (jB (((tv : Int) : Rat) + ((((tf : Int) : Rat) * (jD (vX ta tb tc td) (xB ta tb tc td) (xF ta tb tc td) d0 d1 d2)) / (jD (uL ta tb tc td) (uN ta tb tc td) (uO ta tb tc td) d0 d1 d2)))))))) (d := (jI (jS.mk (jB (((tu : Int) : Rat) + ((((tf : Int) : Rat) * (jD (vY ta tb tc td) (xA ta tb tc td) (xD ta tb tc td) d0 d1 d2)) / (jD (uL ta tb tc td) (uN ta tb tc td) (uO ta tb tc td) d0 d1 d2)))) (jB (((tv : Int) : Rat) + ((((tf : Int) : Rat) * (jD (vX ta tb tc td) (xB ta tb tc td) (xF ta tb tc td) d0 d1 d2)) / (jD (uL ta tb tc td) (uN ta tb tc td) (uO ta tb tc td) d0 d1 d2))))))) rfl rfl qN rfl rfl (.tmp (d := (.val (.bool (true)))) rfl .nil)), ?_⟩
 rfl
theorem q_canT (x y : Rat) (hx : QL x 1000000) (hy : QL y 1000000) : kE Tryz.prog 99 [(jI (jS.mk (jB x) (jB y)))] (.val (.bool (true))) := by
 refine jN Tryz.func99 rfl cb99 rfl ?_
 show uT _ _ _ _ ⟨[(0, (.d (jI (jS.mk (jB x) (jB y)))))], []⟩
 refine jA <| kx [(1, (.ref 0 0))] [(0, some (bx (jI (jS.mk (jB x) (jB y)))))] (zN (uX 0) <| zM <| zZ) ?_
 refine jA <| kx [(2, (vb true))] [] (zE (qE cB) <| zR (kC jT) <| zE (vB true (kA (f_valid (jB x) x (jU (kD hx) (by decide)))) (by exact (cW x))) <| zM <| zE (qE cC) <| zR (kC jT) <| zE (vB true (kA (f_valid (jB y) y (jU (kD hy) (by decide)))) (by exact (cW y))) <| zE eE <| zM <| zZ) ?_
 refine jJ ⟨_, (.tmp (d := (.val (.bool (true)))) rfl .nil), ?_⟩
 rfl
theorem q_canF (p : jS) (x y : Rat) (hx : nU p.x x 1000000) (hy : nU p.y y 1000000) (hv : (uC p.x && uC p.y) = false) : kE Tryz.prog 99 [(jI p)] (.val (.bool (false))) := by
 refine jN Tryz.func99 rfl cb99 rfl ?_
 show uT _ _ _ _ ⟨[(0, (.d (jI p)))], []⟩
 refine jA <| kx [(1, (.ref 0 0))] [(0, some (bx (jI p)))] (zN (uX 0) <| zM <| zZ) ?_
 refine jA <| kx [(2, (vb ((uC p.x) && (uC p.y))))] [] ?_ ?_
 ·refine zE (qE cB) <| zR (kC jT) <| zE (kA (f_valid p.x x (jU hx (by decide)))) <| zE (oV (vb (uC p.x)) (vZ (by kernel_rfl))) <| ?_
  rcases hb1 : (uC p.x) with _ | _
  ·exact zK <| zK <| zK <| zE oPf <| zM <| zZ
  ·exact zE (qE cC) <| zR (kC jT) <| zE (kA (f_valid p.y y (jU hy (by decide)))) <| zE oPa <| zM <| zZ
 refine jJ ⟨_, (.tmp (d := (.val (.bool (((uC p.x) && (uC p.y)))))) rfl .nil), ?_⟩
 first | rfl | (rw [hv]; rfl) | (exfalso; revert h hv; cases uC p.x <;> cases uC p.y <;> simp)
theorem qs_canT (x y : Rat) (hx : QL x 1000000) (hy : QL y 1000000) : kE Tryz.prog 42 [(jI (jS.mk (jB x) (jB y)))] (.val (.int .i64 (0))) := by
 refine jN Tryz.func42 rfl cb42 rfl ?_
 show uT _ _ _ _ ⟨[(0, (.d (jI (jS.mk (jB x) (jB y)))))], []⟩
 refine jA <| kx [(1, (.ref 0 0))] [(0, some (bx (jI (jS.mk (jB x) (jB y)))))] (zN (uX 0) <| zM <| zZ) ?_
 refine jA <| jA <| kx [(12, (vb false))] [] (zE (qE cB) <| zR (kC jT) <| zE (vB true (kA (bA (jB x) x (jU (kD hx) (by decide)))) (by exact (cW x))) <| zE dV <| zM <| zE (qE cC) <| zR (kC jT) <| zE (vB true (kA (bA (jB y) y (jU (kD hy) (by decide)))) (by exact (cW y))) <| zE dV <| zE oPf <| zZ) ?_
 refine kY ?_
 refine jE <| jA <| kx [(2, (kX 0))] [] (zM <| zZ) ?_
 refine jJ ⟨_, (.tmp (d := (.val (.int .i64 (((0 : Nat) : Int))))) rfl .nil), ?_⟩
 rfl
theorem qs_canF (p : jS) (x y : Rat) (hx : nU p.x x 1000000) (hy : nU p.y y 1000000) (hv : (uC p.x && uC p.y) = false) : kE Tryz.prog 42 [(jI p)] (.val (.int .i64 (1))) := by
 refine jN Tryz.func42 rfl cb42 rfl ?_
 show uT _ _ _ _ ⟨[(0, (.d (jI p)))], []⟩
 refine jA <| kx [(1, (.ref 0 0))] [(0, some (bx (jI p)))] (zN (uX 0) <| zM <| zZ) ?_
 refine jA <| jA <| kx [(12, (vb (!(uC p.x) || !(uC p.y))))] [] ?_ ?_
 ·refine zE (qE cB) <| zR (kC jT) <| zE (kA (bA p.x x (jU hx (by decide)))) <| zE dV <| zE (oV (vb (!(uC p.x))) (vZ (by kernel_rfl))) <| ?_
  rcases hb1 : (!(uC p.x)) with _ | _
  ·exact zE (qE cC) <| zR (kC jT) <| zE (kA (bA p.y y (jU hy (by decide)))) <| zE dV <| zE oPo <| zZ
  ·exact zK <| zK <| zK <| zK <| zE eE <| zZ
 refine jY (b := (!(uC p.x) || !(uC p.y))) rfl (fun h2 => ?_) (fun h2 => ?_)
 ·refine jA <| kx [(2, (kX 1))] [] (zM <| zZ) ?_
  refine jJ ⟨_, (.tmp (d := (.val (.int .i64 (((1 : Nat) : Int))))) rfl .nil), ?_⟩
  first | rfl | (rw [hv]; rfl) | (exfalso; revert h2 hv; cases uC p.x <;> cases uC p.y <;> simp)
 ·refine jE <| jA <| kx [(2, (kX 0))] [] (zM <| zZ) ?_
  refine jJ ⟨_, (.tmp (d := (.val (.int .i64 (((0 : Nat) : Int))))) rfl .nil), ?_⟩
  first | rfl | (rw [hv]; rfl) | (exfalso; revert h2 hv; cases uC p.x <;> cases uC p.y <;> simp)
theorem dL (p : jS) (x y : Rat) (hx : nU p.x x 140737488355328) (hy : nU p.y y 140737488355328) : kE Tryz.prog 40 [(jI p)] (.val (.bool ((dZ p.x p.y)))) := by
 refine jN Tryz.func40 rfl cb40 rfl ?_
 show uT _ _ _ _ ⟨[(0, (.d (jI p)))], []⟩
 refine jA <| kx [(1, (.ref 0 0))] [(0, some (bx (jI p)))] (zN (uX 0) <| zM <| zZ) ?_
 refine jA <| kx [(2, (vb (decide ((((digR p.x) : Nat) : Int) ≤ 8) && decide ((((digR p.y) : Nat) : Int) ≤ 8))))] [] ?_ ?_
 ·refine zE (qE cB) <| zR (kC jT) <| zE (kA (g_digits p.x x hx)) <| zE oLe <| zE (oV (vb (decide ((((digR p.x) : Nat) : Int) ≤ 8))) (vZ (by kernel_rfl))) <| ?_
  rcases hb1 : (decide ((((digR p.x) : Nat) : Int) ≤ 8)) with _ | _
  ·replace hb1 := of_decide_eq_false hb1
   exact zK <| zK <| zK <| zK <| zE oPf <| zM <| zZ
  ·replace hb1 := of_decide_eq_true hb1
   exact zE (qE cC) <| zR (kC jT) <| zE (kA (g_digits p.y y hy)) <| zE oLe <| zE oPa <| zM <| zZ
 refine jJ ⟨_, (.tmp (d := (.val (.bool ((decide ((((digR p.x) : Nat) : Int) ≤ 8) && decide ((((digR p.y) : Nat) : Int) ≤ 8)))))) rfl .nil), ?_⟩
 rfl
theorem qs_none  : kE Tryz.prog 35 [(jI (jS.mk (jQ.mk (jF.mk false []) (jF.mk false [])) (jQ.mk (jF.mk false []) (jF.mk false []))))] (.val (.bool (true))) := by
 refine jN Tryz.func35 rfl cb35 rfl ?_
 show uT _ _ _ _ ⟨[(0, (.d (jI (jS.mk (jQ.mk (jF.mk false []) (jF.mk false [])) (jQ.mk (jF.mk false []) (jF.mk false []))))))], []⟩
 refine jA <| kx [(1, (.ref 0 0))] [(0, some (bx (jI (jS.mk (jQ.mk (jF.mk false []) (jF.mk false [])) (jQ.mk (jF.mk false []) (jF.mk false []))))))] (zN (uX 0) <| zM <| zZ) ?_
 refine jA <| kx [(2, (vb true))] [] (zE (qE cB) <| zR (kC jT) <| zE (kA g_zeroT) <| zM <| zE (qE cC) <| zR (kC jT) <| zE (kA g_zeroT) <| zE eE <| zM <| zZ) ?_
 refine jJ ⟨_, (.tmp (d := (.val (.bool (true)))) rfl .nil), ?_⟩
 rfl
theorem qs_samep (x y : Rat) (hx : QL x 1000000) (hy : QL y 1000000) (u v : Rat) (hu : QL u 1000000) (hv : QL v 1000000) (hxu : x = u) (hyv : y = v) : kE Tryz.prog 31 [(jI (jS.mk (jB x) (jB y))), (jI (jS.mk (jB u) (jB v)))] (.val (.bool (true))) := by
 refine jN Tryz.func31 rfl cb31 rfl ?_
 show uT _ _ _ _ ⟨[(0, (.d (jI (jS.mk (jB x) (jB y))))), (1, (.d (jI (jS.mk (jB u) (jB v)))))], []⟩
 refine jA <| kx [(2, (.ref 0 0)), (3, (.ref 1 0))] [(0, some (bx (jI (jS.mk (jB x) (jB y))))), (1, some (bx (jI (jS.mk (jB u) (jB v)))))] (zN (uX 0) <| zN (uX 1) <| zM <| zZ) ?_
 refine jA <| kx [(4, (vb true))] [] (zE (qE cB) <| zR (kC jT) <| zE (qE cB) <| zR (kC jT) <| zE (vB true (kA (by have h := g_same (jB x) (jB u) x u (jU (kD hx) (by decide)) (jU (kD hu) (by decide)); rw [sameR_of] at h; exact h)) (by exact decide_eq_true hxu)) <| zM <| zE (qE cC) <| zR (kC jT) <| zE (qE cC) <| zR (kC jT) <| zE (vB true (kA (by have h := g_same (jB y) (jB v) y v (jU (kD hy) (by decide)) (jU (kD hv) (by decide)); rw [sameR_of] at h; exact h)) (by exact decide_eq_true hyv)) <| zE eE <| zM <| zZ) ?_
 refine jJ ⟨_, (.tmp (d := (.val (.bool (true)))) rfl .nil), ?_⟩
 rfl
theorem dH (c : Nat) (d : Nat) (hcd : c = d) (hd : d ≠ 0) : kE Tryz.prog 48 [(jI (jS.mk (jQ.mk (jF.mk false []) (jF.mk false [])) (jQ.mk (jF.mk false []) (jF.mk false [])))), (.val (.int .i64 (((c : Nat) : Int)))), (jI (jS.mk (jQ.mk (jF.mk false []) (jF.mk false [])) (jQ.mk (jF.mk false []) (jF.mk false [])))), (.val (.int .i64 (((d : Nat) : Int))))] (.val (.bool (true))) := by
 let y1 := (jI (jS.mk (jQ.mk (jF.mk false []) (jF.mk false [])) (jQ.mk (jF.mk false []) (jF.mk false []))))
 refine jN Tryz.func48 rfl cb48 rfl ?_
 show uT _ _ _ _ ⟨[(0, (.d y1)), (1, (kX c)), (2, (.d y1)), (3, (kX d))], []⟩
 refine jA <| kx [(4, (.ref 0 0)), (6, (.ref 1 0))] [(0, some (bx y1)), (1, some (bx y1))] (zN (uX 0) <| zN (uX 1) <| zM <| zZ) ?_
 refine jA <| jA <| kx [(10, (vb true))] [] (zM <| zE (vB true eI (by exact bne_iff_ne.2 (by have hx := hd; omega))) <| zZ) ?_
 refine kS ?_
 refine jA <| kx [(8, (vb true))] [] (zM <| zM <| zE (vB true fA (by exact beq_iff_eq.2 (by rw [hcd]))) <| zM <| zR (kC qN) <| zE (kA qs_none) <| zE eE <| zM <| zZ) ?_
 refine jJ ⟨_, (.tmp (d := (.val (.bool (true)))) rfl .nil), ?_⟩
 rfl
theorem qs_resO (x y : Rat) (hx : QL x 1000000) (hy : QL y 1000000) (u v : Rat) (hu : QL u 1000000) (hv : QL v 1000000) (hxu : x = u) (hyv : y = v) : kE Tryz.prog 48 [(jI (jS.mk (jB x) (jB y))), (.val (.int .i64 (0))), (jI (jS.mk (jB u) (jB v))), (.val (.int .i64 (0)))] (.val (.bool (true))) := by
 refine jN Tryz.func48 rfl cb48 rfl ?_
 show uT _ _ _ _ ⟨[(0, (.d (jI (jS.mk (jB x) (jB y))))), (1, (vi 0)), (2, (.d (jI (jS.mk (jB u) (jB v))))), (3, (vi 0))], []⟩
 refine jA <| kx [(4, (.ref 0 0)), (6, (.ref 1 0))] [(0, some (bx (jI (jS.mk (jB x) (jB y))))), (1, some (bx (jI (jS.mk (jB u) (jB v)))))] (zN (uX 0) <| zN (uX 1) <| zM <| zZ) ?_
 refine jA <| jA <| kx [(10, (vb false))] [] (zM <| zE eI <| zZ) ?_
 refine kY ?_
 refine jE <| jA <| kx [(8, (vb true))] [] (zM <| zE fA <| zM <| zR (kC qN) <| zR (kC qN) <| zE (kA (qs_samep x y hx hy u v hu hv hxu hyv)) <| zE eE <| zM <| zZ) ?_
 refine jJ ⟨_, (.tmp (d := (.val (.bool (true)))) rfl .nil), ?_⟩
 rfl
end Go.Proofs.YtbecgnplakngdaaGreat
