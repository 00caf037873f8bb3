/- Part 12 of a proof: rules, plain facts, and functions walked. -/
import Derived.Test.YtbecgnplakngdaaGreatM11
namespace Go.Proofs.YtbecgnplakngdaaGreat
open Go.Fid
set_option maxRecDepth 4000
set_option linter.unusedVariables false
set_option linter.unusedSimpArgs false
theorem cb29 : callB Tryz.prog 29 = true := by kernel_rfl
theorem cb30 : callB Tryz.prog 30 = true := by kernel_rfl
theorem q_map (lx ly lz la lb lc ld lf lu lv rx ry rz ra rb rc rd rf ru rv : Int) (right : Bool) (x y : Rat) (hx : QL x 5000) (hy : QL y 5000) (b0 b1 b2 e00 e01 e02 e10 e11 e12 e20 e21 e22 : Rat) (hF : RFr lx ly lz la lb lc ld rx ry rz ra rb rc rd b0 b1 b2 e00 e01 e02 e10 e11 e12 e20 e21 e22) (vJ : QL b0 3) (vH : QL b1 3) (vI : QL b2 3) (qV : QL e00 400) (qW : QL e01 400) (qU : QL e02 400) (uC : QL e10 400) (uE : QL e11 400) (uD : QL e12 400) (qJ : QL e20 400) (qI : QL e21 400) (qK : QL e22 400) (tx ty tz ta tb tc td tf tu tv : Int) (w0 : Rat) (hw0 : (jF (xY ta tb tc td) (xW ta tb tc td) (uK ta tb tc td) (x - ((tu : Int) : Rat)) (y - ((tv : Int) : Rat)) ((tf : Int) : Rat)) = w0) (w1 : Rat) (hw1 : (jF (zC ta tb tc td) (zD ta tb tc td) (uL ta tb tc td) (x - ((tu : Int) : Rat)) (y - ((tv : Int) : Rat)) ((tf : Int) : Rat)) = w1) (w2 : Rat) (hw2 : (jF (zI ta tb tc td) (zG ta tb tc td) (uO ta tb tc td) (x - ((tu : Int) : Rat)) (y - ((tv : Int) : Rat)) ((tf : Int) : Rat)) = w2) (hl : uP lx ly lz lu lv lf la lb lc ld = 0) (hr : uP rx ry rz ru rv rf ra rb rc rd = 0) (hup : upV la lb lc ld ra rb rc rd b0 b1 b2 = false) (hsd : (bif right then (kH.mk (jL.mk rx ry rz) (jO.mk ra rb rc rd) rf (kI.mk ru rv)) else (kH.mk (jL.mk lx ly lz) (jO.mk la lb lc ld) lf (kI.mk lu lv))) = (kH.mk (jL.mk tx ty tz) (jO.mk ta tb tc td) tf (kI.mk tu tv))) (hst : uP tx ty tz tu tv tf ta tb tc td = 0) (hd : ¬ (qZ (jF e20 e21 e22 w0 w1 w2)) ≤ 0) : kD Tryz.prog 30 [(qA (kT.mk (kH.mk (jL.mk lx ly lz) (jO.mk la lb lc ld) lf (kI.mk lu lv)) (kH.mk (jL.mk rx ry rz) (jO.mk ra rb rc rd) rf (kI.mk ru rv)))), (.val (.bool (right))), (kJ (qD.mk (jC x) (jC y)))] (.tup [(kJ (qD.mk (jC ((jF e00 e01 e02 w0 w1 w2) / (jF e20 e21 e22 w0 w1 w2))) (jC ((jF e10 e11 e12 w0 w1 w2) / (jF e20 e21 e22 w0 w1 w2))))), (.val (.int .i64 (0)))]) := by
 have hbl := uS hl
 have hbr := uS hr
 obtain ⟨hlx, hly, hlz, hlu, hlv, hlf, hlq⟩ := hbl
 obtain ⟨hrx, hry, hrz, hru, hrv, hrf, hrq⟩ := hbr
 obtain ⟨hla, hlb, hlc, hld, -⟩ := uW hlq
 obtain ⟨hra, hrb, hrc, hrd, -⟩ := uW hrq
 have hnl := yN hla hlb hlc hld
 have hnr := yN hra hrb hrc hrd
 have hz0 := eF hF hup
 have hz1 := eH hF hup
 have hz2 := fU hF hup
 obtain ⟨htx, hty, htz, htu, htv, htf, htq⟩ := uS hst
 obtain ⟨hta, htb, htc, htd, -⟩ := uW htq
 have hnt := yN hta htb htc htd
 let y1 := (qA (kT.mk (kH.mk (jL.mk lx ly lz) (jO.mk la lb lc ld) lf (kI.mk lu lv)) (kH.mk (jL.mk rx ry rz) (jO.mk ra rb rc rd) rf (kI.mk ru rv))))
 refine jK Tryz.func30 rfl cb30 rfl ?_
 show uY _ _ _ _ ⟨[(0, (.d y1)), (1, (vb right)), (2, (.d (kJ (qD.mk (jC x) (jC y)))))], []⟩
 refine jA <| kx [(3, (.ref 0 0)), (5, (.ref 1 0)), (6, (.ref 2 0))] [(0, some (bx y1)), (1, some (bx (kJ (qD.mk (jC x) (jC y))))), (2, some (bx (kJ (qD.mk (jV.mk (jG.mk false []) (jG.mk false [])) (jV.mk (jG.mk false []) (jG.mk false []))))))] (zN (vN 0) <| zN (vN 1) <| zN (qP 2 gG gE) <| zM <| zZ) ?_
 refine jA <| kx [(8, (.d (.cptr 1000001 (kY.cells (cU (RRp.mk (kH.mk (jL.mk lx ly lz) (jO.mk la lb lc ld) lf (kI.mk lu lv)) (kH.mk (jL.mk rx ry rz) (jO.mk ra rb rc rd) rf (kI.mk ru rv)) (A3.mk (jC b0) (jC b1) (jC b2)) (A3.mk (A3.mk (jC e00) (jC e01) (jC e02)) (A3.mk (jC e10) (jC e11) (jC e12)) (A3.mk (jC e20) (jC e21) (jC e22)))))) 0))), (9, (vi 0))] [] (zR (jZ mE) <| zE (jX (q_rec lx ly lz la lb lc ld lf lu lv rx ry rz ra rb rc rd rf ru rv b0 b1 b2 e00 e01 e02 e10 e11 e12 e20 e21 e22 hF vJ vH vI qV qW qU uC uE uD qJ qI qK hl hr hup)) <| zM <| zE uG <| zE uG <| zM <| zM <| zZ) ?_
 refine jA <| jA <| kx [(21, (vb false))] [] (zM <| zE dL <| zZ) ?_
 refine kG ?_
 refine jD <| jA <| jA <| kx [(26, (vb false))] [] (zR (jZ yF) <| zE (jX (q_canT x y (qu hx) (qu hy))) <| zE oNt <| zZ) ?_
 refine kG ?_
 refine jD <| jA <| kx [(10, (.ref 3 0))] [(3, some (bx (uX (kH.mk (jL.mk tx ty tz) (jO.mk ta tb tc td) tf (kI.mk tu tv)))))] (zM <| zM <| zE (jX (q_side lx ly lz la lb lc ld lf lu lv rx ry rz ra rb rc rd rf ru rv b0 b1 b2 e00 e01 e02 e10 e11 e12 e20 e21 e22 vJ vH vI qV qW qU uC uE uD qJ qI qK right tx ty tz ta tb tc td tf tu tv hsd)) <| zN (qP 3 ze29 zo29) <| zT (kU vK) <| zZ) ?_
 refine jA ?_
 have bn1 : QL ((1 : Int) : Rat) 3 := (qi 1)
 have bn2 : QL ((0 : Int) : Rat) 3 := (qi 0)
 have bn3 : QL ((-tu : Int) : Rat) 3 := (qi (-tu))
 have bn4 : QL ((-tv : Int) : Rat) 3 := (qi (-tv))
 have bn5 : QL ((tf : Int) : Rat) 3 := (qi tf)
 have bn6 : QL ((1 : Int) : Rat) 1 := (kQ (z := 1) (vQ (by decide)) (by decide))
 have bn7 : QL (x - ((tu : Int) : Rat)) 30002 := (jT (Eq.symm (lens0 x y tu)) (jQ (n := 5000) (k := 30002) (qu bn1) (qu bn2) (qu bn3) hx hy (qu bn6) (by decide)))
 have bn8 : QL (y - ((tv : Int) : Rat)) 30002 := (jT (Eq.symm (lens1 x y tv)) (jQ (n := 5000) (k := 30002) (qu bn2) (qu bn1) (qu bn4) hx hy (qu bn6) (by decide)))
 have bn9 : QL ((tf : Int) : Rat) 30002 := (jT (Eq.symm (lens2 x y tf)) (jQ (n := 5000) (k := 30002) (qu bn2) (qu bn2) (qu bn5) hx hy (qu bn6) (by decide)))
 refine kd [(11, (.ref 4 0))] [(4, some (bx (jN (A3.mk (jC (x - ((tu : Int) : Rat))) (jC (y - ((tv : Int) : Rat))) (jC ((tf : Int) : Rat))))))] mo (wR (jZ vK) <| wE (jX (q_inner tx ty tz ta tb tc td tf tu tv (by omega) (by omega) (by omega))) <| wE (kO fo56_0) <| wR (jZ jR) <| wE (kO fo56_1) <| wR (jZ jR) <| wE (jX (dM 1 (by decide) (by decide))) <| wE (oBf uB nO nN) <| wE (jX (by have h := aB ((1 : Int) : Rat) ((0 : Int) : Rat) ((-tu : Int) : Rat) ((0 : Int) : Rat) ((1 : Int) : Rat) ((-tv : Int) : Rat) ((0 : Int) : Rat) ((0 : Int) : Rat) ((tf : Int) : Rat) (qu bn1) (qu bn2) (qu bn3) (qu bn2) (qu bn1) (qu bn4) (qu bn2) (qu bn2) (qu bn5) x y ((1 : Int) : Rat) (qu hx) (qu hy) (qu bn6); rw [(lens0 x y tu), (lens1 x y tv), (lens2 x y tf)] at h; exact h)) <| wN (qP 4 nO nN) <| wT (kU uQ) <| wZ) ?_
 refine jA ?_
 have bn10 : QL (xY ta tb tc td) 3 := (eZ)
 have bn11 : QL (xW ta tb tc td) 3 := (fC)
 have bn12 : QL (uK ta tb tc td) 3 := (mG)
 have bn13 : QL (zC ta tb tc td) 3 := (eW)
 have bn14 : QL (zD ta tb tc td) 3 := (fF)
 have bn15 : QL (uL ta tb tc td) 3 := (mT)
 have bn16 : QL (zI ta tb tc td) 3 := (fD)
 have bn17 : QL (zG ta tb tc td) 3 := (eX)
 have bn18 : QL (uO ta tb tc td) 3 := (mS)
 have bn19 : QL w0 180014 := (jT (Eq.symm hw0) (jQ (n := 30002) (k := 180014) (qu bn10) (qu bn11) (qu bn12) bn7 bn8 bn9 (by decide)))
 have bn20 : QL w1 180014 := (jT (Eq.symm hw1) (jQ (n := 30002) (k := 180014) (qu bn13) (qu bn14) (qu bn15) bn7 bn8 bn9 (by decide)))
 have bn21 : QL w2 180014 := (jT (Eq.symm hw2) (jQ (n := 30002) (k := 180014) (qu bn16) (qu bn17) (qu bn18) bn7 bn8 bn9 (by decide)))
 have bn22 : QL ((jF e00 e01 e02 w0 w1 w2) / (jF e20 e21 e22 w0 w1 w2)) 2160172 := (vE (k := 2160172) (jQ (n := 180014) (k := 1080086) (qu qV) (qu qW) (qu qU) bn19 bn20 bn21 (by decide)) (jQ (n := 180014) (k := 1080086) (qu qJ) (qu qI) (qu qK) bn19 bn20 bn21 (by decide)) (by decide))
 have bn23 : QL ((jF e10 e11 e12 w0 w1 w2) / (jF e20 e21 e22 w0 w1 w2)) 2160172 := (vE (k := 2160172) (jQ (n := 180014) (k := 1080086) (qu uC) (qu uE) (qu uD) bn19 bn20 bn21 (by decide)) (jQ (n := 180014) (k := 1080086) (qu qJ) (qu qI) (qu qK) bn19 bn20 bn21 (by decide)) (by decide))
 have bn24 : QL (jF e20 e21 e22 w0 w1 w2) 1080086 := (jQ (n := 180014) (k := 1080086) (qu qJ) (qu qI) (qu qK) bn19 bn20 bn21 (by decide))
 refine kd [(12, (.ref 5 0)), (14, (vb true))] [(5, some (bx (kJ (qD.mk (jC ((jF e00 e01 e02 w0 w1 w2) / (jF e20 e21 e22 w0 w1 w2))) (jC ((jF e10 e11 e12 w0 w1 w2) / (jF e20 e21 e22 w0 w1 w2))))))), (6, none)] mo (wM <| wE (kO gU) <| wR (jZ yR) <| wE (jX (q_turn ta tb tc td (by omega) (by omega) (by omega) (by omega) htq)) <| wR (jZ uQ) <| wE (jX (by have h := aB (xY ta tb tc td) (xW ta tb tc td) (uK ta tb tc td) (zC ta tb tc td) (zD ta tb tc td) (uL ta tb tc td) (zI ta tb tc td) (zG ta tb tc td) (uO ta tb tc td) (qu bn10) (qu bn11) (qu bn12) (qu bn13) (qu bn14) (qu bn15) (qu bn16) (qu bn17) (qu bn18) (x - ((tu : Int) : Rat)) (y - ((tv : Int) : Rat)) ((tf : Int) : Rat) (qu bn7) (qu bn8) (qu bn9); rw [hw0, hw1, hw2] at h; exact h)) <| wE (jX (q_coo lx ly lz la lb lc ld lf lu lv rx ry rz ra rb rc rd rf ru rv b0 b1 b2 e00 e01 e02 e10 e11 e12 e20 e21 e22 vJ vH vI qV qW qU uC uE uD qJ qI qK w0 w1 w2 (qu bn19) (qu bn20) (qu bn21) hd)) <| wM <| wE uG <| wE uG <| wE uG <| wN (qP 5 gG gE) <| wN (qP 6 qF qQ) <| wT (kU yF) <| wT (kU jR) <| wM <| wZ) ?_
 refine jA <| jA <| kx [(52, (vb false))] [] (zM <| zE oNt <| zZ) ?_
 refine kG ?_
 refine jD <| jA <| kx [(7, (kE 0))] [(2, some (bx (kJ (qD.mk (jC ((jF e00 e01 e02 w0 w1 w2) / (jF e20 e21 e22 w0 w1 w2))) (jC ((jF e10 e11 e12 w0 w1 w2) / (jF e20 e21 e22 w0 w1 w2)))))))] (zR (jZ yF) <| zT (kU yF) <| zM <| zZ) ?_
 refine jH ⟨_, (kZ (cs := (bx (kJ (qD.mk (jC ((jF e00 e01 e02 w0 w1 w2) / (jF e20 e21 e22 w0 w1 w2))) (jC ((jF e10 e11 e12 w0 w1 w2) / (jF e20 e21 e22 w0 w1 w2))))))) (d := (kJ (qD.mk (jC ((jF e00 e01 e02 w0 w1 w2) / (jF e20 e21 e22 w0 w1 w2))) (jC ((jF e10 e11 e12 w0 w1 w2) / (jF e20 e21 e22 w0 w1 w2)))))) rfl rfl yF rfl rfl (.tmp (d := (.val (.int .i64 (((0 : Nat) : Int))))) rfl .nil)), ?_⟩
 rfl
theorem q_prjN (lx ly lz la lb lc ld lf lu lv rx ry rz ra rb rc rd rf ru rv : Int) (px py pz : Int) (hpx : -1048576 ≤ px ∧ px ≤ 1048576) (hpy : -1048576 ≤ py ∧ py ≤ 1048576) (hpz : -1048576 ≤ pz ∧ pz ≤ 1048576) (b0 b1 b2 e00 e01 e02 e10 e11 e12 e20 e21 e22 : Rat) (hF : RFr lx ly lz la lb lc ld rx ry rz ra rb rc rd b0 b1 b2 e00 e01 e02 e10 e11 e12 e20 e21 e22) (vJ : QL b0 3) (vH : QL b1 3) (vI : QL b2 3) (qV : QL e00 400) (qW : QL e01 400) (qU : QL e02 400) (uC : QL e10 400) (uE : QL e11 400) (uD : QL e12 400) (qJ : QL e20 400) (qI : QL e21 400) (qK : QL e22 400) (r0 : Rat) (hr0 : ((px - lx : Int) : Rat) = r0) (r1 : Rat) (hr1 : ((py - ly : Int) : Rat) = r1) (r2 : Rat) (hr2 : ((pz - lz : Int) : Rat) = r2) (hl : uP lx ly lz lu lv lf la lb lc ld = 0) (hr : uP rx ry rz ru rv rf ra rb rc rd = 0) (hup : upV la lb lc ld ra rb rc rd b0 b1 b2 = false) (hd : (qZ (jF e20 e21 e22 r0 r1 r2)) ≤ 0) : kD Tryz.prog 29 [(qA (kT.mk (kH.mk (jL.mk lx ly lz) (jO.mk la lb lc ld) lf (kI.mk lu lv)) (kH.mk (jL.mk rx ry rz) (jO.mk ra rb rc rd) rf (kI.mk ru rv)))), (qE (jL.mk px py pz))] (.tup [(kJ (qD.mk (jV.mk (jG.mk false []) (jG.mk false [])) (jV.mk (jG.mk false []) (jG.mk false [])))), (jM (jV.mk (jG.mk false []) (jG.mk false []))), (.val (.int .i64 (20)))]) := by
 have hbl := uS hl
 have hbr := uS hr
 obtain ⟨hlx, hly, hlz, hlu, hlv, hlf, hlq⟩ := hbl
 obtain ⟨hrx, hry, hrz, hru, hrv, hrf, hrq⟩ := hbr
 obtain ⟨hla, hlb, hlc, hld, -⟩ := uW hlq
 obtain ⟨hra, hrb, hrc, hrd, -⟩ := uW hrq
 have hnl := yN hla hlb hlc hld
 have hnr := yN hra hrb hrc hrd
 have hz0 := eF hF hup
 have hz1 := eH hF hup
 have hz2 := fU hF hup
 let y4 := (bx (jM (jV.mk (jG.mk false []) (jG.mk false []))))
 let y3 := (bx (kJ (qD.mk (jV.mk (jG.mk false []) (jG.mk false [])) (jV.mk (jG.mk false []) (jG.mk false [])))))
 let y2 := (qA (kT.mk (kH.mk (jL.mk lx ly lz) (jO.mk la lb lc ld) lf (kI.mk lu lv)) (kH.mk (jL.mk rx ry rz) (jO.mk ra rb rc rd) rf (kI.mk ru rv))))
 let y1 := (cU (RRp.mk (kH.mk (jL.mk lx ly lz) (jO.mk la lb lc ld) lf (kI.mk lu lv)) (kH.mk (jL.mk rx ry rz) (jO.mk ra rb rc rd) rf (kI.mk ru rv)) (A3.mk (jC b0) (jC b1) (jC b2)) (A3.mk (A3.mk (jC e00) (jC e01) (jC e02)) (A3.mk (jC e10) (jC e11) (jC e12)) (A3.mk (jC e20) (jC e21) (jC e22)))))
 refine jK Tryz.func29 rfl cb29 rfl ?_
 show uY _ _ _ _ ⟨[(0, (.d y2)), (1, (.d (qE (jL.mk px py pz))))], []⟩
 refine jA <| kx [(2, (.ref 0 0)), (3, (.ref 1 0)), (4, (.ref 2 0)), (5, (.ref 3 0))] [(0, some (bx y2)), (1, some (bx (qE (jL.mk px py pz)))), (2, some y3), (3, some y4)] (zN (vN 0) <| zN (vN 1) <| zN (qP 2 gG gE) <| zN (qP 3 qF qQ) <| zM <| zZ) ?_
 refine jA <| kx [(7, (.d (.cptr 1000001 (kY.cells y1) 0))), (8, (vi 0))] [] (zR (jZ mE) <| zE (jX (q_rec lx ly lz la lb lc ld lf lu lv rx ry rz ra rb rc rd rf ru rv b0 b1 b2 e00 e01 e02 e10 e11 e12 e20 e21 e22 hF vJ vH vI qV qW qU uC uE uD qJ qI qK hl hr hup)) <| zM <| zE uG <| zE uG <| zM <| zM <| zZ) ?_
 refine jA <| jA <| kx [(23, (vb false))] [] (zM <| zE dL <| zZ) ?_
 refine kG ?_
 refine jD <| jA <| jA <| kx [(33, (vl 3 1 vL [px, py, pz])), (34, (kE 3)), (35, (kE 0))] [] (zE (kO yB) <| zR (uM uH) <| zE (kO yK) <| zR (uM uH) <| zE (kO yL) <| zR (uM uH) <| zE (nM vB ze3 zo3) <| zE (oLn vB 3) <| zM <| zZ) ?_
 refine jE <| kW 20 ?_
 refine qC <| jA <| kx [(36, (vb true))] [] (zE (qN true qM) <| zZ) ?_
 refine jA <| jY ?_
 refine jD <| jA <| jE <| jA <| kx [(10, (vi px))] [] (zE (zS vB 0) <| zE (xT uH) <| zM <| zZ) ?_
 refine jA <| kx [(44, (vb false))] [] (zM <| zE (qN false qM (by exact decide_eq_false (by omega))) <| zM <| zM <| zE (qN false hM (by exact decide_eq_false (by omega))) <| zE mV <| zZ) ?_
 refine kG ?_
 refine jD <| kx [(35, (kE 1))] [] (zE (uI 1 (hr := by decide)) <| zM <| zZ) ?_
 refine jJ (jW.refl _) ?_
 refine jA <| kx [(36, (vb true))] [] (zE (qN true qM) <| zZ) ?_
 refine jA <| jY ?_
 refine jD <| jA <| jE <| jA <| kx [(10, (vi py))] [] (zE (zS vB 1) <| zE (xT uH) <| zM <| zZ) ?_
 refine jA <| kx [(44, (vb false))] [] (zM <| zE (qN false qM (by exact decide_eq_false (by omega))) <| zM <| zM <| zE (qN false hM (by exact decide_eq_false (by omega))) <| zE mV <| zZ) ?_
 refine kG ?_
 refine jD <| kx [(35, (kE 2))] [] (zE (uI 2 (hr := by decide)) <| zM <| zZ) ?_
 refine jJ (jW.refl _) ?_
 refine jA <| kx [(36, (vb true))] [] (zE (qN true qM) <| zZ) ?_
 refine jA <| jY ?_
 refine jD <| jA <| jE <| jA <| kx [(10, (vi pz))] [] (zE (zS vB 2) <| zE (xT uH) <| zM <| zZ) ?_
 refine jA <| kV (wk (l := [(3, (.ref 1 0)), (4, (.ref 2 0)), (5, (.ref 3 0)), (7, (.d (.cptr 1000001 (kY.cells y1) 0))), (10, (vi pz)), (33, (vl 3 1 vL [px, py, pz])), (34, (kE 3)), (35, (kE 2))]) (b := [(1, some (bx (qE (jL.mk px py pz)))), (2, some y3), (3, some y4)])) ?_
 refine kx [(44, (vb false))] [] (zM <| zE (qN false qM (by exact decide_eq_false (by omega))) <| zM <| zM <| zE (qN false hM (by exact decide_eq_false (by omega))) <| zE mV <| zZ) ?_
 refine kG ?_
 refine jD <| kx [(35, (kE 3))] [] (zE (uI 3 (hr := by decide)) <| zM <| zZ) ?_
 refine jJ (jW.refl _) ?_
 refine jA <| kx [(36, (vb false))] [] (zE (qN false qM) <| zZ) ?_
 refine jA <| kG ?_
 refine kK <| jA <| kx [(11, (.ref 4 0))] [(4, some (bx (qE (jL.mk lx ly lz))))] (zM <| zE oNd <| zE (oFc fo134_0) <| zE (oFc yC) <| zE (eD nC) <| zN (qP 4 ze23 zo23) <| zT (kU nC) <| zZ) ?_
 refine jA ?_
 have bn1 : QL r0 3 := (jT (Eq.symm hr0) (qi (px - lx)))
 have bn2 : QL r1 3 := (jT (Eq.symm hr1) (qi (py - ly)))
 have bn3 : QL r2 3 := (jT (Eq.symm hr2) (qi (pz - lz)))
 refine kx [(12, (.ref 5 0)), (13, (.ref 6 0)), (14, (vb false))] [(5, some y3), (6, some y4)] (zM <| zE (kO yB) <| zR (uM uH) <| zE (kO yB) <| zR (uM uH) <| zE (dJ (px - lx) (hr := by exact (qG rfl (by simp only [vY]; omega) (by simp only [vZ]; omega)))) <| zE (kO yK) <| zR (uM uH) <| zE (kO yK) <| zR (uM uH) <| zE (dJ (py - ly) (hr := by exact (qG rfl (by simp only [vY]; omega) (by simp only [vZ]; omega)))) <| zE (kO yL) <| zR (uM uH) <| zE (kO yL) <| zR (uM uH) <| zE (dJ (pz - lz) (hr := by exact (qG rfl (by simp only [vY]; omega) (by simp only [vZ]; omega)))) <| zE (jX (by have h := q_whole (px - lx) (by omega) (by omega) (py - ly) (by omega) (by omega) (pz - lz) (by omega) (by omega); rw [hr0, hr1, hr2] at h; exact h)) <| zE (jX (q_cooN lx ly lz la lb lc ld lf lu lv rx ry rz ra rb rc rd rf ru rv b0 b1 b2 e00 e01 e02 e10 e11 e12 e20 e21 e22 vJ vH vI qV qW qU uC uE uD qJ qI qK r0 r1 r2 (qu bn1) (qu bn2) (qu bn3) hd)) <| zM <| zE uG <| zE uG <| zE uG <| zN (qP 5 gG gE) <| zN (qP 6 qF qQ) <| zT (kU yF) <| zT (kU jR) <| zM <| zZ) ?_
 refine jA <| jA <| kx [(76, (vb true))] [] (zM <| zE oNt <| zZ) ?_
 refine jY ?_
 refine jA <| kx [(6, (kE 20))] [(2, some y3), (3, some y4)] (zE (oBd pl56 gG gE) <| zE (oBd pl42 qF qQ) <| zT (kU yF) <| zT (kU jR) <| zM <| zZ) ?_
 refine jH ⟨_, (kZ (cs := (bx (kJ (qD.mk (jV.mk (jG.mk false []) (jG.mk false [])) (jV.mk (jG.mk false []) (jG.mk false [])))))) (d := (kJ (qD.mk (jV.mk (jG.mk false []) (jG.mk false [])) (jV.mk (jG.mk false []) (jG.mk false []))))) rfl rfl yF rfl rfl (kZ (cs := (bx (jM (jV.mk (jG.mk false []) (jG.mk false []))))) (d := (jM (jV.mk (jG.mk false []) (jG.mk false [])))) rfl rfl jR rfl rfl (.tmp (d := (.val (.int .i64 (((20 : Nat) : Int))))) rfl .nil))), ?_⟩
 rfl
theorem q_prj (lx ly lz la lb lc ld lf lu lv rx ry rz ra rb rc rd rf ru rv : Int) (px py pz : Int) (hpx : -1048576 ≤ px ∧ px ≤ 1048576) (hpy : -1048576 ≤ py ∧ py ≤ 1048576) (hpz : -1048576 ≤ pz ∧ pz ≤ 1048576) (b0 b1 b2 e00 e01 e02 e10 e11 e12 e20 e21 e22 : Rat) (hF : RFr lx ly lz la lb lc ld rx ry rz ra rb rc rd b0 b1 b2 e00 e01 e02 e10 e11 e12 e20 e21 e22) (vJ : QL b0 3) (vH : QL b1 3) (vI : QL b2 3) (qV : QL e00 400) (qW : QL e01 400) (qU : QL e02 400) (uC : QL e10 400) (uE : QL e11 400) (uD : QL e12 400) (qJ : QL e20 400) (qI : QL e21 400) (qK : QL e22 400) (r0 : Rat) (hr0 : ((px - lx : Int) : Rat) = r0) (r1 : Rat) (hr1 : ((py - ly : Int) : Rat) = r1) (r2 : Rat) (hr2 : ((pz - lz : Int) : Rat) = r2) (hl : uP lx ly lz lu lv lf la lb lc ld = 0) (hr : uP rx ry rz ru rv rf ra rb rc rd = 0) (hup : upV la lb lc ld ra rb rc rd b0 b1 b2 = false) (hd : ¬ (qZ (jF e20 e21 e22 r0 r1 r2)) ≤ 0) : kD Tryz.prog 29 [(qA (kT.mk (kH.mk (jL.mk lx ly lz) (jO.mk la lb lc ld) lf (kI.mk lu lv)) (kH.mk (jL.mk rx ry rz) (jO.mk ra rb rc rd) rf (kI.mk ru rv)))), (qE (jL.mk px py pz))] (.tup [(kJ (qD.mk (jC ((jF e00 e01 e02 r0 r1 r2) / (jF e20 e21 e22 r0 r1 r2))) (jC ((jF e10 e11 e12 r0 r1 r2) / (jF e20 e21 e22 r0 r1 r2))))), (jM (jC ((jF e00 e01 e02 b0 b1 b2) / (jF e20 e21 e22 r0 r1 r2)))), (.val (.int .i64 (0)))]) := by
 have hbl := uS hl
 have hbr := uS hr
 obtain ⟨hlx, hly, hlz, hlu, hlv, hlf, hlq⟩ := hbl
 obtain ⟨hrx, hry, hrz, hru, hrv, hrf, hrq⟩ := hbr
 obtain ⟨hla, hlb, hlc, hld, -⟩ := uW hlq
 obtain ⟨hra, hrb, hrc, hrd, -⟩ := uW hrq
 have hnl := yN hla hlb hlc hld
 have hnr := yN hra hrb hrc hrd
 have hz0 := eF hF hup
 have hz1 := eH hF hup
 have hz2 := fU hF hup
 let y3 := (jV.mk (jG.mk false []) (jG.mk false []))
 let y2 := (qA (kT.mk (kH.mk (jL.mk lx ly lz) (jO.mk la lb lc ld) lf (kI.mk lu lv)) (kH.mk (jL.mk rx ry rz) (jO.mk ra rb rc rd) rf (kI.mk ru rv))))
 let y1 := (cU (RRp.mk (kH.mk (jL.mk lx ly lz) (jO.mk la lb lc ld) lf (kI.mk lu lv)) (kH.mk (jL.mk rx ry rz) (jO.mk ra rb rc rd) rf (kI.mk ru rv)) (A3.mk (jC b0) (jC b1) (jC b2)) (A3.mk (A3.mk (jC e00) (jC e01) (jC e02)) (A3.mk (jC e10) (jC e11) (jC e12)) (A3.mk (jC e20) (jC e21) (jC e22)))))
 refine jK Tryz.func29 rfl cb29 rfl ?_
 show uY _ _ _ _ ⟨[(0, (.d y2)), (1, (.d (qE (jL.mk px py pz))))], []⟩
 refine jA <| kx [(2, (.ref 0 0)), (3, (.ref 1 0)), (4, (.ref 2 0)), (5, (.ref 3 0))] [(0, some (bx y2)), (1, some (bx (qE (jL.mk px py pz)))), (2, some (bx (kJ (qD.mk y3 y3)))), (3, some (bx (jM y3)))] (zN (vN 0) <| zN (vN 1) <| zN (qP 2 gG gE) <| zN (qP 3 qF qQ) <| zM <| zZ) ?_
 refine jA <| kx [(7, (.d (.cptr 1000001 (kY.cells y1) 0))), (8, (vi 0))] [] (zR (jZ mE) <| zE (jX (q_rec lx ly lz la lb lc ld lf lu lv rx ry rz ra rb rc rd rf ru rv b0 b1 b2 e00 e01 e02 e10 e11 e12 e20 e21 e22 hF vJ vH vI qV qW qU uC uE uD qJ qI qK hl hr hup)) <| zM <| zE uG <| zE uG <| zM <| zM <| zZ) ?_
 refine jA <| jA <| kx [(23, (vb false))] [] (zM <| zE dL <| zZ) ?_
 refine kG ?_
 refine jD <| jA <| jA <| kx [(33, (vl 3 1 vL [px, py, pz])), (34, (kE 3)), (35, (kE 0))] [] (zE (kO yB) <| zR (uM uH) <| zE (kO yK) <| zR (uM uH) <| zE (kO yL) <| zR (uM uH) <| zE (nM vB ze3 zo3) <| zE (oLn vB 3) <| zM <| zZ) ?_
 refine jE <| kW 20 ?_
 refine qC <| jA <| kx [(36, (vb true))] [] (zE (qN true qM) <| zZ) ?_
 refine jA <| jY ?_
 refine jD <| jA <| jE <| jA <| kx [(10, (vi px))] [] (zE (zS vB 0) <| zE (xT uH) <| zM <| zZ) ?_
 refine jA <| kx [(44, (vb false))] [] (zM <| zE (qN false qM (by exact decide_eq_false (by omega))) <| zM <| zM <| zE (qN false hM (by exact decide_eq_false (by omega))) <| zE mV <| zZ) ?_
 refine kG ?_
 refine jD <| kx [(35, (kE 1))] [] (zE (uI 1 (hr := by decide)) <| zM <| zZ) ?_
 refine jJ (jW.refl _) ?_
 refine jA <| kx [(36, (vb true))] [] (zE (qN true qM) <| zZ) ?_
 refine jA <| jY ?_
 refine jD <| jA <| jE <| jA <| kx [(10, (vi py))] [] (zE (zS vB 1) <| zE (xT uH) <| zM <| zZ) ?_
 refine jA <| kx [(44, (vb false))] [] (zM <| zE (qN false qM (by exact decide_eq_false (by omega))) <| zM <| zM <| zE (qN false hM (by exact decide_eq_false (by omega))) <| zE mV <| zZ) ?_
 refine kG ?_
 refine jD <| kx [(35, (kE 2))] [] (zE (uI 2 (hr := by decide)) <| zM <| zZ) ?_
 refine jJ (jW.refl _) ?_
 refine jA <| kx [(36, (vb true))] [] (zE (qN true qM) <| zZ) ?_
 refine jA <| jY ?_
 refine jD <| jA <| jE <| jA <| kx [(10, (vi pz))] [] (zE (zS vB 2) <| zE (xT uH) <| zM <| zZ) ?_
 refine jA <| kV (wk (l := [(3, (.ref 1 0)), (4, (.ref 2 0)), (5, (.ref 3 0)), (7, (.d (.cptr 1000001 (kY.cells y1) 0))), (10, (vi pz)), (33, (vl 3 1 vL [px, py, pz])), (34, (kE 3)), (35, (kE 2))]) (b := [(1, some (bx (qE (jL.mk px py pz)))), (2, some (bx (kJ (qD.mk y3 y3)))), (3, some (bx (jM y3)))])) ?_
 refine kx [(44, (vb false))] [] (zM <| zE (qN false qM (by exact decide_eq_false (by omega))) <| zM <| zM <| zE (qN false hM (by exact decide_eq_false (by omega))) <| zE mV <| zZ) ?_
 refine kG ?_
 refine jD <| kx [(35, (kE 3))] [] (zE (uI 3 (hr := by decide)) <| zM <| zZ) ?_
 refine jJ (jW.refl _) ?_
 refine jA <| kx [(36, (vb false))] [] (zE (qN false qM) <| zZ) ?_
 refine jA <| kG ?_
 refine kK <| jA <| kx [(11, (.ref 4 0))] [(4, some (bx (qE (jL.mk lx ly lz))))] (zM <| zE oNd <| zE (oFc fo134_0) <| zE (oFc yC) <| zE (eD nC) <| zN (qP 4 ze23 zo23) <| zT (kU nC) <| zZ) ?_
 refine jA ?_
 have bn1 : QL r0 3 := (jT (Eq.symm hr0) (qi (px - lx)))
 have bn2 : QL r1 3 := (jT (Eq.symm hr1) (qi (py - ly)))
 have bn3 : QL r2 3 := (jT (Eq.symm hr2) (qi (pz - lz)))
 have bn4 : QL ((jF e00 e01 e02 r0 r1 r2) / (jF e20 e21 e22 r0 r1 r2)) 4804 := (vE (k := 4804) (jQ (n := 400) (k := 2402) qV qW qU (qu bn1) (qu bn2) (qu bn3) (by decide)) (jQ (n := 400) (k := 2402) qJ qI qK (qu bn1) (qu bn2) (qu bn3) (by decide)) (by decide))
 have bn5 : QL ((jF e10 e11 e12 r0 r1 r2) / (jF e20 e21 e22 r0 r1 r2)) 4804 := (vE (k := 4804) (jQ (n := 400) (k := 2402) uC uE uD (qu bn1) (qu bn2) (qu bn3) (by decide)) (jQ (n := 400) (k := 2402) qJ qI qK (qu bn1) (qu bn2) (qu bn3) (by decide)) (by decide))
 have bn6 : QL (jF e20 e21 e22 r0 r1 r2) 2402 := (jQ (n := 400) (k := 2402) qJ qI qK (qu bn1) (qu bn2) (qu bn3) (by decide))
 refine kx [(12, (.ref 5 0)), (13, (.ref 6 0)), (14, (vb true))] [(5, some (bx (kJ (qD.mk (jC ((jF e00 e01 e02 r0 r1 r2) / (jF e20 e21 e22 r0 r1 r2))) (jC ((jF e10 e11 e12 r0 r1 r2) / (jF e20 e21 e22 r0 r1 r2))))))), (6, some (bx (jM (jC (jF e20 e21 e22 r0 r1 r2)))))] (zM <| zE (kO yB) <| zR (uM uH) <| zE (kO yB) <| zR (uM uH) <| zE (dJ (px - lx) (hr := by exact (qG rfl (by simp only [vY]; omega) (by simp only [vZ]; omega)))) <| zE (kO yK) <| zR (uM uH) <| zE (kO yK) <| zR (uM uH) <| zE (dJ (py - ly) (hr := by exact (qG rfl (by simp only [vY]; omega) (by simp only [vZ]; omega)))) <| zE (kO yL) <| zR (uM uH) <| zE (kO yL) <| zR (uM uH) <| zE (dJ (pz - lz) (hr := by exact (qG rfl (by simp only [vY]; omega) (by simp only [vZ]; omega)))) <| zE (jX (by have h := q_whole (px - lx) (by omega) (by omega) (py - ly) (by omega) (by omega) (pz - lz) (by omega) (by omega); rw [hr0, hr1, hr2] at h; exact h)) <| zE (jX (q_coo lx ly lz la lb lc ld lf lu lv rx ry rz ra rb rc rd rf ru rv b0 b1 b2 e00 e01 e02 e10 e11 e12 e20 e21 e22 vJ vH vI qV qW qU uC uE uD qJ qI qK r0 r1 r2 (qu bn1) (qu bn2) (qu bn3) hd)) <| zM <| zE uG <| zE uG <| zE uG <| zN (qP 5 gG gE) <| zN (qP 6 qF qQ) <| zT (kU yF) <| zT (kU jR) <| zM <| zZ) ?_
 refine jA <| jA <| kx [(76, (vb false))] [] (zM <| zE oNt <| zZ) ?_
 refine kG ?_
 refine jD <| jA ?_
 have bn7 : QL (jF e00 e01 e02 b0 b1 b2) 2402 := (jQ (n := 400) (k := 2402) qV qW qU (qu vJ) (qu vH) (qu vI) (by decide))
 refine kd [(15, (.ref 7 0))] [(7, some (bx (jM (jC ((jF e00 e01 e02 b0 b1 b2) / (jF e20 e21 e22 r0 r1 r2))))))] mo (wM <| wE oNd <| wE (oFc dI) <| wE (oXc xA 0) <| wE (eD uQ) <| wM <| wE oNd <| wE (oFc fo134_2) <| wE (eD uQ) <| wE (jX (q_dot e00 e01 e02 (qu qV) (qu qW) (qu qU) b0 b1 b2 (qu vJ) (qu vH) (qu vI))) <| wR (jZ jR) <| wE (jX (by have h := f_divide (jC (jF e00 e01 e02 b0 b1 b2)) (jC (jF e20 e21 e22 r0 r1 r2)) (jF e00 e01 e02 b0 b1 b2) (jF e20 e21 e22 r0 r1 r2) (kB (kC bn7) (by decide)) (kB (kC bn6) (by decide)); rw [divR_ne (nY hd), divC_ne (nY hd)] at h; exact h)) <| wM <| wE uG <| wE uG <| wN (qP 7 qF qQ) <| wT (kU jR) <| wM <| wZ) ?_
 refine jA <| kd [(6, (kE 0))] [(2, some (bx (kJ (qD.mk (jC ((jF e00 e01 e02 r0 r1 r2) / (jF e20 e21 e22 r0 r1 r2))) (jC ((jF e10 e11 e12 r0 r1 r2) / (jF e20 e21 e22 r0 r1 r2))))))), (3, some (bx (jM (jC ((jF e00 e01 e02 b0 b1 b2) / (jF e20 e21 e22 r0 r1 r2))))))] mo (wR (jZ yF) <| wR (jZ jR) <| wT (kU yF) <| wT (kU jR) <| wM <| wZ) ?_
 refine jH ⟨_, (kZ (cs := (bx (kJ (qD.mk (jC ((jF e00 e01 e02 r0 r1 r2) / (jF e20 e21 e22 r0 r1 r2))) (jC ((jF e10 e11 e12 r0 r1 r2) / (jF e20 e21 e22 r0 r1 r2))))))) (d := (kJ (qD.mk (jC ((jF e00 e01 e02 r0 r1 r2) / (jF e20 e21 e22 r0 r1 r2))) (jC ((jF e10 e11 e12 r0 r1 r2) / (jF e20 e21 e22 r0 r1 r2)))))) rfl rfl yF rfl rfl (kZ (cs := (bx (jM (jC ((jF e00 e01 e02 b0 b1 b2) / (jF e20 e21 e22 r0 r1 r2)))))) (d := (jM (jC ((jF e00 e01 e02 b0 b1 b2) / (jF e20 e21 e22 r0 r1 r2))))) rfl rfl jR rfl rfl (.tmp (d := (.val (.int .i64 (((0 : Nat) : Int))))) rfl .nil))), ?_⟩
 rfl
end Go.Proofs.YtbecgnplakngdaaGreat
namespace Go.Proofs.YtbecgnplakngdaaGreat
open Go.Fid
set_option maxRecDepth 4000
set_option linter.unusedVariables false
set_option linter.unusedSimpArgs false
theorem cb12 : callB Tryz.prog 12 = true := by kernel_rfl
theorem cb13 : callB Tryz.prog 13 = true := by kernel_rfl
theorem cb67 : callB Tryz.prog 67 = true := by kernel_rfl
theorem cb74 : callB Tryz.prog 74 = true := by kernel_rfl
theorem pl23 : nT Tryz.prog 23 = some [(0, 1), (1, 1), (2, 1)] := by kernel_rfl
theorem pl29 : nT Tryz.prog 29 = some [(0, 3), (3, 4), (7, 1), (8, 2)] := by kernel_rfl
theorem pl31 : nT Tryz.prog 31 = some [(0, 10), (10, 10)] := by kernel_rfl
theorem ze31 : xC Tryz.prog 31 = some [.int .i64 0, .int .i64 0, .int .i64 0, .int .i64 0, .int .i64 0, .int .i64 0, .int .i64 0, .int .i64 0, .int .i64 0, .int .i64 0, .int .i64 0, .int .i64 0, .int .i64 0, .int .i64 0, .int .i64 0, .int .i64 0, .int .i64 0, .int .i64 0, .int .i64 0, .int .i64 0] := by kernel_rfl
theorem zo31 : nV [.int .i64 0, .int .i64 0, .int .i64 0, .int .i64 0, .int .i64 0, .int .i64 0, .int .i64 0, .int .i64 0, .int .i64 0, .int .i64 0, .int .i64 0, .int .i64 0, .int .i64 0, .int .i64 0, .int .i64 0, .int .i64 0, .int .i64 0, .int .i64 0, .int .i64 0, .int .i64 0] [.val (.int .i64 0), .val (.int .i64 0), .val (.int .i64 0), .val (.int .i64 0), .val (.int .i64 0), .val (.int .i64 0), .val (.int .i64 0), .val (.int .i64 0), .val (.int .i64 0), .val (.int .i64 0), .val (.int .i64 0), .val (.int .i64 0), .val (.int .i64 0), .val (.int .i64 0), .val (.int .i64 0), .val (.int .i64 0), .val (.int .i64 0), .val (.int .i64 0), .val (.int .i64 0), .val (.int .i64 0)] := by simp [nV, Value.oneCell']
theorem q_tmat (m00 m01 m02 m10 m11 m12 m20 m21 m22 : Rat) (hm00 : QL m00 100000000) (hm01 : QL m01 100000000) (hm02 : QL m02 100000000) (hm10 : QL m10 100000000) (hm11 : QL m11 100000000) (hm12 : QL m12 100000000) (hm20 : QL m20 100000000) (hm21 : QL m21 100000000) (hm22 : QL m22 100000000) : kD Tryz.prog 74 [(qH (A3.mk (A3.mk (jC m00) (jC m01) (jC m02)) (A3.mk (jC m10) (jC m11) (jC m12)) (A3.mk (jC m20) (jC m21) (jC m22))))] (.sl 52 1 (List.map kR [[(jC m00), (jC m01), (jC m02)], [(jC m10), (jC m11), (jC m12)], [(jC m20), (jC m21), (jC m22)]])) := by
 let y1 := (qH (A3.mk (A3.mk (jC m00) (jC m01) (jC m02)) (A3.mk (jC m10) (jC m11) (jC m12)) (A3.mk (jC m20) (jC m21) (jC m22))))
 refine jK Tryz.func74 rfl cb74 rfl ?_
 show uY _ _ _ _ ⟨[(0, (.d y1))], []⟩
 refine jA <| kx [(1, (.ref 0 0))] [(0, some (bx y1))] (zN (vN 0) <| zE (oNl 52 1) <| zZ) ?_
 refine jA <| kx [(3, (.own 1 52 1 0))] [(1, some (bm kR []))] (zO 1 52 1 <| zZ) ?_
 refine jA <| jA <| kx [(6, (.d y1)), (7, (kE 0))] [] (zR (jZ gS) <| zM <| zZ) ?_
 refine jE <| kW 20 ?_
 refine qC <| jA <| kx [(8, (vb true))] [] (zE (qN true qM) <| zZ) ?_
 refine jA <| jY ?_
 refine jD <| jA <| jE <| jA <| kx [(5, (.ref 2 0))] [(2, some (bx (jN (A3.mk (jC m00) (jC m01) (jC m02)))))] (zE (oXa xA uQ (fun h => by cases h) 0) <| zH (qP 2 nO nN) <| zT (kU uQ) <| zZ) ?_
 refine kf [(3, (.own 1 52 1 (([] ++ [[(jC m00), (jC m01), (jC m02)]]).length)))] [(1, some (bm kR ([] ++ [[(jC m00), (jC m01), (jC m02)]])))] (zM <| zE (vM uB 0) <| zR (jZ jR) <| zE (vM uB 1) <| zR (jZ jR) <| zE (vM uB 2) <| zR (jZ jR) <| zE (nM vV qF qQ) <| zE (nM nG aR zo52) <| zA kR [] [[(jC m00), (jC m01), (jC m02)]] rfl nG aR by52 (hbig := by exact (by simp +zetaDelta [maxLen] <;> omega)) (hbig' := by exact (by simp +zetaDelta <;> omega)) <| zM <| zF) ?_
 refine kx [(7, (kE 1))] [] (zE (uI 1 (hr := by decide)) <| zM <| zZ) ?_
 refine jJ (jW.refl _) ?_
 refine jA <| kx [(8, (vb true))] [] (zE (qN true qM) <| zZ) ?_
 refine jA <| jY ?_
 refine jD <| jA <| jE <| jA <| kx [(5, (.ref 3 0))] [(3, some (bx (jN (A3.mk (jC m10) (jC m11) (jC m12)))))] (zE (oXa xA uQ (fun h => by cases h) 1) <| zH (qP 3 nO nN) <| zT (kU uQ) <| zZ) ?_
 refine kf [(3, (.own 1 52 1 ((([] ++ [[(jC m00), (jC m01), (jC m02)]]) ++ [[(jC m10), (jC m11), (jC m12)]]).length)))] [(1, some (bm kR (([] ++ [[(jC m00), (jC m01), (jC m02)]]) ++ [[(jC m10), (jC m11), (jC m12)]])))] (zM <| zE (vM uB 0) <| zR (jZ jR) <| zE (vM uB 1) <| zR (jZ jR) <| zE (vM uB 2) <| zR (jZ jR) <| zE (nM vV qF qQ) <| zE (nM nG aR zo52) <| zA kR ([] ++ [[(jC m00), (jC m01), (jC m02)]]) [[(jC m10), (jC m11), (jC m12)]] rfl nG aR by52 (hbig := by exact (by simp +zetaDelta [maxLen] <;> omega)) (hbig' := by exact (by simp +zetaDelta <;> omega)) <| zM <| zF) ?_
 refine kx [(7, (kE 2))] [] (zE (uI 2 (hr := by decide)) <| zM <| zZ) ?_
 refine jJ (jW.refl _) ?_
 refine jA <| kx [(8, (vb true))] [] (zE (qN true qM) <| zZ) ?_
 refine jA <| jY ?_
 refine jD <| jA <| jE <| jA <| kx [(5, (.ref 4 0))] [(4, some (bx (jN (A3.mk (jC m20) (jC m21) (jC m22)))))] (zE (oXa xA uQ (fun h => by cases h) 2) <| zH (qP 4 nO nN) <| zT (kU uQ) <| zZ) ?_
 refine kf [(3, (.own 1 52 1 (((([] ++ [[(jC m00), (jC m01), (jC m02)]]) ++ [[(jC m10), (jC m11), (jC m12)]]) ++ [[(jC m20), (jC m21), (jC m22)]]).length)))] [(1, some (bm kR ((([] ++ [[(jC m00), (jC m01), (jC m02)]]) ++ [[(jC m10), (jC m11), (jC m12)]]) ++ [[(jC m20), (jC m21), (jC m22)]])))] (zM <| zE (vM uB 0) <| zR (jZ jR) <| zE (vM uB 1) <| zR (jZ jR) <| zE (vM uB 2) <| zR (jZ jR) <| zE (nM vV qF qQ) <| zE (nM nG aR zo52) <| zA kR (([] ++ [[(jC m00), (jC m01), (jC m02)]]) ++ [[(jC m10), (jC m11), (jC m12)]]) [[(jC m20), (jC m21), (jC m22)]] rfl nG aR by52 (hbig := by exact (by simp +zetaDelta [maxLen] <;> omega)) (hbig' := by exact (by simp +zetaDelta <;> omega)) <| zM <| zF) ?_
 refine kV (wk (l := [(3, (.own 1 52 1 (((([] ++ [[(jC m00), (jC m01), (jC m02)]]) ++ [[(jC m10), (jC m11), (jC m12)]]) ++ [[(jC m20), (jC m21), (jC m22)]]).length))), (6, (.d y1)), (7, (kE 2))]) (b := [(1, some (bm kR ((([] ++ [[(jC m00), (jC m01), (jC m02)]]) ++ [[(jC m10), (jC m11), (jC m12)]]) ++ [[(jC m20), (jC m21), (jC m22)]])))])) ?_
 refine kx [(7, (kE 3))] [] (zE (uI 3 (hr := by decide)) <| zM <| zZ) ?_
 refine jJ (jW.refl _) ?_
 refine jA <| kx [(8, (vb false))] [] (zE (qN false qM) <| zZ) ?_
 refine jA <| kG ?_
 refine kK <| jA <| kV (xX (t := 3) (k := 1) (es := List.map kR ((([] ++ [[(jC m00), (jC m01), (jC m02)]]) ++ [[(jC m10), (jC m11), (jC m12)]]) ++ [[(jC m20), (jC m21), (jC m22)]])) rfl rfl (xL _ _ (fun _ => rfl)) (xQ _ _ rfl) (zP _ _ (fun _ => rfl) rfl)) ?_
 refine kx [(2, (vl 52 1 kR ((([] ++ [[(jC m00), (jC m01), (jC m02)]]) ++ [[(jC m10), (jC m11), (jC m12)]]) ++ [[(jC m20), (jC m21), (jC m22)]])))] [] (zM <| zM <| zZ) ?_
 refine jH ⟨_, (.tmp (d := (.sl 52 1 (List.map kR ((([] ++ [[(jC m00), (jC m01), (jC m02)]]) ++ [[(jC m10), (jC m11), (jC m12)]]) ++ [[(jC m20), (jC m21), (jC m22)]])))) rfl .nil), ?_⟩
 rfl
theorem q_fun (lx ly lz la lb lc ld lf lu lv rx ry rz ra rb rc rd rf ru rv : Int) (b0 b1 b2 e00 e01 e02 e10 e11 e12 e20 e21 e22 : Rat) (hF : RFr lx ly lz la lb lc ld rx ry rz ra rb rc rd b0 b1 b2 e00 e01 e02 e10 e11 e12 e20 e21 e22) (vJ : QL b0 3) (vH : QL b1 3) (vI : QL b2 3) (qV : QL e00 400) (qW : QL e01 400) (qU : QL e02 400) (uC : QL e10 400) (uE : QL e11 400) (uD : QL e12 400) (qJ : QL e20 400) (qI : QL e21 400) (qK : QL e22 400) (p00 : Rat) (hp00 : (jF ((1 : Int) : Rat) ((0 : Int) : Rat) ((0 : Int) : Rat) (xY la lb lc ld) (xW la lb lc ld) (uK la lb lc ld)) = p00) (p01 : Rat) (hp01 : (jF ((0 : Int) : Rat) ((1 : Int) : Rat) ((0 : Int) : Rat) (xY la lb lc ld) (xW la lb lc ld) (uK la lb lc ld)) = p01) (p02 : Rat) (hp02 : (jF ((-lu : Int) : Rat) ((-lv : Int) : Rat) ((lf : Int) : Rat) (xY la lb lc ld) (xW la lb lc ld) (uK la lb lc ld)) = p02) (p10 : Rat) (hp10 : (jF ((1 : Int) : Rat) ((0 : Int) : Rat) ((0 : Int) : Rat) (zC la lb lc ld) (zD la lb lc ld) (uL la lb lc ld)) = p10) (p11 : Rat) (hp11 : (jF ((0 : Int) : Rat) ((1 : Int) : Rat) ((0 : Int) : Rat) (zC la lb lc ld) (zD la lb lc ld) (uL la lb lc ld)) = p11) (p12 : Rat) (hp12 : (jF ((-lu : Int) : Rat) ((-lv : Int) : Rat) ((lf : Int) : Rat) (zC la lb lc ld) (zD la lb lc ld) (uL la lb lc ld)) = p12) (p20 : Rat) (hp20 : (jF ((1 : Int) : Rat) ((0 : Int) : Rat) ((0 : Int) : Rat) (zI la lb lc ld) (zG la lb lc ld) (uO la lb lc ld)) = p20) (p21 : Rat) (hp21 : (jF ((0 : Int) : Rat) ((1 : Int) : Rat) ((0 : Int) : Rat) (zI la lb lc ld) (zG la lb lc ld) (uO la lb lc ld)) = p21) (p22 : Rat) (hp22 : (jF ((-lu : Int) : Rat) ((-lv : Int) : Rat) ((lf : Int) : Rat) (zI la lb lc ld) (zG la lb lc ld) (uO la lb lc ld)) = p22) (q00 : Rat) (hq00 : (jF ((1 : Int) : Rat) ((0 : Int) : Rat) ((0 : Int) : Rat) (xY ra rb rc rd) (xW ra rb rc rd) (uK ra rb rc rd)) = q00) (q01 : Rat) (hq01 : (jF ((0 : Int) : Rat) ((1 : Int) : Rat) ((0 : Int) : Rat) (xY ra rb rc rd) (xW ra rb rc rd) (uK ra rb rc rd)) = q01) (q02 : Rat) (hq02 : (jF ((-ru : Int) : Rat) ((-rv : Int) : Rat) ((rf : Int) : Rat) (xY ra rb rc rd) (xW ra rb rc rd) (uK ra rb rc rd)) = q02) (q10 : Rat) (hq10 : (jF ((1 : Int) : Rat) ((0 : Int) : Rat) ((0 : Int) : Rat) (zC ra rb rc rd) (zD ra rb rc rd) (uL ra rb rc rd)) = q10) (q11 : Rat) (hq11 : (jF ((0 : Int) : Rat) ((1 : Int) : Rat) ((0 : Int) : Rat) (zC ra rb rc rd) (zD ra rb rc rd) (uL ra rb rc rd)) = q11) (q12 : Rat) (hq12 : (jF ((-ru : Int) : Rat) ((-rv : Int) : Rat) ((rf : Int) : Rat) (zC ra rb rc rd) (zD ra rb rc rd) (uL ra rb rc rd)) = q12) (q20 : Rat) (hq20 : (jF ((1 : Int) : Rat) ((0 : Int) : Rat) ((0 : Int) : Rat) (zI ra rb rc rd) (zG ra rb rc rd) (uO ra rb rc rd)) = q20) (q21 : Rat) (hq21 : (jF ((0 : Int) : Rat) ((1 : Int) : Rat) ((0 : Int) : Rat) (zI ra rb rc rd) (zG ra rb rc rd) (uO ra rb rc rd)) = q21) (q22 : Rat) (hq22 : (jF ((-ru : Int) : Rat) ((-rv : Int) : Rat) ((rf : Int) : Rat) (zI ra rb rc rd) (zG ra rb rc rd) (uO ra rb rc rd)) = q22) (s00 : Rat) (hs00 : ((b1 * p20) - (b2 * p10)) = s00) (s01 : Rat) (hs01 : ((b1 * p21) - (b2 * p11)) = s01) (s02 : Rat) (hs02 : ((b1 * p22) - (b2 * p12)) = s02) (s10 : Rat) (hs10 : ((b2 * p00) - (b0 * p20)) = s10) (s11 : Rat) (hs11 : ((b2 * p01) - (b0 * p21)) = s11) (s12 : Rat) (hs12 : ((b2 * p02) - (b0 * p22)) = s12) (s20 : Rat) (hs20 : ((b0 * p10) - (b1 * p00)) = s20) (s21 : Rat) (hs21 : ((b0 * p11) - (b1 * p01)) = s21) (s22 : Rat) (hs22 : ((b0 * p12) - (b1 * p02)) = s22) (f00 : Rat) (hf00 : (jF s00 s10 s20 q00 q10 q20) = f00) (f01 : Rat) (hf01 : (jF s01 s11 s21 q00 q10 q20) = f01) (f02 : Rat) (hf02 : (jF s02 s12 s22 q00 q10 q20) = f02) (f10 : Rat) (hf10 : (jF s00 s10 s20 q01 q11 q21) = f10) (f11 : Rat) (hf11 : (jF s01 s11 s21 q01 q11 q21) = f11) (f12 : Rat) (hf12 : (jF s02 s12 s22 q01 q11 q21) = f12) (f20 : Rat) (hf20 : (jF s00 s10 s20 q02 q12 q22) = f20) (f21 : Rat) (hf21 : (jF s01 s11 s21 q02 q12 q22) = f21) (f22 : Rat) (hf22 : (jF s02 s12 s22 q02 q12 q22) = f22) (hl : uP lx ly lz lu lv lf la lb lc ld = 0) (hr : uP rx ry rz ru rv rf ra rb rc rd = 0) (hup : upV la lb lc ld ra rb rc rd b0 b1 b2 = false) : kD Tryz.prog 13 [(qA (kT.mk (kH.mk (jL.mk lx ly lz) (jO.mk la lb lc ld) lf (kI.mk lu lv)) (kH.mk (jL.mk rx ry rz) (jO.mk ra rb rc rd) rf (kI.mk ru rv))))] (.tup [(.sl 52 1 (List.map kR [[(jC f00), (jC f01), (jC f02)], [(jC f10), (jC f11), (jC f12)], [(jC f20), (jC f21), (jC f22)]])), (.val (.int .i64 (0)))]) := by
 have hbl := uS hl
 have hbr := uS hr
 obtain ⟨hlx, hly, hlz, hlu, hlv, hlf, hlq⟩ := hbl
 obtain ⟨hrx, hry, hrz, hru, hrv, hrf, hrq⟩ := hbr
 obtain ⟨hla, hlb, hlc, hld, -⟩ := uW hlq
 obtain ⟨hra, hrb, hrc, hrd, -⟩ := uW hrq
 have hnl := yN hla hlb hlc hld
 have hnr := yN hra hrb hrc hrd
 have hz0 := eF hF hup
 have hz1 := eH hF hup
 have hz2 := fU hF hup
 let y1 := (qA (kT.mk (kH.mk (jL.mk lx ly lz) (jO.mk la lb lc ld) lf (kI.mk lu lv)) (kH.mk (jL.mk rx ry rz) (jO.mk ra rb rc rd) rf (kI.mk ru rv))))
 refine jK Tryz.func13 rfl cb13 rfl ?_
 show uY _ _ _ _ ⟨[(0, (.d y1))], []⟩
 refine jA <| kx [(1, (.ref 0 0))] [(0, some (bx y1))] (zN (vN 0) <| zE (oNl 52 1) <| zM <| zZ) ?_
 refine jA <| kx [(4, (.d (.cptr 1000001 (kY.cells (cU (RRp.mk (kH.mk (jL.mk lx ly lz) (jO.mk la lb lc ld) lf (kI.mk lu lv)) (kH.mk (jL.mk rx ry rz) (jO.mk ra rb rc rd) rf (kI.mk ru rv)) (A3.mk (jC b0) (jC b1) (jC b2)) (A3.mk (A3.mk (jC e00) (jC e01) (jC e02)) (A3.mk (jC e10) (jC e11) (jC e12)) (A3.mk (jC e20) (jC e21) (jC e22)))))) 0))), (5, (vi 0))] [] (zR (jZ mE) <| zE (jX (q_rec lx ly lz la lb lc ld lf lu lv rx ry rz ra rb rc rd rf ru rv b0 b1 b2 e00 e01 e02 e10 e11 e12 e20 e21 e22 hF vJ vH vI qV qW qU uC uE uD qJ qI qK hl hr hup)) <| zM <| zE uG <| zE uG <| zM <| zM <| zZ) ?_
 refine jA <| jA <| kx [(15, (vb false))] [] (zM <| zE dL <| zZ) ?_
 refine kG ?_
 refine jD <| jA ?_
 have bn1 : QL (xY la lb lc ld) 3 := (eZ)
 have bn2 : QL (xW la lb lc ld) 3 := (fC)
 have bn3 : QL (uK la lb lc ld) 3 := (mG)
 have bn4 : QL (zC la lb lc ld) 3 := (eW)
 have bn5 : QL (zD la lb lc ld) 3 := (fF)
 have bn6 : QL (uL la lb lc ld) 3 := (mT)
 have bn7 : QL (zI la lb lc ld) 3 := (fD)
 have bn8 : QL (zG la lb lc ld) 3 := (eX)
 have bn9 : QL (uO la lb lc ld) 3 := (mS)
 have bn10 : QL ((1 : Int) : Rat) 3 := (qi 1)
 have bn11 : QL ((0 : Int) : Rat) 3 := (qi 0)
 have bn12 : QL ((-lu : Int) : Rat) 3 := (qi (-lu))
 have bn13 : QL ((-lv : Int) : Rat) 3 := (qi (-lv))
 have bn14 : QL ((lf : Int) : Rat) 3 := (qi lf)
 have bn15 : QL p00 20 := (jT (Eq.symm hp00) (jQ (n := 3) (k := 20) bn10 bn11 bn11 bn1 bn2 bn3 (by decide)))
 have bn16 : QL p01 20 := (jT (Eq.symm hp01) (jQ (n := 3) (k := 20) bn11 bn10 bn11 bn1 bn2 bn3 (by decide)))
 have bn17 : QL p02 20 := (jT (Eq.symm hp02) (jQ (n := 3) (k := 20) bn12 bn13 bn14 bn1 bn2 bn3 (by decide)))
 have bn18 : QL p10 20 := (jT (Eq.symm hp10) (jQ (n := 3) (k := 20) bn10 bn11 bn11 bn4 bn5 bn6 (by decide)))
 have bn19 : QL p11 20 := (jT (Eq.symm hp11) (jQ (n := 3) (k := 20) bn11 bn10 bn11 bn4 bn5 bn6 (by decide)))
 have bn20 : QL p12 20 := (jT (Eq.symm hp12) (jQ (n := 3) (k := 20) bn12 bn13 bn14 bn4 bn5 bn6 (by decide)))
 have bn21 : QL p20 20 := (jT (Eq.symm hp20) (jQ (n := 3) (k := 20) bn10 bn11 bn11 bn7 bn8 bn9 (by decide)))
 have bn22 : QL p21 20 := (jT (Eq.symm hp21) (jQ (n := 3) (k := 20) bn11 bn10 bn11 bn7 bn8 bn9 (by decide)))
 have bn23 : QL p22 20 := (jT (Eq.symm hp22) (jQ (n := 3) (k := 20) bn12 bn13 bn14 bn7 bn8 bn9 (by decide)))
 refine kd [(6, (.ref 1 0))] [(1, some (bx (qH (A3.mk (A3.mk (jC p00) (jC p10) (jC p20)) (A3.mk (jC p01) (jC p11) (jC p21)) (A3.mk (jC p02) (jC p12) (jC p22))))))] mo (wM <| wE oNd <| wE (oFc fo134_0) <| wE (oFc gU) <| wE (eD yR) <| wE (jX (q_turn la lb lc ld (by omega) (by omega) (by omega) (by omega) hlq)) <| wM <| wE oNd <| wE (oFc fo134_0) <| wE (eD vK) <| wE (jX (q_inner lx ly lz la lb lc ld lf lu lv (by omega) (by omega) (by omega))) <| wE (jX (by have h := q_mul (xY la lb lc ld) (xW la lb lc ld) (uK la lb lc ld) (zC la lb lc ld) (zD la lb lc ld) (uL la lb lc ld) (zI la lb lc ld) (zG la lb lc ld) (uO la lb lc ld) (qu bn1) (qu bn2) (qu bn3) (qu bn4) (qu bn5) (qu bn6) (qu bn7) (qu bn8) (qu bn9) ((1 : Int) : Rat) ((0 : Int) : Rat) ((-lu : Int) : Rat) ((0 : Int) : Rat) ((1 : Int) : Rat) ((-lv : Int) : Rat) ((0 : Int) : Rat) ((0 : Int) : Rat) ((lf : Int) : Rat) (qu bn10) (qu bn11) (qu bn12) (qu bn11) (qu bn10) (qu bn13) (qu bn11) (qu bn11) (qu bn14); rw [hp00, hp01, hp02, hp10, hp11, hp12, hp20, hp21, hp22] at h; exact h)) <| wE (jX (fR p00 p01 p02 p10 p11 p12 p20 p21 p22 (qu bn15) (qu bn16) (qu bn17) (qu bn18) (qu bn19) (qu bn20) (qu bn21) (qu bn22) (qu bn23))) <| wN (qP 1 dZ eC) <| wT (kU gS) <| wZ) ?_
 refine jA ?_
 have bn24 : QL (xY ra rb rc rd) 3 := (eZ)
 have bn25 : QL (xW ra rb rc rd) 3 := (fC)
 have bn26 : QL (uK ra rb rc rd) 3 := (mG)
 have bn27 : QL (zC ra rb rc rd) 3 := (eW)
 have bn28 : QL (zD ra rb rc rd) 3 := (fF)
 have bn29 : QL (uL ra rb rc rd) 3 := (mT)
 have bn30 : QL (zI ra rb rc rd) 3 := (fD)
 have bn31 : QL (zG ra rb rc rd) 3 := (eX)
 have bn32 : QL (uO ra rb rc rd) 3 := (mS)
 have bn33 : QL ((-ru : Int) : Rat) 3 := (qi (-ru))
 have bn34 : QL ((-rv : Int) : Rat) 3 := (qi (-rv))
 have bn35 : QL ((rf : Int) : Rat) 3 := (qi rf)
 have bn36 : QL q00 20 := (jT (Eq.symm hq00) (jQ (n := 3) (k := 20) bn10 bn11 bn11 bn24 bn25 bn26 (by decide)))
 have bn37 : QL q01 20 := (jT (Eq.symm hq01) (jQ (n := 3) (k := 20) bn11 bn10 bn11 bn24 bn25 bn26 (by decide)))
 have bn38 : QL q02 20 := (jT (Eq.symm hq02) (jQ (n := 3) (k := 20) bn33 bn34 bn35 bn24 bn25 bn26 (by decide)))
 have bn39 : QL q10 20 := (jT (Eq.symm hq10) (jQ (n := 3) (k := 20) bn10 bn11 bn11 bn27 bn28 bn29 (by decide)))
 have bn40 : QL q11 20 := (jT (Eq.symm hq11) (jQ (n := 3) (k := 20) bn11 bn10 bn11 bn27 bn28 bn29 (by decide)))
 have bn41 : QL q12 20 := (jT (Eq.symm hq12) (jQ (n := 3) (k := 20) bn33 bn34 bn35 bn27 bn28 bn29 (by decide)))
 have bn42 : QL q20 20 := (jT (Eq.symm hq20) (jQ (n := 3) (k := 20) bn10 bn11 bn11 bn30 bn31 bn32 (by decide)))
 have bn43 : QL q21 20 := (jT (Eq.symm hq21) (jQ (n := 3) (k := 20) bn11 bn10 bn11 bn30 bn31 bn32 (by decide)))
 have bn44 : QL q22 20 := (jT (Eq.symm hq22) (jQ (n := 3) (k := 20) bn33 bn34 bn35 bn30 bn31 bn32 (by decide)))
 refine kd [(7, (.ref 2 0))] [(2, some (bx (qH (A3.mk (A3.mk (jC q00) (jC q10) (jC q20)) (A3.mk (jC q01) (jC q11) (jC q21)) (A3.mk (jC q02) (jC q12) (jC q22))))))] mo (wM <| wE oNd <| wE (oFc fo134_1) <| wE (oFc gU) <| wE (eD yR) <| wE (jX (q_turn ra rb rc rd (by omega) (by omega) (by omega) (by omega) hrq)) <| wM <| wE oNd <| wE (oFc fo134_1) <| wE (eD vK) <| wE (jX (q_inner rx ry rz ra rb rc rd rf ru rv (by omega) (by omega) (by omega))) <| wE (jX (by have h := q_mul (xY ra rb rc rd) (xW ra rb rc rd) (uK ra rb rc rd) (zC ra rb rc rd) (zD ra rb rc rd) (uL ra rb rc rd) (zI ra rb rc rd) (zG ra rb rc rd) (uO ra rb rc rd) (qu bn24) (qu bn25) (qu bn26) (qu bn27) (qu bn28) (qu bn29) (qu bn30) (qu bn31) (qu bn32) ((1 : Int) : Rat) ((0 : Int) : Rat) ((-ru : Int) : Rat) ((0 : Int) : Rat) ((1 : Int) : Rat) ((-rv : Int) : Rat) ((0 : Int) : Rat) ((0 : Int) : Rat) ((rf : Int) : Rat) (qu bn10) (qu bn11) (qu bn33) (qu bn11) (qu bn10) (qu bn34) (qu bn11) (qu bn11) (qu bn35); rw [hq00, hq01, hq02, hq10, hq11, hq12, hq20, hq21, hq22] at h; exact h)) <| wE (jX (fR q00 q01 q02 q10 q11 q12 q20 q21 q22 (qu bn36) (qu bn37) (qu bn38) (qu bn39) (qu bn40) (qu bn41) (qu bn42) (qu bn43) (qu bn44))) <| wN (qP 2 dZ eC) <| wT (kU gS) <| wZ) ?_
 refine jA ?_
 have bn45 : QL s00 47 := (jT (Eq.symm hs00) (uV (k := 47) (jI (k := 23) vH bn21 (by decide)) (jI (k := 23) vI bn18 (by decide)) (by decide)))
 have bn46 : QL s10 47 := (jT (Eq.symm hs10) (uV (k := 47) (jI (k := 23) vI bn15 (by decide)) (jI (k := 23) vJ bn21 (by decide)) (by decide)))
 have bn47 : QL s20 47 := (jT (Eq.symm hs20) (uV (k := 47) (jI (k := 23) vJ bn18 (by decide)) (jI (k := 23) vH bn15 (by decide)) (by decide)))
 have bn48 : QL s01 47 := (jT (Eq.symm hs01) (uV (k := 47) (jI (k := 23) vH bn22 (by decide)) (jI (k := 23) vI bn19 (by decide)) (by decide)))
 have bn49 : QL s11 47 := (jT (Eq.symm hs11) (uV (k := 47) (jI (k := 23) vI bn16 (by decide)) (jI (k := 23) vJ bn22 (by decide)) (by decide)))
 have bn50 : QL s21 47 := (jT (Eq.symm hs21) (uV (k := 47) (jI (k := 23) vJ bn19 (by decide)) (jI (k := 23) vH bn16 (by decide)) (by decide)))
 have bn51 : QL s02 47 := (jT (Eq.symm hs02) (uV (k := 47) (jI (k := 23) vH bn23 (by decide)) (jI (k := 23) vI bn20 (by decide)) (by decide)))
 have bn52 : QL s12 47 := (jT (Eq.symm hs12) (uV (k := 47) (jI (k := 23) vI bn17 (by decide)) (jI (k := 23) vJ bn23 (by decide)) (by decide)))
 have bn53 : QL s22 47 := (jT (Eq.symm hs22) (uV (k := 47) (jI (k := 23) vJ bn20 (by decide)) (jI (k := 23) vH bn17 (by decide)) (by decide)))
 refine kd [(8, (.ref 3 0))] [(3, some (bx (qH (A3.mk (A3.mk (jC s00) (jC s01) (jC s02)) (A3.mk (jC s10) (jC s11) (jC s12)) (A3.mk (jC s20) (jC s21) (jC s22))))))] mo (wM <| wE oNd <| wE (oFc fo134_2) <| wE (eD uQ) <| wE (vM xA 0) <| wR (jZ uQ) <| wE (jX (by have h := q_cross b0 b1 b2 (qu vJ) (qu vH) (qu vI) p00 p10 p20 (qu bn15) (qu bn18) (qu bn21); rw [hs00, hs10, hs20] at h; exact h)) <| wM <| wE oNd <| wE (oFc fo134_2) <| wE (eD uQ) <| wE (vM xA 1) <| wR (jZ uQ) <| wE (jX (by have h := q_cross b0 b1 b2 (qu vJ) (qu vH) (qu vI) p01 p11 p21 (qu bn16) (qu bn19) (qu bn22); rw [hs01, hs11, hs21] at h; exact h)) <| wM <| wE oNd <| wE (oFc fo134_2) <| wE (eD uQ) <| wE (vM xA 2) <| wR (jZ uQ) <| wE (jX (by have h := q_cross b0 b1 b2 (qu vJ) (qu vH) (qu vI) p02 p12 p22 (qu bn17) (qu bn20) (qu bn23); rw [hs02, hs12, hs22] at h; exact h)) <| wE (oBf xA dZ eC) <| wE (jX (fR s00 s10 s20 s01 s11 s21 s02 s12 s22 (qu bn45) (qu bn46) (qu bn47) (qu bn48) (qu bn49) (qu bn50) (qu bn51) (qu bn52) (qu bn53))) <| wN (qP 3 dZ eC) <| wT (kU gS) <| wZ) ?_
 refine jA ?_
 have bn54 : QL f00 284 := (jT (Eq.symm hf00) (jQ (n := 47) (k := 284) bn45 bn46 bn47 (qu bn36) (qu bn39) (qu bn42) (by decide)))
 have bn55 : QL f01 284 := (jT (Eq.symm hf01) (jQ (n := 47) (k := 284) bn48 bn49 bn50 (qu bn36) (qu bn39) (qu bn42) (by decide)))
 have bn56 : QL f02 284 := (jT (Eq.symm hf02) (jQ (n := 47) (k := 284) bn51 bn52 bn53 (qu bn36) (qu bn39) (qu bn42) (by decide)))
 have bn57 : QL f10 284 := (jT (Eq.symm hf10) (jQ (n := 47) (k := 284) bn45 bn46 bn47 (qu bn37) (qu bn40) (qu bn43) (by decide)))
 have bn58 : QL f11 284 := (jT (Eq.symm hf11) (jQ (n := 47) (k := 284) bn48 bn49 bn50 (qu bn37) (qu bn40) (qu bn43) (by decide)))
 have bn59 : QL f12 284 := (jT (Eq.symm hf12) (jQ (n := 47) (k := 284) bn51 bn52 bn53 (qu bn37) (qu bn40) (qu bn43) (by decide)))
 have bn60 : QL f20 284 := (jT (Eq.symm hf20) (jQ (n := 47) (k := 284) bn45 bn46 bn47 (qu bn38) (qu bn41) (qu bn44) (by decide)))
 have bn61 : QL f21 284 := (jT (Eq.symm hf21) (jQ (n := 47) (k := 284) bn48 bn49 bn50 (qu bn38) (qu bn41) (qu bn44) (by decide)))
 have bn62 : QL f22 284 := (jT (Eq.symm hf22) (jQ (n := 47) (k := 284) bn51 bn52 bn53 (qu bn38) (qu bn41) (qu bn44) (by decide)))
 refine kx [(2, (vl 52 1 kR [[(jC f00), (jC f01), (jC f02)], [(jC f10), (jC f11), (jC f12)], [(jC f20), (jC f21), (jC f22)]])), (3, (kE 0))] [] (zR (jZ gS) <| zR (jZ gS) <| zE (jX (by have h := q_mul q00 q10 q20 q01 q11 q21 q02 q12 q22 (qu bn36) (qu bn39) (qu bn42) (qu bn37) (qu bn40) (qu bn43) (qu bn38) (qu bn41) (qu bn44) s00 s01 s02 s10 s11 s12 s20 s21 s22 (qu bn45) (qu bn48) (qu bn51) (qu bn46) (qu bn49) (qu bn52) (qu bn47) (qu bn50) (qu bn53); rw [hf00, hf01, hf02, hf10, hf11, hf12, hf20, hf21, hf22] at h; exact h)) <| zE (jX (q_tmat f00 f01 f02 f10 f11 f12 f20 f21 f22 (qu bn54) (qu bn55) (qu bn56) (qu bn57) (qu bn58) (qu bn59) (qu bn60) (qu bn61) (qu bn62))) <| zM <| zM <| zZ) ?_
 refine jH ⟨_, (.tmp (d := (.sl 52 1 (List.map kR [[(jC f00), (jC f01), (jC f02)], [(jC f10), (jC f11), (jC f12)], [(jC f20), (jC f21), (jC f22)]]))) rfl (.tmp (d := (.val (.int .i64 (((0 : Nat) : Int))))) rfl .nil)), ?_⟩
 rfl
theorem qs_exa  : kD Tryz.prog 67 [] (qA (kT.mk (kH.mk (jL.mk 0 0 0) (jO.mk 1 0 0 0) 100 (kI.mk 0 0)) (kH.mk (jL.mk 10 0 0) (jO.mk 1 0 0 0) 100 (kI.mk 0 0)))) := by
 refine jK Tryz.func67 rfl cb67 rfl ?_
 show uY _ _ _ _ ⟨[], []⟩
 refine jA <| kx [(0, (.ref 0 0))] [(0, some (bx (qA (kT.mk (kH.mk (jL.mk 0 0 0) (jO.mk 0 0 0 0) 0 (kI.mk 0 0)) (kH.mk (jL.mk 0 0 0) (jO.mk 0 0 0 0) 0 (kI.mk 0 0))))))] (zN (qP 0 ze31 zo31) <| zZ) ?_
 refine jA <| kx [(1, (.ref 1 0))] [(1, some (bx (uX (kH.mk (jL.mk 0 0 0) (jO.mk 1 0 0 0) 100 (kI.mk 0 0)))))] (zE (oBd pl25 ze25 zo25) <| zE (oBd pl29 ze29 zo29) <| zN (qP 1 ze29 zo29) <| zT (kU vK) <| zZ) ?_
 refine jA <| kx [(2, (.ref 2 0))] [(2, some (bx (uX (kH.mk (jL.mk 0 0 0) (jO.mk 1 0 0 0) 100 (kI.mk 0 0)))))] (zR (jZ vK) <| zN (qP 2 ze29 zo29) <| zT (kU vK) <| zZ) ?_
 refine jA <| kx [] [(2, some (bx (uX (kH.mk (jL.mk 10 0 0) (jO.mk 1 0 0 0) 100 (kI.mk 0 0)))))] (zE (kO yC) <| zE (kO yB) <| zT (kU uH) <| zZ) ?_
 refine jA <| kx [] [(0, some (bx (qA (kT.mk (kH.mk (jL.mk 0 0 0) (jO.mk 1 0 0 0) 100 (kI.mk 0 0)) (kH.mk (jL.mk 10 0 0) (jO.mk 1 0 0 0) 100 (kI.mk 0 0))))))] (zR (jZ vK) <| zR (jZ vK) <| zE (oBd pl31 ze31 zo31) <| zT (kU mE) <| zZ) ?_
 refine jH ⟨_, (kZ (cs := (bx (qA (kT.mk (kH.mk (jL.mk 0 0 0) (jO.mk 1 0 0 0) 100 (kI.mk 0 0)) (kH.mk (jL.mk 10 0 0) (jO.mk 1 0 0 0) 100 (kI.mk 0 0)))))) (d := (qA (kT.mk (kH.mk (jL.mk 0 0 0) (jO.mk 1 0 0 0) 100 (kI.mk 0 0)) (kH.mk (jL.mk 10 0 0) (jO.mk 1 0 0 0) 100 (kI.mk 0 0))))) rfl rfl mE rfl rfl .nil), ?_⟩
 rfl
set_option maxHeartbeats 4000000 in
theorem hZ  : kD Tryz.prog 12 [] (.val (.bool (true))) := by
 let y1 := (jC ((jF ((1 : Int) : Rat) ((0 : Int) : Rat) ((0 : Int) : Rat) ((10 : Int) : Rat) ((0 : Int) : Rat) ((0 : Int) : Rat)) / (jF ((0 : Int) : Rat) ((0 : Int) : Rat) ((1 : Int) : Rat) ((20 : Int) : Rat) ((30 : Int) : Rat) ((1000 : Int) : Rat))))
 refine jK Tryz.func12 rfl cb12 rfl ?_
 show uY _ _ _ _ ⟨[], []⟩
 refine jA <| kx [] [] (zM <| zZ) ?_
 refine jA ?_
 have bn1 : QL ((jF ((1 : Int) : Rat) ((0 : Int) : Rat) ((0 : Int) : Rat) ((20 : Int) : Rat) ((30 : Int) : Rat) ((1000 : Int) : Rat)) / (jF ((0 : Int) : Rat) ((0 : Int) : Rat) ((1 : Int) : Rat) ((20 : Int) : Rat) ((30 : Int) : Rat) ((1000 : Int) : Rat))) 4804 := (vE (k := 4804) (jQ (n := 400) (k := 2402) (kQ (z := 1) (n := 400) (Nat.le_trans (jP (by decide) (by decide)) (by decide)) (by decide)) (kQ (z := 0) (n := 400) (Nat.le_trans (jP (by decide) (by decide)) (by decide)) (by decide)) (kQ (z := 0) (n := 400) (Nat.le_trans (jP (by decide) (by decide)) (by decide)) (by decide)) (qS (kQ (z := 20) (n := 3) (Nat.le_trans (vQ (by decide)) (by decide)) (by decide)) (by decide)) (qS (kQ (z := 30) (n := 3) (Nat.le_trans (vQ (by decide)) (by decide)) (by decide)) (by decide)) (qS (kQ (z := 1000) (n := 3) (Nat.le_trans (vQ (by decide)) (by decide)) (by decide)) (by decide)) (by decide)) (jQ (n := 400) (k := 2402) (kQ (z := 0) (n := 400) (Nat.le_trans (jP (by decide) (by decide)) (by decide)) (by decide)) (kQ (z := 0) (n := 400) (Nat.le_trans (jP (by decide) (by decide)) (by decide)) (by decide)) (kQ (z := 1) (n := 400) (Nat.le_trans (jP (by decide) (by decide)) (by decide)) (by decide)) (qS (kQ (z := 20) (n := 3) (Nat.le_trans (vQ (by decide)) (by decide)) (by decide)) (by decide)) (qS (kQ (z := 30) (n := 3) (Nat.le_trans (vQ (by decide)) (by decide)) (by decide)) (by decide)) (qS (kQ (z := 1000) (n := 3) (Nat.le_trans (vQ (by decide)) (by decide)) (by decide)) (by decide)) (by decide)) (by decide))
 have bn2 : QL ((jF ((0 : Int) : Rat) ((1 : Int) : Rat) ((0 : Int) : Rat) ((20 : Int) : Rat) ((30 : Int) : Rat) ((1000 : Int) : Rat)) / (jF ((0 : Int) : Rat) ((0 : Int) : Rat) ((1 : Int) : Rat) ((20 : Int) : Rat) ((30 : Int) : Rat) ((1000 : Int) : Rat))) 4804 := (vE (k := 4804) (jQ (n := 400) (k := 2402) (kQ (z := 0) (n := 400) (Nat.le_trans (jP (by decide) (by decide)) (by decide)) (by decide)) (kQ (z := 1) (n := 400) (Nat.le_trans (jP (by decide) (by decide)) (by decide)) (by decide)) (kQ (z := 0) (n := 400) (Nat.le_trans (jP (by decide) (by decide)) (by decide)) (by decide)) (qS (kQ (z := 20) (n := 3) (Nat.le_trans (vQ (by decide)) (by decide)) (by decide)) (by decide)) (qS (kQ (z := 30) (n := 3) (Nat.le_trans (vQ (by decide)) (by decide)) (by decide)) (by decide)) (qS (kQ (z := 1000) (n := 3) (Nat.le_trans (vQ (by decide)) (by decide)) (by decide)) (by decide)) (by decide)) (jQ (n := 400) (k := 2402) (kQ (z := 0) (n := 400) (Nat.le_trans (jP (by decide) (by decide)) (by decide)) (by decide)) (kQ (z := 0) (n := 400) (Nat.le_trans (jP (by decide) (by decide)) (by decide)) (by decide)) (kQ (z := 1) (n := 400) (Nat.le_trans (jP (by decide) (by decide)) (by decide)) (by decide)) (qS (kQ (z := 20) (n := 3) (Nat.le_trans (vQ (by decide)) (by decide)) (by decide)) (by decide)) (qS (kQ (z := 30) (n := 3) (Nat.le_trans (vQ (by decide)) (by decide)) (by decide)) (by decide)) (qS (kQ (z := 1000) (n := 3) (Nat.le_trans (vQ (by decide)) (by decide)) (by decide)) (by decide)) (by decide)) (by decide))
 have bn3 : QL ((jF ((1 : Int) : Rat) ((0 : Int) : Rat) ((0 : Int) : Rat) ((10 : Int) : Rat) ((0 : Int) : Rat) ((0 : Int) : Rat)) / (jF ((0 : Int) : Rat) ((0 : Int) : Rat) ((1 : Int) : Rat) ((20 : Int) : Rat) ((30 : Int) : Rat) ((1000 : Int) : Rat))) 4804 := (vE (k := 4804) (jQ (n := 400) (k := 2402) (kQ (z := 1) (n := 400) (Nat.le_trans (jP (by decide) (by decide)) (by decide)) (by decide)) (kQ (z := 0) (n := 400) (Nat.le_trans (jP (by decide) (by decide)) (by decide)) (by decide)) (kQ (z := 0) (n := 400) (Nat.le_trans (jP (by decide) (by decide)) (by decide)) (by decide)) (qS (kQ (z := 10) (n := 3) (jP (by decide) (by decide)) (by decide)) (by decide)) (qS (kQ (z := 0) (n := 3) (jP (by decide) (by decide)) (by decide)) (by decide)) (qS (kQ (z := 0) (n := 3) (jP (by decide) (by decide)) (by decide)) (by decide)) (by decide)) (jQ (n := 400) (k := 2402) (kQ (z := 0) (n := 400) (Nat.le_trans (jP (by decide) (by decide)) (by decide)) (by decide)) (kQ (z := 0) (n := 400) (Nat.le_trans (jP (by decide) (by decide)) (by decide)) (by decide)) (kQ (z := 1) (n := 400) (Nat.le_trans (jP (by decide) (by decide)) (by decide)) (by decide)) (qS (kQ (z := 20) (n := 3) (Nat.le_trans (vQ (by decide)) (by decide)) (by decide)) (by decide)) (qS (kQ (z := 30) (n := 3) (Nat.le_trans (vQ (by decide)) (by decide)) (by decide)) (by decide)) (qS (kQ (z := 1000) (n := 3) (Nat.le_trans (vQ (by decide)) (by decide)) (by decide)) (by decide)) (by decide)) (by decide))
 refine kx [(1, (.ref 0 0)), (2, (.ref 1 0)), (3, (vi 0))] [(0, some (bx (kJ (qD.mk (jC ((jF ((1 : Int) : Rat) ((0 : Int) : Rat) ((0 : Int) : Rat) ((20 : Int) : Rat) ((30 : Int) : Rat) ((1000 : Int) : Rat)) / (jF ((0 : Int) : Rat) ((0 : Int) : Rat) ((1 : Int) : Rat) ((20 : Int) : Rat) ((30 : Int) : Rat) ((1000 : Int) : Rat)))) (jC ((jF ((0 : Int) : Rat) ((1 : Int) : Rat) ((0 : Int) : Rat) ((20 : Int) : Rat) ((30 : Int) : Rat) ((1000 : Int) : Rat)) / (jF ((0 : Int) : Rat) ((0 : Int) : Rat) ((1 : Int) : Rat) ((20 : Int) : Rat) ((30 : Int) : Rat) ((1000 : Int) : Rat)))))))), (1, some (bx (jM y1)))] (zE (jX qs_exa) <| zE (oBd pl23 ze23 zo23) <| zE (jX (q_prj 0 0 0 1 0 0 0 100 0 0 10 0 0 1 0 0 0 100 0 0 ((20 : Nat) : Int) ((30 : Nat) : Int) ((1000 : Nat) : Int) (by omega) (by omega) (by omega) ((10 : Int) : Rat) ((0 : Int) : Rat) ((0 : Int) : Rat) ((1 : Int) : Rat) ((0 : Int) : Rat) ((0 : Int) : Rat) ((0 : Int) : Rat) ((1 : Int) : Rat) ((0 : Int) : Rat) ((0 : Int) : Rat) ((0 : Int) : Rat) ((1 : Int) : Rat) (by decide +kernel) (kQ (z := 10) (n := 3) (jP (by decide) (by decide)) (by decide)) (kQ (z := 0) (n := 3) (jP (by decide) (by decide)) (by decide)) (kQ (z := 0) (n := 3) (jP (by decide) (by decide)) (by decide)) (kQ (z := 1) (n := 400) (Nat.le_trans (jP (by decide) (by decide)) (by decide)) (by decide)) (kQ (z := 0) (n := 400) (Nat.le_trans (jP (by decide) (by decide)) (by decide)) (by decide)) (kQ (z := 0) (n := 400) (Nat.le_trans (jP (by decide) (by decide)) (by decide)) (by decide)) (kQ (z := 0) (n := 400) (Nat.le_trans (jP (by decide) (by decide)) (by decide)) (by decide)) (kQ (z := 1) (n := 400) (Nat.le_trans (jP (by decide) (by decide)) (by decide)) (by decide)) (kQ (z := 0) (n := 400) (Nat.le_trans (jP (by decide) (by decide)) (by decide)) (by decide)) (kQ (z := 0) (n := 400) (Nat.le_trans (jP (by decide) (by decide)) (by decide)) (by decide)) (kQ (z := 0) (n := 400) (Nat.le_trans (jP (by decide) (by decide)) (by decide)) (by decide)) (kQ (z := 1) (n := 400) (Nat.le_trans (jP (by decide) (by decide)) (by decide)) (by decide)) ((20 : Int) : Rat) (by decide +kernel) ((30 : Int) : Rat) (by decide +kernel) ((1000 : Int) : Rat) (by decide +kernel) (by decide +kernel) (by decide +kernel) (by decide +kernel) (by decide +kernel))) <| zM <| zE uG <| zE uG <| zE uG <| zN (qP 0 gG gE) <| zN (qP 1 qF qQ) <| zT (kU yF) <| zT (kU jR) <| zM <| zZ) ?_
 refine jA ?_
 have bn4 : QL (Rat.divInt 1 50) 3 := (qL (n := 3) (jP (by omega) (by omega)) (jP (by omega) (by omega)) (by decide))
 refine kx [(4, (.ref 2 0))] [(2, some (bx (jM (jC (Rat.divInt 1 50)))))] (zE (jX (qs_of ((1 : Nat) : Int) (by omega) (by omega) ((50 : Nat) : Int) (by omega) (by omega) (by decide +kernel))) <| zM <| zE uG <| zE uG <| zN (qP 2 qF qQ) <| zT (kU jR) <| zM <| zZ) ?_
 refine jA ?_
 have bn5 : QL (Rat.divInt 3 100) 3 := (qL (n := 3) (jP (by omega) (by omega)) (jP (by omega) (by omega)) (by decide))
 refine kx [(6, (.ref 3 0))] [(3, some (bx (jM (jC (Rat.divInt 3 100)))))] (zE (jX (qs_of ((3 : Nat) : Int) (by omega) (by omega) ((100 : Nat) : Int) (by omega) (by omega) (by decide +kernel))) <| zM <| zE uG <| zE uG <| zN (qP 3 qF qQ) <| zT (kU jR) <| zM <| zZ) ?_
 refine jA ?_
 have bn6 : QL (Rat.divInt 1 100) 3 := (qL (n := 3) (jP (by omega) (by omega)) (jP (by omega) (by omega)) (by decide))
 refine kx [(8, (.ref 4 0))] [(4, some (bx (jM (jC (Rat.divInt 1 100)))))] (zE (jX (qs_of ((1 : Nat) : Int) (by omega) (by omega) ((100 : Nat) : Int) (by omega) (by omega) (by decide +kernel))) <| zM <| zE uG <| zE uG <| zN (qP 4 qF qQ) <| zT (kU jR) <| zM <| zZ) ?_
 refine jA ?_
 have bn7 : QL ((0 : Int) : Rat) 3 := (kQ (z := 0) (n := 3) (Nat.le_trans (vQ (by decide)) (by decide)) (by decide))
 have bn8 : QL (((-1000) : Int) : Rat) 3 := (kQ (z := (-1000)) (n := 3) (Nat.le_trans (vQ (by decide)) (by decide)) (by decide))
 have bn9 : QL ((1000 : Int) : Rat) 3 := (kQ (z := 1000) (n := 3) (Nat.le_trans (vQ (by decide)) (by decide)) (by decide))
 refine kx [(10, (vl 52 1 kR [[(jC ((0 : Int) : Rat)), (jC ((0 : Int) : Rat)), (jC ((0 : Int) : Rat))], [(jC ((0 : Int) : Rat)), (jC ((0 : Int) : Rat)), (jC (((-1000) : Int) : Rat))], [(jC ((0 : Int) : Rat)), (jC ((1000 : Int) : Rat)), (jC ((0 : Int) : Rat))]])), (11, (vi 0))] [] (zE (jX qs_exa) <| zE (jX (q_fun 0 0 0 1 0 0 0 100 0 0 10 0 0 1 0 0 0 100 0 0 ((10 : Int) : Rat) ((0 : Int) : Rat) ((0 : Int) : Rat) ((1 : Int) : Rat) ((0 : Int) : Rat) ((0 : Int) : Rat) ((0 : Int) : Rat) ((1 : Int) : Rat) ((0 : Int) : Rat) ((0 : Int) : Rat) ((0 : Int) : Rat) ((1 : Int) : Rat) (by decide +kernel) (kQ (z := 10) (n := 3) (jP (by decide) (by decide)) (by decide)) (kQ (z := 0) (n := 3) (jP (by decide) (by decide)) (by decide)) (kQ (z := 0) (n := 3) (jP (by decide) (by decide)) (by decide)) (kQ (z := 1) (n := 400) (Nat.le_trans (jP (by decide) (by decide)) (by decide)) (by decide)) (kQ (z := 0) (n := 400) (Nat.le_trans (jP (by decide) (by decide)) (by decide)) (by decide)) (kQ (z := 0) (n := 400) (Nat.le_trans (jP (by decide) (by decide)) (by decide)) (by decide)) (kQ (z := 0) (n := 400) (Nat.le_trans (jP (by decide) (by decide)) (by decide)) (by decide)) (kQ (z := 1) (n := 400) (Nat.le_trans (jP (by decide) (by decide)) (by decide)) (by decide)) (kQ (z := 0) (n := 400) (Nat.le_trans (jP (by decide) (by decide)) (by decide)) (by decide)) (kQ (z := 0) (n := 400) (Nat.le_trans (jP (by decide) (by decide)) (by decide)) (by decide)) (kQ (z := 0) (n := 400) (Nat.le_trans (jP (by decide) (by decide)) (by decide)) (by decide)) (kQ (z := 1) (n := 400) (Nat.le_trans (jP (by decide) (by decide)) (by decide)) (by decide)) ((1 : Int) : Rat) (by decide +kernel) ((0 : Int) : Rat) (by decide +kernel) ((0 : Int) : Rat) (by decide +kernel) ((0 : Int) : Rat) (by decide +kernel) ((1 : Int) : Rat) (by decide +kernel) ((0 : Int) : Rat) (by decide +kernel) ((0 : Int) : Rat) (by decide +kernel) ((0 : Int) : Rat) (by decide +kernel) ((100 : Int) : Rat) (by decide +kernel) ((1 : Int) : Rat) (by decide +kernel) ((0 : Int) : Rat) (by decide +kernel) ((0 : Int) : Rat) (by decide +kernel) ((0 : Int) : Rat) (by decide +kernel) ((1 : Int) : Rat) (by decide +kernel) ((0 : Int) : Rat) (by decide +kernel) ((0 : Int) : Rat) (by decide +kernel) ((0 : Int) : Rat) (by decide +kernel) ((100 : Int) : Rat) (by decide +kernel) ((0 : Int) : Rat) (by decide +kernel) ((0 : Int) : Rat) (by decide +kernel) ((0 : Int) : Rat) (by decide +kernel) ((0 : Int) : Rat) (by decide +kernel) ((0 : Int) : Rat) (by decide +kernel) (((-1000) : Int) : Rat) (by decide +kernel) ((0 : Int) : Rat) (by decide +kernel) ((10 : Int) : Rat) (by decide +kernel) ((0 : Int) : Rat) (by decide +kernel) ((0 : Int) : Rat) (by decide +kernel) ((0 : Int) : Rat) (by decide +kernel) ((0 : Int) : Rat) (by decide +kernel) ((0 : Int) : Rat) (by decide +kernel) ((0 : Int) : Rat) (by decide +kernel) (((-1000) : Int) : Rat) (by decide +kernel) ((0 : Int) : Rat) (by decide +kernel) ((1000 : Int) : Rat) (by decide +kernel) ((0 : Int) : Rat) (by decide +kernel) (by decide +kernel) (by decide +kernel) (by decide +kernel))) <| zM <| zE uG <| zE uG <| zM <| zM <| zZ) ?_
 refine jA ?_
 have bn10 : QL ((-1000 : Int) : Rat) 1 := (kQ (z := (-1000)) (vQ (by decide)) (by decide))
 refine kd [(0, (vb true))] [] mo (wM <| wE oEq <| wM <| wM <| wE oEq <| wE mX <| wM <| wR (jZ yF) <| wR (jZ jR) <| wR (jZ jR) <| wE (oBd pl56 gG gE) <| wE (jX (qs_samep ((jF ((1 : Int) : Rat) ((0 : Int) : Rat) ((0 : Int) : Rat) ((20 : Int) : Rat) ((30 : Int) : Rat) ((1000 : Int) : Rat)) / (jF ((0 : Int) : Rat) ((0 : Int) : Rat) ((1 : Int) : Rat) ((20 : Int) : Rat) ((30 : Int) : Rat) ((1000 : Int) : Rat))) ((jF ((0 : Int) : Rat) ((1 : Int) : Rat) ((0 : Int) : Rat) ((20 : Int) : Rat) ((30 : Int) : Rat) ((1000 : Int) : Rat)) / (jF ((0 : Int) : Rat) ((0 : Int) : Rat) ((1 : Int) : Rat) ((20 : Int) : Rat) ((30 : Int) : Rat) ((1000 : Int) : Rat))) (qu bn1) (qu bn2) (Rat.divInt 1 50) (Rat.divInt 3 100) (qu bn4) (qu bn5) (by decide +kernel) (by decide +kernel))) <| wE mX <| wM <| wR (jZ jR) <| wR (jZ jR) <| wE (qN true (jX (by have h := g_same y1 (jC (Rat.divInt 1 100)) ((jF ((1 : Int) : Rat) ((0 : Int) : Rat) ((0 : Int) : Rat) ((10 : Int) : Rat) ((0 : Int) : Rat) ((0 : Int) : Rat)) / (jF ((0 : Int) : Rat) ((0 : Int) : Rat) ((1 : Int) : Rat) ((20 : Int) : Rat) ((30 : Int) : Rat) ((1000 : Int) : Rat))) (Rat.divInt 1 100) (kB (kC bn3) (by decide)) (kB (kC bn6) (by decide)); rw [fW] at h; exact h)) (by exact (by decide +kernel))) <| wE mX <| wM <| wM <| wE (oLn nG 3) <| wE oEq <| wE mX <| wM <| wM <| wE (zS nG 1) <| wE (xT sh52) <| wE (oLn vV 3) <| wE oEq <| wE mX <| wM <| wM <| wE (zS nG 1) <| wE (xT sh52) <| wE (zS vV 2) <| wE (eD jR) <| wE (jX (cN (-1000) (by decide) (by decide))) <| wE (qN true (jX (by have h := g_same (jC (((-1000) : Int) : Rat)) (jC ((-1000 : Int) : Rat)) (((-1000) : Int) : Rat) ((-1000 : Int) : Rat) (kB (kC bn8) (by decide)) (kB (kC bn10) (by decide)); rw [fW] at h; exact h)) (by exact (by decide +kernel))) <| wE mX <| wM <| wZ) ?_
 refine jH ⟨_, (.tmp (d := (.val (.bool (true)))) rfl .nil), ?_⟩
 rfl
end Go.Proofs.YtbecgnplakngdaaGreat
