/- Part 30 of a proof: rules, plain facts, and functions walked. -/
import Derived.Test.YtbecgnplakngdaaGreatM29
namespace Go.Proofs.YtbecgnplakngdaaGreat
open Go.Fid
set_option maxRecDepth 4000
set_option linter.unusedVariables false
set_option linter.unusedSimpArgs false
theorem cb29 : callB Tryz.prog 29 = true := by kernel_rfl
theorem cb30 : callB Tryz.prog 30 = true := by kernel_rfl
theorem cb47 : callB Tryz.prog 47 = true := by kernel_rfl
theorem q_mapE1 (lx ly lz la lb lc ld lf lu lv rx ry rz ra rb rc rd rf ru rv : Int) (right : Bool) (p : jS) (x y : Rat) (hx : nU p.x x 1000000) (hy : nU p.y y 1000000) (c : Nat) (hc : stn2 (qV lx ly lz lu lv lf la lb lc ld) (qV rx ry rz ru rv rf ra rb rc rd) = c) (hc0 : c ≠ 0) : kE Tryz.prog 30 [(qA (kV.mk (jX.mk (jM.mk lx ly lz) (jK.mk la lb lc ld) lf (jZ.mk lu lv)) (jX.mk (jM.mk rx ry rz) (jK.mk ra rb rc rd) rf (jZ.mk ru rv)))), (.val (.bool (right))), (jI p)] (.tup [(jI (jS.mk (jQ.mk (jF.mk false []) (jF.mk false [])) (jQ.mk (jF.mk false []) (jF.mk false [])))), (.val (.int .i64 (((c : Nat) : Int))))]) := by
 let y1 := (qA (kV.mk (jX.mk (jM.mk lx ly lz) (jK.mk la lb lc ld) lf (jZ.mk lu lv)) (jX.mk (jM.mk rx ry rz) (jK.mk ra rb rc rd) rf (jZ.mk ru rv))))
 refine jN Tryz.func30 rfl cb30 rfl ?_
 show uT _ _ _ _ ⟨[(0, (.d y1)), (1, (vb right)), (2, (.d (jI p)))], []⟩
 refine jA <| kx [(3, (.ref 0 0)), (5, (.ref 1 0)), (6, (.ref 2 0))] [(0, some (bx y1)), (1, some (bx (jI p))), (2, some (bx (jI (jS.mk (jQ.mk (jF.mk false []) (jF.mk false [])) (jQ.mk (jF.mk false []) (jF.mk false []))))))] (zN (uX 0) <| zN (uX 1) <| zN (qS 2 xN xL) <| zM <| zZ) ?_
 refine jA <| kx [(8, (.d (.val (.pointer none)))), (9, (kX c))] [] (zR (kC gV) <| zE (kA (q_recE1 lx ly lz la lb lc ld lf lu lv rx ry rz ra rb rc rd rf ru rv c hc hc0)) <| zM <| zE uH <| zE uH <| zM <| zM <| zZ) ?_
 refine jA <| jA <| kx [(21, (vb true))] [] (zM <| zE (vB true eI (by exact bne_iff_ne.2 (by have hx := hc0; omega))) <| zZ) ?_
 refine kS ?_
 refine jA <| kx [(7, (kX c))] [(2, some (bx (jI (jS.mk (jQ.mk (jF.mk false []) (jF.mk false [])) (jQ.mk (jF.mk false []) (jF.mk false []))))))] (zE (fK pl56 xN xL) <| zM <| zT (qB qN) <| zM <| zZ) ?_
 refine jJ ⟨_, (qI (cs := (bx (jI (jS.mk (jQ.mk (jF.mk false []) (jF.mk false [])) (jQ.mk (jF.mk false []) (jF.mk false [])))))) (d := (jI (jS.mk (jQ.mk (jF.mk false []) (jF.mk false [])) (jQ.mk (jF.mk false []) (jF.mk false []))))) rfl rfl qN rfl rfl (.tmp (d := (.val (.int .i64 (((c : Nat) : Int))))) rfl .nil)), ?_⟩
 rfl
theorem q_mapE2 (lx ly lz la lb lc ld lf lu lv rx ry rz ra rb rc rd rf ru rv : Int) (right : Bool) (p : jS) (x y : Rat) (hx : nU p.x x 1000000) (hy : nU p.y y 1000000) (b0 b1 b2 : Rat) (uR : QL b0 3) (uP : QL b1 3) (uQ : QL b2 3) (hl : qV lx ly lz lu lv lf la lb lc ld = 0) (hr : qV rx ry rz ru rv rf ra rb rc rd = 0) (hb0 : ((rx - lx : Int) : Rat) = b0) (hb1 : ((ry - ly : Int) : Rat) = b1) (hb2 : ((rz - lz : Int) : Rat) = b2) (hup : upV la lb lc ld ra rb rc rd b0 b1 b2 = true) : kE Tryz.prog 30 [(qA (kV.mk (jX.mk (jM.mk lx ly lz) (jK.mk la lb lc ld) lf (jZ.mk lu lv)) (jX.mk (jM.mk rx ry rz) (jK.mk ra rb rc rd) rf (jZ.mk ru rv)))), (.val (.bool (right))), (jI p)] (.tup [(jI (jS.mk (jQ.mk (jF.mk false []) (jF.mk false [])) (jQ.mk (jF.mk false []) (jF.mk false [])))), (.val (.int .i64 (13)))]) := by
 let y1 := (qA (kV.mk (jX.mk (jM.mk lx ly lz) (jK.mk la lb lc ld) lf (jZ.mk lu lv)) (jX.mk (jM.mk rx ry rz) (jK.mk ra rb rc rd) rf (jZ.mk ru rv))))
 refine jN Tryz.func30 rfl cb30 rfl ?_
 show uT _ _ _ _ ⟨[(0, (.d y1)), (1, (vb right)), (2, (.d (jI p)))], []⟩
 refine jA <| kx [(3, (.ref 0 0)), (5, (.ref 1 0)), (6, (.ref 2 0))] [(0, some (bx y1)), (1, some (bx (jI p))), (2, some (bx (jI (jS.mk (jQ.mk (jF.mk false []) (jF.mk false [])) (jQ.mk (jF.mk false []) (jF.mk false []))))))] (zN (uX 0) <| zN (uX 1) <| zN (qS 2 xN xL) <| zM <| zZ) ?_
 refine jA <| kx [(8, (.d (.val (.pointer none)))), (9, (vi 13))] [] (zR (kC gV) <| zE (kA (q_recE2 lx ly lz la lb lc ld lf lu lv rx ry rz ra rb rc rd rf ru rv b0 b1 b2 uR uP uQ hl hr hb0 hb1 hb2 hup)) <| zM <| zE uH <| zE uH <| zM <| zM <| zZ) ?_
 refine jA <| jA <| kx [(21, (vb true))] [] (zM <| zE eI <| zZ) ?_
 refine kS ?_
 refine jA <| kx [(7, (vi 13))] [(2, some (bx (jI (jS.mk (jQ.mk (jF.mk false []) (jF.mk false [])) (jQ.mk (jF.mk false []) (jF.mk false []))))))] (zE (fK pl56 xN xL) <| zM <| zT (qB qN) <| zM <| zZ) ?_
 refine jJ ⟨_, (qI (cs := (bx (jI (jS.mk (jQ.mk (jF.mk false []) (jF.mk false [])) (jQ.mk (jF.mk false []) (jF.mk false [])))))) (d := (jI (jS.mk (jQ.mk (jF.mk false []) (jF.mk false [])) (jQ.mk (jF.mk false []) (jF.mk false []))))) rfl rfl qN rfl rfl (.tmp (d := (.val (.int .i64 (13)))) rfl .nil)), ?_⟩
 rfl
theorem q_mapF (lx ly lz la lb lc ld lf lu lv rx ry rz ra rb rc rd rf ru rv : Int) (right : Bool) (p : jS) (x y : Rat) (hx : nU p.x x 1000000) (hy : nU p.y y 1000000) (b0 b1 b2 e00 e01 e02 e10 e11 e12 e20 e21 e22 : Rat) (hF : RFr lx ly lz la lb lc ld rx ry rz ra rb rc rd b0 b1 b2 e00 e01 e02 e10 e11 e12 e20 e21 e22) (uR : QL b0 3) (uP : QL b1 3) (uQ : QL b2 3) (kM : QL e00 400) (kK : QL e01 400) (kL : QL e02 400) (kO : QL e10 400) (kP : QL e11 400) (kN : QL e12 400) (kH : QL e20 400) (kG : QL e21 400) (kI : QL e22 400) (hl : qV lx ly lz lu lv lf la lb lc ld = 0) (hr : qV rx ry rz ru rv rf ra rb rc rd = 0) (hup : upV la lb lc ld ra rb rc rd b0 b1 b2 = false) (hv : (uC p.x && uC p.y) = false) : kE Tryz.prog 30 [(qA (kV.mk (jX.mk (jM.mk lx ly lz) (jK.mk la lb lc ld) lf (jZ.mk lu lv)) (jX.mk (jM.mk rx ry rz) (jK.mk ra rb rc rd) rf (jZ.mk ru rv)))), (.val (.bool (right))), (jI p)] (.tup [(jI (jS.mk (jQ.mk (jF.mk false []) (jF.mk false [])) (jQ.mk (jF.mk false []) (jF.mk false [])))), (.val (.int .i64 (1)))]) := by
 have hbl := uB hl
 have hbr := uB hr
 obtain ⟨hlx, hly, hlz, hlu, hlv, hlf, hlq⟩ := hbl
 obtain ⟨hrx, hry, hrz, hru, hrv, hrf, hrq⟩ := hbr
 obtain ⟨hla, hlb, hlc, hld, -⟩ := uA hlq
 obtain ⟨hra, hrb, hrc, hrd, -⟩ := uA hrq
 have hnl := xV hla hlb hlc hld
 have hnr := xV hra hrb hrc hrd
 have hz0 := dK hF hup
 have hz1 := dR hF hup
 have hz2 := eD hF hup
 let y1 := (qA (kV.mk (jX.mk (jM.mk lx ly lz) (jK.mk la lb lc ld) lf (jZ.mk lu lv)) (jX.mk (jM.mk rx ry rz) (jK.mk ra rb rc rd) rf (jZ.mk ru rv))))
 refine jN Tryz.func30 rfl cb30 rfl ?_
 show uT _ _ _ _ ⟨[(0, (.d y1)), (1, (vb right)), (2, (.d (jI p)))], []⟩
 refine jA <| kx [(3, (.ref 0 0)), (5, (.ref 1 0)), (6, (.ref 2 0))] [(0, some (bx y1)), (1, some (bx (jI p))), (2, some (bx (jI (jS.mk (jQ.mk (jF.mk false []) (jF.mk false [])) (jQ.mk (jF.mk false []) (jF.mk false []))))))] (zN (uX 0) <| zN (uX 1) <| zN (qS 2 xN xL) <| zM <| zZ) ?_
 refine jA <| kx [(8, (.d (.cptr 1000001 (qH.cells (yZ (RRp.mk (jX.mk (jM.mk lx ly lz) (jK.mk la lb lc ld) lf (jZ.mk lu lv)) (jX.mk (jM.mk rx ry rz) (jK.mk ra rb rc rd) rf (jZ.mk ru rv)) (A3.mk (jB b0) (jB b1) (jB b2)) (A3.mk (A3.mk (jB e00) (jB e01) (jB e02)) (A3.mk (jB e10) (jB e11) (jB e12)) (A3.mk (jB e20) (jB e21) (jB e22)))))) 0))), (9, (vi 0))] [] (zR (kC gV) <| zE (kA (q_rec lx ly lz la lb lc ld lf lu lv rx ry rz ra rb rc rd rf ru rv b0 b1 b2 e00 e01 e02 e10 e11 e12 e20 e21 e22 hF uR uP uQ kM kK kL kO kP kN kH kG kI hl hr hup)) <| zM <| zE uH <| zE uH <| zM <| zM <| zZ) ?_
 refine jA <| jA <| kx [(21, (vb false))] [] (zM <| zE eI <| zZ) ?_
 refine kY ?_
 refine jE <| jA <| jA <| kx [(26, (vb true))] [] (zR (kC qN) <| zE (kA (q_canF p x y hx hy hv)) <| zE dV <| zZ) ?_
 refine kS ?_
 refine jA <| kx [(7, (kX 1))] [(2, some (bx (jI (jS.mk (jQ.mk (jF.mk false []) (jF.mk false [])) (jQ.mk (jF.mk false []) (jF.mk false []))))))] (zE (fK pl56 xN xL) <| zT (qB qN) <| zM <| zZ) ?_
 refine jJ ⟨_, (qI (cs := (bx (jI (jS.mk (jQ.mk (jF.mk false []) (jF.mk false [])) (jQ.mk (jF.mk false []) (jF.mk false [])))))) (d := (jI (jS.mk (jQ.mk (jF.mk false []) (jF.mk false [])) (jQ.mk (jF.mk false []) (jF.mk false []))))) rfl rfl qN rfl rfl (.tmp (d := (.val (.int .i64 (((1 : Nat) : Int))))) rfl .nil)), ?_⟩
 rfl
theorem q_mapN (lx ly lz la lb lc ld lf lu lv rx ry rz ra rb rc rd rf ru rv : Int) (right : Bool) (x y : Rat) (hx : QL x 5000) (hy : QL y 5000) (b0 b1 b2 e00 e01 e02 e10 e11 e12 e20 e21 e22 : Rat) (hF : RFr lx ly lz la lb lc ld rx ry rz ra rb rc rd b0 b1 b2 e00 e01 e02 e10 e11 e12 e20 e21 e22) (uR : QL b0 3) (uP : QL b1 3) (uQ : QL b2 3) (kM : QL e00 400) (kK : QL e01 400) (kL : QL e02 400) (kO : QL e10 400) (kP : QL e11 400) (kN : QL e12 400) (kH : QL e20 400) (kG : QL e21 400) (kI : QL e22 400) (tx ty tz ta tb tc td tf tu tv : Int) (w0 : Rat) (hw0 : (jD (vY ta tb tc td) (vX ta tb tc td) (uL ta tb tc td) (x - ((tu : Int) : Rat)) (y - ((tv : Int) : Rat)) ((tf : Int) : Rat)) = w0) (w1 : Rat) (hw1 : (jD (xA ta tb tc td) (xB ta tb tc td) (uN ta tb tc td) (x - ((tu : Int) : Rat)) (y - ((tv : Int) : Rat)) ((tf : Int) : Rat)) = w1) (w2 : Rat) (hw2 : (jD (xD ta tb tc td) (xF ta tb tc td) (uO ta tb tc td) (x - ((tu : Int) : Rat)) (y - ((tv : Int) : Rat)) ((tf : Int) : Rat)) = w2) (hl : qV lx ly lz lu lv lf la lb lc ld = 0) (hr : qV rx ry rz ru rv rf ra rb rc rd = 0) (hup : upV la lb lc ld ra rb rc rd b0 b1 b2 = false) (hsd : (bif right then (jX.mk (jM.mk rx ry rz) (jK.mk ra rb rc rd) rf (jZ.mk ru rv)) else (jX.mk (jM.mk lx ly lz) (jK.mk la lb lc ld) lf (jZ.mk lu lv))) = (jX.mk (jM.mk tx ty tz) (jK.mk ta tb tc td) tf (jZ.mk tu tv))) (hst : qV tx ty tz tu tv tf ta tb tc td = 0) (hd : (vJ (jD e20 e21 e22 w0 w1 w2)) ≤ 0) : kE Tryz.prog 30 [(qA (kV.mk (jX.mk (jM.mk lx ly lz) (jK.mk la lb lc ld) lf (jZ.mk lu lv)) (jX.mk (jM.mk rx ry rz) (jK.mk ra rb rc rd) rf (jZ.mk ru rv)))), (.val (.bool (right))), (jI (jS.mk (jB x) (jB y)))] (.tup [(jI (jS.mk (jQ.mk (jF.mk false []) (jF.mk false [])) (jQ.mk (jF.mk false []) (jF.mk false [])))), (.val (.int .i64 (20)))]) := by
 have hbl := uB hl
 have hbr := uB hr
 obtain ⟨hlx, hly, hlz, hlu, hlv, hlf, hlq⟩ := hbl
 obtain ⟨hrx, hry, hrz, hru, hrv, hrf, hrq⟩ := hbr
 obtain ⟨hla, hlb, hlc, hld, -⟩ := uA hlq
 obtain ⟨hra, hrb, hrc, hrd, -⟩ := uA hrq
 have hnl := xV hla hlb hlc hld
 have hnr := xV hra hrb hrc hrd
 have hz0 := dK hF hup
 have hz1 := dR hF hup
 have hz2 := eD hF hup
 obtain ⟨htx, hty, htz, htu, htv, htf, htq⟩ := uB hst
 obtain ⟨hta, htb, htc, htd, -⟩ := uA htq
 have hnt := xV hta htb htc htd
 let y2 := (bx (jI (jS.mk (jQ.mk (jF.mk false []) (jF.mk false [])) (jQ.mk (jF.mk false []) (jF.mk false [])))))
 let y1 := (qA (kV.mk (jX.mk (jM.mk lx ly lz) (jK.mk la lb lc ld) lf (jZ.mk lu lv)) (jX.mk (jM.mk rx ry rz) (jK.mk ra rb rc rd) rf (jZ.mk ru rv))))
 refine jN Tryz.func30 rfl cb30 rfl ?_
 show uT _ _ _ _ ⟨[(0, (.d y1)), (1, (vb right)), (2, (.d (jI (jS.mk (jB x) (jB y)))))], []⟩
 refine jA <| kx [(3, (.ref 0 0)), (5, (.ref 1 0)), (6, (.ref 2 0))] [(0, some (bx y1)), (1, some (bx (jI (jS.mk (jB x) (jB y))))), (2, some y2)] (zN (uX 0) <| zN (uX 1) <| zN (qS 2 xN xL) <| zM <| zZ) ?_
 refine jA <| kx [(8, (.d (.cptr 1000001 (qH.cells (yZ (RRp.mk (jX.mk (jM.mk lx ly lz) (jK.mk la lb lc ld) lf (jZ.mk lu lv)) (jX.mk (jM.mk rx ry rz) (jK.mk ra rb rc rd) rf (jZ.mk ru rv)) (A3.mk (jB b0) (jB b1) (jB b2)) (A3.mk (A3.mk (jB e00) (jB e01) (jB e02)) (A3.mk (jB e10) (jB e11) (jB e12)) (A3.mk (jB e20) (jB e21) (jB e22)))))) 0))), (9, (vi 0))] [] (zR (kC gV) <| zE (kA (q_rec lx ly lz la lb lc ld lf lu lv rx ry rz ra rb rc rd rf ru rv b0 b1 b2 e00 e01 e02 e10 e11 e12 e20 e21 e22 hF uR uP uQ kM kK kL kO kP kN kH kG kI hl hr hup)) <| zM <| zE uH <| zE uH <| zM <| zM <| zZ) ?_
 refine jA <| jA <| kx [(21, (vb false))] [] (zM <| zE eI <| zZ) ?_
 refine kY ?_
 refine jE <| jA <| jA <| kx [(26, (vb false))] [] (zR (kC qN) <| zE (kA (q_canT x y (qu hx) (qu hy))) <| zE dV <| zZ) ?_
 refine kY ?_
 refine jE <| jA <| kx [(10, (.ref 3 0))] [(3, some (bx (uI (jX.mk (jM.mk tx ty tz) (jK.mk ta tb tc td) tf (jZ.mk tu tv)))))] (zM <| zM <| zE (kA (q_side lx ly lz la lb lc ld lf lu lv rx ry rz ra rb rc rd rf ru rv b0 b1 b2 e00 e01 e02 e10 e11 e12 e20 e21 e22 uR uP uQ kM kK kL kO kP kN kH kG kI right tx ty tz ta tb tc td tf tu tv hsd)) <| zN (qS 3 eL eH) <| zT (qB xK) <| zZ) ?_
 refine jA ?_
 have bn1 : QL ((1 : Int) : Rat) 3 := (qi 1)
 have bn2 : QL ((0 : Int) : Rat) 3 := (qi 0)
 have bn3 : QL ((-tu : Int) : Rat) 3 := (qi (-tu))
 have bn4 : QL ((-tv : Int) : Rat) 3 := (qi (-tv))
 have bn5 : QL ((tf : Int) : Rat) 3 := (qi tf)
 have bn6 : QL ((1 : Int) : Rat) 1 := (kQ (z := 1) (vK (by decide)) (by decide))
 have bn7 : QL (x - ((tu : Int) : Rat)) 30002 := (jW (Eq.symm (lens0 x y tu)) (jL (n := 5000) (k := 30002) (qu bn1) (qu bn2) (qu bn3) hx hy (qu bn6) (by decide)))
 have bn8 : QL (y - ((tv : Int) : Rat)) 30002 := (jW (Eq.symm (lens1 x y tv)) (jL (n := 5000) (k := 30002) (qu bn2) (qu bn1) (qu bn4) hx hy (qu bn6) (by decide)))
 have bn9 : QL ((tf : Int) : Rat) 30002 := (jW (Eq.symm (lens2 x y tf)) (jL (n := 5000) (k := 30002) (qu bn2) (qu bn2) (qu bn5) hx hy (qu bn6) (by decide)))
 refine kd [(11, (.ref 4 0))] [(4, some (bx (jP (A3.mk (jB (x - ((tu : Int) : Rat))) (jB (y - ((tv : Int) : Rat))) (jB ((tf : Int) : Rat))))))] mo (wR (kC xK) <| wE (kA (q_inner tx ty tz ta tb tc td tf tu tv (by omega) (by omega) (by omega))) <| wE (qE cB) <| wR (kC jT) <| wE (qE cC) <| wR (kC jT) <| wE (kA (gX 1 (by decide) (by decide))) <| wE (oBf uE yN yO) <| wE (kA (by have h := mZ ((1 : Int) : Rat) ((0 : Int) : Rat) ((-tu : Int) : Rat) ((0 : Int) : Rat) ((1 : Int) : Rat) ((-tv : Int) : Rat) ((0 : Int) : Rat) ((0 : Int) : Rat) ((tf : Int) : Rat) (qu bn1) (qu bn2) (qu bn3) (qu bn2) (qu bn1) (qu bn4) (qu bn2) (qu bn2) (qu bn5) x y ((1 : Int) : Rat) (qu hx) (qu hy) (qu bn6); rw [(lens0 x y tu), (lens1 x y tv), (lens2 x y tf)] at h; exact h)) <| wN (qS 4 yN yO) <| wT (qB qO) <| wZ) ?_
 refine jA ?_
 have bn10 : QL (vY ta tb tc td) 3 := (cY)
 have bn11 : QL (vX ta tb tc td) 3 := (dC)
 have bn12 : QL (uL ta tb tc td) 3 := (nV)
 have bn13 : QL (xA ta tb tc td) 3 := (cT)
 have bn14 : QL (xB ta tb tc td) 3 := (dB)
 have bn15 : QL (uN ta tb tc td) 3 := (nW)
 have bn16 : QL (xD ta tb tc td) 3 := (cO)
 have bn17 : QL (xF ta tb tc td) 3 := (cX)
 have bn18 : QL (uO ta tb tc td) 3 := (nT)
 have bn19 : QL w0 180014 := (jW (Eq.symm hw0) (jL (n := 30002) (k := 180014) (qu bn10) (qu bn11) (qu bn12) bn7 bn8 bn9 (by decide)))
 have bn20 : QL w1 180014 := (jW (Eq.symm hw1) (jL (n := 30002) (k := 180014) (qu bn13) (qu bn14) (qu bn15) bn7 bn8 bn9 (by decide)))
 have bn21 : QL w2 180014 := (jW (Eq.symm hw2) (jL (n := 30002) (k := 180014) (qu bn16) (qu bn17) (qu bn18) bn7 bn8 bn9 (by decide)))
 refine kd [(12, (.ref 5 0)), (14, (vb false))] [(5, some y2), (6, none)] mo (wM <| wE (qE zY) <| wR (kC zV) <| wE (kA (fY ta tb tc td (by omega) (by omega) (by omega) (by omega) htq)) <| wR (kC qO) <| wE (kA (by have h := mZ (vY ta tb tc td) (vX ta tb tc td) (uL ta tb tc td) (xA ta tb tc td) (xB ta tb tc td) (uN ta tb tc td) (xD ta tb tc td) (xF ta tb tc td) (uO ta tb tc td) (qu bn10) (qu bn11) (qu bn12) (qu bn13) (qu bn14) (qu bn15) (qu bn16) (qu bn17) (qu bn18) (x - ((tu : Int) : Rat)) (y - ((tv : Int) : Rat)) ((tf : Int) : Rat) (qu bn7) (qu bn8) (qu bn9); rw [hw0, hw1, hw2] at h; exact h)) <| wE (kA (q_cooN lx ly lz la lb lc ld lf lu lv rx ry rz ra rb rc rd rf ru rv b0 b1 b2 e00 e01 e02 e10 e11 e12 e20 e21 e22 uR uP uQ kM kK kL kO kP kN kH kG kI w0 w1 w2 (qu bn19) (qu bn20) (qu bn21) hd)) <| wM <| wE uH <| wE uH <| wE uH <| wN (qS 5 xN xL) <| wN (qS 6 qR qY) <| wT (qB qN) <| wT (qB jT) <| wM <| wZ) ?_
 refine jA <| jA <| kx [(52, (vb true))] [] (zM <| zE dV <| zZ) ?_
 refine kS ?_
 refine jA <| kx [(7, (kX 20))] [(2, some y2)] (zE (fK pl56 xN xL) <| zT (qB qN) <| zM <| zZ) ?_
 refine jJ ⟨_, (qI (cs := (bx (jI (jS.mk (jQ.mk (jF.mk false []) (jF.mk false [])) (jQ.mk (jF.mk false []) (jF.mk false [])))))) (d := (jI (jS.mk (jQ.mk (jF.mk false []) (jF.mk false [])) (jQ.mk (jF.mk false []) (jF.mk false []))))) rfl rfl qN rfl rfl (.tmp (d := (.val (.int .i64 (((20 : Nat) : Int))))) rfl .nil)), ?_⟩
 rfl
theorem q_map (lx ly lz la lb lc ld lf lu lv rx ry rz ra rb rc rd rf ru rv : Int) (right : Bool) (x y : Rat) (hx : QL x 5000) (hy : QL y 5000) (b0 b1 b2 e00 e01 e02 e10 e11 e12 e20 e21 e22 : Rat) (hF : RFr lx ly lz la lb lc ld rx ry rz ra rb rc rd b0 b1 b2 e00 e01 e02 e10 e11 e12 e20 e21 e22) (uR : QL b0 3) (uP : QL b1 3) (uQ : QL b2 3) (kM : QL e00 400) (kK : QL e01 400) (kL : QL e02 400) (kO : QL e10 400) (kP : QL e11 400) (kN : QL e12 400) (kH : QL e20 400) (kG : QL e21 400) (kI : QL e22 400) (tx ty tz ta tb tc td tf tu tv : Int) (w0 : Rat) (hw0 : (jD (vY ta tb tc td) (vX ta tb tc td) (uL ta tb tc td) (x - ((tu : Int) : Rat)) (y - ((tv : Int) : Rat)) ((tf : Int) : Rat)) = w0) (w1 : Rat) (hw1 : (jD (xA ta tb tc td) (xB ta tb tc td) (uN ta tb tc td) (x - ((tu : Int) : Rat)) (y - ((tv : Int) : Rat)) ((tf : Int) : Rat)) = w1) (w2 : Rat) (hw2 : (jD (xD ta tb tc td) (xF ta tb tc td) (uO ta tb tc td) (x - ((tu : Int) : Rat)) (y - ((tv : Int) : Rat)) ((tf : Int) : Rat)) = w2) (hl : qV lx ly lz lu lv lf la lb lc ld = 0) (hr : qV rx ry rz ru rv rf ra rb rc rd = 0) (hup : upV la lb lc ld ra rb rc rd b0 b1 b2 = false) (hsd : (bif right then (jX.mk (jM.mk rx ry rz) (jK.mk ra rb rc rd) rf (jZ.mk ru rv)) else (jX.mk (jM.mk lx ly lz) (jK.mk la lb lc ld) lf (jZ.mk lu lv))) = (jX.mk (jM.mk tx ty tz) (jK.mk ta tb tc td) tf (jZ.mk tu tv))) (hst : qV tx ty tz tu tv tf ta tb tc td = 0) (hd : ¬ (vJ (jD e20 e21 e22 w0 w1 w2)) ≤ 0) : kE Tryz.prog 30 [(qA (kV.mk (jX.mk (jM.mk lx ly lz) (jK.mk la lb lc ld) lf (jZ.mk lu lv)) (jX.mk (jM.mk rx ry rz) (jK.mk ra rb rc rd) rf (jZ.mk ru rv)))), (.val (.bool (right))), (jI (jS.mk (jB x) (jB y)))] (.tup [(jI (jS.mk (jB ((jD e00 e01 e02 w0 w1 w2) / (jD e20 e21 e22 w0 w1 w2))) (jB ((jD e10 e11 e12 w0 w1 w2) / (jD e20 e21 e22 w0 w1 w2))))), (.val (.int .i64 (0)))]) := by
 have hbl := uB hl
 have hbr := uB hr
 obtain ⟨hlx, hly, hlz, hlu, hlv, hlf, hlq⟩ := hbl
 obtain ⟨hrx, hry, hrz, hru, hrv, hrf, hrq⟩ := hbr
 obtain ⟨hla, hlb, hlc, hld, -⟩ := uA hlq
 obtain ⟨hra, hrb, hrc, hrd, -⟩ := uA hrq
 have hnl := xV hla hlb hlc hld
 have hnr := xV hra hrb hrc hrd
 have hz0 := dK hF hup
 have hz1 := dR hF hup
 have hz2 := eD hF hup
 obtain ⟨htx, hty, htz, htu, htv, htf, htq⟩ := uB hst
 obtain ⟨hta, htb, htc, htd, -⟩ := uA htq
 have hnt := xV hta htb htc htd
 let y1 := (qA (kV.mk (jX.mk (jM.mk lx ly lz) (jK.mk la lb lc ld) lf (jZ.mk lu lv)) (jX.mk (jM.mk rx ry rz) (jK.mk ra rb rc rd) rf (jZ.mk ru rv))))
 refine jN Tryz.func30 rfl cb30 rfl ?_
 show uT _ _ _ _ ⟨[(0, (.d y1)), (1, (vb right)), (2, (.d (jI (jS.mk (jB x) (jB y)))))], []⟩
 refine jA <| kx [(3, (.ref 0 0)), (5, (.ref 1 0)), (6, (.ref 2 0))] [(0, some (bx y1)), (1, some (bx (jI (jS.mk (jB x) (jB y))))), (2, some (bx (jI (jS.mk (jQ.mk (jF.mk false []) (jF.mk false [])) (jQ.mk (jF.mk false []) (jF.mk false []))))))] (zN (uX 0) <| zN (uX 1) <| zN (qS 2 xN xL) <| zM <| zZ) ?_
 refine jA <| kx [(8, (.d (.cptr 1000001 (qH.cells (yZ (RRp.mk (jX.mk (jM.mk lx ly lz) (jK.mk la lb lc ld) lf (jZ.mk lu lv)) (jX.mk (jM.mk rx ry rz) (jK.mk ra rb rc rd) rf (jZ.mk ru rv)) (A3.mk (jB b0) (jB b1) (jB b2)) (A3.mk (A3.mk (jB e00) (jB e01) (jB e02)) (A3.mk (jB e10) (jB e11) (jB e12)) (A3.mk (jB e20) (jB e21) (jB e22)))))) 0))), (9, (vi 0))] [] (zR (kC gV) <| zE (kA (q_rec lx ly lz la lb lc ld lf lu lv rx ry rz ra rb rc rd rf ru rv b0 b1 b2 e00 e01 e02 e10 e11 e12 e20 e21 e22 hF uR uP uQ kM kK kL kO kP kN kH kG kI hl hr hup)) <| zM <| zE uH <| zE uH <| zM <| zM <| zZ) ?_
 refine jA <| jA <| kx [(21, (vb false))] [] (zM <| zE eI <| zZ) ?_
 refine kY ?_
 refine jE <| jA <| jA <| kx [(26, (vb false))] [] (zR (kC qN) <| zE (kA (q_canT x y (qu hx) (qu hy))) <| zE dV <| zZ) ?_
 refine kY ?_
 refine jE <| jA <| kx [(10, (.ref 3 0))] [(3, some (bx (uI (jX.mk (jM.mk tx ty tz) (jK.mk ta tb tc td) tf (jZ.mk tu tv)))))] (zM <| zM <| zE (kA (q_side lx ly lz la lb lc ld lf lu lv rx ry rz ra rb rc rd rf ru rv b0 b1 b2 e00 e01 e02 e10 e11 e12 e20 e21 e22 uR uP uQ kM kK kL kO kP kN kH kG kI right tx ty tz ta tb tc td tf tu tv hsd)) <| zN (qS 3 eL eH) <| zT (qB xK) <| zZ) ?_
 refine jA ?_
 have bn1 : QL ((1 : Int) : Rat) 3 := (qi 1)
 have bn2 : QL ((0 : Int) : Rat) 3 := (qi 0)
 have bn3 : QL ((-tu : Int) : Rat) 3 := (qi (-tu))
 have bn4 : QL ((-tv : Int) : Rat) 3 := (qi (-tv))
 have bn5 : QL ((tf : Int) : Rat) 3 := (qi tf)
 have bn6 : QL ((1 : Int) : Rat) 1 := (kQ (z := 1) (vK (by decide)) (by decide))
 have bn7 : QL (x - ((tu : Int) : Rat)) 30002 := (jW (Eq.symm (lens0 x y tu)) (jL (n := 5000) (k := 30002) (qu bn1) (qu bn2) (qu bn3) hx hy (qu bn6) (by decide)))
 have bn8 : QL (y - ((tv : Int) : Rat)) 30002 := (jW (Eq.symm (lens1 x y tv)) (jL (n := 5000) (k := 30002) (qu bn2) (qu bn1) (qu bn4) hx hy (qu bn6) (by decide)))
 have bn9 : QL ((tf : Int) : Rat) 30002 := (jW (Eq.symm (lens2 x y tf)) (jL (n := 5000) (k := 30002) (qu bn2) (qu bn2) (qu bn5) hx hy (qu bn6) (by decide)))
 refine kd [(11, (.ref 4 0))] [(4, some (bx (jP (A3.mk (jB (x - ((tu : Int) : Rat))) (jB (y - ((tv : Int) : Rat))) (jB ((tf : Int) : Rat))))))] mo (wR (kC xK) <| wE (kA (q_inner tx ty tz ta tb tc td tf tu tv (by omega) (by omega) (by omega))) <| wE (qE cB) <| wR (kC jT) <| wE (qE cC) <| wR (kC jT) <| wE (kA (gX 1 (by decide) (by decide))) <| wE (oBf uE yN yO) <| wE (kA (by have h := mZ ((1 : Int) : Rat) ((0 : Int) : Rat) ((-tu : Int) : Rat) ((0 : Int) : Rat) ((1 : Int) : Rat) ((-tv : Int) : Rat) ((0 : Int) : Rat) ((0 : Int) : Rat) ((tf : Int) : Rat) (qu bn1) (qu bn2) (qu bn3) (qu bn2) (qu bn1) (qu bn4) (qu bn2) (qu bn2) (qu bn5) x y ((1 : Int) : Rat) (qu hx) (qu hy) (qu bn6); rw [(lens0 x y tu), (lens1 x y tv), (lens2 x y tf)] at h; exact h)) <| wN (qS 4 yN yO) <| wT (qB qO) <| wZ) ?_
 refine jA ?_
 have bn10 : QL (vY ta tb tc td) 3 := (cY)
 have bn11 : QL (vX ta tb tc td) 3 := (dC)
 have bn12 : QL (uL ta tb tc td) 3 := (nV)
 have bn13 : QL (xA ta tb tc td) 3 := (cT)
 have bn14 : QL (xB ta tb tc td) 3 := (dB)
 have bn15 : QL (uN ta tb tc td) 3 := (nW)
 have bn16 : QL (xD ta tb tc td) 3 := (cO)
 have bn17 : QL (xF ta tb tc td) 3 := (cX)
 have bn18 : QL (uO ta tb tc td) 3 := (nT)
 have bn19 : QL w0 180014 := (jW (Eq.symm hw0) (jL (n := 30002) (k := 180014) (qu bn10) (qu bn11) (qu bn12) bn7 bn8 bn9 (by decide)))
 have bn20 : QL w1 180014 := (jW (Eq.symm hw1) (jL (n := 30002) (k := 180014) (qu bn13) (qu bn14) (qu bn15) bn7 bn8 bn9 (by decide)))
 have bn21 : QL w2 180014 := (jW (Eq.symm hw2) (jL (n := 30002) (k := 180014) (qu bn16) (qu bn17) (qu bn18) bn7 bn8 bn9 (by decide)))
 have bn22 : QL ((jD e00 e01 e02 w0 w1 w2) / (jD e20 e21 e22 w0 w1 w2)) 2160172 := (kF (k := 2160172) (jL (n := 180014) (k := 1080086) (qu kM) (qu kK) (qu kL) bn19 bn20 bn21 (by decide)) (jL (n := 180014) (k := 1080086) (qu kH) (qu kG) (qu kI) bn19 bn20 bn21 (by decide)) (by decide))
 have bn23 : QL ((jD e10 e11 e12 w0 w1 w2) / (jD e20 e21 e22 w0 w1 w2)) 2160172 := (kF (k := 2160172) (jL (n := 180014) (k := 1080086) (qu kO) (qu kP) (qu kN) bn19 bn20 bn21 (by decide)) (jL (n := 180014) (k := 1080086) (qu kH) (qu kG) (qu kI) bn19 bn20 bn21 (by decide)) (by decide))
 have bn24 : QL (jD e20 e21 e22 w0 w1 w2) 1080086 := (jL (n := 180014) (k := 1080086) (qu kH) (qu kG) (qu kI) bn19 bn20 bn21 (by decide))
 refine kd [(12, (.ref 5 0)), (14, (vb true))] [(5, some (bx (jI (jS.mk (jB ((jD e00 e01 e02 w0 w1 w2) / (jD e20 e21 e22 w0 w1 w2))) (jB ((jD e10 e11 e12 w0 w1 w2) / (jD e20 e21 e22 w0 w1 w2))))))), (6, none)] mo (wM <| wE (qE zY) <| wR (kC zV) <| wE (kA (fY ta tb tc td (by omega) (by omega) (by omega) (by omega) htq)) <| wR (kC qO) <| wE (kA (by have h := mZ (vY ta tb tc td) (vX ta tb tc td) (uL ta tb tc td) (xA ta tb tc td) (xB ta tb tc td) (uN ta tb tc td) (xD ta tb tc td) (xF ta tb tc td) (uO ta tb tc td) (qu bn10) (qu bn11) (qu bn12) (qu bn13) (qu bn14) (qu bn15) (qu bn16) (qu bn17) (qu bn18) (x - ((tu : Int) : Rat)) (y - ((tv : Int) : Rat)) ((tf : Int) : Rat) (qu bn7) (qu bn8) (qu bn9); rw [hw0, hw1, hw2] at h; exact h)) <| wE (kA (q_coo lx ly lz la lb lc ld lf lu lv rx ry rz ra rb rc rd rf ru rv b0 b1 b2 e00 e01 e02 e10 e11 e12 e20 e21 e22 uR uP uQ kM kK kL kO kP kN kH kG kI w0 w1 w2 (qu bn19) (qu bn20) (qu bn21) hd)) <| wM <| wE uH <| wE uH <| wE uH <| wN (qS 5 xN xL) <| wN (qS 6 qR qY) <| wT (qB qN) <| wT (qB jT) <| wM <| wZ) ?_
 refine jA <| jA <| kx [(52, (vb false))] [] (zM <| zE dV <| zZ) ?_
 refine kY ?_
 refine jE <| jA <| kx [(7, (kX 0))] [(2, some (bx (jI (jS.mk (jB ((jD e00 e01 e02 w0 w1 w2) / (jD e20 e21 e22 w0 w1 w2))) (jB ((jD e10 e11 e12 w0 w1 w2) / (jD e20 e21 e22 w0 w1 w2)))))))] (zR (kC qN) <| zT (qB qN) <| zM <| zZ) ?_
 refine jJ ⟨_, (qI (cs := (bx (jI (jS.mk (jB ((jD e00 e01 e02 w0 w1 w2) / (jD e20 e21 e22 w0 w1 w2))) (jB ((jD e10 e11 e12 w0 w1 w2) / (jD e20 e21 e22 w0 w1 w2))))))) (d := (jI (jS.mk (jB ((jD e00 e01 e02 w0 w1 w2) / (jD e20 e21 e22 w0 w1 w2))) (jB ((jD e10 e11 e12 w0 w1 w2) / (jD e20 e21 e22 w0 w1 w2)))))) rfl rfl qN rfl rfl (.tmp (d := (.val (.int .i64 (((0 : Nat) : Int))))) rfl .nil)), ?_⟩
 rfl
theorem q_unmapE1 (lx ly lz la lb lc ld lf lu lv rx ry rz ra rb rc rd rf ru rv : Int) (right : Bool) (p : jS) (x y : Rat) (hx : nU p.x x 1000000) (hy : nU p.y y 1000000) (c : Nat) (hc : stn2 (qV lx ly lz lu lv lf la lb lc ld) (qV rx ry rz ru rv rf ra rb rc rd) = c) (hc0 : c ≠ 0) : kE Tryz.prog 47 [(qA (kV.mk (jX.mk (jM.mk lx ly lz) (jK.mk la lb lc ld) lf (jZ.mk lu lv)) (jX.mk (jM.mk rx ry rz) (jK.mk ra rb rc rd) rf (jZ.mk ru rv)))), (.val (.bool (right))), (jI p)] (.tup [(jI (jS.mk (jQ.mk (jF.mk false []) (jF.mk false [])) (jQ.mk (jF.mk false []) (jF.mk false [])))), (.val (.int .i64 (((c : Nat) : Int))))]) := by
 let y1 := (qA (kV.mk (jX.mk (jM.mk lx ly lz) (jK.mk la lb lc ld) lf (jZ.mk lu lv)) (jX.mk (jM.mk rx ry rz) (jK.mk ra rb rc rd) rf (jZ.mk ru rv))))
 refine jN Tryz.func47 rfl cb47 rfl ?_
 show uT _ _ _ _ ⟨[(0, (.d y1)), (1, (vb right)), (2, (.d (jI p)))], []⟩
 refine jA <| kx [(3, (.ref 0 0)), (5, (.ref 1 0)), (6, (.ref 2 0))] [(0, some (bx y1)), (1, some (bx (jI p))), (2, some (bx (jI (jS.mk (jQ.mk (jF.mk false []) (jF.mk false [])) (jQ.mk (jF.mk false []) (jF.mk false []))))))] (zN (uX 0) <| zN (uX 1) <| zN (qS 2 xN xL) <| zM <| zZ) ?_
 refine jA <| kx [(8, (.d (.val (.pointer none)))), (9, (kX c))] [] (zR (kC gV) <| zE (kA (q_recE1 lx ly lz la lb lc ld lf lu lv rx ry rz ra rb rc rd rf ru rv c hc hc0)) <| zM <| zE uH <| zE uH <| zM <| zM <| zZ) ?_
 refine jA <| jA <| kx [(18, (vb true))] [] (zM <| zE (vB true eI (by exact bne_iff_ne.2 (by have hx := hc0; omega))) <| zZ) ?_
 refine kS ?_
 refine jA <| kx [(7, (kX c))] [(2, some (bx (jI (jS.mk (jQ.mk (jF.mk false []) (jF.mk false [])) (jQ.mk (jF.mk false []) (jF.mk false []))))))] (zE (fK pl56 xN xL) <| zM <| zT (qB qN) <| zM <| zZ) ?_
 refine jJ ⟨_, (qI (cs := (bx (jI (jS.mk (jQ.mk (jF.mk false []) (jF.mk false [])) (jQ.mk (jF.mk false []) (jF.mk false [])))))) (d := (jI (jS.mk (jQ.mk (jF.mk false []) (jF.mk false [])) (jQ.mk (jF.mk false []) (jF.mk false []))))) rfl rfl qN rfl rfl (.tmp (d := (.val (.int .i64 (((c : Nat) : Int))))) rfl .nil)), ?_⟩
 rfl
theorem q_unmapE2 (lx ly lz la lb lc ld lf lu lv rx ry rz ra rb rc rd rf ru rv : Int) (right : Bool) (p : jS) (x y : Rat) (hx : nU p.x x 1000000) (hy : nU p.y y 1000000) (b0 b1 b2 : Rat) (uR : QL b0 3) (uP : QL b1 3) (uQ : QL b2 3) (hl : qV lx ly lz lu lv lf la lb lc ld = 0) (hr : qV rx ry rz ru rv rf ra rb rc rd = 0) (hb0 : ((rx - lx : Int) : Rat) = b0) (hb1 : ((ry - ly : Int) : Rat) = b1) (hb2 : ((rz - lz : Int) : Rat) = b2) (hup : upV la lb lc ld ra rb rc rd b0 b1 b2 = true) : kE Tryz.prog 47 [(qA (kV.mk (jX.mk (jM.mk lx ly lz) (jK.mk la lb lc ld) lf (jZ.mk lu lv)) (jX.mk (jM.mk rx ry rz) (jK.mk ra rb rc rd) rf (jZ.mk ru rv)))), (.val (.bool (right))), (jI p)] (.tup [(jI (jS.mk (jQ.mk (jF.mk false []) (jF.mk false [])) (jQ.mk (jF.mk false []) (jF.mk false [])))), (.val (.int .i64 (13)))]) := by
 let y1 := (qA (kV.mk (jX.mk (jM.mk lx ly lz) (jK.mk la lb lc ld) lf (jZ.mk lu lv)) (jX.mk (jM.mk rx ry rz) (jK.mk ra rb rc rd) rf (jZ.mk ru rv))))
 refine jN Tryz.func47 rfl cb47 rfl ?_
 show uT _ _ _ _ ⟨[(0, (.d y1)), (1, (vb right)), (2, (.d (jI p)))], []⟩
 refine jA <| kx [(3, (.ref 0 0)), (5, (.ref 1 0)), (6, (.ref 2 0))] [(0, some (bx y1)), (1, some (bx (jI p))), (2, some (bx (jI (jS.mk (jQ.mk (jF.mk false []) (jF.mk false [])) (jQ.mk (jF.mk false []) (jF.mk false []))))))] (zN (uX 0) <| zN (uX 1) <| zN (qS 2 xN xL) <| zM <| zZ) ?_
 refine jA <| kx [(8, (.d (.val (.pointer none)))), (9, (vi 13))] [] (zR (kC gV) <| zE (kA (q_recE2 lx ly lz la lb lc ld lf lu lv rx ry rz ra rb rc rd rf ru rv b0 b1 b2 uR uP uQ hl hr hb0 hb1 hb2 hup)) <| zM <| zE uH <| zE uH <| zM <| zM <| zZ) ?_
 refine jA <| jA <| kx [(18, (vb true))] [] (zM <| zE eI <| zZ) ?_
 refine kS ?_
 refine jA <| kx [(7, (vi 13))] [(2, some (bx (jI (jS.mk (jQ.mk (jF.mk false []) (jF.mk false [])) (jQ.mk (jF.mk false []) (jF.mk false []))))))] (zE (fK pl56 xN xL) <| zM <| zT (qB qN) <| zM <| zZ) ?_
 refine jJ ⟨_, (qI (cs := (bx (jI (jS.mk (jQ.mk (jF.mk false []) (jF.mk false [])) (jQ.mk (jF.mk false []) (jF.mk false [])))))) (d := (jI (jS.mk (jQ.mk (jF.mk false []) (jF.mk false [])) (jQ.mk (jF.mk false []) (jF.mk false []))))) rfl rfl qN rfl rfl (.tmp (d := (.val (.int .i64 (13)))) rfl .nil)), ?_⟩
 rfl
theorem q_unmapF (lx ly lz la lb lc ld lf lu lv rx ry rz ra rb rc rd rf ru rv : Int) (right : Bool) (p : jS) (x y : Rat) (hx : nU p.x x 1000000) (hy : nU p.y y 1000000) (b0 b1 b2 e00 e01 e02 e10 e11 e12 e20 e21 e22 : Rat) (hF : RFr lx ly lz la lb lc ld rx ry rz ra rb rc rd b0 b1 b2 e00 e01 e02 e10 e11 e12 e20 e21 e22) (uR : QL b0 3) (uP : QL b1 3) (uQ : QL b2 3) (kM : QL e00 400) (kK : QL e01 400) (kL : QL e02 400) (kO : QL e10 400) (kP : QL e11 400) (kN : QL e12 400) (kH : QL e20 400) (kG : QL e21 400) (kI : QL e22 400) (hl : qV lx ly lz lu lv lf la lb lc ld = 0) (hr : qV rx ry rz ru rv rf ra rb rc rd = 0) (hup : upV la lb lc ld ra rb rc rd b0 b1 b2 = false) (hv : (uC p.x && uC p.y) = false) : kE Tryz.prog 47 [(qA (kV.mk (jX.mk (jM.mk lx ly lz) (jK.mk la lb lc ld) lf (jZ.mk lu lv)) (jX.mk (jM.mk rx ry rz) (jK.mk ra rb rc rd) rf (jZ.mk ru rv)))), (.val (.bool (right))), (jI p)] (.tup [(jI (jS.mk (jQ.mk (jF.mk false []) (jF.mk false [])) (jQ.mk (jF.mk false []) (jF.mk false [])))), (.val (.int .i64 (1)))]) := by
 have hbl := uB hl
 have hbr := uB hr
 obtain ⟨hlx, hly, hlz, hlu, hlv, hlf, hlq⟩ := hbl
 obtain ⟨hrx, hry, hrz, hru, hrv, hrf, hrq⟩ := hbr
 obtain ⟨hla, hlb, hlc, hld, -⟩ := uA hlq
 obtain ⟨hra, hrb, hrc, hrd, -⟩ := uA hrq
 have hnl := xV hla hlb hlc hld
 have hnr := xV hra hrb hrc hrd
 have hz0 := dK hF hup
 have hz1 := dR hF hup
 have hz2 := eD hF hup
 let y1 := (qA (kV.mk (jX.mk (jM.mk lx ly lz) (jK.mk la lb lc ld) lf (jZ.mk lu lv)) (jX.mk (jM.mk rx ry rz) (jK.mk ra rb rc rd) rf (jZ.mk ru rv))))
 refine jN Tryz.func47 rfl cb47 rfl ?_
 show uT _ _ _ _ ⟨[(0, (.d y1)), (1, (vb right)), (2, (.d (jI p)))], []⟩
 refine jA <| kx [(3, (.ref 0 0)), (5, (.ref 1 0)), (6, (.ref 2 0))] [(0, some (bx y1)), (1, some (bx (jI p))), (2, some (bx (jI (jS.mk (jQ.mk (jF.mk false []) (jF.mk false [])) (jQ.mk (jF.mk false []) (jF.mk false []))))))] (zN (uX 0) <| zN (uX 1) <| zN (qS 2 xN xL) <| zM <| zZ) ?_
 refine jA <| kx [(8, (.d (.cptr 1000001 (qH.cells (yZ (RRp.mk (jX.mk (jM.mk lx ly lz) (jK.mk la lb lc ld) lf (jZ.mk lu lv)) (jX.mk (jM.mk rx ry rz) (jK.mk ra rb rc rd) rf (jZ.mk ru rv)) (A3.mk (jB b0) (jB b1) (jB b2)) (A3.mk (A3.mk (jB e00) (jB e01) (jB e02)) (A3.mk (jB e10) (jB e11) (jB e12)) (A3.mk (jB e20) (jB e21) (jB e22)))))) 0))), (9, (vi 0))] [] (zR (kC gV) <| zE (kA (q_rec lx ly lz la lb lc ld lf lu lv rx ry rz ra rb rc rd rf ru rv b0 b1 b2 e00 e01 e02 e10 e11 e12 e20 e21 e22 hF uR uP uQ kM kK kL kO kP kN kH kG kI hl hr hup)) <| zM <| zE uH <| zE uH <| zM <| zM <| zZ) ?_
 refine jA <| jA <| kx [(18, (vb false))] [] (zM <| zE eI <| zZ) ?_
 refine kY ?_
 refine jE <| jA <| jA <| kx [(23, (vb true))] [] (zR (kC qN) <| zE (kA (q_canF p x y hx hy hv)) <| zE dV <| zZ) ?_
 refine kS ?_
 refine jA <| kx [(7, (kX 1))] [(2, some (bx (jI (jS.mk (jQ.mk (jF.mk false []) (jF.mk false [])) (jQ.mk (jF.mk false []) (jF.mk false []))))))] (zE (fK pl56 xN xL) <| zT (qB qN) <| zM <| zZ) ?_
 refine jJ ⟨_, (qI (cs := (bx (jI (jS.mk (jQ.mk (jF.mk false []) (jF.mk false [])) (jQ.mk (jF.mk false []) (jF.mk false [])))))) (d := (jI (jS.mk (jQ.mk (jF.mk false []) (jF.mk false [])) (jQ.mk (jF.mk false []) (jF.mk false []))))) rfl rfl qN rfl rfl (.tmp (d := (.val (.int .i64 (((1 : Nat) : Int))))) rfl .nil)), ?_⟩
 rfl
theorem q_unmapN (lx ly lz la lb lc ld lf lu lv rx ry rz ra rb rc rd rf ru rv : Int) (right : Bool) (x y : Rat) (hx : QL x 5000) (hy : QL y 5000) (b0 b1 b2 e00 e01 e02 e10 e11 e12 e20 e21 e22 : Rat) (hF : RFr lx ly lz la lb lc ld rx ry rz ra rb rc rd b0 b1 b2 e00 e01 e02 e10 e11 e12 e20 e21 e22) (uR : QL b0 3) (uP : QL b1 3) (uQ : QL b2 3) (kM : QL e00 400) (kK : QL e01 400) (kL : QL e02 400) (kO : QL e10 400) (kP : QL e11 400) (kN : QL e12 400) (kH : QL e20 400) (kG : QL e21 400) (kI : QL e22 400) (tx ty tz ta tb tc td tf tu tv : Int) (d0 : Rat) (hd0 : (((e00 * (x / (jD e00 e01 e02 e00 e01 e02))) + (e10 * (y / (jD e10 e11 e12 e10 e11 e12)))) + (e20 * (((1 : Int) : Rat) / (jD e20 e21 e22 e20 e21 e22)))) = d0) (d1 : Rat) (hd1 : (((e01 * (x / (jD e00 e01 e02 e00 e01 e02))) + (e11 * (y / (jD e10 e11 e12 e10 e11 e12)))) + (e21 * (((1 : Int) : Rat) / (jD e20 e21 e22 e20 e21 e22)))) = d1) (d2 : Rat) (hd2 : (((e02 * (x / (jD e00 e01 e02 e00 e01 e02))) + (e12 * (y / (jD e10 e11 e12 e10 e11 e12)))) + (e22 * (((1 : Int) : Rat) / (jD e20 e21 e22 e20 e21 e22)))) = d2) (hl : qV lx ly lz lu lv lf la lb lc ld = 0) (hr : qV rx ry rz ru rv rf ra rb rc rd = 0) (hup : upV la lb lc ld ra rb rc rd b0 b1 b2 = false) (hsd : (bif right then (jX.mk (jM.mk rx ry rz) (jK.mk ra rb rc rd) rf (jZ.mk ru rv)) else (jX.mk (jM.mk lx ly lz) (jK.mk la lb lc ld) lf (jZ.mk lu lv))) = (jX.mk (jM.mk tx ty tz) (jK.mk ta tb tc td) tf (jZ.mk tu tv))) (hst : qV tx ty tz tu tv tf ta tb tc td = 0) (hs2 : (vJ (jD (uL ta tb tc td) (uN ta tb tc td) (uO ta tb tc td) d0 d1 d2)) ≤ 0) : kE Tryz.prog 47 [(qA (kV.mk (jX.mk (jM.mk lx ly lz) (jK.mk la lb lc ld) lf (jZ.mk lu lv)) (jX.mk (jM.mk rx ry rz) (jK.mk ra rb rc rd) rf (jZ.mk ru rv)))), (.val (.bool (right))), (jI (jS.mk (jB x) (jB y)))] (.tup [(jI (jS.mk (jQ.mk (jF.mk false []) (jF.mk false [])) (jQ.mk (jF.mk false []) (jF.mk false [])))), (.val (.int .i64 (20)))]) := by
 have hbl := uB hl
 have hbr := uB hr
 obtain ⟨hlx, hly, hlz, hlu, hlv, hlf, hlq⟩ := hbl
 obtain ⟨hrx, hry, hrz, hru, hrv, hrf, hrq⟩ := hbr
 obtain ⟨hla, hlb, hlc, hld, -⟩ := uA hlq
 obtain ⟨hra, hrb, hrc, hrd, -⟩ := uA hrq
 have hnl := xV hla hlb hlc hld
 have hnr := xV hra hrb hrc hrd
 have hz0 := dK hF hup
 have hz1 := dR hF hup
 have hz2 := eD hF hup
 obtain ⟨htx, hty, htz, htu, htv, htf, htq⟩ := uB hst
 obtain ⟨hta, htb, htc, htd, -⟩ := uA htq
 have hnt := xV hta htb htc htd
 let y2 := (bx (jI (jS.mk (jQ.mk (jF.mk false []) (jF.mk false [])) (jQ.mk (jF.mk false []) (jF.mk false [])))))
 let y1 := (qA (kV.mk (jX.mk (jM.mk lx ly lz) (jK.mk la lb lc ld) lf (jZ.mk lu lv)) (jX.mk (jM.mk rx ry rz) (jK.mk ra rb rc rd) rf (jZ.mk ru rv))))
 refine jN Tryz.func47 rfl cb47 rfl ?_
 show uT _ _ _ _ ⟨[(0, (.d y1)), (1, (vb right)), (2, (.d (jI (jS.mk (jB x) (jB y)))))], []⟩
 refine jA <| kx [(3, (.ref 0 0)), (5, (.ref 1 0)), (6, (.ref 2 0))] [(0, some (bx y1)), (1, some (bx (jI (jS.mk (jB x) (jB y))))), (2, some y2)] (zN (uX 0) <| zN (uX 1) <| zN (qS 2 xN xL) <| zM <| zZ) ?_
 refine jA <| kx [(8, (.d (.cptr 1000001 (qH.cells (yZ (RRp.mk (jX.mk (jM.mk lx ly lz) (jK.mk la lb lc ld) lf (jZ.mk lu lv)) (jX.mk (jM.mk rx ry rz) (jK.mk ra rb rc rd) rf (jZ.mk ru rv)) (A3.mk (jB b0) (jB b1) (jB b2)) (A3.mk (A3.mk (jB e00) (jB e01) (jB e02)) (A3.mk (jB e10) (jB e11) (jB e12)) (A3.mk (jB e20) (jB e21) (jB e22)))))) 0))), (9, (vi 0))] [] (zR (kC gV) <| zE (kA (q_rec lx ly lz la lb lc ld lf lu lv rx ry rz ra rb rc rd rf ru rv b0 b1 b2 e00 e01 e02 e10 e11 e12 e20 e21 e22 hF uR uP uQ kM kK kL kO kP kN kH kG kI hl hr hup)) <| zM <| zE uH <| zE uH <| zM <| zM <| zZ) ?_
 refine jA <| jA <| kx [(18, (vb false))] [] (zM <| zE eI <| zZ) ?_
 refine kY ?_
 refine jE <| jA <| jA <| kx [(23, (vb false))] [] (zR (kC qN) <| zE (kA (q_canT x y (qu hx) (qu hy))) <| zE dV <| zZ) ?_
 refine kY ?_
 refine jE <| jA ?_
 have bn1 : QL d0 18411 := (jW (Eq.symm hd0) (kR (k := 18411) (kR (k := 15605) (jH (k := 7802) kM (kF (k := 7402) hx (jL (n := 400) (k := 2402) kM kK kL kM kK kL (by decide)) (by decide)) (by decide)) (jH (k := 7802) kO (kF (k := 7402) hy (jL (n := 400) (k := 2402) kO kP kN kO kP kN (by decide)) (by decide)) (by decide)) (by decide)) (jH (k := 2805) kH (kF (k := 2405) (kQ (z := 1) (n := 3) (jO (by decide) (by decide)) (by decide)) (jL (n := 400) (k := 2402) kH kG kI kH kG kI (by decide)) (by decide)) (by decide)) (by decide)))
 have bn2 : QL d1 18411 := (jW (Eq.symm hd1) (kR (k := 18411) (kR (k := 15605) (jH (k := 7802) kK (kF (k := 7402) hx (jL (n := 400) (k := 2402) kM kK kL kM kK kL (by decide)) (by decide)) (by decide)) (jH (k := 7802) kP (kF (k := 7402) hy (jL (n := 400) (k := 2402) kO kP kN kO kP kN (by decide)) (by decide)) (by decide)) (by decide)) (jH (k := 2805) kG (kF (k := 2405) (kQ (z := 1) (n := 3) (jO (by decide) (by decide)) (by decide)) (jL (n := 400) (k := 2402) kH kG kI kH kG kI (by decide)) (by decide)) (by decide)) (by decide)))
 have bn3 : QL d2 18411 := (jW (Eq.symm hd2) (kR (k := 18411) (kR (k := 15605) (jH (k := 7802) kL (kF (k := 7402) hx (jL (n := 400) (k := 2402) kM kK kL kM kK kL (by decide)) (by decide)) (by decide)) (jH (k := 7802) kN (kF (k := 7402) hy (jL (n := 400) (k := 2402) kO kP kN kO kP kN (by decide)) (by decide)) (by decide)) (by decide)) (jH (k := 2805) kI (kF (k := 2405) (kQ (z := 1) (n := 3) (jO (by decide) (by decide)) (by decide)) (jL (n := 400) (k := 2402) kH kG kI kH kG kI (by decide)) (by decide)) (by decide)) (by decide)))
 refine kx [(10, (.ref 3 0)), (11, (vb false))] [(3, some y2)] (zM <| zM <| zR (kC qN) <| zE (kA (q_unmN lx ly lz la lb lc ld lf lu lv rx ry rz ra rb rc rd rf ru rv b0 b1 b2 e00 e01 e02 e10 e11 e12 e20 e21 e22 uR uP uQ kM kK kL kO kP kN kH kG kI right x y (qu hx) (qu hy) tx ty tz ta tb tc td tf tu tv d0 hd0 d1 hd1 d2 hd2 hz0 hz1 hz2 hsd hst hs2)) <| zM <| zE uH <| zE uH <| zN (qS 3 xN xL) <| zT (qB qN) <| zM <| zZ) ?_
 refine jA <| jA <| kx [(33, (vb true))] [] (zM <| zE dV <| zZ) ?_
 refine kS ?_
 refine jA <| kx [(7, (kX 20))] [(2, some y2)] (zE (fK pl56 xN xL) <| zT (qB qN) <| zM <| zZ) ?_
 refine jJ ⟨_, (qI (cs := (bx (jI (jS.mk (jQ.mk (jF.mk false []) (jF.mk false [])) (jQ.mk (jF.mk false []) (jF.mk false [])))))) (d := (jI (jS.mk (jQ.mk (jF.mk false []) (jF.mk false [])) (jQ.mk (jF.mk false []) (jF.mk false []))))) rfl rfl qN rfl rfl (.tmp (d := (.val (.int .i64 (((20 : Nat) : Int))))) rfl .nil)), ?_⟩
 rfl
theorem q_unmap (lx ly lz la lb lc ld lf lu lv rx ry rz ra rb rc rd rf ru rv : Int) (right : Bool) (x y : Rat) (hx : QL x 5000) (hy : QL y 5000) (b0 b1 b2 e00 e01 e02 e10 e11 e12 e20 e21 e22 : Rat) (hF : RFr lx ly lz la lb lc ld rx ry rz ra rb rc rd b0 b1 b2 e00 e01 e02 e10 e11 e12 e20 e21 e22) (uR : QL b0 3) (uP : QL b1 3) (uQ : QL b2 3) (kM : QL e00 400) (kK : QL e01 400) (kL : QL e02 400) (kO : QL e10 400) (kP : QL e11 400) (kN : QL e12 400) (kH : QL e20 400) (kG : QL e21 400) (kI : QL e22 400) (tx ty tz ta tb tc td tf tu tv : Int) (d0 : Rat) (hd0 : (((e00 * (x / (jD e00 e01 e02 e00 e01 e02))) + (e10 * (y / (jD e10 e11 e12 e10 e11 e12)))) + (e20 * (((1 : Int) : Rat) / (jD e20 e21 e22 e20 e21 e22)))) = d0) (d1 : Rat) (hd1 : (((e01 * (x / (jD e00 e01 e02 e00 e01 e02))) + (e11 * (y / (jD e10 e11 e12 e10 e11 e12)))) + (e21 * (((1 : Int) : Rat) / (jD e20 e21 e22 e20 e21 e22)))) = d1) (d2 : Rat) (hd2 : (((e02 * (x / (jD e00 e01 e02 e00 e01 e02))) + (e12 * (y / (jD e10 e11 e12 e10 e11 e12)))) + (e22 * (((1 : Int) : Rat) / (jD e20 e21 e22 e20 e21 e22)))) = d2) (hl : qV lx ly lz lu lv lf la lb lc ld = 0) (hr : qV rx ry rz ru rv rf ra rb rc rd = 0) (hup : upV la lb lc ld ra rb rc rd b0 b1 b2 = false) (hsd : (bif right then (jX.mk (jM.mk rx ry rz) (jK.mk ra rb rc rd) rf (jZ.mk ru rv)) else (jX.mk (jM.mk lx ly lz) (jK.mk la lb lc ld) lf (jZ.mk lu lv))) = (jX.mk (jM.mk tx ty tz) (jK.mk ta tb tc td) tf (jZ.mk tu tv))) (hst : qV tx ty tz tu tv tf ta tb tc td = 0) (hs2 : ¬ (vJ (jD (uL ta tb tc td) (uN ta tb tc td) (uO ta tb tc td) d0 d1 d2)) ≤ 0) : kE Tryz.prog 47 [(qA (kV.mk (jX.mk (jM.mk lx ly lz) (jK.mk la lb lc ld) lf (jZ.mk lu lv)) (jX.mk (jM.mk rx ry rz) (jK.mk ra rb rc rd) rf (jZ.mk ru rv)))), (.val (.bool (right))), (jI (jS.mk (jB x) (jB y)))] (.tup [(jI (jS.mk (jB (((tu : Int) : Rat) + ((((tf : Int) : Rat) * (jD (vY ta tb tc td) (xA ta tb tc td) (xD ta tb tc td) d0 d1 d2)) / (jD (uL ta tb tc td) (uN ta tb tc td) (uO ta tb tc td) d0 d1 d2)))) (jB (((tv : Int) : Rat) + ((((tf : Int) : Rat) * (jD (vX ta tb tc td) (xB ta tb tc td) (xF ta tb tc td) d0 d1 d2)) / (jD (uL ta tb tc td) (uN ta tb tc td) (uO ta tb tc td) d0 d1 d2)))))), (.val (.int .i64 (0)))]) := by
 have hbl := uB hl
 have hbr := uB hr
 obtain ⟨hlx, hly, hlz, hlu, hlv, hlf, hlq⟩ := hbl
 obtain ⟨hrx, hry, hrz, hru, hrv, hrf, hrq⟩ := hbr
 obtain ⟨hla, hlb, hlc, hld, -⟩ := uA hlq
 obtain ⟨hra, hrb, hrc, hrd, -⟩ := uA hrq
 have hnl := xV hla hlb hlc hld
 have hnr := xV hra hrb hrc hrd
 have hz0 := dK hF hup
 have hz1 := dR hF hup
 have hz2 := eD hF hup
 obtain ⟨htx, hty, htz, htu, htv, htf, htq⟩ := uB hst
 obtain ⟨hta, htb, htc, htd, -⟩ := uA htq
 have hnt := xV hta htb htc htd
 let y2 := (qA (kV.mk (jX.mk (jM.mk lx ly lz) (jK.mk la lb lc ld) lf (jZ.mk lu lv)) (jX.mk (jM.mk rx ry rz) (jK.mk ra rb rc rd) rf (jZ.mk ru rv))))
 let y1 := (bx (jI (jS.mk (jB (((tu : Int) : Rat) + ((((tf : Int) : Rat) * (jD (vY ta tb tc td) (xA ta tb tc td) (xD ta tb tc td) d0 d1 d2)) / (jD (uL ta tb tc td) (uN ta tb tc td) (uO ta tb tc td) d0 d1 d2)))) (jB (((tv : Int) : Rat) + ((((tf : Int) : Rat) * (jD (vX ta tb tc td) (xB ta tb tc td) (xF ta tb tc td) d0 d1 d2)) / (jD (uL ta tb tc td) (uN ta tb tc td) (uO ta tb tc td) d0 d1 d2)))))))
 refine jN Tryz.func47 rfl cb47 rfl ?_
 show uT _ _ _ _ ⟨[(0, (.d y2)), (1, (vb right)), (2, (.d (jI (jS.mk (jB x) (jB y)))))], []⟩
 refine jA <| kx [(3, (.ref 0 0)), (5, (.ref 1 0)), (6, (.ref 2 0))] [(0, some (bx y2)), (1, some (bx (jI (jS.mk (jB x) (jB y))))), (2, some (bx (jI (jS.mk (jQ.mk (jF.mk false []) (jF.mk false [])) (jQ.mk (jF.mk false []) (jF.mk false []))))))] (zN (uX 0) <| zN (uX 1) <| zN (qS 2 xN xL) <| zM <| zZ) ?_
 refine jA <| kx [(8, (.d (.cptr 1000001 (qH.cells (yZ (RRp.mk (jX.mk (jM.mk lx ly lz) (jK.mk la lb lc ld) lf (jZ.mk lu lv)) (jX.mk (jM.mk rx ry rz) (jK.mk ra rb rc rd) rf (jZ.mk ru rv)) (A3.mk (jB b0) (jB b1) (jB b2)) (A3.mk (A3.mk (jB e00) (jB e01) (jB e02)) (A3.mk (jB e10) (jB e11) (jB e12)) (A3.mk (jB e20) (jB e21) (jB e22)))))) 0))), (9, (vi 0))] [] (zR (kC gV) <| zE (kA (q_rec lx ly lz la lb lc ld lf lu lv rx ry rz ra rb rc rd rf ru rv b0 b1 b2 e00 e01 e02 e10 e11 e12 e20 e21 e22 hF uR uP uQ kM kK kL kO kP kN kH kG kI hl hr hup)) <| zM <| zE uH <| zE uH <| zM <| zM <| zZ) ?_
 refine jA <| jA <| kx [(18, (vb false))] [] (zM <| zE eI <| zZ) ?_
 refine kY ?_
 refine jE <| jA <| jA <| kx [(23, (vb false))] [] (zR (kC qN) <| zE (kA (q_canT x y (qu hx) (qu hy))) <| zE dV <| zZ) ?_
 refine kY ?_
 refine jE <| jA ?_
 have bn1 : QL d0 18411 := (jW (Eq.symm hd0) (kR (k := 18411) (kR (k := 15605) (jH (k := 7802) kM (kF (k := 7402) hx (jL (n := 400) (k := 2402) kM kK kL kM kK kL (by decide)) (by decide)) (by decide)) (jH (k := 7802) kO (kF (k := 7402) hy (jL (n := 400) (k := 2402) kO kP kN kO kP kN (by decide)) (by decide)) (by decide)) (by decide)) (jH (k := 2805) kH (kF (k := 2405) (kQ (z := 1) (n := 3) (jO (by decide) (by decide)) (by decide)) (jL (n := 400) (k := 2402) kH kG kI kH kG kI (by decide)) (by decide)) (by decide)) (by decide)))
 have bn2 : QL d1 18411 := (jW (Eq.symm hd1) (kR (k := 18411) (kR (k := 15605) (jH (k := 7802) kK (kF (k := 7402) hx (jL (n := 400) (k := 2402) kM kK kL kM kK kL (by decide)) (by decide)) (by decide)) (jH (k := 7802) kP (kF (k := 7402) hy (jL (n := 400) (k := 2402) kO kP kN kO kP kN (by decide)) (by decide)) (by decide)) (by decide)) (jH (k := 2805) kG (kF (k := 2405) (kQ (z := 1) (n := 3) (jO (by decide) (by decide)) (by decide)) (jL (n := 400) (k := 2402) kH kG kI kH kG kI (by decide)) (by decide)) (by decide)) (by decide)))
 have bn3 : QL d2 18411 := (jW (Eq.symm hd2) (kR (k := 18411) (kR (k := 15605) (jH (k := 7802) kL (kF (k := 7402) hx (jL (n := 400) (k := 2402) kM kK kL kM kK kL (by decide)) (by decide)) (by decide)) (jH (k := 7802) kN (kF (k := 7402) hy (jL (n := 400) (k := 2402) kO kP kN kO kP kN (by decide)) (by decide)) (by decide)) (by decide)) (jH (k := 2805) kI (kF (k := 2405) (kQ (z := 1) (n := 3) (jO (by decide) (by decide)) (by decide)) (jL (n := 400) (k := 2402) kH kG kI kH kG kI (by decide)) (by decide)) (by decide)) (by decide)))
 have bn4 : QL (((tu : Int) : Rat) + ((((tf : Int) : Rat) * (jD (vY ta tb tc td) (xA ta tb tc td) (xD ta tb tc td) d0 d1 d2)) / (jD (uL ta tb tc td) (uN ta tb tc td) (uO ta tb tc td) d0 d1 d2))) 220943 := (kR (k := 220943) (qi tu) (kF (k := 220939) (jH (k := 110471) (qi tf) (jL (n := 18411) (k := 110468) (kJ (cY) (by decide)) (kJ (cT) (by decide)) (kJ (cO) (by decide)) bn1 bn2 bn3 (by decide)) (by decide)) (jL (n := 18411) (k := 110468) (kJ (nV) (by decide)) (kJ (nW) (by decide)) (kJ (nT) (by decide)) bn1 bn2 bn3 (by decide)) (by decide)) (by decide))
 have bn5 : QL (((tv : Int) : Rat) + ((((tf : Int) : Rat) * (jD (vX ta tb tc td) (xB ta tb tc td) (xF ta tb tc td) d0 d1 d2)) / (jD (uL ta tb tc td) (uN ta tb tc td) (uO ta tb tc td) d0 d1 d2))) 220943 := (kR (k := 220943) (qi tv) (kF (k := 220939) (jH (k := 110471) (qi tf) (jL (n := 18411) (k := 110468) (kJ (dC) (by decide)) (kJ (dB) (by decide)) (kJ (cX) (by decide)) bn1 bn2 bn3 (by decide)) (by decide)) (jL (n := 18411) (k := 110468) (kJ (nV) (by decide)) (kJ (nW) (by decide)) (kJ (nT) (by decide)) bn1 bn2 bn3 (by decide)) (by decide)) (by decide))
 refine kx [(10, (.ref 3 0)), (11, (vb true))] [(3, some y1)] (zM <| zM <| zR (kC qN) <| zE (kA (q_unm lx ly lz la lb lc ld lf lu lv rx ry rz ra rb rc rd rf ru rv b0 b1 b2 e00 e01 e02 e10 e11 e12 e20 e21 e22 uR uP uQ kM kK kL kO kP kN kH kG kI right x y (qu hx) (qu hy) tx ty tz ta tb tc td tf tu tv d0 hd0 d1 hd1 d2 hd2 hz0 hz1 hz2 hsd hst hs2)) <| zM <| zE uH <| zE uH <| zN (qS 3 xN xL) <| zT (qB qN) <| zM <| zZ) ?_
 refine jA <| jA <| kx [(33, (vb false))] [] (zM <| zE dV <| zZ) ?_
 refine kY ?_
 refine jE <| jA <| kx [(7, (kX 0))] [(2, some y1)] (zR (kC qN) <| zT (qB qN) <| zM <| zZ) ?_
 refine jJ ⟨_, (qI (cs := (bx (jI (jS.mk (jB (((tu : Int) : Rat) + ((((tf : Int) : Rat) * (jD (vY ta tb tc td) (xA ta tb tc td) (xD ta tb tc td) d0 d1 d2)) / (jD (uL ta tb tc td) (uN ta tb tc td) (uO ta tb tc td) d0 d1 d2)))) (jB (((tv : Int) : Rat) + ((((tf : Int) : Rat) * (jD (vX ta tb tc td) (xB ta tb tc td) (xF ta tb tc td) d0 d1 d2)) / (jD (uL ta tb tc td) (uN ta tb tc td) (uO ta tb tc td) d0 d1 d2)))))))) (d := (jI (jS.mk (jB (((tu : Int) : Rat) + ((((tf : Int) : Rat) * (jD (vY ta tb tc td) (xA ta tb tc td) (xD ta tb tc td) d0 d1 d2)) / (jD (uL ta tb tc td) (uN ta tb tc td) (uO ta tb tc td) d0 d1 d2)))) (jB (((tv : Int) : Rat) + ((((tf : Int) : Rat) * (jD (vX ta tb tc td) (xB ta tb tc td) (xF ta tb tc td) d0 d1 d2)) / (jD (uL ta tb tc td) (uN ta tb tc td) (uO ta tb tc td) d0 d1 d2))))))) rfl rfl qN rfl rfl (.tmp (d := (.val (.int .i64 (((0 : Nat) : Int))))) rfl .nil)), ?_⟩
 rfl
theorem q_prj (lx ly lz la lb lc ld lf lu lv rx ry rz ra rb rc rd rf ru rv : Int) (px py pz : Int) (hpx : -1048576 ≤ px ∧ px ≤ 1048576) (hpy : -1048576 ≤ py ∧ py ≤ 1048576) (hpz : -1048576 ≤ pz ∧ pz ≤ 1048576) (b0 b1 b2 e00 e01 e02 e10 e11 e12 e20 e21 e22 : Rat) (hF : RFr lx ly lz la lb lc ld rx ry rz ra rb rc rd b0 b1 b2 e00 e01 e02 e10 e11 e12 e20 e21 e22) (uR : QL b0 3) (uP : QL b1 3) (uQ : QL b2 3) (kM : QL e00 400) (kK : QL e01 400) (kL : QL e02 400) (kO : QL e10 400) (kP : QL e11 400) (kN : QL e12 400) (kH : QL e20 400) (kG : QL e21 400) (kI : QL e22 400) (r0 : Rat) (hr0 : ((px - lx : Int) : Rat) = r0) (r1 : Rat) (hr1 : ((py - ly : Int) : Rat) = r1) (r2 : Rat) (hr2 : ((pz - lz : Int) : Rat) = r2) (hl : qV lx ly lz lu lv lf la lb lc ld = 0) (hr : qV rx ry rz ru rv rf ra rb rc rd = 0) (hup : upV la lb lc ld ra rb rc rd b0 b1 b2 = false) (hd : ¬ (vJ (jD e20 e21 e22 r0 r1 r2)) ≤ 0) : kE Tryz.prog 29 [(qA (kV.mk (jX.mk (jM.mk lx ly lz) (jK.mk la lb lc ld) lf (jZ.mk lu lv)) (jX.mk (jM.mk rx ry rz) (jK.mk ra rb rc rd) rf (jZ.mk ru rv)))), (eQ (jM.mk px py pz))] (.tup [(jI (jS.mk (jB ((jD e00 e01 e02 r0 r1 r2) / (jD e20 e21 e22 r0 r1 r2))) (jB ((jD e10 e11 e12 r0 r1 r2) / (jD e20 e21 e22 r0 r1 r2))))), (jR (jB ((jD e00 e01 e02 b0 b1 b2) / (jD e20 e21 e22 r0 r1 r2)))), (.val (.int .i64 (0)))]) := by
 have hbl := uB hl
 have hbr := uB hr
 obtain ⟨hlx, hly, hlz, hlu, hlv, hlf, hlq⟩ := hbl
 obtain ⟨hrx, hry, hrz, hru, hrv, hrf, hrq⟩ := hbr
 obtain ⟨hla, hlb, hlc, hld, -⟩ := uA hlq
 obtain ⟨hra, hrb, hrc, hrd, -⟩ := uA hrq
 have hnl := xV hla hlb hlc hld
 have hnr := xV hra hrb hrc hrd
 have hz0 := dK hF hup
 have hz1 := dR hF hup
 have hz2 := eD hF hup
 let y3 := (jQ.mk (jF.mk false []) (jF.mk false []))
 let y2 := (qA (kV.mk (jX.mk (jM.mk lx ly lz) (jK.mk la lb lc ld) lf (jZ.mk lu lv)) (jX.mk (jM.mk rx ry rz) (jK.mk ra rb rc rd) rf (jZ.mk ru rv))))
 let y1 := (yZ (RRp.mk (jX.mk (jM.mk lx ly lz) (jK.mk la lb lc ld) lf (jZ.mk lu lv)) (jX.mk (jM.mk rx ry rz) (jK.mk ra rb rc rd) rf (jZ.mk ru rv)) (A3.mk (jB b0) (jB b1) (jB b2)) (A3.mk (A3.mk (jB e00) (jB e01) (jB e02)) (A3.mk (jB e10) (jB e11) (jB e12)) (A3.mk (jB e20) (jB e21) (jB e22)))))
 refine jN Tryz.func29 rfl cb29 rfl ?_
 show uT _ _ _ _ ⟨[(0, (.d y2)), (1, (.d (eQ (jM.mk px py pz))))], []⟩
 refine jA <| kx [(2, (.ref 0 0)), (3, (.ref 1 0)), (4, (.ref 2 0)), (5, (.ref 3 0))] [(0, some (bx y2)), (1, some (bx (eQ (jM.mk px py pz)))), (2, some (bx (jI (jS.mk y3 y3)))), (3, some (bx (jR y3)))] (zN (uX 0) <| zN (uX 1) <| zN (qS 2 xN xL) <| zN (qS 3 qR qY) <| zM <| zZ) ?_
 refine jA <| kx [(7, (.d (.cptr 1000001 (qH.cells y1) 0))), (8, (vi 0))] [] (zR (kC gV) <| zE (kA (q_rec lx ly lz la lb lc ld lf lu lv rx ry rz ra rb rc rd rf ru rv b0 b1 b2 e00 e01 e02 e10 e11 e12 e20 e21 e22 hF uR uP uQ kM kK kL kO kP kN kH kG kI hl hr hup)) <| zM <| zE uH <| zE uH <| zM <| zM <| zZ) ?_
 refine jA <| jA <| kx [(23, (vb false))] [] (zM <| zE eI <| zZ) ?_
 refine kY ?_
 refine jE <| jA <| jA <| kx [(33, (vl 3 1 mC [px, py, pz])), (34, (kX 3)), (35, (kX 0))] [] (zE (qE mV) <| zR (vD vQ) <| zE (qE cN) <| zR (vD vQ) <| zE (qE cL) <| zR (vD vQ) <| zE (cH gU ze3 zo3) <| zE (oLn gU 3) <| zM <| zZ) ?_
 refine jG <| qU 20 ?_
 refine uF <| jA <| kx [(36, (vb true))] [] (zE (vB true uW) <| zZ) ?_
 refine jA <| kS ?_
 refine jE <| jA <| jG <| jA <| kx [(10, (vi px))] [] (zE (gL gU 0) <| zE (gA vQ) <| zM <| zZ) ?_
 refine jA <| kx [(44, (vb false))] [] (zM <| zE (vB false uW (by exact decide_eq_false (by omega))) <| zM <| zM <| zE (vB false aG (by exact decide_eq_false (by omega))) <| zE oPf <| zZ) ?_
 refine kY ?_
 refine jE <| kx [(35, (kX 1))] [] (zE (uZ 1 (hr := by decide)) <| zM <| zZ) ?_
 refine jV (kU.refl _) ?_
 refine jA <| kx [(36, (vb true))] [] (zE (vB true uW) <| zZ) ?_
 refine jA <| kS ?_
 refine jE <| jA <| jG <| jA <| kx [(10, (vi py))] [] (zE (gL gU 1) <| zE (gA vQ) <| zM <| zZ) ?_
 refine jA <| kx [(44, (vb false))] [] (zM <| zE (vB false uW (by exact decide_eq_false (by omega))) <| zM <| zM <| zE (vB false aG (by exact decide_eq_false (by omega))) <| zE oPf <| zZ) ?_
 refine kY ?_
 refine jE <| kx [(35, (kX 2))] [] (zE (uZ 2 (hr := by decide)) <| zM <| zZ) ?_
 refine jV (kU.refl _) ?_
 refine jA <| kx [(36, (vb true))] [] (zE (vB true uW) <| zZ) ?_
 refine jA <| kS ?_
 refine jE <| jA <| jG <| jA <| kx [(10, (vi pz))] [] (zE (gL gU 2) <| zE (gA vQ) <| zM <| zZ) ?_
 refine jA <| qM (wk (l := [(3, (.ref 1 0)), (4, (.ref 2 0)), (5, (.ref 3 0)), (7, (.d (.cptr 1000001 (qH.cells y1) 0))), (10, (vi pz)), (33, (vl 3 1 mC [px, py, pz])), (34, (kX 3)), (35, (kX 2))]) (b := [(1, some (bx (eQ (jM.mk px py pz)))), (2, some (bx (jI (jS.mk y3 y3)))), (3, some (bx (jR y3)))])) ?_
 refine kx [(44, (vb false))] [] (zM <| zE (vB false uW (by exact decide_eq_false (by omega))) <| zM <| zM <| zE (vB false aG (by exact decide_eq_false (by omega))) <| zE oPf <| zZ) ?_
 refine kY ?_
 refine jE <| kx [(35, (kX 3))] [] (zE (uZ 3 (hr := by decide)) <| zM <| zZ) ?_
 refine jV (kU.refl _) ?_
 refine jA <| kx [(36, (vb false))] [] (zE (vB false uW) <| zZ) ?_
 refine jA <| kY ?_
 refine qF <| jA <| kx [(11, (.ref 4 0))] [(4, some (bx (eQ (jM.mk lx ly lz))))] (zM <| zE oNd <| zE (oFc fo134_0) <| zE (oFc yP) <| zE (cG sh23) <| zN (qS 4 ze23 zo23) <| zT (qB sh23) <| zZ) ?_
 refine jA ?_
 have bn1 : QL r0 3 := (jW (Eq.symm hr0) (qi (px - lx)))
 have bn2 : QL r1 3 := (jW (Eq.symm hr1) (qi (py - ly)))
 have bn3 : QL r2 3 := (jW (Eq.symm hr2) (qi (pz - lz)))
 have bn4 : QL ((jD e00 e01 e02 r0 r1 r2) / (jD e20 e21 e22 r0 r1 r2)) 4804 := (kF (k := 4804) (jL (n := 400) (k := 2402) kM kK kL (qu bn1) (qu bn2) (qu bn3) (by decide)) (jL (n := 400) (k := 2402) kH kG kI (qu bn1) (qu bn2) (qu bn3) (by decide)) (by decide))
 have bn5 : QL ((jD e10 e11 e12 r0 r1 r2) / (jD e20 e21 e22 r0 r1 r2)) 4804 := (kF (k := 4804) (jL (n := 400) (k := 2402) kO kP kN (qu bn1) (qu bn2) (qu bn3) (by decide)) (jL (n := 400) (k := 2402) kH kG kI (qu bn1) (qu bn2) (qu bn3) (by decide)) (by decide))
 have bn6 : QL (jD e20 e21 e22 r0 r1 r2) 2402 := (jL (n := 400) (k := 2402) kH kG kI (qu bn1) (qu bn2) (qu bn3) (by decide))
 refine kx [(12, (.ref 5 0)), (13, (.ref 6 0)), (14, (vb true))] [(5, some (bx (jI (jS.mk (jB ((jD e00 e01 e02 r0 r1 r2) / (jD e20 e21 e22 r0 r1 r2))) (jB ((jD e10 e11 e12 r0 r1 r2) / (jD e20 e21 e22 r0 r1 r2))))))), (6, some (bx (jR (jB (jD e20 e21 e22 r0 r1 r2)))))] (zM <| zE (qE mV) <| zR (vD vQ) <| zE (qE mV) <| zR (vD vQ) <| zE (fJ (px - lx) (hr := by exact (qX rfl (by simp only [xG]; omega) (by simp only [xJ]; omega)))) <| zE (qE cN) <| zR (vD vQ) <| zE (qE cN) <| zR (vD vQ) <| zE (fJ (py - ly) (hr := by exact (qX rfl (by simp only [xG]; omega) (by simp only [xJ]; omega)))) <| zE (qE cL) <| zR (vD vQ) <| zE (qE cL) <| zR (vD vQ) <| zE (fJ (pz - lz) (hr := by exact (qX rfl (by simp only [xG]; omega) (by simp only [xJ]; omega)))) <| zE (kA (by have h := q_whole (px - lx) (by omega) (by omega) (py - ly) (by omega) (by omega) (pz - lz) (by omega) (by omega); rw [hr0, hr1, hr2] at h; exact h)) <| zE (kA (q_coo lx ly lz la lb lc ld lf lu lv rx ry rz ra rb rc rd rf ru rv b0 b1 b2 e00 e01 e02 e10 e11 e12 e20 e21 e22 uR uP uQ kM kK kL kO kP kN kH kG kI r0 r1 r2 (qu bn1) (qu bn2) (qu bn3) hd)) <| zM <| zE uH <| zE uH <| zE uH <| zN (qS 5 xN xL) <| zN (qS 6 qR qY) <| zT (qB qN) <| zT (qB jT) <| zM <| zZ) ?_
 refine jA <| jA <| kx [(76, (vb false))] [] (zM <| zE dV <| zZ) ?_
 refine kY ?_
 refine jE <| jA ?_
 have bn7 : QL (jD e00 e01 e02 b0 b1 b2) 2402 := (jL (n := 400) (k := 2402) kM kK kL (qu uR) (qu uP) (qu uQ) (by decide))
 refine kd [(15, (.ref 7 0))] [(7, some (bx (jR (jB ((jD e00 e01 e02 b0 b1 b2) / (jD e20 e21 e22 r0 r1 r2))))))] mo (wM <| wE oNd <| wE (oFc yJ) <| wE (oXc vH 0) <| wE (cG qO) <| wM <| wE oNd <| wE (oFc fU) <| wE (cG qO) <| wE (kA (q_dot e00 e01 e02 (qu kM) (qu kK) (qu kL) b0 b1 b2 (qu uR) (qu uP) (qu uQ))) <| wR (kC jT) <| wE (kA (by have h := fD (jB (jD e00 e01 e02 b0 b1 b2)) (jB (jD e20 e21 e22 r0 r1 r2)) (jD e00 e01 e02 b0 b1 b2) (jD e20 e21 e22 r0 r1 r2) (jU (kD bn7) (by decide)) (jU (kD bn6) (by decide)); rw [nD (hH hd), nC (hH hd)] at h; exact h)) <| wM <| wE uH <| wE uH <| wN (qS 7 qR qY) <| wT (qB jT) <| wM <| wZ) ?_
 refine jA <| kd [(6, (kX 0))] [(2, some (bx (jI (jS.mk (jB ((jD e00 e01 e02 r0 r1 r2) / (jD e20 e21 e22 r0 r1 r2))) (jB ((jD e10 e11 e12 r0 r1 r2) / (jD e20 e21 e22 r0 r1 r2))))))), (3, some (bx (jR (jB ((jD e00 e01 e02 b0 b1 b2) / (jD e20 e21 e22 r0 r1 r2))))))] mo (wR (kC qN) <| wR (kC jT) <| wT (qB qN) <| wT (qB jT) <| wM <| wZ) ?_
 refine jJ ⟨_, (qI (cs := (bx (jI (jS.mk (jB ((jD e00 e01 e02 r0 r1 r2) / (jD e20 e21 e22 r0 r1 r2))) (jB ((jD e10 e11 e12 r0 r1 r2) / (jD e20 e21 e22 r0 r1 r2))))))) (d := (jI (jS.mk (jB ((jD e00 e01 e02 r0 r1 r2) / (jD e20 e21 e22 r0 r1 r2))) (jB ((jD e10 e11 e12 r0 r1 r2) / (jD e20 e21 e22 r0 r1 r2)))))) rfl rfl qN rfl rfl (qI (cs := (bx (jR (jB ((jD e00 e01 e02 b0 b1 b2) / (jD e20 e21 e22 r0 r1 r2)))))) (d := (jR (jB ((jD e00 e01 e02 b0 b1 b2) / (jD e20 e21 e22 r0 r1 r2))))) rfl rfl jT rfl rfl (.tmp (d := (.val (.int .i64 (((0 : Nat) : Int))))) rfl .nil))), ?_⟩
 rfl
end Go.Proofs.YtbecgnplakngdaaGreat
