/- Part 34 of a proof: rules, plain facts, and functions walked. -/
import Derived.Test.YtnajallgoaiahaaGreatDoorM17
import Derived.Test.YtnajallgoaiahaaGreatDoorM18
import Derived.Test.YtnajallgoaiahaaGreatDoorM22
import Derived.Test.YtnajallgoaiahaaGreatDoorM10
import Derived.Test.YtnajallgoaiahaaGreatDoorM33
import Derived.Test.YtnajallgoaiahaaGreatDoorM28
import Derived.Test.YtnajallgoaiahaaGreatDoorM27
import Derived.Test.YtnajallgoaiahaaGreatDoorM31
set_option linter.all false
set_option maxRecDepth 4000
namespace Go.Proofs.YtnajallgoaiahaaGreatDoor
open Go.Fid
theorem cb148:callB Tryz.prog 148=true:=by kernel_rfl
theorem cb228:callB Tryz.prog 228=true:=by kernel_rfl
theorem f_counted(x:kU)(a:Int)(hx:gC x a 68719476736):jP Tryz.prog 228 [(jO x)] (jO (kH a)):=by
 refine jI Tryz.func228 rfl cb228 rfl ?_
 show qJ _ _ _ _ ⟨[(0,(.d (jO x)))],[]⟩
 refine jB<|kx [(1,(.ref 0 0)),(2,(.ref 1 0))] [(0,some (bx (jO x))),(1,some (bx (jO (kU.mk false []))))] (zN (vW 0)<|zN (uF 1 yN yL)<|zZ) ?_
 refine jB<|jB<|kx [(4,(vb (uP x)))] [] (zR (kM jY)<|zE (jX (t_valid x (Nat.le_trans hx.l (by decide))))<|zZ) ?_
 refine jF (b:=(uP x)) rfl (fun h1=>?_) (fun h1=>?_)
 ·refine jB<|kx [] [(1,some (bx (jO x)))] (zR (kM jY)<|zT (qK jY)<|zZ) ?_
  refine jE ⟨_,(kN (cs:=(bx (jO x))) (d:=(jO x)) rfl rfl jY rfl rfl .nil),?_⟩
  rw[← hx.v,ofZ_toZ h1];rfl
 ·refine jD<|jB<|kx [] [(1,some (bx (jO (kH 0))))] (zE (jX (t_of 0 (by decide) (by decide)))<|zT (qK jY)<|zZ) ?_
  refine jE ⟨_,(kN (cs:=(bx (jO (kH 0)))) (d:=(jO (kH 0))) rfl rfl jY rfl rfl .nil),?_⟩
  rw[← hx.v,toZ_bad h1,ofZ_zero];rfl
theorem f_newO(num:kU)(a:Int)(aP:gC num a 68719476736)(den:kU)(b:Int)(eY:gC den b 68719476736)(hb:b≠0):jP Tryz.prog 148 [(jO num),(jO den)] (.tup [(jK (jQ (Rat.divInt a b))),(.val (.int .i64 (0)))]):=by
 refine jI Tryz.func148 rfl cb148 rfl ?_
 show qJ _ _ _ _ ⟨[(0,(.d (jO num))),(1,(.d (jO den)))],[]⟩
 refine jB<|kx [(2,(.ref 0 0)),(3,(.ref 1 0)),(4,(.ref 2 0))] [(0,some (bx (jO num))),(1,some (bx (jO den))),(2,some (bx (jK qH)))] (zN (vW 0)<|zN (vW 1)<|zN (uF 2 uG uQ)<|zM<|zZ) ?_
 refine jB<|kd [] [(0,some (bx (jO (kH a)))),(1,some (bx (jO (kH b))))] mo (wR (kM jY)<|wE (jX (f_counted num a aP))<|wR (kM jY)<|wE (jX (f_counted den b eY))<|wT (qK jY)<|wT (qK jY)<|wZ) ?_
 refine jB<|jB<|kx [(12,(vb false))] [] (zR (kM jY)<|zE (jX (s_sign (mW (gC.ln eY)) (by decide)))<|zE (vZ false gD (by exact beq_eq_false_iff_ne.2 (signI_ne hb)))<|zZ) ?_
 refine kS ?_
 refine jD<|jB<|kx [(5,(jR 0))] [(2,some (bx (jK (jQ (Rat.divInt a b)))))] (zR (kM jY)<|zR (kM jY)<|zE (jX (cM (kH a) (kH b) a b (mW (gC.ln aP)) (mW (gC.ln eY)) (by assumption)))<|zT (qK jT)<|zM<|zZ) ?_
 refine jE ⟨_,(kN (cs:=(bx (jK (jQ (Rat.divInt a b))))) (d:=(jK (jQ (Rat.divInt a b)))) rfl rfl jT rfl rfl (.tmp (d:=(.val (.int .i64 (0)))) rfl .nil)),?_⟩
 rfl
theorem cb32:callB Tryz.prog 32=true:=by kernel_rfl
theorem cb88:callB Tryz.prog 88=true:=by kernel_rfl
theorem i_ptC(p:Rat)(hp:QL p 200):jP Tryz.prog 89 [(jK (jQ p))] (.tup [(jJ (jZ.mk (jQ p) (jQ p))),(.val (.int .i64 (((0:Nat):Int))))]):=by
 refine jI Tryz.func89 rfl cb89 rfl ?_
 show qJ _ _ _ _ ⟨[(0,(.d (jK (jQ p))))],[]⟩
 refine jB<|kx [(1,(.ref 0 0)),(2,(.ref 1 0))] [(0,some (bx (jK (jQ p)))),(1,some (bx (jJ (jZ.mk qH qH))))] (zN (vW 0)<|zN (uF 1 uH uR)<|zM<|zZ) ?_
 refine jB<|kx [(3,(vi 0))] [(1,some (bx (jJ (jZ.mk (jQ p) (jQ p)))))] (zR (kM jT)<|zR (kM jT)<|zE (jX (i_makeO (jQ p) p (jV (kG hp) (by decide)) (jQ p) p (jV (kG hp) (by decide)) (by rw[nO];rfl) (Rat.le_refl (a:=p))))<|zE xD<|zE xD<|zT (qK kI)<|zM<|zZ) ?_
 refine jE ⟨_,(kN (cs:=(bx (jJ (jZ.mk (jQ p) (jQ p))))) (d:=(jJ (jZ.mk (jQ p) (jQ p)))) rfl rfl kI rfl rfl (.tmp (d:=(.val (.int .i64 (0)))) rfl .nil)),?_⟩
 rfl
theorem p_of(n:Int)(hnl:-9223372036854775808≤n)(hnh:n≤9223372036854775807)(d:Int)(hdl:-9223372036854775808≤d)(hdh:d≤9223372036854775807)(hd:d≠0):jP Tryz.prog 88 [(.val (.int .i64 (n))),(.val (.int .i64 (d)))] (.tup [(jK (jQ (Rat.divInt n d))),(.val (.int .i64 (0)))]):=by
 refine jI Tryz.func88 rfl cb88 rfl ?_
 show qJ _ _ _ _ ⟨[(0,(vi n)),(1,(vi d))],[]⟩
 refine jB<|kx [(4,(.ref 0 0))] [(0,some (bx (jK qH)))] (zN (uF 0 uG uQ)<|zM<|zZ) ?_
 refine jB<|kx [(5,(vi 0))] [(0,some (bx (jK (jQ (Rat.divInt n d)))))] (zM<|zE (jX (t_of n (by omega) (by omega)))<|zM<|zE (jX (t_of d (by omega) (by omega)))<|zE (jX (f_newO (kH n) n (nH (iok_int (z:=n) (by omega) (by omega)) (by decide)) (kH d) d (nH (iok_int (z:=d) (by omega) (by omega)) (by decide)) hd))<|zE xD<|zE xD<|zT (qK jT)<|zM<|zZ) ?_
 refine jE ⟨_,(kN (cs:=(bx (jK (jQ (Rat.divInt n d))))) (d:=(jK (jQ (Rat.divInt n d)))) rfl rfl jT rfl rfl (.tmp (d:=(.val (.int .i64 (0)))) rfl .nil)),?_⟩
 rfl
theorem p_ellO(m:List (List jN))(hm:qS 6 m)(i:Nat)(j:Nat)(k:Nat)(hk:k≤512)(hc:yF m=0)(hf:dJ m m.length=0)(hi:i<m.length)(hj:j<m.length)(hij:i≠j):jP Tryz.prog 32 [(.sl 24 1 (List.map jG m)),(.val (.int .i64 (((i:Nat):Int)))),(.val (.int .i64 (((j:Nat):Int)))),(.val (.int .i64 (((k:Nat):Int))))] (.tup [(jJ (jZ.mk (jQ (((Rat.divInt 1 2)*((qM ((m.getD i []).getD i qH))+(qM ((m.getD j []).getD j qH))))+(Rat.divInt (qU (mY (((((Rat.divInt 1 2)*((qM ((m.getD i []).getD i qH))-(qM ((m.getD j []).getD j qH))))*((Rat.divInt 1 2)*((qM ((m.getD i []).getD i qH))-(qM ((m.getD j []).getD j qH)))))+((qM ((m.getD i []).getD j qH))*(qM ((m.getD i []).getD j qH))))*((xV k)*(xV k))))) ((2 ^ k:Nat):Int)))) (jQ (((Rat.divInt 1 2)*((qM ((m.getD i []).getD i qH))+(qM ((m.getD j []).getD j qH))))+(Rat.divInt (upI (((((Rat.divInt 1 2)*((qM ((m.getD i []).getD i qH))-(qM ((m.getD j []).getD j qH))))*((Rat.divInt 1 2)*((qM ((m.getD i []).getD i qH))-(qM ((m.getD j []).getD j qH)))))+((qM ((m.getD i []).getD j qH))*(qM ((m.getD i []).getD j qH))))*((xV k)*(xV k)))) ((2 ^ k:Nat):Int)))))),(jJ (jZ.mk (jQ (((Rat.divInt 1 2)*((qM ((m.getD i []).getD i qH))+(qM ((m.getD j []).getD j qH))))-(Rat.divInt (upI (((((Rat.divInt 1 2)*((qM ((m.getD i []).getD i qH))-(qM ((m.getD j []).getD j qH))))*((Rat.divInt 1 2)*((qM ((m.getD i []).getD i qH))-(qM ((m.getD j []).getD j qH)))))+((qM ((m.getD i []).getD j qH))*(qM ((m.getD i []).getD j qH))))*((xV k)*(xV k)))) ((2 ^ k:Nat):Int)))) (jQ (((Rat.divInt 1 2)*((qM ((m.getD i []).getD i qH))+(qM ((m.getD j []).getD j qH))))-(Rat.divInt (qU (mY (((((Rat.divInt 1 2)*((qM ((m.getD i []).getD i qH))-(qM ((m.getD j []).getD j qH))))*((Rat.divInt 1 2)*((qM ((m.getD i []).getD i qH))-(qM ((m.getD j []).getD j qH)))))+((qM ((m.getD i []).getD j qH))*(qM ((m.getD i []).getD j qH))))*((xV k)*(xV k))))) ((2 ^ k:Nat):Int)))))),(.val (.int .i64 (((0:Nat):Int))))]):=by
 have hmb:=hm.2
 have hrc:=mchk_rect hc
 have hf2:=fit_of hf
 have hri:=(hrc.at hi).1
 have hrj:=(hrc.at hj).1
 have hm64:=hrc.r64
 let y26:=qH
 let y25:=(qM ((m.getD i []).getD j y26))
 let y24:=(qM ((m.getD j []).getD j y26))
 let y23:=(qM ((m.getD i []).getD i y26))
 let y22:=(bx (jJ (jZ.mk y26 y26)))
 let y21:=(y23+y24)
 let y20:=(y25*y25)
 let y19:=(y23-y24)
 let y18:=((Rat.divInt 1 2)*y21)
 let y17:=((Rat.divInt 1 2)*y19)
 let y16:=(jQ y18)
 let y15:=(jQ y17)
 let y14:=(y17*y17)
 let y13:=(y14+y20)
 let y12:=(jQ y13)
 let y11:=(y13*((xV k)*(xV k)))
 let y10:=(Rat.divInt (upI y11) ((2 ^ k:Nat):Int))
 let y9:=(Rat.divInt (qU (mY y11)) ((2 ^ k:Nat):Int))
 let y8:=(y18-y10)
 let y7:=(y18+y10)
 let y6:=(y18-y9)
 let y5:=(y18+y9)
 let y4:=(jJ (jZ.mk (jQ y8) (jQ y6)))
 let y3:=(jJ (jZ.mk (jQ y5) (jQ y7)))
 let y2:=(bx y4)
 let y1:=(bx y3)
 refine jI Tryz.func32 rfl cb32 rfl ?_
 show qJ _ _ _ _ ⟨[(0,(vl 24 1 jG m)),(1,(jR i)),(2,(jR j)),(3,(jR k))],[]⟩
 refine jB<|kx [(8,(.ref 0 0)),(9,(.ref 1 0))] [(0,some y22),(1,some y22)] (zN (uF 0 uH uR)<|zN (uF 1 uH uR)<|zM<|zZ) ?_
 refine jB<|jB<|kx [(31,(vb false))] [] (zM<|zE (jX (m_chk m (yP hm (by decide))))<|zE (vZ false mC (by exact bne_eq_false_iff_eq.2 (by rw[show (yF m)=0 from hc]<;>rfl)))<|zZ) ?_
 refine kS ?_
 refine jD<|jB<|kx [(11,(jR m.length))] [] (zM<|zE (uE uV)<|zM<|zZ) ?_
 refine jB<|jB<|kx [(12,(jR (dJ m m.length)))] [] (zM<|zM<|zE (jX (p_fit m (yP hm (by decide)) m.length (by assumption)))<|zM<|zZ) ?_
 refine jB<|kx [(40,(vb false))] [] (zM<|zE (vZ false mC (by exact bne_eq_false_iff_eq.2 (by rw[show (dJ m m.length)=0 from hf]<;>rfl)))<|zZ) ?_
 refine kS ?_
 refine jD<|jB<|jB<|kx [(72,(vb false))] [] (zM<|zE (vZ false xG (by exact decide_eq_false (show ¬ ((i:Nat):Int)<0 by omega)))<|zM<|zM<|zM<|zE (vZ false oGe (by exact decide_eq_false (show ¬ ((m.length:Nat):Int)≤((i:Nat):Int) by omega)))<|zE xN<|zM<|zM<|zE (vZ false xG (by exact decide_eq_false (show ¬ ((j:Nat):Int)<0 by omega)))<|zE xN<|zM<|zM<|zM<|zE (vZ false oGe (by exact decide_eq_false (show ¬ ((m.length:Nat):Int)≤((j:Nat):Int) by omega)))<|zE xN<|zM<|zM<|zM<|zE (vZ false gD (by exact beq_eq_false_iff_ne.2 (show ((i:Nat):Int)≠((j:Nat):Int) by omega)))<|zE xN<|zM<|zM<|zE (vZ false xG (by exact decide_eq_false (show ¬ ((k:Nat):Int)<0 by omega)))<|zE xN<|zM<|zM<|zE (vZ false mA (by exact decide_eq_false (show ¬ 512<((k:Nat):Int) by omega)))<|zE xN<|zZ) ?_
 refine kS ?_
 refine jD<|jB ?_
 have bn1:QL (Rat.divInt 1 2) 3:=(yH (n:=3) (mJ (by omega) (by omega)) (mJ (by omega) (by omega)) (by decide))
 refine kx [(13,(.ref 2 0))] [(2,some (bx (jK (jQ (Rat.divInt 1 2)))))] (zE (jX (p_of ((1:Nat):Int) (by omega) (by omega) ((2:Nat):Int) (by omega) (by omega) (by decide)))<|zM<|zE xD<|zE xD<|zN (uF 2 uG uQ)<|zT (qK jT)<|zM<|zZ) ?_
 refine jB<|kd [(15,(.ref 3 0)),(16,(.ref 4 0)),(17,(.ref 5 0))] [(3,some (bx (jK ((m.getD i []).getD i y26)))),(4,some (bx (jK ((m.getD i []).getD j y26)))),(5,some (bx (jK ((m.getD j []).getD j y26))))] mo (wM<|wM<|wE (xJ uV i ([]:List (jN)))<|wE (xO gB)<|wM<|wE (xJ qY i y26 (L:=(m.getD i [])))<|wE (nR jT)<|wM<|wM<|wE (xJ uV i ([]:List (jN)))<|wE (xO gB)<|wM<|wE (xJ qY j y26 (L:=(m.getD i [])))<|wE (nR jT)<|wM<|wM<|wE (xJ uV j ([]:List (jN)))<|wE (xO gB)<|wM<|wE (xJ qY j y26 (L:=(m.getD j [])))<|wE (nR jT)<|wN (uF 3 uG uQ)<|wN (uF 4 uG uQ)<|wN (uF 5 uG uQ)<|wT (qK jT)<|wT (qK jT)<|wT (qK jT)<|wZ) ?_
 refine jB ?_
 have bn2:QL y19 13:=(aK (k:=13) (vM (uL (d:=[]) hm (show i<m.length by omega)).1 (show i<(m.getD i []).length by omega)).ql (vM (uL (d:=[]) hm (show j<m.length by omega)).1 (show j<(m.getD j []).length by omega)).ql (by decide))
 refine kd [(18,(.ref 6 0))] [(6,some (bx (jK y15)))] mo (wR (kM jT)<|wR (kM jT)<|wR (kM jT)<|wE (jX (f_sub ((m.getD i []).getD i y26) ((m.getD j []).getD j y26) y23 y24 (jV (vM (uL (d:=[]) hm (show i<m.length by omega)).1 (show i<(m.getD i []).length by omega)) (by decide)) (jV (vM (uL (d:=[]) hm (show j<m.length by omega)).1 (show j<(m.getD j []).length by omega)) (by decide))))<|wE (jX (eN (jQ (Rat.divInt 1 2)) (jQ y19) (Rat.divInt 1 2) y19 (jV (kG bn1) (by decide)) (jV (kG bn2) (by decide))))<|wN (uF 6 uG uQ)<|wT (qK jT)<|wZ) ?_
 refine jB ?_
 have bn3:QL y14 32:=(qP (k:=32) (qP (k:=16) bn1 bn2 (by decide)) (qP (k:=16) bn1 bn2 (by decide)) (by decide))
 have bn4:QL y20 12:=(qP (k:=12) (vM (uL (d:=[]) hm (show i<m.length by omega)).1 (show j<(m.getD i []).length by omega)).ql (vM (uL (d:=[]) hm (show i<m.length by omega)).1 (show j<(m.getD i []).length by omega)).ql (by decide))
 refine kd [(19,(.ref 7 0))] [(7,some (bx (jJ (jZ.mk y12 y12))))] mo (wR (kM jT)<|wR (kM jT)<|wE (jX (eN y15 y15 y17 y17 (jV (kG (qP (k:=16) bn1 bn2 (by decide))) (by decide)) (jV (kG (qP (k:=16) bn1 bn2 (by decide))) (by decide))))<|wR (kM jT)<|wR (kM jT)<|wE (jX (eN ((m.getD i []).getD j y26) ((m.getD i []).getD j y26) y25 y25 (jV (vM (uL (d:=[]) hm (show i<m.length by omega)).1 (show j<(m.getD i []).length by omega)) (by decide)) (jV (vM (uL (d:=[]) hm (show i<m.length by omega)).1 (show j<(m.getD i []).length by omega)) (by decide))))<|wE (jX (f_add (jQ y14) (jQ y20) y14 y20 (jV (kG bn3) (by decide)) (jV (kG bn4) (by decide))))<|wE (jX (i_ptC y13 (vC (mK (k:=45) bn3 bn4 (by decide)) (by decide))))<|wM<|wE xD<|wE xD<|wN (uF 7 uH uR)<|wT (qK kI)<|wM<|wZ) ?_
 refine jB ?_
 have bn5:QL y9 86:=(yH (n:=86) (Nat.le_trans (gC.ln (iok_root (fl_nn (aO (sq2_nn y17 y25))) (fX (k:=86) (qP (k:=85) (mK (k:=45) bn3 bn4 (by decide)) (qP (k:=40) (eJ (k:=k) (by omega)) (eJ (k:=k) (by omega)) (by decide)) (by decide)) (by decide)))) (by decide)) (Nat.le_trans (gC.ln (cW (k:=k) (by omega))) (by decide)) (by decide))
 have bn6:QL y10 87:=(yH (n:=87) (Nat.le_trans (gC.ln (iok_upI (k:=87) (fl_nn (aO (Rat.le_trans (sq2_nn y17 y25) Rat.le_refl))) (fX (k:=86) (qP (k:=85) (mK (k:=45) bn3 bn4 (by decide)) (qP (k:=40) (eJ (k:=k) (by omega)) (eJ (k:=k) (by omega)) (by decide)) (by decide)) (by decide)) (by decide) (by decide))) (by decide)) (Nat.le_trans (gC.ln (cW (k:=k) (by omega))) (by decide)) (by decide))
 refine kx [(21,(.ref 8 0))] [(8,some (bx (jJ (jZ.mk (jQ y9) (jQ y10)))))] (zR (kM kI)<|zM<|zE (jX (di_root y13 y13 (vC (mK (k:=45) bn3 bn4 (by decide)) (by decide)) (vC (mK (k:=45) bn3 bn4 (by decide)) (by decide)) Rat.le_refl k (by omega) (sq2_nn y17 y25)))<|zM<|zE xD<|zE xD<|zN (uF 8 uH uR)<|zT (qK kI)<|zM<|zZ) ?_
 refine jB ?_
 have bn7:QL y21 13:=(mK (k:=13) (vM (uL (d:=[]) hm (show i<m.length by omega)).1 (show i<(m.getD i []).length by omega)).ql (vM (uL (d:=[]) hm (show j<m.length by omega)).1 (show j<(m.getD j []).length by omega)).ql (by decide))
 refine kd [(23,(.ref 9 0))] [(9,some (bx (jJ (jZ.mk y16 y16))))] mo (wR (kM jT)<|wR (kM jT)<|wR (kM jT)<|wE (jX (f_add ((m.getD i []).getD i y26) ((m.getD j []).getD j y26) y23 y24 (jV (vM (uL (d:=[]) hm (show i<m.length by omega)).1 (show i<(m.getD i []).length by omega)) (by decide)) (jV (vM (uL (d:=[]) hm (show j<m.length by omega)).1 (show j<(m.getD j []).length by omega)) (by decide))))<|wE (jX (eN (jQ (Rat.divInt 1 2)) (jQ y21) (Rat.divInt 1 2) y21 (jV (kG bn1) (by decide)) (jV (kG bn7) (by decide))))<|wE (jX (i_ptC y18 (vC (qP (k:=16) bn1 bn7 (by decide)) (by decide))))<|wM<|wE xD<|wE xD<|wN (uF 9 uH uR)<|wT (qK kI)<|wM<|wZ) ?_
 refine jB ?_
 have bn8:QL y5 104:=(mK (k:=104) (qP (k:=16) bn1 bn7 (by decide)) bn5 (by decide))
 have bn9:QL y7 104:=(mK (k:=104) (qP (k:=16) bn1 bn7 (by decide)) bn6 (by decide))
 refine kx [(25,(.ref 10 0))] [(10,some y1)] (zR (kM kI)<|zR (kM kI)<|zE (jX (i_add y18 y18 y9 y10 (vC (qP (k:=16) bn1 bn7 (by decide)) (by decide)) (vC (qP (k:=16) bn1 bn7 (by decide)) (by decide)) (qu bn5) (qu bn6) Rat.le_refl (rt_valid k (sq2_nn y17 y25) Rat.le_refl)))<|zM<|zE xD<|zE xD<|zN (uF 10 uH uR)<|zT (qK kI)<|zM<|zZ) ?_
 refine jB ?_
 have bn10:QL y8 104:=(aK (k:=104) (qP (k:=16) bn1 bn7 (by decide)) bn6 (by decide))
 have bn11:QL y6 104:=(aK (k:=104) (qP (k:=16) bn1 bn7 (by decide)) bn5 (by decide))
 refine kx [(27,(.ref 11 0))] [(11,some y2)] (zR (kM kI)<|zR (kM kI)<|zE (jX (i_sub y18 y18 y9 y10 (vC (qP (k:=16) bn1 bn7 (by decide)) (by decide)) (vC (qP (k:=16) bn1 bn7 (by decide)) (by decide)) (qu bn5) (qu bn6) Rat.le_refl (rt_valid k (sq2_nn y17 y25) Rat.le_refl)))<|zM<|zE xD<|zE xD<|zN (uF 11 uH uR)<|zT (qK kI)<|zM<|zZ) ?_
 refine jB<|kV (wk (l:=[(8,(.ref 0 0)),(9,(.ref 1 0)),(25,(.ref 10 0)),(27,(.ref 11 0))]) (b:=[(0,some y22),(1,some y22),(10,some y1),(11,some y2)])) ?_
 refine kd [(10,(jR 0))] [(0,some y1),(1,some y2)] mo (wR (kM kI)<|wR (kM kI)<|wT (qK kI)<|wT (qK kI)<|wM<|wZ) ?_
 refine jE ⟨_,(kN (cs:=y1) (d:=y3) rfl rfl kI rfl rfl (kN (cs:=y2) (d:=y4) rfl rfl kI rfl rfl (.tmp (d:=(.val (.int .i64 (((0:Nat):Int))))) rfl .nil))),?_⟩
 rfl
theorem cb11:callB Tryz.prog 11=true:=by kernel_rfl
theorem cb65:callB Tryz.prog 65=true:=by kernel_rfl
theorem p_whole(zs:List Int)(hz:∀ z∈zs,-9223372036854775808≤z∧z≤9223372036854775807)(hzl:zs.length≤1000000):jP Tryz.prog 65 [(.sl 3 1 (List.map qD zs))] (.sl 45 4 (List.map jK (List.map jQ (zQ zs)))):=by
 refine jI Tryz.func65 rfl cb65 rfl ?_
 show qJ _ _ _ _ ⟨[(0,(vl 3 1 qD zs))],[]⟩
 refine jB<|kx [] [] (zE (cT 45 4)<|zZ) ?_
 refine jB<|kx [(3,(.own 0 45 4 0))] [(0,some (nD jK []))] (zN (oBo 0 qY uG uQ)<|zM<|zZ) ?_
 refine jB<|jB<|kx [(7,(vl 3 1 qD zs)),(8,(jR zs.length)),(9,(jR 0))] [] (zM<|zE (uE nT)<|zM<|zZ) ?_
 refine jH<|kB (α:=Nat × List jN) (fun (i,o)=>⟨[(3,(.own 0 45 4 o.length)),(7,(vl 3 1 qD zs)),(8,(jR zs.length)),(9,(jR i))],[(0,some (nD jK o))]⟩) (fun (i,o)=>i≤zs.length∧o=(zs.take i).map (fun z:Int=>jQ (z:Rat))) (fun (i,o)=>zs.length-i) (0,[]) wk ⟨Nat.zero_le _,by simp⟩ ?_
 rintro ⟨i,o⟩ ⟨hi,ho⟩
 have hol:o.length=i:=by rw[ho,List.length_map,List.length_take];omega
 refine jB<|kx [(10,(vb (decide (((i:Nat):Int)<((zs.length:Nat):Int)))))] [] (zE xG<|zZ) ?_
 refine jB<|jF rfl (fun h1=>?_) (fun h1=>?_)
 ·replace h1:=uW h1
  have hzi:=zs_at hz (show i<zs.length by omega)
  refine jD<|jB<|jH<|jB<|kx [(5,(vi (zs.getD i 0)))] [] (zE (xJ nT i (0:Int))<|zE (xO cS)<|zM<|zZ) ?_
  refine kf [(3,(.own 0 45 4 ((o++[(jQ ((zs.getD i 0:Int):Rat))]).length)))] [(0,some (nD jK (o++[(jQ ((zs.getD i 0:Int):Rat))])))] (zM<|zM<|zE (jX (eD (zs.getD i 0) (by omega) (by omega)))<|zE (eC qY uG uQ)<|zAS jK o [(jQ ((zs.getD i 0:Int):Rat))] rfl qY uG by45<|zM<|zF) ?_
  refine kx [(9,(jR (i+1)))] [] (zE (vT (i+1))<|zM<|zZ) ?_
  exact ⟨(i+1,o++[jQ ((zs.getD i 0:Int):Rat)]),wk,⟨by omega,by rw[ho];exact mR (f:=fun z:Int=>jQ (z:Rat)) (by omega)⟩,(by first|omega|(dsimp only;omega))⟩
 ·replace h1:=uX h1
  refine kC<|jB<|kx [(2,(.own 0 45 4 o.length))] [] (zM<|zM<|zZ) ?_
  refine kV (vN (t:=2) (k:=0) (es:=List.map jK o) rfl rfl (nL _ _ (fun _=>rfl)) (uT _ _ rfl) (mT jK o (fun _=>rfl) rfl)) ?_
  refine jE ⟨_,(.tmp (d:=(.sl 45 4 (List.map jK o))) rfl .nil),?_⟩
  rw[ho,show i=zs.length by omega,List.take_length,show List.map (fun z:Int=>jQ (z:Rat)) zs=List.map jQ (zQ zs) from (by unfold zQ;rw[List.map_map];rfl)];rfl
theorem kT_runP:JRunP (List.map mH kX) kT:=run_p (pts_gl kX_ql) kT_ok kT_run
theorem p_known :jP Tryz.prog 11 [] (.val (.bool (true))):=by
 let y4:=qH
 let y3:=(jZ.mk (jQ ((1:Int):Rat)) (jQ ((1:Int):Rat)))
 let y2:=(jZ.mk (jQ ((9:Int):Rat)) (jQ ((9:Int):Rat)))
 let y1:=[(kW.mk ((1:Nat):Int) 0 0 y4),(kW.mk ((1:Nat):Int) ((1:Nat):Int) 0 y4),(kW.mk ((4:Nat):Int) 0 ((1:Nat):Int) y4)]
 refine jI Tryz.func11 rfl cb11 rfl ?_
 show qJ _ _ _ _ ⟨[],[]⟩
 refine jB<|kx [] [] (zM<|zZ) ?_
 refine jB<|kx [(1,(vl 83 7 qA y1))] [] (zE (bY pl83 ze83 zo83)<|zE (bY pl83 ze83 zo83)<|zE (bY pl83 ze83 zo83)<|zE (eC el23 ze83 zo83)<|zM<|zZ) ?_
 refine jB<|kx [(2,(.ref 0 0)),(3,(jR 0))] [(0,some (bx (jK (jQ ((25:Int):Rat)))))] (zE (oQd (.sl 83 7 (List.map qA y1)) (.sl 83 7 (List.map qA kT)) (oV (vl 83 7 qA y1) (kR (by kernel_rfl))) (by exact rfl))<|zE (eC nT ze3 zo3)<|zE (oQd (.sl 45 4 (List.map jK (List.map jQ (zQ [((2:Nat):Int),((3:Nat):Int)])))) (.sl 45 4 (List.map jK (List.map jQ kX))) (jX (p_whole [((2:Nat):Int),((3:Nat):Int)] (by decide) (by decide))) (by exact rfl))<|zE (eC nT ze3 zo3)<|zE (jX (p_whole [((1:Nat):Int),((0:Nat):Int)] (by decide) (by decide)))<|zE (eC nT ze3 zo3)<|zE (jX (p_whole [((0:Nat):Int),((4:Nat):Int)] (by decide) (by decide)))<|zE (oQd (.sl 24 1 (List.map jG [(List.map jQ (zQ [((1:Nat):Int),((0:Nat):Int)])),(List.map jQ (zQ [((0:Nat):Int),((4:Nat):Int)]))])) (.sl 24 1 (List.map jG kQ)) (eC uV ze24 zo24) (by exact rfl))<|zE (jX (p_var kT kT_ok kX kX_ql kQ kQ_ok kT_runP kQ_rect kQ_fit rfl))<|zM<|zE (oQd (jK (jQ (dT kQ (xY kX kT) (xY kX kT)))) (jK (jQ ((25:Int):Rat))) xD (by exact (by rw[kVar];rfl)))<|zE xD<|zN (uF 0 uG uQ)<|zT (qK jT)<|zM<|zZ) ?_
 refine jB<|kx [(4,(.ref 1 0)),(5,(.ref 2 0)),(6,(jR 0))] [(1,some (bx (jJ y2))),(2,some (bx (jJ y3)))] (zE (eC nT ze3 zo3)<|zE (jX (p_whole [((5:Nat):Int),((4:Nat):Int)] (by decide) (by decide)))<|zE (eC nT ze3 zo3)<|zE (jX (p_whole [((4:Nat):Int),((5:Nat):Int)] (by decide) (by decide)))<|zE (oQd (.sl 24 1 (List.map jG [(List.map jQ (zQ [((5:Nat):Int),((4:Nat):Int)])),(List.map jQ (zQ [((4:Nat):Int),((5:Nat):Int)]))])) (.sl 24 1 (List.map jG kE)) (eC uV ze24 zo24) (by exact rfl))<|zE (jX (p_ellO kE kE_ok 0 1 3 (by omega) kE_chk kE_fit (by decide) (by decide) (by omega)))<|zM<|zE (oQd (jJ (jZ.mk (jQ (((Rat.divInt 1 2)*((qM ((kE.getD 0 []).getD 0 y4))+(qM ((kE.getD 1 []).getD 1 y4))))+(Rat.divInt (qU (mY (((((Rat.divInt 1 2)*((qM ((kE.getD 0 []).getD 0 y4))-(qM ((kE.getD 1 []).getD 1 y4))))*((Rat.divInt 1 2)*((qM ((kE.getD 0 []).getD 0 y4))-(qM ((kE.getD 1 []).getD 1 y4)))))+((qM ((kE.getD 0 []).getD 1 y4))*(qM ((kE.getD 0 []).getD 1 y4))))*(((((2 ^ 3:Nat):Int):Int):Rat)*((((2 ^ 3:Nat):Int):Int):Rat))))) ((2 ^ 3:Nat):Int)))) (jQ (((Rat.divInt 1 2)*((qM ((kE.getD 0 []).getD 0 y4))+(qM ((kE.getD 1 []).getD 1 y4))))+(Rat.divInt (upI (((((Rat.divInt 1 2)*((qM ((kE.getD 0 []).getD 0 y4))-(qM ((kE.getD 1 []).getD 1 y4))))*((Rat.divInt 1 2)*((qM ((kE.getD 0 []).getD 0 y4))-(qM ((kE.getD 1 []).getD 1 y4)))))+((qM ((kE.getD 0 []).getD 1 y4))*(qM ((kE.getD 0 []).getD 1 y4))))*(((((2 ^ 3:Nat):Int):Int):Rat)*((((2 ^ 3:Nat):Int):Int):Rat)))) ((2 ^ 3:Nat):Int)))))) (jJ y2) xD (by exact (by rw[kEa,kEb,kEc];exact congrArg jJ (rng2 (by decide +kernel) (by decide +kernel)))))<|zE (oQd (jJ (jZ.mk (jQ (((Rat.divInt 1 2)*((qM ((kE.getD 0 []).getD 0 y4))+(qM ((kE.getD 1 []).getD 1 y4))))-(Rat.divInt (upI (((((Rat.divInt 1 2)*((qM ((kE.getD 0 []).getD 0 y4))-(qM ((kE.getD 1 []).getD 1 y4))))*((Rat.divInt 1 2)*((qM ((kE.getD 0 []).getD 0 y4))-(qM ((kE.getD 1 []).getD 1 y4)))))+((qM ((kE.getD 0 []).getD 1 y4))*(qM ((kE.getD 0 []).getD 1 y4))))*(((((2 ^ 3:Nat):Int):Int):Rat)*((((2 ^ 3:Nat):Int):Int):Rat)))) ((2 ^ 3:Nat):Int)))) (jQ (((Rat.divInt 1 2)*((qM ((kE.getD 0 []).getD 0 y4))+(qM ((kE.getD 1 []).getD 1 y4))))-(Rat.divInt (qU (mY (((((Rat.divInt 1 2)*((qM ((kE.getD 0 []).getD 0 y4))-(qM ((kE.getD 1 []).getD 1 y4))))*((Rat.divInt 1 2)*((qM ((kE.getD 0 []).getD 0 y4))-(qM ((kE.getD 1 []).getD 1 y4)))))+((qM ((kE.getD 0 []).getD 1 y4))*(qM ((kE.getD 0 []).getD 1 y4))))*(((((2 ^ 3:Nat):Int):Int):Rat)*((((2 ^ 3:Nat):Int):Int):Rat))))) ((2 ^ 3:Nat):Int)))))) (jJ y3) xD (by exact (by rw[kEa,kEb,kEc];exact congrArg jJ (rng2 (by decide +kernel) (by decide +kernel)))))<|zE xD<|zN (uF 1 uH uR)<|zN (uF 2 uH uR)<|zT (qK kI)<|zT (qK kI)<|zM<|zZ) ?_
 refine jB<|kx [(7,(vb true)),(8,(jR 0))] [] (zE (jX (eD 10 (by decide) (by decide)))<|zE (jX (eD 4 (by decide) (by decide)))<|zE (jX (eD 4 (by decide) (by decide)))<|zE (jX (eD 14 (by decide) (by decide)))<|zE (jX (p_cov (jQ ((10:Int):Rat)) ((10:Int):Rat) (jV (kG (gQ (z:=10) (yX (by decide)) (by decide))) (by decide)) (jQ ((4:Int):Rat)) ((4:Int):Rat) (jV (kG (gQ (z:=4) (yX (by decide)) (by decide))) (by decide)) (jQ ((4:Int):Rat)) ((4:Int):Rat) (jV (kG (gQ (z:=4) (yX (by decide)) (by decide))) (by decide)) (jQ ((14:Int):Rat)) ((14:Int):Rat) (jV (kG (gQ (z:=14) (yX (by decide)) (by decide))) (by decide)) (by decide +kernel) (by decide +kernel) (by decide +kernel) (by decide +kernel) (by decide +kernel) (by decide +kernel)))<|zM<|zE (oQd (.val (.bool ((decide ((yW ((((14:Int):Rat)-((10:Int):Rat))*(((14:Int):Rat)-((10:Int):Rat))) (((4:Int):Rat)*((4:Int):Rat)))≤0))))) (.val (.bool (true))) xD (by exact (congrArg (fun b=>jS.val (.bool b)) (by decide +kernel))))<|zE xD<|zM<|zM<|zZ) ?_
 refine jB<|kd [(0,(vb true))] [] mo (wM<|wE (vZ true gD)<|wM<|wM<|wE (vZ true gD)<|wE xA<|wM<|wM<|wE (vZ true gD)<|wE xA<|wM<|wM<|wE xA<|wM<|wR (kM jT)<|wE (jX (eD 25 (by decide) (by decide)))<|wE (vZ true (jX (by have h:=g_same (jQ ((25:Int):Rat)) (jQ ((25:Int):Rat)) ((25:Int):Rat) ((25:Int):Rat) (jV (kG (gQ (mJ (by decide) (by decide)) (by decide))) (by decide)) (jV (kG (gQ (z:=25) (yX (by decide)) (by decide))) (by decide));rw[sameR_of] at h;exact h)) (by exact decide_eq_true rfl))<|wE xA<|wM<|wR (kM kI)<|wE (jX (h_whole 9 9 (by decide) (by decide) (by decide) (by decide)))<|wE (jX (by have h:=h_same y2 y2 (gZ (⟨qQ (jV (kG (gQ (mJ (by decide) (by decide)) (by decide))) (by decide:3≤3)),qQ (jV (kG (gQ (mJ (by decide) (by decide)) (by decide))) (by decide:3≤3))⟩) (by decide)) (gZ (⟨qQ (jV (kG (gQ (z:=9) (yX (by decide)) (by decide))) (by decide:1≤1)),qQ (jV (kG (gQ (z:=9) (yX (by decide)) (by decide))) (by decide:1≤1))⟩) (by decide));rw[show sameG y2 y2=true from by rw[sameG_of];kernel_rfl] at h;exact h))<|wE xA<|wM<|wR (kM kI)<|wE (jX (h_whole 1 1 (by decide) (by decide) (by decide) (by decide)))<|wE (jX (by have h:=h_same y3 y3 (gZ (⟨qQ (jV (kG (gQ (mJ (by decide) (by decide)) (by decide))) (by decide:3≤3)),qQ (jV (kG (gQ (mJ (by decide) (by decide)) (by decide))) (by decide:3≤3))⟩) (by decide)) (gZ (⟨qQ (jV (kG (gQ (z:=1) (yX (by decide)) (by decide))) (by decide:1≤1)),qQ (jV (kG (gQ (z:=1) (yX (by decide)) (by decide))) (by decide:1≤1))⟩) (by decide));rw[show sameG y3 y3=true from by rw[sameG_of];kernel_rfl] at h;exact h))<|wE xA<|wM<|wZ) ?_
 refine jE ⟨_,(.tmp (d:=(.val (.bool (true)))) rfl .nil),?_⟩
 rfl
theorem po_no{ts:List (List kW)}{l:List jN}{a v:List (List jN)}(h:(((((((((((((ts.length:Nat):Int) == ((0:Nat):Int))||decide (((3:Nat):Int)<((ts.length:Nat):Int)))||decide (((3:Nat):Int)<((l.length:Nat):Int)))||!(shM 5 6 a))||!(shM 5 6 v))||((((yF a):Nat):Int) != ((0:Nat):Int)))||(((a.length:Nat):Int) != ((l.length:Nat):Int)))||(((v.length:Nat):Int) != ((1:Nat):Int)))||((((v.getD 0 []).length:Nat):Int) != ((ts.length:Nat):Int)))||!(yA (v.getD 0 []))))=false)(hal:ts.all (fun t=>cR 16 10 t&&shR 4 6 l)=true):¬ (decide (1≤ts.length)&&decide (ts.length≤3)&&decide (l.length≤3)&&shM 5 6 a&&shM 5 6 v&&decide (yF a=0)&&decide (a.length=l.length)&&decide (v.length=1)&&decide ((v.getD 0 []).length=ts.length)&&yA (v.getD 0 [])&&ts.all (fun t=>cR 16 10 t&&shR 4 6 l))=false:=fun hs=>by
 simp only[Bool.or_eq_false_iff,decide_eq_false_iff_not,Bool.not_eq_false',bne_eq_false_iff_eq,beq_eq_false_iff_ne] at h
 obtain ⟨⟨⟨⟨⟨⟨⟨⟨⟨h1,h2⟩,h3⟩,h4⟩,h5⟩,h6⟩,h7⟩,h8⟩,h9⟩,h10⟩:=h
 rw[decide_eq_true (show 1≤ts.length by omega),decide_eq_true (show ts.length≤3 by omega),decide_eq_true (show l.length≤3 by omega),h4,h5,decide_eq_true (show yF a=0 by omega),decide_eq_true (show a.length=l.length by omega),decide_eq_true (show v.length=1 by omega),decide_eq_true (show (v.getD 0 []).length=ts.length by omega),h10,hal] at hs
 exact absurd hs (by decide)
end Go.Proofs.YtnajallgoaiahaaGreatDoor
