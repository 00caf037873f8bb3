/- Part 36 of a proof: rules, plain facts, and functions walked. -/
import Derived.Test.YtnajallgoaiahaaGreatDoorM33
import Derived.Test.YtnajallgoaiahaaGreatDoorM35
import Derived.Test.YtnajallgoaiahaaGreatDoorM18
import Derived.Test.YtnajallgoaiahaaGreatDoorM32
import Derived.Test.YtnajallgoaiahaaGreatDoorM29
set_option linter.all false
set_option maxRecDepth 4000
namespace Go.Proofs.YtnajallgoaiahaaGreatDoor
open Go.Fid
theorem cb32:callB Tryz.prog 32=true:=by kernel_rfl
theorem cb88:callB Tryz.prog 88=true:=by kernel_rfl
theorem i_ptC(p:Rat)(hp:QL p 200):jR Tryz.prog 89 [(jK (jN p))] (.tup [(jF (jV.mk (jN p) (jN p))),(.val (.int .i64 (((0:Nat):Int))))]):=by
 refine jJ Tryz.func89 rfl cb89 rfl ?_
 show qG _ _ _ _ ⟨[(0,(.d (jK (jN p))))],[]⟩
 refine jB<|kx [(1,(.ref 0 0)),(2,(.ref 1 0))] [(0,some (bx (jK (jN p)))),(1,some (bx (jF (jV.mk kZ kZ))))] (zN (vA 0)<|zN (qV 1 qO qS)<|zM<|zZ) ?_
 refine jB<|kx [(3,(vi 0))] [(1,some (bx (jF (jV.mk (jN p) (jN p)))))] (zR (kK jS)<|zR (kK jS)<|zE (jY (i_makeO (jN p) p (jO (jZ hp) (by decide)) (jN p) p (jO (jZ hp) (by decide)) (by rw[cS];rfl) (Rat.le_refl (a:=p))))<|zE uT<|zE uT<|zT (qA jW)<|zM<|zZ) ?_
 refine jE ⟨_,(kH (cs:=(bx (jF (jV.mk (jN p) (jN p))))) (d:=(jF (jV.mk (jN p) (jN p)))) rfl rfl jW rfl rfl (.tmp (d:=(.val (.int .i64 (0)))) rfl .nil)),?_⟩
 rfl
theorem p_of(n:Int)(hnl:-9223372036854775808≤n)(hnh:n≤9223372036854775807)(d:Int)(hdl:-9223372036854775808≤d)(hdh:d≤9223372036854775807)(hd:d≠0):jR Tryz.prog 88 [(.val (.int .i64 (n))),(.val (.int .i64 (d)))] (.tup [(jK (jN (Rat.divInt n d))),(.val (.int .i64 (0)))]):=by
 refine jJ Tryz.func88 rfl cb88 rfl ?_
 show qG _ _ _ _ ⟨[(0,(vi n)),(1,(vi d))],[]⟩
 refine jB<|kx [(4,(.ref 0 0))] [(0,some (bx (jK kZ)))] (zN (qV 0 qU qY)<|zM<|zZ) ?_
 refine jB<|kx [(5,(vi 0))] [(0,some (bx (jK (jN (Rat.divInt n d)))))] (zM<|zE (jY (t_of n (by omega) (by omega)))<|zM<|zE (jY (t_of d (by omega) (by omega)))<|zE (jY (f_newO (kN n) n (nC (iok_int (z:=n) (by omega) (by omega)) (by decide)) (kN d) d (nC (iok_int (z:=d) (by omega) (by omega)) (by decide)) hd))<|zE uT<|zE uT<|zT (qA jS)<|zM<|zZ) ?_
 refine jE ⟨_,(kH (cs:=(bx (jK (jN (Rat.divInt n d))))) (d:=(jK (jN (Rat.divInt n d)))) rfl rfl jS rfl rfl (.tmp (d:=(.val (.int .i64 (0)))) rfl .nil)),?_⟩
 rfl
theorem p_ellO(m:List (List jQ))(hm:vN 6 m)(i:Nat)(j:Nat)(k:Nat)(hk:k≤512)(hc:gS m=0)(hf:mV m m.length=0)(hi:i<m.length)(hj:j<m.length)(hij:i≠j):jR Tryz.prog 32 [(.sl 24 1 (List.map jI m)),(.val (.int .i64 (((i:Nat):Int)))),(.val (.int .i64 (((j:Nat):Int)))),(.val (.int .i64 (((k:Nat):Int))))] (.tup [(jF (jV.mk (jN (((Rat.divInt 1 2)*((qP ((m.getD i []).getD i kZ))+(qP ((m.getD j []).getD j kZ))))+(Rat.divInt (qZ (cD (((((Rat.divInt 1 2)*((qP ((m.getD i []).getD i kZ))-(qP ((m.getD j []).getD j kZ))))*((Rat.divInt 1 2)*((qP ((m.getD i []).getD i kZ))-(qP ((m.getD j []).getD j kZ)))))+((qP ((m.getD i []).getD j kZ))*(qP ((m.getD i []).getD j kZ))))*((yA k)*(yA k))))) ((2 ^ k:Nat):Int)))) (jN (((Rat.divInt 1 2)*((qP ((m.getD i []).getD i kZ))+(qP ((m.getD j []).getD j kZ))))+(Rat.divInt (upI (((((Rat.divInt 1 2)*((qP ((m.getD i []).getD i kZ))-(qP ((m.getD j []).getD j kZ))))*((Rat.divInt 1 2)*((qP ((m.getD i []).getD i kZ))-(qP ((m.getD j []).getD j kZ)))))+((qP ((m.getD i []).getD j kZ))*(qP ((m.getD i []).getD j kZ))))*((yA k)*(yA k)))) ((2 ^ k:Nat):Int)))))),(jF (jV.mk (jN (((Rat.divInt 1 2)*((qP ((m.getD i []).getD i kZ))+(qP ((m.getD j []).getD j kZ))))-(Rat.divInt (upI (((((Rat.divInt 1 2)*((qP ((m.getD i []).getD i kZ))-(qP ((m.getD j []).getD j kZ))))*((Rat.divInt 1 2)*((qP ((m.getD i []).getD i kZ))-(qP ((m.getD j []).getD j kZ)))))+((qP ((m.getD i []).getD j kZ))*(qP ((m.getD i []).getD j kZ))))*((yA k)*(yA k)))) ((2 ^ k:Nat):Int)))) (jN (((Rat.divInt 1 2)*((qP ((m.getD i []).getD i kZ))+(qP ((m.getD j []).getD j kZ))))-(Rat.divInt (qZ (cD (((((Rat.divInt 1 2)*((qP ((m.getD i []).getD i kZ))-(qP ((m.getD j []).getD j kZ))))*((Rat.divInt 1 2)*((qP ((m.getD i []).getD i kZ))-(qP ((m.getD j []).getD j kZ)))))+((qP ((m.getD i []).getD j kZ))*(qP ((m.getD i []).getD j kZ))))*((yA k)*(yA k))))) ((2 ^ k:Nat):Int)))))),(.val (.int .i64 (((0:Nat):Int))))]):=by
 have hmb:=hm.2
 have hrc:=mchk_rect hc
 have hf2:=fit_of hf
 have hri:=(hrc.at hi).1
 have hrj:=(hrc.at hj).1
 have hm64:=hrc.r64
 let y26:=kZ
 let y25:=(qP ((m.getD i []).getD j y26))
 let y24:=(qP ((m.getD j []).getD j y26))
 let y23:=(qP ((m.getD i []).getD i y26))
 let y22:=(bx (jF (jV.mk y26 y26)))
 let y21:=(y23+y24)
 let y20:=(y25*y25)
 let y19:=(y23-y24)
 let y18:=((Rat.divInt 1 2)*y21)
 let y17:=((Rat.divInt 1 2)*y19)
 let y16:=(jN y18)
 let y15:=(jN y17)
 let y14:=(y17*y17)
 let y13:=(y14+y20)
 let y12:=(jN y13)
 let y11:=(y13*((yA k)*(yA k)))
 let y10:=(Rat.divInt (upI y11) ((2 ^ k:Nat):Int))
 let y9:=(Rat.divInt (qZ (cD y11)) ((2 ^ k:Nat):Int))
 let y8:=(y18-y10)
 let y7:=(y18+y10)
 let y6:=(y18-y9)
 let y5:=(y18+y9)
 let y4:=(jF (jV.mk (jN y8) (jN y6)))
 let y3:=(jF (jV.mk (jN y5) (jN y7)))
 let y2:=(bx y4)
 let y1:=(bx y3)
 refine jJ Tryz.func32 rfl cb32 rfl ?_
 show qG _ _ _ _ ⟨[(0,(vl 24 1 jI m)),(1,(jP i)),(2,(jP j)),(3,(jP k))],[]⟩
 refine jB<|kx [(8,(.ref 0 0)),(9,(.ref 1 0))] [(0,some y22),(1,some y22)] (zN (qV 0 qO qS)<|zN (qV 1 qO qS)<|zM<|zZ) ?_
 refine jB<|jB<|kx [(31,(vb false))] [] (zM<|zE (jY (m_chk m (gV hm (by decide))))<|zE (vW false nW (by exact bne_eq_false_iff_eq.2 (by rw[show (gS m)=0 from hc]<;>rfl)))<|zZ) ?_
 refine kU ?_
 refine jD<|jB<|kx [(11,(jP m.length))] [] (zM<|zE (uW zW)<|zM<|zZ) ?_
 refine jB<|jB<|kx [(12,(jP (mV m m.length)))] [] (zM<|zM<|zE (jY (p_fit m (gV hm (by decide)) m.length (by assumption)))<|zM<|zZ) ?_
 refine jB<|kx [(40,(vb false))] [] (zM<|zE (vW false nW (by exact bne_eq_false_iff_eq.2 (by rw[show (mV m m.length)=0 from hf]<;>rfl)))<|zZ) ?_
 refine kU ?_
 refine jD<|jB<|jB<|kx [(72,(vb false))] [] (zM<|zE (vW false xK (by exact decide_eq_false (show ¬ ((i:Nat):Int)<0 by omega)))<|zM<|zM<|zM<|zE (vW false oGe (by exact decide_eq_false (show ¬ ((m.length:Nat):Int)≤((i:Nat):Int) by omega)))<|zE yP<|zM<|zM<|zE (vW false xK (by exact decide_eq_false (show ¬ ((j:Nat):Int)<0 by omega)))<|zE yP<|zM<|zM<|zM<|zE (vW false oGe (by exact decide_eq_false (show ¬ ((m.length:Nat):Int)≤((j:Nat):Int) by omega)))<|zE yP<|zM<|zM<|zM<|zE (vW false xR (by exact beq_eq_false_iff_ne.2 (show ((i:Nat):Int)≠((j:Nat):Int) by omega)))<|zE yP<|zM<|zM<|zE (vW false xK (by exact decide_eq_false (show ¬ ((k:Nat):Int)<0 by omega)))<|zE yP<|zM<|zM<|zE (vW false mL (by exact decide_eq_false (show ¬ 512<((k:Nat):Int) by omega)))<|zE yP<|zZ) ?_
 refine kU ?_
 refine jD<|jB ?_
 have bn1:QL (Rat.divInt 1 2) 3:=(yT (n:=3) (mN (by omega) (by omega)) (mN (by omega) (by omega)) (by decide))
 refine kx [(13,(.ref 2 0))] [(2,some (bx (jK (jN (Rat.divInt 1 2)))))] (zE (jY (p_of ((1:Nat):Int) (by omega) (by omega) ((2:Nat):Int) (by omega) (by omega) (by decide)))<|zM<|zE uT<|zE uT<|zN (qV 2 qU qY)<|zT (qA jS)<|zM<|zZ) ?_
 refine jB<|kd [(15,(.ref 3 0)),(16,(.ref 4 0)),(17,(.ref 5 0))] [(3,some (bx (jK ((m.getD i []).getD i y26)))),(4,some (bx (jK ((m.getD i []).getD j y26)))),(5,some (bx (jK ((m.getD j []).getD j y26))))] mo (wM<|wM<|wE (xX zW i ([]:List (jQ)))<|wE (xZ mR)<|wM<|wE (xX uE i y26 (L:=(m.getD i [])))<|wE (gE jS)<|wM<|wM<|wE (xX zW i ([]:List (jQ)))<|wE (xZ mR)<|wM<|wE (xX uE j y26 (L:=(m.getD i [])))<|wE (gE jS)<|wM<|wM<|wE (xX zW j ([]:List (jQ)))<|wE (xZ mR)<|wM<|wE (xX uE j y26 (L:=(m.getD j [])))<|wE (gE jS)<|wN (qV 3 qU qY)<|wN (qV 4 qU qY)<|wN (qV 5 qU qY)<|wT (qA jS)<|wT (qA jS)<|wT (qA jS)<|wZ) ?_
 refine jB ?_
 have bn2:QL y19 13:=(bC (k:=13) (vE (xA (d:=[]) hm (show i<m.length by omega)).1 (show i<(m.getD i []).length by omega)).ql (vE (xA (d:=[]) hm (show j<m.length by omega)).1 (show j<(m.getD j []).length by omega)).ql (by decide))
 refine kd [(18,(.ref 6 0))] [(6,some (bx (jK y15)))] mo (wR (kK jS)<|wR (kK jS)<|wR (kK jS)<|wE (jY (f_sub ((m.getD i []).getD i y26) ((m.getD j []).getD j y26) y23 y24 (jO (vE (xA (d:=[]) hm (show i<m.length by omega)).1 (show i<(m.getD i []).length by omega)) (by decide)) (jO (vE (xA (d:=[]) hm (show j<m.length by omega)).1 (show j<(m.getD j []).length by omega)) (by decide))))<|wE (jY (fD (jN (Rat.divInt 1 2)) (jN y19) (Rat.divInt 1 2) y19 (jO (jZ bn1) (by decide)) (jO (jZ bn2) (by decide))))<|wN (qV 6 qU qY)<|wT (qA jS)<|wZ) ?_
 refine jB ?_
 have bn3:QL y14 32:=(qM (k:=32) (qM (k:=16) bn1 bn2 (by decide)) (qM (k:=16) bn1 bn2 (by decide)) (by decide))
 have bn4:QL y20 12:=(qM (k:=12) (vE (xA (d:=[]) hm (show i<m.length by omega)).1 (show j<(m.getD i []).length by omega)).ql (vE (xA (d:=[]) hm (show i<m.length by omega)).1 (show j<(m.getD i []).length by omega)).ql (by decide))
 refine kd [(19,(.ref 7 0))] [(7,some (bx (jF (jV.mk y12 y12))))] mo (wR (kK jS)<|wR (kK jS)<|wE (jY (fD y15 y15 y17 y17 (jO (jZ (qM (k:=16) bn1 bn2 (by decide))) (by decide)) (jO (jZ (qM (k:=16) bn1 bn2 (by decide))) (by decide))))<|wR (kK jS)<|wR (kK jS)<|wE (jY (fD ((m.getD i []).getD j y26) ((m.getD i []).getD j y26) y25 y25 (jO (vE (xA (d:=[]) hm (show i<m.length by omega)).1 (show j<(m.getD i []).length by omega)) (by decide)) (jO (vE (xA (d:=[]) hm (show i<m.length by omega)).1 (show j<(m.getD i []).length by omega)) (by decide))))<|wE (jY (f_add (jN y14) (jN y20) y14 y20 (jO (jZ bn3) (by decide)) (jO (jZ bn4) (by decide))))<|wE (jY (i_ptC y13 (xE (mI (k:=45) bn3 bn4 (by decide)) (by decide))))<|wM<|wE uT<|wE uT<|wN (qV 7 qO qS)<|wT (qA jW)<|wM<|wZ) ?_
 refine jB ?_
 have bn5:QL y9 86:=(yT (n:=86) (Nat.le_trans (gO.ln (iok_root (fl_nn (aZ (sq2_nn y17 y25))) (aN (k:=86) (qM (k:=85) (mI (k:=45) bn3 bn4 (by decide)) (qM (k:=40) (eU (k:=k) (by omega)) (eU (k:=k) (by omega)) (by decide)) (by decide)) (by decide)))) (by decide)) (Nat.le_trans (gO.ln (dV (k:=k) (by omega))) (by decide)) (by decide))
 have bn6:QL y10 87:=(yT (n:=87) (Nat.le_trans (gO.ln (iok_upI (k:=87) (fl_nn (aZ (Rat.le_trans (sq2_nn y17 y25) Rat.le_refl))) (aN (k:=86) (qM (k:=85) (mI (k:=45) bn3 bn4 (by decide)) (qM (k:=40) (eU (k:=k) (by omega)) (eU (k:=k) (by omega)) (by decide)) (by decide)) (by decide)) (by decide) (by decide))) (by decide)) (Nat.le_trans (gO.ln (dV (k:=k) (by omega))) (by decide)) (by decide))
 refine kx [(21,(.ref 8 0))] [(8,some (bx (jF (jV.mk (jN y9) (jN y10)))))] (zR (kK jW)<|zM<|zE (jY (di_root y13 y13 (xE (mI (k:=45) bn3 bn4 (by decide)) (by decide)) (xE (mI (k:=45) bn3 bn4 (by decide)) (by decide)) Rat.le_refl k (by omega) (sq2_nn y17 y25)))<|zM<|zE uT<|zE uT<|zN (qV 8 qO qS)<|zT (qA jW)<|zM<|zZ) ?_
 refine jB ?_
 have bn7:QL y21 13:=(mI (k:=13) (vE (xA (d:=[]) hm (show i<m.length by omega)).1 (show i<(m.getD i []).length by omega)).ql (vE (xA (d:=[]) hm (show j<m.length by omega)).1 (show j<(m.getD j []).length by omega)).ql (by decide))
 refine kd [(23,(.ref 9 0))] [(9,some (bx (jF (jV.mk y16 y16))))] mo (wR (kK jS)<|wR (kK jS)<|wR (kK jS)<|wE (jY (f_add ((m.getD i []).getD i y26) ((m.getD j []).getD j y26) y23 y24 (jO (vE (xA (d:=[]) hm (show i<m.length by omega)).1 (show i<(m.getD i []).length by omega)) (by decide)) (jO (vE (xA (d:=[]) hm (show j<m.length by omega)).1 (show j<(m.getD j []).length by omega)) (by decide))))<|wE (jY (fD (jN (Rat.divInt 1 2)) (jN y21) (Rat.divInt 1 2) y21 (jO (jZ bn1) (by decide)) (jO (jZ bn7) (by decide))))<|wE (jY (i_ptC y18 (xE (qM (k:=16) bn1 bn7 (by decide)) (by decide))))<|wM<|wE uT<|wE uT<|wN (qV 9 qO qS)<|wT (qA jW)<|wM<|wZ) ?_
 refine jB ?_
 have bn8:QL y5 104:=(mI (k:=104) (qM (k:=16) bn1 bn7 (by decide)) bn5 (by decide))
 have bn9:QL y7 104:=(mI (k:=104) (qM (k:=16) bn1 bn7 (by decide)) bn6 (by decide))
 refine kx [(25,(.ref 10 0))] [(10,some y1)] (zR (kK jW)<|zR (kK jW)<|zE (jY (i_add y18 y18 y9 y10 (xE (qM (k:=16) bn1 bn7 (by decide)) (by decide)) (xE (qM (k:=16) bn1 bn7 (by decide)) (by decide)) (qu bn5) (qu bn6) Rat.le_refl (rt_valid k (sq2_nn y17 y25) Rat.le_refl)))<|zM<|zE uT<|zE uT<|zN (qV 10 qO qS)<|zT (qA jW)<|zM<|zZ) ?_
 refine jB ?_
 have bn10:QL y8 104:=(bC (k:=104) (qM (k:=16) bn1 bn7 (by decide)) bn6 (by decide))
 have bn11:QL y6 104:=(bC (k:=104) (qM (k:=16) bn1 bn7 (by decide)) bn5 (by decide))
 refine kx [(27,(.ref 11 0))] [(11,some y2)] (zR (kK jW)<|zR (kK jW)<|zE (jY (i_sub y18 y18 y9 y10 (xE (qM (k:=16) bn1 bn7 (by decide)) (by decide)) (xE (qM (k:=16) bn1 bn7 (by decide)) (by decide)) (qu bn5) (qu bn6) Rat.le_refl (rt_valid k (sq2_nn y17 y25) Rat.le_refl)))<|zM<|zE uT<|zE uT<|zN (qV 11 qO qS)<|zT (qA jW)<|zM<|zZ) ?_
 refine jB<|kS (wk (l:=[(8,(.ref 0 0)),(9,(.ref 1 0)),(25,(.ref 10 0)),(27,(.ref 11 0))]) (b:=[(0,some y22),(1,some y22),(10,some y1),(11,some y2)])) ?_
 refine kd [(10,(jP 0))] [(0,some y1),(1,some y2)] mo (wR (kK jW)<|wR (kK jW)<|wT (qA jW)<|wT (qA jW)<|wM<|wZ) ?_
 refine jE ⟨_,(kH (cs:=y1) (d:=y3) rfl rfl jW rfl rfl (kH (cs:=y2) (d:=y4) rfl rfl jW rfl rfl (.tmp (d:=(.val (.int .i64 (((0:Nat):Int))))) rfl .nil))),?_⟩
 rfl
theorem cb11:callB Tryz.prog 11=true:=by kernel_rfl
theorem cb65:callB Tryz.prog 65=true:=by kernel_rfl
theorem p_whole(zs:List Int)(hz:∀ z∈zs,-9223372036854775808≤z∧z≤9223372036854775807)(hzl:zs.length≤1000000):jR Tryz.prog 65 [(.sl 3 1 (List.map qI zs))] (.sl 45 4 (List.map jK (List.map jN (zQ zs)))):=by
 refine jJ Tryz.func65 rfl cb65 rfl ?_
 show qG _ _ _ _ ⟨[(0,(vl 3 1 qI zs))],[]⟩
 refine jB<|kx [] [] (zE (dD 45 4)<|zZ) ?_
 refine jB<|kx [(3,(.own 0 45 4 0))] [(0,some (yG jK []))] (zN (oBo 0 uE qU qY)<|zM<|zZ) ?_
 refine jB<|jB<|kx [(7,(vl 3 1 qI zs)),(8,(jP zs.length)),(9,(jP 0))] [] (zM<|zE (uW mC)<|zM<|zZ) ?_
 refine jH<|kA (α:=Nat × List jQ) (fun (i,o)=>⟨[(3,(.own 0 45 4 o.length)),(7,(vl 3 1 qI zs)),(8,(jP zs.length)),(9,(jP i))],[(0,some (yG jK o))]⟩) (fun (i,o)=>i≤zs.length∧o=(zs.take i).map (fun z:Int=>jN (z:Rat))) (fun (i,o)=>zs.length-i) (0,[]) wk ⟨Nat.zero_le _,by simp⟩ ?_
 rintro ⟨i,o⟩ ⟨hi,ho⟩
 have hol:o.length=i:=by rw[ho,List.length_map,List.length_take];omega
 refine jB<|kx [(10,(vb (decide (((i:Nat):Int)<((zs.length:Nat):Int)))))] [] (zE xK<|zZ) ?_
 refine jB<|jG rfl (fun h1=>?_) (fun h1=>?_)
 ·replace h1:=uP h1
  have hzi:=zs_at hz (show i<zs.length by omega)
  refine jD<|jB<|jH<|jB<|kx [(5,(vi (zs.getD i 0)))] [] (zE (xX mC i (0:Int))<|zE (xZ cH)<|zM<|zZ) ?_
  refine kf [(3,(.own 0 45 4 ((o++[(jN ((zs.getD i 0:Int):Rat))]).length)))] [(0,some (yG jK (o++[(jN ((zs.getD i 0:Int):Rat))])))] (zM<|zM<|zE (jY (hH (zs.getD i 0) (by omega) (by omega)))<|zE (cN uE qU qY)<|zAS jK o [(jN ((zs.getD i 0:Int):Rat))] rfl uE qU by45<|zM<|zF) ?_
  refine kx [(9,(jP (i+1)))] [] (zE (vC (i+1))<|zM<|zZ) ?_
  exact ⟨(i+1,o++[jN ((zs.getD i 0:Int):Rat)]),wk,⟨by omega,by rw[ho];exact mS (f:=fun z:Int=>jN (z:Rat)) (by omega)⟩,(by first|omega|(dsimp only;omega))⟩
 ·replace h1:=uR h1
  refine kB<|jB<|kx [(2,(.own 0 45 4 o.length))] [] (zM<|zM<|zZ) ?_
  refine kS (vD (t:=2) (k:=0) (es:=List.map jK o) rfl rfl (zL _ _ (fun _=>rfl)) (uJ _ _ rfl) (yS jK o (fun _=>rfl) rfl)) ?_
  refine jE ⟨_,(.tmp (d:=(.sl 45 4 (List.map jK o))) rfl .nil),?_⟩
  rw[ho,show i=zs.length by omega,List.take_length,show List.map (fun z:Int=>jN (z:Rat)) zs=List.map jN (zQ zs) from (by unfold zQ;rw[List.map_map];rfl)];rfl
theorem kT_runP:JRunP (List.map yF kX) kT:=run_p (pts_gl kX_ql) kT_ok kT_run
theorem p_known :jR Tryz.prog 11 [] (.val (.bool (true))):=by
 let y4:=kZ
 let y3:=(jV.mk (jN ((1:Int):Rat)) (jN ((1:Int):Rat)))
 let y2:=(jV.mk (jN ((9:Int):Rat)) (jN ((9:Int):Rat)))
 let y1:=[(kV.mk ((1:Nat):Int) 0 0 y4),(kV.mk ((1:Nat):Int) ((1:Nat):Int) 0 y4),(kV.mk ((4:Nat):Int) 0 ((1:Nat):Int) y4)]
 refine jJ Tryz.func11 rfl cb11 rfl ?_
 show qG _ _ _ _ ⟨[],[]⟩
 refine jB<|kx [] [] (zM<|zZ) ?_
 refine jB<|kx [(1,(vl 83 7 kM y1))] [] (zE (eX pl83 ze83 zo83)<|zE (eX pl83 ze83 zo83)<|zE (eX pl83 ze83 zo83)<|zE (cN iB ze83 zo83)<|zM<|zZ) ?_
 refine jB<|kx [(2,(.ref 0 0)),(3,(jP 0))] [(0,some (bx (jK (jN ((25:Int):Rat)))))] (zE (oQd (.sl 83 7 (List.map kM y1)) (.sl 83 7 (List.map kM kT)) (oV (vl 83 7 kM y1) (qC (by kernel_rfl))) (by exact rfl))<|zE (cN mC ze3 zo3)<|zE (oQd (.sl 45 4 (List.map jK (List.map jN (zQ [((2:Nat):Int),((3:Nat):Int)])))) (.sl 45 4 (List.map jK (List.map jN kX))) (jY (p_whole [((2:Nat):Int),((3:Nat):Int)] (by decide) (by decide))) (by exact rfl))<|zE (cN mC ze3 zo3)<|zE (jY (p_whole [((1:Nat):Int),((0:Nat):Int)] (by decide) (by decide)))<|zE (cN mC ze3 zo3)<|zE (jY (p_whole [((0:Nat):Int),((4:Nat):Int)] (by decide) (by decide)))<|zE (oQd (.sl 24 1 (List.map jI [(List.map jN (zQ [((1:Nat):Int),((0:Nat):Int)])),(List.map jN (zQ [((0:Nat):Int),((4:Nat):Int)]))])) (.sl 24 1 (List.map jI kQ)) (cN zW bX zo24) (by exact rfl))<|zE (jY (p_var kT kT_ok kX kX_ql kQ kQ_ok kT_runP kQ_rect kQ_fit rfl))<|zM<|zE (oQd (jK (jN (dW kQ (vT kX kT) (vT kX kT)))) (jK (jN ((25:Int):Rat))) uT (by exact (by rw[kVar];rfl)))<|zE uT<|zN (qV 0 qU qY)<|zT (qA jS)<|zM<|zZ) ?_
 refine jB<|kx [(4,(.ref 1 0)),(5,(.ref 2 0)),(6,(jP 0))] [(1,some (bx (jF y2))),(2,some (bx (jF y3)))] (zE (cN mC ze3 zo3)<|zE (jY (p_whole [((5:Nat):Int),((4:Nat):Int)] (by decide) (by decide)))<|zE (cN mC ze3 zo3)<|zE (jY (p_whole [((4:Nat):Int),((5:Nat):Int)] (by decide) (by decide)))<|zE (oQd (.sl 24 1 (List.map jI [(List.map jN (zQ [((5:Nat):Int),((4:Nat):Int)])),(List.map jN (zQ [((4:Nat):Int),((5:Nat):Int)]))])) (.sl 24 1 (List.map jI kE)) (cN zW bX zo24) (by exact rfl))<|zE (jY (p_ellO kE kE_ok 0 1 3 (by omega) kE_chk kE_fit (by decide) (by decide) (by omega)))<|zM<|zE (oQd (jF (jV.mk (jN (((Rat.divInt 1 2)*((qP ((kE.getD 0 []).getD 0 y4))+(qP ((kE.getD 1 []).getD 1 y4))))+(Rat.divInt (qZ (cD (((((Rat.divInt 1 2)*((qP ((kE.getD 0 []).getD 0 y4))-(qP ((kE.getD 1 []).getD 1 y4))))*((Rat.divInt 1 2)*((qP ((kE.getD 0 []).getD 0 y4))-(qP ((kE.getD 1 []).getD 1 y4)))))+((qP ((kE.getD 0 []).getD 1 y4))*(qP ((kE.getD 0 []).getD 1 y4))))*(((((2 ^ 3:Nat):Int):Int):Rat)*((((2 ^ 3:Nat):Int):Int):Rat))))) ((2 ^ 3:Nat):Int)))) (jN (((Rat.divInt 1 2)*((qP ((kE.getD 0 []).getD 0 y4))+(qP ((kE.getD 1 []).getD 1 y4))))+(Rat.divInt (upI (((((Rat.divInt 1 2)*((qP ((kE.getD 0 []).getD 0 y4))-(qP ((kE.getD 1 []).getD 1 y4))))*((Rat.divInt 1 2)*((qP ((kE.getD 0 []).getD 0 y4))-(qP ((kE.getD 1 []).getD 1 y4)))))+((qP ((kE.getD 0 []).getD 1 y4))*(qP ((kE.getD 0 []).getD 1 y4))))*(((((2 ^ 3:Nat):Int):Int):Rat)*((((2 ^ 3:Nat):Int):Int):Rat)))) ((2 ^ 3:Nat):Int)))))) (jF y2) uT (by exact (by rw[kEa,kEb,kEc];exact congrArg jF (rng2 (by decide +kernel) (by decide +kernel)))))<|zE (oQd (jF (jV.mk (jN (((Rat.divInt 1 2)*((qP ((kE.getD 0 []).getD 0 y4))+(qP ((kE.getD 1 []).getD 1 y4))))-(Rat.divInt (upI (((((Rat.divInt 1 2)*((qP ((kE.getD 0 []).getD 0 y4))-(qP ((kE.getD 1 []).getD 1 y4))))*((Rat.divInt 1 2)*((qP ((kE.getD 0 []).getD 0 y4))-(qP ((kE.getD 1 []).getD 1 y4)))))+((qP ((kE.getD 0 []).getD 1 y4))*(qP ((kE.getD 0 []).getD 1 y4))))*(((((2 ^ 3:Nat):Int):Int):Rat)*((((2 ^ 3:Nat):Int):Int):Rat)))) ((2 ^ 3:Nat):Int)))) (jN (((Rat.divInt 1 2)*((qP ((kE.getD 0 []).getD 0 y4))+(qP ((kE.getD 1 []).getD 1 y4))))-(Rat.divInt (qZ (cD (((((Rat.divInt 1 2)*((qP ((kE.getD 0 []).getD 0 y4))-(qP ((kE.getD 1 []).getD 1 y4))))*((Rat.divInt 1 2)*((qP ((kE.getD 0 []).getD 0 y4))-(qP ((kE.getD 1 []).getD 1 y4)))))+((qP ((kE.getD 0 []).getD 1 y4))*(qP ((kE.getD 0 []).getD 1 y4))))*(((((2 ^ 3:Nat):Int):Int):Rat)*((((2 ^ 3:Nat):Int):Int):Rat))))) ((2 ^ 3:Nat):Int)))))) (jF y3) uT (by exact (by rw[kEa,kEb,kEc];exact congrArg jF (rng2 (by decide +kernel) (by decide +kernel)))))<|zE uT<|zN (qV 1 qO qS)<|zN (qV 2 qO qS)<|zT (qA jW)<|zT (qA jW)<|zM<|zZ) ?_
 refine jB<|kx [(7,(vb true)),(8,(jP 0))] [] (zE (jY (hH 10 (by decide) (by decide)))<|zE (jY (hH 4 (by decide) (by decide)))<|zE (jY (hH 4 (by decide) (by decide)))<|zE (jY (hH 14 (by decide) (by decide)))<|zE (jY (p_cov (jN ((10:Int):Rat)) ((10:Int):Rat) (jO (jZ (xT (z:=10) (vP (by decide)) (by decide))) (by decide)) (jN ((4:Int):Rat)) ((4:Int):Rat) (jO (jZ (xT (z:=4) (vP (by decide)) (by decide))) (by decide)) (jN ((4:Int):Rat)) ((4:Int):Rat) (jO (jZ (xT (z:=4) (vP (by decide)) (by decide))) (by decide)) (jN ((14:Int):Rat)) ((14:Int):Rat) (jO (jZ (xT (z:=14) (vP (by decide)) (by decide))) (by decide)) (by decide +kernel) (by decide +kernel) (by decide +kernel) (by decide +kernel) (by decide +kernel) (by decide +kernel)))<|zM<|zE (oQd (.val (.bool ((decide ((yC ((((14:Int):Rat)-((10:Int):Rat))*(((14:Int):Rat)-((10:Int):Rat))) (((4:Int):Rat)*((4:Int):Rat)))≤0))))) (.val (.bool (true))) uT (by exact (congrArg (fun b=>jX.val (.bool b)) (by decide +kernel))))<|zE uT<|zM<|zM<|zZ) ?_
 refine jB<|kd [(0,(vb true))] [] mo (wM<|wE (vW true xR)<|wM<|wM<|wE (vW true xR)<|wE gR<|wM<|wM<|wE (vW true xR)<|wE gR<|wM<|wM<|wE gR<|wM<|wR (kK jS)<|wE (jY (hH 25 (by decide) (by decide)))<|wE (vW true (jY (by have h:=g_same (jN ((25:Int):Rat)) (jN ((25:Int):Rat)) ((25:Int):Rat) ((25:Int):Rat) (jO (jZ (xT (mN (by decide) (by decide)) (by decide))) (by decide)) (jO (jZ (xT (z:=25) (vP (by decide)) (by decide))) (by decide));rw[sameR_of] at h;exact h)) (by exact decide_eq_true rfl))<|wE gR<|wM<|wR (kK jW)<|wE (jY (h_whole 9 9 (by decide) (by decide) (by decide) (by decide)))<|wE (jY (by have h:=h_same y2 y2 (hZ (⟨qR (jO (jZ (xT (mN (by decide) (by decide)) (by decide))) (by decide:3≤3)),qR (jO (jZ (xT (mN (by decide) (by decide)) (by decide))) (by decide:3≤3))⟩) (by decide)) (hZ (⟨qR (jO (jZ (xT (z:=9) (vP (by decide)) (by decide))) (by decide:1≤1)),qR (jO (jZ (xT (z:=9) (vP (by decide)) (by decide))) (by decide:1≤1))⟩) (by decide));rw[show sameG y2 y2=true from by rw[sameG_of];kernel_rfl] at h;exact h))<|wE gR<|wM<|wR (kK jW)<|wE (jY (h_whole 1 1 (by decide) (by decide) (by decide) (by decide)))<|wE (jY (by have h:=h_same y3 y3 (hZ (⟨qR (jO (jZ (xT (mN (by decide) (by decide)) (by decide))) (by decide:3≤3)),qR (jO (jZ (xT (mN (by decide) (by decide)) (by decide))) (by decide:3≤3))⟩) (by decide)) (hZ (⟨qR (jO (jZ (xT (z:=1) (vP (by decide)) (by decide))) (by decide:1≤1)),qR (jO (jZ (xT (z:=1) (vP (by decide)) (by decide))) (by decide:1≤1))⟩) (by decide));rw[show sameG y3 y3=true from by rw[sameG_of];kernel_rfl] at h;exact h))<|wE gR<|wM<|wZ) ?_
 refine jE ⟨_,(.tmp (d:=(.val (.bool (true)))) rfl .nil),?_⟩
 rfl
theorem va_no{ts:List (List kV)}{q:List (List jQ)}{l:List jQ}(h:(decide (((3:Nat):Int)<((ts.length:Nat):Int))||!(shM 5 6 q))=false)(hal:ts.all (fun t=>dE 16 10 t&&shR 4 6 l)=true):¬ (decide (ts.length≤3)&&shM 5 6 q&&ts.all (fun t=>dE 16 10 t&&shR 4 6 l))=false:=fun hs=>by
 rw[Bool.or_eq_false_iff,decide_eq_false_iff_not,Bool.not_eq_false'] at h
 rw[hal,h.2,decide_eq_true (by omega)] at hs;exact absurd hs (by decide)
theorem one_form{ts:List (List kV)}(h:ts.length=1):[ts.getD 0 []]=ts:=by
 match ts,h with
 |[t],_=>rfl
end Go.Proofs.YtnajallgoaiahaaGreatDoor
