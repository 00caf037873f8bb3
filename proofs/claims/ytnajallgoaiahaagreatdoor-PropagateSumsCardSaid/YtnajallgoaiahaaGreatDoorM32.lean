/- Part 32 of a proof: rules, plain facts, and functions walked. -/
import Derived.Test.YtnajallgoaiahaaGreatDoorM30
import Derived.Test.YtnajallgoaiahaaGreatDoorM31
import Derived.Test.YtnajallgoaiahaaGreatDoorM18
import Derived.Test.YtnajallgoaiahaaGreatDoorM29
import Derived.Test.YtnajallgoaiahaaGreatDoorM27
import Derived.Test.YtnajallgoaiahaaGreatDoorM26
set_option linter.all false
set_option maxRecDepth 4000
namespace Go.Proofs.YtnajallgoaiahaaGreatDoor
open Go.Fid
theorem cb32:callB Tryz.prog 32=true:=by kernel_rfl
theorem cb88:callB Tryz.prog 88=true:=by kernel_rfl
theorem i_ptC(p:Rat)(hp:QL p 200):jQ Tryz.prog 89 [(jK (jP p))] (.tup [(jI (jW.mk (jP p) (jP p))),(.val (.int .i64 (((0:Nat):Int))))]):=by
 refine jG Tryz.func89 rfl cb89 rfl ?_
 show qK _ _ _ _ ⟨[(0,(.d (jK (jP p))))],[]⟩
 refine jB<|kx [(1,(.ref 0 0)),(2,(.ref 1 0))] [(0,some (bx (jK (jP p)))),(1,some (bx (jI (jW.mk qM qM))))] (zN (vN 0)<|zN (uB 1 uC uH)<|zM<|zZ) ?_
 refine jB<|kx [(3,(vi 0))] [(1,some (bx (jI (jW.mk (jP p) (jP p)))))] (zR (kO jS)<|zR (kO jS)<|zE (jZ (i_makeO (jP p) p (jR (kC hp) (by decide)) (jP p) p (jR (kC hp) (by decide)) (by rw[cF];rfl) (Rat.le_refl (a:=p))))<|zE vT<|zE vT<|zT (qD kF)<|zM<|zZ) ?_
 refine jE ⟨_,(kP (cs:=(bx (jI (jW.mk (jP p) (jP p))))) (d:=(jI (jW.mk (jP p) (jP p)))) rfl rfl kF rfl rfl (.tmp (d:=(.val (.int .i64 (0)))) rfl .nil)),?_⟩
 rfl
theorem p_of(n:Int)(hnl:-9223372036854775808≤n)(hnh:n≤9223372036854775807)(d:Int)(hdl:-9223372036854775808≤d)(hdh:d≤9223372036854775807)(hd:d≠0):jQ Tryz.prog 88 [(.val (.int .i64 (n))),(.val (.int .i64 (d)))] (.tup [(jK (jP (Rat.divInt n d))),(.val (.int .i64 (0)))]):=by
 refine jG Tryz.func88 rfl cb88 rfl ?_
 show qK _ _ _ _ ⟨[(0,(vi n)),(1,(vi d))],[]⟩
 refine jB<|kx [(4,(.ref 0 0))] [(0,some (bx (jK qM)))] (zN (uB 0 uL uQ)<|zM<|zZ) ?_
 refine jB<|kx [(5,(vi 0))] [(0,some (bx (jK (jP (Rat.divInt n d)))))] (zM<|zE (jZ (t_of n (by omega) (by omega)))<|zM<|zE (jZ (t_of d (by omega) (by omega)))<|zE (jZ (f_newO (kD n) n (mG (iok_int (z:=n) (by omega) (by omega)) (by decide)) (kD d) d (mG (iok_int (z:=d) (by omega) (by omega)) (by decide)) hd))<|zE vT<|zE vT<|zT (qD jS)<|zM<|zZ) ?_
 refine jE ⟨_,(kP (cs:=(bx (jK (jP (Rat.divInt n d))))) (d:=(jK (jP (Rat.divInt n d)))) rfl rfl jS rfl rfl (.tmp (d:=(.val (.int .i64 (0)))) rfl .nil)),?_⟩
 rfl
theorem p_ellO(m:List (List jO))(hm:xG 6 m)(i:Nat)(j:Nat)(k:Nat)(hk:k≤512)(hc:nZ m=0)(hf:mW m m.length=0)(hi:i<m.length)(hj:j<m.length)(hij:i≠j):jQ Tryz.prog 32 [(.sl 24 1 (List.map jL m)),(.val (.int .i64 (((i:Nat):Int)))),(.val (.int .i64 (((j:Nat):Int)))),(.val (.int .i64 (((k:Nat):Int))))] (.tup [(jI (jW.mk (jP (((Rat.divInt 1 2)*((qJ ((m.getD i []).getD i qM))+(qJ ((m.getD j []).getD j qM))))+(Rat.divInt (qR (mR (((((Rat.divInt 1 2)*((qJ ((m.getD i []).getD i qM))-(qJ ((m.getD j []).getD j qM))))*((Rat.divInt 1 2)*((qJ ((m.getD i []).getD i qM))-(qJ ((m.getD j []).getD j qM)))))+((qJ ((m.getD i []).getD j qM))*(qJ ((m.getD i []).getD j qM))))*((xV k)*(xV k))))) ((2 ^ k:Nat):Int)))) (jP (((Rat.divInt 1 2)*((qJ ((m.getD i []).getD i qM))+(qJ ((m.getD j []).getD j qM))))+(Rat.divInt (upI (((((Rat.divInt 1 2)*((qJ ((m.getD i []).getD i qM))-(qJ ((m.getD j []).getD j qM))))*((Rat.divInt 1 2)*((qJ ((m.getD i []).getD i qM))-(qJ ((m.getD j []).getD j qM)))))+((qJ ((m.getD i []).getD j qM))*(qJ ((m.getD i []).getD j qM))))*((xV k)*(xV k)))) ((2 ^ k:Nat):Int)))))),(jI (jW.mk (jP (((Rat.divInt 1 2)*((qJ ((m.getD i []).getD i qM))+(qJ ((m.getD j []).getD j qM))))-(Rat.divInt (upI (((((Rat.divInt 1 2)*((qJ ((m.getD i []).getD i qM))-(qJ ((m.getD j []).getD j qM))))*((Rat.divInt 1 2)*((qJ ((m.getD i []).getD i qM))-(qJ ((m.getD j []).getD j qM)))))+((qJ ((m.getD i []).getD j qM))*(qJ ((m.getD i []).getD j qM))))*((xV k)*(xV k)))) ((2 ^ k:Nat):Int)))) (jP (((Rat.divInt 1 2)*((qJ ((m.getD i []).getD i qM))+(qJ ((m.getD j []).getD j qM))))-(Rat.divInt (qR (mR (((((Rat.divInt 1 2)*((qJ ((m.getD i []).getD i qM))-(qJ ((m.getD j []).getD j qM))))*((Rat.divInt 1 2)*((qJ ((m.getD i []).getD i qM))-(qJ ((m.getD j []).getD j qM)))))+((qJ ((m.getD i []).getD j qM))*(qJ ((m.getD i []).getD j qM))))*((xV k)*(xV k))))) ((2 ^ k:Nat):Int)))))),(.val (.int .i64 (((0:Nat):Int))))]):=by
 have hmb:=hm.2
 have hrc:=mchk_rect hc
 have hf2:=fit_of hf
 have hri:=(hrc.at hi).1
 have hrj:=(hrc.at hj).1
 have hm64:=hrc.r64
 let y26:=qM
 let y25:=(qJ ((m.getD i []).getD j y26))
 let y24:=(qJ ((m.getD j []).getD j y26))
 let y23:=(qJ ((m.getD i []).getD i y26))
 let y22:=(bx (jI (jW.mk y26 y26)))
 let y21:=(y23+y24)
 let y20:=(y25*y25)
 let y19:=(y23-y24)
 let y18:=((Rat.divInt 1 2)*y21)
 let y17:=((Rat.divInt 1 2)*y19)
 let y16:=(jP y18)
 let y15:=(jP y17)
 let y14:=(y17*y17)
 let y13:=(y14+y20)
 let y12:=(jP y13)
 let y11:=(y13*((xV k)*(xV k)))
 let y10:=(Rat.divInt (upI y11) ((2 ^ k:Nat):Int))
 let y9:=(Rat.divInt (qR (mR y11)) ((2 ^ k:Nat):Int))
 let y8:=(y18-y10)
 let y7:=(y18+y10)
 let y6:=(y18-y9)
 let y5:=(y18+y9)
 let y4:=(jI (jW.mk (jP y8) (jP y6)))
 let y3:=(jI (jW.mk (jP y5) (jP y7)))
 let y2:=(bx y4)
 let y1:=(bx y3)
 refine jG Tryz.func32 rfl cb32 rfl ?_
 show qK _ _ _ _ ⟨[(0,(vl 24 1 jL m)),(1,(jV i)),(2,(jV j)),(3,(jV k))],[]⟩
 refine jB<|kx [(8,(.ref 0 0)),(9,(.ref 1 0))] [(0,some y22),(1,some y22)] (zN (uB 0 uC uH)<|zN (uB 1 uC uH)<|zM<|zZ) ?_
 refine jB<|jB<|kx [(31,(vb false))] [] (zM<|zE (jZ (m_chk m (gM hm (by decide))))<|zE (xD false cM (by exact bne_eq_false_iff_eq.2 (by rw[show (nZ m)=0 from hc]<;>rfl)))<|zZ) ?_
 refine kY ?_
 refine jD<|jB<|kx [(11,(jV m.length))] [] (zM<|zE (vC mC)<|zM<|zZ) ?_
 refine jB<|jB<|kx [(12,(jV (mW m m.length)))] [] (zM<|zM<|zE (jZ (p_fit m (gM hm (by decide)) m.length (by assumption)))<|zM<|zZ) ?_
 refine jB<|kx [(40,(vb false))] [] (zM<|zE (xD false cM (by exact bne_eq_false_iff_eq.2 (by rw[show (mW m m.length)=0 from hf]<;>rfl)))<|zZ) ?_
 refine kY ?_
 refine jD<|jB<|jB<|kx [(72,(vb false))] [] (zM<|zE (xD false xT (by exact decide_eq_false (show ¬ ((i:Nat):Int)<0 by omega)))<|zM<|zM<|zM<|zE (xD false oGe (by exact decide_eq_false (show ¬ ((m.length:Nat):Int)≤((i:Nat):Int) by omega)))<|zE zG<|zM<|zM<|zE (xD false xT (by exact decide_eq_false (show ¬ ((j:Nat):Int)<0 by omega)))<|zE zG<|zM<|zM<|zM<|zE (xD false oGe (by exact decide_eq_false (show ¬ ((m.length:Nat):Int)≤((j:Nat):Int) by omega)))<|zE zG<|zM<|zM<|zM<|zE (xD false yQ (by exact beq_eq_false_iff_ne.2 (show ((i:Nat):Int)≠((j:Nat):Int) by omega)))<|zE zG<|zM<|zM<|zE (xD false xT (by exact decide_eq_false (show ¬ ((k:Nat):Int)<0 by omega)))<|zE zG<|zM<|zM<|zE (xD false mT (by exact decide_eq_false (show ¬ 512<((k:Nat):Int) by omega)))<|zE zG<|zZ) ?_
 refine kY ?_
 refine jD<|jB ?_
 have bn1:QL (Rat.divInt 1 2) 3:=(yA (n:=3) (nN (by omega) (by omega)) (nN (by omega) (by omega)) (by decide))
 refine kx [(13,(.ref 2 0))] [(2,some (bx (jK (jP (Rat.divInt 1 2)))))] (zE (jZ (p_of ((1:Nat):Int) (by omega) (by omega) ((2:Nat):Int) (by omega) (by omega) (by decide)))<|zM<|zE vT<|zE vT<|zN (uB 2 uL uQ)<|zT (qD jS)<|zM<|zZ) ?_
 refine jB<|kd [(15,(.ref 3 0)),(16,(.ref 4 0)),(17,(.ref 5 0))] [(3,some (bx (jK ((m.getD i []).getD i y26)))),(4,some (bx (jK ((m.getD i []).getD j y26)))),(5,some (bx (jK ((m.getD j []).getD j y26))))] mo (wM<|wM<|wE (yL mC i ([]:List (jO)))<|wE (yR yG)<|wM<|wE (yL uI i y26 (L:=(m.getD i [])))<|wE (nA jS)<|wM<|wM<|wE (yL mC i ([]:List (jO)))<|wE (yR yG)<|wM<|wE (yL uI j y26 (L:=(m.getD i [])))<|wE (nA jS)<|wM<|wM<|wE (yL mC j ([]:List (jO)))<|wE (yR yG)<|wM<|wE (yL uI j y26 (L:=(m.getD j [])))<|wE (nA jS)<|wN (uB 3 uL uQ)<|wN (uB 4 uL uQ)<|wN (uB 5 uL uQ)<|wT (qD jS)<|wT (qD jS)<|wT (qD jS)<|wZ) ?_
 refine jB ?_
 have bn2:QL y19 13:=(aF (k:=13) (xO (xM (d:=[]) hm (show i<m.length by omega)).1 (show i<(m.getD i []).length by omega)).ql (xO (xM (d:=[]) hm (show j<m.length by omega)).1 (show j<(m.getD j []).length by omega)).ql (by decide))
 refine kd [(18,(.ref 6 0))] [(6,some (bx (jK y15)))] mo (wR (kO jS)<|wR (kO jS)<|wR (kO jS)<|wE (jZ (f_sub ((m.getD i []).getD i y26) ((m.getD j []).getD j y26) y23 y24 (jR (xO (xM (d:=[]) hm (show i<m.length by omega)).1 (show i<(m.getD i []).length by omega)) (by decide)) (jR (xO (xM (d:=[]) hm (show j<m.length by omega)).1 (show j<(m.getD j []).length by omega)) (by decide))))<|wE (jZ (eK (jP (Rat.divInt 1 2)) (jP y19) (Rat.divInt 1 2) y19 (jR (kC bn1) (by decide)) (jR (kC bn2) (by decide))))<|wN (uB 6 uL uQ)<|wT (qD jS)<|wZ) ?_
 refine jB ?_
 have bn3:QL y14 32:=(qQ (k:=32) (qQ (k:=16) bn1 bn2 (by decide)) (qQ (k:=16) bn1 bn2 (by decide)) (by decide))
 have bn4:QL y20 12:=(qQ (k:=12) (xO (xM (d:=[]) hm (show i<m.length by omega)).1 (show j<(m.getD i []).length by omega)).ql (xO (xM (d:=[]) hm (show i<m.length by omega)).1 (show j<(m.getD i []).length by omega)).ql (by decide))
 refine kd [(19,(.ref 7 0))] [(7,some (bx (jI (jW.mk y12 y12))))] mo (wR (kO jS)<|wR (kO jS)<|wE (jZ (eK y15 y15 y17 y17 (jR (kC (qQ (k:=16) bn1 bn2 (by decide))) (by decide)) (jR (kC (qQ (k:=16) bn1 bn2 (by decide))) (by decide))))<|wR (kO jS)<|wR (kO jS)<|wE (jZ (eK ((m.getD i []).getD j y26) ((m.getD i []).getD j y26) y25 y25 (jR (xO (xM (d:=[]) hm (show i<m.length by omega)).1 (show j<(m.getD i []).length by omega)) (by decide)) (jR (xO (xM (d:=[]) hm (show i<m.length by omega)).1 (show j<(m.getD i []).length by omega)) (by decide))))<|wE (jZ (f_add (jP y14) (jP y20) y14 y20 (jR (kC bn3) (by decide)) (jR (kC bn4) (by decide))))<|wE (jZ (i_ptC y13 (vR (zP (k:=45) bn3 bn4 (by decide)) (by decide))))<|wM<|wE vT<|wE vT<|wN (uB 7 uC uH)<|wT (qD kF)<|wM<|wZ) ?_
 refine jB ?_
 have bn5:QL y9 86:=(yA (n:=86) (Nat.le_trans (yZ.ln (iok_root (fl_nn (aK (sq2_nn y17 y25))) (fR (k:=86) (qQ (k:=85) (zP (k:=45) bn3 bn4 (by decide)) (qQ (k:=40) (eD (k:=k) (by omega)) (eD (k:=k) (by omega)) (by decide)) (by decide)) (by decide)))) (by decide)) (Nat.le_trans (yZ.ln (cQ (k:=k) (by omega))) (by decide)) (by decide))
 have bn6:QL y10 87:=(yA (n:=87) (Nat.le_trans (yZ.ln (iok_upI (k:=87) (fl_nn (aK (Rat.le_trans (sq2_nn y17 y25) Rat.le_refl))) (fR (k:=86) (qQ (k:=85) (zP (k:=45) bn3 bn4 (by decide)) (qQ (k:=40) (eD (k:=k) (by omega)) (eD (k:=k) (by omega)) (by decide)) (by decide)) (by decide)) (by decide) (by decide))) (by decide)) (Nat.le_trans (yZ.ln (cQ (k:=k) (by omega))) (by decide)) (by decide))
 refine kx [(21,(.ref 8 0))] [(8,some (bx (jI (jW.mk (jP y9) (jP y10)))))] (zR (kO kF)<|zM<|zE (jZ (di_root y13 y13 (vR (zP (k:=45) bn3 bn4 (by decide)) (by decide)) (vR (zP (k:=45) bn3 bn4 (by decide)) (by decide)) Rat.le_refl k (by omega) (sq2_nn y17 y25)))<|zM<|zE vT<|zE vT<|zN (uB 8 uC uH)<|zT (qD kF)<|zM<|zZ) ?_
 refine jB ?_
 have bn7:QL y21 13:=(zP (k:=13) (xO (xM (d:=[]) hm (show i<m.length by omega)).1 (show i<(m.getD i []).length by omega)).ql (xO (xM (d:=[]) hm (show j<m.length by omega)).1 (show j<(m.getD j []).length by omega)).ql (by decide))
 refine kd [(23,(.ref 9 0))] [(9,some (bx (jI (jW.mk y16 y16))))] mo (wR (kO jS)<|wR (kO jS)<|wR (kO jS)<|wE (jZ (f_add ((m.getD i []).getD i y26) ((m.getD j []).getD j y26) y23 y24 (jR (xO (xM (d:=[]) hm (show i<m.length by omega)).1 (show i<(m.getD i []).length by omega)) (by decide)) (jR (xO (xM (d:=[]) hm (show j<m.length by omega)).1 (show j<(m.getD j []).length by omega)) (by decide))))<|wE (jZ (eK (jP (Rat.divInt 1 2)) (jP y21) (Rat.divInt 1 2) y21 (jR (kC bn1) (by decide)) (jR (kC bn7) (by decide))))<|wE (jZ (i_ptC y18 (vR (qQ (k:=16) bn1 bn7 (by decide)) (by decide))))<|wM<|wE vT<|wE vT<|wN (uB 9 uC uH)<|wT (qD kF)<|wM<|wZ) ?_
 refine jB ?_
 have bn8:QL y5 104:=(zP (k:=104) (qQ (k:=16) bn1 bn7 (by decide)) bn5 (by decide))
 have bn9:QL y7 104:=(zP (k:=104) (qQ (k:=16) bn1 bn7 (by decide)) bn6 (by decide))
 refine kx [(25,(.ref 10 0))] [(10,some y1)] (zR (kO kF)<|zR (kO kF)<|zE (jZ (i_add y18 y18 y9 y10 (vR (qQ (k:=16) bn1 bn7 (by decide)) (by decide)) (vR (qQ (k:=16) bn1 bn7 (by decide)) (by decide)) (qu bn5) (qu bn6) Rat.le_refl (rt_valid k (sq2_nn y17 y25) Rat.le_refl)))<|zM<|zE vT<|zE vT<|zN (uB 10 uC uH)<|zT (qD kF)<|zM<|zZ) ?_
 refine jB ?_
 have bn10:QL y8 104:=(aF (k:=104) (qQ (k:=16) bn1 bn7 (by decide)) bn6 (by decide))
 have bn11:QL y6 104:=(aF (k:=104) (qQ (k:=16) bn1 bn7 (by decide)) bn5 (by decide))
 refine kx [(27,(.ref 11 0))] [(11,some y2)] (zR (kO kF)<|zR (kO kF)<|zE (jZ (i_sub y18 y18 y9 y10 (vR (qQ (k:=16) bn1 bn7 (by decide)) (by decide)) (vR (qQ (k:=16) bn1 bn7 (by decide)) (by decide)) (qu bn5) (qu bn6) Rat.le_refl (rt_valid k (sq2_nn y17 y25) Rat.le_refl)))<|zM<|zE vT<|zE vT<|zN (uB 11 uC uH)<|zT (qD kF)<|zM<|zZ) ?_
 refine jB<|kW (wk (l:=[(8,(.ref 0 0)),(9,(.ref 1 0)),(25,(.ref 10 0)),(27,(.ref 11 0))]) (b:=[(0,some y22),(1,some y22),(10,some y1),(11,some y2)])) ?_
 refine kd [(10,(jV 0))] [(0,some y1),(1,some y2)] mo (wR (kO kF)<|wR (kO kF)<|wT (qD kF)<|wT (qD kF)<|wM<|wZ) ?_
 refine jE ⟨_,(kP (cs:=y1) (d:=y3) rfl rfl kF rfl rfl (kP (cs:=y2) (d:=y4) rfl rfl kF rfl rfl (.tmp (d:=(.val (.int .i64 (((0:Nat):Int))))) rfl .nil))),?_⟩
 rfl
theorem cb11:callB Tryz.prog 11=true:=by kernel_rfl
theorem cb65:callB Tryz.prog 65=true:=by kernel_rfl
theorem p_whole(zs:List Int)(hz:∀ z∈zs,-9223372036854775808≤z∧z≤9223372036854775807)(hzl:zs.length≤1000000):jQ Tryz.prog 65 [(.sl 3 1 (List.map qA zs))] (.sl 45 4 (List.map jK (List.map jP (zQ zs)))):=by
 refine jG Tryz.func65 rfl cb65 rfl ?_
 show qK _ _ _ _ ⟨[(0,(vl 3 1 qA zs))],[]⟩
 refine jB<|kx [] [] (zE (dZ 45 4)<|zZ) ?_
 refine jB<|kx [(3,(.own 0 45 4 0))] [(0,some (cC jK []))] (zN (oBo 0 uI uL uQ)<|zM<|zZ) ?_
 refine jB<|jB<|kx [(7,(vl 3 1 qA zs)),(8,(jV zs.length)),(9,(jV 0))] [] (zM<|zE (vC nP)<|zM<|zZ) ?_
 refine jH<|kL (α:=Nat × List jO) (fun (i,o)=>⟨[(3,(.own 0 45 4 o.length)),(7,(vl 3 1 qA zs)),(8,(jV zs.length)),(9,(jV i))],[(0,some (cC jK o))]⟩) (fun (i,o)=>i≤zs.length∧o=(zs.take i).map (fun z:Int=>jP (z:Rat))) (fun (i,o)=>zs.length-i) (0,[]) wk ⟨Nat.zero_le _,by simp⟩ ?_
 rintro ⟨i,o⟩ ⟨hi,ho⟩
 have hol:o.length=i:=by rw[ho,List.length_map,List.length_take];omega
 refine jB<|kx [(10,(vb (decide (((i:Nat):Int)<((zs.length:Nat):Int)))))] [] (zE xT<|zZ) ?_
 refine jB<|jF rfl (fun h1=>?_) (fun h1=>?_)
 ·replace h1:=vI h1
  have hzi:=zs_at hz (show i<zs.length by omega)
  refine jD<|jB<|jH<|jB<|kx [(5,(vi (zs.getD i 0)))] [] (zE (yL nP i (0:Int))<|zE (yR hP)<|zM<|zZ) ?_
  refine kf [(3,(.own 0 45 4 ((o++[(jP ((zs.getD i 0:Int):Rat))]).length)))] [(0,some (cC jK (o++[(jP ((zs.getD i 0:Int):Rat))])))] (zM<|zM<|zE (jZ (eB (zs.getD i 0) (by omega) (by omega)))<|zE (dG uI uL uQ)<|zAS jK o [(jP ((zs.getD i 0:Int):Rat))] rfl uI uL by45<|zM<|zF) ?_
  refine kx [(9,(jV (i+1)))] [] (zE (vY (i+1))<|zM<|zZ) ?_
  exact ⟨(i+1,o++[jP ((zs.getD i 0:Int):Rat)]),wk,⟨by omega,by rw[ho];exact dJ (f:=fun z:Int=>jP (z:Rat)) (by omega)⟩,(by first|omega|(dsimp only;omega))⟩
 ·replace h1:=vM h1
  refine kJ<|jB<|kx [(2,(.own 0 45 4 o.length))] [] (zM<|zM<|zZ) ?_
  refine kW (vX (t:=2) (k:=0) (es:=List.map jK o) rfl rfl (nD _ _ (fun _=>rfl)) (uT _ _ rfl) (mL jK o (fun _=>rfl) rfl)) ?_
  refine jE ⟨_,(.tmp (d:=(.sl 45 4 (List.map jK o))) rfl .nil),?_⟩
  rw[ho,show i=zs.length by omega,List.take_length,show List.map (fun z:Int=>jP (z:Rat)) zs=List.map jP (zQ zs) from (by unfold zQ;rw[List.map_map];rfl)];rfl
theorem kT_runP:fS (List.map gD kX) kT:=run_p (pts_gl kX_ql) kT_ok kT_run
theorem p_known :jQ Tryz.prog 11 [] (.val (.bool (true))):=by
 let y4:=qM
 let y3:=(jW.mk (jP ((1:Int):Rat)) (jP ((1:Int):Rat)))
 let y2:=(jW.mk (jP ((9:Int):Rat)) (jP ((9:Int):Rat)))
 let y1:=[(kN.mk ((1:Nat):Int) 0 0 y4),(kN.mk ((1:Nat):Int) ((1:Nat):Int) 0 y4),(kN.mk ((4:Nat):Int) 0 ((1:Nat):Int) y4)]
 refine jG Tryz.func11 rfl cb11 rfl ?_
 show qK _ _ _ _ ⟨[],[]⟩
 refine jB<|kx [] [] (zM<|zZ) ?_
 refine jB<|kx [(1,(vl 83 7 kK y1))] [] (zE (bB pl83 bE zo83)<|zE (bB pl83 bE zo83)<|zE (bB pl83 bE zo83)<|zE (dG hH bE zo83)<|zM<|zZ) ?_
 refine jB<|kx [(2,(.ref 0 0)),(3,(jV 0))] [(0,some (bx (jK (jP ((25:Int):Rat)))))] (zE (oQd (.sl 83 7 (List.map kK y1)) (.sl 83 7 (List.map kK kT)) (oV (vl 83 7 kK y1) (kV (by kernel_rfl))) (by exact rfl))<|zE (dG nP ze3 zo3)<|zE (oQd (.sl 45 4 (List.map jK (List.map jP (zQ [((2:Nat):Int),((3:Nat):Int)])))) (.sl 45 4 (List.map jK (List.map jP kX))) (jZ (p_whole [((2:Nat):Int),((3:Nat):Int)] (by decide) (by decide))) (by exact rfl))<|zE (dG nP ze3 zo3)<|zE (jZ (p_whole [((1:Nat):Int),((0:Nat):Int)] (by decide) (by decide)))<|zE (dG nP ze3 zo3)<|zE (jZ (p_whole [((0:Nat):Int),((4:Nat):Int)] (by decide) (by decide)))<|zE (oQd (.sl 24 1 (List.map jL [(List.map jP (zQ [((1:Nat):Int),((0:Nat):Int)])),(List.map jP (zQ [((0:Nat):Int),((4:Nat):Int)]))])) (.sl 24 1 (List.map jL kQ)) (dG mC ze24 zo24) (by exact rfl))<|zE (jZ (p_var kT kT_ok kX kX_ql kQ kQ_ok kT_runP kQ_rect kQ_fit rfl))<|zM<|zE (oQd (jK (jP (xU kQ (qW kX kT) (qW kX kT)))) (jK (jP ((25:Int):Rat))) vT (by exact (by rw[kVar];rfl)))<|zE vT<|zN (uB 0 uL uQ)<|zT (qD jS)<|zM<|zZ) ?_
 refine jB<|kx [(4,(.ref 1 0)),(5,(.ref 2 0)),(6,(jV 0))] [(1,some (bx (jI y2))),(2,some (bx (jI y3)))] (zE (dG nP ze3 zo3)<|zE (jZ (p_whole [((5:Nat):Int),((4:Nat):Int)] (by decide) (by decide)))<|zE (dG nP ze3 zo3)<|zE (jZ (p_whole [((4:Nat):Int),((5:Nat):Int)] (by decide) (by decide)))<|zE (oQd (.sl 24 1 (List.map jL [(List.map jP (zQ [((5:Nat):Int),((4:Nat):Int)])),(List.map jP (zQ [((4:Nat):Int),((5:Nat):Int)]))])) (.sl 24 1 (List.map jL kE)) (dG mC ze24 zo24) (by exact rfl))<|zE (jZ (p_ellO kE kE_ok 0 1 3 (by omega) kE_chk kE_fit (by decide) (by decide) (by omega)))<|zM<|zE (oQd (jI (jW.mk (jP (((Rat.divInt 1 2)*((qJ ((kE.getD 0 []).getD 0 y4))+(qJ ((kE.getD 1 []).getD 1 y4))))+(Rat.divInt (qR (mR (((((Rat.divInt 1 2)*((qJ ((kE.getD 0 []).getD 0 y4))-(qJ ((kE.getD 1 []).getD 1 y4))))*((Rat.divInt 1 2)*((qJ ((kE.getD 0 []).getD 0 y4))-(qJ ((kE.getD 1 []).getD 1 y4)))))+((qJ ((kE.getD 0 []).getD 1 y4))*(qJ ((kE.getD 0 []).getD 1 y4))))*(((((2 ^ 3:Nat):Int):Int):Rat)*((((2 ^ 3:Nat):Int):Int):Rat))))) ((2 ^ 3:Nat):Int)))) (jP (((Rat.divInt 1 2)*((qJ ((kE.getD 0 []).getD 0 y4))+(qJ ((kE.getD 1 []).getD 1 y4))))+(Rat.divInt (upI (((((Rat.divInt 1 2)*((qJ ((kE.getD 0 []).getD 0 y4))-(qJ ((kE.getD 1 []).getD 1 y4))))*((Rat.divInt 1 2)*((qJ ((kE.getD 0 []).getD 0 y4))-(qJ ((kE.getD 1 []).getD 1 y4)))))+((qJ ((kE.getD 0 []).getD 1 y4))*(qJ ((kE.getD 0 []).getD 1 y4))))*(((((2 ^ 3:Nat):Int):Int):Rat)*((((2 ^ 3:Nat):Int):Int):Rat)))) ((2 ^ 3:Nat):Int)))))) (jI y2) vT (by exact (by rw[kEa,kEb,kEc];exact congrArg jI (rng2 (by decide +kernel) (by decide +kernel)))))<|zE (oQd (jI (jW.mk (jP (((Rat.divInt 1 2)*((qJ ((kE.getD 0 []).getD 0 y4))+(qJ ((kE.getD 1 []).getD 1 y4))))-(Rat.divInt (upI (((((Rat.divInt 1 2)*((qJ ((kE.getD 0 []).getD 0 y4))-(qJ ((kE.getD 1 []).getD 1 y4))))*((Rat.divInt 1 2)*((qJ ((kE.getD 0 []).getD 0 y4))-(qJ ((kE.getD 1 []).getD 1 y4)))))+((qJ ((kE.getD 0 []).getD 1 y4))*(qJ ((kE.getD 0 []).getD 1 y4))))*(((((2 ^ 3:Nat):Int):Int):Rat)*((((2 ^ 3:Nat):Int):Int):Rat)))) ((2 ^ 3:Nat):Int)))) (jP (((Rat.divInt 1 2)*((qJ ((kE.getD 0 []).getD 0 y4))+(qJ ((kE.getD 1 []).getD 1 y4))))-(Rat.divInt (qR (mR (((((Rat.divInt 1 2)*((qJ ((kE.getD 0 []).getD 0 y4))-(qJ ((kE.getD 1 []).getD 1 y4))))*((Rat.divInt 1 2)*((qJ ((kE.getD 0 []).getD 0 y4))-(qJ ((kE.getD 1 []).getD 1 y4)))))+((qJ ((kE.getD 0 []).getD 1 y4))*(qJ ((kE.getD 0 []).getD 1 y4))))*(((((2 ^ 3:Nat):Int):Int):Rat)*((((2 ^ 3:Nat):Int):Int):Rat))))) ((2 ^ 3:Nat):Int)))))) (jI y3) vT (by exact (by rw[kEa,kEb,kEc];exact congrArg jI (rng2 (by decide +kernel) (by decide +kernel)))))<|zE vT<|zN (uB 1 uC uH)<|zN (uB 2 uC uH)<|zT (qD kF)<|zT (qD kF)<|zM<|zZ) ?_
 refine jB<|kx [(7,(vb true)),(8,(jV 0))] [] (zE (jZ (eB 10 (by decide) (by decide)))<|zE (jZ (eB 4 (by decide) (by decide)))<|zE (jZ (eB 4 (by decide) (by decide)))<|zE (jZ (eB 14 (by decide) (by decide)))<|zE (jZ (p_cov (jP ((10:Int):Rat)) ((10:Int):Rat) (jR (kC (zI (z:=10) (xL (by decide)) (by decide))) (by decide)) (jP ((4:Int):Rat)) ((4:Int):Rat) (jR (kC (zI (z:=4) (xL (by decide)) (by decide))) (by decide)) (jP ((4:Int):Rat)) ((4:Int):Rat) (jR (kC (zI (z:=4) (xL (by decide)) (by decide))) (by decide)) (jP ((14:Int):Rat)) ((14:Int):Rat) (jR (kC (zI (z:=14) (xL (by decide)) (by decide))) (by decide)) (by decide +kernel) (by decide +kernel) (by decide +kernel) (by decide +kernel) (by decide +kernel) (by decide +kernel)))<|zM<|zE (oQd (.val (.bool ((decide ((yW ((((14:Int):Rat)-((10:Int):Rat))*(((14:Int):Rat)-((10:Int):Rat))) (((4:Int):Rat)*((4:Int):Rat)))≤0))))) (.val (.bool (true))) vT (by exact (congrArg (fun b=>jT.val (.bool b)) (by decide +kernel))))<|zE vT<|zM<|zM<|zZ) ?_
 refine jB<|kd [(0,(vb true))] [] mo (wM<|wE (xD true yQ)<|wM<|wM<|wE (xD true yQ)<|wE xS<|wM<|wM<|wE (xD true yQ)<|wE xS<|wM<|wM<|wE xS<|wM<|wR (kO jS)<|wE (jZ (eB 25 (by decide) (by decide)))<|wE (xD true (jZ (by have h:=g_same (jP ((25:Int):Rat)) (jP ((25:Int):Rat)) ((25:Int):Rat) ((25:Int):Rat) (jR (kC (zI (nN (by decide) (by decide)) (by decide))) (by decide)) (jR (kC (zI (z:=25) (xL (by decide)) (by decide))) (by decide));rw[sameR_of] at h;exact h)) (by exact decide_eq_true rfl))<|wE xS<|wM<|wR (kO kF)<|wE (jZ (h_whole 9 9 (by decide) (by decide) (by decide) (by decide)))<|wE (jZ (by have h:=h_same y2 y2 (gW (⟨qL (jR (kC (zI (nN (by decide) (by decide)) (by decide))) (by decide:3≤3)),qL (jR (kC (zI (nN (by decide) (by decide)) (by decide))) (by decide:3≤3))⟩) (by decide)) (gW (⟨qL (jR (kC (zI (z:=9) (xL (by decide)) (by decide))) (by decide:1≤1)),qL (jR (kC (zI (z:=9) (xL (by decide)) (by decide))) (by decide:1≤1))⟩) (by decide));rw[show sameG y2 y2=true from by rw[sameG_of];kernel_rfl] at h;exact h))<|wE xS<|wM<|wR (kO kF)<|wE (jZ (h_whole 1 1 (by decide) (by decide) (by decide) (by decide)))<|wE (jZ (by have h:=h_same y3 y3 (gW (⟨qL (jR (kC (zI (nN (by decide) (by decide)) (by decide))) (by decide:3≤3)),qL (jR (kC (zI (nN (by decide) (by decide)) (by decide))) (by decide:3≤3))⟩) (by decide)) (gW (⟨qL (jR (kC (zI (z:=1) (xL (by decide)) (by decide))) (by decide:1≤1)),qL (jR (kC (zI (z:=1) (xL (by decide)) (by decide))) (by decide:1≤1))⟩) (by decide));rw[show sameG y3 y3=true from by rw[sameG_of];kernel_rfl] at h;exact h))<|wE xS<|wM<|wZ) ?_
 refine jE ⟨_,(.tmp (d:=(.val (.bool (true)))) rfl .nil),?_⟩
 rfl
end Go.Proofs.YtnajallgoaiahaaGreatDoor
namespace Go.Fid
end Go.Fid
namespace Go.Proofs.YtnajallgoaiahaaGreatDoor
open Go.Fid
section
variable (F:Nat→Nat→jO) {r c i j p q:Nat}
end
def sm(f:Nat→Rat):Nat→Rat
 |0=>0
 |n+1=>sm f n+f n
theorem sm_congr{f g:Nat→Rat}:∀ {n},(∀ i,i<n→f i=g i)→sm f n=sm g n
 |0,_=>rfl
 |n+1,h=>by rw[sm,sm,sm_congr (n:=n) (fun i hi=>h i (by omega)),h n (by omega)]
theorem sm_add(f g:Nat→Rat):∀ n,sm (fun i=>f i+g i) n=sm f n+sm g n
 |0=>by rw[sm,sm,sm];grind
 |n+1=>by rw[sm,sm,sm,sm_add f g n];grind
theorem dotT_sm(l m:List jO):∀ n,aO l m n=sm (fun i=>qJ (l.getD i zr)*qJ (m.getD i zr)) n
 |0=>rfl
 |n+1=>by rw[aO,sm,dotT_sm l m n]
theorem appR_at{m:List (List jO)}{v:List jO}{i:Nat}(h:i<m.length):qJ ((appR m v).getD i zr)=aO (m.getD i []) v (m.getD i []).length:=by
 unfold appR
 simp only[List.getD_eq_getElem?_getD,List.getElem?_map,List.getElem?_eq_getElem h,Option.map_some,Option.getD_some]
 rw[gU];rfl
end Go.Proofs.YtnajallgoaiahaaGreatDoor
namespace Go.Proofs.YtnajallgoaiahaaGreatDoor
open Go.Fid
def bH(d:Nat)(x:kN):kN:=⟨x.op,if 1≤vJ x.op then x.a+(d:Int) else x.a,if vJ x.op=2 then x.b+(d:Int) else x.b,x.n⟩
def plT(d m:Nat):kN:=⟨2,(d:Int)-1,((d+m:Nat):Int)-1,zr⟩
theorem plT_op(d m:Nat):(plT d m).op=2:=rfl
theorem plT_kd(d m:Nat):vJ (plT d m).op=2:=by rw[plT_op];decide
def yU(s t:List kN):List kN:=s++(t.map (bH s.length)++[plT s.length t.length])
theorem sumT_len(s t:List kN):(yU s t).length=s.length+t.length+1:=by unfold yU;simp;omega
theorem sumT_s{s t:List kN}{k:Nat}(h:k<s.length):(yU s t).getD k tz=s.getD k tz:=by
 unfold yU
 rw[List.getD_eq_getElem?_getD,List.getElem?_append_left h,← List.getD_eq_getElem?_getD]
theorem sumT_t{s t:List kN}{k:Nat}(h:k<t.length):(yU s t).getD (s.length+k) tz=bH s.length (t.getD k tz):=by
 unfold yU
 rw[List.getD_eq_getElem?_getD,List.getElem?_append_right (by omega),Nat.add_sub_cancel_left,List.getElem?_append_left (by simpa using h),List.getElem?_map,List.getElem?_eq_getElem h,List.getD_eq_getElem?_getD,List.getElem?_eq_getElem h];rfl
theorem sumT_e(s t:List kN):(yU s t).getD (s.length+t.length) tz=plT s.length t.length:=by
 unfold yU
 rw[List.getD_eq_getElem?_getD,List.getElem?_append_right (by omega),List.getElem?_append_right (by simp),Nat.add_sub_cancel_left,List.length_map,Nat.sub_self];rfl
theorem app_r{α:Type}{A B:List α}{d:α}{z:Int}(h:0≤z):(A++B).getD (z+(A.length:Int)).toNat d=B.getD z.toNat d:=by
 rw[show (z+(A.length:Int)).toNat=A.length+z.toNat by omega,List.getD_eq_getElem?_getD,List.getElem?_append_right (by omega),Nat.add_sub_cancel_left,List.getD_eq_getElem?_getD]
theorem app_l{α:Type}{A B:List α}{d:α}{k:Nat}(h:k<A.length):(A++B).getD k d=A.getD k d:=by
 rw[List.getD_eq_getElem?_getD,List.getElem?_append_left h,← List.getD_eq_getElem?_getD]
structure Gd (z:Int) (k:Nat) (x:kN):Prop where
 bad:¬ eI x
 ord:¬ eU ((k:Nat):Int) x
 rng:¬ rngN z x
theorem Gd.a{z:Int}{k:Nat}{x:kN}(h:Gd z k x)(h1:1≤vJ x.op):0≤x.a∧x.a<k:=by
 have:=h.ord;unfold eU at this;omega
theorem Gd.b{z:Int}{k:Nat}{x:kN}(h:Gd z k x)(h1:vJ x.op=2):0≤x.b∧x.b<k:=by
 have:=h.ord;unfold eU at this;omega
theorem Gd.kd{z:Int}{k:Nat}{x:kN}(h:Gd z k x):(vJ x.op=0∧(x.op=0∨x.op=1))∨(vJ x.op=1∧(x.op=6∨x.op=7))∨(vJ x.op=2∧(x.op=2∨x.op=3∨x.op=4∨x.op=5)):=by
 rcases eF x.op with h1 | h1 | h1 | h1
 ·exact .inl h1
 ·exact .inr (.inl h1)
 ·exact .inr (.inr h1)
 ·exact absurd (Or.inl (by omega)) h.bad
theorem gd_of{z:Int}{ss:List Int}{x:kN}{k:Nat}(h:ndC z ss x=0)(hk:ss.length=k):Gd z k x:=by
 obtain ⟨h1,h2,h3,_⟩:=nd_0 h
 rw[hk] at h2;exact ⟨h1,h2,h3⟩
theorem szN_sh{z:Int}{A B:List Int}{x:kN}{k:Nat}(h:Gd z k x):eM (A++B) (bH A.length x)=eM B x:=by
 have ho:(bH A.length x).op=x.op:=rfl
 have gA:1≤vJ x.op→(A++B).getD (bH A.length x).a.toNat 0=B.getD x.a.toNat 0:=fun h1=>by
  rw[show (bH A.length x).a=x.a+(A.length:Int) from if_pos h1];exact app_r (h.a h1).1
 have gB:vJ x.op=2→(A++B).getD (bH A.length x).b.toNat 0=B.getD x.b.toNat 0:=fun h1=>by
  rw[show (bH A.length x).b=x.b+(A.length:Int) from if_pos h1];exact app_r (h.b h1).1
 unfold eM
 rw[ho]
 rcases h.kd with ⟨e,f⟩ | ⟨e,f⟩ | ⟨e,f⟩
 ·rw[if_pos e,if_pos e]
 ·have n0:¬ vJ x.op=0:=by omega
  rw[gA (by omega),if_neg n0,if_neg n0]
  rcases f with f | f
  ·rw[if_pos f,if_pos f]
  ·have n6:¬ x.op=6:=by omega
   rw[if_neg n6,if_neg n6,if_pos f,if_pos f]
 ·rw[gA (by omega),gB e]
theorem jA_sh{z:Int}{A B:List JV}{x:kN}{k:Nat}(h:Gd z k x)(h1:1≤vJ x.op):jA (A++B) (bH A.length x).a=jA B x.a:=by
 unfold jA bH
 dsimp only;rw[if_pos h1,app_r (h.a h1).1]
theorem jB_sh{z:Int}{A B:List JV}{x:kN}{k:Nat}(h:Gd z k x)(h1:vJ x.op=2):jA (A++B) (bH A.length x).b=jA B x.b:=by
 unfold jA bH
 dsimp only;rw[if_pos h1,app_r (h.b h1).1]
theorem nV_sh{z:Int}{bx:List R2}{A B:List JV}{x:kN}{k:Nat}(h:Gd z k x):nV bx (A++B) (bH A.length x)=nV bx B x:=by
 have ho:(bH A.length x).op=x.op:=rfl
 have hn:(bH A.length x).n=x.n:=rfl
 rcases h.kd with ⟨e,f⟩ | ⟨e,f⟩ | ⟨e,f⟩
 ·have hA:(bH A.length x).a=x.a:=by show (if 1≤vJ x.op then _ else _)=_;rw[if_neg (by omega)]
  unfold nV;rw[ho,hn,hA]
  rcases f with f | f<;>simp [f]
 ·have g1:=jA_sh (A:=A) (B:=B) h (by omega)
  unfold nV;rw[ho,g1]
  rcases f with f | f<;>simp [f]
 ·have g1:=jA_sh (A:=A) (B:=B) h (by omega)
  have g2:=jB_sh (A:=A) (B:=B) h e
  unfold nV;rw[ho,g1,g2]
  rcases f with f | f | f | f<;>simp [f]
theorem nG_sh{z:Int}{bx:List R2}{A B:List JV}{x:kN}{k:Nat}(h:Gd z k x)(i:Nat):nG bx (A++B) (bH A.length x) i=nG bx B x i:=by
 have ho:(bH A.length x).op=x.op:=rfl
 have hv:=nV_sh (bx:=bx) (A:=A) (B:=B) h
 rcases h.kd with ⟨e,f⟩ | ⟨e,f⟩ | ⟨e,f⟩
 ·have hA:(bH A.length x).a=x.a:=by show (if 1≤vJ x.op then _ else _)=_;rw[if_neg (by omega)]
  unfold nG;rw[ho,hA]
  rcases f with f | f<;>simp [f]
 ·have g1:=jA_sh (A:=A) (B:=B) h (by omega)
  unfold nG;rw[ho,g1]
  rcases f with f | f<;>simp [f]
 ·have g1:=jA_sh (A:=A) (B:=B) h (by omega)
  have g2:=jB_sh (A:=A) (B:=B) h e
  unfold nG;rw[ho,g1,g2,hv]
  rcases f with f | f | f | f<;>simp [f]
theorem nJ_sh{z:Int}{bx:List R2}{A B:List JV}{x:kN}{k:Nat}(h:Gd z k x):nJ bx (A++B) (bH A.length x)=nJ bx B x:=by
 unfold nJ
 rw[nV_sh h,show nG bx (A++B) (bH A.length x)=nG bx B x from funext fun i=>nG_sh h i]
theorem gd_sh{z:Int}{d k:Nat}{x:kN}(h:Gd z k x):Gd z (d+k) (bH d x):=by
 have ho:(bH d x).op=x.op:=rfl
 have hn:(bH d x).n=x.n:=rfl
 have hA:(bH d x).a=if 1≤vJ x.op then x.a+(d:Int) else x.a:=rfl
 have hB:(bH d x).b=if vJ x.op=2 then x.b+(d:Int) else x.b:=rfl
 have h1:=h.bad;have h2:=h.ord;have h3:=h.rng
 refine ⟨?_,?_,?_⟩
 ·unfold eI at *
  rw[ho,hn,hA,hB]
  rcases h.kd with ⟨e,f⟩ | ⟨e,f⟩ | ⟨e,f⟩
  ·rw[if_neg (by omega),if_neg (by omega)];exact h1
  ·rw[if_neg (show ¬ vJ x.op=2 by omega)]
   rintro (h | h | h | h)
   ·omega
   ·exact h1 (.inr (.inl h))
   ·omega
   ·exact h1 (.inr (.inr (.inr h)))
  ·rintro (h | h | h | h)
   ·omega
   ·omega
   ·omega
   ·exact h1 (.inr (.inr (.inr h)))
 ·unfold eU at *
  rw[ho,hA,hB]
  rcases h.kd with ⟨e,f⟩ | ⟨e,f⟩ | ⟨e,f⟩
  ·omega
  ·rw[if_pos (show 1≤vJ x.op by omega)];omega
  ·rw[if_pos (show 1≤vJ x.op by omega),if_pos e];omega
 ·unfold rngN at *
  rw[ho,hA]
  rcases h.kd with ⟨e,f⟩ | ⟨e,f⟩ | ⟨e,f⟩
  ·rw[if_neg (by omega)];exact h3
  ·omega
  ·omega
theorem sumS{bx:List R2}{s t:List kN}:∀ {k},k≤s.length→yY (yU s t) k=yY s k∧jU bx (yU s t) k=jU bx s k
 |0,_=>⟨rfl,rfl⟩
 |k+1,h=>by
  obtain ⟨h1,h2⟩:=sumS (bx:=bx) (s:=s) (t:=t) (k:=k) (by omega)
  rw[yY,yY,jU,jU,h1,h2,sumT_s (by omega)]
  exact ⟨rfl,rfl⟩
theorem sumU{bx:List R2}{s t:List kN}{z:Int}(ht:eN z t t.length):∀ {k},k≤t.length→yY (yU s t) (s.length+k)=yY s s.length++yY t k∧jU bx (yU s t) (s.length+k)=jU bx s s.length++jU bx t k
 |0,_=>by
  obtain ⟨h1,h2⟩:=sumS (bx:=bx) (s:=s) (t:=t) (Nat.le_refl _)
  rw[Nat.add_zero,h1,h2]
  exact ⟨(List.append_nil _).symm,(List.append_nil _).symm⟩
 |k+1,h=>by
  obtain ⟨h1,h2⟩:=sumU (bx:=bx) (s:=s) ht (k:=k) (by omega)
  have hg:=gd_of (ht k (by omega)) (uU t k)
  rw[show s.length+(k+1)=s.length+k+1 by omega,yY,jU,yY,jU,h1,h2,sumT_t (by omega)]
  have e1:=szN_sh (A:=yY s s.length) (B:=yY t k) hg
  have e2:=nJ_sh (bx:=bx) (A:=jU bx s s.length) (B:=jU bx t k) hg
  rw[uU] at e1
  rw[nU] at e2
  rw[e1,e2,List.append_assoc,List.append_assoc]
  exact ⟨rfl,rfl⟩
structure Sm (bx:List R2) (s:List kN):Prop where
 t:eS bx s
 h:∀ k,k<s.length→eM (yY s k) (s.getD k tz)≤100
 l:s.length≤100
theorem szU_at{t:List kN}{k:Nat}:∀ {n},k<n→(yY t n).getD k 0=eM (yY t k) (t.getD k tz)
 |0,h=>by omega
 |n+1,h=>by
  have hl:=uU t n
  rw[yY]
  rcases Nat.lt_or_ge k n with h1 | h1
  ·rw[app_l (by omega)];exact szU_at h1
  ·obtain rfl:k=n:=by omega
   rw[List.getD_eq_getElem?_getD,List.getElem?_append_right (by omega),hl,Nat.sub_self];rfl
theorem jU_at{bx:List R2}{t:List kN}{k:Nat}:∀ {n},k<n→(jU bx t n).getD k jz=nJ bx (jU bx t k) (t.getD k tz)
 |0,h=>by omega
 |n+1,h=>by
  have hl:=nU bx t n
  rw[jU]
  rcases Nat.lt_or_ge k n with h1 | h1
  ·rw[app_l (by omega)];exact jU_at h1
  ·obtain rfl:k=n:=by omega
   rw[List.getD_eq_getElem?_getD,List.getElem?_append_right (by omega),hl,Nat.sub_self];rfl
section
variable {bx:List R2} {s t:List kN}
theorem sum_split{k:Nat}(h:k<(yU s t).length):k<s.length∨(∃ j,j<t.length∧k=s.length+j)∨k=s.length+t.length:=by
 rw[sumT_len] at h
 rcases Nat.lt_or_ge k s.length with h1 | h1
 ·exact .inl h1
 ·rcases Nat.lt_or_ge (k-s.length) t.length with h2 | h2
  ·exact .inr (.inl ⟨k-s.length,h2,by omega⟩)
  ·exact .inr (.inr (by omega))
theorem sum_sz(hs:Sm bx s)(ht:Sm bx t):1≤eM (yY (yU s t) (s.length+t.length)) (plT s.length t.length)∧eM (yY (yU s t) (s.length+t.length)) (plT s.length t.length)≤200:=by
 have h1:=fF hs.t.c0
 have h2:=fF ht.t.c0
 have e:=(sumU (bx:=bx) (s:=s) h2.2.2.2.2 (Nat.le_refl _)).1
 have l1:=uU s s.length
 have l2:=uU t t.length
 have ea:(yY (yU s t) (s.length+t.length)).getD (plT s.length t.length).a.toNat 0=eM (yY s (s.length-1)) (s.getD (s.length-1) tz):=by
  rw[e,show (plT s.length t.length).a.toNat=s.length-1 by unfold plT;dsimp only;omega,app_l (by omega)];exact szU_at (by omega)
 have eb:(yY (yU s t) (s.length+t.length)).getD (plT s.length t.length).b.toNat 0=eM (yY t (t.length-1)) (t.getD (t.length-1) tz):=by
  rw[e,show (plT s.length t.length).b.toNat=((t.length:Int)-1+((yY s s.length).length:Int)).toNat by unfold plT;dsimp only;omega,app_r (by omega),show ((t.length:Int)-1).toNat=t.length-1 by omega];exact szU_at (by omega)
 have g1:=hs.h (s.length-1) (by omega)
 have g2:=ht.h (t.length-1) (by omega)
 have p1:=(sz_rng h1.2.2.2.2 (s.length-1) (by omega)).1
 have p2:=(sz_rng h2.2.2.2.2 (t.length-1) (by omega)).1
 rw[szU_at (by omega)] at p1 p2
 have e2:eM (yY (yU s t) (s.length+t.length)) (plT s.length t.length)=(yY (yU s t) (s.length+t.length)).getD (plT s.length t.length).a.toNat 0+(yY (yU s t) (s.length+t.length)).getD (plT s.length t.length).b.toNat 0:=by
  unfold eM
  rw[plT_kd,plT_op,if_neg (by decide),if_neg (by decide),if_neg (by decide)]
 rw[e2,ea,eb];omega
theorem sum_tame(hs:Sm bx s)(ht:Sm bx t):eS bx (yU s t):=by
 have h1:=fF hs.t.c0
 have h2:=fF ht.t.c0
 have hz:=sum_sz hs ht
 have hsl:=hs.l;have htl:=ht.l
 have up:eN ((bx.length:Nat):Int) (yU s t) (yU s t).length:=fun k hk=>by
  rcases sum_split hk with h | ⟨j,h,rfl⟩ | rfl
  ·rw[(sumS (bx:=bx) (t:=t) (Nat.le_of_lt h)).1,sumT_s h];exact h1.2.2.2.2 k h
  ·have hn:=h2.2.2.2.2 j h
   have hg:=gd_of hn (uU t j)
   have e1:=szN_sh (A:=yY s s.length) (B:=yY t j) hg
   rw[uU] at e1
   have h4:=(nd_0 hn).2.2.2
   have g2:=gd_sh (d:=s.length) hg
   rw[(sumU (bx:=bx) (s:=s) h2.2.2.2.2 (Nat.le_of_lt h)).1,sumT_t h]
   exact nd_y g2.bad (by rw[List.length_append,uU,uU];exact g2.ord) g2.rng (by rw[e1];omega)
  ·rw[sumT_e]
   refine nd_y ?_ ?_ ?_ (by omega)
   ·unfold eI
    rw[plT_kd,plT_op]
    rintro (h | h | h | h)
    ·exact absurd h (by decide)
    ·exact absurd h.1 (by decide)
    ·exact absurd h.1 (by decide)
    ·exact absurd (show unsB zr=false from h.2) (by decide)
   ·rw[uU]
    unfold eU
    rw[plT_kd]
    unfold plT
    dsimp only
    omega
   ·unfold rngN
    rw[plT_op]
    rintro ⟨h,_⟩
    exact absurd h (by decide)
 refine ⟨(tm_yes (by omega) (by rw[sumT_len];omega) (by rw[sumT_len];omega) up).1,fun x hx=>?_,hs.t.b,fun k hk=>?_⟩
 ·unfold yU at hx
  rcases List.mem_append.1 hx with h | h
  ·exact hs.t.q x h
  ·rcases List.mem_append.1 h with h | h
   ·obtain ⟨y,hy,rfl⟩:=List.mem_map.1 h
    exact ht.t.q y hy
   ·rw[List.mem_singleton.1 h]
    show mN zr (qJ zr) 8
    exact bN (by decide) (by decide) (by decide)
 ·rcases sum_split hk with h | ⟨j,h,rfl⟩ | rfl
  ·rw[(sumS (bx:=bx) (t:=t) (Nat.le_of_lt h)).1,sumT_s h];exact hs.t.s k h
  ·have hg:=gd_of (h2.2.2.2.2 j h) (uU t j)
   have e1:=szN_sh (A:=yY s s.length) (B:=yY t j) hg
   rw[uU] at e1
   rw[(sumU (bx:=bx) (s:=s) h2.2.2.2.2 (Nat.le_of_lt h)).1,sumT_t h,e1];exact ht.t.s j h
  ·rw[sumT_e];exact hz.2
theorem dz_no{w:List kN}(h:dzT bx w=false){k:Nat}(hk:k<w.length):dzB bx w k=false:=by
 unfold dzT at h
 rw[List.any_eq_false] at h
 have:=h k (List.mem_range.2 hk)
 simpa using this
theorem sum_dz(ht:eN ((bx.length:Nat):Int) t t.length)(h1:dzT bx s=false)(h2:dzT bx t=false):dzT bx (yU s t)=false:=by
 unfold dzT
 rw[List.any_eq_false]
 intro k hk
 have hk:=List.mem_range.1 hk
 rw[Bool.not_eq_true]
 rcases sum_split hk with h | ⟨j,h,rfl⟩ | rfl
 ·have:=dz_no h1 h
  unfold dzB at *
  rw[sumT_s h,(sumS (bx:=bx) (t:=t) (Nat.le_of_lt h)).2];exact this
 ·have hd:=dz_no h2 h
  have hg:=gd_of (ht j h) (uU t j)
  unfold dzB at *
  rw[sumT_t h,(sumU (bx:=bx) (s:=s) ht (Nat.le_of_lt h)).2]
  have ho:(bH s.length (t.getD j tz)).op=(t.getD j tz).op:=rfl
  rw[ho]
  by_cases h5:(t.getD j tz).op=5
  ·have e:=jB_sh (A:=jU bx s s.length) (B:=jU bx t j) hg (by rw[h5];decide)
   rw[nU] at e
   rw[e];exact hd
  ·rw[decide_eq_false h5,Bool.false_and]
 ·unfold dzB
  rw[sumT_e,plT_op];rfl
theorem sum_last(hs:1≤s.length)(ht1:1≤t.length){z:Int}(ht:eN z t t.length):xQ bx (yU s t)=jk (gH (xQ bx s).v (xQ bx t).v) (fun i=>gH ((xQ bx s).g.getD i z2) ((xQ bx t).g.getD i z2)) bx.length:=by
 have e:=(sumU (bx:=bx) (s:=s) ht (Nat.le_refl _)).2
 have l1:=nU bx s s.length
 have l2:=nU bx t t.length
 have ea:jA (jU bx (yU s t) (s.length+t.length)) (plT s.length t.length).a=xQ bx s:=by
  unfold jA xQ
  rw[e,show (plT s.length t.length).a.toNat=s.length-1 by unfold plT;dsimp only;omega,app_l (by omega)]
 have eb:jA (jU bx (yU s t) (s.length+t.length)) (plT s.length t.length).b=xQ bx t:=by
  unfold jA xQ
  rw[e,show (plT s.length t.length).b.toNat=((t.length:Int)-1+((jU bx s s.length).length:Int)).toNat by unfold plT;dsimp only;omega,app_r (by omega),show ((t.length:Int)-1).toNat=t.length-1 by omega]
 show (jU bx (yU s t) (yU s t).length).getD ((yU s t).length-1) jz=_
 rw[sumT_len,Nat.add_sub_cancel,jU_at (by omega),sumT_e,← ea,← eb];rfl
end
theorem grQ_at{xs:List Rat}{t:List kN}{i:Nat}(h:i<(xQ (xs.map gD) t).g.length):qJ ((qW xs t).getD i zr)=((xQ (xs.map gD) t).g.getD i z2).1:=by
 unfold qW
 simp only[List.getD_eq_getElem?_getD,List.getElem?_map,List.getElem?_eq_getElem h,Option.map_some,Option.getD_some]
 exact gU _
theorem gr_sum{xs:List Rat}{s t:List kN}(hs:fH (xs.map gD) s)(ht:fH (xs.map gD) t){i:Nat}(hi:i<xs.length) :
  qJ ((qW xs (yU s t)).getD i zr)=qJ ((qW xs s).getD i zr)+qJ ((qW xs t).getD i zr):=by
 have h1:=fF hs.c0
 have h2:=fF ht.c0
 have e:=sum_last (bx:=xs.map gD) (s:=s) (t:=t) (by omega) (by omega) h2.2.2.2.2
 have l1:=hs.last.2.2
 have l2:=ht.last.2.2
 rw[List.length_map] at l1 l2
 rw[grQ_at (by rw[e];simpa [jk] using hi),grQ_at (by omega),grQ_at (by omega),e]
 show (((List.range (xs.map gD).length).map _).getD i z2).1=_
 rw[List.getD_eq_getElem?_getD,List.getElem?_map,List.getElem?_range (by simpa using hi)];rfl
theorem covR_sm{q:List (List jO)}{a b:List jO}{n:Nat}(hr:gQ q q.length n)(hq:q.length=n)(ha:a.length=n):xU q a b=sm (fun i=>qJ (a.getD i zr)*sm (fun j=>qJ ((q.getD i []).getD j zr)*qJ (b.getD j zr)) n) n:=by
 unfold xU
 rw[dotR,dotT_sm,ha]
 refine sm_congr fun i hi=>?_
 rw[appR_at (by omega),(hr.at (by omega)).1,dotT_sm]
theorem cov_add{q:List (List jO)}{a b c:List jO}{n:Nat}(hr:gQ q q.length n)(hq:q.length=n)(ha:a.length=n)(hb:b.length=n)(hc:c.length=n)(h:∀ i,i<n→qJ (c.getD i zr)=qJ (a.getD i zr)+qJ (b.getD i zr)) :
  xU q c c=((xU q a a+xU q a b)+xU q b a)+xU q b b:=by
 rw[covR_sm hr hq hc,covR_sm hr hq ha,covR_sm hr hq ha,covR_sm hr hq hb,covR_sm hr hq hb,← sm_add,← sm_add,← sm_add]
 refine sm_congr fun i hi=>?_
 have e:sm (fun j=>qJ ((q.getD i []).getD j zr)*qJ (c.getD j zr)) n=sm (fun j=>qJ ((q.getD i []).getD j zr)*qJ (a.getD j zr)) n+sm (fun j=>qJ ((q.getD i []).getD j zr)*qJ (b.getD j zr)) n:=by
  rw[← sm_add]
  exact sm_congr fun j hj=>by rw[h j hj];grind
 rw[e,h i hi];grind
def linB(x:kN):Bool:=(decide (x.op=4)||decide (x.op=5))||decide (x.op=7)
theorem linB_f{x:kN}(h:linB x=false):x.op≠4∧x.op≠5∧x.op≠7:=by
 unfold linB at h
 rw[Bool.or_eq_false_iff,Bool.or_eq_false_iff,decide_eq_false_iff_not,decide_eq_false_iff_not,decide_eq_false_iff_not] at h
 exact ⟨h.1.1,h.1.2,h.2⟩
theorem lin_g{bx bz:List R2}(hl:bx.length=bz.length){s:List kN}{z:Int}(hup:eN z s s.length)(h:∀ k,k<s.length→linB (s.getD k tz)=false) :
  ∀ n,∀ k,k<n→k<s.length→(nJ bx (jU bx s k) (s.getD k tz)).g=(nJ bz (jU bz s k) (s.getD k tz)).g
 |0,k,hk,_=>by omega
 |n+1,k,hk,hks=>by
  have hg:=gd_of (hup k hks) (uU s k)
  obtain ⟨n4,n5,n7⟩:=linB_f (h k hks)
  have ih:∀ a:Int,0≤a→a<k→(jA (jU bx s k) a).g=(jA (jU bz s k) a).g:=fun a h0 h1=>by
   unfold jA
   rw[jU_at (by omega),jU_at (by omega)]
   exact lin_g hl hup h n a.toNat (by omega) (by omega)
  show (List.range bx.length).map (nG bx (jU bx s k) (s.getD k tz))=(List.range bz.length).map (nG bz (jU bz s k) (s.getD k tz))
  rw[hl]
  refine List.map_congr_left fun i _=>?_
  rcases hg.kd with ⟨e,f⟩ | ⟨e,f⟩ | ⟨e,f⟩
  ·rcases f with f | f
   ·rw[nG_0 f,nG_0 f]
   ·rw[nG_1 f,nG_1 f]
  ·have h6:(s.getD k tz).op=6:=by omega
   have ga:=ih _ (hg.a (by omega)).1 (hg.a (by omega)).2
   rw[nG_6 h6,nG_6 h6,ga]
  ·have ga:=ih _ (hg.a (by omega)).1 (hg.a (by omega)).2
   have gb:=ih _ (hg.b e).1 (hg.b e).2
   rcases f with f | f | f | f
   ·rw[nG_2 f,nG_2 f,ga,gb]
   ·rw[nG_3 f,nG_3 f,ga,gb]
   ·exact absurd f n4
   ·exact absurd f n5
theorem lin_gr{xs ys:List Rat}(hl:xs.length=ys.length){s:List kN}{z:Int}(h1:1≤s.length)(hup:eN z s s.length)(h:∀ k,k<s.length→linB (s.getD k tz)=false):qW xs s=qW ys s:=by
 unfold qW xQ
 rw[jU_at (by omega),jU_at (by omega),lin_g (bx:=xs.map gD) (bz:=ys.map gD) (by simp [hl]) hup h s.length (s.length-1) (by omega) (by omega)]
theorem lin_dz{bx:List R2}{s:List kN}(h:∀ k,k<s.length→linB (s.getD k tz)=false):dzT bx s=false:=by
 unfold dzT
 rw[List.any_eq_false]
 intro k hk
 unfold dzB
 rw[decide_eq_false (linB_f (h k (List.mem_range.1 hk))).2.1,Bool.false_and];decide
end Go.Proofs.YtnajallgoaiahaaGreatDoor
