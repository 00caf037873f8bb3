/- Part 23 of a proof: rules, plain facts, and functions walked. -/
import Derived.Test.YtnajallgoaiahaaGreatDoorM18
import Derived.Test.YtnajallgoaiahaaGreatDoorM19
import Derived.Test.YtnajallgoaiahaaGreatDoorM22
set_option linter.all false
set_option maxRecDepth 4000
namespace Go.Proofs.YtnajallgoaiahaaGreatDoor
open Go.Fid
theorem cb72:callB Tryz.prog 72=true:=by kernel_rfl
theorem cb127:callB Tryz.prog 127=true:=by kernel_rfl
theorem cb128:callB Tryz.prog 128=true:=by kernel_rfl
theorem cb129:callB Tryz.prog 129=true:=by kernel_rfl
theorem cb207:callB Tryz.prog 207=true:=by kernel_rfl
theorem cb208:callB Tryz.prog 208=true:=by kernel_rfl
theorem cb209:callB Tryz.prog 209=true:=by kernel_rfl
theorem cb245:callB Tryz.prog 245=true:=by kernel_rfl
theorem mC:vA Tryz.prog 34=some (24,1):=by kernel_rfl
theorem yG:qO Tryz.prog 24=some (false,1):=by kernel_rfl
theorem sh34:qO Tryz.prog 34=some (false,1):=by kernel_rfl
theorem m_can1(x:jO)(p:Rat)(hx:mN x p 1048576):jQ Tryz.prog 209 [(jK x)] (.val (.bool ((!(kM x))))):=by
 refine jG Tryz.func209 rfl cb209 rfl ?_
 show qK _ _ _ _ ⟨[(0,(.d (jK x)))],[]⟩
 refine jB<|kx [(1,(.ref 0 0))] [(0,some (bx (jK x)))] (zN (vN 0)<|zM<|zZ) ?_
 refine jB<|kx [(2,(vb (!(kM x))))] [] (zR (kO jS)<|zE (jZ (cA x p (jR hx (by decide))))<|zE nF<|zM<|zZ) ?_
 refine jE ⟨_,(.tmp (d:=(.val (.bool (!(kM x))))) rfl .nil),?_⟩
 rfl
theorem m_canAI(l:List jO)(hl:uY 1048576 l)(hb:l.length≤140737488355328):jQ Tryz.prog 245 [(.sl 45 4 (List.map jK l)),(.val (.func (.func 209) #[] #[]))] (.val (.int .i64 ((aX (fun x=>!(kM x)) l 0)))):=by
 refine jG Tryz.func245 rfl cb245 rfl ?_
 show qK _ _ _ _ ⟨[(0,(vl 45 4 jK l)),(1,(.d (.val (.func (.func 209) #[] #[]))))],[]⟩
 refine jB<|kx [] [] (zM<|zZ) ?_
 refine jB<|jB<|kx [(7,(jV l.length)),(8,(jV 0))] [] (zM<|zE (vC uI)<|zM<|zZ) ?_
 refine jH<|kL (α:=Nat) (fun k=>⟨[(0,(vl 45 4 jK l)),(1,(.d (.val (.func (.func 209) #[] #[])))),(7,(jV l.length)),(8,(jV k))],[]⟩) (fun k=>k≤l.length∧aX (fun x=>!(kM x)) l 0=aX (fun x=>!(kM x)) (l.drop k) k) (fun k=>l.length-k) 0 wk ⟨Nat.zero_le _,by rw[List.drop_zero]⟩ ?_
 rintro k ⟨hk,hv⟩
 refine jB<|kx [(9,(vb (decide (((k:Nat):Int)<((l.length:Nat):Int)))))] [] (zE xT<|zZ) ?_
 refine jB<|jF rfl (fun h1=>?_) (fun h1=>?_)
 ·replace h1:=vI h1
  refine jD<|jB<|jH<|jB<|kx [(5,(jV k))] [] (zM<|zM<|zZ) ?_
  refine jB<|kx [(16,(vb (!(kM (l.getD k qM)))))] [] (zM<|zM<|zM<|zE (yL uI k qM)<|zE (nA jS)<|zE (jZ (m_can1 (l.getD k qM) (qJ (l.getD k qM)) (xO hl.1 (show k<l.length by omega))))<|zZ) ?_
  refine jF rfl (fun h2=>?_) (fun h2=>?_)
  ·have hix:=fst0_at (fun x=>!(kM x)) qM l k (by omega) h2
   refine jB<|kx [(4,(jV k))] [] (zM<|zM<|zZ) ?_
   refine jE ⟨_,(.tmp (d:=(.val (.int .i64 (((k:Nat):Int))))) rfl .nil),?_⟩
   rw[hv,hix];rfl
  ·have hix:=fst0_step (fun x=>!(kM x)) qM l k (by omega) h2
   refine jD<|kx [(8,(jV (k+1)))] [] (zE (vY (k+1))<|zM<|zZ) ?_
   exact ⟨(k+1),wk,⟨by omega,hv.trans hix⟩,(by omega)⟩
 ·replace h1:=vM h1
  have hix:=fst0_end (fun x=>!(kM x)) l k (by omega)
  refine kJ<|jB<|kx [(4,(vi (-1)))] [] (zM<|zZ) ?_
  refine jE ⟨_,(.tmp (d:=(.val (.int .i64 (-1)))) rfl .nil),?_⟩
  rw[hv,hix];rfl
theorem m_canA(l:List jO)(hl:uY 1048576 l)(hb:l.length≤140737488355328):jQ Tryz.prog 208 [(.sl 45 4 (List.map jK l)),(.val (.func (.func 209) #[] #[]))] (.val (.bool ((l.any (fun x=>!(kM x)))))):=by
 refine jG Tryz.func208 rfl cb208 rfl ?_
 show qK _ _ _ _ ⟨[(0,(vl 45 4 jK l)),(1,(.d (.val (.func (.func 209) #[] #[]))))],[]⟩
 refine jB<|kx [] [] (zM<|zZ) ?_
 refine jB<|kx [(4,(vb (decide (0≤(aX (fun x=>!(kM x)) l 0)))))] [] (zM<|zM<|zE (jZ (m_canAI l hl hb))<|zE oGe<|zM<|zZ) ?_
 refine jE ⟨_,(.tmp (d:=(.val (.bool (decide (0≤(aX (fun x=>!(kM x)) l 0)))))) rfl .nil),?_⟩
 rw[fst0_any];rfl
theorem m_can(l:List jO)(hl:uY 1048576 l)(hb:l.length≤140737488355328):jQ Tryz.prog 129 [(.sl 45 4 (List.map jK l))] (.val (.bool ((gY l)))):=by
 refine jG Tryz.func129 rfl cb129 rfl ?_
 show qK _ _ _ _ ⟨[(0,(vl 45 4 jK l))],[]⟩
 refine jB<|kx [] [] (zM<|zZ) ?_
 refine jB<|kx [(2,(vb (!(l.any (fun x=>!(kM x))))))] [] (zM<|zE (jZ (m_canA l hl hb))<|zE nF<|zM<|zZ) ?_
 refine jE ⟨_,(.tmp (d:=(.val (.bool (!(l.any (fun x=>!(kM x))))))) rfl .nil),?_⟩
 rw[vRow_any];rfl
theorem m_chk1(l:List jO)(hl:uY 1048576 l)(m:List (List jO))(hm:xG 1048576 m)(h0:0<m.length)(hlb:l.length≤140737488355328):jQ Tryz.prog 128 [(.sl 45 4 (List.map jK l)),(.cptr 1000000 (jT.cells (.sl 24 1 (List.map jL m))) 0)] (.val (.bool ((gZ m l)))):=by
 have hmb:=hm.2
 have hrb:=(xM (d:=[]) hm h0).2
 refine jG Tryz.func128 rfl cb128 rfl ?_
 show qK _ _ _ _ ⟨[(0,(vl 45 4 jK l)),(1,(.d (.cptr 1000000 (jT.cells (.sl 24 1 (List.map jL m))) 0)))],[]⟩
 refine jB<|kx [] [] (zM<|zZ) ?_
 refine jB<|kx [(3,(vb ((((l.length:Nat):Int) != (((m.getD 0 []).length:Nat):Int))||!(gY l))))] [] ?_ ?_
 ·refine zM<|zE (vC uI)<|zE (yR sh34)<|zE (yL mC 0 ([]:List (jO)))<|zE (yR yG)<|zE (vC uI (L:=(m.getD 0 [])))<|zE cM<|zE (oV (vb (((l.length:Nat):Int) != (((m.getD 0 []).length:Nat):Int))) (kV (by kernel_rfl)))<|?_
  rcases hb1:(((l.length:Nat):Int) != (((m.getD 0 []).length:Nat):Int)) with _ | _
  ·replace hb1:=bne_eq_false_iff_eq.1 hb1
   exact zM<|zE (jZ (m_can l hl hlb))<|zE nF<|zE cL<|zM<|zZ
  ·replace hb1:=bne_iff_ne.1 hb1
   exact zK<|zK<|zK<|zE xS<|zM<|zZ
 refine jE ⟨_,(.tmp (d:=(.val (.bool (((((l.length:Nat):Int) != (((m.getD 0 []).length:Nat):Int))||!(gY l)))))) rfl .nil),?_⟩
 rfl
theorem m_chkAI(l:List (List jO))(hl:xG 1048576 l)(m:List (List jO))(hm:xG 1048576 m)(hb:l.length≤140737488355328)(h0:0<m.length):jQ Tryz.prog 207 [(.sl 24 1 (List.map jL l)),(.clo 128 [(.cptr 1000000 (jT.cells (.sl 24 1 (List.map jL m))) 0)])] (.val (.int .i64 ((aX (gZ m) l 0)))):=by
 refine jG Tryz.func207 rfl cb207 rfl ?_
 show qK _ _ _ _ ⟨[(0,(vl 24 1 jL l)),(1,(.d (.clo 128 [(.cptr 1000000 (jT.cells (.sl 24 1 (List.map jL m))) 0)])))],[]⟩
 refine jB<|kx [] [] (zM<|zZ) ?_
 refine jB<|jB<|kx [(7,(jV l.length)),(8,(jV 0))] [] (zM<|zE (vC mC)<|zM<|zZ) ?_
 refine jH<|kL (α:=Nat) (fun k=>⟨[(0,(vl 24 1 jL l)),(1,(.d (.clo 128 [(.cptr 1000000 (jT.cells (.sl 24 1 (List.map jL m))) 0)]))),(7,(jV l.length)),(8,(jV k))],[]⟩) (fun k=>k≤l.length∧aX (gZ m) l 0=aX (gZ m) (l.drop k) k) (fun k=>l.length-k) 0 wk ⟨Nat.zero_le _,by rw[List.drop_zero]⟩ ?_
 rintro k ⟨hk,hv⟩
 refine jB<|kx [(9,(vb (decide (((k:Nat):Int)<((l.length:Nat):Int)))))] [] (zE xT<|zZ) ?_
 refine jB<|jF rfl (fun h1=>?_) (fun h1=>?_)
 ·replace h1:=vI h1
  have hrl:=(xM (d:=[]) hl (show k<l.length by omega)).2
  refine jD<|jB<|jH<|jB<|kx [(5,(jV k))] [] (zM<|zM<|zZ) ?_
  refine jB<|kx [(16,(vb (gZ m (l.getD k []))))] [] (zM<|zM<|zM<|zE (yL mC k ([]:List (jO)))<|zE (yR yG)<|zE (oCd (ds:=[(.sl 45 4 (List.map jK (l.getD k [])))]) (caps:=[(.cptr 1000000 (jT.cells (.sl 24 1 (List.map jL m))) 0)]) (m_chk1 (l.getD k []) (xM (d:=[]) hl (show k<l.length by omega)) m hm h0 (by first | assumption | omega)))<|zZ) ?_
  refine jF (b:=(gZ m (l.getD k []))) rfl (fun h2=>?_) (fun h2=>?_)
  ·have hix:=fst0_at (gZ m) [] l k (by omega) h2
   refine jB<|kx [(4,(jV k))] [] (zM<|zM<|zZ) ?_
   refine jE ⟨_,(.tmp (d:=(.val (.int .i64 (((k:Nat):Int))))) rfl .nil),?_⟩
   rw[hv,hix];rfl
  ·have hix:=fst0_step (gZ m) [] l k (by omega) h2
   refine jD<|kx [(8,(jV (k+1)))] [] (zE (vY (k+1))<|zM<|zZ) ?_
   exact ⟨(k+1),wk,⟨by omega,hv.trans hix⟩,(by omega)⟩
 ·replace h1:=vM h1
  have hix:=fst0_end (gZ m) l k (by omega)
  refine kJ<|jB<|kx [(4,(vi (-1)))] [] (zM<|zZ) ?_
  refine jE ⟨_,(.tmp (d:=(.val (.int .i64 (-1)))) rfl .nil),?_⟩
  rw[hv,hix];rfl
theorem m_chkA(l:List (List jO))(hl:xG 1048576 l)(m:List (List jO))(hm:xG 1048576 m)(hb:l.length≤140737488355328)(h0:0<m.length):jQ Tryz.prog 127 [(.sl 24 1 (List.map jL l)),(.clo 128 [(.cptr 1000000 (jT.cells (.sl 24 1 (List.map jL m))) 0)])] (.val (.bool ((l.any (gZ m))))):=by
 refine jG Tryz.func127 rfl cb127 rfl ?_
 show qK _ _ _ _ ⟨[(0,(vl 24 1 jL l)),(1,(.d (.clo 128 [(.cptr 1000000 (jT.cells (.sl 24 1 (List.map jL m))) 0)])))],[]⟩
 refine jB<|kx [] [] (zM<|zZ) ?_
 refine jB<|kx [(4,(vb (decide (0≤(aX (gZ m) l 0)))))] [] (zM<|zM<|zE (jZ (m_chkAI l hl m hm hb h0))<|zE oGe<|zM<|zZ) ?_
 refine jE ⟨_,(.tmp (d:=(.val (.bool (decide (0≤(aX (gZ m) l 0)))))) rfl .nil),?_⟩
 rw[fst0_any];rfl
theorem m_chk(m:List (List jO))(hm:xG 1048576 m):jQ Tryz.prog 72 [(.sl 24 1 (List.map jL m))] (.val (.int .i64 ((((nZ m):Nat):Int)))):=by
 have hmb:=hm.2
 refine jG Tryz.func72 rfl cb72 rfl ?_
 show qK _ _ _ _ ⟨[(0,(vl 24 1 jL m))],[]⟩
 refine jB<|kx [(1,(.ref 0 0))] [(0,some (bx (.sl 24 1 (List.map jL m))))] (zN (vN 0)<|zM<|zZ) ?_
 refine jB<|jB<|kx [(24,(vb (((decide (((m.length:Nat):Int)<1)||decide (64<((m.length:Nat):Int)))||decide ((((m.getD 0 []).length:Nat):Int)<1))||decide (64<(((m.getD 0 []).length:Nat):Int)))))] [] ?_ ?_
 ·refine zR (qS sh34)<|zE (vC mC)<|zE xT<|zE (oV (vb (decide (((m.length:Nat):Int)<1))) (kV (by kernel_rfl)))<|?_
  rcases hb1:(decide (((m.length:Nat):Int)<1)) with _ | _
  ·replace hb1:=vM hb1
   refine zR (qS sh34)<|zE (vC mC)<|zE mT<|zE cL<|zE (oV (vb (false||decide (64<((m.length:Nat):Int)))) (kV (by kernel_rfl)))<|?_
   rcases hb2:(false||decide (64<((m.length:Nat):Int))) with _ | _
   ·replace hb2:=vM (p:=(64<((m.length:Nat):Int))) hb2
    refine zR (qS sh34)<|zE (yL mC 0 ([]:List (jO)))<|zE (yR yG)<|zE (vC uI (L:=(m.getD 0 [])))<|zE xT<|zE cL<|zE (oV (vb (false||decide ((((m.getD 0 []).length:Nat):Int)<1))) (kV (by kernel_rfl)))<|?_
    rcases hb3:(false||decide ((((m.getD 0 []).length:Nat):Int)<1)) with _ | _
    ·replace hb3:=vM (p:=((((m.getD 0 []).length:Nat):Int)<1)) hb3
     exact zR (qS sh34)<|zE (yL mC 0 ([]:List (jO)))<|zE (yR yG)<|zE (vC uI (L:=(m.getD 0 [])))<|zE mT<|zE cL<|zZ
    ·replace hb3:=vI (p:=((((m.getD 0 []).length:Nat):Int)<1)) hb3
     exact zK<|zK<|zK<|zK<|zK<|zE xS<|zZ
   ·replace hb2:=vI (p:=(64<((m.length:Nat):Int))) hb2
    exact zK<|zK<|zK<|zK<|zK<|zE xS<|zM<|zK<|zK<|zK<|zK<|zK<|zE xS<|zZ
  ·replace hb1:=vI hb1
   exact zK<|zK<|zK<|zE xS<|zM<|zK<|zK<|zK<|zK<|zK<|zE xS<|zM<|zK<|zK<|zK<|zK<|zK<|zE xS<|zZ
 refine jF rfl (fun h4=>?_) (fun h4=>?_)
 ·refine jB<|kx [(2,(jV 1))] [] (zM<|zZ) ?_
  refine jE ⟨_,(.tmp (d:=(.val (.int .i64 (1)))) rfl .nil),?_⟩
  rw[mchk_1 h4];rfl
 ·have h0:=shp_0 h4
  refine jD<|jB<|jB<|kx [(27,(vb (m.any (gZ m))))] [] (zR (qS sh34)<|zE (oMf [0])<|zC (oCg [(0,(jT.cells (.sl 24 1 (List.map jL m))))] [(vl 24 1 jL m),(.clo 128 [0])] (m_chkA m hm m hm (by assumption) (by omega)) (.d (.c (css:=[(jT.cells (.sl 24 1 (List.map jL m)))]) (.cons (.head _) .nil) .nil)) (.val _))<|zZ) ?_
  refine jF (b:=(m.any (gZ m))) rfl (fun h5=>?_) (fun h5=>?_)
  ·refine jB<|kx [(2,(jV 1))] [] (zM<|zZ) ?_
   refine jE ⟨_,(.tmp (d:=(.val (.int .i64 (1)))) rfl .nil),?_⟩
   rw[mchk_2 h5];rfl
  ·refine jD<|jB<|kx [(2,(jV 0))] [] (zM<|zZ) ?_
   refine jE ⟨_,(.tmp (d:=(.val (.int .i64 (0)))) rfl .nil),?_⟩
   rw[mchk_3 h4 h5];rfl
theorem cb132:callB Tryz.prog 132=true:=by kernel_rfl
theorem cb213:callB Tryz.prog 213=true:=by kernel_rfl
theorem cb246:callB Tryz.prog 246=true:=by kernel_rfl
theorem m_dot(l:List jO)(hl:uY 1048576 l)(m:List jO)(hm:uY 1048576 m)(hlm:l.length=m.length)(hl4:l.length≤64):jQ Tryz.prog 246 [(.sl 45 4 (List.map jK l)),(.sl 45 4 (List.map jK m))] (jK (jP (dotR l m))):=by
 have hlb:=hl.2
 have hmb:=hm.2
 let y1:=qM
 refine jG Tryz.func246 rfl cb246 rfl ?_
 show qK _ _ _ _ ⟨[(0,(vl 45 4 jK l)),(1,(vl 45 4 jK m))],[]⟩
 refine jB<|kx [(4,(.ref 0 0))] [(0,some (bx (jK y1)))] (zN (uB 0 uL uQ)<|zZ) ?_
 refine jB<|kx [(5,(.ref 1 0))] [(1,some (bx (jK (jP ((0:Int):Rat)))))] (zE (jZ (f_whole 0 (by decide) (by decide)))<|zN (uB 1 uL uQ)<|zT (qD jS)<|zZ) ?_
 refine jB<|jB<|kx [(9,(vl 45 4 jK l)),(10,(jV l.length)),(11,(jV 0))] [] (zM<|zE (vC uI)<|zM<|zZ) ?_
 refine jH<|kL (α:=Nat × Rat) (fun (i,s)=>⟨[(1,(vl 45 4 jK m)),(4,(.ref 0 0)),(5,(.ref 1 0)),(9,(vl 45 4 jK l)),(10,(jV l.length)),(11,(jV i))],[(0,some (bx (jK y1))),(1,some (bx (jK (jP s))))]⟩) (fun (i,s)=>i≤l.length∧s=aO l m i) (fun (i,s)=>l.length-i) (0,0) wk ⟨Nat.zero_le _,rfl⟩ ?_
 rintro ⟨i,s⟩ ⟨hi,hs⟩
 have hql:QL s 134217800:=hs▸dot_ql1 hl hm (by omega)
 refine jB<|kx [(12,(vb (decide (((i:Nat):Int)<((l.length:Nat):Int)))))] [] (zE xT<|zZ) ?_
 refine jB<|jF rfl (fun h1=>?_) (fun h1=>?_)
 ·replace h1:=vI h1
  refine jD<|jB<|jH<|jB<|kx [(6,(jV i)),(7,(.ref 2 0))] [(2,some (bx (jK (l.getD i y1))))] (zM<|zE (yL uI i y1)<|zE (nA jS)<|zN (uB 2 uL uQ)<|zM<|zT (qD jS)<|zZ) ?_
  refine jB<|kx [(26,(vb (((nI (qJ (l.getD i y1))) != 0)&&((nI (qJ (m.getD i y1))) != 0))))] [] ?_ ?_
  ·refine zR (kO jS)<|zE (jZ (f_sign (l.getD i y1) (qJ (l.getD i y1)) (jR (xO hl.1 (show i<l.length by omega)) (by decide))))<|zE cM<|zE (oV (vb ((nI (qJ (l.getD i y1))) != 0)) (kV (by kernel_rfl)))<|?_
   rcases hb2:((nI (qJ (l.getD i qM))) != 0) with _ | _
   ·replace hb2:=bne_eq_false_iff_eq.1 hb2
    exact zK<|zK<|zK<|zK<|zK<|zK<|zE zG<|zZ
   ·replace hb2:=bne_iff_ne.1 hb2
    exact zM<|zM<|zE (yL uI i y1)<|zE (nA jS)<|zE (jZ (f_sign (m.getD i y1) (qJ (m.getD i y1)) (jR (xO hm.1 (show i<m.length by omega)) (by decide))))<|zE cM<|zE fM<|zZ
  refine jF rfl (fun h3=>?_) (fun h3=>?_)
  ·refine kd [] [(1,some (bx (jK (jP (s+((qJ (l.getD i y1))*(qJ (m.getD i y1))))))))] mo (wR (kO jS)<|wR (kO jS)<|wM<|wM<|wE (yL uI i y1)<|wE (nA jS)<|wE (jZ (eK (l.getD i y1) (m.getD i y1) (qJ (l.getD i y1)) (qJ (m.getD i y1)) (jR (xO hl.1 (show i<l.length by omega)) (by decide)) (jR (xO hm.1 (show i<m.length by omega)) (by decide))))<|wE (jZ (f_add (jP s) (jP ((qJ (l.getD i y1))*(qJ (m.getD i y1)))) s ((qJ (l.getD i y1))*(qJ (m.getD i y1))) (jR (kC hql) (by decide)) (jR (kC (qQ (k:=2097152) (xO hl.1 (show i<l.length by omega)).ql (xO hm.1 (show i<m.length by omega)).ql (by decide))) (by decide))))<|wT (qD jS)<|wZ) ?_
   refine kx [(11,(jV (i+1)))] [] (zE (vY (i+1))<|zM<|zZ) ?_
   exact ⟨(i+1,s+(qJ (l.getD i qM))*(qJ (m.getD i qM))),wk,⟨by omega,by rw[hs];rfl⟩,(by first|omega|(dsimp only;omega))⟩
  ·refine jD<|kx [(11,(jV (i+1)))] [] (zE (vY (i+1))<|zM<|zZ) ?_
   exact ⟨(i+1,s),wk,⟨by omega,hs.trans (dotT_skip (dot_sk h3))⟩,(by first|omega|(dsimp only;omega))⟩
 ·replace h1:=vM h1
  refine kJ<|jB<|kx [] [(0,some (bx (jK (jP s))))] (zR (kO jS)<|zT (qD jS)<|zZ) ?_
  refine jE ⟨_,(kP (cs:=(bx (jK (jP s)))) (d:=(jK (jP s))) rfl rfl jS rfl rfl .nil),?_⟩
  obtain rfl:i=l.length:=by omega
  rw[hs];rfl
theorem m_Dot(l:List jO)(hl:uY 1048576 l)(m:List jO)(hm:uY 134217800 m)(hlm:l.length=m.length)(hl4:l.length≤64):jQ Tryz.prog 132 [(.sl 45 4 (List.map jK l)),(.sl 45 4 (List.map jK m))] (.tup [(jK (jP (dotR l m))),(.val (.int .i64 (((0:Nat):Int))))]):=by
 have hlb:=hl.2
 have hmb:=hm.2
 let y1:=qM
 refine jG Tryz.func132 rfl cb132 rfl ?_
 show qK _ _ _ _ ⟨[(0,(vl 45 4 jK l)),(1,(vl 45 4 jK m))],[]⟩
 refine jB<|kx [(4,(.ref 0 0))] [(0,some (bx (jK y1)))] (zN (uB 0 uL uQ)<|zM<|zZ) ?_
 refine jB<|jB<|kx [(13,(vb false))] [] (zM<|zE (vC uI)<|zM<|zE (vC uI)<|zE (xD false cM (by exact bne_eq_false_iff_eq.2 (congrArg (fun z:Nat=>(z:Int)) hlm)))<|zZ) ?_
 refine kY ?_
 refine jD<|jB<|kx [(6,(.ref 1 0))] [(1,some (bx (jK (jP ((0:Int):Rat)))))] (zE (jZ (f_whole 0 (by decide) (by decide)))<|zN (uB 1 uL uQ)<|zT (qD jS)<|zZ) ?_
 refine jB<|jB<|kx [(16,(vl 45 4 jK l)),(17,(jV l.length)),(18,(jV 0))] [] (zM<|zE (vC uI)<|zM<|zZ) ?_
 refine jH<|kL (α:=Nat × Rat) (fun (i,s)=>⟨[(1,(vl 45 4 jK m)),(4,(.ref 0 0)),(6,(.ref 1 0)),(16,(vl 45 4 jK l)),(17,(jV l.length)),(18,(jV i))],[(0,some (bx (jK y1))),(1,some (bx (jK (jP s))))]⟩) (fun (i,s)=>i≤l.length∧s=aO l m i) (fun (i,s)=>l.length-i) (0,0) wk ⟨Nat.zero_le _,rfl⟩ ?_
 rintro ⟨i,s⟩ ⟨hi,hs⟩
 have hql:QL s 8800000000:=hs▸dot_ql2 hl hm (by omega)
 refine jB<|kx [(19,(vb (decide (((i:Nat):Int)<((l.length:Nat):Int)))))] [] (zE xT<|zZ) ?_
 refine jB<|jF rfl (fun h1=>?_) (fun h1=>?_)
 ·replace h1:=vI h1
  refine jD<|jB<|jH<|jB<|kx [(7,(jV i)),(8,(.ref 2 0))] [(2,some (bx (jK (l.getD i y1))))] (zM<|zE (yL uI i y1)<|zE (nA jS)<|zN (uB 2 uL uQ)<|zM<|zT (qD jS)<|zZ) ?_
  refine kd [] [(1,some (bx (jK (jP (s+((qJ (l.getD i y1))*(qJ (m.getD i y1))))))))] mo (wR (kO jS)<|wR (kO jS)<|wM<|wM<|wE (yL uI i y1)<|wE (nA jS)<|wE (jZ (eK (l.getD i y1) (m.getD i y1) (qJ (l.getD i y1)) (qJ (m.getD i y1)) (jR (xO hl.1 (show i<l.length by omega)) (by decide)) (jR (xO hm.1 (show i<m.length by omega)) (by decide))))<|wE (jZ (f_add (jP s) (jP ((qJ (l.getD i y1))*(qJ (m.getD i y1)))) s ((qJ (l.getD i y1))*(qJ (m.getD i y1))) (jR (kC hql) (by decide)) (jR (kC (qQ (k:=135266376) (xO hl.1 (show i<l.length by omega)).ql (xO hm.1 (show i<m.length by omega)).ql (by decide))) (by decide))))<|wT (qD jS)<|wZ) ?_
  refine kx [(18,(jV (i+1)))] [] (zE (vY (i+1))<|zM<|zZ) ?_
  exact ⟨(i+1,s+(qJ (l.getD i qM))*(qJ (m.getD i qM))),wk,⟨by omega,by rw[hs];rfl⟩,(by first|omega|(dsimp only;omega))⟩
 ·replace h1:=vM h1
  refine kJ<|jB<|kx [(5,(jV 0))] [(0,some (bx (jK (jP s))))] (zR (kO jS)<|zT (qD jS)<|zM<|zZ) ?_
  refine jE ⟨_,(kP (cs:=(bx (jK (jP s)))) (d:=(jK (jP s))) rfl rfl jS rfl rfl (.tmp (d:=(.val (.int .i64 (0)))) rfl .nil)),?_⟩
  obtain rfl:i=l.length:=by omega
  rw[hs];rfl
theorem m_app(m:List (List jO))(hm:xG 1048576 m)(v:List jO)(hv:uY 1048576 v)(hc:∀ r∈m,r.length=v.length)(hv4:v.length≤64)(hm6:m.length≤64):jQ Tryz.prog 213 [(.sl 24 1 (List.map jL m)),(.sl 45 4 (List.map jK v))] (.sl 45 4 (List.map jK (appR m v))):=by
 have hmb:=hm.2
 have hvb:=hv.2
 refine jG Tryz.func213 rfl cb213 rfl ?_
 show qK _ _ _ _ ⟨[(0,(vl 24 1 jL m)),(1,(vl 45 4 jK v))],[]⟩
 refine jB<|kx [] [] (zE (dZ 45 4)<|zZ) ?_
 refine jB<|kx [(5,(.own 0 45 4 0))] [(0,some (cC jK []))] (zO 0 45 4<|zZ) ?_
 refine jB<|jB<|kx [(8,(vl 24 1 jL m)),(9,(jV m.length)),(10,(jV 0))] [] (zM<|zE (vC mC)<|zM<|zZ) ?_
 refine jH<|kL (α:=Nat × List jO) (fun (i,o)=>⟨[(1,(vl 45 4 jK v)),(5,(.own 0 45 4 o.length)),(8,(vl 24 1 jL m)),(9,(jV m.length)),(10,(jV i))],[(0,some (cC jK o))]⟩) (fun (i,o)=>i≤m.length∧o=(m.take i).map (fun r=>jP (dotR r v))) (fun (i,o)=>m.length-i) (0,[]) wk ⟨Nat.zero_le _,by simp⟩ ?_
 rintro ⟨i,o⟩ ⟨hi,ho⟩
 have hol:o.length=i:=by rw[ho,List.length_map,List.length_take];omega
 refine jB<|kx [(11,(vb (decide (((i:Nat):Int)<((m.length:Nat):Int)))))] [] (zE xT<|zZ) ?_
 refine jB<|jF rfl (fun h1=>?_) (fun h1=>?_)
 ·replace h1:=vI h1
  have hcl:=mcol_at hc (show i<m.length by omega)
  refine jD<|jB<|jH<|jB<|kx [(7,(vl 45 4 jK (m.getD i [])))] [] (zE (yL mC i ([]:List (jO)))<|zE (yR yG)<|zM<|zZ) ?_
  refine kf [(5,(.own 0 45 4 ((o++[(jP (dotR (m.getD i []) v))]).length)))] [(0,some (cC jK (o++[(jP (dotR (m.getD i []) v))])))] (zM<|zM<|zM<|zE (jZ (m_dot (m.getD i []) (xM (d:=[]) hm (show i<m.length by omega)) v hv (by omega) (by omega)))<|zE (dG uI uL uQ)<|zAS jK o [(jP (dotR (m.getD i []) v))] rfl uI uL by45<|zM<|zF) ?_
  refine kx [(10,(jV (i+1)))] [] (zE (vY (i+1))<|zM<|zZ) ?_
  exact ⟨(i+1,o++[jP (dotR (m.getD i []) v)]),wk,⟨by omega,by rw[ho];exact appR_step (by omega)⟩,(by first|omega|(dsimp only;omega))⟩
 ·replace h1:=vM h1
  refine kJ<|jB<|kx [(4,(.own 0 45 4 o.length))] [] (zM<|zM<|zZ) ?_
  refine kW (vX (t:=4) (k:=0) (es:=List.map jK o) rfl rfl (nD _ _ (fun _=>rfl)) (uT _ _ rfl) (mL jK o (fun _=>rfl) rfl)) ?_
  refine jE ⟨_,(.tmp (d:=(.sl 45 4 (List.map jK o))) rfl .nil),?_⟩
  rw[ho,show i=m.length by omega,List.take_length];rfl
theorem cb75:callB Tryz.prog 75=true:=by kernel_rfl
theorem cb131:callB Tryz.prog 131=true:=by kernel_rfl
theorem cb211:callB Tryz.prog 211=true:=by kernel_rfl
theorem cb212:callB Tryz.prog 212=true:=by kernel_rfl
theorem m_apl1(m:List (List jO))(hm:xG 1048576 m)(h0:0<m.length):jQ Tryz.prog 212 [(.cptr 1000000 (jT.cells (.sl 24 1 (List.map jL m))) 0)] (.val (.int .i64 (((((m).getD 0 []).length:Nat):Int)))):=by
 have hmb:=hm.2
 have hrb:=(xM (d:=[]) hm h0).2
 refine jG Tryz.func212 rfl cb212 rfl ?_
 show qK _ _ _ _ ⟨[(0,(.d (.cptr 1000000 (jT.cells (.sl 24 1 (List.map jL m))) 0)))],[]⟩
 refine jB<|kx [] [] (zM<|zZ) ?_
 refine jB<|kx [(1,(jV ((m.getD 0 []).length)))] [] (zE (yR sh34)<|zE (yL mC 0 ([]:List (jO)))<|zE (yR yG)<|zE (vC uI (L:=(m.getD 0 [])))<|zM<|zZ) ?_
 refine jE ⟨_,(.tmp (d:=(.val (.int .i64 ((((m.getD 0 []).length:Nat):Int))))) rfl .nil),?_⟩
 rfl
theorem m_list(m:List (List jO))(hm:xG 1048576 m)(v:List jO)(hv:uY 1048576 v)(q:List (List jO))(hq:xG 1048576 q)(hr:gQ m m.length v.length)(hvv:gY v=true)(hq0:(q.getD 0 []).length=v.length)(hqm:0<q.length):jQ Tryz.prog 211 [(.sl 24 1 (List.map jL m)),(.sl 45 4 (List.map jK v)),(.clo 212 [(.cptr 1000000 (jT.cells (.sl 24 1 (List.map jL q))) 0)])] (.val (.int .i64 (((0:Nat):Int)))):=by
 have hvb:=hv.2
 have hc0:=rect_chk hr
 have hmb:=hr.r64
 refine jG Tryz.func211 rfl cb211 rfl ?_
 show qK _ _ _ _ ⟨[(0,(vl 24 1 jL m)),(1,(vl 45 4 jK v)),(2,(.d (.clo 212 [(.cptr 1000000 (jT.cells (.sl 24 1 (List.map jL q))) 0)])))],[]⟩
 refine jB<|kx [] [] (zM<|zZ) ?_
 refine jB<|jB<|kx [(7,(jV (nZ m)))] [] (zM<|zE (jZ (m_chk m hm))<|zM<|zZ) ?_
 refine jB<|kx [(11,(vb false))] [] (zM<|zE (xD false cM (by exact bne_eq_false_iff_eq.2 (by rw[show (nZ m)=0 from hc0]<;>rfl)))<|zZ) ?_
 refine kY ?_
 refine jD<|jB<|jB<|kx [(15,(vb false))] [] (zM<|zE (xD true (jZ (m_can v hv (by assumption))) (by exact hvv))<|zE nF<|zZ) ?_
 refine kY ?_
 refine jD<|jB<|jB<|kx [(20,(vb false))] [] (zM<|zE (vC uI)<|zM<|zE (oCd (ds:=[]) (caps:=[(.cptr 1000000 (jT.cells (.sl 24 1 (List.map jL q))) 0)]) (m_apl1 q hq hqm))<|zE (xD false cM (by exact bne_eq_false_iff_eq.2 (congrArg (fun z:Nat=>(z:Int)) hq0.symm)))<|zZ) ?_
 refine kY ?_
 refine jD<|jB<|kx [(6,(jV 0))] [] (zM<|zZ) ?_
 refine jE ⟨_,(.tmp (d:=(.val (.int .i64 (((0:Nat):Int))))) rfl .nil),?_⟩
 rfl
theorem m_aply(m:List (List jO))(hm:xG 1048576 m)(v:List jO)(hv:uY 1048576 v)(hr:gQ m m.length v.length)(hvv:gY v=true):jQ Tryz.prog 131 [(.sl 24 1 (List.map jL m)),(.sl 45 4 (List.map jK v))] (.tup [(.sl 45 4 (List.map jK (appR m v))),(.val (.int .i64 (((0:Nat):Int))))]):=by
 have hvb:=hv.2
 have hmb:=hr.r64
 have hm1:=hr.r1
 have hv64:=hr.c64
 have hq0:=(hr.at (i:=0) hm1).1
 refine jG Tryz.func131 rfl cb131 rfl ?_
 show qK _ _ _ _ ⟨[(0,(vl 24 1 jL m)),(1,(vl 45 4 jK v))],[]⟩
 refine jB<|kx [(2,(.ref 0 0))] [(0,some (bx (.sl 24 1 (List.map jL m))))] (zN (vN 0)<|zE (dZ 45 4)<|zM<|zZ) ?_
 refine jB<|jB<|kx [(6,(jV 0))] [] (zR (qS sh34)<|zM<|zE (oMf [0])<|zC (oCg [(0,(jT.cells (.sl 24 1 (List.map jL m))))] [(vl 24 1 jL m),(vl 45 4 jK v),(.clo 212 [0])] (m_list m hm v hv m hm hr hvv (by assumption) (by omega)) (.d (.d (.c (css:=[(jT.cells (.sl 24 1 (List.map jL m)))]) (.cons (.head _) .nil) .nil))) (.val _))<|zM<|zZ) ?_
 refine jB<|kx [(12,(vb false))] [] (zM<|zE (xD false cM)<|zZ) ?_
 refine kY ?_
 refine jD<|jB<|kx [(4,(vl 45 4 jK (appR m v))),(5,(jV 0))] [] (zR (qS sh34)<|zM<|zE (jZ (m_app m hm v hv (fun r h=>(hr.hc r h).1) (by omega) (by omega)))<|zM<|zM<|zZ) ?_
 refine jE ⟨_,(.tmp (d:=(.sl 45 4 (List.map jK (appR m v)))) rfl (.tmp (d:=(.val (.int .i64 (((0:Nat):Int))))) rfl .nil)),?_⟩
 rfl
theorem m_cov(m:List (List jO))(hm:xG 1048576 m)(a:List jO)(ha:uY 1048576 a)(v:List jO)(hv:uY 1048576 v)(hr:gQ m m.length v.length)(hvv:gY v=true)(hal:a.length=m.length)(hvl:v.length=m.length):jQ Tryz.prog 75 [(.sl 24 1 (List.map jL m)),(.sl 45 4 (List.map jK a)),(.sl 45 4 (List.map jK v))] (jK (jP (xU m a v))):=by
 have hab:=ha.2
 have hvb:=hv.2
 have hmb:=hr.r64
 have hm1:=hr.r1
 have hv64:=hr.c64
 have hpl:=appR_len m v
 refine jG Tryz.func75 rfl cb75 rfl ?_
 show qK _ _ _ _ ⟨[(0,(vl 24 1 jL m)),(1,(vl 45 4 jK a)),(2,(vl 45 4 jK v))],[]⟩
 refine jB<|kx [(6,(.ref 0 0))] [(0,some (bx (jK qM)))] (zN (uB 0 uL uQ)<|zZ) ?_
 refine jB<|kx [(7,(vl 45 4 jK (appR m v)))] [] (zM<|zM<|zE (jZ (m_aply m hm v hv hr hvv))<|zM<|zE vT<|zE vT<|zM<|zM<|zZ) ?_
 refine jB<|kx [(9,(.ref 1 0))] [(1,some (bx (jK (jP (dotR a (appR m v))))))] (zM<|zM<|zE (jZ (m_Dot a ha (appR m v) (appR_ok hm hv (mcol_le (fun r h=>(hr.hc r h).1) hr.c64)) (hal.trans hpl.symm) (by omega)))<|zM<|zE vT<|zE vT<|zN (uB 1 uL uQ)<|zT (qD jS)<|zM<|zZ) ?_
 refine jB<|kx [] [(0,some (bx (jK (jP (dotR a (appR m v))))))] (zR (kO jS)<|zT (qD jS)<|zZ) ?_
 refine jE ⟨_,(kP (cs:=(bx (jK (jP (dotR a (appR m v)))))) (d:=(jK (jP (dotR a (appR m v))))) rfl rfl jS rfl rfl .nil),?_⟩
 rfl
theorem cb185:callB Tryz.prog 185=true:=by kernel_rfl
theorem cb186:callB Tryz.prog 186=true:=by kernel_rfl
theorem cb188:callB Tryz.prog 188=true:=by kernel_rfl
theorem cb189:callB Tryz.prog 189=true:=by kernel_rfl
theorem cb190:callB Tryz.prog 190=true:=by kernel_rfl
theorem cb191:callB Tryz.prog 191=true:=by kernel_rfl
theorem cb194:callB Tryz.prog 194=true:=by kernel_rfl
theorem cb195:callB Tryz.prog 195=true:=by kernel_rfl
theorem cb197:callB Tryz.prog 197=true:=by kernel_rfl
theorem cb199:callB Tryz.prog 199=true:=by kernel_rfl
theorem cb201:callB Tryz.prog 201=true:=by kernel_rfl
theorem cb203:callB Tryz.prog 203=true:=by kernel_rfl
theorem cb204:callB Tryz.prog 204=true:=by kernel_rfl
theorem cb205:callB Tryz.prog 205=true:=by kernel_rfl
theorem cb243:callB Tryz.prog 243=true:=by kernel_rfl
theorem vZ:xR Tryz.prog 83 1=some 1:=by kernel_rfl
theorem dR:xR Tryz.prog 83 3=some 3:=by kernel_rfl
theorem gX:xR Tryz.prog 95 0=some 0:=by kernel_rfl
theorem nW:xR Tryz.prog 95 1=some 8:=by kernel_rfl
theorem fo161_2:xR Tryz.prog 161 2=some 2:=by kernel_rfl
theorem sh70:qO Tryz.prog 70=some (false,1):=by kernel_rfl
theorem bQ:qO Tryz.prog 86=some (false,1):=by kernel_rfl
theorem eC:qO Tryz.prog 159=some (false,1):=by kernel_rfl
theorem j_round(n:Nat)(x:jT)(a:R2)(ha:GL 67108864 a):jQ Tryz.prog 243 [(.cptr 1000000 (jT.cells (mcA n x false)) 0),(jI (kS a))] (jI (kS a)):=by
 refine jG Tryz.func243 rfl cb243 rfl ?_
 show qK _ _ _ _ ⟨[(0,(.d (.cptr 1000000 (jT.cells (mcA n x false)) 0))),(1,(.d (jI (kS a))))],[]⟩
 refine jB<|kx [(3,(.ref 0 0)),(4,(.ref 1 0))] [(0,some (bx (jI (kS a)))),(1,some (bx (jI (jW.mk qM qM))))] (zN (vN 0)<|zN (uB 1 uC uH)<|zZ) ?_
 refine jB<|jB<|kx [(9,(vb true))] [] (zM<|zE oNd<|zE (oFc fo161_2)<|zE (yR hP)<|zE (xD true xT)<|zZ) ?_
 refine vP ?_
 refine jB<|kx [] [(1,some (bx (jI (kS a))))] (zR (kO kF)<|zT (qD kF)<|zZ) ?_
 refine jE ⟨_,(kP (cs:=(bx (jI (kS a)))) (d:=(jI (kS a))) rfl rfl kF rfl rfl .nil),?_⟩
 rfl
theorem j_negop(a:R2)(ha:GL 67108864 a)(b:R2)(hb:GL 67108864 b)(zz:R2)(hzz:GL 3 zz):jQ Tryz.prog 194 [(jI (kS a)),(jI (kS b)),(.cptr 1000000 (jT.cells (jI (kS zz))) 0)] (jI (kS (uM zz a))):=by
 refine jG Tryz.func194 rfl cb194 rfl ?_
 show qK _ _ _ _ ⟨[(0,(.d (jI (kS a)))),(1,(.d (jI (kS b)))),(2,(.d (.cptr 1000000 (jT.cells (jI (kS zz))) 0)))],[]⟩
 refine jB<|kx [(3,(.ref 0 0)),(5,(.ref 2 0))] [(0,some (bx (jI (kS a)))),(2,some (bx (jI (jW.mk qM qM)))),(1,none)] (zN (vN 0)<|zN (vN 1)<|zN (uB 2 uC uH)<|zZ) ?_
 refine jB<|kx [] [(2,some (bx (jI (kS (uM zz a)))))] (zE (nA kF)<|zR (kO kF)<|zE (jZ (j_sub zz (qX hzz (by decide)) a ha))<|zT (qD kF)<|zZ) ?_
 refine jE ⟨_,(kP (cs:=(bx (jI (kS (uM zz a))))) (d:=(jI (kS (uM zz a)))) rfl rfl kF rfl rfl .nil),?_⟩
 rfl
theorem j_vAdd(n:Nat)(u:JV)(hu:nY 1048576 n u)(v:JV)(hv:nY 1048576 n v):jQ Tryz.prog 185 [(.cptr 1000000 (jT.cells (.val (.func (.func 192) #[] #[]))) 0),(.cptr 1000000 (jT.cells (jJ (qF u))) 0),(.cptr 1000000 (jT.cells (jJ (qF v))) 0)] (jI (kS (gH u.v v.v))):=by
 refine jG Tryz.func185 rfl cb185 rfl ?_
 show qK _ _ _ _ ⟨[(0,(.d (.cptr 1000000 (jT.cells (.val (.func (.func 192) #[] #[]))) 0))),(1,(.d (.cptr 1000000 (jT.cells (jJ (qF u))) 0))),(2,(.d (.cptr 1000000 (jT.cells (jJ (qF v))) 0)))],[]⟩
 refine jB<|kx [(3,(.ref 0 0))] [(0,some (bx (jI (jW.mk qM qM))))] (zN (uB 0 uC uH)<|zZ) ?_
 refine jB<|kx [] [(0,some (bx (jI (kS (gH u.v v.v)))))] (zE (yR sh70)<|zE (oFc gX)<|zE (nA kF)<|zE (oFc gX)<|zE (nA kF)<|zE (jZ (j_add u.v (qX hu.1 (by decide)) v.v (qX hv.1 (by decide))))<|zT (qD kF)<|zZ) ?_
 refine jE ⟨_,(kP (cs:=(bx (jI (kS (gH u.v v.v))))) (d:=(jI (kS (gH u.v v.v)))) rfl rfl kF rfl rfl .nil),?_⟩
 rfl
theorem j_gAdd(wp:jT)(i:Nat)(n:Nat)(u:JV)(hu:nY 1048576 n u)(v:JV)(hv:nY 1048576 n v)(hi:i<n):jQ Tryz.prog 186 [(wp),(.val (.int .i64 (((i:Nat):Int)))),(.cptr 1000000 (jT.cells (.val (.func (.func 192) #[] #[]))) 0),(.cptr 1000000 (jT.cells (jJ (qF u))) 0),(.cptr 1000000 (jT.cells (jJ (qF v))) 0)] (jI (kS (gH (u.g.getD i z2) (v.g.getD i z2)))):=by
 have hul:=hu.2.2
 have hvl:=hv.2.2
 refine jG Tryz.func186 rfl cb186 rfl ?_
 show qK _ _ _ _ ⟨[(0,(.d (wp))),(1,(jV i)),(2,(.d (.cptr 1000000 (jT.cells (.val (.func (.func 192) #[] #[]))) 0))),(3,(.d (.cptr 1000000 (jT.cells (jJ (qF u))) 0))),(4,(.d (.cptr 1000000 (jT.cells (jJ (qF v))) 0)))],[]⟩
 refine jB<|kx [(7,(.ref 0 0))] [(0,some (bx (jI (jW.mk qM qM))))] (zN (uB 0 uC uH)<|zZ) ?_
 refine jB<|kd [] [(0,some (bx (jI (kS (gH (u.g.getD i z2) (v.g.getD i z2))))))] mo (wE (yR sh70)<|wE (oFc nW)<|wE (yR bQ)<|wM<|wE (oXm gN kS i z2)<|wE (nA kF)<|wE (oFc nW)<|wE (yR bQ)<|wM<|wE (oXm gN kS i z2)<|wE (nA kF)<|wE (jZ (j_add (u.g.getD i z2) (qX (vW hu.2.1 (by decide) i) (by decide)) (v.g.getD i z2) (qX (vW hv.2.1 (by decide) i) (by decide))))<|wT (qD kF)<|wZ) ?_
 refine jE ⟨_,(kP (cs:=(bx (jI (kS (gH (u.g.getD i z2) (v.g.getD i z2)))))) (d:=(jI (kS (gH (u.g.getD i z2) (v.g.getD i z2))))) rfl rfl kF rfl rfl .nil),?_⟩
 rfl
theorem j_vSub(n:Nat)(u:JV)(hu:nY 1048576 n u)(v:JV)(hv:nY 1048576 n v):jQ Tryz.prog 185 [(.cptr 1000000 (jT.cells (.val (.func (.func 193) #[] #[]))) 0),(.cptr 1000000 (jT.cells (jJ (qF u))) 0),(.cptr 1000000 (jT.cells (jJ (qF v))) 0)] (jI (kS (uM u.v v.v))):=by
 refine jG Tryz.func185 rfl cb185 rfl ?_
 show qK _ _ _ _ ⟨[(0,(.d (.cptr 1000000 (jT.cells (.val (.func (.func 193) #[] #[]))) 0))),(1,(.d (.cptr 1000000 (jT.cells (jJ (qF u))) 0))),(2,(.d (.cptr 1000000 (jT.cells (jJ (qF v))) 0)))],[]⟩
 refine jB<|kx [(3,(.ref 0 0))] [(0,some (bx (jI (jW.mk qM qM))))] (zN (uB 0 uC uH)<|zZ) ?_
 refine jB<|kx [] [(0,some (bx (jI (kS (uM u.v v.v)))))] (zE (yR sh70)<|zE (oFc gX)<|zE (nA kF)<|zE (oFc gX)<|zE (nA kF)<|zE (jZ (j_sub u.v (qX hu.1 (by decide)) v.v (qX hv.1 (by decide))))<|zT (qD kF)<|zZ) ?_
 refine jE ⟨_,(kP (cs:=(bx (jI (kS (uM u.v v.v))))) (d:=(jI (kS (uM u.v v.v)))) rfl rfl kF rfl rfl .nil),?_⟩
 rfl
theorem j_gSub(wp:jT)(i:Nat)(n:Nat)(u:JV)(hu:nY 1048576 n u)(v:JV)(hv:nY 1048576 n v)(hi:i<n):jQ Tryz.prog 186 [(wp),(.val (.int .i64 (((i:Nat):Int)))),(.cptr 1000000 (jT.cells (.val (.func (.func 193) #[] #[]))) 0),(.cptr 1000000 (jT.cells (jJ (qF u))) 0),(.cptr 1000000 (jT.cells (jJ (qF v))) 0)] (jI (kS (uM (u.g.getD i z2) (v.g.getD i z2)))):=by
 have hul:=hu.2.2
 have hvl:=hv.2.2
 refine jG Tryz.func186 rfl cb186 rfl ?_
 show qK _ _ _ _ ⟨[(0,(.d (wp))),(1,(jV i)),(2,(.d (.cptr 1000000 (jT.cells (.val (.func (.func 193) #[] #[]))) 0))),(3,(.d (.cptr 1000000 (jT.cells (jJ (qF u))) 0))),(4,(.d (.cptr 1000000 (jT.cells (jJ (qF v))) 0)))],[]⟩
 refine jB<|kx [(7,(.ref 0 0))] [(0,some (bx (jI (jW.mk qM qM))))] (zN (uB 0 uC uH)<|zZ) ?_
 refine jB<|kd [] [(0,some (bx (jI (kS (uM (u.g.getD i z2) (v.g.getD i z2))))))] mo (wE (yR sh70)<|wE (oFc nW)<|wE (yR bQ)<|wM<|wE (oXm gN kS i z2)<|wE (nA kF)<|wE (oFc nW)<|wE (yR bQ)<|wM<|wE (oXm gN kS i z2)<|wE (nA kF)<|wE (jZ (j_sub (u.g.getD i z2) (qX (vW hu.2.1 (by decide) i) (by decide)) (v.g.getD i z2) (qX (vW hv.2.1 (by decide) i) (by decide))))<|wT (qD kF)<|wZ) ?_
 refine jE ⟨_,(kP (cs:=(bx (jI (kS (uM (u.g.getD i z2) (v.g.getD i z2)))))) (d:=(jI (kS (uM (u.g.getD i z2) (v.g.getD i z2))))) rfl rfl kF rfl rfl .nil),?_⟩
 rfl
theorem j_vNeg(n:Nat)(u:JV)(hu:nY 1048576 n u)(v:JV)(hv:nY 1048576 n v):jQ Tryz.prog 185 [(.cptr 1000000 (jT.cells (.clo 194 [(.cptr 1000000 (jT.cells (jI (kS (gw 0)))) 0)])) 0),(.cptr 1000000 (jT.cells (jJ (qF u))) 0),(.cptr 1000000 (jT.cells (jJ (qF v))) 0)] (jI (kS (uM (gw 0) u.v))):=by
 refine jG Tryz.func185 rfl cb185 rfl ?_
 show qK _ _ _ _ ⟨[(0,(.d (.cptr 1000000 (jT.cells (.clo 194 [(.cptr 1000000 (jT.cells (jI (kS (gw 0)))) 0)])) 0))),(1,(.d (.cptr 1000000 (jT.cells (jJ (qF u))) 0))),(2,(.d (.cptr 1000000 (jT.cells (jJ (qF v))) 0)))],[]⟩
 refine jB<|kx [(3,(.ref 0 0))] [(0,some (bx (jI (jW.mk qM qM))))] (zN (uB 0 uC uH)<|zZ) ?_
 refine jB<|kx [] [(0,some (bx (jI (kS (uM (gw 0) u.v)))))] (zE (yR sh70)<|zE (oFc gX)<|zE (nA kF)<|zE (oFc gX)<|zE (nA kF)<|zE (oCd (ds:=[(jI (kS u.v)),(jI (kS v.v))]) (caps:=[(.cptr 1000000 (jT.cells (jI (kS (gw 0)))) 0)]) (j_negop u.v (qX hu.1 (by decide)) v.v (qX hv.1 (by decide)) (gw 0) (gl_w (z:=0) (by omega) (by omega))))<|zT (qD kF)<|zZ) ?_
 refine jE ⟨_,(kP (cs:=(bx (jI (kS (uM (gw 0) u.v))))) (d:=(jI (kS (uM (gw 0) u.v)))) rfl rfl kF rfl rfl .nil),?_⟩
 rfl
theorem j_gNeg(wp:jT)(i:Nat)(n:Nat)(u:JV)(hu:nY 1048576 n u)(v:JV)(hv:nY 1048576 n v)(hi:i<n):jQ Tryz.prog 186 [(wp),(.val (.int .i64 (((i:Nat):Int)))),(.cptr 1000000 (jT.cells (.clo 194 [(.cptr 1000000 (jT.cells (jI (kS (gw 0)))) 0)])) 0),(.cptr 1000000 (jT.cells (jJ (qF u))) 0),(.cptr 1000000 (jT.cells (jJ (qF v))) 0)] (jI (kS (uM (gw 0) (u.g.getD i z2)))):=by
 have hul:=hu.2.2
 have hvl:=hv.2.2
 refine jG Tryz.func186 rfl cb186 rfl ?_
 show qK _ _ _ _ ⟨[(0,(.d (wp))),(1,(jV i)),(2,(.d (.cptr 1000000 (jT.cells (.clo 194 [(.cptr 1000000 (jT.cells (jI (kS (gw 0)))) 0)])) 0))),(3,(.d (.cptr 1000000 (jT.cells (jJ (qF u))) 0))),(4,(.d (.cptr 1000000 (jT.cells (jJ (qF v))) 0)))],[]⟩
 refine jB<|kx [(7,(.ref 0 0))] [(0,some (bx (jI (jW.mk qM qM))))] (zN (uB 0 uC uH)<|zZ) ?_
 refine jB<|kd [] [(0,some (bx (jI (kS (uM (gw 0) (u.g.getD i z2))))))] mo (wE (yR sh70)<|wE (oFc nW)<|wE (yR bQ)<|wM<|wE (oXm gN kS i z2)<|wE (nA kF)<|wE (oFc nW)<|wE (yR bQ)<|wM<|wE (oXm gN kS i z2)<|wE (nA kF)<|wE (oCd (ds:=[(jI (kS (u.g.getD i z2))),(jI (kS (v.g.getD i z2)))]) (caps:=[(.cptr 1000000 (jT.cells (jI (kS (gw 0)))) 0)]) (j_negop (u.g.getD i z2) (qX (vW hu.2.1 (by decide) i) (by decide)) (v.g.getD i z2) (qX (vW hv.2.1 (by decide) i) (by decide)) (gw 0) (gl_w (z:=0) (by omega) (by omega))))<|wT (qD kF)<|wZ) ?_
 refine jE ⟨_,(kP (cs:=(bx (jI (kS (uM (gw 0) (u.g.getD i z2)))))) (d:=(jI (kS (uM (gw 0) (u.g.getD i z2))))) rfl rfl kF rfl rfl .nil),?_⟩
 rfl
theorem j_vC(p:Rat)(hp:QL p 1048576):jQ Tryz.prog 188 [(.cptr 1000000 (jT.cells (kK (kN.mk 0 0 0 (jP p)))) 0)] (jI (kS (gD p))):=by
 refine jG Tryz.func188 rfl cb188 rfl ?_
 show qK _ _ _ _ ⟨[(0,(.d (.cptr 1000000 (jT.cells (kK (kN.mk 0 0 0 (jP p)))) 0)))],[]⟩
 refine jB<|kx [(1,(.ref 0 0))] [(0,some (bx (jI (jW.mk qM qM))))] (zN (uB 0 uC uH)<|zZ) ?_
 refine jB<|kx [] [(0,some (bx (jI (jW.mk (jP p) (jP p)))))] (zE (oFc dR)<|zE (nA jS)<|zE (oFc dR)<|zE (nA jS)<|zE (bB pl61 uC uH)<|zT (qD kF)<|zZ) ?_
 refine jE ⟨_,(kP (cs:=(bx (jI (jW.mk (jP p) (jP p))))) (d:=(jI (jW.mk (jP p) (jP p)))) rfl rfl kF rfl rfl .nil),?_⟩
 rfl
theorem j_gC(wp:jT)(i:Nat)(zz:R2)(hzz:GL 3 zz):jQ Tryz.prog 189 [(wp),(.val (.int .i64 (((i:Nat):Int)))),(.cptr 1000000 (jT.cells (jI (kS zz))) 0)] (jI (kS zz)):=by
 refine jG Tryz.func189 rfl cb189 rfl ?_
 show qK _ _ _ _ ⟨[(0,(.d (wp))),(1,(jV i)),(2,(.d (.cptr 1000000 (jT.cells (jI (kS zz))) 0)))],[]⟩
 refine jB<|kx [(5,(.ref 0 0))] [(0,some (bx (jI (jW.mk qM qM))))] (zN (uB 0 uC uH)<|zZ) ?_
 refine jB<|kx [] [(0,some (bx (jI (kS zz))))] (zE (nA kF)<|zT (qD kF)<|zZ) ?_
 refine jE ⟨_,(kP (cs:=(bx (jI (kS zz)))) (d:=(jI (kS zz))) rfl rfl kF rfl rfl .nil),?_⟩
 rfl
theorem j_vV(bv:List R2)(hbx:∀ x∈bv,GL 1048576 x)(a:Nat)(ha:a<bv.length)(hbl:bv.length≤1000000):jQ Tryz.prog 190 [(.cptr 1000000 (jT.cells (.sl 61 8 (List.map jI (List.map kS bv)))) 0),(.cptr 1000000 (jT.cells (kK (kN.mk 1 ((a:Nat):Int) 0 qM))) 0)] (jI (kS (bv.getD a z2))):=by
 refine jG Tryz.func190 rfl cb190 rfl ?_
 show qK _ _ _ _ ⟨[(0,(.d (.cptr 1000000 (jT.cells (.sl 61 8 (List.map jI (List.map kS bv)))) 0))),(1,(.d (.cptr 1000000 (jT.cells (kK (kN.mk 1 ((a:Nat):Int) 0 qM))) 0)))],[]⟩
 refine jB<|kx [(2,(.ref 0 0))] [(0,some (bx (jI (jW.mk qM qM))))] (zN (uB 0 uC uH)<|zZ) ?_
 refine jB<|kx [] [(0,some (bx (jI (kS (bv.getD a z2)))))] (zE (yR bQ)<|zE (oFc vZ)<|zE (yR hP)<|zE (oXm gN kS a z2 (hj:=by first | omega | rfl | (dsimp only;omega)) (h1:=by first | omega | rfl | (dsimp only;omega)))<|zE (nA kF)<|zT (qD kF)<|zZ) ?_
 refine jE ⟨_,(kP (cs:=(bx (jI (kS (bv.getD a z2))))) (d:=(jI (kS (bv.getD a z2)))) rfl rfl kF rfl rfl .nil),?_⟩
 rfl
theorem j_gV(wp:jT)(i:Nat)(a:Nat)(zz:R2)(hzz:GL 3 zz):jQ Tryz.prog 191 [(wp),(.val (.int .i64 (((i:Nat):Int)))),(.cptr 1000000 (jT.cells (kK (kN.mk 1 ((a:Nat):Int) 0 qM))) 0),(.cptr 1000000 (jT.cells (jI (kS zz))) 0)] (jI (kS (if ((i:Nat):Int)=((a:Nat):Int) then gw 1 else zz))):=by
 refine jG Tryz.func191 rfl cb191 rfl ?_
 show qK _ _ _ _ ⟨[(0,(.d (wp))),(1,(jV i)),(2,(.d (.cptr 1000000 (jT.cells (kK (kN.mk 1 ((a:Nat):Int) 0 qM))) 0))),(3,(.d (.cptr 1000000 (jT.cells (jI (kS zz))) 0)))],[]⟩
 refine jB<|kx [(6,(.ref 0 0))] [(0,some (bx (jI (jW.mk qM qM))))] (zN (uB 0 uC uH)<|zZ) ?_
 refine jB<|jB<|kx [(10,(vb (((i:Nat):Int) == ((a:Nat):Int))))] [] (zM<|zE (oFc vZ)<|zE (yR hP)<|zE yQ<|zZ) ?_
 refine jF (b:=(((i:Nat):Int) == ((a:Nat):Int))) rfl (fun h1=>?_) (fun h1=>?_)
 ·replace h1:=eq_of_beq h1
  refine jB<|kx [] [(0,some (bx (jI (kS (gw 1)))))] (zE (jZ (j_whole 1 (by omega) (by omega)))<|zT (qD kF)<|zZ) ?_
  refine jE ⟨_,(kP (cs:=(bx (jI (kS (gw 1))))) (d:=(jI (kS (gw 1)))) rfl rfl kF rfl rfl .nil),?_⟩
  rw[if_pos h1];rfl
 ·replace h1:=ne_of_beq_false h1
  refine jD<|jB<|kx [] [(0,some (bx (jI (kS zz))))] (zE (nA kF)<|zT (qD kF)<|zZ) ?_
  refine jE ⟨_,(kP (cs:=(bx (jI (kS zz)))) (d:=(jI (kS zz))) rfl rfl kF rfl rfl .nil),?_⟩
  rw[if_neg h1];rfl
theorem j_vM(n:Nat)(u:JV)(hu:nY 1048576 n u)(v:JV)(hv:nY 1048576 n v):jQ Tryz.prog 195 [(.cptr 1000000 (jT.cells (jJ (qF u))) 0),(.cptr 1000000 (jT.cells (jJ (qF v))) 0)] (jI (kS (xC u.v v.v))):=by
 refine jG Tryz.func195 rfl cb195 rfl ?_
 show qK _ _ _ _ ⟨[(0,(.d (.cptr 1000000 (jT.cells (jJ (qF u))) 0))),(1,(.d (.cptr 1000000 (jT.cells (jJ (qF v))) 0)))],[]⟩
 refine jB<|kx [(2,(.ref 0 0))] [(0,some (bx (jI (jW.mk qM qM))))] (zN (uB 0 uC uH)<|zZ) ?_
 refine jB<|kx [] [(0,some (bx (jI (kS (xC u.v v.v)))))] (zE (oFc gX)<|zE (nA kF)<|zE (oFc gX)<|zE (nA kF)<|zE (jZ (j_mul u.v (qX hu.1 (by decide)) v.v (qX hv.1 (by decide))))<|zT (qD kF)<|zZ) ?_
 refine jE ⟨_,(kP (cs:=(bx (jI (kS (xC u.v v.v))))) (d:=(jI (kS (xC u.v v.v)))) rfl rfl kF rfl rfl .nil),?_⟩
 rfl
theorem j_gM(wp:jT)(i:Nat)(n:Nat)(u:JV)(hu:nY 1048576 n u)(v:JV)(hv:nY 1048576 n v)(hi:i<n):jQ Tryz.prog 197 [(wp),(.val (.int .i64 (((i:Nat):Int)))),(.cptr 1000000 (jT.cells (jJ (qF u))) 0),(.cptr 1000000 (jT.cells (jJ (qF v))) 0)] (jI (kS (gH (xC u.v (v.g.getD i z2)) (xC v.v (u.g.getD i z2))))):=by
 have hul:=hu.2.2
 have hvl:=hv.2.2
 refine jG Tryz.func197 rfl cb197 rfl ?_
 show qK _ _ _ _ ⟨[(0,(.d (wp))),(1,(jV i)),(2,(.d (.cptr 1000000 (jT.cells (jJ (qF u))) 0))),(3,(.d (.cptr 1000000 (jT.cells (jJ (qF v))) 0)))],[]⟩
 refine jB<|kx [(6,(.ref 0 0))] [(0,some (bx (jI (jW.mk qM qM))))] (zN (uB 0 uC uH)<|zZ) ?_
 refine jB<|kd [] [(0,some (bx (jI (kS (gH (xC u.v (v.g.getD i z2)) (xC v.v (u.g.getD i z2)))))))] mo (wE (oFc gX)<|wE (nA kF)<|wE (oFc nW)<|wE (yR bQ)<|wM<|wE (oXm gN kS i z2)<|wE (nA kF)<|wE (jZ (j_mul u.v (qX hu.1 (by decide)) (v.g.getD i z2) (qX (vW hv.2.1 (by decide) i) (by decide))))<|wE (oFc gX)<|wE (nA kF)<|wE (oFc nW)<|wE (yR bQ)<|wM<|wE (oXm gN kS i z2)<|wE (nA kF)<|wE (jZ (j_mul v.v (qX hv.1 (by decide)) (u.g.getD i z2) (qX (vW hu.2.1 (by decide) i) (by decide))))<|wE (jZ (j_add (xC u.v (v.g.getD i z2)) (qX (nB (k:=2097152) hu.1 (vW hv.2.1 (by decide) i) (by decide)) (by decide)) (xC v.v (u.g.getD i z2)) (qX (nB (k:=2097152) hv.1 (vW hu.2.1 (by decide) i) (by decide)) (by decide))))<|wT (qD kF)<|wZ) ?_
 refine jE ⟨_,(kP (cs:=(bx (jI (kS (gH (xC u.v (v.g.getD i z2)) (xC v.v (u.g.getD i z2))))))) (d:=(jI (kS (gH (xC u.v (v.g.getD i z2)) (xC v.v (u.g.getD i z2)))))) rfl rfl kF rfl rfl .nil),?_⟩
 rfl
theorem j_vQ(n:Nat)(u:JV)(hu:nY 1048576 n u):jQ Tryz.prog 199 [(.cptr 1000000 (jT.cells (jJ (qF u))) 0)] (jI (kS (gsq u.v))):=by
 refine jG Tryz.func199 rfl cb199 rfl ?_
 show qK _ _ _ _ ⟨[(0,(.d (.cptr 1000000 (jT.cells (jJ (qF u))) 0)))],[]⟩
 refine jB<|kx [(1,(.ref 0 0))] [(0,some (bx (jI (jW.mk qM qM))))] (zN (uB 0 uC uH)<|zZ) ?_
 refine jB<|kx [] [(0,some (bx (jI (kS (gsq u.v)))))] (zE (oFc gX)<|zE (nA kF)<|zE (jZ (j_sq u.v (qX hu.1 (by decide))))<|zT (qD kF)<|zZ) ?_
 refine jE ⟨_,(kP (cs:=(bx (jI (kS (gsq u.v))))) (d:=(jI (kS (gsq u.v)))) rfl rfl kF rfl rfl .nil),?_⟩
 rfl
theorem j_gQ(wp:jT)(i:Nat)(tt:R2)(htt:GL 3 tt)(n:Nat)(u:JV)(hu:nY 1048576 n u)(hi:i<n):jQ Tryz.prog 201 [(wp),(.val (.int .i64 (((i:Nat):Int)))),(.cptr 1000000 (jT.cells (jI (kS tt))) 0),(.cptr 1000000 (jT.cells (jJ (qF u))) 0)] (jI (kS (xC tt (xC u.v (u.g.getD i z2))))):=by
 have hul:=hu.2.2
 refine jG Tryz.func201 rfl cb201 rfl ?_
 show qK _ _ _ _ ⟨[(0,(.d (wp))),(1,(jV i)),(2,(.d (.cptr 1000000 (jT.cells (jI (kS tt))) 0))),(3,(.d (.cptr 1000000 (jT.cells (jJ (qF u))) 0)))],[]⟩
 refine jB<|kx [(6,(.ref 0 0))] [(0,some (bx (jI (jW.mk qM qM))))] (zN (uB 0 uC uH)<|zZ) ?_
 refine jB<|kd [] [(0,some (bx (jI (kS (xC tt (xC u.v (u.g.getD i z2)))))))] mo (wE (nA kF)<|wE (oFc gX)<|wE (nA kF)<|wE (oFc nW)<|wE (yR bQ)<|wM<|wE (oXm gN kS i z2)<|wE (nA kF)<|wE (jZ (j_mul u.v (qX hu.1 (by decide)) (u.g.getD i z2) (qX (vW hu.2.1 (by decide) i) (by decide))))<|wE (jZ (j_mul tt (qX htt (by decide)) (xC u.v (u.g.getD i z2)) (qX (nB (k:=2097152) hu.1 (vW hu.2.1 (by decide) i) (by decide)) (by decide))))<|wT (qD kF)<|wZ) ?_
 refine jE ⟨_,(kP (cs:=(bx (jI (kS (xC tt (xC u.v (u.g.getD i z2))))))) (d:=(jI (kS (xC tt (xC u.v (u.g.getD i z2)))))) rfl rfl kF rfl rfl .nil),?_⟩
 rfl
theorem j_div(n:Nat)(x:jT)(a:R2)(ha:GL 67108864 a)(b:R2)(hb:GL 67108864 b)(hz:gP b.1 b.2=false):jQ Tryz.prog 204 [(.cptr 1000000 (jT.cells (mcA n x false)) 0),(jI (kS a)),(jI (kS b))] (jI (kS (eE a b))):=by
 let y1:=(bx (jI (jW.mk (jP (mnL (a.1 / b.1) [(a.1 / b.2),(a.2 / b.1),(a.2 / b.2)])) (jP (mxL (a.1 / b.1) [(a.1 / b.2),(a.2 / b.1),(a.2 / b.2)])))))
 refine jG Tryz.func204 rfl cb204 rfl ?_
 show qK _ _ _ _ ⟨[(0,(.d (.cptr 1000000 (jT.cells (mcA n x false)) 0))),(1,(.d (jI (kS a)))),(2,(.d (jI (kS b))))],[]⟩
 refine jB<|kx [(4,(.ref 0 0)),(5,(.ref 1 0)),(6,(.ref 2 0))] [(0,some (bx (jI (kS a)))),(1,some (bx (jI (kS b)))),(2,some (bx (jI (jW.mk qM qM))))] (zN (vN 0)<|zN (vN 1)<|zN (uB 2 uC uH)<|zZ) ?_
 refine jB<|kx [(7,(.ref 3 0)),(8,(vi 0))] [(3,some y1)] (zR (kO kF)<|zR (kO kF)<|zE (jZ (i_divide a.1 a.2 b.1 b.2 (qu ha.1) (qu ha.2.1) (qu hb.1) (qu hb.2.1) ha.2.2 hb.2.2 hz))<|zM<|zE vT<|zE vT<|zN (uB 3 uC uH)<|zT (qD kF)<|zM<|zZ) ?_
 refine jB<|jB<|kx [(16,(vb false))] [] (zM<|zE cM<|zZ) ?_
 refine kY ?_
 refine jD<|jB<|kx [] [(2,some y1)] (zR (kO kF)<|zT (qD kF)<|zZ) ?_
 refine jE ⟨_,(kP (cs:=y1) (d:=(jI (jW.mk (jP (mnL (a.1 / b.1) [(a.1 / b.2),(a.2 / b.1),(a.2 / b.2)])) (jP (mxL (a.1 / b.1) [(a.1 / b.2),(a.2 / b.1),(a.2 / b.2)]))))) rfl rfl kF rfl rfl .nil),?_⟩
 rfl
theorem j_vD(n:Nat)(x:jT)(u:JV)(hu:nY 1048576 n u)(v:JV)(hv:nY 1048576 n v)(hz:gP v.v.1 v.v.2=false):jQ Tryz.prog 203 [(.cptr 1000000 (jT.cells (.cptr 1000000 (jT.cells (mcA n x false)) 0)) 0),(.cptr 1000000 (jT.cells (jJ (qF u))) 0),(.cptr 1000000 (jT.cells (jJ (qF v))) 0)] (jI (kS (eE u.v v.v))):=by
 refine jG Tryz.func203 rfl cb203 rfl ?_
 show qK _ _ _ _ ⟨[(0,(.d (.cptr 1000000 (jT.cells (.cptr 1000000 (jT.cells (mcA n x false)) 0)) 0))),(1,(.d (.cptr 1000000 (jT.cells (jJ (qF u))) 0))),(2,(.d (.cptr 1000000 (jT.cells (jJ (qF v))) 0)))],[]⟩
 refine jB<|kx [(3,(.ref 0 0))] [(0,some (bx (jI (jW.mk qM qM))))] (zN (uB 0 uC uH)<|zZ) ?_
 refine jB<|kx [] [(0,some (bx (jI (kS (eE u.v v.v)))))] (zE (yR eC)<|zE (oFc gX)<|zE (nA kF)<|zE (oFc gX)<|zE (nA kF)<|zE (jZ (j_div n (x) u.v (qX hu.1 (by decide)) v.v (qX hv.1 (by decide)) hz))<|zT (qD kF)<|zZ) ?_
 refine jE ⟨_,(kP (cs:=(bx (jI (kS (eE u.v v.v))))) (d:=(jI (kS (eE u.v v.v)))) rfl rfl kF rfl rfl .nil),?_⟩
 rfl
theorem j_gD(w:R2)(hw:GL 2097152 w)(y z:jT)(i:Nat)(n:Nat)(x:jT)(u:JV)(hu:nY 1048576 n u)(v:JV)(hv:nY 1048576 n v)(hz:gP v.v.1 v.v.2=false)(hi:i<n):jQ Tryz.prog 205 [(.cptr 1000000 (jT.cells (.agg (jT.cells (jI (kS w))++[(y),(z)]))) 0),(.val (.int .i64 (((i:Nat):Int)))),(.cptr 1000000 (jT.cells (.cptr 1000000 (jT.cells (mcA n x false)) 0)) 0),(.cptr 1000000 (jT.cells (jJ (qF u))) 0),(.cptr 1000000 (jT.cells (jJ (qF v))) 0)] (jI (kS (eE (uM (u.g.getD i z2) (xC w (v.g.getD i z2))) v.v))):=by
 have hul:=hu.2.2
 have hvl:=hv.2.2
 refine jG Tryz.func205 rfl cb205 rfl ?_
 show qK _ _ _ _ ⟨[(0,(.d (.cptr 1000000 (jT.cells (.agg (jT.cells (jI (kS w))++[(y),(z)]))) 0))),(1,(jV i)),(2,(.d (.cptr 1000000 (jT.cells (.cptr 1000000 (jT.cells (mcA n x false)) 0)) 0))),(3,(.d (.cptr 1000000 (jT.cells (jJ (qF u))) 0))),(4,(.d (.cptr 1000000 (jT.cells (jJ (qF v))) 0)))],[]⟩
 refine jB<|kx [(7,(.ref 0 0))] [(0,some (bx (jI (jW.mk qM qM))))] (zN (uB 0 uC uH)<|zZ) ?_
 refine jB<|kd [] [(0,some (bx (jI (kS (eE (uM (u.g.getD i z2) (xC w (v.g.getD i z2))) v.v)))))] mo (wE (yR eC)<|wE (oFc nW)<|wE (yR bQ)<|wM<|wE (oXm gN kS i z2)<|wE (nA kF)<|wM<|wE oNd<|wE (oFc gX)<|wE (nA kF)<|wE (oFc nW)<|wE (yR bQ)<|wM<|wE (oXm gN kS i z2)<|wE (nA kF)<|wE (jZ (j_mul w (qX hw (by decide)) (v.g.getD i z2) (qX (vW hv.2.1 (by decide) i) (by decide))))<|wE (jZ (j_sub (u.g.getD i z2) (qX (vW hu.2.1 (by decide) i) (by decide)) (xC w (v.g.getD i z2)) (qX (nB (k:=3145728) hw (vW hv.2.1 (by decide) i) (by decide)) (by decide))))<|wE (oFc gX)<|wE (nA kF)<|wE (jZ (j_div n (x) (uM (u.g.getD i z2) (xC w (v.g.getD i z2))) (qX (aH (k:=4194305) (vW hu.2.1 (by decide) i) (nB (k:=3145728) hw (vW hv.2.1 (by decide) i) (by decide)) (by decide)) (by decide)) v.v (qX hv.1 (by decide)) hz))<|wT (qD kF)<|wZ) ?_
 refine jE ⟨_,(kP (cs:=(bx (jI (kS (eE (uM (u.g.getD i z2) (xC w (v.g.getD i z2))) v.v))))) (d:=(jI (kS (eE (uM (u.g.getD i z2) (xC w (v.g.getD i z2))) v.v)))) rfl rfl kF rfl rfl .nil),?_⟩
 rfl
end Go.Proofs.YtnajallgoaiahaaGreatDoor
