/- Part 24 of a proof: rules, plain facts, and functions walked. -/
import Derived.Test.YtnajallgoaiahaaGreatDoorM19
import Derived.Test.YtnajallgoaiahaaGreatDoorM20
import Derived.Test.YtnajallgoaiahaaGreatDoorM23
set_option linter.all false
set_option maxRecDepth 4000
namespace Go.Proofs.YtnajallgoaiahaaGreatDoor
open Go.Fid
theorem cb72:callB Tryz.prog 72=true:=by kernel_rfl
theorem cb127:callB Tryz.prog 127=true:=by kernel_rfl
theorem cb128:callB Tryz.prog 128=true:=by kernel_rfl
theorem cb129:callB Tryz.prog 129=true:=by kernel_rfl
theorem cb207:callB Tryz.prog 207=true:=by kernel_rfl
theorem cb208:callB Tryz.prog 208=true:=by kernel_rfl
theorem cb209:callB Tryz.prog 209=true:=by kernel_rfl
theorem cb245:callB Tryz.prog 245=true:=by kernel_rfl
theorem zW:vM Tryz.prog 34=some (24,1):=by kernel_rfl
theorem mR:qW Tryz.prog 24=some (false,1):=by kernel_rfl
theorem sh34:qW Tryz.prog 34=some (false,1):=by kernel_rfl
theorem m_can1(x:jQ)(p:Rat)(hx:gW x p 1048576):jR Tryz.prog 209 [(jK x)] (.val (.bool ((!(kR x))))):=by
 refine jJ Tryz.func209 rfl cb209 rfl ?_
 show qG _ _ _ _ ⟨[(0,(.d (jK x)))],[]⟩
 refine jB<|kx [(1,(.ref 0 0))] [(0,some (bx (jK x)))] (zN (vA 0)<|zM<|zZ) ?_
 refine jB<|kx [(2,(vb (!(kR x))))] [] (zR (kK jS)<|zE (jY (cQ x p (jO hx (by decide))))<|zE mD<|zM<|zZ) ?_
 refine jE ⟨_,(.tmp (d:=(.val (.bool (!(kR x))))) rfl .nil),?_⟩
 rfl
theorem m_canAI(l:List jQ)(hl:vG 1048576 l)(hb:l.length≤140737488355328):jR Tryz.prog 245 [(.sl 45 4 (List.map jK l)),(.val (.func (.func 209) #[] #[]))] (.val (.int .i64 ((iC (fun x=>!(kR x)) l 0)))):=by
 refine jJ Tryz.func245 rfl cb245 rfl ?_
 show qG _ _ _ _ ⟨[(0,(vl 45 4 jK l)),(1,(.d (.val (.func (.func 209) #[] #[]))))],[]⟩
 refine jB<|kx [] [] (zM<|zZ) ?_
 refine jB<|jB<|kx [(7,(jP l.length)),(8,(jP 0))] [] (zM<|zE (uW uE)<|zM<|zZ) ?_
 refine jH<|kA (α:=Nat) (fun k=>⟨[(0,(vl 45 4 jK l)),(1,(.d (.val (.func (.func 209) #[] #[])))),(7,(jP l.length)),(8,(jP k))],[]⟩) (fun k=>k≤l.length∧iC (fun x=>!(kR x)) l 0=iC (fun x=>!(kR x)) (l.drop k) k) (fun k=>l.length-k) 0 wk ⟨Nat.zero_le _,by rw[List.drop_zero]⟩ ?_
 rintro k ⟨hk,hv⟩
 refine jB<|kx [(9,(vb (decide (((k:Nat):Int)<((l.length:Nat):Int)))))] [] (zE xK<|zZ) ?_
 refine jB<|jG rfl (fun h1=>?_) (fun h1=>?_)
 ·replace h1:=uP h1
  refine jD<|jB<|jH<|jB<|kx [(5,(jP k))] [] (zM<|zM<|zZ) ?_
  refine jB<|kx [(16,(vb (!(kR (l.getD k kZ)))))] [] (zM<|zM<|zM<|zE (xX uE k kZ)<|zE (gE jS)<|zE (jY (m_can1 (l.getD k kZ) (qP (l.getD k kZ)) (vE hl.1 (show k<l.length by omega))))<|zZ) ?_
  refine jG rfl (fun h2=>?_) (fun h2=>?_)
  ·have hix:=fst0_at (fun x=>!(kR x)) kZ l k (by omega) h2
   refine jB<|kx [(4,(jP k))] [] (zM<|zM<|zZ) ?_
   refine jE ⟨_,(.tmp (d:=(.val (.int .i64 (((k:Nat):Int))))) rfl .nil),?_⟩
   rw[hv,hix];rfl
  ·have hix:=fst0_step (fun x=>!(kR x)) kZ l k (by omega) h2
   refine jD<|kx [(8,(jP (k+1)))] [] (zE (vC (k+1))<|zM<|zZ) ?_
   exact ⟨(k+1),wk,⟨by omega,hv.trans hix⟩,(by omega)⟩
 ·replace h1:=uR h1
  have hix:=fst0_end (fun x=>!(kR x)) l k (by omega)
  refine kB<|jB<|kx [(4,(vi (-1)))] [] (zM<|zZ) ?_
  refine jE ⟨_,(.tmp (d:=(.val (.int .i64 (-1)))) rfl .nil),?_⟩
  rw[hv,hix];rfl
theorem m_canA(l:List jQ)(hl:vG 1048576 l)(hb:l.length≤140737488355328):jR Tryz.prog 208 [(.sl 45 4 (List.map jK l)),(.val (.func (.func 209) #[] #[]))] (.val (.bool ((l.any (fun x=>!(kR x)))))):=by
 refine jJ Tryz.func208 rfl cb208 rfl ?_
 show qG _ _ _ _ ⟨[(0,(vl 45 4 jK l)),(1,(.d (.val (.func (.func 209) #[] #[]))))],[]⟩
 refine jB<|kx [] [] (zM<|zZ) ?_
 refine jB<|kx [(4,(vb (decide (0≤(iC (fun x=>!(kR x)) l 0)))))] [] (zM<|zM<|zE (jY (m_canAI l hl hb))<|zE oGe<|zM<|zZ) ?_
 refine jE ⟨_,(.tmp (d:=(.val (.bool (decide (0≤(iC (fun x=>!(kR x)) l 0)))))) rfl .nil),?_⟩
 rw[fst0_any];rfl
theorem m_can(l:List jQ)(hl:vG 1048576 l)(hb:l.length≤140737488355328):jR Tryz.prog 129 [(.sl 45 4 (List.map jK l))] (.val (.bool ((gC l)))):=by
 refine jJ Tryz.func129 rfl cb129 rfl ?_
 show qG _ _ _ _ ⟨[(0,(vl 45 4 jK l))],[]⟩
 refine jB<|kx [] [] (zM<|zZ) ?_
 refine jB<|kx [(2,(vb (!(l.any (fun x=>!(kR x))))))] [] (zM<|zE (jY (m_canA l hl hb))<|zE mD<|zM<|zZ) ?_
 refine jE ⟨_,(.tmp (d:=(.val (.bool (!(l.any (fun x=>!(kR x))))))) rfl .nil),?_⟩
 rw[vRow_any];rfl
theorem m_chk1(l:List jQ)(hl:vG 1048576 l)(m:List (List jQ))(hm:vN 1048576 m)(h0:0<m.length)(hlb:l.length≤140737488355328):jR Tryz.prog 128 [(.sl 45 4 (List.map jK l)),(.cptr 1000000 (jX.cells (.sl 24 1 (List.map jI m))) 0)] (.val (.bool ((yN m l)))):=by
 have hmb:=hm.2
 have hrb:=(xA (d:=[]) hm h0).2
 refine jJ Tryz.func128 rfl cb128 rfl ?_
 show qG _ _ _ _ ⟨[(0,(vl 45 4 jK l)),(1,(.d (.cptr 1000000 (jX.cells (.sl 24 1 (List.map jI m))) 0)))],[]⟩
 refine jB<|kx [] [] (zM<|zZ) ?_
 refine jB<|kx [(3,(vb ((((l.length:Nat):Int) != (((m.getD 0 []).length:Nat):Int))||!(gC l))))] [] ?_ ?_
 ·refine zM<|zE (uW uE)<|zE (xZ sh34)<|zE (xX zW 0 ([]:List (jQ)))<|zE (xZ mR)<|zE (uW uE (L:=(m.getD 0 [])))<|zE nW<|zE (oV (vb (((l.length:Nat):Int) != (((m.getD 0 []).length:Nat):Int))) (qC (by kernel_rfl)))<|?_
  rcases hb1:(((l.length:Nat):Int) != (((m.getD 0 []).length:Nat):Int)) with _ | _
  ·replace hb1:=bne_eq_false_iff_eq.1 hb1
   exact zM<|zE (jY (m_can l hl hlb))<|zE mD<|zE eP<|zM<|zZ
  ·replace hb1:=bne_iff_ne.1 hb1
   exact zK<|zK<|zK<|zE gR<|zM<|zZ
 refine jE ⟨_,(.tmp (d:=(.val (.bool (((((l.length:Nat):Int) != (((m.getD 0 []).length:Nat):Int))||!(gC l)))))) rfl .nil),?_⟩
 rfl
theorem m_chkAI(l:List (List jQ))(hl:vN 1048576 l)(m:List (List jQ))(hm:vN 1048576 m)(hb:l.length≤140737488355328)(h0:0<m.length):jR Tryz.prog 207 [(.sl 24 1 (List.map jI l)),(.clo 128 [(.cptr 1000000 (jX.cells (.sl 24 1 (List.map jI m))) 0)])] (.val (.int .i64 ((iC (yN m) l 0)))):=by
 refine jJ Tryz.func207 rfl cb207 rfl ?_
 show qG _ _ _ _ ⟨[(0,(vl 24 1 jI l)),(1,(.d (.clo 128 [(.cptr 1000000 (jX.cells (.sl 24 1 (List.map jI m))) 0)])))],[]⟩
 refine jB<|kx [] [] (zM<|zZ) ?_
 refine jB<|jB<|kx [(7,(jP l.length)),(8,(jP 0))] [] (zM<|zE (uW zW)<|zM<|zZ) ?_
 refine jH<|kA (α:=Nat) (fun k=>⟨[(0,(vl 24 1 jI l)),(1,(.d (.clo 128 [(.cptr 1000000 (jX.cells (.sl 24 1 (List.map jI m))) 0)]))),(7,(jP l.length)),(8,(jP k))],[]⟩) (fun k=>k≤l.length∧iC (yN m) l 0=iC (yN m) (l.drop k) k) (fun k=>l.length-k) 0 wk ⟨Nat.zero_le _,by rw[List.drop_zero]⟩ ?_
 rintro k ⟨hk,hv⟩
 refine jB<|kx [(9,(vb (decide (((k:Nat):Int)<((l.length:Nat):Int)))))] [] (zE xK<|zZ) ?_
 refine jB<|jG rfl (fun h1=>?_) (fun h1=>?_)
 ·replace h1:=uP h1
  have hrl:=(xA (d:=[]) hl (show k<l.length by omega)).2
  refine jD<|jB<|jH<|jB<|kx [(5,(jP k))] [] (zM<|zM<|zZ) ?_
  refine jB<|kx [(16,(vb (yN m (l.getD k []))))] [] (zM<|zM<|zM<|zE (xX zW k ([]:List (jQ)))<|zE (xZ mR)<|zE (oCd (ds:=[(.sl 45 4 (List.map jK (l.getD k [])))]) (caps:=[(.cptr 1000000 (jX.cells (.sl 24 1 (List.map jI m))) 0)]) (m_chk1 (l.getD k []) (xA (d:=[]) hl (show k<l.length by omega)) m hm h0 (by first | assumption | omega)))<|zZ) ?_
  refine jG (b:=(yN m (l.getD k []))) rfl (fun h2=>?_) (fun h2=>?_)
  ·have hix:=fst0_at (yN m) [] l k (by omega) h2
   refine jB<|kx [(4,(jP k))] [] (zM<|zM<|zZ) ?_
   refine jE ⟨_,(.tmp (d:=(.val (.int .i64 (((k:Nat):Int))))) rfl .nil),?_⟩
   rw[hv,hix];rfl
  ·have hix:=fst0_step (yN m) [] l k (by omega) h2
   refine jD<|kx [(8,(jP (k+1)))] [] (zE (vC (k+1))<|zM<|zZ) ?_
   exact ⟨(k+1),wk,⟨by omega,hv.trans hix⟩,(by omega)⟩
 ·replace h1:=uR h1
  have hix:=fst0_end (yN m) l k (by omega)
  refine kB<|jB<|kx [(4,(vi (-1)))] [] (zM<|zZ) ?_
  refine jE ⟨_,(.tmp (d:=(.val (.int .i64 (-1)))) rfl .nil),?_⟩
  rw[hv,hix];rfl
theorem m_chkA(l:List (List jQ))(hl:vN 1048576 l)(m:List (List jQ))(hm:vN 1048576 m)(hb:l.length≤140737488355328)(h0:0<m.length):jR Tryz.prog 127 [(.sl 24 1 (List.map jI l)),(.clo 128 [(.cptr 1000000 (jX.cells (.sl 24 1 (List.map jI m))) 0)])] (.val (.bool ((l.any (yN m))))):=by
 refine jJ Tryz.func127 rfl cb127 rfl ?_
 show qG _ _ _ _ ⟨[(0,(vl 24 1 jI l)),(1,(.d (.clo 128 [(.cptr 1000000 (jX.cells (.sl 24 1 (List.map jI m))) 0)])))],[]⟩
 refine jB<|kx [] [] (zM<|zZ) ?_
 refine jB<|kx [(4,(vb (decide (0≤(iC (yN m) l 0)))))] [] (zM<|zM<|zE (jY (m_chkAI l hl m hm hb h0))<|zE oGe<|zM<|zZ) ?_
 refine jE ⟨_,(.tmp (d:=(.val (.bool (decide (0≤(iC (yN m) l 0)))))) rfl .nil),?_⟩
 rw[fst0_any];rfl
theorem m_chk(m:List (List jQ))(hm:vN 1048576 m):jR Tryz.prog 72 [(.sl 24 1 (List.map jI m))] (.val (.int .i64 ((((gS m):Nat):Int)))):=by
 have hmb:=hm.2
 refine jJ Tryz.func72 rfl cb72 rfl ?_
 show qG _ _ _ _ ⟨[(0,(vl 24 1 jI m))],[]⟩
 refine jB<|kx [(1,(.ref 0 0))] [(0,some (bx (.sl 24 1 (List.map jI m))))] (zN (vA 0)<|zM<|zZ) ?_
 refine jB<|jB<|kx [(24,(vb (((decide (((m.length:Nat):Int)<1)||decide (64<((m.length:Nat):Int)))||decide ((((m.getD 0 []).length:Nat):Int)<1))||decide (64<(((m.getD 0 []).length:Nat):Int)))))] [] ?_ ?_
 ·refine zR (uM sh34)<|zE (uW zW)<|zE xK<|zE (oV (vb (decide (((m.length:Nat):Int)<1))) (qC (by kernel_rfl)))<|?_
  rcases hb1:(decide (((m.length:Nat):Int)<1)) with _ | _
  ·replace hb1:=uR hb1
   refine zR (uM sh34)<|zE (uW zW)<|zE mL<|zE eP<|zE (oV (vb (false||decide (64<((m.length:Nat):Int)))) (qC (by kernel_rfl)))<|?_
   rcases hb2:(false||decide (64<((m.length:Nat):Int))) with _ | _
   ·replace hb2:=uR (p:=(64<((m.length:Nat):Int))) hb2
    refine zR (uM sh34)<|zE (xX zW 0 ([]:List (jQ)))<|zE (xZ mR)<|zE (uW uE (L:=(m.getD 0 [])))<|zE xK<|zE eP<|zE (oV (vb (false||decide ((((m.getD 0 []).length:Nat):Int)<1))) (qC (by kernel_rfl)))<|?_
    rcases hb3:(false||decide ((((m.getD 0 []).length:Nat):Int)<1)) with _ | _
    ·replace hb3:=uR (p:=((((m.getD 0 []).length:Nat):Int)<1)) hb3
     exact zR (uM sh34)<|zE (xX zW 0 ([]:List (jQ)))<|zE (xZ mR)<|zE (uW uE (L:=(m.getD 0 [])))<|zE mL<|zE eP<|zZ
    ·replace hb3:=uP (p:=((((m.getD 0 []).length:Nat):Int)<1)) hb3
     exact zK<|zK<|zK<|zK<|zK<|zE gR<|zZ
   ·replace hb2:=uP (p:=(64<((m.length:Nat):Int))) hb2
    exact zK<|zK<|zK<|zK<|zK<|zE gR<|zM<|zK<|zK<|zK<|zK<|zK<|zE gR<|zZ
  ·replace hb1:=uP hb1
   exact zK<|zK<|zK<|zE gR<|zM<|zK<|zK<|zK<|zK<|zK<|zE gR<|zM<|zK<|zK<|zK<|zK<|zK<|zE gR<|zZ
 refine jG rfl (fun h4=>?_) (fun h4=>?_)
 ·refine jB<|kx [(2,(jP 1))] [] (zM<|zZ) ?_
  refine jE ⟨_,(.tmp (d:=(.val (.int .i64 (1)))) rfl .nil),?_⟩
  rw[mchk_1 h4];rfl
 ·have h0:=shp_0 h4
  refine jD<|jB<|jB<|kx [(27,(vb (m.any (yN m))))] [] (zR (uM sh34)<|zE (oMf [0])<|zC (oCg [(0,(jX.cells (.sl 24 1 (List.map jI m))))] [(vl 24 1 jI m),(.clo 128 [0])] (m_chkA m hm m hm (by assumption) (by omega)) (.d (.c (css:=[(jX.cells (.sl 24 1 (List.map jI m)))]) (.cons (.head _) .nil) .nil)) (.val _))<|zZ) ?_
  refine jG (b:=(m.any (yN m))) rfl (fun h5=>?_) (fun h5=>?_)
  ·refine jB<|kx [(2,(jP 1))] [] (zM<|zZ) ?_
   refine jE ⟨_,(.tmp (d:=(.val (.int .i64 (1)))) rfl .nil),?_⟩
   rw[mchk_2 h5];rfl
  ·refine jD<|jB<|kx [(2,(jP 0))] [] (zM<|zZ) ?_
   refine jE ⟨_,(.tmp (d:=(.val (.int .i64 (0)))) rfl .nil),?_⟩
   rw[mchk_3 h4 h5];rfl
theorem cb132:callB Tryz.prog 132=true:=by kernel_rfl
theorem cb213:callB Tryz.prog 213=true:=by kernel_rfl
theorem cb246:callB Tryz.prog 246=true:=by kernel_rfl
theorem m_dot(l:List jQ)(hl:vG 1048576 l)(m:List jQ)(hm:vG 1048576 m)(hlm:l.length=m.length)(hl4:l.length≤64):jR Tryz.prog 246 [(.sl 45 4 (List.map jK l)),(.sl 45 4 (List.map jK m))] (jK (jN (dotR l m))):=by
 have hlb:=hl.2
 have hmb:=hm.2
 let y1:=kZ
 refine jJ Tryz.func246 rfl cb246 rfl ?_
 show qG _ _ _ _ ⟨[(0,(vl 45 4 jK l)),(1,(vl 45 4 jK m))],[]⟩
 refine jB<|kx [(4,(.ref 0 0))] [(0,some (bx (jK y1)))] (zN (qV 0 qU qY)<|zZ) ?_
 refine jB<|kx [(5,(.ref 1 0))] [(1,some (bx (jK (jN ((0:Int):Rat)))))] (zE (jY (f_whole 0 (by decide) (by decide)))<|zN (qV 1 qU qY)<|zT (qA jS)<|zZ) ?_
 refine jB<|jB<|kx [(9,(vl 45 4 jK l)),(10,(jP l.length)),(11,(jP 0))] [] (zM<|zE (uW uE)<|zM<|zZ) ?_
 refine jH<|kA (α:=Nat × Rat) (fun (i,s)=>⟨[(1,(vl 45 4 jK m)),(4,(.ref 0 0)),(5,(.ref 1 0)),(9,(vl 45 4 jK l)),(10,(jP l.length)),(11,(jP i))],[(0,some (bx (jK y1))),(1,some (bx (jK (jN s))))]⟩) (fun (i,s)=>i≤l.length∧s=dotT l m i) (fun (i,s)=>l.length-i) (0,0) wk ⟨Nat.zero_le _,rfl⟩ ?_
 rintro ⟨i,s⟩ ⟨hi,hs⟩
 have hql:QL s 134217800:=hs▸dot_ql1 hl hm (by omega)
 refine jB<|kx [(12,(vb (decide (((i:Nat):Int)<((l.length:Nat):Int)))))] [] (zE xK<|zZ) ?_
 refine jB<|jG rfl (fun h1=>?_) (fun h1=>?_)
 ·replace h1:=uP h1
  refine jD<|jB<|jH<|jB<|kx [(6,(jP i)),(7,(.ref 2 0))] [(2,some (bx (jK (l.getD i y1))))] (zM<|zE (xX uE i y1)<|zE (gE jS)<|zN (qV 2 qU qY)<|zM<|zT (qA jS)<|zZ) ?_
  refine jB<|kx [(26,(vb (((nX (qP (l.getD i y1))) != 0)&&((nX (qP (m.getD i y1))) != 0))))] [] ?_ ?_
  ·refine zR (kK jS)<|zE (jY (f_sign (l.getD i y1) (qP (l.getD i y1)) (jO (vE hl.1 (show i<l.length by omega)) (by decide))))<|zE nW<|zE (oV (vb ((nX (qP (l.getD i y1))) != 0)) (qC (by kernel_rfl)))<|?_
   rcases hb2:((nX (qP (l.getD i kZ))) != 0) with _ | _
   ·replace hb2:=bne_eq_false_iff_eq.1 hb2
    exact zK<|zK<|zK<|zK<|zK<|zK<|zE yP<|zZ
   ·replace hb2:=bne_iff_ne.1 hb2
    exact zM<|zM<|zE (xX uE i y1)<|zE (gE jS)<|zE (jY (f_sign (m.getD i y1) (qP (m.getD i y1)) (jO (vE hm.1 (show i<m.length by omega)) (by decide))))<|zE nW<|zE fA<|zZ
  refine jG rfl (fun h3=>?_) (fun h3=>?_)
  ·refine kd [] [(1,some (bx (jK (jN (s+((qP (l.getD i y1))*(qP (m.getD i y1))))))))] mo (wR (kK jS)<|wR (kK jS)<|wM<|wM<|wE (xX uE i y1)<|wE (gE jS)<|wE (jY (fD (l.getD i y1) (m.getD i y1) (qP (l.getD i y1)) (qP (m.getD i y1)) (jO (vE hl.1 (show i<l.length by omega)) (by decide)) (jO (vE hm.1 (show i<m.length by omega)) (by decide))))<|wE (jY (f_add (jN s) (jN ((qP (l.getD i y1))*(qP (m.getD i y1)))) s ((qP (l.getD i y1))*(qP (m.getD i y1))) (jO (jZ hql) (by decide)) (jO (jZ (qM (k:=2097152) (vE hl.1 (show i<l.length by omega)).ql (vE hm.1 (show i<m.length by omega)).ql (by decide))) (by decide))))<|wT (qA jS)<|wZ) ?_
   refine kx [(11,(jP (i+1)))] [] (zE (vC (i+1))<|zM<|zZ) ?_
   exact ⟨(i+1,s+(qP (l.getD i kZ))*(qP (m.getD i kZ))),wk,⟨by omega,by rw[hs];rfl⟩,(by first|omega|(dsimp only;omega))⟩
  ·refine jD<|kx [(11,(jP (i+1)))] [] (zE (vC (i+1))<|zM<|zZ) ?_
   exact ⟨(i+1,s),wk,⟨by omega,hs.trans (dotT_skip (dot_sk h3))⟩,(by first|omega|(dsimp only;omega))⟩
 ·replace h1:=uR h1
  refine kB<|jB<|kx [] [(0,some (bx (jK (jN s))))] (zR (kK jS)<|zT (qA jS)<|zZ) ?_
  refine jE ⟨_,(kH (cs:=(bx (jK (jN s)))) (d:=(jK (jN s))) rfl rfl jS rfl rfl .nil),?_⟩
  obtain rfl:i=l.length:=by omega
  rw[hs];rfl
theorem m_Dot(l:List jQ)(hl:vG 1048576 l)(m:List jQ)(hm:vG 134217800 m)(hlm:l.length=m.length)(hl4:l.length≤64):jR Tryz.prog 132 [(.sl 45 4 (List.map jK l)),(.sl 45 4 (List.map jK m))] (.tup [(jK (jN (dotR l m))),(.val (.int .i64 (((0:Nat):Int))))]):=by
 have hlb:=hl.2
 have hmb:=hm.2
 let y1:=kZ
 refine jJ Tryz.func132 rfl cb132 rfl ?_
 show qG _ _ _ _ ⟨[(0,(vl 45 4 jK l)),(1,(vl 45 4 jK m))],[]⟩
 refine jB<|kx [(4,(.ref 0 0))] [(0,some (bx (jK y1)))] (zN (qV 0 qU qY)<|zM<|zZ) ?_
 refine jB<|jB<|kx [(13,(vb false))] [] (zM<|zE (uW uE)<|zM<|zE (uW uE)<|zE (vW false nW (by exact bne_eq_false_iff_eq.2 (congrArg (fun z:Nat=>(z:Int)) hlm)))<|zZ) ?_
 refine kU ?_
 refine jD<|jB<|kx [(6,(.ref 1 0))] [(1,some (bx (jK (jN ((0:Int):Rat)))))] (zE (jY (f_whole 0 (by decide) (by decide)))<|zN (qV 1 qU qY)<|zT (qA jS)<|zZ) ?_
 refine jB<|jB<|kx [(16,(vl 45 4 jK l)),(17,(jP l.length)),(18,(jP 0))] [] (zM<|zE (uW uE)<|zM<|zZ) ?_
 refine jH<|kA (α:=Nat × Rat) (fun (i,s)=>⟨[(1,(vl 45 4 jK m)),(4,(.ref 0 0)),(6,(.ref 1 0)),(16,(vl 45 4 jK l)),(17,(jP l.length)),(18,(jP i))],[(0,some (bx (jK y1))),(1,some (bx (jK (jN s))))]⟩) (fun (i,s)=>i≤l.length∧s=dotT l m i) (fun (i,s)=>l.length-i) (0,0) wk ⟨Nat.zero_le _,rfl⟩ ?_
 rintro ⟨i,s⟩ ⟨hi,hs⟩
 have hql:QL s 8800000000:=hs▸dot_ql2 hl hm (by omega)
 refine jB<|kx [(19,(vb (decide (((i:Nat):Int)<((l.length:Nat):Int)))))] [] (zE xK<|zZ) ?_
 refine jB<|jG rfl (fun h1=>?_) (fun h1=>?_)
 ·replace h1:=uP h1
  refine jD<|jB<|jH<|jB<|kx [(7,(jP i)),(8,(.ref 2 0))] [(2,some (bx (jK (l.getD i y1))))] (zM<|zE (xX uE i y1)<|zE (gE jS)<|zN (qV 2 qU qY)<|zM<|zT (qA jS)<|zZ) ?_
  refine kd [] [(1,some (bx (jK (jN (s+((qP (l.getD i y1))*(qP (m.getD i y1))))))))] mo (wR (kK jS)<|wR (kK jS)<|wM<|wM<|wE (xX uE i y1)<|wE (gE jS)<|wE (jY (fD (l.getD i y1) (m.getD i y1) (qP (l.getD i y1)) (qP (m.getD i y1)) (jO (vE hl.1 (show i<l.length by omega)) (by decide)) (jO (vE hm.1 (show i<m.length by omega)) (by decide))))<|wE (jY (f_add (jN s) (jN ((qP (l.getD i y1))*(qP (m.getD i y1)))) s ((qP (l.getD i y1))*(qP (m.getD i y1))) (jO (jZ hql) (by decide)) (jO (jZ (qM (k:=135266376) (vE hl.1 (show i<l.length by omega)).ql (vE hm.1 (show i<m.length by omega)).ql (by decide))) (by decide))))<|wT (qA jS)<|wZ) ?_
  refine kx [(18,(jP (i+1)))] [] (zE (vC (i+1))<|zM<|zZ) ?_
  exact ⟨(i+1,s+(qP (l.getD i kZ))*(qP (m.getD i kZ))),wk,⟨by omega,by rw[hs];rfl⟩,(by first|omega|(dsimp only;omega))⟩
 ·replace h1:=uR h1
  refine kB<|jB<|kx [(5,(jP 0))] [(0,some (bx (jK (jN s))))] (zR (kK jS)<|zT (qA jS)<|zM<|zZ) ?_
  refine jE ⟨_,(kH (cs:=(bx (jK (jN s)))) (d:=(jK (jN s))) rfl rfl jS rfl rfl (.tmp (d:=(.val (.int .i64 (0)))) rfl .nil)),?_⟩
  obtain rfl:i=l.length:=by omega
  rw[hs];rfl
theorem m_app(m:List (List jQ))(hm:vN 1048576 m)(v:List jQ)(hv:vG 1048576 v)(hc:∀ r∈m,r.length=v.length)(hv4:v.length≤64)(hm6:m.length≤64):jR Tryz.prog 213 [(.sl 24 1 (List.map jI m)),(.sl 45 4 (List.map jK v))] (.sl 45 4 (List.map jK (appR m v))):=by
 have hmb:=hm.2
 have hvb:=hv.2
 refine jJ Tryz.func213 rfl cb213 rfl ?_
 show qG _ _ _ _ ⟨[(0,(vl 24 1 jI m)),(1,(vl 45 4 jK v))],[]⟩
 refine jB<|kx [] [] (zE (dD 45 4)<|zZ) ?_
 refine jB<|kx [(5,(.own 0 45 4 0))] [(0,some (yG jK []))] (zO 0 45 4<|zZ) ?_
 refine jB<|jB<|kx [(8,(vl 24 1 jI m)),(9,(jP m.length)),(10,(jP 0))] [] (zM<|zE (uW zW)<|zM<|zZ) ?_
 refine jH<|kA (α:=Nat × List jQ) (fun (i,o)=>⟨[(1,(vl 45 4 jK v)),(5,(.own 0 45 4 o.length)),(8,(vl 24 1 jI m)),(9,(jP m.length)),(10,(jP i))],[(0,some (yG jK o))]⟩) (fun (i,o)=>i≤m.length∧o=(m.take i).map (fun r=>jN (dotR r v))) (fun (i,o)=>m.length-i) (0,[]) wk ⟨Nat.zero_le _,by simp⟩ ?_
 rintro ⟨i,o⟩ ⟨hi,ho⟩
 have hol:o.length=i:=by rw[ho,List.length_map,List.length_take];omega
 refine jB<|kx [(11,(vb (decide (((i:Nat):Int)<((m.length:Nat):Int)))))] [] (zE xK<|zZ) ?_
 refine jB<|jG rfl (fun h1=>?_) (fun h1=>?_)
 ·replace h1:=uP h1
  have hcl:=mcol_at hc (show i<m.length by omega)
  refine jD<|jB<|jH<|jB<|kx [(7,(vl 45 4 jK (m.getD i [])))] [] (zE (xX zW i ([]:List (jQ)))<|zE (xZ mR)<|zM<|zZ) ?_
  refine kf [(5,(.own 0 45 4 ((o++[(jN (dotR (m.getD i []) v))]).length)))] [(0,some (yG jK (o++[(jN (dotR (m.getD i []) v))])))] (zM<|zM<|zM<|zE (jY (m_dot (m.getD i []) (xA (d:=[]) hm (show i<m.length by omega)) v hv (by omega) (by omega)))<|zE (cN uE qU qY)<|zAS jK o [(jN (dotR (m.getD i []) v))] rfl uE qU by45<|zM<|zF) ?_
  refine kx [(10,(jP (i+1)))] [] (zE (vC (i+1))<|zM<|zZ) ?_
  exact ⟨(i+1,o++[jN (dotR (m.getD i []) v)]),wk,⟨by omega,by rw[ho];exact appR_step (by omega)⟩,(by first|omega|(dsimp only;omega))⟩
 ·replace h1:=uR h1
  refine kB<|jB<|kx [(4,(.own 0 45 4 o.length))] [] (zM<|zM<|zZ) ?_
  refine kS (vD (t:=4) (k:=0) (es:=List.map jK o) rfl rfl (zL _ _ (fun _=>rfl)) (uJ _ _ rfl) (yS jK o (fun _=>rfl) rfl)) ?_
  refine jE ⟨_,(.tmp (d:=(.sl 45 4 (List.map jK o))) rfl .nil),?_⟩
  rw[ho,show i=m.length by omega,List.take_length];rfl
theorem cb75:callB Tryz.prog 75=true:=by kernel_rfl
theorem cb131:callB Tryz.prog 131=true:=by kernel_rfl
theorem cb211:callB Tryz.prog 211=true:=by kernel_rfl
theorem cb212:callB Tryz.prog 212=true:=by kernel_rfl
theorem m_apl1(m:List (List jQ))(hm:vN 1048576 m)(h0:0<m.length):jR Tryz.prog 212 [(.cptr 1000000 (jX.cells (.sl 24 1 (List.map jI m))) 0)] (.val (.int .i64 (((((m).getD 0 []).length:Nat):Int)))):=by
 have hmb:=hm.2
 have hrb:=(xA (d:=[]) hm h0).2
 refine jJ Tryz.func212 rfl cb212 rfl ?_
 show qG _ _ _ _ ⟨[(0,(.d (.cptr 1000000 (jX.cells (.sl 24 1 (List.map jI m))) 0)))],[]⟩
 refine jB<|kx [] [] (zM<|zZ) ?_
 refine jB<|kx [(1,(jP ((m.getD 0 []).length)))] [] (zE (xZ sh34)<|zE (xX zW 0 ([]:List (jQ)))<|zE (xZ mR)<|zE (uW uE (L:=(m.getD 0 [])))<|zM<|zZ) ?_
 refine jE ⟨_,(.tmp (d:=(.val (.int .i64 ((((m.getD 0 []).length:Nat):Int))))) rfl .nil),?_⟩
 rfl
theorem m_list(m:List (List jQ))(hm:vN 1048576 m)(v:List jQ)(hv:vG 1048576 v)(q:List (List jQ))(hq:vN 1048576 q)(hr:gJ m m.length v.length)(hvv:gC v=true)(hq0:(q.getD 0 []).length=v.length)(hqm:0<q.length):jR Tryz.prog 211 [(.sl 24 1 (List.map jI m)),(.sl 45 4 (List.map jK v)),(.clo 212 [(.cptr 1000000 (jX.cells (.sl 24 1 (List.map jI q))) 0)])] (.val (.int .i64 (((0:Nat):Int)))):=by
 have hvb:=hv.2
 have hc0:=rect_chk hr
 have hmb:=hr.r64
 refine jJ Tryz.func211 rfl cb211 rfl ?_
 show qG _ _ _ _ ⟨[(0,(vl 24 1 jI m)),(1,(vl 45 4 jK v)),(2,(.d (.clo 212 [(.cptr 1000000 (jX.cells (.sl 24 1 (List.map jI q))) 0)])))],[]⟩
 refine jB<|kx [] [] (zM<|zZ) ?_
 refine jB<|jB<|kx [(7,(jP (gS m)))] [] (zM<|zE (jY (m_chk m hm))<|zM<|zZ) ?_
 refine jB<|kx [(11,(vb false))] [] (zM<|zE (vW false nW (by exact bne_eq_false_iff_eq.2 (by rw[show (gS m)=0 from hc0]<;>rfl)))<|zZ) ?_
 refine kU ?_
 refine jD<|jB<|jB<|kx [(15,(vb false))] [] (zM<|zE (vW true (jY (m_can v hv (by assumption))) (by exact hvv))<|zE mD<|zZ) ?_
 refine kU ?_
 refine jD<|jB<|jB<|kx [(20,(vb false))] [] (zM<|zE (uW uE)<|zM<|zE (oCd (ds:=[]) (caps:=[(.cptr 1000000 (jX.cells (.sl 24 1 (List.map jI q))) 0)]) (m_apl1 q hq hqm))<|zE (vW false nW (by exact bne_eq_false_iff_eq.2 (congrArg (fun z:Nat=>(z:Int)) hq0.symm)))<|zZ) ?_
 refine kU ?_
 refine jD<|jB<|kx [(6,(jP 0))] [] (zM<|zZ) ?_
 refine jE ⟨_,(.tmp (d:=(.val (.int .i64 (((0:Nat):Int))))) rfl .nil),?_⟩
 rfl
theorem m_aply(m:List (List jQ))(hm:vN 1048576 m)(v:List jQ)(hv:vG 1048576 v)(hr:gJ m m.length v.length)(hvv:gC v=true):jR Tryz.prog 131 [(.sl 24 1 (List.map jI m)),(.sl 45 4 (List.map jK v))] (.tup [(.sl 45 4 (List.map jK (appR m v))),(.val (.int .i64 (((0:Nat):Int))))]):=by
 have hvb:=hv.2
 have hmb:=hr.r64
 have hm1:=hr.r1
 have hv64:=hr.c64
 have hq0:=(hr.at (i:=0) hm1).1
 refine jJ Tryz.func131 rfl cb131 rfl ?_
 show qG _ _ _ _ ⟨[(0,(vl 24 1 jI m)),(1,(vl 45 4 jK v))],[]⟩
 refine jB<|kx [(2,(.ref 0 0))] [(0,some (bx (.sl 24 1 (List.map jI m))))] (zN (vA 0)<|zE (dD 45 4)<|zM<|zZ) ?_
 refine jB<|jB<|kx [(6,(jP 0))] [] (zR (uM sh34)<|zM<|zE (oMf [0])<|zC (oCg [(0,(jX.cells (.sl 24 1 (List.map jI m))))] [(vl 24 1 jI m),(vl 45 4 jK v),(.clo 212 [0])] (m_list m hm v hv m hm hr hvv (by assumption) (by omega)) (.d (.d (.c (css:=[(jX.cells (.sl 24 1 (List.map jI m)))]) (.cons (.head _) .nil) .nil))) (.val _))<|zM<|zZ) ?_
 refine jB<|kx [(12,(vb false))] [] (zM<|zE (vW false nW)<|zZ) ?_
 refine kU ?_
 refine jD<|jB<|kx [(4,(vl 45 4 jK (appR m v))),(5,(jP 0))] [] (zR (uM sh34)<|zM<|zE (jY (m_app m hm v hv (fun r h=>(hr.hc r h).1) (by omega) (by omega)))<|zM<|zM<|zZ) ?_
 refine jE ⟨_,(.tmp (d:=(.sl 45 4 (List.map jK (appR m v)))) rfl (.tmp (d:=(.val (.int .i64 (((0:Nat):Int))))) rfl .nil)),?_⟩
 rfl
theorem m_cov(m:List (List jQ))(hm:vN 1048576 m)(a:List jQ)(ha:vG 1048576 a)(v:List jQ)(hv:vG 1048576 v)(hr:gJ m m.length v.length)(hvv:gC v=true)(hal:a.length=m.length)(hvl:v.length=m.length):jR Tryz.prog 75 [(.sl 24 1 (List.map jI m)),(.sl 45 4 (List.map jK a)),(.sl 45 4 (List.map jK v))] (jK (jN (dW m a v))):=by
 have hab:=ha.2
 have hvb:=hv.2
 have hmb:=hr.r64
 have hm1:=hr.r1
 have hv64:=hr.c64
 have hpl:=appR_len m v
 refine jJ Tryz.func75 rfl cb75 rfl ?_
 show qG _ _ _ _ ⟨[(0,(vl 24 1 jI m)),(1,(vl 45 4 jK a)),(2,(vl 45 4 jK v))],[]⟩
 refine jB<|kx [(6,(.ref 0 0))] [(0,some (bx (jK kZ)))] (zN (qV 0 qU qY)<|zZ) ?_
 refine jB<|kx [(7,(vl 45 4 jK (appR m v)))] [] (zM<|zM<|zE (jY (m_aply m hm v hv hr hvv))<|zM<|zE uT<|zE uT<|zM<|zM<|zZ) ?_
 refine jB<|kx [(9,(.ref 1 0))] [(1,some (bx (jK (jN (dotR a (appR m v))))))] (zM<|zM<|zE (jY (m_Dot a ha (appR m v) (appR_ok hm hv (mcol_le (fun r h=>(hr.hc r h).1) hr.c64)) (hal.trans hpl.symm) (by omega)))<|zM<|zE uT<|zE uT<|zN (qV 1 qU qY)<|zT (qA jS)<|zM<|zZ) ?_
 refine jB<|kx [] [(0,some (bx (jK (jN (dotR a (appR m v))))))] (zR (kK jS)<|zT (qA jS)<|zZ) ?_
 refine jE ⟨_,(kH (cs:=(bx (jK (jN (dotR a (appR m v)))))) (d:=(jK (jN (dotR a (appR m v))))) rfl rfl jS rfl rfl .nil),?_⟩
 rfl
theorem cb185:callB Tryz.prog 185=true:=by kernel_rfl
theorem cb186:callB Tryz.prog 186=true:=by kernel_rfl
theorem cb188:callB Tryz.prog 188=true:=by kernel_rfl
theorem cb189:callB Tryz.prog 189=true:=by kernel_rfl
theorem cb190:callB Tryz.prog 190=true:=by kernel_rfl
theorem cb191:callB Tryz.prog 191=true:=by kernel_rfl
theorem cb194:callB Tryz.prog 194=true:=by kernel_rfl
theorem cb195:callB Tryz.prog 195=true:=by kernel_rfl
theorem cb197:callB Tryz.prog 197=true:=by kernel_rfl
theorem cb199:callB Tryz.prog 199=true:=by kernel_rfl
theorem cb201:callB Tryz.prog 201=true:=by kernel_rfl
theorem cb203:callB Tryz.prog 203=true:=by kernel_rfl
theorem cb204:callB Tryz.prog 204=true:=by kernel_rfl
theorem cb205:callB Tryz.prog 205=true:=by kernel_rfl
theorem cb243:callB Tryz.prog 243=true:=by kernel_rfl
theorem gK:zG Tryz.prog 83 1=some 1:=by kernel_rfl
theorem dM:zG Tryz.prog 83 3=some 3:=by kernel_rfl
theorem zJ:zG Tryz.prog 95 0=some 0:=by kernel_rfl
theorem xV:zG Tryz.prog 95 1=some 8:=by kernel_rfl
theorem fo161_2:zG Tryz.prog 161 2=some 2:=by kernel_rfl
theorem sh70:qW Tryz.prog 70=some (false,1):=by kernel_rfl
theorem cJ:qW Tryz.prog 86=some (false,1):=by kernel_rfl
theorem eT:qW Tryz.prog 159=some (false,1):=by kernel_rfl
theorem j_round(n:Nat)(x:jX)(a:R2)(ha:GL 67108864 a):jR Tryz.prog 243 [(.cptr 1000000 (jX.cells (mcA n x false)) 0),(jF (kC a))] (jF (kC a)):=by
 refine jJ Tryz.func243 rfl cb243 rfl ?_
 show qG _ _ _ _ ⟨[(0,(.d (.cptr 1000000 (jX.cells (mcA n x false)) 0))),(1,(.d (jF (kC a))))],[]⟩
 refine jB<|kx [(3,(.ref 0 0)),(4,(.ref 1 0))] [(0,some (bx (jF (kC a)))),(1,some (bx (jF (jV.mk kZ kZ))))] (zN (vA 0)<|zN (qV 1 qO qS)<|zZ) ?_
 refine jB<|jB<|kx [(9,(vb true))] [] (zM<|zE oNd<|zE (oFc fo161_2)<|zE (xZ cH)<|zE (vW true xK)<|zZ) ?_
 refine uY ?_
 refine jB<|kx [] [(1,some (bx (jF (kC a))))] (zR (kK jW)<|zT (qA jW)<|zZ) ?_
 refine jE ⟨_,(kH (cs:=(bx (jF (kC a)))) (d:=(jF (kC a))) rfl rfl jW rfl rfl .nil),?_⟩
 rfl
theorem j_negop(a:R2)(ha:GL 67108864 a)(b:R2)(hb:GL 67108864 b)(zz:R2)(hzz:GL 3 zz):jR Tryz.prog 194 [(jF (kC a)),(jF (kC b)),(.cptr 1000000 (jX.cells (jF (kC zz))) 0)] (jF (kC (uO zz a))):=by
 refine jJ Tryz.func194 rfl cb194 rfl ?_
 show qG _ _ _ _ ⟨[(0,(.d (jF (kC a)))),(1,(.d (jF (kC b)))),(2,(.d (.cptr 1000000 (jX.cells (jF (kC zz))) 0)))],[]⟩
 refine jB<|kx [(3,(.ref 0 0)),(5,(.ref 2 0))] [(0,some (bx (jF (kC a)))),(2,some (bx (jF (jV.mk kZ kZ)))),(1,none)] (zN (vA 0)<|zN (vA 1)<|zN (qV 2 qO qS)<|zZ) ?_
 refine jB<|kx [] [(2,some (bx (jF (kC (uO zz a)))))] (zE (gE jW)<|zR (kK jW)<|zE (jY (j_sub zz (qD hzz (by decide)) a ha))<|zT (qA jW)<|zZ) ?_
 refine jE ⟨_,(kH (cs:=(bx (jF (kC (uO zz a))))) (d:=(jF (kC (uO zz a)))) rfl rfl jW rfl rfl .nil),?_⟩
 rfl
theorem j_vAdd(n:Nat)(u:JV)(hu:nQ 1048576 n u)(v:JV)(hv:nQ 1048576 n v):jR Tryz.prog 185 [(.cptr 1000000 (jX.cells (.val (.func (.func 192) #[] #[]))) 0),(.cptr 1000000 (jX.cells (jL (qJ u))) 0),(.cptr 1000000 (jX.cells (jL (qJ v))) 0)] (jF (kC (xO u.v v.v))):=by
 refine jJ Tryz.func185 rfl cb185 rfl ?_
 show qG _ _ _ _ ⟨[(0,(.d (.cptr 1000000 (jX.cells (.val (.func (.func 192) #[] #[]))) 0))),(1,(.d (.cptr 1000000 (jX.cells (jL (qJ u))) 0))),(2,(.d (.cptr 1000000 (jX.cells (jL (qJ v))) 0)))],[]⟩
 refine jB<|kx [(3,(.ref 0 0))] [(0,some (bx (jF (jV.mk kZ kZ))))] (zN (qV 0 qO qS)<|zZ) ?_
 refine jB<|kx [] [(0,some (bx (jF (kC (xO u.v v.v)))))] (zE (xZ sh70)<|zE (oFc zJ)<|zE (gE jW)<|zE (oFc zJ)<|zE (gE jW)<|zE (jY (j_add u.v (qD hu.1 (by decide)) v.v (qD hv.1 (by decide))))<|zT (qA jW)<|zZ) ?_
 refine jE ⟨_,(kH (cs:=(bx (jF (kC (xO u.v v.v))))) (d:=(jF (kC (xO u.v v.v)))) rfl rfl jW rfl rfl .nil),?_⟩
 rfl
theorem j_gAdd(wp:jX)(i:Nat)(n:Nat)(u:JV)(hu:nQ 1048576 n u)(v:JV)(hv:nQ 1048576 n v)(hi:i<n):jR Tryz.prog 186 [(wp),(.val (.int .i64 (((i:Nat):Int)))),(.cptr 1000000 (jX.cells (.val (.func (.func 192) #[] #[]))) 0),(.cptr 1000000 (jX.cells (jL (qJ u))) 0),(.cptr 1000000 (jX.cells (jL (qJ v))) 0)] (jF (kC (xO (u.g.getD i z2) (v.g.getD i z2)))):=by
 have hul:=hu.2.2
 have hvl:=hv.2.2
 refine jJ Tryz.func186 rfl cb186 rfl ?_
 show qG _ _ _ _ ⟨[(0,(.d (wp))),(1,(jP i)),(2,(.d (.cptr 1000000 (jX.cells (.val (.func (.func 192) #[] #[]))) 0))),(3,(.d (.cptr 1000000 (jX.cells (jL (qJ u))) 0))),(4,(.d (.cptr 1000000 (jX.cells (jL (qJ v))) 0)))],[]⟩
 refine jB<|kx [(7,(.ref 0 0))] [(0,some (bx (jF (jV.mk kZ kZ))))] (zN (qV 0 qO qS)<|zZ) ?_
 refine jB<|kd [] [(0,some (bx (jF (kC (xO (u.g.getD i z2) (v.g.getD i z2))))))] mo (wE (xZ sh70)<|wE (oFc xV)<|wE (xZ cJ)<|wM<|wE (oXm xI kC i z2)<|wE (gE jW)<|wE (oFc xV)<|wE (xZ cJ)<|wM<|wE (oXm xI kC i z2)<|wE (gE jW)<|wE (jY (j_add (u.g.getD i z2) (qD (uU hu.2.1 (by decide) i) (by decide)) (v.g.getD i z2) (qD (uU hv.2.1 (by decide) i) (by decide))))<|wT (qA jW)<|wZ) ?_
 refine jE ⟨_,(kH (cs:=(bx (jF (kC (xO (u.g.getD i z2) (v.g.getD i z2)))))) (d:=(jF (kC (xO (u.g.getD i z2) (v.g.getD i z2))))) rfl rfl jW rfl rfl .nil),?_⟩
 rfl
theorem j_vSub(n:Nat)(u:JV)(hu:nQ 1048576 n u)(v:JV)(hv:nQ 1048576 n v):jR Tryz.prog 185 [(.cptr 1000000 (jX.cells (.val (.func (.func 193) #[] #[]))) 0),(.cptr 1000000 (jX.cells (jL (qJ u))) 0),(.cptr 1000000 (jX.cells (jL (qJ v))) 0)] (jF (kC (uO u.v v.v))):=by
 refine jJ Tryz.func185 rfl cb185 rfl ?_
 show qG _ _ _ _ ⟨[(0,(.d (.cptr 1000000 (jX.cells (.val (.func (.func 193) #[] #[]))) 0))),(1,(.d (.cptr 1000000 (jX.cells (jL (qJ u))) 0))),(2,(.d (.cptr 1000000 (jX.cells (jL (qJ v))) 0)))],[]⟩
 refine jB<|kx [(3,(.ref 0 0))] [(0,some (bx (jF (jV.mk kZ kZ))))] (zN (qV 0 qO qS)<|zZ) ?_
 refine jB<|kx [] [(0,some (bx (jF (kC (uO u.v v.v)))))] (zE (xZ sh70)<|zE (oFc zJ)<|zE (gE jW)<|zE (oFc zJ)<|zE (gE jW)<|zE (jY (j_sub u.v (qD hu.1 (by decide)) v.v (qD hv.1 (by decide))))<|zT (qA jW)<|zZ) ?_
 refine jE ⟨_,(kH (cs:=(bx (jF (kC (uO u.v v.v))))) (d:=(jF (kC (uO u.v v.v)))) rfl rfl jW rfl rfl .nil),?_⟩
 rfl
theorem j_gSub(wp:jX)(i:Nat)(n:Nat)(u:JV)(hu:nQ 1048576 n u)(v:JV)(hv:nQ 1048576 n v)(hi:i<n):jR Tryz.prog 186 [(wp),(.val (.int .i64 (((i:Nat):Int)))),(.cptr 1000000 (jX.cells (.val (.func (.func 193) #[] #[]))) 0),(.cptr 1000000 (jX.cells (jL (qJ u))) 0),(.cptr 1000000 (jX.cells (jL (qJ v))) 0)] (jF (kC (uO (u.g.getD i z2) (v.g.getD i z2)))):=by
 have hul:=hu.2.2
 have hvl:=hv.2.2
 refine jJ Tryz.func186 rfl cb186 rfl ?_
 show qG _ _ _ _ ⟨[(0,(.d (wp))),(1,(jP i)),(2,(.d (.cptr 1000000 (jX.cells (.val (.func (.func 193) #[] #[]))) 0))),(3,(.d (.cptr 1000000 (jX.cells (jL (qJ u))) 0))),(4,(.d (.cptr 1000000 (jX.cells (jL (qJ v))) 0)))],[]⟩
 refine jB<|kx [(7,(.ref 0 0))] [(0,some (bx (jF (jV.mk kZ kZ))))] (zN (qV 0 qO qS)<|zZ) ?_
 refine jB<|kd [] [(0,some (bx (jF (kC (uO (u.g.getD i z2) (v.g.getD i z2))))))] mo (wE (xZ sh70)<|wE (oFc xV)<|wE (xZ cJ)<|wM<|wE (oXm xI kC i z2)<|wE (gE jW)<|wE (oFc xV)<|wE (xZ cJ)<|wM<|wE (oXm xI kC i z2)<|wE (gE jW)<|wE (jY (j_sub (u.g.getD i z2) (qD (uU hu.2.1 (by decide) i) (by decide)) (v.g.getD i z2) (qD (uU hv.2.1 (by decide) i) (by decide))))<|wT (qA jW)<|wZ) ?_
 refine jE ⟨_,(kH (cs:=(bx (jF (kC (uO (u.g.getD i z2) (v.g.getD i z2)))))) (d:=(jF (kC (uO (u.g.getD i z2) (v.g.getD i z2))))) rfl rfl jW rfl rfl .nil),?_⟩
 rfl
theorem j_vNeg(n:Nat)(u:JV)(hu:nQ 1048576 n u)(v:JV)(hv:nQ 1048576 n v):jR Tryz.prog 185 [(.cptr 1000000 (jX.cells (.clo 194 [(.cptr 1000000 (jX.cells (jF (kC (gw 0)))) 0)])) 0),(.cptr 1000000 (jX.cells (jL (qJ u))) 0),(.cptr 1000000 (jX.cells (jL (qJ v))) 0)] (jF (kC (uO (gw 0) u.v))):=by
 refine jJ Tryz.func185 rfl cb185 rfl ?_
 show qG _ _ _ _ ⟨[(0,(.d (.cptr 1000000 (jX.cells (.clo 194 [(.cptr 1000000 (jX.cells (jF (kC (gw 0)))) 0)])) 0))),(1,(.d (.cptr 1000000 (jX.cells (jL (qJ u))) 0))),(2,(.d (.cptr 1000000 (jX.cells (jL (qJ v))) 0)))],[]⟩
 refine jB<|kx [(3,(.ref 0 0))] [(0,some (bx (jF (jV.mk kZ kZ))))] (zN (qV 0 qO qS)<|zZ) ?_
 refine jB<|kx [] [(0,some (bx (jF (kC (uO (gw 0) u.v)))))] (zE (xZ sh70)<|zE (oFc zJ)<|zE (gE jW)<|zE (oFc zJ)<|zE (gE jW)<|zE (oCd (ds:=[(jF (kC u.v)),(jF (kC v.v))]) (caps:=[(.cptr 1000000 (jX.cells (jF (kC (gw 0)))) 0)]) (j_negop u.v (qD hu.1 (by decide)) v.v (qD hv.1 (by decide)) (gw 0) (gl_w (z:=0) (by omega) (by omega))))<|zT (qA jW)<|zZ) ?_
 refine jE ⟨_,(kH (cs:=(bx (jF (kC (uO (gw 0) u.v))))) (d:=(jF (kC (uO (gw 0) u.v)))) rfl rfl jW rfl rfl .nil),?_⟩
 rfl
theorem j_gNeg(wp:jX)(i:Nat)(n:Nat)(u:JV)(hu:nQ 1048576 n u)(v:JV)(hv:nQ 1048576 n v)(hi:i<n):jR Tryz.prog 186 [(wp),(.val (.int .i64 (((i:Nat):Int)))),(.cptr 1000000 (jX.cells (.clo 194 [(.cptr 1000000 (jX.cells (jF (kC (gw 0)))) 0)])) 0),(.cptr 1000000 (jX.cells (jL (qJ u))) 0),(.cptr 1000000 (jX.cells (jL (qJ v))) 0)] (jF (kC (uO (gw 0) (u.g.getD i z2)))):=by
 have hul:=hu.2.2
 have hvl:=hv.2.2
 refine jJ Tryz.func186 rfl cb186 rfl ?_
 show qG _ _ _ _ ⟨[(0,(.d (wp))),(1,(jP i)),(2,(.d (.cptr 1000000 (jX.cells (.clo 194 [(.cptr 1000000 (jX.cells (jF (kC (gw 0)))) 0)])) 0))),(3,(.d (.cptr 1000000 (jX.cells (jL (qJ u))) 0))),(4,(.d (.cptr 1000000 (jX.cells (jL (qJ v))) 0)))],[]⟩
 refine jB<|kx [(7,(.ref 0 0))] [(0,some (bx (jF (jV.mk kZ kZ))))] (zN (qV 0 qO qS)<|zZ) ?_
 refine jB<|kd [] [(0,some (bx (jF (kC (uO (gw 0) (u.g.getD i z2))))))] mo (wE (xZ sh70)<|wE (oFc xV)<|wE (xZ cJ)<|wM<|wE (oXm xI kC i z2)<|wE (gE jW)<|wE (oFc xV)<|wE (xZ cJ)<|wM<|wE (oXm xI kC i z2)<|wE (gE jW)<|wE (oCd (ds:=[(jF (kC (u.g.getD i z2))),(jF (kC (v.g.getD i z2)))]) (caps:=[(.cptr 1000000 (jX.cells (jF (kC (gw 0)))) 0)]) (j_negop (u.g.getD i z2) (qD (uU hu.2.1 (by decide) i) (by decide)) (v.g.getD i z2) (qD (uU hv.2.1 (by decide) i) (by decide)) (gw 0) (gl_w (z:=0) (by omega) (by omega))))<|wT (qA jW)<|wZ) ?_
 refine jE ⟨_,(kH (cs:=(bx (jF (kC (uO (gw 0) (u.g.getD i z2)))))) (d:=(jF (kC (uO (gw 0) (u.g.getD i z2))))) rfl rfl jW rfl rfl .nil),?_⟩
 rfl
theorem j_vC(p:Rat)(hp:QL p 1048576):jR Tryz.prog 188 [(.cptr 1000000 (jX.cells (kM (kV.mk 0 0 0 (jN p)))) 0)] (jF (kC (yF p))):=by
 refine jJ Tryz.func188 rfl cb188 rfl ?_
 show qG _ _ _ _ ⟨[(0,(.d (.cptr 1000000 (jX.cells (kM (kV.mk 0 0 0 (jN p)))) 0)))],[]⟩
 refine jB<|kx [(1,(.ref 0 0))] [(0,some (bx (jF (jV.mk kZ kZ))))] (zN (qV 0 qO qS)<|zZ) ?_
 refine jB<|kx [] [(0,some (bx (jF (jV.mk (jN p) (jN p)))))] (zE (oFc dM)<|zE (gE jS)<|zE (oFc dM)<|zE (gE jS)<|zE (eX pl61 qO qS)<|zT (qA jW)<|zZ) ?_
 refine jE ⟨_,(kH (cs:=(bx (jF (jV.mk (jN p) (jN p))))) (d:=(jF (jV.mk (jN p) (jN p)))) rfl rfl jW rfl rfl .nil),?_⟩
 rfl
theorem j_gC(wp:jX)(i:Nat)(zz:R2)(hzz:GL 3 zz):jR Tryz.prog 189 [(wp),(.val (.int .i64 (((i:Nat):Int)))),(.cptr 1000000 (jX.cells (jF (kC zz))) 0)] (jF (kC zz)):=by
 refine jJ Tryz.func189 rfl cb189 rfl ?_
 show qG _ _ _ _ ⟨[(0,(.d (wp))),(1,(jP i)),(2,(.d (.cptr 1000000 (jX.cells (jF (kC zz))) 0)))],[]⟩
 refine jB<|kx [(5,(.ref 0 0))] [(0,some (bx (jF (jV.mk kZ kZ))))] (zN (qV 0 qO qS)<|zZ) ?_
 refine jB<|kx [] [(0,some (bx (jF (kC zz))))] (zE (gE jW)<|zT (qA jW)<|zZ) ?_
 refine jE ⟨_,(kH (cs:=(bx (jF (kC zz)))) (d:=(jF (kC zz))) rfl rfl jW rfl rfl .nil),?_⟩
 rfl
theorem j_vV(bv:List R2)(hbx:∀ x∈bv,GL 1048576 x)(a:Nat)(ha:a<bv.length)(hbl:bv.length≤1000000):jR Tryz.prog 190 [(.cptr 1000000 (jX.cells (.sl 61 8 (List.map jF (List.map kC bv)))) 0),(.cptr 1000000 (jX.cells (kM (kV.mk 1 ((a:Nat):Int) 0 kZ))) 0)] (jF (kC (bv.getD a z2))):=by
 refine jJ Tryz.func190 rfl cb190 rfl ?_
 show qG _ _ _ _ ⟨[(0,(.d (.cptr 1000000 (jX.cells (.sl 61 8 (List.map jF (List.map kC bv)))) 0))),(1,(.d (.cptr 1000000 (jX.cells (kM (kV.mk 1 ((a:Nat):Int) 0 kZ))) 0)))],[]⟩
 refine jB<|kx [(2,(.ref 0 0))] [(0,some (bx (jF (jV.mk kZ kZ))))] (zN (qV 0 qO qS)<|zZ) ?_
 refine jB<|kx [] [(0,some (bx (jF (kC (bv.getD a z2)))))] (zE (xZ cJ)<|zE (oFc gK)<|zE (xZ cH)<|zE (oXm xI kC a z2 (hj:=by first | omega | rfl | (dsimp only;omega)) (h1:=by first | omega | rfl | (dsimp only;omega)))<|zE (gE jW)<|zT (qA jW)<|zZ) ?_
 refine jE ⟨_,(kH (cs:=(bx (jF (kC (bv.getD a z2))))) (d:=(jF (kC (bv.getD a z2)))) rfl rfl jW rfl rfl .nil),?_⟩
 rfl
theorem j_gV(wp:jX)(i:Nat)(a:Nat)(zz:R2)(hzz:GL 3 zz):jR Tryz.prog 191 [(wp),(.val (.int .i64 (((i:Nat):Int)))),(.cptr 1000000 (jX.cells (kM (kV.mk 1 ((a:Nat):Int) 0 kZ))) 0),(.cptr 1000000 (jX.cells (jF (kC zz))) 0)] (jF (kC (if ((i:Nat):Int)=((a:Nat):Int) then gw 1 else zz))):=by
 refine jJ Tryz.func191 rfl cb191 rfl ?_
 show qG _ _ _ _ ⟨[(0,(.d (wp))),(1,(jP i)),(2,(.d (.cptr 1000000 (jX.cells (kM (kV.mk 1 ((a:Nat):Int) 0 kZ))) 0))),(3,(.d (.cptr 1000000 (jX.cells (jF (kC zz))) 0)))],[]⟩
 refine jB<|kx [(6,(.ref 0 0))] [(0,some (bx (jF (jV.mk kZ kZ))))] (zN (qV 0 qO qS)<|zZ) ?_
 refine jB<|jB<|kx [(10,(vb (((i:Nat):Int) == ((a:Nat):Int))))] [] (zM<|zE (oFc gK)<|zE (xZ cH)<|zE xR<|zZ) ?_
 refine jG (b:=(((i:Nat):Int) == ((a:Nat):Int))) rfl (fun h1=>?_) (fun h1=>?_)
 ·replace h1:=eq_of_beq h1
  refine jB<|kx [] [(0,some (bx (jF (kC (gw 1)))))] (zE (jY (j_whole 1 (by omega) (by omega)))<|zT (qA jW)<|zZ) ?_
  refine jE ⟨_,(kH (cs:=(bx (jF (kC (gw 1))))) (d:=(jF (kC (gw 1)))) rfl rfl jW rfl rfl .nil),?_⟩
  rw[if_pos h1];rfl
 ·replace h1:=ne_of_beq_false h1
  refine jD<|jB<|kx [] [(0,some (bx (jF (kC zz))))] (zE (gE jW)<|zT (qA jW)<|zZ) ?_
  refine jE ⟨_,(kH (cs:=(bx (jF (kC zz)))) (d:=(jF (kC zz))) rfl rfl jW rfl rfl .nil),?_⟩
  rw[if_neg h1];rfl
theorem j_vM(n:Nat)(u:JV)(hu:nQ 1048576 n u)(v:JV)(hv:nQ 1048576 n v):jR Tryz.prog 195 [(.cptr 1000000 (jX.cells (jL (qJ u))) 0),(.cptr 1000000 (jX.cells (jL (qJ v))) 0)] (jF (kC (uF u.v v.v))):=by
 refine jJ Tryz.func195 rfl cb195 rfl ?_
 show qG _ _ _ _ ⟨[(0,(.d (.cptr 1000000 (jX.cells (jL (qJ u))) 0))),(1,(.d (.cptr 1000000 (jX.cells (jL (qJ v))) 0)))],[]⟩
 refine jB<|kx [(2,(.ref 0 0))] [(0,some (bx (jF (jV.mk kZ kZ))))] (zN (qV 0 qO qS)<|zZ) ?_
 refine jB<|kx [] [(0,some (bx (jF (kC (uF u.v v.v)))))] (zE (oFc zJ)<|zE (gE jW)<|zE (oFc zJ)<|zE (gE jW)<|zE (jY (j_mul u.v (qD hu.1 (by decide)) v.v (qD hv.1 (by decide))))<|zT (qA jW)<|zZ) ?_
 refine jE ⟨_,(kH (cs:=(bx (jF (kC (uF u.v v.v))))) (d:=(jF (kC (uF u.v v.v)))) rfl rfl jW rfl rfl .nil),?_⟩
 rfl
theorem j_gM(wp:jX)(i:Nat)(n:Nat)(u:JV)(hu:nQ 1048576 n u)(v:JV)(hv:nQ 1048576 n v)(hi:i<n):jR Tryz.prog 197 [(wp),(.val (.int .i64 (((i:Nat):Int)))),(.cptr 1000000 (jX.cells (jL (qJ u))) 0),(.cptr 1000000 (jX.cells (jL (qJ v))) 0)] (jF (kC (xO (uF u.v (v.g.getD i z2)) (uF v.v (u.g.getD i z2))))):=by
 have hul:=hu.2.2
 have hvl:=hv.2.2
 refine jJ Tryz.func197 rfl cb197 rfl ?_
 show qG _ _ _ _ ⟨[(0,(.d (wp))),(1,(jP i)),(2,(.d (.cptr 1000000 (jX.cells (jL (qJ u))) 0))),(3,(.d (.cptr 1000000 (jX.cells (jL (qJ v))) 0)))],[]⟩
 refine jB<|kx [(6,(.ref 0 0))] [(0,some (bx (jF (jV.mk kZ kZ))))] (zN (qV 0 qO qS)<|zZ) ?_
 refine jB<|kd [] [(0,some (bx (jF (kC (xO (uF u.v (v.g.getD i z2)) (uF v.v (u.g.getD i z2)))))))] mo (wE (oFc zJ)<|wE (gE jW)<|wE (oFc xV)<|wE (xZ cJ)<|wM<|wE (oXm xI kC i z2)<|wE (gE jW)<|wE (jY (j_mul u.v (qD hu.1 (by decide)) (v.g.getD i z2) (qD (uU hv.2.1 (by decide) i) (by decide))))<|wE (oFc zJ)<|wE (gE jW)<|wE (oFc xV)<|wE (xZ cJ)<|wM<|wE (oXm xI kC i z2)<|wE (gE jW)<|wE (jY (j_mul v.v (qD hv.1 (by decide)) (u.g.getD i z2) (qD (uU hu.2.1 (by decide) i) (by decide))))<|wE (jY (j_add (uF u.v (v.g.getD i z2)) (qD (yY (k:=2097152) hu.1 (uU hv.2.1 (by decide) i) (by decide)) (by decide)) (uF v.v (u.g.getD i z2)) (qD (yY (k:=2097152) hv.1 (uU hu.2.1 (by decide) i) (by decide)) (by decide))))<|wT (qA jW)<|wZ) ?_
 refine jE ⟨_,(kH (cs:=(bx (jF (kC (xO (uF u.v (v.g.getD i z2)) (uF v.v (u.g.getD i z2))))))) (d:=(jF (kC (xO (uF u.v (v.g.getD i z2)) (uF v.v (u.g.getD i z2)))))) rfl rfl jW rfl rfl .nil),?_⟩
 rfl
theorem j_vQ(n:Nat)(u:JV)(hu:nQ 1048576 n u):jR Tryz.prog 199 [(.cptr 1000000 (jX.cells (jL (qJ u))) 0)] (jF (kC (gsq u.v))):=by
 refine jJ Tryz.func199 rfl cb199 rfl ?_
 show qG _ _ _ _ ⟨[(0,(.d (.cptr 1000000 (jX.cells (jL (qJ u))) 0)))],[]⟩
 refine jB<|kx [(1,(.ref 0 0))] [(0,some (bx (jF (jV.mk kZ kZ))))] (zN (qV 0 qO qS)<|zZ) ?_
 refine jB<|kx [] [(0,some (bx (jF (kC (gsq u.v)))))] (zE (oFc zJ)<|zE (gE jW)<|zE (jY (j_sq u.v (qD hu.1 (by decide))))<|zT (qA jW)<|zZ) ?_
 refine jE ⟨_,(kH (cs:=(bx (jF (kC (gsq u.v))))) (d:=(jF (kC (gsq u.v)))) rfl rfl jW rfl rfl .nil),?_⟩
 rfl
theorem j_gQ(wp:jX)(i:Nat)(tt:R2)(htt:GL 3 tt)(n:Nat)(u:JV)(hu:nQ 1048576 n u)(hi:i<n):jR Tryz.prog 201 [(wp),(.val (.int .i64 (((i:Nat):Int)))),(.cptr 1000000 (jX.cells (jF (kC tt))) 0),(.cptr 1000000 (jX.cells (jL (qJ u))) 0)] (jF (kC (uF tt (uF u.v (u.g.getD i z2))))):=by
 have hul:=hu.2.2
 refine jJ Tryz.func201 rfl cb201 rfl ?_
 show qG _ _ _ _ ⟨[(0,(.d (wp))),(1,(jP i)),(2,(.d (.cptr 1000000 (jX.cells (jF (kC tt))) 0))),(3,(.d (.cptr 1000000 (jX.cells (jL (qJ u))) 0)))],[]⟩
 refine jB<|kx [(6,(.ref 0 0))] [(0,some (bx (jF (jV.mk kZ kZ))))] (zN (qV 0 qO qS)<|zZ) ?_
 refine jB<|kd [] [(0,some (bx (jF (kC (uF tt (uF u.v (u.g.getD i z2)))))))] mo (wE (gE jW)<|wE (oFc zJ)<|wE (gE jW)<|wE (oFc xV)<|wE (xZ cJ)<|wM<|wE (oXm xI kC i z2)<|wE (gE jW)<|wE (jY (j_mul u.v (qD hu.1 (by decide)) (u.g.getD i z2) (qD (uU hu.2.1 (by decide) i) (by decide))))<|wE (jY (j_mul tt (qD htt (by decide)) (uF u.v (u.g.getD i z2)) (qD (yY (k:=2097152) hu.1 (uU hu.2.1 (by decide) i) (by decide)) (by decide))))<|wT (qA jW)<|wZ) ?_
 refine jE ⟨_,(kH (cs:=(bx (jF (kC (uF tt (uF u.v (u.g.getD i z2))))))) (d:=(jF (kC (uF tt (uF u.v (u.g.getD i z2)))))) rfl rfl jW rfl rfl .nil),?_⟩
 rfl
theorem j_div(n:Nat)(x:jX)(a:R2)(ha:GL 67108864 a)(b:R2)(hb:GL 67108864 b)(hz:yV b.1 b.2=false):jR Tryz.prog 204 [(.cptr 1000000 (jX.cells (mcA n x false)) 0),(jF (kC a)),(jF (kC b))] (jF (kC (mY a b))):=by
 let y1:=(bx (jF (jV.mk (jN (nS (a.1 / b.1) [(a.1 / b.2),(a.2 / b.1),(a.2 / b.2)])) (jN (mP (a.1 / b.1) [(a.1 / b.2),(a.2 / b.1),(a.2 / b.2)])))))
 refine jJ Tryz.func204 rfl cb204 rfl ?_
 show qG _ _ _ _ ⟨[(0,(.d (.cptr 1000000 (jX.cells (mcA n x false)) 0))),(1,(.d (jF (kC a)))),(2,(.d (jF (kC b))))],[]⟩
 refine jB<|kx [(4,(.ref 0 0)),(5,(.ref 1 0)),(6,(.ref 2 0))] [(0,some (bx (jF (kC a)))),(1,some (bx (jF (kC b)))),(2,some (bx (jF (jV.mk kZ kZ))))] (zN (vA 0)<|zN (vA 1)<|zN (qV 2 qO qS)<|zZ) ?_
 refine jB<|kx [(7,(.ref 3 0)),(8,(vi 0))] [(3,some y1)] (zR (kK jW)<|zR (kK jW)<|zE (jY (i_divide a.1 a.2 b.1 b.2 (qu ha.1) (qu ha.2.1) (qu hb.1) (qu hb.2.1) ha.2.2 hb.2.2 hz))<|zM<|zE uT<|zE uT<|zN (qV 3 qO qS)<|zT (qA jW)<|zM<|zZ) ?_
 refine jB<|jB<|kx [(16,(vb false))] [] (zM<|zE nW<|zZ) ?_
 refine kU ?_
 refine jD<|jB<|kx [] [(2,some y1)] (zR (kK jW)<|zT (qA jW)<|zZ) ?_
 refine jE ⟨_,(kH (cs:=y1) (d:=(jF (jV.mk (jN (nS (a.1 / b.1) [(a.1 / b.2),(a.2 / b.1),(a.2 / b.2)])) (jN (mP (a.1 / b.1) [(a.1 / b.2),(a.2 / b.1),(a.2 / b.2)]))))) rfl rfl jW rfl rfl .nil),?_⟩
 rfl
theorem j_vD(n:Nat)(x:jX)(u:JV)(hu:nQ 1048576 n u)(v:JV)(hv:nQ 1048576 n v)(hz:yV v.v.1 v.v.2=false):jR Tryz.prog 203 [(.cptr 1000000 (jX.cells (.cptr 1000000 (jX.cells (mcA n x false)) 0)) 0),(.cptr 1000000 (jX.cells (jL (qJ u))) 0),(.cptr 1000000 (jX.cells (jL (qJ v))) 0)] (jF (kC (mY u.v v.v))):=by
 refine jJ Tryz.func203 rfl cb203 rfl ?_
 show qG _ _ _ _ ⟨[(0,(.d (.cptr 1000000 (jX.cells (.cptr 1000000 (jX.cells (mcA n x false)) 0)) 0))),(1,(.d (.cptr 1000000 (jX.cells (jL (qJ u))) 0))),(2,(.d (.cptr 1000000 (jX.cells (jL (qJ v))) 0)))],[]⟩
 refine jB<|kx [(3,(.ref 0 0))] [(0,some (bx (jF (jV.mk kZ kZ))))] (zN (qV 0 qO qS)<|zZ) ?_
 refine jB<|kx [] [(0,some (bx (jF (kC (mY u.v v.v)))))] (zE (xZ eT)<|zE (oFc zJ)<|zE (gE jW)<|zE (oFc zJ)<|zE (gE jW)<|zE (jY (j_div n (x) u.v (qD hu.1 (by decide)) v.v (qD hv.1 (by decide)) hz))<|zT (qA jW)<|zZ) ?_
 refine jE ⟨_,(kH (cs:=(bx (jF (kC (mY u.v v.v))))) (d:=(jF (kC (mY u.v v.v)))) rfl rfl jW rfl rfl .nil),?_⟩
 rfl
theorem j_gD(w:R2)(hw:GL 2097152 w)(y z:jX)(i:Nat)(n:Nat)(x:jX)(u:JV)(hu:nQ 1048576 n u)(v:JV)(hv:nQ 1048576 n v)(hz:yV v.v.1 v.v.2=false)(hi:i<n):jR Tryz.prog 205 [(.cptr 1000000 (jX.cells (.agg (jX.cells (jF (kC w))++[(y),(z)]))) 0),(.val (.int .i64 (((i:Nat):Int)))),(.cptr 1000000 (jX.cells (.cptr 1000000 (jX.cells (mcA n x false)) 0)) 0),(.cptr 1000000 (jX.cells (jL (qJ u))) 0),(.cptr 1000000 (jX.cells (jL (qJ v))) 0)] (jF (kC (mY (uO (u.g.getD i z2) (uF w (v.g.getD i z2))) v.v))):=by
 have hul:=hu.2.2
 have hvl:=hv.2.2
 refine jJ Tryz.func205 rfl cb205 rfl ?_
 show qG _ _ _ _ ⟨[(0,(.d (.cptr 1000000 (jX.cells (.agg (jX.cells (jF (kC w))++[(y),(z)]))) 0))),(1,(jP i)),(2,(.d (.cptr 1000000 (jX.cells (.cptr 1000000 (jX.cells (mcA n x false)) 0)) 0))),(3,(.d (.cptr 1000000 (jX.cells (jL (qJ u))) 0))),(4,(.d (.cptr 1000000 (jX.cells (jL (qJ v))) 0)))],[]⟩
 refine jB<|kx [(7,(.ref 0 0))] [(0,some (bx (jF (jV.mk kZ kZ))))] (zN (qV 0 qO qS)<|zZ) ?_
 refine jB<|kd [] [(0,some (bx (jF (kC (mY (uO (u.g.getD i z2) (uF w (v.g.getD i z2))) v.v)))))] mo (wE (xZ eT)<|wE (oFc xV)<|wE (xZ cJ)<|wM<|wE (oXm xI kC i z2)<|wE (gE jW)<|wM<|wE oNd<|wE (oFc zJ)<|wE (gE jW)<|wE (oFc xV)<|wE (xZ cJ)<|wM<|wE (oXm xI kC i z2)<|wE (gE jW)<|wE (jY (j_mul w (qD hw (by decide)) (v.g.getD i z2) (qD (uU hv.2.1 (by decide) i) (by decide))))<|wE (jY (j_sub (u.g.getD i z2) (qD (uU hu.2.1 (by decide) i) (by decide)) (uF w (v.g.getD i z2)) (qD (yY (k:=3145728) hw (uU hv.2.1 (by decide) i) (by decide)) (by decide))))<|wE (oFc zJ)<|wE (gE jW)<|wE (jY (j_div n (x) (uO (u.g.getD i z2) (uF w (v.g.getD i z2))) (qD (fS (k:=4194305) (uU hu.2.1 (by decide) i) (yY (k:=3145728) hw (uU hv.2.1 (by decide) i) (by decide)) (by decide)) (by decide)) v.v (qD hv.1 (by decide)) hz))<|wT (qA jW)<|wZ) ?_
 refine jE ⟨_,(kH (cs:=(bx (jF (kC (mY (uO (u.g.getD i z2) (uF w (v.g.getD i z2))) v.v))))) (d:=(jF (kC (mY (uO (u.g.getD i z2) (uF w (v.g.getD i z2))) v.v)))) rfl rfl jW rfl rfl .nil),?_⟩
 rfl
end Go.Proofs.YtnajallgoaiahaaGreatDoor
