/- Part 24 of a proof: rules, plain facts, and functions walked. -/
import Derived.Test.YtnajallgoaiahaaGreatDoorM19
import Derived.Test.YtnajallgoaiahaaGreatDoorM20
import Derived.Test.YtnajallgoaiahaaGreatDoorM23
set_option linter.unusedVariables false
set_option linter.unusedSimpArgs false
set_option maxRecDepth 4000
namespace Go.Proofs.YtnajallgoaiahaaGreatDoor
open Go.Fid
theorem cb72:callB Tryz.prog 72=true:=by kernel_rfl
theorem cb127:callB Tryz.prog 127=true:=by kernel_rfl
theorem cb128:callB Tryz.prog 128=true:=by kernel_rfl
theorem cb129:callB Tryz.prog 129=true:=by kernel_rfl
theorem cb207:callB Tryz.prog 207=true:=by kernel_rfl
theorem cb208:callB Tryz.prog 208=true:=by kernel_rfl
theorem cb209:callB Tryz.prog 209=true:=by kernel_rfl
theorem cb245:callB Tryz.prog 245=true:=by kernel_rfl
theorem eY:xC Tryz.prog 34=some (24,1):=by kernel_rfl
theorem sh24:uF Tryz.prog 24=some (false,1):=by kernel_rfl
theorem sh34:uF Tryz.prog 34=some (false,1):=by kernel_rfl
theorem m_can1(x:kF)(p:Rat)(hx:gX x p 1048576):jS Tryz.prog 209 [(jL x)] (.val (.bool ((!(kW x))))):=by
 refine jJ Tryz.func209 rfl cb209 rfl ?_
 show qM _ _ _ _ ⟨[(0,(.d (jL x)))],[]⟩
 refine jB<|kx [(1,(.ref 0 0))] [(0,some (bx (jL x)))] (zN (uY 0)<|zM<|zZ) ?_
 refine jB<|kx [(2,(vb (!(kW x))))] [] (zR (kP jW)<|zE (kA (cE x p (jQ hx (by decide))))<|zE mT<|zM<|zZ) ?_
 refine jG ⟨_,(.tmp (d:=(.val (.bool (!(kW x))))) rfl .nil),?_⟩
 rfl
theorem m_canAI(l:List kF)(hl:zU 1048576 l)(hb:l.length≤140737488355328):jS Tryz.prog 245 [(.sl 45 4 (List.map jL l)),(.val (.func (.func 209) #[] #[]))] (.val (.int .i64 ((aX (fun x=>!(kW x)) l 0)))):=by
 refine jJ Tryz.func245 rfl cb245 rfl ?_
 show qM _ _ _ _ ⟨[(0,(vl 45 4 jL l)),(1,(.d (.val (.func (.func 209) #[] #[]))))],[]⟩
 refine jB<|kx [] [] (zM<|zZ) ?_
 refine jB<|jB<|kx [(7,(jK l.length)),(8,(jK 0))] [] (zM<|zE (zD vE)<|zM<|zZ) ?_
 refine jI<|kM (α:=Nat) (fun k=>⟨[(0,(vl 45 4 jL l)),(1,(.d (.val (.func (.func 209) #[] #[])))),(7,(jK l.length)),(8,(jK k))],[]⟩) (fun k=>k≤l.length∧aX (fun x=>!(kW x)) l 0=aX (fun x=>!(kW x)) (l.drop k) k) (fun k=>l.length-k) 0 wk ⟨Nat.zero_le _,by rw[List.drop_zero]⟩ ?_
 rintro k ⟨hk,hv⟩
 refine jB<|kx [(9,(vb (decide (((k:Nat):Int)<((l.length:Nat):Int)))))] [] (zE xY<|zZ) ?_
 refine jB<|jH rfl (fun h1=>?_) (fun h1=>?_)
 ·replace h1:=vJ h1
  refine jF<|jB<|jI<|jB<|kx [(5,(jK k))] [] (zM<|zM<|zZ) ?_
  refine jB<|kx [(16,(vb (!(kW (l.getD k kR)))))] [] (zM<|zM<|zM<|zE (nE vE k kR)<|zE (gN jW)<|zE (kA (m_can1 (l.getD k kR) (qN (l.getD k kR)) (xZ hl.1 (show k<l.length by omega))))<|zZ) ?_
  refine jH rfl (fun h2=>?_) (fun h2=>?_)
  ·have hix:=fst0_at (fun x=>!(kW x)) kR l k (by omega) h2
   refine jB<|kx [(4,(jK k))] [] (zM<|zM<|zZ) ?_
   refine jG ⟨_,(.tmp (d:=(.val (.int .i64 (((k:Nat):Int))))) rfl .nil),?_⟩
   rw[hv,hix];rfl
  ·have hix:=fst0_step (fun x=>!(kW x)) kR l k (by omega) h2
   refine jF<|kx [(8,(jK (k+1)))] [] (zE (xE (k+1))<|zM<|zZ) ?_
   exact ⟨(k+1),wk,⟨by omega,hv.trans hix⟩,(by omega)⟩
 ·replace h1:=vM h1
  have hix:=fst0_end (fun x=>!(kW x)) l k (by omega)
  refine kL<|jB<|kx [(4,(vi (-1)))] [] (zM<|zZ) ?_
  refine jG ⟨_,(.tmp (d:=(.val (.int .i64 (-1)))) rfl .nil),?_⟩
  rw[hv,hix];rfl
theorem m_canA(l:List kF)(hl:zU 1048576 l)(hb:l.length≤140737488355328):jS Tryz.prog 208 [(.sl 45 4 (List.map jL l)),(.val (.func (.func 209) #[] #[]))] (.val (.bool ((l.any (fun x=>!(kW x)))))):=by
 refine jJ Tryz.func208 rfl cb208 rfl ?_
 show qM _ _ _ _ ⟨[(0,(vl 45 4 jL l)),(1,(.d (.val (.func (.func 209) #[] #[]))))],[]⟩
 refine jB<|kx [] [] (zM<|zZ) ?_
 refine jB<|kx [(4,(vb (decide (0≤(aX (fun x=>!(kW x)) l 0)))))] [] (zM<|zM<|zE (kA (m_canAI l hl hb))<|zE oGe<|zM<|zZ) ?_
 refine jG ⟨_,(.tmp (d:=(.val (.bool (decide (0≤(aX (fun x=>!(kW x)) l 0)))))) rfl .nil),?_⟩
 rw[fst0_any];rfl
theorem m_can(l:List kF)(hl:zU 1048576 l)(hb:l.length≤140737488355328):jS Tryz.prog 129 [(.sl 45 4 (List.map jL l))] (.val (.bool ((cQ l)))):=by
 refine jJ Tryz.func129 rfl cb129 rfl ?_
 show qM _ _ _ _ ⟨[(0,(vl 45 4 jL l))],[]⟩
 refine jB<|kx [] [] (zM<|zZ) ?_
 refine jB<|kx [(2,(vb (!(l.any (fun x=>!(kW x))))))] [] (zM<|zE (kA (m_canA l hl hb))<|zE mT<|zM<|zZ) ?_
 refine jG ⟨_,(.tmp (d:=(.val (.bool (!(l.any (fun x=>!(kW x))))))) rfl .nil),?_⟩
 rw[vRow_any];rfl
theorem m_chk1(l:List kF)(hl:zU 1048576 l)(m:List (List kF))(hm:mO 1048576 m)(h0:0<m.length)(hlb:l.length≤140737488355328):jS Tryz.prog 128 [(.sl 45 4 (List.map jL l)),(.cptr 1000000 (jZ.cells (.sl 24 1 (List.map kC m))) 0)] (.val (.bool ((nN m l)))):=by
 have hmb:=hm.2
 have hrb:=(yK (d:=[]) hm h0).2
 refine jJ Tryz.func128 rfl cb128 rfl ?_
 show qM _ _ _ _ ⟨[(0,(vl 45 4 jL l)),(1,(.d (.cptr 1000000 (jZ.cells (.sl 24 1 (List.map kC m))) 0)))],[]⟩
 refine jB<|kx [] [] (zM<|zZ) ?_
 refine jB<|kx [(3,(vb ((((l.length:Nat):Int) != (((m.getD 0 []).length:Nat):Int))||!(cQ l))))] [] ?_ ?_
 ·refine zM<|zE (zD vE)<|zE (nC sh34)<|zE (nE eY 0 ([]:List (kF)))<|zE (nC sh24)<|zE (zD vE (L:=(m.getD 0 [])))<|zE cR<|zE (oV (vb (((l.length:Nat):Int) != (((m.getD 0 []).length:Nat):Int))) (qQ (by kernel_rfl)))<|?_
  rcases hb1:(((l.length:Nat):Int) != (((m.getD 0 []).length:Nat):Int)) with _ | _
  ·replace hb1:=bne_eq_false_iff_eq.1 hb1
   exact zM<|zE (kA (m_can l hl hlb))<|zE mT<|zE fU<|zM<|zZ
  ·replace hb1:=bne_iff_ne.1 hb1
   exact zK<|zK<|zK<|zE nY<|zM<|zZ
 refine jG ⟨_,(.tmp (d:=(.val (.bool (((((l.length:Nat):Int) != (((m.getD 0 []).length:Nat):Int))||!(cQ l)))))) rfl .nil),?_⟩
 rfl
theorem m_chkAI(l:List (List kF))(hl:mO 1048576 l)(m:List (List kF))(hm:mO 1048576 m)(hb:l.length≤140737488355328)(h0:0<m.length):jS Tryz.prog 207 [(.sl 24 1 (List.map kC l)),(.clo 128 [(.cptr 1000000 (jZ.cells (.sl 24 1 (List.map kC m))) 0)])] (.val (.int .i64 ((aX (nN m) l 0)))):=by
 refine jJ Tryz.func207 rfl cb207 rfl ?_
 show qM _ _ _ _ ⟨[(0,(vl 24 1 kC l)),(1,(.d (.clo 128 [(.cptr 1000000 (jZ.cells (.sl 24 1 (List.map kC m))) 0)])))],[]⟩
 refine jB<|kx [] [] (zM<|zZ) ?_
 refine jB<|jB<|kx [(7,(jK l.length)),(8,(jK 0))] [] (zM<|zE (zD eY)<|zM<|zZ) ?_
 refine jI<|kM (α:=Nat) (fun k=>⟨[(0,(vl 24 1 kC l)),(1,(.d (.clo 128 [(.cptr 1000000 (jZ.cells (.sl 24 1 (List.map kC m))) 0)]))),(7,(jK l.length)),(8,(jK k))],[]⟩) (fun k=>k≤l.length∧aX (nN m) l 0=aX (nN m) (l.drop k) k) (fun k=>l.length-k) 0 wk ⟨Nat.zero_le _,by rw[List.drop_zero]⟩ ?_
 rintro k ⟨hk,hv⟩
 refine jB<|kx [(9,(vb (decide (((k:Nat):Int)<((l.length:Nat):Int)))))] [] (zE xY<|zZ) ?_
 refine jB<|jH rfl (fun h1=>?_) (fun h1=>?_)
 ·replace h1:=vJ h1
  have hrl:=(yK (d:=[]) hl (show k<l.length by omega)).2
  refine jF<|jB<|jI<|jB<|kx [(5,(jK k))] [] (zM<|zM<|zZ) ?_
  refine jB<|kx [(16,(vb (nN m (l.getD k []))))] [] (zM<|zM<|zM<|zE (nE eY k ([]:List (kF)))<|zE (nC sh24)<|zE (oCd (ds:=[(.sl 45 4 (List.map jL (l.getD k [])))]) (caps:=[(.cptr 1000000 (jZ.cells (.sl 24 1 (List.map kC m))) 0)]) (m_chk1 (l.getD k []) (yK (d:=[]) hl (show k<l.length by omega)) m hm h0 (by first | assumption | omega)))<|zZ) ?_
  refine jH (b:=(nN m (l.getD k []))) rfl (fun h2=>?_) (fun h2=>?_)
  ·have hix:=fst0_at (nN m) [] l k (by omega) h2
   refine jB<|kx [(4,(jK k))] [] (zM<|zM<|zZ) ?_
   refine jG ⟨_,(.tmp (d:=(.val (.int .i64 (((k:Nat):Int))))) rfl .nil),?_⟩
   rw[hv,hix];rfl
  ·have hix:=fst0_step (nN m) [] l k (by omega) h2
   refine jF<|kx [(8,(jK (k+1)))] [] (zE (xE (k+1))<|zM<|zZ) ?_
   exact ⟨(k+1),wk,⟨by omega,hv.trans hix⟩,(by omega)⟩
 ·replace h1:=vM h1
  have hix:=fst0_end (nN m) l k (by omega)
  refine kL<|jB<|kx [(4,(vi (-1)))] [] (zM<|zZ) ?_
  refine jG ⟨_,(.tmp (d:=(.val (.int .i64 (-1)))) rfl .nil),?_⟩
  rw[hv,hix];rfl
theorem m_chkA(l:List (List kF))(hl:mO 1048576 l)(m:List (List kF))(hm:mO 1048576 m)(hb:l.length≤140737488355328)(h0:0<m.length):jS Tryz.prog 127 [(.sl 24 1 (List.map kC l)),(.clo 128 [(.cptr 1000000 (jZ.cells (.sl 24 1 (List.map kC m))) 0)])] (.val (.bool ((l.any (nN m))))):=by
 refine jJ Tryz.func127 rfl cb127 rfl ?_
 show qM _ _ _ _ ⟨[(0,(vl 24 1 kC l)),(1,(.d (.clo 128 [(.cptr 1000000 (jZ.cells (.sl 24 1 (List.map kC m))) 0)])))],[]⟩
 refine jB<|kx [] [] (zM<|zZ) ?_
 refine jB<|kx [(4,(vb (decide (0≤(aX (nN m) l 0)))))] [] (zM<|zM<|zE (kA (m_chkAI l hl m hm hb h0))<|zE oGe<|zM<|zZ) ?_
 refine jG ⟨_,(.tmp (d:=(.val (.bool (decide (0≤(aX (nN m) l 0)))))) rfl .nil),?_⟩
 rw[fst0_any];rfl
theorem m_chk(m:List (List kF))(hm:mO 1048576 m):jS Tryz.prog 72 [(.sl 24 1 (List.map kC m))] (.val (.int .i64 ((((mchk m):Nat):Int)))):=by
 have hmb:=hm.2
 refine jJ Tryz.func72 rfl cb72 rfl ?_
 show qM _ _ _ _ ⟨[(0,(vl 24 1 kC m))],[]⟩
 refine jB<|kx [(1,(.ref 0 0))] [(0,some (bx (.sl 24 1 (List.map kC m))))] (zN (uY 0)<|zM<|zZ) ?_
 refine jB<|jB<|kx [(24,(vb (((decide (((m.length:Nat):Int)<1)||decide (64<((m.length:Nat):Int)))||decide ((((m.getD 0 []).length:Nat):Int)<1))||decide (64<(((m.getD 0 []).length:Nat):Int)))))] [] ?_ ?_
 ·refine zR (qX sh34)<|zE (zD eY)<|zE xY<|zE (oV (vb (decide (((m.length:Nat):Int)<1))) (qQ (by kernel_rfl)))<|?_
  rcases hb1:(decide (((m.length:Nat):Int)<1)) with _ | _
  ·replace hb1:=vM hb1
   refine zR (qX sh34)<|zE (zD eY)<|zE gD<|zE fU<|zE (oV (vb (false||decide (64<((m.length:Nat):Int)))) (qQ (by kernel_rfl)))<|?_
   rcases hb2:(false||decide (64<((m.length:Nat):Int))) with _ | _
   ·replace hb2:=vM (p:=(64<((m.length:Nat):Int))) hb2
    refine zR (qX sh34)<|zE (nE eY 0 ([]:List (kF)))<|zE (nC sh24)<|zE (zD vE (L:=(m.getD 0 [])))<|zE xY<|zE fU<|zE (oV (vb (false||decide ((((m.getD 0 []).length:Nat):Int)<1))) (qQ (by kernel_rfl)))<|?_
    rcases hb3:(false||decide ((((m.getD 0 []).length:Nat):Int)<1)) with _ | _
    ·replace hb3:=vM (p:=((((m.getD 0 []).length:Nat):Int)<1)) hb3
     exact zR (qX sh34)<|zE (nE eY 0 ([]:List (kF)))<|zE (nC sh24)<|zE (zD vE (L:=(m.getD 0 [])))<|zE gD<|zE fU<|zZ
    ·replace hb3:=vJ (p:=((((m.getD 0 []).length:Nat):Int)<1)) hb3
     exact zK<|zK<|zK<|zK<|zK<|zE nY<|zZ
   ·replace hb2:=vJ (p:=(64<((m.length:Nat):Int))) hb2
    exact zK<|zK<|zK<|zK<|zK<|zE nY<|zM<|zK<|zK<|zK<|zK<|zK<|zE nY<|zZ
  ·replace hb1:=vJ hb1
   exact zK<|zK<|zK<|zE nY<|zM<|zK<|zK<|zK<|zK<|zK<|zE nY<|zM<|zK<|zK<|zK<|zK<|zK<|zE nY<|zZ
 refine jH rfl (fun h4=>?_) (fun h4=>?_)
 ·refine jB<|kx [(2,(jK 1))] [] (zM<|zZ) ?_
  refine jG ⟨_,(.tmp (d:=(.val (.int .i64 (1)))) rfl .nil),?_⟩
  rw[mchk_1 h4];rfl
 ·have h0:=shp_0 h4
  refine jF<|jB<|jB<|kx [(27,(vb (m.any (nN m))))] [] (zR (qX sh34)<|zE (fS [0])<|zC (oCg [(0,(jZ.cells (.sl 24 1 (List.map kC m))))] [(vl 24 1 kC m),(.clo 128 [0])] (m_chkA m hm m hm (by assumption) (by omega)) (.d (.c (css:=[(jZ.cells (.sl 24 1 (List.map kC m)))]) (.cons (.head _) .nil) .nil)) (.val _))<|zZ) ?_
  refine jH (b:=(m.any (nN m))) rfl (fun h5=>?_) (fun h5=>?_)
  ·refine jB<|kx [(2,(jK 1))] [] (zM<|zZ) ?_
   refine jG ⟨_,(.tmp (d:=(.val (.int .i64 (1)))) rfl .nil),?_⟩
   rw[mchk_2 h5];rfl
  ·refine jF<|jB<|kx [(2,(jK 0))] [] (zM<|zZ) ?_
   refine jG ⟨_,(.tmp (d:=(.val (.int .i64 (0)))) rfl .nil),?_⟩
   rw[mchk_3 h4 h5];rfl
theorem cb132:callB Tryz.prog 132=true:=by kernel_rfl
theorem cb213:callB Tryz.prog 213=true:=by kernel_rfl
theorem cb246:callB Tryz.prog 246=true:=by kernel_rfl
theorem m_dot(l:List kF)(hl:zU 1048576 l)(m:List kF)(hm:zU 1048576 m)(hlm:l.length=m.length)(hl4:l.length≤64):jS Tryz.prog 246 [(.sl 45 4 (List.map jL l)),(.sl 45 4 (List.map jL m))] (jL (jM (dotR l m))):=by
 have hlb:=hl.2
 have hmb:=hm.2
 let y1:=kR
 refine jJ Tryz.func246 rfl cb246 rfl ?_
 show qM _ _ _ _ ⟨[(0,(vl 45 4 jL l)),(1,(vl 45 4 jL m))],[]⟩
 refine jB<|kx [(4,(.ref 0 0))] [(0,some (bx (jL y1)))] (zN (qW 0 uH uN)<|zZ) ?_
 refine jB<|kx [(5,(.ref 1 0))] [(1,some (bx (jL (jM ((0:Int):Rat)))))] (zE (kA (f_whole 0 (by decide) (by decide)))<|zN (qW 1 uH uN)<|zT (qF jW)<|zZ) ?_
 refine jB<|jB<|kx [(9,(vl 45 4 jL l)),(10,(jK l.length)),(11,(jK 0))] [] (zM<|zE (zD vE)<|zM<|zZ) ?_
 refine jI<|kM (α:=Nat × Rat) (fun (i,s)=>⟨[(1,(vl 45 4 jL m)),(4,(.ref 0 0)),(5,(.ref 1 0)),(9,(vl 45 4 jL l)),(10,(jK l.length)),(11,(jK i))],[(0,some (bx (jL y1))),(1,some (bx (jL (jM s))))]⟩) (fun (i,s)=>i≤l.length∧s=dotT l m i) (fun (i,s)=>l.length-i) (0,0) wk ⟨Nat.zero_le _,rfl⟩ ?_
 rintro ⟨i,s⟩ ⟨hi,hs⟩
 have hql:QL s 134217800:=hs▸dot_ql1 hl hm (by omega)
 refine jB<|kx [(12,(vb (decide (((i:Nat):Int)<((l.length:Nat):Int)))))] [] (zE xY<|zZ) ?_
 refine jB<|jH rfl (fun h1=>?_) (fun h1=>?_)
 ·replace h1:=vJ h1
  refine jF<|jB<|jI<|jB<|kx [(6,(jK i)),(7,(.ref 2 0))] [(2,some (bx (jL (l.getD i y1))))] (zM<|zE (nE vE i y1)<|zE (gN jW)<|zN (qW 2 uH uN)<|zM<|zT (qF jW)<|zZ) ?_
  refine jB<|kx [(26,(vb (((mB (qN (l.getD i y1))) != 0)&&((mB (qN (m.getD i y1))) != 0))))] [] ?_ ?_
  ·refine zR (kP jW)<|zE (kA (f_sign (l.getD i y1) (qN (l.getD i y1)) (jQ (xZ hl.1 (show i<l.length by omega)) (by decide))))<|zE cR<|zE (oV (vb ((mB (qN (l.getD i y1))) != 0)) (qQ (by kernel_rfl)))<|?_
   rcases hb2:((mB (qN (l.getD i kR))) != 0) with _ | _
   ·replace hb2:=bne_eq_false_iff_eq.1 hb2
    exact zK<|zK<|zK<|zK<|zK<|zK<|zE gE<|zZ
   ·replace hb2:=bne_iff_ne.1 hb2
    exact zM<|zM<|zE (nE vE i y1)<|zE (gN jW)<|zE (kA (f_sign (m.getD i y1) (qN (m.getD i y1)) (jQ (xZ hm.1 (show i<m.length by omega)) (by decide))))<|zE cR<|zE fA<|zZ
  refine jH rfl (fun h3=>?_) (fun h3=>?_)
  ·refine kd [] [(1,some (bx (jL (jM (s+((qN (l.getD i y1))*(qN (m.getD i y1))))))))] mo (wR (kP jW)<|wR (kP jW)<|wM<|wM<|wE (nE vE i y1)<|wE (gN jW)<|wE (kA (eS (l.getD i y1) (m.getD i y1) (qN (l.getD i y1)) (qN (m.getD i y1)) (jQ (xZ hl.1 (show i<l.length by omega)) (by decide)) (jQ (xZ hm.1 (show i<m.length by omega)) (by decide))))<|wE (kA (f_add (jM s) (jM ((qN (l.getD i y1))*(qN (m.getD i y1)))) s ((qN (l.getD i y1))*(qN (m.getD i y1))) (jQ (kB hql) (by decide)) (jQ (kB (uC (k:=2097152) (xZ hl.1 (show i<l.length by omega)).ql (xZ hm.1 (show i<m.length by omega)).ql (by decide))) (by decide))))<|wT (qF jW)<|wZ) ?_
   refine kx [(11,(jK (i+1)))] [] (zE (xE (i+1))<|zM<|zZ) ?_
   exact ⟨(i+1,s+(qN (l.getD i kR))*(qN (m.getD i kR))),wk,⟨by omega,by rw[hs];rfl⟩,(by first|omega|(dsimp only;omega))⟩
  ·refine jF<|kx [(11,(jK (i+1)))] [] (zE (xE (i+1))<|zM<|zZ) ?_
   exact ⟨(i+1,s),wk,⟨by omega,hs.trans (dotT_skip (dot_sk h3))⟩,(by first|omega|(dsimp only;omega))⟩
 ·replace h1:=vM h1
  refine kL<|jB<|kx [] [(0,some (bx (jL (jM s))))] (zR (kP jW)<|zT (qF jW)<|zZ) ?_
  refine jG ⟨_,(kJ (cs:=(bx (jL (jM s)))) (d:=(jL (jM s))) rfl rfl jW rfl rfl .nil),?_⟩
  obtain rfl:i=l.length:=by omega
  rw[hs];rfl
theorem m_Dot(l:List kF)(hl:zU 1048576 l)(m:List kF)(hm:zU 134217800 m)(hlm:l.length=m.length)(hl4:l.length≤64):jS Tryz.prog 132 [(.sl 45 4 (List.map jL l)),(.sl 45 4 (List.map jL m))] (.tup [(jL (jM (dotR l m))),(.val (.int .i64 (((0:Nat):Int))))]):=by
 have hlb:=hl.2
 have hmb:=hm.2
 let y1:=kR
 refine jJ Tryz.func132 rfl cb132 rfl ?_
 show qM _ _ _ _ ⟨[(0,(vl 45 4 jL l)),(1,(vl 45 4 jL m))],[]⟩
 refine jB<|kx [(4,(.ref 0 0))] [(0,some (bx (jL y1)))] (zN (qW 0 uH uN)<|zM<|zZ) ?_
 refine jB<|jB<|kx [(13,(vb false))] [] (zM<|zE (zD vE)<|zM<|zE (zD vE)<|zE (uR false cR (by exact bne_eq_false_iff_eq.2 (congrArg (fun z:Nat=>(z:Int)) hlm)))<|zZ) ?_
 refine kI ?_
 refine jF<|jB<|kx [(6,(.ref 1 0))] [(1,some (bx (jL (jM ((0:Int):Rat)))))] (zE (kA (f_whole 0 (by decide) (by decide)))<|zN (qW 1 uH uN)<|zT (qF jW)<|zZ) ?_
 refine jB<|jB<|kx [(16,(vl 45 4 jL l)),(17,(jK l.length)),(18,(jK 0))] [] (zM<|zE (zD vE)<|zM<|zZ) ?_
 refine jI<|kM (α:=Nat × Rat) (fun (i,s)=>⟨[(1,(vl 45 4 jL m)),(4,(.ref 0 0)),(6,(.ref 1 0)),(16,(vl 45 4 jL l)),(17,(jK l.length)),(18,(jK i))],[(0,some (bx (jL y1))),(1,some (bx (jL (jM s))))]⟩) (fun (i,s)=>i≤l.length∧s=dotT l m i) (fun (i,s)=>l.length-i) (0,0) wk ⟨Nat.zero_le _,rfl⟩ ?_
 rintro ⟨i,s⟩ ⟨hi,hs⟩
 have hql:QL s 8800000000:=hs▸dot_ql2 hl hm (by omega)
 refine jB<|kx [(19,(vb (decide (((i:Nat):Int)<((l.length:Nat):Int)))))] [] (zE xY<|zZ) ?_
 refine jB<|jH rfl (fun h1=>?_) (fun h1=>?_)
 ·replace h1:=vJ h1
  refine jF<|jB<|jI<|jB<|kx [(7,(jK i)),(8,(.ref 2 0))] [(2,some (bx (jL (l.getD i y1))))] (zM<|zE (nE vE i y1)<|zE (gN jW)<|zN (qW 2 uH uN)<|zM<|zT (qF jW)<|zZ) ?_
  refine kd [] [(1,some (bx (jL (jM (s+((qN (l.getD i y1))*(qN (m.getD i y1))))))))] mo (wR (kP jW)<|wR (kP jW)<|wM<|wM<|wE (nE vE i y1)<|wE (gN jW)<|wE (kA (eS (l.getD i y1) (m.getD i y1) (qN (l.getD i y1)) (qN (m.getD i y1)) (jQ (xZ hl.1 (show i<l.length by omega)) (by decide)) (jQ (xZ hm.1 (show i<m.length by omega)) (by decide))))<|wE (kA (f_add (jM s) (jM ((qN (l.getD i y1))*(qN (m.getD i y1)))) s ((qN (l.getD i y1))*(qN (m.getD i y1))) (jQ (kB hql) (by decide)) (jQ (kB (uC (k:=135266376) (xZ hl.1 (show i<l.length by omega)).ql (xZ hm.1 (show i<m.length by omega)).ql (by decide))) (by decide))))<|wT (qF jW)<|wZ) ?_
  refine kx [(18,(jK (i+1)))] [] (zE (xE (i+1))<|zM<|zZ) ?_
  exact ⟨(i+1,s+(qN (l.getD i kR))*(qN (m.getD i kR))),wk,⟨by omega,by rw[hs];rfl⟩,(by first|omega|(dsimp only;omega))⟩
 ·replace h1:=vM h1
  refine kL<|jB<|kx [(5,(jK 0))] [(0,some (bx (jL (jM s))))] (zR (kP jW)<|zT (qF jW)<|zM<|zZ) ?_
  refine jG ⟨_,(kJ (cs:=(bx (jL (jM s)))) (d:=(jL (jM s))) rfl rfl jW rfl rfl (.tmp (d:=(.val (.int .i64 (0)))) rfl .nil)),?_⟩
  obtain rfl:i=l.length:=by omega
  rw[hs];rfl
theorem m_app(m:List (List kF))(hm:mO 1048576 m)(v:List kF)(hv:zU 1048576 v)(hc:∀ r∈m,r.length=v.length)(hv4:v.length≤64)(hm6:m.length≤64):jS Tryz.prog 213 [(.sl 24 1 (List.map kC m)),(.sl 45 4 (List.map jL v))] (.sl 45 4 (List.map jL (appR m v))):=by
 have hmb:=hm.2
 have hvb:=hv.2
 refine jJ Tryz.func213 rfl cb213 rfl ?_
 show qM _ _ _ _ ⟨[(0,(vl 24 1 kC m)),(1,(vl 45 4 jL v))],[]⟩
 refine jB<|kx [] [] (zE (cP 45 4)<|zZ) ?_
 refine jB<|kx [(5,(.own 0 45 4 0))] [(0,some (qB jL []))] (zO 0 45 4<|zZ) ?_
 refine jB<|jB<|kx [(8,(vl 24 1 kC m)),(9,(jK m.length)),(10,(jK 0))] [] (zM<|zE (zD eY)<|zM<|zZ) ?_
 refine jI<|kM (α:=Nat × List kF) (fun (i,o)=>⟨[(1,(vl 45 4 jL v)),(5,(.own 0 45 4 o.length)),(8,(vl 24 1 kC m)),(9,(jK m.length)),(10,(jK i))],[(0,some (qB jL o))]⟩) (fun (i,o)=>i≤m.length∧o=(m.take i).map (fun r=>jM (dotR r v))) (fun (i,o)=>m.length-i) (0,[]) wk ⟨Nat.zero_le _,by simp⟩ ?_
 rintro ⟨i,o⟩ ⟨hi,ho⟩
 have hol:o.length=i:=by rw[ho,List.length_map,List.length_take];omega
 refine jB<|kx [(11,(vb (decide (((i:Nat):Int)<((m.length:Nat):Int)))))] [] (zE xY<|zZ) ?_
 refine jB<|jH rfl (fun h1=>?_) (fun h1=>?_)
 ·replace h1:=vJ h1
  have hcl:=mcol_at hc (show i<m.length by omega)
  refine jF<|jB<|jI<|jB<|kx [(7,(vl 45 4 jL (m.getD i [])))] [] (zE (nE eY i ([]:List (kF)))<|zE (nC sh24)<|zM<|zZ) ?_
  refine kf [(5,(.own 0 45 4 ((o++[(jM (dotR (m.getD i []) v))]).length)))] [(0,some (qB jL (o++[(jM (dotR (m.getD i []) v))])))] (zM<|zM<|zM<|zE (kA (m_dot (m.getD i []) (yK (d:=[]) hm (show i<m.length by omega)) v hv (by omega) (by omega)))<|zE (mC vE uH uN)<|zAS jL o [(jM (dotR (m.getD i []) v))] rfl vE uH by45<|zM<|zF) ?_
  refine kx [(10,(jK (i+1)))] [] (zE (xE (i+1))<|zM<|zZ) ?_
  exact ⟨(i+1,o++[jM (dotR (m.getD i []) v)]),wk,⟨by omega,by rw[ho];exact appR_step (by omega)⟩,(by first|omega|(dsimp only;omega))⟩
 ·replace h1:=vM h1
  refine kL<|jB<|kx [(4,(.own 0 45 4 o.length))] [] (zM<|zM<|zZ) ?_
  refine jV (xA (t:=4) (k:=0) (es:=List.map jL o) rfl rfl (vD _ _ (fun _=>rfl)) (qY _ _ rfl) (xB jL o (fun _=>rfl) rfl)) ?_
  refine jG ⟨_,(.tmp (d:=(.sl 45 4 (List.map jL o))) rfl .nil),?_⟩
  rw[ho,show i=m.length by omega,List.take_length];rfl
theorem cb75:callB Tryz.prog 75=true:=by kernel_rfl
theorem cb131:callB Tryz.prog 131=true:=by kernel_rfl
theorem cb211:callB Tryz.prog 211=true:=by kernel_rfl
theorem cb212:callB Tryz.prog 212=true:=by kernel_rfl
theorem m_apl1(m:List (List kF))(hm:mO 1048576 m)(h0:0<m.length):jS Tryz.prog 212 [(.cptr 1000000 (jZ.cells (.sl 24 1 (List.map kC m))) 0)] (.val (.int .i64 (((((m).getD 0 []).length:Nat):Int)))):=by
 have hmb:=hm.2
 have hrb:=(yK (d:=[]) hm h0).2
 refine jJ Tryz.func212 rfl cb212 rfl ?_
 show qM _ _ _ _ ⟨[(0,(.d (.cptr 1000000 (jZ.cells (.sl 24 1 (List.map kC m))) 0)))],[]⟩
 refine jB<|kx [] [] (zM<|zZ) ?_
 refine jB<|kx [(1,(jK ((m.getD 0 []).length)))] [] (zE (nC sh34)<|zE (nE eY 0 ([]:List (kF)))<|zE (nC sh24)<|zE (zD vE (L:=(m.getD 0 [])))<|zM<|zZ) ?_
 refine jG ⟨_,(.tmp (d:=(.val (.int .i64 ((((m.getD 0 []).length:Nat):Int))))) rfl .nil),?_⟩
 rfl
theorem m_list(m:List (List kF))(hm:mO 1048576 m)(v:List kF)(hv:zU 1048576 v)(q:List (List kF))(hq:mO 1048576 q)(hr:eO m m.length v.length)(hvv:cQ v=true)(hq0:(q.getD 0 []).length=v.length)(hqm:0<q.length):jS Tryz.prog 211 [(.sl 24 1 (List.map kC m)),(.sl 45 4 (List.map jL v)),(.clo 212 [(.cptr 1000000 (jZ.cells (.sl 24 1 (List.map kC q))) 0)])] (.val (.int .i64 (((0:Nat):Int)))):=by
 have hvb:=hv.2
 have hc0:=rect_chk hr
 have hmb:=hr.r64
 refine jJ Tryz.func211 rfl cb211 rfl ?_
 show qM _ _ _ _ ⟨[(0,(vl 24 1 kC m)),(1,(vl 45 4 jL v)),(2,(.d (.clo 212 [(.cptr 1000000 (jZ.cells (.sl 24 1 (List.map kC q))) 0)])))],[]⟩
 refine jB<|kx [] [] (zM<|zZ) ?_
 refine jB<|jB<|kx [(7,(jK (mchk m)))] [] (zM<|zE (kA (m_chk m hm))<|zM<|zZ) ?_
 refine jB<|kx [(11,(vb false))] [] (zM<|zE (uR false cR (by exact bne_eq_false_iff_eq.2 (by rw[show (mchk m)=0 from hc0]<;>rfl)))<|zZ) ?_
 refine kI ?_
 refine jF<|jB<|jB<|kx [(15,(vb false))] [] (zM<|zE (uR true (kA (m_can v hv (by assumption))) (by exact hvv))<|zE mT<|zZ) ?_
 refine kI ?_
 refine jF<|jB<|jB<|kx [(20,(vb false))] [] (zM<|zE (zD vE)<|zM<|zE (oCd (ds:=[]) (caps:=[(.cptr 1000000 (jZ.cells (.sl 24 1 (List.map kC q))) 0)]) (m_apl1 q hq hqm))<|zE (uR false cR (by exact bne_eq_false_iff_eq.2 (congrArg (fun z:Nat=>(z:Int)) hq0.symm)))<|zZ) ?_
 refine kI ?_
 refine jF<|jB<|kx [(6,(jK 0))] [] (zM<|zZ) ?_
 refine jG ⟨_,(.tmp (d:=(.val (.int .i64 (((0:Nat):Int))))) rfl .nil),?_⟩
 rfl
theorem m_aply(m:List (List kF))(hm:mO 1048576 m)(v:List kF)(hv:zU 1048576 v)(hr:eO m m.length v.length)(hvv:cQ v=true):jS Tryz.prog 131 [(.sl 24 1 (List.map kC m)),(.sl 45 4 (List.map jL v))] (.tup [(.sl 45 4 (List.map jL (appR m v))),(.val (.int .i64 (((0:Nat):Int))))]):=by
 have hvb:=hv.2
 have hmb:=hr.r64
 have hm1:=hr.r1
 have hv64:=hr.c64
 have hq0:=(hr.at (i:=0) hm1).1
 refine jJ Tryz.func131 rfl cb131 rfl ?_
 show qM _ _ _ _ ⟨[(0,(vl 24 1 kC m)),(1,(vl 45 4 jL v))],[]⟩
 refine jB<|kx [(2,(.ref 0 0))] [(0,some (bx (.sl 24 1 (List.map kC m))))] (zN (uY 0)<|zE (cP 45 4)<|zM<|zZ) ?_
 refine jB<|jB<|kx [(6,(jK 0))] [] (zR (qX sh34)<|zM<|zE (fS [0])<|zC (oCg [(0,(jZ.cells (.sl 24 1 (List.map kC m))))] [(vl 24 1 kC m),(vl 45 4 jL v),(.clo 212 [0])] (m_list m hm v hv m hm hr hvv (by assumption) (by omega)) (.d (.d (.c (css:=[(jZ.cells (.sl 24 1 (List.map kC m)))]) (.cons (.head _) .nil) .nil))) (.val _))<|zM<|zZ) ?_
 refine jB<|kx [(12,(vb false))] [] (zM<|zE (uR false cR)<|zZ) ?_
 refine kI ?_
 refine jF<|jB<|kx [(4,(vl 45 4 jL (appR m v))),(5,(jK 0))] [] (zR (qX sh34)<|zM<|zE (kA (m_app m hm v hv (fun r h=>(hr.hc r h).1) (by omega) (by omega)))<|zM<|zM<|zZ) ?_
 refine jG ⟨_,(.tmp (d:=(.sl 45 4 (List.map jL (appR m v)))) rfl (.tmp (d:=(.val (.int .i64 (((0:Nat):Int))))) rfl .nil)),?_⟩
 rfl
theorem m_cov(m:List (List kF))(hm:mO 1048576 m)(a:List kF)(ha:zU 1048576 a)(v:List kF)(hv:zU 1048576 v)(hr:eO m m.length v.length)(hvv:cQ v=true)(hal:a.length=m.length)(hvl:v.length=m.length):jS Tryz.prog 75 [(.sl 24 1 (List.map kC m)),(.sl 45 4 (List.map jL a)),(.sl 45 4 (List.map jL v))] (jL (jM (covR m a v))):=by
 have hab:=ha.2
 have hvb:=hv.2
 have hmb:=hr.r64
 have hm1:=hr.r1
 have hv64:=hr.c64
 have hpl:=appR_len m v
 refine jJ Tryz.func75 rfl cb75 rfl ?_
 show qM _ _ _ _ ⟨[(0,(vl 24 1 kC m)),(1,(vl 45 4 jL a)),(2,(vl 45 4 jL v))],[]⟩
 refine jB<|kx [(6,(.ref 0 0))] [(0,some (bx (jL kR)))] (zN (qW 0 uH uN)<|zZ) ?_
 refine jB<|kx [(7,(vl 45 4 jL (appR m v)))] [] (zM<|zM<|zE (kA (m_aply m hm v hv hr hvv))<|zM<|zE vI<|zE vI<|zM<|zM<|zZ) ?_
 refine jB<|kx [(9,(.ref 1 0))] [(1,some (bx (jL (jM (dotR a (appR m v))))))] (zM<|zM<|zE (kA (m_Dot a ha (appR m v) (appR_ok hm hv (mcol_le (fun r h=>(hr.hc r h).1) hr.c64)) (hal.trans hpl.symm) (by omega)))<|zM<|zE vI<|zE vI<|zN (qW 1 uH uN)<|zT (qF jW)<|zM<|zZ) ?_
 refine jB<|kx [] [(0,some (bx (jL (jM (dotR a (appR m v))))))] (zR (kP jW)<|zT (qF jW)<|zZ) ?_
 refine jG ⟨_,(kJ (cs:=(bx (jL (jM (dotR a (appR m v)))))) (d:=(jL (jM (dotR a (appR m v))))) rfl rfl jW rfl rfl .nil),?_⟩
 rfl
theorem cb185:callB Tryz.prog 185=true:=by kernel_rfl
theorem cb186:callB Tryz.prog 186=true:=by kernel_rfl
theorem cb188:callB Tryz.prog 188=true:=by kernel_rfl
theorem cb189:callB Tryz.prog 189=true:=by kernel_rfl
theorem cb190:callB Tryz.prog 190=true:=by kernel_rfl
theorem cb191:callB Tryz.prog 191=true:=by kernel_rfl
theorem cb194:callB Tryz.prog 194=true:=by kernel_rfl
theorem cb195:callB Tryz.prog 195=true:=by kernel_rfl
theorem cb197:callB Tryz.prog 197=true:=by kernel_rfl
theorem cb199:callB Tryz.prog 199=true:=by kernel_rfl
theorem cb201:callB Tryz.prog 201=true:=by kernel_rfl
theorem cb243:callB Tryz.prog 243=true:=by kernel_rfl
theorem yD:zY Tryz.prog 83 1=some 1:=by kernel_rfl
theorem dP:zY Tryz.prog 83 3=some 3:=by kernel_rfl
theorem yC:zY Tryz.prog 95 0=some 0:=by kernel_rfl
theorem uX:zY Tryz.prog 95 1=some 8:=by kernel_rfl
theorem fo161_2:zY Tryz.prog 161 2=some 2:=by kernel_rfl
theorem sh70:uF Tryz.prog 70=some (false,1):=by kernel_rfl
theorem gS:uF Tryz.prog 86=some (false,1):=by kernel_rfl
theorem nK(n:Nat)(x:jZ)(a:R2)(ha:GL 67108864 a):jS Tryz.prog 243 [(.cptr 1000000 (jZ.cells (.agg [(.val (.int .i64 (((n:Nat):Int)))),(.val (.int .i64 (((1:Nat):Int)))),(.val (.int .i64 (-1))),(x),(.val (.bool (false)))])) 0),(jD (jP a))] (jD (jP a)):=by
 refine jJ Tryz.func243 rfl cb243 rfl ?_
 show qM _ _ _ _ ⟨[(0,(.d (.cptr 1000000 (jZ.cells (.agg [(.val (.int .i64 (((n:Nat):Int)))),(.val (.int .i64 (((1:Nat):Int)))),(.val (.int .i64 (-1))),(x),(.val (.bool (false)))])) 0))),(1,(.d (jD (jP a))))],[]⟩
 refine jB<|kx [(3,(.ref 0 0)),(4,(.ref 1 0))] [(0,some (bx (jD (jP a)))),(1,some (bx (jD (jO.mk kR kR))))] (zN (uY 0)<|zN (qW 1 qL qR)<|zZ) ?_
 refine jB<|jB<|kx [(9,(vb true))] [] (zM<|zE oNd<|zE (oFc fo161_2)<|zE (nC gI)<|zE (uR true xY)<|zZ) ?_
 refine uD ?_
 refine jB<|kx [] [(1,some (bx (jD (jP a))))] (zR (kP jY)<|zT (qF jY)<|zZ) ?_
 refine jG ⟨_,(kJ (cs:=(bx (jD (jP a)))) (d:=(jD (jP a))) rfl rfl jY rfl rfl .nil),?_⟩
 rfl
theorem j_negop(a:R2)(ha:GL 67108864 a)(b:R2)(hb:GL 67108864 b)(zz:R2)(hzz:GL 3 zz):jS Tryz.prog 194 [(jD (jP a)),(jD (jP b)),(.cptr 1000000 (jZ.cells (jD (jP zz))) 0)] (jD (jP (kZ zz a))):=by
 refine jJ Tryz.func194 rfl cb194 rfl ?_
 show qM _ _ _ _ ⟨[(0,(.d (jD (jP a)))),(1,(.d (jD (jP b)))),(2,(.d (.cptr 1000000 (jZ.cells (jD (jP zz))) 0)))],[]⟩
 refine jB<|kx [(3,(.ref 0 0)),(5,(.ref 2 0))] [(0,some (bx (jD (jP a)))),(2,some (bx (jD (jO.mk kR kR)))),(1,none)] (zN (uY 0)<|zN (uY 1)<|zN (qW 2 qL qR)<|zZ) ?_
 refine jB<|kx [] [(2,some (bx (jD (jP (kZ zz a)))))] (zE (gN jY)<|zR (kP jY)<|zE (kA (j_sub zz (qI hzz (by decide)) a ha))<|zT (qF jY)<|zZ) ?_
 refine jG ⟨_,(kJ (cs:=(bx (jD (jP (kZ zz a))))) (d:=(jD (jP (kZ zz a)))) rfl rfl jY rfl rfl .nil),?_⟩
 rfl
theorem j_vAdd(n:Nat)(u:JV)(hu:nF 1048576 n u)(v:JV)(hv:nF 1048576 n v):jS Tryz.prog 185 [(.cptr 1000000 (jZ.cells (.val (.func (.func 192) #[] #[]))) 0),(.cptr 1000000 (jZ.cells (jC (jN u))) 0),(.cptr 1000000 (jZ.cells (jC (jN v))) 0)] (jD (jP (qU u.v v.v))):=by
 refine jJ Tryz.func185 rfl cb185 rfl ?_
 show qM _ _ _ _ ⟨[(0,(.d (.cptr 1000000 (jZ.cells (.val (.func (.func 192) #[] #[]))) 0))),(1,(.d (.cptr 1000000 (jZ.cells (jC (jN u))) 0))),(2,(.d (.cptr 1000000 (jZ.cells (jC (jN v))) 0)))],[]⟩
 refine jB<|kx [(3,(.ref 0 0))] [(0,some (bx (jD (jO.mk kR kR))))] (zN (qW 0 qL qR)<|zZ) ?_
 refine jB<|kx [] [(0,some (bx (jD (jP (qU u.v v.v)))))] (zE (nC sh70)<|zE (oFc yC)<|zE (gN jY)<|zE (oFc yC)<|zE (gN jY)<|zE (kA (j_add u.v (qI hu.1 (by decide)) v.v (qI hv.1 (by decide))))<|zT (qF jY)<|zZ) ?_
 refine jG ⟨_,(kJ (cs:=(bx (jD (jP (qU u.v v.v))))) (d:=(jD (jP (qU u.v v.v)))) rfl rfl jY rfl rfl .nil),?_⟩
 rfl
theorem j_gAdd(wp:jZ)(i:Nat)(n:Nat)(u:JV)(hu:nF 1048576 n u)(v:JV)(hv:nF 1048576 n v)(hi:i<n):jS Tryz.prog 186 [(wp),(.val (.int .i64 (((i:Nat):Int)))),(.cptr 1000000 (jZ.cells (.val (.func (.func 192) #[] #[]))) 0),(.cptr 1000000 (jZ.cells (jC (jN u))) 0),(.cptr 1000000 (jZ.cells (jC (jN v))) 0)] (jD (jP (qU (u.g.getD i z2) (v.g.getD i z2)))):=by
 have hul:=hu.2.2
 have hvl:=hv.2.2
 refine jJ Tryz.func186 rfl cb186 rfl ?_
 show qM _ _ _ _ ⟨[(0,(.d (wp))),(1,(jK i)),(2,(.d (.cptr 1000000 (jZ.cells (.val (.func (.func 192) #[] #[]))) 0))),(3,(.d (.cptr 1000000 (jZ.cells (jC (jN u))) 0))),(4,(.d (.cptr 1000000 (jZ.cells (jC (jN v))) 0)))],[]⟩
 refine jB<|kx [(7,(.ref 0 0))] [(0,some (bx (jD (jO.mk kR kR))))] (zN (qW 0 qL qR)<|zZ) ?_
 refine jB<|kd [] [(0,some (bx (jD (jP (qU (u.g.getD i z2) (v.g.getD i z2))))))] mo (wE (nC sh70)<|wE (oFc uX)<|wE (nC gS)<|wM<|wE (oXm uW jP i z2)<|wE (gN jY)<|wE (oFc uX)<|wE (nC gS)<|wM<|wE (oXm uW jP i z2)<|wE (gN jY)<|wE (kA (j_add (u.g.getD i z2) (qI (uT hu.2.1 (by decide) i) (by decide)) (v.g.getD i z2) (qI (uT hv.2.1 (by decide) i) (by decide))))<|wT (qF jY)<|wZ) ?_
 refine jG ⟨_,(kJ (cs:=(bx (jD (jP (qU (u.g.getD i z2) (v.g.getD i z2)))))) (d:=(jD (jP (qU (u.g.getD i z2) (v.g.getD i z2))))) rfl rfl jY rfl rfl .nil),?_⟩
 rfl
theorem j_vSub(n:Nat)(u:JV)(hu:nF 1048576 n u)(v:JV)(hv:nF 1048576 n v):jS Tryz.prog 185 [(.cptr 1000000 (jZ.cells (.val (.func (.func 193) #[] #[]))) 0),(.cptr 1000000 (jZ.cells (jC (jN u))) 0),(.cptr 1000000 (jZ.cells (jC (jN v))) 0)] (jD (jP (kZ u.v v.v))):=by
 refine jJ Tryz.func185 rfl cb185 rfl ?_
 show qM _ _ _ _ ⟨[(0,(.d (.cptr 1000000 (jZ.cells (.val (.func (.func 193) #[] #[]))) 0))),(1,(.d (.cptr 1000000 (jZ.cells (jC (jN u))) 0))),(2,(.d (.cptr 1000000 (jZ.cells (jC (jN v))) 0)))],[]⟩
 refine jB<|kx [(3,(.ref 0 0))] [(0,some (bx (jD (jO.mk kR kR))))] (zN (qW 0 qL qR)<|zZ) ?_
 refine jB<|kx [] [(0,some (bx (jD (jP (kZ u.v v.v)))))] (zE (nC sh70)<|zE (oFc yC)<|zE (gN jY)<|zE (oFc yC)<|zE (gN jY)<|zE (kA (j_sub u.v (qI hu.1 (by decide)) v.v (qI hv.1 (by decide))))<|zT (qF jY)<|zZ) ?_
 refine jG ⟨_,(kJ (cs:=(bx (jD (jP (kZ u.v v.v))))) (d:=(jD (jP (kZ u.v v.v)))) rfl rfl jY rfl rfl .nil),?_⟩
 rfl
theorem j_gSub(wp:jZ)(i:Nat)(n:Nat)(u:JV)(hu:nF 1048576 n u)(v:JV)(hv:nF 1048576 n v)(hi:i<n):jS Tryz.prog 186 [(wp),(.val (.int .i64 (((i:Nat):Int)))),(.cptr 1000000 (jZ.cells (.val (.func (.func 193) #[] #[]))) 0),(.cptr 1000000 (jZ.cells (jC (jN u))) 0),(.cptr 1000000 (jZ.cells (jC (jN v))) 0)] (jD (jP (kZ (u.g.getD i z2) (v.g.getD i z2)))):=by
 have hul:=hu.2.2
 have hvl:=hv.2.2
 refine jJ Tryz.func186 rfl cb186 rfl ?_
 show qM _ _ _ _ ⟨[(0,(.d (wp))),(1,(jK i)),(2,(.d (.cptr 1000000 (jZ.cells (.val (.func (.func 193) #[] #[]))) 0))),(3,(.d (.cptr 1000000 (jZ.cells (jC (jN u))) 0))),(4,(.d (.cptr 1000000 (jZ.cells (jC (jN v))) 0)))],[]⟩
 refine jB<|kx [(7,(.ref 0 0))] [(0,some (bx (jD (jO.mk kR kR))))] (zN (qW 0 qL qR)<|zZ) ?_
 refine jB<|kd [] [(0,some (bx (jD (jP (kZ (u.g.getD i z2) (v.g.getD i z2))))))] mo (wE (nC sh70)<|wE (oFc uX)<|wE (nC gS)<|wM<|wE (oXm uW jP i z2)<|wE (gN jY)<|wE (oFc uX)<|wE (nC gS)<|wM<|wE (oXm uW jP i z2)<|wE (gN jY)<|wE (kA (j_sub (u.g.getD i z2) (qI (uT hu.2.1 (by decide) i) (by decide)) (v.g.getD i z2) (qI (uT hv.2.1 (by decide) i) (by decide))))<|wT (qF jY)<|wZ) ?_
 refine jG ⟨_,(kJ (cs:=(bx (jD (jP (kZ (u.g.getD i z2) (v.g.getD i z2)))))) (d:=(jD (jP (kZ (u.g.getD i z2) (v.g.getD i z2))))) rfl rfl jY rfl rfl .nil),?_⟩
 rfl
theorem j_vNeg(n:Nat)(u:JV)(hu:nF 1048576 n u)(v:JV)(hv:nF 1048576 n v):jS Tryz.prog 185 [(.cptr 1000000 (jZ.cells (.clo 194 [(.cptr 1000000 (jZ.cells (jD (jP (gw 0)))) 0)])) 0),(.cptr 1000000 (jZ.cells (jC (jN u))) 0),(.cptr 1000000 (jZ.cells (jC (jN v))) 0)] (jD (jP (kZ (gw 0) u.v))):=by
 refine jJ Tryz.func185 rfl cb185 rfl ?_
 show qM _ _ _ _ ⟨[(0,(.d (.cptr 1000000 (jZ.cells (.clo 194 [(.cptr 1000000 (jZ.cells (jD (jP (gw 0)))) 0)])) 0))),(1,(.d (.cptr 1000000 (jZ.cells (jC (jN u))) 0))),(2,(.d (.cptr 1000000 (jZ.cells (jC (jN v))) 0)))],[]⟩
 refine jB<|kx [(3,(.ref 0 0))] [(0,some (bx (jD (jO.mk kR kR))))] (zN (qW 0 qL qR)<|zZ) ?_
 refine jB<|kx [] [(0,some (bx (jD (jP (kZ (gw 0) u.v)))))] (zE (nC sh70)<|zE (oFc yC)<|zE (gN jY)<|zE (oFc yC)<|zE (gN jY)<|zE (oCd (ds:=[(jD (jP u.v)),(jD (jP v.v))]) (caps:=[(.cptr 1000000 (jZ.cells (jD (jP (gw 0)))) 0)]) (j_negop u.v (qI hu.1 (by decide)) v.v (qI hv.1 (by decide)) (gw 0) (gl_w (z:=0) (by omega) (by omega))))<|zT (qF jY)<|zZ) ?_
 refine jG ⟨_,(kJ (cs:=(bx (jD (jP (kZ (gw 0) u.v))))) (d:=(jD (jP (kZ (gw 0) u.v)))) rfl rfl jY rfl rfl .nil),?_⟩
 rfl
theorem j_gNeg(wp:jZ)(i:Nat)(n:Nat)(u:JV)(hu:nF 1048576 n u)(v:JV)(hv:nF 1048576 n v)(hi:i<n):jS Tryz.prog 186 [(wp),(.val (.int .i64 (((i:Nat):Int)))),(.cptr 1000000 (jZ.cells (.clo 194 [(.cptr 1000000 (jZ.cells (jD (jP (gw 0)))) 0)])) 0),(.cptr 1000000 (jZ.cells (jC (jN u))) 0),(.cptr 1000000 (jZ.cells (jC (jN v))) 0)] (jD (jP (kZ (gw 0) (u.g.getD i z2)))):=by
 have hul:=hu.2.2
 have hvl:=hv.2.2
 refine jJ Tryz.func186 rfl cb186 rfl ?_
 show qM _ _ _ _ ⟨[(0,(.d (wp))),(1,(jK i)),(2,(.d (.cptr 1000000 (jZ.cells (.clo 194 [(.cptr 1000000 (jZ.cells (jD (jP (gw 0)))) 0)])) 0))),(3,(.d (.cptr 1000000 (jZ.cells (jC (jN u))) 0))),(4,(.d (.cptr 1000000 (jZ.cells (jC (jN v))) 0)))],[]⟩
 refine jB<|kx [(7,(.ref 0 0))] [(0,some (bx (jD (jO.mk kR kR))))] (zN (qW 0 qL qR)<|zZ) ?_
 refine jB<|kd [] [(0,some (bx (jD (jP (kZ (gw 0) (u.g.getD i z2))))))] mo (wE (nC sh70)<|wE (oFc uX)<|wE (nC gS)<|wM<|wE (oXm uW jP i z2)<|wE (gN jY)<|wE (oFc uX)<|wE (nC gS)<|wM<|wE (oXm uW jP i z2)<|wE (gN jY)<|wE (oCd (ds:=[(jD (jP (u.g.getD i z2))),(jD (jP (v.g.getD i z2)))]) (caps:=[(.cptr 1000000 (jZ.cells (jD (jP (gw 0)))) 0)]) (j_negop (u.g.getD i z2) (qI (uT hu.2.1 (by decide) i) (by decide)) (v.g.getD i z2) (qI (uT hv.2.1 (by decide) i) (by decide)) (gw 0) (gl_w (z:=0) (by omega) (by omega))))<|wT (qF jY)<|wZ) ?_
 refine jG ⟨_,(kJ (cs:=(bx (jD (jP (kZ (gw 0) (u.g.getD i z2)))))) (d:=(jD (jP (kZ (gw 0) (u.g.getD i z2))))) rfl rfl jY rfl rfl .nil),?_⟩
 rfl
theorem j_vC(p:Rat)(hp:QL p 1048576):jS Tryz.prog 188 [(.cptr 1000000 (jZ.cells (kG (qC.mk 0 0 0 (jM p)))) 0)] (jD (jP (xV p))):=by
 refine jJ Tryz.func188 rfl cb188 rfl ?_
 show qM _ _ _ _ ⟨[(0,(.d (.cptr 1000000 (jZ.cells (kG (qC.mk 0 0 0 (jM p)))) 0)))],[]⟩
 refine jB<|kx [(1,(.ref 0 0))] [(0,some (bx (jD (jO.mk kR kR))))] (zN (qW 0 qL qR)<|zZ) ?_
 refine jB<|kx [] [(0,some (bx (jD (jO.mk (jM p) (jM p)))))] (zE (oFc dP)<|zE (gN jW)<|zE (oFc dP)<|zE (gN jW)<|zE (cS pl61 qL qR)<|zT (qF jY)<|zZ) ?_
 refine jG ⟨_,(kJ (cs:=(bx (jD (jO.mk (jM p) (jM p))))) (d:=(jD (jO.mk (jM p) (jM p)))) rfl rfl jY rfl rfl .nil),?_⟩
 rfl
theorem j_gC(wp:jZ)(i:Nat)(zz:R2)(hzz:GL 3 zz):jS Tryz.prog 189 [(wp),(.val (.int .i64 (((i:Nat):Int)))),(.cptr 1000000 (jZ.cells (jD (jP zz))) 0)] (jD (jP zz)):=by
 refine jJ Tryz.func189 rfl cb189 rfl ?_
 show qM _ _ _ _ ⟨[(0,(.d (wp))),(1,(jK i)),(2,(.d (.cptr 1000000 (jZ.cells (jD (jP zz))) 0)))],[]⟩
 refine jB<|kx [(5,(.ref 0 0))] [(0,some (bx (jD (jO.mk kR kR))))] (zN (qW 0 qL qR)<|zZ) ?_
 refine jB<|kx [] [(0,some (bx (jD (jP zz))))] (zE (gN jY)<|zT (qF jY)<|zZ) ?_
 refine jG ⟨_,(kJ (cs:=(bx (jD (jP zz)))) (d:=(jD (jP zz))) rfl rfl jY rfl rfl .nil),?_⟩
 rfl
theorem j_vV(bv:List R2)(hbx:∀ x∈bv,GL 1048576 x)(a:Nat)(ha:a<bv.length)(hbl:bv.length≤1000000):jS Tryz.prog 190 [(.cptr 1000000 (jZ.cells (.sl 61 8 (List.map jD (List.map jP bv)))) 0),(.cptr 1000000 (jZ.cells (kG (qC.mk 1 ((a:Nat):Int) 0 kR))) 0)] (jD (jP (bv.getD a z2))):=by
 refine jJ Tryz.func190 rfl cb190 rfl ?_
 show qM _ _ _ _ ⟨[(0,(.d (.cptr 1000000 (jZ.cells (.sl 61 8 (List.map jD (List.map jP bv)))) 0))),(1,(.d (.cptr 1000000 (jZ.cells (kG (qC.mk 1 ((a:Nat):Int) 0 kR))) 0)))],[]⟩
 refine jB<|kx [(2,(.ref 0 0))] [(0,some (bx (jD (jO.mk kR kR))))] (zN (qW 0 qL qR)<|zZ) ?_
 refine jB<|kx [] [(0,some (bx (jD (jP (bv.getD a z2)))))] (zE (nC gS)<|zE (oFc yD)<|zE (nC gI)<|zE (oXm uW jP a z2 (hj:=by first | omega | rfl | (dsimp only;omega)) (h1:=by first | omega | rfl | (dsimp only;omega)))<|zE (gN jY)<|zT (qF jY)<|zZ) ?_
 refine jG ⟨_,(kJ (cs:=(bx (jD (jP (bv.getD a z2))))) (d:=(jD (jP (bv.getD a z2)))) rfl rfl jY rfl rfl .nil),?_⟩
 rfl
theorem j_gV(wp:jZ)(i:Nat)(a:Nat)(zz:R2)(hzz:GL 3 zz):jS Tryz.prog 191 [(wp),(.val (.int .i64 (((i:Nat):Int)))),(.cptr 1000000 (jZ.cells (kG (qC.mk 1 ((a:Nat):Int) 0 kR))) 0),(.cptr 1000000 (jZ.cells (jD (jP zz))) 0)] (jD (jP (if ((i:Nat):Int)=((a:Nat):Int) then gw 1 else zz))):=by
 refine jJ Tryz.func191 rfl cb191 rfl ?_
 show qM _ _ _ _ ⟨[(0,(.d (wp))),(1,(jK i)),(2,(.d (.cptr 1000000 (jZ.cells (kG (qC.mk 1 ((a:Nat):Int) 0 kR))) 0))),(3,(.d (.cptr 1000000 (jZ.cells (jD (jP zz))) 0)))],[]⟩
 refine jB<|kx [(6,(.ref 0 0))] [(0,some (bx (jD (jO.mk kR kR))))] (zN (qW 0 qL qR)<|zZ) ?_
 refine jB<|jB<|kx [(10,(vb (((i:Nat):Int) == ((a:Nat):Int))))] [] (zM<|zE (oFc yD)<|zE (nC gI)<|zE xR<|zZ) ?_
 refine jH (b:=(((i:Nat):Int) == ((a:Nat):Int))) rfl (fun h1=>?_) (fun h1=>?_)
 ·replace h1:=eq_of_beq h1
  refine jB<|kx [] [(0,some (bx (jD (jP (gw 1)))))] (zE (kA (cF 1 (by omega) (by omega)))<|zT (qF jY)<|zZ) ?_
  refine jG ⟨_,(kJ (cs:=(bx (jD (jP (gw 1))))) (d:=(jD (jP (gw 1)))) rfl rfl jY rfl rfl .nil),?_⟩
  rw[if_pos h1];rfl
 ·replace h1:=ne_of_beq_false h1
  refine jF<|jB<|kx [] [(0,some (bx (jD (jP zz))))] (zE (gN jY)<|zT (qF jY)<|zZ) ?_
  refine jG ⟨_,(kJ (cs:=(bx (jD (jP zz)))) (d:=(jD (jP zz))) rfl rfl jY rfl rfl .nil),?_⟩
  rw[if_neg h1];rfl
theorem j_vM(n:Nat)(u:JV)(hu:nF 1048576 n u)(v:JV)(hv:nF 1048576 n v):jS Tryz.prog 195 [(.cptr 1000000 (jZ.cells (jC (jN u))) 0),(.cptr 1000000 (jZ.cells (jC (jN v))) 0)] (jD (jP (kO u.v v.v))):=by
 refine jJ Tryz.func195 rfl cb195 rfl ?_
 show qM _ _ _ _ ⟨[(0,(.d (.cptr 1000000 (jZ.cells (jC (jN u))) 0))),(1,(.d (.cptr 1000000 (jZ.cells (jC (jN v))) 0)))],[]⟩
 refine jB<|kx [(2,(.ref 0 0))] [(0,some (bx (jD (jO.mk kR kR))))] (zN (qW 0 qL qR)<|zZ) ?_
 refine jB<|kx [] [(0,some (bx (jD (jP (kO u.v v.v)))))] (zE (oFc yC)<|zE (gN jY)<|zE (oFc yC)<|zE (gN jY)<|zE (kA (j_mul u.v (qI hu.1 (by decide)) v.v (qI hv.1 (by decide))))<|zT (qF jY)<|zZ) ?_
 refine jG ⟨_,(kJ (cs:=(bx (jD (jP (kO u.v v.v))))) (d:=(jD (jP (kO u.v v.v)))) rfl rfl jY rfl rfl .nil),?_⟩
 rfl
theorem j_gM(wp:jZ)(i:Nat)(n:Nat)(u:JV)(hu:nF 1048576 n u)(v:JV)(hv:nF 1048576 n v)(hi:i<n):jS Tryz.prog 197 [(wp),(.val (.int .i64 (((i:Nat):Int)))),(.cptr 1000000 (jZ.cells (jC (jN u))) 0),(.cptr 1000000 (jZ.cells (jC (jN v))) 0)] (jD (jP (qU (kO u.v (v.g.getD i z2)) (kO v.v (u.g.getD i z2))))):=by
 have hul:=hu.2.2
 have hvl:=hv.2.2
 refine jJ Tryz.func197 rfl cb197 rfl ?_
 show qM _ _ _ _ ⟨[(0,(.d (wp))),(1,(jK i)),(2,(.d (.cptr 1000000 (jZ.cells (jC (jN u))) 0))),(3,(.d (.cptr 1000000 (jZ.cells (jC (jN v))) 0)))],[]⟩
 refine jB<|kx [(6,(.ref 0 0))] [(0,some (bx (jD (jO.mk kR kR))))] (zN (qW 0 qL qR)<|zZ) ?_
 refine jB<|kd [] [(0,some (bx (jD (jP (qU (kO u.v (v.g.getD i z2)) (kO v.v (u.g.getD i z2)))))))] mo (wE (oFc yC)<|wE (gN jY)<|wE (oFc uX)<|wE (nC gS)<|wM<|wE (oXm uW jP i z2)<|wE (gN jY)<|wE (kA (j_mul u.v (qI hu.1 (by decide)) (v.g.getD i z2) (qI (uT hv.2.1 (by decide) i) (by decide))))<|wE (oFc yC)<|wE (gN jY)<|wE (oFc uX)<|wE (nC gS)<|wM<|wE (oXm uW jP i z2)<|wE (gN jY)<|wE (kA (j_mul v.v (qI hv.1 (by decide)) (u.g.getD i z2) (qI (uT hu.2.1 (by decide) i) (by decide))))<|wE (kA (j_add (kO u.v (v.g.getD i z2)) (qI (yX (k:=2097152) hu.1 (uT hv.2.1 (by decide) i) (by decide)) (by decide)) (kO v.v (u.g.getD i z2)) (qI (yX (k:=2097152) hv.1 (uT hu.2.1 (by decide) i) (by decide)) (by decide))))<|wT (qF jY)<|wZ) ?_
 refine jG ⟨_,(kJ (cs:=(bx (jD (jP (qU (kO u.v (v.g.getD i z2)) (kO v.v (u.g.getD i z2))))))) (d:=(jD (jP (qU (kO u.v (v.g.getD i z2)) (kO v.v (u.g.getD i z2)))))) rfl rfl jY rfl rfl .nil),?_⟩
 rfl
theorem j_vQ(n:Nat)(u:JV)(hu:nF 1048576 n u):jS Tryz.prog 199 [(.cptr 1000000 (jZ.cells (jC (jN u))) 0)] (jD (jP (aJ u.v))):=by
 refine jJ Tryz.func199 rfl cb199 rfl ?_
 show qM _ _ _ _ ⟨[(0,(.d (.cptr 1000000 (jZ.cells (jC (jN u))) 0)))],[]⟩
 refine jB<|kx [(1,(.ref 0 0))] [(0,some (bx (jD (jO.mk kR kR))))] (zN (qW 0 qL qR)<|zZ) ?_
 refine jB<|kx [] [(0,some (bx (jD (jP (aJ u.v)))))] (zE (oFc yC)<|zE (gN jY)<|zE (kA (j_sq u.v (qI hu.1 (by decide))))<|zT (qF jY)<|zZ) ?_
 refine jG ⟨_,(kJ (cs:=(bx (jD (jP (aJ u.v))))) (d:=(jD (jP (aJ u.v)))) rfl rfl jY rfl rfl .nil),?_⟩
 rfl
theorem j_gQ(wp:jZ)(i:Nat)(tt:R2)(htt:GL 3 tt)(n:Nat)(u:JV)(hu:nF 1048576 n u)(hi:i<n):jS Tryz.prog 201 [(wp),(.val (.int .i64 (((i:Nat):Int)))),(.cptr 1000000 (jZ.cells (jD (jP tt))) 0),(.cptr 1000000 (jZ.cells (jC (jN u))) 0)] (jD (jP (kO tt (kO u.v (u.g.getD i z2))))):=by
 have hul:=hu.2.2
 refine jJ Tryz.func201 rfl cb201 rfl ?_
 show qM _ _ _ _ ⟨[(0,(.d (wp))),(1,(jK i)),(2,(.d (.cptr 1000000 (jZ.cells (jD (jP tt))) 0))),(3,(.d (.cptr 1000000 (jZ.cells (jC (jN u))) 0)))],[]⟩
 refine jB<|kx [(6,(.ref 0 0))] [(0,some (bx (jD (jO.mk kR kR))))] (zN (qW 0 qL qR)<|zZ) ?_
 refine jB<|kd [] [(0,some (bx (jD (jP (kO tt (kO u.v (u.g.getD i z2)))))))] mo (wE (gN jY)<|wE (oFc yC)<|wE (gN jY)<|wE (oFc uX)<|wE (nC gS)<|wM<|wE (oXm uW jP i z2)<|wE (gN jY)<|wE (kA (j_mul u.v (qI hu.1 (by decide)) (u.g.getD i z2) (qI (uT hu.2.1 (by decide) i) (by decide))))<|wE (kA (j_mul tt (qI htt (by decide)) (kO u.v (u.g.getD i z2)) (qI (yX (k:=2097152) hu.1 (uT hu.2.1 (by decide) i) (by decide)) (by decide))))<|wT (qF jY)<|wZ) ?_
 refine jG ⟨_,(kJ (cs:=(bx (jD (jP (kO tt (kO u.v (u.g.getD i z2))))))) (d:=(jD (jP (kO tt (kO u.v (u.g.getD i z2)))))) rfl rfl jY rfl rfl .nil),?_⟩
 rfl
end Go.Proofs.YtnajallgoaiahaaGreatDoor
