/- Part 25 of a proof: rules, plain facts, and functions walked. -/
import Derived.Test.YtnajallgoaiahaaGreatDoorM20
import Derived.Test.YtnajallgoaiahaaGreatDoorM24
set_option linter.all false
set_option maxRecDepth 4000
namespace Go.Proofs.YtnajallgoaiahaaGreatDoor
open Go.Fid
theorem yH:vN Tryz.prog 34=some (24,1):=by kernel_rfl
theorem cF:qX Tryz.prog 24=some (false,1):=by kernel_rfl
theorem cH:qX Tryz.prog 34=some (false,1):=by kernel_rfl
theorem m_can1(x:jR)(p:Rat)(hx:hP x p 1048576):jO Tryz.prog 209 [(jJ x)] (.val (.bool ((!(kR x))))):=by
 refine qY Tryz.func209 ?_
 refine jB<|kx [(1,(.ref 0 0))] [(0,some (bx (jJ x)))] (zN (uU 0)<|zM<|zZ) ?_
 refine jB<|kx [(2,(vb (!(kR x))))] [] (zR (kJ jQ)<|zE (jV (cQ x p (jM hx)))<|zE gD<|zM<|zZ) ?_
 refine jE ⟨_,(.tmp (d:=(.val (.bool (!(kR x))))) rfl .nil),?_⟩
 rfl
theorem m_canAI(l:List jR)(hl:xN 1048576 l)(hb:l.length<=140737488355328):jO Tryz.prog 245 [(.sl 45 4 (List.map jJ l)),(.val (.func (.func 209) #[] #[]))] (.val (.int .i64 ((iS (fun x=>!(kR x)) l 0)))):=by
 refine qY Tryz.func245 ?_
 refine jB<|kx [] [] (zM<|zZ) ?_
 refine jB<|jB<|kx [(7,(jS l.length)),(8,(jS 0))] [] (zM<|zE (vP uQ)<|zM<|zZ) ?_
 refine jH<|kF (α:=Nat) (fun k=>⟨[(0,(vl 45 4 jJ l)),(1,(.d (.val (.func (.func 209) #[] #[])))),(7,(jS l.length)),(8,(jS k))],[]⟩) (fun k=>k<=l.length/\iS (fun x=>!(kR x)) l 0=iS (fun x=>!(kR x)) (l.drop k) k) (fun k=>l.length-k) 0 wk ⟨Nat.zero_le _,by rw[List.drop_zero]⟩ ?_
 rintro k ⟨hk,hv⟩
 refine jB<|kx [(9,(vb (decide (((k:Nat):Int)<((l.length:Nat):Int)))))] [] (zE xK<|zZ) ?_
 refine jB<|jG rfl (fun h1=>?_) (fun h1=>?_)
 ·replace h1:=uV h1
  refine jC<|jB<|jH<|jB<|kx [(5,(jS k))] [] (zM<|zM<|zZ) ?_
  refine jB<|kx [(16,(vb (!(kR (l.getD k kH)))))] [] (zM<|zM<|zM<|zE (yE uQ k kH)<|zE (yJ jQ)<|zE (jV (m_can1 (l.getD k kH) (qS (l.getD k kH)) (xL hl.1 (show k<l.length by omega))))<|zZ) ?_
  refine jG rfl (fun h2=>?_) (fun h2=>?_)
  ·have hix:=fst0_at (fun x=>!(kR x)) kH l k (by omega) h2
   refine jB<|kx [(4,(jS k))] [] (zM<|zM<|zZ) ?_
   refine jE ⟨_,(.tmp (d:=(.val (.int .i64 (((k:Nat):Int))))) rfl .nil),?_⟩
   rw[hv,hix];rfl
  ·have hix:=fst0_step (fun x=>!(kR x)) kH l k (by omega) h2
   refine jC<|kx [(8,(jS (k+1)))] [] (zE (vO (k+1))<|zM<|zZ) ?_
   exact ⟨(k+1),wk,⟨by omega,hv.trans hix⟩,(by omega)⟩
 ·replace h1:=vB h1
  have hix:=fst0_end (fun x=>!(kR x)) l k (by omega)
  refine kD<|jB<|kx [(4,(vi (-1)))] [] (zM<|zZ) ?_
  refine jE ⟨_,(.tmp (d:=(.val (.int .i64 (-1)))) rfl .nil),?_⟩
  rw[hv,hix];rfl
theorem m_canA(l:List jR)(hl:xN 1048576 l)(hb:l.length<=140737488355328):jO Tryz.prog 208 [(.sl 45 4 (List.map jJ l)),(.val (.func (.func 209) #[] #[]))] (.val (.bool ((l.any (fun x=>!(kR x)))))):=by
 refine qY Tryz.func208 ?_
 refine jB<|kx [] [] (zM<|zZ) ?_
 refine jB<|kx [(4,(vb (decide (0<=(iS (fun x=>!(kR x)) l 0)))))] [] (zM<|zM<|zE (jV (m_canAI l hl hb))<|zE oGe<|zM<|zZ) ?_
 refine jE ⟨_,(.tmp (d:=(.val (.bool (decide (0<=(iS (fun x=>!(kR x)) l 0)))))) rfl .nil),?_⟩
 rw[fst0_any];rfl
theorem m_can(l:List jR)(hl:xN 1048576 l)(hb:l.length<=140737488355328):jO Tryz.prog 129 [(.sl 45 4 (List.map jJ l))] (.val (.bool ((aN l)))):=by
 refine qY Tryz.func129 ?_
 refine jB<|kx [] [] (zM<|zZ) ?_
 refine jB<|kx [(2,(vb (!(l.any (fun x=>!(kR x))))))] [] (zM<|zE (jV (m_canA l hl hb))<|zE gD<|zM<|zZ) ?_
 refine jE ⟨_,(.tmp (d:=(.val (.bool (!(l.any (fun x=>!(kR x))))))) rfl .nil),?_⟩
 rw[vRow_any];rfl
theorem m_chk1(l:List jR)(hl:xN 1048576 l)(m:List (List jR))(hm:uY 1048576 m)(h0:0<m.length)(hlb:l.length<=140737488355328):jO Tryz.prog 128 [(.sl 45 4 (List.map jJ l)),(.cptr 1000000 (jZ.cells (.sl 24 1 (List.map jT m))) 0)] (.val (.bool ((yS m l)))):=by
 have hmb:=hm.2
 have hrb:=(vT (d:=[]) hm h0).2
 refine qY Tryz.func128 ?_
 refine jB<|kx [] [] (zM<|zZ) ?_
 refine jB<|kx [(3,(vb ((((l.length:Nat):Int) != (((m.getD 0 []).length:Nat):Int))||!(aN l))))] [] ?_ ?_
 ·refine zM<|zE (vP uQ)<|zE (yV cH)<|zE (yE yH 0 ([]:List (jR)))<|zE (yV cF)<|zE (vP uQ (L:=(m.getD 0 [])))<|zE mF<|zE (oV (vb (((l.length:Nat):Int) != (((m.getD 0 []).length:Nat):Int))) (qC (by kernel_rfl)))<|?_
  rcases hb1:(((l.length:Nat):Int) != (((m.getD 0 []).length:Nat):Int)) with _ | _
  ·replace hb1:=bne_eq_false_iff_eq.1 hb1
   exact zM<|zE (jV (m_can l hl hlb))<|zE gD<|zE dG<|zM<|zZ
  ·replace hb1:=bne_iff_ne.1 hb1
   exact zK<|zK<|zK<|zE yR<|zM<|zZ
 refine jE ⟨_,(.tmp (d:=(.val (.bool (((((l.length:Nat):Int) != (((m.getD 0 []).length:Nat):Int))||!(aN l)))))) rfl .nil),?_⟩
 rfl
theorem m_chkAI(l:List (List jR))(hl:uY 1048576 l)(m:List (List jR))(hm:uY 1048576 m)(hb:l.length<=140737488355328)(h0:0<m.length):jO Tryz.prog 207 [(.sl 24 1 (List.map jT l)),(.clo 128 [(.cptr 1000000 (jZ.cells (.sl 24 1 (List.map jT m))) 0)])] (.val (.int .i64 ((iS (yS m) l 0)))):=by
 refine qY Tryz.func207 ?_
 refine jB<|kx [] [] (zM<|zZ) ?_
 refine jB<|jB<|kx [(7,(jS l.length)),(8,(jS 0))] [] (zM<|zE (vP yH)<|zM<|zZ) ?_
 refine jH<|kF (α:=Nat) (fun k=>⟨[(0,(vl 24 1 jT l)),(1,(.d (.clo 128 [(.cptr 1000000 (jZ.cells (.sl 24 1 (List.map jT m))) 0)]))),(7,(jS l.length)),(8,(jS k))],[]⟩) (fun k=>k<=l.length/\iS (yS m) l 0=iS (yS m) (l.drop k) k) (fun k=>l.length-k) 0 wk ⟨Nat.zero_le _,by rw[List.drop_zero]⟩ ?_
 rintro k ⟨hk,hv⟩
 refine jB<|kx [(9,(vb (decide (((k:Nat):Int)<((l.length:Nat):Int)))))] [] (zE xK<|zZ) ?_
 refine jB<|jG rfl (fun h1=>?_) (fun h1=>?_)
 ·replace h1:=uV h1
  have hrl:=(vT (d:=[]) hl (show k<l.length by omega)).2
  refine jC<|jB<|jH<|jB<|kx [(5,(jS k))] [] (zM<|zM<|zZ) ?_
  refine jB<|kx [(16,(vb (yS m (l.getD k []))))] [] (zM<|zM<|zM<|zE (yE yH k ([]:List (jR)))<|zE (yV cF)<|zE (oCd (ds:=[(.sl 45 4 (List.map jJ (l.getD k [])))]) (caps:=[(.cptr 1000000 (jZ.cells (.sl 24 1 (List.map jT m))) 0)]) (m_chk1 (l.getD k []) (vT (d:=[]) hl (show k<l.length by omega)) m hm h0 (by first | assumption | omega)))<|zZ) ?_
  refine jG (b:=(yS m (l.getD k []))) rfl (fun h2=>?_) (fun h2=>?_)
  ·have hix:=fst0_at (yS m) [] l k (by omega) h2
   refine jB<|kx [(4,(jS k))] [] (zM<|zM<|zZ) ?_
   refine jE ⟨_,(.tmp (d:=(.val (.int .i64 (((k:Nat):Int))))) rfl .nil),?_⟩
   rw[hv,hix];rfl
  ·have hix:=fst0_step (yS m) [] l k (by omega) h2
   refine jC<|kx [(8,(jS (k+1)))] [] (zE (vO (k+1))<|zM<|zZ) ?_
   exact ⟨(k+1),wk,⟨by omega,hv.trans hix⟩,(by omega)⟩
 ·replace h1:=vB h1
  have hix:=fst0_end (yS m) l k (by omega)
  refine kD<|jB<|kx [(4,(vi (-1)))] [] (zM<|zZ) ?_
  refine jE ⟨_,(.tmp (d:=(.val (.int .i64 (-1)))) rfl .nil),?_⟩
  rw[hv,hix];rfl
theorem m_chkA(l:List (List jR))(hl:uY 1048576 l)(m:List (List jR))(hm:uY 1048576 m)(hb:l.length<=140737488355328)(h0:0<m.length):jO Tryz.prog 127 [(.sl 24 1 (List.map jT l)),(.clo 128 [(.cptr 1000000 (jZ.cells (.sl 24 1 (List.map jT m))) 0)])] (.val (.bool ((l.any (yS m))))):=by
 refine qY Tryz.func127 ?_
 refine jB<|kx [] [] (zM<|zZ) ?_
 refine jB<|kx [(4,(vb (decide (0<=(iS (yS m) l 0)))))] [] (zM<|zM<|zE (jV (m_chkAI l hl m hm hb h0))<|zE oGe<|zM<|zZ) ?_
 refine jE ⟨_,(.tmp (d:=(.val (.bool (decide (0<=(iS (yS m) l 0)))))) rfl .nil),?_⟩
 rw[fst0_any];rfl
theorem m_chk(m:List (List jR))(hm:uY 1048576 m):jO Tryz.prog 72 [(.sl 24 1 (List.map jT m))] (.val (.int .i64 ((((mZ m):Nat):Int)))):=by
 have hmb:=hm.2
 refine qY Tryz.func72 ?_
 refine jB<|kx [(1,(.ref 0 0))] [(0,some (bx (.sl 24 1 (List.map jT m))))] (zN (uU 0)<|zM<|zZ) ?_
 refine jB<|jB<|kx [(24,(vb (((decide (((m.length:Nat):Int)<1)||decide (64<((m.length:Nat):Int)))||decide ((((m.getD 0 []).length:Nat):Int)<1))||decide (64<(((m.getD 0 []).length:Nat):Int)))))] [] ?_ ?_
 ·refine zR (uE cH)<|zE (vP yH)<|zE xK<|zE (oV (vb (decide (((m.length:Nat):Int)<1))) (qC (by kernel_rfl)))<|?_
  rcases hb1:(decide (((m.length:Nat):Int)<1)) with _ | _
  ·replace hb1:=vB hb1
   refine zR (uE cH)<|zE (vP yH)<|zE hH<|zE dG<|zE (oV (vb (false||decide (64<((m.length:Nat):Int)))) (qC (by kernel_rfl)))<|?_
   rcases hb2:(false||decide (64<((m.length:Nat):Int))) with _ | _
   ·replace hb2:=vB (p:=(64<((m.length:Nat):Int))) hb2
    refine zR (uE cH)<|zE (yE yH 0 ([]:List (jR)))<|zE (yV cF)<|zE (vP uQ (L:=(m.getD 0 [])))<|zE xK<|zE dG<|zE (oV (vb (false||decide ((((m.getD 0 []).length:Nat):Int)<1))) (qC (by kernel_rfl)))<|?_
    rcases hb3:(false||decide ((((m.getD 0 []).length:Nat):Int)<1)) with _ | _
    ·replace hb3:=vB (p:=((((m.getD 0 []).length:Nat):Int)<1)) hb3
     exact zR (uE cH)<|zE (yE yH 0 ([]:List (jR)))<|zE (yV cF)<|zE (vP uQ (L:=(m.getD 0 [])))<|zE hH<|zE dG<|zZ
    ·replace hb3:=uV (p:=((((m.getD 0 []).length:Nat):Int)<1)) hb3
     exact zK<|zK<|zK<|zK<|zK<|zE yR<|zZ
   ·replace hb2:=uV (p:=(64<((m.length:Nat):Int))) hb2
    exact zK<|zK<|zK<|zK<|zK<|zE yR<|zM<|zK<|zK<|zK<|zK<|zK<|zE yR<|zZ
  ·replace hb1:=uV hb1
   exact zK<|zK<|zK<|zE yR<|zM<|zK<|zK<|zK<|zK<|zK<|zE yR<|zM<|zK<|zK<|zK<|zK<|zK<|zE yR<|zZ
 refine jG rfl (fun h4=>?_) (fun h4=>?_)
 ·refine jB<|kx [(2,(jS 1))] [] (zM<|zZ) ?_
  refine jE ⟨_,(.tmp (d:=(.val (.int .i64 (1)))) rfl .nil),?_⟩
  rw[mchk_1 h4];rfl
 ·have h0:=shp_0 h4
  refine jC<|jB<|jB<|kx [(27,(vb (m.any (yS m))))] [] (zR (uE cH)<|zE (oMf [0])<|zC (oCg [(0,(jZ.cells (.sl 24 1 (List.map jT m))))] [(vl 24 1 jT m),(.clo 128 [0])] (m_chkA m hm m hm (by assumption) (by omega)) (.d (.c (css:=[(jZ.cells (.sl 24 1 (List.map jT m)))]) (.cons (.head _) .nil) .nil)) (.val _))<|zZ) ?_
  refine jG (b:=(m.any (yS m))) rfl (fun h5=>?_) (fun h5=>?_)
  ·refine jB<|kx [(2,(jS 1))] [] (zM<|zZ) ?_
   refine jE ⟨_,(.tmp (d:=(.val (.int .i64 (1)))) rfl .nil),?_⟩
   rw[mchk_2 h5];rfl
  ·refine jC<|jB<|kx [(2,(jS 0))] [] (zM<|zZ) ?_
   refine jE ⟨_,(.tmp (d:=(.val (.int .i64 (0)))) rfl .nil),?_⟩
   rw[mchk_3 h4 h5];rfl
theorem m_dot(l:List jR)(hl:xN 1048576 l)(m:List jR)(hm:xN 1048576 m)(hlm:l.length=m.length)(hl4:l.length<=64):jO Tryz.prog 246 [(.sl 45 4 (List.map jJ l)),(.sl 45 4 (List.map jJ m))] (jJ (jN (dotR l m))):=by
 have hlb:=hl.2
 have hmb:=hm.2
 let y1:=kH
 refine qY Tryz.func246 ?_
 refine jB<|kx [(4,(.ref 0 0))] [(0,some (bx (jJ y1)))] (zN (qR 0 qZ uG)<|zZ) ?_
 refine jB<|kx [(5,(.ref 1 0))] [(1,some (bx (jJ (jN ((0:Int):Rat)))))] (zE (jV (bM 0))<|zN (qR 1 qZ uG)<|zT (qA jQ)<|zZ) ?_
 refine jB<|jB<|kx [(9,(vl 45 4 jJ l)),(10,(jS l.length)),(11,(jS 0))] [] (zM<|zE (vP uQ)<|zM<|zZ) ?_
 refine jH<|kF (α:=Nat × Rat) (fun (i,s)=>⟨[(1,(vl 45 4 jJ m)),(4,(.ref 0 0)),(5,(.ref 1 0)),(9,(vl 45 4 jJ l)),(10,(jS l.length)),(11,(jS i))],[(0,some (bx (jJ y1))),(1,some (bx (jJ (jN s))))]⟩) (fun (i,s)=>i<=l.length/\s=lD l m i) (fun (i,s)=>l.length-i) (0,0) wk ⟨Nat.zero_le _,rfl⟩ ?_
 rintro ⟨i,s⟩ ⟨hi,hs⟩
 have hql:QL s 134217800:=hs▸dot_ql1 hl hm (by omega)
 refine jB<|kx [(12,(vb (decide (((i:Nat):Int)<((l.length:Nat):Int)))))] [] (zE xK<|zZ) ?_
 refine jB<|jG rfl (fun h1=>?_) (fun h1=>?_)
 ·replace h1:=uV h1
  refine jC<|jB<|jH<|jB<|kx [(6,(jS i)),(7,(.ref 2 0))] [(2,some (bx (jJ (l.getD i y1))))] (zM<|zE (yE uQ i y1)<|zE (yJ jQ)<|zN (qR 2 qZ uG)<|zM<|zT (qA jQ)<|zZ) ?_
  refine jB<|kx [(26,(vb (((mJ (qS (l.getD i y1))) != 0)&&((mJ (qS (m.getD i y1))) != 0))))] [] ?_ ?_
  ·refine zR (kJ jQ)<|zE (jV (f_sign (l.getD i y1) (qS (l.getD i y1)) (jM (xL hl.1 (show i<l.length by omega)))))<|zE mF<|zE (oV (vb ((mJ (qS (l.getD i y1))) != 0)) (qC (by kernel_rfl)))<|?_
   rcases hb2:((mJ (qS (l.getD i kH))) != 0) with _ | _
   ·replace hb2:=bne_eq_false_iff_eq.1 hb2
    exact zK<|zK<|zK<|zK<|zK<|zK<|zE xQ<|zZ
   ·replace hb2:=bne_iff_ne.1 hb2
    exact zM<|zM<|zE (yE uQ i y1)<|zE (yJ jQ)<|zE (jV (f_sign (m.getD i y1) (qS (m.getD i y1)) (jM (xL hm.1 (show i<m.length by omega)))))<|zE mF<|zE fR<|zZ
  refine jG rfl (fun h3=>?_) (fun h3=>?_)
  ·refine kd [] [(1,some (bx (jJ (jN (s+((qS (l.getD i y1))*(qS (m.getD i y1))))))))] mo (wR (kJ jQ)<|wR (kJ jQ)<|wM<|wM<|wE (yE uQ i y1)<|wE (yJ jQ)<|wE (jV (fK (l.getD i y1) (m.getD i y1) (qS (l.getD i y1)) (qS (m.getD i y1)) (jM (xL hl.1 (show i<l.length by omega))) (jM (xL hm.1 (show i<m.length by omega)))))<|wE (jV (f_add (jN s) (jN ((qS (l.getD i y1))*(qS (m.getD i y1)))) s ((qS (l.getD i y1))*(qS (m.getD i y1))) (jM (jW hql)) (jM (jW (qD (k:=2097152) (xL hl.1 (show i<l.length by omega)).ql (xL hm.1 (show i<m.length by omega)).ql)))))<|wT (qA jQ)<|wZ) ?_
   refine kx [(11,(jS (i+1)))] [] (zE (vO (i+1))<|zM<|zZ) ?_
   exact ⟨(i+1,s+(qS (l.getD i kH))*(qS (m.getD i kH))),wk,⟨by omega,by rw[hs];rfl⟩,(by first|omega|(dsimp only;omega))⟩
  ·refine jC<|kx [(11,(jS (i+1)))] [] (zE (vO (i+1))<|zM<|zZ) ?_
   exact ⟨(i+1,s),wk,⟨by omega,hs.trans (dotT_skip (dot_sk h3))⟩,(by first|omega|(dsimp only;omega))⟩
 ·replace h1:=vB h1
  refine kD<|jB<|kx [] [(0,some (bx (jJ (jN s))))] (zR (kJ jQ)<|zT (qA jQ)<|zZ) ?_
  refine jE ⟨_,(kI (cs:=(bx (jJ (jN s)))) (d:=(jJ (jN s))) rfl rfl jQ rfl rfl .nil),?_⟩
  obtain rfl:i=l.length:=by omega
  rw[hs];rfl
theorem m_Dot(l:List jR)(hl:xN 1048576 l)(m:List jR)(hm:xN 134217800 m)(hlm:l.length=m.length)(hl4:l.length<=64):jO Tryz.prog 132 [(.sl 45 4 (List.map jJ l)),(.sl 45 4 (List.map jJ m))] (.tup [(jJ (jN (dotR l m))),(.val (.int .i64 (((0:Nat):Int))))]):=by
 have hlb:=hl.2
 have hmb:=hm.2
 let y1:=kH
 refine qY Tryz.func132 ?_
 refine jB<|kx [(4,(.ref 0 0))] [(0,some (bx (jJ y1)))] (zN (qR 0 qZ uG)<|zM<|zZ) ?_
 refine jB<|jB<|kx [(13,(vb false))] [] (zM<|zE (vP uQ)<|zM<|zE (vP uQ)<|zE (uP false mF (by exact bne_eq_false_iff_eq.2 (congrArg (fun z:Nat=>(z:Int)) hlm)))<|zZ) ?_
 refine kM ?_
 refine jC<|jB<|kx [(6,(.ref 1 0))] [(1,some (bx (jJ (jN ((0:Int):Rat)))))] (zE (jV (bM 0))<|zN (qR 1 qZ uG)<|zT (qA jQ)<|zZ) ?_
 refine jB<|jB<|kx [(16,(vl 45 4 jJ l)),(17,(jS l.length)),(18,(jS 0))] [] (zM<|zE (vP uQ)<|zM<|zZ) ?_
 refine jH<|kF (α:=Nat × Rat) (fun (i,s)=>⟨[(1,(vl 45 4 jJ m)),(4,(.ref 0 0)),(6,(.ref 1 0)),(16,(vl 45 4 jJ l)),(17,(jS l.length)),(18,(jS i))],[(0,some (bx (jJ y1))),(1,some (bx (jJ (jN s))))]⟩) (fun (i,s)=>i<=l.length/\s=lD l m i) (fun (i,s)=>l.length-i) (0,0) wk ⟨Nat.zero_le _,rfl⟩ ?_
 rintro ⟨i,s⟩ ⟨hi,hs⟩
 have hql:QL s 8800000000:=hs▸dot_ql2 hl hm (by omega)
 refine jB<|kx [(19,(vb (decide (((i:Nat):Int)<((l.length:Nat):Int)))))] [] (zE xK<|zZ) ?_
 refine jB<|jG rfl (fun h1=>?_) (fun h1=>?_)
 ·replace h1:=uV h1
  refine jC<|jB<|jH<|jB<|kx [(7,(jS i)),(8,(.ref 2 0))] [(2,some (bx (jJ (l.getD i y1))))] (zM<|zE (yE uQ i y1)<|zE (yJ jQ)<|zN (qR 2 qZ uG)<|zM<|zT (qA jQ)<|zZ) ?_
  refine kd [] [(1,some (bx (jJ (jN (s+((qS (l.getD i y1))*(qS (m.getD i y1))))))))] mo (wR (kJ jQ)<|wR (kJ jQ)<|wM<|wM<|wE (yE uQ i y1)<|wE (yJ jQ)<|wE (jV (fK (l.getD i y1) (m.getD i y1) (qS (l.getD i y1)) (qS (m.getD i y1)) (jM (xL hl.1 (show i<l.length by omega))) (jM (xL hm.1 (show i<m.length by omega)))))<|wE (jV (f_add (jN s) (jN ((qS (l.getD i y1))*(qS (m.getD i y1)))) s ((qS (l.getD i y1))*(qS (m.getD i y1))) (jM (jW hql)) (jM (jW (qD (k:=135266376) (xL hl.1 (show i<l.length by omega)).ql (xL hm.1 (show i<m.length by omega)).ql)))))<|wT (qA jQ)<|wZ) ?_
  refine kx [(18,(jS (i+1)))] [] (zE (vO (i+1))<|zM<|zZ) ?_
  exact ⟨(i+1,s+(qS (l.getD i kH))*(qS (m.getD i kH))),wk,⟨by omega,by rw[hs];rfl⟩,(by first|omega|(dsimp only;omega))⟩
 ·replace h1:=vB h1
  refine kD<|jB<|kx [(5,(jS 0))] [(0,some (bx (jJ (jN s))))] (zR (kJ jQ)<|zT (qA jQ)<|zM<|zZ) ?_
  refine jE ⟨_,(kI (cs:=(bx (jJ (jN s)))) (d:=(jJ (jN s))) rfl rfl jQ rfl rfl (.tmp (d:=(.val (.int .i64 (0)))) rfl .nil)),?_⟩
  obtain rfl:i=l.length:=by omega
  rw[hs];rfl
theorem m_app(m:List (List jR))(hm:uY 1048576 m)(v:List jR)(hv:xN 1048576 v)(hc:∀ r∈m,r.length=v.length)(hv4:v.length<=64)(hm6:m.length<=64):jO Tryz.prog 213 [(.sl 24 1 (List.map jT m)),(.sl 45 4 (List.map jJ v))] (.sl 45 4 (List.map jJ (appR m v))):=by
 have hmb:=hm.2
 have hvb:=hv.2
 refine qY Tryz.func213 ?_
 refine jB<|kx [] [] (zE (aZ 45 4)<|zZ) ?_
 refine jB<|kx [(5,(.own 0 45 4 0))] [(0,some (yU jJ []))] (zO 0 45 4<|zZ) ?_
 refine jB<|jB<|kx [(8,(vl 24 1 jT m)),(9,(jS m.length)),(10,(jS 0))] [] (zM<|zE (vP yH)<|zM<|zZ) ?_
 refine jH<|kF (α:=Nat × List jR) (fun (i,o)=>⟨[(1,(vl 45 4 jJ v)),(5,(.own 0 45 4 o.length)),(8,(vl 24 1 jT m)),(9,(jS m.length)),(10,(jS i))],[(0,some (yU jJ o))]⟩) (fun (i,o)=>i<=m.length/\o=(m.take i).map (fun r=>jN (dotR r v))) (fun (i,o)=>m.length-i) (0,[]) wk ⟨Nat.zero_le _,by simp⟩ ?_
 rintro ⟨i,o⟩ ⟨hi,ho⟩
 have hol:o.length=i:=by rw[ho,List.length_map,List.length_take];omega
 refine jB<|kx [(11,(vb (decide (((i:Nat):Int)<((m.length:Nat):Int)))))] [] (zE xK<|zZ) ?_
 refine jB<|jG rfl (fun h1=>?_) (fun h1=>?_)
 ·replace h1:=uV h1
  have hcl:=mcol_at hc (show i<m.length by omega)
  refine jC<|jB<|jH<|jB<|kx [(7,(vl 45 4 jJ (m.getD i [])))] [] (zE (yE yH i ([]:List (jR)))<|zE (yV cF)<|zM<|zZ) ?_
  refine kf [(5,(.own 0 45 4 ((o++[(jN (dotR (m.getD i []) v))]).length)))] [(0,some (yU jJ (o++[(jN (dotR (m.getD i []) v))])))] (zM<|zM<|zM<|zE (jV (m_dot (m.getD i []) (vT (d:=[]) hm (show i<m.length by omega)) v hv (by omega) (by omega)))<|zE (eE uQ qZ uG)<|zAS jJ o [(jN (dotR (m.getD i []) v))] rfl uQ qZ by45<|zM<|zF) ?_
  refine kx [(10,(jS (i+1)))] [] (zE (vO (i+1))<|zM<|zZ) ?_
  exact ⟨(i+1,o++[jN (dotR (m.getD i []) v)]),wk,⟨by omega,by rw[ho];exact appR_step (by omega)⟩,(by first|omega|(dsimp only;omega))⟩
 ·replace h1:=vB h1
  refine kD<|jB<|kx [(4,(.own 0 45 4 o.length))] [] (zM<|zM<|zZ) ?_
  refine kU (xC (t:=4) (k:=0) (es:=List.map jJ o) rfl rfl (gC _ _ (fun _=>rfl)) (uW _ _ rfl) (hZ jJ o (fun _=>rfl) rfl)) ?_
  refine jE ⟨_,(.tmp (d:=(.sl 45 4 (List.map jJ o))) rfl .nil),?_⟩
  rw[ho,show i=m.length by omega,List.take_length];rfl
theorem m_apl1(m:List (List jR))(hm:uY 1048576 m)(h0:0<m.length):jO Tryz.prog 212 [(.cptr 1000000 (jZ.cells (.sl 24 1 (List.map jT m))) 0)] (.val (.int .i64 (((((m).getD 0 []).length:Nat):Int)))):=by
 have hmb:=hm.2
 have hrb:=(vT (d:=[]) hm h0).2
 refine qY Tryz.func212 ?_
 refine jB<|kx [] [] (zM<|zZ) ?_
 refine jB<|kx [(1,(jS ((m.getD 0 []).length)))] [] (zE (yV cH)<|zE (yE yH 0 ([]:List (jR)))<|zE (yV cF)<|zE (vP uQ (L:=(m.getD 0 [])))<|zM<|zZ) ?_
 refine jE ⟨_,(.tmp (d:=(.val (.int .i64 ((((m.getD 0 []).length:Nat):Int))))) rfl .nil),?_⟩
 rfl
theorem m_list(m:List (List jR))(hm:uY 1048576 m)(v:List jR)(hv:xN 1048576 v)(q:List (List jR))(hq:uY 1048576 q)(hr:yL m m.length v.length)(hvv:aN v=true)(hq0:(q.getD 0 []).length=v.length)(hqm:0<q.length):jO Tryz.prog 211 [(.sl 24 1 (List.map jT m)),(.sl 45 4 (List.map jJ v)),(.clo 212 [(.cptr 1000000 (jZ.cells (.sl 24 1 (List.map jT q))) 0)])] (.val (.int .i64 (((0:Nat):Int)))):=by
 have hvb:=hv.2
 have hc0:=aM hr
 have hmb:=hr.r64
 refine qY Tryz.func211 ?_
 refine jB<|kx [] [] (zM<|zZ) ?_
 refine jB<|jB<|kx [(7,(jS (mZ m)))] [] (zM<|zE (jV (m_chk m hm))<|zM<|zZ) ?_
 refine jB<|kx [(11,(vb false))] [] (zM<|zE (uP false mF (by exact bne_eq_false_iff_eq.2 (by rw[show (mZ m)=0 from hc0]<;>rfl)))<|zZ) ?_
 refine kM ?_
 refine jC<|jB<|jB<|kx [(15,(vb false))] [] (zM<|zE (uP true (jV (m_can v hv (by assumption))) (by exact hvv))<|zE gD<|zZ) ?_
 refine kM ?_
 refine jC<|jB<|jB<|kx [(20,(vb false))] [] (zM<|zE (vP uQ)<|zM<|zE (oCd (ds:=[]) (caps:=[(.cptr 1000000 (jZ.cells (.sl 24 1 (List.map jT q))) 0)]) (m_apl1 q hq hqm))<|zE (uP false mF (by exact bne_eq_false_iff_eq.2 (congrArg (fun z:Nat=>(z:Int)) hq0.symm)))<|zZ) ?_
 refine kM ?_
 refine jC<|jB<|kx [(6,(jS 0))] [] (zM<|zZ) ?_
 refine jE ⟨_,(.tmp (d:=(.val (.int .i64 (((0:Nat):Int))))) rfl .nil),?_⟩
 rfl
theorem m_aply(m:List (List jR))(hm:uY 1048576 m)(v:List jR)(hv:xN 1048576 v)(hr:yL m m.length v.length)(hvv:aN v=true):jO Tryz.prog 131 [(.sl 24 1 (List.map jT m)),(.sl 45 4 (List.map jJ v))] (.tup [(.sl 45 4 (List.map jJ (appR m v))),(.val (.int .i64 (((0:Nat):Int))))]):=by
 have hvb:=hv.2
 have hmb:=hr.r64
 have hm1:=hr.r1
 have hv64:=hr.c64
 have hq0:=(hr.at (i:=0) hm1).1
 refine qY Tryz.func131 ?_
 refine jB<|kx [(2,(.ref 0 0))] [(0,some (bx (.sl 24 1 (List.map jT m))))] (zN (uU 0)<|zE (aZ 45 4)<|zM<|zZ) ?_
 refine jB<|jB<|kx [(6,(jS 0))] [] (zR (uE cH)<|zM<|zE (oMf [0])<|zC (oCg [(0,(jZ.cells (.sl 24 1 (List.map jT m))))] [(vl 24 1 jT m),(vl 45 4 jJ v),(.clo 212 [0])] (m_list m hm v hv m hm hr hvv (by assumption) (by omega)) (.d (.d (.c (css:=[(jZ.cells (.sl 24 1 (List.map jT m)))]) (.cons (.head _) .nil) .nil))) (.val _))<|zM<|zZ) ?_
 refine jB<|kx [(12,(vb false))] [] (zM<|zE (uP false mF)<|zZ) ?_
 refine kM ?_
 refine jC<|jB<|kx [(4,(vl 45 4 jJ (appR m v))),(5,(jS 0))] [] (zR (uE cH)<|zM<|zE (jV (m_app m hm v hv (fun r h=>(hr.hc r h).1) (by omega) (by omega)))<|zM<|zM<|zZ) ?_
 refine jE ⟨_,(.tmp (d:=(.sl 45 4 (List.map jJ (appR m v)))) rfl (.tmp (d:=(.val (.int .i64 (((0:Nat):Int))))) rfl .nil)),?_⟩
 rfl
theorem m_cov(m:List (List jR))(hm:uY 1048576 m)(a:List jR)(ha:xN 1048576 a)(v:List jR)(hv:xN 1048576 v)(hr:yL m m.length v.length)(hvv:aN v=true)(hal:a.length=m.length)(hvl:v.length=m.length):jO Tryz.prog 75 [(.sl 24 1 (List.map jT m)),(.sl 45 4 (List.map jJ a)),(.sl 45 4 (List.map jJ v))] (jJ (jN (fG m a v))):=by
 have hab:=ha.2
 have hvb:=hv.2
 have hmb:=hr.r64
 have hm1:=hr.r1
 have hv64:=hr.c64
 have hpl:=appR_len m v
 refine qY Tryz.func75 ?_
 refine jB<|kx [(6,(.ref 0 0))] [(0,some (bx (jJ kH)))] (zN (qR 0 qZ uG)<|zZ) ?_
 refine jB<|kx [(7,(vl 45 4 jJ (appR m v)))] [] (zM<|zM<|zE (jV (m_aply m hm v hv hr hvv))<|zM<|zE uX<|zE uX<|zM<|zM<|zZ) ?_
 refine jB<|kx [(9,(.ref 1 0))] [(1,some (bx (jJ (jN (dotR a (appR m v))))))] (zM<|zM<|zE (jV (m_Dot a ha (appR m v) (appR_ok hm hv (mcol_le (fun r h=>(hr.hc r h).1) hr.c64)) (hal.trans hpl.symm) (by omega)))<|zM<|zE uX<|zE uX<|zN (qR 1 qZ uG)<|zT (qA jQ)<|zM<|zZ) ?_
 refine jB<|kx [] [(0,some (bx (jJ (jN (dotR a (appR m v))))))] (zR (kJ jQ)<|zT (qA jQ)<|zZ) ?_
 refine jE ⟨_,(kI (cs:=(bx (jJ (jN (dotR a (appR m v)))))) (d:=(jJ (jN (dotR a (appR m v))))) rfl rfl jQ rfl rfl .nil),?_⟩
 rfl
theorem cb203:callB Tryz.prog 203=true:=by kernel_rfl
theorem cb204:callB Tryz.prog 204=true:=by kernel_rfl
theorem cb205:callB Tryz.prog 205=true:=by kernel_rfl
theorem gS:xV Tryz.prog 83 1=some 1:=by kernel_rfl
theorem dP:xV Tryz.prog 83 3=some 3:=by kernel_rfl
theorem zJ:xV Tryz.prog 95 0=some 0:=by kernel_rfl
theorem xO:xV Tryz.prog 95 1=some 8:=by kernel_rfl
theorem fo161_2:xV Tryz.prog 161 2=some 2:=by kernel_rfl
theorem sh70:qX Tryz.prog 70=some (false,1):=by kernel_rfl
theorem cB:qX Tryz.prog 86=some (false,1):=by kernel_rfl
theorem fE:qX Tryz.prog 159=some (false,1):=by kernel_rfl
theorem j_round(n:Nat)(x:jZ)(a:R2)(ha:GL 67108864 a):jO Tryz.prog 243 [(.cptr 1000000 (jZ.cells (mcA n x false)) 0),(jF (jY a))] (jF (jY a)):=by
 refine qY Tryz.func243 ?_
 refine jB<|kx [(3,(.ref 0 0)),(4,(.ref 1 0))] [(0,some (bx (jF (jY a)))),(1,some (bx (jF (jL.mk kH kH))))] (zN (uU 0)<|zN (qR 1 qJ qL)<|zZ) ?_
 refine jB<|jB<|kx [(9,(vb true))] [] (zM<|zE oNd<|zE (oFc fo161_2)<|zE (yV cL)<|zE (uP true xK)<|zZ) ?_
 refine uI ?_
 refine jB<|kx [] [(1,some (bx (jF (jY a))))] (zR (kJ jP)<|zT (qA jP)<|zZ) ?_
 refine jE ⟨_,(kI (cs:=(bx (jF (jY a)))) (d:=(jF (jY a))) rfl rfl jP rfl rfl .nil),?_⟩
 rfl
theorem j_negop(a:R2)(ha:GL 67108864 a)(b:R2)(hb:GL 67108864 b)(zz:R2)(hzz:GL 3 zz):jO Tryz.prog 194 [(jF (jY a)),(jF (jY b)),(.cptr 1000000 (jZ.cells (jF (jY zz))) 0)] (jF (jY (uR zz a))):=by
 refine qY Tryz.func194 ?_
 refine jB<|kx [(3,(.ref 0 0)),(5,(.ref 2 0))] [(0,some (bx (jF (jY a)))),(2,some (bx (jF (jL.mk kH kH)))),(1,none)] (zN (uU 0)<|zN (uU 1)<|zN (qR 2 qJ qL)<|zZ) ?_
 refine jB<|kx [] [(2,some (bx (jF (jY (uR zz a)))))] (zE (yJ jP)<|zR (kJ jP)<|zE (jV (j_sub zz (kW hzz) a ha))<|zT (qA jP)<|zZ) ?_
 refine jE ⟨_,(kI (cs:=(bx (jF (jY (uR zz a))))) (d:=(jF (jY (uR zz a)))) rfl rfl jP rfl rfl .nil),?_⟩
 rfl
theorem j_vAdd(n:Nat)(u:JV)(hu:nZ 1048576 n u)(v:JV)(hv:nZ 1048576 n v):jO Tryz.prog 185 [(.cptr 1000000 (jZ.cells (.val (.func (.func 192) #[] #[]))) 0),(.cptr 1000000 (jZ.cells (jI (qW u))) 0),(.cptr 1000000 (jZ.cells (jI (qW v))) 0)] (jF (jY (vJ u.v v.v))):=by
 refine qY Tryz.func185 ?_
 refine jB<|kx [(3,(.ref 0 0))] [(0,some (bx (jF (jL.mk kH kH))))] (zN (qR 0 qJ qL)<|zZ) ?_
 refine jB<|kx [] [(0,some (bx (jF (jY (vJ u.v v.v)))))] (zE (yV sh70)<|zE (oFc zJ)<|zE (yJ jP)<|zE (oFc zJ)<|zE (yJ jP)<|zE (jV (j_add u.v (kW hu.1) v.v (kW hv.1)))<|zT (qA jP)<|zZ) ?_
 refine jE ⟨_,(kI (cs:=(bx (jF (jY (vJ u.v v.v))))) (d:=(jF (jY (vJ u.v v.v)))) rfl rfl jP rfl rfl .nil),?_⟩
 rfl
theorem j_gAdd(wp:jZ)(i:Nat)(n:Nat)(u:JV)(hu:nZ 1048576 n u)(v:JV)(hv:nZ 1048576 n v)(hi:i<n):jO Tryz.prog 186 [(wp),(.val (.int .i64 (((i:Nat):Int)))),(.cptr 1000000 (jZ.cells (.val (.func (.func 192) #[] #[]))) 0),(.cptr 1000000 (jZ.cells (jI (qW u))) 0),(.cptr 1000000 (jZ.cells (jI (qW v))) 0)] (jF (jY (vJ (u.g.getD i z2) (v.g.getD i z2)))):=by
 have hul:=hu.2.2
 have hvl:=hv.2.2
 refine qY Tryz.func186 ?_
 refine jB<|kx [(7,(.ref 0 0))] [(0,some (bx (jF (jL.mk kH kH))))] (zN (qR 0 qJ qL)<|zZ) ?_
 refine jB<|kd [] [(0,some (bx (jF (jY (vJ (u.g.getD i z2) (v.g.getD i z2))))))] mo (wE (yV sh70)<|wE (oFc xO)<|wE (yV cB)<|wM<|wE (bC uA jY i z2)<|wE (yJ jP)<|wE (oFc xO)<|wE (yV cB)<|wM<|wE (bC uA jY i z2)<|wE (yJ jP)<|wE (jV (j_add (u.g.getD i z2) (kW (kZ hu.2.1 (by decide) i)) (v.g.getD i z2) (kW (kZ hv.2.1 (by decide) i))))<|wT (qA jP)<|wZ) ?_
 refine jE ⟨_,(kI (cs:=(bx (jF (jY (vJ (u.g.getD i z2) (v.g.getD i z2)))))) (d:=(jF (jY (vJ (u.g.getD i z2) (v.g.getD i z2))))) rfl rfl jP rfl rfl .nil),?_⟩
 rfl
theorem j_vSub(n:Nat)(u:JV)(hu:nZ 1048576 n u)(v:JV)(hv:nZ 1048576 n v):jO Tryz.prog 185 [(.cptr 1000000 (jZ.cells (.val (.func (.func 193) #[] #[]))) 0),(.cptr 1000000 (jZ.cells (jI (qW u))) 0),(.cptr 1000000 (jZ.cells (jI (qW v))) 0)] (jF (jY (uR u.v v.v))):=by
 refine qY Tryz.func185 ?_
 refine jB<|kx [(3,(.ref 0 0))] [(0,some (bx (jF (jL.mk kH kH))))] (zN (qR 0 qJ qL)<|zZ) ?_
 refine jB<|kx [] [(0,some (bx (jF (jY (uR u.v v.v)))))] (zE (yV sh70)<|zE (oFc zJ)<|zE (yJ jP)<|zE (oFc zJ)<|zE (yJ jP)<|zE (jV (j_sub u.v (kW hu.1) v.v (kW hv.1)))<|zT (qA jP)<|zZ) ?_
 refine jE ⟨_,(kI (cs:=(bx (jF (jY (uR u.v v.v))))) (d:=(jF (jY (uR u.v v.v)))) rfl rfl jP rfl rfl .nil),?_⟩
 rfl
theorem j_gSub(wp:jZ)(i:Nat)(n:Nat)(u:JV)(hu:nZ 1048576 n u)(v:JV)(hv:nZ 1048576 n v)(hi:i<n):jO Tryz.prog 186 [(wp),(.val (.int .i64 (((i:Nat):Int)))),(.cptr 1000000 (jZ.cells (.val (.func (.func 193) #[] #[]))) 0),(.cptr 1000000 (jZ.cells (jI (qW u))) 0),(.cptr 1000000 (jZ.cells (jI (qW v))) 0)] (jF (jY (uR (u.g.getD i z2) (v.g.getD i z2)))):=by
 have hul:=hu.2.2
 have hvl:=hv.2.2
 refine qY Tryz.func186 ?_
 refine jB<|kx [(7,(.ref 0 0))] [(0,some (bx (jF (jL.mk kH kH))))] (zN (qR 0 qJ qL)<|zZ) ?_
 refine jB<|kd [] [(0,some (bx (jF (jY (uR (u.g.getD i z2) (v.g.getD i z2))))))] mo (wE (yV sh70)<|wE (oFc xO)<|wE (yV cB)<|wM<|wE (bC uA jY i z2)<|wE (yJ jP)<|wE (oFc xO)<|wE (yV cB)<|wM<|wE (bC uA jY i z2)<|wE (yJ jP)<|wE (jV (j_sub (u.g.getD i z2) (kW (kZ hu.2.1 (by decide) i)) (v.g.getD i z2) (kW (kZ hv.2.1 (by decide) i))))<|wT (qA jP)<|wZ) ?_
 refine jE ⟨_,(kI (cs:=(bx (jF (jY (uR (u.g.getD i z2) (v.g.getD i z2)))))) (d:=(jF (jY (uR (u.g.getD i z2) (v.g.getD i z2))))) rfl rfl jP rfl rfl .nil),?_⟩
 rfl
theorem j_vNeg(n:Nat)(u:JV)(hu:nZ 1048576 n u)(v:JV)(hv:nZ 1048576 n v):jO Tryz.prog 185 [(.cptr 1000000 (jZ.cells (.clo 194 [(.cptr 1000000 (jZ.cells (jF (jY (gw 0)))) 0)])) 0),(.cptr 1000000 (jZ.cells (jI (qW u))) 0),(.cptr 1000000 (jZ.cells (jI (qW v))) 0)] (jF (jY (uR (gw 0) u.v))):=by
 refine qY Tryz.func185 ?_
 refine jB<|kx [(3,(.ref 0 0))] [(0,some (bx (jF (jL.mk kH kH))))] (zN (qR 0 qJ qL)<|zZ) ?_
 refine jB<|kx [] [(0,some (bx (jF (jY (uR (gw 0) u.v)))))] (zE (yV sh70)<|zE (oFc zJ)<|zE (yJ jP)<|zE (oFc zJ)<|zE (yJ jP)<|zE (oCd (ds:=[(jF (jY u.v)),(jF (jY v.v))]) (caps:=[(.cptr 1000000 (jZ.cells (jF (jY (gw 0)))) 0)]) (j_negop u.v (kW hu.1) v.v (kW hv.1) (gw 0) (gl_w (z:=0) (by omega) (by omega))))<|zT (qA jP)<|zZ) ?_
 refine jE ⟨_,(kI (cs:=(bx (jF (jY (uR (gw 0) u.v))))) (d:=(jF (jY (uR (gw 0) u.v)))) rfl rfl jP rfl rfl .nil),?_⟩
 rfl
theorem j_gNeg(wp:jZ)(i:Nat)(n:Nat)(u:JV)(hu:nZ 1048576 n u)(v:JV)(hv:nZ 1048576 n v)(hi:i<n):jO Tryz.prog 186 [(wp),(.val (.int .i64 (((i:Nat):Int)))),(.cptr 1000000 (jZ.cells (.clo 194 [(.cptr 1000000 (jZ.cells (jF (jY (gw 0)))) 0)])) 0),(.cptr 1000000 (jZ.cells (jI (qW u))) 0),(.cptr 1000000 (jZ.cells (jI (qW v))) 0)] (jF (jY (uR (gw 0) (u.g.getD i z2)))):=by
 have hul:=hu.2.2
 have hvl:=hv.2.2
 refine qY Tryz.func186 ?_
 refine jB<|kx [(7,(.ref 0 0))] [(0,some (bx (jF (jL.mk kH kH))))] (zN (qR 0 qJ qL)<|zZ) ?_
 refine jB<|kd [] [(0,some (bx (jF (jY (uR (gw 0) (u.g.getD i z2))))))] mo (wE (yV sh70)<|wE (oFc xO)<|wE (yV cB)<|wM<|wE (bC uA jY i z2)<|wE (yJ jP)<|wE (oFc xO)<|wE (yV cB)<|wM<|wE (bC uA jY i z2)<|wE (yJ jP)<|wE (oCd (ds:=[(jF (jY (u.g.getD i z2))),(jF (jY (v.g.getD i z2)))]) (caps:=[(.cptr 1000000 (jZ.cells (jF (jY (gw 0)))) 0)]) (j_negop (u.g.getD i z2) (kW (kZ hu.2.1 (by decide) i)) (v.g.getD i z2) (kW (kZ hv.2.1 (by decide) i)) (gw 0) (gl_w (z:=0) (by omega) (by omega))))<|wT (qA jP)<|wZ) ?_
 refine jE ⟨_,(kI (cs:=(bx (jF (jY (uR (gw 0) (u.g.getD i z2)))))) (d:=(jF (jY (uR (gw 0) (u.g.getD i z2))))) rfl rfl jP rfl rfl .nil),?_⟩
 rfl
theorem j_vC(p:Rat)(hp:QL p 1048576):jO Tryz.prog 188 [(.cptr 1000000 (jZ.cells (kS (qB.mk 0 0 0 (jN p)))) 0)] (jF (jY (yX p))):=by
 refine qY Tryz.func188 ?_
 refine jB<|kx [(1,(.ref 0 0))] [(0,some (bx (jF (jL.mk kH kH))))] (zN (qR 0 qJ qL)<|zZ) ?_
 refine jB<|kx [] [(0,some (bx (jF (jL.mk (jN p) (jN p)))))] (zE (oFc dP)<|zE (yJ jQ)<|zE (oFc dP)<|zE (yJ jQ)<|zE (eD iJ qJ qL)<|zT (qA jP)<|zZ) ?_
 refine jE ⟨_,(kI (cs:=(bx (jF (jL.mk (jN p) (jN p))))) (d:=(jF (jL.mk (jN p) (jN p)))) rfl rfl jP rfl rfl .nil),?_⟩
 rfl
theorem j_gC(wp:jZ)(i:Nat)(zz:R2)(hzz:GL 3 zz):jO Tryz.prog 189 [(wp),(.val (.int .i64 (((i:Nat):Int)))),(.cptr 1000000 (jZ.cells (jF (jY zz))) 0)] (jF (jY zz)):=by
 refine qY Tryz.func189 ?_
 refine jB<|kx [(5,(.ref 0 0))] [(0,some (bx (jF (jL.mk kH kH))))] (zN (qR 0 qJ qL)<|zZ) ?_
 refine jB<|kx [] [(0,some (bx (jF (jY zz))))] (zE (yJ jP)<|zT (qA jP)<|zZ) ?_
 refine jE ⟨_,(kI (cs:=(bx (jF (jY zz)))) (d:=(jF (jY zz))) rfl rfl jP rfl rfl .nil),?_⟩
 rfl
theorem j_vV(bv:List R2)(hbx:∀ x∈bv,GL 1048576 x)(a:Nat)(ha:a<bv.length)(hbl:bv.length<=1000000):jO Tryz.prog 190 [(.cptr 1000000 (jZ.cells (.sl 61 8 (List.map jF (List.map jY bv)))) 0),(.cptr 1000000 (jZ.cells (kS (qB.mk 1 ((a:Nat):Int) 0 kH))) 0)] (jF (jY (bv.getD a z2))):=by
 refine qY Tryz.func190 ?_
 refine jB<|kx [(2,(.ref 0 0))] [(0,some (bx (jF (jL.mk kH kH))))] (zN (qR 0 qJ qL)<|zZ) ?_
 refine jB<|kx [] [(0,some (bx (jF (jY (bv.getD a z2)))))] (zE (yV cB)<|zE (oFc gS)<|zE (yV cL)<|zE (bC uA jY a z2 (hj:=by first | omega | rfl | (dsimp only;omega)) (h1:=by first | omega | rfl | (dsimp only;omega)))<|zE (yJ jP)<|zT (qA jP)<|zZ) ?_
 refine jE ⟨_,(kI (cs:=(bx (jF (jY (bv.getD a z2))))) (d:=(jF (jY (bv.getD a z2)))) rfl rfl jP rfl rfl .nil),?_⟩
 rfl
theorem j_gV(wp:jZ)(i:Nat)(a:Nat)(zz:R2)(hzz:GL 3 zz):jO Tryz.prog 191 [(wp),(.val (.int .i64 (((i:Nat):Int)))),(.cptr 1000000 (jZ.cells (kS (qB.mk 1 ((a:Nat):Int) 0 kH))) 0),(.cptr 1000000 (jZ.cells (jF (jY zz))) 0)] (jF (jY (if ((i:Nat):Int)=((a:Nat):Int) then gw 1 else zz))):=by
 refine qY Tryz.func191 ?_
 refine jB<|kx [(6,(.ref 0 0))] [(0,some (bx (jF (jL.mk kH kH))))] (zN (qR 0 qJ qL)<|zZ) ?_
 refine jB<|jB<|kx [(10,(vb (((i:Nat):Int) == ((a:Nat):Int))))] [] (zM<|zE (oFc gS)<|zE (yV cL)<|zE xR<|zZ) ?_
 refine jG (b:=(((i:Nat):Int) == ((a:Nat):Int))) rfl (fun h1=>?_) (fun h1=>?_)
 ·replace h1:=eq_of_beq h1
  refine jB<|kx [] [(0,some (bx (jF (jY (gw 1)))))] (zE (jV (j_whole 1 (by omega) (by omega)))<|zT (qA jP)<|zZ) ?_
  refine jE ⟨_,(kI (cs:=(bx (jF (jY (gw 1))))) (d:=(jF (jY (gw 1)))) rfl rfl jP rfl rfl .nil),?_⟩
  rw[if_pos h1];rfl
 ·replace h1:=ne_of_beq_false h1
  refine jC<|jB<|kx [] [(0,some (bx (jF (jY zz))))] (zE (yJ jP)<|zT (qA jP)<|zZ) ?_
  refine jE ⟨_,(kI (cs:=(bx (jF (jY zz)))) (d:=(jF (jY zz))) rfl rfl jP rfl rfl .nil),?_⟩
  rw[if_neg h1];rfl
theorem j_vM(n:Nat)(u:JV)(hu:nZ 1048576 n u)(v:JV)(hv:nZ 1048576 n v):jO Tryz.prog 195 [(.cptr 1000000 (jZ.cells (jI (qW u))) 0),(.cptr 1000000 (jZ.cells (jI (qW v))) 0)] (jF (jY (qP u.v v.v))):=by
 refine qY Tryz.func195 ?_
 refine jB<|kx [(2,(.ref 0 0))] [(0,some (bx (jF (jL.mk kH kH))))] (zN (qR 0 qJ qL)<|zZ) ?_
 refine jB<|kx [] [(0,some (bx (jF (jY (qP u.v v.v)))))] (zE (oFc zJ)<|zE (yJ jP)<|zE (oFc zJ)<|zE (yJ jP)<|zE (jV (j_mul u.v (kW hu.1) v.v (kW hv.1)))<|zT (qA jP)<|zZ) ?_
 refine jE ⟨_,(kI (cs:=(bx (jF (jY (qP u.v v.v))))) (d:=(jF (jY (qP u.v v.v)))) rfl rfl jP rfl rfl .nil),?_⟩
 rfl
theorem j_gM(wp:jZ)(i:Nat)(n:Nat)(u:JV)(hu:nZ 1048576 n u)(v:JV)(hv:nZ 1048576 n v)(hi:i<n):jO Tryz.prog 197 [(wp),(.val (.int .i64 (((i:Nat):Int)))),(.cptr 1000000 (jZ.cells (jI (qW u))) 0),(.cptr 1000000 (jZ.cells (jI (qW v))) 0)] (jF (jY (vJ (qP u.v (v.g.getD i z2)) (qP v.v (u.g.getD i z2))))):=by
 have hul:=hu.2.2
 have hvl:=hv.2.2
 refine qY Tryz.func197 ?_
 refine jB<|kx [(6,(.ref 0 0))] [(0,some (bx (jF (jL.mk kH kH))))] (zN (qR 0 qJ qL)<|zZ) ?_
 refine jB<|kd [] [(0,some (bx (jF (jY (vJ (qP u.v (v.g.getD i z2)) (qP v.v (u.g.getD i z2)))))))] mo (wE (oFc zJ)<|wE (yJ jP)<|wE (oFc xO)<|wE (yV cB)<|wM<|wE (bC uA jY i z2)<|wE (yJ jP)<|wE (jV (j_mul u.v (kW hu.1) (v.g.getD i z2) (kW (kZ hv.2.1 (by decide) i))))<|wE (oFc zJ)<|wE (yJ jP)<|wE (oFc xO)<|wE (yV cB)<|wM<|wE (bC uA jY i z2)<|wE (yJ jP)<|wE (jV (j_mul v.v (kW hv.1) (u.g.getD i z2) (kW (kZ hu.2.1 (by decide) i))))<|wE (jV (j_add (qP u.v (v.g.getD i z2)) (kW (xJ (k:=2097152) hu.1 (kZ hv.2.1 (by decide) i))) (qP v.v (u.g.getD i z2)) (kW (xJ (k:=2097152) hv.1 (kZ hu.2.1 (by decide) i)))))<|wT (qA jP)<|wZ) ?_
 refine jE ⟨_,(kI (cs:=(bx (jF (jY (vJ (qP u.v (v.g.getD i z2)) (qP v.v (u.g.getD i z2))))))) (d:=(jF (jY (vJ (qP u.v (v.g.getD i z2)) (qP v.v (u.g.getD i z2)))))) rfl rfl jP rfl rfl .nil),?_⟩
 rfl
theorem j_vQ(n:Nat)(u:JV)(hu:nZ 1048576 n u):jO Tryz.prog 199 [(.cptr 1000000 (jZ.cells (jI (qW u))) 0)] (jF (jY (gsq u.v))):=by
 refine qY Tryz.func199 ?_
 refine jB<|kx [(1,(.ref 0 0))] [(0,some (bx (jF (jL.mk kH kH))))] (zN (qR 0 qJ qL)<|zZ) ?_
 refine jB<|kx [] [(0,some (bx (jF (jY (gsq u.v)))))] (zE (oFc zJ)<|zE (yJ jP)<|zE (jV (j_sq u.v (kW hu.1)))<|zT (qA jP)<|zZ) ?_
 refine jE ⟨_,(kI (cs:=(bx (jF (jY (gsq u.v))))) (d:=(jF (jY (gsq u.v)))) rfl rfl jP rfl rfl .nil),?_⟩
 rfl
theorem j_gQ(wp:jZ)(i:Nat)(tt:R2)(htt:GL 3 tt)(n:Nat)(u:JV)(hu:nZ 1048576 n u)(hi:i<n):jO Tryz.prog 201 [(wp),(.val (.int .i64 (((i:Nat):Int)))),(.cptr 1000000 (jZ.cells (jF (jY tt))) 0),(.cptr 1000000 (jZ.cells (jI (qW u))) 0)] (jF (jY (qP tt (qP u.v (u.g.getD i z2))))):=by
 have hul:=hu.2.2
 refine qY Tryz.func201 ?_
 refine jB<|kx [(6,(.ref 0 0))] [(0,some (bx (jF (jL.mk kH kH))))] (zN (qR 0 qJ qL)<|zZ) ?_
 refine jB<|kd [] [(0,some (bx (jF (jY (qP tt (qP u.v (u.g.getD i z2)))))))] mo (wE (yJ jP)<|wE (oFc zJ)<|wE (yJ jP)<|wE (oFc xO)<|wE (yV cB)<|wM<|wE (bC uA jY i z2)<|wE (yJ jP)<|wE (jV (j_mul u.v (kW hu.1) (u.g.getD i z2) (kW (kZ hu.2.1 (by decide) i))))<|wE (jV (j_mul tt (kW htt) (qP u.v (u.g.getD i z2)) (kW (xJ (k:=2097152) hu.1 (kZ hu.2.1 (by decide) i)))))<|wT (qA jP)<|wZ) ?_
 refine jE ⟨_,(kI (cs:=(bx (jF (jY (qP tt (qP u.v (u.g.getD i z2))))))) (d:=(jF (jY (qP tt (qP u.v (u.g.getD i z2)))))) rfl rfl jP rfl rfl .nil),?_⟩
 rfl
theorem j_div(n:Nat)(x:jZ)(a:R2)(ha:GL 67108864 a)(b:R2)(hb:GL 67108864 b)(hz:xH b.1 b.2=false):jO Tryz.prog 204 [(.cptr 1000000 (jZ.cells (mcA n x false)) 0),(jF (jY a)),(jF (jY b))] (jF (jY (mN a b))):=by
 let y1:=(bx (jF (jL.mk (jN (hC (a.1 / b.1) [(a.1 / b.2),(a.2 / b.1),(a.2 / b.2)])) (jN (nY (a.1 / b.1) [(a.1 / b.2),(a.2 / b.1),(a.2 / b.2)])))))
 refine qY Tryz.func204 ?_
 refine jB<|kx [(4,(.ref 0 0)),(5,(.ref 1 0)),(6,(.ref 2 0))] [(0,some (bx (jF (jY a)))),(1,some (bx (jF (jY b)))),(2,some (bx (jF (jL.mk kH kH))))] (zN (uU 0)<|zN (uU 1)<|zN (qR 2 qJ qL)<|zZ) ?_
 refine jB<|kx [(7,(.ref 3 0)),(8,(vi 0))] [(3,some y1)] (zR (kJ jP)<|zR (kJ jP)<|zE (jV (i_divide a.1 a.2 b.1 b.2 (qG ha.1) (qG ha.2.1) (qG hb.1) (qG hb.2.1) ha.2.2 hb.2.2 hz))<|zM<|zE uX<|zE uX<|zN (qR 3 qJ qL)<|zT (qA jP)<|zM<|zZ) ?_
 refine jB<|jB<|kx [(16,(vb false))] [] (zM<|zE mF<|zZ) ?_
 refine kM ?_
 refine jC<|jB<|kx [] [(2,some y1)] (zR (kJ jP)<|zT (qA jP)<|zZ) ?_
 refine jE ⟨_,(kI (cs:=y1) (d:=(jF (jL.mk (jN (hC (a.1 / b.1) [(a.1 / b.2),(a.2 / b.1),(a.2 / b.2)])) (jN (nY (a.1 / b.1) [(a.1 / b.2),(a.2 / b.1),(a.2 / b.2)]))))) rfl rfl jP rfl rfl .nil),?_⟩
 rfl
theorem j_vD(n:Nat)(x:jZ)(u:JV)(hu:nZ 1048576 n u)(v:JV)(hv:nZ 1048576 n v)(hz:xH v.v.1 v.v.2=false):jO Tryz.prog 203 [(.cptr 1000000 (jZ.cells (.cptr 1000000 (jZ.cells (mcA n x false)) 0)) 0),(.cptr 1000000 (jZ.cells (jI (qW u))) 0),(.cptr 1000000 (jZ.cells (jI (qW v))) 0)] (jF (jY (mN u.v v.v))):=by
 refine qY Tryz.func203 ?_
 refine jB<|kx [(3,(.ref 0 0))] [(0,some (bx (jF (jL.mk kH kH))))] (zN (qR 0 qJ qL)<|zZ) ?_
 refine jB<|kx [] [(0,some (bx (jF (jY (mN u.v v.v)))))] (zE (yV fE)<|zE (oFc zJ)<|zE (yJ jP)<|zE (oFc zJ)<|zE (yJ jP)<|zE (jV (j_div n (x) u.v (kW hu.1) v.v (kW hv.1) hz))<|zT (qA jP)<|zZ) ?_
 refine jE ⟨_,(kI (cs:=(bx (jF (jY (mN u.v v.v))))) (d:=(jF (jY (mN u.v v.v)))) rfl rfl jP rfl rfl .nil),?_⟩
 rfl
theorem j_gD(w:R2)(hw:GL 2097152 w)(y z:jZ)(i:Nat)(n:Nat)(x:jZ)(u:JV)(hu:nZ 1048576 n u)(v:JV)(hv:nZ 1048576 n v)(hz:xH v.v.1 v.v.2=false)(hi:i<n):jO Tryz.prog 205 [(.cptr 1000000 (jZ.cells (.agg (jZ.cells (jF (jY w))++[(y),(z)]))) 0),(.val (.int .i64 (((i:Nat):Int)))),(.cptr 1000000 (jZ.cells (.cptr 1000000 (jZ.cells (mcA n x false)) 0)) 0),(.cptr 1000000 (jZ.cells (jI (qW u))) 0),(.cptr 1000000 (jZ.cells (jI (qW v))) 0)] (jF (jY (mN (uR (u.g.getD i z2) (qP w (v.g.getD i z2))) v.v))):=by
 have hul:=hu.2.2
 have hvl:=hv.2.2
 refine qY Tryz.func205 ?_
 refine jB<|kx [(7,(.ref 0 0))] [(0,some (bx (jF (jL.mk kH kH))))] (zN (qR 0 qJ qL)<|zZ) ?_
 refine jB<|kd [] [(0,some (bx (jF (jY (mN (uR (u.g.getD i z2) (qP w (v.g.getD i z2))) v.v)))))] mo (wE (yV fE)<|wE (oFc xO)<|wE (yV cB)<|wM<|wE (bC uA jY i z2)<|wE (yJ jP)<|wM<|wE oNd<|wE (oFc zJ)<|wE (yJ jP)<|wE (oFc xO)<|wE (yV cB)<|wM<|wE (bC uA jY i z2)<|wE (yJ jP)<|wE (jV (j_mul w (kW hw) (v.g.getD i z2) (kW (kZ hv.2.1 (by decide) i))))<|wE (jV (j_sub (u.g.getD i z2) (kW (kZ hu.2.1 (by decide) i)) (qP w (v.g.getD i z2)) (kW (xJ (k:=3145728) hw (kZ hv.2.1 (by decide) i)))))<|wE (oFc zJ)<|wE (yJ jP)<|wE (jV (j_div n (x) (uR (u.g.getD i z2) (qP w (v.g.getD i z2))) (kW (aY (k:=4194305) (kZ hu.2.1 (by decide) i) (xJ (k:=3145728) hw (kZ hv.2.1 (by decide) i)))) v.v (kW hv.1) hz))<|wT (qA jP)<|wZ) ?_
 refine jE ⟨_,(kI (cs:=(bx (jF (jY (mN (uR (u.g.getD i z2) (qP w (v.g.getD i z2))) v.v))))) (d:=(jF (jY (mN (uR (u.g.getD i z2) (qP w (v.g.getD i z2))) v.v)))) rfl rfl jP rfl rfl .nil),?_⟩
 rfl
end Go.Proofs.YtnajallgoaiahaaGreatDoor
