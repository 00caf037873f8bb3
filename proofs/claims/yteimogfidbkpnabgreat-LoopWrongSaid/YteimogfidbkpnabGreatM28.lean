/- Part 28 of a proof: rules, plain facts, and functions walked. -/
import Derived.Test.YteimogfidbkpnabGreatM26
import Derived.Test.YteimogfidbkpnabGreatM25
import Derived.Test.YteimogfidbkpnabGreatM27
import Derived.Test.YteimogfidbkpnabGreatM20
set_option linter.all false
set_option maxRecDepth 4000
namespace Go.Proofs.YteimogfidbkpnabGreat
open Go.Fid
theorem cb59:callB Tryz.prog 59=true:=by kernel_rfl
theorem el95:uK Tryz.prog 95=some (4,1):=by kernel_rfl
theorem sh22:kS Tryz.prog 22=some (false,1):=by kernel_rfl
theorem sh31:kS Tryz.prog 31=some (false,1):=by kernel_rfl
theorem sh37:kS Tryz.prog 37=some (false,1):=by kernel_rfl
theorem sh95:kS Tryz.prog 95=some (false,1):=by kernel_rfl
theorem sh96:kS Tryz.prog 96=some (false,1):=by kernel_rfl
theorem e_flwS(node:Nat)(kn:List Bool)(es:List jC)(out:List jB)(n f:Nat)(heo:xI n es)(hn:n≤64)(hl2:es.length≤256)(hpr0:FwPre n es (f+1) node kn out)(ih:∀ (node:Nat) (kn:List Bool) (out:List jB),FwPre n es f node kn out→eO Tryz.prog 59 [(jT node),(.ref 0 0),(.ref 2 0),(.ref 3 0),(.ref 4 0),(.ref 6 0)] [(0,some [(.own 1 4 1 n)]),(1,some (bm uC kn)),(2,some (bx (.sl 3 1 (List.map jO (jN n es))))),(3,some (bx (.sl 36 6 (List.map jP es)))),(4,some [(.own 5 24 4 n)]),(5,some (vX jF out)),(6,some [(.clo 59 [0,2,3,4,6])])] (.d (.val (.int .i64 ((((yU es (jN n es) f node kn out).1:Nat):Int))))) [(0,some [(.own 1 4 1 n)]),(1,some (bm uC ((yU es (jN n es) f node kn out).2.1))),(2,some (bx (.sl 3 1 (List.map jO (jN n es))))),(3,some (bx (.sl 36 6 (List.map jP es)))),(4,some [(.own 5 24 4 n)]),(5,some (vX jF ((yU es (jN n es) f node kn out).2.2))),(6,some [(.clo 59 [0,2,3,4,6])])]):eO Tryz.prog 59 [(jT node),(.ref 0 0),(.ref 2 0),(.ref 3 0),(.ref 4 0),(.ref 6 0)] [(0,some [(.own 1 4 1 n)]),(1,some (bm uC kn)),(2,some (bx (.sl 3 1 (List.map jO (jN n es))))),(3,some (bx (.sl 36 6 (List.map jP es)))),(4,some [(.own 5 24 4 n)]),(5,some (vX jF out)),(6,some [(.clo 59 [0,2,3,4,6])])] (.d (.val (.int .i64 ((((yU es (jN n es) (f+1) node kn out).1:Nat):Int))))) [(0,some [(.own 1 4 1 n)]),(1,some (bm uC ((yU es (jN n es) (f+1) node kn out).2.1))),(2,some (bx (.sl 3 1 (List.map jO (jN n es))))),(3,some (bx (.sl 36 6 (List.map jP es)))),(4,some [(.own 5 24 4 n)]),(5,some (vX jF ((yU es (jN n es) (f+1) node kn out).2.2))),(6,some [(.clo 59 [0,2,3,4,6])])]:=by
 have h0:=FwIn_0 hpr0
 have hkl0:kn.length=n:=hpr0.fi.1
 have hnn:node<n:=hpr0.nd
 have htl:(jN n es).length≤es.length:=tTak_len _ _ _ _
 let y2:=(bx (.sl 36 6 (List.map jP es)))
 let y1:=(bx (.sl 3 1 (List.map jO (jN n es))))
 refine fn_introS Tryz.func59 rfl cb59 rfl ?_
 show qU _ _ _ _ ⟨[(0,(jT node)),(1,(.ref 0 0)),(2,(.ref 2 0)),(3,(.ref 3 0)),(4,(.ref 4 0)),(5,(.ref 6 0))],[(0,some [(.own 1 4 1 n)]),(1,some (bm uC kn)),(2,some y1),(3,some y2),(4,some [(.own 5 24 4 n)]),(5,some (vX jF out)),(6,some [(.clo 59 [0,2,3,4,6])])]⟩
 refine jA<|kx [] [] (zM<|zZ) ?_
 refine jA<|kx [] [(1,some (bm uC (kn.set node true)))] (zR (kP sh95)<|zM<|zE (eR el95 node)<|zT (oSp dJ node true)<|zZ) ?_
 refine jA<|jA<|kx [(17,(vl 3 1 jO (jN n es))),(18,(jT ((jN n es).length))),(19,(jT 0))] [] (zR (kP sh37)<|zE (xD vF (L:=(jN n es)))<|zM<|zZ) ?_
 refine jH<|kI (α:=Nat × List Bool × List jB) (fun (k,kk,oo)=>⟨[(0,(jT node)),(1,(.ref 0 0)),(2,(.ref 2 0)),(3,(.ref 3 0)),(4,(.ref 4 0)),(5,(.ref 6 0)),(17,(vl 3 1 jO (jN n es))),(18,(jT ((jN n es).length))),(19,(jT k))],[(0,some [(.own 1 4 1 n)]),(1,some (bm uC kk)),(2,some y1),(3,some y2),(4,some [(.own 5 24 4 n)]),(5,some (vX jF oo)),(6,some [(.clo 59 [0,2,3,4,6])])]⟩) (fun (k,kk,oo)=>k≤(jN n es).length∧gN es (jN n es) (yU es (jN n es) f) node (kn.set node true) out k=(0,kk,oo)∧FwIn n es f node (kn.set node true) kk oo) (fun (k,kk,oo)=>(jN n es).length-k) (0,(kn.set node true),out) wk ⟨Nat.zero_le _,rfl,h0⟩ ?_
 rintro ⟨k,kk,oo⟩ ⟨hk,hf,hi⟩
 have hkl:kk.length=n:=hi.fi.1
 have hol:oo.length=n:=hi.fi.2.1.1
 have hon:=(hi.fi.2.1.at heo hnn (hi.fi.2.2 node hnn hi.nd)).1
 refine jA<|kx [(20,(vb (decide (((k:Nat):Int)<(((jN n es).length:Nat):Int)))))] [] (zE uM<|zZ) ?_
 refine jA<|jG rfl (fun h1=>?_) (fun h1=>?_)
 ·replace h1:=uW h1
  obtain ⟨i_,hil,htm,him⟩:=tre_at (n:=n) (es:=es) (k:=k) (by omega)
  have hix:i_=((jN n es).getD k 0).toNat:=by rw[htm];rfl
  subst hix
  have hei:EOkE n (es.getD ((jN n es).getD k 0).toNat (jC.mk 0 0 (jB.mk 0 0 0 0))):=gR heo hil
  obtain ⟨hei1,hei2,hei3,hei4,hei5,hei6⟩:=id hei
  refine jE<|jA<|jH<|jA<|kx [(9,(vi ((jN n es).getD k 0)))] [] (zE (gV vF k (0:Int) (L:=(jN n es)))<|zE (nG qF)<|zM<|zZ) ?_
  refine jA<|kx [(10,(.ref 7 0))] [(7,some (bx (jP (es.getD ((((jN n es).getD k 0)).toNat) (jC.mk 0 0 (jB.mk 0 0 0 0))))))] (zR (kP sh31)<|zM<|zE (gV mI ((((jN n es).getD k 0)).toNat) (jC.mk 0 0 (jB.mk 0 0 0 0)))<|zE (oCa cX)<|zH (uQ 7 ze36 zo36)<|zT (qA cX)<|zZ) ?_
  refine jA<|kd [(11,(.ref 8 0)),(12,(vi ((es.getD ((((jN n es).getD k 0)).toNat) (jC.mk 0 0 (jB.mk 0 0 0 0))).fr))),(13,(jT 0))] [(8,some (bx (jF ((es.getD ((((jN n es).getD k 0)).toNat) (jC.mk 0 0 (jB.mk 0 0 0 0))).turn))))] mo (wE (kV fo36_2)<|wR (kY kL)<|wE (kV yH)<|wR (kP qF)<|wH (hc:=by kernel_rfl) (uQ 8 vK vL)<|wT (qA kL)<|wM<|wM<|wZ) ?_
  refine jA<|jA<|kx [(31,(jT node))] [] (zM<|zZ) ?_
  refine jH<|jA<|kx [(32,(vb (((node:Nat):Int) == (es.getD ((((jN n es).getD k 0)).toNat) (jC.mk 0 0 (jB.mk 0 0 0 0))).fr)))] [] (zE (kV yH)<|zR (kP qF)<|zE gX<|zM<|zZ) ?_
  refine jG rfl (fun h2=>?_) (fun h2=>?_)
  ·replace h2:=eq_of_beq h2
   refine jA<|kx [(12,(vi ((es.getD ((((jN n es).getD k 0)).toNat) (jC.mk 0 0 (jB.mk 0 0 0 0))).to_)))] [] (zE (kV yQ)<|zR (kP qF)<|zM<|zZ) ?_
   refine kx [(13,(jT (qC (uL ((es.getD ((((jN n es).getD k 0)).toNat) (jC.mk 0 0 (jB.mk 0 0 0 0))).turn)))))] [(8,some (bx (jF (qV (uL ((es.getD ((((jN n es).getD k 0)).toNat) (jC.mk 0 0 (jB.mk 0 0 0 0))).turn))))))] (zE (kV fo36_2)<|zR (kY kL)<|zE (kE (l_conj ((es.getD ((((jN n es).getD k 0)).toNat) (jC.mk 0 0 (jB.mk 0 0 0 0))).turn) hei6))<|zM<|zE qQ<|zE qQ<|zT (qA kL)<|zM<|zZ) ?_
   refine jA<|jA<|kx [(51,(vb (kk.getD (((es.getD ((((jN n es).getD k 0)).toNat) (jC.mk 0 0 (jB.mk 0 0 0 0))).to_).toNat) false)))] [] (zR (kP sh95)<|zM<|zE (eR el95 (((es.getD ((((jN n es).getD k 0)).toNat) (jC.mk 0 0 (jB.mk 0 0 0 0))).to_).toNat))<|zR (oLp dJ (((es.getD ((((jN n es).getD k 0)).toNat) (jC.mk 0 0 (jB.mk 0 0 0 0))).to_).toNat) (false:Bool))<|zZ) ?_
   refine jG rfl (fun h3=>?_) (fun h3=>?_)
   ·refine jW<|kx [(19,(jT (k+1)))] [] (zE (qS (k+1))<|zM<|zZ) ?_
    exact ⟨(k+1,kk,oo),wk,⟨by omega,(aH hf).trans (st_fk h2 h3),hi⟩,(by first|omega|(dsimp only;omega))⟩
   ·refine jE<|jA<|jA<|kx [(53,(vb true))] [] (zM<|zE (xR true gX (by exact beq_iff_eq.2 (by rw[show (qC (uL ((es.getD ((((jN n es).getD k 0)).toNat) (jC.mk 0 0 (jB.mk 0 0 0 0))).turn)))=0 from (qC_cj hei6)]<;>rfl)))<|zZ) ?_
    refine qI ?_
    refine kd [(13,(jT (qC (jZ (oo.getD node (jB.mk 0 0 0 0)) (qV (uL ((es.getD ((((jN n es).getD k 0)).toNat) (jC.mk 0 0 (jB.mk 0 0 0 0))).turn)))))))] [(5,some (vX jF (oo.set (((es.getD ((((jN n es).getD k 0)).toNat) (jC.mk 0 0 (jB.mk 0 0 0 0))).to_).toNat) (qV (jZ (oo.getD node (jB.mk 0 0 0 0)) (qV (uL ((es.getD ((((jN n es).getD k 0)).toNat) (jC.mk 0 0 (jB.mk 0 0 0 0))).turn))))))))] mo (wR (kP sh22)<|wM<|wR (kP sh22)<|wM<|wE (oXO cI node)<|wR (oLA kL node (jB.mk 0 0 0 0))<|wR (kY kL)<|wE (kE (l_mul (oo.getD node (jB.mk 0 0 0 0)) (qV (uL ((es.getD ((((jN n es).getD k 0)).toNat) (jC.mk 0 0 (jB.mk 0 0 0 0))).turn))) hon (qV_ok (zD hei6.1) (qC_cj hei6))))<|wM<|wE qQ<|wE qQ<|wE (oXO cI (((es.getD ((((jN n es).getD k 0)).toNat) (jC.mk 0 0 (jB.mk 0 0 0 0))).to_).toNat))<|wT (oSA kL (((es.getD ((((jN n es).getD k 0)).toNat) (jC.mk 0 0 (jB.mk 0 0 0 0))).to_).toNat) (qV (jZ (oo.getD node (jB.mk 0 0 0 0)) (qV (uL ((es.getD ((((jN n es).getD k 0)).toNat) (jC.mk 0 0 (jB.mk 0 0 0 0))).turn))))))<|wM<|wZ) ?_
    refine jA<|jA<|kx [(67,(vb ((((qC (jZ (oo.getD node (jB.mk 0 0 0 0)) (qV (uL ((es.getD ((((jN n es).getD k 0)).toNat) (jC.mk 0 0 (jB.mk 0 0 0 0))).turn))))):Nat):Int) == ((0:Nat):Int))))] [] (zM<|zE gX<|zZ) ?_
    refine jG rfl (fun h4=>?_) (fun h4=>?_)
    ·replace h4:=eq_of_beq h4
     obtain ⟨hg1,hg2⟩:=hi.fi.put heo (nx:=(es.getD ((jN n es).getD k 0).toNat (jC.mk 0 0 (jB.mk 0 0 0 0))).to_.toNat) (by omega) h3 (fwd_u heo hnn hi him hil h2) (show qC (jZ (oo.getD node (jB.mk 0 0 0 0)) (qV (uL (es.getD ((jN n es).getD k 0).toNat (jC.mk 0 0 (jB.mk 0 0 0 0))).turn)))=0 by omega)
     have hpr:FwPre n es f (es.getD ((jN n es).getD k 0).toNat (jC.mk 0 0 (jB.mk 0 0 0 0))).to_.toNat kk (oo.set (es.getD ((jN n es).getD k 0).toNat (jC.mk 0 0 (jB.mk 0 0 0 0))).to_.toNat (qV (jZ (oo.getD node (jB.mk 0 0 0 0)) (qV (uL (es.getD ((jN n es).getD k 0).toNat (jC.mk 0 0 (jB.mk 0 0 0 0))).turn))))):=⟨hg1,by omega,h3,hg2,hi.fuel⟩
     refine kf [(13,(jT ((yU es (jN n es) f (((es.getD ((((jN n es).getD k 0)).toNat) (jC.mk 0 0 (jB.mk 0 0 0 0))).to_).toNat) kk (oo.set (((es.getD ((((jN n es).getD k 0)).toNat) (jC.mk 0 0 (jB.mk 0 0 0 0))).to_).toNat) (qV (jZ (oo.getD node (jB.mk 0 0 0 0)) (qV (uL ((es.getD ((((jN n es).getD k 0)).toNat) (jC.mk 0 0 (jB.mk 0 0 0 0))).turn))))))).1)))] [(0,some [(.own 1 4 1 n)]),(1,some (bm uC ((yU es (jN n es) f (((es.getD ((((jN n es).getD k 0)).toNat) (jC.mk 0 0 (jB.mk 0 0 0 0))).to_).toNat) kk (oo.set (((es.getD ((((jN n es).getD k 0)).toNat) (jC.mk 0 0 (jB.mk 0 0 0 0))).to_).toNat) (qV (jZ (oo.getD node (jB.mk 0 0 0 0)) (qV (uL ((es.getD ((((jN n es).getD k 0)).toNat) (jC.mk 0 0 (jB.mk 0 0 0 0))).turn))))))).2.1))),(2,some y1),(3,some y2),(4,some [(.own 5 24 4 n)]),(5,some (vX jF ((yU es (jN n es) f (((es.getD ((((jN n es).getD k 0)).toNat) (jC.mk 0 0 (jB.mk 0 0 0 0))).to_).toNat) kk (oo.set (((es.getD ((((jN n es).getD k 0)).toNat) (jC.mk 0 0 (jB.mk 0 0 0 0))).to_).toNat) (qV (jZ (oo.getD node (jB.mk 0 0 0 0)) (qV (uL ((es.getD ((((jN n es).getD k 0)).toNat) (jC.mk 0 0 (jB.mk 0 0 0 0))).turn))))))).2.2))),(6,some [(.clo 59 [0,2,3,4,6])])] (zR (kP sh96)<|zE (oQd (.val (.int .i64 ((es.getD ((((jN n es).getD k 0)).toNat) (jC.mk 0 0 (jB.mk 0 0 0 0))).to_))) (.val (.int .i64 (((((es.getD ((((jN n es).getD k 0)).toNat) (jC.mk 0 0 (jB.mk 0 0 0 0))).to_).toNat:Nat):Int)))) (oV (vi ((es.getD ((((jN n es).getD k 0)).toNat) (jC.mk 0 0 (jB.mk 0 0 0 0))).to_)) (kZ (by kernel_rfl))) (by exact (congrArg (fun z=>kF.val (.int .i64 z)) (by omega))))<|zSe (B2:=[(0,some [(.own 1 4 1 n)]),(1,some (bm uC kk)),(2,some y1),(3,some y2),(4,some [(.own 5 24 4 n)]),(5,some (vX jF (oo.set (((es.getD ((((jN n es).getD k 0)).toNat) (jC.mk 0 0 (jB.mk 0 0 0 0))).to_).toNat) (qV (jZ (oo.getD node (jB.mk 0 0 0 0)) (qV (uL ((es.getD ((((jN n es).getD k 0)).toNat) (jC.mk 0 0 (jB.mk 0 0 0 0))).turn)))))))),(6,some [(.clo 59 [0,2,3,4,6])])]) (B2':=[(0,some [(.own 1 4 1 n)]),(1,some (bm uC ((yU es (jN n es) f (((es.getD ((((jN n es).getD k 0)).toNat) (jC.mk 0 0 (jB.mk 0 0 0 0))).to_).toNat) kk (oo.set (((es.getD ((((jN n es).getD k 0)).toNat) (jC.mk 0 0 (jB.mk 0 0 0 0))).to_).toNat) (qV (jZ (oo.getD node (jB.mk 0 0 0 0)) (qV (uL ((es.getD ((((jN n es).getD k 0)).toNat) (jC.mk 0 0 (jB.mk 0 0 0 0))).turn))))))).2.1))),(2,some y1),(3,some y2),(4,some [(.own 5 24 4 n)]),(5,some (vX jF ((yU es (jN n es) f (((es.getD ((((jN n es).getD k 0)).toNat) (jC.mk 0 0 (jB.mk 0 0 0 0))).to_).toNat) kk (oo.set (((es.getD ((((jN n es).getD k 0)).toNat) (jC.mk 0 0 (jB.mk 0 0 0 0))).to_).toNat) (qV (jZ (oo.getD node (jB.mk 0 0 0 0)) (qV (uL ((es.getD ((((jN n es).getD k 0)).toNat) (jC.mk 0 0 (jB.mk 0 0 0 0))).turn))))))).2.2))),(6,some [(.clo 59 [0,2,3,4,6])])]) [0,1,2,3,4,5,6] [0,2,3,4,6] (ih (((es.getD ((((jN n es).getD k 0)).toNat) (jC.mk 0 0 (jB.mk 0 0 0 0))).to_).toNat) kk (oo.set (((es.getD ((((jN n es).getD k 0)).toNat) (jC.mk 0 0 (jB.mk 0 0 0 0))).to_).toNat) (qV (jZ (oo.getD node (jB.mk 0 0 0 0)) (qV (uL ((es.getD ((((jN n es).getD k 0)).toNat) (jC.mk 0 0 (jB.mk 0 0 0 0))).turn)))))) hpr) (ex:=[.ref 0 0,.ref 2 0,.ref 3 0,.ref 4 0,.ref 6 0]) (hy:=.clo (kk:=[0,2,3,4,6]) (by kernel_rfl) (by kernel_rfl))<|zM<|zF) ?_
     refine jA<|kx [(72,(vb ((((yU es (jN n es) f (((es.getD ((((jN n es).getD k 0)).toNat) (jC.mk 0 0 (jB.mk 0 0 0 0))).to_).toNat) kk (oo.set (((es.getD ((((jN n es).getD k 0)).toNat) (jC.mk 0 0 (jB.mk 0 0 0 0))).to_).toNat) (qV (jZ (oo.getD node (jB.mk 0 0 0 0)) (qV (uL ((es.getD ((((jN n es).getD k 0)).toNat) (jC.mk 0 0 (jB.mk 0 0 0 0))).turn))))))).1:Nat):Int) != ((0:Nat):Int))))] [] (zM<|zE fO<|zZ) ?_
     refine jG rfl (fun h5=>?_) (fun h5=>?_)
     ·replace h5:=bne_iff_ne.1 h5
      refine jA<|kX (wk (l:=[(0,(jT node)),(1,(.ref 0 0)),(2,(.ref 2 0)),(3,(.ref 3 0)),(4,(.ref 4 0)),(5,(.ref 6 0)),(13,(jT ((yU es (jN n es) f (((es.getD ((((jN n es).getD k 0)).toNat) (jC.mk 0 0 (jB.mk 0 0 0 0))).to_).toNat) kk (oo.set (((es.getD ((((jN n es).getD k 0)).toNat) (jC.mk 0 0 (jB.mk 0 0 0 0))).to_).toNat) (qV (jZ (oo.getD node (jB.mk 0 0 0 0)) (qV (uL ((es.getD ((((jN n es).getD k 0)).toNat) (jC.mk 0 0 (jB.mk 0 0 0 0))).turn))))))).1))),(17,(vl 3 1 jO (jN n es))),(18,(jT ((jN n es).length))),(19,(jT k)),(72,(vb ((((yU es (jN n es) f (((es.getD ((((jN n es).getD k 0)).toNat) (jC.mk 0 0 (jB.mk 0 0 0 0))).to_).toNat) kk (oo.set (((es.getD ((((jN n es).getD k 0)).toNat) (jC.mk 0 0 (jB.mk 0 0 0 0))).to_).toNat) (qV (jZ (oo.getD node (jB.mk 0 0 0 0)) (qV (uL ((es.getD ((((jN n es).getD k 0)).toNat) (jC.mk 0 0 (jB.mk 0 0 0 0))).turn))))))).1:Nat):Int) != ((0:Nat):Int))))]) (b:=[(0,some [(.own 1 4 1 n)]),(1,some (bm uC ((yU es (jN n es) f (((es.getD ((((jN n es).getD k 0)).toNat) (jC.mk 0 0 (jB.mk 0 0 0 0))).to_).toNat) kk (oo.set (((es.getD ((((jN n es).getD k 0)).toNat) (jC.mk 0 0 (jB.mk 0 0 0 0))).to_).toNat) (qV (jZ (oo.getD node (jB.mk 0 0 0 0)) (qV (uL ((es.getD ((((jN n es).getD k 0)).toNat) (jC.mk 0 0 (jB.mk 0 0 0 0))).turn))))))).2.1))),(2,some y1),(3,some y2),(4,some [(.own 5 24 4 n)]),(5,some (vX jF ((yU es (jN n es) f (((es.getD ((((jN n es).getD k 0)).toNat) (jC.mk 0 0 (jB.mk 0 0 0 0))).to_).toNat) kk (oo.set (((es.getD ((((jN n es).getD k 0)).toNat) (jC.mk 0 0 (jB.mk 0 0 0 0))).to_).toNat) (qV (jZ (oo.getD node (jB.mk 0 0 0 0)) (qV (uL ((es.getD ((((jN n es).getD k 0)).toNat) (jC.mk 0 0 (jB.mk 0 0 0 0))).turn))))))).2.2))),(6,some [(.clo 59 [0,2,3,4,6])])])) ?_
      refine kx [(7,(jT ((yU es (jN n es) f (((es.getD ((((jN n es).getD k 0)).toNat) (jC.mk 0 0 (jB.mk 0 0 0 0))).to_).toNat) kk (oo.set (((es.getD ((((jN n es).getD k 0)).toNat) (jC.mk 0 0 (jB.mk 0 0 0 0))).to_).toNat) (qV (jZ (oo.getD node (jB.mk 0 0 0 0)) (qV (uL ((es.getD ((((jN n es).getD k 0)).toNat) (jC.mk 0 0 (jB.mk 0 0 0 0))).turn))))))).1)))] [] (zM<|zM<|zZ) ?_
      have hR:yU es (jN n es) (f+1) node kn out=(yU es (jN n es) f (es.getD ((jN n es).getD k 0).toNat (jC.mk 0 0 (jB.mk 0 0 0 0))).to_.toNat kk (oo.set (es.getD ((jN n es).getD k 0).toNat (jC.mk 0 0 (jB.mk 0 0 0 0))).to_.toNat (qV (jZ (oo.getD node (jB.mk 0 0 0 0)) (qV (uL (es.getD ((jN n es).getD k 0).toNat (jC.mk 0 0 (jB.mk 0 0 0 0))).turn)))))):=fwAt_end (k:=k) (by omega) ((aH hf).trans ((st_f h2 h3).trans (if_pos (show qC (jZ (oo.getD node (jB.mk 0 0 0 0)) (qV (uL (es.getD ((jN n es).getD k 0).toNat (jC.mk 0 0 (jB.mk 0 0 0 0))).turn)))=0 by omega)))) (show _≠0 by first | omega | (dsimp only;omega))
      rw[hR]
      refine jI ⟨cW (by kernel_rfl),aD (by kernel_rfl),.inl ⟨_,(.tmp (d:=(.val (.int .i64 ((((yU es (jN n es) f (((es.getD ((((jN n es).getD k 0)).toNat) (jC.mk 0 0 (jB.mk 0 0 0 0))).to_).toNat) kk (oo.set (((es.getD ((((jN n es).getD k 0)).toNat) (jC.mk 0 0 (jB.mk 0 0 0 0))).to_).toNat) (qV (jZ (oo.getD node (jB.mk 0 0 0 0)) (qV (uL ((es.getD ((((jN n es).getD k 0)).toNat) (jC.mk 0 0 (jB.mk 0 0 0 0))).turn))))))).1:Nat):Int))))) rfl .nil),?_⟩⟩
      rfl
     ·replace h5:=bne_eq_false_iff_eq.1 h5
      refine jE<|kX (wk (l:=[(0,(jT node)),(1,(.ref 0 0)),(2,(.ref 2 0)),(3,(.ref 3 0)),(4,(.ref 4 0)),(5,(.ref 6 0)),(13,(jT ((yU es (jN n es) f (((es.getD ((((jN n es).getD k 0)).toNat) (jC.mk 0 0 (jB.mk 0 0 0 0))).to_).toNat) kk (oo.set (((es.getD ((((jN n es).getD k 0)).toNat) (jC.mk 0 0 (jB.mk 0 0 0 0))).to_).toNat) (qV (jZ (oo.getD node (jB.mk 0 0 0 0)) (qV (uL ((es.getD ((((jN n es).getD k 0)).toNat) (jC.mk 0 0 (jB.mk 0 0 0 0))).turn))))))).1))),(17,(vl 3 1 jO (jN n es))),(18,(jT ((jN n es).length))),(19,(jT k)),(72,(vb ((((yU es (jN n es) f (((es.getD ((((jN n es).getD k 0)).toNat) (jC.mk 0 0 (jB.mk 0 0 0 0))).to_).toNat) kk (oo.set (((es.getD ((((jN n es).getD k 0)).toNat) (jC.mk 0 0 (jB.mk 0 0 0 0))).to_).toNat) (qV (jZ (oo.getD node (jB.mk 0 0 0 0)) (qV (uL ((es.getD ((((jN n es).getD k 0)).toNat) (jC.mk 0 0 (jB.mk 0 0 0 0))).turn))))))).1:Nat):Int) != ((0:Nat):Int))))]) (b:=[(0,some [(.own 1 4 1 n)]),(1,some (bm uC ((yU es (jN n es) f (((es.getD ((((jN n es).getD k 0)).toNat) (jC.mk 0 0 (jB.mk 0 0 0 0))).to_).toNat) kk (oo.set (((es.getD ((((jN n es).getD k 0)).toNat) (jC.mk 0 0 (jB.mk 0 0 0 0))).to_).toNat) (qV (jZ (oo.getD node (jB.mk 0 0 0 0)) (qV (uL ((es.getD ((((jN n es).getD k 0)).toNat) (jC.mk 0 0 (jB.mk 0 0 0 0))).turn))))))).2.1))),(2,some y1),(3,some y2),(4,some [(.own 5 24 4 n)]),(5,some (vX jF ((yU es (jN n es) f (((es.getD ((((jN n es).getD k 0)).toNat) (jC.mk 0 0 (jB.mk 0 0 0 0))).to_).toNat) kk (oo.set (((es.getD ((((jN n es).getD k 0)).toNat) (jC.mk 0 0 (jB.mk 0 0 0 0))).to_).toNat) (qV (jZ (oo.getD node (jB.mk 0 0 0 0)) (qV (uL ((es.getD ((((jN n es).getD k 0)).toNat) (jC.mk 0 0 (jB.mk 0 0 0 0))).turn))))))).2.2))),(6,some [(.clo 59 [0,2,3,4,6])])])) ?_
      refine kx [(19,(jT (k+1)))] [] (zE (qS (k+1))<|zM<|zZ) ?_
      exact ⟨(k+1,(yU es (jN n es) f (es.getD ((jN n es).getD k 0).toNat (jC.mk 0 0 (jB.mk 0 0 0 0))).to_.toNat kk (oo.set (es.getD ((jN n es).getD k 0).toNat (jC.mk 0 0 (jB.mk 0 0 0 0))).to_.toNat (qV (jZ (oo.getD node (jB.mk 0 0 0 0)) (qV (uL (es.getD ((jN n es).getD k 0).toNat (jC.mk 0 0 (jB.mk 0 0 0 0))).turn)))))).2.1,(yU es (jN n es) f (es.getD ((jN n es).getD k 0).toNat (jC.mk 0 0 (jB.mk 0 0 0 0))).to_.toNat kk (oo.set (es.getD ((jN n es).getD k 0).toNat (jC.mk 0 0 (jB.mk 0 0 0 0))).to_.toNat (qV (jZ (oo.getD node (jB.mk 0 0 0 0)) (qV (uL (es.getD ((jN n es).getD k 0).toNat (jC.mk 0 0 (jB.mk 0 0 0 0))).turn)))))).2.2),wk,⟨by omega,(aH hf).trans ((st_f h2 h3).trans ((if_pos (show qC (jZ (oo.getD node (jB.mk 0 0 0 0)) (qV (uL (es.getD ((jN n es).getD k 0).toNat (jC.mk 0 0 (jB.mk 0 0 0 0))).turn)))=0 by omega)).trans (Prod.ext (show (yU es (jN n es) f (es.getD ((jN n es).getD k 0).toNat (jC.mk 0 0 (jB.mk 0 0 0 0))).to_.toNat kk (oo.set (es.getD ((jN n es).getD k 0).toNat (jC.mk 0 0 (jB.mk 0 0 0 0))).to_.toNat (qV (jZ (oo.getD node (jB.mk 0 0 0 0)) (qV (uL (es.getD ((jN n es).getD k 0).toNat (jC.mk 0 0 (jB.mk 0 0 0 0))).turn)))))).1=0 by omega) rfl))),hi.next ((flw_ok heo f _ _ _ hpr).1 (show (yU es (jN n es) f (es.getD ((jN n es).getD k 0).toNat (jC.mk 0 0 (jB.mk 0 0 0 0))).to_.toNat kk (oo.set (es.getD ((jN n es).getD k 0).toNat (jC.mk 0 0 (jB.mk 0 0 0 0))).to_.toNat (qV (jZ (oo.getD node (jB.mk 0 0 0 0)) (qV (uL (es.getD ((jN n es).getD k 0).toNat (jC.mk 0 0 (jB.mk 0 0 0 0))).turn)))))).1=0 by omega))⟩,(by first|omega|(dsimp only;omega))⟩
    ·replace h4:=ne_of_beq_false h4
     refine jE<|jA<|kx [(72,(vb true))] [] (zM<|zE (xR true fO (by exact bne_iff_ne.2 h4))<|zZ) ?_
     refine qI ?_
     refine jA<|kx [(7,(jT (qC (jZ (oo.getD node (jB.mk 0 0 0 0)) (qV (uL ((es.getD ((((jN n es).getD k 0)).toNat) (jC.mk 0 0 (jB.mk 0 0 0 0))).turn)))))))] [] (zM<|zM<|zZ) ?_
     have hR:yU es (jN n es) (f+1) node kn out=(qC (jZ (oo.getD node (jB.mk 0 0 0 0)) (qV (uL (es.getD ((jN n es).getD k 0).toNat (jC.mk 0 0 (jB.mk 0 0 0 0))).turn))),kk,oo.set (es.getD ((jN n es).getD k 0).toNat (jC.mk 0 0 (jB.mk 0 0 0 0))).to_.toNat (qV (jZ (oo.getD node (jB.mk 0 0 0 0)) (qV (uL (es.getD ((jN n es).getD k 0).toNat (jC.mk 0 0 (jB.mk 0 0 0 0))).turn))))):=fwAt_end (k:=k) (by omega) ((aH hf).trans ((st_f h2 h3).trans (if_neg (show ¬ qC (jZ (oo.getD node (jB.mk 0 0 0 0)) (qV (uL (es.getD ((jN n es).getD k 0).toNat (jC.mk 0 0 (jB.mk 0 0 0 0))).turn)))=0 by omega)))) (show _≠0 by first | omega | (dsimp only;omega))
     rw[hR]
     refine jI ⟨cW (by kernel_rfl),aD (by kernel_rfl),.inl ⟨_,(.tmp (d:=(.val (.int .i64 ((((qC (jZ (oo.getD node (jB.mk 0 0 0 0)) (qV (uL ((es.getD ((((jN n es).getD k 0)).toNat) (jC.mk 0 0 (jB.mk 0 0 0 0))).turn))))):Nat):Int))))) rfl .nil),?_⟩⟩
     rfl
  ·replace h2:=ne_of_beq_false h2
   refine jA<|kx [(44,(vb (((node:Nat):Int) == (es.getD ((((jN n es).getD k 0)).toNat) (jC.mk 0 0 (jB.mk 0 0 0 0))).to_)))] [] (zE (kV yQ)<|zR (kP qF)<|zE gX<|zM<|zZ) ?_
   refine jG rfl (fun h6=>?_) (fun h6=>?_)
   ·replace h6:=eq_of_beq h6
    refine jE<|jA<|jA<|kx [(51,(vb (kk.getD (((es.getD ((((jN n es).getD k 0)).toNat) (jC.mk 0 0 (jB.mk 0 0 0 0))).fr).toNat) false)))] [] (zR (kP sh95)<|zM<|zE (eR el95 (((es.getD ((((jN n es).getD k 0)).toNat) (jC.mk 0 0 (jB.mk 0 0 0 0))).fr).toNat))<|zR (oLp dJ (((es.getD ((((jN n es).getD k 0)).toNat) (jC.mk 0 0 (jB.mk 0 0 0 0))).fr).toNat) (false:Bool))<|zZ) ?_
    refine jG rfl (fun h7=>?_) (fun h7=>?_)
    ·refine jW<|kx [(19,(jT (k+1)))] [] (zE (qS (k+1))<|zM<|zZ) ?_
     exact ⟨(k+1,kk,oo),wk,⟨by omega,(aH hf).trans (st_bk h2 h6 h7),hi⟩,(by first|omega|(dsimp only;omega))⟩
    ·refine jE<|jA<|jA<|kx [(53,(vb true))] [] (zM<|zE (xR true gX)<|zZ) ?_
     refine qI ?_
     refine kd [(13,(jT (qC (jZ (oo.getD node (jB.mk 0 0 0 0)) ((es.getD ((((jN n es).getD k 0)).toNat) (jC.mk 0 0 (jB.mk 0 0 0 0))).turn)))))] [(5,some (vX jF (oo.set (((es.getD ((((jN n es).getD k 0)).toNat) (jC.mk 0 0 (jB.mk 0 0 0 0))).fr).toNat) (qV (jZ (oo.getD node (jB.mk 0 0 0 0)) ((es.getD ((((jN n es).getD k 0)).toNat) (jC.mk 0 0 (jB.mk 0 0 0 0))).turn))))))] mo (wR (kP sh22)<|wM<|wR (kP sh22)<|wM<|wE (oXO cI node)<|wR (oLA kL node (jB.mk 0 0 0 0))<|wR (kY kL)<|wE (kE (l_mul (oo.getD node (jB.mk 0 0 0 0)) ((es.getD ((((jN n es).getD k 0)).toNat) (jC.mk 0 0 (jB.mk 0 0 0 0))).turn) hon hei6))<|wM<|wE qQ<|wE qQ<|wE (oXO cI (((es.getD ((((jN n es).getD k 0)).toNat) (jC.mk 0 0 (jB.mk 0 0 0 0))).fr).toNat))<|wT (oSA kL (((es.getD ((((jN n es).getD k 0)).toNat) (jC.mk 0 0 (jB.mk 0 0 0 0))).fr).toNat) (qV (jZ (oo.getD node (jB.mk 0 0 0 0)) ((es.getD ((((jN n es).getD k 0)).toNat) (jC.mk 0 0 (jB.mk 0 0 0 0))).turn))))<|wM<|wZ) ?_
     refine jA<|jA<|kx [(67,(vb ((((qC (jZ (oo.getD node (jB.mk 0 0 0 0)) ((es.getD ((((jN n es).getD k 0)).toNat) (jC.mk 0 0 (jB.mk 0 0 0 0))).turn))):Nat):Int) == ((0:Nat):Int))))] [] (zM<|zE gX<|zZ) ?_
     refine jG rfl (fun h8=>?_) (fun h8=>?_)
     ·replace h8:=eq_of_beq h8
      obtain ⟨hg1,hg2⟩:=hi.fi.put heo (nx:=(es.getD ((jN n es).getD k 0).toNat (jC.mk 0 0 (jB.mk 0 0 0 0))).fr.toNat) (by omega) h7 (bwd_u heo hnn hi him hil h6) (show qC (jZ (oo.getD node (jB.mk 0 0 0 0)) (es.getD ((jN n es).getD k 0).toNat (jC.mk 0 0 (jB.mk 0 0 0 0))).turn)=0 by omega)
      have hpr:FwPre n es f (es.getD ((jN n es).getD k 0).toNat (jC.mk 0 0 (jB.mk 0 0 0 0))).fr.toNat kk (oo.set (es.getD ((jN n es).getD k 0).toNat (jC.mk 0 0 (jB.mk 0 0 0 0))).fr.toNat (qV (jZ (oo.getD node (jB.mk 0 0 0 0)) (es.getD ((jN n es).getD k 0).toNat (jC.mk 0 0 (jB.mk 0 0 0 0))).turn))):=⟨hg1,by omega,h7,hg2,hi.fuel⟩
      refine kf [(13,(jT ((yU es (jN n es) f (((es.getD ((((jN n es).getD k 0)).toNat) (jC.mk 0 0 (jB.mk 0 0 0 0))).fr).toNat) kk (oo.set (((es.getD ((((jN n es).getD k 0)).toNat) (jC.mk 0 0 (jB.mk 0 0 0 0))).fr).toNat) (qV (jZ (oo.getD node (jB.mk 0 0 0 0)) ((es.getD ((((jN n es).getD k 0)).toNat) (jC.mk 0 0 (jB.mk 0 0 0 0))).turn))))).1)))] [(0,some [(.own 1 4 1 n)]),(1,some (bm uC ((yU es (jN n es) f (((es.getD ((((jN n es).getD k 0)).toNat) (jC.mk 0 0 (jB.mk 0 0 0 0))).fr).toNat) kk (oo.set (((es.getD ((((jN n es).getD k 0)).toNat) (jC.mk 0 0 (jB.mk 0 0 0 0))).fr).toNat) (qV (jZ (oo.getD node (jB.mk 0 0 0 0)) ((es.getD ((((jN n es).getD k 0)).toNat) (jC.mk 0 0 (jB.mk 0 0 0 0))).turn))))).2.1))),(2,some y1),(3,some y2),(4,some [(.own 5 24 4 n)]),(5,some (vX jF ((yU es (jN n es) f (((es.getD ((((jN n es).getD k 0)).toNat) (jC.mk 0 0 (jB.mk 0 0 0 0))).fr).toNat) kk (oo.set (((es.getD ((((jN n es).getD k 0)).toNat) (jC.mk 0 0 (jB.mk 0 0 0 0))).fr).toNat) (qV (jZ (oo.getD node (jB.mk 0 0 0 0)) ((es.getD ((((jN n es).getD k 0)).toNat) (jC.mk 0 0 (jB.mk 0 0 0 0))).turn))))).2.2))),(6,some [(.clo 59 [0,2,3,4,6])])] (zR (kP sh96)<|zE (oQd (.val (.int .i64 ((es.getD ((((jN n es).getD k 0)).toNat) (jC.mk 0 0 (jB.mk 0 0 0 0))).fr))) (.val (.int .i64 (((((es.getD ((((jN n es).getD k 0)).toNat) (jC.mk 0 0 (jB.mk 0 0 0 0))).fr).toNat:Nat):Int)))) (oV (vi ((es.getD ((((jN n es).getD k 0)).toNat) (jC.mk 0 0 (jB.mk 0 0 0 0))).fr)) (kZ (by kernel_rfl))) (by exact (congrArg (fun z=>kF.val (.int .i64 z)) (by omega))))<|zSe (B2:=[(0,some [(.own 1 4 1 n)]),(1,some (bm uC kk)),(2,some y1),(3,some y2),(4,some [(.own 5 24 4 n)]),(5,some (vX jF (oo.set (((es.getD ((((jN n es).getD k 0)).toNat) (jC.mk 0 0 (jB.mk 0 0 0 0))).fr).toNat) (qV (jZ (oo.getD node (jB.mk 0 0 0 0)) ((es.getD ((((jN n es).getD k 0)).toNat) (jC.mk 0 0 (jB.mk 0 0 0 0))).turn)))))),(6,some [(.clo 59 [0,2,3,4,6])])]) (B2':=[(0,some [(.own 1 4 1 n)]),(1,some (bm uC ((yU es (jN n es) f (((es.getD ((((jN n es).getD k 0)).toNat) (jC.mk 0 0 (jB.mk 0 0 0 0))).fr).toNat) kk (oo.set (((es.getD ((((jN n es).getD k 0)).toNat) (jC.mk 0 0 (jB.mk 0 0 0 0))).fr).toNat) (qV (jZ (oo.getD node (jB.mk 0 0 0 0)) ((es.getD ((((jN n es).getD k 0)).toNat) (jC.mk 0 0 (jB.mk 0 0 0 0))).turn))))).2.1))),(2,some y1),(3,some y2),(4,some [(.own 5 24 4 n)]),(5,some (vX jF ((yU es (jN n es) f (((es.getD ((((jN n es).getD k 0)).toNat) (jC.mk 0 0 (jB.mk 0 0 0 0))).fr).toNat) kk (oo.set (((es.getD ((((jN n es).getD k 0)).toNat) (jC.mk 0 0 (jB.mk 0 0 0 0))).fr).toNat) (qV (jZ (oo.getD node (jB.mk 0 0 0 0)) ((es.getD ((((jN n es).getD k 0)).toNat) (jC.mk 0 0 (jB.mk 0 0 0 0))).turn))))).2.2))),(6,some [(.clo 59 [0,2,3,4,6])])]) [0,1,2,3,4,5,6] [0,2,3,4,6] (ih (((es.getD ((((jN n es).getD k 0)).toNat) (jC.mk 0 0 (jB.mk 0 0 0 0))).fr).toNat) kk (oo.set (((es.getD ((((jN n es).getD k 0)).toNat) (jC.mk 0 0 (jB.mk 0 0 0 0))).fr).toNat) (qV (jZ (oo.getD node (jB.mk 0 0 0 0)) ((es.getD ((((jN n es).getD k 0)).toNat) (jC.mk 0 0 (jB.mk 0 0 0 0))).turn)))) hpr) (ex:=[.ref 0 0,.ref 2 0,.ref 3 0,.ref 4 0,.ref 6 0]) (hy:=.clo (kk:=[0,2,3,4,6]) (by kernel_rfl) (by kernel_rfl))<|zM<|zF) ?_
      refine jA<|kx [(72,(vb ((((yU es (jN n es) f (((es.getD ((((jN n es).getD k 0)).toNat) (jC.mk 0 0 (jB.mk 0 0 0 0))).fr).toNat) kk (oo.set (((es.getD ((((jN n es).getD k 0)).toNat) (jC.mk 0 0 (jB.mk 0 0 0 0))).fr).toNat) (qV (jZ (oo.getD node (jB.mk 0 0 0 0)) ((es.getD ((((jN n es).getD k 0)).toNat) (jC.mk 0 0 (jB.mk 0 0 0 0))).turn))))).1:Nat):Int) != ((0:Nat):Int))))] [] (zM<|zE fO<|zZ) ?_
      refine jG rfl (fun h9=>?_) (fun h9=>?_)
      ·replace h9:=bne_iff_ne.1 h9
       refine jA<|kx [(7,(jT ((yU es (jN n es) f (((es.getD ((((jN n es).getD k 0)).toNat) (jC.mk 0 0 (jB.mk 0 0 0 0))).fr).toNat) kk (oo.set (((es.getD ((((jN n es).getD k 0)).toNat) (jC.mk 0 0 (jB.mk 0 0 0 0))).fr).toNat) (qV (jZ (oo.getD node (jB.mk 0 0 0 0)) ((es.getD ((((jN n es).getD k 0)).toNat) (jC.mk 0 0 (jB.mk 0 0 0 0))).turn))))).1)))] [] (zM<|zM<|zZ) ?_
       have hR:yU es (jN n es) (f+1) node kn out=(yU es (jN n es) f (es.getD ((jN n es).getD k 0).toNat (jC.mk 0 0 (jB.mk 0 0 0 0))).fr.toNat kk (oo.set (es.getD ((jN n es).getD k 0).toNat (jC.mk 0 0 (jB.mk 0 0 0 0))).fr.toNat (qV (jZ (oo.getD node (jB.mk 0 0 0 0)) (es.getD ((jN n es).getD k 0).toNat (jC.mk 0 0 (jB.mk 0 0 0 0))).turn)))):=fwAt_end (k:=k) (by omega) ((aH hf).trans ((st_b h2 h6 h7).trans (if_pos (show qC (jZ (oo.getD node (jB.mk 0 0 0 0)) (es.getD ((jN n es).getD k 0).toNat (jC.mk 0 0 (jB.mk 0 0 0 0))).turn)=0 by omega)))) (show _≠0 by first | omega | (dsimp only;omega))
       rw[hR]
       refine jI ⟨cW (by kernel_rfl),aD (by kernel_rfl),.inl ⟨_,(.tmp (d:=(.val (.int .i64 ((((yU es (jN n es) f (((es.getD ((((jN n es).getD k 0)).toNat) (jC.mk 0 0 (jB.mk 0 0 0 0))).fr).toNat) kk (oo.set (((es.getD ((((jN n es).getD k 0)).toNat) (jC.mk 0 0 (jB.mk 0 0 0 0))).fr).toNat) (qV (jZ (oo.getD node (jB.mk 0 0 0 0)) ((es.getD ((((jN n es).getD k 0)).toNat) (jC.mk 0 0 (jB.mk 0 0 0 0))).turn))))).1:Nat):Int))))) rfl .nil),?_⟩⟩
       rfl
      ·replace h9:=bne_eq_false_iff_eq.1 h9
       refine jE<|kx [(19,(jT (k+1)))] [] (zE (qS (k+1))<|zM<|zZ) ?_
       exact ⟨(k+1,(yU es (jN n es) f (es.getD ((jN n es).getD k 0).toNat (jC.mk 0 0 (jB.mk 0 0 0 0))).fr.toNat kk (oo.set (es.getD ((jN n es).getD k 0).toNat (jC.mk 0 0 (jB.mk 0 0 0 0))).fr.toNat (qV (jZ (oo.getD node (jB.mk 0 0 0 0)) (es.getD ((jN n es).getD k 0).toNat (jC.mk 0 0 (jB.mk 0 0 0 0))).turn)))).2.1,(yU es (jN n es) f (es.getD ((jN n es).getD k 0).toNat (jC.mk 0 0 (jB.mk 0 0 0 0))).fr.toNat kk (oo.set (es.getD ((jN n es).getD k 0).toNat (jC.mk 0 0 (jB.mk 0 0 0 0))).fr.toNat (qV (jZ (oo.getD node (jB.mk 0 0 0 0)) (es.getD ((jN n es).getD k 0).toNat (jC.mk 0 0 (jB.mk 0 0 0 0))).turn)))).2.2),wk,⟨by omega,(aH hf).trans ((st_b h2 h6 h7).trans ((if_pos (show qC (jZ (oo.getD node (jB.mk 0 0 0 0)) (es.getD ((jN n es).getD k 0).toNat (jC.mk 0 0 (jB.mk 0 0 0 0))).turn)=0 by omega)).trans (Prod.ext (show (yU es (jN n es) f (es.getD ((jN n es).getD k 0).toNat (jC.mk 0 0 (jB.mk 0 0 0 0))).fr.toNat kk (oo.set (es.getD ((jN n es).getD k 0).toNat (jC.mk 0 0 (jB.mk 0 0 0 0))).fr.toNat (qV (jZ (oo.getD node (jB.mk 0 0 0 0)) (es.getD ((jN n es).getD k 0).toNat (jC.mk 0 0 (jB.mk 0 0 0 0))).turn)))).1=0 by omega) rfl))),hi.next ((flw_ok heo f _ _ _ hpr).1 (show (yU es (jN n es) f (es.getD ((jN n es).getD k 0).toNat (jC.mk 0 0 (jB.mk 0 0 0 0))).fr.toNat kk (oo.set (es.getD ((jN n es).getD k 0).toNat (jC.mk 0 0 (jB.mk 0 0 0 0))).fr.toNat (qV (jZ (oo.getD node (jB.mk 0 0 0 0)) (es.getD ((jN n es).getD k 0).toNat (jC.mk 0 0 (jB.mk 0 0 0 0))).turn)))).1=0 by omega))⟩,(by first|omega|(dsimp only;omega))⟩
     ·replace h8:=ne_of_beq_false h8
      refine jE<|jA<|kx [(72,(vb true))] [] (zM<|zE (xR true fO (by exact bne_iff_ne.2 h8))<|zZ) ?_
      refine qI ?_
      refine jA<|kx [(7,(jT (qC (jZ (oo.getD node (jB.mk 0 0 0 0)) ((es.getD ((((jN n es).getD k 0)).toNat) (jC.mk 0 0 (jB.mk 0 0 0 0))).turn)))))] [] (zM<|zM<|zZ) ?_
      have hR:yU es (jN n es) (f+1) node kn out=(qC (jZ (oo.getD node (jB.mk 0 0 0 0)) (es.getD ((jN n es).getD k 0).toNat (jC.mk 0 0 (jB.mk 0 0 0 0))).turn),kk,oo.set (es.getD ((jN n es).getD k 0).toNat (jC.mk 0 0 (jB.mk 0 0 0 0))).fr.toNat (qV (jZ (oo.getD node (jB.mk 0 0 0 0)) (es.getD ((jN n es).getD k 0).toNat (jC.mk 0 0 (jB.mk 0 0 0 0))).turn))):=fwAt_end (k:=k) (by omega) ((aH hf).trans ((st_b h2 h6 h7).trans (if_neg (show ¬ qC (jZ (oo.getD node (jB.mk 0 0 0 0)) (es.getD ((jN n es).getD k 0).toNat (jC.mk 0 0 (jB.mk 0 0 0 0))).turn)=0 by omega)))) (show _≠0 by first | omega | (dsimp only;omega))
      rw[hR]
      refine jI ⟨cW (by kernel_rfl),aD (by kernel_rfl),.inl ⟨_,(.tmp (d:=(.val (.int .i64 ((((qC (jZ (oo.getD node (jB.mk 0 0 0 0)) ((es.getD ((((jN n es).getD k 0)).toNat) (jC.mk 0 0 (jB.mk 0 0 0 0))).turn))):Nat):Int))))) rfl .nil),?_⟩⟩
      rfl
   ·replace h6:=ne_of_beq_false h6
    refine jW<|kx [(19,(jT (k+1)))] [] (zE (qS (k+1))<|zM<|zZ) ?_
    exact ⟨(k+1,kk,oo),wk,⟨by omega,(aH hf).trans (st_none h2 h6),hi⟩,(by first|omega|(dsimp only;omega))⟩
 ·replace h1:=uY h1
  refine jW<|jA<|kx [(7,(jT 0))] [] (zM<|zZ) ?_
  have hR:yU es (jN n es) (f+1) node kn out=(0,kk,oo):=by show gN _ _ _ _ _ _ _=_;rw[← show k=(jN n es).length by omega];exact hf
  rw[hR]
  refine jI ⟨cW (by kernel_rfl),aD (by kernel_rfl),.inl ⟨_,(.tmp (d:=(.val (.int .i64 (((0:Nat):Int))))) rfl .nil),?_⟩⟩
  rfl
theorem e_flwA(n:Nat)(es:List jC)(heo:xI n es)(hn:n≤64)(hl2:es.length≤256):∀ (f node:Nat) (kn:List Bool) (out:List jB),FwPre n es f node kn out→eO Tryz.prog 59 [(jT node),(.ref 0 0),(.ref 2 0),(.ref 3 0),(.ref 4 0),(.ref 6 0)] [(0,some [(.own 1 4 1 n)]),(1,some (bm uC kn)),(2,some (bx (.sl 3 1 (List.map jO (jN n es))))),(3,some (bx (.sl 36 6 (List.map jP es)))),(4,some [(.own 5 24 4 n)]),(5,some (vX jF out)),(6,some [(.clo 59 [0,2,3,4,6])])] (.d (.val (.int .i64 ((((yU es (jN n es) f node kn out).1:Nat):Int))))) [(0,some [(.own 1 4 1 n)]),(1,some (bm uC ((yU es (jN n es) f node kn out).2.1))),(2,some (bx (.sl 3 1 (List.map jO (jN n es))))),(3,some (bx (.sl 36 6 (List.map jP es)))),(4,some [(.own 5 24 4 n)]),(5,some (vX jF ((yU es (jN n es) f node kn out).2.2))),(6,some [(.clo 59 [0,2,3,4,6])])]
 |0,node,kn,out,h=>by
  exfalso
  have hl:node<kn.length:=by rw[h.fi.1];exact h.nd
  have:=uk_set hl h.un
  have:=h.fuel
  omega
 |f+1,node,kn,out,h=>e_flwS node kn es out n f heo hn hl2 h (fun nd k o hp=>e_flwA n es heo hn hl2 f nd k o hp)
theorem e_flw(node:Nat)(kn:List Bool)(es:List jC)(out:List jB)(n f:Nat)(heo:xI n es)(hn:n≤64)(hl2:es.length≤256)(hpr:FwPre n es f node kn out):eO Tryz.prog 59 [(jT node),(.ref 0 0),(.ref 2 0),(.ref 3 0),(.ref 4 0),(.ref 6 0)] [(0,some [(.own 1 4 1 n)]),(1,some (bm uC kn)),(2,some (bx (.sl 3 1 (List.map jO (jN n es))))),(3,some (bx (.sl 36 6 (List.map jP es)))),(4,some [(.own 5 24 4 n)]),(5,some (vX jF out)),(6,some [(.clo 59 [0,2,3,4,6])])] (.d (.val (.int .i64 ((((yU es (jN n es) f node kn out).1:Nat):Int))))) [(0,some [(.own 1 4 1 n)]),(1,some (bm uC ((yU es (jN n es) f node kn out).2.1))),(2,some (bx (.sl 3 1 (List.map jO (jN n es))))),(3,some (bx (.sl 36 6 (List.map jP es)))),(4,some [(.own 5 24 4 n)]),(5,some (vX jF ((yU es (jN n es) f node kn out).2.2))),(6,some [(.clo 59 [0,2,3,4,6])])]:=e_flwA n es heo hn hl2 f node kn out hpr
end Go.Proofs.YteimogfidbkpnabGreat
namespace Go.Fid
section
variable {P:Program} {o:Oper}
theorem t_stc{S:Nat→SV}{T:TypeId}{x y:Operand}{k:Nat}{u z:SV}(ho:o.op=.store T x y)(hx:ev S x=.ref k 0)(hy:ev S y=z)(h1:z.ptr=true)(hs:kS P T=some (false,1)):TOk P o S k [u] [z] :=
 fun a w D β Q hop hb hD=>by
  have hp:=hop x (by simp [ho,Op.operands])
  have hq:=hop y (by simp [ho,Op.operands])
  rw[hx] at hp
  rw[hy] at hq
  obtain ⟨b,hb1,hv⟩:=hp
  have fN:(a.eval y).oneCell'=true∧(a.eval y).cells=#[a.eval y]:=by
   cases z with
   |ref j o'=>obtain ⟨b,_,h2⟩:=hq;rw[h2];exact ⟨rfl,rfl⟩
   |clo f ks=>obtain ⟨vs,h2,_⟩:=hq;rw[h2];exact ⟨rfl,rfl⟩
   |d x=>cases h1
   |own=>cases h1
   |emp=>cases h1
   |view=>cases h1
   |hob=>cases h1
   |pr=>cases h1
   |refx=>cases h1
   |bnd=>cases h1
   |ownx=>cases h1
   |junk=>cases h1
  rcases hb with ⟨hb2,_⟩ | ⟨b',vs,T',hb2,h2,h3,h4,h5⟩
  ·rw[hb1] at hb2;cases hb2
  ·obtain rfl:b'=b:=by rw[hb1] at hb2;injection hb2 with h;exact h.symm
   obtain ⟨d,i,s1,s2,s3,s4⟩:=shape_of hs
   simp only[List.length_singleton] at h3
   have hst:=run_storeCells_at P b' 0 T' [a.eval y] 0 vs w h2 (by simp;omega) (by intro v hv;rcases List.mem_singleton.1 hv with rfl;exact fN.1)
   have hrun:(execOp a.eval o).run P w=.ok .skip (w.setRow b' (patch vs.toList 0 [a.eval y]).toArray):=by
    have hsz:(#[a.eval y]:Array Value).size=i.size:=by simp;omega
    simp only[execOp,ho,hv,Instr.storeAt,Instr.sureAddr,storeVar,fN.2,Sem.run_bind,Sem.run_pure,Result.andThen_ok,uE s2,ne_eq,hsz,not_true_eq_false,if_false]
    simp [patch] at hst ⊢
    rw[hst];rfl
   have hw:=fW w b' (patch vs.toList 0 [a.eval y]).toArray (fun vs' T f h=>by
    rw[h2] at h
    injection h with h
    injection h with h
    subst h
    have:=xW (l:=vs.toList) (off:=0) (new:=[a.eval y]) (by simp;omega)
    simpa using this)
   refine wp_skip_ hrun ⟨rfl,b',hb1,hw,h5,?_⟩
   refine .inr ⟨b',_,T',hb1,setRow_heap w b' vs _ T' _ h2,?_,fun j x hx=>?_,h5⟩
   ·have p1:=xW (l:=vs.toList) (off:=0) (new:=[a.eval y]) (by simp;omega)
    simp only[List.size_toArray,List.length_singleton]
    simp only[Array.length_toList] at p1
    omega
   ·cases j with
    |zero=>
     simp only[List.getElem?_cons_zero,Option.some.injEq] at hx
     subst hx
     exact ⟨a.eval y,by simp [patch],fN.1,hw.repS h5 hq⟩
    |succ j=>simp at hx
theorem oSc{S:SL}{B:BS}{T:TypeId}{x y:Operand}{k:Nat}{u z:SV}(hs:kS P T=some (false,1))(ho:o.op=.store T x y:=by exact rfl)(hx:ev (jY S) x=.ref k 0:=by exact rfl)(hy:ev (jY S) y=z:=by exact rfl)(h1:z.ptr=true:=by kernel_rfl)(hb:kD B k=some [u]:=by exact rfl):TK P o S B k [z]:=⟨_,t_stc ho hx hy h1 hs,hb⟩
end
end Go.Fid
namespace Go.Proofs.YteimogfidbkpnabGreat
open Go.Fid
theorem by4:zC Tryz.prog 4=some 1:=by kernel_rfl
theorem by24:zC Tryz.prog 24=some 32:=by kernel_rfl
theorem cb35:callB Tryz.prog 35=true:=by kernel_rfl
theorem ze22:uZ Tryz.prog 22=some [.slice none 0 0]:=by kernel_rfl
theorem ze37:uZ Tryz.prog 37=some [.slice none 0 0]:=by kernel_rfl
theorem ze95:uZ Tryz.prog 95=some [.slice none 0 0]:=by kernel_rfl
theorem ze96:uZ Tryz.prog 96=some [.nilFunc]:=by kernel_rfl
theorem zo22:mW [.slice none 0 0] [.sl 24 4 []]:=by simp [mW,Value.oneCell']
theorem zo37:mW [.slice none 0 0] [.sl 3 1 []]:=by simp [mW,Value.oneCell']
theorem zo95:mW [.slice none 0 0] [.sl 4 1 []]:=by simp [mW,Value.oneCell']
theorem zo96:mW [.nilFunc] [.val .nilFunc]:=by simp [mW,Value.oneCell']
theorem l_abs(n:Nat)(es:List jC)(heo:xI n es)(hn:n≤64)(hl2:es.length≤256):kB Tryz.prog 35 [(.val (.int .i64 (((n:Nat):Int)))),(.sl 36 6 (List.map jP es))] (.tup [(.sl 24 4 (List.map jF (absL n es))),(.val (.int .i64 ((((absC n es):Nat):Int))))]):=by
 let y1:=(bx (.sl 3 1 (List.map jO (jN n es))))
 refine jK Tryz.func35 rfl cb35 rfl ?_
 show qU _ _ _ _ ⟨[(0,(jT n)),(1,(vl 36 6 jP es))],[]⟩
 refine jA<|kx [(3,(.ref 0 0))] [(0,some (bx (.sl 36 6 (List.map jP es))))] (zN (yC 0)<|zE (oNl 24 4)<|zM<|zZ) ?_
 refine jA<|kx [(6,(.ref 2 0))] [(1,some (vX jF (List.replicate n (jB.mk 0 0 0 0)))),(2,some [(.own 1 24 4 n)])] (zM<|zN (oMkS 1 jF (jB.mk 0 0 0 0) n n cI vK vL by24)<|zH (uQ 2 ze22 zo22)<|zT (oSo sh22)<|zZ) ?_
 refine jA<|kx [(7,(.ref 4 0))] [(3,some (bm uC (List.replicate n false))),(4,some [(.own 3 4 1 n)])] (zM<|zH (oMk 3 uC (false:Bool) n n el95 ze4 zo4 by4)<|zH (uQ 4 ze95 zo95)<|zT (oSo sh95)<|zZ) ?_
 refine jA<|kx [(8,(.ref 5 0))] [(5,some y1)] (zM<|zR (kP sh31)<|zE (kE (l_tree n es heo hn hl2))<|zH (uQ 5 ze37 zo37)<|zT (qA sh37)<|zZ) ?_
 refine jA<|kx [(9,(.ref 6 0))] [(6,some (bx (.val .nilFunc)))] (zH (uQ 6 ze96 zo96)<|zZ) ?_
 refine jA<|kx [] [(6,some [(.clo 59 [4,5,0,2,6])])] (zE (oMf [4,5,0,2,6])<|zT (oSc sh96)<|zZ) ?_
 refine jA<|jA<|kx [(20,(jT n)),(21,(jT 0))] [] (zM<|zM<|zZ) ?_
 refine jH<|kI (α:=Nat × List Bool × List jB) (fun (i,kn,ou)=>⟨[(6,(.ref 2 0)),(7,(.ref 4 0)),(9,(.ref 6 0)),(20,(jT n)),(21,(jT i))],[(0,some (bx (.sl 36 6 (List.map jP es)))),(1,some (vX jF ou)),(2,some [(.own 1 24 4 n)]),(3,some (bm uC kn)),(4,some [(.own 3 4 1 n)]),(5,some y1),(6,some [(.clo 59 [4,5,0,2,6])])]⟩) (fun (i,kn,ou)=>i≤n∧AlI n es i kn ou) (fun (i,kn,ou)=>n-i) (0,List.replicate n false,List.replicate n (jB.mk 0 0 0 0)) wk ⟨Nat.zero_le _,AlI_0⟩ ?_
 rintro ⟨i,kn,ou⟩ ⟨hi,ha⟩
 have hkl:kn.length=n:=ha.fi.1
 have hol:ou.length=n:=ha.fi.2.1.1
 refine jA<|kx [(22,(vb (decide (((i:Nat):Int)<((n:Nat):Int)))))] [] (zE uM<|zZ) ?_
 refine jA<|jG rfl (fun h1=>?_) (fun h1=>?_)
 ·replace h1:=uW h1
  refine jE<|jA<|jH<|jA<|kx [(10,(jT i))] [] (zM<|zM<|zZ) ?_
  refine jA<|jA<|kx [(27,(vb (kn.getD i false)))] [] (zR (kP sh95)<|zM<|zE (eR el95 i)<|zR (oLp dJ i (false:Bool))<|zZ) ?_
  refine jG (b:=(kn.getD i false)) rfl (fun h2=>?_) (fun h2=>?_)
  ·refine jW<|kx [(21,(jT (i+1)))] [] (zE (qS (i+1))<|zM<|zZ) ?_
   exact ⟨(i+1,kn,ou),wk,⟨by omega,ha.skip h2⟩,(by first|omega|(dsimp only;omega))⟩
  ·have hpr:=ha.pre heo (i:=i) (by omega) h2
   refine jE<|jA<|kd [] [(1,some (vX jF (ou.set i q1)))] mo (wR (kP sh22)<|wM<|wE (kE l_one)<|wE (oXO cI i)<|wT (oSA kL i q1)<|wZ) ?_
   refine jA<|kf [(11,(jT ((yU es (jN n es) n i kn (ou.set i q1)).1)))] [(0,some (bx (.sl 36 6 (List.map jP es)))),(1,some (vX jF ((yU es (jN n es) n i kn (ou.set i q1)).2.2))),(2,some [(.own 1 24 4 n)]),(3,some (bm uC ((yU es (jN n es) n i kn (ou.set i q1)).2.1))),(4,some [(.own 3 4 1 n)]),(5,some y1),(6,some [(.clo 59 [4,5,0,2,6])])] (zR (kP sh96)<|zM<|zSe (B2:=[(4,some [(.own 3 4 1 n)]),(3,some (bm uC kn)),(5,some y1),(0,some (bx (.sl 36 6 (List.map jP es)))),(2,some [(.own 1 24 4 n)]),(1,some (vX jF (ou.set i q1))),(6,some [(.clo 59 [4,5,0,2,6])])]) (B2':=[(4,some [(.own 3 4 1 n)]),(3,some (bm uC ((yU es (jN n es) n i kn (ou.set i q1)).2.1))),(5,some y1),(0,some (bx (.sl 36 6 (List.map jP es)))),(2,some [(.own 1 24 4 n)]),(1,some (vX jF ((yU es (jN n es) n i kn (ou.set i q1)).2.2))),(6,some [(.clo 59 [4,5,0,2,6])])]) [4,3,5,0,2,1,6] [4,5,0,2,6] (e_flw i kn es (ou.set i q1) n n heo hn hl2 hpr) (ex:=[.ref 4 0,.ref 5 0,.ref 0 0,.ref 2 0,.ref 6 0]) (hy:=.clo (kk:=[4,5,0,2,6]) (by kernel_rfl) (by kernel_rfl))<|zM<|zF) ?_
   refine jA<|kx [(36,(vb ((((yU es (jN n es) n i kn (ou.set i q1)).1:Nat):Int) != ((0:Nat):Int))))] [] (zM<|zE fO<|zZ) ?_
   refine jG rfl (fun h3=>?_) (fun h3=>?_)
   ·replace h3:=bne_iff_ne.1 h3
    refine jA<|kx [(4,(vl 24 4 jF [])),(5,(jT ((yU es (jN n es) n i kn (ou.set i q1)).1)))] [] (zM<|zE (oNl 24 4)<|zM<|zZ) ?_
    refine jI ⟨_,(.tmp (d:=(.sl 24 4 (List.map jF []))) rfl (.tmp (d:=(.val (.int .i64 ((((yU es (jN n es) n i kn (ou.set i q1)).1:Nat):Int))))) rfl .nil)),?_⟩
    obtain ⟨q1,q2,q3⟩:=(flw_ok heo n _ _ _ hpr).2 (show (yU es (jN n es) n i kn (ou.set i q1)).1≠0 by omega)
    rw[q1,q2];show _=_;rw[q3];rfl
   ·replace h3:=bne_eq_false_iff_eq.1 h3
    refine jE<|kx [(21,(jT (i+1)))] [] (zE (qS (i+1))<|zM<|zZ) ?_
    exact ⟨(i+1,(yU es (jN n es) n i kn (ou.set i q1)).2.1,(yU es (jN n es) n i kn (ou.set i q1)).2.2),wk,⟨by omega,ha.next ((flw_ok heo n _ _ _ hpr).1 (show (yU es (jN n es) n i kn (ou.set i q1)).1=0 by omega))⟩,(by first|omega|(dsimp only;omega))⟩
 ·replace h1:=uY h1
  refine jW<|jA<|kX (publishB (j:=2) (k:=1) (es:=List.map jF ou) rfl rfl rfl (mE _ _ (fun _=>rfl)) (vG _ _ hol) (eY jF ou (fun _=>rfl) hol)) ?_
  refine kx [(4,(vl 24 4 jF ou)),(5,(jT 0))] [] (zR (kP sh22)<|zM<|zM<|zZ) ?_
  refine jI ⟨_,(.tmp (d:=(.sl 24 4 (List.map jF ou))) rfl (.tmp (d:=(.val (.int .i64 (((0:Nat):Int))))) rfl .nil)),?_⟩
  obtain ⟨q1,q2⟩:=ha.end_ heo (by omega)
  rw[← q1,q2];rfl
end Go.Proofs.YteimogfidbkpnabGreat
namespace Go.Fid
section
variable {P:Program}
def eqaB(P:Program)(T:TypeId):Option Nat :=
 match P.underlying T with
 |some (.array n E)=>(match P.underlying E,P.info? E with
  |some (.int _),some i=>if Nat.beq i.size 1&&!P.eqGuardType P.depth T then some n else none
  |_,_=>none)
 |_=>none
theorem run_as(k:IntKind){E:TypeId}{j:IntKind}(hE:P.underlying E=some (.int j))(d:Nat)(w:World)(ms ns:List Int):∀ (m i:Nat),ms.length=i+m→ns.length=i+m →
  Sem.run P (forIn (List.range' i m) ((none,()):Option Bool × Unit) fun f _=>do
       let a ← part E (List.map (Value.int k) ms).toArray f
       let b ← part E (List.map (Value.int k) ns).toArray f
       let c ← Op.equalIn (d+1) E a b
       if c=false then pure (ForInStep.done (some false,())) else pure (ForInStep.yield (none,()))) w=.ok (if ms.drop i=ns.drop i then (none,()) else (some false,())) w
 |0,i,h1,h2=>by
  have e1:ms.drop i=[]:=List.drop_eq_nil_of_le (by omega)
  have e2:ns.drop i=[]:=List.drop_eq_nil_of_le (by omega)
  rw[e1,e2];simp
 |m+1,i,h1,h2=>by
  have b1:i<ms.length:=by omega
  have b2:i<ns.length:=by omega
  have ih:=run_as k hE d w ms ns m (i+1) (by omega) (by omega)
  have e1:=List.drop_eq_getElem_cons b1
  have e2:=List.drop_eq_getElem_cons b2
  simp only[List.range'_succ,List.forIn_cons,Sem.run_bind,cH hE (List.getElem?_eq_getElem b1),cH hE (List.getElem?_eq_getElem b2),Result.andThen_ok,run_eqInt hE]
  by_cases he:ms[i]=ns[i]
  ·have hx:(ms.drop i=ns.drop i)=(ms.drop (i+1)=ns.drop (i+1)):=by
    rw[e1,e2,he]
    exact propext ⟨fun h=>(List.cons.inj h).2,fun h=>by rw[h]⟩
   simp only[he,beq_self_eq_true,Bool.true_eq_false,if_false,Sem.run_pure,Result.andThen_ok]
   rw[ih]
   simp only[hx]
  ·have hx:¬ ms.drop i=ns.drop i:=by
    rw[e1,e2]
    exact fun h=>he (List.cons.inj h).1
   have hb:(ms[i] == ns[i])=false:=by simp [he]
   simp only[hb,if_true,Sem.run_pure,Result.andThen_ok,if_neg hx]
theorem run_eqA{T:TypeId}{c:Nat}(h:eqaB P T=some c)(k:IntKind)(ms ns:List Int)(h1:ms.length=c)(h2:ns.length=c)(w:World) :
  (Op.equal T (.agg (ms.map (Value.int k)).toArray) (.agg (ns.map (Value.int k)).toArray)).run P w=.ok (decide (ms=ns)) w∧P.eqGuardType P.depth T=false:=by
 unfold eqaB at h
 split at h
 ·rename_i n E hT
  split at h
  ·rename_i j i hE hi
   split at h
   ·rename_i hq
    simp only[Bool.and_eq_true,Bool.not_eq_true'] at hq
    injection h with h
    have hsz:i.size=1:=Nat.eq_of_beq_eq_true hq.1
    refine ⟨?_,hq.2⟩
    show (Op.equalIn (9998+2) T _ _).run P w=_
    rw[Op.equalIn]
    have hl:=run_as k hE 9998 w ms ns n 0 (by omega) (by omega)
    simp only[List.drop_zero] at hl
    simp [run_underlying hT,uE hi,hsz]
    rw[hl]
    by_cases e:ms=ns
    ·simp [e]
    ·simp [e]
   ·cases h
  ·cases h
 ·cases h
section
variable {o:Oper} {S:Nat→SV} {T T':TypeId} {x y:Operand} {c:Nat}
theorem oNA(hT:eqaB P T=some c)(k:IntKind)(ms ns:List Int)(ho:o.op=.binOp .neq T x y T':=by exact rfl)(hx:ev S x=.d (.agg (ms.map fun m=>.val (.int k m))):=by exact rfl)(hy:ev S y=.d (.agg (ns.map fun m=>.val (.int k m))):=by exact rfl)(h1:ms.length=c:=by exact rfl)(h2:ns.length=c:=by exact rfl):qW P o S [] (.d (.val (.bool (!(decide (ms=ns)))))) :=
 qW.same fun a w D β hop _=>by
  have hx':=hop x (by simp [ho,Op.operands])
  have hy':=hop y (by simp [ho,Op.operands])
  rw[hx] at hx'
  rw[hy] at hy'
  have ex:=fK hx'
  have ey:=fK hy'
  obtain ⟨g1,g2⟩:=run_eqA hT k ms ns h1 h2 w
  refine ⟨.bool (!(decide (ms=ns))),?_,.val _⟩
  simp [execOp,ho,ex,ey,eqGuard,g2,binOp,g1]
end
end
end Go.Fid
