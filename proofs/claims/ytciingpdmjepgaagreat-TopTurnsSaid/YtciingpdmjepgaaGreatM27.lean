/- Part 27 of a proof: rules, plain facts, and functions walked. -/
import Derived.Test.YtciingpdmjepgaaGreatM25
import Derived.Test.YtciingpdmjepgaaGreatM23
import Derived.Test.YtciingpdmjepgaaGreatM26
import Derived.Test.YtciingpdmjepgaaGreatM21
set_option linter.all false
set_option maxRecDepth 4000
namespace Go.Proofs.YtciingpdmjepgaaGreat
open Go.Fid
theorem cb39:callB Tryz.prog 39=true:=by kernel_rfl
theorem el92:uJ Tryz.prog 92=some (4,1):=by kernel_rfl
theorem sh34:kQ Tryz.prog 34=some (false,1):=by kernel_rfl
theorem sh39:kQ Tryz.prog 39=some (false,1):=by kernel_rfl
theorem sh60:kQ Tryz.prog 60=some (false,1):=by kernel_rfl
theorem sh92:kQ Tryz.prog 92=some (false,1):=by kernel_rfl
theorem sh93:kQ Tryz.prog 93=some (false,1):=by kernel_rfl
theorem e_flwS(node:Nat)(kn:List Bool)(es:List jE)(out:List jB)(n f:Nat)(heo:xP n es)(hn:n<=64)(hl2:es.length<=256)(hpr0:FwPre n es (f+1) node kn out)(ih:∀ (node:Nat) (kn:List Bool) (out:List jB),FwPre n es f node kn out->aZ Tryz.prog 39 [(jN node),(.ref 0 0),(.ref 2 0),(.ref 3 0),(.ref 4 0),(.ref 6 0)] [(0,some [(.own 1 4 1 n)]),(1,some (bm uI kn)),(2,some (bx (.sl 3 1 (List.map jT (jK n es))))),(3,some (bx (.sl 56 6 (List.map kC es)))),(4,some [(.own 5 28 4 n)]),(5,some (xQ jI out)),(6,some [(.clo 39 [0,2,3,4,6])])] (.d (.val (.int .i64 ((((gU es (jK n es) f node kn out).1:Nat):Int))))) [(0,some [(.own 1 4 1 n)]),(1,some (bm uI ((gU es (jK n es) f node kn out).2.1))),(2,some (bx (.sl 3 1 (List.map jT (jK n es))))),(3,some (bx (.sl 56 6 (List.map kC es)))),(4,some [(.own 5 28 4 n)]),(5,some (xQ jI ((gU es (jK n es) f node kn out).2.2))),(6,some [(.clo 39 [0,2,3,4,6])])]):aZ Tryz.prog 39 [(jN node),(.ref 0 0),(.ref 2 0),(.ref 3 0),(.ref 4 0),(.ref 6 0)] [(0,some [(.own 1 4 1 n)]),(1,some (bm uI kn)),(2,some (bx (.sl 3 1 (List.map jT (jK n es))))),(3,some (bx (.sl 56 6 (List.map kC es)))),(4,some [(.own 5 28 4 n)]),(5,some (xQ jI out)),(6,some [(.clo 39 [0,2,3,4,6])])] (.d (.val (.int .i64 ((((gU es (jK n es) (f+1) node kn out).1:Nat):Int))))) [(0,some [(.own 1 4 1 n)]),(1,some (bm uI ((gU es (jK n es) (f+1) node kn out).2.1))),(2,some (bx (.sl 3 1 (List.map jT (jK n es))))),(3,some (bx (.sl 56 6 (List.map kC es)))),(4,some [(.own 5 28 4 n)]),(5,some (xQ jI ((gU es (jK n es) (f+1) node kn out).2.2))),(6,some [(.clo 39 [0,2,3,4,6])])]:=by
 have h0:=FwIn_0 hpr0
 have hkl0:kn.length=n:=hpr0.fi.1
 have hnn:node<n:=hpr0.nd
 have htl:(jK n es).length<=es.length:=tTak_len _ _ _ _
 let y2:=(bx (.sl 56 6 (List.map kC es)))
 let y1:=(bx (.sl 3 1 (List.map jT (jK n es))))
 refine fn_introS Tryz.func39 rfl cb39 rfl ?_
 refine jA<|kx [] [] (zM<|zZ) ?_
 refine jA<|kx [] [(1,some (bm uI (kn.set node true)))] (zR (jZ sh92)<|zM<|zE (oXo el92 node)<|zT (oSp aH node true)<|zZ) ?_
 refine jA<|jA<|kx [(17,(vl 3 1 jT (jK n es))),(18,(jN ((jK n es).length))),(19,(jN 0))] [] (zR (jZ sh60)<|zE (vV xN (L:=(jK n es)))<|zM<|zZ) ?_
 refine jH<|kF (α:=Nat × List Bool × List jB) (fun (k,kk,oo)=>⟨[(0,(jN node)),(1,(.ref 0 0)),(2,(.ref 2 0)),(3,(.ref 3 0)),(4,(.ref 4 0)),(5,(.ref 6 0)),(17,(vl 3 1 jT (jK n es))),(18,(jN ((jK n es).length))),(19,(jN k))],[(0,some [(.own 1 4 1 n)]),(1,some (bm uI kk)),(2,some y1),(3,some y2),(4,some [(.own 5 28 4 n)]),(5,some (xQ jI oo)),(6,some [(.clo 39 [0,2,3,4,6])])]⟩) (fun (k,kk,oo)=>k<=(jK n es).length/\nF es (jK n es) (gU es (jK n es) f) node (kn.set node true) out k=(0,kk,oo)/\FwIn n es f node (kn.set node true) kk oo) (fun (k,kk,oo)=>(jK n es).length-k) (0,(kn.set node true),out) wk ⟨Nat.zero_le _,rfl,h0⟩ ?_
 rintro ⟨k,kk,oo⟩ ⟨hk,hf,hi⟩
 have hkl:kk.length=n:=hi.fi.1
 have hol:oo.length=n:=hi.fi.2.1.1
 have hon:=(hi.fi.2.1.at heo hnn (hi.fi.2.2 node hnn hi.nd)).1
 refine jA<|kx [(20,(vb (decide (((k:Nat):Int)<(((jK n es).length:Nat):Int)))))] [] (zE uT<|zZ) ?_
 refine jA<|jF rfl (fun h1=>?_) (fun h1=>?_)
 ·replace h1:=uY h1
  obtain ⟨i_,hil,htm,him⟩:=tre_at (n:=n) (es:=es) (k:=k) (by omega)
  have hix:i_=((jK n es).getD k 0).toNat:=by rw[htm];rfl
  subst hix
  have hei:EOkE n (es.getD ((jK n es).getD k 0).toNat (jE.mk 0 0 (jB.mk 0 0 0 0))):=eL heo hil
  obtain ⟨hei1,hei2,hei3,hei4,hei5,hei6⟩:=id hei
  refine jD<|jA<|jH<|jA<|kx [(9,(vi ((jK n es).getD k 0)))] [] (zE (nA xN k (0:Int) (L:=(jK n es)))<|zE (mV kK)<|zM<|zZ) ?_
  refine jA<|kx [(10,(.ref 7 0))] [(7,some (bx (kC (es.getD ((((jK n es).getD k 0)).toNat) (jE.mk 0 0 (jB.mk 0 0 0 0))))))] (zR (jZ sh39)<|zM<|zE (nA eF ((((jK n es).getD k 0)).toNat) (jE.mk 0 0 (jB.mk 0 0 0 0)))<|zE (oCa sh56)<|zH (vL 7 ze56 zo56)<|zT (qO sh56)<|zZ) ?_
  refine jA<|kd [(11,(.ref 8 0)),(12,(vi ((es.getD ((((jK n es).getD k 0)).toNat) (jE.mk 0 0 (jB.mk 0 0 0 0))).fr))),(13,(jN 0))] [(8,some (bx (jI ((es.getD ((((jK n es).getD k 0)).toNat) (jE.mk 0 0 (jB.mk 0 0 0 0))).turn))))] mo (wE (jY fo56_2)<|wR (qE qQ)<|wE (jY fo56_0)<|wR (jZ kK)<|wH (hc:=by kernel_rfl) (vL 8 gK gS)<|wT (qO qQ)<|wM<|wM<|wZ) ?_
  refine jA<|jA<|kx [(31,(jN node))] [] (zM<|zZ) ?_
  refine jH<|jA<|kx [(32,(vb (((node:Nat):Int) == (es.getD ((((jK n es).getD k 0)).toNat) (jE.mk 0 0 (jB.mk 0 0 0 0))).fr)))] [] (zE (jY fo56_0)<|zR (jZ kK)<|zE zW<|zM<|zZ) ?_
  refine jF rfl (fun h2=>?_) (fun h2=>?_)
  ·replace h2:=eq_of_beq h2
   refine jA<|kx [(12,(vi ((es.getD ((((jK n es).getD k 0)).toNat) (jE.mk 0 0 (jB.mk 0 0 0 0))).to_)))] [] (zE (jY fo56_1)<|zR (jZ kK)<|zM<|zZ) ?_
   refine kx [(13,(jN (qC (uK ((es.getD ((((jK n es).getD k 0)).toNat) (jE.mk 0 0 (jB.mk 0 0 0 0))).turn)))))] [(8,some (bx (jI (qV (uK ((es.getD ((((jK n es).getD k 0)).toNat) (jE.mk 0 0 (jB.mk 0 0 0 0))).turn))))))] (zE (jY fo56_2)<|zR (qE qQ)<|zE (kD (l_conj ((es.getD ((((jK n es).getD k 0)).toNat) (jE.mk 0 0 (jB.mk 0 0 0 0))).turn) hei6))<|zM<|zE vF<|zE vF<|zT (qO qQ)<|zM<|zZ) ?_
   refine jA<|jA<|kx [(51,(vb (kk.getD (((es.getD ((((jK n es).getD k 0)).toNat) (jE.mk 0 0 (jB.mk 0 0 0 0))).to_).toNat) false)))] [] (zR (jZ sh92)<|zM<|zE (oXo el92 (((es.getD ((((jK n es).getD k 0)).toNat) (jE.mk 0 0 (jB.mk 0 0 0 0))).to_).toNat))<|zR (oLp aH (((es.getD ((((jK n es).getD k 0)).toNat) (jE.mk 0 0 (jB.mk 0 0 0 0))).to_).toNat) (false:Bool))<|zZ) ?_
   refine jF rfl (fun h3=>?_) (fun h3=>?_)
   ·refine jS<|kx [(19,(jN (k+1)))] [] (zE (uL (k+1))<|zM<|zZ) ?_
    exact ⟨(k+1,kk,oo),wk,⟨by omega,(aL hf).trans (st_fk h2 h3),hi⟩,(by first|omega|(dsimp only;omega))⟩
   ·refine jD<|jA<|jA<|kx [(53,(vb true))] [] (zM<|zE (gI true zW (by exact beq_iff_eq.2 (by rw[show (qC (uK ((es.getD ((((jK n es).getD k 0)).toNat) (jE.mk 0 0 (jB.mk 0 0 0 0))).turn)))=0 from (cI hei6)]<;>rfl)))<|zZ) ?_
    refine qZ ?_
    refine kd [(13,(jN (qC (jX (oo.getD node (jB.mk 0 0 0 0)) (qV (uK ((es.getD ((((jK n es).getD k 0)).toNat) (jE.mk 0 0 (jB.mk 0 0 0 0))).turn)))))))] [(5,some (xQ jI (oo.set (((es.getD ((((jK n es).getD k 0)).toNat) (jE.mk 0 0 (jB.mk 0 0 0 0))).to_).toNat) (qV (jX (oo.getD node (jB.mk 0 0 0 0)) (qV (uK ((es.getD ((((jK n es).getD k 0)).toNat) (jE.mk 0 0 (jB.mk 0 0 0 0))).turn))))))))] mo (wR (jZ sh34)<|wM<|wR (jZ sh34)<|wM<|wE (oXO eN node)<|wR (oLA qQ node (jB.mk 0 0 0 0))<|wR (qE qQ)<|wE (kD (l_mul (oo.getD node (jB.mk 0 0 0 0)) (qV (uK ((es.getD ((((jK n es).getD k 0)).toNat) (jE.mk 0 0 (jB.mk 0 0 0 0))).turn))) hon (cM (yN hei6.1) (cI hei6))))<|wM<|wE vF<|wE vF<|wE (oXO eN (((es.getD ((((jK n es).getD k 0)).toNat) (jE.mk 0 0 (jB.mk 0 0 0 0))).to_).toNat))<|wT (oSA qQ (((es.getD ((((jK n es).getD k 0)).toNat) (jE.mk 0 0 (jB.mk 0 0 0 0))).to_).toNat) (qV (jX (oo.getD node (jB.mk 0 0 0 0)) (qV (uK ((es.getD ((((jK n es).getD k 0)).toNat) (jE.mk 0 0 (jB.mk 0 0 0 0))).turn))))))<|wM<|wZ) ?_
    refine jA<|jA<|kx [(67,(vb ((((qC (jX (oo.getD node (jB.mk 0 0 0 0)) (qV (uK ((es.getD ((((jK n es).getD k 0)).toNat) (jE.mk 0 0 (jB.mk 0 0 0 0))).turn))))):Nat):Int) == ((0:Nat):Int))))] [] (zM<|zE zW<|zZ) ?_
    refine jF rfl (fun h4=>?_) (fun h4=>?_)
    ·replace h4:=eq_of_beq h4
     obtain ⟨hg1,hg2⟩:=hi.fi.put heo (nx:=(es.getD ((jK n es).getD k 0).toNat (jE.mk 0 0 (jB.mk 0 0 0 0))).to_.toNat) (by omega) h3 (fwd_u heo hnn hi him hil h2) (show qC (jX (oo.getD node (jB.mk 0 0 0 0)) (qV (uK (es.getD ((jK n es).getD k 0).toNat (jE.mk 0 0 (jB.mk 0 0 0 0))).turn)))=0 by omega)
     have hpr:FwPre n es f (es.getD ((jK n es).getD k 0).toNat (jE.mk 0 0 (jB.mk 0 0 0 0))).to_.toNat kk (oo.set (es.getD ((jK n es).getD k 0).toNat (jE.mk 0 0 (jB.mk 0 0 0 0))).to_.toNat (qV (jX (oo.getD node (jB.mk 0 0 0 0)) (qV (uK (es.getD ((jK n es).getD k 0).toNat (jE.mk 0 0 (jB.mk 0 0 0 0))).turn))))):=⟨hg1,by omega,h3,hg2,hi.fuel⟩
     refine kf [(13,(jN ((gU es (jK n es) f (((es.getD ((((jK n es).getD k 0)).toNat) (jE.mk 0 0 (jB.mk 0 0 0 0))).to_).toNat) kk (oo.set (((es.getD ((((jK n es).getD k 0)).toNat) (jE.mk 0 0 (jB.mk 0 0 0 0))).to_).toNat) (qV (jX (oo.getD node (jB.mk 0 0 0 0)) (qV (uK ((es.getD ((((jK n es).getD k 0)).toNat) (jE.mk 0 0 (jB.mk 0 0 0 0))).turn))))))).1)))] [(0,some [(.own 1 4 1 n)]),(1,some (bm uI ((gU es (jK n es) f (((es.getD ((((jK n es).getD k 0)).toNat) (jE.mk 0 0 (jB.mk 0 0 0 0))).to_).toNat) kk (oo.set (((es.getD ((((jK n es).getD k 0)).toNat) (jE.mk 0 0 (jB.mk 0 0 0 0))).to_).toNat) (qV (jX (oo.getD node (jB.mk 0 0 0 0)) (qV (uK ((es.getD ((((jK n es).getD k 0)).toNat) (jE.mk 0 0 (jB.mk 0 0 0 0))).turn))))))).2.1))),(2,some y1),(3,some y2),(4,some [(.own 5 28 4 n)]),(5,some (xQ jI ((gU es (jK n es) f (((es.getD ((((jK n es).getD k 0)).toNat) (jE.mk 0 0 (jB.mk 0 0 0 0))).to_).toNat) kk (oo.set (((es.getD ((((jK n es).getD k 0)).toNat) (jE.mk 0 0 (jB.mk 0 0 0 0))).to_).toNat) (qV (jX (oo.getD node (jB.mk 0 0 0 0)) (qV (uK ((es.getD ((((jK n es).getD k 0)).toNat) (jE.mk 0 0 (jB.mk 0 0 0 0))).turn))))))).2.2))),(6,some [(.clo 39 [0,2,3,4,6])])] (zR (jZ sh93)<|zE (oQd (.val (.int .i64 ((es.getD ((((jK n es).getD k 0)).toNat) (jE.mk 0 0 (jB.mk 0 0 0 0))).to_))) (.val (.int .i64 (((((es.getD ((((jK n es).getD k 0)).toNat) (jE.mk 0 0 (jB.mk 0 0 0 0))).to_).toNat:Nat):Int)))) (oV (vi ((es.getD ((((jK n es).getD k 0)).toNat) (jE.mk 0 0 (jB.mk 0 0 0 0))).to_)) (kA (by kernel_rfl))) (by exact (congrArg (fun z=>jW.val (.int .i64 z)) (by omega))))<|zSe (B2:=[(0,some [(.own 1 4 1 n)]),(1,some (bm uI kk)),(2,some y1),(3,some y2),(4,some [(.own 5 28 4 n)]),(5,some (xQ jI (oo.set (((es.getD ((((jK n es).getD k 0)).toNat) (jE.mk 0 0 (jB.mk 0 0 0 0))).to_).toNat) (qV (jX (oo.getD node (jB.mk 0 0 0 0)) (qV (uK ((es.getD ((((jK n es).getD k 0)).toNat) (jE.mk 0 0 (jB.mk 0 0 0 0))).turn)))))))),(6,some [(.clo 39 [0,2,3,4,6])])]) (B2':=[(0,some [(.own 1 4 1 n)]),(1,some (bm uI ((gU es (jK n es) f (((es.getD ((((jK n es).getD k 0)).toNat) (jE.mk 0 0 (jB.mk 0 0 0 0))).to_).toNat) kk (oo.set (((es.getD ((((jK n es).getD k 0)).toNat) (jE.mk 0 0 (jB.mk 0 0 0 0))).to_).toNat) (qV (jX (oo.getD node (jB.mk 0 0 0 0)) (qV (uK ((es.getD ((((jK n es).getD k 0)).toNat) (jE.mk 0 0 (jB.mk 0 0 0 0))).turn))))))).2.1))),(2,some y1),(3,some y2),(4,some [(.own 5 28 4 n)]),(5,some (xQ jI ((gU es (jK n es) f (((es.getD ((((jK n es).getD k 0)).toNat) (jE.mk 0 0 (jB.mk 0 0 0 0))).to_).toNat) kk (oo.set (((es.getD ((((jK n es).getD k 0)).toNat) (jE.mk 0 0 (jB.mk 0 0 0 0))).to_).toNat) (qV (jX (oo.getD node (jB.mk 0 0 0 0)) (qV (uK ((es.getD ((((jK n es).getD k 0)).toNat) (jE.mk 0 0 (jB.mk 0 0 0 0))).turn))))))).2.2))),(6,some [(.clo 39 [0,2,3,4,6])])]) [0,1,2,3,4,5,6] [0,2,3,4,6] (ih (((es.getD ((((jK n es).getD k 0)).toNat) (jE.mk 0 0 (jB.mk 0 0 0 0))).to_).toNat) kk (oo.set (((es.getD ((((jK n es).getD k 0)).toNat) (jE.mk 0 0 (jB.mk 0 0 0 0))).to_).toNat) (qV (jX (oo.getD node (jB.mk 0 0 0 0)) (qV (uK ((es.getD ((((jK n es).getD k 0)).toNat) (jE.mk 0 0 (jB.mk 0 0 0 0))).turn)))))) hpr) (ex:=[.ref 0 0,.ref 2 0,.ref 3 0,.ref 4 0,.ref 6 0]) (hy:=.clo (kk:=[0,2,3,4,6]) (by kernel_rfl) (by kernel_rfl))<|zM<|zF) ?_
     refine jA<|kx [(72,(vb ((((gU es (jK n es) f (((es.getD ((((jK n es).getD k 0)).toNat) (jE.mk 0 0 (jB.mk 0 0 0 0))).to_).toNat) kk (oo.set (((es.getD ((((jK n es).getD k 0)).toNat) (jE.mk 0 0 (jB.mk 0 0 0 0))).to_).toNat) (qV (jX (oo.getD node (jB.mk 0 0 0 0)) (qV (uK ((es.getD ((((jK n es).getD k 0)).toNat) (jE.mk 0 0 (jB.mk 0 0 0 0))).turn))))))).1:Nat):Int) != ((0:Nat):Int))))] [] (zM<|zE xX<|zZ) ?_
     refine jF rfl (fun h5=>?_) (fun h5=>?_)
     ·replace h5:=bne_iff_ne.1 h5
      refine jA<|kU (wk (l:=[(0,(jN node)),(1,(.ref 0 0)),(2,(.ref 2 0)),(3,(.ref 3 0)),(4,(.ref 4 0)),(5,(.ref 6 0)),(13,(jN ((gU es (jK n es) f (((es.getD ((((jK n es).getD k 0)).toNat) (jE.mk 0 0 (jB.mk 0 0 0 0))).to_).toNat) kk (oo.set (((es.getD ((((jK n es).getD k 0)).toNat) (jE.mk 0 0 (jB.mk 0 0 0 0))).to_).toNat) (qV (jX (oo.getD node (jB.mk 0 0 0 0)) (qV (uK ((es.getD ((((jK n es).getD k 0)).toNat) (jE.mk 0 0 (jB.mk 0 0 0 0))).turn))))))).1))),(17,(vl 3 1 jT (jK n es))),(18,(jN ((jK n es).length))),(19,(jN k)),(72,(vb ((((gU es (jK n es) f (((es.getD ((((jK n es).getD k 0)).toNat) (jE.mk 0 0 (jB.mk 0 0 0 0))).to_).toNat) kk (oo.set (((es.getD ((((jK n es).getD k 0)).toNat) (jE.mk 0 0 (jB.mk 0 0 0 0))).to_).toNat) (qV (jX (oo.getD node (jB.mk 0 0 0 0)) (qV (uK ((es.getD ((((jK n es).getD k 0)).toNat) (jE.mk 0 0 (jB.mk 0 0 0 0))).turn))))))).1:Nat):Int) != ((0:Nat):Int))))]) (b:=[(0,some [(.own 1 4 1 n)]),(1,some (bm uI ((gU es (jK n es) f (((es.getD ((((jK n es).getD k 0)).toNat) (jE.mk 0 0 (jB.mk 0 0 0 0))).to_).toNat) kk (oo.set (((es.getD ((((jK n es).getD k 0)).toNat) (jE.mk 0 0 (jB.mk 0 0 0 0))).to_).toNat) (qV (jX (oo.getD node (jB.mk 0 0 0 0)) (qV (uK ((es.getD ((((jK n es).getD k 0)).toNat) (jE.mk 0 0 (jB.mk 0 0 0 0))).turn))))))).2.1))),(2,some y1),(3,some y2),(4,some [(.own 5 28 4 n)]),(5,some (xQ jI ((gU es (jK n es) f (((es.getD ((((jK n es).getD k 0)).toNat) (jE.mk 0 0 (jB.mk 0 0 0 0))).to_).toNat) kk (oo.set (((es.getD ((((jK n es).getD k 0)).toNat) (jE.mk 0 0 (jB.mk 0 0 0 0))).to_).toNat) (qV (jX (oo.getD node (jB.mk 0 0 0 0)) (qV (uK ((es.getD ((((jK n es).getD k 0)).toNat) (jE.mk 0 0 (jB.mk 0 0 0 0))).turn))))))).2.2))),(6,some [(.clo 39 [0,2,3,4,6])])])) ?_
      refine kx [(7,(jN ((gU es (jK n es) f (((es.getD ((((jK n es).getD k 0)).toNat) (jE.mk 0 0 (jB.mk 0 0 0 0))).to_).toNat) kk (oo.set (((es.getD ((((jK n es).getD k 0)).toNat) (jE.mk 0 0 (jB.mk 0 0 0 0))).to_).toNat) (qV (jX (oo.getD node (jB.mk 0 0 0 0)) (qV (uK ((es.getD ((((jK n es).getD k 0)).toNat) (jE.mk 0 0 (jB.mk 0 0 0 0))).turn))))))).1)))] [] (zM<|zM<|zZ) ?_
      have hR:gU es (jK n es) (f+1) node kn out=(gU es (jK n es) f (es.getD ((jK n es).getD k 0).toNat (jE.mk 0 0 (jB.mk 0 0 0 0))).to_.toNat kk (oo.set (es.getD ((jK n es).getD k 0).toNat (jE.mk 0 0 (jB.mk 0 0 0 0))).to_.toNat (qV (jX (oo.getD node (jB.mk 0 0 0 0)) (qV (uK (es.getD ((jK n es).getD k 0).toNat (jE.mk 0 0 (jB.mk 0 0 0 0))).turn)))))):=fwAt_end (k:=k) (by omega) ((aL hf).trans ((st_f h2 h3).trans (if_pos (show qC (jX (oo.getD node (jB.mk 0 0 0 0)) (qV (uK (es.getD ((jK n es).getD k 0).toNat (jE.mk 0 0 (jB.mk 0 0 0 0))).turn)))=0 by omega)))) (show _≠0 by first | omega | (dsimp only;omega))
      rw[hR]
      refine jG ⟨bget_sub (by kernel_rfl),refs_ok (by kernel_rfl),.inl ⟨_,(.tmp (d:=(.val (.int .i64 ((((gU es (jK n es) f (((es.getD ((((jK n es).getD k 0)).toNat) (jE.mk 0 0 (jB.mk 0 0 0 0))).to_).toNat) kk (oo.set (((es.getD ((((jK n es).getD k 0)).toNat) (jE.mk 0 0 (jB.mk 0 0 0 0))).to_).toNat) (qV (jX (oo.getD node (jB.mk 0 0 0 0)) (qV (uK ((es.getD ((((jK n es).getD k 0)).toNat) (jE.mk 0 0 (jB.mk 0 0 0 0))).turn))))))).1:Nat):Int))))) rfl .nil),?_⟩⟩
      rfl
     ·replace h5:=bne_eq_false_iff_eq.1 h5
      refine jD<|kU (wk (l:=[(0,(jN node)),(1,(.ref 0 0)),(2,(.ref 2 0)),(3,(.ref 3 0)),(4,(.ref 4 0)),(5,(.ref 6 0)),(13,(jN ((gU es (jK n es) f (((es.getD ((((jK n es).getD k 0)).toNat) (jE.mk 0 0 (jB.mk 0 0 0 0))).to_).toNat) kk (oo.set (((es.getD ((((jK n es).getD k 0)).toNat) (jE.mk 0 0 (jB.mk 0 0 0 0))).to_).toNat) (qV (jX (oo.getD node (jB.mk 0 0 0 0)) (qV (uK ((es.getD ((((jK n es).getD k 0)).toNat) (jE.mk 0 0 (jB.mk 0 0 0 0))).turn))))))).1))),(17,(vl 3 1 jT (jK n es))),(18,(jN ((jK n es).length))),(19,(jN k)),(72,(vb ((((gU es (jK n es) f (((es.getD ((((jK n es).getD k 0)).toNat) (jE.mk 0 0 (jB.mk 0 0 0 0))).to_).toNat) kk (oo.set (((es.getD ((((jK n es).getD k 0)).toNat) (jE.mk 0 0 (jB.mk 0 0 0 0))).to_).toNat) (qV (jX (oo.getD node (jB.mk 0 0 0 0)) (qV (uK ((es.getD ((((jK n es).getD k 0)).toNat) (jE.mk 0 0 (jB.mk 0 0 0 0))).turn))))))).1:Nat):Int) != ((0:Nat):Int))))]) (b:=[(0,some [(.own 1 4 1 n)]),(1,some (bm uI ((gU es (jK n es) f (((es.getD ((((jK n es).getD k 0)).toNat) (jE.mk 0 0 (jB.mk 0 0 0 0))).to_).toNat) kk (oo.set (((es.getD ((((jK n es).getD k 0)).toNat) (jE.mk 0 0 (jB.mk 0 0 0 0))).to_).toNat) (qV (jX (oo.getD node (jB.mk 0 0 0 0)) (qV (uK ((es.getD ((((jK n es).getD k 0)).toNat) (jE.mk 0 0 (jB.mk 0 0 0 0))).turn))))))).2.1))),(2,some y1),(3,some y2),(4,some [(.own 5 28 4 n)]),(5,some (xQ jI ((gU es (jK n es) f (((es.getD ((((jK n es).getD k 0)).toNat) (jE.mk 0 0 (jB.mk 0 0 0 0))).to_).toNat) kk (oo.set (((es.getD ((((jK n es).getD k 0)).toNat) (jE.mk 0 0 (jB.mk 0 0 0 0))).to_).toNat) (qV (jX (oo.getD node (jB.mk 0 0 0 0)) (qV (uK ((es.getD ((((jK n es).getD k 0)).toNat) (jE.mk 0 0 (jB.mk 0 0 0 0))).turn))))))).2.2))),(6,some [(.clo 39 [0,2,3,4,6])])])) ?_
      refine kx [(19,(jN (k+1)))] [] (zE (uL (k+1))<|zM<|zZ) ?_
      exact ⟨(k+1,(gU es (jK n es) f (es.getD ((jK n es).getD k 0).toNat (jE.mk 0 0 (jB.mk 0 0 0 0))).to_.toNat kk (oo.set (es.getD ((jK n es).getD k 0).toNat (jE.mk 0 0 (jB.mk 0 0 0 0))).to_.toNat (qV (jX (oo.getD node (jB.mk 0 0 0 0)) (qV (uK (es.getD ((jK n es).getD k 0).toNat (jE.mk 0 0 (jB.mk 0 0 0 0))).turn)))))).2.1,(gU es (jK n es) f (es.getD ((jK n es).getD k 0).toNat (jE.mk 0 0 (jB.mk 0 0 0 0))).to_.toNat kk (oo.set (es.getD ((jK n es).getD k 0).toNat (jE.mk 0 0 (jB.mk 0 0 0 0))).to_.toNat (qV (jX (oo.getD node (jB.mk 0 0 0 0)) (qV (uK (es.getD ((jK n es).getD k 0).toNat (jE.mk 0 0 (jB.mk 0 0 0 0))).turn)))))).2.2),wk,⟨by omega,(aL hf).trans ((st_f h2 h3).trans ((if_pos (show qC (jX (oo.getD node (jB.mk 0 0 0 0)) (qV (uK (es.getD ((jK n es).getD k 0).toNat (jE.mk 0 0 (jB.mk 0 0 0 0))).turn)))=0 by omega)).trans (Prod.ext (show (gU es (jK n es) f (es.getD ((jK n es).getD k 0).toNat (jE.mk 0 0 (jB.mk 0 0 0 0))).to_.toNat kk (oo.set (es.getD ((jK n es).getD k 0).toNat (jE.mk 0 0 (jB.mk 0 0 0 0))).to_.toNat (qV (jX (oo.getD node (jB.mk 0 0 0 0)) (qV (uK (es.getD ((jK n es).getD k 0).toNat (jE.mk 0 0 (jB.mk 0 0 0 0))).turn)))))).1=0 by omega) rfl))),hi.next ((flw_ok heo f _ _ _ hpr).1 (show (gU es (jK n es) f (es.getD ((jK n es).getD k 0).toNat (jE.mk 0 0 (jB.mk 0 0 0 0))).to_.toNat kk (oo.set (es.getD ((jK n es).getD k 0).toNat (jE.mk 0 0 (jB.mk 0 0 0 0))).to_.toNat (qV (jX (oo.getD node (jB.mk 0 0 0 0)) (qV (uK (es.getD ((jK n es).getD k 0).toNat (jE.mk 0 0 (jB.mk 0 0 0 0))).turn)))))).1=0 by omega))⟩,(by first|omega|(dsimp only;omega))⟩
    ·replace h4:=ne_of_beq_false h4
     refine jD<|jA<|kx [(72,(vb true))] [] (zM<|zE (gI true xX (by exact bne_iff_ne.2 h4))<|zZ) ?_
     refine qZ ?_
     refine jA<|kx [(7,(jN (qC (jX (oo.getD node (jB.mk 0 0 0 0)) (qV (uK ((es.getD ((((jK n es).getD k 0)).toNat) (jE.mk 0 0 (jB.mk 0 0 0 0))).turn)))))))] [] (zM<|zM<|zZ) ?_
     have hR:gU es (jK n es) (f+1) node kn out=(qC (jX (oo.getD node (jB.mk 0 0 0 0)) (qV (uK (es.getD ((jK n es).getD k 0).toNat (jE.mk 0 0 (jB.mk 0 0 0 0))).turn))),kk,oo.set (es.getD ((jK n es).getD k 0).toNat (jE.mk 0 0 (jB.mk 0 0 0 0))).to_.toNat (qV (jX (oo.getD node (jB.mk 0 0 0 0)) (qV (uK (es.getD ((jK n es).getD k 0).toNat (jE.mk 0 0 (jB.mk 0 0 0 0))).turn))))):=fwAt_end (k:=k) (by omega) ((aL hf).trans ((st_f h2 h3).trans (if_neg (show ¬ qC (jX (oo.getD node (jB.mk 0 0 0 0)) (qV (uK (es.getD ((jK n es).getD k 0).toNat (jE.mk 0 0 (jB.mk 0 0 0 0))).turn)))=0 by omega)))) (show _≠0 by first | omega | (dsimp only;omega))
     rw[hR]
     refine jG ⟨bget_sub (by kernel_rfl),refs_ok (by kernel_rfl),.inl ⟨_,(.tmp (d:=(.val (.int .i64 ((((qC (jX (oo.getD node (jB.mk 0 0 0 0)) (qV (uK ((es.getD ((((jK n es).getD k 0)).toNat) (jE.mk 0 0 (jB.mk 0 0 0 0))).turn))))):Nat):Int))))) rfl .nil),?_⟩⟩
     rfl
  ·replace h2:=ne_of_beq_false h2
   refine jA<|kx [(44,(vb (((node:Nat):Int) == (es.getD ((((jK n es).getD k 0)).toNat) (jE.mk 0 0 (jB.mk 0 0 0 0))).to_)))] [] (zE (jY fo56_1)<|zR (jZ kK)<|zE zW<|zM<|zZ) ?_
   refine jF rfl (fun h6=>?_) (fun h6=>?_)
   ·replace h6:=eq_of_beq h6
    refine jD<|jA<|jA<|kx [(51,(vb (kk.getD (((es.getD ((((jK n es).getD k 0)).toNat) (jE.mk 0 0 (jB.mk 0 0 0 0))).fr).toNat) false)))] [] (zR (jZ sh92)<|zM<|zE (oXo el92 (((es.getD ((((jK n es).getD k 0)).toNat) (jE.mk 0 0 (jB.mk 0 0 0 0))).fr).toNat))<|zR (oLp aH (((es.getD ((((jK n es).getD k 0)).toNat) (jE.mk 0 0 (jB.mk 0 0 0 0))).fr).toNat) (false:Bool))<|zZ) ?_
    refine jF rfl (fun h7=>?_) (fun h7=>?_)
    ·refine jS<|kx [(19,(jN (k+1)))] [] (zE (uL (k+1))<|zM<|zZ) ?_
     exact ⟨(k+1,kk,oo),wk,⟨by omega,(aL hf).trans (st_bk h2 h6 h7),hi⟩,(by first|omega|(dsimp only;omega))⟩
    ·refine jD<|jA<|jA<|kx [(53,(vb true))] [] (zM<|zE (gI true zW)<|zZ) ?_
     refine qZ ?_
     refine kd [(13,(jN (qC (jX (oo.getD node (jB.mk 0 0 0 0)) ((es.getD ((((jK n es).getD k 0)).toNat) (jE.mk 0 0 (jB.mk 0 0 0 0))).turn)))))] [(5,some (xQ jI (oo.set (((es.getD ((((jK n es).getD k 0)).toNat) (jE.mk 0 0 (jB.mk 0 0 0 0))).fr).toNat) (qV (jX (oo.getD node (jB.mk 0 0 0 0)) ((es.getD ((((jK n es).getD k 0)).toNat) (jE.mk 0 0 (jB.mk 0 0 0 0))).turn))))))] mo (wR (jZ sh34)<|wM<|wR (jZ sh34)<|wM<|wE (oXO eN node)<|wR (oLA qQ node (jB.mk 0 0 0 0))<|wR (qE qQ)<|wE (kD (l_mul (oo.getD node (jB.mk 0 0 0 0)) ((es.getD ((((jK n es).getD k 0)).toNat) (jE.mk 0 0 (jB.mk 0 0 0 0))).turn) hon hei6))<|wM<|wE vF<|wE vF<|wE (oXO eN (((es.getD ((((jK n es).getD k 0)).toNat) (jE.mk 0 0 (jB.mk 0 0 0 0))).fr).toNat))<|wT (oSA qQ (((es.getD ((((jK n es).getD k 0)).toNat) (jE.mk 0 0 (jB.mk 0 0 0 0))).fr).toNat) (qV (jX (oo.getD node (jB.mk 0 0 0 0)) ((es.getD ((((jK n es).getD k 0)).toNat) (jE.mk 0 0 (jB.mk 0 0 0 0))).turn))))<|wM<|wZ) ?_
     refine jA<|jA<|kx [(67,(vb ((((qC (jX (oo.getD node (jB.mk 0 0 0 0)) ((es.getD ((((jK n es).getD k 0)).toNat) (jE.mk 0 0 (jB.mk 0 0 0 0))).turn))):Nat):Int) == ((0:Nat):Int))))] [] (zM<|zE zW<|zZ) ?_
     refine jF rfl (fun h8=>?_) (fun h8=>?_)
     ·replace h8:=eq_of_beq h8
      obtain ⟨hg1,hg2⟩:=hi.fi.put heo (nx:=(es.getD ((jK n es).getD k 0).toNat (jE.mk 0 0 (jB.mk 0 0 0 0))).fr.toNat) (by omega) h7 (bwd_u heo hnn hi him hil h6) (show qC (jX (oo.getD node (jB.mk 0 0 0 0)) (es.getD ((jK n es).getD k 0).toNat (jE.mk 0 0 (jB.mk 0 0 0 0))).turn)=0 by omega)
      have hpr:FwPre n es f (es.getD ((jK n es).getD k 0).toNat (jE.mk 0 0 (jB.mk 0 0 0 0))).fr.toNat kk (oo.set (es.getD ((jK n es).getD k 0).toNat (jE.mk 0 0 (jB.mk 0 0 0 0))).fr.toNat (qV (jX (oo.getD node (jB.mk 0 0 0 0)) (es.getD ((jK n es).getD k 0).toNat (jE.mk 0 0 (jB.mk 0 0 0 0))).turn))):=⟨hg1,by omega,h7,hg2,hi.fuel⟩
      refine kf [(13,(jN ((gU es (jK n es) f (((es.getD ((((jK n es).getD k 0)).toNat) (jE.mk 0 0 (jB.mk 0 0 0 0))).fr).toNat) kk (oo.set (((es.getD ((((jK n es).getD k 0)).toNat) (jE.mk 0 0 (jB.mk 0 0 0 0))).fr).toNat) (qV (jX (oo.getD node (jB.mk 0 0 0 0)) ((es.getD ((((jK n es).getD k 0)).toNat) (jE.mk 0 0 (jB.mk 0 0 0 0))).turn))))).1)))] [(0,some [(.own 1 4 1 n)]),(1,some (bm uI ((gU es (jK n es) f (((es.getD ((((jK n es).getD k 0)).toNat) (jE.mk 0 0 (jB.mk 0 0 0 0))).fr).toNat) kk (oo.set (((es.getD ((((jK n es).getD k 0)).toNat) (jE.mk 0 0 (jB.mk 0 0 0 0))).fr).toNat) (qV (jX (oo.getD node (jB.mk 0 0 0 0)) ((es.getD ((((jK n es).getD k 0)).toNat) (jE.mk 0 0 (jB.mk 0 0 0 0))).turn))))).2.1))),(2,some y1),(3,some y2),(4,some [(.own 5 28 4 n)]),(5,some (xQ jI ((gU es (jK n es) f (((es.getD ((((jK n es).getD k 0)).toNat) (jE.mk 0 0 (jB.mk 0 0 0 0))).fr).toNat) kk (oo.set (((es.getD ((((jK n es).getD k 0)).toNat) (jE.mk 0 0 (jB.mk 0 0 0 0))).fr).toNat) (qV (jX (oo.getD node (jB.mk 0 0 0 0)) ((es.getD ((((jK n es).getD k 0)).toNat) (jE.mk 0 0 (jB.mk 0 0 0 0))).turn))))).2.2))),(6,some [(.clo 39 [0,2,3,4,6])])] (zR (jZ sh93)<|zE (oQd (.val (.int .i64 ((es.getD ((((jK n es).getD k 0)).toNat) (jE.mk 0 0 (jB.mk 0 0 0 0))).fr))) (.val (.int .i64 (((((es.getD ((((jK n es).getD k 0)).toNat) (jE.mk 0 0 (jB.mk 0 0 0 0))).fr).toNat:Nat):Int)))) (oV (vi ((es.getD ((((jK n es).getD k 0)).toNat) (jE.mk 0 0 (jB.mk 0 0 0 0))).fr)) (kA (by kernel_rfl))) (by exact (congrArg (fun z=>jW.val (.int .i64 z)) (by omega))))<|zSe (B2:=[(0,some [(.own 1 4 1 n)]),(1,some (bm uI kk)),(2,some y1),(3,some y2),(4,some [(.own 5 28 4 n)]),(5,some (xQ jI (oo.set (((es.getD ((((jK n es).getD k 0)).toNat) (jE.mk 0 0 (jB.mk 0 0 0 0))).fr).toNat) (qV (jX (oo.getD node (jB.mk 0 0 0 0)) ((es.getD ((((jK n es).getD k 0)).toNat) (jE.mk 0 0 (jB.mk 0 0 0 0))).turn)))))),(6,some [(.clo 39 [0,2,3,4,6])])]) (B2':=[(0,some [(.own 1 4 1 n)]),(1,some (bm uI ((gU es (jK n es) f (((es.getD ((((jK n es).getD k 0)).toNat) (jE.mk 0 0 (jB.mk 0 0 0 0))).fr).toNat) kk (oo.set (((es.getD ((((jK n es).getD k 0)).toNat) (jE.mk 0 0 (jB.mk 0 0 0 0))).fr).toNat) (qV (jX (oo.getD node (jB.mk 0 0 0 0)) ((es.getD ((((jK n es).getD k 0)).toNat) (jE.mk 0 0 (jB.mk 0 0 0 0))).turn))))).2.1))),(2,some y1),(3,some y2),(4,some [(.own 5 28 4 n)]),(5,some (xQ jI ((gU es (jK n es) f (((es.getD ((((jK n es).getD k 0)).toNat) (jE.mk 0 0 (jB.mk 0 0 0 0))).fr).toNat) kk (oo.set (((es.getD ((((jK n es).getD k 0)).toNat) (jE.mk 0 0 (jB.mk 0 0 0 0))).fr).toNat) (qV (jX (oo.getD node (jB.mk 0 0 0 0)) ((es.getD ((((jK n es).getD k 0)).toNat) (jE.mk 0 0 (jB.mk 0 0 0 0))).turn))))).2.2))),(6,some [(.clo 39 [0,2,3,4,6])])]) [0,1,2,3,4,5,6] [0,2,3,4,6] (ih (((es.getD ((((jK n es).getD k 0)).toNat) (jE.mk 0 0 (jB.mk 0 0 0 0))).fr).toNat) kk (oo.set (((es.getD ((((jK n es).getD k 0)).toNat) (jE.mk 0 0 (jB.mk 0 0 0 0))).fr).toNat) (qV (jX (oo.getD node (jB.mk 0 0 0 0)) ((es.getD ((((jK n es).getD k 0)).toNat) (jE.mk 0 0 (jB.mk 0 0 0 0))).turn)))) hpr) (ex:=[.ref 0 0,.ref 2 0,.ref 3 0,.ref 4 0,.ref 6 0]) (hy:=.clo (kk:=[0,2,3,4,6]) (by kernel_rfl) (by kernel_rfl))<|zM<|zF) ?_
      refine jA<|kx [(72,(vb ((((gU es (jK n es) f (((es.getD ((((jK n es).getD k 0)).toNat) (jE.mk 0 0 (jB.mk 0 0 0 0))).fr).toNat) kk (oo.set (((es.getD ((((jK n es).getD k 0)).toNat) (jE.mk 0 0 (jB.mk 0 0 0 0))).fr).toNat) (qV (jX (oo.getD node (jB.mk 0 0 0 0)) ((es.getD ((((jK n es).getD k 0)).toNat) (jE.mk 0 0 (jB.mk 0 0 0 0))).turn))))).1:Nat):Int) != ((0:Nat):Int))))] [] (zM<|zE xX<|zZ) ?_
      refine jF rfl (fun h9=>?_) (fun h9=>?_)
      ·replace h9:=bne_iff_ne.1 h9
       refine jA<|kx [(7,(jN ((gU es (jK n es) f (((es.getD ((((jK n es).getD k 0)).toNat) (jE.mk 0 0 (jB.mk 0 0 0 0))).fr).toNat) kk (oo.set (((es.getD ((((jK n es).getD k 0)).toNat) (jE.mk 0 0 (jB.mk 0 0 0 0))).fr).toNat) (qV (jX (oo.getD node (jB.mk 0 0 0 0)) ((es.getD ((((jK n es).getD k 0)).toNat) (jE.mk 0 0 (jB.mk 0 0 0 0))).turn))))).1)))] [] (zM<|zM<|zZ) ?_
       have hR:gU es (jK n es) (f+1) node kn out=(gU es (jK n es) f (es.getD ((jK n es).getD k 0).toNat (jE.mk 0 0 (jB.mk 0 0 0 0))).fr.toNat kk (oo.set (es.getD ((jK n es).getD k 0).toNat (jE.mk 0 0 (jB.mk 0 0 0 0))).fr.toNat (qV (jX (oo.getD node (jB.mk 0 0 0 0)) (es.getD ((jK n es).getD k 0).toNat (jE.mk 0 0 (jB.mk 0 0 0 0))).turn)))):=fwAt_end (k:=k) (by omega) ((aL hf).trans ((st_b h2 h6 h7).trans (if_pos (show qC (jX (oo.getD node (jB.mk 0 0 0 0)) (es.getD ((jK n es).getD k 0).toNat (jE.mk 0 0 (jB.mk 0 0 0 0))).turn)=0 by omega)))) (show _≠0 by first | omega | (dsimp only;omega))
       rw[hR]
       refine jG ⟨bget_sub (by kernel_rfl),refs_ok (by kernel_rfl),.inl ⟨_,(.tmp (d:=(.val (.int .i64 ((((gU es (jK n es) f (((es.getD ((((jK n es).getD k 0)).toNat) (jE.mk 0 0 (jB.mk 0 0 0 0))).fr).toNat) kk (oo.set (((es.getD ((((jK n es).getD k 0)).toNat) (jE.mk 0 0 (jB.mk 0 0 0 0))).fr).toNat) (qV (jX (oo.getD node (jB.mk 0 0 0 0)) ((es.getD ((((jK n es).getD k 0)).toNat) (jE.mk 0 0 (jB.mk 0 0 0 0))).turn))))).1:Nat):Int))))) rfl .nil),?_⟩⟩
       rfl
      ·replace h9:=bne_eq_false_iff_eq.1 h9
       refine jD<|kx [(19,(jN (k+1)))] [] (zE (uL (k+1))<|zM<|zZ) ?_
       exact ⟨(k+1,(gU es (jK n es) f (es.getD ((jK n es).getD k 0).toNat (jE.mk 0 0 (jB.mk 0 0 0 0))).fr.toNat kk (oo.set (es.getD ((jK n es).getD k 0).toNat (jE.mk 0 0 (jB.mk 0 0 0 0))).fr.toNat (qV (jX (oo.getD node (jB.mk 0 0 0 0)) (es.getD ((jK n es).getD k 0).toNat (jE.mk 0 0 (jB.mk 0 0 0 0))).turn)))).2.1,(gU es (jK n es) f (es.getD ((jK n es).getD k 0).toNat (jE.mk 0 0 (jB.mk 0 0 0 0))).fr.toNat kk (oo.set (es.getD ((jK n es).getD k 0).toNat (jE.mk 0 0 (jB.mk 0 0 0 0))).fr.toNat (qV (jX (oo.getD node (jB.mk 0 0 0 0)) (es.getD ((jK n es).getD k 0).toNat (jE.mk 0 0 (jB.mk 0 0 0 0))).turn)))).2.2),wk,⟨by omega,(aL hf).trans ((st_b h2 h6 h7).trans ((if_pos (show qC (jX (oo.getD node (jB.mk 0 0 0 0)) (es.getD ((jK n es).getD k 0).toNat (jE.mk 0 0 (jB.mk 0 0 0 0))).turn)=0 by omega)).trans (Prod.ext (show (gU es (jK n es) f (es.getD ((jK n es).getD k 0).toNat (jE.mk 0 0 (jB.mk 0 0 0 0))).fr.toNat kk (oo.set (es.getD ((jK n es).getD k 0).toNat (jE.mk 0 0 (jB.mk 0 0 0 0))).fr.toNat (qV (jX (oo.getD node (jB.mk 0 0 0 0)) (es.getD ((jK n es).getD k 0).toNat (jE.mk 0 0 (jB.mk 0 0 0 0))).turn)))).1=0 by omega) rfl))),hi.next ((flw_ok heo f _ _ _ hpr).1 (show (gU es (jK n es) f (es.getD ((jK n es).getD k 0).toNat (jE.mk 0 0 (jB.mk 0 0 0 0))).fr.toNat kk (oo.set (es.getD ((jK n es).getD k 0).toNat (jE.mk 0 0 (jB.mk 0 0 0 0))).fr.toNat (qV (jX (oo.getD node (jB.mk 0 0 0 0)) (es.getD ((jK n es).getD k 0).toNat (jE.mk 0 0 (jB.mk 0 0 0 0))).turn)))).1=0 by omega))⟩,(by first|omega|(dsimp only;omega))⟩
     ·replace h8:=ne_of_beq_false h8
      refine jD<|jA<|kx [(72,(vb true))] [] (zM<|zE (gI true xX (by exact bne_iff_ne.2 h8))<|zZ) ?_
      refine qZ ?_
      refine jA<|kx [(7,(jN (qC (jX (oo.getD node (jB.mk 0 0 0 0)) ((es.getD ((((jK n es).getD k 0)).toNat) (jE.mk 0 0 (jB.mk 0 0 0 0))).turn)))))] [] (zM<|zM<|zZ) ?_
      have hR:gU es (jK n es) (f+1) node kn out=(qC (jX (oo.getD node (jB.mk 0 0 0 0)) (es.getD ((jK n es).getD k 0).toNat (jE.mk 0 0 (jB.mk 0 0 0 0))).turn),kk,oo.set (es.getD ((jK n es).getD k 0).toNat (jE.mk 0 0 (jB.mk 0 0 0 0))).fr.toNat (qV (jX (oo.getD node (jB.mk 0 0 0 0)) (es.getD ((jK n es).getD k 0).toNat (jE.mk 0 0 (jB.mk 0 0 0 0))).turn))):=fwAt_end (k:=k) (by omega) ((aL hf).trans ((st_b h2 h6 h7).trans (if_neg (show ¬ qC (jX (oo.getD node (jB.mk 0 0 0 0)) (es.getD ((jK n es).getD k 0).toNat (jE.mk 0 0 (jB.mk 0 0 0 0))).turn)=0 by omega)))) (show _≠0 by first | omega | (dsimp only;omega))
      rw[hR]
      refine jG ⟨bget_sub (by kernel_rfl),refs_ok (by kernel_rfl),.inl ⟨_,(.tmp (d:=(.val (.int .i64 ((((qC (jX (oo.getD node (jB.mk 0 0 0 0)) ((es.getD ((((jK n es).getD k 0)).toNat) (jE.mk 0 0 (jB.mk 0 0 0 0))).turn))):Nat):Int))))) rfl .nil),?_⟩⟩
      rfl
   ·replace h6:=ne_of_beq_false h6
    refine jS<|kx [(19,(jN (k+1)))] [] (zE (uL (k+1))<|zM<|zZ) ?_
    exact ⟨(k+1,kk,oo),wk,⟨by omega,(aL hf).trans (st_none h2 h6),hi⟩,(by first|omega|(dsimp only;omega))⟩
 ·replace h1:=uZ h1
  refine jS<|jA<|kx [(7,(jN 0))] [] (zM<|zZ) ?_
  have hR:gU es (jK n es) (f+1) node kn out=(0,kk,oo):=by show nF _ _ _ _ _ _ _=_;rw[<- show k=(jK n es).length by omega];exact hf
  rw[hR]
  refine jG ⟨bget_sub (by kernel_rfl),refs_ok (by kernel_rfl),.inl ⟨_,(.tmp (d:=(.val (.int .i64 (((0:Nat):Int))))) rfl .nil),?_⟩⟩
  rfl
theorem e_flwA(n:Nat)(es:List jE)(heo:xP n es)(hn:n<=64)(hl2:es.length<=256):∀ (f node:Nat) (kn:List Bool) (out:List jB),FwPre n es f node kn out->aZ Tryz.prog 39 [(jN node),(.ref 0 0),(.ref 2 0),(.ref 3 0),(.ref 4 0),(.ref 6 0)] [(0,some [(.own 1 4 1 n)]),(1,some (bm uI kn)),(2,some (bx (.sl 3 1 (List.map jT (jK n es))))),(3,some (bx (.sl 56 6 (List.map kC es)))),(4,some [(.own 5 28 4 n)]),(5,some (xQ jI out)),(6,some [(.clo 39 [0,2,3,4,6])])] (.d (.val (.int .i64 ((((gU es (jK n es) f node kn out).1:Nat):Int))))) [(0,some [(.own 1 4 1 n)]),(1,some (bm uI ((gU es (jK n es) f node kn out).2.1))),(2,some (bx (.sl 3 1 (List.map jT (jK n es))))),(3,some (bx (.sl 56 6 (List.map kC es)))),(4,some [(.own 5 28 4 n)]),(5,some (xQ jI ((gU es (jK n es) f node kn out).2.2))),(6,some [(.clo 39 [0,2,3,4,6])])]
 |0,node,kn,out,h=>by
  exfalso
  have hl:node<kn.length:=by rw[h.fi.1];exact h.nd
  have:=uk_set hl h.un
  have:=h.fuel
  omega
 |f+1,node,kn,out,h=>e_flwS node kn es out n f heo hn hl2 h (fun nd k o hp=>e_flwA n es heo hn hl2 f nd k o hp)
theorem e_flw(node:Nat)(kn:List Bool)(es:List jE)(out:List jB)(n f:Nat)(heo:xP n es)(hn:n<=64)(hl2:es.length<=256)(hpr:FwPre n es f node kn out):aZ Tryz.prog 39 [(jN node),(.ref 0 0),(.ref 2 0),(.ref 3 0),(.ref 4 0),(.ref 6 0)] [(0,some [(.own 1 4 1 n)]),(1,some (bm uI kn)),(2,some (bx (.sl 3 1 (List.map jT (jK n es))))),(3,some (bx (.sl 56 6 (List.map kC es)))),(4,some [(.own 5 28 4 n)]),(5,some (xQ jI out)),(6,some [(.clo 39 [0,2,3,4,6])])] (.d (.val (.int .i64 ((((gU es (jK n es) f node kn out).1:Nat):Int))))) [(0,some [(.own 1 4 1 n)]),(1,some (bm uI ((gU es (jK n es) f node kn out).2.1))),(2,some (bx (.sl 3 1 (List.map jT (jK n es))))),(3,some (bx (.sl 56 6 (List.map kC es)))),(4,some [(.own 5 28 4 n)]),(5,some (xQ jI ((gU es (jK n es) f node kn out).2.2))),(6,some [(.clo 39 [0,2,3,4,6])])]:=e_flwA n es heo hn hl2 f node kn out hpr
theorem by4:xD Tryz.prog 4=some 1:=by kernel_rfl
theorem by28:xD Tryz.prog 28=some 32:=by kernel_rfl
theorem ze34:uO Tryz.prog 34=some [.slice none 0 0]:=by kernel_rfl
theorem ze60:uO Tryz.prog 60=some [.slice none 0 0]:=by kernel_rfl
theorem ze92:uO Tryz.prog 92=some [.slice none 0 0]:=by kernel_rfl
theorem ze93:uO Tryz.prog 93=some [.nilFunc]:=by kernel_rfl
theorem zo34:nH [.slice none 0 0] [.sl 28 4 []]:=by simp [nH,Value.oneCell']
theorem zo60:nH [.slice none 0 0] [.sl 3 1 []]:=by simp [nH,Value.oneCell']
theorem zo92:nH [.slice none 0 0] [.sl 4 1 []]:=by simp [nH,Value.oneCell']
theorem zo93:nH [.nilFunc] [.val .nilFunc]:=by simp [nH,Value.oneCell']
theorem l_abs(n:Nat)(es:List jE)(heo:xP n es)(hn:n<=64)(hl2:es.length<=256):jU Tryz.prog 20 [(.val (.int .i64 (((n:Nat):Int)))),(.sl 56 6 (List.map kC es))] (.tup [(.sl 28 4 (List.map jI (vK n es))),(.val (.int .i64 ((((mH n es):Nat):Int))))]):=by
 let y1:=(bx (.sl 3 1 (List.map jT (jK n es))))
 refine vD Tryz.func20 ?_
 refine jA<|kx [(3,(.ref 0 0))] [(0,some (bx (.sl 56 6 (List.map kC es))))] (zN (yB 0)<|zE (fH 28 4)<|zM<|zZ) ?_
 refine jA<|kx [(6,(.ref 2 0))] [(1,some (xQ jI (List.replicate n (jB.mk 0 0 0 0)))),(2,some [(.own 1 28 4 n)])] (zM<|zN (oMkS 1 jI (jB.mk 0 0 0 0) n n eN gK gS by28)<|zH (vL 2 ze34 zo34)<|zT (oSo sh34)<|zZ) ?_
 refine jA<|kx [(7,(.ref 4 0))] [(3,some (bm uI (List.replicate n false))),(4,some [(.own 3 4 1 n)])] (zM<|zH (oMk 3 uI (false:Bool) n n el92 ze4 zo4 by4)<|zH (vL 4 ze92 zo92)<|zT (oSo sh92)<|zZ) ?_
 refine jA<|kx [(8,(.ref 5 0))] [(5,some y1)] (zM<|zR (jZ sh39)<|zE (kD (l_tree n es heo hn hl2))<|zH (vL 5 ze60 zo60)<|zT (qO sh60)<|zZ) ?_
 refine jA<|kx [(9,(.ref 6 0))] [(6,some (bx (.val .nilFunc)))] (zH (vL 6 ze93 zo93)<|zZ) ?_
 refine jA<|kx [] [(6,some [(.clo 39 [4,5,0,2,6])])] (zE (oMf [4,5,0,2,6])<|zT (oSc sh93)<|zZ) ?_
 refine jA<|jA<|kx [(20,(jN n)),(21,(jN 0))] [] (zM<|zM<|zZ) ?_
 refine jH<|kF (α:=Nat × List Bool × List jB) (fun (i,kn,ou)=>⟨[(6,(.ref 2 0)),(7,(.ref 4 0)),(9,(.ref 6 0)),(20,(jN n)),(21,(jN i))],[(0,some (bx (.sl 56 6 (List.map kC es)))),(1,some (xQ jI ou)),(2,some [(.own 1 28 4 n)]),(3,some (bm uI kn)),(4,some [(.own 3 4 1 n)]),(5,some y1),(6,some [(.clo 39 [4,5,0,2,6])])]⟩) (fun (i,kn,ou)=>i<=n/\AlI n es i kn ou) (fun (i,kn,ou)=>n-i) (0,List.replicate n false,List.replicate n (jB.mk 0 0 0 0)) wk ⟨Nat.zero_le _,AlI_0⟩ ?_
 rintro ⟨i,kn,ou⟩ ⟨hi,ha⟩
 have hkl:kn.length=n:=ha.fi.1
 have hol:ou.length=n:=ha.fi.2.1.1
 refine jA<|kx [(22,(vb (decide (((i:Nat):Int)<((n:Nat):Int)))))] [] (zE uT<|zZ) ?_
 refine jA<|jF rfl (fun h1=>?_) (fun h1=>?_)
 ·replace h1:=uY h1
  refine jD<|jA<|jH<|jA<|kx [(10,(jN i))] [] (zM<|zM<|zZ) ?_
  refine jA<|jA<|kx [(27,(vb (kn.getD i false)))] [] (zR (jZ sh92)<|zM<|zE (oXo el92 i)<|zR (oLp aH i (false:Bool))<|zZ) ?_
  refine jF (b:=(kn.getD i false)) rfl (fun h2=>?_) (fun h2=>?_)
  ·refine jS<|kx [(21,(jN (i+1)))] [] (zE (uL (i+1))<|zM<|zZ) ?_
   exact ⟨(i+1,kn,ou),wk,⟨by omega,ha.skip h2⟩,(by first|omega|(dsimp only;omega))⟩
  ·have hpr:=ha.pre heo (i:=i) (by omega) h2
   refine jD<|jA<|kd [] [(1,some (xQ jI (ou.set i q1)))] mo (wR (jZ sh34)<|wM<|wE (kD l_one)<|wE (oXO eN i)<|wT (oSA qQ i q1)<|wZ) ?_
   refine jA<|kf [(11,(jN ((gU es (jK n es) n i kn (ou.set i q1)).1)))] [(0,some (bx (.sl 56 6 (List.map kC es)))),(1,some (xQ jI ((gU es (jK n es) n i kn (ou.set i q1)).2.2))),(2,some [(.own 1 28 4 n)]),(3,some (bm uI ((gU es (jK n es) n i kn (ou.set i q1)).2.1))),(4,some [(.own 3 4 1 n)]),(5,some y1),(6,some [(.clo 39 [4,5,0,2,6])])] (zR (jZ sh93)<|zM<|zSe (B2:=[(4,some [(.own 3 4 1 n)]),(3,some (bm uI kn)),(5,some y1),(0,some (bx (.sl 56 6 (List.map kC es)))),(2,some [(.own 1 28 4 n)]),(1,some (xQ jI (ou.set i q1))),(6,some [(.clo 39 [4,5,0,2,6])])]) (B2':=[(4,some [(.own 3 4 1 n)]),(3,some (bm uI ((gU es (jK n es) n i kn (ou.set i q1)).2.1))),(5,some y1),(0,some (bx (.sl 56 6 (List.map kC es)))),(2,some [(.own 1 28 4 n)]),(1,some (xQ jI ((gU es (jK n es) n i kn (ou.set i q1)).2.2))),(6,some [(.clo 39 [4,5,0,2,6])])]) [4,3,5,0,2,1,6] [4,5,0,2,6] (e_flw i kn es (ou.set i q1) n n heo hn hl2 hpr) (ex:=[.ref 4 0,.ref 5 0,.ref 0 0,.ref 2 0,.ref 6 0]) (hy:=.clo (kk:=[4,5,0,2,6]) (by kernel_rfl) (by kernel_rfl))<|zM<|zF) ?_
   refine jA<|kx [(36,(vb ((((gU es (jK n es) n i kn (ou.set i q1)).1:Nat):Int) != ((0:Nat):Int))))] [] (zM<|zE xX<|zZ) ?_
   refine jF rfl (fun h3=>?_) (fun h3=>?_)
   ·replace h3:=bne_iff_ne.1 h3
    refine jA<|kx [(4,(vl 28 4 jI [])),(5,(jN ((gU es (jK n es) n i kn (ou.set i q1)).1)))] [] (zM<|zE (fH 28 4)<|zM<|zZ) ?_
    refine jG ⟨_,(.tmp (d:=(.sl 28 4 (List.map jI []))) rfl (.tmp (d:=(.val (.int .i64 ((((gU es (jK n es) n i kn (ou.set i q1)).1:Nat):Int))))) rfl .nil)),?_⟩
    obtain ⟨q1,q2,q3⟩:=(flw_ok heo n _ _ _ hpr).2 (show (gU es (jK n es) n i kn (ou.set i q1)).1≠0 by omega)
    rw[q1,q2];show _=_;rw[q3];rfl
   ·replace h3:=bne_eq_false_iff_eq.1 h3
    refine jD<|kx [(21,(jN (i+1)))] [] (zE (uL (i+1))<|zM<|zZ) ?_
    exact ⟨(i+1,(gU es (jK n es) n i kn (ou.set i q1)).2.1,(gU es (jK n es) n i kn (ou.set i q1)).2.2),wk,⟨by omega,ha.next ((flw_ok heo n _ _ _ hpr).1 (show (gU es (jK n es) n i kn (ou.set i q1)).1=0 by omega))⟩,(by first|omega|(dsimp only;omega))⟩
 ·replace h1:=uZ h1
  refine jS<|jA<|kU (publishB (j:=2) (k:=1) (es:=List.map jI ou) rfl rfl rfl (nN _ _ (fun _=>rfl)) (vN _ _ hol) (mN jI ou (fun _=>rfl) hol)) ?_
  refine kx [(4,(vl 28 4 jI ou)),(5,(jN 0))] [] (zR (jZ sh34)<|zM<|zM<|zZ) ?_
  refine jG ⟨_,(.tmp (d:=(.sl 28 4 (List.map jI ou))) rfl (.tmp (d:=(.val (.int .i64 (((0:Nat):Int))))) rfl .nil)),?_⟩
  obtain ⟨q1,q2⟩:=ha.end_ heo (by omega)
  rw[<- q1,q2];rfl
theorem l_Tree(z:Int)(es:List jE)(hb:es.length<=1000000):jU Tryz.prog 12 [(.val (.int .i64 (z))),(.sl 56 6 (List.map kC es))] (.tup [(.sl 3 1 (List.map jT (okL (zP z es) (jK (Int.toNat z) es)))),(.val (.int .i64 ((((zP z es):Nat):Int))))]):=by
 refine vD Tryz.func12 ?_
 refine jA<|kx [] [] (zE (fH 3 1)<|zM<|zZ) ?_
 refine jA<|jA<|kx [(6,(jN (zP z es)))] [] (zM<|zM<|zE (kD (l_check z es hb))<|zM<|zZ) ?_
 refine jA<|kx [(11,(vb ((((zP z es):Nat):Int) != 0)))] [] (zM<|zE xX<|zZ) ?_
 refine jF (b:=((((zP z es):Nat):Int) != 0)) rfl (fun h1=>?_) (fun h1=>?_)
 ·replace h1:=bne_iff_ne.1 h1
  refine jA<|kx [(4,(vl 3 1 jT [])),(5,(jN (zP z es)))] [] (zM<|zE (fH 3 1)<|zM<|zZ) ?_
  refine jG ⟨_,(.tmp (d:=(.sl 3 1 (List.map jT []))) rfl (.tmp (d:=(.val (.int .i64 ((((zP z es):Nat):Int))))) rfl .nil)),?_⟩
  rw[okL_n (eD h1)];rfl
 ·replace h1:=bne_eq_false_iff_eq.1 h1
  have hc0:zP z es=0:=by omega
  obtain ⟨hz1,hz2,hl2,heo⟩:=lopC_0 hc0
  refine jD<|jA<|kx [(4,(vl 3 1 jT (jK z.toNat es))),(5,(jN 0))] [] (zE (oQd (.val (.int .i64 (z))) (.val (.int .i64 (((z.toNat:Nat):Int)))) (oV (vi z) (kA (by kernel_rfl))) (by exact (congrArg (fun z=>jW.val (.int .i64 z)) (by omega))))<|zM<|zE (kD (l_tree z.toNat es heo (by omega) hl2))<|zM<|zM<|zZ) ?_
  refine jG ⟨_,(.tmp (d:=(.sl 3 1 (List.map jT (jK z.toNat es)))) rfl (.tmp (d:=(.val (.int .i64 (0)))) rfl .nil)),?_⟩
  rw[okL_0 hc0,hc0];rfl
theorem l_btw(p:jB)(q:jB)(hp:mK p)(hq:mK q):jU Tryz.prog 21 [(jI p),(jI q)] (.tup [(jI (qV (jX (qV (uK q)) p))),(.val (.int .i64 ((((qC (jX (qV (uK q)) p)):Nat):Int))))]):=by
 refine vD Tryz.func21 ?_
 refine jA<|kx [(2,(.ref 0 0)),(3,(.ref 1 0)),(4,(.ref 2 0))] [(0,some (bx (jI p))),(1,some (bx (jI q))),(2,some (bx (jI (jB.mk 0 0 0 0))))] (zN (yB 0)<|zN (yB 1)<|zN (vL 2 gK gS)<|zM<|zZ) ?_
 refine jA<|kx [(6,(.ref 3 0)),(7,(jN (qC (uK q))))] [(3,some (bx (jI (qV (uK q)))))] (zR (qE qQ)<|zE (kD (l_conj q hq))<|zM<|zE vF<|zE vF<|zN (vL 3 gK gS)<|zT (qO qQ)<|zM<|zZ) ?_
 refine jA<|jA<|kx [(14,(vb false))] [] (zM<|zE (gI false xX (by exact bne_eq_false_iff_eq.2 (by rw[show (qC (uK q))=0 from (cI hq)]<;>rfl)))<|zZ) ?_
 refine uU ?_
 refine jD<|jA<|kx [(5,(jN (qC (jX (qV (uK q)) p))))] [(2,some (bx (jI (qV (jX (qV (uK q)) p)))))] (zR (qE qQ)<|zR (qE qQ)<|zE (kD (l_mul (qV (uK q)) p (cM (yN hq.1) (cI hq)) hp))<|zE vF<|zE vF<|zT (qO qQ)<|zM<|zZ) ?_
 refine jG ⟨_,(qK (cs:=(bx (jI (qV (jX (qV (uK q)) p))))) (d:=(jI (qV (jX (qV (uK q)) p)))) rfl rfl qQ rfl rfl (.tmp (d:=(.val (.int .i64 ((((qC (jX (qV (uK q)) p)):Nat):Int))))) rfl .nil)),?_⟩
 rfl
end Go.Proofs.YtciingpdmjepgaaGreat
