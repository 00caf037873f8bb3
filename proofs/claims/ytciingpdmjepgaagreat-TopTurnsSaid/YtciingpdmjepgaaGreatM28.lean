/- Part 28 of a proof: rules, plain facts, and functions walked. -/
import Derived.Test.YtciingpdmjepgaaGreatM27
import Derived.Test.YtciingpdmjepgaaGreatM25
import Derived.Test.YtciingpdmjepgaaGreatM23
set_option linter.all false
set_option maxRecDepth 4000
namespace Go.Proofs.YtciingpdmjepgaaGreat
open Go.Fid
theorem by51:xD Tryz.prog 51=some 64:=by kernel_rfl
theorem el44:uJ Tryz.prog 44=some (51,4):=by kernel_rfl
theorem l_Errs(z:Int)(es:List jE)(ts:List jB)(hb:es.length<=1000000)(hbt:ts.length<=1000000):jU Tryz.prog 8 [(.val (.int .i64 (z))),(.sl 56 6 (List.map kC es)),(.sl 28 4 (List.map jI ts))] (.tup [(.sl 51 4 (List.map qA (List.map gQ (ersV z es ts)))),(.val (.int .i64 ((((ersC z es ts):Nat):Int))))]):=by
 refine vD Tryz.func8 ?_
 refine jA<|kx [] [] (zE (fH 51 4)<|zM<|zZ) ?_
 refine jA<|jA<|kx [(8,(jN (zP z es)))] [] (zM<|zM<|zE (kD (l_check z es hb))<|zM<|zZ) ?_
 refine jA<|kx [(22,(vb ((((zP z es):Nat):Int) != 0)))] [] (zM<|zE xX<|zZ) ?_
 refine jF (b:=((((zP z es):Nat):Int) != 0)) rfl (fun h1=>?_) (fun h1=>?_)
 ·replace h1:=bne_iff_ne.1 h1
  refine jA<|kx [(6,(vl 51 4 qA [])),(7,(jN (zP z es)))] [] (zM<|zE (fH 51 4)<|zM<|zZ) ?_
  refine jG ⟨_,(.tmp (d:=(.sl 51 4 (List.map qA []))) rfl (.tmp (d:=(.val (.int .i64 ((((zP z es):Nat):Int))))) rfl .nil)),?_⟩
  rw[show ersV z es ts=[] from okL_n (by unfold ersC;rw[okC_n (eD h1)];exact eD h1),show ersC z es ts=zP z es from okC_n (eD h1)];rfl
 ·replace h1:=bne_eq_false_iff_eq.1 h1
  have hc0:zP z es=0:=by omega
  obtain ⟨hz1,hz2,hl2,heo⟩:=lopC_0 hc0
  refine jD<|jA<|jA<|kx [(27,(vb (((ts.length:Nat):Int) != z)))] [] (zM<|zE (vV eN)<|zM<|zE xX<|zZ) ?_
  refine jF (b:=(((ts.length:Nat):Int) != z)) rfl (fun h2=>?_) (fun h2=>?_)
  ·replace h2:=bne_iff_ne.1 h2
   refine jA<|kx [(6,(vl 51 4 qA [])),(7,(jN 4))] [] (zE (fH 51 4)<|zM<|zZ) ?_
   refine jG ⟨_,(.tmp (d:=(.sl 51 4 (List.map qA []))) rfl (.tmp (d:=(.val (.int .i64 (4)))) rfl .nil)),?_⟩
   have hcc:ersC z es ts=4:=by unfold ersC;rw[okC_0 hc0,if_neg h2]
   rw[show ersV z es ts=[] from okL_n (by rw[hcc];decide),hcc];rfl
  ·replace h2:=bne_eq_false_iff_eq.1 h2
   refine jD<|jA<|jA<|kx [(28,(vl 28 4 jI ts)),(29,(jN ts.length)),(30,(jN 0))] [] (zM<|zE (vV eN)<|zM<|zZ) ?_
   refine jH<|kF (α:=Nat) (fun m=>⟨[(1,(vl 56 6 kC es)),(2,(vl 28 4 jI ts)),(28,(vl 28 4 jI ts)),(29,(jN ts.length)),(30,(jN m))],[]⟩) (fun m=>m<=ts.length/\rtUp ts m) (fun m=>ts.length-m) 0 wk ⟨Nat.zero_le _,rtUp_0 _⟩ ?_
   rintro m ⟨hm,hr⟩
   refine jA<|kx [(31,(vb (decide (((m:Nat):Int)<((ts.length:Nat):Int)))))] [] (zE uT<|zZ) ?_
   refine jA<|jF rfl (fun h3=>?_) (fun h3=>?_)
   ·replace h3:=uY h3
    refine jD<|jA<|jH<|jA<|kx [(10,(.ref 0 0))] [(0,some (bx (jI (ts.getD m (jB.mk 0 0 0 0)))))] (zE (nA eN m (jB.mk 0 0 0 0))<|zE (oCa qQ)<|zN (vL 0 gK gS)<|zT (qO qQ)<|zZ) ?_
    refine jA<|kx [(11,(jN (yD ((ts.getD m (jB.mk 0 0 0 0)).a) ((ts.getD m (jB.mk 0 0 0 0)).b) ((ts.getD m (jB.mk 0 0 0 0)).c) ((ts.getD m (jB.mk 0 0 0 0)).d))))] [] (zR (qE qQ)<|zE (kD (q_chk ((ts.getD m (jB.mk 0 0 0 0)).a) ((ts.getD m (jB.mk 0 0 0 0)).b) ((ts.getD m (jB.mk 0 0 0 0)).c) ((ts.getD m (jB.mk 0 0 0 0)).d)))<|zM<|zZ) ?_
    refine jA<|kx [(37,(vb ((((yD ((ts.getD m (jB.mk 0 0 0 0)).a) ((ts.getD m (jB.mk 0 0 0 0)).b) ((ts.getD m (jB.mk 0 0 0 0)).c) ((ts.getD m (jB.mk 0 0 0 0)).d)):Nat):Int) != 0)))] [] (zM<|zE xX<|zZ) ?_
    refine jF rfl (fun h4=>?_) (fun h4=>?_)
    ·replace h4:=bne_iff_ne.1 h4
     refine jA<|kx [(6,(vl 51 4 qA [])),(7,(jN (yD ((ts.getD m (jB.mk 0 0 0 0)).a) ((ts.getD m (jB.mk 0 0 0 0)).b) ((ts.getD m (jB.mk 0 0 0 0)).c) ((ts.getD m (jB.mk 0 0 0 0)).d))))] [] (zM<|zE (fH 51 4)<|zM<|zZ) ?_
     refine jG ⟨_,(.tmp (d:=(.sl 51 4 (List.map qA []))) rfl (.tmp (d:=(.val (.int .i64 ((((yD ((ts.getD m (jB.mk 0 0 0 0)).a) ((ts.getD m (jB.mk 0 0 0 0)).b) ((ts.getD m (jB.mk 0 0 0 0)).c) ((ts.getD m (jB.mk 0 0 0 0)).d)):Nat):Int))))) rfl .nil)),?_⟩
     have hrc:rtC ts=rqC (ts.getD m (jB.mk 0 0 0 0)):=rt_at (by omega) hr (eD h4)
     have hrn:rqC (ts.getD m (jB.mk 0 0 0 0))≠0:=eD h4
     have hcc:ersC z es ts=rqC (ts.getD m (jB.mk 0 0 0 0)):=by unfold ersC;rw[okC_0 hc0,if_pos (by omega),okC_n (by rw[hrc];exact hrn),hrc]
     rw[show ersV z es ts=[] from okL_n (by rw[hcc];exact hrn),hcc];rfl
    ·replace h4:=bne_eq_false_iff_eq.1 h4
     refine jD<|kx [(30,(jN (m+1)))] [] (zE (uL (m+1))<|zM<|zZ) ?_
     exact ⟨(m+1),wk,⟨by omega,rtUp_s hr (show rqC (ts.getD m (jB.mk 0 0 0 0))=0 by show yD (ts.getD m (jB.mk 0 0 0 0)).a (ts.getD m (jB.mk 0 0 0 0)).b (ts.getD m (jB.mk 0 0 0 0)).c (ts.getD m (jB.mk 0 0 0 0)).d=0;omega)⟩,(by omega)⟩
   ·replace h3:=uZ h3
    have hrt:rtC ts=0:=rt_end (fun i hi=>hr i (by omega))
    have hts:TsOk z.toNat ts:=⟨by omega,rtC_0.1 hrt⟩
    have hcc:ersC z es ts=erC es ts:=by unfold ersC;rw[okC_0 hc0,if_pos (by omega),okC_0 hrt]
    refine jS<|jA<|kx [(12,(.own 1 51 4 0))] [(1,some (xQ qA []))] (zO 1 51 4<|zZ) ?_
    refine jA<|jA<|kx [(40,(vl 56 6 kC es)),(41,(jN es.length)),(42,(jN 0))] [] (zM<|zE (vV eF)<|zM<|zZ) ?_
    refine jH<|kF (α:=Nat × List vO) (fun (k,o)=>⟨[(2,(vl 28 4 jI ts)),(12,(.own 1 51 4 o.length)),(40,(vl 56 6 kC es)),(41,(jN es.length)),(42,(jN k))],[(1,some (xQ qA o))]⟩) (fun (k,o)=>k<=es.length/\erUp es ts k/\o=List.map gQ (List.map (erX ts) (es.take k))) (fun (k,o)=>es.length-k) (0,[]) wk ⟨Nat.zero_le _,erUp_0 _ _,rfl⟩ ?_
    rintro ⟨k,o⟩ ⟨hk,hv,ho⟩
    have hol:o.length=k:=by rw[ho];simp;omega
    refine jA<|kx [(43,(vb (decide (((k:Nat):Int)<((es.length:Nat):Int)))))] [] (zE uT<|zZ) ?_
    refine jA<|jF rfl (fun h5=>?_) (fun h5=>?_)
    ·replace h5:=uY h5
     have hek:EOkE z.toNat (es.getD k (jE.mk 0 0 (jB.mk 0 0 0 0))):=eL heo (k:=k) (by omega)
     obtain ⟨hek1,hek2,hek3,hek4,hek5,hek6⟩:=id hek
     have htT:=hts.at (j:=(es.getD k (jE.mk 0 0 (jB.mk 0 0 0 0))).to_.toNat) (by omega)
     have htF:=hts.at (j:=(es.getD k (jE.mk 0 0 (jB.mk 0 0 0 0))).fr.toNat) (by omega)
     have htl:=hts.1
     refine jD<|jA<|jH<|jA<|kx [(14,(.ref 2 0))] [(2,some (bx (kC (es.getD k (jE.mk 0 0 (jB.mk 0 0 0 0))))))] (zE (nA eF k (jE.mk 0 0 (jB.mk 0 0 0 0)))<|zE (oCa sh56)<|zH (vL 2 ze56 zo56)<|zT (qO sh56)<|zZ) ?_
     refine jA<|kd [(15,(.ref 3 0)),(16,(jN (qC (jX (qV (uK (ts.getD (((es.getD k (jE.mk 0 0 (jB.mk 0 0 0 0))).to_).toNat) (jB.mk 0 0 0 0)))) (ts.getD (((es.getD k (jE.mk 0 0 (jB.mk 0 0 0 0))).fr).toNat) (jB.mk 0 0 0 0))))))] [(3,some (bx (jI (qV (jX (qV (uK (ts.getD (((es.getD k (jE.mk 0 0 (jB.mk 0 0 0 0))).to_).toNat) (jB.mk 0 0 0 0)))) (ts.getD (((es.getD k (jE.mk 0 0 (jB.mk 0 0 0 0))).fr).toNat) (jB.mk 0 0 0 0)))))))] mo (wM<|wE (jY fo56_0)<|wR (jZ kK)<|wE (nA eN (((es.getD k (jE.mk 0 0 (jB.mk 0 0 0 0))).fr).toNat) (jB.mk 0 0 0 0))<|wE (oCa qQ)<|wM<|wE (jY fo56_1)<|wR (jZ kK)<|wE (nA eN (((es.getD k (jE.mk 0 0 (jB.mk 0 0 0 0))).to_).toNat) (jB.mk 0 0 0 0))<|wE (oCa qQ)<|wE (kD (l_btw (ts.getD (((es.getD k (jE.mk 0 0 (jB.mk 0 0 0 0))).fr).toNat) (jB.mk 0 0 0 0)) (ts.getD (((es.getD k (jE.mk 0 0 (jB.mk 0 0 0 0))).to_).toNat) (jB.mk 0 0 0 0)) htF htT))<|wM<|wE vF<|wE vF<|wH (hc:=by kernel_rfl) (vL 3 gK gS)<|wT (qO qQ)<|wM<|wZ) ?_
     refine jA<|jA<|kx [(61,(vb ((((qC (jX (qV (uK (ts.getD (((es.getD k (jE.mk 0 0 (jB.mk 0 0 0 0))).to_).toNat) (jB.mk 0 0 0 0)))) (ts.getD (((es.getD k (jE.mk 0 0 (jB.mk 0 0 0 0))).fr).toNat) (jB.mk 0 0 0 0)))):Nat):Int) != 0)))] [] (zM<|zE xX<|zZ) ?_
     refine jF rfl (fun h6=>?_) (fun h6=>?_)
     ·replace h6:=bne_iff_ne.1 h6
      refine jA<|kx [(6,(vl 51 4 qA [])),(7,(jN (qC (jX (qV (uK (ts.getD (((es.getD k (jE.mk 0 0 (jB.mk 0 0 0 0))).to_).toNat) (jB.mk 0 0 0 0)))) (ts.getD (((es.getD k (jE.mk 0 0 (jB.mk 0 0 0 0))).fr).toNat) (jB.mk 0 0 0 0))))))] [] (zM<|zE (fH 51 4)<|zM<|zZ) ?_
      refine jG ⟨_,(.tmp (d:=(.sl 51 4 (List.map qA []))) rfl (.tmp (d:=(.val (.int .i64 ((((qC (jX (qV (uK (ts.getD (((es.getD k (jE.mk 0 0 (jB.mk 0 0 0 0))).to_).toNat) (jB.mk 0 0 0 0)))) (ts.getD (((es.getD k (jE.mk 0 0 (jB.mk 0 0 0 0))).fr).toNat) (jB.mk 0 0 0 0)))):Nat):Int))))) rfl .nil)),?_⟩
      obtain ⟨q1,q2,q3⟩:=er_no (es:=es) (ts:=ts) (k:=k) (by omega) (eD h6)
      rw[show ersV z es ts=[] from okL_n (by rw[hcc,q2];decide),hcc,q2,show qC (jX (qV (uK (ts.getD (es.getD k (jE.mk 0 0 (jB.mk 0 0 0 0))).to_.toNat (jB.mk 0 0 0 0)))) (ts.getD (es.getD k (jE.mk 0 0 (jB.mk 0 0 0 0))).fr.toNat (jB.mk 0 0 0 0)))=3 from q3];rfl
     ·replace h6:=bne_eq_false_iff_eq.1 h6
      have hqb:mK (qV (jX (qV (uK (ts.getD (es.getD k (jE.mk 0 0 (jB.mk 0 0 0 0))).to_.toNat (jB.mk 0 0 0 0)))) (ts.getD (es.getD k (jE.mk 0 0 (jB.mk 0 0 0 0))).fr.toNat (jB.mk 0 0 0 0)))):=cM (ebt_nz hts heo (k:=k) (by omega)) (show qC (jX (qV (uK (ts.getD (es.getD k (jE.mk 0 0 (jB.mk 0 0 0 0))).to_.toNat (jB.mk 0 0 0 0)))) (ts.getD (es.getD k (jE.mk 0 0 (jB.mk 0 0 0 0))).fr.toNat (jB.mk 0 0 0 0)))=0 by omega)
      refine jD<|jA<|kx [(16,(vi 0)),(17,(.ref 4 0))] [(4,some (bx (qA (gQ (chQ ((es.getD k (jE.mk 0 0 (jB.mk 0 0 0 0))).turn) (qV (jX (qV (uK (ts.getD (((es.getD k (jE.mk 0 0 (jB.mk 0 0 0 0))).to_).toNat) (jB.mk 0 0 0 0)))) (ts.getD (((es.getD k (jE.mk 0 0 (jB.mk 0 0 0 0))).fr).toNat) (jB.mk 0 0 0 0)))))))))] (zE (jY fo56_2)<|zR (qE qQ)<|zR (qE qQ)<|zE (kD (l_chord ((es.getD k (jE.mk 0 0 (jB.mk 0 0 0 0))).turn) (qV (jX (qV (uK (ts.getD (((es.getD k (jE.mk 0 0 (jB.mk 0 0 0 0))).to_).toNat) (jB.mk 0 0 0 0)))) (ts.getD (((es.getD k (jE.mk 0 0 (jB.mk 0 0 0 0))).fr).toNat) (jB.mk 0 0 0 0)))) hek6 hqb))<|zM<|zE vF<|zE vF<|zH (vL 4 eM fG)<|zT (qO xG)<|zM<|zZ) ?_
      refine jA<|jA<|kx [(71,(vb false))] [] (zM<|zE xX<|zZ) ?_
      refine uU ?_
      refine jD<|kf [(12,(.own 1 51 4 ((o++[(gQ (chQ ((es.getD k (jE.mk 0 0 (jB.mk 0 0 0 0))).turn) (qV (jX (qV (uK (ts.getD (((es.getD k (jE.mk 0 0 (jB.mk 0 0 0 0))).to_).toNat) (jB.mk 0 0 0 0)))) (ts.getD (((es.getD k (jE.mk 0 0 (jB.mk 0 0 0 0))).fr).toNat) (jB.mk 0 0 0 0))))))]).length)))] [(1,some (xQ qA (o++[(gQ (chQ ((es.getD k (jE.mk 0 0 (jB.mk 0 0 0 0))).turn) (qV (jX (qV (uK (ts.getD (((es.getD k (jE.mk 0 0 (jB.mk 0 0 0 0))).to_).toNat) (jB.mk 0 0 0 0)))) (ts.getD (((es.getD k (jE.mk 0 0 (jB.mk 0 0 0 0))).fr).toNat) (jB.mk 0 0 0 0))))))])))] (zM<|zR (qE xG)<|zE (eG el44 eM fG)<|zAS qA o [(gQ (chQ ((es.getD k (jE.mk 0 0 (jB.mk 0 0 0 0))).turn) (qV (jX (qV (uK (ts.getD (((es.getD k (jE.mk 0 0 (jB.mk 0 0 0 0))).to_).toNat) (jB.mk 0 0 0 0)))) (ts.getD (((es.getD k (jE.mk 0 0 (jB.mk 0 0 0 0))).fr).toNat) (jB.mk 0 0 0 0))))))] rfl el44 eM by51<|zM<|zF) ?_
      refine kx [(42,(jN (k+1)))] [] (zE (uL (k+1))<|zM<|zZ) ?_
      exact ⟨(k+1,o++[gQ (erX ts (es.getD k (jE.mk 0 0 (jB.mk 0 0 0 0))))]),wk,⟨by omega,erUp_s hv (show qC (jX (qV (uK (ts.getD (es.getD k (jE.mk 0 0 (jB.mk 0 0 0 0))).to_.toNat (jB.mk 0 0 0 0)))) (ts.getD (es.getD k (jE.mk 0 0 (jB.mk 0 0 0 0))).fr.toNat (jB.mk 0 0 0 0)))=0 by omega),er_push (by omega) ho⟩,(by first|omega|(dsimp only;omega))⟩
    ·replace h5:=uZ h5
     refine jS<|jA<|kU (xR (t:=12) (k:=1) (es:=List.map qA o) rfl rfl (nN _ _ (fun _=>rfl)) (vN _ _ rfl) (mN qA o (fun _=>rfl) rfl)) ?_
     refine kx [(6,(vl 51 4 qA o)),(7,(jN 0))] [] (zM<|zM<|zM<|zZ) ?_
     refine jG ⟨_,(.tmp (d:=(.sl 51 4 (List.map qA o))) rfl (.tmp (d:=(.val (.int .i64 (0)))) rfl .nil)),?_⟩
     obtain ⟨q1,q2,_⟩:=er_yes (by omega) hv
     rw[show ersV z es ts=erL es ts from okL_0 (by rw[hcc,q2]),hcc,ho,q1,q2];rfl
theorem l_Con(z:Int)(es:List jE)(hb:es.length<=1000000):jU Tryz.prog 7 [(.val (.int .i64 (z))),(.sl 56 6 (List.map kC es))] (.tup [(.val (.bool ((conV z es)))),(.val (.int .i64 ((((fV z es):Nat):Int))))]):=by
 refine vD Tryz.func7 ?_
 refine jA<|kx [] [] (zM<|zM<|zZ) ?_
 refine jA<|jA<|kx [(6,(jN (zP z es)))] [] (zM<|zM<|zE (kD (l_check z es hb))<|zM<|zZ) ?_
 refine jA<|kx [(18,(vb ((((zP z es):Nat):Int) != 0)))] [] (zM<|zE xX<|zZ) ?_
 refine jF (b:=((((zP z es):Nat):Int) != 0)) rfl (fun h1=>?_) (fun h1=>?_)
 ·replace h1:=bne_iff_ne.1 h1
  refine jA<|kx [(4,(vb false)),(5,(jN (zP z es)))] [] (zM<|zM<|zM<|zZ) ?_
  refine jG ⟨_,(.tmp (d:=(.val (.bool (false)))) rfl (.tmp (d:=(.val (.int .i64 ((((zP z es):Nat):Int))))) rfl .nil)),?_⟩
  obtain ⟨q1,q2⟩:=con_n (eD h1)
  rw[q1,q2];rfl
 ·replace h1:=bne_eq_false_iff_eq.1 h1
  have hc0:zP z es=0:=by omega
  obtain ⟨hz1,hz2,hl2,heo⟩:=lopC_0 hc0
  refine jD<|jA<|kx [(7,(vl 28 4 jI (vK z.toNat es))),(8,(jN (mH z.toNat es)))] [] (zE (oQd (.val (.int .i64 (z))) (.val (.int .i64 (((z.toNat:Nat):Int)))) (oV (vi z) (kA (by kernel_rfl))) (by exact (congrArg (fun z=>jW.val (.int .i64 z)) (by omega))))<|zM<|zE (kD (l_abs z.toNat es heo (by omega) hl2))<|zM<|zE vF<|zE vF<|zM<|zM<|zZ) ?_
  refine jA<|jA<|kx [(27,(vb ((((mH z.toNat es):Nat):Int) != 0)))] [] (zM<|zE xX<|zZ) ?_
  refine jF (b:=((((mH z.toNat es):Nat):Int) != 0)) rfl (fun h2=>?_) (fun h2=>?_)
  ·replace h2:=bne_iff_ne.1 h2
   refine jA<|kx [(4,(vb false)),(5,(jN (mH z.toNat es)))] [] (zM<|zM<|zM<|zZ) ?_
   refine jG ⟨_,(.tmp (d:=(.val (.bool (false)))) rfl (.tmp (d:=(.val (.int .i64 ((((mH z.toNat es):Nat):Int))))) rfl .nil)),?_⟩
   obtain ⟨q1,q2⟩:=con_0 hc0
   obtain ⟨q3,q4⟩:=cn_1 (eD h2)
   rw[q1,q2,q3,q4];rfl
  ·replace h2:=bne_eq_false_iff_eq.1 h2
   have hts:=abs_ok heo (show mH z.toNat es=0 by omega)
   refine jD<|jA<|kx [(9,(vb true))] [] (zM<|zZ) ?_
   refine jA<|jA<|kx [(29,(vl 56 6 kC es)),(30,(jN es.length)),(31,(jN 0))] [] (zM<|zE (vV eF)<|zM<|zZ) ?_
   refine jH<|kF (α:=Nat × Bool) (fun (k,al)=>⟨[(7,(vl 28 4 jI (vK z.toNat es))),(9,(vb al)),(29,(vl 56 6 kC es)),(30,(jN es.length)),(31,(jN k))],[]⟩) (fun (k,al)=>k<=es.length/\erUp es (vK z.toNat es) k/\al=alS (es.take k) (vK z.toNat es)) (fun (k,al)=>es.length-k) (0,true) wk ⟨Nat.zero_le _,erUp_0 _ _,rfl⟩ ?_
   rintro ⟨k,al⟩ ⟨hk,hv,ha⟩
   refine jA<|kx [(32,(vb (decide (((k:Nat):Int)<((es.length:Nat):Int)))))] [] (zE uT<|zZ) ?_
   refine jA<|jF rfl (fun h3=>?_) (fun h3=>?_)
   ·replace h3:=uY h3
    have hek:EOkE z.toNat (es.getD k (jE.mk 0 0 (jB.mk 0 0 0 0))):=eL heo (k:=k) (by omega)
    obtain ⟨hek1,hek2,hek3,hek4,hek5,hek6⟩:=id hek
    have htT:=hts.at (j:=(es.getD k (jE.mk 0 0 (jB.mk 0 0 0 0))).to_.toNat) (by omega)
    have htF:=hts.at (j:=(es.getD k (jE.mk 0 0 (jB.mk 0 0 0 0))).fr.toNat) (by omega)
    have htl:=hts.1
    refine jD<|jA<|jH<|jA<|kx [(11,(.ref 0 0))] [(0,some (bx (kC (es.getD k (jE.mk 0 0 (jB.mk 0 0 0 0))))))] (zE (nA eF k (jE.mk 0 0 (jB.mk 0 0 0 0)))<|zE (oCa sh56)<|zN (vL 0 ze56 zo56)<|zT (qO sh56)<|zZ) ?_
    refine jA<|kd [(12,(.ref 1 0)),(13,(jN (qC (jX (qV (uK ((vK z.toNat es).getD (((es.getD k (jE.mk 0 0 (jB.mk 0 0 0 0))).to_).toNat) (jB.mk 0 0 0 0)))) ((vK z.toNat es).getD (((es.getD k (jE.mk 0 0 (jB.mk 0 0 0 0))).fr).toNat) (jB.mk 0 0 0 0))))))] [(1,some (bx (jI (qV (jX (qV (uK ((vK z.toNat es).getD (((es.getD k (jE.mk 0 0 (jB.mk 0 0 0 0))).to_).toNat) (jB.mk 0 0 0 0)))) ((vK z.toNat es).getD (((es.getD k (jE.mk 0 0 (jB.mk 0 0 0 0))).fr).toNat) (jB.mk 0 0 0 0)))))))] mo (wM<|wE (jY fo56_0)<|wR (jZ kK)<|wE (nA eN (((es.getD k (jE.mk 0 0 (jB.mk 0 0 0 0))).fr).toNat) (jB.mk 0 0 0 0) (L:=(vK z.toNat es)))<|wE (oCa qQ)<|wM<|wE (jY fo56_1)<|wR (jZ kK)<|wE (nA eN (((es.getD k (jE.mk 0 0 (jB.mk 0 0 0 0))).to_).toNat) (jB.mk 0 0 0 0) (L:=(vK z.toNat es)))<|wE (oCa qQ)<|wE (kD (l_btw ((vK z.toNat es).getD (((es.getD k (jE.mk 0 0 (jB.mk 0 0 0 0))).fr).toNat) (jB.mk 0 0 0 0)) ((vK z.toNat es).getD (((es.getD k (jE.mk 0 0 (jB.mk 0 0 0 0))).to_).toNat) (jB.mk 0 0 0 0)) htF htT))<|wM<|wE vF<|wE vF<|wN (vL 1 gK gS)<|wT (qO qQ)<|wM<|wZ) ?_
    refine jA<|jA<|kx [(50,(vb ((((qC (jX (qV (uK ((vK z.toNat es).getD (((es.getD k (jE.mk 0 0 (jB.mk 0 0 0 0))).to_).toNat) (jB.mk 0 0 0 0)))) ((vK z.toNat es).getD (((es.getD k (jE.mk 0 0 (jB.mk 0 0 0 0))).fr).toNat) (jB.mk 0 0 0 0)))):Nat):Int) != 0)))] [] (zM<|zE xX<|zZ) ?_
    refine jF rfl (fun h4=>?_) (fun h4=>?_)
    ·replace h4:=bne_iff_ne.1 h4
     refine jA<|kx [(4,(vb false)),(5,(jN (qC (jX (qV (uK ((vK z.toNat es).getD (((es.getD k (jE.mk 0 0 (jB.mk 0 0 0 0))).to_).toNat) (jB.mk 0 0 0 0)))) ((vK z.toNat es).getD (((es.getD k (jE.mk 0 0 (jB.mk 0 0 0 0))).fr).toNat) (jB.mk 0 0 0 0))))))] [] (zM<|zM<|zM<|zZ) ?_
     refine jG ⟨_,(.tmp (d:=(.val (.bool (false)))) rfl (.tmp (d:=(.val (.int .i64 ((((qC (jX (qV (uK ((vK z.toNat es).getD (((es.getD k (jE.mk 0 0 (jB.mk 0 0 0 0))).to_).toNat) (jB.mk 0 0 0 0)))) ((vK z.toNat es).getD (((es.getD k (jE.mk 0 0 (jB.mk 0 0 0 0))).fr).toNat) (jB.mk 0 0 0 0)))):Nat):Int))))) rfl .nil)),?_⟩
     obtain ⟨q1,q2⟩:=con_0 hc0
     obtain ⟨q5,q6,q7⟩:=er_no (es:=es) (ts:=(vK z.toNat es)) (k:=k) (by omega) (eD h4)
     obtain ⟨q3,q4⟩:=cn_2 (n:=z.toNat) (es:=es) (by omega) (by rw[q6];decide)
     rw[q1,q2,q3,q4,q6,show qC (jX (qV (uK ((vK z.toNat es).getD (es.getD k (jE.mk 0 0 (jB.mk 0 0 0 0))).to_.toNat (jB.mk 0 0 0 0)))) ((vK z.toNat es).getD (es.getD k (jE.mk 0 0 (jB.mk 0 0 0 0))).fr.toNat (jB.mk 0 0 0 0)))=3 from q7];rfl
    ·replace h4:=bne_eq_false_iff_eq.1 h4
     have hqb:mK (qV (jX (qV (uK ((vK z.toNat es).getD (es.getD k (jE.mk 0 0 (jB.mk 0 0 0 0))).to_.toNat (jB.mk 0 0 0 0)))) ((vK z.toNat es).getD (es.getD k (jE.mk 0 0 (jB.mk 0 0 0 0))).fr.toNat (jB.mk 0 0 0 0)))):=cM (ebt_nz hts heo (k:=k) (by omega)) (show qC (jX (qV (uK ((vK z.toNat es).getD (es.getD k (jE.mk 0 0 (jB.mk 0 0 0 0))).to_.toNat (jB.mk 0 0 0 0)))) ((vK z.toNat es).getD (es.getD k (jE.mk 0 0 (jB.mk 0 0 0 0))).fr.toNat (jB.mk 0 0 0 0)))=0 by omega)
     refine jD<|kx [(9,(vb (al&&(sameQ (qV (jX (qV (uK ((vK z.toNat es).getD (((es.getD k (jE.mk 0 0 (jB.mk 0 0 0 0))).to_).toNat) (jB.mk 0 0 0 0)))) ((vK z.toNat es).getD (((es.getD k (jE.mk 0 0 (jB.mk 0 0 0 0))).fr).toNat) (jB.mk 0 0 0 0)))) ((es.getD k (jE.mk 0 0 (jB.mk 0 0 0 0))).turn)))))] [] ?_ ?_
     ·refine zM<|zE (oV (vb al) (kA (by kernel_rfl)))<|?_
      rcases hb5:al with _ | _
      ·exact zK<|zK<|zK<|zK<|zE mJ<|zM<|zZ
      ·exact zR (qE qQ)<|zE (jY fo56_2)<|zR (qE qQ)<|zE (kD (l_same (qV (jX (qV (uK ((vK z.toNat es).getD (((es.getD k (jE.mk 0 0 (jB.mk 0 0 0 0))).to_).toNat) (jB.mk 0 0 0 0)))) ((vK z.toNat es).getD (((es.getD k (jE.mk 0 0 (jB.mk 0 0 0 0))).fr).toNat) (jB.mk 0 0 0 0)))) ((es.getD k (jE.mk 0 0 (jB.mk 0 0 0 0))).turn) hqb hek6))<|zE aC<|zM<|zZ
     refine kx [(31,(jN (k+1)))] [] (zE (uL (k+1))<|zM<|zZ) ?_
     exact ⟨(k+1,(al&&(sameQ (qV (jX (qV (uK ((vK z.toNat es).getD (es.getD k (jE.mk 0 0 (jB.mk 0 0 0 0))).to_.toNat (jB.mk 0 0 0 0)))) ((vK z.toNat es).getD (es.getD k (jE.mk 0 0 (jB.mk 0 0 0 0))).fr.toNat (jB.mk 0 0 0 0)))) (es.getD k (jE.mk 0 0 (jB.mk 0 0 0 0))).turn))),wk,⟨by omega,erUp_s hv (show qC (jX (qV (uK ((vK z.toNat es).getD (es.getD k (jE.mk 0 0 (jB.mk 0 0 0 0))).to_.toNat (jB.mk 0 0 0 0)))) ((vK z.toNat es).getD (es.getD k (jE.mk 0 0 (jB.mk 0 0 0 0))).fr.toNat (jB.mk 0 0 0 0)))=0 by omega),by rw[alS_take (by omega),<- ha];rfl⟩,(by first|omega|(dsimp only;omega))⟩
   ·replace h3:=uZ h3
    refine jS<|jA<|kx [(4,(vb al)),(5,(jN 0))] [] (zM<|zM<|zM<|zZ) ?_
    refine jG ⟨_,(.tmp (d:=(.val (.bool (al)))) rfl (.tmp (d:=(.val (.int .i64 (0)))) rfl .nil)),?_⟩
    obtain ⟨q1,q2⟩:=con_0 hc0
    obtain ⟨q5,q6,q7⟩:=er_yes (es:=es) (ts:=(vK z.toNat es)) (k:=k) (by omega) hv
    obtain ⟨q3,q4⟩:=cn_3 (n:=z.toNat) (es:=es) (by omega) q6
    rw[q1,q2,q3,q4,ha,show k=es.length by omega,List.take_length];rfl
end Go.Proofs.YtciingpdmjepgaaGreat
namespace Go.Fid
variable {P:Program}
def fldB(P:Program)(t:TypeId):Option Nat :=
 match P.underlying t with
 |some (.int _)=>some 1
 |some (.struct fs)=>(match P.info? t with
  |some i=>if intFs P fs.toList 0&&(!P.stoodInHeld t&&Nat.beq i.size fs.size) then some fs.size else none
  |none=>none)
 |some (.array n E)=>(match P.underlying E,P.info? E,P.info? t with
  |some (.int _),some j,some i=>if Nat.beq j.size 1&&Nat.beq i.size n then some n else none
  |_,_,_=>none)
 |_=>none
def fldsB(P:Program):List Field->Nat->Option Nat
 |[],i=>some i
 | f :: l, i => if (f.name != "_") && Nat.beq f.offset i then (match fldB P f.type with
  |some c=>fldsB P l (i+c)
  |none=>none) else none
def eqnB(P:Program)(T:TypeId):Option Nat :=
 match P.underlying T with
 |some (.struct fs)=>if !P.stoodInHeld T&&!P.eqGuardType P.depth T then fldsB P fs.toList 0 else none
 |_=>none
theorem ext_ints(ms:List Int)(k:IntKind)(i c:Nat):((ms.map (Value.int k)).toArray.extract i (i+c))=(((ms.drop i).take c).map (Value.int k)).toArray:=by
 rw[List.extract_toArray,List.extract_eq_drop_take]
 simp [List.map_take,List.map_drop]
theorem run_fld{t:TypeId}{c:Nat}(h:fldB P t=some c)(k:IntKind)(ms ns:List Int)(i:Nat)(h1:i+c<=ms.length)(h2:i+c<=ns.length)(w:World) :
  ∃ va vb,(part t (ms.map (Value.int k)).toArray i).run P w=.ok va w/\(part t (ns.map (Value.int k)).toArray i).run P w=.ok vb w/\(Op.equalIn (9997+2) t va vb).run P w=.ok (decide ((ms.drop i).take c=(ns.drop i).take c)) w:=by
 unfold fldB at h
 split at h
 ·rename_i j hj
  injection h with h;subst h
  have b1:i<ms.length:=by omega
  have b2:i<ns.length:=by omega
  refine ⟨_,_,gC hj (List.getElem?_eq_getElem b1) w,gC hj (List.getElem?_eq_getElem b2) w,?_⟩
  rw[run_eqInt hj,List.drop_eq_getElem_cons b1,List.drop_eq_getElem_cons b2]
  simp only[List.take_succ_cons,List.take_zero,List.cons.injEq,and_true]
  by_cases e:ms[i]=ns[i]
  ·rw[decide_eq_true e,beq_iff_eq.2 e]
  ·rw[decide_eq_false e,beq_eq_false_iff_ne.2 e]
 ·rename_i fs hT
  split at h
  ·rename_i inf hi
   split at h
   ·rename_i hq
    simp only[Bool.and_eq_true,Bool.not_eq_true'] at hq
    injection h with h;subst h
    have hsz:inf.size=fs.size:=Nat.eq_of_beq_eq_true hq.2.2
    have pt:∀ l:List Int,(part t (l.map (Value.int k)).toArray i).run P w=.ok (.agg (((l.drop i).take fs.size).map (Value.int k)).toArray) w:=fun l=>by
     rw[<- ext_ints]
     simp [part,mQ hT,isAggD,uA hi,hsz]
    refine ⟨_,_,pt ms,pt ns,?_⟩
    rw[Op.equalIn]
    have hl:=run_fs k 9997 w ((ms.drop i).take fs.size) ((ns.drop i).take fs.size) fs.toList 0 hq.1 (by simp;omega) (by simp;omega)
    rw[Array.forIn_toList] at hl
    simp [run_underlying hT,hq.2.1]
    have hl2:=hl
    simp only[List.drop_zero] at hl2
    simp only[List.map_take,List.map_drop] at hl2
    rw[hl2]
    by_cases e:(ms.drop i).take fs.size=(ns.drop i).take fs.size
    ·simp [e]
    ·simp [e]
   ·cases h
  ·cases h
 ·rename_i n E hT
  split at h
  ·rename_i j ji ti hE hj hi
   split at h
   ·rename_i hq
    simp only[Bool.and_eq_true] at hq
    injection h with h;subst h
    have hs1:ji.size=1:=Nat.eq_of_beq_eq_true hq.1
    have hsz:ti.size=n:=Nat.eq_of_beq_eq_true hq.2
    have pt:∀ l:List Int,(part t (l.map (Value.int k)).toArray i).run P w=.ok (.agg (((l.drop i).take n).map (Value.int k)).toArray) w:=fun l=>by
     rw[<- ext_ints]
     simp [part,mQ hT,isAggD,uA hi,hsz]
    refine ⟨_,_,pt ms,pt ns,?_⟩
    rw[Op.equalIn]
    have hl:=run_as k hE 9997 w ((ms.drop i).take n) ((ns.drop i).take n) n 0 (by simp;omega) (by simp;omega)
    simp only[List.drop_zero,List.map_take,List.map_drop] at hl
    simp [run_underlying hT,uA hj,hs1]
    rw[hl]
    by_cases e:(ms.drop i).take n=(ns.drop i).take n
    ·simp [e]
    ·simp [e]
   ·cases h
  ·cases h
 ·cases h
theorem flds_le:∀ {l:List Field} {i c:Nat},fldsB P l i=some c->i<=c
 |[],i,c,h=>by injection h with h;omega
 |f::l,i,c,h=>by
  unfold fldsB at h
  split at h
  ·split at h
   ·have:=flds_le h;omega
   ·cases h
  ·cases h
theorem take_drop_eq{ms ns:List Int}{i c:Nat}(h:(ms.drop i).take c=(ns.drop i).take c):(ms.drop i=ns.drop i)=(ms.drop (i+c)=ns.drop (i+c)):=by
 refine propext ⟨fun h2=>?_,fun h2=>?_⟩
 ·rw[<- List.drop_drop,<- List.drop_drop,h2]
 ·rw[<- List.take_append_drop c (ms.drop i),<- List.take_append_drop c (ns.drop i),h,List.drop_drop,List.drop_drop,h2]
theorem run_flds(k:IntKind)(w:World)(ms ns:List Int):∀ (l:List Field) (i c:Nat),fldsB P l i=some c->ms.length=c->ns.length=c ->
  Sem.run P (forIn l ((none,()):Option Bool × Unit) fun f _=>
      if f.name = "_" then pure (ForInStep.yield (none, ()))
      else do
       let a <- part f.type (List.map (Value.int k) ms).toArray f.offset
       let b <- part f.type (List.map (Value.int k) ns).toArray f.offset
       let c <- Op.equalIn (9997+2) f.type a b
       if c=false then pure (ForInStep.done (some false,())) else pure (ForInStep.yield (none,()))) w=.ok (if ms.drop i=ns.drop i then (none,()) else (some false,())) w
 |[],i,c,h,h1,h2=>by
  injection h with h
  have e1:ms.drop i=[]:=List.drop_eq_nil_of_le (by omega)
  have e2:ns.drop i=[]:=List.drop_eq_nil_of_le (by omega)
  rw[e1,e2];simp
 |f::l,i,c,h,h1,h2=>by
  unfold fldsB at h
  split at h
  ·rename_i hq
   simp only[Bool.and_eq_true,bne_iff_ne,ne_eq] at hq
   obtain ⟨g1,g2⟩:=hq
   have g2:f.offset=i:=Nat.eq_of_beq_eq_true g2
   split at h
   ·rename_i q hf
    have hle:=flds_le h
    have ih:=run_flds k w ms ns l (i+q) c h h1 h2
    obtain ⟨va,vb,e1,e2,e3⟩:=run_fld hf k ms ns i (by omega) (by omega) w
    simp only[List.forIn_cons,g1,if_false,g2,Sem.run_bind,e1,e2,Result.andThen_ok,e3]
    by_cases he:(ms.drop i).take q=(ns.drop i).take q
    ·simp only[he,decide_true,Bool.true_eq_false,if_false,Sem.run_pure,Result.andThen_ok]
     rw[ih]
     simp only[take_drop_eq he]
    ·have hx:¬ ms.drop i=ns.drop i:=fun e=>he (by rw[e])
     simp only[he,decide_false,if_true,Sem.run_pure,Result.andThen_ok,if_neg hx]
   ·cases h
  ·cases h
theorem run_eqN{T:TypeId}{c:Nat}(h:eqnB P T=some c)(k:IntKind)(ms ns:List Int)(h1:ms.length=c)(h2:ns.length=c)(w:World) :
  (Op.equal T (.agg (ms.map (Value.int k)).toArray) (.agg (ns.map (Value.int k)).toArray)).run P w=.ok (decide (ms=ns)) w/\P.eqGuardType P.depth T=false:=by
 unfold eqnB at h
 split at h
 ·rename_i fs hT
  split at h
  ·rename_i hq
   simp only[Bool.and_eq_true,Bool.not_eq_true'] at hq
   refine ⟨?_,hq.2⟩
   show (Op.equalIn (9998+2) T _ _).run P w=_
   rw[Op.equalIn]
   have hl:=run_flds k w ms ns fs.toList 0 c h h1 h2
   rw[Array.forIn_toList] at hl
   simp [run_underlying hT,hq.1]
   have hl2:=hl
   simp only[List.drop_zero] at hl2
   rw[hl2]
   by_cases e:ms=ns
   ·simp [e]
   ·simp [e]
  ·cases h
 ·cases h
section
variable {o:Oper} {S:Nat->SV} {T T':TypeId} {x y:Operand} {c:Nat}
theorem oEn(hT:eqnB P T=some c)(k:IntKind)(ms ns:List Int)(ho:o.op=.binOp .eql T x y T':=by exact rfl)(hx:ev S x=.d (.agg (ms.map fun m=>.val (.int k m))):=by kernel_rfl)(hy:ev S y=.d (.agg (ns.map fun m=>.val (.int k m))):=by kernel_rfl)(h1:ms.length=c:=by exact rfl)(h2:ns.length=c:=by exact rfl):qU P o S [] (.d (.val (.bool (decide (ms=ns))))) :=
 qU.same fun a w D β hop _=>by
  have hx':=hop x (by simp [ho,Op.operands])
  have hy':=hop y (by simp [ho,Op.operands])
  rw[hx] at hx'
  rw[hy] at hy'
  have ex:=aG hx'
  have ey:=aG hy'
  obtain ⟨g1,g2⟩:=run_eqN hT k ms ns h1 h2 w
  refine ⟨.bool (decide (ms=ns)),?_,.val _⟩
  simp [execOp,ho,ex,ey,eqGuard,g2,binOp,g1]
theorem oNn(hT:eqnB P T=some c)(k:IntKind)(ms ns:List Int)(ho:o.op=.binOp .neq T x y T':=by exact rfl)(hx:ev S x=.d (.agg (ms.map fun m=>.val (.int k m))):=by kernel_rfl)(hy:ev S y=.d (.agg (ns.map fun m=>.val (.int k m))):=by kernel_rfl)(h1:ms.length=c:=by exact rfl)(h2:ns.length=c:=by exact rfl):qU P o S [] (.d (.val (.bool (!(decide (ms=ns)))))) :=
 qU.same fun a w D β hop _=>by
  have hx':=hop x (by simp [ho,Op.operands])
  have hy':=hop y (by simp [ho,Op.operands])
  rw[hx] at hx'
  rw[hy] at hy'
  have ex:=aG hx'
  have ey:=aG hy'
  obtain ⟨g1,g2⟩:=run_eqN hT k ms ns h1 h2 w
  refine ⟨.bool (!(decide (ms=ns))),?_,.val _⟩
  simp [execOp,ho,ex,ey,eqGuard,g2,binOp,g1]
end
theorem run_ckf(em:Bool)(k:IntKind)(n:Nat)(w:World)(ms:List Int):∀ (l:List Field) (i:Nat),intFs P l i=true->ms.length=i+l.length ->
  Sem.run P (forIn l PUnit.unit fun f _=>
      if f.name = "_" then pure (ForInStep.yield PUnit.unit)
      else do
       let b <- part f.type (List.map (Value.int k) ms).toArray f.offset
       Instr.checkKey em (n+1) f.type b
       pure (ForInStep.yield PUnit.unit)) w=.ok PUnit.unit w
 |[],i,_,h1=>by simp
 |f::l,i,h,h1=>by
  unfold intFs at h
  simp only[Bool.and_eq_true,bne_iff_ne,ne_eq] at h
  obtain ⟨g1,g2,g3,g4⟩:=h
  have g2:f.offset=i:=Nat.eq_of_beq_eq_true g2
  have hd:∃ j,P.underlying f.type=some (.int j):=by
   split at g3
   ·rename_i j e;exact ⟨j,e⟩
   ·cases g3
  obtain ⟨j,hj⟩:=hd
  simp only[List.length_cons] at h1
  have b1:i<ms.length:=by omega
  have ih:=run_ckf em k n w ms l (i+1) g4 (by omega)
  have hck:∀ z:Int,(Instr.checkKey em (n+1) f.type (.int k z)).run P w=.ok () w:=fun z=>by
   unfold Instr.checkKey
   simp [run_underlying hj]
  simp only[List.forIn_cons,g1,if_false,g2,Sem.run_bind,gC hj (List.getElem?_eq_getElem b1),hck,Result.andThen_ok,Sem.run_pure,ih]
theorem findAsk_st{K:TypeId}{n:Nat}(h:eqsB P K=some n)(k:IntKind){κ ν:Type}[DecidableEq κ](f:κ->List Int)(hl:∀ a,(f a).length=n)(hi:∀ a b,f a=f b->a=b)(ve:ν->Value)(a:κ)(w:World):∀ (l:List (κ × ν)) (i:Nat),
  (Instr.findAsking K (.agg ((f a).map (Value.int k)).toArray) (aJ (fun a=>.agg ((f a).map (Value.int k)).toArray) ve l i) i).run P w=.ok ((ixK a l i).map fun p=>(p.1,ve p.2)) w
 |[],i=>by simp [aJ,Instr.findAsking,ixK]
 |(b,v)::l,i=>by
  have ih:=findAsk_st h k f hl hi ve a w l (i+1)
  have e:=(run_eqS h k (f a) (f b) (hl a) (hl b) w).1
  unfold aJ ixK Instr.findAsking
  simp only[Sem.run_bind,e,Result.andThen_ok]
  by_cases hab:a=b
  ·subst hab
   simp
  ·have:f a≠f b:=fun e=>hab (hi a b e)
   rw[if_neg hab]
   simp [this,ih]
theorem keyOk_st{K:TypeId}{n:Nat}(h:eqsB P K=some n)(k:IntKind){κ:Type}[DecidableEq κ](f:κ->List Int)(hl:∀ a,(f a).length=n)(hi:∀ a b,f a=f b->a=b):KeyOk P K (fun a=>Value.agg ((f a).map (Value.int k)).toArray):=by
 have h0:=h
 unfold eqsB at h0
 split at h0
 ·rename_i fs hT
  split at h0
  ·rename_i hq
   simp only[Bool.and_eq_true,Bool.not_eq_true'] at hq
   injection h0 with h0
   refine ⟨fun e a w=>?_,fun ve l a w=>?_⟩
   ·have hr:=run_ckf (P:=P) e k 9998 w (f a) fs.toList 0 hq.1 (by rw[hl];simp;omega)
    rw[Array.forIn_toList] at hr
    unfold Instr.checkKey
    simp only[Sem.run_bind,run_underlying hT,Result.andThen_ok]
    have hr2:=hr
    simp at hr2 ⊢
    rw[hr2];rfl
   ·cases l with
    |nil=>simp [Instr.findKey,aJ,Instr.findNow,run_underlying hT,ixK]
    |cons p l=>
     obtain ⟨b,v⟩:=p
     have hn:Instr.findNow (.struct fs) (.agg ((f a).map (Value.int k)).toArray) (aJ (fun a=>Value.agg ((f a).map (Value.int k)).toArray) ve ((b,v)::l) 0) 0=none:=by
      unfold aJ Instr.findNow
      rfl
     have:=findAsk_st h k f hl hi ve a w ((b,v)::l) 0
     simp only[Instr.findKey,Sem.run_bind,run_underlying hT,Result.andThen_ok,hn]
     exact this
  ·cases h0
 ·cases h0
theorem keyS3{K:TypeId}(h:eqsB P K=some 3):KeyOk P K kT3 :=
 keyOk_st h .i64 (fun a:I3K=>[a.1,a.2.1,a.2.2]) (fun _=>rfl) (fun a b e=>by
  obtain ⟨a1,a2,a3⟩:=a
  obtain ⟨b1,b2,b3⟩:=b
  simp only[List.cons.injEq,and_true] at e
  obtain ⟨rfl,rfl,rfl⟩:=e
  rfl)
def vTt(_:Unit):Value:=.bool true
section
variable {S:SL} {B:BS} {o:Oper} {x y z:Operand} {k:Nat} {T K E:TypeId} {κ:Type} [DecidableEq κ] {ke:κ->Value} {l:List (κ × Unit)}
theorem getU{a:κ}{l:List (κ × Unit)}:((fL l a).map vTt).getD (.bool false)=.bool (fL l a).isSome:=by cases fL l a<;>rfl
theorem oGu(hT:mapKB P T=some (K,E))(hK:KeyOk P K ke)(hz:zeroVm P E=some (.bool false))(a:κ){d:jW}(hd:∀ (w:World) (D:kN) (v:Value),uC w D v d->v=ke a)(ho:o.op=.lookup T x y false:=by exact rfl)(hx:ev (jR S) x=.mp k:=by exact rfl)(hy:ev (jR S) y=.d d:=by exact rfl)(hb:jV B k=some [.mo (mpo ke vTt l)]:=by exact rfl) :
  ROk P o S B k (.d (.val (.bool (fL l a).isSome))):=by
 have h:=oGn (S:=S) (B:=B) hT hK hz a hd ho hx hy hb
 rwa [getU] at h
theorem oIu(hT:mapKB P T=some (K,E))(hK:KeyOk P K ke)(a:κ){d:jW}(hd:∀ (w:World) (D:kN) (u:Value),uC w D u d->u=ke a)(hn:(fL l a).isSome=false)(ho:o.op=.mapUpdate T x y z:=by exact rfl)(hx:ev (jR S) x=.mp k:=by exact rfl)(hy:ev (jR S) y=.d d:=by exact rfl)(hz:ev (jR S) z=.d (.val (.bool true)):=by exact rfl)(hb:jV B k=some [.mo (mpo ke vTt l)]:=by exact rfl) :
  TK P o S B k [.mo (mpo ke vTt (l++[(a,())]))] :=
 oIm hT hK a () hd (fun w D u h=>qH h) (Option.not_isSome_iff_eq_none.1 (by rw[hn];decide)) ho hx hy hz hb
end
def mx2(m n:Int):Int:=if m<n then n else m
theorem mx2_le{m n c:Int}:mx2 m n<=c↔m<=c/\n<=c:=by unfold mx2;split<;>omega
def mx8(m0 m1 m2 m3 m4 m5 m6 m7:Int):Int:=mx2 (mx2 (mx2 (mx2 (mx2 (mx2 (mx2 m0 m1) m2) m3) m4) m5) m6) m7
theorem max2_i(k:IntKind)(m n:Int):Builtin.max2 (.int k m) (.int k n)=pure (.int k (mx2 m n)):=rfl
theorem oM8{o:Oper}{S:Nat->SV}{ats:Array TypeId}{x0 x1 x2 x3 x4 x5 x6 x7:Operand}{k:IntKind}{m0 m1 m2 m3 m4 m5 m6 m7:Int}(ho:o.op=.call { callee:=.builtin .max,args:=#[x0,x1,x2,x3,x4,x5,x6,x7],argTypes:=ats }:=by exact rfl)(h0:ev S x0=.d (.val (.int k m0)):=by exact rfl)(h1:ev S x1=.d (.val (.int k m1)):=by exact rfl)(h2:ev S x2=.d (.val (.int k m2)):=by exact rfl)(h3:ev S x3=.d (.val (.int k m3)):=by exact rfl)(h4:ev S x4=.d (.val (.int k m4)):=by exact rfl)(h5:ev S x5=.d (.val (.int k m5)):=by exact rfl)(h6:ev S x6=.d (.val (.int k m6)):=by exact rfl)(h7:ev S x7=.d (.val (.int k m7)):=by exact rfl):qU P o S [] (.d (.val (.int k (mx8 m0 m1 m2 m3 m4 m5 m6 m7)))) :=
 qU.same fun a w D β hop _=>by
  have e0:=hop x0 (by simp [ho,Op.operands,Call.operands])
  rw[h0] at e0
  replace e0:=qH e0
  have e1:=hop x1 (by simp [ho,Op.operands,Call.operands])
  rw[h1] at e1
  replace e1:=qH e1
  have e2:=hop x2 (by simp [ho,Op.operands,Call.operands])
  rw[h2] at e2
  replace e2:=qH e2
  have e3:=hop x3 (by simp [ho,Op.operands,Call.operands])
  rw[h3] at e3
  replace e3:=qH e3
  have e4:=hop x4 (by simp [ho,Op.operands,Call.operands])
  rw[h4] at e4
  replace e4:=qH e4
  have e5:=hop x5 (by simp [ho,Op.operands,Call.operands])
  rw[h5] at e5
  replace e5:=qH e5
  have e6:=hop x6 (by simp [ho,Op.operands,Call.operands])
  rw[h6] at e6
  replace e6:=qH e6
  have e7:=hop x7 (by simp [ho,Op.operands,Call.operands])
  rw[h7] at e7
  replace e7:=qH e7
  exact ⟨.int k (mx8 m0 m1 m2 m3 m4 m5 m6 m7),by simp only[execOp,ho,resolve,invoke,builtin,Builtin.max_,List.map_toArray,List.map_cons,List.map_nil,e0,e1,e2,e3,e4,e5,e6,e7,List.foldlM_cons,List.foldlM_nil,max2_i,pure_bind];simp [mx8],.val _⟩
end Go.Fid
namespace Go.Fid
theorem erC_03{es:List jE}{ts:List jB}(h:erC es ts≠0):erC es ts=3:=by
 unfold erC at h ⊢;split
 ·rename_i e;rw[if_pos e] at h;exact absurd rfl h
 ·rfl
def agE(W:Nat->jB)(x:jE):Prop:=yR (W x.fr.toNat) (jX (W x.to_.toNat) x.turn)
def Sol(n:Nat)(es:List jE)(W:Nat->jB):Prop:=(∀ j,j<n->cU (W j))/\∀ x∈es,agE W x
theorem qdiv{p q t:jB}(hq:cU q)(ht:cU t):yR p (jX q t)↔yR (jX (uK q) p) t:=by
 constructor
 ·intro h
  refine ((yR.refl _).mul h).trans ?_
  rw[<- vJ,qcj_mul,dK,q1_mul]
  exact yR.sc (hZ.1 hq) _
 ·intro h
  have e:=(yR.refl q).mul h
  rw[<- vJ,qmul_cj,dK,q1_mul] at e
  exact (yR.sc (hZ.1 hq) _).symm.trans e
section
variable {n:Nat} {es:List jE}
theorem eok_lt{x:jE}(h:EOkE n x):x.fr.toNat<n/\x.to_.toNat<n:=by
 have:=h.f0;have:=h.f1;have:=h.t0;have:=h.t1;omega
theorem absL_at(he:xP n es)(hc:mH n es=0){j:Nat}(hj:j<n):uX (vK n es) j=yE (aV n es j):=by
 have hf:aFit n es:=by
  unfold mH at hc;split at hc
  ·assumption
  ·cases hc
 have hab:vK n es=(List.range n).map fun j=>yE (aV n es j):=if_pos hf
 rw[hab];unfold uX;rw[List.getD_eq_getElem?_getD,List.getElem?_map,List.getElem?_range hj];rfl
theorem ebt_eq(he:xP n es)(hc:mH n es=0){x:jE}(hx:EOkE n x):cU (ebt (vK n es) x)/\yR (ebt (vK n es) x) (jX (uK (aV n es x.to_.toNat)) (aV n es x.fr.toNat)):=by
 have hts:=abs_ok he hc
 obtain ⟨h1,h2⟩:=eok_lt hx
 have hT:=hts.at h2
 have hF:=hts.at h1
 refine ⟨xU (cM (yN hT.1) (cI hT)).1 hF.1,?_⟩
 unfold ebt
 refine ((qV_eq (yN hT.1) (cI hT)).mul (yR.refl _)).trans ?_
 rw[absL_at he hc h1,absL_at he hc h2]
 exact (eX (aV_nz he _)).cj.mul (eX (aV_nz he _))
theorem same_ag(he:xP n es)(hc:mH n es=0){x:jE}(hx:EOkE n x)(hcx:qC (ebt (vK n es) x)=0):sameQ (qV (ebt (vK n es) x)) x.turn=true↔agE (aV n es) x:=by
 obtain ⟨g1,g2⟩:=ebt_eq he hc hx
 rw[sameQ_iff (cM g1 hcx) hx.q]
 unfold agE
 rw[qdiv (aV_nz he _) hx.q.1]
 have e:=(qV_eq g1 hcx).trans g2
 exact ⟨fun h=>e.symm.trans h,fun h=>e.trans h⟩
theorem erC_ok{ts:List jB}(h:erC es ts=0):erOk es ts:=by
 unfold erC at h;split at h
 ·assumption
 ·cases h
theorem cn_ok(h:cnC n es=0):mH n es=0/\erC es (vK n es)=0:=by
 by_cases h1:mH n es=0
 ·exact ⟨h1,(okC_0 (d:=erC es (vK n es)) h1).symm.trans h⟩
 ·exact absurd ((cn_1 h1).1.symm.trans h) h1
theorem cn_03(h:cnC n es≠0):cnC n es=3:=by
 by_cases h1:mH n es=0
 ·have e:cnC n es=erC es (vK n es):=okC_0 h1
  rw[e] at h ⊢;exact erC_03 h
 ·rw[(cn_1 h1).1];exact (abs_n h1).2
theorem mem_ix{x:jE}(hx:x∈es):∃ i,i<es.length/\es.getD i e0=x:=by
 obtain ⟨i,hi,rfl⟩:=List.getElem_of_mem hx
 exact ⟨i,hi,by rw[List.getD_eq_getElem?_getD,List.getElem?_eq_getElem hi];rfl⟩
theorem aV_sol(he:xP n es){W:Nat->jB}(hW:Sol n es W):Sol n es (aV n es):=by
 refine ⟨fun j _=>aV_nz he j,fun x hx=>?_⟩
 obtain ⟨i,hi,rfl⟩:=mem_ix hx
 have hx':=eL he hi
 obtain ⟨h1,h2⟩:=eok_lt hx'
 have htree:∀ i:Nat,(i:Int)∈yQ true n es es.length->yR (W (es.getD i e0).fr.toNat) (jX (W (es.getD i e0).to_.toNat) (es.getD i e0).turn):=fun i hi=>by
  obtain ⟨i',hil,e⟩:=cL hi
  exact hW.2 _ (mem_getD (by omega))
 have u1:=tV_uniq he W hW.1 (Nat.le_refl _) htree h1
 have u2:=tV_uniq he W hW.1 (Nat.le_refl _) htree h2
 have hend:=tPar_ends he (Nat.le_refl es.length) hi
 rw[hend] at u1
 refine u1.trans (yR.trans ?_ ((u2.mul (yR.refl _)).symm))
 rw[vJ]
 exact (yR.refl _).mul (hW.2 _ hx)
theorem cn_sol(he:xP n es)(hc:cnC n es=0):cnV n es=true↔∃ W,Sol n es W:=by
 obtain ⟨h1,h2⟩:=cn_ok hc
 have hok:=erC_ok h2
 rw[(cn_3 h1 h2).2]
 unfold alS
 rw[List.all_eq_true]
 constructor
 ·intro h
  exact ⟨aV n es,fun j _=>aV_nz he j,fun x hx=>(same_ag he h1 (he x hx) (hok x hx)).1 (h x hx)⟩
 ·rintro ⟨W,hW⟩ x hx
  exact (same_ag he h1 (he x hx) (hok x hx)).2 ((aV_sol he hW).2 x hx)
end
theorem con_03{z:Int}{es:List jE}(h:zP z es=0)(h1:fV z es≠0):fV z es=3:=by
 rw[(con_0 h).1] at h1 ⊢;exact cn_03 h1
def edQ(T:Nat->jB)(i k:Nat):jB:=jX (qV (uK (T k))) (T i)
def edT(T:Nat->jB)(i k:Nat):jE:=⟨((i:Nat):Int),((k:Nat):Int),qV (edQ T i k)⟩
def vU(T:Nat->jB):Nat->List jE
 |0=>[]
 |k+1=>vU T k++(List.range k).map fun i=>edT T i k
def rlJ(T:Nat->jB)(k i:Nat):List jE:=vU T k++(List.range i).map fun j=>edT T j k
theorem rlJ_0(T:Nat->jB)(k:Nat):rlJ T k 0=vU T k:=by simp [rlJ]
theorem rlJ_s(T:Nat->jB)(k i:Nat):rlJ T k (i+1)=rlJ T k i++[edT T i k]:=by
 simp [rlJ,List.range_succ,List.append_assoc]
theorem rlJ_k(T:Nat->jB)(k:Nat):rlJ T k k=vU T (k+1):=rfl
theorem rlI_len(T:Nat->jB):∀ k,(vU T k).length<=k*k
 |0=>by simp [vU]
 |k+1=>by
  have:=rlI_len T k
  simp only[vU,List.length_append,List.length_map,List.length_range,Nat.add_mul,Nat.mul_add]
  omega
theorem rlJ_len(T:Nat->jB)(k i:Nat):(rlJ T k i).length<=k*k+i:=by
 have:=rlI_len T k
 simp only[rlJ,List.length_append,List.length_map,List.length_range];omega
theorem rlI_mem{T:Nat->jB}{x:jE}:∀ {n:Nat},x∈vU T n->∃ i k,i<k/\k<n/\x=edT T i k
 |0,h=>by cases h
 |n+1,h=>by
  rcases List.mem_append.1 h with h | h
  ·obtain ⟨i,k,h1,h2,h3⟩:=rlI_mem h;exact ⟨i,k,h1,by omega,h3⟩
  ·obtain ⟨i,h1,h2⟩:=List.mem_map.1 h;exact ⟨i,n,by simpa using h1,by omega,h2.symm⟩
theorem rlI_congr{T T':Nat->jB}:∀ {n:Nat},(∀ i k,i<k->k<n->edT T i k=edT T' i k)->vU T n=vU T' n
 |0,_=>rfl
 |n+1,h=>by
  have h1:=rlI_congr (n:=n) fun i k hi hk=>h i k hi (by omega)
  have h2:((List.range n).map fun i=>edT T i n)=(List.range n).map fun i=>edT T' i n:=List.map_congr_left fun i hi=>h i n (by simpa using hi) (by omega)
  simp only[vU,h1,h2]
def rlOk(T:Nat->jB)(n:Nat):Prop:=∀ k,k<n->∀ i,i<k->qC (edQ T i k)=0
instance (T:Nat->jB) (n:Nat):Decidable (rlOk T n):=by unfold rlOk;infer_instance
def rlB(T:Nat->jB)(n:Nat):Bool:=decide (rlOk T n)
def rlV(T:Nat->jB)(n:Nat):List jE:=if rlOk T n then vU T n else []
theorem rl_no{T:Nat->jB}{n i k:Nat}(hk:k<n)(hi:i<k)(h:qC (edQ T i k)≠0):rlV T n=[]/\rlB T n=false :=
 have hn:¬ rlOk T n:=fun h2=>h (h2 k hk i hi)
 ⟨if_neg hn,decide_eq_false hn⟩
theorem rl_yes{T:Nat->jB}{n:Nat}(h:rlOk T n):rlV T n=vU T n/\rlB T n=true:=⟨if_pos h,decide_eq_true h⟩
theorem rlB_t{T:Nat->jB}{n:Nat}(h:rlB T n=true):rlOk T n:=of_decide_eq_true h
def s64(z:Int):Prop:=-64<=z/\z<=64
def Q64(q:jB):Prop:=(s64 q.a/\s64 q.b/\s64 q.c/\s64 q.d)/\mK q
theorem dD{a b:Int}(ha:s64 a)(hb:s64 b):-4096<=a*b/\a*b<=4096:=by
 have h:(a*b).natAbs<=64*64:=by
  rw[Int.natAbs_mul]
  unfold s64 at *
  exact Nat.mul_le_mul (by omega) (by omega)
 omega
theorem s64_fdiv{x d:Int}(hd:d≠0)(h:d∣x)(hx:s64 x):s64 (x.fdiv d):=by
 have:=fdiv_abs hd h
 unfold s64 at *;omega
theorem btw_64{p q:jB}(hp:Q64 p)(hq:Q64 q):qC (jX (qV (uK p)) q)=0:=by
 have hc:=cI hp.2
 have hn:=yN hp.2.1
 rw[qV_c0 hc]
 have hs:s64 (yE (uK p)).a/\s64 (yE (uK p)).b/\s64 (yE (uK p)).c/\s64 (yE (uK p)).d:=by
  have hd:=dvL_ne hn
  have hdv:∀ z∈qL (uK p),dvL (qL (uK p))∣z:=dvL_dvd
  obtain ⟨⟨a1,a2,a3,a4⟩,_⟩:=hp
  refine ⟨s64_fdiv hd (hdv _ (by simp [qL])) a1,s64_fdiv hd (hdv _ (by simp [qL])) ?_,s64_fdiv hd (hdv _ (by simp [qL])) ?_,s64_fdiv hd (hdv _ (by simp [qL])) ?_⟩ <;>
   (unfold s64 at *;simp only[uK];omega)
 obtain ⟨b1,b2,b3,b4⟩:=hs
 obtain ⟨⟨c1,c2,c3,c4⟩,hqo⟩:=hq
 have m1:=dD b1 c1;have m2:=dD b2 c2;have m3:=dD b3 c3;have m4:=dD b4 c4
 have m5:=dD b1 c2;have m6:=dD b2 c1;have m7:=dD b3 c4;have m8:=dD b4 c3
 have m9:=dD b1 c3;have m10:=dD b2 c4;have m11:=dD b3 c1;have m12:=dD b4 c2
 have m13:=dD b1 c4;have m14:=dD b2 c3;have m15:=dD b3 c2;have m16:=dD b4 c1
 refine qC_ok ⟨xU (qcan_nz hn) hqo.1,?_⟩
 unfold cS inQ jX
 simp only
 refine ⟨⟨?_,?_⟩,⟨?_,?_⟩,⟨?_,?_⟩,⟨?_,?_⟩⟩<;>omega
theorem rl_64{T:Nat->jB}{n:Nat}(h:∀ j,j<n->Q64 (T j)):rlOk T n:=fun k hk i hi=>btw_64 (h k hk) (h i (by omega))
section
variable {T:Nat->jB} {n:Nat} (h:∀ j,j<n->mK (T j)) (hr:rlOk T n)
include h hr
theorem ed_nz{i k:Nat}(hi:i<k)(hk:k<n):cU (edQ T i k):=xU (cM (yN (h k hk).1) (cI (h k hk))).1 (h i (by omega)).1
theorem ed_ok{i k:Nat}(hi:i<k)(hk:k<n):EOkE n (edT T i k):=by
 refine ⟨?_,?_,?_,?_,?_,cM (ed_nz h hr hi hk) (hr k hk i hi)⟩<;>simp only[edT]<;>omega
theorem rl_es:xP n (vU T n):=fun x hx=>by
 obtain ⟨i,k,h1,h2,rfl⟩:=rlI_mem hx
 exact ed_ok h hr h1 h2
theorem rl_sol:Sol n (vU T n) T:=by
 refine ⟨fun j hj=>(h j hj).1,fun x hx=>?_⟩
 obtain ⟨i,k,h1,h2,rfl⟩:=rlI_mem hx
 have hnz:=ed_nz h hr h1 h2
 unfold agE edT
 show yR (T ((i:Nat):Int).toNat) (jX (T ((k:Nat):Int).toNat) (qV _))
 rw[Int.toNat_natCast,Int.toNat_natCast,qdiv (h k h2).1 (cM hnz (hr k h2 i h1)).1]
 refine yR.trans ?_ (qV_eq hnz (hr k h2 i h1)).symm
 exact (qV_eq (yN (h k h2).1) (cI (h k h2))).symm.mul (yR.refl _)
theorem rl_con(hn:1<=n)(hn5:n<=10):zP ((n:Nat):Int) (vU T n)=0/\(fV ((n:Nat):Int) (vU T n)=3\/fV ((n:Nat):Int) (vU T n)=0/\conV ((n:Nat):Int) (vU T n)=true):=by
 have hl:=rlI_len T n
 have hq:n*n<=10*10:=Nat.mul_le_mul hn5 hn5
 have he:=rl_es h hr
 have h0:zP ((n:Nat):Int) (vU T n)=0:=by
  unfold zP
  rw[if_neg (by omega)]
  exact edsC_ok.2 he
 refine ⟨h0,?_⟩
 by_cases hc:fV ((n:Nat):Int) (vU T n)=0
 ·refine .inr ⟨hc,?_⟩
  obtain ⟨a1,a2⟩:=con_0 h0
  rw[a1,Int.toNat_natCast] at hc
  rw[a2,Int.toNat_natCast]
  exact (cn_sol he hc).2 ⟨T,rl_sol h hr⟩
 ·exact .inl (con_03 h0 hc)
theorem rl_ers{ts:List jB}(hl:ts.length=n)(ht:∀ j,j<n->uX ts j=T j)(hn:1<=n)(hn5:n<=10):ersC ((n:Nat):Int) (vU T n) ts=0/\ersV ((n:Nat):Int) (vU T n) ts=(vU T n).map fun _=>0:=by
 have h0:=(rl_con h hr hn hn5).1
 have hb:∀ x∈vU T n,∃ i k,i<k/\k<n/\x=edT T i k/\ebt ts x=edQ T i k:=fun x hx=>by
  obtain ⟨i,k,h1,h2,rfl⟩:=rlI_mem hx
  refine ⟨i,k,h1,h2,rfl,?_⟩
  unfold ebt edT edQ
  show jX (qV (uK (uX ts ((k:Nat):Int).toNat))) (uX ts ((i:Nat):Int).toNat)=_
  rw[Int.toNat_natCast,Int.toNat_natCast,ht k h2,ht i (by omega)]
 have hok:erOk (vU T n) ts:=fun x hx=>by
  obtain ⟨i,k,h1,h2,_,e⟩:=hb x hx
  rw[e];exact hr k h2 i h1
 have hrt:rtC ts=0:=by
  have:∀ l:List jB,(∀ q∈l,mK q)->rtC l=0:=fun l=>by
   induction l with
   |nil=>intro _;rfl
   |cons q l ih=>
    intro hq
    show (if rqC q=0 then rtC l else rqC q)=0
    rw[if_pos (show rqC q=0 from gF.1 (hq q (.head _)))]
    exact ih fun q' h'=>hq q' (.tail _ h')
  refine this ts fun q hq=>?_
  obtain ⟨j,hj,rfl⟩:=List.getElem_of_mem hq
  have:=ht j (by omega)
  unfold uX at this
  rw[List.getD_eq_getElem?_getD,List.getElem?_eq_getElem hj] at this
  have e:ts[j]=T j:=this
  rw[e];exact h j (by omega)
 have hc:ersC ((n:Nat):Int) (vU T n) ts=0:=by
  unfold ersC
  rw[okC_0 h0,if_pos (by rw[hl]),okC_0 hrt]
  unfold erC
  rw[if_pos hok]
 refine ⟨hc,?_⟩
 unfold ersV
 rw[okL_0 hc]
 unfold erL
 rw[if_pos hok]
 refine List.map_congr_left fun x hx=>?_
 obtain ⟨i,k,h1,h2,rfl,e⟩:=hb x hx
 have hnz:=ed_nz h hr h1 h2
 unfold erX
 rw[e]
 have hv:=cM hnz (hr k h2 i h1)
 exact (chQ_0 hv.1 hv.1).2 (yR.refl _)
end
theorem rl_turn{T T':Nat->jB}{q:jB}{n:Nat}(hq:cU q)(h:∀ j,j<n->mK (T j))(hr:rlOk T n)(hT:∀ j,j<n->qC (jX q (T j))=0/\T' j=qV (jX q (T j)))(hr':rlOk T' n):vU T' n=vU T n:=by
 refine rlI_congr fun i k hi hk=>?_
 have hi':i<n:=by omega
 have nk:=xU hq (h k hk).1
 have ni:=xU hq (h i hi').1
 obtain ⟨ck,ek⟩:=hT k hk
 obtain ⟨ci,ei⟩:=hT i hi'
 have ok':mK (T' k):=ek▸cM nk ck
 have oi':mK (T' i):=ei▸cM ni ci
 have cz':=cM (yN ok'.1) (cI ok')
 have cz:=cM (yN (h k hk).1) (cI (h k hk))
 have n1:cU (edQ T' i k):=xU cz'.1 oi'.1
 have n2:cU (edQ T i k):=xU cz.1 (h i hi').1
 have e:yR (edQ T' i k) (edQ T i k):=by
  unfold edQ
  have a1:yR (qV (uK (T' k))) (jX (uK (T k)) (uK q)):=by
   refine (qV_eq (yN ok'.1) (cI ok')).trans ?_
   rw[<- qcj_qmul,ek]
   exact (qV_eq nk ck).cj
  have a2:yR (T' i) (jX q (T i)):=by rw[ei];exact qV_eq ni ci
  refine (a1.mul a2).trans ?_
  rw[vJ,<- vJ (uK q) q (T i),qcj_mul,dK,q1_mul,gZ]
  refine (yR.sc (hZ.1 hq) _).trans ?_
  exact (qV_eq (yN (h k hk).1) (cI (h k hk))).symm.mul (yR.refl _)
 unfold edT
 rw[(qC_congr n1 n2 e).2]
end Go.Fid
