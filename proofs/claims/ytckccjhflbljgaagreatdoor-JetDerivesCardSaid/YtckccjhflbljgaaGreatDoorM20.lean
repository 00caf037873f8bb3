/- Part 20 of a proof: rules, plain facts, and functions walked. -/
import Derived.Test.YtckccjhflbljgaaGreatDoorM18
import Derived.Test.YtckccjhflbljgaaGreatDoorM19
import Derived.Test.YtckccjhflbljgaaGreatDoorM6
import Derived.Test.YtckccjhflbljgaaGreatDoorM7
import Derived.Test.YtckccjhflbljgaaGreatDoorM12
set_option linter.all false
set_option maxRecDepth 4000
namespace Go.Proofs.YtckccjhflbljgaaGreatDoor
open List Tryz
open Go.Fid
theorem tn_mem{t:List jS}{k:Nat}(h:k<t.length):t.getD k tz∈t:=by
 rw[getD_eq_getElem?_getD,getElem?_eq_getElem h];exact getElem_mem _
abbrev gA (i:Int) (t:List jS) (k:Nat):Int:=gI (dU i t k).2.1 (t.getD k tz).a
abbrev gB (i:Int) (t:List jS) (k:Nat):Int:=gI (dU i t k).2.1 (t.getD k tz).b
abbrev sA (i:Int) (t:List jS) (k:Nat):Int:=gI (dU i t k).2.2 (t.getD k tz).a
abbrev sB (i:Int) (t:List jS) (k:Nat):Int:=gI (dU i t k).2.2 (t.getD k tz).b
abbrev nD (o i:Int) (t:List jS) (k:Nat):uT × Int:=jK (dU i t k).1 o (gA i t k) (gB i t k)
abbrev nU (o i:Int) (t:List jS) (k:Nat):uT × Int:=jK (dU i t k).1 o (gA i t k) 0
abbrev cG (X:uT):BS:=[(0,some [(.own 1 72 7 X.tm.length),(.mp 2),(.mp 3),(.own 4 3 1 X.us.length),(vb X.ov)]),(1,some (uD jN X.tm)),(2,some [.mo (vG mS vZ X.kn)]),(3,some [.mo (vG mY vZ X.os)]),(4,some (bm jL X.us))]
theorem p_drv(t:List jS)(ht:gR 1048576 t)(n:Nat)(i:Nat)(h0c:yT ((n:Nat):Int) t=0)(hi:i<n)(hT0:lX ((0:Int):Rat))(hT1:lX ((1:Int):Rat))(hT2:lX ((2:Int):Rat))(hTx:∀ x∈t,x.op=0->lX (qS x.n)):jP prog 19 [(.sl 72 7 (map jN t)),(.val (.int .i64 (((n:Nat):Int)))),(.val (.int .i64 (((i:Nat):Int))))] (.tup [(.sl 72 7 (map jN (iX ((i:Nat):Int) t))),(.val (.int .i64 ((((DRC ((i:Nat):Int) t):Nat):Int))))]):=by
 have hlt:=(dF h0c).2.2.2.1
 have hlt1:=(dF h0c).2.2.1
 refine vD func19 ?_
 refine jB<|kx [] [] (zE (aN 72 7)<|zM<|zZ) ?_
 refine jB<|jB<|kx [(8,(kE (yT ((n:Nat):Int) t)))] [] (zM<|zM<|zE (kB (j_chk t ht ((n:Nat):Int)))<|zM<|zZ) ?_
 refine jB<|kx [(22,(vb false))] [] (zM<|zE (nA false aZ (by exact bne_eq_false_iff_eq.2 (by rw[show (yT ((n:Nat):Int) t)=0 from h0c]<;>rfl)))<|zZ) ?_
 refine uI ?_
 refine jF<|jB<|jB<|kx [(30,(vb (decide (((i:Nat):Int)<0)||decide (((n:Nat):Int)<=((i:Nat):Int)))))] [] ?_ ?_
 ·refine zM<|zE gX<|zE (oV (vb (decide (((i:Nat):Int)<0))) (qA (by kernel_rfl)))<|?_
  rcases hb1:(decide (((i:Nat):Int)<0)) with _ | _
  ·replace hb1:=vT hb1
   exact zM<|zM<|zE oGe<|zE aK<|zZ
  ·replace hb1:=vF hb1
   exact zK<|zK<|zK<|zE nO<|zZ
 refine jD rfl (λh2=>?_) (λh2=>?_)
 ·exfalso;simp at h2;omega
 ·refine jF<|jB<|kf [(9,(.ref 0 0))] (cG rb0) (zSe (B2:=[]) (B2':=(cG rb0)) [0,1,2,3,4] [] e_newb<|zM<|zF) ?_
  refine jB<|kf [(10,(vi ((vW rb0 ((0:Int):Rat)).2))),(11,(vi ((vW ((vW rb0 ((0:Int):Rat)).1) ((1:Int):Rat)).2)))] (cG ((vW ((vW rb0 ((0:Int):Rat)).1) ((1:Int):Rat)).1)) (zM<|zE (kB (aV 0))<|zSe (B2:=(cG rb0)) (B2':=(cG ((vW rb0 ((0:Int):Rat)).1))) [0,1,2,3,4] [0] (e_num ((0:Int):Rat) (uG (vL (z:=0) (uB))) rb0 rbi0 hT0)<|zM<|zE (kB (aV 1))<|zSe (B2:=(cG ((vW rb0 ((0:Int):Rat)).1))) (B2':=(cG ((vW ((vW rb0 ((0:Int):Rat)).1) ((1:Int):Rat)).1))) [0,1,2,3,4] [0] (e_num ((1:Int):Rat) (uG (vL (z:=1) (uB))) ((vW rb0 ((0:Int):Rat)).1) dz_ok.1 hT1)<|zM<|zM<|zF) ?_
  refine jB<|kd [(12,(.own 5 3 1 t.length)),(13,(.own 6 3 1 t.length))] [(5,some (bm jL (replicate t.length 0))),(6,some (bm jL (replicate t.length 0)))] mo (wM<|wE (yA zY)<|wH (hc:=yE _ _ _) (oMk 5 jL (0:Int) t.length t.length uR ze3 zo3 by3)<|wM<|wE (yA zY)<|wH (hc:=yE _ _ _) (oMk 6 jL (0:Int) t.length t.length uR ze3 zo3 by3)<|wM<|wM<|wZ) ?_
  refine jB<|jB<|kx [(44,(vl 72 7 jN t)),(45,(kE t.length)),(46,(kE 0))] [] (zM<|zE (yA zY)<|zM<|zZ) ?_
  refine jH<|kR (α:=Nat × List Int × List Int) (λ(k,O,Q)=>⟨[(0,(vl 72 7 jN t)),(2,(kE i)),(9,(.ref 0 0)),(10,(vi gQ.2)),(11,(vi dOn.2)),(12,(.own 5 3 1 t.length)),(13,(.own 6 3 1 t.length)),(44,(vl 72 7 jN t)),(45,(kE t.length)),(46,(kE k))],((cG ((dU i t k).1))++[(5,some (bm jL O)),(6,some (bm jL Q))])⟩) (λ(k,O,Q)=>k<=t.length/\DLst i t k O Q/\∀ j,j<k->(dU i t (j+1)).1.ov=false) (λ(k,O,Q)=>t.length-k) (0,replicate t.length 0,replicate t.length 0) wk ⟨Nat.zero_le _,dLst_0,λj h=>absurd h (Nat.not_lt_zero j)⟩ ?_
  rintro ⟨k,O,Q⟩ ⟨hk,hL,hov⟩
  refine jB<|kx [(47,(vb (decide (((k:Nat):Int)<((t.length:Nat):Int)))))] [] (zE gX<|zZ) ?_
  refine jB<|jD rfl (λh3=>?_) (λh3=>?_)
  ·replace h3:=vF h3
   have hkl:k<t.length:=by omega
   have hI:=dInv (i:=i) h0c ht k hk
   have hP:=hI.pre h0c ht hkl
   have hlO:=hL.lO
   have hlQ:=hL.lQ
   refine jF<|jB<|jH<|jB<|kx [(14,(kE k)),(15,(.ref 7 0))] [(7,some (bx (jN (t.getD k tz))))] (zM<|zE (cB zY k (tz:jS))<|zE (mR cT)<|zH (vB 7 dW fZ)<|zM<|zT (qL cT)<|zZ) ?_
   refine jB<|kx [] [(6,some (bm jL (Q.set k gQ.2)))] (zM<|zM<|zM<|zE (yF uR k)<|zT (fF uN k gQ.2)<|zZ) ?_
   refine iC (α:=uT × List Int × List Int) (λ(B2,O2,Q2)=>⟨[(0,(vl 72 7 jN t)),(2,(kE i)),(9,(.ref 0 0)),(10,(vi gQ.2)),(11,(vi dOn.2)),(12,(.own 5 3 1 t.length)),(13,(.own 6 3 1 t.length)),(44,(vl 72 7 jN t)),(45,(kE t.length)),(46,(kE k))],((cG B2)++[(5,some (bm jL O2)),(6,some (bm jL Q2))])⟩) (λ(B2,O2,Q2)=>B2=(dU i t (k+1)).1/\DLst i t (k+1) O2 Q2) ?_ ?_
   ·refine jB<|kx [(56,(vi ((t.getD k tz).op)))] [] (zE (kK xN)<|zR (qH cN)<|zZ) ?_
    refine jH<|jB<|kx [(108,(vb ((t.getD k tz).op == 0)))] [] (zE xL<|zM<|zZ) ?_
    refine jD (b:=((t.getD k tz).op == 0)) rfl (λh4=>?_) (λh4=>?_)
    ·replace h4:=eq_of_beq h4
     have h0:(t.getD k tz).op=0:=h4
     obtain ⟨hqn,hqe⟩:=(nd_k h0c ht hkl).2.1 h0
     refine kf [] ((cG ((vW ((dU i t k).1) (qS (t.getD k tz).n)).1))++[(5,some (bm jL (O.set k ((vW ((dU i t k).1) (qS (t.getD k tz).n)).2))))]) (zM<|zM<|zM<|zE (kK mL)<|zR (yN (jJ ((t.getD k tz).n)) (jJ (jM (qS (t.getD k tz).n))) (kP jT) (by exact (by rw[<- hqe])))<|zSe (B2:=(cG ((dU i t k).1))) (B2':=(cG ((vW ((dU i t k).1) (qS (t.getD k tz).n)).1))) [0,1,2,3,4] [0] (e_num (qS (t.getD k tz).n) hqn ((dU i t k).1) hI.hB (hTx _ (tn_mem hkl) h0))<|zE (yF uR k)<|zT (fF uN k ((vW ((dU i t k).1) (qS (t.getD k tz).n)).2))<|zF) ?_
     exact met ((vW ((dU i t k).1) (qS (t.getD k tz).n)).1,O.set k ((vW ((dU i t k).1) (qS (t.getD k tz).n)).2),(Q.set k gQ.2)) wk (hL.put hkl (dNd_0 h0))
    ·replace h4:=ne_of_beq_false h4
     refine jB<|kx [(117,(vb ((t.getD k tz).op == 1)))] [] (zE xL<|zM<|zZ) ?_
     refine jD (b:=((t.getD k tz).op == 1)) rfl (λh5=>?_) (λh5=>?_)
     ·replace h5:=eq_of_beq h5
      have hop:(t.getD k tz).op=1:=h5
      refine jB<|kf [] ((cG ((jK ((dU i t k).1) 1 ((t.getD k tz).a) 0).1))++[(5,some (bm jL (O.set k ((jK ((dU i t k).1) 1 ((t.getD k tz).a) 0).2))))]) (zM<|zM<|zM<|zE (kK qN)<|zR (qH uN)<|zSe (B2:=(cG ((dU i t k).1))) (B2':=(cG ((jK ((dU i t k).1) 1 ((t.getD k tz).a) 0).1))) [0,1,2,3,4] [0] (fA 1 ((t.getD k tz).a) 0 ((dU i t k).1) hI.hB (.inl ⟨rfl,rfl,by have h8:=hI.hz.1;have h9:=hI.hz.2;omega⟩))<|zE (yF uR k)<|zT (fF uN k ((jK ((dU i t k).1) 1 ((t.getD k tz).a) 0).2))<|zF) ?_
      refine jB<|kx [(129,(vb ((t.getD k tz).a == ((i:Nat):Int))))] [] (zE (kK qN)<|zR (qH uN)<|zM<|zE xL<|zZ) ?_
      refine jD (b:=((t.getD k tz).a == ((i:Nat):Int))) rfl (λh6=>?_) (λh6=>?_)
      ·replace h6:=eq_of_beq h6
       refine kx [] [(6,some (bm jL ((Q.set k gQ.2).set k dOn.2)))] (zM<|zM<|zM<|zE (yF uR k)<|zT (fF uN k dOn.2)<|zZ) ?_
       exact met ((jK ((dU i t k).1) 1 (t.getD k tz).a 0).1,O.set k ((jK ((dU i t k).1) 1 (t.getD k tz).a 0).2),((Q.set k gQ.2).set k dOn.2)) wk (hL.put2 hkl ((dNd_1 hop).trans (by rw[if_pos h6])))
      ·replace h6:=ne_of_beq_false h6
       refine jF ?_
       exact met ((jK ((dU i t k).1) 1 (t.getD k tz).a 0).1,O.set k ((jK ((dU i t k).1) 1 (t.getD k tz).a 0).2),(Q.set k gQ.2)) wk (hL.put hkl ((dNd_1 hop).trans (by rw[if_neg h6])))
     ·replace h5:=ne_of_beq_false h5
      refine jB<|kx [(134,(vb ((t.getD k tz).op == 6)))] [] (zE xL<|zM<|zZ) ?_
      refine jD (b:=((t.getD k tz).op == 6)) rfl (λh7=>?_) (λh7=>?_)
      ·replace h7:=eq_of_beq h7
       have hop:(t.getD k tz).op=6:=h7
       have hk1:0<qB (t.getD k tz).op:=by rw[hop];decide
       have ha2:(t.getD k tz).a.toNat<k:=by have:=hP.ord.1 hk1;omega
       have ha3:0<=(t.getD k tz).a:=(hP.ord.1 hk1).1
       have n1:=nd2 hI.hB (o:=6) (by decide) (by decide) (hP.va hk1) (hP.va hk1).pos
       have n2:=oB n1.1 (n1.ix hI.hz) (n1.ix (hP.sa hk1))
       refine kd [] ((cG ((qV ((nU 6 i t k).1) gQ.2 (sA i t k)).1))++[(5,some (bm jL (O.set k ((nU 6 i t k).2)))),(6,some (bm jL ((Q.set k gQ.2).set k ((qV ((nU 6 i t k).1) gQ.2 (sA i t k)).2))))]) mo (wM<|wM<|wM<|wM<|wM<|wM<|wE (kK qN)<|wR (qH uN)<|wE (yF uR (((t.getD k tz).a).toNat))<|wR (yN (.val (.int .i64 ((O.getD (((t.getD k tz).a).toNat) 0)))) (.val (.int .i64 ((gA i t k)))) (fE uN (((t.getD k tz).a).toNat) (0:Int)) (by exact (congrArg (λz:Int=>jY.val (.int .i64 z)) (gI_a hL.hO ha2))))<|wS [0,1,2,3,4] [1,2,3,4] (vi ((nU 6 i t k).2)) [(.ref 0 0),(kE 6),(vi (gA i t k)),(kE 0)] (cG ((dU i t k).1)) (cG ((nU 6 i t k).1)) (fA 6 (gA i t k) 0 ((dU i t k).1) hI.hB (.inr ⟨by decide,by decide,(hP.va hk1),(hP.va hk1).pos⟩)) (.cons rfl (by kernel_rfl) (.cons rfl (vH _ _) (.cons rfl (by kernel_rfl) (.cons rfl (by kernel_rfl) (.cons rfl (vI _ _ _) .nil))))) (.cons rfl (by kernel_rfl) (.cons rfl (vH _ _) (.cons rfl (by kernel_rfl) (.cons rfl (by kernel_rfl) (.cons rfl (vI _ _ _) .nil))))) (by repeat first | exact .nil | refine .hid rfl ?_ | refine .none ?_ | refine .dat ?_ | refine .map ?_ | refine .cells (by kernel_rfl) ?_) (by repeat first | exact .nil | refine .dat ?_ | refine .map ?_ | refine .cells (by kernel_rfl) ?_)<|wM<|wM<|wM<|wE (kK qN)<|wR (qH uN)<|wE (yF uR (((t.getD k tz).a).toNat))<|wR (yN (.val (.int .i64 (((Q.set k gQ.2).getD (((t.getD k tz).a).toNat) 0)))) (.val (.int .i64 ((sA i t k)))) (fE uN (((t.getD k tz).a).toNat) (0:Int)) (by exact (congrArg (λz:Int=>jY.val (.int .i64 z)) (gI_s hL.hQ ha2))))<|wS [0,1,2,3,4] [1,2,3,4] (vi ((qV ((nU 6 i t k).1) gQ.2 (sA i t k)).2)) [(.ref 0 0),(vi gQ.2),(vi (sA i t k))] (cG ((nU 6 i t k).1)) (cG ((qV ((nU 6 i t k).1) gQ.2 (sA i t k)).1)) (e_dif gQ.2 (sA i t k) ((nU 6 i t k).1) n1.1 (n1.ix hI.hz) (n1.ix (hP.sa hk1))) (.cons rfl (by kernel_rfl) (.cons rfl (vH _ _) (.cons rfl (by kernel_rfl) (.cons rfl (by kernel_rfl) (.cons rfl (vI _ _ _) .nil))))) (.cons rfl (by kernel_rfl) (.cons rfl (vH _ _) (.cons rfl (by kernel_rfl) (.cons rfl (by kernel_rfl) (.cons rfl (vI _ _ _) .nil))))) (by repeat first | exact .nil | refine .hid rfl ?_ | refine .none ?_ | refine .dat ?_ | refine .map ?_ | refine .cells (by kernel_rfl) ?_) (by repeat first | exact .nil | refine .dat ?_ | refine .map ?_ | refine .cells (by kernel_rfl) ?_)<|wE (yF uR k)<|wT (hc:=nP (yE _ _ _)) (fF uN k ((nU 6 i t k).2))<|wE (yF uR k)<|wT (hc:=nP (yE _ _ _)) (fF uN k ((qV ((nU 6 i t k).1) gQ.2 (sA i t k)).2))<|wZ) ?_
       exact met ((qV ((nU 6 i t k).1) gQ.2 (sA i t k)).1,O.set k ((nU 6 i t k).2),((Q.set k gQ.2).set k ((qV ((nU 6 i t k).1) gQ.2 (sA i t k)).2))) wk (hL.put2 hkl (dNd_6 hop))
      ·replace h7:=ne_of_beq_false h7
       refine jB<|kx [(157,(vb ((t.getD k tz).op == 7)))] [] (zE xL<|zM<|zZ) ?_
       refine jD (b:=((t.getD k tz).op == 7)) rfl (λh8=>?_) (λh8=>?_)
       ·replace h8:=eq_of_beq h8
        have hop:(t.getD k tz).op=7:=h8
        have hk1:0<qB (t.getD k tz).op:=by rw[hop];decide
        have ha2:(t.getD k tz).a.toNat<k:=by have:=hP.ord.1 hk1;omega
        have ha3:0<=(t.getD k tz).a:=(hP.ord.1 hk1).1
        have q1:=nd2 hI.hB (o:=7) (by decide) (by decide) (hP.va hk1) (hP.va hk1).pos
        have q2:=mH q1.1 (q1.ix (hP.va hk1)) (q1.ix (hP.sa hk1))
        refine jB<|kf [] ((cG ((nU 7 i t k).1))++[(5,some (bm jL (O.set k ((nU 7 i t k).2))))]) (zM<|zM<|zM<|zM<|zE (kK qN)<|zR (qH uN)<|zE (yF uR (((t.getD k tz).a).toNat))<|zR (yN (.val (.int .i64 ((O.getD (((t.getD k tz).a).toNat) 0)))) (.val (.int .i64 ((gA i t k)))) (fE uN (((t.getD k tz).a).toNat) (0:Int)) (by exact (congrArg (λz:Int=>jY.val (.int .i64 z)) (gI_a hL.hO ha2))))<|zSe (B2:=(cG ((dU i t k).1))) (B2':=(cG ((nU 7 i t k).1))) [0,1,2,3,4] [0] (fA 7 (gA i t k) 0 ((dU i t k).1) hI.hB (.inr ⟨by decide,by decide,(hP.va hk1),(hP.va hk1).pos⟩))<|zE (yF uR k)<|zT (fF uN k ((nU 7 i t k).2))<|zF) ?_
        refine jB<|kd [(16,(vi ((kA ((nU 7 i t k).1) (gA i t k) (sA i t k)).2)))] (cG ((kA ((nU 7 i t k).1) (gA i t k) (sA i t k)).1)) mo (wM<|wM<|wE (kK qN)<|wR (qH uN)<|wE (yF uR (((t.getD k tz).a).toNat))<|wR (yN (.val (.int .i64 (((O.set k ((nU 7 i t k).2)).getD (((t.getD k tz).a).toNat) 0)))) (.val (.int .i64 ((gA i t k)))) (fE uN (((t.getD k tz).a).toNat) (0:Int)) (by exact (congrArg (λz:Int=>jY.val (.int .i64 z)) (gI_s hL.hO ha2))))<|wM<|wE (kK qN)<|wR (qH uN)<|wE (yF uR (((t.getD k tz).a).toNat))<|wR (yN (.val (.int .i64 (((Q.set k gQ.2).getD (((t.getD k tz).a).toNat) 0)))) (.val (.int .i64 ((sA i t k)))) (fE uN (((t.getD k tz).a).toNat) (0:Int)) (by exact (congrArg (λz:Int=>jY.val (.int .i64 z)) (gI_s hL.hQ ha2))))<|wS [0,1,2,3,4] [1,2,3,4] (vi ((kA ((nU 7 i t k).1) (gA i t k) (sA i t k)).2)) [(.ref 0 0),(vi (gA i t k)),(vi (sA i t k))] (cG ((nU 7 i t k).1)) (cG ((kA ((nU 7 i t k).1) (gA i t k) (sA i t k)).1)) (e_prd (gA i t k) (sA i t k) ((nU 7 i t k).1) q1.1 (q1.ix (hP.va hk1)) (q1.ix (hP.sa hk1))) (.cons rfl (by kernel_rfl) (.cons rfl (vH _ _) (.cons rfl (by kernel_rfl) (.cons rfl (by kernel_rfl) (.cons rfl (vI _ _ _) .nil))))) (.cons rfl (by kernel_rfl) (.cons rfl (vH _ _) (.cons rfl (by kernel_rfl) (.cons rfl (by kernel_rfl) (.cons rfl (vI _ _ _) .nil))))) (by repeat first | exact .nil | refine .hid rfl ?_ | refine .none ?_ | refine .dat ?_ | refine .map ?_ | refine .cells (by kernel_rfl) ?_) (by repeat first | exact .nil | refine .dat ?_ | refine .map ?_ | refine .cells (by kernel_rfl) ?_)<|wM<|wZ) ?_
        refine jB<|kx [(183,(vb ((kA ((nU 7 i t k).1) (gA i t k) (sA i t k)).2 == gQ.2)))] [] (zM<|zM<|zE xL<|zZ) ?_
        refine jD rfl (λh9=>?_) (λh9=>?_)
        ·replace h9:=eq_of_beq h9
         refine kx [] [(6,some (bm jL ((Q.set k gQ.2).set k gQ.2)))] (zM<|zM<|zM<|zE (yF uR k)<|zT (fF uN k gQ.2)<|zZ) ?_
         exact met ((kA ((nU 7 i t k).1) (gA i t k) (sA i t k)).1,O.set k ((nU 7 i t k).2),((Q.set k gQ.2).set k gQ.2)) wk (hL.put2 hkl (dNd_7z hop h9))
        ·replace h9:=ne_of_beq_false h9
         have q3:=bNum_ok (q:=((2:Int):Rat)) q2.1 (ql_i)
         have q4:=mH q3.1 q3.2.1 (q3.ix q2.2.1)
         refine kf [] ((cG ((kA ((vW ((kA ((nU 7 i t k).1) (gA i t k) (sA i t k)).1) ((2:Int):Rat)).1) ((vW ((kA ((nU 7 i t k).1) (gA i t k) (sA i t k)).1) ((2:Int):Rat)).2) ((kA ((nU 7 i t k).1) (gA i t k) (sA i t k)).2)).1))++[(6,some (bm jL ((Q.set k gQ.2).set k ((kA ((vW ((kA ((nU 7 i t k).1) (gA i t k) (sA i t k)).1) ((2:Int):Rat)).1) ((vW ((kA ((nU 7 i t k).1) (gA i t k) (sA i t k)).1) ((2:Int):Rat)).2) ((kA ((nU 7 i t k).1) (gA i t k) (sA i t k)).2)).2))))]) (zM<|zM<|zM<|zM<|zE (kB (aV 2))<|zSe (B2:=(cG ((kA ((nU 7 i t k).1) (gA i t k) (sA i t k)).1))) (B2':=(cG ((vW ((kA ((nU 7 i t k).1) (gA i t k) (sA i t k)).1) ((2:Int):Rat)).1))) [0,1,2,3,4] [0] (e_num ((2:Int):Rat) (uG (vL (z:=2) (uB))) ((kA ((nU 7 i t k).1) (gA i t k) (sA i t k)).1) q2.1 hT2)<|zM<|zSe (B2:=(cG ((vW ((kA ((nU 7 i t k).1) (gA i t k) (sA i t k)).1) ((2:Int):Rat)).1))) (B2':=(cG ((kA ((vW ((kA ((nU 7 i t k).1) (gA i t k) (sA i t k)).1) ((2:Int):Rat)).1) ((vW ((kA ((nU 7 i t k).1) (gA i t k) (sA i t k)).1) ((2:Int):Rat)).2) ((kA ((nU 7 i t k).1) (gA i t k) (sA i t k)).2)).1))) [0,1,2,3,4] [0] (e_prd ((vW ((kA ((nU 7 i t k).1) (gA i t k) (sA i t k)).1) ((2:Int):Rat)).2) ((kA ((nU 7 i t k).1) (gA i t k) (sA i t k)).2) ((vW ((kA ((nU 7 i t k).1) (gA i t k) (sA i t k)).1) ((2:Int):Rat)).1) q3.1 q3.2.1 (q3.ix q2.2.1))<|zE (yF uR k)<|zT (fF uN k ((kA ((vW ((kA ((nU 7 i t k).1) (gA i t k) (sA i t k)).1) ((2:Int):Rat)).1) ((vW ((kA ((nU 7 i t k).1) (gA i t k) (sA i t k)).1) ((2:Int):Rat)).2) ((kA ((nU 7 i t k).1) (gA i t k) (sA i t k)).2)).2))<|zF) ?_
         exact met ((kA ((vW ((kA ((nU 7 i t k).1) (gA i t k) (sA i t k)).1) ((2:Int):Rat)).1) ((vW ((kA ((nU 7 i t k).1) (gA i t k) (sA i t k)).1) ((2:Int):Rat)).2) ((kA ((nU 7 i t k).1) (gA i t k) (sA i t k)).2)).1,O.set k ((nU 7 i t k).2),((Q.set k gQ.2).set k ((kA ((vW ((kA ((nU 7 i t k).1) (gA i t k) (sA i t k)).1) ((2:Int):Rat)).1) ((vW ((kA ((nU 7 i t k).1) (gA i t k) (sA i t k)).1) ((2:Int):Rat)).2) ((kA ((nU 7 i t k).1) (gA i t k) (sA i t k)).2)).2))) wk (hL.put2 hkl (dNd_7 hop h9))
       ·replace h8:=ne_of_beq_false h8
        refine jB<|kx [(197,(vb ((t.getD k tz).op == 2)))] [] (zE xL<|zM<|zZ) ?_
        refine jD (b:=((t.getD k tz).op == 2)) rfl (λh10=>?_) (λh10=>?_)
        ·replace h10:=eq_of_beq h10
         have hop:(t.getD k tz).op=2:=h10
         have hk1:0<qB (t.getD k tz).op:=by rw[hop];decide
         have ha2:(t.getD k tz).a.toNat<k:=by have:=hP.ord.1 hk1;omega
         have ha3:0<=(t.getD k tz).a:=(hP.ord.1 hk1).1
         have hk2:1<qB (t.getD k tz).op:=by rw[hop];decide
         have hb2:(t.getD k tz).b.toNat<k:=by have:=hP.ord.2 hk2;omega
         have hb3:0<=(t.getD k tz).b:=(hP.ord.2 hk2).1
         have a1:=nd2 hI.hB (o:=2) (by decide) (by decide) (hP.va hk1) (hP.vb hk2)
         have a2:=bSum_ok a1.1 (a1.ix (hP.sa hk1)) (a1.ix (hP.sb hk2))
         refine kd [] ((cG ((gD ((nD 2 i t k).1) (sA i t k) (sB i t k)).1))++[(5,some (bm jL (O.set k ((nD 2 i t k).2)))),(6,some (bm jL ((Q.set k gQ.2).set k ((gD ((nD 2 i t k).1) (sA i t k) (sB i t k)).2))))]) mo (wM<|wM<|wM<|wM<|wM<|wM<|wE (kK qN)<|wR (qH uN)<|wE (yF uR (((t.getD k tz).a).toNat))<|wR (yN (.val (.int .i64 ((O.getD (((t.getD k tz).a).toNat) 0)))) (.val (.int .i64 ((gA i t k)))) (fE uN (((t.getD k tz).a).toNat) (0:Int)) (by exact (congrArg (λz:Int=>jY.val (.int .i64 z)) (gI_a hL.hO ha2))))<|wM<|wE (kK vE)<|wR (qH uN)<|wE (yF uR (((t.getD k tz).b).toNat))<|wR (yN (.val (.int .i64 ((O.getD (((t.getD k tz).b).toNat) 0)))) (.val (.int .i64 ((gB i t k)))) (fE uN (((t.getD k tz).b).toNat) (0:Int)) (by exact (congrArg (λz:Int=>jY.val (.int .i64 z)) (gI_a hL.hO hb2))))<|wS [0,1,2,3,4] [1,2,3,4] (vi ((nD 2 i t k).2)) [(.ref 0 0),(kE 2),(vi (gA i t k)),(vi (gB i t k))] (cG ((dU i t k).1)) (cG ((nD 2 i t k).1)) (fA 2 (gA i t k) (gB i t k) ((dU i t k).1) hI.hB (.inr ⟨by decide,by decide,(hP.va hk1),(hP.vb hk2)⟩)) (.cons rfl (by kernel_rfl) (.cons rfl (vH _ _) (.cons rfl (by kernel_rfl) (.cons rfl (by kernel_rfl) (.cons rfl (vI _ _ _) .nil))))) (.cons rfl (by kernel_rfl) (.cons rfl (vH _ _) (.cons rfl (by kernel_rfl) (.cons rfl (by kernel_rfl) (.cons rfl (vI _ _ _) .nil))))) (by repeat first | exact .nil | refine .hid rfl ?_ | refine .none ?_ | refine .dat ?_ | refine .map ?_ | refine .cells (by kernel_rfl) ?_) (by repeat first | exact .nil | refine .dat ?_ | refine .map ?_ | refine .cells (by kernel_rfl) ?_)<|wM<|wM<|wE (kK qN)<|wR (qH uN)<|wE (yF uR (((t.getD k tz).a).toNat))<|wR (yN (.val (.int .i64 (((Q.set k gQ.2).getD (((t.getD k tz).a).toNat) 0)))) (.val (.int .i64 ((sA i t k)))) (fE uN (((t.getD k tz).a).toNat) (0:Int)) (by exact (congrArg (λz:Int=>jY.val (.int .i64 z)) (gI_s hL.hQ ha2))))<|wM<|wE (kK vE)<|wR (qH uN)<|wE (yF uR (((t.getD k tz).b).toNat))<|wR (yN (.val (.int .i64 (((Q.set k gQ.2).getD (((t.getD k tz).b).toNat) 0)))) (.val (.int .i64 ((sB i t k)))) (fE uN (((t.getD k tz).b).toNat) (0:Int)) (by exact (congrArg (λz:Int=>jY.val (.int .i64 z)) (gI_s hL.hQ hb2))))<|wS [0,1,2,3,4] [1,2,3,4] (vi ((gD ((nD 2 i t k).1) (sA i t k) (sB i t k)).2)) [(.ref 0 0),(vi (sA i t k)),(vi (sB i t k))] (cG ((nD 2 i t k).1)) (cG ((gD ((nD 2 i t k).1) (sA i t k) (sB i t k)).1)) (e_sum (sA i t k) (sB i t k) ((nD 2 i t k).1) a1.1 (a1.ix (hP.sa hk1)) (a1.ix (hP.sb hk2))) (.cons rfl (by kernel_rfl) (.cons rfl (vH _ _) (.cons rfl (by kernel_rfl) (.cons rfl (by kernel_rfl) (.cons rfl (vI _ _ _) .nil))))) (.cons rfl (by kernel_rfl) (.cons rfl (vH _ _) (.cons rfl (by kernel_rfl) (.cons rfl (by kernel_rfl) (.cons rfl (vI _ _ _) .nil))))) (by repeat first | exact .nil | refine .hid rfl ?_ | refine .none ?_ | refine .dat ?_ | refine .map ?_ | refine .cells (by kernel_rfl) ?_) (by repeat first | exact .nil | refine .dat ?_ | refine .map ?_ | refine .cells (by kernel_rfl) ?_)<|wE (yF uR k)<|wT (hc:=nP (yE _ _ _)) (fF uN k ((nD 2 i t k).2))<|wE (yF uR k)<|wT (hc:=nP (yE _ _ _)) (fF uN k ((gD ((nD 2 i t k).1) (sA i t k) (sB i t k)).2))<|wZ) ?_
         exact met ((gD ((nD 2 i t k).1) (sA i t k) (sB i t k)).1,O.set k ((nD 2 i t k).2),((Q.set k gQ.2).set k ((gD ((nD 2 i t k).1) (sA i t k) (sB i t k)).2))) wk (hL.put2 hkl (dNd_2 hop))
        ·replace h10:=ne_of_beq_false h10
         refine jB<|kx [(229,(vb ((t.getD k tz).op == 3)))] [] (zE xL<|zM<|zZ) ?_
         refine jD (b:=((t.getD k tz).op == 3)) rfl (λh11=>?_) (λh11=>?_)
         ·replace h11:=eq_of_beq h11
          have hop:(t.getD k tz).op=3:=h11
          have hk1:0<qB (t.getD k tz).op:=by rw[hop];decide
          have ha2:(t.getD k tz).a.toNat<k:=by have:=hP.ord.1 hk1;omega
          have ha3:0<=(t.getD k tz).a:=(hP.ord.1 hk1).1
          have hk2:1<qB (t.getD k tz).op:=by rw[hop];decide
          have hb2:(t.getD k tz).b.toNat<k:=by have:=hP.ord.2 hk2;omega
          have hb3:0<=(t.getD k tz).b:=(hP.ord.2 hk2).1
          have b1:=nd2 hI.hB (o:=3) (by decide) (by decide) (hP.va hk1) (hP.vb hk2)
          have b2:=oB b1.1 (b1.ix (hP.sa hk1)) (b1.ix (hP.sb hk2))
          refine kd [] ((cG ((qV ((nD 3 i t k).1) (sA i t k) (sB i t k)).1))++[(5,some (bm jL (O.set k ((nD 3 i t k).2)))),(6,some (bm jL ((Q.set k gQ.2).set k ((qV ((nD 3 i t k).1) (sA i t k) (sB i t k)).2))))]) mo (wM<|wM<|wM<|wM<|wM<|wM<|wE (kK qN)<|wR (qH uN)<|wE (yF uR (((t.getD k tz).a).toNat))<|wR (yN (.val (.int .i64 ((O.getD (((t.getD k tz).a).toNat) 0)))) (.val (.int .i64 ((gA i t k)))) (fE uN (((t.getD k tz).a).toNat) (0:Int)) (by exact (congrArg (λz:Int=>jY.val (.int .i64 z)) (gI_a hL.hO ha2))))<|wM<|wE (kK vE)<|wR (qH uN)<|wE (yF uR (((t.getD k tz).b).toNat))<|wR (yN (.val (.int .i64 ((O.getD (((t.getD k tz).b).toNat) 0)))) (.val (.int .i64 ((gB i t k)))) (fE uN (((t.getD k tz).b).toNat) (0:Int)) (by exact (congrArg (λz:Int=>jY.val (.int .i64 z)) (gI_a hL.hO hb2))))<|wS [0,1,2,3,4] [1,2,3,4] (vi ((nD 3 i t k).2)) [(.ref 0 0),(kE 3),(vi (gA i t k)),(vi (gB i t k))] (cG ((dU i t k).1)) (cG ((nD 3 i t k).1)) (fA 3 (gA i t k) (gB i t k) ((dU i t k).1) hI.hB (.inr ⟨by decide,by decide,(hP.va hk1),(hP.vb hk2)⟩)) (.cons rfl (by kernel_rfl) (.cons rfl (vH _ _) (.cons rfl (by kernel_rfl) (.cons rfl (by kernel_rfl) (.cons rfl (vI _ _ _) .nil))))) (.cons rfl (by kernel_rfl) (.cons rfl (vH _ _) (.cons rfl (by kernel_rfl) (.cons rfl (by kernel_rfl) (.cons rfl (vI _ _ _) .nil))))) (by repeat first | exact .nil | refine .hid rfl ?_ | refine .none ?_ | refine .dat ?_ | refine .map ?_ | refine .cells (by kernel_rfl) ?_) (by repeat first | exact .nil | refine .dat ?_ | refine .map ?_ | refine .cells (by kernel_rfl) ?_)<|wM<|wM<|wE (kK qN)<|wR (qH uN)<|wE (yF uR (((t.getD k tz).a).toNat))<|wR (yN (.val (.int .i64 (((Q.set k gQ.2).getD (((t.getD k tz).a).toNat) 0)))) (.val (.int .i64 ((sA i t k)))) (fE uN (((t.getD k tz).a).toNat) (0:Int)) (by exact (congrArg (λz:Int=>jY.val (.int .i64 z)) (gI_s hL.hQ ha2))))<|wM<|wE (kK vE)<|wR (qH uN)<|wE (yF uR (((t.getD k tz).b).toNat))<|wR (yN (.val (.int .i64 (((Q.set k gQ.2).getD (((t.getD k tz).b).toNat) 0)))) (.val (.int .i64 ((sB i t k)))) (fE uN (((t.getD k tz).b).toNat) (0:Int)) (by exact (congrArg (λz:Int=>jY.val (.int .i64 z)) (gI_s hL.hQ hb2))))<|wS [0,1,2,3,4] [1,2,3,4] (vi ((qV ((nD 3 i t k).1) (sA i t k) (sB i t k)).2)) [(.ref 0 0),(vi (sA i t k)),(vi (sB i t k))] (cG ((nD 3 i t k).1)) (cG ((qV ((nD 3 i t k).1) (sA i t k) (sB i t k)).1)) (e_dif (sA i t k) (sB i t k) ((nD 3 i t k).1) b1.1 (b1.ix (hP.sa hk1)) (b1.ix (hP.sb hk2))) (.cons rfl (by kernel_rfl) (.cons rfl (vH _ _) (.cons rfl (by kernel_rfl) (.cons rfl (by kernel_rfl) (.cons rfl (vI _ _ _) .nil))))) (.cons rfl (by kernel_rfl) (.cons rfl (vH _ _) (.cons rfl (by kernel_rfl) (.cons rfl (by kernel_rfl) (.cons rfl (vI _ _ _) .nil))))) (by repeat first | exact .nil | refine .hid rfl ?_ | refine .none ?_ | refine .dat ?_ | refine .map ?_ | refine .cells (by kernel_rfl) ?_) (by repeat first | exact .nil | refine .dat ?_ | refine .map ?_ | refine .cells (by kernel_rfl) ?_)<|wE (yF uR k)<|wT (hc:=nP (yE _ _ _)) (fF uN k ((nD 3 i t k).2))<|wE (yF uR k)<|wT (hc:=nP (yE _ _ _)) (fF uN k ((qV ((nD 3 i t k).1) (sA i t k) (sB i t k)).2))<|wZ) ?_
          exact met ((qV ((nD 3 i t k).1) (sA i t k) (sB i t k)).1,O.set k ((nD 3 i t k).2),((Q.set k gQ.2).set k ((qV ((nD 3 i t k).1) (sA i t k) (sB i t k)).2))) wk (hL.put2 hkl (dNd_3 hop))
         ·replace h11:=ne_of_beq_false h11
          refine jB<|kx [(261,(vb ((t.getD k tz).op == 4)))] [] (zE xL<|zM<|zZ) ?_
          refine jD (b:=((t.getD k tz).op == 4)) rfl (λh12=>?_) (λh12=>?_)
          ·replace h12:=eq_of_beq h12
           have hop:(t.getD k tz).op=4:=h12
           have hk1:0<qB (t.getD k tz).op:=by rw[hop];decide
           have ha2:(t.getD k tz).a.toNat<k:=by have:=hP.ord.1 hk1;omega
           have ha3:0<=(t.getD k tz).a:=(hP.ord.1 hk1).1
           have hk2:1<qB (t.getD k tz).op:=by rw[hop];decide
           have hb2:(t.getD k tz).b.toNat<k:=by have:=hP.ord.2 hk2;omega
           have hb3:0<=(t.getD k tz).b:=(hP.ord.2 hk2).1
           have m1:=nd2 hI.hB (o:=4) (by decide) (by decide) (hP.va hk1) (hP.vb hk2)
           have m2:=mH m1.1 (m1.ix (hP.va hk1)) (m1.ix (hP.sb hk2))
           have m3:=mH m2.1 (m2.ix (m1.ix (hP.vb hk2))) (m2.ix (m1.ix (hP.sa hk1)))
           have m4:=bSum_ok m3.1 (m3.ix m2.2.1) m3.2.1
           refine jB<|kd [] ((cG ((nD 4 i t k).1))++[(5,some (bm jL (O.set k ((nD 4 i t k).2))))]) mo (wM<|wM<|wM<|wM<|wE (kK qN)<|wR (qH uN)<|wE (yF uR (((t.getD k tz).a).toNat))<|wR (yN (.val (.int .i64 ((O.getD (((t.getD k tz).a).toNat) 0)))) (.val (.int .i64 ((gA i t k)))) (fE uN (((t.getD k tz).a).toNat) (0:Int)) (by exact (congrArg (λz:Int=>jY.val (.int .i64 z)) (gI_a hL.hO ha2))))<|wM<|wE (kK vE)<|wR (qH uN)<|wE (yF uR (((t.getD k tz).b).toNat))<|wR (yN (.val (.int .i64 ((O.getD (((t.getD k tz).b).toNat) 0)))) (.val (.int .i64 ((gB i t k)))) (fE uN (((t.getD k tz).b).toNat) (0:Int)) (by exact (congrArg (λz:Int=>jY.val (.int .i64 z)) (gI_a hL.hO hb2))))<|wS [0,1,2,3,4] [1,2,3,4] (vi ((nD 4 i t k).2)) [(.ref 0 0),(kE 4),(vi (gA i t k)),(vi (gB i t k))] (cG ((dU i t k).1)) (cG ((nD 4 i t k).1)) (fA 4 (gA i t k) (gB i t k) ((dU i t k).1) hI.hB (.inr ⟨by decide,by decide,(hP.va hk1),(hP.vb hk2)⟩)) (.cons rfl (by kernel_rfl) (.cons rfl (vH _ _) (.cons rfl (by kernel_rfl) (.cons rfl (by kernel_rfl) (.cons rfl (vI _ _ _) .nil))))) (.cons rfl (by kernel_rfl) (.cons rfl (vH _ _) (.cons rfl (by kernel_rfl) (.cons rfl (by kernel_rfl) (.cons rfl (vI _ _ _) .nil))))) (by repeat first | exact .nil | refine .hid rfl ?_ | refine .none ?_ | refine .dat ?_ | refine .map ?_ | refine .cells (by kernel_rfl) ?_) (by repeat first | exact .nil | refine .dat ?_ | refine .map ?_ | refine .cells (by kernel_rfl) ?_)<|wE (yF uR k)<|wT (hc:=nP (yE _ _ _)) (fF uN k ((nD 4 i t k).2))<|wZ) ?_
           refine kd [] ((cG ((gD ((kA ((kA ((nD 4 i t k).1) (gA i t k) (sB i t k)).1) (gB i t k) (sA i t k)).1) ((kA ((nD 4 i t k).1) (gA i t k) (sB i t k)).2) ((kA ((kA ((nD 4 i t k).1) (gA i t k) (sB i t k)).1) (gB i t k) (sA i t k)).2)).1))++[(6,some (bm jL ((Q.set k gQ.2).set k ((gD ((kA ((kA ((nD 4 i t k).1) (gA i t k) (sB i t k)).1) (gB i t k) (sA i t k)).1) ((kA ((nD 4 i t k).1) (gA i t k) (sB i t k)).2) ((kA ((kA ((nD 4 i t k).1) (gA i t k) (sB i t k)).1) (gB i t k) (sA i t k)).2)).2))))]) mo (wM<|wM<|wM<|wM<|wM<|wE (kK qN)<|wR (qH uN)<|wE (yF uR (((t.getD k tz).a).toNat))<|wR (yN (.val (.int .i64 (((O.set k ((nD 4 i t k).2)).getD (((t.getD k tz).a).toNat) 0)))) (.val (.int .i64 ((gA i t k)))) (fE uN (((t.getD k tz).a).toNat) (0:Int)) (by exact (congrArg (λz:Int=>jY.val (.int .i64 z)) (gI_s hL.hO ha2))))<|wM<|wE (kK vE)<|wR (qH uN)<|wE (yF uR (((t.getD k tz).b).toNat))<|wR (yN (.val (.int .i64 (((Q.set k gQ.2).getD (((t.getD k tz).b).toNat) 0)))) (.val (.int .i64 ((sB i t k)))) (fE uN (((t.getD k tz).b).toNat) (0:Int)) (by exact (congrArg (λz:Int=>jY.val (.int .i64 z)) (gI_s hL.hQ hb2))))<|wS [0,1,2,3,4] [1,2,3,4] (vi ((kA ((nD 4 i t k).1) (gA i t k) (sB i t k)).2)) [(.ref 0 0),(vi (gA i t k)),(vi (sB i t k))] (cG ((nD 4 i t k).1)) (cG ((kA ((nD 4 i t k).1) (gA i t k) (sB i t k)).1)) (e_prd (gA i t k) (sB i t k) ((nD 4 i t k).1) m1.1 (m1.ix (hP.va hk1)) (m1.ix (hP.sb hk2))) (.cons rfl (by kernel_rfl) (.cons rfl (vH _ _) (.cons rfl (by kernel_rfl) (.cons rfl (by kernel_rfl) (.cons rfl (vI _ _ _) .nil))))) (.cons rfl (by kernel_rfl) (.cons rfl (vH _ _) (.cons rfl (by kernel_rfl) (.cons rfl (by kernel_rfl) (.cons rfl (vI _ _ _) .nil))))) (by repeat first | exact .nil | refine .hid rfl ?_ | refine .none ?_ | refine .dat ?_ | refine .map ?_ | refine .cells (by kernel_rfl) ?_) (by repeat first | exact .nil | refine .dat ?_ | refine .map ?_ | refine .cells (by kernel_rfl) ?_)<|wM<|wM<|wE (kK vE)<|wR (qH uN)<|wE (yF uR (((t.getD k tz).b).toNat))<|wR (yN (.val (.int .i64 (((O.set k ((nD 4 i t k).2)).getD (((t.getD k tz).b).toNat) 0)))) (.val (.int .i64 ((gB i t k)))) (fE uN (((t.getD k tz).b).toNat) (0:Int)) (by exact (congrArg (λz:Int=>jY.val (.int .i64 z)) (gI_s hL.hO hb2))))<|wM<|wE (kK qN)<|wR (qH uN)<|wE (yF uR (((t.getD k tz).a).toNat))<|wR (yN (.val (.int .i64 (((Q.set k gQ.2).getD (((t.getD k tz).a).toNat) 0)))) (.val (.int .i64 ((sA i t k)))) (fE uN (((t.getD k tz).a).toNat) (0:Int)) (by exact (congrArg (λz:Int=>jY.val (.int .i64 z)) (gI_s hL.hQ ha2))))<|wS [0,1,2,3,4] [1,2,3,4] (vi ((kA ((kA ((nD 4 i t k).1) (gA i t k) (sB i t k)).1) (gB i t k) (sA i t k)).2)) [(.ref 0 0),(vi (gB i t k)),(vi (sA i t k))] (cG ((kA ((nD 4 i t k).1) (gA i t k) (sB i t k)).1)) (cG ((kA ((kA ((nD 4 i t k).1) (gA i t k) (sB i t k)).1) (gB i t k) (sA i t k)).1)) (e_prd (gB i t k) (sA i t k) ((kA ((nD 4 i t k).1) (gA i t k) (sB i t k)).1) m2.1 (m2.ix (m1.ix (hP.vb hk2))) (m2.ix (m1.ix (hP.sa hk1)))) (.cons rfl (by kernel_rfl) (.cons rfl (vH _ _) (.cons rfl (by kernel_rfl) (.cons rfl (by kernel_rfl) (.cons rfl (vI _ _ _) .nil))))) (.cons rfl (by kernel_rfl) (.cons rfl (vH _ _) (.cons rfl (by kernel_rfl) (.cons rfl (by kernel_rfl) (.cons rfl (vI _ _ _) .nil))))) (by repeat first | exact .nil | refine .hid rfl ?_ | refine .none ?_ | refine .dat ?_ | refine .map ?_ | refine .cells (by kernel_rfl) ?_) (by repeat first | exact .nil | refine .dat ?_ | refine .map ?_ | refine .cells (by kernel_rfl) ?_)<|wS [0,1,2,3,4] [1,2,3,4] (vi ((gD ((kA ((kA ((nD 4 i t k).1) (gA i t k) (sB i t k)).1) (gB i t k) (sA i t k)).1) ((kA ((nD 4 i t k).1) (gA i t k) (sB i t k)).2) ((kA ((kA ((nD 4 i t k).1) (gA i t k) (sB i t k)).1) (gB i t k) (sA i t k)).2)).2)) [(.ref 0 0),(vi ((kA ((nD 4 i t k).1) (gA i t k) (sB i t k)).2)),(vi ((kA ((kA ((nD 4 i t k).1) (gA i t k) (sB i t k)).1) (gB i t k) (sA i t k)).2))] (cG ((kA ((kA ((nD 4 i t k).1) (gA i t k) (sB i t k)).1) (gB i t k) (sA i t k)).1)) (cG ((gD ((kA ((kA ((nD 4 i t k).1) (gA i t k) (sB i t k)).1) (gB i t k) (sA i t k)).1) ((kA ((nD 4 i t k).1) (gA i t k) (sB i t k)).2) ((kA ((kA ((nD 4 i t k).1) (gA i t k) (sB i t k)).1) (gB i t k) (sA i t k)).2)).1)) (e_sum ((kA ((nD 4 i t k).1) (gA i t k) (sB i t k)).2) ((kA ((kA ((nD 4 i t k).1) (gA i t k) (sB i t k)).1) (gB i t k) (sA i t k)).2) ((kA ((kA ((nD 4 i t k).1) (gA i t k) (sB i t k)).1) (gB i t k) (sA i t k)).1) m3.1 (m3.ix m2.2.1) m3.2.1) (.cons rfl (by kernel_rfl) (.cons rfl (vH _ _) (.cons rfl (by kernel_rfl) (.cons rfl (by kernel_rfl) (.cons rfl (vI _ _ _) .nil))))) (.cons rfl (by kernel_rfl) (.cons rfl (vH _ _) (.cons rfl (by kernel_rfl) (.cons rfl (by kernel_rfl) (.cons rfl (vI _ _ _) .nil))))) (by repeat first | exact .nil | refine .hid rfl ?_ | refine .none ?_ | refine .dat ?_ | refine .map ?_ | refine .cells (by kernel_rfl) ?_) (by repeat first | exact .nil | refine .dat ?_ | refine .map ?_ | refine .cells (by kernel_rfl) ?_)<|wE (yF uR k)<|wT (hc:=nP (yE _ _ _)) (fF uN k ((gD ((kA ((kA ((nD 4 i t k).1) (gA i t k) (sB i t k)).1) (gB i t k) (sA i t k)).1) ((kA ((nD 4 i t k).1) (gA i t k) (sB i t k)).2) ((kA ((kA ((nD 4 i t k).1) (gA i t k) (sB i t k)).1) (gB i t k) (sA i t k)).2)).2))<|wZ) ?_
           exact met ((gD ((kA ((kA ((nD 4 i t k).1) (gA i t k) (sB i t k)).1) (gB i t k) (sA i t k)).1) ((kA ((nD 4 i t k).1) (gA i t k) (sB i t k)).2) ((kA ((kA ((nD 4 i t k).1) (gA i t k) (sB i t k)).1) (gB i t k) (sA i t k)).2)).1,O.set k ((nD 4 i t k).2),((Q.set k gQ.2).set k ((gD ((kA ((kA ((nD 4 i t k).1) (gA i t k) (sB i t k)).1) (gB i t k) (sA i t k)).1) ((kA ((nD 4 i t k).1) (gA i t k) (sB i t k)).2) ((kA ((kA ((nD 4 i t k).1) (gA i t k) (sB i t k)).1) (gB i t k) (sA i t k)).2)).2))) wk (hL.put2 hkl (dNd_4 hop))
          ·replace h12:=ne_of_beq_false h12
           have hop:5=(t.getD k tz).op:=by have e0:=hP.op0;have e7:=hP.op7;omega
           have hk1:0<qB (t.getD k tz).op:=by rw[<- hop];decide
           have ha2:(t.getD k tz).a.toNat<k:=by have:=hP.ord.1 hk1;omega
           have ha3:0<=(t.getD k tz).a:=(hP.ord.1 hk1).1
           have hk2:1<qB (t.getD k tz).op:=by rw[<- hop];decide
           have hb2:(t.getD k tz).b.toNat<k:=by have:=hP.ord.2 hk2;omega
           have hb3:0<=(t.getD k tz).b:=(hP.ord.2 hk2).1
           have v1:=nd2 hI.hB (o:=5) (by decide) (by decide) (hP.va hk1) (hP.vb hk2)
           have v2:=mH v1.1 v1.2.1 (v1.ix (hP.sb hk2))
           have v3:=oB v2.1 (v2.ix (v1.ix (hP.sa hk1))) v2.2.1
           refine jB<|kd [] ((cG ((nD 5 i t k).1))++[(5,some (bm jL (O.set k ((nD 5 i t k).2))))]) mo (wM<|wM<|wM<|wM<|wE (kK qN)<|wR (qH uN)<|wE (yF uR (((t.getD k tz).a).toNat))<|wR (yN (.val (.int .i64 ((O.getD (((t.getD k tz).a).toNat) 0)))) (.val (.int .i64 ((gA i t k)))) (fE uN (((t.getD k tz).a).toNat) (0:Int)) (by exact (congrArg (λz:Int=>jY.val (.int .i64 z)) (gI_a hL.hO ha2))))<|wM<|wE (kK vE)<|wR (qH uN)<|wE (yF uR (((t.getD k tz).b).toNat))<|wR (yN (.val (.int .i64 ((O.getD (((t.getD k tz).b).toNat) 0)))) (.val (.int .i64 ((gB i t k)))) (fE uN (((t.getD k tz).b).toNat) (0:Int)) (by exact (congrArg (λz:Int=>jY.val (.int .i64 z)) (gI_a hL.hO hb2))))<|wS [0,1,2,3,4] [1,2,3,4] (vi ((nD 5 i t k).2)) [(.ref 0 0),(kE 5),(vi (gA i t k)),(vi (gB i t k))] (cG ((dU i t k).1)) (cG ((nD 5 i t k).1)) (fA 5 (gA i t k) (gB i t k) ((dU i t k).1) hI.hB (.inr ⟨by decide,by decide,(hP.va hk1),(hP.vb hk2)⟩)) (.cons rfl (by kernel_rfl) (.cons rfl (vH _ _) (.cons rfl (by kernel_rfl) (.cons rfl (by kernel_rfl) (.cons rfl (vI _ _ _) .nil))))) (.cons rfl (by kernel_rfl) (.cons rfl (vH _ _) (.cons rfl (by kernel_rfl) (.cons rfl (by kernel_rfl) (.cons rfl (vI _ _ _) .nil))))) (by repeat first | exact .nil | refine .hid rfl ?_ | refine .none ?_ | refine .dat ?_ | refine .map ?_ | refine .cells (by kernel_rfl) ?_) (by repeat first | exact .nil | refine .dat ?_ | refine .map ?_ | refine .cells (by kernel_rfl) ?_)<|wE (yF uR k)<|wT (hc:=nP (yE _ _ _)) (fF uN k ((nD 5 i t k).2))<|wZ) ?_
           refine jB<|kd [(17,(vi ((qV ((kA ((nD 5 i t k).1) ((nD 5 i t k).2) (sB i t k)).1) (sA i t k) ((kA ((nD 5 i t k).1) ((nD 5 i t k).2) (sB i t k)).2)).2)))] (cG ((qV ((kA ((nD 5 i t k).1) ((nD 5 i t k).2) (sB i t k)).1) (sA i t k) ((kA ((nD 5 i t k).1) ((nD 5 i t k).2) (sB i t k)).2)).1)) mo (wM<|wM<|wE (kK qN)<|wR (qH uN)<|wE (yF uR (((t.getD k tz).a).toNat))<|wR (yN (.val (.int .i64 (((Q.set k gQ.2).getD (((t.getD k tz).a).toNat) 0)))) (.val (.int .i64 ((sA i t k)))) (fE uN (((t.getD k tz).a).toNat) (0:Int)) (by exact (congrArg (λz:Int=>jY.val (.int .i64 z)) (gI_s hL.hQ ha2))))<|wM<|wM<|wM<|wE (yF uR k)<|wR (yN (.val (.int .i64 (((O.set k ((nD 5 i t k).2)).getD k 0)))) (.val (.int .i64 ((nD 5 i t k).2))) (fE uN k (0:Int)) (by exact (congrArg (λz:Int=>jY.val (.int .i64 z)) (set_getD (by have:=hL.lO;omega)))))<|wM<|wE (kK vE)<|wR (qH uN)<|wE (yF uR (((t.getD k tz).b).toNat))<|wR (yN (.val (.int .i64 (((Q.set k gQ.2).getD (((t.getD k tz).b).toNat) 0)))) (.val (.int .i64 ((sB i t k)))) (fE uN (((t.getD k tz).b).toNat) (0:Int)) (by exact (congrArg (λz:Int=>jY.val (.int .i64 z)) (gI_s hL.hQ hb2))))<|wS [0,1,2,3,4] [1,2,3,4] (vi ((kA ((nD 5 i t k).1) ((nD 5 i t k).2) (sB i t k)).2)) [(.ref 0 0),(vi ((nD 5 i t k).2)),(vi (sB i t k))] (cG ((nD 5 i t k).1)) (cG ((kA ((nD 5 i t k).1) ((nD 5 i t k).2) (sB i t k)).1)) (e_prd ((nD 5 i t k).2) (sB i t k) ((nD 5 i t k).1) v1.1 v1.2.1 (v1.ix (hP.sb hk2))) (.cons rfl (by kernel_rfl) (.cons rfl (vH _ _) (.cons rfl (by kernel_rfl) (.cons rfl (by kernel_rfl) (.cons rfl (vI _ _ _) .nil))))) (.cons rfl (by kernel_rfl) (.cons rfl (vH _ _) (.cons rfl (by kernel_rfl) (.cons rfl (by kernel_rfl) (.cons rfl (vI _ _ _) .nil))))) (by repeat first | exact .nil | refine .hid rfl ?_ | refine .none ?_ | refine .dat ?_ | refine .map ?_ | refine .cells (by kernel_rfl) ?_) (by repeat first | exact .nil | refine .dat ?_ | refine .map ?_ | refine .cells (by kernel_rfl) ?_)<|wS [0,1,2,3,4] [1,2,3,4] (vi ((qV ((kA ((nD 5 i t k).1) ((nD 5 i t k).2) (sB i t k)).1) (sA i t k) ((kA ((nD 5 i t k).1) ((nD 5 i t k).2) (sB i t k)).2)).2)) [(.ref 0 0),(vi (sA i t k)),(vi ((kA ((nD 5 i t k).1) ((nD 5 i t k).2) (sB i t k)).2))] (cG ((kA ((nD 5 i t k).1) ((nD 5 i t k).2) (sB i t k)).1)) (cG ((qV ((kA ((nD 5 i t k).1) ((nD 5 i t k).2) (sB i t k)).1) (sA i t k) ((kA ((nD 5 i t k).1) ((nD 5 i t k).2) (sB i t k)).2)).1)) (e_dif (sA i t k) ((kA ((nD 5 i t k).1) ((nD 5 i t k).2) (sB i t k)).2) ((kA ((nD 5 i t k).1) ((nD 5 i t k).2) (sB i t k)).1) v2.1 (v2.ix (v1.ix (hP.sa hk1))) v2.2.1) (.cons rfl (by kernel_rfl) (.cons rfl (vH _ _) (.cons rfl (by kernel_rfl) (.cons rfl (by kernel_rfl) (.cons rfl (vI _ _ _) .nil))))) (.cons rfl (by kernel_rfl) (.cons rfl (vH _ _) (.cons rfl (by kernel_rfl) (.cons rfl (by kernel_rfl) (.cons rfl (vI _ _ _) .nil))))) (by repeat first | exact .nil | refine .hid rfl ?_ | refine .none ?_ | refine .dat ?_ | refine .map ?_ | refine .cells (by kernel_rfl) ?_) (by repeat first | exact .nil | refine .dat ?_ | refine .map ?_ | refine .cells (by kernel_rfl) ?_)<|wM<|wZ) ?_
           refine jB<|kf [(92,(vb (bIs ((qV ((kA ((nD 5 i t k).1) ((nD 5 i t k).2) (sB i t k)).1) (sA i t k) ((kA ((nD 5 i t k).1) ((nD 5 i t k).2) (sB i t k)).2)).1) ((qV ((kA ((nD 5 i t k).1) ((nD 5 i t k).2) (sB i t k)).1) (sA i t k) ((kA ((nD 5 i t k).1) ((nD 5 i t k).2) (sB i t k)).2)).2) 0)))] (cG ((qV ((kA ((nD 5 i t k).1) ((nD 5 i t k).2) (sB i t k)).1) (sA i t k) ((kA ((nD 5 i t k).1) ((nD 5 i t k).2) (sB i t k)).2)).1)) (zM<|zM<|zSe (B2:=(cG ((qV ((kA ((nD 5 i t k).1) ((nD 5 i t k).2) (sB i t k)).1) (sA i t k) ((kA ((nD 5 i t k).1) ((nD 5 i t k).2) (sB i t k)).2)).1))) (B2':=(cG ((qV ((kA ((nD 5 i t k).1) ((nD 5 i t k).2) (sB i t k)).1) (sA i t k) ((kA ((nD 5 i t k).1) ((nD 5 i t k).2) (sB i t k)).2)).1))) [0,1,2,3,4] [0] (e_is ((qV ((kA ((nD 5 i t k).1) ((nD 5 i t k).2) (sB i t k)).1) (sA i t k) ((kA ((nD 5 i t k).1) ((nD 5 i t k).2) (sB i t k)).2)).2) 0 ((qV ((kA ((nD 5 i t k).1) ((nD 5 i t k).2) (sB i t k)).1) (sA i t k) ((kA ((nD 5 i t k).1) ((nD 5 i t k).2) (sB i t k)).2)).1) v3.1 v3.2.1 (by omega) (by omega))<|zF) ?_
           refine jD rfl (λh13=>?_) (λh13=>?_)
           ·refine kx [] [(6,some (bm jL ((Q.set k gQ.2).set k gQ.2)))] (zM<|zM<|zM<|zE (yF uR k)<|zT (fF uN k gQ.2)<|zZ) ?_
            exact met ((qV ((kA ((nD 5 i t k).1) ((nD 5 i t k).2) (sB i t k)).1) (sA i t k) ((kA ((nD 5 i t k).1) ((nD 5 i t k).2) (sB i t k)).2)).1,O.set k ((nD 5 i t k).2),((Q.set k gQ.2).set k gQ.2)) wk (hL.put2 hkl (dNd_5z hop h13))
           ·have v4:=nd2 v3.1 (o:=5) (by decide) (by decide) v3.2.1 (v3.ix (v2.ix (v1.ix (hP.vb hk2))))
            refine kf [] ((cG ((jK ((qV ((kA ((nD 5 i t k).1) ((nD 5 i t k).2) (sB i t k)).1) (sA i t k) ((kA ((nD 5 i t k).1) ((nD 5 i t k).2) (sB i t k)).2)).1) 5 ((qV ((kA ((nD 5 i t k).1) ((nD 5 i t k).2) (sB i t k)).1) (sA i t k) ((kA ((nD 5 i t k).1) ((nD 5 i t k).2) (sB i t k)).2)).2) (gB i t k)).1))++[(6,some (bm jL ((Q.set k gQ.2).set k ((jK ((qV ((kA ((nD 5 i t k).1) ((nD 5 i t k).2) (sB i t k)).1) (sA i t k) ((kA ((nD 5 i t k).1) ((nD 5 i t k).2) (sB i t k)).2)).1) 5 ((qV ((kA ((nD 5 i t k).1) ((nD 5 i t k).2) (sB i t k)).1) (sA i t k) ((kA ((nD 5 i t k).1) ((nD 5 i t k).2) (sB i t k)).2)).2) (gB i t k)).2))))]) (zM<|zM<|zM<|zM<|zM<|zE (kK vE)<|zR (qH uN)<|zE (yF uR (((t.getD k tz).b).toNat))<|zR (yN (.val (.int .i64 (((O.set k ((nD 5 i t k).2)).getD (((t.getD k tz).b).toNat) 0)))) (.val (.int .i64 ((gB i t k)))) (fE uN (((t.getD k tz).b).toNat) (0:Int)) (by exact (congrArg (λz:Int=>jY.val (.int .i64 z)) (gI_s hL.hO hb2))))<|zSe (B2:=(cG ((qV ((kA ((nD 5 i t k).1) ((nD 5 i t k).2) (sB i t k)).1) (sA i t k) ((kA ((nD 5 i t k).1) ((nD 5 i t k).2) (sB i t k)).2)).1))) (B2':=(cG ((jK ((qV ((kA ((nD 5 i t k).1) ((nD 5 i t k).2) (sB i t k)).1) (sA i t k) ((kA ((nD 5 i t k).1) ((nD 5 i t k).2) (sB i t k)).2)).1) 5 ((qV ((kA ((nD 5 i t k).1) ((nD 5 i t k).2) (sB i t k)).1) (sA i t k) ((kA ((nD 5 i t k).1) ((nD 5 i t k).2) (sB i t k)).2)).2) (gB i t k)).1))) [0,1,2,3,4] [0] (fA 5 ((qV ((kA ((nD 5 i t k).1) ((nD 5 i t k).2) (sB i t k)).1) (sA i t k) ((kA ((nD 5 i t k).1) ((nD 5 i t k).2) (sB i t k)).2)).2) (gB i t k) ((qV ((kA ((nD 5 i t k).1) ((nD 5 i t k).2) (sB i t k)).1) (sA i t k) ((kA ((nD 5 i t k).1) ((nD 5 i t k).2) (sB i t k)).2)).1) v3.1 (.inr ⟨by decide,by decide,v3.2.1,(v3.ix (v2.ix (v1.ix (hP.vb hk2))))⟩))<|zE (yF uR k)<|zT (fF uN k ((jK ((qV ((kA ((nD 5 i t k).1) ((nD 5 i t k).2) (sB i t k)).1) (sA i t k) ((kA ((nD 5 i t k).1) ((nD 5 i t k).2) (sB i t k)).2)).1) 5 ((qV ((kA ((nD 5 i t k).1) ((nD 5 i t k).2) (sB i t k)).1) (sA i t k) ((kA ((nD 5 i t k).1) ((nD 5 i t k).2) (sB i t k)).2)).2) (gB i t k)).2))<|zF) ?_
            exact met ((jK ((qV ((kA ((nD 5 i t k).1) ((nD 5 i t k).2) (sB i t k)).1) (sA i t k) ((kA ((nD 5 i t k).1) ((nD 5 i t k).2) (sB i t k)).2)).1) 5 ((qV ((kA ((nD 5 i t k).1) ((nD 5 i t k).2) (sB i t k)).1) (sA i t k) ((kA ((nD 5 i t k).1) ((nD 5 i t k).2) (sB i t k)).2)).2) (gB i t k)).1,O.set k ((nD 5 i t k).2),((Q.set k gQ.2).set k ((jK ((qV ((kA ((nD 5 i t k).1) ((nD 5 i t k).2) (sB i t k)).1) (sA i t k) ((kA ((nD 5 i t k).1) ((nD 5 i t k).2) (sB i t k)).2)).1) 5 ((qV ((kA ((nD 5 i t k).1) ((nD 5 i t k).2) (sB i t k)).1) (sA i t k) ((kA ((nD 5 i t k).1) ((nD 5 i t k).2) (sB i t k)).2)).2) (gB i t k)).2))) wk (hL.put2 hkl (dNd_5 hop h13))
   ·rintro ⟨B2,O2,Q2⟩ ⟨hB2,hL2⟩
    subst hB2
    dsimp only at *
    refine jB<|kx [(310,(vb (((dU i t (k+1)).1).ov)))] [] (zM<|zE oNc<|zE (kK fo103_4)<|zR (qH aT)<|zZ) ?_
    refine jD (b:=((dU i t (k+1)).1).ov) rfl (λh14=>?_) (λh14=>?_)
    ·refine jB<|kx [(6,(vl 72 7 jN [])),(7,(kE 3))] [] (zE (aN 72 7)<|zM<|zZ) ?_
     refine jE ⟨_,(.tmp (d:=(.sl 72 7 (map jN []))) rfl (.tmp (d:=(.val (.int .i64 (3)))) rfl .nil)),?_⟩
     rw[(dOv_t hkl h14).1,(dOv_t hkl h14).2];rfl
    ·refine jF<|kx [(46,(kE (k+1)))] [] (zE (xO (k+1))<|zM<|zZ) ?_
     exact ⟨(k+1,O2,Q2),wk,⟨by omega,hL2,λj hj=>by rcases Nat.lt_or_ge j k with h9 | h9;exact hov j h9;obtain rfl:j=k:=(by dsimp only at hj;omega);exact h14⟩,(by first|omega|(dsimp only;omega))⟩
  ·replace h3:=vT h3
   have hke:k=t.length:=by omega
   have hI:=dInv (i:=i) h0c ht k hk
   have hlO:=hL.lO
   have hlQ:=hL.lQ
   have hbl:=hI.hB.hl
   have hlst:=dlast_lt hI (by omega)
   refine kO<|jB<|kS (bX (j:=0) (k:=1) (pre:=[]) (post:=[(.mp 2),(.mp 3),(.own 4 3 1 (((dU i t k).1).us.length)),(vb (((dU i t k).1).ov))]) (es:=map jN (((dU i t k).1).tm)) rfl (by decide) rfl (gO _ _ (λ_=>rfl)) (vK _ _ rfl) (mA jN (((dU i t k).1).tm) (λ_=>rfl) rfl)) ?_
   refine kS (wk (l:=[(0,(vl 72 7 jN t)),(2,(kE i)),(9,(.ref 0 0)),(10,(vi gQ.2)),(11,(vi dOn.2)),(12,(.own 5 3 1 t.length)),(13,(.own 6 3 1 t.length)),(44,(vl 72 7 jN t)),(45,(kE t.length)),(46,(kE k)),(47,(vb (decide (((k:Nat):Int)<((t.length:Nat):Int)))))]) (b:=[(0,some [(vl 72 7 jN (((dU i t k).1).tm)),(.mp 2),(.mp 3),(.own 4 3 1 (((dU i t k).1).us.length)),(vb (((dU i t k).1).ov))]),(2,some [.mo (vG mS vZ (((dU i t k).1).kn))]),(3,some [.mo (vG mY vZ (((dU i t k).1).os))]),(4,some (bm jL (((dU i t k).1).us))),(5,some (bm jL O)),(6,some (bm jL Q))])) ?_
   refine kd [(6,(vl 72 7 jN (yY (((dU i t k).1).tm) ((gI (dU i t k).2.2 (((k:Nat):Int)-1)).toNat)))),(7,(kE 0))] [] mo (wM<|wE oNc<|wE (kK aR)<|wR (qH sh23)<|wM<|wM<|wE (yA zY)<|wE (oSb (t.length-1))<|wE (yF uR (t.length-1))<|wR (yN (.val (.int .i64 ((Q.getD (t.length-1) 0)))) (.val (.int .i64 ((((gI (dU i t k).2.2 (((k:Nat):Int)-1)).toNat:Nat):Int)))) (fE uN (t.length-1) (0:Int)) (by exact (congrArg (λz:Int=>jY.val (.int .i64 z)) (dlast hL hI hke (by omega)))))<|wE (kB (p_trim (((dU i t k).1).tm) ((gI (dU i t k).2.2 (((k:Nat):Int)-1)).toNat) (by omega) (by omega) hI.hB.ho))<|wM<|wM<|wZ) ?_
   refine jE ⟨_,(.tmp (d:=(.sl 72 7 (map jN (yY (((dU i t k).1).tm) ((gI (dU i t k).2.2 (((k:Nat):Int)-1)).toNat))))) rfl (.tmp (d:=(.val (.int .i64 (0)))) rfl .nil)),?_⟩
   rw[(dOv_f hke hov).1,(dOv_f hke hov).2];rfl
end Go.Proofs.YtckccjhflbljgaaGreatDoor
namespace Go.Fid
open List
inductive LOk (n:Nat):List kW->List Int->Prop
 |nil:LOk n [] []
 |cons {x:kW} {z:Int} {l:List kW} {zs:List Int} (h:dP x z n) (t:LOk n l zs):LOk n (x::l) (z::zs)
theorem iok_nilN(n:Nat):dP ⟨false,[]⟩ 0 n:=⟨by decide,Nat.zero_le _⟩
theorem LOk.len{n:Nat}{l:List kW}{zs:List Int}(h:LOk n l zs):l.length=zs.length:=by
 induction h with
 |nil=>rfl
 |cons h t ih=>simp [ih]
theorem LOk.get{n:Nat}{l:List kW}{zs:List Int}(h:LOk n l zs)(i:Nat):dP (l.getD i ⟨false,[]⟩) (zs.getD i 0) n:=by
 induction h generalizing i with
 |nil=>exact iok_nilN n
 |cons h t ih=>
  rcases i with _ | i
  ·exact h
  ·exact ih i
theorem LOk.all{n:Nat}{l:List kW}{zs:List Int}(h:LOk n l zs):∀ z∈zs,dE z<=n:=by
 induction h with
 |nil=>simp
 |cons h t ih=>
  intro z hz
  rcases mem_cons.1 hz with rfl | hz
  ·exact h.ln
  ·exact ih z hz
theorem LOk.up{m n:Nat}{l:List kW}{zs:List Int}(h:LOk m l zs)(hm:m<=n):LOk n l zs:=by
 induction h with
 |nil=>exact .nil
 |cons h t ih=>exact .cons (eZ h hm) ih
theorem LOk.map{n:Nat}{l:List kW}{zs:List Int}(h:LOk n l zs):l.map jV=zs:=by
 induction h with
 |nil=>rfl
 |cons h t ih=>rw[map_cons,ih,h.v]
theorem all_nil{l:List kW}(h:∀ x∈l,x=kW.mk false [])(i:Nat):l.getD i (kW.mk false [])=kW.mk false []:=by
 rw[List.getD]
 cases hj:l[i]? with
 |none=>rfl
 |some q=>exact h q (mem_of_getElem? hj)
end Go.Fid
namespace Go.Proofs.YtckccjhflbljgaaGreatDoor
open List Tryz
open Go.Fid
def RowOk(n:Nat)(l:List kY):Prop:=(∀ a∈l,yB a (qS a) n)/\l.length<=140737488355328
def vRow(l:List kY):Bool:=l.all kT
theorem qok_at{l:List kY}{n j:Nat}{d:kY}(h:∀ a∈l,yB a (qS a) n)(hj:j<l.length):yB (l.getD j d) (qS (l.getD j d)) n:=by
 rw[getD_eq_getElem?_getD,getElem?_eq_getElem hj];exact h _ (getElem_mem hj)
theorem row_up{n k:Nat}{l:List kY}(h:RowOk n l)(hk:n<=k:=by decide):RowOk k l:=⟨λa ha=>jO (h.1 a ha) hk,h.2⟩
theorem take_all{α:Type}{f:α->Bool}{l:List α}{i:Nat}{d:α}(h:i<l.length):(l.take (i+1)).all f=((l.take i).all f&&f (l.getD i d)):=by
 rw[getD_eq_getElem?_getD,getElem?_eq_getElem h,take_succ_eq_append_getElem h,all_append]
 simp
structure MRect (m:List (List kY)) (r c:Nat):Prop where
 hr:m.length=r
 hc:∀ l∈m,l.length=c/\vRow l=true
 r1:1<=r
 r64:r<=64
 c1:1<=c
 c64:c<=64
theorem MRect.at{m:List (List kY)}{r c:Nat}(h:MRect m r c){i:Nat}(hi:i<r):(m.getD i []).length=c/\vRow (m.getD i [])=true:=by
 have:=h.hr
 rw[getD_eq_getElem?_getD,getElem?_eq_getElem (by omega)];exact h.hc _ (getElem_mem _)
theorem MRect.le{m:List (List kY)}{r c:Nat}(h:MRect m r c):∀ l∈m,l.length<=64:=λl hl=>by
 have h1:=(h.hc l hl).1
 have h2:=h.c64
 omega
theorem cH{xs:List Rat}{n:Nat}(h:∀ q∈xs,QL q n)(h1:1<=n)(j:Nat):QL (xs.getD j 0) n:=by
 rcases Nat.lt_or_ge j xs.length with hj | hj
 ·rw[getD_eq_getElem?_getD,getElem?_eq_getElem hj];exact h _ (getElem_mem _)
 ·rw[getD_eq_getElem?_getD,getElem?_eq_none (by omega)];exact uG cY h1
theorem pts_row{xs:List Rat}{n:Nat}(h:∀ q∈xs,QL q n)(hl:xs.length<=1000000):RowOk n (map jM xs):=by
 refine ⟨λa ha=>?_,by rw[length_map];omega⟩
 obtain ⟨q,hq,rfl⟩:=mem_map.1 ha
 rw[vY];exact jZ (h q hq)
theorem mapt_step{α β:Type}{f:α->β}{l:List α}{d:α}{i:Nat}(h:i<l.length):(l.take i).map f++[f (l.getD i d)]=(l.take (i+1)).map f:=by
 rw[take_succ_eq_append_getElem h,map_append,getD_eq_getElem?_getD,getElem?_eq_getElem h];rfl
end Go.Proofs.YtckccjhflbljgaaGreatDoor
namespace Go.Fid
open List
theorem zeroR_uns(x:kY):zeroR x=unsB x:=rfl
def unuB(x:jS):Bool:=if x.op=0 then (((x.a != 0)||(x.b != 0))||!(kT x.n)) else ((decide (qB x.op<0)||(decide (qB x.op<2)&&(x.b != 0)))||!(zeroR x.n))
theorem unu_iff{x:jS}:unuB x=true↔dI x:=by
 unfold unuB dI
 by_cases h:x.op=0
 ·rw[if_pos h,h]
  simp only[Bool.or_eq_true,bne_iff_ne,Bool.not_eq_true',ne_eq,not_true_eq_false,false_and,or_false,true_and,show qB 0=0 by decide]
  constructor
  ·rintro ((h1 | h1) | h1)
   ·exact .inr (.inr (.inl h1))
   ·exact .inr (.inl ⟨by decide,h1⟩)
   ·exact .inr (.inr (.inr h1))
  ·rintro (h1 | ⟨_,h1⟩ | h1 | h1)
   ·exact absurd h1 (by decide)
   ·exact .inl (.inr h1)
   ·exact .inl (.inl h1)
   ·exact .inr h1
 ·rw[if_neg h]
  simp only[Bool.or_eq_true,Bool.and_eq_true,decide_eq_true_eq,bne_iff_ne,Bool.not_eq_true',ne_eq,h,not_false_eq_true,false_and,false_or,true_and,zeroR_uns]
  exact or_assoc
theorem unu_bad(x:jS):unuB x=badB x:=by
 cases h:unuB x with
 |true=>exact (iH.2 (unu_iff.1 h)).symm
 |false=>
  cases h2:badB x with
  |false=>rfl
  |true=>rw[unu_iff.2 (iH.1 h2)] at h;cases h
def orD(k:Int)(x:jS):Bool:=((decide (1<=qB x.op)&&(decide (x.a<0)||decide (k<=x.a)))||((qB x.op == 2)&&(decide (x.b<0)||decide (k<=x.b))))
theorem orD_eq(k:Int)(x:jS):orD k x=ordB k x:=by
 unfold orD ordB
 rcases vJ x.op with ⟨e,_⟩ | ⟨e,_⟩ | ⟨e,_⟩ | ⟨e,_⟩<;>rw[e]<;>rfl
theorem NdR.a2{z:Int}{t:List jS}{k:Nat}(h:NdR z t k)(h0:1<=qB (t.getD k tz).op):0<=(t.getD k tz).a/\(t.getD k tz).a.toNat<k/\1<=(gM t k).getD (t.getD k tz).a.toNat 0/\(gM t k).getD (t.getD k tz).a.toNat 0<=4096:=by
 have h2:=h.ord
 unfold eA at h2
 have ha:(t.getD k tz).a.toNat<k:=by omega
 exact ⟨by omega,ha,sz_rng h.tm.up _ ha⟩
theorem NdR.b2{z:Int}{t:List jS}{k:Nat}(h:NdR z t k)(h0:qB (t.getD k tz).op=2):0<=(t.getD k tz).b/\(t.getD k tz).b.toNat<k/\1<=(gM t k).getD (t.getD k tz).b.toNat 0/\(gM t k).getD (t.getD k tz).b.toNat 0<=4096:=by
 have h2:=h.ord
 unfold eA at h2
 have ha:(t.getD k tz).b.toNat<k:=by omega
 exact ⟨by omega,ha,sz_rng h.tm.up _ ha⟩
theorem NdR.nx{z:Int}{t:List jS}{k:Nat}(h:NdR z t k){v:Int}(hv:v=mP (gM t k) (t.getD k tz))(hb:¬ 4096<v):bN z t (k+1)/\gM t k++[v]=gM t (k+1):=by
 rw[hv] at hb
 exact ⟨szUp_s h.tm.up (nd_y h.bad (by rw[xE];exact h.ord) h.rng hb),by rw[hv];rfl⟩
theorem NdR.bg{z:Int}{t:List jS}{k:Nat}(h:NdR z t k){v:Int}(hv:v=mP (gM t k) (t.getD k tz))(hb:4096<v):yT z t=3/\tmL z t=[]:=by
 rw[hv] at hb
 have e:=nd_3 (z:=z) (ss:=gM t k) h.bad (by rw[xE];exact h.ord) h.rng hb
 have:=tm_no h.tm.z0 h.tm.kl h.tm.tl h.tm.up (by rw[e];decide)
 rwa [e] at this
theorem kd_7{o:Int}(h:o=7):qB o=1:=by rw[h];decide
theorem szD_c{ss:List Int}{x:jS}(hb:¬ dI x)(h:¬ 1<=qB x.op):(1:Int)=mP ss x:=szN_c (by unfold dI at hb;omega)
theorem szD_n{ss:List Int}{x:jS}(h:1<=qB x.op)(h7:x.op≠7)(h2:qB x.op≠2):ss.getD x.a.toNat 0=mP ss x:=szN_n (by omega) (by rcases vJ x.op with ⟨e,f⟩ | ⟨e,f⟩ | ⟨e,f⟩ | ⟨e,f⟩<;>omega) rfl
theorem szD_q{ss:List Int}{x:jS}(h:1<=qB x.op)(h7:x.op=7):2*ss.getD x.a.toNat 0=mP ss x:=szN_q (by omega) h7 rfl
theorem szD_b{ss:List Int}{x:jS}(h2:qB x.op=2):ss.getD x.a.toNat 0+ss.getD x.b.toNat 0=mP ss x:=szN_b (by omega) (by intro h;rw[h] at h2;revert h2;decide) (by intro h;rw[h] at h2;revert h2;decide) rfl rfl
theorem szD_all{ss:List Int}{x:jS}(hb:¬ dI x){v w:Int}(h1:(¬ 1<=qB x.op->v=1)/\(1<=qB x.op->v=ss.getD x.a.toNat 0))(h2:(x.op=7->w=2*v)/\(x.op≠7->w=v)) :
  (qB x.op=2->w+ss.getD x.b.toNat 0=mP ss x)/\(qB x.op≠2->w=mP ss x):=by
 refine ⟨λhk=>?_,λhk=>?_⟩
 ·rw[h2.2 (λe=>by have:=kd_7 e;omega),h1.2 (by omega)];exact szD_b hk
 ·by_cases h7:x.op=7
  ·have:=kd_7 h7
   rw[h2.1 h7,h1.2 (by omega)];exact szD_q (by omega) h7
  ·rw[h2.2 h7]
   by_cases hk1:1<=qB x.op
   ·rw[h1.2 hk1];exact szD_n hk1 h7 hk
   ·rw[h1.1 hk1];exact szD_c hb hk1
theorem tm_end2{z:Int}{t:List jS}{k:Nat}(h:(decide (z<0)||decide (64<z))=false)(h0:((t.length:Nat):Int)≠0)(h4:¬ 400<((t.length:Nat):Int))(hk:k<=t.length)(h5:¬ ((k:Nat):Int)<((t.length:Nat):Int))(hu:bN z t k):yT z t=0/\tmL z t=gM t k:=by
 obtain rfl:k=t.length:=by omega
 exact tm_yes (zb_f h) (by omega) (by omega) hu
theorem vV_0{xs L:List Rat}{x:jS}(h:x.op=0):vV xs L x=qS x.n:=by unfold vV;simp [h]
theorem vV_1{xs L:List Rat}{x:jS}(h:x.op=1):vV xs L x=xs.getD x.a.toNat 0:=by unfold vV;simp [h]
theorem vV_2{xs L:List Rat}{x:jS}(h:x.op=2):vV xs L x=L.getD x.a.toNat 0+L.getD x.b.toNat 0:=by unfold vV;simp [h]
theorem vV_3{xs L:List Rat}{x:jS}(h:x.op=3):vV xs L x=L.getD x.a.toNat 0-L.getD x.b.toNat 0:=by unfold vV;simp [h]
theorem vV_4{xs L:List Rat}{x:jS}(h:x.op=4):vV xs L x=L.getD x.a.toNat 0*L.getD x.b.toNat 0:=by unfold vV;simp [h]
theorem vV_6{xs L:List Rat}{x:jS}(h:x.op=6):vV xs L x=-(L.getD x.a.toNat 0):=by unfold vV;simp [h]
theorem vV_7{xs L:List Rat}{x:jS}(h:x.op=7):vV xs L x=L.getD x.a.toNat 0*L.getD x.a.toNat 0:=by unfold vV;simp [h]
theorem vV_5{xs L:List Rat}{x:jS}(h:x.op=5):vV xs L x=L.getD x.a.toNat 0 / L.getD x.b.toNat 0:=by unfold vV;simp [h]
theorem nd_at{z:Int}{t:List jS}{k:Nat}(h:yT z t=0)(hk:k<t.length):NdR z t k:=by
 have h0:=dF h
 obtain ⟨h1,h2,h3,_⟩:=nd_0 (h0.2.2.2.2 k hk)
 rw[xE] at h2
 exact ⟨⟨by omega,hk,by omega,λi hi=>h0.2.2.2.2 i (by omega)⟩,h1,h2,h3⟩
theorem NdR.var{z:Int}{t:List jS}{k:Nat}(h:NdR z t k)(h1:(t.getD k tz).op=1):0<=(t.getD k tz).a/\(t.getD k tz).a<z:=by
 have:=h.rng
 unfold rngN at this
 omega
theorem NdR.con{z:Int}{t:List jS}{k:Nat}(h:NdR z t k)(h1:(t.getD k tz).op=0):kT (t.getD k tz).n=true:=by
 have:=h.bad
 unfold dI at this
 cases hv:kT (t.getD k tz).n with
 |true=>rfl
 |false=>exact absurd (.inr (.inr (.inl ⟨h1,.inr hv⟩))) this
theorem NdR.op{z:Int}{t:List jS}{k:Nat}(h:NdR z t k):(t.getD k tz).op=0\/(t.getD k tz).op=1\/(t.getD k tz).op=2\/(t.getD k tz).op=3\/(t.getD k tz).op=4\/(t.getD k tz).op=5\/(t.getD k tz).op=6\/(t.getD k tz).op=7:=by
 have:=h.kd
 rcases vJ (t.getD k tz).op with ⟨e,f⟩ | ⟨e,f⟩ | ⟨e,f⟩ | ⟨e,f⟩<;>omega
theorem NdR.bin{z:Int}{t:List jS}{k:Nat}(h:NdR z t k)(h1:(t.getD k tz).op=2\/(t.getD k tz).op=3\/(t.getD k tz).op=4\/(t.getD k tz).op=5):(0<=(t.getD k tz).a/\(t.getD k tz).a<k)/\0<=(t.getD k tz).b/\(t.getD k tz).b<k:=by
 have e:qB (t.getD k tz).op=2:=by rcases h1 with h1 | h1 | h1 | h1<;>rw[h1]<;>decide
 have a:=h.a2 (by omega)
 have b:=h.b2 e
 omega
theorem NdR.un{z:Int}{t:List jS}{k:Nat}(h:NdR z t k)(h1:(t.getD k tz).op=6\/(t.getD k tz).op=7):0<=(t.getD k tz).a/\(t.getD k tz).a<k:=by
 have e:qB (t.getD k tz).op=1:=by rcases h1 with h1 | h1<;>rw[h1]<;>decide
 have a:=h.a2 (by omega)
 omega
theorem vU_nx{xs:List Rat}{t:List jS}{k:Nat}{v:Rat}(h:vV xs (vU xs t k) (t.getD k tz)=v):map jM (vU xs t k)++[jM v]=map jM (vU xs t (k+1)):=by
 rw[vU,map_append,h];rfl
theorem vU_nc{xs:List Rat}{t:List jS}{k:Nat}(h:vV xs (vU xs t k) (t.getD k tz)=qS (t.getD k tz).n)(hv:kT (t.getD k tz).n=true):map jM (vU xs t k)++[(t.getD k tz).n]=map jM (vU xs t (k+1)):=by
 rw[vU,map_append,h,map_singleton,ofQ_toQ hv]
structure VEnd (xs:List Rat) (t:List jS) (k0:Nat):Prop where
 c0:yT ((xs.length:Nat):Int) t=0
 hk:k0<=t.length
 up:VUp xs t k0
 en:k0<t.length->(t.getD k0 tz).op=5/\(vU xs t k0).getD (t.getD k0 tz).b.toNat 0=0
theorem VRun.fin{xs:List Rat}{t:List jS}(h:VRun xs t):VEnd xs t t.length:=⟨h.c0,Nat.le_refl _,h.up,λh=>absurd h (Nat.lt_irrefl _)⟩
theorem VFail.fin{xs:List Rat}{t:List jS}{k:Nat}(h:VFail xs t k):VEnd xs t k:=⟨h.c0,Nat.le_of_lt h.hk,h.up,λ_=>⟨h.op,h.z⟩⟩
def vlR(xs:List Rat)(t:List jS)(k:Nat):kY:=if k=t.length then jM (uJ xs t) else zr
def vlC(t:List jS)(k:Nat):Int:=if k=t.length then ((0:Nat):Int) else ((14:Nat):Int)
theorem vlR_y{xs:List Rat}{t:List jS}:vlR xs t t.length=jM (uJ xs t):=if_pos rfl
theorem vlC_y{t:List jS}:vlC t t.length=((0:Nat):Int):=if_pos rfl
theorem VEnd.no2{xs:List Rat}{t:List jS}{k:Nat}(h:VEnd xs t k)(hk:k<t.length):vlR xs t k=zr/\vlC t k=((14:Nat):Int):=⟨if_neg (by omega),if_neg (by omega)⟩
theorem VEnd.eq{xs:List Rat}{t:List jS}{k0 k:Nat}(h:VEnd xs t k0)(hk:k<=k0)(hn:decide (k<k0)=false):k0=k:=by
 have:=of_decide_eq_false hn
 omega
theorem VEnd.at{xs:List Rat}{t:List jS}{k0 k:Nat}(h:VEnd xs t k0)(hk:k<=k0)(hl:k<t.length)(hn:decide (k<k0)=false):(vU xs t k).getD (t.getD k tz).b.toNat 0=0:=by
 have e:=h.eq hk hn
 subst e
 exact (h.en hl).2
theorem VEnd.no{xs:List Rat}{t:List jS}{k0 k:Nat}(h:VEnd xs t k0)(hk:k<=k0)(hl:k<t.length)(hn:decide (k<k0)=false):vlR xs t k0=zr/\vlC t k0=((14:Nat):Int):=by
 have e:=h.eq hk hn
 subst e
 exact h.no2 hl
theorem VEnd.lt{xs:List Rat}{t:List jS}{k0 k:Nat}(h:VEnd xs t k0)(hk:k<=k0)(hl:k<t.length)(ho:(t.getD k tz).op≠5):k<k0:=by
 rcases Nat.lt_or_ge k k0 with h1 | h1
 ·exact h1
 ·obtain rfl:k=k0:=by omega
  exact absurd (h.en hl).1 ho
structure CrLaw (xs:List Rat) (ls:List (List Int)) (n:Nat):Prop where
 ok:CrOk ls n
 hx:∀ q∈xs,QL q 3
 hl:xs.length=9
 hb:∀ a∈ls,∀ z∈a,¬ (8<z/\z<64)
theorem CrLaw.le{xs:List Rat}{ls:List (List Int)}{n:Nat}(h:CrLaw xs ls n){a:List Int}(ha:a∈ls):okL ((xs.length:Nat):Int) n a:=h.ok.le ha (h.hb a ha) (by rw[h.hl];rfl)
end Go.Fid
