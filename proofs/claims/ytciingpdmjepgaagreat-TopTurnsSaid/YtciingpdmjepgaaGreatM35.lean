/- Part 35 of a proof: rules, plain facts, and functions walked. -/
import Derived.Test.YtciingpdmjepgaaGreatM34
import Derived.Test.YtciingpdmjepgaaGreatM28
set_option linter.all false
set_option maxRecDepth 4000
namespace Go.Proofs.YtciingpdmjepgaaGreat
open Go.Fid
theorem by56:xD Tryz.prog 56=some 48:=by kernel_rfl
theorem pl56:mY Tryz.prog 56=some [(0,1),(1,1),(2,4)]:=by kernel_rfl
theorem r_rel(b:qW)(hT:∀ j,j<b.sts.length->mK (vW b j))(hn:b.sts.length<=10):jU Tryz.prog 6 [(kJ b)] (.tup [(.sl 56 6 (List.map kC (rlV (vW b) b.sts.length))),(.val (.bool ((rlB (vW b) b.sts.length))))]):=by
 refine vD Tryz.func6 ?_
 refine jA<|kx [(1,(.ref 0 0))] [(0,some (bx (kJ b)))] (zN (yB 0)<|zE (fH 56 6)<|zM<|zZ) ?_
 refine jA<|kx [(4,(.own 1 56 6 0))] [(1,some (xQ kC []))] (zO 1 56 6<|zZ) ?_
 refine jA<|jA<|kx [(13,(jN b.sts.length)),(14,(jN 0))] [] (zE (jY gL)<|zR (jZ sh22)<|zE (vV eI)<|zM<|zZ) ?_
 refine jH<|kF (α:=Nat × List jE) (fun (k,o)=>⟨[(1,(.ref 0 0)),(4,(.own 1 56 6 o.length)),(13,(jN b.sts.length)),(14,(jN k))],[(0,some (bx (kJ b))),(1,some (xQ kC o))]⟩) (fun (k,o)=>k<=b.sts.length/\o=vU (vW b) k/\∀ k2,k2<k->∀ i2,i2<k2->qC (edQ (vW b) i2 k2)=0) (fun (k,o)=>b.sts.length-k) (0,[]) wk ⟨Nat.zero_le _,rfl,fun k2 h2=>absurd h2 (Nat.not_lt_zero k2)⟩ ?_
 rintro ⟨k,o⟩ ⟨hk,ho,hq⟩
 have hol:o.length<=100:=by rw[ho];exact Nat.le_trans (rlI_len _ _) (Nat.mul_le_mul (show k<=10 by omega) (show k<=10 by omega))
 refine jA<|kx [(15,(vb (decide (((k:Nat):Int)<((b.sts.length:Nat):Int)))))] [] (zE uT<|zZ) ?_
 refine jA<|jF rfl (fun h1=>?_) (fun h1=>?_)
 ·replace h1:=uY h1
  have hTk:mK (b.sts.getD k (kM.mk (jM.mk 0 0 0) (jB.mk 0 0 0 0) 0 (qD.mk 0 0))).turn:=hT k (by omega)
  have hcz:=cM (yN hTk.1) (cI hTk)
  have hck:=cI hTk
  refine jD<|jA<|jH<|jA<|kx [(5,(jN k))] [] (zM<|zM<|zZ) ?_
  refine jA<|kx [(17,(jN k)),(18,(jN 0))] [] (zM<|zM<|zZ) ?_
  refine jH<|kF (α:=Nat × List jE) (fun (i,o2)=>⟨[(1,(.ref 0 0)),(4,(.own 1 56 6 o2.length)),(5,(jN k)),(13,(jN b.sts.length)),(14,(jN k)),(17,(jN k)),(18,(jN i))],[(0,some (bx (kJ b))),(1,some (xQ kC o2))]⟩) (fun (i,o2)=>i<=k/\o2=rlJ (vW b) k i/\∀ i2,i2<i->qC (edQ (vW b) i2 k)=0) (fun (i,o2)=>k-i) (0,o) wk ⟨Nat.zero_le _,by rw[ho,rlJ_0],fun i2 h2=>absurd h2 (Nat.not_lt_zero i2)⟩ ?_
  rintro ⟨i,o2⟩ ⟨hi,ho2,hq2⟩
  have hol2:o2.length<=110:=by rw[ho2];exact Nat.le_trans (rlJ_len _ _ _) (Nat.add_le_add (Nat.mul_le_mul (show k<=10 by omega) (show k<=10 by omega)) (show i<=10 by omega))
  refine jA<|kx [(19,(vb (decide (((i:Nat):Int)<((k:Nat):Int)))))] [] (zE uT<|zZ) ?_
  refine jA<|jF rfl (fun h2=>?_) (fun h2=>?_)
  ·replace h2:=uY h2
   have hTi:mK (b.sts.getD i (kM.mk (jM.mk 0 0 0) (jB.mk 0 0 0 0) 0 (qD.mk 0 0))).turn:=hT i (by omega)
   refine jD<|jA<|jH<|jA<|kx [(6,(jN i))] [] (zM<|zM<|zZ) ?_
   refine jA<|kx [(7,(.ref 2 0)),(8,(jN (qC (uK ((b.sts.getD k (kM.mk (jM.mk 0 0 0) (jB.mk 0 0 0 0) 0 (qD.mk 0 0))).turn)))))] [(2,some (bx (jI (qV (uK ((b.sts.getD k (kM.mk (jM.mk 0 0 0) (jB.mk 0 0 0 0) 0 (qD.mk 0 0))).turn))))))] (zE (jY gL)<|zR (jZ sh22)<|zM<|zE (nA eI k (kM.mk (jM.mk 0 0 0) (jB.mk 0 0 0 0) 0 (qD.mk 0 0)))<|zE (oFc cW)<|zE (oCa qQ)<|zE (kD (l_conj ((b.sts.getD k (kM.mk (jM.mk 0 0 0) (jB.mk 0 0 0 0) 0 (qD.mk 0 0))).turn) hTk))<|zM<|zE vF<|zE vF<|zH (vL 2 gK gS)<|zT (qO qQ)<|zM<|zZ) ?_
   refine jA<|kd [(9,(.ref 3 0)),(10,(jN (qC (jX (qV (uK ((b.sts.getD k (kM.mk (jM.mk 0 0 0) (jB.mk 0 0 0 0) 0 (qD.mk 0 0))).turn))) ((b.sts.getD i (kM.mk (jM.mk 0 0 0) (jB.mk 0 0 0 0) 0 (qD.mk 0 0))).turn)))))] [(3,some (bx (jI (qV (jX (qV (uK ((b.sts.getD k (kM.mk (jM.mk 0 0 0) (jB.mk 0 0 0 0) 0 (qD.mk 0 0))).turn))) ((b.sts.getD i (kM.mk (jM.mk 0 0 0) (jB.mk 0 0 0 0) 0 (qD.mk 0 0))).turn))))))] mo (wR (qE qQ)<|wE (jY gL)<|wR (jZ sh22)<|wM<|wE (nA eI i (kM.mk (jM.mk 0 0 0) (jB.mk 0 0 0 0) 0 (qD.mk 0 0)))<|wE (oFc cW)<|wE (oCa qQ)<|wE (kD (l_mul (qV (uK ((b.sts.getD k (kM.mk (jM.mk 0 0 0) (jB.mk 0 0 0 0) 0 (qD.mk 0 0))).turn))) ((b.sts.getD i (kM.mk (jM.mk 0 0 0) (jB.mk 0 0 0 0) 0 (qD.mk 0 0))).turn) hcz hTi))<|wM<|wE vF<|wE vF<|wH (hc:=by kernel_rfl) (vL 3 gK gS)<|wT (qO qQ)<|wM<|wZ) ?_
   refine jA<|jA<|kx [(47,(vb (false||((((qC (jX (qV (uK ((b.sts.getD k (kM.mk (jM.mk 0 0 0) (jB.mk 0 0 0 0) 0 (qD.mk 0 0))).turn))) ((b.sts.getD i (kM.mk (jM.mk 0 0 0) (jB.mk 0 0 0 0) 0 (qD.mk 0 0))).turn))):Nat):Int) != 0))))] [] (zM<|zE (gI false xX (by exact bne_eq_false_iff_eq.2 (by rw[show (qC (uK ((b.sts.getD k (kM.mk (jM.mk 0 0 0) (jB.mk 0 0 0 0) 0 (qD.mk 0 0))).turn)))=0 from hck]<;>rfl)))<|zM<|zM<|zE xX<|zE zG<|zZ) ?_
   refine jF rfl (fun h3=>?_) (fun h3=>?_)
   ·refine jA<|kx [(2,(vl 56 6 kC [])),(3,(vb false))] [] (zE (fH 56 6)<|zM<|zZ) ?_
    refine jG ⟨_,(.tmp (d:=(.sl 56 6 (List.map kC []))) rfl (.tmp (d:=(.val (.bool (false)))) rfl .nil)),?_⟩
    obtain ⟨q1,q2⟩:=rl_no (T:=vW b) (n:=b.sts.length) (i:=i) (k:=k) (by omega) (by omega) (fb_t (by exact h3))
    rw[q1,q2];rfl
   ·have hq3:qC (edQ (vW b) i k)=0:=fb_f (by exact h3)
    refine jD<|kf [(4,(.own 1 56 6 ((o2++[(jE.mk ((i:Nat):Int) ((k:Nat):Int) (qV (jX (qV (uK ((b.sts.getD k (kM.mk (jM.mk 0 0 0) (jB.mk 0 0 0 0) 0 (qD.mk 0 0))).turn))) ((b.sts.getD i (kM.mk (jM.mk 0 0 0) (jB.mk 0 0 0 0) 0 (qD.mk 0 0))).turn))))]).length)))] [(1,some (xQ kC (o2++[(jE.mk ((i:Nat):Int) ((k:Nat):Int) (qV (jX (qV (uK ((b.sts.getD k (kM.mk (jM.mk 0 0 0) (jB.mk 0 0 0 0) 0 (qD.mk 0 0))).turn))) ((b.sts.getD i (kM.mk (jM.mk 0 0 0) (jB.mk 0 0 0 0) 0 (qD.mk 0 0))).turn))))])))] (zM<|zM<|zM<|zR (qE qQ)<|zE (oBd pl56 ze56 zo56)<|zE (eG eF ze56 zo56)<|zAS kC o2 [(jE.mk ((i:Nat):Int) ((k:Nat):Int) (qV (jX (qV (uK ((b.sts.getD k (kM.mk (jM.mk 0 0 0) (jB.mk 0 0 0 0) 0 (qD.mk 0 0))).turn))) ((b.sts.getD i (kM.mk (jM.mk 0 0 0) (jB.mk 0 0 0 0) 0 (qD.mk 0 0))).turn))))] rfl eF ze56 by56<|zM<|zF) ?_
    refine kx [(18,(jN (i+1)))] [] (zE (uL (i+1))<|zM<|zZ) ?_
    exact ⟨(i+1,o2++[edT (vW b) i k]),wk,⟨by omega,by rw[ho2,<- rlJ_s],gO hq2 hq3⟩,(by first|omega|(dsimp only;omega))⟩
  ·replace h2:=uZ h2
   refine jS<|kx [(14,(jN (k+1)))] [] (zE (uL (k+1))<|zM<|zZ) ?_
   exact ⟨(k+1,o2),wk,⟨by omega,by rw[ho2,show i=k by omega];exact rlJ_k _ _,gO hq (fun i2 hi2=>hq2 i2 (by omega))⟩,(by first|omega|(dsimp only;omega))⟩
 ·replace h1:=uZ h1
  refine jS<|jA<|kU (xR (t:=4) (k:=1) (es:=List.map kC o) rfl rfl (nN _ _ (fun _=>rfl)) (vN _ _ rfl) (mN kC o (fun _=>rfl) rfl)) ?_
  refine kx [(2,(vl 56 6 kC o)),(3,(vb true))] [] (zM<|zM<|zM<|zZ) ?_
  refine jG ⟨_,(.tmp (d:=(.sl 56 6 (List.map kC o))) rfl (.tmp (d:=(.val (.bool (true)))) rfl .nil)),?_⟩
  obtain ⟨q1,q2⟩:=rl_yes (T:=vW b) (n:=b.sts.length) (fun k2 hk2 i2 hi2=>hq k2 (by omega) i2 hi2)
  rw[q1,q2,ho,show k=b.sts.length by omega];rfl
theorem by30:xD Tryz.prog 30=some 24:=by kernel_rfl
theorem by38:xD Tryz.prog 38=some 80:=by kernel_rfl
theorem pl26:mY Tryz.prog 26=some [(0,1),(1,1),(2,1),(3,1)]:=by kernel_rfl
theorem ze26:uO Tryz.prog 26=some [.int .i64 0,.slice none 0 0,.slice none 0 0,.slice none 0 0]:=by kernel_rfl
theorem zn26:nH [.int .i64 0,.slice none 0 0,.slice none 0 0,.slice none 0 0] [.val (.int .i64 0),.val (.slice none 0 0),.val (.slice none 0 0),.val (.slice none 0 0)]:=by simp [nH,Value.oneCell']
theorem zo26:nH [.int .i64 0,.slice none 0 0,.slice none 0 0,.slice none 0 0] [.val (.int .i64 0),.sl 38 10 [],.sl 30 3 [],.sl 68 7 []]:=by simp [nH,Value.oneCell']
theorem r_mv(b:qW)(q:jB)(sh:jM)(hbs:b.sts.length<=1000)(hbp:b.pts.length<=1000)(hbo:b.obs.length<=1000)(hT:∀ j,j<b.sts.length->mK (vW b j))(hA:∀ j,j<b.sts.length->spOk (b.sts.getD j cQ).at_)(hP:∀ j,j<b.pts.length->spOk (b.pts.getD j nP0))(hS:spOk sh):jU Tryz.prog 10 [(kJ b),(jI q),(kH sh)] (.tup [(kJ (mvR b q sh)),(.val (.int .i64 ((((mvC b q sh):Nat):Int))))]):=by
 refine vD Tryz.func10 ?_
 refine jA<|kx [(3,(.ref 0 0)),(4,(.ref 1 0)),(5,(.ref 2 0)),(6,(.ref 3 0))] [(0,some (bx (kJ b))),(1,some (bx (jI q))),(2,some (bx (kH sh))),(3,some (bx (kJ (qW.mk 0 [] [] []))))] (zN (yB 0)<|zN (yB 1)<|zN (yB 2)<|zN (vL 3 ze26 zo26)<|zM<|zZ) ?_
 refine jA<|jA<|kx [(8,(jN (ncC b)))] [] (zR (qE dB)<|zE (kD (n_nc b hbs hbp hbo))<|zM<|zZ) ?_
 refine jA<|kx [(26,(vb ((((ncC b):Nat):Int) != 0)))] [] (zM<|zE xX<|zZ) ?_
 refine jF (b:=((((ncC b):Nat):Int) != 0)) rfl (fun h1=>?_) (fun h1=>?_)
 ·replace h1:=bne_iff_ne.1 h1
  refine jA<|kx [(7,(jN (ncC b)))] [(3,some (bx (kJ (qW.mk 0 [] [] []))))] (zE (oBd pl26 ze26 zo26)<|zM<|zT (qO dB)<|zM<|zZ) ?_
  refine jG ⟨_,(qK (cs:=(bx (kJ (qW.mk 0 [] [] [])))) (d:=(kJ (qW.mk 0 [] [] []))) rfl rfl dB rfl rfl (.tmp (d:=(.val (.int .i64 ((((ncC b):Nat):Int))))) rfl .nil)),?_⟩
  obtain ⟨q1,q2⟩:=mv_g (b:=b) (q:=q) (sh:=sh) (c:=(ncC b)) (by unfold mvG;rw[if_pos (ne_nat h1)]) (ne_nat h1)
  rw[q1,q2];rfl
 ·replace h1:=bne_eq_false_iff_eq.1 h1
  refine jD<|jA<|jA<|kx [(9,(jN (yD q.a q.b q.c q.d)))] [] (zR (qE qQ)<|zE (kD (q_chk q.a q.b q.c q.d))<|zM<|zZ) ?_
  refine jA<|kx [(32,(vb ((((yD q.a q.b q.c q.d):Nat):Int) != 0)))] [] (zM<|zE xX<|zZ) ?_
  refine jF rfl (fun h2=>?_) (fun h2=>?_)
  ·replace h2:=bne_iff_ne.1 h2
   refine jA<|kx [(7,(jN (yD q.a q.b q.c q.d)))] [(3,some (bx (kJ (qW.mk 0 [] [] []))))] (zE (oBd pl26 ze26 zo26)<|zM<|zT (qO dB)<|zM<|zZ) ?_
   refine jG ⟨_,(qK (cs:=(bx (kJ (qW.mk 0 [] [] [])))) (d:=(kJ (qW.mk 0 [] [] []))) rfl rfl dB rfl rfl (.tmp (d:=(.val (.int .i64 ((((yD q.a q.b q.c q.d):Nat):Int))))) rfl .nil)),?_⟩
   obtain ⟨q1,q2⟩:=mv_g (b:=b) (q:=q) (sh:=sh) (c:=(rotQ q)) (by unfold mvG;rw[if_neg (show ¬ ncC b≠0 from fun hn=>hn (Int.ofNat.inj h1))];rw[if_pos (show rotQ q≠0 from ne_nat h2)]) (ne_nat h2)
   rw[q1,q2];rfl
  ·replace h2:=bne_eq_false_iff_eq.1 h2
   have hqo:mK q:=gF.2 (Int.ofNat.inj h2)
   refine jD<|jA<|jA<|kx [(52,(vb ((b.dim == 2)&&(((q.b != 0)||(q.d != 0))||(sh.y != 0)))))] [] ?_ ?_
   ·refine zE (jY dA)<|zR (jZ kK)<|zE zW<|zE (oV (vb (b.dim == 2)) (kA (by kernel_rfl)))<|?_
    rcases hb3:(b.dim == 2) with _ | _
    ·replace hb3:=ne_of_beq_false hb3
     exact zK<|zK<|zK<|zK<|zK<|zK<|zK<|zK<|zK<|zK<|zK<|zK<|zK<|zE mJ<|zZ
    ·replace hb3:=eq_of_beq hb3
     refine zE (jY uS)<|zR (jZ kK)<|zE xX<|zE (oV (vb (q.b != 0)) (kA (by kernel_rfl)))<|?_
     rcases hb4:(q.b != 0) with _ | _
     ·replace hb4:=bne_eq_false_iff_eq.1 hb4
      refine zE (jY uR)<|zR (jZ kK)<|zE xX<|zE zG<|zE (oV (vb (false||(q.d != 0))) (kA (by kernel_rfl)))<|?_
      rcases hb5:(false||(q.d != 0)) with _ | _
      ·exact zE (jY dC)<|zR (jZ kK)<|zE xX<|zE zG<|zE aC<|zZ
      ·exact zK<|zK<|zK<|zE uP<|zE uP<|zZ
     ·replace hb4:=bne_iff_ne.1 hb4
      exact zK<|zK<|zK<|zE uP<|zM<|zK<|zK<|zK<|zE uP<|zE uP<|zZ
   refine jF rfl (fun h6=>?_) (fun h6=>?_)
   ·refine jA<|kx [(7,(jN 1))] [(3,some (bx (kJ (qW.mk 0 [] [] []))))] (zE (oBd pl26 ze26 zo26)<|zT (qO dB)<|zM<|zZ) ?_
    refine jG ⟨_,(qK (cs:=(bx (kJ (qW.mk 0 [] [] [])))) (d:=(kJ (qW.mk 0 [] [] []))) rfl rfl dB rfl rfl (.tmp (d:=(.val (.int .i64 (1)))) rfl .nil)),?_⟩
    obtain ⟨q1,q2⟩:=mv_g (b:=b) (q:=q) (sh:=sh) (c:=1) (by unfold mvG;rw[if_neg (show ¬ ncC b≠0 from fun hn=>hn (Int.ofNat.inj h1))];rw[if_neg (show ¬ rotQ q≠0 from fun hn=>hn (Int.ofNat.inj h2))];rw[if_pos (by exact h6)]) (by decide)
    rw[q1,q2];rfl
   ·refine jD<|jA<|jA<|kx [(56,(vb (b.obs.any nkB)))] [] (zE (jY aW)<|zR (jZ sh24)<|zE (kD (n_anyO b.obs (by omega)))<|zZ) ?_
    refine jF (b:=(b.obs.any nkB)) rfl (fun h7=>?_) (fun h7=>?_)
    ·refine jA<|kx [(7,(jN 11))] [(3,some (bx (kJ (qW.mk 0 [] [] []))))] (zE (oBd pl26 ze26 zo26)<|zT (qO dB)<|zM<|zZ) ?_
     refine jG ⟨_,(qK (cs:=(bx (kJ (qW.mk 0 [] [] [])))) (d:=(kJ (qW.mk 0 [] [] []))) rfl rfl dB rfl rfl (.tmp (d:=(.val (.int .i64 (11)))) rfl .nil)),?_⟩
     obtain ⟨q1,q2⟩:=mv_g (b:=b) (q:=q) (sh:=sh) (c:=11) (by unfold mvG;rw[if_neg (show ¬ ncC b≠0 from fun hn=>hn (Int.ofNat.inj h1))];rw[if_neg (show ¬ rotQ q≠0 from fun hn=>hn (Int.ofNat.inj h2))];rw[if_neg (ne_true_of_eq_false (by exact h6))];rw[if_pos (by exact h7)]) (by decide)
     rw[q1,q2];rfl
    ·have hg0:mvG b q sh=0:=by
      unfold mvG
      rw[if_neg (show ¬ ncC b≠0 from fun hn=>hn (Int.ofNat.inj h1))]
      rw[if_neg (show ¬ rotQ q≠0 from fun hn=>hn (Int.ofNat.inj h2))]
      rw[if_neg (ne_true_of_eq_false (by exact h6))]
      rw[if_neg (ne_true_of_eq_false (by exact h7))]
     refine jD<|jA<|kd [(10,(.ref 4 0))] [(4,some (bx (.agg [(.val (.int .i64 (b.dim))),(.val (.slice none 0 0)),(.val (.slice none 0 0)),(.sl 68 7 (List.map qN b.obs))])))] mo (wE (jY dA)<|wR (jZ kK)<|wE (jY aW)<|wR (jZ sh24)<|wE (kD (n_clone b.obs (by omega)))<|wE (oBd pl26 ze26 zn26)<|wN (vL 4 ze26 zo26)<|wT (qO dB)<|wZ) ?_
     refine jA<|jA<|pwp_own 4 1 5 38 10 (cs:=(bx (.agg [(.val (.int .i64 (b.dim))),(.val (.slice none 0 0)),(.val (.slice none 0 0)),(.sl 68 7 (List.map qN b.obs))]))) (h:=?_)
     refine kU (wk (l:=[(3,(.ref 0 0)),(4,(.ref 1 0)),(5,(.ref 2 0)),(6,(.ref 3 0)),(10,(.ref 4 0))]) (b:=[(0,some (bx (kJ b))),(1,some (bx (jI q))),(2,some (bx (kH sh))),(3,some (bx (kJ (qW.mk 0 [] [] [])))),(4,some [(vi b.dim),(.own 5 38 10 0),(.d (.val (.slice none 0 0))),(vl 68 7 qN b.obs)]),(5,some (xQ uQ []))])) ?_
     refine pwp_own 4 2 6 30 3 (cs:=[(vi b.dim),(.own 5 38 10 0),(.d (.val (.slice none 0 0))),(vl 68 7 qN b.obs)]) (h:=?_)
     refine kU (wk (l:=[(3,(.ref 0 0)),(4,(.ref 1 0)),(5,(.ref 2 0)),(6,(.ref 3 0)),(10,(.ref 4 0))]) (b:=[(0,some (bx (kJ b))),(1,some (bx (jI q))),(2,some (bx (kH sh))),(3,some (bx (kJ (qW.mk 0 [] [] [])))),(4,some [(vi b.dim),(.own 5 38 10 0),(.own 6 30 3 0),(vl 68 7 qN b.obs)]),(5,some (xQ uQ [])),(6,some (xQ kH []))])) ?_
     refine kx [(65,(vl 38 10 uQ b.sts)),(66,(jN b.sts.length)),(67,(jN 0))] [] (zE (jY gL)<|zR (jZ sh22)<|zE (vV eI)<|zM<|zZ) ?_
     refine jH<|kF (α:=Nat × List kM) (fun (i,o)=>⟨[(3,(.ref 0 0)),(4,(.ref 1 0)),(5,(.ref 2 0)),(6,(.ref 3 0)),(10,(.ref 4 0)),(65,(vl 38 10 uQ b.sts)),(66,(jN b.sts.length)),(67,(jN i))],[(0,some (bx (kJ b))),(1,some (bx (jI q))),(2,some (bx (kH sh))),(3,some (bx (kJ (qW.mk 0 [] [] [])))),(4,some [(vi b.dim),(.own 5 38 10 o.length),(.own 6 30 3 0),(vl 68 7 qN b.obs)]),(5,some (xQ uQ o)),(6,some (xQ kH []))]⟩) (fun (i,o)=>i<=b.sts.length/\o=(b.sts.take i).map (mvT q)/\∀ j,j<i->mvU q (b.sts.getD j cQ)=0) (fun (i,o)=>b.sts.length-i) (0,[]) wk ⟨Nat.zero_le _,rfl,fun j hj=>absurd hj (Nat.not_lt_zero j)⟩ ?_
     rintro ⟨i,o⟩ ⟨hi,ho,hu⟩
     have hol:o.length=i:=by rw[ho];exact tk_l hi
     refine jA<|kx [(68,(vb (decide (((i:Nat):Int)<((b.sts.length:Nat):Int)))))] [] (zE uT<|zZ) ?_
     refine jA<|jF rfl (fun h8=>?_) (fun h8=>?_)
     ·replace h8:=uY h8
      have hTi:mK (b.sts.getD i (kM.mk (jM.mk 0 0 0) (jB.mk 0 0 0 0) 0 (qD.mk 0 0))).turn:=hT i (by omega)
      refine jD<|jA<|jH<|jA<|kx [(12,(.ref 7 0))] [(7,some (bx (uQ (b.sts.getD i (kM.mk (jM.mk 0 0 0) (jB.mk 0 0 0 0) 0 (qD.mk 0 0))))))] (zE (nA eI i (kM.mk (jM.mk 0 0 0) (jB.mk 0 0 0 0) 0 (qD.mk 0 0)))<|zE (oCa sh38)<|zH (vL 7 ze38 zo38)<|zT (qO sh38)<|zZ) ?_
      refine jA<|kx [(13,(.ref 8 0)),(14,(jN (qC (jX q ((b.sts.getD i (kM.mk (jM.mk 0 0 0) (jB.mk 0 0 0 0) 0 (qD.mk 0 0))).turn)))))] [(8,some (bx (jI (qV (jX q ((b.sts.getD i (kM.mk (jM.mk 0 0 0) (jB.mk 0 0 0 0) 0 (qD.mk 0 0))).turn))))))] (zR (qE qQ)<|zE (jY cW)<|zR (qE qQ)<|zE (kD (l_mul q ((b.sts.getD i (kM.mk (jM.mk 0 0 0) (jB.mk 0 0 0 0) 0 (qD.mk 0 0))).turn) hqo hTi))<|zM<|zE vF<|zE vF<|zH (vL 8 gK gS)<|zT (qO qQ)<|zM<|zZ) ?_
      refine jA<|jA<|kx [(79,(vb ((((qC (jX q ((b.sts.getD i (kM.mk (jM.mk 0 0 0) (jB.mk 0 0 0 0) 0 (qD.mk 0 0))).turn))):Nat):Int) != 0)))] [] (zM<|zE xX<|zZ) ?_
      refine jF rfl (fun h9=>?_) (fun h9=>?_)
      ·replace h9:=bne_iff_ne.1 h9
       refine jA<|kx [(7,(jN (qC (jX q ((b.sts.getD i (kM.mk (jM.mk 0 0 0) (jB.mk 0 0 0 0) 0 (qD.mk 0 0))).turn)))))] [(3,some (bx (kJ (qW.mk 0 [] [] []))))] (zE (oBd pl26 ze26 zo26)<|zM<|zT (qO dB)<|zM<|zZ) ?_
       refine jG ⟨_,(qK (cs:=(bx (kJ (qW.mk 0 [] [] [])))) (d:=(kJ (qW.mk 0 [] [] []))) rfl rfl dB rfl rfl (.tmp (d:=(.val (.int .i64 ((((qC (jX q ((b.sts.getD i (kM.mk (jM.mk 0 0 0) (jB.mk 0 0 0 0) 0 (qD.mk 0 0))).turn))):Nat):Int))))) rfl .nil)),?_⟩
       obtain ⟨q1,q2⟩:=mv_t hg0 (i:=i) (by omega) hu (ne_nat h9)
       rw[q1,q2];rfl
      ·replace h9:=bne_eq_false_iff_eq.1 h9
       refine jD<|jA<|kx [] [(7,some (bx (uQ (kM.mk ((b.sts.getD i (kM.mk (jM.mk 0 0 0) (jB.mk 0 0 0 0) 0 (qD.mk 0 0))).at_) (qV (jX q ((b.sts.getD i (kM.mk (jM.mk 0 0 0) (jB.mk 0 0 0 0) 0 (qD.mk 0 0))).turn))) ((b.sts.getD i (kM.mk (jM.mk 0 0 0) (jB.mk 0 0 0 0) 0 (qD.mk 0 0))).focal) ((b.sts.getD i (kM.mk (jM.mk 0 0 0) (jB.mk 0 0 0 0) 0 (qD.mk 0 0))).centre)))))] (zR (qE qQ)<|zE (jY cW)<|zT (qO qQ)<|zZ) ?_
       refine kf [] [(4,some [(vi b.dim),(.own 5 38 10 ((o++[(kM.mk ((b.sts.getD i (kM.mk (jM.mk 0 0 0) (jB.mk 0 0 0 0) 0 (qD.mk 0 0))).at_) (qV (jX q ((b.sts.getD i (kM.mk (jM.mk 0 0 0) (jB.mk 0 0 0 0) 0 (qD.mk 0 0))).turn))) ((b.sts.getD i (kM.mk (jM.mk 0 0 0) (jB.mk 0 0 0 0) 0 (qD.mk 0 0))).focal) ((b.sts.getD i (kM.mk (jM.mk 0 0 0) (jB.mk 0 0 0 0) 0 (qD.mk 0 0))).centre))]).length)),(.own 6 30 3 0),(vl 68 7 qN b.obs)]),(5,some (xQ uQ (o++[(kM.mk ((b.sts.getD i (kM.mk (jM.mk 0 0 0) (jB.mk 0 0 0 0) 0 (qD.mk 0 0))).at_) (qV (jX q ((b.sts.getD i (kM.mk (jM.mk 0 0 0) (jB.mk 0 0 0 0) 0 (qD.mk 0 0))).turn))) ((b.sts.getD i (kM.mk (jM.mk 0 0 0) (jB.mk 0 0 0 0) 0 (qD.mk 0 0))).focal) ((b.sts.getD i (kM.mk (jM.mk 0 0 0) (jB.mk 0 0 0 0) 0 (qD.mk 0 0))).centre))])))] (zE (jY gL)<|zR (jZ sh22)<|zR (qE sh38)<|zE (eG eI ze38 zo38)<|zAmS 4 1 uQ o [(kM.mk ((b.sts.getD i (kM.mk (jM.mk 0 0 0) (jB.mk 0 0 0 0) 0 (qD.mk 0 0))).at_) (qV (jX q ((b.sts.getD i (kM.mk (jM.mk 0 0 0) (jB.mk 0 0 0 0) 0 (qD.mk 0 0))).turn))) ((b.sts.getD i (kM.mk (jM.mk 0 0 0) (jB.mk 0 0 0 0) 0 (qD.mk 0 0))).focal) ((b.sts.getD i (kM.mk (jM.mk 0 0 0) (jB.mk 0 0 0 0) 0 (qD.mk 0 0))).centre))] rfl eI ze38 by38 (hB:=by repeat first | exact clrn_nil _ _ | refine clrn_hide ?_ | refine clrn_self ?_ | refine clrn_map ?_ | refine clrn_none ?_ | refine clrn_bx ?_ | refine clrn_d ?_ | refine clrn_cons rfl ?_) (k:=5)<|zE (jY gL)<|zT (oSx sh22)<|zF) ?_
       refine kx [(67,(jN (i+1)))] [] (zE (uL (i+1))<|zM<|zZ) ?_
       exact ⟨(i+1,o++[mvT q (b.sts.getD i (kM.mk (jM.mk 0 0 0) (jB.mk 0 0 0 0) 0 (qD.mk 0 0)))]),wk,⟨by omega,by rw[ho];exact tk_s (f:=mvT q) (d:=cQ) (by omega),gO hu (Int.ofNat.inj h9)⟩,(by first|omega|(dsimp only;omega))⟩
     ·replace h8:=uZ h8
      have ho2:o=b.sts.map (mvT q):=by rw[ho,show i=b.sts.length by omega,List.take_length]
      have hu1:∀ j,j<b.sts.length->mvU q (b.sts.getD j cQ)=0:=fun j hj=>hu j (by omega)
      rw[show o.length=b.sts.length from by omega]
      refine jS<|jA<|jA<|kx [(92,(.own 5 38 10 b.sts.length)),(93,(jN b.sts.length)),(94,(jN 0))] [] (zE (jY gL)<|zR (jZ sh22)<|zE (oLo eI)<|zM<|zZ) ?_
      refine jH<|kF (α:=Nat × List kM) (fun (i,o)=>⟨[(3,(.ref 0 0)),(4,(.ref 1 0)),(5,(.ref 2 0)),(6,(.ref 3 0)),(10,(.ref 4 0)),(92,(.own 5 38 10 b.sts.length)),(93,(jN b.sts.length)),(94,(jN i))],[(0,some (bx (kJ b))),(1,some (bx (jI q))),(2,some (bx (kH sh))),(3,some (bx (kJ (qW.mk 0 [] [] [])))),(4,some [(vi b.dim),(.own 5 38 10 b.sts.length),(.own 6 30 3 0),(vl 68 7 qN b.obs)]),(5,some (xQ uQ o)),(6,some (xQ kH []))]⟩) (fun (i,o)=>i<=b.sts.length/\stI b q sh i o/\∀ j,j<i->tdB q (b.sts.getD j cQ).at_ sh=true) (fun (i,o)=>b.sts.length-i) (0,o) wk ⟨Nat.zero_le _,by rw[ho2];exact stI_0,fun j hj=>absurd hj (Nat.not_lt_zero j)⟩ ?_
      rintro ⟨i,o⟩ ⟨hi,hst,ht⟩
      have hol:o.length=b.sts.length:=hst.1
      refine jA<|kx [(95,(vb (decide (((i:Nat):Int)<((b.sts.length:Nat):Int)))))] [] (zE uT<|zZ) ?_
      refine jA<|jF rfl (fun h10=>?_) (fun h10=>?_)
      ·replace h10:=uY h10
       have hAi:spOk (b.sts.getD i (kM.mk (jM.mk 0 0 0) (jB.mk 0 0 0 0) 0 (qD.mk 0 0))).at_:=hA i (by omega)
       refine jD<|jA<|jH<|jA<|kx [(15,(jN i)),(16,(.ref 9 0))] [(9,some (bx (uQ (kM.mk (b.sts.getD i (kM.mk (jM.mk 0 0 0) (jB.mk 0 0 0 0) 0 (qD.mk 0 0))).at_ (qV (jX q (b.sts.getD i (kM.mk (jM.mk 0 0 0) (jB.mk 0 0 0 0) 0 (qD.mk 0 0))).turn)) (b.sts.getD i (kM.mk (jM.mk 0 0 0) (jB.mk 0 0 0 0) 0 (qD.mk 0 0))).focal (b.sts.getD i (kM.mk (jM.mk 0 0 0) (jB.mk 0 0 0 0) 0 (qD.mk 0 0))).centre))))] (zM<|zE (oXO eI i)<|zR (oQr (uQ (o.getD i (kM.mk (jM.mk 0 0 0) (jB.mk 0 0 0 0) 0 (qD.mk 0 0)))) (uQ (kM.mk (b.sts.getD i (kM.mk (jM.mk 0 0 0) (jB.mk 0 0 0 0) 0 (qD.mk 0 0))).at_ (qV (jX q (b.sts.getD i (kM.mk (jM.mk 0 0 0) (jB.mk 0 0 0 0) 0 (qD.mk 0 0))).turn)) (b.sts.getD i (kM.mk (jM.mk 0 0 0) (jB.mk 0 0 0 0) 0 (qD.mk 0 0))).focal (b.sts.getD i (kM.mk (jM.mk 0 0 0) (jB.mk 0 0 0 0) 0 (qD.mk 0 0))).centre)) (oLA sh38 i (kM.mk (jM.mk 0 0 0) (jB.mk 0 0 0 0) 0 (qD.mk 0 0))) (by exact (congrArg uQ (stI_at hst (by omega)))))<|zH (vL 9 ze38 zo38)<|zM<|zT (qO sh38)<|zZ) ?_
       refine jA<|kx [(17,(.ref 10 0)),(18,(vb (tdB q ((b.sts.getD i (kM.mk (jM.mk 0 0 0) (jB.mk 0 0 0 0) 0 (qD.mk 0 0))).at_) sh)))] [(10,some (bx (kH (tdV q ((b.sts.getD i (kM.mk (jM.mk 0 0 0) (jB.mk 0 0 0 0) 0 (qD.mk 0 0))).at_) sh))))] (zR (qE qQ)<|zE (jY fQ)<|zR (qE nZ)<|zR (qE nZ)<|zE (kD (n_turn q ((b.sts.getD i (kM.mk (jM.mk 0 0 0) (jB.mk 0 0 0 0) 0 (qD.mk 0 0))).at_) sh hqo hAi hS))<|zM<|zE vF<|zE vF<|zH (vL 10 ze30 zo30)<|zT (qO nZ)<|zM<|zZ) ?_
       refine jA<|jA<|kx [(108,(vb (!(tdB q ((b.sts.getD i (kM.mk (jM.mk 0 0 0) (jB.mk 0 0 0 0) 0 (qD.mk 0 0))).at_) sh))))] [] (zM<|zE eU<|zZ) ?_
       refine jF rfl (fun h11=>?_) (fun h11=>?_)
       ·refine jA<|kx [(7,(jN 2))] [(3,some (bx (kJ (qW.mk 0 [] [] []))))] (zE (oBd pl26 ze26 zo26)<|zT (qO dB)<|zM<|zZ) ?_
        refine jG ⟨_,(qK (cs:=(bx (kJ (qW.mk 0 [] [] [])))) (d:=(kJ (qW.mk 0 [] [] []))) rfl rfl dB rfl rfl (.tmp (d:=(.val (.int .i64 (2)))) rfl .nil)),?_⟩
        obtain ⟨q1,q2⟩:=mv_s hg0 hu1 (i:=i) (by omega) (by simpa using h11)
        rw[q1,q2];rfl
       ·refine jD<|kx [] [(5,some (xQ uQ (o.set i (kM.mk (tdV q ((b.sts.getD i (kM.mk (jM.mk 0 0 0) (jB.mk 0 0 0 0) 0 (qD.mk 0 0))).at_) sh) ((o.getD i (kM.mk (jM.mk 0 0 0) (jB.mk 0 0 0 0) 0 (qD.mk 0 0))).turn) ((o.getD i (kM.mk (jM.mk 0 0 0) (jB.mk 0 0 0 0) 0 (qD.mk 0 0))).focal) ((o.getD i (kM.mk (jM.mk 0 0 0) (jB.mk 0 0 0 0) 0 (qD.mk 0 0))).centre)))))] (zE (jY gL)<|zR (jZ sh22)<|zM<|zR (qE nZ)<|zE (oXO eI i)<|zE (jY fQ)<|zT (oSf (s:=10) (i:=0) nZ i (kM.mk (jM.mk 0 0 0) (jB.mk 0 0 0 0) 0 (qD.mk 0 0)) (kM.mk (tdV q ((b.sts.getD i (kM.mk (jM.mk 0 0 0) (jB.mk 0 0 0 0) 0 (qD.mk 0 0))).at_) sh) ((o.getD i (kM.mk (jM.mk 0 0 0) (jB.mk 0 0 0 0) 0 (qD.mk 0 0))).turn) ((o.getD i (kM.mk (jM.mk 0 0 0) (jB.mk 0 0 0 0) 0 (qD.mk 0 0))).focal) ((o.getD i (kM.mk (jM.mk 0 0 0) (jB.mk 0 0 0 0) 0 (qD.mk 0 0))).centre)) (kH (tdV q ((b.sts.getD i (kM.mk (jM.mk 0 0 0) (jB.mk 0 0 0 0) 0 (qD.mk 0 0))).at_) sh)))<|zZ) ?_
        refine kx [(94,(jN (i+1)))] [] (zE (uL (i+1))<|zM<|zZ) ?_
        exact ⟨(i+1,o.set i (kM.mk (tdV q (b.sts.getD i (kM.mk (jM.mk 0 0 0) (jB.mk 0 0 0 0) 0 (qD.mk 0 0))).at_ sh) (o.getD i (kM.mk (jM.mk 0 0 0) (jB.mk 0 0 0 0) 0 (qD.mk 0 0))).turn (o.getD i (kM.mk (jM.mk 0 0 0) (jB.mk 0 0 0 0) 0 (qD.mk 0 0))).focal (o.getD i (kM.mk (jM.mk 0 0 0) (jB.mk 0 0 0 0) 0 (qD.mk 0 0))).centre)),wk,⟨by omega,stI_s2 hst (by omega),gO ht (by simpa using h11)⟩,(by first|omega|(dsimp only;omega))⟩
      ·replace h10:=uZ h10
       have ho3:=stI_e hst (by omega)
       have ht1:∀ j,j<b.sts.length->tdB q (b.sts.getD j cQ).at_ sh=true:=fun j hj=>ht j (by omega)
       refine jS<|jA<|jA<|kx [(118,(vl 30 3 kH b.pts)),(119,(jN b.pts.length)),(120,(jN 0))] [] (zE (jY dW)<|zR (jZ sh23)<|zE (vV el23)<|zM<|zZ) ?_
       refine jH<|kF (α:=Nat × List jM) (fun (i,ov)=>⟨[(4,(.ref 1 0)),(5,(.ref 2 0)),(6,(.ref 3 0)),(10,(.ref 4 0)),(118,(vl 30 3 kH b.pts)),(119,(jN b.pts.length)),(120,(jN i))],[(1,some (bx (jI q))),(2,some (bx (kH sh))),(3,some (bx (kJ (qW.mk 0 [] [] [])))),(4,some [(vi b.dim),(.own 5 38 10 b.sts.length),(.own 6 30 3 ov.length),(vl 68 7 qN b.obs)]),(5,some (xQ uQ o)),(6,some (xQ kH ov))]⟩) (fun (i,ov)=>i<=b.pts.length/\ov=(b.pts.take i).map (fun p=>tdV q p sh)/\∀ j,j<i->tdB q (b.pts.getD j nP0) sh=true) (fun (i,ov)=>b.pts.length-i) (0,[]) wk ⟨Nat.zero_le _,rfl,fun j hj=>absurd hj (Nat.not_lt_zero j)⟩ ?_
       rintro ⟨i,ov⟩ ⟨hi,hop,htp⟩
       have hovl:ov.length=i:=by rw[hop];exact tk_l hi
       refine jA<|kx [(121,(vb (decide (((i:Nat):Int)<((b.pts.length:Nat):Int)))))] [] (zE uT<|zZ) ?_
       refine jA<|jF rfl (fun h12=>?_) (fun h12=>?_)
       ·replace h12:=uY h12
        have hPi:spOk (b.pts.getD i (jM.mk 0 0 0)):=hP i (by omega)
        refine jD<|jA<|jH<|jA<|kx [(20,(.ref 11 0))] [(11,some (bx (kH (b.pts.getD i (jM.mk 0 0 0)))))] (zE (nA el23 i (jM.mk 0 0 0))<|zE (oCa nZ)<|zH (vL 11 ze30 zo30)<|zT (qO nZ)<|zZ) ?_
        refine jA<|kx [(21,(.ref 12 0)),(22,(vb (tdB q (b.pts.getD i (jM.mk 0 0 0)) sh)))] [(12,some (bx (kH (tdV q (b.pts.getD i (jM.mk 0 0 0)) sh))))] (zR (qE qQ)<|zR (qE nZ)<|zR (qE nZ)<|zE (kD (n_turn q (b.pts.getD i (jM.mk 0 0 0)) sh hqo hPi hS))<|zM<|zE vF<|zE vF<|zH (vL 12 ze30 zo30)<|zT (qO nZ)<|zM<|zZ) ?_
        refine jA<|jA<|kx [(132,(vb (!(tdB q (b.pts.getD i (jM.mk 0 0 0)) sh))))] [] (zM<|zE eU<|zZ) ?_
        refine jF rfl (fun h13=>?_) (fun h13=>?_)
        ·refine jA<|kx [(7,(jN 2))] [(3,some (bx (kJ (qW.mk 0 [] [] []))))] (zE (oBd pl26 ze26 zo26)<|zT (qO dB)<|zM<|zZ) ?_
         refine jG ⟨_,(qK (cs:=(bx (kJ (qW.mk 0 [] [] [])))) (d:=(kJ (qW.mk 0 [] [] []))) rfl rfl dB rfl rfl (.tmp (d:=(.val (.int .i64 (2)))) rfl .nil)),?_⟩
         obtain ⟨q1,q2⟩:=mv_p hg0 hu1 ht1 (i:=i) (by omega) (by simpa using h13)
         rw[q1,q2];rfl
        ·refine jD<|kf [] [(4,some [(vi b.dim),(.own 5 38 10 b.sts.length),(.own 6 30 3 ((ov++[(tdV q (b.pts.getD i (jM.mk 0 0 0)) sh)]).length)),(vl 68 7 qN b.obs)]),(6,some (xQ kH (ov++[(tdV q (b.pts.getD i (jM.mk 0 0 0)) sh)])))] (zE (jY dW)<|zR (jZ sh23)<|zR (qE nZ)<|zE (eG el23 ze30 zo30)<|zAmS 4 2 kH ov [(tdV q (b.pts.getD i (jM.mk 0 0 0)) sh)] rfl el23 ze30 by30 (hB:=by repeat first | exact clrn_nil _ _ | refine clrn_hide ?_ | refine clrn_self ?_ | refine clrn_map ?_ | refine clrn_none ?_ | refine clrn_bx ?_ | refine clrn_d ?_ | refine clrn_cons rfl ?_) (k:=6)<|zE (jY dW)<|zT (oSx sh23)<|zF) ?_
         refine kx [(120,(jN (i+1)))] [] (zE (uL (i+1))<|zM<|zZ) ?_
         exact ⟨(i+1,ov++[tdV q (b.pts.getD i (jM.mk 0 0 0)) sh]),wk,⟨by omega,by rw[hop];exact tk_s (f:=fun p=>tdV q p sh) (d:=nP0) (by omega),gO htp (by simpa using h13)⟩,(by first|omega|(dsimp only;omega))⟩
       ·replace h12:=uZ h12
        refine jS<|jA<|kU (publishAt (j:=4) (k:=5) (pre:=[(vi b.dim)]) (post:=[(.own 6 30 3 ov.length),(vl 68 7 qN b.obs)]) (es:=List.map uQ o) rfl (by decide) rfl (nN _ _ (fun _=>rfl)) (vN _ _ hol) (mN uQ o (fun _=>rfl) hol)) ?_
        refine kU (wk (l:=[(4,(.ref 1 0)),(5,(.ref 2 0)),(6,(.ref 3 0)),(10,(.ref 4 0)),(118,(vl 30 3 kH b.pts)),(119,(jN b.pts.length)),(120,(jN i)),(121,(vb (decide (((i:Nat):Int)<((b.pts.length:Nat):Int)))))]) (b:=[(1,some (bx (jI q))),(2,some (bx (kH sh))),(3,some (bx (kJ (qW.mk 0 [] [] [])))),(4,some [(vi b.dim),(vl 38 10 uQ o),(.own 6 30 3 ov.length),(vl 68 7 qN b.obs)]),(6,some (xQ kH ov))])) ?_
        refine kU (publishAt (j:=4) (k:=6) (pre:=[(vi b.dim),(vl 38 10 uQ o)]) (post:=[(vl 68 7 qN b.obs)]) (es:=List.map kH ov) rfl (by decide) rfl (nN _ _ (fun _=>rfl)) (vN _ _ rfl) (mN kH ov (fun _=>rfl) rfl)) ?_
        refine kU (wk (l:=[(4,(.ref 1 0)),(5,(.ref 2 0)),(6,(.ref 3 0)),(10,(.ref 4 0)),(118,(vl 30 3 kH b.pts)),(119,(jN b.pts.length)),(120,(jN i)),(121,(vb (decide (((i:Nat):Int)<((b.pts.length:Nat):Int)))))]) (b:=[(1,some (bx (jI q))),(2,some (bx (kH sh))),(3,some (bx (kJ (qW.mk 0 [] [] [])))),(4,some (bx (kJ (qW.mk b.dim o ov b.obs))))])) ?_
        refine kx [(7,(jN 0))] [(3,some (bx (kJ (qW.mk b.dim o ov b.obs))))] (zR (qE dB)<|zT (qO dB)<|zM<|zZ) ?_
        refine jG ⟨_,(qK (cs:=(bx (kJ (qW.mk b.dim o ov b.obs)))) (d:=(kJ (qW.mk b.dim o ov b.obs))) rfl rfl dB rfl rfl (.tmp (d:=(.val (.int .i64 (0)))) rfl .nil)),?_⟩
        obtain ⟨q1,q2⟩:=mv_0 hg0 hu1 ht1 (fun j hj=>htp j (by omega))
        have ho4:ov=b.pts.map (fun p=>tdV q p sh):=by rw[hop,show i=b.pts.length by omega,List.take_length]
        rw[q1,q2,ho4,ho3];rfl
def exT:List jE:=[jE.mk 0 1 (jB.mk 1 0 0 0)]
def exP:jB:=jB.mk 1 1 0 0
def exQ:jB:=jB.mk 1 0 1 0
theorem exP_ok:mK exP:=gF.2 (by decide)
theorem exQ_ok:mK exQ:=gF.2 (by decide)
theorem exT_len:exT.length<=1000000:=by decide
theorem dt1:qV (jX exP exQ)=jB.mk 1 1 1 1:=by decide +kernel
theorem dt2:qC (jX exP exQ)=0:=by decide +kernel
theorem dt3:okL (zP ((2:Nat):Int) exT) (jK (Int.toNat ((2:Nat):Int)) exT)=[0]:=by decide +kernel
theorem dt4:zP ((2:Nat):Int) exT=0:=by decide +kernel
theorem r_awake :jU Tryz.prog 4 [] (.val (.bool (true))):=by
 refine vD Tryz.func4 ?_
 refine jA<|kx [] [] (zM<|zZ) ?_
 refine jA<|kx [(1,(.ref 0 0)),(2,(jN 0))] [(0,some (bx (jI (jB.mk 1 1 1 1))))] (zE (oQd (jI (jB.mk ((1:Nat):Int) ((1:Nat):Int) 0 0)) (jI exP) (oBd pl28 gK gS) (by exact rfl))<|zE (oQd (jI (jB.mk ((1:Nat):Int) 0 ((1:Nat):Int) 0)) (jI exQ) (oBd pl28 gK gS) (by exact rfl))<|zE (kD (l_mul exP exQ exP_ok exQ_ok))<|zM<|zE (oQd (jI (qV (jX exP exQ))) (jI (jB.mk 1 1 1 1)) vF (by exact (congrArg jI dt1)))<|zE (oQd (.val (.int .i64 ((((qC (jX exP exQ)):Nat):Int)))) (.val (.int .i64 (((0:Nat):Int)))) vF (by exact (congrArg (fun (c:Nat)=>jW.val (Value.int IntKind.i64 ((c:Nat):Int))) dt2)))<|zN (vL 0 gK gS)<|zT (qO qQ)<|zM<|zZ) ?_
 refine jA<|kx [(3,(vl 3 1 jT [0])),(4,(jN 0))] [] (zE (oBd pl28 gK gS)<|zE (oBd pl56 ze56 zo56)<|zE (oQd (.sl 56 6 (List.map kC [(jE.mk 0 ((1:Nat):Int) (jB.mk ((1:Nat):Int) 0 0 0))])) (.sl 56 6 (List.map kC exT)) (eG eF ze56 zo56) (by exact rfl))<|zE (kD (l_Tree ((2:Nat):Int) exT exT_len))<|zM<|zE (oQd (.sl 3 1 (List.map jT (okL (zP ((2:Nat):Int) exT) (jK (Int.toNat ((2:Nat):Int)) exT)))) (.sl 3 1 (List.map jT [0])) vF (by exact (congrArg (fun l=>jW.sl 3 1 (List.map jT l)) dt3)))<|zE (oQd (.val (.int .i64 ((((zP ((2:Nat):Int) exT):Nat):Int)))) (.val (.int .i64 (((0:Nat):Int)))) vF (by exact (congrArg (fun (c:Nat)=>jW.val (Value.int IntKind.i64 ((c:Nat):Int))) dt4)))<|zM<|zM<|zZ) ?_
 refine jA<|kx [(0,(vb true))] [] (zM<|zE (gI true zW)<|zM<|zM<|zE (gI true zW)<|zE uP<|zM<|zR (qE qQ)<|zE (oBd pl28 gK gS)<|zE (gI true (oEs eqs28 .i64 [(jB.mk 1 1 1 1).a,(jB.mk 1 1 1 1).b,(jB.mk 1 1 1 1).c,(jB.mk 1 1 1 1).d] [((1:Nat):Int),((1:Nat):Int),((1:Nat):Int),((1:Nat):Int)]) (by exact decide_eq_true rfl))<|zE uP<|zM<|zM<|zE (oLn xN 1)<|zE (gI true zW)<|zE uP<|zM<|zZ) ?_
 refine jG ⟨_,(.tmp (d:=(.val (.bool (true)))) rfl .nil),?_⟩
 rfl
end Go.Proofs.YtciingpdmjepgaaGreat
