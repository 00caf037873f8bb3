/- Part 31 of a proof: rules, plain facts, and functions walked. -/
import Derived.Test.YtciingpdmjepgaaGreatM30
set_option linter.all false
set_option maxRecDepth 4000
namespace Go.Proofs.YtciingpdmjepgaaGreat
open Go.Fid
theorem el24:uJ Tryz.prog 24=some (68,7):=by kernel_rfl
theorem eqn68:eqnB Tryz.prog 68=some 7:=by kernel_rfl
theorem dA:uF Tryz.prog 26 0=some 0:=by kernel_rfl
theorem aW:uF Tryz.prog 26 3=some 3:=by kernel_rfl
theorem fo68_5:uF Tryz.prog 68 5=some 6:=by kernel_rfl
theorem sh24:kQ Tryz.prog 24=some (false,1):=by kernel_rfl
theorem dB:kQ Tryz.prog 26=some (true,4):=by kernel_rfl
theorem nZ:kQ Tryz.prog 30=some (true,3):=by kernel_rfl
theorem sh38:kQ Tryz.prog 38=some (true,10):=by kernel_rfl
theorem sh68:kQ Tryz.prog 68=some (true,7):=by kernel_rfl
theorem ze68:uO Tryz.prog 68=some [.int .i64 0,.int .i64 0,.int .i64 0,.int .i64 0,.int .i64 0,.int .i64 0,.int .i64 0]:=by kernel_rfl
theorem zo68:nH [.int .i64 0,.int .i64 0,.int .i64 0,.int .i64 0,.int .i64 0,.int .i64 0,.int .i64 0] [.val (.int .i64 0),.val (.int .i64 0),.val (.int .i64 0),.val (.int .i64 0),.val (.int .i64 0),.val (.int .i64 0),.val (.int .i64 0)]:=by simp [nH,Value.oneCell']
theorem n_rc(b:qW)(hbs:b.sts.length<=1000)(hbp:b.pts.length<=1000)(hbo:b.obs.length<=1000):jU Tryz.prog 5 [(kJ b)] (.val (.int .i64 ((((rcC b):Nat):Int)))):=by
 refine vD Tryz.func5 ?_
 refine jA<|kx [(1,(.ref 0 0))] [(0,some (bx (kJ b)))] (zN (yB 0)<|zM<|zZ) ?_
 refine jA<|jA<|kx [(17,(vb ((b.dim != 2)&&(b.dim != 3))))] [] ?_ ?_
 ·refine zE (jY dA)<|zR (jZ kK)<|zE xX<|zE (oV (vb (b.dim != 2)) (kA (by kernel_rfl)))<|?_
  rcases hb1:(b.dim != 2) with _ | _
  ·replace hb1:=bne_eq_false_iff_eq.1 hb1
   exact zK<|zK<|zK<|zE mJ<|zZ
  ·replace hb1:=bne_iff_ne.1 hb1
   exact zE (jY dA)<|zR (jZ kK)<|zE xX<|zE aC<|zZ
 refine jF (b:=((b.dim != 2)&&(b.dim != 3))) rfl (fun h2=>?_) (fun h2=>?_)
 ·refine jA<|kx [(2,(jN 2))] [] (zM<|zZ) ?_
  refine jG ⟨_,(.tmp (d:=(.val (.int .i64 (2)))) rfl .nil),?_⟩
  unfold rcC
  rw[if_pos (by exact h2)];rfl
 ·refine jD<|jA<|jA<|kx [(33,(vb ((decide (64<((b.sts.length:Nat):Int))||decide (256<((b.pts.length:Nat):Int)))||decide (1024<((b.obs.length:Nat):Int)))))] [] ?_ ?_
  ·refine zE (jY gL)<|zR (jZ sh22)<|zE (vV eI)<|zE cC<|zE (oV (vb (decide (64<((b.sts.length:Nat):Int)))) (kA (by kernel_rfl)))<|?_
   rcases hb3:(decide (64<((b.sts.length:Nat):Int))) with _ | _
   ·replace hb3:=uZ hb3
    refine zE (jY dW)<|zR (jZ sh23)<|zE (vV el23)<|zE cC<|zE zG<|zE (oV (vb (false||decide (256<((b.pts.length:Nat):Int)))) (kA (by kernel_rfl)))<|?_
    rcases hb4:(false||decide (256<((b.pts.length:Nat):Int))) with _ | _
    ·replace hb4:=uZ (p:=(256<((b.pts.length:Nat):Int))) hb4
     exact zE (jY aW)<|zR (jZ sh24)<|zE (vV el24)<|zE cC<|zE zG<|zZ
    ·replace hb4:=uY (p:=(256<((b.pts.length:Nat):Int))) hb4
     exact zK<|zK<|zK<|zK<|zE uP<|zZ
   ·replace hb3:=uY hb3
    exact zK<|zK<|zK<|zK<|zE uP<|zM<|zK<|zK<|zK<|zK<|zE uP<|zZ
  refine jF rfl (fun h5=>?_) (fun h5=>?_)
  ·refine jA<|kx [(2,(jN 3))] [] (zM<|zZ) ?_
   refine jG ⟨_,(.tmp (d:=(.val (.int .i64 (3)))) rfl .nil),?_⟩
   unfold rcC
   rw[if_neg (ne_true_of_eq_false (by exact h2)),if_pos (by exact h5)];rfl
  ·refine jD<|jA<|jA<|kx [(3,(jN 0))] [] (zM<|zZ) ?_
   refine jH<|kF (α:=Nat) (fun i=>⟨[(1,(.ref 0 0)),(3,(jN i))],[(0,some (bx (kJ b)))]⟩) (fun i=>i<=b.sts.length/\∀ j,j<i->eH b.dim (b.sts.getD j cQ)=0) (fun i=>b.sts.length-i) 0 wk ⟨Nat.zero_le _,fun j hj=>absurd hj (Nat.not_lt_zero j)⟩ ?_
   rintro i ⟨hi,hv⟩
   refine jA<|jA<|kx [(38,(vb (decide (((i:Nat):Int)<((b.sts.length:Nat):Int)))))] [] (zM<|zE (jY gL)<|zR (jZ sh22)<|zE (vV eI)<|zE uT<|zZ) ?_
   refine jF rfl (fun h6=>?_) (fun h6=>?_)
   ·replace h6:=uY h6
    refine jD<|jA<|jH<|jA<|kd [(4,(jN (eH b.dim (b.sts.getD i (kM.mk (jM.mk 0 0 0) (jB.mk 0 0 0 0) 0 (qD.mk 0 0))))))] [] mo (wE (jY dA)<|wR (jZ kK)<|wE (jY gL)<|wR (jZ sh22)<|wM<|wE (nA eI i (kM.mk (jM.mk 0 0 0) (jB.mk 0 0 0 0) 0 (qD.mk 0 0)))<|wE (oCa sh38)<|wE (kD (n_st33 b.dim (b.sts.getD i (kM.mk (jM.mk 0 0 0) (jB.mk 0 0 0 0) 0 (qD.mk 0 0)))))<|wM<|wZ) ?_
    refine jA<|kx [(50,(vb ((((eH b.dim (b.sts.getD i (kM.mk (jM.mk 0 0 0) (jB.mk 0 0 0 0) 0 (qD.mk 0 0)))):Nat):Int) != 0)))] [] (zM<|zE xX<|zZ) ?_
    refine jF rfl (fun h7=>?_) (fun h7=>?_)
    ·replace h7:=bne_iff_ne.1 h7
     refine jA<|kx [(2,(jN (eH b.dim (b.sts.getD i (kM.mk (jM.mk 0 0 0) (jB.mk 0 0 0 0) 0 (qD.mk 0 0))))))] [] (zM<|zM<|zZ) ?_
     refine jG ⟨_,(.tmp (d:=(.val (.int .i64 ((((eH b.dim (b.sts.getD i (kM.mk (jM.mk 0 0 0) (jB.mk 0 0 0 0) 0 (qD.mk 0 0)))):Nat):Int))))) rfl .nil),?_⟩
     rw[rc_s (i:=i) h2 h5 (by omega) hv (ne_nat h7)];rfl
    ·replace h7:=bne_eq_false_iff_eq.1 h7
     refine jD<|kx [(3,(jN (i+1)))] [] (zM<|zE (uL (i+1))<|zM<|zZ) ?_
     exact ⟨i+1,wk,⟨by omega,gO hv (Int.ofNat.inj h7)⟩,(by first|omega|(dsimp only;omega))⟩
   ·replace h6:=uZ h6
    have hs1:∀ j,j<b.sts.length->eH b.dim (b.sts.getD j cQ)=0:=fun j hj=>hv j (by omega)
    refine jS<|jA<|jA<|kx [(5,(jN 0))] [] (zM<|zZ) ?_
    refine jH<|kF (α:=Nat) (fun i2=>⟨[(1,(.ref 0 0)),(5,(jN i2))],[(0,some (bx (kJ b)))]⟩) (fun i2=>i2<=b.pts.length/\∀ j,j<i2->pt33 b.dim (b.pts.getD j nP0)=0) (fun i2=>b.pts.length-i2) 0 wk ⟨Nat.zero_le _,fun j hj=>absurd hj (Nat.not_lt_zero j)⟩ ?_
    rintro i2 ⟨hj,hv⟩
    refine jA<|jA<|kx [(56,(vb (decide (((i2:Nat):Int)<((b.pts.length:Nat):Int)))))] [] (zM<|zE (jY dW)<|zR (jZ sh23)<|zE (vV el23)<|zE uT<|zZ) ?_
    refine jF rfl (fun h8=>?_) (fun h8=>?_)
    ·replace h8:=uY h8
     refine jD<|jA<|jH<|jA<|kd [(6,(jN (pt33 b.dim (b.pts.getD i2 (jM.mk 0 0 0)))))] [] mo (wE (jY dA)<|wR (jZ kK)<|wE (jY dW)<|wR (jZ sh23)<|wM<|wE (nA el23 i2 (jM.mk 0 0 0))<|wE (oCa nZ)<|wE (kD (n_pt33 b.dim (b.pts.getD i2 (jM.mk 0 0 0))))<|wM<|wZ) ?_
     refine jA<|kx [(68,(vb ((((pt33 b.dim (b.pts.getD i2 (jM.mk 0 0 0))):Nat):Int) != 0)))] [] (zM<|zE xX<|zZ) ?_
     refine jF rfl (fun h9=>?_) (fun h9=>?_)
     ·replace h9:=bne_iff_ne.1 h9
      refine jA<|kx [(2,(jN (pt33 b.dim (b.pts.getD i2 (jM.mk 0 0 0)))))] [] (zM<|zM<|zZ) ?_
      refine jG ⟨_,(.tmp (d:=(.val (.int .i64 ((((pt33 b.dim (b.pts.getD i2 (jM.mk 0 0 0))):Nat):Int))))) rfl .nil),?_⟩
      rw[rc_p (i:=i2) h2 h5 hs1 (by omega) hv (ne_nat h9)];rfl
     ·replace h9:=bne_eq_false_iff_eq.1 h9
      refine jD<|kx [(5,(jN (i2+1)))] [] (zM<|zE (uL (i2+1))<|zM<|zZ) ?_
      exact ⟨i2+1,wk,⟨by omega,gO hv (Int.ofNat.inj h9)⟩,(by first|omega|(dsimp only;omega))⟩
    ·replace h8:=uZ h8
     have hp1:∀ j,j<b.pts.length->pt33 b.dim (b.pts.getD j nP0)=0:=fun j hj=>hv j (by omega)
     refine jS<|jA<|jA<|kx [(7,(jN 0))] [] (zM<|zZ) ?_
     refine jH<|kF (α:=Nat) (fun k=>⟨[(1,(.ref 0 0)),(7,(jN k))],[(0,some (bx (kJ b)))]⟩) (fun k=>k<=b.obs.length/\∀ j,j<k->bC b j=0) (fun k=>b.obs.length-k) 0 wk ⟨Nat.zero_le _,fun j hj=>absurd hj (Nat.not_lt_zero j)⟩ ?_
     rintro k ⟨hk,hv⟩
     refine jA<|jA<|kx [(74,(vb (decide (((k:Nat):Int)<((b.obs.length:Nat):Int)))))] [] (zM<|zE (jY aW)<|zR (jZ sh24)<|zE (vV el24)<|zE uT<|zZ) ?_
     refine jF rfl (fun h10=>?_) (fun h10=>?_)
     ·replace h10:=uY h10
      refine jD<|jA<|jH<|jA<|kx [(8,(.ref 1 0))] [(1,some (bx (qN (b.obs.getD k (kL.mk 0 0 0 0 (A2.mk 0 0) 0)))))] (zE (jY aW)<|zR (jZ sh24)<|zM<|zE (nA el24 k (kL.mk 0 0 0 0 (A2.mk 0 0) 0))<|zE (oCa sh68)<|zN (vL 1 ze68 zo68)<|zT (qO sh68)<|zZ) ?_
      refine jA<|jA<|kx [(89,(vb (decide ((b.obs.getD k (kL.mk 0 0 0 0 (A2.mk 0 0) 0)).kind<0)||decide (4<(b.obs.getD k (kL.mk 0 0 0 0 (A2.mk 0 0) 0)).kind))))] [] ?_ ?_
      ·refine zE (jY zD)<|zR (jZ eK)<|zE uT<|zE (oV (vb (decide ((b.obs.getD k (kL.mk 0 0 0 0 (A2.mk 0 0) 0)).kind<0))) (kA (by kernel_rfl)))<|?_
       rcases hb11:(decide ((b.obs.getD k (kL.mk 0 0 0 0 (A2.mk 0 0) 0)).kind<0)) with _ | _
       ·replace hb11:=uZ hb11
        exact zE (jY zD)<|zR (jZ eK)<|zE cC<|zE zG<|zZ
       ·replace hb11:=uY hb11
        exact zK<|zK<|zK<|zE uP<|zZ
      refine jF rfl (fun h12=>?_) (fun h12=>?_)
      ·refine jA<|kx [(2,(jN 1))] [] (zM<|zZ) ?_
       refine jG ⟨_,(.tmp (d:=(.val (.int .i64 (1)))) rfl .nil),?_⟩
       have hq:bC b k=1:=by
        unfold bC
        rw[if_pos (by exact h12)]
       rw[rc_o h2 h5 hs1 hp1 (show k<b.obs.length by omega) hv hq (by decide)];rfl
      ·refine jD<|jA<|jA<|kx [(92,(vb (msB b (b.obs.getD k (kL.mk 0 0 0 0 (A2.mk 0 0) 0)))))] [] (zR (qE dB)<|zR (qE sh68)<|zE (kD (n_miss b (b.obs.getD k (kL.mk 0 0 0 0 (A2.mk 0 0) 0))))<|zZ) ?_
       refine jF rfl (fun h13=>?_) (fun h13=>?_)
       ·refine jA<|kx [(2,(jN 6))] [] (zM<|zZ) ?_
        refine jG ⟨_,(.tmp (d:=(.val (.int .i64 (6)))) rfl .nil),?_⟩
        have hq:bC b k=6:=by
         unfold bC
         rw[if_neg (ne_true_of_eq_false (by exact h12))]
         rw[if_pos (by exact h13)]
        rw[rc_o h2 h5 hs1 hp1 (show k<b.obs.length by omega) hv hq (by decide)];rfl
       ·refine jD<|jA<|jA<|kx [(96,(vb (odR b.dim (b.obs.getD k (kL.mk 0 0 0 0 (A2.mk 0 0) 0)))))] [] (zE (jY dA)<|zR (jZ kK)<|zR (qE sh68)<|zE (kD (n_oddR b.dim (b.obs.getD k (kL.mk 0 0 0 0 (A2.mk 0 0) 0))))<|zZ) ?_
        refine jF rfl (fun h14=>?_) (fun h14=>?_)
        ·refine jA<|kx [(2,(jN 1))] [] (zM<|zZ) ?_
         refine jG ⟨_,(.tmp (d:=(.val (.int .i64 (1)))) rfl .nil),?_⟩
         have hq:bC b k=1:=by
          unfold bC
          rw[if_neg (ne_true_of_eq_false (by exact h12))]
          rw[if_neg (ne_true_of_eq_false (by exact h13))]
          rw[if_pos (by exact h14)]
         rw[rc_o h2 h5 hs1 hp1 (show k<b.obs.length by omega) hv hq (by decide)];rfl
        ·refine jD<|jA<|jA<|kx [(105,(vb (!(smI [((b.obs.getD k (kL.mk 0 0 0 0 (A2.mk 0 0) 0)).value).a0,((b.obs.getD k (kL.mk 0 0 0 0 (A2.mk 0 0) 0)).value).a1] 1099511627776))))] [] (zE (jY aQ)<|zE (aB ar66 0)<|zR (jZ kK)<|zE (jY aQ)<|zE (aB ar66 1)<|zR (jZ kK)<|zE (eG xN ze3 zo3)<|zE (kD (n_small [((b.obs.getD k (kL.mk 0 0 0 0 (A2.mk 0 0) 0)).value).a0,((b.obs.getD k (kL.mk 0 0 0 0 (A2.mk 0 0) 0)).value).a1] 1099511627776 (by omega) (by omega) (by first | assumption | decide | (simp only[List.length_cons,List.length_nil];omega))))<|zE eU<|zZ) ?_
         refine jF rfl (fun h15=>?_) (fun h15=>?_)
         ·refine jA<|kx [(2,(jN 2))] [] (zM<|zZ) ?_
          refine jG ⟨_,(.tmp (d:=(.val (.int .i64 (2)))) rfl .nil),?_⟩
          have hq:bC b k=2:=by
           unfold bC
           rw[if_neg (ne_true_of_eq_false (by exact h12))]
           rw[if_neg (ne_true_of_eq_false (by exact h13))]
           rw[if_neg (ne_true_of_eq_false (by exact h14))]
           rw[if_pos (by exact h15)]
          rw[rc_o h2 h5 hs1 hp1 (show k<b.obs.length by omega) hv hq (by decide)];rfl
         ·refine jD<|jA<|jA<|kx [(128,(vb ((((b.obs.getD k (kL.mk 0 0 0 0 (A2.mk 0 0) 0)).kind == 4)&&((b.obs.getD k (kL.mk 0 0 0 0 (A2.mk 0 0) 0)).weight != 0))||(((b.obs.getD k (kL.mk 0 0 0 0 (A2.mk 0 0) 0)).kind != 4)&&(decide ((b.obs.getD k (kL.mk 0 0 0 0 (A2.mk 0 0) 0)).weight<1)||decide (1048576<(b.obs.getD k (kL.mk 0 0 0 0 (A2.mk 0 0) 0)).weight))))))] [] ?_ ?_
          ·refine zE (jY zD)<|zR (jZ eK)<|zE zW<|zE (oV (vb ((b.obs.getD k (kL.mk 0 0 0 0 (A2.mk 0 0) 0)).kind == 4)) (kA (by kernel_rfl)))<|?_
           rcases hb16:((b.obs.getD k (kL.mk 0 0 0 0 (A2.mk 0 0) 0)).kind == 4) with _ | _
           ·replace hb16:=ne_of_beq_false hb16
            refine zK<|zK<|zK<|zE mJ<|zM<|zE (jY zD)<|zR (jZ eK)<|zE xX<|zE (oV (vb ((b.obs.getD k (kL.mk 0 0 0 0 (A2.mk 0 0) 0)).kind != 4)) (kA (by kernel_rfl)))<|?_
            rcases hb17:((b.obs.getD k (kL.mk 0 0 0 0 (A2.mk 0 0) 0)).kind != 4) with _ | _
            ·replace hb17:=bne_eq_false_iff_eq.1 hb17
             exact zK<|zK<|zK<|zK<|zK<|zK<|zK<|zK<|zE mJ<|zE mJ<|zZ
            ·replace hb17:=bne_iff_ne.1 hb17
             refine zE (jY fo68_5)<|zR (jZ kK)<|zE uT<|zE (oV (vb (decide ((b.obs.getD k (kL.mk 0 0 0 0 (A2.mk 0 0) 0)).weight<1))) (kA (by kernel_rfl)))<|?_
             rcases hb18:(decide ((b.obs.getD k (kL.mk 0 0 0 0 (A2.mk 0 0) 0)).weight<1)) with _ | _
             ·replace hb18:=uZ hb18
              exact zE (jY fo68_5)<|zR (jZ kK)<|zE cC<|zE zG<|zE aC<|zE zG<|zZ
             ·replace hb18:=uY hb18
              exact zK<|zK<|zK<|zE uP<|zE uP<|zE mJ<|zZ
           ·replace hb16:=eq_of_beq hb16
            refine zE (jY fo68_5)<|zR (jZ kK)<|zE xX<|zE aC<|zE (oV (vb (true&&((b.obs.getD k (kL.mk 0 0 0 0 (A2.mk 0 0) 0)).weight != 0))) (kA (by kernel_rfl)))<|?_
            rcases hb19:(true&&((b.obs.getD k (kL.mk 0 0 0 0 (A2.mk 0 0) 0)).weight != 0)) with _ | _
            ·refine zE (jY zD)<|zR (jZ eK)<|zE xX<|zE (oV (vb ((b.obs.getD k (kL.mk 0 0 0 0 (A2.mk 0 0) 0)).kind != 4)) (kA (by kernel_rfl)))<|?_
             rcases hb20:((b.obs.getD k (kL.mk 0 0 0 0 (A2.mk 0 0) 0)).kind != 4) with _ | _
             ·replace hb20:=bne_eq_false_iff_eq.1 hb20
              exact zK<|zK<|zK<|zK<|zK<|zK<|zK<|zK<|zE mJ<|zE mJ<|zZ
             ·replace hb20:=bne_iff_ne.1 hb20
              refine zE (jY fo68_5)<|zR (jZ kK)<|zE uT<|zE (oV (vb (decide ((b.obs.getD k (kL.mk 0 0 0 0 (A2.mk 0 0) 0)).weight<1))) (kA (by kernel_rfl)))<|?_
              rcases hb21:(decide ((b.obs.getD k (kL.mk 0 0 0 0 (A2.mk 0 0) 0)).weight<1)) with _ | _
              ·replace hb21:=uZ hb21
               exact zE (jY fo68_5)<|zR (jZ kK)<|zE cC<|zE zG<|zE aC<|zE zG<|zZ
              ·replace hb21:=uY hb21
               exact zK<|zK<|zK<|zE uP<|zE uP<|zE mJ<|zZ
            ·exact zK<|zK<|zK<|zK<|zK<|zK<|zK<|zK<|zK<|zK<|zK<|zK<|zK<|zE uP<|zZ
          refine jF rfl (fun h22=>?_) (fun h22=>?_)
          ·refine jA<|kx [(2,(jN 2))] [] (zM<|zZ) ?_
           refine jG ⟨_,(.tmp (d:=(.val (.int .i64 (2)))) rfl .nil),?_⟩
           have hq:bC b k=2:=by
            unfold bC
            rw[if_neg (ne_true_of_eq_false (by exact h12))]
            rw[if_neg (ne_true_of_eq_false (by exact h13))]
            rw[if_neg (ne_true_of_eq_false (by exact h14))]
            rw[if_neg (ne_true_of_eq_false (by exact h15))]
            rw[if_pos (by exact h22)]
           rw[rc_o h2 h5 hs1 hp1 (show k<b.obs.length by omega) hv hq (by decide)];rfl
          ·refine jD<|jA<|kx [(9,(jN 0))] [] (zM<|zZ) ?_
           refine jH<|kF (α:=Nat) (fun k2=>⟨[(1,(.ref 0 0)),(7,(jN k)),(8,(.ref 1 0)),(9,(jN k2))],[(0,some (bx (kJ b))),(1,some (bx (qN (b.obs.getD k (kL.mk 0 0 0 0 (A2.mk 0 0) 0)))))]⟩) (fun k2=>k2<=k/\∀ j,j<k2->dpB b k j=false) (fun k2=>k-k2) 0 wk ⟨Nat.zero_le _,fun j hj=>absurd hj (Nat.not_lt_zero j)⟩ ?_
           rintro k2 ⟨hk2,hw⟩
           refine jA<|jA<|kx [(131,(vb (decide (((k2:Nat):Int)<((k:Nat):Int)))))] [] (zM<|zM<|zE uT<|zZ) ?_
           refine jF rfl (fun h23=>?_) (fun h23=>?_)
           ·replace h23:=uY h23
            refine jD<|jA<|jH<|jA<|kd [(145,(vb (((b.obs.getD k (kL.mk 0 0 0 0 (A2.mk 0 0) 0)).kind == 4)&&(decide ([(b.obs.getD k2 (kL.mk 0 0 0 0 (A2.mk 0 0) 0)).kind,(b.obs.getD k2 (kL.mk 0 0 0 0 (A2.mk 0 0) 0)).a,(b.obs.getD k2 (kL.mk 0 0 0 0 (A2.mk 0 0) 0)).b,(b.obs.getD k2 (kL.mk 0 0 0 0 (A2.mk 0 0) 0)).axis,((b.obs.getD k2 (kL.mk 0 0 0 0 (A2.mk 0 0) 0)).value).a0,((b.obs.getD k2 (kL.mk 0 0 0 0 (A2.mk 0 0) 0)).value).a1,(b.obs.getD k2 (kL.mk 0 0 0 0 (A2.mk 0 0) 0)).weight]=[(b.obs.getD k (kL.mk 0 0 0 0 (A2.mk 0 0) 0)).kind,(b.obs.getD k (kL.mk 0 0 0 0 (A2.mk 0 0) 0)).a,(b.obs.getD k (kL.mk 0 0 0 0 (A2.mk 0 0) 0)).b,(b.obs.getD k (kL.mk 0 0 0 0 (A2.mk 0 0) 0)).axis,((b.obs.getD k (kL.mk 0 0 0 0 (A2.mk 0 0) 0)).value).a0,((b.obs.getD k (kL.mk 0 0 0 0 (A2.mk 0 0) 0)).value).a1,(b.obs.getD k (kL.mk 0 0 0 0 (A2.mk 0 0) 0)).weight])))))] [] mo ?_ ?_
            ·refine wE (jY zD)<|wR (jZ eK)<|wE zW<|wE (oV (vb ((b.obs.getD k (kL.mk 0 0 0 0 (A2.mk 0 0) 0)).kind == 4)) (kA (by kernel_rfl)))<|?_
             rcases hb24:((b.obs.getD k (kL.mk 0 0 0 0 (A2.mk 0 0) 0)).kind == 4) with _ | _
             ·replace hb24:=ne_of_beq_false hb24
              exact wK<|wK<|wK<|wK<|wK<|wK<|wK<|wE mJ<|wZ
             ·replace hb24:=eq_of_beq hb24
              exact wE (jY aW)<|wR (jZ sh24)<|wM<|wE (nA el24 k2 (kL.mk 0 0 0 0 (A2.mk 0 0) 0))<|wE (oCa sh68)<|wR (qE sh68)<|wE (oEn eqn68 .i64 [(b.obs.getD k2 (kL.mk 0 0 0 0 (A2.mk 0 0) 0)).kind,(b.obs.getD k2 (kL.mk 0 0 0 0 (A2.mk 0 0) 0)).a,(b.obs.getD k2 (kL.mk 0 0 0 0 (A2.mk 0 0) 0)).b,(b.obs.getD k2 (kL.mk 0 0 0 0 (A2.mk 0 0) 0)).axis,((b.obs.getD k2 (kL.mk 0 0 0 0 (A2.mk 0 0) 0)).value).a0,((b.obs.getD k2 (kL.mk 0 0 0 0 (A2.mk 0 0) 0)).value).a1,(b.obs.getD k2 (kL.mk 0 0 0 0 (A2.mk 0 0) 0)).weight] [(b.obs.getD k (kL.mk 0 0 0 0 (A2.mk 0 0) 0)).kind,(b.obs.getD k (kL.mk 0 0 0 0 (A2.mk 0 0) 0)).a,(b.obs.getD k (kL.mk 0 0 0 0 (A2.mk 0 0) 0)).b,(b.obs.getD k (kL.mk 0 0 0 0 (A2.mk 0 0) 0)).axis,((b.obs.getD k (kL.mk 0 0 0 0 (A2.mk 0 0) 0)).value).a0,((b.obs.getD k (kL.mk 0 0 0 0 (A2.mk 0 0) 0)).value).a1,(b.obs.getD k (kL.mk 0 0 0 0 (A2.mk 0 0) 0)).weight])<|wE aC<|wZ
            refine jF rfl (fun h25=>?_) (fun h25=>?_)
            ·refine jA<|kx [(2,(jN 7))] [] (zM<|zZ) ?_
             refine jG ⟨_,(.tmp (d:=(.val (.int .i64 (7)))) rfl .nil),?_⟩
             have hq:bC b k=7:=by
              unfold bC
              rw[if_neg (ne_true_of_eq_false (by exact h12))]
              rw[if_neg (ne_true_of_eq_false (by exact h13))]
              rw[if_neg (ne_true_of_eq_false (by exact h14))]
              rw[if_neg (ne_true_of_eq_false (by exact h15))]
              rw[if_neg (ne_true_of_eq_false (by exact h22))]
              rw[if_pos (by exact dpA_y (j:=k2) (by omega) (by exact h25))]
             rw[rc_o h2 h5 hs1 hp1 (show k<b.obs.length by omega) hv hq (by decide)];rfl
            ·refine jD<|kx [(9,(jN (k2+1)))] [] (zM<|zE (uL (k2+1))<|zM<|zZ) ?_
             exact ⟨k2+1,wk,⟨by omega,gO hw (by exact h25)⟩,(by first|omega|(dsimp only;omega))⟩
           ·replace h23:=uZ h23
            have hq0:bC b k=0:=by
             unfold bC
             rw[if_neg (ne_true_of_eq_false (by exact h12))]
             rw[if_neg (ne_true_of_eq_false (by exact h13))]
             rw[if_neg (ne_true_of_eq_false (by exact h14))]
             rw[if_neg (ne_true_of_eq_false (by exact h15))]
             rw[if_neg (ne_true_of_eq_false (by exact h22))]
             rw[dpA_n (fun j hj=>hw j (by omega)),if_neg (by decide)]
            refine jS<|kx [(7,(jN (k+1)))] [] (zM<|zE (uL (k+1))<|zM<|zZ) ?_
            exact ⟨k+1,wk,⟨by omega,gO hv hq0⟩,(by first|omega|(dsimp only;omega))⟩
     ·replace h10:=uZ h10
      refine jS<|jA<|kx [(2,(jN 0))] [] (zM<|zZ) ?_
      refine jG ⟨_,(.tmp (d:=(.val (.int .i64 (0)))) rfl .nil),?_⟩
      rw[rc_0 h2 h5 hs1 hp1 (fun j hj=>hv j (by omega))];rfl
end Go.Proofs.YtciingpdmjepgaaGreat
