/- Part 33 of a proof: rules, plain facts, and functions walked. -/
import Derived.Test.YtciingpdmjepgaaGreatM32
import Derived.Test.YtciingpdmjepgaaGreatM28
set_option linter.all false
set_option maxRecDepth 4000
namespace Go.Proofs.YtciingpdmjepgaaGreat
open Go.Fid
theorem eqs111:eqsB Tryz.prog 111=some 3:=by kernel_rfl
theorem mk106:mapKB Tryz.prog 106=some (111,4):=by kernel_rfl
theorem pl111:mY Tryz.prog 111=some [(0,1),(1,1),(2,1)]:=by kernel_rfl
theorem sh111:kQ Tryz.prog 111=some (true,3):=by kernel_rfl
theorem ze30:uO Tryz.prog 30=some [.int .i64 0,.int .i64 0,.int .i64 0]:=by kernel_rfl
theorem ze38:uO Tryz.prog 38=some [.int .i64 0,.int .i64 0,.int .i64 0,.int .i64 0,.int .i64 0,.int .i64 0,.int .i64 0,.int .i64 0,.int .i64 0,.int .i64 0]:=by kernel_rfl
theorem ze111:uO Tryz.prog 111=some [.int .i64 0,.int .i64 0,.int .i64 0]:=by kernel_rfl
theorem zo30:nH [.int .i64 0,.int .i64 0,.int .i64 0] [.val (.int .i64 0),.val (.int .i64 0),.val (.int .i64 0)]:=by simp [nH,Value.oneCell']
theorem zo38:nH [.int .i64 0,.int .i64 0,.int .i64 0,.int .i64 0,.int .i64 0,.int .i64 0,.int .i64 0,.int .i64 0,.int .i64 0,.int .i64 0] [.val (.int .i64 0),.val (.int .i64 0),.val (.int .i64 0),.val (.int .i64 0),.val (.int .i64 0),.val (.int .i64 0),.val (.int .i64 0),.val (.int .i64 0),.val (.int .i64 0),.val (.int .i64 0)]:=by simp [nH,Value.oneCell']
theorem zo111:nH [.int .i64 0,.int .i64 0,.int .i64 0] [.val (.int .i64 0),.val (.int .i64 0),.val (.int .i64 0)]:=by simp [nH,Value.oneCell']
theorem zv4:zeroVm Tryz.prog 4=some (.bool false):=by kernel_rfl
theorem n_nc(b:qW)(hbs:b.sts.length<=1000)(hbp:b.pts.length<=1000)(hbo:b.obs.length<=1000):jU Tryz.prog 27 [(kJ b)] (.val (.int .i64 ((((ncC b):Nat):Int)))):=by
 refine vD Tryz.func27 ?_
 refine jA<|kx [(1,(.ref 0 0))] [(0,some (bx (kJ b)))] (zN (yB 0)<|zM<|zZ) ?_
 refine jA<|jA<|kx [(20,(vb ((b.dim != 2)&&(b.dim != 3))))] [] ?_ ?_
 ·refine zE (jY dA)<|zR (jZ kK)<|zE xX<|zE (oV (vb (b.dim != 2)) (kA (by kernel_rfl)))<|?_
  rcases hb1:(b.dim != 2) with _ | _
  ·replace hb1:=bne_eq_false_iff_eq.1 hb1
   exact zK<|zK<|zK<|zE mJ<|zZ
  ·replace hb1:=bne_iff_ne.1 hb1
   exact zE (jY dA)<|zR (jZ kK)<|zE xX<|zE aC<|zZ
 refine jF (b:=((b.dim != 2)&&(b.dim != 3))) rfl (fun h2=>?_) (fun h2=>?_)
 ·refine jA<|kx [(2,(jN 2))] [] (zM<|zZ) ?_
  refine jG ⟨_,(.tmp (d:=(.val (.int .i64 (2)))) rfl .nil),?_⟩
  unfold ncC
  rw[if_pos (by exact h2)];rfl
 ·refine jD<|jA<|jA<|kx [(36,(vb ((decide (64<((b.sts.length:Nat):Int))||decide (256<((b.pts.length:Nat):Int)))||decide (1024<((b.obs.length:Nat):Int)))))] [] ?_ ?_
  ·refine zE (jY gL)<|zR (jZ sh22)<|zE (vV eI)<|zE cC<|zE (oV (vb (decide (64<((b.sts.length:Nat):Int)))) (kA (by kernel_rfl)))<|?_
   rcases hb3:(decide (64<((b.sts.length:Nat):Int))) with _ | _
   ·replace hb3:=uZ hb3
    refine zE (jY dW)<|zR (jZ sh23)<|zE (vV el23)<|zE cC<|zE zG<|zE (oV (vb (false||decide (256<((b.pts.length:Nat):Int)))) (kA (by kernel_rfl)))<|?_
    rcases hb4:(false||decide (256<((b.pts.length:Nat):Int))) with _ | _
    ·replace hb4:=uZ (p:=(256<((b.pts.length:Nat):Int))) hb4
     exact zE (jY aW)<|zR (jZ sh24)<|zE (vV el24)<|zE cC<|zE zG<|zZ
    ·replace hb4:=uY (p:=(256<((b.pts.length:Nat):Int))) hb4
     exact zK<|zK<|zK<|zK<|zE uP<|zZ
   ·replace hb3:=uY hb3
    exact zK<|zK<|zK<|zK<|zE uP<|zM<|zK<|zK<|zK<|zK<|zE uP<|zZ
  refine jF rfl (fun h5=>?_) (fun h5=>?_)
  ·refine jA<|kx [(2,(jN 3))] [] (zM<|zZ) ?_
   refine jG ⟨_,(.tmp (d:=(.val (.int .i64 (3)))) rfl .nil),?_⟩
   unfold ncC
   rw[if_neg (ne_true_of_eq_false (by exact h2)),if_pos (by exact h5)];rfl
  ·refine jD<|jA<|jA<|kx [(38,(vl 38 10 uQ b.sts)),(39,(jN b.sts.length)),(40,(jN 0))] [] (zE (jY gL)<|zR (jZ sh22)<|zE (vV eI)<|zM<|zZ) ?_
   refine jH<|kF (α:=Nat) (fun i=>⟨[(1,(.ref 0 0)),(38,(vl 38 10 uQ b.sts)),(39,(jN b.sts.length)),(40,(jN i))],[(0,some (bx (kJ b)))]⟩) (fun i=>i<=b.sts.length/\∀ j,j<i->stN b.dim (b.sts.getD j cQ)=0) (fun i=>b.sts.length-i) 0 wk ⟨Nat.zero_le _,fun j hj=>absurd hj (Nat.not_lt_zero j)⟩ ?_
   rintro i ⟨hi,hv⟩
   refine jA<|kx [(41,(vb (decide (((i:Nat):Int)<((b.sts.length:Nat):Int)))))] [] (zE uT<|zZ) ?_
   refine jA<|jF rfl (fun h6=>?_) (fun h6=>?_)
   ·replace h6:=uY h6
    refine jD<|jA<|jH<|jA<|kx [(4,(.ref 1 0))] [(1,some (bx (uQ (b.sts.getD i (kM.mk (jM.mk 0 0 0) (jB.mk 0 0 0 0) 0 (qD.mk 0 0))))))] (zE (nA eI i (kM.mk (jM.mk 0 0 0) (jB.mk 0 0 0 0) 0 (qD.mk 0 0)))<|zE (oCa sh38)<|zN (vL 1 ze38 zo38)<|zT (qO sh38)<|zZ) ?_
    refine jA<|kx [(5,(jN (stN b.dim (b.sts.getD i (kM.mk (jM.mk 0 0 0) (jB.mk 0 0 0 0) 0 (qD.mk 0 0))))))] [] (zE (jY dA)<|zR (jZ kK)<|zR (qE sh38)<|zE (kD (n_stN b.dim (b.sts.getD i (kM.mk (jM.mk 0 0 0) (jB.mk 0 0 0 0) 0 (qD.mk 0 0)))))<|zM<|zZ) ?_
    refine jA<|kx [(49,(vb ((((stN b.dim (b.sts.getD i (kM.mk (jM.mk 0 0 0) (jB.mk 0 0 0 0) 0 (qD.mk 0 0)))):Nat):Int) != 0)))] [] (zM<|zE xX<|zZ) ?_
    refine jF rfl (fun h7=>?_) (fun h7=>?_)
    ·replace h7:=bne_iff_ne.1 h7
     refine jA<|kx [(2,(jN (stN b.dim (b.sts.getD i (kM.mk (jM.mk 0 0 0) (jB.mk 0 0 0 0) 0 (qD.mk 0 0))))))] [] (zM<|zM<|zZ) ?_
     refine jG ⟨_,(.tmp (d:=(.val (.int .i64 ((((stN b.dim (b.sts.getD i (kM.mk (jM.mk 0 0 0) (jB.mk 0 0 0 0) 0 (qD.mk 0 0)))):Nat):Int))))) rfl .nil),?_⟩
     rw[nc_s (i:=i) h2 h5 (by omega) hv (ne_nat h7)];rfl
    ·replace h7:=bne_eq_false_iff_eq.1 h7
     refine jD<|kx [(40,(jN (i+1)))] [] (zE (uL (i+1))<|zM<|zZ) ?_
     exact ⟨i+1,wk,⟨by omega,gO hv (Int.ofNat.inj h7)⟩,(by first|omega|(dsimp only;omega))⟩
   ·replace h6:=uZ h6
    have hs1:∀ j,j<b.sts.length->stN b.dim (b.sts.getD j cQ)=0:=fun j hj=>hv j (by omega)
    refine jS<|jA<|jA<|kx [(53,(vl 30 3 kH b.pts)),(54,(jN b.pts.length)),(55,(jN 0))] [] (zE (jY dW)<|zR (jZ sh23)<|zE (vV el23)<|zM<|zZ) ?_
    refine jH<|kF (α:=Nat) (fun i2=>⟨[(1,(.ref 0 0)),(53,(vl 30 3 kH b.pts)),(54,(jN b.pts.length)),(55,(jN i2))],[(0,some (bx (kJ b)))]⟩) (fun i2=>i2<=b.pts.length/\∀ j,j<i2->ptN b.dim (b.pts.getD j nP0)=0) (fun i2=>b.pts.length-i2) 0 wk ⟨Nat.zero_le _,fun j hj=>absurd hj (Nat.not_lt_zero j)⟩ ?_
    rintro i2 ⟨hj,hv⟩
    refine jA<|kx [(56,(vb (decide (((i2:Nat):Int)<((b.pts.length:Nat):Int)))))] [] (zE uT<|zZ) ?_
    refine jA<|jF rfl (fun h8=>?_) (fun h8=>?_)
    ·replace h8:=uY h8
     refine jD<|jA<|jH<|jA<|kx [(7,(.ref 2 0))] [(2,some (bx (kH (b.pts.getD i2 (jM.mk 0 0 0)))))] (zE (nA el23 i2 (jM.mk 0 0 0))<|zE (oCa nZ)<|zN (vL 2 ze30 zo30)<|zT (qO nZ)<|zZ) ?_
     refine jA<|jA<|kx [(66,(vb ([(b.pts.getD i2 (jM.mk 0 0 0)).x,(b.pts.getD i2 (jM.mk 0 0 0)).y,(b.pts.getD i2 (jM.mk 0 0 0)).z].any (xA 1048576))))] [] (zE (jY fo30_0)<|zR (jZ kK)<|zE (jY dC)<|zR (jZ kK)<|zE (jY fo30_2)<|zR (jZ kK)<|zE (eG xN ze3 zo3)<|zE (kD (n_far 1048576 (by omega) (by omega) [(b.pts.getD i2 (jM.mk 0 0 0)).x,(b.pts.getD i2 (jM.mk 0 0 0)).y,(b.pts.getD i2 (jM.mk 0 0 0)).z] (by first | assumption | exact sL_len _ | exact pL_len _ | (simp only[List.length_cons,List.length_nil];omega))))<|zZ) ?_
     refine jF rfl (fun h9=>?_) (fun h9=>?_)
     ·refine jA<|kx [(2,(jN 2))] [] (zM<|zZ) ?_
      refine jG ⟨_,(.tmp (d:=(.val (.int .i64 (2)))) rfl .nil),?_⟩
      rw[nc_p (i:=i2) h2 h5 hs1 (by omega) hv (c:=2) (by unfold ptN;rw[if_pos (by exact h9)]) (by decide)];rfl
     ·refine jD<|jA<|kx [(74,(vb ((b.dim == 2)&&((b.pts.getD i2 (jM.mk 0 0 0)).y != 0))))] [] ?_ ?_
      ·refine zE (jY dA)<|zR (jZ kK)<|zE zW<|zE (oV (vb (b.dim == 2)) (kA (by kernel_rfl)))<|?_
       rcases hb10:(b.dim == 2) with _ | _
       ·replace hb10:=ne_of_beq_false hb10
        exact zK<|zK<|zK<|zE mJ<|zZ
       ·replace hb10:=eq_of_beq hb10
        exact zE (jY dC)<|zR (jZ kK)<|zE xX<|zE aC<|zZ
      refine jF rfl (fun h11=>?_) (fun h11=>?_)
      ·refine jA<|kx [(2,(jN 1))] [] (zM<|zZ) ?_
       refine jG ⟨_,(.tmp (d:=(.val (.int .i64 (1)))) rfl .nil),?_⟩
       rw[nc_p (i:=i2) h2 h5 hs1 (by omega) hv (c:=1) (by unfold ptN;rw[if_neg (ne_true_of_eq_false (by exact h9)),if_pos (by exact h11)]) (by decide)];rfl
      ·have hq1:ptN b.dim (b.pts.getD i2 nP0)=0:=by unfold ptN;rw[if_neg (ne_true_of_eq_false (by exact h9)),if_neg (ne_true_of_eq_false (by exact h11))]
       refine jD<|kx [(55,(jN (i2+1)))] [] (zE (uL (i2+1))<|zM<|zZ) ?_
       exact ⟨i2+1,wk,⟨by omega,gO hv hq1⟩,(by first|omega|(dsimp only;omega))⟩
    ·replace h8:=uZ h8
     have hp1:∀ j,j<b.pts.length->ptN b.dim (b.pts.getD j nP0)=0:=fun j hj=>hv j (by omega)
     refine jS<|jA<|kx [(8,(.mp 3))] [(3,some [.mo (mpo kT3 vTt [])])] (zN (oMm 3 kT3 vTt)<|zM<|zZ) ?_
     refine jA<|jA<|kx [(78,(vl 68 7 qN b.obs)),(79,(jN b.obs.length)),(80,(jN 0))] [] (zE (jY aW)<|zR (jZ sh24)<|zE (vV el24)<|zM<|zZ) ?_
     refine jH<|kF (α:=Nat × List (I3K × Unit)) (fun (i,K)=>⟨[(1,(.ref 0 0)),(8,(.mp 3)),(78,(vl 68 7 qN b.obs)),(79,(jN b.obs.length)),(80,(jN i))],[(0,some (bx (kJ b))),(3,some [.mo (mpo kT3 vTt K)])]⟩) (fun (i,K)=>i<=b.obs.length/\obsC b K (b.obs.drop i)=obsC b [] b.obs) (fun (i,K)=>b.obs.length-i) (0,[]) wk ⟨Nat.zero_le _,rfl⟩ ?_
     rintro ⟨i,K⟩ ⟨hi,hv⟩
     refine jA<|kx [(81,(vb (decide (((i:Nat):Int)<((b.obs.length:Nat):Int)))))] [] (zE uT<|zZ) ?_
     refine jA<|jF rfl (fun h12=>?_) (fun h12=>?_)
     ·replace h12:=uY h12
      refine jD<|jA<|jH<|jA<|kx [(10,(.ref 4 0))] [(4,some (bx (qN (b.obs.getD i (kL.mk 0 0 0 0 (A2.mk 0 0) 0)))))] (zE (nA el24 i (kL.mk 0 0 0 0 (A2.mk 0 0) 0))<|zE (oCa sh68)<|zN (vL 4 ze68 zo68)<|zT (qO sh68)<|zZ) ?_
      refine jA<|jA<|kx [(91,(vb (decide ((b.obs.getD i (kL.mk 0 0 0 0 (A2.mk 0 0) 0)).kind<0)||decide (4<(b.obs.getD i (kL.mk 0 0 0 0 (A2.mk 0 0) 0)).kind))))] [] ?_ ?_
      ·refine zE (jY zD)<|zR (jZ eK)<|zE uT<|zE (oV (vb (decide ((b.obs.getD i (kL.mk 0 0 0 0 (A2.mk 0 0) 0)).kind<0))) (kA (by kernel_rfl)))<|?_
       rcases hb13:(decide ((b.obs.getD i (kL.mk 0 0 0 0 (A2.mk 0 0) 0)).kind<0)) with _ | _
       ·replace hb13:=uZ hb13
        exact zE (jY zD)<|zR (jZ eK)<|zE cC<|zE zG<|zZ
       ·replace hb13:=uY hb13
        exact zK<|zK<|zK<|zE uP<|zZ
      refine jF rfl (fun h14=>?_) (fun h14=>?_)
      ·refine jA<|kx [(2,(jN 1))] [] (zM<|zZ) ?_
       refine jG ⟨_,(.tmp (d:=(.val (.int .i64 (1)))) rfl .nil),?_⟩
       have hq:fZ b (b.obs.getD i nO0)=1:=by
        unfold fZ
        rw[if_pos (by exact h14)]
       rw[nc_o h2 h5 hs1 hp1,<- hv,obs_e (show i<b.obs.length by omega) hq (by decide)];rfl
      ·refine jD<|jA<|jA<|kx [(101,(vb (((sL (b.obs.getD i (kL.mk 0 0 0 0 (A2.mk 0 0) 0))).any (dH ((b.sts.length:Nat):Int)))||((pL (b.obs.getD i (kL.mk 0 0 0 0 (A2.mk 0 0) 0))).any (dH ((b.pts.length:Nat):Int))))))] [] ?_ ?_
       ·refine zR (qE sh68)<|zE (kD (n_sL (b.obs.getD i (kL.mk 0 0 0 0 (A2.mk 0 0) 0))))<|zE (oMf [0])<|zC (oCg [(0,(jW.cells (kJ b)))] [(vl 3 1 jT (sL (b.obs.getD i (kL.mk 0 0 0 0 (A2.mk 0 0) 0)))),(.clo 56 [0])] (n_outA1 (sL (b.obs.getD i (kL.mk 0 0 0 0 (A2.mk 0 0) 0))) b (by first | assumption | exact sL_len _ | exact pL_len _ | (simp only[List.length_cons,List.length_nil];omega))) (.d (.c (css:=[(jW.cells (kJ b))]) (.cons (.head _) .nil) .nil)) (.val _))<|zE (oV (vb ((sL (b.obs.getD i (kL.mk 0 0 0 0 (A2.mk 0 0) 0))).any (dH ((b.sts.length:Nat):Int)))) (kA (by kernel_rfl)))<|?_
        rcases hb15:((sL (b.obs.getD i (kL.mk 0 0 0 0 (A2.mk 0 0) 0))).any (dH ((b.sts.length:Nat):Int))) with _ | _
        ·exact zR (qE sh68)<|zE (kD (n_pL (b.obs.getD i (kL.mk 0 0 0 0 (A2.mk 0 0) 0))))<|zE (oMf [0])<|zC (oCg [(0,(jW.cells (kJ b)))] [(vl 3 1 jT (pL (b.obs.getD i (kL.mk 0 0 0 0 (A2.mk 0 0) 0)))),(.clo 58 [0])] (n_outA2 (pL (b.obs.getD i (kL.mk 0 0 0 0 (A2.mk 0 0) 0))) b (by first | assumption | exact sL_len _ | exact pL_len _ | (simp only[List.length_cons,List.length_nil];omega))) (.d (.c (css:=[(jW.cells (kJ b))]) (.cons (.head _) .nil) .nil)) (.val _))<|zE zG<|zZ
        ·exact zK<|zK<|zK<|zK<|zE uP<|zZ
       refine jF rfl (fun h16=>?_) (fun h16=>?_)
       ·refine jA<|kx [(2,(jN 6))] [] (zM<|zZ) ?_
        refine jG ⟨_,(.tmp (d:=(.val (.int .i64 (6)))) rfl .nil),?_⟩
        have hq:fZ b (b.obs.getD i nO0)=6:=by
         unfold fZ
         rw[if_neg (ne_true_of_eq_false (by exact h14))]
         rw[if_pos (by exact h16)]
        rw[nc_o h2 h5 hs1 hp1,<- hv,obs_e (show i<b.obs.length by omega) hq (by decide)];rfl
       ·refine jD<|jA<|jA<|kx [(105,(vb (odN b.dim (b.obs.getD i (kL.mk 0 0 0 0 (A2.mk 0 0) 0)))))] [] (zE (jY dA)<|zR (jZ kK)<|zR (qE sh68)<|zE (kD (n_oddN b.dim (b.obs.getD i (kL.mk 0 0 0 0 (A2.mk 0 0) 0))))<|zZ) ?_
        refine jF rfl (fun h17=>?_) (fun h17=>?_)
        ·refine jA<|kx [(2,(jN 1))] [] (zM<|zZ) ?_
         refine jG ⟨_,(.tmp (d:=(.val (.int .i64 (1)))) rfl .nil),?_⟩
         have hq:fZ b (b.obs.getD i nO0)=1:=by
          unfold fZ
          rw[if_neg (ne_true_of_eq_false (by exact h14))]
          rw[if_neg (ne_true_of_eq_false (by exact h16))]
          rw[if_pos (by exact h17)]
         rw[nc_o h2 h5 hs1 hp1,<- hv,obs_e (show i<b.obs.length by omega) hq (by decide)];rfl
        ·have k1:kdB (b.obs.getD i nO0)=false:=h14
         have k2:obM b (b.obs.getD i nO0)=false:=h16
         have k3:odN b.dim (b.obs.getD i nO0)=false:=h17
         refine jD<|jA<|kx [(11,(vb (decide ((b.obs.getD i (kL.mk 0 0 0 0 (A2.mk 0 0) 0)).weight<1)||decide (1048576<(b.obs.getD i (kL.mk 0 0 0 0 (A2.mk 0 0) 0)).weight))))] [] ?_ ?_
         ·refine zE (jY fo68_5)<|zR (jZ kK)<|zE uT<|zE (oV (vb (decide ((b.obs.getD i (kL.mk 0 0 0 0 (A2.mk 0 0) 0)).weight<1))) (kA (by kernel_rfl)))<|?_
          rcases hb18:(decide ((b.obs.getD i (kL.mk 0 0 0 0 (A2.mk 0 0) 0)).weight<1)) with _ | _
          ·replace hb18:=uZ hb18
           exact zE (jY fo68_5)<|zR (jZ kK)<|zE cC<|zE zG<|zM<|zZ
          ·replace hb18:=uY hb18
           exact zK<|zK<|zK<|zE uP<|zM<|zZ
         refine pwp_meet (α:=Bool) (fun wt=>⟨[(1,(.ref 0 0)),(8,(.mp 3)),(10,(.ref 4 0)),(11,(vb wt)),(78,(vl 68 7 qN b.obs)),(79,(jN b.obs.length)),(80,(jN i))],[(0,some (bx (kJ b))),(3,some [.mo (mpo kT3 vTt K)]),(4,some (bx (qN (b.obs.getD i (kL.mk 0 0 0 0 (A2.mk 0 0) 0)))))]⟩) (fun wt=>wt=wtB (b.obs.getD i nO0)) ?_ ?_
         ·refine jA<|kx [(116,(vb ((b.obs.getD i (kL.mk 0 0 0 0 (A2.mk 0 0) 0)).kind == 4)))] [] (zE (jY zD)<|zR (jZ eK)<|zE zW<|zZ) ?_
          refine jF rfl (fun h19=>?_) (fun h19=>?_)
          ·replace h19:=eq_of_beq h19
           refine kx [(11,(vb ((b.obs.getD i (kL.mk 0 0 0 0 (A2.mk 0 0) 0)).weight != 0)))] [] (zE (jY fo68_5)<|zR (jZ kK)<|zE xX<|zM<|zZ) ?_
           exact met ((b.obs.getD i (kL.mk 0 0 0 0 (A2.mk 0 0) 0)).weight != 0) wk (by unfold wtB;rw[if_pos h19])
          ·replace h19:=ne_of_beq_false h19
           refine jD ?_
           exact met (decide ((b.obs.getD i (kL.mk 0 0 0 0 (A2.mk 0 0) 0)).weight<1)||decide (1048576<(b.obs.getD i (kL.mk 0 0 0 0 (A2.mk 0 0) 0)).weight)) wk (by unfold wtB;rw[if_neg h19])
         ·rintro wt hwt
          refine jA<|jA<|kx [(130,(vb (wt||([((b.obs.getD i (kL.mk 0 0 0 0 (A2.mk 0 0) 0)).value).a0,((b.obs.getD i (kL.mk 0 0 0 0 (A2.mk 0 0) 0)).value).a1].any (xA 1099511627776)))))] [] ?_ ?_
          ·refine zM<|zE (oV (vb wt) (kA (by kernel_rfl)))<|?_
           rcases hb20:wt with _ | _
           ·exact zE (jY aQ)<|zE (aB ar66 0)<|zR (jZ kK)<|zE (jY aQ)<|zE (aB ar66 1)<|zR (jZ kK)<|zE (eG xN ze3 zo3)<|zE (kD (n_far 1099511627776 (by omega) (by omega) [((b.obs.getD i (kL.mk 0 0 0 0 (A2.mk 0 0) 0)).value).a0,((b.obs.getD i (kL.mk 0 0 0 0 (A2.mk 0 0) 0)).value).a1] (by first | assumption | exact sL_len _ | exact pL_len _ | (simp only[List.length_cons,List.length_nil];omega))))<|zE zG<|zZ
           ·exact zK<|zK<|zK<|zK<|zK<|zK<|zK<|zK<|zE uP<|zZ
          refine jF rfl (fun h21=>?_) (fun h21=>?_)
          ·refine jA<|kx [(2,(jN 2))] [] (zM<|zZ) ?_
           refine jG ⟨_,(.tmp (d:=(.val (.int .i64 (2)))) rfl .nil),?_⟩
           have hq:fZ b (b.obs.getD i nO0)=2:=by
            unfold fZ
            rw[if_neg (ne_true_of_eq_false (by exact k1))]
            rw[if_neg (ne_true_of_eq_false (by exact k2))]
            rw[if_neg (ne_true_of_eq_false (by exact k3))]
            rw[if_pos (by exact (show obF (b.obs.getD i nO0)=true by unfold obF;rw[<- hwt];exact h21))]
           rw[nc_o h2 h5 hs1 hp1,<- hv,obs_e (show i<b.obs.length by omega) hq (by decide)];rfl
          ·have hq0:fZ b (b.obs.getD i nO0)=0:=by
            unfold fZ
            rw[if_neg (ne_true_of_eq_false k1),if_neg (ne_true_of_eq_false k2),if_neg (ne_true_of_eq_false k3),if_neg (ne_true_of_eq_false (show obF (b.obs.getD i nO0)=false by unfold obF;rw[<- hwt];exact h21))]
           refine jD<|jA<|kx [(133,(vb ((b.obs.getD i (kL.mk 0 0 0 0 (A2.mk 0 0) 0)).kind == 4)))] [] (zE (jY zD)<|zR (jZ eK)<|zE zW<|zZ) ?_
           refine jF rfl (fun h22=>?_) (fun h22=>?_)
           ·replace h22:=eq_of_beq h22
            refine jA<|kx [(12,(.ref 5 0))] [(5,some (bx (encNam (RNam.mk ((b.obs.getD i (kL.mk 0 0 0 0 (A2.mk 0 0) 0)).a) ((b.obs.getD i (kL.mk 0 0 0 0 (A2.mk 0 0) 0)).b) ((b.obs.getD i (kL.mk 0 0 0 0 (A2.mk 0 0) 0)).axis)))))] (zE (jY mX)<|zR (jZ kK)<|zE (jY nG)<|zR (jZ kK)<|zE (jY mO)<|zR (jZ kK)<|zE (oBd pl111 ze111 zo111)<|zN (vL 5 ze111 zo111)<|zT (qO sh111)<|zZ) ?_
            refine jA<|jA<|kx [(143,(vb ((fL K ((b.obs.getD i (kL.mk 0 0 0 0 (A2.mk 0 0) 0)).a,(b.obs.getD i (kL.mk 0 0 0 0 (A2.mk 0 0) 0)).b,(b.obs.getD i (kL.mk 0 0 0 0 (A2.mk 0 0) 0)).axis)).isSome)))] [] (zM<|zR (qE sh111)<|zR (oGu (l:=K) mk106 (keyS3 eqs111) zv4 ((b.obs.getD i (kL.mk 0 0 0 0 (A2.mk 0 0) 0)).a,(b.obs.getD i (kL.mk 0 0 0 0 (A2.mk 0 0) 0)).b,(b.obs.getD i (kL.mk 0 0 0 0 (A2.mk 0 0) 0)).axis) (fun _ _ _ h=>rep_T3 h))<|zZ) ?_
            refine jF rfl (fun h23=>?_) (fun h23=>?_)
            ·refine jA<|kx [(2,(jN 7))] [] (zM<|zZ) ?_
             refine jG ⟨_,(.tmp (d:=(.val (.int .i64 (7)))) rfl .nil),?_⟩
             rw[nc_o h2 h5 hs1 hp1,<- hv,obs_d (show i<b.obs.length by omega) hq0 h22 (by exact h23)];rfl
            ·refine jD<|kx [] [(3,some [.mo (mpo kT3 vTt (K++[(((b.obs.getD i (kL.mk 0 0 0 0 (A2.mk 0 0) 0)).a,(b.obs.getD i (kL.mk 0 0 0 0 (A2.mk 0 0) 0)).b,(b.obs.getD i (kL.mk 0 0 0 0 (A2.mk 0 0) 0)).axis),())]))])] (zM<|zR (qE sh111)<|zT (oIu (l:=K) mk106 (keyS3 eqs111) ((b.obs.getD i (kL.mk 0 0 0 0 (A2.mk 0 0) 0)).a,(b.obs.getD i (kL.mk 0 0 0 0 (A2.mk 0 0) 0)).b,(b.obs.getD i (kL.mk 0 0 0 0 (A2.mk 0 0) 0)).axis) (fun _ _ _ h=>rep_T3 h) (by assumption))<|zZ) ?_
             refine kx [(80,(jN (i+1)))] [] (zE (uL (i+1))<|zM<|zZ) ?_
             exact ⟨(i+1,K++[(kyO (b.obs.getD i nO0),())]),wk,⟨by omega,(obs_k (show i<b.obs.length by omega) hq0 h22 (by exact h23)).symm.trans hv⟩,(by first|omega|(dsimp only;omega))⟩
           ·replace h22:=ne_of_beq_false h22
            refine jD<|kx [(80,(jN (i+1)))] [] (zE (uL (i+1))<|zM<|zZ) ?_
            exact ⟨(i+1,K),wk,⟨by omega,(obs_n (show i<b.obs.length by omega) hq0 h22).symm.trans hv⟩,(by first|omega|(dsimp only;omega))⟩
     ·replace h12:=uZ h12
      refine jS<|jA<|kx [(2,(jN 0))] [] (zM<|zZ) ?_
      refine jG ⟨_,(.tmp (d:=(.val (.int .i64 (0)))) rfl .nil),?_⟩
      rw[nc_o h2 h5 hs1 hp1,<- hv,show i=b.obs.length by omega,List.drop_length];rfl
end Go.Proofs.YtciingpdmjepgaaGreat
