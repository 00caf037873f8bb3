/- Part 36 of a proof: rules, plain facts, and functions walked. -/
import Derived.Test.YtciingpdmjepgaaGreatM35
import Derived.OpenShut
import Derived.Test.YtciingpdmjepgaaGreatM6
import Derived.ChangeArms
import Derived.SizedLaws
import Derived.ChangeShapes
import Derived.WideShapes
import Derived.RowKit
import Derived.Carry
import Derived.ChangeOld
import Derived.WideKeyElems2
import Derived.Seven
set_option linter.all false
set_option maxRecDepth 4000
namespace Go.Proofs.YtciingpdmjepgaaGreat
open Go.Fid
theorem eqn56:eqnB Tryz.prog 56=some 6:=by kernel_rfl
theorem w_tt(b:qW)(q:jB)(sh:jM)(hA:∀ j,j<b.sts.length->spOk (b.sts.getD j cQ).at_)(hP:∀ j,j<b.pts.length->spOk (b.pts.getD j nP0))(hS:spOk sh):jU Tryz.prog 3 [(kJ b),(jI q),(kH sh)] (.val (.bool (true))):=by
 refine vD Tryz.func3 ?_
 refine jA<|kx [(3,(.ref 0 0)),(4,(.ref 1 0)),(5,(.ref 2 0))] [(0,some (bx (kJ b))),(1,some (bx (jI q))),(2,some (bx (kH sh)))] (zN (yB 0)<|zN (yB 1)<|zN (yB 2)<|zM<|zZ) ?_
 refine jA<|jA<|kx [(24,(vb false))] [] (zE (kD r_awake)<|zE eU<|zZ) ?_
 refine uU ?_
 refine jD<|jA<|jA<|kx [(51,(vb ((((decide (((b.sts.length:Nat):Int)<((1:Nat):Int))||decide (((5:Nat):Int)<((b.sts.length:Nat):Int)))||decide (((8:Nat):Int)<((b.pts.length:Nat):Int)))||decide (((24:Nat):Int)<((b.obs.length:Nat):Int)))||((((rcC b):Nat):Int) != ((0:Nat):Int)))))] [] ?_ ?_
 ·refine zE (jY gL)<|zR (jZ sh22)<|zE (vV eI)<|zE uT<|zE (oV (vb (decide (((b.sts.length:Nat):Int)<((1:Nat):Int)))) (kA (by kernel_rfl)))<|?_
  rcases hb1:(decide (((b.sts.length:Nat):Int)<((1:Nat):Int))) with _ | _
  ·replace hb1:=uZ hb1
   refine zE (jY gL)<|zR (jZ sh22)<|zE (vV eI)<|zE cC<|zE zG<|zE (oV (vb (false||decide (((5:Nat):Int)<((b.sts.length:Nat):Int)))) (kA (by kernel_rfl)))<|?_
   rcases hb2:(decide (((5:Nat):Int)<((b.sts.length:Nat):Int))) with _ | _
   ·replace hb2:=uZ hb2
    refine zE (jY dW)<|zR (jZ sh23)<|zE (vV el23)<|zE cC<|zE zG<|zE (oV (vb (false||decide (((8:Nat):Int)<((b.pts.length:Nat):Int)))) (kA (by kernel_rfl)))<|?_
    rcases hb3:(decide (((8:Nat):Int)<((b.pts.length:Nat):Int))) with _ | _
    ·replace hb3:=uZ hb3
     refine zE (jY aW)<|zR (jZ sh24)<|zE (vV el24)<|zE cC<|zE zG<|zE (oV (vb (false||decide (((24:Nat):Int)<((b.obs.length:Nat):Int)))) (kA (by kernel_rfl)))<|?_
     rcases hb4:(decide (((24:Nat):Int)<((b.obs.length:Nat):Int))) with _ | _
     ·replace hb4:=uZ hb4
      exact zR (qE dB)<|zE (kD (n_rc b (by omega) (by omega) (by omega)))<|zE xX<|zE zG<|zZ
     ·replace hb4:=uY hb4
      exact zK<|zK<|zK<|zE uP<|zZ
    ·replace hb3:=uY hb3
     exact zK<|zK<|zK<|zK<|zE uP<|zM<|zK<|zK<|zK<|zE uP<|zZ
   ·replace hb2:=uY hb2
    exact zK<|zK<|zK<|zK<|zE uP<|zM<|zK<|zK<|zK<|zK<|zE uP<|zM<|zK<|zK<|zK<|zE uP<|zZ
  ·replace hb1:=uY hb1
   exact zK<|zK<|zK<|zK<|zE uP<|zM<|zK<|zK<|zK<|zK<|zE uP<|zM<|zK<|zK<|zK<|zK<|zE uP<|zM<|zK<|zK<|zK<|zE uP<|zZ
 refine jF rfl (fun h5=>?_) (fun h5=>?_)
 ·refine jA<|kx [(6,(vb true))] [] (zM<|zZ) ?_
  refine jG ⟨_,(.tmp (d:=(.val (.bool (true)))) rfl .nil),?_⟩
  rfl
 ·have hgd:=h5
  simp only[Bool.or_eq_false_iff,decide_eq_false_iff_not,bne_eq_false_iff_eq] at hgd
  obtain ⟨⟨⟨⟨g1,g2⟩,g3⟩,g4⟩,g5⟩:=hgd
  have hrc:rcC b=0:=by omega
  have hQ:∀ j,j<b.sts.length->mK (vW b j):=fun j hj=>rc_len hrc hj
  refine jD<|jA<|kx [(7,(.own 3 28 4 0))] [(3,some (xQ jI []))] (zO 3 28 4<|zZ) ?_
  refine jA<|jA<|kx [(53,(vl 38 10 uQ b.sts)),(54,(jN b.sts.length)),(55,(jN 0))] [] (zE (jY gL)<|zR (jZ sh22)<|zE (vV eI)<|zM<|zZ) ?_
  refine jH<|kF (α:=Nat × List jB) (fun (i,o)=>⟨[(3,(.ref 0 0)),(4,(.ref 1 0)),(5,(.ref 2 0)),(7,(.own 3 28 4 o.length)),(53,(vl 38 10 uQ b.sts)),(54,(jN b.sts.length)),(55,(jN i))],[(0,some (bx (kJ b))),(1,some (bx (jI q))),(2,some (bx (kH sh))),(3,some (xQ jI o))]⟩) (fun (i,o)=>i<=b.sts.length/\o=(b.sts.take i).map (fun s=>s.turn)/\∀ j,j<i->mxQ (vW b j)<=64) (fun (i,o)=>b.sts.length-i) (0,[]) wk ⟨Nat.zero_le _,rfl,fun j hj=>absurd hj (Nat.not_lt_zero j)⟩ ?_
  rintro ⟨i,o⟩ ⟨hi,ho,hm⟩
  have hol:o.length=i:=by rw[ho];exact tk_l hi
  refine jA<|kx [(56,(vb (decide (((i:Nat):Int)<((b.sts.length:Nat):Int)))))] [] (zE uT<|zZ) ?_
  refine jA<|jF rfl (fun h6=>?_) (fun h6=>?_)
  ·replace h6:=uY h6
   have hTi:mK (b.sts.getD i (kM.mk (jM.mk 0 0 0) (jB.mk 0 0 0 0) 0 (qD.mk 0 0))).turn:=hQ i (by omega)
   obtain ⟨⟨ta1,ta2⟩,⟨tb1,tb2⟩,⟨tc1,tc2⟩,td1,td2⟩:=hTi.2
   refine jD<|jA<|jH<|jA<|kx [(9,(.ref 4 0))] [(4,some (bx (uQ (b.sts.getD i (kM.mk (jM.mk 0 0 0) (jB.mk 0 0 0 0) 0 (qD.mk 0 0))))))] (zE (nA eI i (kM.mk (jM.mk 0 0 0) (jB.mk 0 0 0 0) 0 (qD.mk 0 0)))<|zE (oCa sh38)<|zH (vL 4 ze38 zo38)<|zT (qO sh38)<|zZ) ?_
   refine jA<|jA<|kx [(10,(.ref 5 0))] [(5,some (bx (jI ((b.sts.getD i (kM.mk (jM.mk 0 0 0) (jB.mk 0 0 0 0) 0 (qD.mk 0 0))).turn))))] (zE (jY cW)<|zR (qE qQ)<|zH (vL 5 gK gS)<|zT (qO qQ)<|zZ) ?_
   refine jA<|kx [(82,(vb (decide (((64:Nat):Int)<(mx8 (((b.sts.getD i (kM.mk (jM.mk 0 0 0) (jB.mk 0 0 0 0) 0 (qD.mk 0 0))).turn).a) (-(((b.sts.getD i (kM.mk (jM.mk 0 0 0) (jB.mk 0 0 0 0) 0 (qD.mk 0 0))).turn).a)) (((b.sts.getD i (kM.mk (jM.mk 0 0 0) (jB.mk 0 0 0 0) 0 (qD.mk 0 0))).turn).b) (-(((b.sts.getD i (kM.mk (jM.mk 0 0 0) (jB.mk 0 0 0 0) 0 (qD.mk 0 0))).turn).b)) (((b.sts.getD i (kM.mk (jM.mk 0 0 0) (jB.mk 0 0 0 0) 0 (qD.mk 0 0))).turn).c) (-(((b.sts.getD i (kM.mk (jM.mk 0 0 0) (jB.mk 0 0 0 0) 0 (qD.mk 0 0))).turn).c)) (((b.sts.getD i (kM.mk (jM.mk 0 0 0) (jB.mk 0 0 0 0) 0 (qD.mk 0 0))).turn).d) (-(((b.sts.getD i (kM.mk (jM.mk 0 0 0) (jB.mk 0 0 0 0) 0 (qD.mk 0 0))).turn).d)))))))] [] (zE (jY vB)<|zR (jZ kK)<|zE (jY vB)<|zR (jZ kK)<|zE (oNg (-(((b.sts.getD i (kM.mk (jM.mk 0 0 0) (jB.mk 0 0 0 0) 0 (qD.mk 0 0))).turn).a)) (hr:=by exact (qG (by first | omega | rfl | (dsimp only;omega)) (by simp only[vR];omega) (by simp only[vS];omega))))<|zE (jY uS)<|zR (jZ kK)<|zE (jY uS)<|zR (jZ kK)<|zE (oNg (-(((b.sts.getD i (kM.mk (jM.mk 0 0 0) (jB.mk 0 0 0 0) 0 (qD.mk 0 0))).turn).b)) (hr:=by exact (qG (by first | omega | rfl | (dsimp only;omega)) (by simp only[vR];omega) (by simp only[vS];omega))))<|zE (jY vA)<|zR (jZ kK)<|zE (jY vA)<|zR (jZ kK)<|zE (oNg (-(((b.sts.getD i (kM.mk (jM.mk 0 0 0) (jB.mk 0 0 0 0) 0 (qD.mk 0 0))).turn).c)) (hr:=by exact (qG (by first | omega | rfl | (dsimp only;omega)) (by simp only[vR];omega) (by simp only[vS];omega))))<|zE (jY uR)<|zR (jZ kK)<|zE (jY uR)<|zR (jZ kK)<|zE (oNg (-(((b.sts.getD i (kM.mk (jM.mk 0 0 0) (jB.mk 0 0 0 0) 0 (qD.mk 0 0))).turn).d)) (hr:=by exact (qG (by first | omega | rfl | (dsimp only;omega)) (by simp only[vR];omega) (by simp only[vS];omega))))<|zE oM8<|zE cC<|zZ) ?_
   refine jF rfl (fun h7=>?_) (fun h7=>?_)
   ·replace h7:=uY h7
    refine jA<|kx [(6,(vb true))] [] (zM<|zZ) ?_
    refine jG ⟨_,(.tmp (d:=(.val (.bool (true)))) rfl .nil),?_⟩
    rfl
   ·replace h7:=uZ h7
    refine jD<|kf [(7,(.own 3 28 4 ((o++[(b.sts.getD i (kM.mk (jM.mk 0 0 0) (jB.mk 0 0 0 0) 0 (qD.mk 0 0))).turn]).length)))] [(3,some (xQ jI (o++[(b.sts.getD i (kM.mk (jM.mk 0 0 0) (jB.mk 0 0 0 0) 0 (qD.mk 0 0))).turn])))] (zM<|zE (jY cW)<|zR (qE qQ)<|zE (eG eN gK gS)<|zAS jI o [(b.sts.getD i (kM.mk (jM.mk 0 0 0) (jB.mk 0 0 0 0) 0 (qD.mk 0 0))).turn] rfl eN gK by28<|zM<|zF) ?_
    refine kx [(55,(jN (i+1)))] [] (zE (uL (i+1) (hr:=by exact (qG (by first | omega | rfl | (dsimp only;omega)) (by simp only[vR];omega) (by simp only[vS];omega))))<|zM<|zZ) ?_
    exact ⟨(i+1,o++[(b.sts.getD i (kM.mk (jM.mk 0 0 0) (jB.mk 0 0 0 0) 0 (qD.mk 0 0))).turn]),wk,⟨by omega,by rw[ho];exact tk_s (f:=fun s:kM=>s.turn) (d:=cQ) (by omega),gO hm (show mxQ _<=64 from Int.not_lt.1 h7)⟩,(by first|omega|(dsimp only;omega))⟩
  ·replace h6:=uZ h6
   have ho2:o=b.sts.map (fun s=>s.turn):=by rw[ho,show i=b.sts.length by omega,List.take_length]
   have hro:rlOk (vW b) b.sts.length:=rl_64 (fun j hj=>⟨mxQ_64 (hm j (by omega)),hQ j hj⟩)
   obtain ⟨hrV,hrB⟩:=rl_yes hro
   have hrl:(vU (vW b) b.sts.length).length<=1000000:=Nat.le_trans (rlI_len _ _) (Nat.le_trans (Nat.mul_le_mul (show b.sts.length<=10 by omega) (show b.sts.length<=10 by omega)) (by decide))
   have hol5:o.length=b.sts.length:=by rw[ho2,List.length_map]
   have hol6:o.length<=1000000:=by omega
   obtain ⟨hlc,hcn⟩:=rl_con hQ hro (show 1<=b.sts.length by omega) (show b.sts.length<=10 by omega)
   obtain ⟨hE1,hE2⟩:=rl_ers hQ hro (ts:=o) hol5 (fun j hj=>by rw[ho2];exact gd_map (f:=fun s:kM=>s.turn) (d:=cQ) hj) (show 1<=b.sts.length by omega) (show b.sts.length<=10 by omega)
   refine jS<|jA<|kx [(11,(vl 56 6 kC (vU (vW b) b.sts.length))),(12,(vb (rlB (vW b) b.sts.length)))] [] (zR (qE dB)<|zE (kD (r_rel b hQ (by omega)))<|zM<|zE (oQd (.sl 56 6 (List.map kC (rlV (vW b) b.sts.length))) (.sl 56 6 (List.map kC (vU (vW b) b.sts.length))) vF (by exact (congrArg (fun l=>jW.sl 56 6 (List.map kC l)) hrV)))<|zE vF<|zM<|zM<|zZ) ?_
   refine jA<|jA<|kx [(95,(vb false))] [] (zM<|zE (gI false eU (by exact congrArg (!·) hrB))<|zZ) ?_
   refine uU ?_
   refine jD<|jA<|kU (xR (t:=7) (k:=3) (es:=List.map jI o) rfl rfl (nN _ _ (fun _=>rfl)) (vN _ _ rfl) (mN jI o (fun _=>rfl) rfl)) ?_
   refine kx [(13,(vb (conV ((b.sts.length:Nat):Int) (vU (vW b) b.sts.length)))),(14,(jN (fV ((b.sts.length:Nat):Int) (vU (vW b) b.sts.length))))] [] (zM<|zE (oQd (.val (.int .i64 (((o.length:Nat):Int)))) (.val (.int .i64 (((b.sts.length:Nat):Int)))) (vV eN) (by exact (congrArg (fun (c:Nat)=>jW.val (Value.int IntKind.i64 ((c:Nat):Int))) hol5)))<|zM<|zE (kD (l_Con ((b.sts.length:Nat):Int) (vU (vW b) b.sts.length) hrl))<|zM<|zE vF<|zE vF<|zM<|zM<|zZ) ?_
   refine jA<|kx [(15,(vl 51 4 qA (List.map gQ (zRl (vU (vW b) b.sts.length).length)))),(16,(jN 0))] [] (zM<|zE (oQd (.val (.int .i64 (((o.length:Nat):Int)))) (.val (.int .i64 (((b.sts.length:Nat):Int)))) (vV eN) (by exact (congrArg (fun (c:Nat)=>jW.val (Value.int IntKind.i64 ((c:Nat):Int))) hol5)))<|zM<|zM<|zE (kD (l_Errs ((b.sts.length:Nat):Int) (vU (vW b) b.sts.length) o hrl hol6))<|zM<|zE (oQd (.sl 51 4 (List.map qA (List.map gQ (ersV ((b.sts.length:Nat):Int) (vU (vW b) b.sts.length) o)))) (.sl 51 4 (List.map qA (List.map gQ (zRl (vU (vW b) b.sts.length).length)))) vF (by exact (congrArg (fun l=>jW.sl 51 4 (List.map qA (List.map gQ l))) (hE2.trans (rep_map _)))))<|zE (oQd (.val (.int .i64 ((((ersC ((b.sts.length:Nat):Int) (vU (vW b) b.sts.length) o):Nat):Int)))) (.val (.int .i64 (((0:Nat):Int)))) vF (by exact (congrArg (fun (c:Nat)=>jW.val (Value.int IntKind.i64 ((c:Nat):Int))) hE1)))<|zM<|zM<|zZ) ?_
   refine jA<|jA<|kx [(135,(vb ((((((((fV ((b.sts.length:Nat):Int) (vU (vW b) b.sts.length)):Nat):Int) != ((0:Nat):Int))&&((((fV ((b.sts.length:Nat):Int) (vU (vW b) b.sts.length)):Nat):Int) != ((3:Nat):Int)))||(((((fV ((b.sts.length:Nat):Int) (vU (vW b) b.sts.length)):Nat):Int) == ((0:Nat):Int))&&!(conV ((b.sts.length:Nat):Int) (vU (vW b) b.sts.length))))&&true)||((((zRl (vU (vW b) b.sts.length).length).length:Nat):Int) != (((vU (vW b) b.sts.length).length:Nat):Int)))))] [] ?_ ?_
   ·refine zM<|zE xX<|zE (oV (vb ((((fV ((b.sts.length:Nat):Int) (vU (vW b) b.sts.length)):Nat):Int) != ((0:Nat):Int))) (kA (by kernel_rfl)))<|?_
    rcases hb8:((((fV ((b.sts.length:Nat):Int) (vU (vW b) b.sts.length)):Nat):Int) != ((0:Nat):Int)) with _ | _
    ·replace hb8:=bne_eq_false_iff_eq.1 hb8
     refine zK<|zK<|zE mJ<|zM<|zM<|zE zW<|zE (oV (vb ((((fV ((b.sts.length:Nat):Int) (vU (vW b) b.sts.length)):Nat):Int) == ((0:Nat):Int))) (kA (by kernel_rfl)))<|?_
     rcases hb9:((((fV ((b.sts.length:Nat):Int) (vU (vW b) b.sts.length)):Nat):Int) == ((0:Nat):Int)) with _ | _
     ·replace hb9:=ne_of_beq_false hb9
      exact zK<|zK<|zE mJ<|zE mJ<|zM<|zM<|zE (gI false xX)<|zE mJ<|zM<|zM<|zE (oLn el44 ((zRl (vU (vW b) b.sts.length).length).length))<|zM<|zE (vV eF (L:=(vU (vW b) b.sts.length)))<|zE xX<|zE zG<|zZ
     ·replace hb9:=eq_of_beq hb9
      refine zM<|zE eU<|zE aC<|zE zG<|zE (oV (vb (false||(true&&!(conV ((b.sts.length:Nat):Int) (vU (vW b) b.sts.length))))) (kA (by kernel_rfl)))<|?_
      rcases hb10:(!(conV ((b.sts.length:Nat):Int) (vU (vW b) b.sts.length))) with _ | _
      ·exact zM<|zE (gI false xX)<|zE mJ<|zM<|zM<|zE (oLn el44 ((zRl (vU (vW b) b.sts.length).length).length))<|zM<|zE (vV eF (L:=(vU (vW b) b.sts.length)))<|zE xX<|zE zG<|zZ
      ·exact zK<|zK<|zE uP<|zM<|zK<|zK<|zK<|zK<|zK<|zE uP<|zZ
    ·replace hb8:=bne_iff_ne.1 hb8
     refine zM<|zE xX<|zE aC<|zE (oV (vb (true&&((((fV ((b.sts.length:Nat):Int) (vU (vW b) b.sts.length)):Nat):Int) != ((3:Nat):Int)))) (kA (by kernel_rfl)))<|?_
     rcases hb11:((((fV ((b.sts.length:Nat):Int) (vU (vW b) b.sts.length)):Nat):Int) != ((3:Nat):Int)) with _ | _
     ·replace hb11:=bne_eq_false_iff_eq.1 hb11
      refine zM<|zE zW<|zE (oV (vb ((((fV ((b.sts.length:Nat):Int) (vU (vW b) b.sts.length)):Nat):Int) == ((0:Nat):Int))) (kA (by kernel_rfl)))<|?_
      rcases hb12:((((fV ((b.sts.length:Nat):Int) (vU (vW b) b.sts.length)):Nat):Int) == ((0:Nat):Int)) with _ | _
      ·replace hb12:=ne_of_beq_false hb12
       exact zK<|zK<|zE mJ<|zE mJ<|zM<|zM<|zE (gI false xX)<|zE mJ<|zM<|zM<|zE (oLn el44 ((zRl (vU (vW b) b.sts.length).length).length))<|zM<|zE (vV eF (L:=(vU (vW b) b.sts.length)))<|zE xX<|zE zG<|zZ
      ·replace hb12:=eq_of_beq hb12
       refine zM<|zE eU<|zE aC<|zE zG<|zE (oV (vb (false||(true&&!(conV ((b.sts.length:Nat):Int) (vU (vW b) b.sts.length))))) (kA (by kernel_rfl)))<|?_
       rcases hb13:(!(conV ((b.sts.length:Nat):Int) (vU (vW b) b.sts.length))) with _ | _
       ·exact zM<|zE (gI false xX)<|zE mJ<|zM<|zM<|zE (oLn el44 ((zRl (vU (vW b) b.sts.length).length).length))<|zM<|zE (vV eF (L:=(vU (vW b) b.sts.length)))<|zE xX<|zE zG<|zZ
       ·exact zK<|zK<|zE uP<|zM<|zK<|zK<|zK<|zK<|zK<|zE uP<|zZ
     ·replace hb11:=bne_iff_ne.1 hb11
      exact zK<|zK<|zK<|zK<|zK<|zK<|zE uP<|zM<|zK<|zK<|zE uP<|zM<|zK<|zK<|zK<|zK<|zK<|zE uP<|zZ
   refine jF rfl (fun h14=>?_) (fun h14=>?_)
   ·rcases hcn with hc | ⟨hc,hv⟩<;>simp [hc,zRl_len] at h14<;>simp [hv] at h14
   ·refine jD<|jA<|jA<|kx [(136,(vl 51 4 qA (List.map gQ (zRl (vU (vW b) b.sts.length).length)))),(137,(jN ((zRl (vU (vW b) b.sts.length).length).length))),(138,(jN 0))] [] (zM<|zE (oLn el44 ((zRl (vU (vW b) b.sts.length).length).length))<|zM<|zZ) ?_
    refine jH<|kF (α:=Nat) (fun k=>⟨[(3,(.ref 0 0)),(4,(.ref 1 0)),(5,(.ref 2 0)),(11,(vl 56 6 kC (vU (vW b) b.sts.length))),(136,(vl 51 4 qA (List.map gQ (zRl (vU (vW b) b.sts.length).length)))),(137,(jN ((zRl (vU (vW b) b.sts.length).length).length))),(138,(jN k))],[(0,some (bx (kJ b))),(1,some (bx (jI q))),(2,some (bx (kH sh)))]⟩) (fun k=>k<=(zRl (vU (vW b) b.sts.length).length).length) (fun k=>(zRl (vU (vW b) b.sts.length).length).length-k) 0 wk (Nat.zero_le _) ?_
    rintro k hk
    have hzl:(zRl (vU (vW b) b.sts.length).length).length<=1000000:=by rw[zRl_len];exact hrl
    refine jA<|kx [(139,(vb (decide (((k:Nat):Int)<(((zRl (vU (vW b) b.sts.length).length).length:Nat):Int)))))] [] (zE uT<|zZ) ?_
    refine jA<|jF rfl (fun h15=>?_) (fun h15=>?_)
    ·replace h15:=uY h15
     refine jD<|jA<|jH<|jA<|kx [(18,(.ref 6 0))] [(6,some (bx (qA (gQ 0))))] (zE (oXm el44 gQ k 0)<|zE (oQd (qA (gQ ((zRl (vU (vW b) b.sts.length).length).getD k 0))) (qA (gQ 0)) (oCa xG) (by exact (congrArg (fun q=>qA (gQ q)) rep_get)))<|zN (vL 6 eM fG)<|zT (qO xG)<|zZ) ?_
     refine jA<|kx [(144,(vb false))] [] (zR (qE xG)<|zE (kD (g_sign (gQ 0) 0 (qok_up (qok_of ql_zero))))<|zE (gI false xX (by exact bne_eq_false_iff_eq.2 (by decide)))<|zZ) ?_
     refine uU ?_
     refine jD<|kx [(138,(jN (k+1)))] [] (zE (uL (k+1) (hr:=by exact (qG (by first | omega | rfl | (dsimp only;omega)) (by simp only[vR];omega) (by simp only[vS];omega))))<|zM<|zZ) ?_
     exact ⟨k+1,wk,(by omega),(by first|omega|(dsimp only;omega))⟩
    ·replace h15:=uZ h15
     refine jS<|jA<|kx [(14,(jN (mvC b q sh))),(19,(.ref 7 0))] [(7,some (bx (kJ (mvR b q sh))))] (zR (qE dB)<|zR (qE qQ)<|zR (qE nZ)<|zE (kD (r_mv b q sh (by omega) (by omega) (by omega) hQ hA hP hS))<|zM<|zE vF<|zE vF<|zN (vL 7 ze26 zo26)<|zT (qO dB)<|zM<|zZ) ?_
     refine jA<|jA<|kx [(154,(vb ((((mvC b q sh):Nat):Int) != ((0:Nat):Int))))] [] (zM<|zE xX<|zZ) ?_
     refine jF rfl (fun h16=>?_) (fun h16=>?_)
     ·replace h16:=bne_iff_ne.1 h16
      refine jA<|kx [(6,(vb true))] [] (zM<|zZ) ?_
      refine jG ⟨_,(.tmp (d:=(.val (.bool (true)))) rfl .nil),?_⟩
      rfl
     ·replace h16:=bne_eq_false_iff_eq.1 h16
      have hmv:=mvd_ok (b:=b) (q:=q) (sh:=sh) (Int.ofNat.inj h16)
      have hmr:=mv_rel (sh:=sh) (gF.2 hmv.2.1) hQ hro hmv.2.2
      refine jD<|jA<|kx [(12,(vb (rlB (vW (mvN b q sh)) (mvN b q sh).sts.length))),(20,(vl 56 6 kC (rlV (vW (mvN b q sh)) (mvN b q sh).sts.length)))] [] (zR (oQr (kJ (mvR b q sh)) (kJ (mvN b q sh)) (qE dB) (by exact (congrArg kJ hmv.1)))<|zE (kD (r_rel (mvN b q sh) hmr.1 (by rw[mv_len];omega)))<|zM<|zE vF<|zE vF<|zM<|zM<|zZ) ?_
      refine jA<|jA<|kx [(161,(vb (!(rlB (vW (mvN b q sh)) (mvN b q sh).sts.length))))] [] (zM<|zE eU<|zZ) ?_
      refine jF rfl (fun h17=>?_) (fun h17=>?_)
      ·refine jA<|kx [(6,(vb true))] [] (zM<|zZ) ?_
       refine jG ⟨_,(.tmp (d:=(.val (.bool (true)))) rfl .nil),?_⟩
       rfl
      ·have hl2:=hmr.2 (by simpa using h17)
       rw[hl2]
       refine jD<|jA<|jA<|kx [(162,(vl 56 6 kC (vU (vW b) b.sts.length))),(163,(jN ((vU (vW b) b.sts.length).length))),(164,(jN 0))] [] (zM<|zE (vV eF (L:=(vU (vW b) b.sts.length)))<|zM<|zZ) ?_
       refine jH<|kF (α:=Nat) (fun k=>⟨[(11,(vl 56 6 kC (vU (vW b) b.sts.length))),(20,(vl 56 6 kC (vU (vW b) b.sts.length))),(162,(vl 56 6 kC (vU (vW b) b.sts.length))),(163,(jN ((vU (vW b) b.sts.length).length))),(164,(jN k))],[]⟩) (fun k=>k<=(vU (vW b) b.sts.length).length) (fun k=>(vU (vW b) b.sts.length).length-k) 0 wk (Nat.zero_le _) ?_
       rintro k hk
       refine jA<|kx [(165,(vb (decide (((k:Nat):Int)<(((vU (vW b) b.sts.length).length:Nat):Int)))))] [] (zE uT<|zZ) ?_
       refine jA<|jF rfl (fun h18=>?_) (fun h18=>?_)
       ·replace h18:=uY h18
        refine jD<|jA<|jH<|jA<|kx [(21,(jN k)),(22,(.ref 8 0))] [(8,some (bx (kC ((vU (vW b) b.sts.length).getD k (jE.mk 0 0 (jB.mk 0 0 0 0))))))] (zM<|zE (nA eF k (jE.mk 0 0 (jB.mk 0 0 0 0)) (L:=(vU (vW b) b.sts.length)))<|zE (oCa sh56)<|zN (vL 8 ze56 zo56)<|zM<|zT (qO sh56)<|zZ) ?_
        refine jA<|kd [(174,(vb false))] [] mo (wR (qE sh56)<|wM<|wM<|wE (nA eF k (jE.mk 0 0 (jB.mk 0 0 0 0)) (L:=(vU (vW b) b.sts.length)))<|wE (oCa sh56)<|wE (gI false (oNn eqn56 .i64 [((vU (vW b) b.sts.length).getD k (jE.mk 0 0 (jB.mk 0 0 0 0))).fr,((vU (vW b) b.sts.length).getD k (jE.mk 0 0 (jB.mk 0 0 0 0))).to_,(((vU (vW b) b.sts.length).getD k (jE.mk 0 0 (jB.mk 0 0 0 0))).turn).a,(((vU (vW b) b.sts.length).getD k (jE.mk 0 0 (jB.mk 0 0 0 0))).turn).b,(((vU (vW b) b.sts.length).getD k (jE.mk 0 0 (jB.mk 0 0 0 0))).turn).c,(((vU (vW b) b.sts.length).getD k (jE.mk 0 0 (jB.mk 0 0 0 0))).turn).d] [((vU (vW b) b.sts.length).getD k (jE.mk 0 0 (jB.mk 0 0 0 0))).fr,((vU (vW b) b.sts.length).getD k (jE.mk 0 0 (jB.mk 0 0 0 0))).to_,(((vU (vW b) b.sts.length).getD k (jE.mk 0 0 (jB.mk 0 0 0 0))).turn).a,(((vU (vW b) b.sts.length).getD k (jE.mk 0 0 (jB.mk 0 0 0 0))).turn).b,(((vU (vW b) b.sts.length).getD k (jE.mk 0 0 (jB.mk 0 0 0 0))).turn).c,(((vU (vW b) b.sts.length).getD k (jE.mk 0 0 (jB.mk 0 0 0 0))).turn).d]) (by exact congrArg (!·) (decide_eq_true rfl)))<|wZ) ?_
        refine uU ?_
        refine jD<|kx [(164,(jN (k+1)))] [] (zE (uL (k+1) (hr:=by exact (qG (by first | omega | rfl | (dsimp only;omega)) (by simp only[vR];omega) (by simp only[vS];omega))))<|zM<|zZ) ?_
        exact ⟨k+1,wk,(by omega),(by first|omega|(dsimp only;omega))⟩
       ·replace h18:=uZ h18
        refine jS<|jA<|kx [(6,(vb true))] [] (zM<|zE (vV eF (L:=(vU (vW b) b.sts.length)))<|zM<|zE (vV eF (L:=(vU (vW b) b.sts.length)))<|zE (gI true zW (by exact beq_self_eq_true _))<|zM<|zZ) ?_
        refine jG ⟨_,(.tmp (d:=(.val (.bool (true)))) rfl .nil),?_⟩
        rfl
end Go.Proofs.YtciingpdmjepgaaGreat
namespace Go.Fid
open Go.RowKit (Below)
mutual
inductive Ty where
 |int (k:IntKind)
 |bool
 |sl (E:TypeId) (s:Nat) (e:Ty)
 |st (fs:TyL)
 |ar (n:Nat) (E:TypeId) (fs:TyL)
inductive TyL where
 |nil
 |cons (t:TypeId) (ty:Ty) (r:TyL)
end
mutual
def Ty.size:Ty->Nat
 |.int _=>1
 |.bool=>1
 |.sl _ _ _=>1
 |.st fs=>fs.size
 |.ar _ _ fs=>fs.size
def TyL.size:TyL->Nat
 |.nil=>0
 |.cons _ ty r=>ty.size+r.size
end
def fieldsB:List Field->Nat->TyL->Bool
 |[],_,.nil=>true
 |f::l,off,.cons t ty r=>Nat.beq f.type t&&(Nat.beq f.offset off&&fieldsB l (off+ty.size) r)
 |_,_,_=>false
def arFs(E:TypeId)(z:Nat):Nat->Nat->List Field
 |0,_=>[]
 | n + 1, i => { name := "", type := E, offset := i * z, embedded := false, tag := "", pkgPath := "", byteOffset := 0 } :: arFs E z n (i + 1)
theorem arFs_mem{E:TypeId}{z:Nat}:∀ {n i:Nat} {f:Field},f∈arFs E z n i->∃ j,j<n/\f.type=E/\f.offset=(i+j)*z
 |0,_,_,h=>by cases h
 |n+1,i,f,h=>by
  rcases List.mem_cons.1 h with e | h
  ·exact ⟨0,by omega,by rw[e],by rw[e];rfl⟩
  ·obtain ⟨j,h1,h2,h3⟩:=arFs_mem h
   exact ⟨j+1,by omega,h2,by rw[h3];congr 1;omega⟩
mutual
def tyB(P:Program):TypeId->Ty->Bool
 |t,.int k=>match P.underlying t with
  |some (.int k')=>decide (k'=k)
  |_=>false
 |t,.bool=>match P.underlying t with
  |some .bool=>true
  |_=>false
 |t,.sl E s e=>match P.underlying t with
  |some (.slice E')=>Nat.beq E' E&&(Nat.beq (P.cellsOf E) s&&(Nat.beq e.size s&&(Nat.ble 1 s&&(Nat.ble 1 (P.bytesOf E)&&tyB P E e))))
  |_=>false
 |t,.st fs=>match P.underlying t with
  |some (.struct fds)=>Nat.beq (P.cellsOf t) fs.size&&(fieldsB fds.toList 0 fs&&tysB P fs)
  |_=>false
 |t,.ar n E fs=>match P.underlying t with
  |some (.array n' E')=>Nat.beq n' n&&(Nat.beq E' E&&(Nat.beq (P.cellsOf t) fs.size&&(fieldsB (arFs E (P.cellsOf E) n 0) 0 fs&&tysB P fs)))
  |_=>false
def tysB(P:Program):TyL->Bool
 |.nil=>true
 |.cons t ty r=>Nat.beq (P.cellsOf t) ty.size&&(tyB P t ty&&tysB P r)
end
def isSt:Ty->Bool
 |.st _=>true
 |.ar _ _ _=>true
 |_=>false
def mkD(ty:Ty)(ds:List jW):jW:=bif isSt ty then .agg ds else ds.headD (.tup [])
mutual
def Sh:Ty->List jW->Prop
 |.int k,ds=>∃ z,ds=[.val (.int k z)]/\(Lit.int k z).wf=true
 |.bool,ds=>∃ b,ds=[.val (.bool b)]
 |.sl E s e,ds=>∃ es:List (List jW),ds=[.sl E s (es.map (mkD e))]/\es.length<=140737488355328/\∀ x∈es,Sh e x
 |.st fs,ds=>ShL fs ds
 |.ar _ _ fs,ds=>ShL fs ds
def ShL:TyL->List jW->Prop
 |.nil,ds=>ds=[]
 |.cons _ ty r,ds=>∃ a b,ds=a++b/\Sh ty a/\ShL r b
end
mutual
theorem Sh.len:∀ {ty:Ty} {ds:List jW},Sh ty ds->ds.length=ty.size
 |.int k,ds,h=>by obtain ⟨z,rfl,_⟩:=h;rfl
 |.bool,ds,h=>by obtain ⟨b,rfl⟩:=h;rfl
 |.sl E s e,ds,h=>by obtain ⟨es,rfl,_⟩:=h;rfl
 |.st fs,ds,h=>ShL.len (h:ShL fs ds)
 |.ar _ _ fs,ds,h=>ShL.len (h:ShL fs ds)
theorem ShL.len:∀ {fs:TyL} {ds:List jW},ShL fs ds->ds.length=fs.size
 |.nil,ds,h=>by have h:ds=[]:=h;subst h;rfl
 |.cons t ty r,ds,h=>by
  obtain ⟨a,b,rfl,h1,h2⟩:=h
  rw[List.length_append,Sh.len h1,ShL.len h2];rfl
end
theorem mkD_cells{ty:Ty}{ds:List jW}(h:Sh ty ds):(mkD ty ds).cells=ds:=by
 cases ty with
 |int k=>obtain ⟨z,rfl,_⟩:=h;rfl
 |bool=>obtain ⟨b,rfl⟩:=h;rfl
 |sl E s e=>obtain ⟨es,rfl,_⟩:=h;rfl
 |st fs=>rfl
 |ar n E fs=>rfl
def oldD(w:World):kN:=fun _ g _=>g<w.heap.size
def RepC(w:World)(cs:List Value)(ds:List jW):Prop:=ds.length=cs.length/\(∀ v∈cs,v.oneCell'=true)/\∀ (i:Nat) v d,cs[i]?=some v->ds[i]?=some d->uC w (oldD w) v d
theorem RepC.append{w:World}{cs1 cs2:List Value}{d1 d2:List jW}(h1:RepC w cs1 d1)(h2:RepC w cs2 d2):RepC w (cs1++cs2) (d1++d2):=by
 refine ⟨by rw[List.length_append,List.length_append,h1.1,h2.1],fun v hv=>?_,fun i v d hv hd=>?_⟩
 ·rcases List.mem_append.1 hv with h | h
  ·exact h1.2.1 v h
  ·exact h2.2.1 v h
 ·by_cases hi:i<cs1.length
  ·rw[List.getElem?_append_left hi] at hv
   rw[List.getElem?_append_left (by rw[h1.1];exact hi)] at hd
   exact h1.2.2 i v d hv hd
  ·rw[List.getElem?_append_right (by omega)] at hv
   rw[List.getElem?_append_right (by rw[h1.1];omega),h1.1] at hd
   exact h2.2.2 _ v d hv hd
section
variable {H:Type} {enc:TypeId × Value->H} {P:Program} {w:World} {sp:Nat->Bool} {held:Bool}
theorem dM{e:TypeId}:∀ {l:List (DataW H)} {d:DataW H},d∈l->∀ {n:Nat},n∈d.weights P e->n∈DataW.weightsAll P e l
 |[],_,h,_,_=>by cases h
 |x::l,d,h,n,hn=>by
  simp only[DataW.weightsAll]
  rcases List.mem_cons.1 h with rfl | h
  ·exact List.mem_append_left _ hn
  ·exact List.mem_append_right _ (dM h hn)
theorem cells_get{a:Addr}{n:Nat}{cs:List Value}(h:w.cells? 0 a n=some cs):cs.length=n/\∀ i,i<n->w.cell? (a.add i)=cs[i]?:=by
 unfold World.cells? at h
 rw[if_pos (Nat.zero_le _)] at h
 refine ⟨by simpa using mapM_some_length h,fun i hi=>?_⟩
 have:=mapM_some_get h i i (by simp [hi])
 exact this
theorem drop_take_split{α:Type}{cs:List α}{off n m:Nat}(h:cs.length=off+(n+m)):cs.drop off=(cs.drop off).take n++cs.drop (off+n):=by
 rw[<- List.drop_drop,List.take_append_drop]
mutual
theorem bridge:∀ {ty:Ty} {t:TypeId} {fuel:Nat} {cs:List Value} {x:DataW H × List MemPlace},tyB P t ty=true->DataW.trod enc P w 0 sp held fuel t cs=some x->(∀ n∈x.1.weights P t,n<=reachBytes)->∃ ds,RepC w cs ds/\Sh ty ds
 |.int k,t,fuel,cs,x,ht,h,_=>by
  unfold tyB at ht
  split at ht
  ·rename_i k' hu
   obtain rfl:k'=k:=of_decide_eq_true ht
   obtain ⟨n,rfl,_,hw⟩:=DataW.trod_int hu h
   refine ⟨[.val (.int k' n)],⟨rfl,by simp [Value.oneCell'],fun i v d hv hd=>?_⟩,n,rfl,hw⟩
   rcases i with _ | i
   ·simp at hv hd;subst hv;subst hd;exact .val _
   ·simp at hv
  ·cases ht
 |.bool,t,fuel,cs,x,ht,h,_=>by
  unfold tyB at ht
  split at ht
  ·rename_i hu
   obtain ⟨b,rfl,_⟩:=DataW.trod_bool hu h
   refine ⟨[.val (.bool b)],⟨rfl,by simp [Value.oneCell'],fun i v d hv hd=>?_⟩,b,rfl⟩
   rcases i with _ | i
   ·simp at hv hd;subst hv;subst hd;exact .val _
   ·simp at hv
  ·cases ht
 |.sl E s e,t,fuel,cs,x,ht,h,hwt=>by
  unfold tyB at ht
  split at ht
  ·rename_i E' hu
   simp only[Bool.and_eq_true] at ht
   obtain ⟨h1,h2,h3,h4,h6,h5⟩:=ht
   obtain rfl:E'=E:=Nat.eq_of_beq_eq_true h1
   have hs:P.cellsOf E'=s:=Nat.eq_of_beq_eq_true h2
   have hes:e.size=s:=Nat.eq_of_beq_eq_true h3
   have hs1:1<=s:=Nat.le_of_ble_eq_true h4
   have one:∀ v:Value,v.oneCell'=true->∀ d,uC w (oldD w) v d->RepC w [v] [d]:=fun v h1 d h2=>⟨rfl,by simpa using h1,fun i v' d' hv hd=>by
    rcases i with _ | i
    ·simp at hv hd;subst hv;subst hd;exact h2
    ·simp at hv⟩
   rcases DataW.trod_slice hu h with ⟨rfl,_⟩ | ⟨a,len,cap,elems,vE,n,_,rfl,hx,_,hl,hm,uB,hel,_⟩
   ·exact ⟨[.sl E' s []],one _ rfl _ (bA w _ E' s),[],rfl,Nat.zero_le _,by simp⟩
   ·have hws:∀ n∈(elems.length+vE.length)*P.bytesOf E'::(DataW.weightsAll P E' (elems.map (·.1))++DataW.weightsAll P E' (vE.map (·.1))),n<=reachBytes:=by
     intro n hn
     refine hwt n ?_
     rw[hx]
     simp only[DataW.weights,hu,List.length_map]
     exact hn
    have hlen47:len<=140737488355328:=by
     have h7:=hws _ (List.mem_cons_self)
     have h8:1<=P.bytesOf E':=Nat.le_of_ble_eq_true h6
     have h9:=Nat.mul_le_mul_left (elems.length+vE.length) h8
     have h10:=reachBytes_lt
     omega
    have each:∀ i,∃ d:List jW × List Value,i<len->(d.2.length=s/\(∀ j,j<s->w.cell? ((a.add (i*s)).add j)=d.2[j]?)/\RepC w d.2 d.1/\Sh e d.1):=by
     intro i
     by_cases hi:i<len
     ·have he:=hel i hi
      rw[List.getElem?_eq_getElem (by omega),hs] at he
      cases hc:w.cells? 0 (a.add (i*s)) s with
      |none=>rw[hc] at he;cases he
      |some ci=>
       rw[hc] at he
       obtain ⟨g1,g2⟩:=cells_get hc
       have hmem:elems[i]∈elems:=List.getElem_mem _
       obtain ⟨ds,r1,r2⟩:=bridge (ty:=e) h5 he (fun n hn=>hws n (by
        refine List.mem_cons_of_mem _ (List.mem_append_left _ ?_)
        exact dM (List.mem_map_of_mem (f:=(·.1)) hmem) hn))
       exact ⟨(ds,ci),fun _=>⟨g1,g2,r1,r2⟩⟩
     ·exact ⟨([],[]),fun h=>absurd h hi⟩
    obtain ⟨F,hF⟩:=Classical.axiomOfChoice each
    have hspot:0<len->a=⟨a.block,a.off,none⟩/\a.block<w.heap.size:=by
     intro h0
     obtain ⟨q1,q2,_,_⟩:=hF 0 h0
     have q3:=q2 0 (by omega)
     rw[List.getElem?_eq_getElem (by omega)] at q3
     obtain ⟨b,o,sp'⟩:=a
     cases sp' with
     |none=>
      refine ⟨rfl,?_⟩
      unfold World.cell? at q3
      split at q3
      ·rename_i c _ _ hh
       simpa [Addr.add] using (Array.getElem?_eq_some_iff.1 hh).1
      ·cases q3
     |some z=>
      exfalso
      unfold World.cell? at q3
      split at q3
      ·simp [Addr.add] at q3
      ·cases q3
    have hesl:∀ d∈((List.range len).map fun i=>mkD e (F i).1),d.cells.length=s:=by
     intro d hd
     rw[List.mem_map] at hd
     obtain ⟨i,hi,rfl⟩:=hd
     obtain ⟨q1,q2,q3,q4⟩:=hF i (by simpa using hi)
     rw[mkD_cells q4,Sh.len q4,hes]
    have hfl:=uN hesl
    rw[List.length_map,List.length_range] at hfl
    have hget:∀ q,q<len*s->∃ u d,w.cell? (a.add q)=some u/\(flat ((List.range len).map fun i=>mkD e (F i).1))[q]?=some d/\u.oneCell'=true/\uC w (oldD w) u d:=by
     intro q hq
     have hi:q / s<len:=(Nat.div_lt_iff_lt_mul (by omega)).2 hq
     have hj:q % s<s:=Nat.mod_lt _ (by omega)
     have hqe:q / s*s+q % s=q:=by rw[Nat.mul_comm];exact Nat.div_add_mod q s
     obtain ⟨q1,q2,q3,q4⟩:=hF (q / s) hi
     have c1:=q2 (q % s) hj
     have c2:((a.add (q / s*s)).add (q % s))=a.add q:=by
      rw[(hspot (Nat.lt_of_le_of_lt (Nat.zero_le _) hi)).1,Addr.add_lit,Addr.add_lit,Addr.add_lit,Nat.add_assoc,hqe]
     have hlen1:(F (q / s)).1.length=s:=by rw[q3.1,q1]
     have c4:(F (q / s)).1[q % s]?=some ((F (q / s)).1[q % s]'(by rw[hlen1];exact hj)):=List.getElem?_eq_getElem _
     have c5:(F (q / s)).2[q % s]?=some ((F (q / s)).2[q % s]'(by rw[q1];exact hj)):=List.getElem?_eq_getElem _
     rw[c2,c5] at c1
     have c3:=flat_get (es:=(List.range len).map fun i=>mkD e (F i).1) (i:=q / s) (j:=q % s) (e:=mkD e (F (q / s)).1) hesl (by rw[List.getElem?_map,List.getElem?_range hi];rfl) hj
     rw[hqe,mkD_cells q4,c4] at c3
     exact ⟨_,_,c1,c3,q3.2.1 _ (List.getElem_mem _),q3.2.2 (q % s) _ _ c5 c4⟩
    refine ⟨[.sl E' s ((List.range len).map fun i=>mkD e (F i).1)],one _ rfl _ ?_,(List.range len).map fun i=>(F i).1,?_,by simpa using hlen47,?_⟩
    ·rcases Nat.eq_zero_or_pos len with h0 | h0
     ·subst h0
      exact uC.sl 0 0 (fun _=>undef) (by simp) hl hm (by simp) (fun h=>absurd h (Nat.lt_irrefl 0)) (by simp [flat]) (by simp [flat]) (by simp [flat]) (by simp [flat])
     ·obtain ⟨ha,hb⟩:=hspot h0
      refine uC.sl a.block a.off (fun q=>(w.cell? (a.add q)).getD undef) (by simp) hl hm hesl (fun _=>congrArg some ha) (fun q hq=>hb) (fun q hq=>?_) (fun q hq=>?_) (fun q d hd=>?_)
      ·obtain ⟨u,d,g1,_,_,_⟩:=hget q (by omega)
       have e1:a.add q=⟨a.block,a.off+q,none⟩:=by rw[ha,Addr.add_lit]
       rw[<- e1,g1];rfl
      ·obtain ⟨u,d,g1,_,g3,_⟩:=hget q (by omega)
       rw[g1];exact g3
      ·have hq:=(List.getElem?_eq_some_iff.1 hd).1
       obtain ⟨u,d',g1,g2,_,g4⟩:=hget q (by omega)
       rw[hd] at g2
       injection g2 with g2
       subst g2
       rw[g1];exact g4
    ·rw[List.map_map];rfl
    ·intro y hy
     rw[List.mem_map] at hy
     obtain ⟨i,hi,rfl⟩:=hy
     exact (hF i (by simpa using hi)).2.2.2
  ·cases ht
 |.st fs,t,fuel,cs,x,ht,h,hwt=>by
  unfold tyB at ht
  split at ht
  ·rename_i fds hu
   simp only[Bool.and_eq_true] at ht
   obtain ⟨h1,h2,h3⟩:=ht
   obtain ⟨xs,n,_,hx,hl,hxl,hf⟩:=DataW.trod_struct hu h
   have hcl:cs.length=0+fs.size:=by rw[hl,Nat.eq_of_beq_eq_true h1,Nat.zero_add]
   have key:=bridgeL (fs:=fs) (off:=0) (cs:=cs) (l:=fds.toList) (n:=n) h2 h3 hcl (fun f hfm=>by
    obtain ⟨i,hi⟩:=List.getElem?_of_mem hfm
    have:=hf i f (by simpa using hi)
    have hlt:i<xs.length:=by
     have:=(List.getElem?_eq_some_iff.1 hi).1
     simp at this;omega
    rw[List.getElem?_eq_getElem hlt] at this
    refine ⟨_,this,fun m hm=>hwt m ?_⟩
    rw[hx]
    simp only[DataW.weights,hu]
    exact DataW.weights_mem_each (j:=i) (by rw[List.getElem?_map,hi];rfl) (by rw[List.getElem?_map,List.getElem?_eq_getElem hlt];rfl) m hm)
   rw[List.drop_zero] at key
   exact key
  ·cases ht
 |.ar k E fs,t,fuel,cs,x,ht,h,hwt=>by
  unfold tyB at ht
  split at ht
  ·rename_i k' E' hu
   simp only[Bool.and_eq_true] at ht
   obtain ⟨h0,h1,h4,h2,h3⟩:=ht
   obtain rfl:k'=k:=Nat.eq_of_beq_eq_true h0
   obtain rfl:E'=E:=Nat.eq_of_beq_eq_true h1
   obtain ⟨xs,n,_,hx,hl,hxl,hf⟩:=DataW.trod_array hu h
   have hcl:cs.length=0+fs.size:=by rw[hl,Nat.eq_of_beq_eq_true h4,Nat.zero_add]
   have key:=bridgeL (fs:=fs) (off:=0) (cs:=cs) (l:=arFs E' (P.cellsOf E') k' 0) (n:=n) h2 h3 hcl (fun f hfm=>by
    obtain ⟨j,hj,ft,fo⟩:=arFs_mem hfm
    have:=hf j hj
    have hlt:j<xs.length:=by omega
    rw[List.getElem?_eq_getElem hlt] at this
    refine ⟨xs[j],?_,fun m hm=>hwt m ?_⟩
    ·rw[ft,fo,Nat.zero_add];exact this
    ·rw[hx]
     simp only[DataW.weights,hu]
     rw[ft] at hm
     exact dM (List.mem_map_of_mem (f:=(·.1)) (List.getElem_mem hlt)) hm)
   rw[List.drop_zero] at key
   exact key
  ·cases ht
theorem bridgeL:∀ {fs:TyL} {l:List Field} {off n:Nat} {cs:List Value},fieldsB l off fs=true->tysB P fs=true->cs.length=off+fs.size->(∀ f∈l,∃ y,DataW.trod enc P w 0 sp held n f.type ((cs.drop f.offset).take (P.cellsOf f.type))=some y/\∀ m∈y.1.weights P f.type,m<=reachBytes) ->
  ∃ ds,RepC w (cs.drop off) ds/\ShL fs ds
 |.nil,l,off,n,cs,h1,h2,h3,h4=>by
  have:cs.drop off=[]:=List.drop_eq_nil_of_le (by rw[h3];exact Nat.le_refl _)
  rw[this]
  exact ⟨[],⟨rfl,by simp,by simp⟩,rfl⟩
 |.cons t ty r,l,off,n,cs,h1,h2,h3,h4=>by
  cases l with
  |nil=>cases h1
  |cons f l=>
   simp only[fieldsB,Bool.and_eq_true] at h1
   obtain ⟨e1,e2,e3⟩:=h1
   simp only[tysB,Bool.and_eq_true] at h2
   obtain ⟨f1,f2,f3⟩:=h2
   have et:=Nat.eq_of_beq_eq_true e1
   have eo:=Nat.eq_of_beq_eq_true e2
   have ec:=Nat.eq_of_beq_eq_true f1
   obtain ⟨y,hy,hyw⟩:=h4 f (by simp)
   rw[et,eo,ec] at hy
   rw[et] at hyw
   obtain ⟨d1,r1,s1⟩:=bridge (ty:=ty) f2 hy hyw
   have h3':cs.length=off+ty.size+r.size:=by rw[h3];show off+(ty.size+r.size)=_;omega
   obtain ⟨d2,r2,s2⟩:=bridgeL (fs:=r) (off:=off+ty.size) (cs:=cs) (l:=l) (n:=n) e3 f3 h3' (fun g hg=>h4 g (by simp [hg]))
   refine ⟨d1++d2,?_,d1,d2,rfl,s1,s2⟩
   rw[drop_take_split (cs:=cs) (off:=off) (n:=ty.size) (m:=r.size) (by omega)]
   exact r1.append r2
end
theorem open_arg{ty:Ty}{t:TypeId}{v:Value}{d:DataW H}{p:List MemPlace}(hty:tyB P t ty=true)(hv:isSt ty=true->∃ cs,v=.agg cs)(hv1:isSt ty=false->v.cells=#[v])(h:DataW.Trod enc P w 0 sp held t v d p)(hwt:∀ n∈d.weights P t,n<=reachBytes) :
  ∃ ds,uC w (oldD w) v (mkD ty ds)/\Sh ty ds:=by
 obtain ⟨fuel,hf⟩:=h
 obtain ⟨ds,hr,hs⟩:=bridge (ty:=ty) hty hf hwt
 refine ⟨ds,?_,hs⟩
 cases hst:isSt ty with
 |true=>
  obtain ⟨cs,rfl⟩:=hv hst
  have e:mkD ty ds=.agg ds:=by unfold mkD;rw[hst];rfl
  rw[e]
  have:=uC.agg (w:=w) (D:=oldD w) (cs:=ds) cs.toList hr.1.symm hr.2.1 hr.2.2
  simpa using this
 |false=>
  have hv2:=hv1 hst
  have hc:=hr.1
  rw[hv2] at hr
  simp only[Array.toList] at hr
  obtain ⟨h1,h2,h3⟩:=hr
  have hl:ds.length=1:=by simpa using h1
  obtain ⟨d0,rfl⟩:=List.length_eq_one_iff.1 hl
  have e:mkD ty [d0]=d0:=by unfold mkD;rw[hst];rfl
  rw[e]
  exact h3 0 v d0 rfl rfl
end
theorem oldD_ok(w:World)(h:LtOk (oldD w) w):DOk (oldD w) w:=⟨fun _ _ _ h=>h,h⟩
open Go.ChangeShapes Go.WideShapes Go.RowKit
inductive ShAll:List Ty->List (List jW)->Prop
 |nil:ShAll [] []
 |cons {ty:Ty} {tys:List Ty} {ds:List jW} {dss:List (List jW)} (h:Sh ty ds) (r:ShAll tys dss):ShAll (ty::tys) (ds::dss)
def mkAll:List Ty->List (List jW)->List jW
 |ty::tys,ds::dss=>mkD ty ds::mkAll tys dss
 |_,_=>[]
def formsB(P:Program):List TypeId->List Ty->Bool
 |[],[]=>true
 |t::ts,ty::tys=>tyB P t ty&&formsB P ts tys
 |_,_=>false
section
variable {H:Type} {enc:TypeId × Value->H} {P:Program} {w:World} {sp:Nat->Bool} {held:Bool}
theorem ok_st{ty:Ty}{t:TypeId}{v:Value}{base:Nat}(ht:tyB P t ty=true)(h:Value.okWide P w .any base t v):(isSt ty=true->∃ cs,v=.agg cs)/\(isSt ty=false->v.cells=#[v]):=by
 cases ty with
 |int k=>
  unfold tyB at ht
  split at ht
  ·rename_i k' hu
   obtain ⟨n,rfl⟩:=okWide_int hu h
   exact ⟨(fun h=>by cases h),fun _=>rfl⟩
  ·cases ht
 |bool=>
  unfold tyB at ht
  split at ht
  ·rename_i hu
   obtain ⟨b,rfl⟩:=okWide_bool hu h
   exact ⟨(fun h=>by cases h),fun _=>rfl⟩
  ·cases ht
 |sl E s e=>
  unfold tyB at ht
  split at ht
  ·rename_i E' hu
   obtain ⟨a,l,c,rfl⟩:=okWide_slice hu h
   exact ⟨(fun h=>by cases h),fun _=>rfl⟩
  ·cases ht
 |st fs=>
  unfold tyB at ht
  split at ht
  ·rename_i fds hu
   obtain ⟨cs,rfl,_⟩:=okWide_struct hu h
   exact ⟨fun _=>⟨cs,rfl⟩,(fun h=>by cases h)⟩
  ·cases ht
 |ar n E fs=>
  unfold tyB at ht
  split at ht
  ·rename_i n' E' hu
   simp only[Value.okWide,hu] at h
   obtain ⟨cs,rfl,_⟩:=h
   exact ⟨fun _=>⟨cs,rfl⟩,(fun h=>by cases h)⟩
  ·cases ht
theorem each_left:∀ {ts us:List TypeId} {ds gs:List (DataW H)} {n:Nat},n∈DataW.weightsEach P ts ds->n∈DataW.weightsEach P (ts++us) (ds++gs)
 |[],_,_,_,_,h=>by simp [DataW.weightsEach] at h
 |t::ts,us,[],gs,n,h=>by simp [DataW.weightsEach] at h
 |t::ts,us,d::ds,gs,n,h=>by
  simp only[DataW.weightsEach] at h
  simp only[List.cons_append,DataW.weightsEach]
  rcases List.mem_append.1 h with h | h
  ·exact List.mem_append_left _ h
  ·exact List.mem_append_right _ (each_left h)
theorem open_args{base:Nat}:∀ {ts:List TypeId} {tys:List Ty} {vs:List Value} {ds:List (DataW H)} {ps:List MemPlace},formsB P ts tys=true->(∀ (j:Nat) t v,ts[j]?=some t->vs[j]?=some v->Value.okWide P w .any base t v)->DataW.TrodAll enc P w 0 sp held ts vs ds ps->(∀ n∈DataW.weightsEach P ts ds,n<=reachBytes) ->
  ∃ dss,ShAll tys dss/\Args w (oldD w) vs (mkAll tys dss)/\vs.length=ts.length
 |[],[],vs,ds,ps,_,_,h,_=>by
  obtain ⟨rfl,rfl,rfl⟩:=trodAll_nil h
  exact ⟨[],.nil,⟨rfl,by simp⟩,rfl⟩
 |t::ts,ty::tys,vs,ds,ps,hf,hok,h,hwt=>by
  simp only[formsB,Bool.and_eq_true] at hf
  obtain ⟨v,vs',d,ds',p,q,rfl,rfl,rfl,h1,h2⟩:=trodAll_cons h
  obtain ⟨k1,k2⟩:=ok_st hf.1 (hok 0 t v rfl rfl)
  obtain ⟨dd,r1,r2⟩:=open_arg hf.1 k1 k2 h1 (fun n hn=>hwt n (by simp only[DataW.weightsEach];exact List.mem_append_left _ hn))
  obtain ⟨dss,r3,r4,r5⟩:=open_args (ts:=ts) (tys:=tys) hf.2 (fun j t v a b=>hok (j+1) t v (by simpa using a) (by simpa using b)) h2 (fun n hn=>hwt n (by simp only[DataW.weightsEach];exact List.mem_append_right _ hn))
  refine ⟨dd::dss,.cons r2 r3,⟨by simp [mkAll,r4.1],fun i v' d' hv hd=>?_⟩,by simp [r5]⟩
  rcases i with _ | i
  ·simp [mkAll] at hv hd;subst hv;subst hd;exact r1
  ·exact r4.2 i v' d' (by simpa using hv) (by simpa [mkAll] using hd)
 |[],_::_,_,_,_,hf,_,_,_=>by cases hf
 |_::_,[],_,_,_,hf,_,_,_=>by cases hf
theorem again_all{W W':World}(hl:laidOutB P=true)(hb:Below W.heap.size W W'):∀ {ts:List TypeId} {vs:List Value} {ds:List (DataW H)} {ps:List MemPlace},(ts.all fun t=>P.readableRec t&&Nat.blt t P.types.size)=true->(∀ x∈ps,x.block<W.heap.size)->DataW.TrodAll enc P W 0 (fun _=>true) true ts vs ds ps ->
  DataW.TrodAll enc P W' 0 (fun b=>decide (b<W.heap.size)) true ts vs ds ps
 |[],vs,ds,ps,_,_,h=>by
  obtain ⟨rfl,rfl,rfl⟩:=trodAll_nil h
  exact rfl
 |t::ts,vs,ds,ps,hr,hlt,h=>by
  obtain ⟨v,vs',d,ds',p,q,rfl,rfl,rfl,h1,h2⟩:=trodAll_cons h
  simp only[List.all_cons,Bool.and_eq_true] at hr
  exact ⟨p,q,Below.trod hl hr.1.1 (Nat.le_of_ble_eq_true hr.1.2) h1 hb (fun x hx=>hlt x (by simp [hx])),again_all hl hb hr.2 (fun x hx=>hlt x (by simp [hx])) h2,rfl⟩
end
theorem law_contract{H:Type}{enc:TypeId × Value->H}{P:Program}{f:FuncId}{fn:Func}{s:ChangeSpec}{tys:List Ty}{B:TypeId}(hl:laidOutB P=true)(hvars:s.vars=[])(hres:fn.resultTypes.toList=[B])(hB:P.underlying B=some .bool)
  (hrr:(fn.params.toList.all fun t=>P.readableRec t&&Nat.blt t P.types.size)=true) (hty:formsB P fn.params.toList tys=true)
  (hspec:∀ ds:List (DataW H),ds.length=fn.params.toList.length->(s.fn H ds).results=[.lit (.bool true)]/\(s.fn H ds).args=ds/\(s.fn H ds).vars=[])
  (ht:∀ dss,ShAll tys dss->jU P f (mkAll tys dss) (.val (.bool true)))
  (W:World) (htab:LtOk (oldD W) W) (base:Nat) (args:Array Value) (ds gs:List (DataW H)) (before:List MemPlace) (hval:∀ (j:Nat) t v,fn.params[j]?=some t->args[j]?=some v->Value.okWide P W .any base t v)
  (hW:DataW.Whole enc P fn.params.toList s.vars false W args.toList ds gs before) (hwt:(DataW.weightsEach P (fn.params.toList++s.plain.varTypes P) (ds++gs)).all (·<=reachBytes)=true) :
  Calls P f args W fun e W'=>∃ v,e=.returned v/\s.post enc P fn false true false false W args v W':=by
 have hW':=hW
 obtain ⟨p,q,hA,hV,rfl,_,_⟩:=hW
 rw[hvars] at hV
 obtain ⟨rfl,rfl⟩:=trodVars_none hV
 obtain ⟨dss,r1,r2,r3⟩:=open_args (P:=P) (w:=W) (base:=base) hty (fun j t v a b=>hval j t v (by simpa using a) (by simpa using b)) hA (fun n hn=>by
  rw[List.all_eq_true] at hwt
  have:=hwt n (each_left hn)
  simpa using this)
 have hlt:=hW'.lt
 have uB:ds.length=fn.params.toList.length:=by
  have:∀ {ts:List TypeId} {vs:List Value} {ds:List (DataW H)} {ps:List MemPlace},DataW.TrodAll enc P W 0 (fun _=>true) true ts vs ds ps->ds.length=ts.length:=by
   intro ts
   induction ts with
   |nil=>intro vs ds ps h;obtain ⟨_,rfl,_⟩:=trodAll_nil h;rfl
   |cons t ts ih=>intro vs ds ps h;obtain ⟨v,vs',d,ds',p,q,rfl,rfl,rfl,h1,h2⟩:=trodAll_cons h;simp [ih h2]
  exact this hA
 have hc:=(ht dss r1).run W (oldD W) args.toList (oldD_ok W htab) r2
 refine hc.mono fun e W' h=>?_
 obtain ⟨v,D',he,h1,h2,h3⟩:=h
 have hv:=rep_bool h3
 subst hv
 obtain ⟨s1,s2,s3⟩:=hspec ds uB
 refine ⟨_,he,ds,[],_,[],p,[],hW',?_,?_,?_,h1.frame _,fun h=>by cases h⟩
 ·rw[List.append_nil,s1,hres]
  have hsz:fn.resultTypes.size=1:=by
   have:=congrArg List.length hres
   simpa using this
  rw[hsz]
  exact trodAll_mk1 (shut_bool hB true)
 ·rw[List.append_nil,s2]
  exact again_all hl h1 hrr (fun x hx=>hlt x (by simp [hx])) hA
 ·rw[List.append_nil,s3,hvars]
  exact rfl
theorem sh_slice{α:Type}{E s:Nat}{ty:Ty}{F:α->jW}{L:α->Prop}(hF:∀ x,Sh ty x->∃ a,mkD ty x=F a/\L a){ds:List jW}(h:Sh (.sl E s ty) ds) :
  ∃ l:List α,mkD (.sl E s ty) ds=.sl E s (l.map F)/\(∀ a∈l,L a)/\l.length<=140737488355328:=by
 obtain ⟨es,rfl,h1,h2⟩:=h
 have h3:∀ es:List (List jW),(∀ x∈es,Sh ty x)->∃ l:List α,es.map (mkD ty)=l.map F/\(∀ a∈l,L a)/\l.length=es.length:=by
  intro es
  induction es with
  |nil=>intro _;exact ⟨[],rfl,by simp,rfl⟩
  |cons x es ih=>
   intro hx
   obtain ⟨l,e1,e2,e3⟩:=ih (fun y hy=>hx y (by simp [hy]))
   obtain ⟨a,e4,e5⟩:=hF x (hx x (by simp))
   refine ⟨a::l,by rw[List.map_cons,List.map_cons,e1,e4],fun b hb=>?_,by simp [e3]⟩
   rcases List.mem_cons.1 hb with rfl | hb
   ·exact e5
   ·exact e2 b hb
 obtain ⟨l,e1,e2,e3⟩:=h3 es h2
 exact ⟨l,by rw[<- e1];rfl,e2,by omega⟩
end Go.Fid
