/- Part 31 of a proof: rules, plain facts, and functions walked. -/
import Derived.Test.YtciingpdmjepgabGreatDoorM30
import Derived.OpenShut
import Derived.Test.YtciingpdmjepgabGreatDoorM6
import Derived.ChangeArms
import Derived.SizedLaws
import Derived.ChangeShapes
import Derived.WideShapes
import Derived.RowKit
import Derived.Carry
import Derived.ChangeOld
import Derived.WideKeyElems2
import Derived.Seven
import Derived.Test.YtciingpdmjepgabGreatDoorM12
set_option linter.all false
set_option maxRecDepth 4000
namespace Go.Proofs.YtciingpdmjepgabGreatDoor
open Go.Fid
theorem by35:vJ Tryz.prog 35=some 88:=by kernel_rfl
theorem len_3{o:List kI}(a b c:kI):(o++[a,b,c]).length=o.length+3:=by rw[List.length_append];rfl
theorem cmp_le{a b:Rat}(h:a<=b):¬ ((0:Nat):Int)<gW a b:=by
 unfold gW
 split
 ·decide
 ·rw[if_neg (Rat.not_lt.2 h)];decide
theorem hr_pts{x:Rat}{l:List Rat}(hx:QL x 2)(h0:l≠[])(h6:l.length<=6)(hl:∀ q∈l,QL q 2):PtJ (qX (-1) (xV x) (hZ l)) (yY x l) (yY x (nW l)) (yY x (nW (nW l))):=by
 rw[hr_last (gl_pt (kS hx):GL 6 (xV x)) h0 h6 hl,ev_dvP,ev_dvP,ev1_dvP];exact hJ_pt x l h0
theorem hr_box{x d:Rat}{l:List Rat}(hx:QL x 2)(hd:QL d 2)(h0:l≠[])(h6:l.length<=6)(hl:∀ q∈l,QL q 2):Hs (qX 20 (x,x+zW d) (hZ l)).v (yY x l)/\Hs (qX 20 (x,x+zW d) (hZ l)).g (yY x (nW l))/\Hs (qX 20 (x,x+zW d) (hZ l)).h (yY x (nW (nW l))):=by
 rw[hr_last (hw_gl hx hd) h0 h6 hl,ev_dvP,ev_dvP,ev1_dvP]
 exact hJ_in ⟨Rat.le_refl,by have:=absQ_nn d;grind⟩ l h0
theorem w_h(l:List Rat)(hl:∀ q∈l,QL q 2)(x:Rat)(hx:QL x 2)(d:Rat)(hd:QL d 2)(hb0:0<l.length)(hb6:l.length<=6)(hz:nzT l)(hg:grH (List.map jP l) (jP x) (jP d)=false):jW Tryz.prog 3 [(.sl 28 4 (List.map jK (List.map jP l))),(jK (jP x)),(jK (jP d))] (.val (.bool (true))):=by
 have hg2:=hg
 unfold grH at hg2
 rw[List.length_map] at hg2
 have hz1:=nz_dvP hz
 have hne:l≠[]:=by intro h9;rw[h9] at hb0;exact absurd hb0 (by decide)
 have hx1:∀ q∈[x],QL q 1048576:=fun q hq=>by rw[List.mem_singleton.1 hq];exact kS hx (by decide)
 have hw:GL 6 (x,x+zW d):=hw_gl hx hd
 have hvr:=hr_vrun (kS hx) hne hb6 hl
 have hj1:=hr_run (P:=-1) (.inl rfl) (gl_pt (kS hx):GL 6 (xV x)) hne hb6 hl
 have hj2:=hr_run (P:=20) (.inr rfl) hw hne hb6 hl
 have hpt:=hr_pts hx hne hb6 hl
 have hbx:=hr_box hx hd hne hb6 hl
 have hd1:=bK l
 have hd2:=bK (nW l)
 have hxd:RowOk 1048576 [jP x,jP d]:=row_2 (kN (kS hx)) (kN (kS hd))
 refine uW Tryz.func3 ?_
 refine jB<|kx [(4,(.ref 0 0)),(5,(.ref 1 0))] [(0,some (bx (jK (jP x)))),(1,some (bx (jK (jP d))))] (zN (xA 0)<|zN (xA 1)<|zM<|zZ) ?_
 refine jB<|jB<|kx [(24,(vb false))] [] (zE (kH h_awake)<|zE eL<|zZ) ?_
 refine qH ?_
 refine jF<|jB<|jB<|kx [(54,(vb (((((!(vaP (List.map jP l))||decide (((l.length:Nat):Int)<((1:Nat):Int)))||!(shR 6 2 (List.map jP l)))||!(kL (jP x)))||!(kL (jP d)))||!(shR 2 2 [(jP x),(jP d)]))))] [] ?_ ?_
 ·refine zM<|zE (kH (y_va (List.map jP l) (row_up (pts_row hl (by omega))) (by rw[List.length_map];omega)))<|zE eL<|zE (oV (vb (!(vaP (List.map jP l)))) (qF (by kernel_rfl)))<|?_
  rcases hb1:(!(vaP (List.map jP l))) with _ | _
  ·refine zM<|zE (oLn eN l.length)<|zE xO<|zE aG<|zE (oV (vb (false||decide (((l.length:Nat):Int)<((1:Nat):Int)))) (qF (by kernel_rfl)))<|?_
   rcases hb2:(false||decide (((l.length:Nat):Int)<((1:Nat):Int))) with _ | _
   ·replace hb2:=xH (p:=(((l.length:Nat):Int)<((1:Nat):Int))) hb2
    refine zM<|zE (kH (u_short (List.map jP l) (row_up (pts_row hl (by omega))) 6 (by omega) 2 (by omega)))<|zE eL<|zE aG<|zE (oV (vb (false||!(shR 6 2 (List.map jP l)))) (qF (by kernel_rfl)))<|?_
    rcases hb3:(false||!(shR 6 2 (List.map jP l))) with _ | _
    ·refine zR (kT jR)<|zE (kH (aQ (jP x) x (kE (kN hx))))<|zE eL<|zE aG<|zE (oV (vb (false||!(kL (jP x)))) (qF (by kernel_rfl)))<|?_
     rcases hb4:(false||!(kL (jP x))) with _ | _
     ·refine zR (kT jR)<|zE (kH (aQ (jP d) d (kE (kN hd))))<|zE eL<|zE aG<|zE (oV (vb (false||!(kL (jP d)))) (qF (by kernel_rfl)))<|?_
      rcases hb5:(false||!(kL (jP d))) with _ | _
      ·exact zR (kT jR)<|zR (kT jR)<|zE (oQd (.sl 28 4 (List.map jK [(jP x),(jP d)])) (.sl 28 4 (List.map jK [(jP x),(jP d)])) (dM xD uU uX) (by exact rfl))<|zE (kH (u_short [(jP x),(jP d)] (row_up hxd) 2 (by omega) 2 (by omega)))<|zE eL<|zE aG<|zZ
      ·exact zK<|zK<|zK<|zK<|zK<|zE yT<|zZ
     ·exact zK<|zK<|zK<|zE yT<|zM<|zK<|zK<|zK<|zK<|zK<|zE yT<|zZ
    ·exact zK<|zK<|zK<|zE yT<|zM<|zK<|zK<|zK<|zE yT<|zM<|zK<|zK<|zK<|zK<|zK<|zE yT<|zZ
   ·replace hb2:=xF (p:=(((l.length:Nat):Int)<((1:Nat):Int))) hb2
    exact zK<|zK<|zK<|zE yT<|zM<|zK<|zK<|zK<|zE yT<|zM<|zK<|zK<|zK<|zE yT<|zM<|zK<|zK<|zK<|zK<|zK<|zE yT<|zZ
  ·exact zK<|zK<|zK<|zE yT<|zM<|zK<|zK<|zK<|zE yT<|zM<|zK<|zK<|zK<|zE yT<|zM<|zK<|zK<|zK<|zE yT<|zM<|zK<|zK<|zK<|zK<|zK<|zE yT<|zZ
 refine jH rfl (fun h6=>?_) (fun h6=>?_)
 ·exact absurd ((h6).symm.trans hg2) (by decide)
 ·refine jF<|jB<|kx [(7,(.own 2 35 7 2))] [(2,some (qP qE [(kI.mk ((1:Nat):Int) 0 0 qY),(kI.mk ((0:Nat):Int) 0 0 (jP (l.getD (l.length-1) 0)))]))] (zE (oBd pl35 ze35 zo35)<|zM<|zM<|zE (oLn eN l.length)<|zE (oSb (l.length-1))<|zE (oXm eN jP (l.length-1) 0 (hj:=by first | omega | (simp only[List.length_append,List.length_cons,List.length_nil];omega) | (dsimp only;omega)) (h1:=by first | omega | (simp only[List.length_append,List.length_cons,List.length_nil];omega) | (dsimp only;omega)))<|zE (nX jR)<|zE (oBd pl35 ze35 zo35)<|zN (oBo 2 el37 ze35 zo35)<|zM<|zZ) ?_
  refine jB<|kx [(8,(jS 1))] [] (zM<|zZ) ?_
  refine jB<|jB<|kx [(9,(vi ((((l.length-1):Nat):Int)-1)))] [] (zM<|zE (oLn eN l.length)<|zE (zSb ((((l.length-1):Nat):Int)-1))<|zM<|zZ) ?_
  refine jG<|kU (α:=Nat × List kI) (fun (k,o)=>⟨[(0,(vl 28 4 jK (List.map jP l))),(4,(.ref 0 0)),(5,(.ref 1 0)),(7,(.own 2 35 7 o.length)),(8,(jS (o.length-1))),(9,(vi (((k:Nat):Int)-1)))],[(0,some (bx (jK (jP x)))),(1,some (bx (jK (jP d)))),(2,some (qP qE o))]⟩) (fun (k,o)=>k<l.length/\o=hZ (l.drop k)) (fun (k,o)=>k) (l.length-1,[kI.mk ((1:Nat):Int) 0 0 qY,kI.mk 0 0 0 (jP (l.getD (l.length-1) 0))]) wk ⟨by omega,(hr_start hb0).symm⟩ ?_
  rintro ⟨k,o⟩ ⟨hk,ho⟩
  have hol:o.length=3*(l.length-k)-1:=by rw[ho,hrT_len _ (by intro h9;have:=congrArg List.length h9;simp only[List.length_drop,List.length_nil] at this;omega),List.length_drop]
  refine jB<|jB<|kx [(68,(vb (decide (((0:Nat):Int)<=(((k:Nat):Int)-1)))))] [] (zM<|zE oGe<|zZ) ?_
  refine jH rfl (fun h7=>?_) (fun h7=>?_)
  ·replace h7:=xF h7
   obtain ⟨i,rfl⟩:∃ i,k=i+1:=⟨k-1,by omega⟩
   rw[show (((i+1:Nat):Int)-1)=((i:Nat):Int) from by omega]
   have hol4:=@len_3 o (kI.mk ((4:Nat):Int) (((o.length-1):Nat):Int) ((0:Nat):Int) qY) (kI.mk ((0:Nat):Int) 0 0 (jP (l.getD i 0))) (kI.mk ((2:Nat):Int) ((o.length:Nat):Int) (((o.length+1):Nat):Int) qY)
   refine jF<|jB<|jG<|jB<|kf [(7,(.own 2 35 7 ((o++[(kI.mk ((4:Nat):Int) (((o.length-1):Nat):Int) ((0:Nat):Int) qY),(kI.mk ((0:Nat):Int) 0 0 (jP (l.getD i 0))),(kI.mk ((2:Nat):Int) ((o.length:Nat):Int) (((o.length+1):Nat):Int) qY)]).length))),(9,(jS i))] [(2,some (qP qE (o++[(kI.mk ((4:Nat):Int) (((o.length-1):Nat):Int) ((0:Nat):Int) qY),(kI.mk ((0:Nat):Int) 0 0 (jP (l.getD i 0))),(kI.mk ((2:Nat):Int) ((o.length:Nat):Int) (((o.length+1):Nat):Int) qY)])))] (zM<|zM<|zE (oBd pl35 ze35 zo35)<|zM<|zM<|zE (oXm eN jP i 0 (hj:=by first | omega | (simp only[List.length_append,List.length_cons,List.length_nil];omega) | (dsimp only;omega)) (h1:=by first | omega | (simp only[List.length_append,List.length_cons,List.length_nil];omega) | (dsimp only;omega)))<|zE (nX jR)<|zE (oBd pl35 ze35 zo35)<|zM<|zE (oLo el37)<|zM<|zE (oLo el37)<|zE (vD (o.length+1))<|zE (oBd pl35 ze35 zo35)<|zE (dM el37 ze35 zo35)<|zAS qE o [(kI.mk ((4:Nat):Int) (((o.length-1):Nat):Int) ((0:Nat):Int) qY),(kI.mk ((0:Nat):Int) 0 0 (jP (l.getD i 0))),(kI.mk ((2:Nat):Int) ((o.length:Nat):Int) (((o.length+1):Nat):Int) qY)] rfl el37 ze35 by35<|zM<|zF) ?_
   refine kx [(8,(jS ((o++[(kI.mk ((4:Nat):Int) (((o.length-1):Nat):Int) ((0:Nat):Int) qY),(kI.mk ((0:Nat):Int) 0 0 (jP (l.getD i 0))),(kI.mk ((2:Nat):Int) ((o.length:Nat):Int) (((o.length+1):Nat):Int) qY)]).length-1)))] [] (zM<|zE (oLo el37)<|zE (oSb ((o++[(kI.mk ((4:Nat):Int) (((o.length-1):Nat):Int) ((0:Nat):Int) qY),(kI.mk ((0:Nat):Int) 0 0 (jP (l.getD i 0))),(kI.mk ((2:Nat):Int) ((o.length:Nat):Int) (((o.length+1):Nat):Int) qY)]).length-1))<|zM<|zZ) ?_
   refine kx [(9,(vi (((i:Nat):Int)-1)))] [] (zM<|zE (zSb (((i:Nat):Int)-1))<|zM<|zZ) ?_
   exact ⟨(i,o++[kI.mk 4 ((o.length-1:Nat):Int) 0 qY,kI.mk 0 0 0 (jP (l.getD i 0)),kI.mk 2 ((o.length:Nat):Int) ((o.length+1:Nat):Int) qY]),wk,⟨by omega,by rw[hr_next (by omega),<- ho];rfl⟩,(by first|omega|(dsimp only;omega))⟩
  ·replace h7:=xH h7
   have ho2:o=hZ l:=by rw[ho,show k=0 by omega];rfl
   refine kK<|jB<|kx [(10,(vl 28 4 jK (List.map jP (nW l))))] [] (zM<|zE (kH (y_dv1 l (vA (n:=2) hl) (by omega) hz))<|zM<|zZ) ?_
   refine jB<|kd [(11,(vl 28 4 jK [(jP (yY x l)),(jP (yY x (nW l))),(jP (yY x (nW (nW l))))]))] [] mo (wM<|wR (kT jR)<|wE (kH (y_ev l (vA (n:=2) hl) x (kS hx) (by omega)))<|wM<|wR (kT jR)<|wE (kH (y_ev (nW l) (vA (n:=11) (gE (n:=10) (by omega) (vA (n:=2) hl))) x (kS hx) (by omega)))<|wM<|wE (kH (y_dv (nW l) (vA (n:=11) (gE (n:=10) (by omega) (vA (n:=2) hl))) (by omega) (by assumption)))<|wR (kT jR)<|wE (kH (y_ev (nW (nW l)) (gE (n:=39) (by omega) (vA (n:=11) (gE (n:=10) (by omega) (vA (n:=2) hl)))) x (kS hx) (by omega)))<|wE (dM xD uU uX)<|wM<|wZ) ?_
   refine jB<|kM (vS (t:=7) (k:=2) (es:=List.map qE o) rfl rfl (xQ _ _ (fun _=>rfl)) (uD _ _ rfl) (yB qE o (fun _=>rfl) rfl)) ?_
   refine kM (wk (l:=[(4,(.ref 0 0)),(5,(.ref 1 0)),(7,(vl 35 7 qE o)),(11,(vl 28 4 jK [(jP (yY x l)),(jP (yY x (nW l))),(jP (yY x (nW (nW l))))]))]) (b:=[(0,some (bx (jK (jP x)))),(1,some (bx (jK (jP d))))])) ?_
   refine kx [(12,(.ref 3 0)),(13,(jS 0))] [(3,some (bx (jK (jP (yY x l)))))] (zE (oQd (.sl 35 7 (List.map qE o)) (.sl 35 7 (List.map qE (hZ l))) (oV (vl 35 7 qE o) (qF (by kernel_rfl))) (by exact (congrArg (fun t=>jT.sl 35 7 (List.map qE t)) ho2)))<|zR (kT jR)<|zE (oQd (.sl 28 4 (List.map jK [(jP x)])) (.sl 28 4 (List.map jK (List.map jP [x]))) (dM xD uU uX) (by exact rfl))<|zE (kH (p_val (hZ l) (fun n9 h9=>kE (hrT_ok l hl n9 h9) (by decide)) [x] hx1 hvr.1 (show 1<=1000000 by decide)))<|zM<|zE (oQd (jK (jP (lastV [x] (hZ l)))) (jK (jP (yY x l))) xX (by exact (congrArg (fun q=>jK (jP q)) hvr.2)))<|zE xX<|zN (uT 3 uU uX)<|zT (qK jR)<|zM<|zZ) ?_
   refine jB<|kx [(14,(.ref 4 0)),(15,(jS 0))] [(4,some (bx (jD (jL (qX (-1) (xV x) (hZ l))))))] (zE (oQd (.sl 35 7 (List.map qE o)) (.sl 35 7 (List.map qE (hZ l))) (oV (vl 35 7 qE o) (qF (by kernel_rfl))) (by exact (congrArg (fun t=>jT.sl 35 7 (List.map qE t)) ho2)))<|zR (kT jR)<|zR (kT jR)<|zE (oQd (jJ (qB.mk (jP x) (jP x))) (jJ (kF (xV x))) (oBd pl44 vI xB) (by exact rfl))<|zE (dM vG vI xB)<|zE (kH (e_j3 (hZ l) (fun n9 h9=>kE (hrT_ok l hl n9 h9) (by decide)) (xV x) (gl_pt (kS hx)) (-1) hj1))<|zM<|zE xX<|zE xX<|zN (uT 4 mU fK)<|zT (qK dK)<|zM<|zZ) ?_
   refine jB<|kd [(16,(.ref 5 0))] [(5,some (bx (jJ (kF (x,x+zW d)))))] mo (wR (kT jR)<|wR (kT jR)<|wR (kT jR)<|wE (kH (g_abs (jP d) d (kE (kN hd))))<|wE (kH (g_add (jP x) (jP (zW d)) x (zW d) (kE (kN hx)) (kE (kN (ql_abs hd)))))<|wE (oQd (jJ (qB.mk (jP x) (jP (x+(zW d))))) (jJ (kF (x,x+zW d))) (oBd pl44 vI xB) (by exact rfl))<|wN (uT 5 vI xB)<|wT (qK qI)<|wZ) ?_
   refine jB<|kx [(17,(.ref 6 0)),(18,(jS 0))] [(6,some (bx (jD (jL (qX 20 (x,x+zW d) (hZ l))))))] (zE (oQd (.sl 35 7 (List.map qE o)) (.sl 35 7 (List.map qE (hZ l))) (oV (vl 35 7 qE o) (qF (by kernel_rfl))) (by exact (congrArg (fun t=>jT.sl 35 7 (List.map qE t)) ho2)))<|zR (kT qI)<|zE (dM vG vI xB)<|zE (kH (e_j3 (hZ l) (fun n9 h9=>kE (hrT_ok l hl n9 h9) (by decide)) (x,x+zW d) (qG hw) ((20:Nat):Int) hj2))<|zM<|zE xX<|zE xX<|zN (uT 6 mU fK)<|zT (qK dK)<|zM<|zZ) ?_
   refine jB<|jB<|kd [(185,(vb false))] [] mo (wM<|wM<|wE (vD 0 (hr:=by decide))<|wM<|wE (vD 0 (hr:=by decide))<|wE (xC false oNe)<|wM<|wR (kT jR)<|wM<|wE (fD xD 0)<|wE (nX jR)<|wE (xC true (kH (bD (yY x l) (kS (dC (kS hx) (vA hl) (by omega))) (yY x l) (kS (dC (kS hx) (vA (n:=2) hl) (by omega))))) (by exact decide_eq_true rfl))<|wE eL<|wE gK<|wM<|wE (kW zQ)<|wR (qR mA)<|wE (oLn vG 1 (hr:=rfl))<|wE (xC false oNe)<|wE gK<|wM<|wE (kW zQ)<|wR (qR mA)<|wE (oLn vG 1 (hr:=rfl))<|wE (xC false oNe)<|wE gK<|wM<|wE (kW yV)<|wR (qR sh46)<|wE (oLn el46 1 (hr:=rfl))<|wE (xC false oNe)<|wE gK<|wM<|wE (kW yV)<|wR (qR sh46)<|wE (oLn el46 1 (hr:=rfl))<|wE (xC false oNe)<|wE gK<|wM<|wE (kW yV)<|wR (qR sh46)<|wE (fD el46 0)<|wE (gJ mA)<|wE (oLn vG 1 (hr:=rfl))<|wE (xC false oNe)<|wE gK<|wM<|wE (kW yV)<|wR (qR sh46)<|wE (fD el46 0)<|wE (gJ mA)<|wE (oLn vG 1 (hr:=rfl))<|wE (xC false oNe)<|wE gK<|wZ) ?_
   refine qH ?_
   refine jF<|jB<|kd [(19,(vl 44 8 jJ [(kF ((qX (-1) (xV x) (hZ l)).v)),(kF ((qX (-1) (xV x) (hZ l)).g)),(kF ((qX (-1) (xV x) (hZ l)).h))])),(20,(vl 44 8 jJ [(kF ((qX 20 (x,x+zW d) (hZ l)).v)),(kF ((qX 20 (x,x+zW d) (hZ l)).g)),(kF ((qX 20 (x,x+zW d) (hZ l)).h))]))] [] mo (wE (kW eC)<|wR (kT qI)<|wE (kW zQ)<|wR (qR mA)<|wE (fD vG 0)<|wE (nX qI)<|wE (kW yV)<|wR (qR sh46)<|wE (fD el46 0)<|wE (gJ mA)<|wE (fD vG 0)<|wE (nX qI)<|wE (dM vG vI xB)<|wE (kW eC)<|wR (kT qI)<|wE (kW zQ)<|wR (qR mA)<|wE (fD vG 0)<|wE (nX qI)<|wE (kW yV)<|wR (qR sh46)<|wE (fD el46 0)<|wE (gJ mA)<|wE (fD vG 0)<|wE (nX qI)<|wE (dM vG vI xB)<|wM<|wM<|wZ) ?_
   refine jB<|jB<|kx [(212,(vl 28 4 jK [(jP (yY x l)),(jP (yY x (nW l))),(jP (yY x (nW (nW l))))])),(213,(jS 3)),(214,(jS 0))] [] (zM<|zE (oLn xD 3)<|zM<|zZ) ?_
   refine jG<|vB 4 ?_
   refine vT<|jB<|kx [(215,(vb true))] [] (zE (xC true xO)<|zZ) ?_
   refine jB<|uG ?_
   refine jF<|jB<|jG<|jB<|kx [(21,(jS 0)),(22,(.ref 7 0))] [(7,some (bx (jK (jP (yY x l)))))] (zM<|zE (fD xD 0)<|zE (nX jR)<|zN (uT 7 uU uX)<|zM<|zT (qK jR)<|zZ) ?_
   refine jB<|kd [(256,(vb false))] [] mo (wM<|wM<|wE (fD vG 0)<|wE (aK gH)<|wE (nX jR)<|wR (kT jR)<|wE (xC true (kH (bD (((qX (-1) (xV x) (hZ l)).v).1) (kS hj1.ok.v.1) (yY x l) (kS (dC (kS hx) (vA (n:=2) hl) (by omega))))) (by exact decide_eq_true (congrArg Prod.fst hpt.1)))<|wE eL<|wM<|wM<|wM<|wE (fD vG 0)<|wE (aK yM)<|wE (nX jR)<|wR (kT jR)<|wE (xC true (kH (bD (((qX (-1) (xV x) (hZ l)).v).2) (kS hj1.ok.v.2.1) (yY x l) (kS (dC (kS hx) (vA (n:=2) hl) (by omega))))) (by exact decide_eq_true (congrArg Prod.snd hpt.1)))<|wE eL<|wE gK<|wM<|wM<|wM<|wE (fD vG 0)<|wE (aK gH)<|wE (nX jR)<|wR (kT jR)<|wE (kH (cN (jP (((qX 20 (x,x+zW d) (hZ l)).v).1)) (jP (yY x l)) (((qX 20 (x,x+zW d) (hZ l)).v).1) (yY x l) (kE (kN hj2.ok.v.1)) (kE (kN (dC (kS hx) (vA (n:=2) hl) (by omega))))))<|wE (xC false mB (by exact decide_eq_false (cmp_le hbx.1.1)))<|wE gK<|wM<|wR (kT jR)<|wM<|wM<|wE (fD vG 0)<|wE (aK yM)<|wE (nX jR)<|wE (kH (cN (jP (yY x l)) (jP (((qX 20 (x,x+zW d) (hZ l)).v).2)) (yY x l) (((qX 20 (x,x+zW d) (hZ l)).v).2) (kE (kN (dC (kS hx) (vA (n:=2) hl) (by omega)))) (kE (kN hj2.ok.v.2.1))))<|wE (xC false mB (by exact decide_eq_false (cmp_le hbx.1.2)))<|wE gK<|wZ) ?_
   refine qH ?_
   refine jF<|kx [(214,(jS 1))] [] (zE (vD 1 (hr:=by decide))<|zM<|zZ) ?_
   refine vO (qQ.refl _) ?_
   refine jB<|kx [(215,(vb true))] [] (zE (xC true xO)<|zZ) ?_
   refine jB<|uG ?_
   refine jF<|jB<|jG<|jB<|kx [(21,(jS 1)),(22,(.ref 8 0))] [(8,some (bx (jK (jP (yY x (nW l))))))] (zM<|zE (fD xD 1)<|zE (nX jR)<|zN (uT 8 uU uX)<|zM<|zT (qK jR)<|zZ) ?_
   refine jB<|kd [(256,(vb false))] [] mo (wM<|wM<|wE (fD vG 1)<|wE (aK gH)<|wE (nX jR)<|wR (kT jR)<|wE (xC true (kH (bD (((qX (-1) (xV x) (hZ l)).g).1) (kS hj1.ok.g.1) (yY x (nW l)) (kS (dC (kS hx) (vA (n:=11) (gE (n:=10) (by omega) (vA (n:=2) hl))) (by omega))))) (by exact decide_eq_true (congrArg Prod.fst hpt.2.1)))<|wE eL<|wM<|wM<|wM<|wE (fD vG 1)<|wE (aK yM)<|wE (nX jR)<|wR (kT jR)<|wE (xC true (kH (bD (((qX (-1) (xV x) (hZ l)).g).2) (kS hj1.ok.g.2.1) (yY x (nW l)) (kS (dC (kS hx) (vA (n:=11) (gE (n:=10) (by omega) (vA (n:=2) hl))) (by omega))))) (by exact decide_eq_true (congrArg Prod.snd hpt.2.1)))<|wE eL<|wE gK<|wM<|wM<|wM<|wE (fD vG 1)<|wE (aK gH)<|wE (nX jR)<|wR (kT jR)<|wE (kH (cN (jP (((qX 20 (x,x+zW d) (hZ l)).g).1)) (jP (yY x (nW l))) (((qX 20 (x,x+zW d) (hZ l)).g).1) (yY x (nW l)) (kE (kN hj2.ok.g.1)) (kE (kN (dC (kS hx) (vA (n:=11) (gE (n:=10) (by omega) (vA (n:=2) hl))) (by omega))))))<|wE (xC false mB (by exact decide_eq_false (cmp_le hbx.2.1.1)))<|wE gK<|wM<|wR (kT jR)<|wM<|wM<|wE (fD vG 1)<|wE (aK yM)<|wE (nX jR)<|wE (kH (cN (jP (yY x (nW l))) (jP (((qX 20 (x,x+zW d) (hZ l)).g).2)) (yY x (nW l)) (((qX 20 (x,x+zW d) (hZ l)).g).2) (kE (kN (dC (kS hx) (vA (n:=11) (gE (n:=10) (by omega) (vA (n:=2) hl))) (by omega)))) (kE (kN hj2.ok.g.2.1))))<|wE (xC false mB (by exact decide_eq_false (cmp_le hbx.2.1.2)))<|wE gK<|wZ) ?_
   refine qH ?_
   refine jF<|kM (wk (l:=[(19,(vl 44 8 jJ [(kF ((qX (-1) (xV x) (hZ l)).v)),(kF ((qX (-1) (xV x) (hZ l)).g)),(kF ((qX (-1) (xV x) (hZ l)).h))])),(20,(vl 44 8 jJ [(kF ((qX 20 (x,x+zW d) (hZ l)).v)),(kF ((qX 20 (x,x+zW d) (hZ l)).g)),(kF ((qX 20 (x,x+zW d) (hZ l)).h))])),(212,(vl 28 4 jK [(jP (yY x l)),(jP (yY x (nW l))),(jP (yY x (nW (nW l))))])),(213,(jS 3)),(214,(jS 1)),(256,(vb false))]) (b:=[])) ?_
   refine kx [(214,(jS 2))] [] (zE (vD 2 (hr:=by decide))<|zM<|zZ) ?_
   refine vO (qQ.refl _) ?_
   refine jB<|kx [(215,(vb true))] [] (zE (xC true xO)<|zZ) ?_
   refine jB<|uG ?_
   refine jF<|jB<|jG<|jB<|kx [(21,(jS 2)),(22,(.ref 9 0))] [(9,some (bx (jK (jP (yY x (nW (nW l)))))))] (zM<|zE (fD xD 2)<|zE (nX jR)<|zN (uT 9 uU uX)<|zM<|zT (qK jR)<|zZ) ?_
   refine jB<|kd [(256,(vb false))] [] mo (wM<|wM<|wE (fD vG 2)<|wE (aK gH)<|wE (nX jR)<|wR (kT jR)<|wE (xC true (kH (bD (((qX (-1) (xV x) (hZ l)).h).1) (kS hj1.ok.h.1) (yY x (nW (nW l))) (kS (dC (kS hx) (gE (n:=39) (by omega) (vA (n:=11) (gE (n:=10) (by omega) (vA (n:=2) hl)))) (by omega))))) (by exact decide_eq_true (congrArg Prod.fst hpt.2.2)))<|wE eL<|wM<|wM<|wM<|wE (fD vG 2)<|wE (aK yM)<|wE (nX jR)<|wR (kT jR)<|wE (xC true (kH (bD (((qX (-1) (xV x) (hZ l)).h).2) (kS hj1.ok.h.2.1) (yY x (nW (nW l))) (kS (dC (kS hx) (gE (n:=39) (by omega) (vA (n:=11) (gE (n:=10) (by omega) (vA (n:=2) hl)))) (by omega))))) (by exact decide_eq_true (congrArg Prod.snd hpt.2.2)))<|wE eL<|wE gK<|wM<|wM<|wM<|wE (fD vG 2)<|wE (aK gH)<|wE (nX jR)<|wR (kT jR)<|wE (kH (cN (jP (((qX 20 (x,x+zW d) (hZ l)).h).1)) (jP (yY x (nW (nW l)))) (((qX 20 (x,x+zW d) (hZ l)).h).1) (yY x (nW (nW l))) (kE (kN hj2.ok.h.1)) (kE (kN (dC (kS hx) (gE (n:=39) (by omega) (vA (n:=11) (gE (n:=10) (by omega) (vA (n:=2) hl)))) (by omega))))))<|wE (xC false mB (by exact decide_eq_false (cmp_le hbx.2.2.1)))<|wE gK<|wM<|wR (kT jR)<|wM<|wM<|wE (fD vG 2)<|wE (aK yM)<|wE (nX jR)<|wE (kH (cN (jP (yY x (nW (nW l)))) (jP (((qX 20 (x,x+zW d) (hZ l)).h).2)) (yY x (nW (nW l))) (((qX 20 (x,x+zW d) (hZ l)).h).2) (kE (kN (dC (kS hx) (gE (n:=39) (by omega) (vA (n:=11) (gE (n:=10) (by omega) (vA (n:=2) hl)))) (by omega)))) (kE (kN hj2.ok.h.2.1))))<|wE (xC false mB (by exact decide_eq_false (cmp_le hbx.2.2.2)))<|wE gK<|wZ) ?_
   refine qH ?_
   refine jF<|kx [(214,(jS 3))] [] (zE (vD 3 (hr:=by decide))<|zM<|zZ) ?_
   refine vO (qQ.refl _) ?_
   refine jB<|kx [(215,(vb false))] [] (zE (xC false xO)<|zZ) ?_
   refine jB<|qH ?_
   refine kK<|jB<|kx [(6,(vb true))] [] (zM<|zZ) ?_
   refine jE ⟨_,(.tmp (d:=(.val (.bool (true)))) rfl .nil),?_⟩
   rfl
end Go.Proofs.YtciingpdmjepgabGreatDoor
namespace Go.Fid
open Go.RowKit (Below)
mutual
inductive Ty where
 |int (k:IntKind)
 |bool
 |sl (E:TypeId) (s:Nat) (e:Ty)
 |st (fs:TyL)
 |ar (n:Nat) (E:TypeId) (fs:TyL)
inductive TyL where
 |nil
 |cons (t:TypeId) (ty:Ty) (r:TyL)
end
mutual
def Ty.size:Ty->Nat
 |.int _=>1
 |.bool=>1
 |.sl _ _ _=>1
 |.st fs=>fs.size
 |.ar _ _ fs=>fs.size
def TyL.size:TyL->Nat
 |.nil=>0
 |.cons _ ty r=>ty.size+r.size
end
def fieldsB:List Field->Nat->TyL->Bool
 |[],_,.nil=>true
 |f::l,off,.cons t ty r=>Nat.beq f.type t&&(Nat.beq f.offset off&&fieldsB l (off+ty.size) r)
 |_,_,_=>false
def arFs(E:TypeId)(z:Nat):Nat->Nat->List Field
 |0,_=>[]
 | n + 1, i => { name := "", type := E, offset := i * z, embedded := false, tag := "", pkgPath := "", byteOffset := 0 } :: arFs E z n (i + 1)
theorem arFs_mem{E:TypeId}{z:Nat}:∀ {n i:Nat} {f:Field},f∈arFs E z n i->∃ j,j<n/\f.type=E/\f.offset=(i+j)*z
 |0,_,_,h=>by cases h
 |n+1,i,f,h=>by
  rcases List.mem_cons.1 h with e | h
  ·exact ⟨0,by omega,by rw[e],by rw[e];rfl⟩
  ·obtain ⟨j,h1,h2,h3⟩:=arFs_mem h
   exact ⟨j+1,by omega,h2,by rw[h3];congr 1;omega⟩
def wB:Ty->Nat
 |.int .u32=>4
 |_=>1
theorem wB_pos(e:Ty):1<=wB e:=by unfold wB;split<;>decide
mutual
def tyB(P:Program):TypeId->Ty->Bool
 |t,.int k=>match P.underlying t with
  |some (.int k')=>decide (k'=k)
  |_=>false
 |t,.bool=>match P.underlying t with
  |some .bool=>true
  |_=>false
 |t,.sl E s e=>match P.underlying t with
  |some (.slice E')=>Nat.beq E' E&&(Nat.beq (P.cellsOf E) s&&(Nat.beq e.size s&&(Nat.ble 1 s&&(Nat.ble (wB e) (P.bytesOf E)&&tyB P E e))))
  |_=>false
 |t,.st fs=>match P.underlying t with
  |some (.struct fds)=>Nat.beq (P.cellsOf t) fs.size&&(fieldsB fds.toList 0 fs&&tysB P fs)
  |_=>false
 |t,.ar n E fs=>match P.underlying t with
  |some (.array n' E')=>Nat.beq n' n&&(Nat.beq E' E&&(Nat.beq (P.cellsOf t) fs.size&&(fieldsB (arFs E (P.cellsOf E) n 0) 0 fs&&tysB P fs)))
  |_=>false
def tysB(P:Program):TyL->Bool
 |.nil=>true
 |.cons t ty r=>Nat.beq (P.cellsOf t) ty.size&&(tyB P t ty&&tysB P r)
end
def isSt:Ty->Bool
 |.st _=>true
 |.ar _ _ _=>true
 |_=>false
def mkD(ty:Ty)(ds:List jT):jT:=bif isSt ty then .agg ds else ds.headD (.tup [])
mutual
def Sh:Ty->List jT->Prop
 |.int k,ds=>∃ z,ds=[.val (.int k z)]/\(Lit.int k z).wf=true
 |.bool,ds=>∃ b,ds=[.val (.bool b)]
 |.sl E s e,ds=>∃ es:List (List jT),ds=[.sl E s (es.map (mkD e))]/\es.length*wB e<=140737488351232/\∀ x∈es,Sh e x
 |.st fs,ds=>ShL fs ds
 |.ar _ _ fs,ds=>ShL fs ds
def ShL:TyL->List jT->Prop
 |.nil,ds=>ds=[]
 |.cons _ ty r,ds=>∃ a b,ds=a++b/\Sh ty a/\ShL r b
end
mutual
theorem Sh.len:∀ {ty:Ty} {ds:List jT},Sh ty ds->ds.length=ty.size
 |.int k,ds,h=>by obtain ⟨z,rfl,_⟩:=h;rfl
 |.bool,ds,h=>by obtain ⟨b,rfl⟩:=h;rfl
 |.sl E s e,ds,h=>by obtain ⟨es,rfl,_⟩:=h;rfl
 |.st fs,ds,h=>ShL.len (h:ShL fs ds)
 |.ar _ _ fs,ds,h=>ShL.len (h:ShL fs ds)
theorem ShL.len:∀ {fs:TyL} {ds:List jT},ShL fs ds->ds.length=fs.size
 |.nil,ds,h=>by have h:ds=[]:=h;subst h;rfl
 |.cons t ty r,ds,h=>by
  obtain ⟨a,b,rfl,h1,h2⟩:=h
  rw[List.length_append,Sh.len h1,ShL.len h2];rfl
end
theorem mkD_cells{ty:Ty}{ds:List jT}(h:Sh ty ds):(mkD ty ds).cells=ds:=by
 cases ty with
 |int k=>obtain ⟨z,rfl,_⟩:=h;rfl
 |bool=>obtain ⟨b,rfl⟩:=h;rfl
 |sl E s e=>obtain ⟨es,rfl,_⟩:=h;rfl
 |st fs=>rfl
 |ar n E fs=>rfl
def oldD(w:World):kV:=fun _ g _=>g<w.heap.size
def RepC(w:World)(cs:List Value)(ds:List jT):Prop:=ds.length=cs.length/\(∀ v∈cs,v.oneCell'=true)/\∀ (i:Nat) v d,cs[i]?=some v->ds[i]?=some d->uN w (oldD w) v d
theorem RepC.append{w:World}{cs1 cs2:List Value}{d1 d2:List jT}(h1:RepC w cs1 d1)(h2:RepC w cs2 d2):RepC w (cs1++cs2) (d1++d2):=by
 refine ⟨by rw[List.length_append,List.length_append,h1.1,h2.1],fun v hv=>?_,fun i v d hv hd=>?_⟩
 ·rcases List.mem_append.1 hv with h | h
  ·exact h1.2.1 v h
  ·exact h2.2.1 v h
 ·by_cases hi:i<cs1.length
  ·rw[List.getElem?_append_left hi] at hv
   rw[List.getElem?_append_left (by rw[h1.1];exact hi)] at hd
   exact h1.2.2 i v d hv hd
  ·rw[List.getElem?_append_right (by omega)] at hv
   rw[List.getElem?_append_right (by rw[h1.1];omega),h1.1] at hd
   exact h2.2.2 _ v d hv hd
section
variable {H:Type} {enc:TypeId × Value->H} {P:Program} {w:World} {sp:Nat->Bool} {held:Bool}
theorem eA{e:TypeId}:∀ {l:List (DataW H)} {d:DataW H},d∈l->∀ {n:Nat},n∈d.weights P e->n∈DataW.weightsAll P e l
 |[],_,h,_,_=>by cases h
 |x::l,d,h,n,hn=>by
  simp only[DataW.weightsAll]
  rcases List.mem_cons.1 h with rfl | h
  ·exact List.mem_append_left _ hn
  ·exact List.mem_append_right _ (eA h hn)
theorem cells_get{a:Addr}{n:Nat}{cs:List Value}(h:w.cells? 0 a n=some cs):cs.length=n/\∀ i,i<n->w.cell? (a.add i)=cs[i]?:=by
 unfold World.cells? at h
 rw[if_pos (Nat.zero_le _)] at h
 refine ⟨by simpa using mapM_some_length h,fun i hi=>?_⟩
 have:=mapM_some_get h i i (by simp [hi])
 exact this
theorem drop_take_split{α:Type}{cs:List α}{off n m:Nat}(h:cs.length=off+(n+m)):cs.drop off=(cs.drop off).take n++cs.drop (off+n):=by
 rw[<- List.drop_drop,List.take_append_drop]
mutual
theorem bridge:∀ {ty:Ty} {t:TypeId} {fuel:Nat} {cs:List Value} {x:DataW H × List MemPlace},tyB P t ty=true->DataW.trod enc P w 0 sp held fuel t cs=some x->(∀ n∈x.1.weights P t,n<=reachBytes)->∃ ds,RepC w cs ds/\Sh ty ds
 |.int k,t,fuel,cs,x,ht,h,_=>by
  unfold tyB at ht
  split at ht
  ·rename_i k' hu
   obtain rfl:k'=k:=of_decide_eq_true ht
   obtain ⟨n,rfl,_,hw⟩:=DataW.trod_int hu h
   refine ⟨[.val (.int k' n)],⟨rfl,by simp [Value.oneCell'],fun i v d hv hd=>?_⟩,n,rfl,hw⟩
   rcases i with _ | i
   ·simp at hv hd;subst hv;subst hd;exact .val _
   ·simp at hv
  ·cases ht
 |.bool,t,fuel,cs,x,ht,h,_=>by
  unfold tyB at ht
  split at ht
  ·rename_i hu
   obtain ⟨b,rfl,_⟩:=DataW.trod_bool hu h
   refine ⟨[.val (.bool b)],⟨rfl,by simp [Value.oneCell'],fun i v d hv hd=>?_⟩,b,rfl⟩
   rcases i with _ | i
   ·simp at hv hd;subst hv;subst hd;exact .val _
   ·simp at hv
  ·cases ht
 |.sl E s e,t,fuel,cs,x,ht,h,hwt=>by
  unfold tyB at ht
  split at ht
  ·rename_i E' hu
   simp only[Bool.and_eq_true] at ht
   obtain ⟨h1,h2,h3,h4,h6,h5⟩:=ht
   obtain rfl:E'=E:=Nat.eq_of_beq_eq_true h1
   have hs:P.cellsOf E'=s:=Nat.eq_of_beq_eq_true h2
   have hes:e.size=s:=Nat.eq_of_beq_eq_true h3
   have hs1:1<=s:=Nat.le_of_ble_eq_true h4
   have one:∀ v:Value,v.oneCell'=true->∀ d,uN w (oldD w) v d->RepC w [v] [d]:=fun v h1 d h2=>⟨rfl,by simpa using h1,fun i v' d' hv hd=>by
    rcases i with _ | i
    ·simp at hv hd;subst hv;subst hd;exact h2
    ·simp at hv⟩
   rcases DataW.trod_slice hu h with ⟨rfl,_⟩ | ⟨a,len,cap,elems,vH,n,_,rfl,hx,_,hl,hm,qL,hel,_⟩
   ·exact ⟨[.sl E' s []],one _ rfl _ (eX w _ E' s),[],rfl,by simp,by simp⟩
   ·have hws:∀ n∈(elems.length+vH.length)*P.bytesOf E'::(DataW.weightsAll P E' (elems.map (·.1))++DataW.weightsAll P E' (vH.map (·.1))),n<=reachBytes:=by
     intro n hn
     refine hwt n ?_
     rw[hx]
     simp only[DataW.weights,hu,List.length_map]
     exact hn
    have hlenB:len*wB e<=140737488351232:=by
     have h7:=hws _ (List.mem_cons_self)
     have h8:wB e<=P.bytesOf E':=Nat.le_of_ble_eq_true h6
     have h9:len<=elems.length+vH.length:=by omega
     exact Nat.le_trans (Nat.le_trans (Nat.mul_le_mul h9 h8) h7) (by decide)
    have hlen47:len<=140737488355328:=by
     have h7:=Nat.mul_le_mul_left len (wB_pos e)
     omega
    have each:∀ i,∃ d:List jT × List Value,i<len->(d.2.length=s/\(∀ j,j<s->w.cell? ((a.add (i*s)).add j)=d.2[j]?)/\RepC w d.2 d.1/\Sh e d.1):=by
     intro i
     by_cases hi:i<len
     ·have he:=hel i hi
      rw[List.getElem?_eq_getElem (by omega),hs] at he
      cases hc:w.cells? 0 (a.add (i*s)) s with
      |none=>rw[hc] at he;cases he
      |some ci=>
       rw[hc] at he
       obtain ⟨g1,g2⟩:=cells_get hc
       have hmem:elems[i]∈elems:=List.getElem_mem _
       obtain ⟨ds,r1,r2⟩:=bridge (ty:=e) h5 he (fun n hn=>hws n (by
        refine List.mem_cons_of_mem _ (List.mem_append_left _ ?_)
        exact eA (List.mem_map_of_mem (f:=(·.1)) hmem) hn))
       exact ⟨(ds,ci),fun _=>⟨g1,g2,r1,r2⟩⟩
     ·exact ⟨([],[]),fun h=>absurd h hi⟩
    obtain ⟨F,hF⟩:=Classical.axiomOfChoice each
    have hspot:0<len->a=⟨a.block,a.off,none⟩/\a.block<w.heap.size:=by
     intro h0
     obtain ⟨q1,q2,_,_⟩:=hF 0 h0
     have q3:=q2 0 (by omega)
     rw[List.getElem?_eq_getElem (by omega)] at q3
     obtain ⟨b,o,sp'⟩:=a
     cases sp' with
     |none=>
      refine ⟨rfl,?_⟩
      unfold World.cell? at q3
      split at q3
      ·rename_i c _ _ hh
       simpa [Addr.add] using (Array.getElem?_eq_some_iff.1 hh).1
      ·cases q3
     |some z=>
      exfalso
      unfold World.cell? at q3
      split at q3
      ·simp [Addr.add] at q3
      ·cases q3
    have hesl:∀ d∈((List.range len).map fun i=>mkD e (F i).1),d.cells.length=s:=by
     intro d hd
     rw[List.mem_map] at hd
     obtain ⟨i,hi,rfl⟩:=hd
     obtain ⟨q1,q2,q3,q4⟩:=hF i (by simpa using hi)
     rw[mkD_cells q4,Sh.len q4,hes]
    have hfl:=uQ hesl
    rw[List.length_map,List.length_range] at hfl
    have hget:∀ q,q<len*s->∃ u d,w.cell? (a.add q)=some u/\(kR ((List.range len).map fun i=>mkD e (F i).1))[q]?=some d/\u.oneCell'=true/\uN w (oldD w) u d:=by
     intro q hq
     have hi:q / s<len:=(Nat.div_lt_iff_lt_mul (by omega)).2 hq
     have hj:q % s<s:=Nat.mod_lt _ (by omega)
     have hqe:q / s*s+q % s=q:=by rw[Nat.mul_comm];exact Nat.div_add_mod q s
     obtain ⟨q1,q2,q3,q4⟩:=hF (q / s) hi
     have c1:=q2 (q % s) hj
     have c2:((a.add (q / s*s)).add (q % s))=a.add q:=by
      rw[(hspot (Nat.lt_of_le_of_lt (Nat.zero_le _) hi)).1,Addr.add_lit,Addr.add_lit,Addr.add_lit,Nat.add_assoc,hqe]
     have hlen1:(F (q / s)).1.length=s:=by rw[q3.1,q1]
     have c4:(F (q / s)).1[q % s]?=some ((F (q / s)).1[q % s]'(by rw[hlen1];exact hj)):=List.getElem?_eq_getElem _
     have c5:(F (q / s)).2[q % s]?=some ((F (q / s)).2[q % s]'(by rw[q1];exact hj)):=List.getElem?_eq_getElem _
     rw[c2,c5] at c1
     have c3:=flat_get (es:=(List.range len).map fun i=>mkD e (F i).1) (i:=q / s) (j:=q % s) (e:=mkD e (F (q / s)).1) hesl (by rw[List.getElem?_map,List.getElem?_range hi];rfl) hj
     rw[hqe,mkD_cells q4,c4] at c3
     exact ⟨_,_,c1,c3,q3.2.1 _ (List.getElem_mem _),q3.2.2 (q % s) _ _ c5 c4⟩
    refine ⟨[.sl E' s ((List.range len).map fun i=>mkD e (F i).1)],one _ rfl _ ?_,(List.range len).map fun i=>(F i).1,?_,by simpa using hlenB,?_⟩
    ·rcases Nat.eq_zero_or_pos len with h0 | h0
     ·subst h0
      exact uN.sl 0 0 (fun _=>undef) (by simp) hl hm (by simp) (fun h=>absurd h (Nat.lt_irrefl 0)) (by simp [kR]) (by simp [kR]) (by simp [kR]) (by simp [kR])
     ·obtain ⟨ha,hb⟩:=hspot h0
      refine uN.sl a.block a.off (fun q=>(w.cell? (a.add q)).getD undef) (by simp) hl hm hesl (fun _=>congrArg some ha) (fun q hq=>hb) (fun q hq=>?_) (fun q hq=>?_) (fun q d hd=>?_)
      ·obtain ⟨u,d,g1,_,_,_⟩:=hget q (by omega)
       have e1:a.add q=⟨a.block,a.off+q,none⟩:=by rw[ha,Addr.add_lit]
       rw[<- e1,g1];rfl
      ·obtain ⟨u,d,g1,_,g3,_⟩:=hget q (by omega)
       rw[g1];exact g3
      ·have hq:=(List.getElem?_eq_some_iff.1 hd).1
       obtain ⟨u,d',g1,g2,_,g4⟩:=hget q (by omega)
       rw[hd] at g2
       injection g2 with g2
       subst g2
       rw[g1];exact g4
    ·rw[List.map_map];rfl
    ·intro y hy
     rw[List.mem_map] at hy
     obtain ⟨i,hi,rfl⟩:=hy
     exact (hF i (by simpa using hi)).2.2.2
  ·cases ht
 |.st fs,t,fuel,cs,x,ht,h,hwt=>by
  unfold tyB at ht
  split at ht
  ·rename_i fds hu
   simp only[Bool.and_eq_true] at ht
   obtain ⟨h1,h2,h3⟩:=ht
   obtain ⟨xs,n,_,hx,hl,hxl,hf⟩:=DataW.trod_struct hu h
   have hcl:cs.length=0+fs.size:=by rw[hl,Nat.eq_of_beq_eq_true h1,Nat.zero_add]
   have key:=bridgeL (fs:=fs) (off:=0) (cs:=cs) (l:=fds.toList) (n:=n) h2 h3 hcl (fun f hfm=>by
    obtain ⟨i,hi⟩:=List.getElem?_of_mem hfm
    have:=hf i f (by simpa using hi)
    have hlt:i<xs.length:=by
     have:=(List.getElem?_eq_some_iff.1 hi).1
     simp at this;omega
    rw[List.getElem?_eq_getElem hlt] at this
    refine ⟨_,this,fun m hm=>hwt m ?_⟩
    rw[hx]
    simp only[DataW.weights,hu]
    exact DataW.weights_mem_each (j:=i) (by rw[List.getElem?_map,hi];rfl) (by rw[List.getElem?_map,List.getElem?_eq_getElem hlt];rfl) m hm)
   rw[List.drop_zero] at key
   exact key
  ·cases ht
 |.ar k E fs,t,fuel,cs,x,ht,h,hwt=>by
  unfold tyB at ht
  split at ht
  ·rename_i k' E' hu
   simp only[Bool.and_eq_true] at ht
   obtain ⟨h0,h1,h4,h2,h3⟩:=ht
   obtain rfl:k'=k:=Nat.eq_of_beq_eq_true h0
   obtain rfl:E'=E:=Nat.eq_of_beq_eq_true h1
   obtain ⟨xs,n,_,hx,hl,hxl,hf⟩:=DataW.trod_array hu h
   have hcl:cs.length=0+fs.size:=by rw[hl,Nat.eq_of_beq_eq_true h4,Nat.zero_add]
   have key:=bridgeL (fs:=fs) (off:=0) (cs:=cs) (l:=arFs E' (P.cellsOf E') k' 0) (n:=n) h2 h3 hcl (fun f hfm=>by
    obtain ⟨j,hj,ft,fo⟩:=arFs_mem hfm
    have:=hf j hj
    have hlt:j<xs.length:=by omega
    rw[List.getElem?_eq_getElem hlt] at this
    refine ⟨xs[j],?_,fun m hm=>hwt m ?_⟩
    ·rw[ft,fo,Nat.zero_add];exact this
    ·rw[hx]
     simp only[DataW.weights,hu]
     rw[ft] at hm
     exact eA (List.mem_map_of_mem (f:=(·.1)) (List.getElem_mem hlt)) hm)
   rw[List.drop_zero] at key
   exact key
  ·cases ht
theorem bridgeL:∀ {fs:TyL} {l:List Field} {off n:Nat} {cs:List Value},fieldsB l off fs=true->tysB P fs=true->cs.length=off+fs.size->(∀ f∈l,∃ y,DataW.trod enc P w 0 sp held n f.type ((cs.drop f.offset).take (P.cellsOf f.type))=some y/\∀ m∈y.1.weights P f.type,m<=reachBytes) ->
  ∃ ds,RepC w (cs.drop off) ds/\ShL fs ds
 |.nil,l,off,n,cs,h1,h2,h3,h4=>by
  have:cs.drop off=[]:=List.drop_eq_nil_of_le (by rw[h3];exact Nat.le_refl _)
  rw[this]
  exact ⟨[],⟨rfl,by simp,by simp⟩,rfl⟩
 |.cons t ty r,l,off,n,cs,h1,h2,h3,h4=>by
  cases l with
  |nil=>cases h1
  |cons f l=>
   simp only[fieldsB,Bool.and_eq_true] at h1
   obtain ⟨e1,e2,e3⟩:=h1
   simp only[tysB,Bool.and_eq_true] at h2
   obtain ⟨f1,f2,f3⟩:=h2
   have et:=Nat.eq_of_beq_eq_true e1
   have eo:=Nat.eq_of_beq_eq_true e2
   have ec:=Nat.eq_of_beq_eq_true f1
   obtain ⟨y,hy,hyw⟩:=h4 f (by simp)
   rw[et,eo,ec] at hy
   rw[et] at hyw
   obtain ⟨d1,r1,s1⟩:=bridge (ty:=ty) f2 hy hyw
   have h3':cs.length=off+ty.size+r.size:=by rw[h3];show off+(ty.size+r.size)=_;omega
   obtain ⟨d2,r2,s2⟩:=bridgeL (fs:=r) (off:=off+ty.size) (cs:=cs) (l:=l) (n:=n) e3 f3 h3' (fun g hg=>h4 g (by simp [hg]))
   refine ⟨d1++d2,?_,d1,d2,rfl,s1,s2⟩
   rw[drop_take_split (cs:=cs) (off:=off) (n:=ty.size) (m:=r.size) (by omega)]
   exact r1.append r2
end
theorem open_arg{ty:Ty}{t:TypeId}{v:Value}{d:DataW H}{p:List MemPlace}(hty:tyB P t ty=true)(hv:isSt ty=true->∃ cs,v=.agg cs)(hv1:isSt ty=false->v.cells=#[v])(h:DataW.Trod enc P w 0 sp held t v d p)(hwt:∀ n∈d.weights P t,n<=reachBytes) :
  ∃ ds,uN w (oldD w) v (mkD ty ds)/\Sh ty ds:=by
 obtain ⟨fuel,hf⟩:=h
 obtain ⟨ds,hr,hs⟩:=bridge (ty:=ty) hty hf hwt
 refine ⟨ds,?_,hs⟩
 cases hst:isSt ty with
 |true=>
  obtain ⟨cs,rfl⟩:=hv hst
  have e:mkD ty ds=.agg ds:=by unfold mkD;rw[hst];rfl
  rw[e]
  have:=uN.agg (w:=w) (D:=oldD w) (cs:=ds) cs.toList hr.1.symm hr.2.1 hr.2.2
  simpa using this
 |false=>
  have hv2:=hv1 hst
  have hc:=hr.1
  rw[hv2] at hr
  simp only[Array.toList] at hr
  obtain ⟨h1,h2,h3⟩:=hr
  have hl:ds.length=1:=by simpa using h1
  obtain ⟨d0,rfl⟩:=List.length_eq_one_iff.1 hl
  have e:mkD ty [d0]=d0:=by unfold mkD;rw[hst];rfl
  rw[e]
  exact h3 0 v d0 rfl rfl
end
theorem oldD_ok(w:World)(h:LtOk (oldD w) w):DOk (oldD w) w:=⟨fun _ _ _ h=>h,h⟩
open Go.ChangeShapes Go.WideShapes Go.RowKit
inductive ShAll:List Ty->List (List jT)->Prop
 |nil:ShAll [] []
 |cons {ty:Ty} {tys:List Ty} {ds:List jT} {dss:List (List jT)} (h:Sh ty ds) (r:ShAll tys dss):ShAll (ty::tys) (ds::dss)
def mkAll:List Ty->List (List jT)->List jT
 |ty::tys,ds::dss=>mkD ty ds::mkAll tys dss
 |_,_=>[]
def formsB(P:Program):List TypeId->List Ty->Bool
 |[],[]=>true
 |t::ts,ty::tys=>tyB P t ty&&formsB P ts tys
 |_,_=>false
section
variable {H:Type} {enc:TypeId × Value->H} {P:Program} {w:World} {sp:Nat->Bool} {held:Bool}
theorem ok_st{ty:Ty}{t:TypeId}{v:Value}{base:Nat}(ht:tyB P t ty=true)(h:Value.okWide P w .any base t v):(isSt ty=true->∃ cs,v=.agg cs)/\(isSt ty=false->v.cells=#[v]):=by
 cases ty with
 |int k=>
  unfold tyB at ht
  split at ht
  ·rename_i k' hu
   obtain ⟨n,rfl⟩:=okWide_int hu h
   exact ⟨(fun h=>by cases h),fun _=>rfl⟩
  ·cases ht
 |bool=>
  unfold tyB at ht
  split at ht
  ·rename_i hu
   obtain ⟨b,rfl⟩:=okWide_bool hu h
   exact ⟨(fun h=>by cases h),fun _=>rfl⟩
  ·cases ht
 |sl E s e=>
  unfold tyB at ht
  split at ht
  ·rename_i E' hu
   obtain ⟨a,l,c,rfl⟩:=okWide_slice hu h
   exact ⟨(fun h=>by cases h),fun _=>rfl⟩
  ·cases ht
 |st fs=>
  unfold tyB at ht
  split at ht
  ·rename_i fds hu
   obtain ⟨cs,rfl,_⟩:=okWide_struct hu h
   exact ⟨fun _=>⟨cs,rfl⟩,(fun h=>by cases h)⟩
  ·cases ht
 |ar n E fs=>
  unfold tyB at ht
  split at ht
  ·rename_i n' E' hu
   simp only[Value.okWide,hu] at h
   obtain ⟨cs,rfl,_⟩:=h
   exact ⟨fun _=>⟨cs,rfl⟩,(fun h=>by cases h)⟩
  ·cases ht
theorem each_left:∀ {ts us:List TypeId} {ds gs:List (DataW H)} {n:Nat},n∈DataW.weightsEach P ts ds->n∈DataW.weightsEach P (ts++us) (ds++gs)
 |[],_,_,_,_,h=>by simp [DataW.weightsEach] at h
 |t::ts,us,[],gs,n,h=>by simp [DataW.weightsEach] at h
 |t::ts,us,d::ds,gs,n,h=>by
  simp only[DataW.weightsEach] at h
  simp only[List.cons_append,DataW.weightsEach]
  rcases List.mem_append.1 h with h | h
  ·exact List.mem_append_left _ h
  ·exact List.mem_append_right _ (each_left h)
theorem open_args{base:Nat}:∀ {ts:List TypeId} {tys:List Ty} {vs:List Value} {ds:List (DataW H)} {ps:List MemPlace},formsB P ts tys=true->(∀ (j:Nat) t v,ts[j]?=some t->vs[j]?=some v->Value.okWide P w .any base t v)->DataW.TrodAll enc P w 0 sp held ts vs ds ps->(∀ n∈DataW.weightsEach P ts ds,n<=reachBytes) ->
  ∃ dss,ShAll tys dss/\Args w (oldD w) vs (mkAll tys dss)/\vs.length=ts.length
 |[],[],vs,ds,ps,_,_,h,_=>by
  obtain ⟨rfl,rfl,rfl⟩:=trodAll_nil h
  exact ⟨[],.nil,⟨rfl,by simp⟩,rfl⟩
 |t::ts,ty::tys,vs,ds,ps,hf,hok,h,hwt=>by
  simp only[formsB,Bool.and_eq_true] at hf
  obtain ⟨v,vs',d,ds',p,q,rfl,rfl,rfl,h1,h2⟩:=trodAll_cons h
  obtain ⟨k1,k2⟩:=ok_st hf.1 (hok 0 t v rfl rfl)
  obtain ⟨dd,r1,r2⟩:=open_arg hf.1 k1 k2 h1 (fun n hn=>hwt n (by simp only[DataW.weightsEach];exact List.mem_append_left _ hn))
  obtain ⟨dss,r3,r4,r5⟩:=open_args (ts:=ts) (tys:=tys) hf.2 (fun j t v a b=>hok (j+1) t v (by simpa using a) (by simpa using b)) h2 (fun n hn=>hwt n (by simp only[DataW.weightsEach];exact List.mem_append_right _ hn))
  refine ⟨dd::dss,.cons r2 r3,⟨by simp [mkAll,r4.1],fun i v' d' hv hd=>?_⟩,by simp [r5]⟩
  rcases i with _ | i
  ·simp [mkAll] at hv hd;subst hv;subst hd;exact r1
  ·exact r4.2 i v' d' (by simpa using hv) (by simpa [mkAll] using hd)
 |[],_::_,_,_,_,hf,_,_,_=>by cases hf
 |_::_,[],_,_,_,hf,_,_,_=>by cases hf
theorem again_all{W W':World}(hl:laidOutB P=true)(hb:Below W.heap.size W W'):∀ {ts:List TypeId} {vs:List Value} {ds:List (DataW H)} {ps:List MemPlace},(ts.all fun t=>P.readableRec t&&Nat.blt t P.types.size)=true->(∀ x∈ps,x.block<W.heap.size)->DataW.TrodAll enc P W 0 (fun _=>true) true ts vs ds ps ->
  DataW.TrodAll enc P W' 0 (fun b=>decide (b<W.heap.size)) true ts vs ds ps
 |[],vs,ds,ps,_,_,h=>by
  obtain ⟨rfl,rfl,rfl⟩:=trodAll_nil h
  exact rfl
 |t::ts,vs,ds,ps,hr,hlt,h=>by
  obtain ⟨v,vs',d,ds',p,q,rfl,rfl,rfl,h1,h2⟩:=trodAll_cons h
  simp only[List.all_cons,Bool.and_eq_true] at hr
  exact ⟨p,q,Below.trod hl hr.1.1 (Nat.le_of_ble_eq_true hr.1.2) h1 hb (fun x hx=>hlt x (by simp [hx])),again_all hl hb hr.2 (fun x hx=>hlt x (by simp [hx])) h2,rfl⟩
end
theorem law_contract{H:Type}{enc:TypeId × Value->H}{P:Program}{f:FuncId}{fn:Func}{s:ChangeSpec}{tys:List Ty}{B:TypeId}(hl:laidOutB P=true)(hvars:s.vars=[])(hres:fn.resultTypes.toList=[B])(hB:P.underlying B=some .bool)
  (hrr:(fn.params.toList.all fun t=>P.readableRec t&&Nat.blt t P.types.size)=true) (hty:formsB P fn.params.toList tys=true)
  (hspec:∀ ds:List (DataW H),ds.length=fn.params.toList.length->(s.fn H ds).results=[.lit (.bool true)]/\(s.fn H ds).args=ds/\(s.fn H ds).vars=[])
  (ht:∀ dss,ShAll tys dss->jW P f (mkAll tys dss) (.val (.bool true)))
  (W:World) (htab:LtOk (oldD W) W) (base:Nat) (args:Array Value) (ds gs:List (DataW H)) (before:List MemPlace) (hval:∀ (j:Nat) t v,fn.params[j]?=some t->args[j]?=some v->Value.okWide P W .any base t v)
  (hW:DataW.Whole enc P fn.params.toList s.vars false W args.toList ds gs before) (hwt:(DataW.weightsEach P (fn.params.toList++s.plain.varTypes P) (ds++gs)).all (·<=reachBytes)=true) :
  Calls P f args W fun e W'=>∃ v,e=.returned v/\s.post enc P fn false true false false W args v W':=by
 have hW':=hW
 obtain ⟨p,q,hA,hV,rfl,_,_⟩:=hW
 rw[hvars] at hV
 obtain ⟨rfl,rfl⟩:=trodVars_none hV
 obtain ⟨dss,r1,r2,r3⟩:=open_args (P:=P) (w:=W) (base:=base) hty (fun j t v a b=>hval j t v (by simpa using a) (by simpa using b)) hA (fun n hn=>by
  rw[List.all_eq_true] at hwt
  have:=hwt n (each_left hn)
  simpa using this)
 have hlt:=hW'.lt
 have qL:ds.length=fn.params.toList.length:=by
  have:∀ {ts:List TypeId} {vs:List Value} {ds:List (DataW H)} {ps:List MemPlace},DataW.TrodAll enc P W 0 (fun _=>true) true ts vs ds ps->ds.length=ts.length:=by
   intro ts
   induction ts with
   |nil=>intro vs ds ps h;obtain ⟨_,rfl,_⟩:=trodAll_nil h;rfl
   |cons t ts ih=>intro vs ds ps h;obtain ⟨v,vs',d,ds',p,q,rfl,rfl,rfl,h1,h2⟩:=trodAll_cons h;simp [ih h2]
  exact this hA
 have hc:=(ht dss r1).run W (oldD W) args.toList (oldD_ok W htab) r2
 refine hc.mono fun e W' h=>?_
 obtain ⟨v,D',he,h1,h2,h3⟩:=h
 have hv:=rep_bool h3
 subst hv
 obtain ⟨s1,s2,s3⟩:=hspec ds qL
 refine ⟨_,he,ds,[],_,[],p,[],hW',?_,?_,?_,h1.frame _,fun h=>by cases h⟩
 ·rw[List.append_nil,s1,hres]
  have hsz:fn.resultTypes.size=1:=by
   have:=congrArg List.length hres
   simpa using this
  rw[hsz]
  exact trodAll_mk1 (shut_bool hB true)
 ·rw[List.append_nil,s2]
  exact again_all hl h1 hrr (fun x hx=>hlt x (by simp [hx])) hA
 ·rw[List.append_nil,s3,hvars]
  exact rfl
theorem sh_slice{α:Type}{E s:Nat}{ty:Ty}{F:α->jT}{L:α->Prop}(hF:∀ x,Sh ty x->∃ a,mkD ty x=F a/\L a){ds:List jT}(h:Sh (.sl E s ty) ds) :
  ∃ l:List α,mkD (.sl E s ty) ds=.sl E s (l.map F)/\(∀ a∈l,L a)/\l.length*wB ty<=140737488351232:=by
 obtain ⟨es,rfl,h1,h2⟩:=h
 have h3:∀ es:List (List jT),(∀ x∈es,Sh ty x)->∃ l:List α,es.map (mkD ty)=l.map F/\(∀ a∈l,L a)/\l.length=es.length:=by
  intro es
  induction es with
  |nil=>intro _;exact ⟨[],rfl,by simp,rfl⟩
  |cons x es ih=>
   intro hx
   obtain ⟨l,e1,e2,e3⟩:=ih (fun y hy=>hx y (by simp [hy]))
   obtain ⟨a,e4,e5⟩:=hF x (hx x (by simp))
   refine ⟨a::l,by rw[List.map_cons,List.map_cons,e1,e4],fun b hb=>?_,by simp [e3]⟩
   rcases List.mem_cons.1 hb with rfl | hb
   ·exact e5
   ·exact e2 b hb
 obtain ⟨l,e1,e2,e3⟩:=h3 es h2
 exact ⟨l,by rw[<- e1];rfl,e2,by rw[e3];exact h1⟩
end Go.Fid
namespace Go.Proofs.YtciingpdmjepgabGreatDoor
open Go.Fid
def Len_bool(_:Bool):Prop:=True
theorem sc_bool{ds:List jT}(h:Sh .bool ds):∃ b:Bool,ds=[.val (.bool b)]/\Len_bool b:=by
 obtain ⟨b,rfl⟩:=h
 exact ⟨b,rfl,trivial⟩
def Len_u32(n:Nat):Prop:=n<=4294967295
theorem sc_u32{ds:List jT}(h:Sh (.int .u32) ds):∃ n:Nat,ds=[.val (.int .u32 ((n:Nat):Int))]/\Len_u32 n:=by
 obtain ⟨z,rfl,hw⟩:=h
 simp only[Lit.wf,Bool.and_eq_true,decide_eq_true_eq] at hw
 have h0:0<=z:=hw.1
 exact ⟨z.toNat,by rw[Int.toNat_of_nonneg h0],by have h1:z<=(4294967295:Int):=hw.2;unfold Len_u32;omega⟩
def ty24:Ty:=.sl 74 1 (.int .u32)
def Len24(l:List (Nat)):Prop:=(∀ a∈l,Len_u32 a)/\l.length<=35184372087808
theorem sc24{ds:List jT}(h:Sh ty24 ds):∃ l:List (Nat),ds=[.sl 74 1 (l.map jC)]/\Len24 l:=by
 obtain ⟨l,e,h1,h2⟩:=sh_slice (F:=jC) (L:=Len_u32) (fun x hx=>by obtain ⟨a,e,l⟩:=sc_u32 hx;exact ⟨a,by rw[e];rfl,l⟩) h
 have hl:=Sh.len h
 obtain ⟨d,rfl⟩:=List.length_eq_one_iff.1 hl
 exact ⟨l,by rw[show d=_ from e],h1,(by have h3:l.length*wB (.int .u32)<=140737488351232:=h2;have h4:wB (.int .u32)=4:=rfl;rw[h4] at h3;omega)⟩
def ty25:Ty:=.st (.cons 4 .bool (.cons 24 ty24 .nil))
def Len25(x:kO):Prop:=Len_bool x.neg/\Len24 x.gs
theorem sc25{ds:List jT}(h:Sh ty25 ds):∃ x:kO,ds=[.val (.bool x.neg),.sl 74 1 (x.gs.map jC)]/\Len25 x:=by
 obtain ⟨p0,q0,rfl,h0,p1,q1,rfl,h1,hq⟩:=h
 have hq:q1=[]:=hq
 subst hq
 obtain ⟨x0,e0,l0⟩:=sc_bool h0
 obtain ⟨x1,e1,l1⟩:=sc24 h1
 exact ⟨⟨x0,x1⟩,by rw[e0,e1];rfl,l0,l1⟩
def ty27:Ty:=.st (.cons 26 ty25 (.cons 26 ty25 .nil))
def Len27(x:kP):Prop:=Len25 x.num/\Len25 x.den
theorem sc27{ds:List jT}(h:Sh ty27 ds):∃ x:kP,ds=[.val (.bool x.num.neg),.sl 74 1 (x.num.gs.map jC),.val (.bool x.den.neg),.sl 74 1 (x.den.gs.map jC)]/\Len27 x:=by
 obtain ⟨p0,q0,rfl,h0,p1,q1,rfl,h1,hq⟩:=h
 have hq:q1=[]:=hq
 subst hq
 obtain ⟨x0,e0,l0⟩:=sc25 h0
 obtain ⟨x1,e1,l1⟩:=sc25 h1
 exact ⟨⟨x0,x1⟩,by rw[e0,e1];rfl,l0,l1⟩
def ty22:Ty:=.sl 28 4 ty27
def Len22(l:List (kP)):Prop:=(∀ a∈l,Len27 a)/\l.length<=140737488355328
theorem sc22{ds:List jT}(h:Sh ty22 ds):∃ l:List (kP),ds=[.sl 28 4 (l.map jK)]/\Len22 l:=by
 obtain ⟨l,e,h1,h2⟩:=sh_slice (F:=jK) (L:=Len27) (fun x hx=>by obtain ⟨a,e,l⟩:=sc27 hx;exact ⟨a,by rw[e];rfl,l⟩) h
 have hl:=Sh.len h
 obtain ⟨d,rfl⟩:=List.length_eq_one_iff.1 hl
 exact ⟨l,by rw[show d=_ from e],h1,(by have h3:l.length*wB ty27<=140737488351232:=h2;have h4:wB ty27=1:=rfl;rw[h4] at h3;omega)⟩
theorem sh22_{ds:List jT}(h:Sh ty22 ds):∃ x:List (kP),mkD ty22 ds=.sl 28 4 (x.map jK)/\Len22 x:=by
 obtain ⟨x,e,l⟩:=sc22 h
 exact ⟨x,by rw[e];rfl,l⟩
theorem sh27_{ds:List jT}(h:Sh ty27 ds):∃ x:kP,mkD ty27 ds=jK x/\Len27 x:=by
 obtain ⟨x,e,l⟩:=sc27 h
 exact ⟨x,by rw[e];rfl,l⟩
end Go.Proofs.YtciingpdmjepgabGreatDoor
