/- Part 26 of a proof: rules, plain facts, and functions walked. -/
import Derived.Test.YtckccjhflbljgaaGreatDoorM25
import Derived.Test.YtckccjhflbljgaaGreatDoorM11
import Derived.Test.YtckccjhflbljgaaGreatDoorM12
import Derived.Test.YtckccjhflbljgaaGreatDoorM19
import Derived.Test.YtckccjhflbljgaaGreatDoorM17
set_option linter.all false
set_option maxRecDepth 4000
namespace Go.Proofs.YtckccjhflbljgaaGreatDoor
open Go.Fid
theorem uE:uN Tryz.prog 24=some (32,4):=by kernel_rfl
theorem cF:uN Tryz.prog 43=some (42,8):=by kernel_rfl
theorem pl42:cR Tryz.prog 42=some [(0,4),(4,4)]:=by kernel_rfl
theorem kO:qE Tryz.prog 42=some (true,8):=by kernel_rfl
theorem xF:vO Tryz.prog 42=some [.bool false,.slice none 0 0,.bool false,.slice none 0 0,.bool false,.slice none 0 0,.bool false,.slice none 0 0]:=by kernel_rfl
theorem xK:dC [.bool false,.slice none 0 0,.bool false,.slice none 0 0,.bool false,.slice none 0 0,.bool false,.slice none 0 0] [.val (.bool false),.sl 107 1 [],.val (.bool false),.sl 107 1 [],.val (.bool false),.sl 107 1 [],.val (.bool false),.sl 107 1 []]:=by simp [dC,Value.oneCell']
theorem h_valid(a:kJ)(ha:GOk 4294967296 a):jR Tryz.prog 73 [(jN a)] (.val (.bool ((xM a)))):=by
 refine uU Tryz.func73 ?_
 refine jB<|kx [(1,(.ref 0 0))] [(0,some (bx (jN a)))] (zN (vZ 0)<|zM<|zZ) ?_
 refine jB<|kx [(2,(vb (((kL a.lo)&&(kL a.hi))&&decide ((nB (vQ a.lo) (vQ a.hi))<=0))))] [] ?_ ?_
 ·refine zE (kK zP)<|zR (kR jS)<|zE (kB (aY a.lo (vQ a.lo) (jY ha.1)))<|zE (oV (vb (kL a.lo)) (qA (by kernel_rfl)))<|?_
  rcases hb1:(kL a.lo) with _ | _
  ·exact zK<|zK<|zK<|zE yS<|zM<|zK<|zK<|zK<|zK<|zK<|zK<|zE yS<|zM<|zZ
  ·refine zE (kK zD)<|zR (kR jS)<|zE (kB (aY a.hi (vQ a.hi) (jY ha.2)))<|zE eK<|zE (oV (vb (true&&(kL a.hi))) (qA (by kernel_rfl)))<|?_
   rcases hb2:(true&&(kL a.hi)) with _ | _
   ·exact zK<|zK<|zK<|zK<|zK<|zK<|zE yS<|zM<|zZ
   ·exact zE (kK zP)<|zR (kR jS)<|zE (kK zD)<|zR (kR jS)<|zE (kB (g_compare a.lo a.hi (vQ a.lo) (vQ a.hi) ha.1 ha.2))<|zE oLe<|zE eK<|zM<|zZ
 refine jE ⟨_,(.tmp (d:=(.val (.bool ((((kL a.lo)&&(kL a.hi))&&decide ((nB (vQ a.lo) (vQ a.hi))<=0)))))) rfl .nil),?_⟩
 rw[validG_eq];rfl
theorem i_valid(a:kJ)(ha:GOk 4294967296 a):jR Tryz.prog 76 [(jN a)] (.val (.bool ((xM a)))):=by
 refine uU Tryz.func76 ?_
 refine jB<|kx [(1,(.ref 0 0))] [(0,some (bx (jN a)))] (zN (vZ 0)<|zM<|zZ) ?_
 refine jB<|kx [(2,(vb (((kL a.lo)&&(kL a.hi))&&decide ((nB (vQ a.lo) (vQ a.hi))<=0))))] [] ?_ ?_
 ·refine zE (kK zP)<|zR (kR jS)<|zE (kB (eU a.lo (vQ a.lo) (jY ha.1)))<|zE (oV (vb (kL a.lo)) (qA (by kernel_rfl)))<|?_
  rcases hb1:(kL a.lo) with _ | _
  ·exact zK<|zK<|zK<|zE yS<|zM<|zK<|zK<|zK<|zK<|zK<|zK<|zE yS<|zM<|zZ
  ·refine zE (kK zD)<|zR (kR jS)<|zE (kB (eU a.hi (vQ a.hi) (jY ha.2)))<|zE eK<|zE (oV (vb (true&&(kL a.hi))) (qA (by kernel_rfl)))<|?_
   rcases hb2:(true&&(kL a.hi)) with _ | _
   ·exact zK<|zK<|zK<|zK<|zK<|zK<|zE yS<|zM<|zZ
   ·exact zE (kK zP)<|zR (kR jS)<|zE (kK zD)<|zR (kR jS)<|zE (kB (aE a.lo a.hi (vQ a.lo) (vQ a.hi) (jY ha.1) (jY ha.2)))<|zE oLe<|zE eK<|zM<|zZ
 refine jE ⟨_,(.tmp (d:=(.val (.bool ((((kL a.lo)&&(kL a.hi))&&decide ((nB (vQ a.lo) (vQ a.hi))<=0)))))) rfl .nil),?_⟩
 rw[validG_eq];rfl
theorem i_valids(l:List kJ)(hl:∀ a∈l,GOk 4294967296 a)(hb:l.length<=1000000):jR Tryz.prog 198 [(.sl 42 8 (List.map jN l))] (.val (.bool ((l.all xM)))):=by
 let y1:=(kJ.mk uD uD)
 refine uU Tryz.func198 ?_
 refine jB<|kx [] [] (zM<|zZ) ?_
 refine jB<|jB<|kx [(5,(vl 42 8 jN l)),(6,(kG l.length)),(7,(kG 0))] [] (zM<|zE (zL cF)<|zM<|zZ) ?_
 refine jL<|kQ (α:=Nat) (fun i=>⟨[(5,(vl 42 8 jN l)),(6,(kG l.length)),(7,(kG i))],[]⟩) (fun i=>i<=l.length/\(l.take i).all xM=true) (fun i=>l.length-i) 0 wk ⟨Nat.zero_le _,by simp⟩ ?_
 rintro i ⟨hi,hv⟩
 refine jB<|kx [(8,(vb (decide (((i:Nat):Int)<((l.length:Nat):Int)))))] [] (zE gX<|zZ) ?_
 refine jB<|jF rfl (fun h1=>?_) (fun h1=>?_)
 ·replace h1:=vN h1
  refine jG<|jB<|jL<|jB<|kx [(4,(.ref 0 0))] [(0,some (bx (jN (l.getD i y1))))] (zE (mV cF i y1)<|zE (cV kO)<|zN (vC 0 xF xK)<|zT (qM kO)<|zZ) ?_
  refine jB<|kx [(13,(vb (!(xM (l.getD i y1)))))] [] (zR (kR kO)<|zE (kB (i_valid (l.getD i y1) (gok_get hl (show i<l.length by omega))))<|zE mH<|zZ) ?_
  refine jF rfl (fun h2=>?_) (fun h2=>?_)
  ·refine jB<|kx [(2,(vb false))] [] (zM<|zZ) ?_
   refine jE ⟨_,(.tmp (d:=(.val (.bool (false)))) rfl .nil),?_⟩
   rw[all_not (f:=xM) (l:=l) (i:=i) (d:=(kJ.mk uD uD)) (by omega) (by simpa using h2)];rfl
  ·refine jG<|kx [(7,(kG (i+1)))] [] (zE (vY (i+1))<|zM<|zZ) ?_
   exact ⟨(i+1),wk,⟨by omega,all_take (d:=(kJ.mk uD uD)) (by omega) hv (by simpa using h2)⟩,(by first|omega|(dsimp only;omega))⟩
 ·replace h1:=vX h1
  have hie:i=l.length:=by omega
  rw[hie,List.take_length] at hv
  refine kN<|jB<|kx [(2,(vb true))] [] (zM<|zZ) ?_
  refine jE ⟨_,(.tmp (d:=(.val (.bool (true)))) rfl .nil),?_⟩
  rw[hv];rfl
theorem i_zero(p q:Rat)(hp:QL p 1073741824)(hq:QL q 1073741824):jR Tryz.prog 201 [(jN (kJ.mk (jO p) (jO q)))] (.val (.bool ((nO p q)))):=by
 refine uU Tryz.func201 ?_
 refine jB<|kx [(1,(.ref 0 0))] [(0,some (bx (jN (kJ.mk (jO p) (jO q)))))] (zN (vZ 0)<|zM<|zZ) ?_
 refine jB<|kx [(2,(vb (decide ((eA p)<=0)&&decide (0<=(eA q)))))] [] ?_ ?_
 ·refine zE (kK zP)<|zR (kR jS)<|zE (kB (f_sign (jO p) p (jY (kF hp))))<|zE oLe<|zE (oV (vb (decide ((eA p)<=0))) (qA (by kernel_rfl)))<|?_
  rcases hb1:(decide ((eA p)<=0)) with _ | _
  ·replace hb1:=vX hb1
   exact zK<|zK<|zK<|zK<|zE yS<|zM<|zZ
  ·replace hb1:=vN hb1
   exact zE (kK zD)<|zR (kR jS)<|zE (kB (f_sign (jO q) q (jY (kF hq))))<|zE oGe<|zE eK<|zM<|zZ
 refine jE ⟨_,(.tmp (d:=(.val (.bool ((decide ((eA p)<=0)&&decide (0<=(eA q))))))) rfl .nil),?_⟩
 rw[zeroG_eq];rfl
theorem i_spanned(p:Rat)(qs:List Rat)(hp:QL p 17179869184)(hqs:∀ q∈qs,QL q 17179869184)(hb:qs.length<=1000000):jR Tryz.prog 200 [(jJ (jO p)),(.sl 32 4 (List.map jJ (List.map jO qs)))] (jN (kJ.mk (jO (mnL p qs)) (jO (mxL p qs)))):=by
 refine uU Tryz.func200 ?_
 refine jB<|kx [(2,(.ref 0 0)),(4,(.ref 1 0))] [(0,some (bx (jJ (jO p)))),(1,some (bx (jN (kJ.mk uD uD))))] (zN (vZ 0)<|zN (vC 1 xF xK)<|zZ) ?_
 refine jB<|kx [(5,(.ref 2 0))] [(2,some (bx (jN (kJ.mk (jO p) (jO p)))))] (zR (kR jS)<|zR (kR jS)<|zE (bC pl42 xF xK)<|zN (vC 2 xF xK)<|zT (qM kO)<|zZ) ?_
 refine jB<|jB<|kx [(11,(vl 32 4 jJ (List.map jO qs))),(12,(kG qs.length)),(13,(kG 0))] [] (zM<|zE (oLn uE qs.length)<|zM<|zZ) ?_
 refine jL<|kQ (α:=Nat × Rat × Rat) (fun (i,lo,hi)=>⟨[(4,(.ref 1 0)),(5,(.ref 2 0)),(11,(vl 32 4 jJ (List.map jO qs))),(12,(kG qs.length)),(13,(kG i))],[(1,some (bx (jN (kJ.mk uD uD)))),(2,some (bx (jN (kJ.mk (jO lo) (jO hi)))))]⟩) (fun (i,lo,hi)=>i<=qs.length/\lo=mnL p (qs.take i)/\hi=mxL p (qs.take i)) (fun (i,lo,hi)=>qs.length-i) (0,p,p) wk ⟨Nat.zero_le _,rfl,rfl⟩ ?_
 rintro ⟨i,lo,hi⟩ ⟨hi1,hl,hh⟩
 have htk:∀ q∈qs.take i,QL q 17179869184:=fun q hq=>hqs q (List.mem_of_mem_take hq)
 have hlo:QL lo 17179869184:=by rw[hl];exact ql_mnL hp htk
 have hhi:QL hi 17179869184:=by rw[hh];exact ql_mxL hp htk
 refine jB<|kx [(14,(vb (decide (((i:Nat):Int)<((qs.length:Nat):Int)))))] [] (zE gX<|zZ) ?_
 refine jB<|jF rfl (fun h1=>?_) (fun h1=>?_)
 ·replace h1:=vN h1
  refine jG<|jB<|jL<|jB<|kx [(7,(.ref 3 0))] [(3,some (bx (jJ (jO (qs.getD i 0)))))] (zE (oXm uE jO i 0)<|zE (cV jS)<|zN (vC 3 qU uG)<|zT (qM jS)<|zZ) ?_
  refine jB<|jB<|kx [(21,(vb (decide ((nB (qs.getD i 0) lo)<0))))] [] (zR (kR jS)<|zE (kK zP)<|zR (kR jS)<|zE (kB (aE (jO (qs.getD i 0)) (jO lo) (qs.getD i 0) lo (kF (ql_getD hqs (by decide) i)) (kF hlo)))<|zE gX<|zZ) ?_
  refine jF (b:=decide ((nB (qs.getD i 0) lo)<0)) rfl (fun h2=>?_) (fun h2=>?_)
  ·replace h2:=vN h2
   have hc1:=h2
   refine kx [] [(2,some (bx (jN (kJ.mk (jO (qs.getD i 0)) (jO hi)))))] (zR (kR jS)<|zE (kK zP)<|zT (qM jS)<|zZ) ?_
   refine jB<|kx [(28,(vb (decide (0<(nB (qs.getD i 0) hi)))))] [] (zR (kR jS)<|zE (kK zD)<|zR (kR jS)<|zE (kB (aE (jO (qs.getD i 0)) (jO hi) (qs.getD i 0) hi (kF (ql_getD hqs (by decide) i)) (kF hhi)))<|zE dI<|zZ) ?_
   refine jF (b:=decide (0<(nB (qs.getD i 0) hi))) rfl (fun h3=>?_) (fun h3=>?_)
   ·replace h3:=vN h3
    have hc2:=h3
    refine kx [] [(2,some (bx (jN (kJ.mk (jO (qs.getD i 0)) (jO (qs.getD i 0))))))] (zR (kR jS)<|zE (kK zD)<|zT (qM jS)<|zZ) ?_
    refine kx [(13,(kG (i+1)))] [] (zE (vY (i+1))<|zM<|zZ) ?_
    exact ⟨(i+1,qs.getD i 0,qs.getD i 0),wk,⟨by omega,mnL_lt (by omega) hl hc1,mxL_gt (by omega) hh hc2⟩,(by first|omega|(dsimp only;omega))⟩
   ·replace h3:=vX h3
    have hc2:=h3
    refine jG<|kx [(13,(kG (i+1)))] [] (zE (vY (i+1))<|zM<|zZ) ?_
    exact ⟨(i+1,qs.getD i 0,hi),wk,⟨by omega,mnL_lt (by omega) hl hc1,mxL_le (by omega) hh hc2⟩,(by first|omega|(dsimp only;omega))⟩
  ·replace h2:=vX h2
   have hc1:=h2
   refine jG<|jB<|kx [(28,(vb (decide (0<(nB (qs.getD i 0) hi)))))] [] (zR (kR jS)<|zE (kK zD)<|zR (kR jS)<|zE (kB (aE (jO (qs.getD i 0)) (jO hi) (qs.getD i 0) hi (kF (ql_getD hqs (by decide) i)) (kF hhi)))<|zE dI<|zZ) ?_
   refine jF (b:=decide (0<(nB (qs.getD i 0) hi))) rfl (fun h4=>?_) (fun h4=>?_)
   ·replace h4:=vN h4
    have hc2:=h4
    refine kx [] [(2,some (bx (jN (kJ.mk (jO lo) (jO (qs.getD i 0))))))] (zR (kR jS)<|zE (kK zD)<|zT (qM jS)<|zZ) ?_
    refine kx [(13,(kG (i+1)))] [] (zE (vY (i+1))<|zM<|zZ) ?_
    exact ⟨(i+1,lo,qs.getD i 0),wk,⟨by omega,mnL_ge (by omega) hl hc1,mxL_gt (by omega) hh hc2⟩,(by first|omega|(dsimp only;omega))⟩
   ·replace h4:=vX h4
    have hc2:=h4
    refine jG<|kx [(13,(kG (i+1)))] [] (zE (vY (i+1))<|zM<|zZ) ?_
    exact ⟨(i+1,lo,hi),wk,⟨by omega,mnL_ge (by omega) hl hc1,mxL_le (by omega) hh hc2⟩,(by first|omega|(dsimp only;omega))⟩
 ·replace h1:=vX h1
  have hie:i=qs.length:=by omega
  rw[hie,List.take_length] at hl hh
  refine kN<|jB<|kx [] [(1,some (bx (jN (kJ.mk (jO lo) (jO hi)))))] (zR (kR kO)<|zT (qM kO)<|zZ) ?_
  refine jE ⟨_,(kP (cs:=(bx (jN (kJ.mk (jO lo) (jO hi))))) (d:=(jN (kJ.mk (jO lo) (jO hi)))) rfl rfl kO rfl rfl .nil),?_⟩
  rw[hl,hh];rfl
theorem i_quot(p q:Rat)(hp:QL p 1073741824)(hq:QL q 1073741824)(hq0:q≠0):jR Tryz.prog 202 [(jJ (jO p)),(jJ (jO q))] (jJ (jO (p / q))):=by
 refine uU Tryz.func202 ?_
 refine jB<|kx [(2,(.ref 0 0)),(3,(.ref 1 0)),(4,(.ref 2 0))] [(0,some (bx (jJ (jO p)))),(1,some (bx (jJ (jO q)))),(2,some (bx (jJ uD)))] (zN (vZ 0)<|zN (vZ 1)<|zN (vC 2 qU uG)<|zZ) ?_
 refine jB<|kx [(5,(.ref 3 0))] [(3,some (bx (jJ (divR p q))))] (zR (kR jS)<|zR (kR jS)<|zE (kB (f_divide (jO p) (jO q) p q (jY (kF hp)) (jY (kF hq))))<|zM<|zE xU<|zE xU<|zN (vC 3 qU uG)<|zT (qM jS)<|zM<|zZ) ?_
 refine jB<|kx [] [(2,some (bx (jJ (divR p q))))] (zR (kR jS)<|zT (qM jS)<|zZ) ?_
 refine jE ⟨_,(kP (cs:=(bx (jJ (divR p q)))) (d:=(jJ (divR p q))) rfl rfl jS rfl rfl .nil),?_⟩
 rw[divR_ne hq0];rfl
theorem i_cornersM(p q r s:Rat)(hp:QL p 1073741824)(hq:QL q 1073741824)(hr:QL r 1073741824)(hs:QL s 1073741824):jR Tryz.prog 199 [(.val (.func (.func 47) #[] #[])),(jN (kJ.mk (jO p) (jO q))),(jN (kJ.mk (jO r) (jO s)))] (jN (kJ.mk (jO (mnL (p*r) [(p*s),(q*r),(q*s)])) (jO (mxL (p*r) [(p*s),(q*r),(q*s)])))):=by
 let y1:=(jN (kJ.mk (jO (mnL (p*r) [(p*s),(q*r),(q*s)])) (jO (mxL (p*r) [(p*s),(q*r),(q*s)]))))
 refine uU Tryz.func199 ?_
 refine jB<|kx [(4,(.ref 0 0)),(5,(.ref 1 0)),(6,(.ref 2 0))] [(0,some (bx (jN (kJ.mk (jO p) (jO q))))),(1,some (bx (jN (kJ.mk (jO r) (jO s))))),(2,some (bx (jN (kJ.mk uD uD))))] (zN (vZ 0)<|zN (vZ 1)<|zN (vC 2 xF xK)<|zZ) ?_
 refine jB<|kd [] [(2,some (bx y1))] mo (wM<|wE (kK zP)<|wR (kR jS)<|wE (kK zP)<|wR (kR jS)<|wE (kB (f_mul (jO p) (jO r) p r (jY (kF hp)) (jY (kF hr))))<|wM<|wE (kK zP)<|wR (kR jS)<|wE (kK zD)<|wR (kR jS)<|wE (kB (f_mul (jO p) (jO s) p s (jY (kF hp)) (jY (kF hs))))<|wM<|wE (kK zD)<|wR (kR jS)<|wE (kK zP)<|wR (kR jS)<|wE (kB (f_mul (jO q) (jO r) q r (jY (kF hq)) (jY (kF hr))))<|wM<|wE (kK zD)<|wR (kR jS)<|wE (kK zD)<|wR (kR jS)<|wE (kB (f_mul (jO q) (jO s) q s (jY (kF hq)) (jY (kF hs))))<|wE (fH uE qU uG)<|wE (kB (i_spanned (p*r) [(p*s),(q*r),(q*s)] (uV (nN (k:=2147483648) hp hr)) (List.forall_mem_cons.2 ⟨(uV (nN (k:=2147483648) hp hs)),(List.forall_mem_cons.2 ⟨(uV (nN (k:=2147483648) hq hr)),(List.forall_mem_cons.2 ⟨(uV (nN (k:=2147483648) hq hs)),(fun a h=>by cases h)⟩)⟩)⟩) (by simp)))<|wT (qM kO)<|wZ) ?_
 refine jE ⟨_,(kP (cs:=(bx y1)) (d:=y1) rfl rfl kO rfl rfl .nil),?_⟩
 rfl
theorem i_cornersD(p q r s:Rat)(hp:QL p 1073741824)(hq:QL q 1073741824)(hr:QL r 1073741824)(hs:QL s 1073741824)(hr0:r≠0)(hs0:s≠0):jR Tryz.prog 199 [(.val (.func (.func 202) #[] #[])),(jN (kJ.mk (jO p) (jO q))),(jN (kJ.mk (jO r) (jO s)))] (jN (kJ.mk (jO (mnL (p / r) [(p / s),(q / r),(q / s)])) (jO (mxL (p / r) [(p / s),(q / r),(q / s)])))):=by
 let y1:=(jN (kJ.mk (jO (mnL (p / r) [(p / s),(q / r),(q / s)])) (jO (mxL (p / r) [(p / s),(q / r),(q / s)]))))
 refine uU Tryz.func199 ?_
 refine jB<|kx [(4,(.ref 0 0)),(5,(.ref 1 0)),(6,(.ref 2 0))] [(0,some (bx (jN (kJ.mk (jO p) (jO q))))),(1,some (bx (jN (kJ.mk (jO r) (jO s))))),(2,some (bx (jN (kJ.mk uD uD))))] (zN (vZ 0)<|zN (vZ 1)<|zN (vC 2 xF xK)<|zZ) ?_
 refine jB<|kd [] [(2,some (bx y1))] mo (wM<|wE (kK zP)<|wR (kR jS)<|wE (kK zP)<|wR (kR jS)<|wE (kB (i_quot p r hp hr (by assumption)))<|wM<|wE (kK zP)<|wR (kR jS)<|wE (kK zD)<|wR (kR jS)<|wE (kB (i_quot p s hp hs (by assumption)))<|wM<|wE (kK zD)<|wR (kR jS)<|wE (kK zP)<|wR (kR jS)<|wE (kB (i_quot q r hq hr (by assumption)))<|wM<|wE (kK zD)<|wR (kR jS)<|wE (kK zD)<|wR (kR jS)<|wE (kB (i_quot q s hq hs (by assumption)))<|wE (fH uE qU uG)<|wE (kB (i_spanned (p / r) [(p / s),(q / r),(q / s)] (uV (aM (k:=2147483648) hp hr)) (List.forall_mem_cons.2 ⟨(uV (aM (k:=2147483648) hp hs)),(List.forall_mem_cons.2 ⟨(uV (aM (k:=2147483648) hq hr)),(List.forall_mem_cons.2 ⟨(uV (aM (k:=2147483648) hq hs)),(fun a h=>by cases h)⟩)⟩)⟩) (by simp)))<|wT (qM kO)<|wZ) ?_
 refine jE ⟨_,(kP (cs:=(bx y1)) (d:=y1) rfl rfl kO rfl rfl .nil),?_⟩
 rfl
theorem i_mul(p q r s:Rat)(hp:QL p 1073741824)(hq:QL q 1073741824)(hr:QL r 1073741824)(hs:QL s 1073741824)(hpq:p<=q)(hrs:r<=s):jR Tryz.prog 173 [(jN (kJ.mk (jO p) (jO q))),(jN (kJ.mk (jO r) (jO s)))] (.tup [(jN (kJ.mk (jO (mnL (p*r) [(p*s),(q*r),(q*s)])) (jO (mxL (p*r) [(p*s),(q*r),(q*s)])))),(.val (.int .i64 (0)))]):=by
 let y1:=(jN (kJ.mk (jO (mnL (p*r) [(p*s),(q*r),(q*s)])) (jO (mxL (p*r) [(p*s),(q*r),(q*s)]))))
 refine uU Tryz.func173 ?_
 refine jB<|kx [(2,(.ref 0 0)),(3,(.ref 1 0)),(4,(.ref 2 0))] [(0,some (bx (jN (kJ.mk (jO p) (jO q))))),(1,some (bx (jN (kJ.mk (jO r) (jO s))))),(2,some (bx (jN (kJ.mk uD uD))))] (zN (vZ 0)<|zN (vZ 1)<|zN (vC 2 xF xK)<|zM<|zZ) ?_
 refine jB<|jB<|kx [(10,(vb false))] [] (zR (kR kO)<|zR (kR kO)<|zE (fH cF xF xK)<|zE (kB (by have h:=i_valids [(kJ.mk (jO p) (jO q)),(kJ.mk (jO r) (jO s))] (List.forall_mem_cons.2 ⟨(mP (⟨qY (jY (kF hp) (by decide:1073741824<=1073741824)),qY (jY (kF hq) (by decide:1073741824<=1073741824))⟩)),(List.forall_mem_cons.2 ⟨(mP (⟨qY (jY (kF hr) (by decide:1073741824<=1073741824)),qY (jY (kF hs) (by decide:1073741824<=1073741824))⟩)),(fun a h=>by cases h)⟩)⟩) (by simp);rw[show List.all [(kJ.mk (jO p) (jO q)),(kJ.mk (jO r) (jO s))] xM=true from by simp [gP hpq,gP hrs]] at h;exact h))<|zE mH<|zZ) ?_
 refine qW ?_
 refine jG<|jB<|kx [(5,(kG 0))] [(2,some (bx y1))] (zR (kR kO)<|zR (kR kO)<|zE (kB (i_cornersM p q r s hp hq hr hs))<|zT (qM kO)<|zM<|zZ) ?_
 refine jE ⟨_,(kP (cs:=(bx y1)) (d:=y1) rfl rfl kO rfl rfl (.tmp (d:=(.val (.int .i64 (0)))) rfl .nil)),?_⟩
 rfl
theorem i_divide(p q r s:Rat)(hp:QL p 1073741824)(hq:QL q 1073741824)(hr:QL r 1073741824)(hs:QL s 1073741824)(hpq:p<=q)(hrs:r<=s)(hz:nO r s=false):jR Tryz.prog 175 [(jN (kJ.mk (jO p) (jO q))),(jN (kJ.mk (jO r) (jO s)))] (.tup [(jN (kJ.mk (jO (mnL (p / r) [(p / s),(q / r),(q / s)])) (jO (mxL (p / r) [(p / s),(q / r),(q / s)])))),(.val (.int .i64 (0)))]):=by
 obtain ⟨hr0,hs0⟩:=zeroG_ne hrs hz
 let y1:=(jN (kJ.mk (jO (mnL (p / r) [(p / s),(q / r),(q / s)])) (jO (mxL (p / r) [(p / s),(q / r),(q / s)]))))
 refine uU Tryz.func175 ?_
 refine jB<|kx [(2,(.ref 0 0)),(3,(.ref 1 0)),(4,(.ref 2 0))] [(0,some (bx (jN (kJ.mk (jO p) (jO q))))),(1,some (bx (jN (kJ.mk (jO r) (jO s))))),(2,some (bx (jN (kJ.mk uD uD))))] (zN (vZ 0)<|zN (vZ 1)<|zN (vC 2 xF xK)<|zM<|zZ) ?_
 refine jB<|jB<|kx [(11,(vb false))] [] (zR (kR kO)<|zR (kR kO)<|zE (fH cF xF xK)<|zE (kB (by have h:=i_valids [(kJ.mk (jO p) (jO q)),(kJ.mk (jO r) (jO s))] (List.forall_mem_cons.2 ⟨(mP (⟨qY (jY (kF hp) (by decide:1073741824<=1073741824)),qY (jY (kF hq) (by decide:1073741824<=1073741824))⟩)),(List.forall_mem_cons.2 ⟨(mP (⟨qY (jY (kF hr) (by decide:1073741824<=1073741824)),qY (jY (kF hs) (by decide:1073741824<=1073741824))⟩)),(fun a h=>by cases h)⟩)⟩) (by simp);rw[show List.all [(kJ.mk (jO p) (jO q)),(kJ.mk (jO r) (jO s))] xM=true from by simp [gP hpq,gP hrs]] at h;exact h))<|zE mH<|zZ) ?_
 refine qW ?_
 refine jG<|jB<|jB<|kx [(14,(vb false))] [] (zR (kR kO)<|zE (kB (by have h:=i_zero r s hr hs;rw[show nO r s=false from hz] at h;exact h))<|zZ) ?_
 refine qW ?_
 refine jG<|jB<|kx [(6,(.d (.val (.func (.func 202) #[] #[]))))] [] (zM<|zZ) ?_
 refine jB<|kx [(5,(kG 0))] [(2,some (bx y1))] (zM<|zR (kR kO)<|zR (kR kO)<|zE (kB (i_cornersD p q r s hp hq hr hs (by assumption) (by assumption)))<|zT (qM kO)<|zM<|zZ) ?_
 refine jE ⟨_,(kP (cs:=(bx y1)) (d:=y1) rfl rfl kO rfl rfl (.tmp (d:=(.val (.int .i64 (0)))) rfl .nil)),?_⟩
 rfl
theorem i_square(p q:Rat)(hp:QL p 1073741824)(hq:QL q 1073741824)(hpq:p<=q):jR Tryz.prog 174 [(jN (kJ.mk (jO p) (jO q)))] (.tup [(jN (kJ.mk (jO (sqL p q)) (jO (sqH p q)))),(.val (.int .i64 (0)))]):=by
 let y2:=(jN (kJ.mk (jO ((0:Int):Rat)) (jO (mxL (p*p) [(q*q)]))))
 let y1:=(jN (kJ.mk (jO (mnL (p*p) [(q*q)])) (jO (mxL (p*p) [(q*q)]))))
 refine uU Tryz.func174 ?_
 refine jB<|kx [(1,(.ref 0 0)),(2,(.ref 1 0))] [(0,some (bx (jN (kJ.mk (jO p) (jO q))))),(1,some (bx (jN (kJ.mk uD uD))))] (zN (vZ 0)<|zN (vC 1 xF xK)<|zM<|zZ) ?_
 refine jB<|jB<|kx [(7,(vb false))] [] (zR (kR kO)<|zE (kB (by have h:=i_valid (kJ.mk (jO p) (jO q)) (mP (⟨qY (jY (kF hp) (by decide:1073741824<=1073741824)),qY (jY (kF hq) (by decide:1073741824<=1073741824))⟩));rw[show xM (kJ.mk (jO p) (jO q))=true from gP hpq] at h;exact h))<|zE mH<|zZ) ?_
 refine qW ?_
 refine jG<|jB<|kd [(4,(.ref 2 0))] [(2,some (bx y1))] mo (wE (kK zP)<|wR (kR jS)<|wE (kK zP)<|wR (kR jS)<|wE (kB (f_mul (jO p) (jO p) p p (jY (kF hp)) (jY (kF hp))))<|wE (kK zD)<|wR (kR jS)<|wE (kK zD)<|wR (kR jS)<|wE (kB (f_mul (jO q) (jO q) q q (jY (kF hq)) (jY (kF hq))))<|wE (fH uE qU uG)<|wE (kB (i_spanned (p*p) [(q*q)] (uV (nN (k:=2147483648) hp hp)) (List.forall_mem_cons.2 ⟨(uV (nN (k:=2147483648) hq hq)),(fun a h=>by cases h)⟩) (by simp)))<|wN (vC 2 xF xK)<|wT (qM kO)<|wZ) ?_
 refine jB<|jB<|kx [(22,(vb (nO p q)))] [] (zR (kR kO)<|zE (kB (i_zero p q hp hq))<|zZ) ?_
 refine jF (b:=(nO p q)) rfl (fun h1=>?_) (fun h1=>?_)
 ·refine kx [] [(2,some (bx y2))] (zE (kB (eR 0))<|zE (kK zP)<|zT (qM jS)<|zZ) ?_
  refine jB<|kx [(3,(kG 0))] [(1,some (bx y2))] (zR (kR kO)<|zT (qM kO)<|zM<|zZ) ?_
  refine jE ⟨_,(kP (cs:=(bx y2)) (d:=y2) rfl rfl kO rfl rfl (.tmp (d:=(.val (.int .i64 (0)))) rfl .nil)),?_⟩
  rw[show sqL p q=_ from if_pos h1];rfl
 ·refine jG<|jB<|kx [(3,(kG 0))] [(1,some (bx y1))] (zR (kR kO)<|zT (qM kO)<|zM<|zZ) ?_
  refine jE ⟨_,(kP (cs:=(bx y1)) (d:=y1) rfl rfl kO rfl rfl (.tmp (d:=(.val (.int .i64 (0)))) rfl .nil)),?_⟩
  rw[show sqL p q=_ from if_neg (by rw[h1];simp)];rfl
theorem h_whole(lo hi:Int)(h1:-9223372036854775808<=lo:=by decide)(h2:lo<=9223372036854775807:=by decide)(h3:-9223372036854775808<=hi:=by decide)(h4:hi<=9223372036854775807:=by decide):jR Tryz.prog 30 [(.val (.int .i64 (lo))),(.val (.int .i64 (hi)))] (jN (kJ.mk (jO ((lo:Int):Rat)) (jO ((hi:Int):Rat)))):=by
 refine uU Tryz.func30 ?_
 refine jB<|kx [(4,(.ref 0 0))] [(0,some (bx (jN (kJ.mk uD uD))))] (zN (vC 0 xF xK)<|zZ) ?_
 refine jB<|kx [] [(0,some (bx (jN (kJ.mk (jO ((lo:Int):Rat)) (jO ((hi:Int):Rat))))))] (zM<|zE (kB (g_whole lo (by omega) (by omega)))<|zM<|zE (kB (g_whole hi (by omega) (by omega)))<|zE (bC pl42 xF xK)<|zT (qM kO)<|zZ) ?_
 refine jE ⟨_,(kP (cs:=(bx (jN (kJ.mk (jO ((lo:Int):Rat)) (jO ((hi:Int):Rat)))))) (d:=(jN (kJ.mk (jO ((lo:Int):Rat)) (jO ((hi:Int):Rat))))) rfl rfl kO rfl rfl .nil),?_⟩
 rfl
theorem h_same(a b:kJ)(ha:GOk 4294967296 a)(hb:GOk 4294967296 b):jR Tryz.prog 43 [(jN a),(jN b)] (.val (.bool ((sameG a b)))):=by
 refine uU Tryz.func43 ?_
 refine jB<|kx [(2,(.ref 0 0)),(3,(.ref 1 0))] [(0,some (bx (jN a))),(1,some (bx (jN b)))] (zN (vZ 0)<|zN (vZ 1)<|zM<|zZ) ?_
 refine jB<|kx [(4,(vb (((xM a)&&(xM b))&&(mZ a.lo b.lo&&mZ a.hi b.hi))))] [] ?_ ?_
 ·refine zR (kR kO)<|zE (kB (h_valid a ha))<|zE (oV (vb (xM a)) (qA (by kernel_rfl)))<|?_
  rcases hb1:(xM a) with _ | _
  ·exact zK<|zK<|zE yS<|zM<|zK<|zK<|zK<|zE yS<|zM<|zZ
  ·refine zR (kR kO)<|zE (kB (h_valid b hb))<|zE eK<|zE (oV (vb (true&&(xM b))) (qA (by kernel_rfl)))<|?_
   rcases hb2:(true&&(xM b)) with _ | _
   ·exact zK<|zK<|zK<|zE yS<|zM<|zZ
   ·exact zR (kR kO)<|zR (kR kO)<|zE (kB (g_samerange a b ha hb))<|zE eK<|zM<|zZ
 refine jE ⟨_,(.tmp (d:=(.val (.bool ((((xM a)&&(xM b))&&(mZ a.lo b.lo&&mZ a.hi b.hi)))))) rfl .nil),?_⟩
 rfl
theorem i_add(p q r s:Rat)(hp:QL p 1073741824)(hq:QL q 1073741824)(hr:QL r 1073741824)(hs:QL s 1073741824)(hpq:p<=q)(hrs:r<=s):jR Tryz.prog 171 [(jN (kJ.mk (jO p) (jO q))),(jN (kJ.mk (jO r) (jO s)))] (.tup [(jN (kJ.mk (jO (p+r)) (jO (q+s)))),(.val (.int .i64 (0)))]):=by
 refine uU Tryz.func171 ?_
 refine jB<|kx [(2,(.ref 0 0)),(3,(.ref 1 0)),(4,(.ref 2 0))] [(0,some (bx (jN (kJ.mk (jO p) (jO q))))),(1,some (bx (jN (kJ.mk (jO r) (jO s))))),(2,some (bx (jN (kJ.mk uD uD))))] (zN (vZ 0)<|zN (vZ 1)<|zN (vC 2 xF xK)<|zM<|zZ) ?_
 refine jB<|jB<|kx [(10,(vb false))] [] (zR (kR kO)<|zR (kR kO)<|zE (fH cF xF xK)<|zE (kB (by have h:=i_valids [(kJ.mk (jO p) (jO q)),(kJ.mk (jO r) (jO s))] (List.forall_mem_cons.2 ⟨(mP (⟨qY (jY (kF hp) (by decide:1073741824<=1073741824)),qY (jY (kF hq) (by decide:1073741824<=1073741824))⟩)),(List.forall_mem_cons.2 ⟨(mP (⟨qY (jY (kF hr) (by decide:1073741824<=1073741824)),qY (jY (kF hs) (by decide:1073741824<=1073741824))⟩)),(fun a h=>by cases h)⟩)⟩) (by simp);rw[show List.all [(kJ.mk (jO p) (jO q)),(kJ.mk (jO r) (jO s))] xM=true from by simp [gP hpq,gP hrs]] at h;exact h))<|zE mH<|zZ) ?_
 refine qW ?_
 refine jG<|jB<|kd [(5,(kG 0))] [(2,some (bx (jN (kJ.mk (jO (p+r)) (jO (q+s))))))] mo (wE (kK zP)<|wR (kR jS)<|wE (kK zP)<|wR (kR jS)<|wE (kB (f_add (jO p) (jO r) p r (jY (kF hp)) (jY (kF hr))))<|wE (kK zD)<|wR (kR jS)<|wE (kK zD)<|wR (kR jS)<|wE (kB (f_add (jO q) (jO s) q s (jY (kF hq)) (jY (kF hs))))<|wE (bC pl42 xF xK)<|wT (qM kO)<|wM<|wZ) ?_
 refine jE ⟨_,(kP (cs:=(bx (jN (kJ.mk (jO (p+r)) (jO (q+s)))))) (d:=(jN (kJ.mk (jO (p+r)) (jO (q+s))))) rfl rfl kO rfl rfl (.tmp (d:=(.val (.int .i64 (0)))) rfl .nil)),?_⟩
 rfl
theorem i_sub(p q r s:Rat)(hp:QL p 1073741824)(hq:QL q 1073741824)(hr:QL r 1073741824)(hs:QL s 1073741824)(hpq:p<=q)(hrs:r<=s):jR Tryz.prog 172 [(jN (kJ.mk (jO p) (jO q))),(jN (kJ.mk (jO r) (jO s)))] (.tup [(jN (kJ.mk (jO (p-s)) (jO (q-r)))),(.val (.int .i64 (0)))]):=by
 refine uU Tryz.func172 ?_
 refine jB<|kx [(2,(.ref 0 0)),(3,(.ref 1 0)),(4,(.ref 2 0))] [(0,some (bx (jN (kJ.mk (jO p) (jO q))))),(1,some (bx (jN (kJ.mk (jO r) (jO s))))),(2,some (bx (jN (kJ.mk uD uD))))] (zN (vZ 0)<|zN (vZ 1)<|zN (vC 2 xF xK)<|zM<|zZ) ?_
 refine jB<|jB<|kx [(10,(vb false))] [] (zR (kR kO)<|zR (kR kO)<|zE (fH cF xF xK)<|zE (kB (by have h:=i_valids [(kJ.mk (jO p) (jO q)),(kJ.mk (jO r) (jO s))] (List.forall_mem_cons.2 ⟨(mP (⟨qY (jY (kF hp) (by decide:1073741824<=1073741824)),qY (jY (kF hq) (by decide:1073741824<=1073741824))⟩)),(List.forall_mem_cons.2 ⟨(mP (⟨qY (jY (kF hr) (by decide:1073741824<=1073741824)),qY (jY (kF hs) (by decide:1073741824<=1073741824))⟩)),(fun a h=>by cases h)⟩)⟩) (by simp);rw[show List.all [(kJ.mk (jO p) (jO q)),(kJ.mk (jO r) (jO s))] xM=true from by simp [gP hpq,gP hrs]] at h;exact h))<|zE mH<|zZ) ?_
 refine qW ?_
 refine jG<|jB<|kd [(5,(kG 0))] [(2,some (bx (jN (kJ.mk (jO (p-s)) (jO (q-r))))))] mo (wE (kK zP)<|wR (kR jS)<|wE (kK zD)<|wR (kR jS)<|wE (kB (f_sub (jO p) (jO s) p s (jY (kF hp)) (jY (kF hs))))<|wE (kK zD)<|wR (kR jS)<|wE (kK zP)<|wR (kR jS)<|wE (kB (f_sub (jO q) (jO r) q r (jY (kF hq)) (jY (kF hr))))<|wE (bC pl42 xF xK)<|wT (qM kO)<|wM<|wZ) ?_
 refine jE ⟨_,(kP (cs:=(bx (jN (kJ.mk (jO (p-s)) (jO (q-r)))))) (d:=(jN (kJ.mk (jO (p-s)) (jO (q-r))))) rfl rfl kO rfl rfl (.tmp (d:=(.val (.int .i64 (0)))) rfl .nil)),?_⟩
 rfl
theorem by32:xN Tryz.prog 32=some 64:=by kernel_rfl
theorem g_zero(x:kV)(p:Rat)(hx:gZ x p 140737488355328):jR Tryz.prog 13 [(jJ x)] (.val (.bool ((zeroR x)))):=by
 have h1:=hx.n1
 have h2:=hx.n2
 refine uU Tryz.func13 ?_
 refine jB<|kx [(1,(.ref 0 0))] [(0,some (bx (jJ x)))] (zN (vZ 0)<|zM<|zZ) ?_
 refine jB<|kx [(2,(vb (((!x.num.neg&&!x.den.neg)&&(((x.num.gs.length:Nat):Int) == 0))&&(((x.den.gs.length:Nat):Int) == 0))))] [] ?_ ?_
 ·refine zE (kK vP)<|zE (kK uW)<|zR (qI eL)<|zE mH<|zE (oV (vb (!x.num.neg)) (qA (by kernel_rfl)))<|?_
  rcases hb1:(!x.num.neg) with _ | _
  ·exact zK<|zK<|zK<|zK<|zE yS<|zM<|zK<|zK<|zK<|zK<|zK<|zE yS<|zM<|zK<|zK<|zK<|zK<|zK<|zE yS<|zM<|zZ
  ·refine zE (kK vB)<|zE (kK uW)<|zR (qI eL)<|zE mH<|zE eK<|zE (oV (vb (true&&!x.den.neg)) (qA (by kernel_rfl)))<|?_
   rcases hb2:(true&&!x.den.neg) with _ | _
   ·exact zK<|zK<|zK<|zK<|zK<|zE yS<|zM<|zK<|zK<|zK<|zK<|zK<|zE yS<|zM<|zZ
   ·refine zE (kK vP)<|zE (kK uO)<|zR (qI xG)<|zE (zL kD)<|zE xV<|zE eK<|zE (oV (vb (true&&(((x.num.gs.length:Nat):Int) == 0))) (qA (by kernel_rfl)))<|?_
    rcases hb3:(true&&(((x.num.gs.length:Nat):Int) == 0)) with _ | _
    ·exact zK<|zK<|zK<|zK<|zK<|zE yS<|zM<|zZ
    ·exact zE (kK vB)<|zE (kK uO)<|zR (qI xG)<|zE (zL kD)<|zE xV<|zE eK<|zM<|zZ
 refine jE ⟨_,(.tmp (d:=(.val (.bool ((((!x.num.neg&&!x.den.neg)&&(((x.num.gs.length:Nat):Int) == 0))&&(((x.den.gs.length:Nat):Int) == 0)))))) rfl .nil),?_⟩
 rfl
theorem xL(h107:107≠1000000)(x:kJ):yC 1000000 (jN x):=.agg (cZ (.val _) (cZ (avo_vals h107 _) (cZ (.val _) (cZ (avo_vals h107 _) (cZ (.val _) (cZ (avo_vals h107 _) (cZ (.val _) (cZ (avo_vals h107 _) avo_nil))))))))
abbrev yV (n k:Nat) (L:List JV) (b:Bool):List SV:=[(kG n),(kG 1),(vi (-1)),(.own k 46 10 ((List.map uT L).length)),(vb b)]
abbrev yX (L:List JV):List SV:=qN jP (List.map uT L)
abbrev mcA (n:Nat) (x:jT) (b:Bool):jT:=.agg [(.val (.int .i64 ((n:Nat):Int))),(.val (.int .i64 ((1:Nat):Int))),(.val (.int .i64 (-1))),x,(.val (.bool b))]
theorem gl_ite{c:Prop}[Decidable c]{a b:R2}{n:Nat}(ha:GL n a)(hb:GL n b):GL n (if c then a else b):=by
 split
 ·exact ha
 ·exact hb
theorem j_whole(z:Int)(hz1:-9223372036854775808<=z)(hz2:z<=9223372036854775807):jR Tryz.prog 120 [(.val (.int .i64 (z)))] (jN (qH (gw z))):=by
 refine uU Tryz.func120 ?_
 refine jB<|kx [(2,(.ref 0 0))] [(0,some (bx (jN (kJ.mk uD uD))))] (zN (vC 0 xF xK)<|zZ) ?_
 refine jB<|kx [] [(0,some (bx (jN (kJ.mk (jO ((z:Int):Rat)) (jO ((z:Int):Rat))))))] (zM<|zE (kB (eR z (by omega) (by omega)))<|zM<|zE (kB (eR z (by omega) (by omega)))<|zE (bC pl42 xF xK)<|zT (qM kO)<|zZ) ?_
 refine jE ⟨_,(kP (cs:=(bx (jN (kJ.mk (jO ((z:Int):Rat)) (jO ((z:Int):Rat)))))) (d:=(jN (kJ.mk (jO ((z:Int):Rat)) (jO ((z:Int):Rat))))) rfl rfl kO rfl rfl .nil),?_⟩
 rfl
theorem j_add(a:R2)(ha:GL 67108864 a)(b:R2)(hb:GL 67108864 b):jR Tryz.prog 131 [(jN (qH a)),(jN (qH b))] (jN (qH (yY a b))):=by
 refine uU Tryz.func131 ?_
 refine jB<|kx [(2,(.ref 0 0)),(3,(.ref 1 0)),(4,(.ref 2 0))] [(0,some (bx (jN (qH a)))),(1,some (bx (jN (qH b)))),(2,some (bx (jN (kJ.mk uD uD))))] (zN (vZ 0)<|zN (vZ 1)<|zN (vC 2 xF xK)<|zZ) ?_
 refine jB<|kx [(5,(.ref 3 0))] [(3,some (bx (jN (kJ.mk (jO (a.1+b.1)) (jO (a.2+b.2))))))] (zR (kR kO)<|zR (kR kO)<|zE (kB (i_add a.1 a.2 b.1 b.2 (uV ha.1) (uV ha.2.1) (uV hb.1) (uV hb.2.1) ha.2.2 hb.2.2))<|zM<|zE xU<|zE xU<|zN (vC 3 xF xK)<|zT (qM kO)<|zM<|zZ) ?_
 refine jB<|kx [] [(2,some (bx (jN (kJ.mk (jO (a.1+b.1)) (jO (a.2+b.2))))))] (zR (kR kO)<|zT (qM kO)<|zZ) ?_
 refine jE ⟨_,(kP (cs:=(bx (jN (kJ.mk (jO (a.1+b.1)) (jO (a.2+b.2)))))) (d:=(jN (kJ.mk (jO (a.1+b.1)) (jO (a.2+b.2))))) rfl rfl kO rfl rfl .nil),?_⟩
 rfl
theorem j_sub(a:R2)(ha:GL 67108864 a)(b:R2)(hb:GL 67108864 b):jR Tryz.prog 132 [(jN (qH a)),(jN (qH b))] (jN (qH (uJ a b))):=by
 refine uU Tryz.func132 ?_
 refine jB<|kx [(2,(.ref 0 0)),(3,(.ref 1 0)),(4,(.ref 2 0))] [(0,some (bx (jN (qH a)))),(1,some (bx (jN (qH b)))),(2,some (bx (jN (kJ.mk uD uD))))] (zN (vZ 0)<|zN (vZ 1)<|zN (vC 2 xF xK)<|zZ) ?_
 refine jB<|kx [(5,(.ref 3 0))] [(3,some (bx (jN (kJ.mk (jO (a.1-b.2)) (jO (a.2-b.1))))))] (zR (kR kO)<|zR (kR kO)<|zE (kB (i_sub a.1 a.2 b.1 b.2 (uV ha.1) (uV ha.2.1) (uV hb.1) (uV hb.2.1) ha.2.2 hb.2.2))<|zM<|zE xU<|zE xU<|zN (vC 3 xF xK)<|zT (qM kO)<|zM<|zZ) ?_
 refine jB<|kx [] [(2,some (bx (jN (kJ.mk (jO (a.1-b.2)) (jO (a.2-b.1))))))] (zR (kR kO)<|zT (qM kO)<|zZ) ?_
 refine jE ⟨_,(kP (cs:=(bx (jN (kJ.mk (jO (a.1-b.2)) (jO (a.2-b.1)))))) (d:=(jN (kJ.mk (jO (a.1-b.2)) (jO (a.2-b.1))))) rfl rfl kO rfl rfl .nil),?_⟩
 rfl
theorem j_mul(a:R2)(ha:GL 67108864 a)(b:R2)(hb:GL 67108864 b):jR Tryz.prog 135 [(jN (qH a)),(jN (qH b))] (jN (qH (vS a b))):=by
 let y1:=(bx (jN (kJ.mk (jO (mnL (a.1*b.1) [(a.1*b.2),(a.2*b.1),(a.2*b.2)])) (jO (mxL (a.1*b.1) [(a.1*b.2),(a.2*b.1),(a.2*b.2)])))))
 refine uU Tryz.func135 ?_
 refine jB<|kx [(2,(.ref 0 0)),(3,(.ref 1 0)),(4,(.ref 2 0))] [(0,some (bx (jN (qH a)))),(1,some (bx (jN (qH b)))),(2,some (bx (jN (kJ.mk uD uD))))] (zN (vZ 0)<|zN (vZ 1)<|zN (vC 2 xF xK)<|zZ) ?_
 refine jB<|kx [(5,(.ref 3 0))] [(3,some y1)] (zR (kR kO)<|zR (kR kO)<|zE (kB (i_mul a.1 a.2 b.1 b.2 (uV ha.1) (uV ha.2.1) (uV hb.1) (uV hb.2.1) ha.2.2 hb.2.2))<|zM<|zE xU<|zE xU<|zN (vC 3 xF xK)<|zT (qM kO)<|zM<|zZ) ?_
 refine jB<|kx [] [(2,some y1)] (zR (kR kO)<|zT (qM kO)<|zZ) ?_
 refine jE ⟨_,(kP (cs:=y1) (d:=(jN (kJ.mk (jO (mnL (a.1*b.1) [(a.1*b.2),(a.2*b.1),(a.2*b.2)])) (jO (mxL (a.1*b.1) [(a.1*b.2),(a.2*b.1),(a.2*b.2)]))))) rfl rfl kO rfl rfl .nil),?_⟩
 rfl
theorem j_sq(a:R2)(ha:GL 67108864 a):jR Tryz.prog 139 [(jN (qH a))] (jN (qH (gsq a))):=by
 refine uU Tryz.func139 ?_
 refine jB<|kx [(1,(.ref 0 0)),(2,(.ref 1 0))] [(0,some (bx (jN (qH a)))),(1,some (bx (jN (kJ.mk uD uD))))] (zN (vZ 0)<|zN (vC 1 xF xK)<|zZ) ?_
 refine jB<|kx [(3,(.ref 2 0))] [(2,some (bx (jN (kJ.mk (jO (sqL a.1 a.2)) (jO (sqH a.1 a.2))))))] (zR (kR kO)<|zE (kB (i_square a.1 a.2 (uV ha.1) (uV ha.2.1) ha.2.2))<|zM<|zE xU<|zE xU<|zN (vC 2 xF xK)<|zT (qM kO)<|zM<|zZ) ?_
 refine jB<|kx [] [(1,some (bx (jN (kJ.mk (jO (sqL a.1 a.2)) (jO (sqH a.1 a.2))))))] (zR (kR kO)<|zT (qM kO)<|zZ) ?_
 refine jE ⟨_,(kP (cs:=(bx (jN (kJ.mk (jO (sqL a.1 a.2)) (jO (sqH a.1 a.2)))))) (d:=(jN (kJ.mk (jO (sqL a.1 a.2)) (jO (sqH a.1 a.2))))) rfl rfl kO rfl rfl .nil),?_⟩
 rfl
theorem j_kids(o:Int):jR Tryz.prog 111 [(.val (.int .i64 (o)))] (.val (.int .i64 ((uA o)))):=by
 refine uU Tryz.func111 ?_
 refine jB<|kx [] [] (zM<|zZ) ?_
 refine jB<|jB<|kx [(3,(vi o))] [] (zM<|zZ) ?_
 refine jL<|jB<|jB<|kx [(4,(vb (o == 0)))] [] (zE xV<|zM<|zZ) ?_
 refine jF (b:=(o == 0)) rfl (fun h1=>?_) (fun h1=>?_)
 ·replace h1:=eq_of_beq h1
  refine jG<|jF rfl (fun _=>?_) (fun h=>absurd (Eq.trans (Eq.symm (show ((o == 0))=true from beq_iff_eq.2 h1)) h) (by decide))
  refine jB<|kx [(2,(kG 0))] [] (zM<|zZ) ?_
  refine jE ⟨_,(.tmp (d:=(.val (.int .i64 (0)))) rfl .nil),?_⟩
  show jT.val (.int .i64 _)=_
  unfold uA;simp [*]
 ·replace h1:=ne_of_beq_false h1
  refine kx [(4,(vb (o == 1)))] [] (zE xV<|zM<|zZ) ?_
  refine jF (b:=(o == 1)) rfl (fun h2=>?_) (fun h2=>?_)
  ·replace h2:=eq_of_beq h2
   refine jB<|kx [(2,(kG 0))] [] (zM<|zZ) ?_
   refine jE ⟨_,(.tmp (d:=(.val (.int .i64 (0)))) rfl .nil),?_⟩
   show jT.val (.int .i64 _)=_
   unfold uA;simp [*]
  ·replace h2:=ne_of_beq_false h2
   refine jB<|jB<|kx [(7,(vb (o == 6)))] [] (zE xV<|zM<|zZ) ?_
   refine jF (b:=(o == 6)) rfl (fun h3=>?_) (fun h3=>?_)
   ·replace h3:=eq_of_beq h3
    refine jG<|jF rfl (fun _=>?_) (fun h=>absurd (Eq.trans (Eq.symm (show ((o == 6))=true from beq_iff_eq.2 h3)) h) (by decide))
    refine jB<|kx [(2,(kG 1))] [] (zM<|zZ) ?_
    refine jE ⟨_,(.tmp (d:=(.val (.int .i64 (1)))) rfl .nil),?_⟩
    show jT.val (.int .i64 _)=_
    unfold uA;simp [*]
   ·replace h3:=ne_of_beq_false h3
    refine kx [(7,(vb (o == 7)))] [] (zE xV<|zM<|zZ) ?_
    refine jF (b:=(o == 7)) rfl (fun h4=>?_) (fun h4=>?_)
    ·replace h4:=eq_of_beq h4
     refine jB<|kx [(2,(kG 1))] [] (zM<|zZ) ?_
     refine jE ⟨_,(.tmp (d:=(.val (.int .i64 (1)))) rfl .nil),?_⟩
     show jT.val (.int .i64 _)=_
     unfold uA;simp [*]
    ·replace h4:=ne_of_beq_false h4
     refine jB<|jB<|kx [(10,(vb (o == 2)))] [] (zE xV<|zM<|zZ) ?_
     refine jF (b:=(o == 2)) rfl (fun h5=>?_) (fun h5=>?_)
     ·replace h5:=eq_of_beq h5
      refine jG<|jF rfl (fun _=>?_) (fun h=>absurd (Eq.trans (Eq.symm (show ((o == 2))=true from beq_iff_eq.2 h5)) h) (by decide))
      refine jB<|kx [(2,(kG 2))] [] (zM<|zZ) ?_
      refine jE ⟨_,(.tmp (d:=(.val (.int .i64 (2)))) rfl .nil),?_⟩
      show jT.val (.int .i64 _)=_
      unfold uA;simp [*]
     ·replace h5:=ne_of_beq_false h5
      refine jB<|kx [(10,(vb (o == 3)))] [] (zE xV<|zM<|zZ) ?_
      refine jF (b:=(o == 3)) rfl (fun h6=>?_) (fun h6=>?_)
      ·replace h6:=eq_of_beq h6
       refine jG<|jF rfl (fun _=>?_) (fun h=>absurd (Eq.trans (Eq.symm (show ((o == 3))=true from beq_iff_eq.2 h6)) h) (by decide))
       refine jB<|kx [(2,(kG 2))] [] (zM<|zZ) ?_
       refine jE ⟨_,(.tmp (d:=(.val (.int .i64 (2)))) rfl .nil),?_⟩
       show jT.val (.int .i64 _)=_
       unfold uA;simp [*]
      ·replace h6:=ne_of_beq_false h6
       refine jB<|kx [(10,(vb (o == 4)))] [] (zE xV<|zM<|zZ) ?_
       refine jF (b:=(o == 4)) rfl (fun h7=>?_) (fun h7=>?_)
       ·replace h7:=eq_of_beq h7
        refine jG<|jF rfl (fun _=>?_) (fun h=>absurd (Eq.trans (Eq.symm (show ((o == 4))=true from beq_iff_eq.2 h7)) h) (by decide))
        refine jB<|kx [(2,(kG 2))] [] (zM<|zZ) ?_
        refine jE ⟨_,(.tmp (d:=(.val (.int .i64 (2)))) rfl .nil),?_⟩
        show jT.val (.int .i64 _)=_
        unfold uA;simp [*]
       ·replace h7:=ne_of_beq_false h7
        refine kx [(10,(vb (o == 5)))] [] (zE xV<|zM<|zZ) ?_
        refine jF (b:=(o == 5)) rfl (fun h8=>?_) (fun h8=>?_)
        ·replace h8:=eq_of_beq h8
         refine jB<|kx [(2,(kG 2))] [] (zM<|zZ) ?_
         refine jE ⟨_,(.tmp (d:=(.val (.int .i64 (2)))) rfl .nil),?_⟩
         show jT.val (.int .i64 _)=_
         unfold uA;simp [*]
        ·replace h8:=ne_of_beq_false h8
         refine jG<|jB<|kx [(2,(vi (-1)))] [] (zM<|zZ) ?_
         refine jE ⟨_,(.tmp (d:=(.val (.int .i64 (-1)))) rfl .nil),?_⟩
         show jT.val (.int .i64 _)=_
         unfold uA;simp [*]
theorem r_kids(o:Int):jR Tryz.prog 55 [(.val (.int .i64 (o)))] (.val (.int .i64 ((uA o)))):=by
 refine uU Tryz.func55 ?_
 refine jB<|kx [] [] (zM<|zZ) ?_
 refine jB<|jB<|kx [(3,(vi o))] [] (zM<|zZ) ?_
 refine jL<|jB<|jB<|kx [(4,(vb (o == 0)))] [] (zE xV<|zM<|zZ) ?_
 refine jF (b:=(o == 0)) rfl (fun h1=>?_) (fun h1=>?_)
 ·replace h1:=eq_of_beq h1
  refine jG<|jF rfl (fun _=>?_) (fun h=>absurd (Eq.trans (Eq.symm (show ((o == 0))=true from beq_iff_eq.2 h1)) h) (by decide))
  refine jB<|kx [(2,(kG 0))] [] (zM<|zZ) ?_
  refine jE ⟨_,(.tmp (d:=(.val (.int .i64 (0)))) rfl .nil),?_⟩
  show jT.val (.int .i64 _)=_
  unfold uA;simp [*]
 ·replace h1:=ne_of_beq_false h1
  refine kx [(4,(vb (o == 1)))] [] (zE xV<|zM<|zZ) ?_
  refine jF (b:=(o == 1)) rfl (fun h2=>?_) (fun h2=>?_)
  ·replace h2:=eq_of_beq h2
   refine jB<|kx [(2,(kG 0))] [] (zM<|zZ) ?_
   refine jE ⟨_,(.tmp (d:=(.val (.int .i64 (0)))) rfl .nil),?_⟩
   show jT.val (.int .i64 _)=_
   unfold uA;simp [*]
  ·replace h2:=ne_of_beq_false h2
   refine jB<|jB<|kx [(7,(vb (o == 6)))] [] (zE xV<|zM<|zZ) ?_
   refine jF (b:=(o == 6)) rfl (fun h3=>?_) (fun h3=>?_)
   ·replace h3:=eq_of_beq h3
    refine jG<|jF rfl (fun _=>?_) (fun h=>absurd (Eq.trans (Eq.symm (show ((o == 6))=true from beq_iff_eq.2 h3)) h) (by decide))
    refine jB<|kx [(2,(kG 1))] [] (zM<|zZ) ?_
    refine jE ⟨_,(.tmp (d:=(.val (.int .i64 (1)))) rfl .nil),?_⟩
    show jT.val (.int .i64 _)=_
    unfold uA;simp [*]
   ·replace h3:=ne_of_beq_false h3
    refine kx [(7,(vb (o == 7)))] [] (zE xV<|zM<|zZ) ?_
    refine jF (b:=(o == 7)) rfl (fun h4=>?_) (fun h4=>?_)
    ·replace h4:=eq_of_beq h4
     refine jB<|kx [(2,(kG 1))] [] (zM<|zZ) ?_
     refine jE ⟨_,(.tmp (d:=(.val (.int .i64 (1)))) rfl .nil),?_⟩
     show jT.val (.int .i64 _)=_
     unfold uA;simp [*]
    ·replace h4:=ne_of_beq_false h4
     refine jB<|jB<|kx [(10,(vb (o == 2)))] [] (zE xV<|zM<|zZ) ?_
     refine jF (b:=(o == 2)) rfl (fun h5=>?_) (fun h5=>?_)
     ·replace h5:=eq_of_beq h5
      refine jG<|jF rfl (fun _=>?_) (fun h=>absurd (Eq.trans (Eq.symm (show ((o == 2))=true from beq_iff_eq.2 h5)) h) (by decide))
      refine jB<|kx [(2,(kG 2))] [] (zM<|zZ) ?_
      refine jE ⟨_,(.tmp (d:=(.val (.int .i64 (2)))) rfl .nil),?_⟩
      show jT.val (.int .i64 _)=_
      unfold uA;simp [*]
     ·replace h5:=ne_of_beq_false h5
      refine jB<|kx [(10,(vb (o == 3)))] [] (zE xV<|zM<|zZ) ?_
      refine jF (b:=(o == 3)) rfl (fun h6=>?_) (fun h6=>?_)
      ·replace h6:=eq_of_beq h6
       refine jG<|jF rfl (fun _=>?_) (fun h=>absurd (Eq.trans (Eq.symm (show ((o == 3))=true from beq_iff_eq.2 h6)) h) (by decide))
       refine jB<|kx [(2,(kG 2))] [] (zM<|zZ) ?_
       refine jE ⟨_,(.tmp (d:=(.val (.int .i64 (2)))) rfl .nil),?_⟩
       show jT.val (.int .i64 _)=_
       unfold uA;simp [*]
      ·replace h6:=ne_of_beq_false h6
       refine jB<|kx [(10,(vb (o == 4)))] [] (zE xV<|zM<|zZ) ?_
       refine jF (b:=(o == 4)) rfl (fun h7=>?_) (fun h7=>?_)
       ·replace h7:=eq_of_beq h7
        refine jG<|jF rfl (fun _=>?_) (fun h=>absurd (Eq.trans (Eq.symm (show ((o == 4))=true from beq_iff_eq.2 h7)) h) (by decide))
        refine jB<|kx [(2,(kG 2))] [] (zM<|zZ) ?_
        refine jE ⟨_,(.tmp (d:=(.val (.int .i64 (2)))) rfl .nil),?_⟩
        show jT.val (.int .i64 _)=_
        unfold uA;simp [*]
       ·replace h7:=ne_of_beq_false h7
        refine kx [(10,(vb (o == 5)))] [] (zE xV<|zM<|zZ) ?_
        refine jF (b:=(o == 5)) rfl (fun h8=>?_) (fun h8=>?_)
        ·replace h8:=eq_of_beq h8
         refine jB<|kx [(2,(kG 2))] [] (zM<|zZ) ?_
         refine jE ⟨_,(.tmp (d:=(.val (.int .i64 (2)))) rfl .nil),?_⟩
         show jT.val (.int .i64 _)=_
         unfold uA;simp [*]
        ·replace h8:=ne_of_beq_false h8
         refine jG<|jB<|kx [(2,(vi (-1)))] [] (zM<|zZ) ?_
         refine jE ⟨_,(.tmp (d:=(.val (.int .i64 (-1)))) rfl .nil),?_⟩
         show jT.val (.int .i64 _)=_
         unfold uA;simp [*]
theorem eE{L:List JV}{N n a:Nat}(h:∀ x∈L,nW N n x)(ha:a<L.length):nW N n (L.getD a jz):=by
 rw[List.getD_eq_getElem?_getD,List.getElem?_eq_getElem ha];exact h _ (List.getElem_mem _)
def yH(N:Nat)(t:List kC):Prop:=∀ x∈t,gZ x.n (vQ x.n) N
theorem tn_get{N:Nat}{t:List kC}(h:yH N t){k:Nat}(hk:k<t.length):gZ (t.getD k tz).n (vQ (t.getD k tz).n) N:=by
 rw[List.getD_eq_getElem?_getD,List.getElem?_eq_getElem hk];exact h _ (List.getElem_mem _)
theorem tn_up{M N:Nat}{t:List kC}(h:yH M t)(hm:M<=N:=by decide):yH N t:=fun x hx=>jY (h x hx) hm
theorem j_unset(x:kV)(p:Rat)(hx:gZ x p 1048576):jR Tryz.prog 148 [(jJ x)] (.val (.bool ((unsB x)))):=by
 refine uU Tryz.func148 ?_
 refine jB<|kx [(1,(.ref 0 0))] [(0,some (bx (jJ x)))] (zN (vZ 0)<|zM<|zZ) ?_
 refine jB<|kx [(2,(vb (((!x.num.neg&&!x.den.neg)&&(((x.num.gs.length:Nat):Int) == 0))&&(((x.den.gs.length:Nat):Int) == 0))))] [] ?_ ?_
 ·refine zE (kK vP)<|zE (kK uW)<|zR (qI eL)<|zE mH<|zE (oV (vb (!x.num.neg)) (qA (by kernel_rfl)))<|?_
  rcases hb1:(!x.num.neg) with _ | _
  ·exact zK<|zK<|zK<|zK<|zE yS<|zM<|zK<|zK<|zK<|zK<|zK<|zE yS<|zM<|zK<|zK<|zK<|zK<|zK<|zE yS<|zM<|zZ
  ·refine zE (kK vB)<|zE (kK uW)<|zR (qI eL)<|zE mH<|zE eK<|zE (oV (vb (true&&!x.den.neg)) (qA (by kernel_rfl)))<|?_
   rcases hb2:(true&&!x.den.neg) with _ | _
   ·exact zK<|zK<|zK<|zK<|zK<|zE yS<|zM<|zK<|zK<|zK<|zK<|zK<|zE yS<|zM<|zZ
   ·refine zE (kK vP)<|zE (kK uO)<|zR (qI xG)<|zE (zL kD)<|zE xV<|zE eK<|zE (oV (vb (true&&(((x.num.gs.length:Nat):Int) == 0))) (qA (by kernel_rfl)))<|?_
    rcases hb3:(true&&(((x.num.gs.length:Nat):Int) == 0)) with _ | _
    ·exact zK<|zK<|zK<|zK<|zK<|zE yS<|zM<|zZ
    ·exact zE (kK vB)<|zE (kK uO)<|zR (qI xG)<|zE (zL kD)<|zE xV<|zE eK<|zM<|zZ
 refine jE ⟨_,(.tmp (d:=(.val (.bool ((((!x.num.neg&&!x.den.neg)&&(((x.num.gs.length:Nat):Int) == 0))&&(((x.den.gs.length:Nat):Int) == 0)))))) rfl .nil),?_⟩
 rfl
end Go.Proofs.YtckccjhflbljgaaGreatDoor
