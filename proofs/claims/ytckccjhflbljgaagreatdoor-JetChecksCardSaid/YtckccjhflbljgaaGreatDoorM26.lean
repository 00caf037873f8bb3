/- Part 26 of a proof: rules, plain facts, and functions walked. -/
import Derived.Test.YtckccjhflbljgaaGreatDoorM25
import Derived.Test.YtckccjhflbljgaaGreatDoorM11
import Derived.Test.YtckccjhflbljgaaGreatDoorM12
import Derived.Test.YtckccjhflbljgaaGreatDoorM19
import Derived.Test.YtckccjhflbljgaaGreatDoorM17
set_option linter.all false
set_option maxRecDepth 4000
namespace Go.Proofs.YtckccjhflbljgaaGreatDoor
open Go.Fid
theorem gN:uG Tryz.prog 24=some (32,4):=by kernel_rfl
theorem mT:uG Tryz.prog 43=some (42,8):=by kernel_rfl
theorem pl42:cE Tryz.prog 42=some [(0,4),(4,4)]:=by kernel_rfl
theorem kM:qC Tryz.prog 42=some (true,8):=by kernel_rfl
theorem vX:vG Tryz.prog 42=some [.bool false,.slice none 0 0,.bool false,.slice none 0 0,.bool false,.slice none 0 0,.bool false,.slice none 0 0]:=by kernel_rfl
theorem xA:cN [.bool false,.slice none 0 0,.bool false,.slice none 0 0,.bool false,.slice none 0 0,.bool false,.slice none 0 0] [.val (.bool false),.sl 107 1 [],.val (.bool false),.sl 107 1 [],.val (.bool false),.sl 107 1 [],.val (.bool false),.sl 107 1 []]:=by simp [cN,Value.oneCell']
theorem h_valid(a:kH)(ha:GOk 4294967296 a):jS Tryz.prog 73 [(jM a)] (.val (.bool ((xI a)))):=by
 refine vA Tryz.func73 ?_
 refine jB<|kx [(1,(.ref 0 0))] [(0,some (bx (jM a)))] (zN (xH 0)<|zM<|zZ) ?_
 refine jB<|kx [(2,(vb (((kN a.lo)&&(kN a.hi))&&decide ((gY (xD a.lo) (xD a.hi))<=0))))] [] ?_ ?_
 ·refine zE (kL xV)<|zR (kV kA)<|zE (kF (g_valid a.lo (xD a.lo) (kE ha.1)))<|zE (oV (vb (kN a.lo)) (qE (by kernel_rfl)))<|?_
  rcases hb1:(kN a.lo) with _ | _
  ·exact zK<|zK<|zK<|zE gG<|zM<|zK<|zK<|zK<|zK<|zK<|zK<|zE gG<|zM<|zZ
  ·refine zE (kL xP)<|zR (kV kA)<|zE (kF (g_valid a.hi (xD a.hi) (kE ha.2)))<|zE dZ<|zE (oV (vb (true&&(kN a.hi))) (qE (by kernel_rfl)))<|?_
   rcases hb2:(true&&(kN a.hi)) with _ | _
   ·exact zK<|zK<|zK<|zK<|zK<|zK<|zE gG<|zM<|zZ
   ·exact zE (kL xV)<|zR (kV kA)<|zE (kL xP)<|zR (kV kA)<|zE (kF (g_compare a.lo a.hi (xD a.lo) (xD a.hi) ha.1 ha.2))<|zE oLe<|zE dZ<|zM<|zZ
 refine jE ⟨_,(.tmp (d:=(.val (.bool ((((kN a.lo)&&(kN a.hi))&&decide ((gY (xD a.lo) (xD a.hi))<=0)))))) rfl .nil),?_⟩
 rw[validG_eq];rfl
theorem i_valid(a:kH)(ha:GOk 4294967296 a):jS Tryz.prog 76 [(jM a)] (.val (.bool ((xI a)))):=by
 refine vA Tryz.func76 ?_
 refine jB<|kx [(1,(.ref 0 0))] [(0,some (bx (jM a)))] (zN (xH 0)<|zM<|zZ) ?_
 refine jB<|kx [(2,(vb (((kN a.lo)&&(kN a.hi))&&decide ((gY (xD a.lo) (xD a.hi))<=0))))] [] ?_ ?_
 ·refine zE (kL xV)<|zR (kV kA)<|zE (kF (f_valid a.lo (xD a.lo) (kE ha.1)))<|zE (oV (vb (kN a.lo)) (qE (by kernel_rfl)))<|?_
  rcases hb1:(kN a.lo) with _ | _
  ·exact zK<|zK<|zK<|zE gG<|zM<|zK<|zK<|zK<|zK<|zK<|zK<|zE gG<|zM<|zZ
  ·refine zE (kL xP)<|zR (kV kA)<|zE (kF (f_valid a.hi (xD a.hi) (kE ha.2)))<|zE dZ<|zE (oV (vb (true&&(kN a.hi))) (qE (by kernel_rfl)))<|?_
   rcases hb2:(true&&(kN a.hi)) with _ | _
   ·exact zK<|zK<|zK<|zK<|zK<|zK<|zE gG<|zM<|zZ
   ·exact zE (kL xV)<|zR (kV kA)<|zE (kL xP)<|zR (kV kA)<|zE (kF (fL a.lo a.hi (xD a.lo) (xD a.hi) (kE ha.1) (kE ha.2)))<|zE oLe<|zE dZ<|zM<|zZ
 refine jE ⟨_,(.tmp (d:=(.val (.bool ((((kN a.lo)&&(kN a.hi))&&decide ((gY (xD a.lo) (xD a.hi))<=0)))))) rfl .nil),?_⟩
 rw[validG_eq];rfl
theorem i_valids(l:List kH)(hl:∀ a∈l,GOk 4294967296 a)(hb:l.length<=1000000):jS Tryz.prog 198 [(.sl 42 8 (List.map jM l))] (.val (.bool ((l.all xI)))):=by
 let y1:=(kH.mk vQ vQ)
 refine vA Tryz.func198 ?_
 refine jB<|kx [] [] (zM<|zZ) ?_
 refine jB<|jB<|kx [(5,(vl 42 8 jM l)),(6,(kJ l.length)),(7,(kJ 0))] [] (zM<|zE (yD mT)<|zM<|zZ) ?_
 refine jL<|kW (α:=Nat) (fun i=>⟨[(5,(vl 42 8 jM l)),(6,(kJ l.length)),(7,(kJ i))],[]⟩) (fun i=>i<=l.length/\(l.take i).all xI=true) (fun i=>l.length-i) 0 wk ⟨Nat.zero_le _,by simp⟩ ?_
 rintro i ⟨hi,hv⟩
 refine jB<|kx [(8,(vb (decide (((i:Nat):Int)<((l.length:Nat):Int)))))] [] (zE nD<|zZ) ?_
 refine jB<|jF rfl (fun h1=>?_) (fun h1=>?_)
 ·replace h1:=vW h1
  refine jH<|jB<|jL<|jB<|kx [(4,(.ref 0 0))] [(0,some (bx (jM (l.getD i y1))))] (zE (cR mT i y1)<|zE (dH kM)<|zN (vT 0 vX xA)<|zT (qU kM)<|zZ) ?_
  refine jB<|kx [(13,(vb (!(xI (l.getD i y1)))))] [] (zR (kV kM)<|zE (kF (i_valid (l.getD i y1) (gok_get hl (show i<l.length by omega))))<|zE oNt<|zZ) ?_
  refine jF rfl (fun h2=>?_) (fun h2=>?_)
  ·refine jB<|kx [(2,(vb false))] [] (zM<|zZ) ?_
   refine jE ⟨_,(.tmp (d:=(.val (.bool (false)))) rfl .nil),?_⟩
   rw[all_not (f:=xI) (l:=l) (i:=i) (d:=(kH.mk vQ vQ)) (by omega) (by simpa using h2)];rfl
  ·refine jH<|kx [(7,(kJ (i+1)))] [] (zE (xO (i+1))<|zM<|zZ) ?_
   exact ⟨(i+1),wk,⟨by omega,all_take (d:=(kH.mk vQ vQ)) (by omega) hv (by simpa using h2)⟩,(by first|omega|(dsimp only;omega))⟩
 ·replace h1:=xJ h1
  have hie:i=l.length:=by omega
  rw[hie,List.take_length] at hv
  refine kQ<|jB<|kx [(2,(vb true))] [] (zM<|zZ) ?_
  refine jE ⟨_,(.tmp (d:=(.val (.bool (true)))) rfl .nil),?_⟩
  rw[hv];rfl
theorem i_zero(p q:Rat)(hp:QL p 1073741824)(hq:QL q 1073741824):jS Tryz.prog 201 [(jM (kH.mk (jV p) (jV q)))] (.val (.bool ((nH p q)))):=by
 refine vA Tryz.func201 ?_
 refine jB<|kx [(1,(.ref 0 0))] [(0,some (bx (jM (kH.mk (jV p) (jV q)))))] (zN (xH 0)<|zM<|zZ) ?_
 refine jB<|kx [(2,(vb (decide ((dX p)<=0)&&decide (0<=(dX q)))))] [] ?_ ?_
 ·refine zE (kL xV)<|zR (kV kA)<|zE (kF (f_sign (jV p) p (kE (kI hp))))<|zE oLe<|zE (oV (vb (decide ((dX p)<=0))) (qE (by kernel_rfl)))<|?_
  rcases hb1:(decide ((dX p)<=0)) with _ | _
  ·replace hb1:=xJ hb1
   exact zK<|zK<|zK<|zK<|zE gG<|zM<|zZ
  ·replace hb1:=vW hb1
   exact zE (kL xP)<|zR (kV kA)<|zE (kF (f_sign (jV q) q (kE (kI hq))))<|zE oGe<|zE dZ<|zM<|zZ
 refine jE ⟨_,(.tmp (d:=(.val (.bool ((decide ((dX p)<=0)&&decide (0<=(dX q))))))) rfl .nil),?_⟩
 rw[zeroG_eq];rfl
theorem i_spanned(p:Rat)(qs:List Rat)(hp:QL p 17179869184)(hqs:∀ q∈qs,QL q 17179869184)(hb:qs.length<=1000000):jS Tryz.prog 200 [(jQ (jV p)),(.sl 32 4 (List.map jQ (List.map jV qs)))] (jM (kH.mk (jV (mnL p qs)) (jV (mxL p qs)))):=by
 refine vA Tryz.func200 ?_
 refine jB<|kx [(2,(.ref 0 0)),(4,(.ref 1 0))] [(0,some (bx (jQ (jV p)))),(1,some (bx (jM (kH.mk vQ vQ))))] (zN (xH 0)<|zN (vT 1 vX xA)<|zZ) ?_
 refine jB<|kx [(5,(.ref 2 0))] [(2,some (bx (jM (kH.mk (jV p) (jV p)))))] (zR (kV kA)<|zR (kV kA)<|zE (oBd pl42 vX xA)<|zN (vT 2 vX xA)<|zT (qU kM)<|zZ) ?_
 refine jB<|jB<|kx [(11,(vl 32 4 jQ (List.map jV qs))),(12,(kJ qs.length)),(13,(kJ 0))] [] (zM<|zE (oLn gN qs.length)<|zM<|zZ) ?_
 refine jL<|kW (α:=Nat × Rat × Rat) (fun (i,lo,hi)=>⟨[(4,(.ref 1 0)),(5,(.ref 2 0)),(11,(vl 32 4 jQ (List.map jV qs))),(12,(kJ qs.length)),(13,(kJ i))],[(1,some (bx (jM (kH.mk vQ vQ)))),(2,some (bx (jM (kH.mk (jV lo) (jV hi)))))]⟩) (fun (i,lo,hi)=>i<=qs.length/\lo=mnL p (qs.take i)/\hi=mxL p (qs.take i)) (fun (i,lo,hi)=>qs.length-i) (0,p,p) wk ⟨Nat.zero_le _,rfl,rfl⟩ ?_
 rintro ⟨i,lo,hi⟩ ⟨hi1,hl,hh⟩
 have htk:∀ q∈qs.take i,QL q 17179869184:=fun q hq=>hqs q (List.mem_of_mem_take hq)
 have hlo:QL lo 17179869184:=by rw[hl];exact ql_mnL hp htk
 have hhi:QL hi 17179869184:=by rw[hh];exact ql_mxL hp htk
 refine jB<|kx [(14,(vb (decide (((i:Nat):Int)<((qs.length:Nat):Int)))))] [] (zE nD<|zZ) ?_
 refine jB<|jF rfl (fun h1=>?_) (fun h1=>?_)
 ·replace h1:=vW h1
  refine jH<|jB<|jL<|jB<|kx [(7,(.ref 3 0))] [(3,some (bx (jQ (jV (qs.getD i 0)))))] (zE (oXm gN jV i 0)<|zE (dH kA)<|zN (vT 3 yJ yO)<|zT (qU kA)<|zZ) ?_
  refine jB<|jB<|kx [(21,(vb (decide ((gY (qs.getD i 0) lo)<0))))] [] (zR (kV kA)<|zE (kL xV)<|zR (kV kA)<|zE (kF (fL (jV (qs.getD i 0)) (jV lo) (qs.getD i 0) lo (kI (ql_getD hqs (by decide) i)) (kI hlo)))<|zE nD<|zZ) ?_
  refine jF (b:=decide ((gY (qs.getD i 0) lo)<0)) rfl (fun h2=>?_) (fun h2=>?_)
  ·replace h2:=vW h2
   have hc1:=h2
   refine kx [] [(2,some (bx (jM (kH.mk (jV (qs.getD i 0)) (jV hi)))))] (zR (kV kA)<|zE (kL xV)<|zT (qU kA)<|zZ) ?_
   refine jB<|kx [(28,(vb (decide (0<(gY (qs.getD i 0) hi)))))] [] (zR (kV kA)<|zE (kL xP)<|zR (kV kA)<|zE (kF (fL (jV (qs.getD i 0)) (jV hi) (qs.getD i 0) hi (kI (ql_getD hqs (by decide) i)) (kI hhi)))<|zE eA<|zZ) ?_
   refine jF (b:=decide (0<(gY (qs.getD i 0) hi))) rfl (fun h3=>?_) (fun h3=>?_)
   ·replace h3:=vW h3
    have hc2:=h3
    refine kx [] [(2,some (bx (jM (kH.mk (jV (qs.getD i 0)) (jV (qs.getD i 0))))))] (zR (kV kA)<|zE (kL xP)<|zT (qU kA)<|zZ) ?_
    refine kx [(13,(kJ (i+1)))] [] (zE (xO (i+1))<|zM<|zZ) ?_
    exact ⟨(i+1,qs.getD i 0,qs.getD i 0),wk,⟨by omega,mnL_lt (by omega) hl hc1,mxL_gt (by omega) hh hc2⟩,(by first|omega|(dsimp only;omega))⟩
   ·replace h3:=xJ h3
    have hc2:=h3
    refine jH<|kx [(13,(kJ (i+1)))] [] (zE (xO (i+1))<|zM<|zZ) ?_
    exact ⟨(i+1,qs.getD i 0,hi),wk,⟨by omega,mnL_lt (by omega) hl hc1,mxL_le (by omega) hh hc2⟩,(by first|omega|(dsimp only;omega))⟩
  ·replace h2:=xJ h2
   have hc1:=h2
   refine jH<|jB<|kx [(28,(vb (decide (0<(gY (qs.getD i 0) hi)))))] [] (zR (kV kA)<|zE (kL xP)<|zR (kV kA)<|zE (kF (fL (jV (qs.getD i 0)) (jV hi) (qs.getD i 0) hi (kI (ql_getD hqs (by decide) i)) (kI hhi)))<|zE eA<|zZ) ?_
   refine jF (b:=decide (0<(gY (qs.getD i 0) hi))) rfl (fun h4=>?_) (fun h4=>?_)
   ·replace h4:=vW h4
    have hc2:=h4
    refine kx [] [(2,some (bx (jM (kH.mk (jV lo) (jV (qs.getD i 0))))))] (zR (kV kA)<|zE (kL xP)<|zT (qU kA)<|zZ) ?_
    refine kx [(13,(kJ (i+1)))] [] (zE (xO (i+1))<|zM<|zZ) ?_
    exact ⟨(i+1,lo,qs.getD i 0),wk,⟨by omega,mnL_ge (by omega) hl hc1,mxL_gt (by omega) hh hc2⟩,(by first|omega|(dsimp only;omega))⟩
   ·replace h4:=xJ h4
    have hc2:=h4
    refine jH<|kx [(13,(kJ (i+1)))] [] (zE (xO (i+1))<|zM<|zZ) ?_
    exact ⟨(i+1,lo,hi),wk,⟨by omega,mnL_ge (by omega) hl hc1,mxL_le (by omega) hh hc2⟩,(by first|omega|(dsimp only;omega))⟩
 ·replace h1:=xJ h1
  have hie:i=qs.length:=by omega
  rw[hie,List.take_length] at hl hh
  refine kQ<|jB<|kx [] [(1,some (bx (jM (kH.mk (jV lo) (jV hi)))))] (zR (kV kM)<|zT (qU kM)<|zZ) ?_
  refine jE ⟨_,(kS (cs:=(bx (jM (kH.mk (jV lo) (jV hi))))) (d:=(jM (kH.mk (jV lo) (jV hi)))) rfl rfl kM rfl rfl .nil),?_⟩
  rw[hl,hh];rfl
theorem i_quot(p q:Rat)(hp:QL p 1073741824)(hq:QL q 1073741824)(hq0:q≠0):jS Tryz.prog 202 [(jQ (jV p)),(jQ (jV q))] (jQ (jV (p / q))):=by
 refine vA Tryz.func202 ?_
 refine jB<|kx [(2,(.ref 0 0)),(3,(.ref 1 0)),(4,(.ref 2 0))] [(0,some (bx (jQ (jV p)))),(1,some (bx (jQ (jV q)))),(2,some (bx (jQ vQ)))] (zN (xH 0)<|zN (xH 1)<|zN (vT 2 yJ yO)<|zZ) ?_
 refine jB<|kx [(5,(.ref 3 0))] [(3,some (bx (jQ (divR p q))))] (zR (kV kA)<|zR (kV kA)<|zE (kF (f_divide (jV p) (jV q) p q (kE (kI hp)) (kE (kI hq))))<|zM<|zE yM<|zE yM<|zN (vT 3 yJ yO)<|zT (qU kA)<|zM<|zZ) ?_
 refine jB<|kx [] [(2,some (bx (jQ (divR p q))))] (zR (kV kA)<|zT (qU kA)<|zZ) ?_
 refine jE ⟨_,(kS (cs:=(bx (jQ (divR p q)))) (d:=(jQ (divR p q))) rfl rfl kA rfl rfl .nil),?_⟩
 rw[divR_ne hq0];rfl
theorem i_cornersM(p q r s:Rat)(hp:QL p 1073741824)(hq:QL q 1073741824)(hr:QL r 1073741824)(hs:QL s 1073741824):jS Tryz.prog 199 [(.val (.func (.func 47) #[] #[])),(jM (kH.mk (jV p) (jV q))),(jM (kH.mk (jV r) (jV s)))] (jM (kH.mk (jV (mnL (p*r) [(p*s),(q*r),(q*s)])) (jV (mxL (p*r) [(p*s),(q*r),(q*s)])))):=by
 let y1:=(jM (kH.mk (jV (mnL (p*r) [(p*s),(q*r),(q*s)])) (jV (mxL (p*r) [(p*s),(q*r),(q*s)]))))
 refine vA Tryz.func199 ?_
 refine jB<|kx [(4,(.ref 0 0)),(5,(.ref 1 0)),(6,(.ref 2 0))] [(0,some (bx (jM (kH.mk (jV p) (jV q))))),(1,some (bx (jM (kH.mk (jV r) (jV s))))),(2,some (bx (jM (kH.mk vQ vQ))))] (zN (xH 0)<|zN (xH 1)<|zN (vT 2 vX xA)<|zZ) ?_
 refine jB<|kd [] [(2,some (bx y1))] mo (wM<|wE (kL xV)<|wR (kV kA)<|wE (kL xV)<|wR (kV kA)<|wE (kF (f_mul (jV p) (jV r) p r (kE (kI hp)) (kE (kI hr))))<|wM<|wE (kL xV)<|wR (kV kA)<|wE (kL xP)<|wR (kV kA)<|wE (kF (f_mul (jV p) (jV s) p s (kE (kI hp)) (kE (kI hs))))<|wM<|wE (kL xP)<|wR (kV kA)<|wE (kL xV)<|wR (kV kA)<|wE (kF (f_mul (jV q) (jV r) q r (kE (kI hq)) (kE (kI hr))))<|wM<|wE (kL xP)<|wR (kV kA)<|wE (kL xP)<|wR (kV kA)<|wE (kF (f_mul (jV q) (jV s) q s (kE (kI hq)) (kE (kI hs))))<|wE (oBs gN yJ yO)<|wE (kF (i_spanned (p*r) [(p*s),(q*r),(q*s)] (vB (mM (k:=2147483648) hp hr)) (List.forall_mem_cons.2 ⟨(vB (mM (k:=2147483648) hp hs)),(List.forall_mem_cons.2 ⟨(vB (mM (k:=2147483648) hq hr)),(List.forall_mem_cons.2 ⟨(vB (mM (k:=2147483648) hq hs)),(fun a h=>by cases h)⟩)⟩)⟩) (by simp)))<|wT (qU kM)<|wZ) ?_
 refine jE ⟨_,(kS (cs:=(bx y1)) (d:=y1) rfl rfl kM rfl rfl .nil),?_⟩
 rfl
theorem i_cornersD(p q r s:Rat)(hp:QL p 1073741824)(hq:QL q 1073741824)(hr:QL r 1073741824)(hs:QL s 1073741824)(hr0:r≠0)(hs0:s≠0):jS Tryz.prog 199 [(.val (.func (.func 202) #[] #[])),(jM (kH.mk (jV p) (jV q))),(jM (kH.mk (jV r) (jV s)))] (jM (kH.mk (jV (mnL (p / r) [(p / s),(q / r),(q / s)])) (jV (mxL (p / r) [(p / s),(q / r),(q / s)])))):=by
 let y1:=(jM (kH.mk (jV (mnL (p / r) [(p / s),(q / r),(q / s)])) (jV (mxL (p / r) [(p / s),(q / r),(q / s)]))))
 refine vA Tryz.func199 ?_
 refine jB<|kx [(4,(.ref 0 0)),(5,(.ref 1 0)),(6,(.ref 2 0))] [(0,some (bx (jM (kH.mk (jV p) (jV q))))),(1,some (bx (jM (kH.mk (jV r) (jV s))))),(2,some (bx (jM (kH.mk vQ vQ))))] (zN (xH 0)<|zN (xH 1)<|zN (vT 2 vX xA)<|zZ) ?_
 refine jB<|kd [] [(2,some (bx y1))] mo (wM<|wE (kL xV)<|wR (kV kA)<|wE (kL xV)<|wR (kV kA)<|wE (kF (i_quot p r hp hr (by assumption)))<|wM<|wE (kL xV)<|wR (kV kA)<|wE (kL xP)<|wR (kV kA)<|wE (kF (i_quot p s hp hs (by assumption)))<|wM<|wE (kL xP)<|wR (kV kA)<|wE (kL xV)<|wR (kV kA)<|wE (kF (i_quot q r hq hr (by assumption)))<|wM<|wE (kL xP)<|wR (kV kA)<|wE (kL xP)<|wR (kV kA)<|wE (kF (i_quot q s hq hs (by assumption)))<|wE (oBs gN yJ yO)<|wE (kF (i_spanned (p / r) [(p / s),(q / r),(q / s)] (vB (ql_div (k:=2147483648) hp hr)) (List.forall_mem_cons.2 ⟨(vB (ql_div (k:=2147483648) hp hs)),(List.forall_mem_cons.2 ⟨(vB (ql_div (k:=2147483648) hq hr)),(List.forall_mem_cons.2 ⟨(vB (ql_div (k:=2147483648) hq hs)),(fun a h=>by cases h)⟩)⟩)⟩) (by simp)))<|wT (qU kM)<|wZ) ?_
 refine jE ⟨_,(kS (cs:=(bx y1)) (d:=y1) rfl rfl kM rfl rfl .nil),?_⟩
 rfl
theorem i_mul(p q r s:Rat)(hp:QL p 1073741824)(hq:QL q 1073741824)(hr:QL r 1073741824)(hs:QL s 1073741824)(hpq:p<=q)(hrs:r<=s):jS Tryz.prog 173 [(jM (kH.mk (jV p) (jV q))),(jM (kH.mk (jV r) (jV s)))] (.tup [(jM (kH.mk (jV (mnL (p*r) [(p*s),(q*r),(q*s)])) (jV (mxL (p*r) [(p*s),(q*r),(q*s)])))),(.val (.int .i64 (0)))]):=by
 let y1:=(jM (kH.mk (jV (mnL (p*r) [(p*s),(q*r),(q*s)])) (jV (mxL (p*r) [(p*s),(q*r),(q*s)]))))
 refine vA Tryz.func173 ?_
 refine jB<|kx [(2,(.ref 0 0)),(3,(.ref 1 0)),(4,(.ref 2 0))] [(0,some (bx (jM (kH.mk (jV p) (jV q))))),(1,some (bx (jM (kH.mk (jV r) (jV s))))),(2,some (bx (jM (kH.mk vQ vQ))))] (zN (xH 0)<|zN (xH 1)<|zN (vT 2 vX xA)<|zM<|zZ) ?_
 refine jB<|jB<|kx [(10,(vb false))] [] (zR (kV kM)<|zR (kV kM)<|zE (oBs mT vX xA)<|zE (kF (by have h:=i_valids [(kH.mk (jV p) (jV q)),(kH.mk (jV r) (jV s))] (List.forall_mem_cons.2 ⟨(mB (⟨qS (kE (kI hp) (by decide:1073741824<=1073741824)),qS (kE (kI hq) (by decide:1073741824<=1073741824))⟩)),(List.forall_mem_cons.2 ⟨(mB (⟨qS (kE (kI hr) (by decide:1073741824<=1073741824)),qS (kE (kI hs) (by decide:1073741824<=1073741824))⟩)),(fun a h=>by cases h)⟩)⟩) (by simp);rw[show List.all [(kH.mk (jV p) (jV q)),(kH.mk (jV r) (jV s))] xI=true from by simp [gM hpq,gM hrs]] at h;exact h))<|zE oNt<|zZ) ?_
 refine vH ?_
 refine jH<|jB<|kx [(5,(kJ 0))] [(2,some (bx y1))] (zR (kV kM)<|zR (kV kM)<|zE (kF (i_cornersM p q r s hp hq hr hs))<|zT (qU kM)<|zM<|zZ) ?_
 refine jE ⟨_,(kS (cs:=(bx y1)) (d:=y1) rfl rfl kM rfl rfl (.tmp (d:=(.val (.int .i64 (0)))) rfl .nil)),?_⟩
 rfl
theorem i_divide(p q r s:Rat)(hp:QL p 1073741824)(hq:QL q 1073741824)(hr:QL r 1073741824)(hs:QL s 1073741824)(hpq:p<=q)(hrs:r<=s)(hz:nH r s=false):jS Tryz.prog 175 [(jM (kH.mk (jV p) (jV q))),(jM (kH.mk (jV r) (jV s)))] (.tup [(jM (kH.mk (jV (mnL (p / r) [(p / s),(q / r),(q / s)])) (jV (mxL (p / r) [(p / s),(q / r),(q / s)])))),(.val (.int .i64 (0)))]):=by
 obtain ⟨hr0,hs0⟩:=zeroG_ne hrs hz
 let y1:=(jM (kH.mk (jV (mnL (p / r) [(p / s),(q / r),(q / s)])) (jV (mxL (p / r) [(p / s),(q / r),(q / s)]))))
 refine vA Tryz.func175 ?_
 refine jB<|kx [(2,(.ref 0 0)),(3,(.ref 1 0)),(4,(.ref 2 0))] [(0,some (bx (jM (kH.mk (jV p) (jV q))))),(1,some (bx (jM (kH.mk (jV r) (jV s))))),(2,some (bx (jM (kH.mk vQ vQ))))] (zN (xH 0)<|zN (xH 1)<|zN (vT 2 vX xA)<|zM<|zZ) ?_
 refine jB<|jB<|kx [(11,(vb false))] [] (zR (kV kM)<|zR (kV kM)<|zE (oBs mT vX xA)<|zE (kF (by have h:=i_valids [(kH.mk (jV p) (jV q)),(kH.mk (jV r) (jV s))] (List.forall_mem_cons.2 ⟨(mB (⟨qS (kE (kI hp) (by decide:1073741824<=1073741824)),qS (kE (kI hq) (by decide:1073741824<=1073741824))⟩)),(List.forall_mem_cons.2 ⟨(mB (⟨qS (kE (kI hr) (by decide:1073741824<=1073741824)),qS (kE (kI hs) (by decide:1073741824<=1073741824))⟩)),(fun a h=>by cases h)⟩)⟩) (by simp);rw[show List.all [(kH.mk (jV p) (jV q)),(kH.mk (jV r) (jV s))] xI=true from by simp [gM hpq,gM hrs]] at h;exact h))<|zE oNt<|zZ) ?_
 refine vH ?_
 refine jH<|jB<|jB<|kx [(14,(vb false))] [] (zR (kV kM)<|zE (kF (by have h:=i_zero r s hr hs;rw[show nH r s=false from hz] at h;exact h))<|zZ) ?_
 refine vH ?_
 refine jH<|jB<|kx [(6,(.d (.val (.func (.func 202) #[] #[]))))] [] (zM<|zZ) ?_
 refine jB<|kx [(5,(kJ 0))] [(2,some (bx y1))] (zM<|zR (kV kM)<|zR (kV kM)<|zE (kF (i_cornersD p q r s hp hq hr hs (by assumption) (by assumption)))<|zT (qU kM)<|zM<|zZ) ?_
 refine jE ⟨_,(kS (cs:=(bx y1)) (d:=y1) rfl rfl kM rfl rfl (.tmp (d:=(.val (.int .i64 (0)))) rfl .nil)),?_⟩
 rfl
theorem i_square(p q:Rat)(hp:QL p 1073741824)(hq:QL q 1073741824)(hpq:p<=q):jS Tryz.prog 174 [(jM (kH.mk (jV p) (jV q)))] (.tup [(jM (kH.mk (jV (sqL p q)) (jV (sqH p q)))),(.val (.int .i64 (0)))]):=by
 let y2:=(jM (kH.mk (jV ((0:Int):Rat)) (jV (mxL (p*p) [(q*q)]))))
 let y1:=(jM (kH.mk (jV (mnL (p*p) [(q*q)])) (jV (mxL (p*p) [(q*q)]))))
 refine vA Tryz.func174 ?_
 refine jB<|kx [(1,(.ref 0 0)),(2,(.ref 1 0))] [(0,some (bx (jM (kH.mk (jV p) (jV q))))),(1,some (bx (jM (kH.mk vQ vQ))))] (zN (xH 0)<|zN (vT 1 vX xA)<|zM<|zZ) ?_
 refine jB<|jB<|kx [(7,(vb false))] [] (zR (kV kM)<|zE (kF (by have h:=i_valid (kH.mk (jV p) (jV q)) (mB (⟨qS (kE (kI hp) (by decide:1073741824<=1073741824)),qS (kE (kI hq) (by decide:1073741824<=1073741824))⟩));rw[show xI (kH.mk (jV p) (jV q))=true from gM hpq] at h;exact h))<|zE oNt<|zZ) ?_
 refine vH ?_
 refine jH<|jB<|kd [(4,(.ref 2 0))] [(2,some (bx y1))] mo (wE (kL xV)<|wR (kV kA)<|wE (kL xV)<|wR (kV kA)<|wE (kF (f_mul (jV p) (jV p) p p (kE (kI hp)) (kE (kI hp))))<|wE (kL xP)<|wR (kV kA)<|wE (kL xP)<|wR (kV kA)<|wE (kF (f_mul (jV q) (jV q) q q (kE (kI hq)) (kE (kI hq))))<|wE (oBs gN yJ yO)<|wE (kF (i_spanned (p*p) [(q*q)] (vB (mM (k:=2147483648) hp hp)) (List.forall_mem_cons.2 ⟨(vB (mM (k:=2147483648) hq hq)),(fun a h=>by cases h)⟩) (by simp)))<|wN (vT 2 vX xA)<|wT (qU kM)<|wZ) ?_
 refine jB<|jB<|kx [(22,(vb (nH p q)))] [] (zR (kV kM)<|zE (kF (i_zero p q hp hq))<|zZ) ?_
 refine jF (b:=(nH p q)) rfl (fun h1=>?_) (fun h1=>?_)
 ·refine kx [] [(2,some (bx y2))] (zE (kF (eH 0))<|zE (kL xV)<|zT (qU kA)<|zZ) ?_
  refine jB<|kx [(3,(kJ 0))] [(1,some (bx y2))] (zR (kV kM)<|zT (qU kM)<|zM<|zZ) ?_
  refine jE ⟨_,(kS (cs:=(bx y2)) (d:=y2) rfl rfl kM rfl rfl (.tmp (d:=(.val (.int .i64 (0)))) rfl .nil)),?_⟩
  rw[show sqL p q=_ from if_pos h1];rfl
 ·refine jH<|jB<|kx [(3,(kJ 0))] [(1,some (bx y1))] (zR (kV kM)<|zT (qU kM)<|zM<|zZ) ?_
  refine jE ⟨_,(kS (cs:=(bx y1)) (d:=y1) rfl rfl kM rfl rfl (.tmp (d:=(.val (.int .i64 (0)))) rfl .nil)),?_⟩
  rw[show sqL p q=_ from if_neg (by rw[h1];simp)];rfl
theorem h_whole(lo hi:Int)(h1:-9223372036854775808<=lo:=by decide)(h2:lo<=9223372036854775807:=by decide)(h3:-9223372036854775808<=hi:=by decide)(h4:hi<=9223372036854775807:=by decide):jS Tryz.prog 30 [(.val (.int .i64 (lo))),(.val (.int .i64 (hi)))] (jM (kH.mk (jV ((lo:Int):Rat)) (jV ((hi:Int):Rat)))):=by
 refine vA Tryz.func30 ?_
 refine jB<|kx [(4,(.ref 0 0))] [(0,some (bx (jM (kH.mk vQ vQ))))] (zN (vT 0 vX xA)<|zZ) ?_
 refine jB<|kx [] [(0,some (bx (jM (kH.mk (jV ((lo:Int):Rat)) (jV ((hi:Int):Rat))))))] (zM<|zE (kF (g_whole lo (by omega) (by omega)))<|zM<|zE (kF (g_whole hi (by omega) (by omega)))<|zE (oBd pl42 vX xA)<|zT (qU kM)<|zZ) ?_
 refine jE ⟨_,(kS (cs:=(bx (jM (kH.mk (jV ((lo:Int):Rat)) (jV ((hi:Int):Rat)))))) (d:=(jM (kH.mk (jV ((lo:Int):Rat)) (jV ((hi:Int):Rat))))) rfl rfl kM rfl rfl .nil),?_⟩
 rfl
theorem h_same(a b:kH)(ha:GOk 4294967296 a)(hb:GOk 4294967296 b):jS Tryz.prog 43 [(jM a),(jM b)] (.val (.bool ((sameG a b)))):=by
 refine vA Tryz.func43 ?_
 refine jB<|kx [(2,(.ref 0 0)),(3,(.ref 1 0))] [(0,some (bx (jM a))),(1,some (bx (jM b)))] (zN (xH 0)<|zN (xH 1)<|zM<|zZ) ?_
 refine jB<|kx [(4,(vb (((xI a)&&(xI b))&&(mQ a.lo b.lo&&mQ a.hi b.hi))))] [] ?_ ?_
 ·refine zR (kV kM)<|zE (kF (h_valid a ha))<|zE (oV (vb (xI a)) (qE (by kernel_rfl)))<|?_
  rcases hb1:(xI a) with _ | _
  ·exact zK<|zK<|zE gG<|zM<|zK<|zK<|zK<|zE gG<|zM<|zZ
  ·refine zR (kV kM)<|zE (kF (h_valid b hb))<|zE dZ<|zE (oV (vb (true&&(xI b))) (qE (by kernel_rfl)))<|?_
   rcases hb2:(true&&(xI b)) with _ | _
   ·exact zK<|zK<|zK<|zE gG<|zM<|zZ
   ·exact zR (kV kM)<|zR (kV kM)<|zE (kF (g_samerange a b ha hb))<|zE dZ<|zM<|zZ
 refine jE ⟨_,(.tmp (d:=(.val (.bool ((((xI a)&&(xI b))&&(mQ a.lo b.lo&&mQ a.hi b.hi)))))) rfl .nil),?_⟩
 rfl
theorem i_add(p q r s:Rat)(hp:QL p 1073741824)(hq:QL q 1073741824)(hr:QL r 1073741824)(hs:QL s 1073741824)(hpq:p<=q)(hrs:r<=s):jS Tryz.prog 171 [(jM (kH.mk (jV p) (jV q))),(jM (kH.mk (jV r) (jV s)))] (.tup [(jM (kH.mk (jV (p+r)) (jV (q+s)))),(.val (.int .i64 (0)))]):=by
 refine vA Tryz.func171 ?_
 refine jB<|kx [(2,(.ref 0 0)),(3,(.ref 1 0)),(4,(.ref 2 0))] [(0,some (bx (jM (kH.mk (jV p) (jV q))))),(1,some (bx (jM (kH.mk (jV r) (jV s))))),(2,some (bx (jM (kH.mk vQ vQ))))] (zN (xH 0)<|zN (xH 1)<|zN (vT 2 vX xA)<|zM<|zZ) ?_
 refine jB<|jB<|kx [(10,(vb false))] [] (zR (kV kM)<|zR (kV kM)<|zE (oBs mT vX xA)<|zE (kF (by have h:=i_valids [(kH.mk (jV p) (jV q)),(kH.mk (jV r) (jV s))] (List.forall_mem_cons.2 ⟨(mB (⟨qS (kE (kI hp) (by decide:1073741824<=1073741824)),qS (kE (kI hq) (by decide:1073741824<=1073741824))⟩)),(List.forall_mem_cons.2 ⟨(mB (⟨qS (kE (kI hr) (by decide:1073741824<=1073741824)),qS (kE (kI hs) (by decide:1073741824<=1073741824))⟩)),(fun a h=>by cases h)⟩)⟩) (by simp);rw[show List.all [(kH.mk (jV p) (jV q)),(kH.mk (jV r) (jV s))] xI=true from by simp [gM hpq,gM hrs]] at h;exact h))<|zE oNt<|zZ) ?_
 refine vH ?_
 refine jH<|jB<|kd [(5,(kJ 0))] [(2,some (bx (jM (kH.mk (jV (p+r)) (jV (q+s))))))] mo (wE (kL xV)<|wR (kV kA)<|wE (kL xV)<|wR (kV kA)<|wE (kF (f_add (jV p) (jV r) p r (kE (kI hp)) (kE (kI hr))))<|wE (kL xP)<|wR (kV kA)<|wE (kL xP)<|wR (kV kA)<|wE (kF (f_add (jV q) (jV s) q s (kE (kI hq)) (kE (kI hs))))<|wE (oBd pl42 vX xA)<|wT (qU kM)<|wM<|wZ) ?_
 refine jE ⟨_,(kS (cs:=(bx (jM (kH.mk (jV (p+r)) (jV (q+s)))))) (d:=(jM (kH.mk (jV (p+r)) (jV (q+s))))) rfl rfl kM rfl rfl (.tmp (d:=(.val (.int .i64 (0)))) rfl .nil)),?_⟩
 rfl
theorem i_sub(p q r s:Rat)(hp:QL p 1073741824)(hq:QL q 1073741824)(hr:QL r 1073741824)(hs:QL s 1073741824)(hpq:p<=q)(hrs:r<=s):jS Tryz.prog 172 [(jM (kH.mk (jV p) (jV q))),(jM (kH.mk (jV r) (jV s)))] (.tup [(jM (kH.mk (jV (p-s)) (jV (q-r)))),(.val (.int .i64 (0)))]):=by
 refine vA Tryz.func172 ?_
 refine jB<|kx [(2,(.ref 0 0)),(3,(.ref 1 0)),(4,(.ref 2 0))] [(0,some (bx (jM (kH.mk (jV p) (jV q))))),(1,some (bx (jM (kH.mk (jV r) (jV s))))),(2,some (bx (jM (kH.mk vQ vQ))))] (zN (xH 0)<|zN (xH 1)<|zN (vT 2 vX xA)<|zM<|zZ) ?_
 refine jB<|jB<|kx [(10,(vb false))] [] (zR (kV kM)<|zR (kV kM)<|zE (oBs mT vX xA)<|zE (kF (by have h:=i_valids [(kH.mk (jV p) (jV q)),(kH.mk (jV r) (jV s))] (List.forall_mem_cons.2 ⟨(mB (⟨qS (kE (kI hp) (by decide:1073741824<=1073741824)),qS (kE (kI hq) (by decide:1073741824<=1073741824))⟩)),(List.forall_mem_cons.2 ⟨(mB (⟨qS (kE (kI hr) (by decide:1073741824<=1073741824)),qS (kE (kI hs) (by decide:1073741824<=1073741824))⟩)),(fun a h=>by cases h)⟩)⟩) (by simp);rw[show List.all [(kH.mk (jV p) (jV q)),(kH.mk (jV r) (jV s))] xI=true from by simp [gM hpq,gM hrs]] at h;exact h))<|zE oNt<|zZ) ?_
 refine vH ?_
 refine jH<|jB<|kd [(5,(kJ 0))] [(2,some (bx (jM (kH.mk (jV (p-s)) (jV (q-r))))))] mo (wE (kL xV)<|wR (kV kA)<|wE (kL xP)<|wR (kV kA)<|wE (kF (f_sub (jV p) (jV s) p s (kE (kI hp)) (kE (kI hs))))<|wE (kL xP)<|wR (kV kA)<|wE (kL xV)<|wR (kV kA)<|wE (kF (f_sub (jV q) (jV r) q r (kE (kI hq)) (kE (kI hr))))<|wE (oBd pl42 vX xA)<|wT (qU kM)<|wM<|wZ) ?_
 refine jE ⟨_,(kS (cs:=(bx (jM (kH.mk (jV (p-s)) (jV (q-r)))))) (d:=(jM (kH.mk (jV (p-s)) (jV (q-r))))) rfl rfl kM rfl rfl (.tmp (d:=(.val (.int .i64 (0)))) rfl .nil)),?_⟩
 rfl
theorem by32:xE Tryz.prog 32=some 64:=by kernel_rfl
theorem g_zero(x:qJ)(p:Rat)(hx:nZ x p 140737488355328):jS Tryz.prog 13 [(jQ x)] (.val (.bool ((zeroR x)))):=by
 have h1:=hx.n1
 have h2:=hx.n2
 refine vA Tryz.func13 ?_
 refine jB<|kx [(1,(.ref 0 0))] [(0,some (bx (jQ x)))] (zN (xH 0)<|zM<|zZ) ?_
 refine jB<|kx [(2,(vb (((!x.num.neg&&!x.den.neg)&&(((x.num.gs.length:Nat):Int) == 0))&&(((x.den.gs.length:Nat):Int) == 0))))] [] ?_ ?_
 ·refine zE (kL xT)<|zE (kL uT)<|zR (qK eK)<|zE oNt<|zE (oV (vb (!x.num.neg)) (qE (by kernel_rfl)))<|?_
  rcases hb1:(!x.num.neg) with _ | _
  ·exact zK<|zK<|zK<|zK<|zE gG<|zM<|zK<|zK<|zK<|zK<|zK<|zE gG<|zM<|zK<|zK<|zK<|zK<|zK<|zE gG<|zM<|zZ
  ·refine zE (kL vO)<|zE (kL uT)<|zR (qK eK)<|zE oNt<|zE dZ<|zE (oV (vb (true&&!x.den.neg)) (qE (by kernel_rfl)))<|?_
   rcases hb2:(true&&!x.den.neg) with _ | _
   ·exact zK<|zK<|zK<|zK<|zK<|zE gG<|zM<|zK<|zK<|zK<|zK<|zK<|zE gG<|zM<|zZ
   ·refine zE (kL xT)<|zE (kL uX)<|zR (qK xN)<|zE (yD kB)<|zE yA<|zE dZ<|zE (oV (vb (true&&(((x.num.gs.length:Nat):Int) == 0))) (qE (by kernel_rfl)))<|?_
    rcases hb3:(true&&(((x.num.gs.length:Nat):Int) == 0)) with _ | _
    ·exact zK<|zK<|zK<|zK<|zK<|zE gG<|zM<|zZ
    ·exact zE (kL vO)<|zE (kL uX)<|zR (qK xN)<|zE (yD kB)<|zE yA<|zE dZ<|zM<|zZ
 refine jE ⟨_,(.tmp (d:=(.val (.bool ((((!x.num.neg&&!x.den.neg)&&(((x.num.gs.length:Nat):Int) == 0))&&(((x.den.gs.length:Nat):Int) == 0)))))) rfl .nil),?_⟩
 rfl
theorem xC(h107:107≠1000000)(x:kH):zP 1000000 (jM x):=.agg (cK (.val _) (cK (avo_vals h107 _) (cK (.val _) (cK (avo_vals h107 _) (cK (.val _) (cK (avo_vals h107 _) (cK (.val _) (cK (avo_vals h107 _) avo_nil))))))))
abbrev yQ (n k:Nat) (L:List JV) (b:Bool):List SV:=[(kJ n),(kJ 1),(vi (-1)),(.own k 46 10 ((List.map uL L).length)),(vb b)]
abbrev yT (L:List JV):List SV:=qL jN (List.map uL L)
abbrev mcA (n:Nat) (x:jP) (b:Bool):jP:=.agg [(.val (.int .i64 ((n:Nat):Int))),(.val (.int .i64 ((1:Nat):Int))),(.val (.int .i64 (-1))),x,(.val (.bool b))]
theorem gl_ite{c:Prop}[Decidable c]{a b:R2}{n:Nat}(ha:GL n a)(hb:GL n b):GL n (if c then a else b):=by
 split
 ·exact ha
 ·exact hb
theorem j_whole(z:Int)(hz1:-9223372036854775808<=z)(hz2:z<=9223372036854775807):jS Tryz.prog 120 [(.val (.int .i64 (z)))] (jM (qF (gw z))):=by
 refine vA Tryz.func120 ?_
 refine jB<|kx [(2,(.ref 0 0))] [(0,some (bx (jM (kH.mk vQ vQ))))] (zN (vT 0 vX xA)<|zZ) ?_
 refine jB<|kx [] [(0,some (bx (jM (kH.mk (jV ((z:Int):Rat)) (jV ((z:Int):Rat))))))] (zM<|zE (kF (eH z (by omega) (by omega)))<|zM<|zE (kF (eH z (by omega) (by omega)))<|zE (oBd pl42 vX xA)<|zT (qU kM)<|zZ) ?_
 refine jE ⟨_,(kS (cs:=(bx (jM (kH.mk (jV ((z:Int):Rat)) (jV ((z:Int):Rat)))))) (d:=(jM (kH.mk (jV ((z:Int):Rat)) (jV ((z:Int):Rat))))) rfl rfl kM rfl rfl .nil),?_⟩
 rfl
theorem j_add(a:R2)(ha:GL 67108864 a)(b:R2)(hb:GL 67108864 b):jS Tryz.prog 131 [(jM (qF a)),(jM (qF b))] (jM (qF (yW a b))):=by
 refine vA Tryz.func131 ?_
 refine jB<|kx [(2,(.ref 0 0)),(3,(.ref 1 0)),(4,(.ref 2 0))] [(0,some (bx (jM (qF a)))),(1,some (bx (jM (qF b)))),(2,some (bx (jM (kH.mk vQ vQ))))] (zN (xH 0)<|zN (xH 1)<|zN (vT 2 vX xA)<|zZ) ?_
 refine jB<|kx [(5,(.ref 3 0))] [(3,some (bx (jM (kH.mk (jV (a.1+b.1)) (jV (a.2+b.2))))))] (zR (kV kM)<|zR (kV kM)<|zE (kF (i_add a.1 a.2 b.1 b.2 (vB ha.1) (vB ha.2.1) (vB hb.1) (vB hb.2.1) ha.2.2 hb.2.2))<|zM<|zE yM<|zE yM<|zN (vT 3 vX xA)<|zT (qU kM)<|zM<|zZ) ?_
 refine jB<|kx [] [(2,some (bx (jM (kH.mk (jV (a.1+b.1)) (jV (a.2+b.2))))))] (zR (kV kM)<|zT (qU kM)<|zZ) ?_
 refine jE ⟨_,(kS (cs:=(bx (jM (kH.mk (jV (a.1+b.1)) (jV (a.2+b.2)))))) (d:=(jM (kH.mk (jV (a.1+b.1)) (jV (a.2+b.2))))) rfl rfl kM rfl rfl .nil),?_⟩
 rfl
theorem j_sub(a:R2)(ha:GL 67108864 a)(b:R2)(hb:GL 67108864 b):jS Tryz.prog 132 [(jM (qF a)),(jM (qF b))] (jM (qF (uC a b))):=by
 refine vA Tryz.func132 ?_
 refine jB<|kx [(2,(.ref 0 0)),(3,(.ref 1 0)),(4,(.ref 2 0))] [(0,some (bx (jM (qF a)))),(1,some (bx (jM (qF b)))),(2,some (bx (jM (kH.mk vQ vQ))))] (zN (xH 0)<|zN (xH 1)<|zN (vT 2 vX xA)<|zZ) ?_
 refine jB<|kx [(5,(.ref 3 0))] [(3,some (bx (jM (kH.mk (jV (a.1-b.2)) (jV (a.2-b.1))))))] (zR (kV kM)<|zR (kV kM)<|zE (kF (i_sub a.1 a.2 b.1 b.2 (vB ha.1) (vB ha.2.1) (vB hb.1) (vB hb.2.1) ha.2.2 hb.2.2))<|zM<|zE yM<|zE yM<|zN (vT 3 vX xA)<|zT (qU kM)<|zM<|zZ) ?_
 refine jB<|kx [] [(2,some (bx (jM (kH.mk (jV (a.1-b.2)) (jV (a.2-b.1))))))] (zR (kV kM)<|zT (qU kM)<|zZ) ?_
 refine jE ⟨_,(kS (cs:=(bx (jM (kH.mk (jV (a.1-b.2)) (jV (a.2-b.1)))))) (d:=(jM (kH.mk (jV (a.1-b.2)) (jV (a.2-b.1))))) rfl rfl kM rfl rfl .nil),?_⟩
 rfl
theorem j_mul(a:R2)(ha:GL 67108864 a)(b:R2)(hb:GL 67108864 b):jS Tryz.prog 135 [(jM (qF a)),(jM (qF b))] (jM (qF (vI a b))):=by
 let y1:=(bx (jM (kH.mk (jV (mnL (a.1*b.1) [(a.1*b.2),(a.2*b.1),(a.2*b.2)])) (jV (mxL (a.1*b.1) [(a.1*b.2),(a.2*b.1),(a.2*b.2)])))))
 refine vA Tryz.func135 ?_
 refine jB<|kx [(2,(.ref 0 0)),(3,(.ref 1 0)),(4,(.ref 2 0))] [(0,some (bx (jM (qF a)))),(1,some (bx (jM (qF b)))),(2,some (bx (jM (kH.mk vQ vQ))))] (zN (xH 0)<|zN (xH 1)<|zN (vT 2 vX xA)<|zZ) ?_
 refine jB<|kx [(5,(.ref 3 0))] [(3,some y1)] (zR (kV kM)<|zR (kV kM)<|zE (kF (i_mul a.1 a.2 b.1 b.2 (vB ha.1) (vB ha.2.1) (vB hb.1) (vB hb.2.1) ha.2.2 hb.2.2))<|zM<|zE yM<|zE yM<|zN (vT 3 vX xA)<|zT (qU kM)<|zM<|zZ) ?_
 refine jB<|kx [] [(2,some y1)] (zR (kV kM)<|zT (qU kM)<|zZ) ?_
 refine jE ⟨_,(kS (cs:=y1) (d:=(jM (kH.mk (jV (mnL (a.1*b.1) [(a.1*b.2),(a.2*b.1),(a.2*b.2)])) (jV (mxL (a.1*b.1) [(a.1*b.2),(a.2*b.1),(a.2*b.2)]))))) rfl rfl kM rfl rfl .nil),?_⟩
 rfl
theorem j_sq(a:R2)(ha:GL 67108864 a):jS Tryz.prog 139 [(jM (qF a))] (jM (qF (gsq a))):=by
 refine vA Tryz.func139 ?_
 refine jB<|kx [(1,(.ref 0 0)),(2,(.ref 1 0))] [(0,some (bx (jM (qF a)))),(1,some (bx (jM (kH.mk vQ vQ))))] (zN (xH 0)<|zN (vT 1 vX xA)<|zZ) ?_
 refine jB<|kx [(3,(.ref 2 0))] [(2,some (bx (jM (kH.mk (jV (sqL a.1 a.2)) (jV (sqH a.1 a.2))))))] (zR (kV kM)<|zE (kF (i_square a.1 a.2 (vB ha.1) (vB ha.2.1) ha.2.2))<|zM<|zE yM<|zE yM<|zN (vT 2 vX xA)<|zT (qU kM)<|zM<|zZ) ?_
 refine jB<|kx [] [(1,some (bx (jM (kH.mk (jV (sqL a.1 a.2)) (jV (sqH a.1 a.2))))))] (zR (kV kM)<|zT (qU kM)<|zZ) ?_
 refine jE ⟨_,(kS (cs:=(bx (jM (kH.mk (jV (sqL a.1 a.2)) (jV (sqH a.1 a.2)))))) (d:=(jM (kH.mk (jV (sqL a.1 a.2)) (jV (sqH a.1 a.2))))) rfl rfl kM rfl rfl .nil),?_⟩
 rfl
theorem j_kids(o:Int):jS Tryz.prog 111 [(.val (.int .i64 (o)))] (.val (.int .i64 ((qW o)))):=by
 refine vA Tryz.func111 ?_
 refine jB<|kx [] [] (zM<|zZ) ?_
 refine jB<|jB<|kx [(3,(vi o))] [] (zM<|zZ) ?_
 refine jL<|jB<|jB<|kx [(4,(vb (o == 0)))] [] (zE yA<|zM<|zZ) ?_
 refine jF (b:=(o == 0)) rfl (fun h1=>?_) (fun h1=>?_)
 ·replace h1:=eq_of_beq h1
  refine jH<|jF rfl (fun _=>?_) (fun h=>absurd (Eq.trans (Eq.symm (show ((o == 0))=true from beq_iff_eq.2 h1)) h) (by decide))
  refine jB<|kx [(2,(kJ 0))] [] (zM<|zZ) ?_
  refine jE ⟨_,(.tmp (d:=(.val (.int .i64 (0)))) rfl .nil),?_⟩
  show jP.val (.int .i64 _)=_
  unfold qW;simp [*]
 ·replace h1:=ne_of_beq_false h1
  refine kx [(4,(vb (o == 1)))] [] (zE yA<|zM<|zZ) ?_
  refine jF (b:=(o == 1)) rfl (fun h2=>?_) (fun h2=>?_)
  ·replace h2:=eq_of_beq h2
   refine jB<|kx [(2,(kJ 0))] [] (zM<|zZ) ?_
   refine jE ⟨_,(.tmp (d:=(.val (.int .i64 (0)))) rfl .nil),?_⟩
   show jP.val (.int .i64 _)=_
   unfold qW;simp [*]
  ·replace h2:=ne_of_beq_false h2
   refine jB<|jB<|kx [(7,(vb (o == 6)))] [] (zE yA<|zM<|zZ) ?_
   refine jF (b:=(o == 6)) rfl (fun h3=>?_) (fun h3=>?_)
   ·replace h3:=eq_of_beq h3
    refine jH<|jF rfl (fun _=>?_) (fun h=>absurd (Eq.trans (Eq.symm (show ((o == 6))=true from beq_iff_eq.2 h3)) h) (by decide))
    refine jB<|kx [(2,(kJ 1))] [] (zM<|zZ) ?_
    refine jE ⟨_,(.tmp (d:=(.val (.int .i64 (1)))) rfl .nil),?_⟩
    show jP.val (.int .i64 _)=_
    unfold qW;simp [*]
   ·replace h3:=ne_of_beq_false h3
    refine kx [(7,(vb (o == 7)))] [] (zE yA<|zM<|zZ) ?_
    refine jF (b:=(o == 7)) rfl (fun h4=>?_) (fun h4=>?_)
    ·replace h4:=eq_of_beq h4
     refine jB<|kx [(2,(kJ 1))] [] (zM<|zZ) ?_
     refine jE ⟨_,(.tmp (d:=(.val (.int .i64 (1)))) rfl .nil),?_⟩
     show jP.val (.int .i64 _)=_
     unfold qW;simp [*]
    ·replace h4:=ne_of_beq_false h4
     refine jB<|jB<|kx [(10,(vb (o == 2)))] [] (zE yA<|zM<|zZ) ?_
     refine jF (b:=(o == 2)) rfl (fun h5=>?_) (fun h5=>?_)
     ·replace h5:=eq_of_beq h5
      refine jH<|jF rfl (fun _=>?_) (fun h=>absurd (Eq.trans (Eq.symm (show ((o == 2))=true from beq_iff_eq.2 h5)) h) (by decide))
      refine jB<|kx [(2,(kJ 2))] [] (zM<|zZ) ?_
      refine jE ⟨_,(.tmp (d:=(.val (.int .i64 (2)))) rfl .nil),?_⟩
      show jP.val (.int .i64 _)=_
      unfold qW;simp [*]
     ·replace h5:=ne_of_beq_false h5
      refine jB<|kx [(10,(vb (o == 3)))] [] (zE yA<|zM<|zZ) ?_
      refine jF (b:=(o == 3)) rfl (fun h6=>?_) (fun h6=>?_)
      ·replace h6:=eq_of_beq h6
       refine jH<|jF rfl (fun _=>?_) (fun h=>absurd (Eq.trans (Eq.symm (show ((o == 3))=true from beq_iff_eq.2 h6)) h) (by decide))
       refine jB<|kx [(2,(kJ 2))] [] (zM<|zZ) ?_
       refine jE ⟨_,(.tmp (d:=(.val (.int .i64 (2)))) rfl .nil),?_⟩
       show jP.val (.int .i64 _)=_
       unfold qW;simp [*]
      ·replace h6:=ne_of_beq_false h6
       refine jB<|kx [(10,(vb (o == 4)))] [] (zE yA<|zM<|zZ) ?_
       refine jF (b:=(o == 4)) rfl (fun h7=>?_) (fun h7=>?_)
       ·replace h7:=eq_of_beq h7
        refine jH<|jF rfl (fun _=>?_) (fun h=>absurd (Eq.trans (Eq.symm (show ((o == 4))=true from beq_iff_eq.2 h7)) h) (by decide))
        refine jB<|kx [(2,(kJ 2))] [] (zM<|zZ) ?_
        refine jE ⟨_,(.tmp (d:=(.val (.int .i64 (2)))) rfl .nil),?_⟩
        show jP.val (.int .i64 _)=_
        unfold qW;simp [*]
       ·replace h7:=ne_of_beq_false h7
        refine kx [(10,(vb (o == 5)))] [] (zE yA<|zM<|zZ) ?_
        refine jF (b:=(o == 5)) rfl (fun h8=>?_) (fun h8=>?_)
        ·replace h8:=eq_of_beq h8
         refine jB<|kx [(2,(kJ 2))] [] (zM<|zZ) ?_
         refine jE ⟨_,(.tmp (d:=(.val (.int .i64 (2)))) rfl .nil),?_⟩
         show jP.val (.int .i64 _)=_
         unfold qW;simp [*]
        ·replace h8:=ne_of_beq_false h8
         refine jH<|jB<|kx [(2,(vi (-1)))] [] (zM<|zZ) ?_
         refine jE ⟨_,(.tmp (d:=(.val (.int .i64 (-1)))) rfl .nil),?_⟩
         show jP.val (.int .i64 _)=_
         unfold qW;simp [*]
theorem r_kids(o:Int):jS Tryz.prog 55 [(.val (.int .i64 (o)))] (.val (.int .i64 ((qW o)))):=by
 refine vA Tryz.func55 ?_
 refine jB<|kx [] [] (zM<|zZ) ?_
 refine jB<|jB<|kx [(3,(vi o))] [] (zM<|zZ) ?_
 refine jL<|jB<|jB<|kx [(4,(vb (o == 0)))] [] (zE yA<|zM<|zZ) ?_
 refine jF (b:=(o == 0)) rfl (fun h1=>?_) (fun h1=>?_)
 ·replace h1:=eq_of_beq h1
  refine jH<|jF rfl (fun _=>?_) (fun h=>absurd (Eq.trans (Eq.symm (show ((o == 0))=true from beq_iff_eq.2 h1)) h) (by decide))
  refine jB<|kx [(2,(kJ 0))] [] (zM<|zZ) ?_
  refine jE ⟨_,(.tmp (d:=(.val (.int .i64 (0)))) rfl .nil),?_⟩
  show jP.val (.int .i64 _)=_
  unfold qW;simp [*]
 ·replace h1:=ne_of_beq_false h1
  refine kx [(4,(vb (o == 1)))] [] (zE yA<|zM<|zZ) ?_
  refine jF (b:=(o == 1)) rfl (fun h2=>?_) (fun h2=>?_)
  ·replace h2:=eq_of_beq h2
   refine jB<|kx [(2,(kJ 0))] [] (zM<|zZ) ?_
   refine jE ⟨_,(.tmp (d:=(.val (.int .i64 (0)))) rfl .nil),?_⟩
   show jP.val (.int .i64 _)=_
   unfold qW;simp [*]
  ·replace h2:=ne_of_beq_false h2
   refine jB<|jB<|kx [(7,(vb (o == 6)))] [] (zE yA<|zM<|zZ) ?_
   refine jF (b:=(o == 6)) rfl (fun h3=>?_) (fun h3=>?_)
   ·replace h3:=eq_of_beq h3
    refine jH<|jF rfl (fun _=>?_) (fun h=>absurd (Eq.trans (Eq.symm (show ((o == 6))=true from beq_iff_eq.2 h3)) h) (by decide))
    refine jB<|kx [(2,(kJ 1))] [] (zM<|zZ) ?_
    refine jE ⟨_,(.tmp (d:=(.val (.int .i64 (1)))) rfl .nil),?_⟩
    show jP.val (.int .i64 _)=_
    unfold qW;simp [*]
   ·replace h3:=ne_of_beq_false h3
    refine kx [(7,(vb (o == 7)))] [] (zE yA<|zM<|zZ) ?_
    refine jF (b:=(o == 7)) rfl (fun h4=>?_) (fun h4=>?_)
    ·replace h4:=eq_of_beq h4
     refine jB<|kx [(2,(kJ 1))] [] (zM<|zZ) ?_
     refine jE ⟨_,(.tmp (d:=(.val (.int .i64 (1)))) rfl .nil),?_⟩
     show jP.val (.int .i64 _)=_
     unfold qW;simp [*]
    ·replace h4:=ne_of_beq_false h4
     refine jB<|jB<|kx [(10,(vb (o == 2)))] [] (zE yA<|zM<|zZ) ?_
     refine jF (b:=(o == 2)) rfl (fun h5=>?_) (fun h5=>?_)
     ·replace h5:=eq_of_beq h5
      refine jH<|jF rfl (fun _=>?_) (fun h=>absurd (Eq.trans (Eq.symm (show ((o == 2))=true from beq_iff_eq.2 h5)) h) (by decide))
      refine jB<|kx [(2,(kJ 2))] [] (zM<|zZ) ?_
      refine jE ⟨_,(.tmp (d:=(.val (.int .i64 (2)))) rfl .nil),?_⟩
      show jP.val (.int .i64 _)=_
      unfold qW;simp [*]
     ·replace h5:=ne_of_beq_false h5
      refine jB<|kx [(10,(vb (o == 3)))] [] (zE yA<|zM<|zZ) ?_
      refine jF (b:=(o == 3)) rfl (fun h6=>?_) (fun h6=>?_)
      ·replace h6:=eq_of_beq h6
       refine jH<|jF rfl (fun _=>?_) (fun h=>absurd (Eq.trans (Eq.symm (show ((o == 3))=true from beq_iff_eq.2 h6)) h) (by decide))
       refine jB<|kx [(2,(kJ 2))] [] (zM<|zZ) ?_
       refine jE ⟨_,(.tmp (d:=(.val (.int .i64 (2)))) rfl .nil),?_⟩
       show jP.val (.int .i64 _)=_
       unfold qW;simp [*]
      ·replace h6:=ne_of_beq_false h6
       refine jB<|kx [(10,(vb (o == 4)))] [] (zE yA<|zM<|zZ) ?_
       refine jF (b:=(o == 4)) rfl (fun h7=>?_) (fun h7=>?_)
       ·replace h7:=eq_of_beq h7
        refine jH<|jF rfl (fun _=>?_) (fun h=>absurd (Eq.trans (Eq.symm (show ((o == 4))=true from beq_iff_eq.2 h7)) h) (by decide))
        refine jB<|kx [(2,(kJ 2))] [] (zM<|zZ) ?_
        refine jE ⟨_,(.tmp (d:=(.val (.int .i64 (2)))) rfl .nil),?_⟩
        show jP.val (.int .i64 _)=_
        unfold qW;simp [*]
       ·replace h7:=ne_of_beq_false h7
        refine kx [(10,(vb (o == 5)))] [] (zE yA<|zM<|zZ) ?_
        refine jF (b:=(o == 5)) rfl (fun h8=>?_) (fun h8=>?_)
        ·replace h8:=eq_of_beq h8
         refine jB<|kx [(2,(kJ 2))] [] (zM<|zZ) ?_
         refine jE ⟨_,(.tmp (d:=(.val (.int .i64 (2)))) rfl .nil),?_⟩
         show jP.val (.int .i64 _)=_
         unfold qW;simp [*]
        ·replace h8:=ne_of_beq_false h8
         refine jH<|jB<|kx [(2,(vi (-1)))] [] (zM<|zZ) ?_
         refine jE ⟨_,(.tmp (d:=(.val (.int .i64 (-1)))) rfl .nil),?_⟩
         show jP.val (.int .i64 _)=_
         unfold qW;simp [*]
theorem dJ{L:List JV}{N n a:Nat}(h:∀ x∈L,nY N n x)(ha:a<L.length):nY N n (L.getD a jz):=by
 rw[List.getD_eq_getElem?_getD,List.getElem?_eq_getElem ha];exact h _ (List.getElem_mem _)
def eQ(N:Nat)(t:List kC):Prop:=∀ x∈t,nZ x.n (xD x.n) N
theorem tn_get{N:Nat}{t:List kC}(h:eQ N t){k:Nat}(hk:k<t.length):nZ (t.getD k tz).n (xD (t.getD k tz).n) N:=by
 rw[List.getD_eq_getElem?_getD,List.getElem?_eq_getElem hk];exact h _ (List.getElem_mem _)
theorem tn_up{M N:Nat}{t:List kC}(h:eQ M t)(hm:M<=N:=by decide):eQ N t:=fun x hx=>kE (h x hx) hm
theorem j_unset(x:qJ)(p:Rat)(hx:nZ x p 1048576):jS Tryz.prog 148 [(jQ x)] (.val (.bool ((unsB x)))):=by
 refine vA Tryz.func148 ?_
 refine jB<|kx [(1,(.ref 0 0))] [(0,some (bx (jQ x)))] (zN (xH 0)<|zM<|zZ) ?_
 refine jB<|kx [(2,(vb (((!x.num.neg&&!x.den.neg)&&(((x.num.gs.length:Nat):Int) == 0))&&(((x.den.gs.length:Nat):Int) == 0))))] [] ?_ ?_
 ·refine zE (kL xT)<|zE (kL uT)<|zR (qK eK)<|zE oNt<|zE (oV (vb (!x.num.neg)) (qE (by kernel_rfl)))<|?_
  rcases hb1:(!x.num.neg) with _ | _
  ·exact zK<|zK<|zK<|zK<|zE gG<|zM<|zK<|zK<|zK<|zK<|zK<|zE gG<|zM<|zK<|zK<|zK<|zK<|zK<|zE gG<|zM<|zZ
  ·refine zE (kL vO)<|zE (kL uT)<|zR (qK eK)<|zE oNt<|zE dZ<|zE (oV (vb (true&&!x.den.neg)) (qE (by kernel_rfl)))<|?_
   rcases hb2:(true&&!x.den.neg) with _ | _
   ·exact zK<|zK<|zK<|zK<|zK<|zE gG<|zM<|zK<|zK<|zK<|zK<|zK<|zE gG<|zM<|zZ
   ·refine zE (kL xT)<|zE (kL uX)<|zR (qK xN)<|zE (yD kB)<|zE yA<|zE dZ<|zE (oV (vb (true&&(((x.num.gs.length:Nat):Int) == 0))) (qE (by kernel_rfl)))<|?_
    rcases hb3:(true&&(((x.num.gs.length:Nat):Int) == 0)) with _ | _
    ·exact zK<|zK<|zK<|zK<|zK<|zE gG<|zM<|zZ
    ·exact zE (kL vO)<|zE (kL uX)<|zR (qK xN)<|zE (yD kB)<|zE yA<|zE dZ<|zM<|zZ
 refine jE ⟨_,(.tmp (d:=(.val (.bool ((((!x.num.neg&&!x.den.neg)&&(((x.num.gs.length:Nat):Int) == 0))&&(((x.den.gs.length:Nat):Int) == 0)))))) rfl .nil),?_⟩
 rfl
end Go.Proofs.YtckccjhflbljgaaGreatDoor
