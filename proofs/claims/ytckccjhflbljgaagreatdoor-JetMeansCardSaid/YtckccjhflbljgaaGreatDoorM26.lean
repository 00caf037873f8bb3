/- Part 26 of a proof: rules, plain facts, and functions walked. -/
import Derived.Test.YtckccjhflbljgaaGreatDoorM25
import Derived.Test.YtckccjhflbljgaaGreatDoorM11
import Derived.Test.YtckccjhflbljgaaGreatDoorM12
set_option linter.all false
set_option maxRecDepth 4000
namespace Go.Proofs.YtckccjhflbljgaaGreatDoor
open Go.Fid
theorem xG:uS Tryz.prog 24=some (32,4):=by kernel_rfl
theorem zU:uS Tryz.prog 43=some (42,8):=by kernel_rfl
theorem pl42:dX Tryz.prog 42=some [(0,4),(4,4)]:=by kernel_rfl
theorem kF:kZ Tryz.prog 42=some (true,8):=by kernel_rfl
theorem uK:xB Tryz.prog 42=some [.bool false,.slice none 0 0,.bool false,.slice none 0 0,.bool false,.slice none 0 0,.bool false,.slice none 0 0]:=by kernel_rfl
theorem uO:dR [.bool false,.slice none 0 0,.bool false,.slice none 0 0,.bool false,.slice none 0 0,.bool false,.slice none 0 0] [.val (.bool false),.sl 107 1 [],.val (.bool false),.sl 107 1 [],.val (.bool false),.sl 107 1 [],.val (.bool false),.sl 107 1 []]:=by simp [dR,Value.oneCell']
theorem h_valid(a:jM)(ha:GOk 4294967296 a):jS Tryz.prog 73 [(jG a)] (.val (.bool ((uP a)))):=by
 refine uW Tryz.func73 ?_
 refine jB<|kx [(1,(.ref 0 0))] [(0,some (bx (jG a)))] (zN (vX 0)<|zM<|zZ) ?_
 refine jB<|kx [(2,(vb (((kX a.lo)&&(kX a.hi))&&decide ((gC (xW a.lo) (xW a.hi))<=0))))] [] ?_ ?_
 ·refine zE (kN uX)<|zR (kR jW)<|zE (kB (g_valid a.lo (xW a.lo) (jP ha.1)))<|zE (oV (vb (kX a.lo)) (qA (by kernel_rfl)))<|?_
  rcases hb1:(kX a.lo) with _ | _
  ·exact zK<|zK<|zK<|zE yJ<|zM<|zK<|zK<|zK<|zK<|zK<|zK<|zE yJ<|zM<|zZ
  ·refine zE (kN vP)<|zR (kR jW)<|zE (kB (g_valid a.hi (xW a.hi) (jP ha.2)))<|zE aB<|zE (oV (vb (true&&(kX a.hi))) (qA (by kernel_rfl)))<|?_
   rcases hb2:(true&&(kX a.hi)) with _ | _
   ·exact zK<|zK<|zK<|zK<|zK<|zK<|zE yJ<|zM<|zZ
   ·exact zE (kN uX)<|zR (kR jW)<|zE (kN vP)<|zR (kR jW)<|zE (kB (bO a.lo a.hi (xW a.lo) (xW a.hi) ha.1 ha.2))<|zE oLe<|zE aB<|zM<|zZ
 refine jD ⟨_,(.tmp (d:=(.val (.bool ((((kX a.lo)&&(kX a.hi))&&decide ((gC (xW a.lo) (xW a.hi))<=0)))))) rfl .nil),?_⟩
 rw[validG_eq];rfl
theorem i_valid(a:jM)(ha:GOk 4294967296 a):jS Tryz.prog 76 [(jG a)] (.val (.bool ((uP a)))):=by
 refine uW Tryz.func76 ?_
 refine jB<|kx [(1,(.ref 0 0))] [(0,some (bx (jG a)))] (zN (vX 0)<|zM<|zZ) ?_
 refine jB<|kx [(2,(vb (((kX a.lo)&&(kX a.hi))&&decide ((gC (xW a.lo) (xW a.hi))<=0))))] [] ?_ ?_
 ·refine zE (kN uX)<|zR (kR jW)<|zE (kB (f_valid a.lo (xW a.lo) (jP ha.1)))<|zE (oV (vb (kX a.lo)) (qA (by kernel_rfl)))<|?_
  rcases hb1:(kX a.lo) with _ | _
  ·exact zK<|zK<|zK<|zE yJ<|zM<|zK<|zK<|zK<|zK<|zK<|zK<|zE yJ<|zM<|zZ
  ·refine zE (kN vP)<|zR (kR jW)<|zE (kB (f_valid a.hi (xW a.hi) (jP ha.2)))<|zE aB<|zE (oV (vb (true&&(kX a.hi))) (qA (by kernel_rfl)))<|?_
   rcases hb2:(true&&(kX a.hi)) with _ | _
   ·exact zK<|zK<|zK<|zK<|zK<|zK<|zE yJ<|zM<|zZ
   ·exact zE (kN uX)<|zR (kR jW)<|zE (kN vP)<|zR (kR jW)<|zE (kB (bZ a.lo a.hi (xW a.lo) (xW a.hi) (jP ha.1) (jP ha.2)))<|zE oLe<|zE aB<|zM<|zZ
 refine jD ⟨_,(.tmp (d:=(.val (.bool ((((kX a.lo)&&(kX a.hi))&&decide ((gC (xW a.lo) (xW a.hi))<=0)))))) rfl .nil),?_⟩
 rw[validG_eq];rfl
theorem i_valids(l:List jM)(hl:∀ a∈l,GOk 4294967296 a)(hb:l.length<=1000000):jS Tryz.prog 198 [(.sl 42 8 (List.map jG l))] (.val (.bool ((l.all uP)))):=by
 let y1:=(jM.mk kO kO)
 refine uW Tryz.func198 ?_
 refine jB<|kx [] [] (zM<|zZ) ?_
 refine jB<|jB<|kx [(5,(vl 42 8 jG l)),(6,(jT l.length)),(7,(jT 0))] [] (zM<|zE (yH zU)<|zM<|zZ) ?_
 refine jH<|kQ (α:=Nat) (fun i=>⟨[(5,(vl 42 8 jG l)),(6,(jT l.length)),(7,(jT i))],[]⟩) (fun i=>i<=l.length/\(l.take i).all uP=true) (fun i=>l.length-i) 0 wk ⟨Nat.zero_le _,by simp⟩ ?_
 rintro i ⟨hi,hv⟩
 refine jB<|kx [(8,(vb (decide (((i:Nat):Int)<((l.length:Nat):Int)))))] [] (zE yY<|zZ) ?_
 refine jB<|jF rfl (fun h1=>?_) (fun h1=>?_)
 ·replace h1:=vT h1
  refine jE<|jB<|jH<|jB<|kx [(4,(.ref 0 0))] [(0,some (bx (jG (l.getD i y1))))] (zE (dA zU i y1)<|zE (mT kF)<|zN (uJ 0 uK uO)<|zT (qM kF)<|zZ) ?_
  refine jB<|kx [(13,(vb (!(uP (l.getD i y1)))))] [] (zR (kR kF)<|zE (kB (i_valid (l.getD i y1) (gok_get hl (show i<l.length by omega))))<|zE cC<|zZ) ?_
  refine jF rfl (fun h2=>?_) (fun h2=>?_)
  ·refine jB<|kx [(2,(vb false))] [] (zM<|zZ) ?_
   refine jD ⟨_,(.tmp (d:=(.val (.bool (false)))) rfl .nil),?_⟩
   rw[all_not (f:=uP) (l:=l) (i:=i) (d:=(jM.mk kO kO)) (by omega) (by simpa using h2)];rfl
  ·refine jE<|kx [(7,(jT (i+1)))] [] (zE (xD (i+1))<|zM<|zZ) ?_
   exact ⟨(i+1),wk,⟨by omega,all_take (d:=(jM.mk kO kO)) (by omega) hv (by simpa using h2)⟩,(by first|omega|(dsimp only;omega))⟩
 ·replace h1:=xC h1
  have hie:i=l.length:=by omega
  rw[hie,List.take_length] at hv
  refine kL<|jB<|kx [(2,(vb true))] [] (zM<|zZ) ?_
  refine jD ⟨_,(.tmp (d:=(.val (.bool (true)))) rfl .nil),?_⟩
  rw[hv];rfl
theorem i_zero(p q:Rat)(hp:QL p 1073741824)(hq:QL q 1073741824):jS Tryz.prog 201 [(jG (jM.mk (jN p) (jN q)))] (.val (.bool ((xI p q)))):=by
 refine uW Tryz.func201 ?_
 refine jB<|kx [(1,(.ref 0 0))] [(0,some (bx (jG (jM.mk (jN p) (jN q)))))] (zN (vX 0)<|zM<|zZ) ?_
 refine jB<|kx [(2,(vb (decide ((fN p)<=0)&&decide (0<=(fN q)))))] [] ?_ ?_
 ·refine zE (kN uX)<|zR (kR jW)<|zE (kB (f_sign (jN p) p (jP (jY hp))))<|zE oLe<|zE (oV (vb (decide ((fN p)<=0))) (qA (by kernel_rfl)))<|?_
  rcases hb1:(decide ((fN p)<=0)) with _ | _
  ·replace hb1:=xC hb1
   exact zK<|zK<|zK<|zK<|zE yJ<|zM<|zZ
  ·replace hb1:=vT hb1
   exact zE (kN vP)<|zR (kR jW)<|zE (kB (f_sign (jN q) q (jP (jY hq))))<|zE oGe<|zE aB<|zM<|zZ
 refine jD ⟨_,(.tmp (d:=(.val (.bool ((decide ((fN p)<=0)&&decide (0<=(fN q))))))) rfl .nil),?_⟩
 rw[zeroG_eq];rfl
theorem i_spanned(p:Rat)(qs:List Rat)(hp:QL p 17179869184)(hqs:∀ q∈qs,QL q 17179869184)(hb:qs.length<=1000000):jS Tryz.prog 200 [(jK (jN p)),(.sl 32 4 (List.map jK (List.map jN qs)))] (jG (jM.mk (jN (nQ p qs)) (jN (mR p qs)))):=by
 refine uW Tryz.func200 ?_
 refine jB<|kx [(2,(.ref 0 0)),(4,(.ref 1 0))] [(0,some (bx (jK (jN p)))),(1,some (bx (jG (jM.mk kO kO))))] (zN (vX 0)<|zN (uJ 1 uK uO)<|zZ) ?_
 refine jB<|kx [(5,(.ref 2 0))] [(2,some (bx (jG (jM.mk (jN p) (jN p)))))] (zR (kR jW)<|zR (kR jW)<|zE (bH pl42 uK uO)<|zN (uJ 2 uK uO)<|zT (qM kF)<|zZ) ?_
 refine jB<|jB<|kx [(11,(vl 32 4 jK (List.map jN qs))),(12,(jT qs.length)),(13,(jT 0))] [] (zM<|zE (oLn xG qs.length)<|zM<|zZ) ?_
 refine jH<|kQ (α:=Nat × Rat × Rat) (fun (i,lo,hi)=>⟨[(4,(.ref 1 0)),(5,(.ref 2 0)),(11,(vl 32 4 jK (List.map jN qs))),(12,(jT qs.length)),(13,(jT i))],[(1,some (bx (jG (jM.mk kO kO)))),(2,some (bx (jG (jM.mk (jN lo) (jN hi)))))]⟩) (fun (i,lo,hi)=>i<=qs.length/\lo=nQ p (qs.take i)/\hi=mR p (qs.take i)) (fun (i,lo,hi)=>qs.length-i) (0,p,p) wk ⟨Nat.zero_le _,rfl,rfl⟩ ?_
 rintro ⟨i,lo,hi⟩ ⟨hi1,hl,hh⟩
 have htk:∀ q∈qs.take i,QL q 17179869184:=fun q hq=>hqs q (List.mem_of_mem_take hq)
 have hlo:QL lo 17179869184:=by rw[hl];exact ql_mnL hp htk
 have hhi:QL hi 17179869184:=by rw[hh];exact ql_mxL hp htk
 refine jB<|kx [(14,(vb (decide (((i:Nat):Int)<((qs.length:Nat):Int)))))] [] (zE yY<|zZ) ?_
 refine jB<|jF rfl (fun h1=>?_) (fun h1=>?_)
 ·replace h1:=vT h1
  refine jE<|jB<|jH<|jB<|kx [(7,(.ref 3 0))] [(3,some (bx (jK (jN (qs.getD i 0)))))] (zE (oXm xG jN i 0)<|zE (mT jW)<|zN (uJ 3 uV vL)<|zT (qM jW)<|zZ) ?_
  refine jB<|jB<|kx [(21,(vb (decide ((gC (qs.getD i 0) lo)<0))))] [] (zR (kR jW)<|zE (kN uX)<|zR (kR jW)<|zE (kB (bZ (jN (qs.getD i 0)) (jN lo) (qs.getD i 0) lo (jY (uF hqs (by decide) i)) (jY hlo)))<|zE yY<|zZ) ?_
  refine jF (b:=decide ((gC (qs.getD i 0) lo)<0)) rfl (fun h2=>?_) (fun h2=>?_)
  ·replace h2:=vT h2
   have hc1:=h2
   refine kx [] [(2,some (bx (jG (jM.mk (jN (qs.getD i 0)) (jN hi)))))] (zR (kR jW)<|zE (kN uX)<|zT (qM jW)<|zZ) ?_
   refine jB<|kx [(28,(vb (decide (0<(gC (qs.getD i 0) hi)))))] [] (zR (kR jW)<|zE (kN vP)<|zR (kR jW)<|zE (kB (bZ (jN (qs.getD i 0)) (jN hi) (qs.getD i 0) hi (jY (uF hqs (by decide) i)) (jY hhi)))<|zE cI<|zZ) ?_
   refine jF (b:=decide (0<(gC (qs.getD i 0) hi))) rfl (fun h3=>?_) (fun h3=>?_)
   ·replace h3:=vT h3
    have hc2:=h3
    refine kx [] [(2,some (bx (jG (jM.mk (jN (qs.getD i 0)) (jN (qs.getD i 0))))))] (zR (kR jW)<|zE (kN vP)<|zT (qM jW)<|zZ) ?_
    refine kx [(13,(jT (i+1)))] [] (zE (xD (i+1))<|zM<|zZ) ?_
    exact ⟨(i+1,qs.getD i 0,qs.getD i 0),wk,⟨by omega,mnL_lt (by omega) hl hc1,mxL_gt (by omega) hh hc2⟩,(by first|omega|(dsimp only;omega))⟩
   ·replace h3:=xC h3
    have hc2:=h3
    refine jE<|kx [(13,(jT (i+1)))] [] (zE (xD (i+1))<|zM<|zZ) ?_
    exact ⟨(i+1,qs.getD i 0,hi),wk,⟨by omega,mnL_lt (by omega) hl hc1,mxL_le (by omega) hh hc2⟩,(by first|omega|(dsimp only;omega))⟩
  ·replace h2:=xC h2
   have hc1:=h2
   refine jE<|jB<|kx [(28,(vb (decide (0<(gC (qs.getD i 0) hi)))))] [] (zR (kR jW)<|zE (kN vP)<|zR (kR jW)<|zE (kB (bZ (jN (qs.getD i 0)) (jN hi) (qs.getD i 0) hi (jY (uF hqs (by decide) i)) (jY hhi)))<|zE cI<|zZ) ?_
   refine jF (b:=decide (0<(gC (qs.getD i 0) hi))) rfl (fun h4=>?_) (fun h4=>?_)
   ·replace h4:=vT h4
    have hc2:=h4
    refine kx [] [(2,some (bx (jG (jM.mk (jN lo) (jN (qs.getD i 0))))))] (zR (kR jW)<|zE (kN vP)<|zT (qM jW)<|zZ) ?_
    refine kx [(13,(jT (i+1)))] [] (zE (xD (i+1))<|zM<|zZ) ?_
    exact ⟨(i+1,lo,qs.getD i 0),wk,⟨by omega,mnL_ge (by omega) hl hc1,mxL_gt (by omega) hh hc2⟩,(by first|omega|(dsimp only;omega))⟩
   ·replace h4:=xC h4
    have hc2:=h4
    refine jE<|kx [(13,(jT (i+1)))] [] (zE (xD (i+1))<|zM<|zZ) ?_
    exact ⟨(i+1,lo,hi),wk,⟨by omega,mnL_ge (by omega) hl hc1,mxL_le (by omega) hh hc2⟩,(by first|omega|(dsimp only;omega))⟩
 ·replace h1:=xC h1
  have hie:i=qs.length:=by omega
  rw[hie,List.take_length] at hl hh
  refine kL<|jB<|kx [] [(1,some (bx (jG (jM.mk (jN lo) (jN hi)))))] (zR (kR kF)<|zT (qM kF)<|zZ) ?_
  refine jD ⟨_,(kS (cs:=(bx (jG (jM.mk (jN lo) (jN hi))))) (d:=(jG (jM.mk (jN lo) (jN hi)))) rfl rfl kF rfl rfl .nil),?_⟩
  rw[hl,hh];rfl
theorem i_quot(p q:Rat)(hp:QL p 1073741824)(hq:QL q 1073741824)(hq0:q≠0):jS Tryz.prog 202 [(jK (jN p)),(jK (jN q))] (jK (jN (p / q))):=by
 refine uW Tryz.func202 ?_
 refine jB<|kx [(2,(.ref 0 0)),(3,(.ref 1 0)),(4,(.ref 2 0))] [(0,some (bx (jK (jN p)))),(1,some (bx (jK (jN q)))),(2,some (bx (jK kO)))] (zN (vX 0)<|zN (vX 1)<|zN (uJ 2 uV vL)<|zZ) ?_
 refine jB<|kx [(5,(.ref 3 0))] [(3,some (bx (jK (divR p q))))] (zR (kR jW)<|zR (kR jW)<|zE (kB (f_divide (jN p) (jN q) p q (jP (jY hp)) (jP (jY hq))))<|zM<|zE zJ<|zE zJ<|zN (uJ 3 uV vL)<|zT (qM jW)<|zM<|zZ) ?_
 refine jB<|kx [] [(2,some (bx (jK (divR p q))))] (zR (kR jW)<|zT (qM jW)<|zZ) ?_
 refine jD ⟨_,(kS (cs:=(bx (jK (divR p q)))) (d:=(jK (divR p q))) rfl rfl jW rfl rfl .nil),?_⟩
 rw[divR_ne hq0];rfl
theorem i_cornersM(p q r s:Rat)(hp:QL p 1073741824)(hq:QL q 1073741824)(hr:QL r 1073741824)(hs:QL s 1073741824):jS Tryz.prog 199 [(.val (.func (.func 47) #[] #[])),(jG (jM.mk (jN p) (jN q))),(jG (jM.mk (jN r) (jN s)))] (jG (jM.mk (jN (nQ (p*r) [(p*s),(q*r),(q*s)])) (jN (mR (p*r) [(p*s),(q*r),(q*s)])))):=by
 let y1:=(jG (jM.mk (jN (nQ (p*r) [(p*s),(q*r),(q*s)])) (jN (mR (p*r) [(p*s),(q*r),(q*s)]))))
 refine uW Tryz.func199 ?_
 refine jB<|kx [(4,(.ref 0 0)),(5,(.ref 1 0)),(6,(.ref 2 0))] [(0,some (bx (jG (jM.mk (jN p) (jN q))))),(1,some (bx (jG (jM.mk (jN r) (jN s))))),(2,some (bx (jG (jM.mk kO kO))))] (zN (vX 0)<|zN (vX 1)<|zN (uJ 2 uK uO)<|zZ) ?_
 refine jB<|kd [] [(2,some (bx y1))] mo (wM<|wE (kN uX)<|wR (kR jW)<|wE (kN uX)<|wR (kR jW)<|wE (kB (f_mul (jN p) (jN r) p r (jP (jY hp)) (jP (jY hr))))<|wM<|wE (kN uX)<|wR (kR jW)<|wE (kN vP)<|wR (kR jW)<|wE (kB (f_mul (jN p) (jN s) p s (jP (jY hp)) (jP (jY hs))))<|wM<|wE (kN vP)<|wR (kR jW)<|wE (kN uX)<|wR (kR jW)<|wE (kB (f_mul (jN q) (jN r) q r (jP (jY hq)) (jP (jY hr))))<|wM<|wE (kN vP)<|wR (kR jW)<|wE (kN vP)<|wR (kR jW)<|wE (kB (f_mul (jN q) (jN s) q s (jP (jY hq)) (jP (jY hs))))<|wE (fF xG uV vL)<|wE (kB (i_spanned (p*r) [(p*s),(q*r),(q*s)] (qY (vZ (k:=2147483648) hp hr)) (List.forall_mem_cons.2 ⟨(qY (vZ (k:=2147483648) hp hs)),(List.forall_mem_cons.2 ⟨(qY (vZ (k:=2147483648) hq hr)),(List.forall_mem_cons.2 ⟨(qY (vZ (k:=2147483648) hq hs)),(fun a h=>by cases h)⟩)⟩)⟩) (by simp)))<|wT (qM kF)<|wZ) ?_
 refine jD ⟨_,(kS (cs:=(bx y1)) (d:=y1) rfl rfl kF rfl rfl .nil),?_⟩
 rfl
theorem i_cornersD(p q r s:Rat)(hp:QL p 1073741824)(hq:QL q 1073741824)(hr:QL r 1073741824)(hs:QL s 1073741824)(hr0:r≠0)(hs0:s≠0):jS Tryz.prog 199 [(.val (.func (.func 202) #[] #[])),(jG (jM.mk (jN p) (jN q))),(jG (jM.mk (jN r) (jN s)))] (jG (jM.mk (jN (nQ (p / r) [(p / s),(q / r),(q / s)])) (jN (mR (p / r) [(p / s),(q / r),(q / s)])))):=by
 let y1:=(jG (jM.mk (jN (nQ (p / r) [(p / s),(q / r),(q / s)])) (jN (mR (p / r) [(p / s),(q / r),(q / s)]))))
 refine uW Tryz.func199 ?_
 refine jB<|kx [(4,(.ref 0 0)),(5,(.ref 1 0)),(6,(.ref 2 0))] [(0,some (bx (jG (jM.mk (jN p) (jN q))))),(1,some (bx (jG (jM.mk (jN r) (jN s))))),(2,some (bx (jG (jM.mk kO kO))))] (zN (vX 0)<|zN (vX 1)<|zN (uJ 2 uK uO)<|zZ) ?_
 refine jB<|kd [] [(2,some (bx y1))] mo (wM<|wE (kN uX)<|wR (kR jW)<|wE (kN uX)<|wR (kR jW)<|wE (kB (i_quot p r hp hr (by assumption)))<|wM<|wE (kN uX)<|wR (kR jW)<|wE (kN vP)<|wR (kR jW)<|wE (kB (i_quot p s hp hs (by assumption)))<|wM<|wE (kN vP)<|wR (kR jW)<|wE (kN uX)<|wR (kR jW)<|wE (kB (i_quot q r hq hr (by assumption)))<|wM<|wE (kN vP)<|wR (kR jW)<|wE (kN vP)<|wR (kR jW)<|wE (kB (i_quot q s hq hs (by assumption)))<|wE (fF xG uV vL)<|wE (kB (i_spanned (p / r) [(p / s),(q / r),(q / s)] (qY (iY (k:=2147483648) hp hr)) (List.forall_mem_cons.2 ⟨(qY (iY (k:=2147483648) hp hs)),(List.forall_mem_cons.2 ⟨(qY (iY (k:=2147483648) hq hr)),(List.forall_mem_cons.2 ⟨(qY (iY (k:=2147483648) hq hs)),(fun a h=>by cases h)⟩)⟩)⟩) (by simp)))<|wT (qM kF)<|wZ) ?_
 refine jD ⟨_,(kS (cs:=(bx y1)) (d:=y1) rfl rfl kF rfl rfl .nil),?_⟩
 rfl
theorem i_mul(p q r s:Rat)(hp:QL p 1073741824)(hq:QL q 1073741824)(hr:QL r 1073741824)(hs:QL s 1073741824)(hpq:p<=q)(hrs:r<=s):jS Tryz.prog 173 [(jG (jM.mk (jN p) (jN q))),(jG (jM.mk (jN r) (jN s)))] (.tup [(jG (jM.mk (jN (nQ (p*r) [(p*s),(q*r),(q*s)])) (jN (mR (p*r) [(p*s),(q*r),(q*s)])))),(.val (.int .i64 (0)))]):=by
 let y1:=(jG (jM.mk (jN (nQ (p*r) [(p*s),(q*r),(q*s)])) (jN (mR (p*r) [(p*s),(q*r),(q*s)]))))
 refine uW Tryz.func173 ?_
 refine jB<|kx [(2,(.ref 0 0)),(3,(.ref 1 0)),(4,(.ref 2 0))] [(0,some (bx (jG (jM.mk (jN p) (jN q))))),(1,some (bx (jG (jM.mk (jN r) (jN s))))),(2,some (bx (jG (jM.mk kO kO))))] (zN (vX 0)<|zN (vX 1)<|zN (uJ 2 uK uO)<|zM<|zZ) ?_
 refine jB<|jB<|kx [(10,(vb false))] [] (zR (kR kF)<|zR (kR kF)<|zE (fF zU uK uO)<|zE (kB (by have h:=i_valids [(jM.mk (jN p) (jN q)),(jM.mk (jN r) (jN s))] (List.forall_mem_cons.2 ⟨(gP (⟨qI (jP (jY hp) (by decide:1073741824<=1073741824)),qI (jP (jY hq) (by decide:1073741824<=1073741824))⟩)),(List.forall_mem_cons.2 ⟨(gP (⟨qI (jP (jY hr) (by decide:1073741824<=1073741824)),qI (jP (jY hs) (by decide:1073741824<=1073741824))⟩)),(fun a h=>by cases h)⟩)⟩) (by simp);rw[show List.all [(jM.mk (jN p) (jN q)),(jM.mk (jN r) (jN s))] uP=true from by simp [xY hpq,xY hrs]] at h;exact h))<|zE cC<|zZ) ?_
 refine qH ?_
 refine jE<|jB<|kx [(5,(jT 0))] [(2,some (bx y1))] (zR (kR kF)<|zR (kR kF)<|zE (kB (i_cornersM p q r s hp hq hr hs))<|zT (qM kF)<|zM<|zZ) ?_
 refine jD ⟨_,(kS (cs:=(bx y1)) (d:=y1) rfl rfl kF rfl rfl (.tmp (d:=(.val (.int .i64 (0)))) rfl .nil)),?_⟩
 rfl
theorem i_divide(p q r s:Rat)(hp:QL p 1073741824)(hq:QL q 1073741824)(hr:QL r 1073741824)(hs:QL s 1073741824)(hpq:p<=q)(hrs:r<=s)(hz:xI r s=false):jS Tryz.prog 175 [(jG (jM.mk (jN p) (jN q))),(jG (jM.mk (jN r) (jN s)))] (.tup [(jG (jM.mk (jN (nQ (p / r) [(p / s),(q / r),(q / s)])) (jN (mR (p / r) [(p / s),(q / r),(q / s)])))),(.val (.int .i64 (0)))]):=by
 obtain ⟨hr0,hs0⟩:=zeroG_ne hrs hz
 let y1:=(jG (jM.mk (jN (nQ (p / r) [(p / s),(q / r),(q / s)])) (jN (mR (p / r) [(p / s),(q / r),(q / s)]))))
 refine uW Tryz.func175 ?_
 refine jB<|kx [(2,(.ref 0 0)),(3,(.ref 1 0)),(4,(.ref 2 0))] [(0,some (bx (jG (jM.mk (jN p) (jN q))))),(1,some (bx (jG (jM.mk (jN r) (jN s))))),(2,some (bx (jG (jM.mk kO kO))))] (zN (vX 0)<|zN (vX 1)<|zN (uJ 2 uK uO)<|zM<|zZ) ?_
 refine jB<|jB<|kx [(11,(vb false))] [] (zR (kR kF)<|zR (kR kF)<|zE (fF zU uK uO)<|zE (kB (by have h:=i_valids [(jM.mk (jN p) (jN q)),(jM.mk (jN r) (jN s))] (List.forall_mem_cons.2 ⟨(gP (⟨qI (jP (jY hp) (by decide:1073741824<=1073741824)),qI (jP (jY hq) (by decide:1073741824<=1073741824))⟩)),(List.forall_mem_cons.2 ⟨(gP (⟨qI (jP (jY hr) (by decide:1073741824<=1073741824)),qI (jP (jY hs) (by decide:1073741824<=1073741824))⟩)),(fun a h=>by cases h)⟩)⟩) (by simp);rw[show List.all [(jM.mk (jN p) (jN q)),(jM.mk (jN r) (jN s))] uP=true from by simp [xY hpq,xY hrs]] at h;exact h))<|zE cC<|zZ) ?_
 refine qH ?_
 refine jE<|jB<|jB<|kx [(14,(vb false))] [] (zR (kR kF)<|zE (kB (by have h:=i_zero r s hr hs;rw[show xI r s=false from hz] at h;exact h))<|zZ) ?_
 refine qH ?_
 refine jE<|jB<|kx [(6,(.d (.val (.func (.func 202) #[] #[]))))] [] (zM<|zZ) ?_
 refine jB<|kx [(5,(jT 0))] [(2,some (bx y1))] (zM<|zR (kR kF)<|zR (kR kF)<|zE (kB (i_cornersD p q r s hp hq hr hs (by assumption) (by assumption)))<|zT (qM kF)<|zM<|zZ) ?_
 refine jD ⟨_,(kS (cs:=(bx y1)) (d:=y1) rfl rfl kF rfl rfl (.tmp (d:=(.val (.int .i64 (0)))) rfl .nil)),?_⟩
 rfl
theorem i_divideZ(p q r s:Rat)(hp:QL p 1073741824)(hq:QL q 1073741824)(hr:QL r 1073741824)(hs:QL s 1073741824)(hpq:p<=q)(hrs:r<=s)(hz:xI r s=true):jS Tryz.prog 175 [(jG (jM.mk (jN p) (jN q))),(jG (jM.mk (jN r) (jN s)))] (.tup [(jG (jM.mk kO kO)),(.val (.int .i64 (14)))]):=by
 let y1:=(bx (jG (jM.mk kO kO)))
 refine uW Tryz.func175 ?_
 refine jB<|kx [(2,(.ref 0 0)),(3,(.ref 1 0)),(4,(.ref 2 0))] [(0,some (bx (jG (jM.mk (jN p) (jN q))))),(1,some (bx (jG (jM.mk (jN r) (jN s))))),(2,some y1)] (zN (vX 0)<|zN (vX 1)<|zN (uJ 2 uK uO)<|zM<|zZ) ?_
 refine jB<|jB<|kx [(11,(vb false))] [] (zR (kR kF)<|zR (kR kF)<|zE (fF zU uK uO)<|zE (kB (by have h:=i_valids [(jM.mk (jN p) (jN q)),(jM.mk (jN r) (jN s))] (List.forall_mem_cons.2 ⟨(gP (⟨qI (jP (jY hp) (by decide:1073741824<=1073741824)),qI (jP (jY hq) (by decide:1073741824<=1073741824))⟩)),(List.forall_mem_cons.2 ⟨(gP (⟨qI (jP (jY hr) (by decide:1073741824<=1073741824)),qI (jP (jY hs) (by decide:1073741824<=1073741824))⟩)),(fun a h=>by cases h)⟩)⟩) (by simp);rw[show List.all [(jM.mk (jN p) (jN q)),(jM.mk (jN r) (jN s))] uP=true from by simp [xY hpq,xY hrs]] at h;exact h))<|zE cC<|zZ) ?_
 refine qH ?_
 refine jE<|jB<|jB<|kx [(14,(vb true))] [] (zR (kR kF)<|zE (kB (by have h:=i_zero r s hr hs;rw[show xI r s=true from hz] at h;exact h))<|zZ) ?_
 refine xQ ?_
 refine jB<|kx [(5,(jT 14))] [(2,some y1)] (zE (bH pl42 uK uO)<|zT (qM kF)<|zM<|zZ) ?_
 refine jD ⟨_,(kS (cs:=y1) (d:=(jG (jM.mk kO kO))) rfl rfl kF rfl rfl (.tmp (d:=(.val (.int .i64 (14)))) rfl .nil)),?_⟩
 rfl
theorem i_square(p q:Rat)(hp:QL p 1073741824)(hq:QL q 1073741824)(hpq:p<=q):jS Tryz.prog 174 [(jG (jM.mk (jN p) (jN q)))] (.tup [(jG (jM.mk (jN (sqL p q)) (jN (sqH p q)))),(.val (.int .i64 (0)))]):=by
 let y2:=(jG (jM.mk (jN ((0:Int):Rat)) (jN (mR (p*p) [(q*q)]))))
 let y1:=(jG (jM.mk (jN (nQ (p*p) [(q*q)])) (jN (mR (p*p) [(q*q)]))))
 refine uW Tryz.func174 ?_
 refine jB<|kx [(1,(.ref 0 0)),(2,(.ref 1 0))] [(0,some (bx (jG (jM.mk (jN p) (jN q))))),(1,some (bx (jG (jM.mk kO kO))))] (zN (vX 0)<|zN (uJ 1 uK uO)<|zM<|zZ) ?_
 refine jB<|jB<|kx [(7,(vb false))] [] (zR (kR kF)<|zE (kB (by have h:=i_valid (jM.mk (jN p) (jN q)) (gP (⟨qI (jP (jY hp) (by decide:1073741824<=1073741824)),qI (jP (jY hq) (by decide:1073741824<=1073741824))⟩));rw[show uP (jM.mk (jN p) (jN q))=true from xY hpq] at h;exact h))<|zE cC<|zZ) ?_
 refine qH ?_
 refine jE<|jB<|kd [(4,(.ref 2 0))] [(2,some (bx y1))] mo (wE (kN uX)<|wR (kR jW)<|wE (kN uX)<|wR (kR jW)<|wE (kB (f_mul (jN p) (jN p) p p (jP (jY hp)) (jP (jY hp))))<|wE (kN vP)<|wR (kR jW)<|wE (kN vP)<|wR (kR jW)<|wE (kB (f_mul (jN q) (jN q) q q (jP (jY hq)) (jP (jY hq))))<|wE (fF xG uV vL)<|wE (kB (i_spanned (p*p) [(q*q)] (qY (vZ (k:=2147483648) hp hp)) (List.forall_mem_cons.2 ⟨(qY (vZ (k:=2147483648) hq hq)),(fun a h=>by cases h)⟩) (by simp)))<|wN (uJ 2 uK uO)<|wT (qM kF)<|wZ) ?_
 refine jB<|jB<|kx [(22,(vb (xI p q)))] [] (zR (kR kF)<|zE (kB (i_zero p q hp hq))<|zZ) ?_
 refine jF (b:=(xI p q)) rfl (fun h1=>?_) (fun h1=>?_)
 ·refine kx [] [(2,some (bx y2))] (zE (kB (aI 0))<|zE (kN uX)<|zT (qM jW)<|zZ) ?_
  refine jB<|kx [(3,(jT 0))] [(1,some (bx y2))] (zR (kR kF)<|zT (qM kF)<|zM<|zZ) ?_
  refine jD ⟨_,(kS (cs:=(bx y2)) (d:=y2) rfl rfl kF rfl rfl (.tmp (d:=(.val (.int .i64 (0)))) rfl .nil)),?_⟩
  rw[show sqL p q=_ from if_pos h1];rfl
 ·refine jE<|jB<|kx [(3,(jT 0))] [(1,some (bx y1))] (zR (kR kF)<|zT (qM kF)<|zM<|zZ) ?_
  refine jD ⟨_,(kS (cs:=(bx y1)) (d:=y1) rfl rfl kF rfl rfl (.tmp (d:=(.val (.int .i64 (0)))) rfl .nil)),?_⟩
  rw[show sqL p q=_ from if_neg (by rw[h1];simp)];rfl
theorem h_whole(lo hi:Int)(h1:-9223372036854775808<=lo:=by decide)(h2:lo<=9223372036854775807:=by decide)(h3:-9223372036854775808<=hi:=by decide)(h4:hi<=9223372036854775807:=by decide):jS Tryz.prog 30 [(.val (.int .i64 (lo))),(.val (.int .i64 (hi)))] (jG (jM.mk (jN ((lo:Int):Rat)) (jN ((hi:Int):Rat)))):=by
 refine uW Tryz.func30 ?_
 refine jB<|kx [(4,(.ref 0 0))] [(0,some (bx (jG (jM.mk kO kO))))] (zN (uJ 0 uK uO)<|zZ) ?_
 refine jB<|kx [] [(0,some (bx (jG (jM.mk (jN ((lo:Int):Rat)) (jN ((hi:Int):Rat))))))] (zM<|zE (kB (g_whole lo (by omega) (by omega)))<|zM<|zE (kB (g_whole hi (by omega) (by omega)))<|zE (bH pl42 uK uO)<|zT (qM kF)<|zZ) ?_
 refine jD ⟨_,(kS (cs:=(bx (jG (jM.mk (jN ((lo:Int):Rat)) (jN ((hi:Int):Rat)))))) (d:=(jG (jM.mk (jN ((lo:Int):Rat)) (jN ((hi:Int):Rat))))) rfl rfl kF rfl rfl .nil),?_⟩
 rfl
theorem h_same(a b:jM)(ha:GOk 4294967296 a)(hb:GOk 4294967296 b):jS Tryz.prog 43 [(jG a),(jG b)] (.val (.bool ((sameG a b)))):=by
 refine uW Tryz.func43 ?_
 refine jB<|kx [(2,(.ref 0 0)),(3,(.ref 1 0))] [(0,some (bx (jG a))),(1,some (bx (jG b)))] (zN (vX 0)<|zN (vX 1)<|zM<|zZ) ?_
 refine jB<|kx [(4,(vb (((uP a)&&(uP b))&&(dE a.lo b.lo&&dE a.hi b.hi))))] [] ?_ ?_
 ·refine zR (kR kF)<|zE (kB (h_valid a ha))<|zE (oV (vb (uP a)) (qA (by kernel_rfl)))<|?_
  rcases hb1:(uP a) with _ | _
  ·exact zK<|zK<|zE yJ<|zM<|zK<|zK<|zK<|zE yJ<|zM<|zZ
  ·refine zR (kR kF)<|zE (kB (h_valid b hb))<|zE aB<|zE (oV (vb (true&&(uP b))) (qA (by kernel_rfl)))<|?_
   rcases hb2:(true&&(uP b)) with _ | _
   ·exact zK<|zK<|zK<|zE yJ<|zM<|zZ
   ·exact zR (kR kF)<|zR (kR kF)<|zE (kB (g_samerange a b ha hb))<|zE aB<|zM<|zZ
 refine jD ⟨_,(.tmp (d:=(.val (.bool ((((uP a)&&(uP b))&&(dE a.lo b.lo&&dE a.hi b.hi)))))) rfl .nil),?_⟩
 rfl
theorem h_width(p q:Rat)(hp:QL p 1073741824)(hq:QL q 1073741824):jS Tryz.prog 28 [(jG (jM.mk (jN p) (jN q)))] (jK (jN (q-p))):=by
 refine uW Tryz.func28 ?_
 refine jB<|kx [(1,(.ref 0 0)),(2,(.ref 1 0))] [(0,some (bx (jG (jM.mk (jN p) (jN q))))),(1,some (bx (jK kO)))] (zN (vX 0)<|zN (uJ 1 uV vL)<|zZ) ?_
 refine jB<|kx [] [(1,some (bx (jK (jN (q-p)))))] (zE (kN vP)<|zR (kR jW)<|zE (kN uX)<|zR (kR jW)<|zE (kB (g_sub (jN q) (jN p) q p (jP (jY hq)) (jP (jY hp))))<|zT (qM jW)<|zZ) ?_
 refine jD ⟨_,(kS (cs:=(bx (jK (jN (q-p))))) (d:=(jK (jN (q-p)))) rfl rfl jW rfl rfl .nil),?_⟩
 rfl
theorem i_add(p q r s:Rat)(hp:QL p 1073741824)(hq:QL q 1073741824)(hr:QL r 1073741824)(hs:QL s 1073741824)(hpq:p<=q)(hrs:r<=s):jS Tryz.prog 171 [(jG (jM.mk (jN p) (jN q))),(jG (jM.mk (jN r) (jN s)))] (.tup [(jG (jM.mk (jN (p+r)) (jN (q+s)))),(.val (.int .i64 (0)))]):=by
 refine uW Tryz.func171 ?_
 refine jB<|kx [(2,(.ref 0 0)),(3,(.ref 1 0)),(4,(.ref 2 0))] [(0,some (bx (jG (jM.mk (jN p) (jN q))))),(1,some (bx (jG (jM.mk (jN r) (jN s))))),(2,some (bx (jG (jM.mk kO kO))))] (zN (vX 0)<|zN (vX 1)<|zN (uJ 2 uK uO)<|zM<|zZ) ?_
 refine jB<|jB<|kx [(10,(vb false))] [] (zR (kR kF)<|zR (kR kF)<|zE (fF zU uK uO)<|zE (kB (by have h:=i_valids [(jM.mk (jN p) (jN q)),(jM.mk (jN r) (jN s))] (List.forall_mem_cons.2 ⟨(gP (⟨qI (jP (jY hp) (by decide:1073741824<=1073741824)),qI (jP (jY hq) (by decide:1073741824<=1073741824))⟩)),(List.forall_mem_cons.2 ⟨(gP (⟨qI (jP (jY hr) (by decide:1073741824<=1073741824)),qI (jP (jY hs) (by decide:1073741824<=1073741824))⟩)),(fun a h=>by cases h)⟩)⟩) (by simp);rw[show List.all [(jM.mk (jN p) (jN q)),(jM.mk (jN r) (jN s))] uP=true from by simp [xY hpq,xY hrs]] at h;exact h))<|zE cC<|zZ) ?_
 refine qH ?_
 refine jE<|jB<|kd [(5,(jT 0))] [(2,some (bx (jG (jM.mk (jN (p+r)) (jN (q+s))))))] mo (wE (kN uX)<|wR (kR jW)<|wE (kN uX)<|wR (kR jW)<|wE (kB (f_add (jN p) (jN r) p r (jP (jY hp)) (jP (jY hr))))<|wE (kN vP)<|wR (kR jW)<|wE (kN vP)<|wR (kR jW)<|wE (kB (f_add (jN q) (jN s) q s (jP (jY hq)) (jP (jY hs))))<|wE (bH pl42 uK uO)<|wT (qM kF)<|wM<|wZ) ?_
 refine jD ⟨_,(kS (cs:=(bx (jG (jM.mk (jN (p+r)) (jN (q+s)))))) (d:=(jG (jM.mk (jN (p+r)) (jN (q+s))))) rfl rfl kF rfl rfl (.tmp (d:=(.val (.int .i64 (0)))) rfl .nil)),?_⟩
 rfl
theorem i_sub(p q r s:Rat)(hp:QL p 1073741824)(hq:QL q 1073741824)(hr:QL r 1073741824)(hs:QL s 1073741824)(hpq:p<=q)(hrs:r<=s):jS Tryz.prog 172 [(jG (jM.mk (jN p) (jN q))),(jG (jM.mk (jN r) (jN s)))] (.tup [(jG (jM.mk (jN (p-s)) (jN (q-r)))),(.val (.int .i64 (0)))]):=by
 refine uW Tryz.func172 ?_
 refine jB<|kx [(2,(.ref 0 0)),(3,(.ref 1 0)),(4,(.ref 2 0))] [(0,some (bx (jG (jM.mk (jN p) (jN q))))),(1,some (bx (jG (jM.mk (jN r) (jN s))))),(2,some (bx (jG (jM.mk kO kO))))] (zN (vX 0)<|zN (vX 1)<|zN (uJ 2 uK uO)<|zM<|zZ) ?_
 refine jB<|jB<|kx [(10,(vb false))] [] (zR (kR kF)<|zR (kR kF)<|zE (fF zU uK uO)<|zE (kB (by have h:=i_valids [(jM.mk (jN p) (jN q)),(jM.mk (jN r) (jN s))] (List.forall_mem_cons.2 ⟨(gP (⟨qI (jP (jY hp) (by decide:1073741824<=1073741824)),qI (jP (jY hq) (by decide:1073741824<=1073741824))⟩)),(List.forall_mem_cons.2 ⟨(gP (⟨qI (jP (jY hr) (by decide:1073741824<=1073741824)),qI (jP (jY hs) (by decide:1073741824<=1073741824))⟩)),(fun a h=>by cases h)⟩)⟩) (by simp);rw[show List.all [(jM.mk (jN p) (jN q)),(jM.mk (jN r) (jN s))] uP=true from by simp [xY hpq,xY hrs]] at h;exact h))<|zE cC<|zZ) ?_
 refine qH ?_
 refine jE<|jB<|kd [(5,(jT 0))] [(2,some (bx (jG (jM.mk (jN (p-s)) (jN (q-r))))))] mo (wE (kN uX)<|wR (kR jW)<|wE (kN vP)<|wR (kR jW)<|wE (kB (f_sub (jN p) (jN s) p s (jP (jY hp)) (jP (jY hs))))<|wE (kN vP)<|wR (kR jW)<|wE (kN uX)<|wR (kR jW)<|wE (kB (f_sub (jN q) (jN r) q r (jP (jY hq)) (jP (jY hr))))<|wE (bH pl42 uK uO)<|wT (qM kF)<|wM<|wZ) ?_
 refine jD ⟨_,(kS (cs:=(bx (jG (jM.mk (jN (p-s)) (jN (q-r)))))) (d:=(jG (jM.mk (jN (p-s)) (jN (q-r))))) rfl rfl kF rfl rfl (.tmp (d:=(.val (.int .i64 (0)))) rfl .nil)),?_⟩
 rfl
theorem by32:zD Tryz.prog 32=some 64:=by kernel_rfl
theorem g_least(l:List Rat)(hl:∀ q∈l,QL q 4294967296)(h0:0<l.length)(hb:l.length<=1000000):jS Tryz.prog 146 [(.sl 32 4 (List.map jK (List.map jN l)))] (.tup [(jK (jN (nQ (l.getD 0 0) l))),(.val (.int .i64 (0)))]):=by
 refine uW Tryz.func146 ?_
 refine jB<|kx [(2,(.ref 0 0))] [(0,some (bx (jK kO)))] (zN (uJ 0 uV vL)<|zM<|zZ) ?_
 refine jB<|jB<|kx [(8,(vb (((l.length:Nat):Int) == 0)))] [] (zM<|zE (oLn xG l.length)<|zE yP<|zZ) ?_
 refine jF (b:=(((l.length:Nat):Int) == 0)) rfl (fun h1=>?_) (fun h1=>?_)
 ·replace h1:=eq_of_beq h1
  exfalso;omega
 ·replace h1:=ne_of_beq_false h1
  refine jE<|jB<|kx [(4,(.ref 1 0))] [(1,some (bx (jK (jN (l.getD 0 0)))))] (zM<|zE (oXm xG jN 0 0)<|zE (mT jW)<|zE (kB (aH (jN (l.getD 0 0)) (l.getD 0 0) (jP (jY (uF hl (by decide) 0)))))<|zN (uJ 1 uV vL)<|zT (qM jW)<|zZ) ?_
  refine jB<|jB<|kx [(5,(jT 1))] [] (zM<|zZ) ?_
  refine jH<|kQ (α:=Nat × Rat) (fun (i,b)=>⟨[(0,(vl 32 4 jK (List.map jN l))),(2,(.ref 0 0)),(4,(.ref 1 0)),(5,(jT i))],[(0,some (bx (jK kO))),(1,some (bx (jK (jN b))))]⟩) (fun (i,b)=>i<=l.length/\b=nQ (l.getD 0 0) (l.take i)) (fun (i,b)=>l.length-i) (1,l.getD 0 0) wk ⟨by omega,least_start h0⟩ ?_
  rintro ⟨i,b⟩ ⟨hi,hv⟩
  have hbq:QL b 4294967296:=by rw[hv];exact ql_mnL (uF hl (by decide) 0) (fun q hq=>hl q (List.mem_of_mem_take hq))
  refine jB<|jB<|kx [(17,(vb (decide (((i:Nat):Int)<((l.length:Nat):Int)))))] [] (zM<|zM<|zE (oLn xG l.length)<|zE yY<|zZ) ?_
  refine jF rfl (fun h2=>?_) (fun h2=>?_)
  ·replace h2:=vT h2
   refine jE<|jB<|jH<|jB<|kd [(26,(vb (decide ((gC (l.getD i 0) b)<0))))] [] mo (wM<|wM<|wE (oXm xG jN i 0)<|wE (mT jW)<|wR (kR jW)<|wE (kB (bO (jN (l.getD i 0)) (jN b) (l.getD i 0) b (jY (uF hl (by decide) i)) (jY hbq)))<|wE yY<|wZ) ?_
   refine jF (b:=decide ((gC (l.getD i 0) b)<0)) rfl (fun h3=>?_) (fun h3=>?_)
   ·replace h3:=vT h3
    refine kx [] [(1,some (bx (jK (jN (l.getD i 0)))))] (zM<|zM<|zE (oXm xG jN i 0)<|zE (mT jW)<|zE (kB (aH (jN (l.getD i 0)) (l.getD i 0) (jP (jY (uF hl (by decide) i)))))<|zT (qM jW)<|zZ) ?_
    refine kx [(5,(jT (i+1)))] [] (zM<|zE (xD (i+1))<|zM<|zZ) ?_
    exact ⟨(i+1,l.getD i 0),wk,⟨by omega,mnL_lt (by omega) hv h3⟩,(by first|omega|(dsimp only;omega))⟩
   ·replace h3:=xC h3
    refine jE<|kx [(5,(jT (i+1)))] [] (zM<|zE (xD (i+1))<|zM<|zZ) ?_
    exact ⟨(i+1,b),wk,⟨by omega,mnL_ge (by omega) hv h3⟩,(by first|omega|(dsimp only;omega))⟩
  ·replace h2:=xC h2
   have hie:i=l.length:=by omega
   rw[hie,List.take_length] at hv
   refine kL<|jB<|kx [(3,(jT 0))] [(0,some (bx (jK (jN b))))] (zR (kR jW)<|zT (qM jW)<|zM<|zZ) ?_
   refine jD ⟨_,(kS (cs:=(bx (jK (jN b)))) (d:=(jK (jN b))) rfl rfl jW rfl rfl (.tmp (d:=(.val (.int .i64 (0)))) rfl .nil)),?_⟩
   rw[hv];rfl
theorem g_greatest(l:List Rat)(hl:∀ q∈l,QL q 4294967296)(h0:0<l.length)(hb:l.length<=1000000):jS Tryz.prog 147 [(.sl 32 4 (List.map jK (List.map jN l)))] (.tup [(jK (jN (mR (l.getD 0 0) l))),(.val (.int .i64 (0)))]):=by
 let y1:=(bx (jK kO))
 refine uW Tryz.func147 ?_
 refine jB<|kx [(2,(.ref 0 0))] [(0,some y1)] (zN (uJ 0 uV vL)<|zM<|zZ) ?_
 refine jB<|kG (wk (l:=[(0,(vl 32 4 jK (List.map jN l))),(2,(.ref 0 0))]) (b:=[(0,some y1)])) ?_
 refine kx [(4,(.own 1 32 4 0))] [(1,some (qS jK []))] (zN (oBo 1 xG uV vL)<|zM<|zZ) ?_
 refine jB<|jB<|kG (wk (l:=[(0,(vl 32 4 jK (List.map jN l))),(2,(.ref 0 0)),(4,(.own 1 32 4 0))]) (b:=[(0,some y1),(1,some (qS jK []))])) ?_
 refine kx [(5,(jT 0))] [] (zM<|zZ) ?_
 refine jH<|kQ (α:=Nat × List qE) (fun (i,o)=>⟨[(0,(vl 32 4 jK (List.map jN l))),(2,(.ref 0 0)),(4,(.own 1 32 4 o.length)),(5,(jT i))],[(0,some y1),(1,some (qS jK o))]⟩) (fun (i,o)=>i<=l.length/\o=List.map jN (List.map (fun q=>-q) (l.take i))) (fun (i,o)=>l.length-i) (0,[]) wk ⟨Nat.zero_le _,rfl⟩ ?_
 rintro ⟨i,o⟩ ⟨hi,hv⟩
 have hol:o.length=i:=by rw[hv];simp;omega
 refine jB<|jB<|kx [(12,(vb (decide (((i:Nat):Int)<((l.length:Nat):Int)))))] [] (zM<|zM<|zE (oLn xG l.length)<|zE yY<|zZ) ?_
 refine jF rfl (fun h1=>?_) (fun h1=>?_)
 ·replace h1:=vT h1
  refine jE<|jB<|jH<|kG (wk (l:=[(0,(vl 32 4 jK (List.map jN l))),(2,(.ref 0 0)),(4,(.own 1 32 4 o.length)),(5,(jT i)),(12,(vb (decide (((i:Nat):Int)<((l.length:Nat):Int)))))]) (b:=[(0,some y1),(1,some (qS jK o))])) ?_
  refine kf [(4,(.own 1 32 4 ((o++[(jN (-(l.getD i 0)))]).length)))] [(1,some (qS jK (o++[(jN (-(l.getD i 0)))])))] (zM<|zM<|zM<|zE (oXm xG jN i 0)<|zE (mT jW)<|zE (kB (g_neg (jN (l.getD i 0)) (l.getD i 0) (jP (jY (uF hl (by decide) i)))))<|zE (fF xG uV vL)<|zAS jK o [(jN (-(l.getD i 0)))] rfl xG uV by32<|zM<|zF) ?_
  refine kG (wk (l:=[(0,(vl 32 4 jK (List.map jN l))),(2,(.ref 0 0)),(4,(.own 1 32 4 ((o++[(jN (-(l.getD i 0)))]).length))),(5,(jT i))]) (b:=[(0,some y1),(1,some (qS jK (o++[(jN (-(l.getD i 0)))])))])) ?_
  refine kx [(5,(jT (i+1)))] [] (zM<|zE (xD (i+1))<|zM<|zZ) ?_
  exact ⟨(i+1,o++[jN (-(l.getD i 0))]),wk,⟨by omega,neg_push (by omega) hv⟩,(by first|omega|(dsimp only;omega))⟩
 ·replace h1:=xC h1
  have hie:i=l.length:=by omega
  rw[hie,List.take_length] at hv
  subst hv
  refine kL<|jB<|kG (yL (t:=4) (k:=1) (es:=List.map jK (List.map jN (List.map (fun q=>-q) l))) rfl rfl (mA _ _ (fun _=>rfl)) (vS _ _ rfl) (cH jK (List.map jN (List.map (fun q=>-q) l)) (fun _=>rfl) rfl)) ?_
  refine kG (wk (l:=[(0,(vl 32 4 jK (List.map jN l))),(2,(.ref 0 0)),(4,(vl 32 4 jK (List.map jN (List.map (fun q=>-q) l)))),(5,(jT i)),(12,(vb (decide (((i:Nat):Int)<((l.length:Nat):Int)))))]) (b:=[(0,some y1)])) ?_
  refine kx [(6,(.ref 2 0)),(7,(vi 0))] [(2,some (bx (jK (jN (nQ ((List.map (fun q=>-q) l).getD 0 0) (List.map (fun q=>-q) l))))))] (zM<|zE (kB (g_least (List.map (fun q=>-q) l) (ql_negs hl) (by first | exact h0 | simpa using h0) (by first | exact hb | simpa using hb)))<|zM<|zE zJ<|zE zJ<|zN (uJ 2 uV vL)<|zT (qM jW)<|zM<|zZ) ?_
  refine jB<|jB<|kG (wk (l:=[(2,(.ref 0 0)),(6,(.ref 2 0)),(7,(vi 0))]) (b:=[(0,some y1),(2,some (bx (jK (jN (nQ ((List.map (fun q=>-q) l).getD 0 0) (List.map (fun q=>-q) l))))))])) ?_
  refine kx [(29,(vb false))] [] (zM<|zE bD<|zZ) ?_
  refine qH ?_
  refine jE<|jB<|kG (wk (l:=[(2,(.ref 0 0)),(6,(.ref 2 0)),(7,(vi 0)),(29,(vb false))]) (b:=[(0,some y1),(2,some (bx (jK (jN (nQ ((List.map (fun q=>-q) l).getD 0 0) (List.map (fun q=>-q) l))))))])) ?_
  refine kx [(3,(jT 0))] [(0,some (bx (jK (jN (-(nQ ((List.map (fun q=>-q) l).getD 0 0) (List.map (fun q=>-q) l)))))))] (zR (kR jW)<|zE (kB (g_neg (jN (nQ ((List.map (fun q=>-q) l).getD 0 0) (List.map (fun q=>-q) l))) (nQ ((List.map (fun q=>-q) l).getD 0 0) (List.map (fun q=>-q) l)) (jP (jY (ql_mnL (uF (ql_negs hl) (by decide) 0) (ql_negs hl))))))<|zT (qM jW)<|zM<|zZ) ?_
  refine jD ⟨_,(kS (cs:=(bx (jK (jN (-(nQ ((List.map (fun q=>-q) l).getD 0 0) (List.map (fun q=>-q) l))))))) (d:=(jK (jN (-(nQ ((List.map (fun q=>-q) l).getD 0 0) (List.map (fun q=>-q) l)))))) rfl rfl jW rfl rfl (.tmp (d:=(.val (.int .i64 (0)))) rfl .nil)),?_⟩
  rw[<- great_eq h0];rfl
theorem h_spanned(p:Rat)(qs:List Rat)(hl:∀ q∈p::qs,QL q 4294967296)(hb:(p::qs).length<=1000000):jS Tryz.prog 78 [(.sl 32 4 (List.map jK (List.map jN (p::qs))))] (jG (jM.mk (jN (nQ p qs)) (jN (mR p qs)))):=by
 have h0:0<(p::qs).length:=by simp
 let y1:=(jG (jM.mk (jN (nQ ((p::qs).getD 0 0) (p::qs))) (jN (mR ((p::qs).getD 0 0) (p::qs)))))
 refine uW Tryz.func78 ?_
 refine jB<|kx [(2,(.ref 0 0))] [(0,some (bx (jG (jM.mk kO kO))))] (zN (uJ 0 uK uO)<|zZ) ?_
 refine jB<|kx [(3,(.ref 1 0))] [(1,some (bx (jK (jN (nQ ((p::qs).getD 0 0) (p::qs))))))] (zM<|zE (kB (g_least (p::qs) hl (by first | exact h0 | simpa using h0) (by first | exact hb | simpa using hb)))<|zM<|zE zJ<|zE zJ<|zN (uJ 1 uV vL)<|zT (qM jW)<|zM<|zZ) ?_
 refine jB<|kx [(5,(.ref 2 0))] [(2,some (bx (jK (jN (mR ((p::qs).getD 0 0) (p::qs))))))] (zM<|zE (kB (g_greatest (p::qs) hl h0 hb))<|zM<|zE zJ<|zE zJ<|zN (uJ 2 uV vL)<|zT (qM jW)<|zM<|zZ) ?_
 refine jB<|kx [] [(0,some (bx y1))] (zR (kR jW)<|zR (kR jW)<|zE (bH pl42 uK uO)<|zT (qM kF)<|zZ) ?_
 refine jD ⟨_,(kS (cs:=(bx y1)) (d:=y1) rfl rfl kF rfl rfl .nil),?_⟩
 rw[<- mnL_self p qs,<- mxL_self p qs];rfl
theorem g_zero(x:qE)(p:Rat)(hx:nL x p 140737488355328):jS Tryz.prog 13 [(jK x)] (.val (.bool ((zeroR x)))):=by
 have h1:=hx.n1
 have h2:=hx.n2
 refine uW Tryz.func13 ?_
 refine jB<|kx [(1,(.ref 0 0))] [(0,some (bx (jK x)))] (zN (vX 0)<|zM<|zZ) ?_
 refine jB<|kx [(2,(vb (((!x.num.neg&&!x.den.neg)&&(((x.num.gs.length:Nat):Int) == 0))&&(((x.den.gs.length:Nat):Int) == 0))))] [] ?_ ?_
 ·refine zE (kN zG)<|zE (kN vO)<|zR (qJ fG)<|zE cC<|zE (oV (vb (!x.num.neg)) (qA (by kernel_rfl)))<|?_
  rcases hb1:(!x.num.neg) with _ | _
  ·exact zK<|zK<|zK<|zK<|zE yJ<|zM<|zK<|zK<|zK<|zK<|zK<|zE yJ<|zM<|zK<|zK<|zK<|zK<|zK<|zE yJ<|zM<|zZ
  ·refine zE (kN xF)<|zE (kN vO)<|zR (qJ fG)<|zE cC<|zE aB<|zE (oV (vb (true&&!x.den.neg)) (qA (by kernel_rfl)))<|?_
   rcases hb2:(true&&!x.den.neg) with _ | _
   ·exact zK<|zK<|zK<|zK<|zK<|zE yJ<|zM<|zK<|zK<|zK<|zK<|zK<|zE yJ<|zM<|zZ
   ·refine zE (kN zG)<|zE (kN vK)<|zR (qJ xX)<|zE (yH kJ)<|zE yP<|zE aB<|zE (oV (vb (true&&(((x.num.gs.length:Nat):Int) == 0))) (qA (by kernel_rfl)))<|?_
    rcases hb3:(true&&(((x.num.gs.length:Nat):Int) == 0)) with _ | _
    ·exact zK<|zK<|zK<|zK<|zK<|zE yJ<|zM<|zZ
    ·exact zE (kN xF)<|zE (kN vK)<|zR (qJ xX)<|zE (yH kJ)<|zE yP<|zE aB<|zM<|zZ
 refine jD ⟨_,(.tmp (d:=(.val (.bool ((((!x.num.neg&&!x.den.neg)&&(((x.num.gs.length:Nat):Int) == 0))&&(((x.den.gs.length:Nat):Int) == 0)))))) rfl .nil),?_⟩
 rfl
theorem h_hasR(a:jM)(p:Rat)(q:Rat)(hp:nL a.lo p 4294967296)(hq:nL a.hi q 4294967296)(x:qE)(v:Rat)(hx:nL x v 4294967296):jS Tryz.prog 35 [(jG a),(jK x)] (.val (.bool ((hasQ p q v)))):=by
 refine uW Tryz.func35 ?_
 refine jB<|kx [(2,(.ref 0 0)),(3,(.ref 1 0))] [(0,some (bx (jG a))),(1,some (bx (jK x)))] (zN (vX 0)<|zN (vX 1)<|zM<|zZ) ?_
 refine jB<|kx [(4,(vb (decide ((gC p v)<=0)&&decide ((gC v q)<=0))))] [] ?_ ?_
 ·refine zE (kN uX)<|zR (kR jW)<|zR (kR jW)<|zE (kB (bO a.lo x p v hp hx))<|zE oLe<|zE (oV (vb (decide ((gC p v)<=0))) (qA (by kernel_rfl)))<|?_
  rcases hb1:(decide ((gC p v)<=0)) with _ | _
  ·replace hb1:=xC hb1
   exact zK<|zK<|zK<|zK<|zK<|zE yJ<|zM<|zZ
  ·replace hb1:=vT hb1
   exact zR (kR jW)<|zE (kN vP)<|zR (kR jW)<|zE (kB (bO x a.hi v q hx hq))<|zE oLe<|zE aB<|zM<|zZ
 refine jD ⟨_,(.tmp (d:=(.val (.bool ((decide ((gC p v)<=0)&&decide ((gC v q)<=0)))))) rfl .nil),?_⟩
 rw[<- hasQ_eq];rfl
theorem h_add(a:jM)(p:Rat)(q:Rat)(hp:nL a.lo p 1073741824)(hq:nL a.hi q 1073741824)(b:jM)(r:Rat)(s:Rat)(hr:nL b.lo r 1073741824)(hs:nL b.hi s 1073741824):jS Tryz.prog 31 [(jG a),(jG b)] (jG (jM.mk (jN (p+r)) (jN (q+s)))):=by
 refine uW Tryz.func31 ?_
 refine jB<|kx [(2,(.ref 0 0)),(3,(.ref 1 0)),(4,(.ref 2 0))] [(0,some (bx (jG a))),(1,some (bx (jG b))),(2,some (bx (jG (jM.mk kO kO))))] (zN (vX 0)<|zN (vX 1)<|zN (uJ 2 uK uO)<|zZ) ?_
 refine jB<|kd [] [(2,some (bx (jG (jM.mk (jN (p+r)) (jN (q+s))))))] mo (wE (kN uX)<|wR (kR jW)<|wE (kN uX)<|wR (kR jW)<|wE (kB (g_add a.lo b.lo p r (jP hp) (jP hr)))<|wE (kN vP)<|wR (kR jW)<|wE (kN vP)<|wR (kR jW)<|wE (kB (g_add a.hi b.hi q s (jP hq) (jP hs)))<|wE (bH pl42 uK uO)<|wT (qM kF)<|wZ) ?_
 refine jD ⟨_,(kS (cs:=(bx (jG (jM.mk (jN (p+r)) (jN (q+s)))))) (d:=(jG (jM.mk (jN (p+r)) (jN (q+s))))) rfl rfl kF rfl rfl .nil),?_⟩
 rfl
theorem h_mul(a:jM)(p:Rat)(q:Rat)(hp:nL a.lo p 2147483648)(hq:nL a.hi q 2147483648)(b:jM)(r:Rat)(s:Rat)(hr:nL b.lo r 2147483648)(hs:nL b.hi s 2147483648):jS Tryz.prog 32 [(jG a),(jG b)] (jG (jM.mk (jN (nQ (p*r) [(p*s),(q*r),(q*s)])) (jN (mR (p*r) [(p*s),(q*r),(q*s)])))):=by
 let y1:=(jG (jM.mk (jN (nQ (p*r) [(p*s),(q*r),(q*s)])) (jN (mR (p*r) [(p*s),(q*r),(q*s)]))))
 refine uW Tryz.func32 ?_
 refine jB<|kx [(2,(.ref 0 0)),(3,(.ref 1 0)),(4,(.ref 2 0))] [(0,some (bx (jG a))),(1,some (bx (jG b))),(2,some (bx (jG (jM.mk kO kO))))] (zN (vX 0)<|zN (vX 1)<|zN (uJ 2 uK uO)<|zZ) ?_
 refine jB<|kd [] [(2,some (bx y1))] mo (wE (kN uX)<|wR (kR jW)<|wE (kN uX)<|wR (kR jW)<|wE (kB (g_mul a.lo b.lo p r (jP hp) (jP hr)))<|wE (kN uX)<|wR (kR jW)<|wE (kN vP)<|wR (kR jW)<|wE (kB (g_mul a.lo b.hi p s (jP hp) (jP hs)))<|wE (kN vP)<|wR (kR jW)<|wE (kN uX)<|wR (kR jW)<|wE (kB (g_mul a.hi b.lo q r (jP hq) (jP hr)))<|wE (kN vP)<|wR (kR jW)<|wE (kN vP)<|wR (kR jW)<|wE (kB (g_mul a.hi b.hi q s (jP hq) (jP hs)))<|wE (fF xG uV vL)<|wE (kB (h_spanned (p*r) [(p*s),(q*r),(q*s)] (List.forall_mem_cons.2 ⟨(vZ (k:=4294967296) hp.ql hr.ql),(List.forall_mem_cons.2 ⟨(vZ (k:=4294967296) hp.ql hs.ql),(List.forall_mem_cons.2 ⟨(vZ (k:=4294967296) hq.ql hr.ql),(List.forall_mem_cons.2 ⟨(vZ (k:=4294967296) hq.ql hs.ql),(fun a h=>by cases h)⟩)⟩)⟩)⟩) (by simp)))<|wT (qM kF)<|wZ) ?_
 refine jD ⟨_,(kS (cs:=(bx y1)) (d:=y1) rfl rfl kF rfl rfl .nil),?_⟩
 rfl
theorem xK(h107:107≠1000000)(x:jM):yR 1000000 (jG x):=.agg (eG (.val _) (eG (avo_vals h107 _) (eG (.val _) (eG (avo_vals h107 _) (eG (.val _) (eG (avo_vals h107 _) (eG (.val _) (eG (avo_vals h107 _) avo_nil))))))))
end Go.Proofs.YtckccjhflbljgaaGreatDoor
