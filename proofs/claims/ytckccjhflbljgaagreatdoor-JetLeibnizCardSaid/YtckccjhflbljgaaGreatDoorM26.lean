/- Part 26 of a proof: rules, plain facts, and functions walked. -/
import Derived.Test.YtckccjhflbljgaaGreatDoorM25
import Derived.Test.YtckccjhflbljgaaGreatDoorM11
import Derived.Test.YtckccjhflbljgaaGreatDoorM12
import Derived.Test.YtckccjhflbljgaaGreatDoorM19
import Derived.Test.YtckccjhflbljgaaGreatDoorM17
set_option linter.all false
set_option maxRecDepth 4000
namespace Go.Proofs.YtckccjhflbljgaaGreatDoor
open Go.Fid
theorem qF:uM Tryz.prog 24=some (32,4):=by kernel_rfl
theorem dX:uM Tryz.prog 43=some (42,8):=by kernel_rfl
theorem pl42:eF Tryz.prog 42=some [(0,4),(4,4)]:=by kernel_rfl
theorem kN:qD Tryz.prog 42=some (true,8):=by kernel_rfl
theorem xT:vX Tryz.prog 42=some [.bool false,.slice none 0 0,.bool false,.slice none 0 0,.bool false,.slice none 0 0,.bool false,.slice none 0 0]:=by kernel_rfl
theorem xZ:eL [.bool false,.slice none 0 0,.bool false,.slice none 0 0,.bool false,.slice none 0 0,.bool false,.slice none 0 0] [.val (.bool false),.sl 107 1 [],.val (.bool false),.sl 107 1 [],.val (.bool false),.sl 107 1 [],.val (.bool false),.sl 107 1 []]:=by simp [eL,Value.oneCell']
theorem h_valid(a:kK)(ha:GOk 4294967296 a):jQ Tryz.prog 73 [(jN a)] (.val (.bool ((zJ a)))):=by
 refine uR Tryz.func73 ?_
 refine jB<|kx [(1,(.ref 0 0))] [(0,some (bx (jN a)))] (zN (xO 0)<|zM<|zZ) ?_
 refine jB<|kx [(2,(vb (((kM a.lo)&&(kM a.hi))&&decide ((mE (vC a.lo) (vC a.hi))<=0))))] [] ?_ ?_
 ·refine zE (kI yF)<|zR (kP jT)<|zE (jY (lM a.lo (vC a.lo) (jW ha.1)))<|zE (oV (vb (kM a.lo)) (kW (by kernel_rfl)))<|?_
  rcases hb1:(kM a.lo) with _ | _
  ·exact zK<|zK<|zK<|zE vL<|zM<|zK<|zK<|zK<|zK<|zK<|zK<|zE vL<|zM<|zZ
  ·refine zE (kI yB)<|zR (kP jT)<|zE (jY (lM a.hi (vC a.hi) (jW ha.2)))<|zE aD<|zE (oV (vb (true&&(kM a.hi))) (kW (by kernel_rfl)))<|?_
   rcases hb2:(true&&(kM a.hi)) with _ | _
   ·exact zK<|zK<|zK<|zK<|zK<|zK<|zE vL<|zM<|zZ
   ·exact zE (kI yF)<|zR (kP jT)<|zE (kI yB)<|zR (kP jT)<|zE (jY (g_compare a.lo a.hi (vC a.lo) (vC a.hi) ha.1 ha.2))<|zE oLe<|zE aD<|zM<|zZ
 refine jF ⟨_,(.tmp (d:=(.val (.bool ((((kM a.lo)&&(kM a.hi))&&decide ((mE (vC a.lo) (vC a.hi))<=0)))))) rfl .nil),?_⟩
 rw[validG_eq];rfl
theorem i_valid(a:kK)(ha:GOk 4294967296 a):jQ Tryz.prog 76 [(jN a)] (.val (.bool ((zJ a)))):=by
 refine uR Tryz.func76 ?_
 refine jB<|kx [(1,(.ref 0 0))] [(0,some (bx (jN a)))] (zN (xO 0)<|zM<|zZ) ?_
 refine jB<|kx [(2,(vb (((kM a.lo)&&(kM a.hi))&&decide ((mE (vC a.lo) (vC a.hi))<=0))))] [] ?_ ?_
 ·refine zE (kI yF)<|zR (kP jT)<|zE (jY (f_valid a.lo (vC a.lo) (jW ha.1)))<|zE (oV (vb (kM a.lo)) (kW (by kernel_rfl)))<|?_
  rcases hb1:(kM a.lo) with _ | _
  ·exact zK<|zK<|zK<|zE vL<|zM<|zK<|zK<|zK<|zK<|zK<|zK<|zE vL<|zM<|zZ
  ·refine zE (kI yB)<|zR (kP jT)<|zE (jY (f_valid a.hi (vC a.hi) (jW ha.2)))<|zE aD<|zE (oV (vb (true&&(kM a.hi))) (kW (by kernel_rfl)))<|?_
   rcases hb2:(true&&(kM a.hi)) with _ | _
   ·exact zK<|zK<|zK<|zK<|zK<|zK<|zE vL<|zM<|zZ
   ·exact zE (kI yF)<|zR (kP jT)<|zE (kI yB)<|zR (kP jT)<|zE (jY (bT a.lo a.hi (vC a.lo) (vC a.hi) (jW ha.1) (jW ha.2)))<|zE oLe<|zE aD<|zM<|zZ
 refine jF ⟨_,(.tmp (d:=(.val (.bool ((((kM a.lo)&&(kM a.hi))&&decide ((mE (vC a.lo) (vC a.hi))<=0)))))) rfl .nil),?_⟩
 rw[validG_eq];rfl
theorem i_valids(l:List kK)(hl:∀ a∈l,GOk 4294967296 a)(hb:l.length<=1000000):jQ Tryz.prog 198 [(.sl 42 8 (List.map jN l))] (.val (.bool ((l.all zJ)))):=by
 let y1:=(kK.mk uG uG)
 refine uR Tryz.func198 ?_
 refine jB<|kx [] [] (zM<|zZ) ?_
 refine jB<|jB<|kx [(5,(vl 42 8 jN l)),(6,(kF l.length)),(7,(kF 0))] [] (zM<|zE (xW dX)<|zM<|zZ) ?_
 refine jH<|kO (α:=Nat) (fun i=>⟨[(5,(vl 42 8 jN l)),(6,(kF l.length)),(7,(kF i))],[]⟩) (fun i=>i<=l.length/\(l.take i).all zJ=true) (fun i=>l.length-i) 0 wk ⟨Nat.zero_le _,by simp⟩ ?_
 rintro i ⟨hi,hv⟩
 refine jB<|kx [(8,(vb (decide (((i:Nat):Int)<((l.length:Nat):Int)))))] [] (zE gZ<|zZ) ?_
 refine jB<|jE rfl (fun h1=>?_) (fun h1=>?_)
 ·replace h1:=vY h1
  refine jD<|jB<|jH<|jB<|kx [(4,(.ref 0 0))] [(0,some (bx (jN (l.getD i y1))))] (zE (cT dX i y1)<|zE (eJ kN)<|zN (vH 0 xT xZ)<|zT (qJ kN)<|zZ) ?_
  refine jB<|kx [(13,(vb (!(zJ (l.getD i y1)))))] [] (zR (kP kN)<|zE (jY (i_valid (l.getD i y1) (gok_get hl (show i<l.length by omega))))<|zE yT<|zZ) ?_
  refine jE rfl (fun h2=>?_) (fun h2=>?_)
  ·refine jB<|kx [(2,(vb false))] [] (zM<|zZ) ?_
   refine jF ⟨_,(.tmp (d:=(.val (.bool (false)))) rfl .nil),?_⟩
   rw[all_not (f:=zJ) (l:=l) (i:=i) (d:=(kK.mk uG uG)) (by omega) (by simpa using h2)];rfl
  ·refine jD<|kx [(7,(kF (i+1)))] [] (zE (vT (i+1))<|zM<|zZ) ?_
   exact ⟨(i+1),wk,⟨by omega,all_take (d:=(kK.mk uG uG)) (by omega) hv (by simpa using h2)⟩,(by first|omega|(dsimp only;omega))⟩
 ·replace h1:=xC h1
  have hie:i=l.length:=by omega
  rw[hie,List.take_length] at hv
  refine kL<|jB<|kx [(2,(vb true))] [] (zM<|zZ) ?_
  refine jF ⟨_,(.tmp (d:=(.val (.bool (true)))) rfl .nil),?_⟩
  rw[hv];rfl
theorem i_zero(p q:Rat)(hp:QL p 1073741824)(hq:QL q 1073741824):jQ Tryz.prog 201 [(jN (kK.mk (jM p) (jM q)))] (.val (.bool ((mW p q)))):=by
 refine uR Tryz.func201 ?_
 refine jB<|kx [(1,(.ref 0 0))] [(0,some (bx (jN (kK.mk (jM p) (jM q)))))] (zN (xO 0)<|zM<|zZ) ?_
 refine jB<|kx [(2,(vb (decide ((fU p)<=0)&&decide (0<=(fU q)))))] [] ?_ ?_
 ·refine zE (kI yF)<|zR (kP jT)<|zE (jY (f_sign (jM p) p (jW (kC hp))))<|zE oLe<|zE (oV (vb (decide ((fU p)<=0))) (kW (by kernel_rfl)))<|?_
  rcases hb1:(decide ((fU p)<=0)) with _ | _
  ·replace hb1:=xC hb1
   exact zK<|zK<|zK<|zK<|zE vL<|zM<|zZ
  ·replace hb1:=vY hb1
   exact zE (kI yB)<|zR (kP jT)<|zE (jY (f_sign (jM q) q (jW (kC hq))))<|zE oGe<|zE aD<|zM<|zZ
 refine jF ⟨_,(.tmp (d:=(.val (.bool ((decide ((fU p)<=0)&&decide (0<=(fU q))))))) rfl .nil),?_⟩
 rw[zeroG_eq];rfl
theorem i_spanned(p:Rat)(qs:List Rat)(hp:QL p 17179869184)(hqs:∀ q∈qs,QL q 17179869184)(hb:qs.length<=1000000):jQ Tryz.prog 200 [(jG (jM p)),(.sl 32 4 (List.map jG (List.map jM qs)))] (jN (kK.mk (jM (mnL p qs)) (jM (mxL p qs)))):=by
 refine uR Tryz.func200 ?_
 refine jB<|kx [(2,(.ref 0 0)),(4,(.ref 1 0))] [(0,some (bx (jG (jM p)))),(1,some (bx (jN (kK.mk uG uG))))] (zN (xO 0)<|zN (vH 1 xT xZ)<|zZ) ?_
 refine jB<|kx [(5,(.ref 2 0))] [(2,some (bx (jN (kK.mk (jM p) (jM p)))))] (zR (kP jT)<|zR (kP jT)<|zE (oBd pl42 xT xZ)<|zN (vH 2 xT xZ)<|zT (qJ kN)<|zZ) ?_
 refine jB<|jB<|kx [(11,(vl 32 4 jG (List.map jM qs))),(12,(kF qs.length)),(13,(kF 0))] [] (zM<|zE (oLn qF qs.length)<|zM<|zZ) ?_
 refine jH<|kO (α:=Nat × Rat × Rat) (fun (i,lo,hi)=>⟨[(4,(.ref 1 0)),(5,(.ref 2 0)),(11,(vl 32 4 jG (List.map jM qs))),(12,(kF qs.length)),(13,(kF i))],[(1,some (bx (jN (kK.mk uG uG)))),(2,some (bx (jN (kK.mk (jM lo) (jM hi)))))]⟩) (fun (i,lo,hi)=>i<=qs.length/\lo=mnL p (qs.take i)/\hi=mxL p (qs.take i)) (fun (i,lo,hi)=>qs.length-i) (0,p,p) wk ⟨Nat.zero_le _,rfl,rfl⟩ ?_
 rintro ⟨i,lo,hi⟩ ⟨hi1,hl,hh⟩
 have htk:∀ q∈qs.take i,QL q 17179869184:=fun q hq=>hqs q (List.mem_of_mem_take hq)
 have hlo:QL lo 17179869184:=by rw[hl];exact ql_mnL hp htk
 have hhi:QL hi 17179869184:=by rw[hh];exact ql_mxL hp htk
 refine jB<|kx [(14,(vb (decide (((i:Nat):Int)<((qs.length:Nat):Int)))))] [] (zE gZ<|zZ) ?_
 refine jB<|jE rfl (fun h1=>?_) (fun h1=>?_)
 ·replace h1:=vY h1
  refine jD<|jB<|jH<|jB<|kx [(7,(.ref 3 0))] [(3,some (bx (jG (jM (qs.getD i 0)))))] (zE (oXm qF jM i 0)<|zE (eJ jT)<|zN (vH 3 qY uJ)<|zT (qJ jT)<|zZ) ?_
  refine jB<|jB<|kx [(21,(vb (decide ((mE (qs.getD i 0) lo)<0))))] [] (zR (kP jT)<|zE (kI yF)<|zR (kP jT)<|zE (jY (bT (jM (qs.getD i 0)) (jM lo) (qs.getD i 0) lo (kC (ql_getD hqs (by decide) i)) (kC hlo)))<|zE gZ<|zZ) ?_
  refine jE (b:=decide ((mE (qs.getD i 0) lo)<0)) rfl (fun h2=>?_) (fun h2=>?_)
  ·replace h2:=vY h2
   have hc1:=h2
   refine kx [] [(2,some (bx (jN (kK.mk (jM (qs.getD i 0)) (jM hi)))))] (zR (kP jT)<|zE (kI yF)<|zT (qJ jT)<|zZ) ?_
   refine jB<|kx [(28,(vb (decide (0<(mE (qs.getD i 0) hi)))))] [] (zR (kP jT)<|zE (kI yB)<|zR (kP jT)<|zE (jY (bT (jM (qs.getD i 0)) (jM hi) (qs.getD i 0) hi (kC (ql_getD hqs (by decide) i)) (kC hhi)))<|zE dV<|zZ) ?_
   refine jE (b:=decide (0<(mE (qs.getD i 0) hi))) rfl (fun h3=>?_) (fun h3=>?_)
   ·replace h3:=vY h3
    have hc2:=h3
    refine kx [] [(2,some (bx (jN (kK.mk (jM (qs.getD i 0)) (jM (qs.getD i 0))))))] (zR (kP jT)<|zE (kI yB)<|zT (qJ jT)<|zZ) ?_
    refine kx [(13,(kF (i+1)))] [] (zE (vT (i+1))<|zM<|zZ) ?_
    exact ⟨(i+1,qs.getD i 0,qs.getD i 0),wk,⟨by omega,mnL_lt (by omega) hl hc1,mxL_gt (by omega) hh hc2⟩,(by first|omega|(dsimp only;omega))⟩
   ·replace h3:=xC h3
    have hc2:=h3
    refine jD<|kx [(13,(kF (i+1)))] [] (zE (vT (i+1))<|zM<|zZ) ?_
    exact ⟨(i+1,qs.getD i 0,hi),wk,⟨by omega,mnL_lt (by omega) hl hc1,mxL_le (by omega) hh hc2⟩,(by first|omega|(dsimp only;omega))⟩
  ·replace h2:=xC h2
   have hc1:=h2
   refine jD<|jB<|kx [(28,(vb (decide (0<(mE (qs.getD i 0) hi)))))] [] (zR (kP jT)<|zE (kI yB)<|zR (kP jT)<|zE (jY (bT (jM (qs.getD i 0)) (jM hi) (qs.getD i 0) hi (kC (ql_getD hqs (by decide) i)) (kC hhi)))<|zE dV<|zZ) ?_
   refine jE (b:=decide (0<(mE (qs.getD i 0) hi))) rfl (fun h4=>?_) (fun h4=>?_)
   ·replace h4:=vY h4
    have hc2:=h4
    refine kx [] [(2,some (bx (jN (kK.mk (jM lo) (jM (qs.getD i 0))))))] (zR (kP jT)<|zE (kI yB)<|zT (qJ jT)<|zZ) ?_
    refine kx [(13,(kF (i+1)))] [] (zE (vT (i+1))<|zM<|zZ) ?_
    exact ⟨(i+1,lo,qs.getD i 0),wk,⟨by omega,mnL_ge (by omega) hl hc1,mxL_gt (by omega) hh hc2⟩,(by first|omega|(dsimp only;omega))⟩
   ·replace h4:=xC h4
    have hc2:=h4
    refine jD<|kx [(13,(kF (i+1)))] [] (zE (vT (i+1))<|zM<|zZ) ?_
    exact ⟨(i+1,lo,hi),wk,⟨by omega,mnL_ge (by omega) hl hc1,mxL_le (by omega) hh hc2⟩,(by first|omega|(dsimp only;omega))⟩
 ·replace h1:=xC h1
  have hie:i=qs.length:=by omega
  rw[hie,List.take_length] at hl hh
  refine kL<|jB<|kx [] [(1,some (bx (jN (kK.mk (jM lo) (jM hi)))))] (zR (kP kN)<|zT (qJ kN)<|zZ) ?_
  refine jF ⟨_,(kR (cs:=(bx (jN (kK.mk (jM lo) (jM hi))))) (d:=(jN (kK.mk (jM lo) (jM hi)))) rfl rfl kN rfl rfl .nil),?_⟩
  rw[hl,hh];rfl
theorem i_quot(p q:Rat)(hp:QL p 1073741824)(hq:QL q 1073741824)(hq0:q≠0):jQ Tryz.prog 202 [(jG (jM p)),(jG (jM q))] (jG (jM (p / q))):=by
 refine uR Tryz.func202 ?_
 refine jB<|kx [(2,(.ref 0 0)),(3,(.ref 1 0)),(4,(.ref 2 0))] [(0,some (bx (jG (jM p)))),(1,some (bx (jG (jM q)))),(2,some (bx (jG uG)))] (zN (xO 0)<|zN (xO 1)<|zN (vH 2 qY uJ)<|zZ) ?_
 refine jB<|kx [(5,(.ref 3 0))] [(3,some (bx (jG (divR p q))))] (zR (kP jT)<|zR (kP jT)<|zE (jY (f_divide (jM p) (jM q) p q (jW (kC hp)) (jW (kC hq))))<|zM<|zE xJ<|zE xJ<|zN (vH 3 qY uJ)<|zT (qJ jT)<|zM<|zZ) ?_
 refine jB<|kx [] [(2,some (bx (jG (divR p q))))] (zR (kP jT)<|zT (qJ jT)<|zZ) ?_
 refine jF ⟨_,(kR (cs:=(bx (jG (divR p q)))) (d:=(jG (divR p q))) rfl rfl jT rfl rfl .nil),?_⟩
 rw[divR_ne hq0];rfl
theorem i_cornersM(p q r s:Rat)(hp:QL p 1073741824)(hq:QL q 1073741824)(hr:QL r 1073741824)(hs:QL s 1073741824):jQ Tryz.prog 199 [(.val (.func (.func 47) #[] #[])),(jN (kK.mk (jM p) (jM q))),(jN (kK.mk (jM r) (jM s)))] (jN (kK.mk (jM (mnL (p*r) [(p*s),(q*r),(q*s)])) (jM (mxL (p*r) [(p*s),(q*r),(q*s)])))):=by
 let y1:=(jN (kK.mk (jM (mnL (p*r) [(p*s),(q*r),(q*s)])) (jM (mxL (p*r) [(p*s),(q*r),(q*s)]))))
 refine uR Tryz.func199 ?_
 refine jB<|kx [(4,(.ref 0 0)),(5,(.ref 1 0)),(6,(.ref 2 0))] [(0,some (bx (jN (kK.mk (jM p) (jM q))))),(1,some (bx (jN (kK.mk (jM r) (jM s))))),(2,some (bx (jN (kK.mk uG uG))))] (zN (xO 0)<|zN (xO 1)<|zN (vH 2 xT xZ)<|zZ) ?_
 refine jB<|kd [] [(2,some (bx y1))] mo (wM<|wE (kI yF)<|wR (kP jT)<|wE (kI yF)<|wR (kP jT)<|wE (jY (f_mul (jM p) (jM r) p r (jW (kC hp)) (jW (kC hr))))<|wM<|wE (kI yF)<|wR (kP jT)<|wE (kI yB)<|wR (kP jT)<|wE (jY (f_mul (jM p) (jM s) p s (jW (kC hp)) (jW (kC hs))))<|wM<|wE (kI yB)<|wR (kP jT)<|wE (kI yF)<|wR (kP jT)<|wE (jY (f_mul (jM q) (jM r) q r (jW (kC hq)) (jW (kC hr))))<|wM<|wE (kI yB)<|wR (kP jT)<|wE (kI yB)<|wR (kP jT)<|wE (jY (f_mul (jM q) (jM s) q s (jW (kC hq)) (jW (kC hs))))<|wE (eY qF qY uJ)<|wE (jY (i_spanned (p*r) [(p*s),(q*r),(q*s)] (uE (gS (k:=2147483648) hp hr)) (List.forall_mem_cons.2 ⟨(uE (gS (k:=2147483648) hp hs)),(List.forall_mem_cons.2 ⟨(uE (gS (k:=2147483648) hq hr)),(List.forall_mem_cons.2 ⟨(uE (gS (k:=2147483648) hq hs)),(fun a h=>by cases h)⟩)⟩)⟩) (by simp)))<|wT (qJ kN)<|wZ) ?_
 refine jF ⟨_,(kR (cs:=(bx y1)) (d:=y1) rfl rfl kN rfl rfl .nil),?_⟩
 rfl
theorem i_cornersD(p q r s:Rat)(hp:QL p 1073741824)(hq:QL q 1073741824)(hr:QL r 1073741824)(hs:QL s 1073741824)(hr0:r≠0)(hs0:s≠0):jQ Tryz.prog 199 [(.val (.func (.func 202) #[] #[])),(jN (kK.mk (jM p) (jM q))),(jN (kK.mk (jM r) (jM s)))] (jN (kK.mk (jM (mnL (p / r) [(p / s),(q / r),(q / s)])) (jM (mxL (p / r) [(p / s),(q / r),(q / s)])))):=by
 let y1:=(jN (kK.mk (jM (mnL (p / r) [(p / s),(q / r),(q / s)])) (jM (mxL (p / r) [(p / s),(q / r),(q / s)]))))
 refine uR Tryz.func199 ?_
 refine jB<|kx [(4,(.ref 0 0)),(5,(.ref 1 0)),(6,(.ref 2 0))] [(0,some (bx (jN (kK.mk (jM p) (jM q))))),(1,some (bx (jN (kK.mk (jM r) (jM s))))),(2,some (bx (jN (kK.mk uG uG))))] (zN (xO 0)<|zN (xO 1)<|zN (vH 2 xT xZ)<|zZ) ?_
 refine jB<|kd [] [(2,some (bx y1))] mo (wM<|wE (kI yF)<|wR (kP jT)<|wE (kI yF)<|wR (kP jT)<|wE (jY (i_quot p r hp hr (by assumption)))<|wM<|wE (kI yF)<|wR (kP jT)<|wE (kI yB)<|wR (kP jT)<|wE (jY (i_quot p s hp hs (by assumption)))<|wM<|wE (kI yB)<|wR (kP jT)<|wE (kI yF)<|wR (kP jT)<|wE (jY (i_quot q r hq hr (by assumption)))<|wM<|wE (kI yB)<|wR (kP jT)<|wE (kI yB)<|wR (kP jT)<|wE (jY (i_quot q s hq hs (by assumption)))<|wE (eY qF qY uJ)<|wE (jY (i_spanned (p / r) [(p / s),(q / r),(q / s)] (uE (lA (k:=2147483648) hp hr)) (List.forall_mem_cons.2 ⟨(uE (lA (k:=2147483648) hp hs)),(List.forall_mem_cons.2 ⟨(uE (lA (k:=2147483648) hq hr)),(List.forall_mem_cons.2 ⟨(uE (lA (k:=2147483648) hq hs)),(fun a h=>by cases h)⟩)⟩)⟩) (by simp)))<|wT (qJ kN)<|wZ) ?_
 refine jF ⟨_,(kR (cs:=(bx y1)) (d:=y1) rfl rfl kN rfl rfl .nil),?_⟩
 rfl
theorem i_mul(p q r s:Rat)(hp:QL p 1073741824)(hq:QL q 1073741824)(hr:QL r 1073741824)(hs:QL s 1073741824)(hpq:p<=q)(hrs:r<=s):jQ Tryz.prog 173 [(jN (kK.mk (jM p) (jM q))),(jN (kK.mk (jM r) (jM s)))] (.tup [(jN (kK.mk (jM (mnL (p*r) [(p*s),(q*r),(q*s)])) (jM (mxL (p*r) [(p*s),(q*r),(q*s)])))),(.val (.int .i64 (0)))]):=by
 let y1:=(jN (kK.mk (jM (mnL (p*r) [(p*s),(q*r),(q*s)])) (jM (mxL (p*r) [(p*s),(q*r),(q*s)]))))
 refine uR Tryz.func173 ?_
 refine jB<|kx [(2,(.ref 0 0)),(3,(.ref 1 0)),(4,(.ref 2 0))] [(0,some (bx (jN (kK.mk (jM p) (jM q))))),(1,some (bx (jN (kK.mk (jM r) (jM s))))),(2,some (bx (jN (kK.mk uG uG))))] (zN (xO 0)<|zN (xO 1)<|zN (vH 2 xT xZ)<|zM<|zZ) ?_
 refine jB<|jB<|kx [(10,(vb false))] [] (zR (kP kN)<|zR (kP kN)<|zE (eY dX xT xZ)<|zE (jY (by have h:=i_valids [(kK.mk (jM p) (jM q)),(kK.mk (jM r) (jM s))] (List.forall_mem_cons.2 ⟨(cQ (⟨qX (jW (kC hp) (by decide:1073741824<=1073741824)),qX (jW (kC hq) (by decide:1073741824<=1073741824))⟩)),(List.forall_mem_cons.2 ⟨(cQ (⟨qX (jW (kC hr) (by decide:1073741824<=1073741824)),qX (jW (kC hs) (by decide:1073741824<=1073741824))⟩)),(fun a h=>by cases h)⟩)⟩) (by simp);rw[show List.all [(kK.mk (jM p) (jM q)),(kK.mk (jM r) (jM s))] zJ=true from by simp [nP hpq,nP hrs]] at h;exact h))<|zE yT<|zZ) ?_
 refine qE ?_
 refine jD<|jB<|kx [(5,(kF 0))] [(2,some (bx y1))] (zR (kP kN)<|zR (kP kN)<|zE (jY (i_cornersM p q r s hp hq hr hs))<|zT (qJ kN)<|zM<|zZ) ?_
 refine jF ⟨_,(kR (cs:=(bx y1)) (d:=y1) rfl rfl kN rfl rfl (.tmp (d:=(.val (.int .i64 (0)))) rfl .nil)),?_⟩
 rfl
theorem i_divide(p q r s:Rat)(hp:QL p 1073741824)(hq:QL q 1073741824)(hr:QL r 1073741824)(hs:QL s 1073741824)(hpq:p<=q)(hrs:r<=s)(hz:mW r s=false):jQ Tryz.prog 175 [(jN (kK.mk (jM p) (jM q))),(jN (kK.mk (jM r) (jM s)))] (.tup [(jN (kK.mk (jM (mnL (p / r) [(p / s),(q / r),(q / s)])) (jM (mxL (p / r) [(p / s),(q / r),(q / s)])))),(.val (.int .i64 (0)))]):=by
 obtain ⟨hr0,hs0⟩:=zeroG_ne hrs hz
 let y1:=(jN (kK.mk (jM (mnL (p / r) [(p / s),(q / r),(q / s)])) (jM (mxL (p / r) [(p / s),(q / r),(q / s)]))))
 refine uR Tryz.func175 ?_
 refine jB<|kx [(2,(.ref 0 0)),(3,(.ref 1 0)),(4,(.ref 2 0))] [(0,some (bx (jN (kK.mk (jM p) (jM q))))),(1,some (bx (jN (kK.mk (jM r) (jM s))))),(2,some (bx (jN (kK.mk uG uG))))] (zN (xO 0)<|zN (xO 1)<|zN (vH 2 xT xZ)<|zM<|zZ) ?_
 refine jB<|jB<|kx [(11,(vb false))] [] (zR (kP kN)<|zR (kP kN)<|zE (eY dX xT xZ)<|zE (jY (by have h:=i_valids [(kK.mk (jM p) (jM q)),(kK.mk (jM r) (jM s))] (List.forall_mem_cons.2 ⟨(cQ (⟨qX (jW (kC hp) (by decide:1073741824<=1073741824)),qX (jW (kC hq) (by decide:1073741824<=1073741824))⟩)),(List.forall_mem_cons.2 ⟨(cQ (⟨qX (jW (kC hr) (by decide:1073741824<=1073741824)),qX (jW (kC hs) (by decide:1073741824<=1073741824))⟩)),(fun a h=>by cases h)⟩)⟩) (by simp);rw[show List.all [(kK.mk (jM p) (jM q)),(kK.mk (jM r) (jM s))] zJ=true from by simp [nP hpq,nP hrs]] at h;exact h))<|zE yT<|zZ) ?_
 refine qE ?_
 refine jD<|jB<|jB<|kx [(14,(vb false))] [] (zR (kP kN)<|zE (jY (by have h:=i_zero r s hr hs;rw[show mW r s=false from hz] at h;exact h))<|zZ) ?_
 refine qE ?_
 refine jD<|jB<|kx [(6,(.d (.val (.func (.func 202) #[] #[]))))] [] (zM<|zZ) ?_
 refine jB<|kx [(5,(kF 0))] [(2,some (bx y1))] (zM<|zR (kP kN)<|zR (kP kN)<|zE (jY (i_cornersD p q r s hp hq hr hs (by assumption) (by assumption)))<|zT (qJ kN)<|zM<|zZ) ?_
 refine jF ⟨_,(kR (cs:=(bx y1)) (d:=y1) rfl rfl kN rfl rfl (.tmp (d:=(.val (.int .i64 (0)))) rfl .nil)),?_⟩
 rfl
theorem i_square(p q:Rat)(hp:QL p 1073741824)(hq:QL q 1073741824)(hpq:p<=q):jQ Tryz.prog 174 [(jN (kK.mk (jM p) (jM q)))] (.tup [(jN (kK.mk (jM (sqL p q)) (jM (sqH p q)))),(.val (.int .i64 (0)))]):=by
 let y2:=(jN (kK.mk (jM ((0:Int):Rat)) (jM (mxL (p*p) [(q*q)]))))
 let y1:=(jN (kK.mk (jM (mnL (p*p) [(q*q)])) (jM (mxL (p*p) [(q*q)]))))
 refine uR Tryz.func174 ?_
 refine jB<|kx [(1,(.ref 0 0)),(2,(.ref 1 0))] [(0,some (bx (jN (kK.mk (jM p) (jM q))))),(1,some (bx (jN (kK.mk uG uG))))] (zN (xO 0)<|zN (vH 1 xT xZ)<|zM<|zZ) ?_
 refine jB<|jB<|kx [(7,(vb false))] [] (zR (kP kN)<|zE (jY (by have h:=i_valid (kK.mk (jM p) (jM q)) (cQ (⟨qX (jW (kC hp) (by decide:1073741824<=1073741824)),qX (jW (kC hq) (by decide:1073741824<=1073741824))⟩));rw[show zJ (kK.mk (jM p) (jM q))=true from nP hpq] at h;exact h))<|zE yT<|zZ) ?_
 refine qE ?_
 refine jD<|jB<|kd [(4,(.ref 2 0))] [(2,some (bx y1))] mo (wE (kI yF)<|wR (kP jT)<|wE (kI yF)<|wR (kP jT)<|wE (jY (f_mul (jM p) (jM p) p p (jW (kC hp)) (jW (kC hp))))<|wE (kI yB)<|wR (kP jT)<|wE (kI yB)<|wR (kP jT)<|wE (jY (f_mul (jM q) (jM q) q q (jW (kC hq)) (jW (kC hq))))<|wE (eY qF qY uJ)<|wE (jY (i_spanned (p*p) [(q*q)] (uE (gS (k:=2147483648) hp hp)) (List.forall_mem_cons.2 ⟨(uE (gS (k:=2147483648) hq hq)),(fun a h=>by cases h)⟩) (by simp)))<|wN (vH 2 xT xZ)<|wT (qJ kN)<|wZ) ?_
 refine jB<|jB<|kx [(22,(vb (mW p q)))] [] (zR (kP kN)<|zE (jY (i_zero p q hp hq))<|zZ) ?_
 refine jE (b:=(mW p q)) rfl (fun h1=>?_) (fun h1=>?_)
 ·refine kx [] [(2,some (bx y2))] (zE (jY (aX 0))<|zE (kI yF)<|zT (qJ jT)<|zZ) ?_
  refine jB<|kx [(3,(kF 0))] [(1,some (bx y2))] (zR (kP kN)<|zT (qJ kN)<|zM<|zZ) ?_
  refine jF ⟨_,(kR (cs:=(bx y2)) (d:=y2) rfl rfl kN rfl rfl (.tmp (d:=(.val (.int .i64 (0)))) rfl .nil)),?_⟩
  rw[show sqL p q=_ from if_pos h1];rfl
 ·refine jD<|jB<|kx [(3,(kF 0))] [(1,some (bx y1))] (zR (kP kN)<|zT (qJ kN)<|zM<|zZ) ?_
  refine jF ⟨_,(kR (cs:=(bx y1)) (d:=y1) rfl rfl kN rfl rfl (.tmp (d:=(.val (.int .i64 (0)))) rfl .nil)),?_⟩
  rw[show sqL p q=_ from if_neg (by rw[h1];simp)];rfl
theorem h_whole(lo hi:Int)(h1:-9223372036854775808<=lo:=by decide)(h2:lo<=9223372036854775807:=by decide)(h3:-9223372036854775808<=hi:=by decide)(h4:hi<=9223372036854775807:=by decide):jQ Tryz.prog 30 [(.val (.int .i64 (lo))),(.val (.int .i64 (hi)))] (jN (kK.mk (jM ((lo:Int):Rat)) (jM ((hi:Int):Rat)))):=by
 refine uR Tryz.func30 ?_
 refine jB<|kx [(4,(.ref 0 0))] [(0,some (bx (jN (kK.mk uG uG))))] (zN (vH 0 xT xZ)<|zZ) ?_
 refine jB<|kx [] [(0,some (bx (jN (kK.mk (jM ((lo:Int):Rat)) (jM ((hi:Int):Rat))))))] (zM<|zE (jY (g_whole lo (by omega) (by omega)))<|zM<|zE (jY (g_whole hi (by omega) (by omega)))<|zE (oBd pl42 xT xZ)<|zT (qJ kN)<|zZ) ?_
 refine jF ⟨_,(kR (cs:=(bx (jN (kK.mk (jM ((lo:Int):Rat)) (jM ((hi:Int):Rat)))))) (d:=(jN (kK.mk (jM ((lo:Int):Rat)) (jM ((hi:Int):Rat))))) rfl rfl kN rfl rfl .nil),?_⟩
 rfl
theorem h_same(a b:kK)(ha:GOk 4294967296 a)(hb:GOk 4294967296 b):jQ Tryz.prog 43 [(jN a),(jN b)] (.val (.bool ((sameG a b)))):=by
 refine uR Tryz.func43 ?_
 refine jB<|kx [(2,(.ref 0 0)),(3,(.ref 1 0))] [(0,some (bx (jN a))),(1,some (bx (jN b)))] (zN (xO 0)<|zN (xO 1)<|zM<|zZ) ?_
 refine jB<|kx [(4,(vb (((zJ a)&&(zJ b))&&(dN a.lo b.lo&&dN a.hi b.hi))))] [] ?_ ?_
 ·refine zR (kP kN)<|zE (jY (h_valid a ha))<|zE (oV (vb (zJ a)) (kW (by kernel_rfl)))<|?_
  rcases hb1:(zJ a) with _ | _
  ·exact zK<|zK<|zE vL<|zM<|zK<|zK<|zK<|zE vL<|zM<|zZ
  ·refine zR (kP kN)<|zE (jY (h_valid b hb))<|zE aD<|zE (oV (vb (true&&(zJ b))) (kW (by kernel_rfl)))<|?_
   rcases hb2:(true&&(zJ b)) with _ | _
   ·exact zK<|zK<|zK<|zE vL<|zM<|zZ
   ·exact zR (kP kN)<|zR (kP kN)<|zE (jY (g_samerange a b ha hb))<|zE aD<|zM<|zZ
 refine jF ⟨_,(.tmp (d:=(.val (.bool ((((zJ a)&&(zJ b))&&(dN a.lo b.lo&&dN a.hi b.hi)))))) rfl .nil),?_⟩
 rfl
theorem i_add(p q r s:Rat)(hp:QL p 1073741824)(hq:QL q 1073741824)(hr:QL r 1073741824)(hs:QL s 1073741824)(hpq:p<=q)(hrs:r<=s):jQ Tryz.prog 171 [(jN (kK.mk (jM p) (jM q))),(jN (kK.mk (jM r) (jM s)))] (.tup [(jN (kK.mk (jM (p+r)) (jM (q+s)))),(.val (.int .i64 (0)))]):=by
 refine uR Tryz.func171 ?_
 refine jB<|kx [(2,(.ref 0 0)),(3,(.ref 1 0)),(4,(.ref 2 0))] [(0,some (bx (jN (kK.mk (jM p) (jM q))))),(1,some (bx (jN (kK.mk (jM r) (jM s))))),(2,some (bx (jN (kK.mk uG uG))))] (zN (xO 0)<|zN (xO 1)<|zN (vH 2 xT xZ)<|zM<|zZ) ?_
 refine jB<|jB<|kx [(10,(vb false))] [] (zR (kP kN)<|zR (kP kN)<|zE (eY dX xT xZ)<|zE (jY (by have h:=i_valids [(kK.mk (jM p) (jM q)),(kK.mk (jM r) (jM s))] (List.forall_mem_cons.2 ⟨(cQ (⟨qX (jW (kC hp) (by decide:1073741824<=1073741824)),qX (jW (kC hq) (by decide:1073741824<=1073741824))⟩)),(List.forall_mem_cons.2 ⟨(cQ (⟨qX (jW (kC hr) (by decide:1073741824<=1073741824)),qX (jW (kC hs) (by decide:1073741824<=1073741824))⟩)),(fun a h=>by cases h)⟩)⟩) (by simp);rw[show List.all [(kK.mk (jM p) (jM q)),(kK.mk (jM r) (jM s))] zJ=true from by simp [nP hpq,nP hrs]] at h;exact h))<|zE yT<|zZ) ?_
 refine qE ?_
 refine jD<|jB<|kd [(5,(kF 0))] [(2,some (bx (jN (kK.mk (jM (p+r)) (jM (q+s))))))] mo (wE (kI yF)<|wR (kP jT)<|wE (kI yF)<|wR (kP jT)<|wE (jY (f_add (jM p) (jM r) p r (jW (kC hp)) (jW (kC hr))))<|wE (kI yB)<|wR (kP jT)<|wE (kI yB)<|wR (kP jT)<|wE (jY (f_add (jM q) (jM s) q s (jW (kC hq)) (jW (kC hs))))<|wE (oBd pl42 xT xZ)<|wT (qJ kN)<|wM<|wZ) ?_
 refine jF ⟨_,(kR (cs:=(bx (jN (kK.mk (jM (p+r)) (jM (q+s)))))) (d:=(jN (kK.mk (jM (p+r)) (jM (q+s))))) rfl rfl kN rfl rfl (.tmp (d:=(.val (.int .i64 (0)))) rfl .nil)),?_⟩
 rfl
theorem i_sub(p q r s:Rat)(hp:QL p 1073741824)(hq:QL q 1073741824)(hr:QL r 1073741824)(hs:QL s 1073741824)(hpq:p<=q)(hrs:r<=s):jQ Tryz.prog 172 [(jN (kK.mk (jM p) (jM q))),(jN (kK.mk (jM r) (jM s)))] (.tup [(jN (kK.mk (jM (p-s)) (jM (q-r)))),(.val (.int .i64 (0)))]):=by
 refine uR Tryz.func172 ?_
 refine jB<|kx [(2,(.ref 0 0)),(3,(.ref 1 0)),(4,(.ref 2 0))] [(0,some (bx (jN (kK.mk (jM p) (jM q))))),(1,some (bx (jN (kK.mk (jM r) (jM s))))),(2,some (bx (jN (kK.mk uG uG))))] (zN (xO 0)<|zN (xO 1)<|zN (vH 2 xT xZ)<|zM<|zZ) ?_
 refine jB<|jB<|kx [(10,(vb false))] [] (zR (kP kN)<|zR (kP kN)<|zE (eY dX xT xZ)<|zE (jY (by have h:=i_valids [(kK.mk (jM p) (jM q)),(kK.mk (jM r) (jM s))] (List.forall_mem_cons.2 ⟨(cQ (⟨qX (jW (kC hp) (by decide:1073741824<=1073741824)),qX (jW (kC hq) (by decide:1073741824<=1073741824))⟩)),(List.forall_mem_cons.2 ⟨(cQ (⟨qX (jW (kC hr) (by decide:1073741824<=1073741824)),qX (jW (kC hs) (by decide:1073741824<=1073741824))⟩)),(fun a h=>by cases h)⟩)⟩) (by simp);rw[show List.all [(kK.mk (jM p) (jM q)),(kK.mk (jM r) (jM s))] zJ=true from by simp [nP hpq,nP hrs]] at h;exact h))<|zE yT<|zZ) ?_
 refine qE ?_
 refine jD<|jB<|kd [(5,(kF 0))] [(2,some (bx (jN (kK.mk (jM (p-s)) (jM (q-r))))))] mo (wE (kI yF)<|wR (kP jT)<|wE (kI yB)<|wR (kP jT)<|wE (jY (f_sub (jM p) (jM s) p s (jW (kC hp)) (jW (kC hs))))<|wE (kI yB)<|wR (kP jT)<|wE (kI yF)<|wR (kP jT)<|wE (jY (f_sub (jM q) (jM r) q r (jW (kC hq)) (jW (kC hr))))<|wE (oBd pl42 xT xZ)<|wT (qJ kN)<|wM<|wZ) ?_
 refine jF ⟨_,(kR (cs:=(bx (jN (kK.mk (jM (p-s)) (jM (q-r)))))) (d:=(jN (kK.mk (jM (p-s)) (jM (q-r))))) rfl rfl kN rfl rfl (.tmp (d:=(.val (.int .i64 (0)))) rfl .nil)),?_⟩
 rfl
theorem by32:zG Tryz.prog 32=some 64:=by kernel_rfl
theorem g_zero(x:kT)(p:Rat)(hx:yX x p 140737488355328):jQ Tryz.prog 13 [(jG x)] (.val (.bool ((zeroR x)))):=by
 have h1:=hx.n1
 have h2:=hx.n2
 refine uR Tryz.func13 ?_
 refine jB<|kx [(1,(.ref 0 0))] [(0,some (bx (jG x)))] (zN (xO 0)<|zM<|zZ) ?_
 refine jB<|kx [(2,(vb (((!x.num.neg&&!x.den.neg)&&(((x.num.gs.length:Nat):Int) == 0))&&(((x.den.gs.length:Nat):Int) == 0))))] [] ?_ ?_
 ·refine zE (kI xD)<|zE (kI vK)<|zR (qH aU)<|zE yT<|zE (oV (vb (!x.num.neg)) (kW (by kernel_rfl)))<|?_
  rcases hb1:(!x.num.neg) with _ | _
  ·exact zK<|zK<|zK<|zK<|zE vL<|zM<|zK<|zK<|zK<|zK<|zK<|zE vL<|zM<|zK<|zK<|zK<|zK<|zK<|zE vL<|zM<|zZ
  ·refine zE (kI vF)<|zE (kI vK)<|zR (qH aU)<|zE yT<|zE aD<|zE (oV (vb (true&&!x.den.neg)) (kW (by kernel_rfl)))<|?_
   rcases hb2:(true&&!x.den.neg) with _ | _
   ·exact zK<|zK<|zK<|zK<|zK<|zE vL<|zM<|zK<|zK<|zK<|zK<|zK<|zE vL<|zM<|zZ
   ·refine zE (kI xD)<|zE (kI vG)<|zR (qH zD)<|zE (xW kG)<|zE xU<|zE aD<|zE (oV (vb (true&&(((x.num.gs.length:Nat):Int) == 0))) (kW (by kernel_rfl)))<|?_
    rcases hb3:(true&&(((x.num.gs.length:Nat):Int) == 0)) with _ | _
    ·exact zK<|zK<|zK<|zK<|zK<|zE vL<|zM<|zZ
    ·exact zE (kI vF)<|zE (kI vG)<|zR (qH zD)<|zE (xW kG)<|zE xU<|zE aD<|zM<|zZ
 refine jF ⟨_,(.tmp (d:=(.val (.bool ((((!x.num.neg&&!x.den.neg)&&(((x.num.gs.length:Nat):Int) == 0))&&(((x.den.gs.length:Nat):Int) == 0)))))) rfl .nil),?_⟩
 rfl
theorem zB(h107:107≠1000000)(x:kK):yP 1000000 (jN x):=.agg (eM (.val _) (eM (avo_vals h107 _) (eM (.val _) (eM (avo_vals h107 _) (eM (.val _) (eM (avo_vals h107 _) (eM (.val _) (eM (avo_vals h107 _) avo_nil))))))))
abbrev gK (n k:Nat) (L:List JV) (b:Bool):List SV:=[(kF n),(kF 1),(vi (-1)),(.own k 46 10 ((List.map uW L).length)),(vb b)]
abbrev gM (L:List JV):List SV:=uK jP (List.map uW L)
abbrev mcA (n:Nat) (x:jS) (b:Bool):jS:=.agg [(.val (.int .i64 ((n:Nat):Int))),(.val (.int .i64 ((1:Nat):Int))),(.val (.int .i64 (-1))),x,(.val (.bool b))]
theorem gl_ite{c:Prop}[Decidable c]{a b:R2}{n:Nat}(ha:GL n a)(hb:GL n b):GL n (if c then a else b):=by
 split
 ·exact ha
 ·exact hb
theorem j_whole(z:Int)(hz1:-9223372036854775808<=z)(hz2:z<=9223372036854775807):jQ Tryz.prog 120 [(.val (.int .i64 (z)))] (jN (qI (gw z))):=by
 refine uR Tryz.func120 ?_
 refine jB<|kx [(2,(.ref 0 0))] [(0,some (bx (jN (kK.mk uG uG))))] (zN (vH 0 xT xZ)<|zZ) ?_
 refine jB<|kx [] [(0,some (bx (jN (kK.mk (jM ((z:Int):Rat)) (jM ((z:Int):Rat))))))] (zM<|zE (jY (aX z (by omega) (by omega)))<|zM<|zE (jY (aX z (by omega) (by omega)))<|zE (oBd pl42 xT xZ)<|zT (qJ kN)<|zZ) ?_
 refine jF ⟨_,(kR (cs:=(bx (jN (kK.mk (jM ((z:Int):Rat)) (jM ((z:Int):Rat)))))) (d:=(jN (kK.mk (jM ((z:Int):Rat)) (jM ((z:Int):Rat))))) rfl rfl kN rfl rfl .nil),?_⟩
 rfl
theorem j_add(a:R2)(ha:GL 67108864 a)(b:R2)(hb:GL 67108864 b):jQ Tryz.prog 131 [(jN (qI a)),(jN (qI b))] (jN (qI (gR a b))):=by
 refine uR Tryz.func131 ?_
 refine jB<|kx [(2,(.ref 0 0)),(3,(.ref 1 0)),(4,(.ref 2 0))] [(0,some (bx (jN (qI a)))),(1,some (bx (jN (qI b)))),(2,some (bx (jN (kK.mk uG uG))))] (zN (xO 0)<|zN (xO 1)<|zN (vH 2 xT xZ)<|zZ) ?_
 refine jB<|kx [(5,(.ref 3 0))] [(3,some (bx (jN (kK.mk (jM (a.1+b.1)) (jM (a.2+b.2))))))] (zR (kP kN)<|zR (kP kN)<|zE (jY (i_add a.1 a.2 b.1 b.2 (uE ha.1) (uE ha.2.1) (uE hb.1) (uE hb.2.1) ha.2.2 hb.2.2))<|zM<|zE xJ<|zE xJ<|zN (vH 3 xT xZ)<|zT (qJ kN)<|zM<|zZ) ?_
 refine jB<|kx [] [(2,some (bx (jN (kK.mk (jM (a.1+b.1)) (jM (a.2+b.2))))))] (zR (kP kN)<|zT (qJ kN)<|zZ) ?_
 refine jF ⟨_,(kR (cs:=(bx (jN (kK.mk (jM (a.1+b.1)) (jM (a.2+b.2)))))) (d:=(jN (kK.mk (jM (a.1+b.1)) (jM (a.2+b.2))))) rfl rfl kN rfl rfl .nil),?_⟩
 rfl
theorem j_sub(a:R2)(ha:GL 67108864 a)(b:R2)(hb:GL 67108864 b):jQ Tryz.prog 132 [(jN (qI a)),(jN (qI b))] (jN (qI (uP a b))):=by
 refine uR Tryz.func132 ?_
 refine jB<|kx [(2,(.ref 0 0)),(3,(.ref 1 0)),(4,(.ref 2 0))] [(0,some (bx (jN (qI a)))),(1,some (bx (jN (qI b)))),(2,some (bx (jN (kK.mk uG uG))))] (zN (xO 0)<|zN (xO 1)<|zN (vH 2 xT xZ)<|zZ) ?_
 refine jB<|kx [(5,(.ref 3 0))] [(3,some (bx (jN (kK.mk (jM (a.1-b.2)) (jM (a.2-b.1))))))] (zR (kP kN)<|zR (kP kN)<|zE (jY (i_sub a.1 a.2 b.1 b.2 (uE ha.1) (uE ha.2.1) (uE hb.1) (uE hb.2.1) ha.2.2 hb.2.2))<|zM<|zE xJ<|zE xJ<|zN (vH 3 xT xZ)<|zT (qJ kN)<|zM<|zZ) ?_
 refine jB<|kx [] [(2,some (bx (jN (kK.mk (jM (a.1-b.2)) (jM (a.2-b.1))))))] (zR (kP kN)<|zT (qJ kN)<|zZ) ?_
 refine jF ⟨_,(kR (cs:=(bx (jN (kK.mk (jM (a.1-b.2)) (jM (a.2-b.1)))))) (d:=(jN (kK.mk (jM (a.1-b.2)) (jM (a.2-b.1))))) rfl rfl kN rfl rfl .nil),?_⟩
 rfl
theorem j_mul(a:R2)(ha:GL 67108864 a)(b:R2)(hb:GL 67108864 b):jQ Tryz.prog 135 [(jN (qI a)),(jN (qI b))] (jN (qI (xE a b))):=by
 let y1:=(bx (jN (kK.mk (jM (mnL (a.1*b.1) [(a.1*b.2),(a.2*b.1),(a.2*b.2)])) (jM (mxL (a.1*b.1) [(a.1*b.2),(a.2*b.1),(a.2*b.2)])))))
 refine uR Tryz.func135 ?_
 refine jB<|kx [(2,(.ref 0 0)),(3,(.ref 1 0)),(4,(.ref 2 0))] [(0,some (bx (jN (qI a)))),(1,some (bx (jN (qI b)))),(2,some (bx (jN (kK.mk uG uG))))] (zN (xO 0)<|zN (xO 1)<|zN (vH 2 xT xZ)<|zZ) ?_
 refine jB<|kx [(5,(.ref 3 0))] [(3,some y1)] (zR (kP kN)<|zR (kP kN)<|zE (jY (i_mul a.1 a.2 b.1 b.2 (uE ha.1) (uE ha.2.1) (uE hb.1) (uE hb.2.1) ha.2.2 hb.2.2))<|zM<|zE xJ<|zE xJ<|zN (vH 3 xT xZ)<|zT (qJ kN)<|zM<|zZ) ?_
 refine jB<|kx [] [(2,some y1)] (zR (kP kN)<|zT (qJ kN)<|zZ) ?_
 refine jF ⟨_,(kR (cs:=y1) (d:=(jN (kK.mk (jM (mnL (a.1*b.1) [(a.1*b.2),(a.2*b.1),(a.2*b.2)])) (jM (mxL (a.1*b.1) [(a.1*b.2),(a.2*b.1),(a.2*b.2)]))))) rfl rfl kN rfl rfl .nil),?_⟩
 rfl
theorem j_sq(a:R2)(ha:GL 67108864 a):jQ Tryz.prog 139 [(jN (qI a))] (jN (qI (gsq a))):=by
 refine uR Tryz.func139 ?_
 refine jB<|kx [(1,(.ref 0 0)),(2,(.ref 1 0))] [(0,some (bx (jN (qI a)))),(1,some (bx (jN (kK.mk uG uG))))] (zN (xO 0)<|zN (vH 1 xT xZ)<|zZ) ?_
 refine jB<|kx [(3,(.ref 2 0))] [(2,some (bx (jN (kK.mk (jM (sqL a.1 a.2)) (jM (sqH a.1 a.2))))))] (zR (kP kN)<|zE (jY (i_square a.1 a.2 (uE ha.1) (uE ha.2.1) ha.2.2))<|zM<|zE xJ<|zE xJ<|zN (vH 2 xT xZ)<|zT (qJ kN)<|zM<|zZ) ?_
 refine jB<|kx [] [(1,some (bx (jN (kK.mk (jM (sqL a.1 a.2)) (jM (sqH a.1 a.2))))))] (zR (kP kN)<|zT (qJ kN)<|zZ) ?_
 refine jF ⟨_,(kR (cs:=(bx (jN (kK.mk (jM (sqL a.1 a.2)) (jM (sqH a.1 a.2)))))) (d:=(jN (kK.mk (jM (sqL a.1 a.2)) (jM (sqH a.1 a.2))))) rfl rfl kN rfl rfl .nil),?_⟩
 rfl
theorem j_kids(o:Int):jQ Tryz.prog 111 [(.val (.int .i64 (o)))] (.val (.int .i64 ((kZ o)))):=by
 refine uR Tryz.func111 ?_
 refine jB<|kx [] [] (zM<|zZ) ?_
 refine jB<|jB<|kx [(3,(vi o))] [] (zM<|zZ) ?_
 refine jH<|jB<|jB<|kx [(4,(vb (o == 0)))] [] (zE xU<|zM<|zZ) ?_
 refine jE (b:=(o == 0)) rfl (fun h1=>?_) (fun h1=>?_)
 ·replace h1:=eq_of_beq h1
  refine jD<|jE rfl (fun _=>?_) (fun h=>absurd (Eq.trans (Eq.symm (show ((o == 0))=true from beq_iff_eq.2 h1)) h) (by decide))
  refine jB<|kx [(2,(kF 0))] [] (zM<|zZ) ?_
  refine jF ⟨_,(.tmp (d:=(.val (.int .i64 (0)))) rfl .nil),?_⟩
  show jS.val (.int .i64 _)=_
  unfold kZ;simp [*]
 ·replace h1:=ne_of_beq_false h1
  refine kx [(4,(vb (o == 1)))] [] (zE xU<|zM<|zZ) ?_
  refine jE (b:=(o == 1)) rfl (fun h2=>?_) (fun h2=>?_)
  ·replace h2:=eq_of_beq h2
   refine jB<|kx [(2,(kF 0))] [] (zM<|zZ) ?_
   refine jF ⟨_,(.tmp (d:=(.val (.int .i64 (0)))) rfl .nil),?_⟩
   show jS.val (.int .i64 _)=_
   unfold kZ;simp [*]
  ·replace h2:=ne_of_beq_false h2
   refine jB<|jB<|kx [(7,(vb (o == 6)))] [] (zE xU<|zM<|zZ) ?_
   refine jE (b:=(o == 6)) rfl (fun h3=>?_) (fun h3=>?_)
   ·replace h3:=eq_of_beq h3
    refine jD<|jE rfl (fun _=>?_) (fun h=>absurd (Eq.trans (Eq.symm (show ((o == 6))=true from beq_iff_eq.2 h3)) h) (by decide))
    refine jB<|kx [(2,(kF 1))] [] (zM<|zZ) ?_
    refine jF ⟨_,(.tmp (d:=(.val (.int .i64 (1)))) rfl .nil),?_⟩
    show jS.val (.int .i64 _)=_
    unfold kZ;simp [*]
   ·replace h3:=ne_of_beq_false h3
    refine kx [(7,(vb (o == 7)))] [] (zE xU<|zM<|zZ) ?_
    refine jE (b:=(o == 7)) rfl (fun h4=>?_) (fun h4=>?_)
    ·replace h4:=eq_of_beq h4
     refine jB<|kx [(2,(kF 1))] [] (zM<|zZ) ?_
     refine jF ⟨_,(.tmp (d:=(.val (.int .i64 (1)))) rfl .nil),?_⟩
     show jS.val (.int .i64 _)=_
     unfold kZ;simp [*]
    ·replace h4:=ne_of_beq_false h4
     refine jB<|jB<|kx [(10,(vb (o == 2)))] [] (zE xU<|zM<|zZ) ?_
     refine jE (b:=(o == 2)) rfl (fun h5=>?_) (fun h5=>?_)
     ·replace h5:=eq_of_beq h5
      refine jD<|jE rfl (fun _=>?_) (fun h=>absurd (Eq.trans (Eq.symm (show ((o == 2))=true from beq_iff_eq.2 h5)) h) (by decide))
      refine jB<|kx [(2,(kF 2))] [] (zM<|zZ) ?_
      refine jF ⟨_,(.tmp (d:=(.val (.int .i64 (2)))) rfl .nil),?_⟩
      show jS.val (.int .i64 _)=_
      unfold kZ;simp [*]
     ·replace h5:=ne_of_beq_false h5
      refine jB<|kx [(10,(vb (o == 3)))] [] (zE xU<|zM<|zZ) ?_
      refine jE (b:=(o == 3)) rfl (fun h6=>?_) (fun h6=>?_)
      ·replace h6:=eq_of_beq h6
       refine jD<|jE rfl (fun _=>?_) (fun h=>absurd (Eq.trans (Eq.symm (show ((o == 3))=true from beq_iff_eq.2 h6)) h) (by decide))
       refine jB<|kx [(2,(kF 2))] [] (zM<|zZ) ?_
       refine jF ⟨_,(.tmp (d:=(.val (.int .i64 (2)))) rfl .nil),?_⟩
       show jS.val (.int .i64 _)=_
       unfold kZ;simp [*]
      ·replace h6:=ne_of_beq_false h6
       refine jB<|kx [(10,(vb (o == 4)))] [] (zE xU<|zM<|zZ) ?_
       refine jE (b:=(o == 4)) rfl (fun h7=>?_) (fun h7=>?_)
       ·replace h7:=eq_of_beq h7
        refine jD<|jE rfl (fun _=>?_) (fun h=>absurd (Eq.trans (Eq.symm (show ((o == 4))=true from beq_iff_eq.2 h7)) h) (by decide))
        refine jB<|kx [(2,(kF 2))] [] (zM<|zZ) ?_
        refine jF ⟨_,(.tmp (d:=(.val (.int .i64 (2)))) rfl .nil),?_⟩
        show jS.val (.int .i64 _)=_
        unfold kZ;simp [*]
       ·replace h7:=ne_of_beq_false h7
        refine kx [(10,(vb (o == 5)))] [] (zE xU<|zM<|zZ) ?_
        refine jE (b:=(o == 5)) rfl (fun h8=>?_) (fun h8=>?_)
        ·replace h8:=eq_of_beq h8
         refine jB<|kx [(2,(kF 2))] [] (zM<|zZ) ?_
         refine jF ⟨_,(.tmp (d:=(.val (.int .i64 (2)))) rfl .nil),?_⟩
         show jS.val (.int .i64 _)=_
         unfold kZ;simp [*]
        ·replace h8:=ne_of_beq_false h8
         refine jD<|jB<|kx [(2,(vi (-1)))] [] (zM<|zZ) ?_
         refine jF ⟨_,(.tmp (d:=(.val (.int .i64 (-1)))) rfl .nil),?_⟩
         show jS.val (.int .i64 _)=_
         unfold kZ;simp [*]
theorem r_kids(o:Int):jQ Tryz.prog 55 [(.val (.int .i64 (o)))] (.val (.int .i64 ((kZ o)))):=by
 refine uR Tryz.func55 ?_
 refine jB<|kx [] [] (zM<|zZ) ?_
 refine jB<|jB<|kx [(3,(vi o))] [] (zM<|zZ) ?_
 refine jH<|jB<|jB<|kx [(4,(vb (o == 0)))] [] (zE xU<|zM<|zZ) ?_
 refine jE (b:=(o == 0)) rfl (fun h1=>?_) (fun h1=>?_)
 ·replace h1:=eq_of_beq h1
  refine jD<|jE rfl (fun _=>?_) (fun h=>absurd (Eq.trans (Eq.symm (show ((o == 0))=true from beq_iff_eq.2 h1)) h) (by decide))
  refine jB<|kx [(2,(kF 0))] [] (zM<|zZ) ?_
  refine jF ⟨_,(.tmp (d:=(.val (.int .i64 (0)))) rfl .nil),?_⟩
  show jS.val (.int .i64 _)=_
  unfold kZ;simp [*]
 ·replace h1:=ne_of_beq_false h1
  refine kx [(4,(vb (o == 1)))] [] (zE xU<|zM<|zZ) ?_
  refine jE (b:=(o == 1)) rfl (fun h2=>?_) (fun h2=>?_)
  ·replace h2:=eq_of_beq h2
   refine jB<|kx [(2,(kF 0))] [] (zM<|zZ) ?_
   refine jF ⟨_,(.tmp (d:=(.val (.int .i64 (0)))) rfl .nil),?_⟩
   show jS.val (.int .i64 _)=_
   unfold kZ;simp [*]
  ·replace h2:=ne_of_beq_false h2
   refine jB<|jB<|kx [(7,(vb (o == 6)))] [] (zE xU<|zM<|zZ) ?_
   refine jE (b:=(o == 6)) rfl (fun h3=>?_) (fun h3=>?_)
   ·replace h3:=eq_of_beq h3
    refine jD<|jE rfl (fun _=>?_) (fun h=>absurd (Eq.trans (Eq.symm (show ((o == 6))=true from beq_iff_eq.2 h3)) h) (by decide))
    refine jB<|kx [(2,(kF 1))] [] (zM<|zZ) ?_
    refine jF ⟨_,(.tmp (d:=(.val (.int .i64 (1)))) rfl .nil),?_⟩
    show jS.val (.int .i64 _)=_
    unfold kZ;simp [*]
   ·replace h3:=ne_of_beq_false h3
    refine kx [(7,(vb (o == 7)))] [] (zE xU<|zM<|zZ) ?_
    refine jE (b:=(o == 7)) rfl (fun h4=>?_) (fun h4=>?_)
    ·replace h4:=eq_of_beq h4
     refine jB<|kx [(2,(kF 1))] [] (zM<|zZ) ?_
     refine jF ⟨_,(.tmp (d:=(.val (.int .i64 (1)))) rfl .nil),?_⟩
     show jS.val (.int .i64 _)=_
     unfold kZ;simp [*]
    ·replace h4:=ne_of_beq_false h4
     refine jB<|jB<|kx [(10,(vb (o == 2)))] [] (zE xU<|zM<|zZ) ?_
     refine jE (b:=(o == 2)) rfl (fun h5=>?_) (fun h5=>?_)
     ·replace h5:=eq_of_beq h5
      refine jD<|jE rfl (fun _=>?_) (fun h=>absurd (Eq.trans (Eq.symm (show ((o == 2))=true from beq_iff_eq.2 h5)) h) (by decide))
      refine jB<|kx [(2,(kF 2))] [] (zM<|zZ) ?_
      refine jF ⟨_,(.tmp (d:=(.val (.int .i64 (2)))) rfl .nil),?_⟩
      show jS.val (.int .i64 _)=_
      unfold kZ;simp [*]
     ·replace h5:=ne_of_beq_false h5
      refine jB<|kx [(10,(vb (o == 3)))] [] (zE xU<|zM<|zZ) ?_
      refine jE (b:=(o == 3)) rfl (fun h6=>?_) (fun h6=>?_)
      ·replace h6:=eq_of_beq h6
       refine jD<|jE rfl (fun _=>?_) (fun h=>absurd (Eq.trans (Eq.symm (show ((o == 3))=true from beq_iff_eq.2 h6)) h) (by decide))
       refine jB<|kx [(2,(kF 2))] [] (zM<|zZ) ?_
       refine jF ⟨_,(.tmp (d:=(.val (.int .i64 (2)))) rfl .nil),?_⟩
       show jS.val (.int .i64 _)=_
       unfold kZ;simp [*]
      ·replace h6:=ne_of_beq_false h6
       refine jB<|kx [(10,(vb (o == 4)))] [] (zE xU<|zM<|zZ) ?_
       refine jE (b:=(o == 4)) rfl (fun h7=>?_) (fun h7=>?_)
       ·replace h7:=eq_of_beq h7
        refine jD<|jE rfl (fun _=>?_) (fun h=>absurd (Eq.trans (Eq.symm (show ((o == 4))=true from beq_iff_eq.2 h7)) h) (by decide))
        refine jB<|kx [(2,(kF 2))] [] (zM<|zZ) ?_
        refine jF ⟨_,(.tmp (d:=(.val (.int .i64 (2)))) rfl .nil),?_⟩
        show jS.val (.int .i64 _)=_
        unfold kZ;simp [*]
       ·replace h7:=ne_of_beq_false h7
        refine kx [(10,(vb (o == 5)))] [] (zE xU<|zM<|zZ) ?_
        refine jE (b:=(o == 5)) rfl (fun h8=>?_) (fun h8=>?_)
        ·replace h8:=eq_of_beq h8
         refine jB<|kx [(2,(kF 2))] [] (zM<|zZ) ?_
         refine jF ⟨_,(.tmp (d:=(.val (.int .i64 (2)))) rfl .nil),?_⟩
         show jS.val (.int .i64 _)=_
         unfold kZ;simp [*]
        ·replace h8:=ne_of_beq_false h8
         refine jD<|jB<|kx [(2,(vi (-1)))] [] (zM<|zZ) ?_
         refine jF ⟨_,(.tmp (d:=(.val (.int .i64 (-1)))) rfl .nil),?_⟩
         show jS.val (.int .i64 _)=_
         unfold kZ;simp [*]
theorem fQ{L:List JV}{N n a:Nat}(h:∀ x∈L,cF N n x)(ha:a<L.length):cF N n (L.getD a jz):=by
 rw[List.getD_eq_getElem?_getD,List.getElem?_eq_getElem ha];exact h _ (List.getElem_mem _)
def uL(N:Nat)(t:List jO):Prop:=∀ x∈t,yX x.n (vC x.n) N
theorem tn_get{N:Nat}{t:List jO}(h:uL N t){k:Nat}(hk:k<t.length):yX (t.getD k tz).n (vC (t.getD k tz).n) N:=by
 rw[List.getD_eq_getElem?_getD,List.getElem?_eq_getElem hk];exact h _ (List.getElem_mem _)
theorem eQ{M N:Nat}{t:List jO}(h:uL M t)(hm:M<=N:=by decide):uL N t:=fun x hx=>jW (h x hx) hm
theorem j_unset(x:kT)(p:Rat)(hx:yX x p 1048576):jQ Tryz.prog 148 [(jG x)] (.val (.bool ((unsB x)))):=by
 refine uR Tryz.func148 ?_
 refine jB<|kx [(1,(.ref 0 0))] [(0,some (bx (jG x)))] (zN (xO 0)<|zM<|zZ) ?_
 refine jB<|kx [(2,(vb (((!x.num.neg&&!x.den.neg)&&(((x.num.gs.length:Nat):Int) == 0))&&(((x.den.gs.length:Nat):Int) == 0))))] [] ?_ ?_
 ·refine zE (kI xD)<|zE (kI vK)<|zR (qH aU)<|zE yT<|zE (oV (vb (!x.num.neg)) (kW (by kernel_rfl)))<|?_
  rcases hb1:(!x.num.neg) with _ | _
  ·exact zK<|zK<|zK<|zK<|zE vL<|zM<|zK<|zK<|zK<|zK<|zK<|zE vL<|zM<|zK<|zK<|zK<|zK<|zK<|zE vL<|zM<|zZ
  ·refine zE (kI vF)<|zE (kI vK)<|zR (qH aU)<|zE yT<|zE aD<|zE (oV (vb (true&&!x.den.neg)) (kW (by kernel_rfl)))<|?_
   rcases hb2:(true&&!x.den.neg) with _ | _
   ·exact zK<|zK<|zK<|zK<|zK<|zE vL<|zM<|zK<|zK<|zK<|zK<|zK<|zE vL<|zM<|zZ
   ·refine zE (kI xD)<|zE (kI vG)<|zR (qH zD)<|zE (xW kG)<|zE xU<|zE aD<|zE (oV (vb (true&&(((x.num.gs.length:Nat):Int) == 0))) (kW (by kernel_rfl)))<|?_
    rcases hb3:(true&&(((x.num.gs.length:Nat):Int) == 0)) with _ | _
    ·exact zK<|zK<|zK<|zK<|zK<|zE vL<|zM<|zZ
    ·exact zE (kI vF)<|zE (kI vG)<|zR (qH zD)<|zE (xW kG)<|zE xU<|zE aD<|zM<|zZ
 refine jF ⟨_,(.tmp (d:=(.val (.bool ((((!x.num.neg&&!x.den.neg)&&(((x.num.gs.length:Nat):Int) == 0))&&(((x.den.gs.length:Nat):Int) == 0)))))) rfl .nil),?_⟩
 rfl
end Go.Proofs.YtckccjhflbljgaaGreatDoor
