/- Part 18 of a proof: rules, plain facts, and functions walked. -/
import Derived.Test.YtnajallgoaiahaaGreatDoorM17
import Derived.Test.YtnajallgoaiahaaGreatDoorM10
set_option linter.all false
set_option maxRecDepth 4000
namespace Go.Proofs.YtnajallgoaiahaaGreatDoor
open Go.Fid
theorem cb38:callB Tryz.prog 38=true:=by kernel_rfl
theorem cb66:callB Tryz.prog 66=true:=by kernel_rfl
theorem cb98:callB Tryz.prog 98=true:=by kernel_rfl
theorem cb107:callB Tryz.prog 107=true:=by kernel_rfl
theorem cb108:callB Tryz.prog 108=true:=by kernel_rfl
theorem cb125:callB Tryz.prog 125=true:=by kernel_rfl
theorem cb152:callB Tryz.prog 152=true:=by kernel_rfl
theorem cb164:callB Tryz.prog 164=true:=by kernel_rfl
theorem cb165:callB Tryz.prog 165=true:=by kernel_rfl
theorem cb166:callB Tryz.prog 166=true:=by kernel_rfl
theorem cb244:callB Tryz.prog 244=true:=by kernel_rfl
theorem cb260:callB Tryz.prog 260=true:=by kernel_rfl
theorem uE:vM Tryz.prog 24=some (45,4):=by kernel_rfl
theorem xI:vM Tryz.prog 86=some (61,8):=by kernel_rfl
theorem pl61:eS Tryz.prog 61=some [(0,4),(4,4)]:=by kernel_rfl
theorem jW:qW Tryz.prog 61=some (true,8):=by kernel_rfl
theorem qO:yE Tryz.prog 61=some [.bool false,.slice none 0 0,.bool false,.slice none 0 0,.bool false,.slice none 0 0,.bool false,.slice none 0 0]:=by kernel_rfl
theorem qS:bA [.bool false,.slice none 0 0,.bool false,.slice none 0 0,.bool false,.slice none 0 0,.bool false,.slice none 0 0] [.val (.bool false),.sl 140 1 [],.val (.bool false),.sl 140 1 [],.val (.bool false),.sl 140 1 [],.val (.bool false),.sl 140 1 []]:=by simp [bA,Value.oneCell']
theorem h_valid(a:jV)(ha:GOk 4294967296 a):jR Tryz.prog 98 [(jF a)] (.val (.bool ((uK a)))):=by
 refine jJ Tryz.func98 rfl cb98 rfl ?_
 show qG _ _ _ _ ⟨[(0,(.d (jF a)))],[]⟩
 refine jB<|kx [(1,(.ref 0 0))] [(0,some (bx (jF a)))] (zN (vA 0)<|zM<|zZ) ?_
 refine jB<|kx [(2,(vb (((kR a.lo)&&(kR a.hi))&&decide ((yC (qP a.lo) (qP a.hi))≤0))))] [] ?_ ?_
 ·refine zE (kY vK)<|zR (kK jS)<|zE (jY (iX a.lo (qP a.lo) (jO ha.1 (by decide))))<|zE (oV (vb (kR a.lo)) (qC (by kernel_rfl)))<|?_
  rcases hb1:(kR a.lo) with _ | _
  ·exact zK<|zK<|zK<|zE yP<|zM<|zK<|zK<|zK<|zK<|zK<|zK<|zE yP<|zM<|zZ
  ·refine zE (kY vY)<|zR (kK jS)<|zE (jY (iX a.hi (qP a.hi) (jO ha.2 (by decide))))<|zE fA<|zE (oV (vb (true&&(kR a.hi))) (qC (by kernel_rfl)))<|?_
   rcases hb2:(true&&(kR a.hi)) with _ | _
   ·exact zK<|zK<|zK<|zK<|zK<|zK<|zE yP<|zM<|zZ
   ·exact zE (kY vK)<|zR (kK jS)<|zE (kY vY)<|zR (kK jS)<|zE (jY (bY a.lo a.hi (qP a.lo) (qP a.hi) ha.1 ha.2))<|zE oLe<|zE fA<|zM<|zZ
 refine jE ⟨_,(.tmp (d:=(.val (.bool ((((kR a.lo)&&(kR a.hi))&&decide ((yC (qP a.lo) (qP a.hi))≤0)))))) rfl .nil),?_⟩
 rw[validG_eq];rfl
theorem iH(a:jV)(ha:GOk 4294967296 a):jR Tryz.prog 125 [(jF a)] (.val (.bool ((uK a)))):=by
 refine jJ Tryz.func125 rfl cb125 rfl ?_
 show qG _ _ _ _ ⟨[(0,(.d (jF a)))],[]⟩
 refine jB<|kx [(1,(.ref 0 0))] [(0,some (bx (jF a)))] (zN (vA 0)<|zM<|zZ) ?_
 refine jB<|kx [(2,(vb (((kR a.lo)&&(kR a.hi))&&decide ((yC (qP a.lo) (qP a.hi))≤0))))] [] ?_ ?_
 ·refine zE (kY vK)<|zR (kK jS)<|zE (jY (cQ a.lo (qP a.lo) (jO ha.1 (by decide))))<|zE (oV (vb (kR a.lo)) (qC (by kernel_rfl)))<|?_
  rcases hb1:(kR a.lo) with _ | _
  ·exact zK<|zK<|zK<|zE yP<|zM<|zK<|zK<|zK<|zK<|zK<|zK<|zE yP<|zM<|zZ
  ·refine zE (kY vY)<|zR (kK jS)<|zE (jY (cQ a.hi (qP a.hi) (jO ha.2 (by decide))))<|zE fA<|zE (oV (vb (true&&(kR a.hi))) (qC (by kernel_rfl)))<|?_
   rcases hb2:(true&&(kR a.hi)) with _ | _
   ·exact zK<|zK<|zK<|zK<|zK<|zK<|zE yP<|zM<|zZ
   ·exact zE (kY vK)<|zR (kK jS)<|zE (kY vY)<|zR (kK jS)<|zE (jY (cY a.lo a.hi (qP a.lo) (qP a.hi) (jO ha.1 (by decide)) (jO ha.2 (by decide))))<|zE oLe<|zE fA<|zM<|zZ
 refine jE ⟨_,(.tmp (d:=(.val (.bool ((((kR a.lo)&&(kR a.hi))&&decide ((yC (qP a.lo) (qP a.hi))≤0)))))) rfl .nil),?_⟩
 rw[validG_eq];rfl
theorem i_valids(l:List jV)(hl:∀ a∈l,GOk 4294967296 a)(hb:l.length≤1000000):jR Tryz.prog 152 [(.sl 61 8 (List.map jF l))] (.val (.bool ((l.all uK)))):=by
 let y1:=(jV.mk kZ kZ)
 refine jJ Tryz.func152 rfl cb152 rfl ?_
 show qG _ _ _ _ ⟨[(0,(vl 61 8 jF l))],[]⟩
 refine jB<|kx [] [] (zM<|zZ) ?_
 refine jB<|jB<|kx [(5,(vl 61 8 jF l)),(6,(jP l.length)),(7,(jP 0))] [] (zM<|zE (uW xI)<|zM<|zZ) ?_
 refine jH<|kA (α:=Nat) (fun i=>⟨[(5,(vl 61 8 jF l)),(6,(jP l.length)),(7,(jP i))],[]⟩) (fun i=>i≤l.length∧(l.take i).all uK=true) (fun i=>l.length-i) 0 wk ⟨Nat.zero_le _,by simp⟩ ?_
 rintro i ⟨hi,hv⟩
 refine jB<|kx [(8,(vb (decide (((i:Nat):Int)<((l.length:Nat):Int)))))] [] (zE xK<|zZ) ?_
 refine jB<|jG rfl (fun h1=>?_) (fun h1=>?_)
 ·replace h1:=uP h1
  refine jD<|jB<|jH<|jB<|kx [(4,(.ref 0 0))] [(0,some (bx (jF (l.getD i y1))))] (zE (xX xI i y1)<|zE (gE jW)<|zN (qV 0 qO qS)<|zT (qA jW)<|zZ) ?_
  refine jB<|kx [(13,(vb (!(uK (l.getD i y1)))))] [] (zR (kK jW)<|zE (jY (iH (l.getD i y1) (gok_get hl (show i<l.length by omega))))<|zE mD<|zZ) ?_
  refine jG rfl (fun h2=>?_) (fun h2=>?_)
  ·refine jB<|kx [(2,(vb false))] [] (zM<|zZ) ?_
   refine jE ⟨_,(.tmp (d:=(.val (.bool (false)))) rfl .nil),?_⟩
   rw[all_not (f:=uK) (l:=l) (i:=i) (d:=(jV.mk kZ kZ)) (by omega) (by simpa using h2)];rfl
  ·refine jD<|kx [(7,(jP (i+1)))] [] (zE (vC (i+1))<|zM<|zZ) ?_
   exact ⟨(i+1),wk,⟨by omega,all_take (d:=(jV.mk kZ kZ)) (by omega) hv (by simpa using h2)⟩,(by first|omega|(dsimp only;omega))⟩
 ·replace h1:=uR h1
  have hie:i=l.length:=by omega
  rw[hie,List.take_length] at hv
  refine kB<|jB<|kx [(2,(vb true))] [] (zM<|zZ) ?_
  refine jE ⟨_,(.tmp (d:=(.val (.bool (true)))) rfl .nil),?_⟩
  rw[hv];rfl
theorem i_zero(p q:Rat)(hp:QL p 1073741824)(hq:QL q 1073741824):jR Tryz.prog 166 [(jF (jV.mk (jN p) (jN q)))] (.val (.bool ((yV p q)))):=by
 refine jJ Tryz.func166 rfl cb166 rfl ?_
 show qG _ _ _ _ ⟨[(0,(.d (jF (jV.mk (jN p) (jN q)))))],[]⟩
 refine jB<|kx [(1,(.ref 0 0))] [(0,some (bx (jF (jV.mk (jN p) (jN q)))))] (zN (vA 0)<|zM<|zZ) ?_
 refine jB<|kx [(2,(vb (decide ((nX p)≤0)&&decide (0≤(nX q)))))] [] ?_ ?_
 ·refine zE (kY vK)<|zR (kK jS)<|zE (jY (f_sign (jN p) p (jO (jZ hp) (by decide))))<|zE oLe<|zE (oV (vb (decide ((nX p)≤0))) (qC (by kernel_rfl)))<|?_
  rcases hb1:(decide ((nX p)≤0)) with _ | _
  ·replace hb1:=uR hb1
   exact zK<|zK<|zK<|zK<|zE yP<|zM<|zZ
  ·replace hb1:=uP hb1
   exact zE (kY vY)<|zR (kK jS)<|zE (jY (f_sign (jN q) q (jO (jZ hq) (by decide))))<|zE oGe<|zE fA<|zM<|zZ
 refine jE ⟨_,(.tmp (d:=(.val (.bool ((decide ((nX p)≤0)&&decide (0≤(nX q))))))) rfl .nil),?_⟩
 rw[zeroG_eq];rfl
theorem i_spanned(p:Rat)(qs:List Rat)(hp:QL p 17179869184)(hqs:∀ q∈qs,QL q 17179869184)(hb:qs.length≤1000000):jR Tryz.prog 165 [(jK (jN p)),(.sl 45 4 (List.map jK (List.map jN qs)))] (jF (jV.mk (jN (nS p qs)) (jN (mP p qs)))):=by
 refine jJ Tryz.func165 rfl cb165 rfl ?_
 show qG _ _ _ _ ⟨[(0,(.d (jK (jN p)))),(1,(vl 45 4 jK (List.map jN qs)))],[]⟩
 refine jB<|kx [(2,(.ref 0 0)),(4,(.ref 1 0))] [(0,some (bx (jK (jN p)))),(1,some (bx (jF (jV.mk kZ kZ))))] (zN (vA 0)<|zN (qV 1 qO qS)<|zZ) ?_
 refine jB<|kx [(5,(.ref 2 0))] [(2,some (bx (jF (jV.mk (jN p) (jN p)))))] (zR (kK jS)<|zR (kK jS)<|zE (eX pl61 qO qS)<|zN (qV 2 qO qS)<|zT (qA jW)<|zZ) ?_
 refine jB<|jB<|kx [(11,(vl 45 4 jK (List.map jN qs))),(12,(jP qs.length)),(13,(jP 0))] [] (zM<|zE (oLn uE qs.length)<|zM<|zZ) ?_
 refine jH<|kA (α:=Nat × Rat × Rat) (fun (i,lo,hi)=>⟨[(4,(.ref 1 0)),(5,(.ref 2 0)),(11,(vl 45 4 jK (List.map jN qs))),(12,(jP qs.length)),(13,(jP i))],[(1,some (bx (jF (jV.mk kZ kZ)))),(2,some (bx (jF (jV.mk (jN lo) (jN hi)))))]⟩) (fun (i,lo,hi)=>i≤qs.length∧lo=nS p (qs.take i)∧hi=mP p (qs.take i)) (fun (i,lo,hi)=>qs.length-i) (0,p,p) wk ⟨Nat.zero_le _,rfl,rfl⟩ ?_
 rintro ⟨i,lo,hi⟩ ⟨hi1,hl,hh⟩
 have htk:∀ q∈qs.take i,QL q 17179869184:=fun q hq=>hqs q (List.mem_of_mem_take hq)
 have hlo:QL lo 17179869184:=by rw[hl];exact ql_mnL hp htk
 have hhi:QL hi 17179869184:=by rw[hh];exact ql_mxL hp htk
 refine jB<|kx [(14,(vb (decide (((i:Nat):Int)<((qs.length:Nat):Int)))))] [] (zE xK<|zZ) ?_
 refine jB<|jG rfl (fun h1=>?_) (fun h1=>?_)
 ·replace h1:=uP h1
  refine jD<|jB<|jH<|jB<|kx [(7,(.ref 3 0))] [(3,some (bx (jK (jN (qs.getD i 0)))))] (zE (oXm uE jN i 0)<|zE (gE jS)<|zN (qV 3 qU qY)<|zT (qA jS)<|zZ) ?_
  refine jB<|jB<|kx [(21,(vb (decide ((yC (qs.getD i 0) lo)<0))))] [] (zR (kK jS)<|zE (kY vK)<|zR (kK jS)<|zE (jY (cY (jN (qs.getD i 0)) (jN lo) (qs.getD i 0) lo (jZ (dT hqs (by decide) i)) (jZ hlo)))<|zE xK<|zZ) ?_
  refine jG (b:=decide ((yC (qs.getD i 0) lo)<0)) rfl (fun h2=>?_) (fun h2=>?_)
  ·replace h2:=uP h2
   have hc1:=h2
   refine kx [] [(2,some (bx (jF (jV.mk (jN (qs.getD i 0)) (jN hi)))))] (zR (kK jS)<|zE (kY vK)<|zT (qA jS)<|zZ) ?_
   refine jB<|kx [(28,(vb (decide (0<(yC (qs.getD i 0) hi)))))] [] (zR (kK jS)<|zE (kY vY)<|zR (kK jS)<|zE (jY (cY (jN (qs.getD i 0)) (jN hi) (qs.getD i 0) hi (jZ (dT hqs (by decide) i)) (jZ hhi)))<|zE mL<|zZ) ?_
   refine jG (b:=decide (0<(yC (qs.getD i 0) hi))) rfl (fun h3=>?_) (fun h3=>?_)
   ·replace h3:=uP h3
    have hc2:=h3
    refine kx [] [(2,some (bx (jF (jV.mk (jN (qs.getD i 0)) (jN (qs.getD i 0))))))] (zR (kK jS)<|zE (kY vY)<|zT (qA jS)<|zZ) ?_
    refine kx [(13,(jP (i+1)))] [] (zE (vC (i+1))<|zM<|zZ) ?_
    exact ⟨(i+1,qs.getD i 0,qs.getD i 0),wk,⟨by omega,mnL_lt (by omega) hl hc1,mxL_gt (by omega) hh hc2⟩,(by first|omega|(dsimp only;omega))⟩
   ·replace h3:=uR h3
    have hc2:=h3
    refine jD<|kx [(13,(jP (i+1)))] [] (zE (vC (i+1))<|zM<|zZ) ?_
    exact ⟨(i+1,qs.getD i 0,hi),wk,⟨by omega,mnL_lt (by omega) hl hc1,mxL_le (by omega) hh hc2⟩,(by first|omega|(dsimp only;omega))⟩
  ·replace h2:=uR h2
   have hc1:=h2
   refine jD<|jB<|kx [(28,(vb (decide (0<(yC (qs.getD i 0) hi)))))] [] (zR (kK jS)<|zE (kY vY)<|zR (kK jS)<|zE (jY (cY (jN (qs.getD i 0)) (jN hi) (qs.getD i 0) hi (jZ (dT hqs (by decide) i)) (jZ hhi)))<|zE mL<|zZ) ?_
   refine jG (b:=decide (0<(yC (qs.getD i 0) hi))) rfl (fun h4=>?_) (fun h4=>?_)
   ·replace h4:=uP h4
    have hc2:=h4
    refine kx [] [(2,some (bx (jF (jV.mk (jN lo) (jN (qs.getD i 0))))))] (zR (kK jS)<|zE (kY vY)<|zT (qA jS)<|zZ) ?_
    refine kx [(13,(jP (i+1)))] [] (zE (vC (i+1))<|zM<|zZ) ?_
    exact ⟨(i+1,lo,qs.getD i 0),wk,⟨by omega,mnL_ge (by omega) hl hc1,mxL_gt (by omega) hh hc2⟩,(by first|omega|(dsimp only;omega))⟩
   ·replace h4:=uR h4
    have hc2:=h4
    refine jD<|kx [(13,(jP (i+1)))] [] (zE (vC (i+1))<|zM<|zZ) ?_
    exact ⟨(i+1,lo,hi),wk,⟨by omega,mnL_ge (by omega) hl hc1,mxL_le (by omega) hh hc2⟩,(by first|omega|(dsimp only;omega))⟩
 ·replace h1:=uR h1
  have hie:i=qs.length:=by omega
  rw[hie,List.take_length] at hl hh
  refine kB<|jB<|kx [] [(1,some (bx (jF (jV.mk (jN lo) (jN hi)))))] (zR (kK jW)<|zT (qA jW)<|zZ) ?_
  refine jE ⟨_,(kH (cs:=(bx (jF (jV.mk (jN lo) (jN hi))))) (d:=(jF (jV.mk (jN lo) (jN hi)))) rfl rfl jW rfl rfl .nil),?_⟩
  rw[hl,hh];rfl
theorem i_quot(p q:Rat)(hp:QL p 1073741824)(hq:QL q 1073741824)(hq0:q≠0):jR Tryz.prog 260 [(jK (jN p)),(jK (jN q))] (jK (jN (p / q))):=by
 refine jJ Tryz.func260 rfl cb260 rfl ?_
 show qG _ _ _ _ ⟨[(0,(.d (jK (jN p)))),(1,(.d (jK (jN q))))],[]⟩
 refine jB<|kx [(2,(.ref 0 0)),(3,(.ref 1 0)),(4,(.ref 2 0))] [(0,some (bx (jK (jN p)))),(1,some (bx (jK (jN q)))),(2,some (bx (jK kZ)))] (zN (vA 0)<|zN (vA 1)<|zN (qV 2 qU qY)<|zZ) ?_
 refine jB<|kx [(5,(.ref 3 0))] [(3,some (bx (jK (divR p q))))] (zR (kK jS)<|zR (kK jS)<|zE (jY (f_divide (jN p) (jN q) p q (jO (jZ hp) (by decide)) (jO (jZ hq) (by decide))))<|zM<|zE uT<|zE uT<|zN (qV 3 qU qY)<|zT (qA jS)<|zM<|zZ) ?_
 refine jB<|kx [] [(2,some (bx (jK (divR p q))))] (zR (kK jS)<|zT (qA jS)<|zZ) ?_
 refine jE ⟨_,(kH (cs:=(bx (jK (divR p q)))) (d:=(jK (divR p q))) rfl rfl jS rfl rfl .nil),?_⟩
 rw[divR_ne hq0];rfl
theorem i_cornersM(p q r s:Rat)(hp:QL p 1073741824)(hq:QL q 1073741824)(hr:QL r 1073741824)(hs:QL s 1073741824):jR Tryz.prog 164 [(.val (.func (.func 82) #[] #[])),(jF (jV.mk (jN p) (jN q))),(jF (jV.mk (jN r) (jN s)))] (jF (jV.mk (jN (nS (p*r) [(p*s),(q*r),(q*s)])) (jN (mP (p*r) [(p*s),(q*r),(q*s)])))):=by
 let y1:=(jF (jV.mk (jN (nS (p*r) [(p*s),(q*r),(q*s)])) (jN (mP (p*r) [(p*s),(q*r),(q*s)]))))
 refine jJ Tryz.func164 rfl cb164 rfl ?_
 show qG _ _ _ _ ⟨[(0,(.d (.val (.func (.func 82) #[] #[])))),(1,(.d (jF (jV.mk (jN p) (jN q))))),(2,(.d (jF (jV.mk (jN r) (jN s)))))],[]⟩
 refine jB<|kx [(4,(.ref 0 0)),(5,(.ref 1 0)),(6,(.ref 2 0))] [(0,some (bx (jF (jV.mk (jN p) (jN q))))),(1,some (bx (jF (jV.mk (jN r) (jN s))))),(2,some (bx (jF (jV.mk kZ kZ))))] (zN (vA 0)<|zN (vA 1)<|zN (qV 2 qO qS)<|zZ) ?_
 refine jB<|kd [] [(2,some (bx y1))] mo (wM<|wE (kY vK)<|wR (kK jS)<|wE (kY vK)<|wR (kK jS)<|wE (jY (fD (jN p) (jN r) p r (jO (jZ hp) (by decide)) (jO (jZ hr) (by decide))))<|wM<|wE (kY vK)<|wR (kK jS)<|wE (kY vY)<|wR (kK jS)<|wE (jY (fD (jN p) (jN s) p s (jO (jZ hp) (by decide)) (jO (jZ hs) (by decide))))<|wM<|wE (kY vY)<|wR (kK jS)<|wE (kY vK)<|wR (kK jS)<|wE (jY (fD (jN q) (jN r) q r (jO (jZ hq) (by decide)) (jO (jZ hr) (by decide))))<|wM<|wE (kY vY)<|wR (kK jS)<|wE (kY vY)<|wR (kK jS)<|wE (jY (fD (jN q) (jN s) q s (jO (jZ hq) (by decide)) (jO (jZ hs) (by decide))))<|wE (cN uE qU qY)<|wE (jY (i_spanned (p*r) [(p*s),(q*r),(q*s)] (xE (qM (k:=2147483648) hp hr (by decide)) (by decide)) (List.forall_mem_cons.2 ⟨(xE (qM (k:=2147483648) hp hs (by decide)) (by decide)),(List.forall_mem_cons.2 ⟨(xE (qM (k:=2147483648) hq hr (by decide)) (by decide)),(List.forall_mem_cons.2 ⟨(xE (qM (k:=2147483648) hq hs (by decide)) (by decide)),(fun a h=>by cases h)⟩)⟩)⟩) (by simp)))<|wT (qA jW)<|wZ) ?_
 refine jE ⟨_,(kH (cs:=(bx y1)) (d:=y1) rfl rfl jW rfl rfl .nil),?_⟩
 rfl
theorem i_cornersD(p q r s:Rat)(hp:QL p 1073741824)(hq:QL q 1073741824)(hr:QL r 1073741824)(hs:QL s 1073741824)(hr0:r≠0)(hs0:s≠0):jR Tryz.prog 164 [(.val (.func (.func 260) #[] #[])),(jF (jV.mk (jN p) (jN q))),(jF (jV.mk (jN r) (jN s)))] (jF (jV.mk (jN (nS (p / r) [(p / s),(q / r),(q / s)])) (jN (mP (p / r) [(p / s),(q / r),(q / s)])))):=by
 let y1:=(jF (jV.mk (jN (nS (p / r) [(p / s),(q / r),(q / s)])) (jN (mP (p / r) [(p / s),(q / r),(q / s)]))))
 refine jJ Tryz.func164 rfl cb164 rfl ?_
 show qG _ _ _ _ ⟨[(0,(.d (.val (.func (.func 260) #[] #[])))),(1,(.d (jF (jV.mk (jN p) (jN q))))),(2,(.d (jF (jV.mk (jN r) (jN s)))))],[]⟩
 refine jB<|kx [(4,(.ref 0 0)),(5,(.ref 1 0)),(6,(.ref 2 0))] [(0,some (bx (jF (jV.mk (jN p) (jN q))))),(1,some (bx (jF (jV.mk (jN r) (jN s))))),(2,some (bx (jF (jV.mk kZ kZ))))] (zN (vA 0)<|zN (vA 1)<|zN (qV 2 qO qS)<|zZ) ?_
 refine jB<|kd [] [(2,some (bx y1))] mo (wM<|wE (kY vK)<|wR (kK jS)<|wE (kY vK)<|wR (kK jS)<|wE (jY (i_quot p r hp hr (by assumption)))<|wM<|wE (kY vK)<|wR (kK jS)<|wE (kY vY)<|wR (kK jS)<|wE (jY (i_quot p s hp hs (by assumption)))<|wM<|wE (kY vY)<|wR (kK jS)<|wE (kY vK)<|wR (kK jS)<|wE (jY (i_quot q r hq hr (by assumption)))<|wM<|wE (kY vY)<|wR (kK jS)<|wE (kY vY)<|wR (kK jS)<|wE (jY (i_quot q s hq hs (by assumption)))<|wE (cN uE qU qY)<|wE (jY (i_spanned (p / r) [(p / s),(q / r),(q / s)] (xE (aW (k:=2147483648) hp hr (by decide)) (by decide)) (List.forall_mem_cons.2 ⟨(xE (aW (k:=2147483648) hp hs (by decide)) (by decide)),(List.forall_mem_cons.2 ⟨(xE (aW (k:=2147483648) hq hr (by decide)) (by decide)),(List.forall_mem_cons.2 ⟨(xE (aW (k:=2147483648) hq hs (by decide)) (by decide)),(fun a h=>by cases h)⟩)⟩)⟩) (by simp)))<|wT (qA jW)<|wZ) ?_
 refine jE ⟨_,(kH (cs:=(bx y1)) (d:=y1) rfl rfl jW rfl rfl .nil),?_⟩
 rfl
theorem i_mul(p q r s:Rat)(hp:QL p 1073741824)(hq:QL q 1073741824)(hr:QL r 1073741824)(hs:QL s 1073741824)(hpq:p≤q)(hrs:r≤s):jR Tryz.prog 107 [(jF (jV.mk (jN p) (jN q))),(jF (jV.mk (jN r) (jN s)))] (.tup [(jF (jV.mk (jN (nS (p*r) [(p*s),(q*r),(q*s)])) (jN (mP (p*r) [(p*s),(q*r),(q*s)])))),(.val (.int .i64 (0)))]):=by
 let y1:=(jF (jV.mk (jN (nS (p*r) [(p*s),(q*r),(q*s)])) (jN (mP (p*r) [(p*s),(q*r),(q*s)]))))
 refine jJ Tryz.func107 rfl cb107 rfl ?_
 show qG _ _ _ _ ⟨[(0,(.d (jF (jV.mk (jN p) (jN q))))),(1,(.d (jF (jV.mk (jN r) (jN s)))))],[]⟩
 refine jB<|kx [(2,(.ref 0 0)),(3,(.ref 1 0)),(4,(.ref 2 0))] [(0,some (bx (jF (jV.mk (jN p) (jN q))))),(1,some (bx (jF (jV.mk (jN r) (jN s))))),(2,some (bx (jF (jV.mk kZ kZ))))] (zN (vA 0)<|zN (vA 1)<|zN (qV 2 qO qS)<|zM<|zZ) ?_
 refine jB<|jB<|kx [(10,(vb false))] [] (zR (kK jW)<|zR (kK jW)<|zE (cN xI qO qS)<|zE (jY (by have h:=i_valids [(jV.mk (jN p) (jN q)),(jV.mk (jN r) (jN s))] (List.forall_mem_cons.2 ⟨(hZ (⟨qR (jO (jZ hp) (by decide:1073741824≤1073741824)),qR (jO (jZ hq) (by decide:1073741824≤1073741824))⟩) (by decide)),(List.forall_mem_cons.2 ⟨(hZ (⟨qR (jO (jZ hr) (by decide:1073741824≤1073741824)),qR (jO (jZ hs) (by decide:1073741824≤1073741824))⟩) (by decide)),(fun a h=>by cases h)⟩)⟩) (by simp);rw[show List.all [(jV.mk (jN p) (jN q)),(jV.mk (jN r) (jN s))] uK=true from by simp [zU hpq,zU hrs]] at h;exact h))<|zE mD<|zZ) ?_
 refine kU ?_
 refine jD<|jB<|kx [(5,(jP 0))] [(2,some (bx y1))] (zR (kK jW)<|zR (kK jW)<|zE (jY (i_cornersM p q r s hp hq hr hs))<|zT (qA jW)<|zM<|zZ) ?_
 refine jE ⟨_,(kH (cs:=(bx y1)) (d:=y1) rfl rfl jW rfl rfl (.tmp (d:=(.val (.int .i64 (0)))) rfl .nil)),?_⟩
 rfl
theorem i_divide(p q r s:Rat)(hp:QL p 1073741824)(hq:QL q 1073741824)(hr:QL r 1073741824)(hs:QL s 1073741824)(hpq:p≤q)(hrs:r≤s)(hz:yV r s=false):jR Tryz.prog 244 [(jF (jV.mk (jN p) (jN q))),(jF (jV.mk (jN r) (jN s)))] (.tup [(jF (jV.mk (jN (nS (p / r) [(p / s),(q / r),(q / s)])) (jN (mP (p / r) [(p / s),(q / r),(q / s)])))),(.val (.int .i64 (0)))]):=by
 obtain ⟨hr0,hs0⟩:=zeroG_ne hrs hz
 let y1:=(jF (jV.mk (jN (nS (p / r) [(p / s),(q / r),(q / s)])) (jN (mP (p / r) [(p / s),(q / r),(q / s)]))))
 refine jJ Tryz.func244 rfl cb244 rfl ?_
 show qG _ _ _ _ ⟨[(0,(.d (jF (jV.mk (jN p) (jN q))))),(1,(.d (jF (jV.mk (jN r) (jN s)))))],[]⟩
 refine jB<|kx [(2,(.ref 0 0)),(3,(.ref 1 0)),(4,(.ref 2 0))] [(0,some (bx (jF (jV.mk (jN p) (jN q))))),(1,some (bx (jF (jV.mk (jN r) (jN s))))),(2,some (bx (jF (jV.mk kZ kZ))))] (zN (vA 0)<|zN (vA 1)<|zN (qV 2 qO qS)<|zM<|zZ) ?_
 refine jB<|jB<|kx [(11,(vb false))] [] (zR (kK jW)<|zR (kK jW)<|zE (cN xI qO qS)<|zE (jY (by have h:=i_valids [(jV.mk (jN p) (jN q)),(jV.mk (jN r) (jN s))] (List.forall_mem_cons.2 ⟨(hZ (⟨qR (jO (jZ hp) (by decide:1073741824≤1073741824)),qR (jO (jZ hq) (by decide:1073741824≤1073741824))⟩) (by decide)),(List.forall_mem_cons.2 ⟨(hZ (⟨qR (jO (jZ hr) (by decide:1073741824≤1073741824)),qR (jO (jZ hs) (by decide:1073741824≤1073741824))⟩) (by decide)),(fun a h=>by cases h)⟩)⟩) (by simp);rw[show List.all [(jV.mk (jN p) (jN q)),(jV.mk (jN r) (jN s))] uK=true from by simp [zU hpq,zU hrs]] at h;exact h))<|zE mD<|zZ) ?_
 refine kU ?_
 refine jD<|jB<|jB<|kx [(14,(vb false))] [] (zR (kK jW)<|zE (jY (by have h:=i_zero r s hr hs;rw[show yV r s=false from hz] at h;exact h))<|zZ) ?_
 refine kU ?_
 refine jD<|jB<|kx [(6,(.d (.val (.func (.func 260) #[] #[]))))] [] (zM<|zZ) ?_
 refine jB<|kx [(5,(jP 0))] [(2,some (bx y1))] (zM<|zR (kK jW)<|zR (kK jW)<|zE (jY (i_cornersD p q r s hp hq hr hs (by assumption) (by assumption)))<|zT (qA jW)<|zM<|zZ) ?_
 refine jE ⟨_,(kH (cs:=(bx y1)) (d:=y1) rfl rfl jW rfl rfl (.tmp (d:=(.val (.int .i64 (0)))) rfl .nil)),?_⟩
 rfl
theorem i_divideZ(p q r s:Rat)(hp:QL p 1073741824)(hq:QL q 1073741824)(hr:QL r 1073741824)(hs:QL s 1073741824)(hpq:p≤q)(hrs:r≤s)(hz:yV r s=true):jR Tryz.prog 244 [(jF (jV.mk (jN p) (jN q))),(jF (jV.mk (jN r) (jN s)))] (.tup [(jF (jV.mk kZ kZ)),(.val (.int .i64 (14)))]):=by
 let y1:=(bx (jF (jV.mk kZ kZ)))
 refine jJ Tryz.func244 rfl cb244 rfl ?_
 show qG _ _ _ _ ⟨[(0,(.d (jF (jV.mk (jN p) (jN q))))),(1,(.d (jF (jV.mk (jN r) (jN s)))))],[]⟩
 refine jB<|kx [(2,(.ref 0 0)),(3,(.ref 1 0)),(4,(.ref 2 0))] [(0,some (bx (jF (jV.mk (jN p) (jN q))))),(1,some (bx (jF (jV.mk (jN r) (jN s))))),(2,some y1)] (zN (vA 0)<|zN (vA 1)<|zN (qV 2 qO qS)<|zM<|zZ) ?_
 refine jB<|jB<|kx [(11,(vb false))] [] (zR (kK jW)<|zR (kK jW)<|zE (cN xI qO qS)<|zE (jY (by have h:=i_valids [(jV.mk (jN p) (jN q)),(jV.mk (jN r) (jN s))] (List.forall_mem_cons.2 ⟨(hZ (⟨qR (jO (jZ hp) (by decide:1073741824≤1073741824)),qR (jO (jZ hq) (by decide:1073741824≤1073741824))⟩) (by decide)),(List.forall_mem_cons.2 ⟨(hZ (⟨qR (jO (jZ hr) (by decide:1073741824≤1073741824)),qR (jO (jZ hs) (by decide:1073741824≤1073741824))⟩) (by decide)),(fun a h=>by cases h)⟩)⟩) (by simp);rw[show List.all [(jV.mk (jN p) (jN q)),(jV.mk (jN r) (jN s))] uK=true from by simp [zU hpq,zU hrs]] at h;exact h))<|zE mD<|zZ) ?_
 refine kU ?_
 refine jD<|jB<|jB<|kx [(14,(vb true))] [] (zR (kK jW)<|zE (jY (by have h:=i_zero r s hr hs;rw[show yV r s=true from hz] at h;exact h))<|zZ) ?_
 refine uY ?_
 refine jB<|kx [(5,(jP 14))] [(2,some y1)] (zE (eX pl61 qO qS)<|zT (qA jW)<|zM<|zZ) ?_
 refine jE ⟨_,(kH (cs:=y1) (d:=(jF (jV.mk kZ kZ))) rfl rfl jW rfl rfl (.tmp (d:=(.val (.int .i64 (14)))) rfl .nil)),?_⟩
 rfl
theorem i_square(p q:Rat)(hp:QL p 1073741824)(hq:QL q 1073741824)(hpq:p≤q):jR Tryz.prog 108 [(jF (jV.mk (jN p) (jN q)))] (.tup [(jF (jV.mk (jN (sqL p q)) (jN (sqH p q)))),(.val (.int .i64 (0)))]):=by
 let y2:=(jF (jV.mk (jN ((0:Int):Rat)) (jN (mP (p*p) [(q*q)]))))
 let y1:=(jF (jV.mk (jN (nS (p*p) [(q*q)])) (jN (mP (p*p) [(q*q)]))))
 refine jJ Tryz.func108 rfl cb108 rfl ?_
 show qG _ _ _ _ ⟨[(0,(.d (jF (jV.mk (jN p) (jN q)))))],[]⟩
 refine jB<|kx [(1,(.ref 0 0)),(2,(.ref 1 0))] [(0,some (bx (jF (jV.mk (jN p) (jN q))))),(1,some (bx (jF (jV.mk kZ kZ))))] (zN (vA 0)<|zN (qV 1 qO qS)<|zM<|zZ) ?_
 refine jB<|jB<|kx [(7,(vb false))] [] (zR (kK jW)<|zE (jY (by have h:=iH (jV.mk (jN p) (jN q)) (hZ (⟨qR (jO (jZ hp) (by decide:1073741824≤1073741824)),qR (jO (jZ hq) (by decide:1073741824≤1073741824))⟩) (by decide));rw[show uK (jV.mk (jN p) (jN q))=true from zU hpq] at h;exact h))<|zE mD<|zZ) ?_
 refine kU ?_
 refine jD<|jB<|kd [(4,(.ref 2 0))] [(2,some (bx y1))] mo (wE (kY vK)<|wR (kK jS)<|wE (kY vK)<|wR (kK jS)<|wE (jY (fD (jN p) (jN p) p p (jO (jZ hp) (by decide)) (jO (jZ hp) (by decide))))<|wE (kY vY)<|wR (kK jS)<|wE (kY vY)<|wR (kK jS)<|wE (jY (fD (jN q) (jN q) q q (jO (jZ hq) (by decide)) (jO (jZ hq) (by decide))))<|wE (cN uE qU qY)<|wE (jY (i_spanned (p*p) [(q*q)] (xE (qM (k:=2147483648) hp hp (by decide)) (by decide)) (List.forall_mem_cons.2 ⟨(xE (qM (k:=2147483648) hq hq (by decide)) (by decide)),(fun a h=>by cases h)⟩) (by simp)))<|wN (qV 2 qO qS)<|wT (qA jW)<|wZ) ?_
 refine jB<|jB<|kx [(22,(vb (yV p q)))] [] (zR (kK jW)<|zE (jY (i_zero p q hp hq))<|zZ) ?_
 refine jG (b:=(yV p q)) rfl (fun h1=>?_) (fun h1=>?_)
 ·refine kx [] [(2,some (bx y2))] (zE (jY (f_whole 0 (by decide) (by decide)))<|zE (kY vK)<|zT (qA jS)<|zZ) ?_
  refine jB<|kx [(3,(jP 0))] [(1,some (bx y2))] (zR (kK jW)<|zT (qA jW)<|zM<|zZ) ?_
  refine jE ⟨_,(kH (cs:=(bx y2)) (d:=y2) rfl rfl jW rfl rfl (.tmp (d:=(.val (.int .i64 (0)))) rfl .nil)),?_⟩
  rw[show sqL p q=_ from if_pos h1];rfl
 ·refine jD<|jB<|kx [(3,(jP 0))] [(1,some (bx y1))] (zR (kK jW)<|zT (qA jW)<|zM<|zZ) ?_
  refine jE ⟨_,(kH (cs:=(bx y1)) (d:=y1) rfl rfl jW rfl rfl (.tmp (d:=(.val (.int .i64 (0)))) rfl .nil)),?_⟩
  rw[show sqL p q=_ from if_neg (by rw[h1];simp)];rfl
theorem h_whole(lo hi:Int)(h1:-9223372036854775808≤lo)(h2:lo≤9223372036854775807)(h3:-9223372036854775808≤hi)(h4:hi≤9223372036854775807):jR Tryz.prog 66 [(.val (.int .i64 (lo))),(.val (.int .i64 (hi)))] (jF (jV.mk (jN ((lo:Int):Rat)) (jN ((hi:Int):Rat)))):=by
 refine jJ Tryz.func66 rfl cb66 rfl ?_
 show qG _ _ _ _ ⟨[(0,(vi lo)),(1,(vi hi))],[]⟩
 refine jB<|kx [(4,(.ref 0 0))] [(0,some (bx (jF (jV.mk kZ kZ))))] (zN (qV 0 qO qS)<|zZ) ?_
 refine jB<|kx [] [(0,some (bx (jF (jV.mk (jN ((lo:Int):Rat)) (jN ((hi:Int):Rat))))))] (zM<|zE (jY (hH lo (by omega) (by omega)))<|zM<|zE (jY (hH hi (by omega) (by omega)))<|zE (eX pl61 qO qS)<|zT (qA jW)<|zZ) ?_
 refine jE ⟨_,(kH (cs:=(bx (jF (jV.mk (jN ((lo:Int):Rat)) (jN ((hi:Int):Rat)))))) (d:=(jF (jV.mk (jN ((lo:Int):Rat)) (jN ((hi:Int):Rat))))) rfl rfl jW rfl rfl .nil),?_⟩
 rfl
theorem h_same(a b:jV)(ha:GOk 4294967296 a)(hb:GOk 4294967296 b):jR Tryz.prog 38 [(jF a),(jF b)] (.val (.bool ((sameG a b)))):=by
 refine jJ Tryz.func38 rfl cb38 rfl ?_
 show qG _ _ _ _ ⟨[(0,(.d (jF a))),(1,(.d (jF b)))],[]⟩
 refine jB<|kx [(2,(.ref 0 0)),(3,(.ref 1 0))] [(0,some (bx (jF a))),(1,some (bx (jF b)))] (zN (vA 0)<|zN (vA 1)<|zM<|zZ) ?_
 refine jB<|kx [(4,(vb (((uK a)&&(uK b))&&(mA a.lo b.lo&&mA a.hi b.hi))))] [] ?_ ?_
 ·refine zR (kK jW)<|zE (jY (h_valid a ha))<|zE (oV (vb (uK a)) (qC (by kernel_rfl)))<|?_
  rcases hb1:(uK a) with _ | _
  ·exact zK<|zK<|zE yP<|zM<|zK<|zK<|zK<|zE yP<|zM<|zZ
  ·refine zR (kK jW)<|zE (jY (h_valid b hb))<|zE fA<|zE (oV (vb (true&&(uK b))) (qC (by kernel_rfl)))<|?_
   rcases hb2:(true&&(uK b)) with _ | _
   ·exact zK<|zK<|zK<|zE yP<|zM<|zZ
   ·exact zR (kK jW)<|zR (kK jW)<|zE (jY (g_samerange a b ha hb))<|zE fA<|zM<|zZ
 refine jE ⟨_,(.tmp (d:=(.val (.bool ((((uK a)&&(uK b))&&(mA a.lo b.lo&&mA a.hi b.hi)))))) rfl .nil),?_⟩
 rfl
theorem cb55:callB Tryz.prog 55=true:=by kernel_rfl
theorem cb92:callB Tryz.prog 92=true:=by kernel_rfl
theorem cb93:callB Tryz.prog 93=true:=by kernel_rfl
theorem i_add(p q r s:Rat)(hp:QL p 1073741824)(hq:QL q 1073741824)(hr:QL r 1073741824)(hs:QL s 1073741824)(hpq:p≤q)(hrs:r≤s):jR Tryz.prog 92 [(jF (jV.mk (jN p) (jN q))),(jF (jV.mk (jN r) (jN s)))] (.tup [(jF (jV.mk (jN (p+r)) (jN (q+s)))),(.val (.int .i64 (0)))]):=by
 refine jJ Tryz.func92 rfl cb92 rfl ?_
 show qG _ _ _ _ ⟨[(0,(.d (jF (jV.mk (jN p) (jN q))))),(1,(.d (jF (jV.mk (jN r) (jN s)))))],[]⟩
 refine jB<|kx [(2,(.ref 0 0)),(3,(.ref 1 0)),(4,(.ref 2 0))] [(0,some (bx (jF (jV.mk (jN p) (jN q))))),(1,some (bx (jF (jV.mk (jN r) (jN s))))),(2,some (bx (jF (jV.mk kZ kZ))))] (zN (vA 0)<|zN (vA 1)<|zN (qV 2 qO qS)<|zM<|zZ) ?_
 refine jB<|jB<|kx [(10,(vb false))] [] (zR (kK jW)<|zR (kK jW)<|zE (cN xI qO qS)<|zE (jY (by have h:=i_valids [(jV.mk (jN p) (jN q)),(jV.mk (jN r) (jN s))] (List.forall_mem_cons.2 ⟨(hZ (⟨qR (jO (jZ hp) (by decide:1073741824≤1073741824)),qR (jO (jZ hq) (by decide:1073741824≤1073741824))⟩) (by decide)),(List.forall_mem_cons.2 ⟨(hZ (⟨qR (jO (jZ hr) (by decide:1073741824≤1073741824)),qR (jO (jZ hs) (by decide:1073741824≤1073741824))⟩) (by decide)),(fun a h=>by cases h)⟩)⟩) (by simp);rw[show List.all [(jV.mk (jN p) (jN q)),(jV.mk (jN r) (jN s))] uK=true from by simp [zU hpq,zU hrs]] at h;exact h))<|zE mD<|zZ) ?_
 refine kU ?_
 refine jD<|jB<|kd [(5,(jP 0))] [(2,some (bx (jF (jV.mk (jN (p+r)) (jN (q+s))))))] mo (wE (kY vK)<|wR (kK jS)<|wE (kY vK)<|wR (kK jS)<|wE (jY (f_add (jN p) (jN r) p r (jO (jZ hp) (by decide)) (jO (jZ hr) (by decide))))<|wE (kY vY)<|wR (kK jS)<|wE (kY vY)<|wR (kK jS)<|wE (jY (f_add (jN q) (jN s) q s (jO (jZ hq) (by decide)) (jO (jZ hs) (by decide))))<|wE (eX pl61 qO qS)<|wT (qA jW)<|wM<|wZ) ?_
 refine jE ⟨_,(kH (cs:=(bx (jF (jV.mk (jN (p+r)) (jN (q+s)))))) (d:=(jF (jV.mk (jN (p+r)) (jN (q+s))))) rfl rfl jW rfl rfl (.tmp (d:=(.val (.int .i64 (0)))) rfl .nil)),?_⟩
 rfl
theorem i_sub(p q r s:Rat)(hp:QL p 1073741824)(hq:QL q 1073741824)(hr:QL r 1073741824)(hs:QL s 1073741824)(hpq:p≤q)(hrs:r≤s):jR Tryz.prog 93 [(jF (jV.mk (jN p) (jN q))),(jF (jV.mk (jN r) (jN s)))] (.tup [(jF (jV.mk (jN (p-s)) (jN (q-r)))),(.val (.int .i64 (0)))]):=by
 refine jJ Tryz.func93 rfl cb93 rfl ?_
 show qG _ _ _ _ ⟨[(0,(.d (jF (jV.mk (jN p) (jN q))))),(1,(.d (jF (jV.mk (jN r) (jN s)))))],[]⟩
 refine jB<|kx [(2,(.ref 0 0)),(3,(.ref 1 0)),(4,(.ref 2 0))] [(0,some (bx (jF (jV.mk (jN p) (jN q))))),(1,some (bx (jF (jV.mk (jN r) (jN s))))),(2,some (bx (jF (jV.mk kZ kZ))))] (zN (vA 0)<|zN (vA 1)<|zN (qV 2 qO qS)<|zM<|zZ) ?_
 refine jB<|jB<|kx [(10,(vb false))] [] (zR (kK jW)<|zR (kK jW)<|zE (cN xI qO qS)<|zE (jY (by have h:=i_valids [(jV.mk (jN p) (jN q)),(jV.mk (jN r) (jN s))] (List.forall_mem_cons.2 ⟨(hZ (⟨qR (jO (jZ hp) (by decide:1073741824≤1073741824)),qR (jO (jZ hq) (by decide:1073741824≤1073741824))⟩) (by decide)),(List.forall_mem_cons.2 ⟨(hZ (⟨qR (jO (jZ hr) (by decide:1073741824≤1073741824)),qR (jO (jZ hs) (by decide:1073741824≤1073741824))⟩) (by decide)),(fun a h=>by cases h)⟩)⟩) (by simp);rw[show List.all [(jV.mk (jN p) (jN q)),(jV.mk (jN r) (jN s))] uK=true from by simp [zU hpq,zU hrs]] at h;exact h))<|zE mD<|zZ) ?_
 refine kU ?_
 refine jD<|jB<|kd [(5,(jP 0))] [(2,some (bx (jF (jV.mk (jN (p-s)) (jN (q-r))))))] mo (wE (kY vK)<|wR (kK jS)<|wE (kY vY)<|wR (kK jS)<|wE (jY (f_sub (jN p) (jN s) p s (jO (jZ hp) (by decide)) (jO (jZ hs) (by decide))))<|wE (kY vY)<|wR (kK jS)<|wE (kY vK)<|wR (kK jS)<|wE (jY (f_sub (jN q) (jN r) q r (jO (jZ hq) (by decide)) (jO (jZ hr) (by decide))))<|wE (eX pl61 qO qS)<|wT (qA jW)<|wM<|wZ) ?_
 refine jE ⟨_,(kH (cs:=(bx (jF (jV.mk (jN (p-s)) (jN (q-r)))))) (d:=(jF (jV.mk (jN (p-s)) (jN (q-r))))) rfl rfl jW rfl rfl (.tmp (d:=(.val (.int .i64 (0)))) rfl .nil)),?_⟩
 rfl
theorem by45:yL Tryz.prog 45=some 64:=by kernel_rfl
theorem cb37:callB Tryz.prog 37=true:=by kernel_rfl
theorem cb174:callB Tryz.prog 174=true:=by kernel_rfl
theorem cb238:callB Tryz.prog 238=true:=by kernel_rfl
theorem cb239:callB Tryz.prog 239=true:=by kernel_rfl
theorem g_least(l:List Rat)(hl:∀ q∈l,QL q 4294967296)(h0:0<l.length)(hb:l.length≤1000000):jR Tryz.prog 238 [(.sl 45 4 (List.map jK (List.map jN l)))] (.tup [(jK (jN (nS (l.getD 0 0) l))),(.val (.int .i64 (0)))]):=by
 refine jJ Tryz.func238 rfl cb238 rfl ?_
 show qG _ _ _ _ ⟨[(0,(vl 45 4 jK (List.map jN l)))],[]⟩
 refine jB<|kx [(2,(.ref 0 0))] [(0,some (bx (jK kZ)))] (zN (qV 0 qU qY)<|zM<|zZ) ?_
 refine jB<|jB<|kx [(8,(vb (((l.length:Nat):Int) == 0)))] [] (zM<|zE (oLn uE l.length)<|zE xR<|zZ) ?_
 refine jG (b:=(((l.length:Nat):Int) == 0)) rfl (fun h1=>?_) (fun h1=>?_)
 ·replace h1:=eq_of_beq h1
  exfalso;omega
 ·replace h1:=ne_of_beq_false h1
  refine jD<|jB<|kx [(4,(.ref 1 0))] [(1,some (bx (jK (jN (l.getD 0 0)))))] (zM<|zE (oXm uE jN 0 0)<|zE (gE jS)<|zE (jY (eO (jN (l.getD 0 0)) (l.getD 0 0) (jO (jZ (dT hl (by decide) 0)) (by decide))))<|zN (qV 1 qU qY)<|zT (qA jS)<|zZ) ?_
  refine jB<|jB<|kx [(5,(jP 1))] [] (zM<|zZ) ?_
  refine jH<|kA (α:=Nat × Rat) (fun (i,b)=>⟨[(0,(vl 45 4 jK (List.map jN l))),(2,(.ref 0 0)),(4,(.ref 1 0)),(5,(jP i))],[(0,some (bx (jK kZ))),(1,some (bx (jK (jN b))))]⟩) (fun (i,b)=>i≤l.length∧b=nS (l.getD 0 0) (l.take i)) (fun (i,b)=>l.length-i) (1,l.getD 0 0) wk ⟨by omega,least_start h0⟩ ?_
  rintro ⟨i,b⟩ ⟨hi,hv⟩
  have hbq:QL b 4294967296:=by rw[hv];exact ql_mnL (dT hl (by decide) 0) (fun q hq=>hl q (List.mem_of_mem_take hq))
  refine jB<|jB<|kx [(17,(vb (decide (((i:Nat):Int)<((l.length:Nat):Int)))))] [] (zM<|zM<|zE (oLn uE l.length)<|zE xK<|zZ) ?_
  refine jG rfl (fun h2=>?_) (fun h2=>?_)
  ·replace h2:=uP h2
   refine jD<|jB<|jH<|jB<|kd [(26,(vb (decide ((yC (l.getD i 0) b)<0))))] [] mo (wM<|wM<|wE (oXm uE jN i 0)<|wE (gE jS)<|wR (kK jS)<|wE (jY (bY (jN (l.getD i 0)) (jN b) (l.getD i 0) b (jZ (dT hl (by decide) i)) (jZ hbq)))<|wE xK<|wZ) ?_
   refine jG (b:=decide ((yC (l.getD i 0) b)<0)) rfl (fun h3=>?_) (fun h3=>?_)
   ·replace h3:=uP h3
    refine kx [] [(1,some (bx (jK (jN (l.getD i 0)))))] (zM<|zM<|zE (oXm uE jN i 0)<|zE (gE jS)<|zE (jY (eO (jN (l.getD i 0)) (l.getD i 0) (jO (jZ (dT hl (by decide) i)) (by decide))))<|zT (qA jS)<|zZ) ?_
    refine kx [(5,(jP (i+1)))] [] (zM<|zE (vC (i+1))<|zM<|zZ) ?_
    exact ⟨(i+1,l.getD i 0),wk,⟨by omega,mnL_lt (by omega) hv h3⟩,(by first|omega|(dsimp only;omega))⟩
   ·replace h3:=uR h3
    refine jD<|kx [(5,(jP (i+1)))] [] (zM<|zE (vC (i+1))<|zM<|zZ) ?_
    exact ⟨(i+1,b),wk,⟨by omega,mnL_ge (by omega) hv h3⟩,(by first|omega|(dsimp only;omega))⟩
  ·replace h2:=uR h2
   have hie:i=l.length:=by omega
   rw[hie,List.take_length] at hv
   refine kB<|jB<|kx [(3,(jP 0))] [(0,some (bx (jK (jN b))))] (zR (kK jS)<|zT (qA jS)<|zM<|zZ) ?_
   refine jE ⟨_,(kH (cs:=(bx (jK (jN b)))) (d:=(jK (jN b))) rfl rfl jS rfl rfl (.tmp (d:=(.val (.int .i64 (0)))) rfl .nil)),?_⟩
   rw[hv];rfl
theorem g_greatest(l:List Rat)(hl:∀ q∈l,QL q 4294967296)(h0:0<l.length)(hb:l.length≤1000000):jR Tryz.prog 239 [(.sl 45 4 (List.map jK (List.map jN l)))] (.tup [(jK (jN (mP (l.getD 0 0) l))),(.val (.int .i64 (0)))]):=by
 let y1:=(bx (jK kZ))
 refine jJ Tryz.func239 rfl cb239 rfl ?_
 show qG _ _ _ _ ⟨[(0,(vl 45 4 jK (List.map jN l)))],[]⟩
 refine jB<|kx [(2,(.ref 0 0))] [(0,some y1)] (zN (qV 0 qU qY)<|zM<|zZ) ?_
 refine jB<|kS (wk (l:=[(0,(vl 45 4 jK (List.map jN l))),(2,(.ref 0 0))]) (b:=[(0,some y1)])) ?_
 refine kx [(4,(.own 1 45 4 0))] [(1,some (yG jK []))] (zN (oBo 1 uE qU qY)<|zM<|zZ) ?_
 refine jB<|jB<|kS (wk (l:=[(0,(vl 45 4 jK (List.map jN l))),(2,(.ref 0 0)),(4,(.own 1 45 4 0))]) (b:=[(0,some y1),(1,some (yG jK []))])) ?_
 refine kx [(5,(jP 0))] [] (zM<|zZ) ?_
 refine jH<|kA (α:=Nat × List jQ) (fun (i,o)=>⟨[(0,(vl 45 4 jK (List.map jN l))),(2,(.ref 0 0)),(4,(.own 1 45 4 o.length)),(5,(jP i))],[(0,some y1),(1,some (yG jK o))]⟩) (fun (i,o)=>i≤l.length∧o=List.map jN (List.map (fun q=>-q) (l.take i))) (fun (i,o)=>l.length-i) (0,[]) wk ⟨Nat.zero_le _,rfl⟩ ?_
 rintro ⟨i,o⟩ ⟨hi,hv⟩
 have hol:o.length=i:=by rw[hv];simp;omega
 refine jB<|jB<|kx [(12,(vb (decide (((i:Nat):Int)<((l.length:Nat):Int)))))] [] (zM<|zM<|zE (oLn uE l.length)<|zE xK<|zZ) ?_
 refine jG rfl (fun h1=>?_) (fun h1=>?_)
 ·replace h1:=uP h1
  refine jD<|jB<|jH<|kS (wk (l:=[(0,(vl 45 4 jK (List.map jN l))),(2,(.ref 0 0)),(4,(.own 1 45 4 o.length)),(5,(jP i)),(12,(vb (decide (((i:Nat):Int)<((l.length:Nat):Int)))))]) (b:=[(0,some y1),(1,some (yG jK o))])) ?_
  refine kf [(4,(.own 1 45 4 ((o++[(jN (-(l.getD i 0)))]).length)))] [(1,some (yG jK (o++[(jN (-(l.getD i 0)))])))] (zM<|zM<|zM<|zE (oXm uE jN i 0)<|zE (gE jS)<|zE (jY (g_neg (jN (l.getD i 0)) (l.getD i 0) (jO (jZ (dT hl (by decide) i)) (by decide))))<|zE (cN uE qU qY)<|zAS jK o [(jN (-(l.getD i 0)))] rfl uE qU by45<|zM<|zF) ?_
  refine kS (wk (l:=[(0,(vl 45 4 jK (List.map jN l))),(2,(.ref 0 0)),(4,(.own 1 45 4 ((o++[(jN (-(l.getD i 0)))]).length))),(5,(jP i))]) (b:=[(0,some y1),(1,some (yG jK (o++[(jN (-(l.getD i 0)))])))])) ?_
  refine kx [(5,(jP (i+1)))] [] (zM<|zE (vC (i+1))<|zM<|zZ) ?_
  exact ⟨(i+1,o++[jN (-(l.getD i 0))]),wk,⟨by omega,neg_push (by omega) hv⟩,(by first|omega|(dsimp only;omega))⟩
 ·replace h1:=uR h1
  have hie:i=l.length:=by omega
  rw[hie,List.take_length] at hv
  subst hv
  refine kB<|jB<|kS (vD (t:=4) (k:=1) (es:=List.map jK (List.map jN (List.map (fun q=>-q) l))) rfl rfl (zL _ _ (fun _=>rfl)) (uJ _ _ rfl) (yS jK (List.map jN (List.map (fun q=>-q) l)) (fun _=>rfl) rfl)) ?_
  refine kS (wk (l:=[(0,(vl 45 4 jK (List.map jN l))),(2,(.ref 0 0)),(4,(vl 45 4 jK (List.map jN (List.map (fun q=>-q) l)))),(5,(jP i)),(12,(vb (decide (((i:Nat):Int)<((l.length:Nat):Int)))))]) (b:=[(0,some y1)])) ?_
  refine kx [(6,(.ref 2 0)),(7,(vi 0))] [(2,some (bx (jK (jN (nS ((List.map (fun q=>-q) l).getD 0 0) (List.map (fun q=>-q) l))))))] (zM<|zE (jY (g_least (List.map (fun q=>-q) l) (ql_negs hl) (by first | exact h0 | simpa using h0) (by first | exact hb | simpa using hb)))<|zM<|zE uT<|zE uT<|zN (qV 2 qU qY)<|zT (qA jS)<|zM<|zZ) ?_
  refine jB<|jB<|kS (wk (l:=[(2,(.ref 0 0)),(6,(.ref 2 0)),(7,(vi 0))]) (b:=[(0,some y1),(2,some (bx (jK (jN (nS ((List.map (fun q=>-q) l).getD 0 0) (List.map (fun q=>-q) l))))))])) ?_
  refine kx [(29,(vb false))] [] (zM<|zE nW<|zZ) ?_
  refine kU ?_
  refine jD<|jB<|kS (wk (l:=[(2,(.ref 0 0)),(6,(.ref 2 0)),(7,(vi 0)),(29,(vb false))]) (b:=[(0,some y1),(2,some (bx (jK (jN (nS ((List.map (fun q=>-q) l).getD 0 0) (List.map (fun q=>-q) l))))))])) ?_
  refine kx [(3,(jP 0))] [(0,some (bx (jK (jN (-(nS ((List.map (fun q=>-q) l).getD 0 0) (List.map (fun q=>-q) l)))))))] (zR (kK jS)<|zE (jY (g_neg (jN (nS ((List.map (fun q=>-q) l).getD 0 0) (List.map (fun q=>-q) l))) (nS ((List.map (fun q=>-q) l).getD 0 0) (List.map (fun q=>-q) l)) (jO (jZ (ql_mnL (dT (ql_negs hl) (by decide) 0) (ql_negs hl))) (by decide))))<|zT (qA jS)<|zM<|zZ) ?_
  refine jE ⟨_,(kH (cs:=(bx (jK (jN (-(nS ((List.map (fun q=>-q) l).getD 0 0) (List.map (fun q=>-q) l))))))) (d:=(jK (jN (-(nS ((List.map (fun q=>-q) l).getD 0 0) (List.map (fun q=>-q) l)))))) rfl rfl jS rfl rfl (.tmp (d:=(.val (.int .i64 (0)))) rfl .nil)),?_⟩
  rw[← great_eq h0];rfl
theorem h_spanned(p:Rat)(qs:List Rat)(hl:∀ q∈p::qs,QL q 4294967296)(hb:(p::qs).length≤1000000):jR Tryz.prog 174 [(.sl 45 4 (List.map jK (List.map jN (p::qs))))] (jF (jV.mk (jN (nS p qs)) (jN (mP p qs)))):=by
 have h0:0<(p::qs).length:=by simp
 let y1:=(jF (jV.mk (jN (nS ((p::qs).getD 0 0) (p::qs))) (jN (mP ((p::qs).getD 0 0) (p::qs)))))
 refine jJ Tryz.func174 rfl cb174 rfl ?_
 show qG _ _ _ _ ⟨[(0,(vl 45 4 jK (List.map jN (p::qs))))],[]⟩
 refine jB<|kx [(2,(.ref 0 0))] [(0,some (bx (jF (jV.mk kZ kZ))))] (zN (qV 0 qO qS)<|zZ) ?_
 refine jB<|kx [(3,(.ref 1 0))] [(1,some (bx (jK (jN (nS ((p::qs).getD 0 0) (p::qs))))))] (zM<|zE (jY (g_least (p::qs) hl (by first | exact h0 | simpa using h0) (by first | exact hb | simpa using hb)))<|zM<|zE uT<|zE uT<|zN (qV 1 qU qY)<|zT (qA jS)<|zM<|zZ) ?_
 refine jB<|kx [(5,(.ref 2 0))] [(2,some (bx (jK (jN (mP ((p::qs).getD 0 0) (p::qs))))))] (zM<|zE (jY (g_greatest (p::qs) hl h0 hb))<|zM<|zE uT<|zE uT<|zN (qV 2 qU qY)<|zT (qA jS)<|zM<|zZ) ?_
 refine jB<|kx [] [(0,some (bx y1))] (zR (kK jS)<|zR (kK jS)<|zE (eX pl61 qO qS)<|zT (qA jW)<|zZ) ?_
 refine jE ⟨_,(kH (cs:=(bx y1)) (d:=y1) rfl rfl jW rfl rfl .nil),?_⟩
 rw[← mnL_self p qs,← mxL_self p qs];rfl
theorem h_point(p:Rat)(hp:QL p 4294967296):jR Tryz.prog 37 [(jK (jN p))] (jF (jV.mk (jN p) (jN p))):=by
 refine jJ Tryz.func37 rfl cb37 rfl ?_
 show qG _ _ _ _ ⟨[(0,(.d (jK (jN p))))],[]⟩
 refine jB<|kx [(1,(.ref 0 0)),(2,(.ref 1 0))] [(0,some (bx (jK (jN p)))),(1,some (bx (jF (jV.mk kZ kZ))))] (zN (vA 0)<|zN (qV 1 qO qS)<|zZ) ?_
 refine jB<|kx [] [(1,some (bx (jF (jV.mk (jN p) (jN p)))))] (zR (kK jS)<|zR (kK jS)<|zE (eX pl61 qO qS)<|zT (qA jW)<|zZ) ?_
 refine jE ⟨_,(kH (cs:=(bx (jF (jV.mk (jN p) (jN p))))) (d:=(jF (jV.mk (jN p) (jN p)))) rfl rfl jW rfl rfl .nil),?_⟩
 rfl
theorem cb23:callB Tryz.prog 23=true:=by kernel_rfl
theorem g_zero(x:jQ)(p:Rat)(hx:gW x p 140737488355328):jR Tryz.prog 23 [(jK x)] (.val (.bool ((zeroR x)))):=by
 have h1:=hx.n1
 have h2:=hx.n2
 refine jJ Tryz.func23 rfl cb23 rfl ?_
 show qG _ _ _ _ ⟨[(0,(.d (jK x)))],[]⟩
 refine jB<|kx [(1,(.ref 0 0))] [(0,some (bx (jK x)))] (zN (vA 0)<|zM<|zZ) ?_
 refine jB<|kx [(2,(vb (((!x.num.neg&&!x.den.neg)&&(((x.num.gs.length:Nat):Int) == 0))&&(((x.den.gs.length:Nat):Int) == 0))))] [] ?_ ?_
 ·refine zE (kY xU)<|zE (kY vL)<|zR (uM aX)<|zE mD<|zE (oV (vb (!x.num.neg)) (qC (by kernel_rfl)))<|?_
  rcases hb1:(!x.num.neg) with _ | _
  ·exact zK<|zK<|zK<|zK<|zE yP<|zM<|zK<|zK<|zK<|zK<|zK<|zE yP<|zM<|zK<|zK<|zK<|zK<|zK<|zE yP<|zM<|zZ
  ·refine zE (kY xJ)<|zE (kY vL)<|zR (uM aX)<|zE mD<|zE fA<|zE (oV (vb (true&&!x.den.neg)) (qC (by kernel_rfl)))<|?_
   rcases hb2:(true&&!x.den.neg) with _ | _
   ·exact zK<|zK<|zK<|zK<|zK<|zE yP<|zM<|zK<|zK<|zK<|zK<|zK<|zE yP<|zM<|zZ
   ·refine zE (kY xU)<|zE (kY vS)<|zR (uM yB)<|zE (uW kO)<|zE xR<|zE fA<|zE (oV (vb (true&&(((x.num.gs.length:Nat):Int) == 0))) (qC (by kernel_rfl)))<|?_
    rcases hb3:(true&&(((x.num.gs.length:Nat):Int) == 0)) with _ | _
    ·exact zK<|zK<|zK<|zK<|zK<|zE yP<|zM<|zZ
    ·exact zE (kY xJ)<|zE (kY vS)<|zR (uM yB)<|zE (uW kO)<|zE xR<|zE fA<|zM<|zZ
 refine jE ⟨_,(.tmp (d:=(.val (.bool ((((!x.num.neg&&!x.den.neg)&&(((x.num.gs.length:Nat):Int) == 0))&&(((x.den.gs.length:Nat):Int) == 0)))))) rfl .nil),?_⟩
 rfl
end Go.Proofs.YtnajallgoaiahaaGreatDoor
