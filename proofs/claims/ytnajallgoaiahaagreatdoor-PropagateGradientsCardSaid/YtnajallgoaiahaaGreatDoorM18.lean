/- Part 18 of a proof: rules, plain facts, and functions walked. -/
import Derived.Test.YtnajallgoaiahaaGreatDoorM17
import Derived.Test.YtnajallgoaiahaaGreatDoorM10
set_option linter.unusedVariables false
set_option linter.unusedSimpArgs false
set_option maxRecDepth 4000
namespace Go.Proofs.YtnajallgoaiahaaGreatDoor
open Go.Fid
theorem cb38:callB Tryz.prog 38=true:=by kernel_rfl
theorem cb66:callB Tryz.prog 66=true:=by kernel_rfl
theorem cb98:callB Tryz.prog 98=true:=by kernel_rfl
theorem cb107:callB Tryz.prog 107=true:=by kernel_rfl
theorem cb108:callB Tryz.prog 108=true:=by kernel_rfl
theorem cb125:callB Tryz.prog 125=true:=by kernel_rfl
theorem cb152:callB Tryz.prog 152=true:=by kernel_rfl
theorem cb164:callB Tryz.prog 164=true:=by kernel_rfl
theorem cb165:callB Tryz.prog 165=true:=by kernel_rfl
theorem cb166:callB Tryz.prog 166=true:=by kernel_rfl
theorem cb244:callB Tryz.prog 244=true:=by kernel_rfl
theorem cb260:callB Tryz.prog 260=true:=by kernel_rfl
theorem vE:xC Tryz.prog 24=some (45,4):=by kernel_rfl
theorem uW:xC Tryz.prog 86=some (61,8):=by kernel_rfl
theorem pl61:eF Tryz.prog 61=some [(0,4),(4,4)]:=by kernel_rfl
theorem jY:uF Tryz.prog 61=some (true,8):=by kernel_rfl
theorem qL:yM Tryz.prog 61=some [.bool false,.slice none 0 0,.bool false,.slice none 0 0,.bool false,.slice none 0 0,.bool false,.slice none 0 0]:=by kernel_rfl
theorem qR:aR [.bool false,.slice none 0 0,.bool false,.slice none 0 0,.bool false,.slice none 0 0,.bool false,.slice none 0 0] [.val (.bool false),.sl 140 1 [],.val (.bool false),.sl 140 1 [],.val (.bool false),.sl 140 1 [],.val (.bool false),.sl 140 1 []]:=by simp [aR,Value.oneCell']
theorem h_valid(a:jO)(ha:GOk 4294967296 a):jS Tryz.prog 98 [(jD a)] (.val (.bool ((vA a)))):=by
 refine jJ Tryz.func98 rfl cb98 rfl ?_
 show qM _ _ _ _ ⟨[(0,(.d (jD a)))],[]⟩
 refine jB<|kx [(1,(.ref 0 0))] [(0,some (bx (jD a)))] (zN (uY 0)<|zM<|zZ) ?_
 refine jB<|kx [(2,(vb (((kW a.lo)&&(kW a.hi))&&decide ((yE (qN a.lo) (qN a.hi))≤0))))] [] ?_ ?_
 ·refine zE (qA vT)<|zR (kP jW)<|zE (kA (iA a.lo (qN a.lo) (jQ ha.1 (by decide))))<|zE (oV (vb (kW a.lo)) (qQ (by kernel_rfl)))<|?_
  rcases hb1:(kW a.lo) with _ | _
  ·exact zK<|zK<|zK<|zE gE<|zM<|zK<|zK<|zK<|zK<|zK<|zK<|zE gE<|zM<|zZ
  ·refine zE (qA xF)<|zR (kP jW)<|zE (kA (iA a.hi (qN a.hi) (jQ ha.2 (by decide))))<|zE fA<|zE (oV (vb (true&&(kW a.hi))) (qQ (by kernel_rfl)))<|?_
   rcases hb2:(true&&(kW a.hi)) with _ | _
   ·exact zK<|zK<|zK<|zK<|zK<|zK<|zE gE<|zM<|zZ
   ·exact zE (qA vT)<|zR (kP jW)<|zE (qA xF)<|zR (kP jW)<|zE (kA (bB a.lo a.hi (qN a.lo) (qN a.hi) ha.1 ha.2))<|zE oLe<|zE fA<|zM<|zZ
 refine jG ⟨_,(.tmp (d:=(.val (.bool ((((kW a.lo)&&(kW a.hi))&&decide ((yE (qN a.lo) (qN a.hi))≤0)))))) rfl .nil),?_⟩
 rw[validG_eq];rfl
theorem fZ(a:jO)(ha:GOk 4294967296 a):jS Tryz.prog 125 [(jD a)] (.val (.bool ((vA a)))):=by
 refine jJ Tryz.func125 rfl cb125 rfl ?_
 show qM _ _ _ _ ⟨[(0,(.d (jD a)))],[]⟩
 refine jB<|kx [(1,(.ref 0 0))] [(0,some (bx (jD a)))] (zN (uY 0)<|zM<|zZ) ?_
 refine jB<|kx [(2,(vb (((kW a.lo)&&(kW a.hi))&&decide ((yE (qN a.lo) (qN a.hi))≤0))))] [] ?_ ?_
 ·refine zE (qA vT)<|zR (kP jW)<|zE (kA (cE a.lo (qN a.lo) (jQ ha.1 (by decide))))<|zE (oV (vb (kW a.lo)) (qQ (by kernel_rfl)))<|?_
  rcases hb1:(kW a.lo) with _ | _
  ·exact zK<|zK<|zK<|zE gE<|zM<|zK<|zK<|zK<|zK<|zK<|zK<|zE gE<|zM<|zZ
  ·refine zE (qA xF)<|zR (kP jW)<|zE (kA (cE a.hi (qN a.hi) (jQ ha.2 (by decide))))<|zE fA<|zE (oV (vb (true&&(kW a.hi))) (qQ (by kernel_rfl)))<|?_
   rcases hb2:(true&&(kW a.hi)) with _ | _
   ·exact zK<|zK<|zK<|zK<|zK<|zK<|zE gE<|zM<|zZ
   ·exact zE (qA vT)<|zR (kP jW)<|zE (qA xF)<|zR (kP jW)<|zE (kA (cL a.lo a.hi (qN a.lo) (qN a.hi) (jQ ha.1 (by decide)) (jQ ha.2 (by decide))))<|zE oLe<|zE fA<|zM<|zZ
 refine jG ⟨_,(.tmp (d:=(.val (.bool ((((kW a.lo)&&(kW a.hi))&&decide ((yE (qN a.lo) (qN a.hi))≤0)))))) rfl .nil),?_⟩
 rw[validG_eq];rfl
theorem i_valids(l:List jO)(hl:∀ a∈l,GOk 4294967296 a)(hb:l.length≤1000000):jS Tryz.prog 152 [(.sl 61 8 (List.map jD l))] (.val (.bool ((l.all vA)))):=by
 let y1:=(jO.mk kR kR)
 refine jJ Tryz.func152 rfl cb152 rfl ?_
 show qM _ _ _ _ ⟨[(0,(vl 61 8 jD l))],[]⟩
 refine jB<|kx [] [] (zM<|zZ) ?_
 refine jB<|jB<|kx [(5,(vl 61 8 jD l)),(6,(jK l.length)),(7,(jK 0))] [] (zM<|zE (zD uW)<|zM<|zZ) ?_
 refine jI<|kM (α:=Nat) (fun i=>⟨[(5,(vl 61 8 jD l)),(6,(jK l.length)),(7,(jK i))],[]⟩) (fun i=>i≤l.length∧(l.take i).all vA=true) (fun i=>l.length-i) 0 wk ⟨Nat.zero_le _,by simp⟩ ?_
 rintro i ⟨hi,hv⟩
 refine jB<|kx [(8,(vb (decide (((i:Nat):Int)<((l.length:Nat):Int)))))] [] (zE xY<|zZ) ?_
 refine jB<|jH rfl (fun h1=>?_) (fun h1=>?_)
 ·replace h1:=vJ h1
  refine jF<|jB<|jI<|jB<|kx [(4,(.ref 0 0))] [(0,some (bx (jD (l.getD i y1))))] (zE (nE uW i y1)<|zE (gN jY)<|zN (qW 0 qL qR)<|zT (qF jY)<|zZ) ?_
  refine jB<|kx [(13,(vb (!(vA (l.getD i y1)))))] [] (zR (kP jY)<|zE (kA (fZ (l.getD i y1) (gok_get hl (show i<l.length by omega))))<|zE mT<|zZ) ?_
  refine jH rfl (fun h2=>?_) (fun h2=>?_)
  ·refine jB<|kx [(2,(vb false))] [] (zM<|zZ) ?_
   refine jG ⟨_,(.tmp (d:=(.val (.bool (false)))) rfl .nil),?_⟩
   rw[all_not (f:=vA) (l:=l) (i:=i) (d:=(jO.mk kR kR)) (by omega) (by simpa using h2)];rfl
  ·refine jF<|kx [(7,(jK (i+1)))] [] (zE (xE (i+1))<|zM<|zZ) ?_
   exact ⟨(i+1),wk,⟨by omega,all_take (d:=(jO.mk kR kR)) (by omega) hv (by simpa using h2)⟩,(by first|omega|(dsimp only;omega))⟩
 ·replace h1:=vM h1
  have hie:i=l.length:=by omega
  rw[hie,List.take_length] at hv
  refine kL<|jB<|kx [(2,(vb true))] [] (zM<|zZ) ?_
  refine jG ⟨_,(.tmp (d:=(.val (.bool (true)))) rfl .nil),?_⟩
  rw[hv];rfl
theorem i_zero(p q:Rat)(hp:QL p 1073741824)(hq:QL q 1073741824):jS Tryz.prog 166 [(jD (jO.mk (jM p) (jM q)))] (.val (.bool ((yS p q)))):=by
 refine jJ Tryz.func166 rfl cb166 rfl ?_
 show qM _ _ _ _ ⟨[(0,(.d (jD (jO.mk (jM p) (jM q)))))],[]⟩
 refine jB<|kx [(1,(.ref 0 0))] [(0,some (bx (jD (jO.mk (jM p) (jM q)))))] (zN (uY 0)<|zM<|zZ) ?_
 refine jB<|kx [(2,(vb (decide ((mB p)≤0)&&decide (0≤(mB q)))))] [] ?_ ?_
 ·refine zE (qA vT)<|zR (kP jW)<|zE (kA (f_sign (jM p) p (jQ (kB hp) (by decide))))<|zE oLe<|zE (oV (vb (decide ((mB p)≤0))) (qQ (by kernel_rfl)))<|?_
  rcases hb1:(decide ((mB p)≤0)) with _ | _
  ·replace hb1:=vM hb1
   exact zK<|zK<|zK<|zK<|zE gE<|zM<|zZ
  ·replace hb1:=vJ hb1
   exact zE (qA xF)<|zR (kP jW)<|zE (kA (f_sign (jM q) q (jQ (kB hq) (by decide))))<|zE oGe<|zE fA<|zM<|zZ
 refine jG ⟨_,(.tmp (d:=(.val (.bool ((decide ((mB p)≤0)&&decide (0≤(mB q))))))) rfl .nil),?_⟩
 rw[zeroG_eq];rfl
theorem i_spanned(p:Rat)(qs:List Rat)(hp:QL p 17179869184)(hqs:∀ q∈qs,QL q 17179869184)(hb:qs.length≤1000000):jS Tryz.prog 165 [(jL (jM p)),(.sl 45 4 (List.map jL (List.map jM qs)))] (jD (jO.mk (jM (yV p qs)) (jM (gJ p qs)))):=by
 refine jJ Tryz.func165 rfl cb165 rfl ?_
 show qM _ _ _ _ ⟨[(0,(.d (jL (jM p)))),(1,(vl 45 4 jL (List.map jM qs)))],[]⟩
 refine jB<|kx [(2,(.ref 0 0)),(4,(.ref 1 0))] [(0,some (bx (jL (jM p)))),(1,some (bx (jD (jO.mk kR kR))))] (zN (uY 0)<|zN (qW 1 qL qR)<|zZ) ?_
 refine jB<|kx [(5,(.ref 2 0))] [(2,some (bx (jD (jO.mk (jM p) (jM p)))))] (zR (kP jW)<|zR (kP jW)<|zE (cS pl61 qL qR)<|zN (qW 2 qL qR)<|zT (qF jY)<|zZ) ?_
 refine jB<|jB<|kx [(11,(vl 45 4 jL (List.map jM qs))),(12,(jK qs.length)),(13,(jK 0))] [] (zM<|zE (oLn vE qs.length)<|zM<|zZ) ?_
 refine jI<|kM (α:=Nat × Rat × Rat) (fun (i,lo,hi)=>⟨[(4,(.ref 1 0)),(5,(.ref 2 0)),(11,(vl 45 4 jL (List.map jM qs))),(12,(jK qs.length)),(13,(jK i))],[(1,some (bx (jD (jO.mk kR kR)))),(2,some (bx (jD (jO.mk (jM lo) (jM hi)))))]⟩) (fun (i,lo,hi)=>i≤qs.length∧lo=yV p (qs.take i)∧hi=gJ p (qs.take i)) (fun (i,lo,hi)=>qs.length-i) (0,p,p) wk ⟨Nat.zero_le _,rfl,rfl⟩ ?_
 rintro ⟨i,lo,hi⟩ ⟨hi1,hl,hh⟩
 have htk:∀ q∈qs.take i,QL q 17179869184:=fun q hq=>hqs q (List.mem_of_mem_take hq)
 have hlo:QL lo 17179869184:=by rw[hl];exact ql_mnL hp htk
 have hhi:QL hi 17179869184:=by rw[hh];exact ql_mxL hp htk
 refine jB<|kx [(14,(vb (decide (((i:Nat):Int)<((qs.length:Nat):Int)))))] [] (zE xY<|zZ) ?_
 refine jB<|jH rfl (fun h1=>?_) (fun h1=>?_)
 ·replace h1:=vJ h1
  refine jF<|jB<|jI<|jB<|kx [(7,(.ref 3 0))] [(3,some (bx (jL (jM (qs.getD i 0)))))] (zE (oXm vE jM i 0)<|zE (gN jW)<|zN (qW 3 uH uN)<|zT (qF jW)<|zZ) ?_
  refine jB<|jB<|kx [(21,(vb (decide ((yE (qs.getD i 0) lo)<0))))] [] (zR (kP jW)<|zE (qA vT)<|zR (kP jW)<|zE (kA (cL (jM (qs.getD i 0)) (jM lo) (qs.getD i 0) lo (kB (cW hqs (by decide) i)) (kB hlo)))<|zE xY<|zZ) ?_
  refine jH (b:=decide ((yE (qs.getD i 0) lo)<0)) rfl (fun h2=>?_) (fun h2=>?_)
  ·replace h2:=vJ h2
   have hc1:=h2
   refine kx [] [(2,some (bx (jD (jO.mk (jM (qs.getD i 0)) (jM hi)))))] (zR (kP jW)<|zE (qA vT)<|zT (qF jW)<|zZ) ?_
   refine jB<|kx [(28,(vb (decide (0<(yE (qs.getD i 0) hi)))))] [] (zR (kP jW)<|zE (qA xF)<|zR (kP jW)<|zE (kA (cL (jM (qs.getD i 0)) (jM hi) (qs.getD i 0) hi (kB (cW hqs (by decide) i)) (kB hhi)))<|zE gD<|zZ) ?_
   refine jH (b:=decide (0<(yE (qs.getD i 0) hi))) rfl (fun h3=>?_) (fun h3=>?_)
   ·replace h3:=vJ h3
    have hc2:=h3
    refine kx [] [(2,some (bx (jD (jO.mk (jM (qs.getD i 0)) (jM (qs.getD i 0))))))] (zR (kP jW)<|zE (qA xF)<|zT (qF jW)<|zZ) ?_
    refine kx [(13,(jK (i+1)))] [] (zE (xE (i+1))<|zM<|zZ) ?_
    exact ⟨(i+1,qs.getD i 0,qs.getD i 0),wk,⟨by omega,mnL_lt (by omega) hl hc1,mxL_gt (by omega) hh hc2⟩,(by first|omega|(dsimp only;omega))⟩
   ·replace h3:=vM h3
    have hc2:=h3
    refine jF<|kx [(13,(jK (i+1)))] [] (zE (xE (i+1))<|zM<|zZ) ?_
    exact ⟨(i+1,qs.getD i 0,hi),wk,⟨by omega,mnL_lt (by omega) hl hc1,mxL_le (by omega) hh hc2⟩,(by first|omega|(dsimp only;omega))⟩
  ·replace h2:=vM h2
   have hc1:=h2
   refine jF<|jB<|kx [(28,(vb (decide (0<(yE (qs.getD i 0) hi)))))] [] (zR (kP jW)<|zE (qA xF)<|zR (kP jW)<|zE (kA (cL (jM (qs.getD i 0)) (jM hi) (qs.getD i 0) hi (kB (cW hqs (by decide) i)) (kB hhi)))<|zE gD<|zZ) ?_
   refine jH (b:=decide (0<(yE (qs.getD i 0) hi))) rfl (fun h4=>?_) (fun h4=>?_)
   ·replace h4:=vJ h4
    have hc2:=h4
    refine kx [] [(2,some (bx (jD (jO.mk (jM lo) (jM (qs.getD i 0))))))] (zR (kP jW)<|zE (qA xF)<|zT (qF jW)<|zZ) ?_
    refine kx [(13,(jK (i+1)))] [] (zE (xE (i+1))<|zM<|zZ) ?_
    exact ⟨(i+1,lo,qs.getD i 0),wk,⟨by omega,mnL_ge (by omega) hl hc1,mxL_gt (by omega) hh hc2⟩,(by first|omega|(dsimp only;omega))⟩
   ·replace h4:=vM h4
    have hc2:=h4
    refine jF<|kx [(13,(jK (i+1)))] [] (zE (xE (i+1))<|zM<|zZ) ?_
    exact ⟨(i+1,lo,hi),wk,⟨by omega,mnL_ge (by omega) hl hc1,mxL_le (by omega) hh hc2⟩,(by first|omega|(dsimp only;omega))⟩
 ·replace h1:=vM h1
  have hie:i=qs.length:=by omega
  rw[hie,List.take_length] at hl hh
  refine kL<|jB<|kx [] [(1,some (bx (jD (jO.mk (jM lo) (jM hi)))))] (zR (kP jY)<|zT (qF jY)<|zZ) ?_
  refine jG ⟨_,(kJ (cs:=(bx (jD (jO.mk (jM lo) (jM hi))))) (d:=(jD (jO.mk (jM lo) (jM hi)))) rfl rfl jY rfl rfl .nil),?_⟩
  rw[hl,hh];rfl
theorem i_quot(p q:Rat)(hp:QL p 1073741824)(hq:QL q 1073741824)(hq0:q≠0):jS Tryz.prog 260 [(jL (jM p)),(jL (jM q))] (jL (jM (p / q))):=by
 refine jJ Tryz.func260 rfl cb260 rfl ?_
 show qM _ _ _ _ ⟨[(0,(.d (jL (jM p)))),(1,(.d (jL (jM q))))],[]⟩
 refine jB<|kx [(2,(.ref 0 0)),(3,(.ref 1 0)),(4,(.ref 2 0))] [(0,some (bx (jL (jM p)))),(1,some (bx (jL (jM q)))),(2,some (bx (jL kR)))] (zN (uY 0)<|zN (uY 1)<|zN (qW 2 uH uN)<|zZ) ?_
 refine jB<|kx [(5,(.ref 3 0))] [(3,some (bx (jL (divR p q))))] (zR (kP jW)<|zR (kP jW)<|zE (kA (f_divide (jM p) (jM q) p q (jQ (kB hp) (by decide)) (jQ (kB hq) (by decide))))<|zM<|zE vI<|zE vI<|zN (qW 3 uH uN)<|zT (qF jW)<|zM<|zZ) ?_
 refine jB<|kx [] [(2,some (bx (jL (divR p q))))] (zR (kP jW)<|zT (qF jW)<|zZ) ?_
 refine jG ⟨_,(kJ (cs:=(bx (jL (divR p q)))) (d:=(jL (divR p q))) rfl rfl jW rfl rfl .nil),?_⟩
 rw[divR_ne hq0];rfl
theorem i_cornersM(p q r s:Rat)(hp:QL p 1073741824)(hq:QL q 1073741824)(hr:QL r 1073741824)(hs:QL s 1073741824):jS Tryz.prog 164 [(.val (.func (.func 82) #[] #[])),(jD (jO.mk (jM p) (jM q))),(jD (jO.mk (jM r) (jM s)))] (jD (jO.mk (jM (yV (p*r) [(p*s),(q*r),(q*s)])) (jM (gJ (p*r) [(p*s),(q*r),(q*s)])))):=by
 refine jJ Tryz.func164 rfl cb164 rfl ?_
 show qM _ _ _ _ ⟨[(0,(.d (.val (.func (.func 82) #[] #[])))),(1,(.d (jD (jO.mk (jM p) (jM q))))),(2,(.d (jD (jO.mk (jM r) (jM s)))))],[]⟩
 refine jB<|kx [(4,(.ref 0 0)),(5,(.ref 1 0)),(6,(.ref 2 0))] [(0,some (bx (jD (jO.mk (jM p) (jM q))))),(1,some (bx (jD (jO.mk (jM r) (jM s))))),(2,some (bx (jD (jO.mk kR kR))))] (zN (uY 0)<|zN (uY 1)<|zN (qW 2 qL qR)<|zZ) ?_
 refine jB<|kd [] [(2,some (bx (jD (jO.mk (jM (yV (p*r) [(p*s),(q*r),(q*s)])) (jM (gJ (p*r) [(p*s),(q*r),(q*s)]))))))] mo (wM<|wE (qA vT)<|wR (kP jW)<|wE (qA vT)<|wR (kP jW)<|wE (kA (eS (jM p) (jM r) p r (jQ (kB hp) (by decide)) (jQ (kB hr) (by decide))))<|wM<|wE (qA vT)<|wR (kP jW)<|wE (qA xF)<|wR (kP jW)<|wE (kA (eS (jM p) (jM s) p s (jQ (kB hp) (by decide)) (jQ (kB hs) (by decide))))<|wM<|wE (qA xF)<|wR (kP jW)<|wE (qA vT)<|wR (kP jW)<|wE (kA (eS (jM q) (jM r) q r (jQ (kB hq) (by decide)) (jQ (kB hr) (by decide))))<|wM<|wE (qA xF)<|wR (kP jW)<|wE (qA xF)<|wR (kP jW)<|wE (kA (eS (jM q) (jM s) q s (jQ (kB hq) (by decide)) (jQ (kB hs) (by decide))))<|wE (mC vE uH uN)<|wE (kA (i_spanned (p*r) [(p*s),(q*r),(q*s)] (xW (uC (k:=2147483648) hp hr (by decide)) (by decide)) (List.forall_mem_cons.2 ⟨(xW (uC (k:=2147483648) hp hs (by decide)) (by decide)),(List.forall_mem_cons.2 ⟨(xW (uC (k:=2147483648) hq hr (by decide)) (by decide)),(List.forall_mem_cons.2 ⟨(xW (uC (k:=2147483648) hq hs (by decide)) (by decide)),(fun a h=>by cases h)⟩)⟩)⟩) (by simp)))<|wT (qF jY)<|wZ) ?_
 refine jG ⟨_,(kJ (cs:=(bx (jD (jO.mk (jM (yV (p*r) [(p*s),(q*r),(q*s)])) (jM (gJ (p*r) [(p*s),(q*r),(q*s)])))))) (d:=(jD (jO.mk (jM (yV (p*r) [(p*s),(q*r),(q*s)])) (jM (gJ (p*r) [(p*s),(q*r),(q*s)]))))) rfl rfl jY rfl rfl .nil),?_⟩
 rfl
theorem i_cornersD(p q r s:Rat)(hp:QL p 1073741824)(hq:QL q 1073741824)(hr:QL r 1073741824)(hs:QL s 1073741824)(hr0:r≠0)(hs0:s≠0):jS Tryz.prog 164 [(.val (.func (.func 260) #[] #[])),(jD (jO.mk (jM p) (jM q))),(jD (jO.mk (jM r) (jM s)))] (jD (jO.mk (jM (yV (p / r) [(p / s),(q / r),(q / s)])) (jM (gJ (p / r) [(p / s),(q / r),(q / s)])))):=by
 refine jJ Tryz.func164 rfl cb164 rfl ?_
 show qM _ _ _ _ ⟨[(0,(.d (.val (.func (.func 260) #[] #[])))),(1,(.d (jD (jO.mk (jM p) (jM q))))),(2,(.d (jD (jO.mk (jM r) (jM s)))))],[]⟩
 refine jB<|kx [(4,(.ref 0 0)),(5,(.ref 1 0)),(6,(.ref 2 0))] [(0,some (bx (jD (jO.mk (jM p) (jM q))))),(1,some (bx (jD (jO.mk (jM r) (jM s))))),(2,some (bx (jD (jO.mk kR kR))))] (zN (uY 0)<|zN (uY 1)<|zN (qW 2 qL qR)<|zZ) ?_
 refine jB<|kd [] [(2,some (bx (jD (jO.mk (jM (yV (p / r) [(p / s),(q / r),(q / s)])) (jM (gJ (p / r) [(p / s),(q / r),(q / s)]))))))] mo (wM<|wE (qA vT)<|wR (kP jW)<|wE (qA vT)<|wR (kP jW)<|wE (kA (i_quot p r hp hr (by assumption)))<|wM<|wE (qA vT)<|wR (kP jW)<|wE (qA xF)<|wR (kP jW)<|wE (kA (i_quot p s hp hs (by assumption)))<|wM<|wE (qA xF)<|wR (kP jW)<|wE (qA vT)<|wR (kP jW)<|wE (kA (i_quot q r hq hr (by assumption)))<|wM<|wE (qA xF)<|wR (kP jW)<|wE (qA xF)<|wR (kP jW)<|wE (kA (i_quot q s hq hs (by assumption)))<|wE (mC vE uH uN)<|wE (kA (i_spanned (p / r) [(p / s),(q / r),(q / s)] (xW (aQ (k:=2147483648) hp hr (by decide)) (by decide)) (List.forall_mem_cons.2 ⟨(xW (aQ (k:=2147483648) hp hs (by decide)) (by decide)),(List.forall_mem_cons.2 ⟨(xW (aQ (k:=2147483648) hq hr (by decide)) (by decide)),(List.forall_mem_cons.2 ⟨(xW (aQ (k:=2147483648) hq hs (by decide)) (by decide)),(fun a h=>by cases h)⟩)⟩)⟩) (by simp)))<|wT (qF jY)<|wZ) ?_
 refine jG ⟨_,(kJ (cs:=(bx (jD (jO.mk (jM (yV (p / r) [(p / s),(q / r),(q / s)])) (jM (gJ (p / r) [(p / s),(q / r),(q / s)])))))) (d:=(jD (jO.mk (jM (yV (p / r) [(p / s),(q / r),(q / s)])) (jM (gJ (p / r) [(p / s),(q / r),(q / s)]))))) rfl rfl jY rfl rfl .nil),?_⟩
 rfl
theorem i_mul(p q r s:Rat)(hp:QL p 1073741824)(hq:QL q 1073741824)(hr:QL r 1073741824)(hs:QL s 1073741824)(hpq:p≤q)(hrs:r≤s):jS Tryz.prog 107 [(jD (jO.mk (jM p) (jM q))),(jD (jO.mk (jM r) (jM s)))] (.tup [(jD (jO.mk (jM (yV (p*r) [(p*s),(q*r),(q*s)])) (jM (gJ (p*r) [(p*s),(q*r),(q*s)])))),(.val (.int .i64 (0)))]):=by
 refine jJ Tryz.func107 rfl cb107 rfl ?_
 show qM _ _ _ _ ⟨[(0,(.d (jD (jO.mk (jM p) (jM q))))),(1,(.d (jD (jO.mk (jM r) (jM s)))))],[]⟩
 refine jB<|kx [(2,(.ref 0 0)),(3,(.ref 1 0)),(4,(.ref 2 0))] [(0,some (bx (jD (jO.mk (jM p) (jM q))))),(1,some (bx (jD (jO.mk (jM r) (jM s))))),(2,some (bx (jD (jO.mk kR kR))))] (zN (uY 0)<|zN (uY 1)<|zN (qW 2 qL qR)<|zM<|zZ) ?_
 refine jB<|jB<|kx [(10,(vb false))] [] (zR (kP jY)<|zR (kP jY)<|zE (mC uW qL qR)<|zE (kA (by have h:=i_valids [(jO.mk (jM p) (jM q)),(jO.mk (jM r) (jM s))] (List.forall_mem_cons.2 ⟨(gV (⟨uA (jQ (kB hp) (by decide:1073741824≤1073741824)),uA (jQ (kB hq) (by decide:1073741824≤1073741824))⟩) (by decide)),(List.forall_mem_cons.2 ⟨(gV (⟨uA (jQ (kB hr) (by decide:1073741824≤1073741824)),uA (jQ (kB hs) (by decide:1073741824≤1073741824))⟩) (by decide)),(fun a h=>by cases h)⟩)⟩) (by simp);rw[show List.all [(jO.mk (jM p) (jM q)),(jO.mk (jM r) (jM s))] vA=true from by simp [zI hpq,zI hrs]] at h;exact h))<|zE mT<|zZ) ?_
 refine kI ?_
 refine jF<|jB<|kx [(5,(jK 0))] [(2,some (bx (jD (jO.mk (jM (yV (p*r) [(p*s),(q*r),(q*s)])) (jM (gJ (p*r) [(p*s),(q*r),(q*s)]))))))] (zR (kP jY)<|zR (kP jY)<|zE (kA (i_cornersM p q r s hp hq hr hs))<|zT (qF jY)<|zM<|zZ) ?_
 refine jG ⟨_,(kJ (cs:=(bx (jD (jO.mk (jM (yV (p*r) [(p*s),(q*r),(q*s)])) (jM (gJ (p*r) [(p*s),(q*r),(q*s)])))))) (d:=(jD (jO.mk (jM (yV (p*r) [(p*s),(q*r),(q*s)])) (jM (gJ (p*r) [(p*s),(q*r),(q*s)]))))) rfl rfl jY rfl rfl (.tmp (d:=(.val (.int .i64 (0)))) rfl .nil)),?_⟩
 rfl
theorem i_divide(p q r s:Rat)(hp:QL p 1073741824)(hq:QL q 1073741824)(hr:QL r 1073741824)(hs:QL s 1073741824)(hpq:p≤q)(hrs:r≤s)(hz:yS r s=false):jS Tryz.prog 244 [(jD (jO.mk (jM p) (jM q))),(jD (jO.mk (jM r) (jM s)))] (.tup [(jD (jO.mk (jM (yV (p / r) [(p / s),(q / r),(q / s)])) (jM (gJ (p / r) [(p / s),(q / r),(q / s)])))),(.val (.int .i64 (0)))]):=by
 obtain ⟨hr0,hs0⟩:=zeroG_ne hrs hz
 refine jJ Tryz.func244 rfl cb244 rfl ?_
 show qM _ _ _ _ ⟨[(0,(.d (jD (jO.mk (jM p) (jM q))))),(1,(.d (jD (jO.mk (jM r) (jM s)))))],[]⟩
 refine jB<|kx [(2,(.ref 0 0)),(3,(.ref 1 0)),(4,(.ref 2 0))] [(0,some (bx (jD (jO.mk (jM p) (jM q))))),(1,some (bx (jD (jO.mk (jM r) (jM s))))),(2,some (bx (jD (jO.mk kR kR))))] (zN (uY 0)<|zN (uY 1)<|zN (qW 2 qL qR)<|zM<|zZ) ?_
 refine jB<|jB<|kx [(11,(vb false))] [] (zR (kP jY)<|zR (kP jY)<|zE (mC uW qL qR)<|zE (kA (by have h:=i_valids [(jO.mk (jM p) (jM q)),(jO.mk (jM r) (jM s))] (List.forall_mem_cons.2 ⟨(gV (⟨uA (jQ (kB hp) (by decide:1073741824≤1073741824)),uA (jQ (kB hq) (by decide:1073741824≤1073741824))⟩) (by decide)),(List.forall_mem_cons.2 ⟨(gV (⟨uA (jQ (kB hr) (by decide:1073741824≤1073741824)),uA (jQ (kB hs) (by decide:1073741824≤1073741824))⟩) (by decide)),(fun a h=>by cases h)⟩)⟩) (by simp);rw[show List.all [(jO.mk (jM p) (jM q)),(jO.mk (jM r) (jM s))] vA=true from by simp [zI hpq,zI hrs]] at h;exact h))<|zE mT<|zZ) ?_
 refine kI ?_
 refine jF<|jB<|jB<|kx [(14,(vb false))] [] (zR (kP jY)<|zE (kA (by have h:=i_zero r s hr hs;rw[show yS r s=false from hz] at h;exact h))<|zZ) ?_
 refine kI ?_
 refine jF<|jB<|kx [(6,(.d (.val (.func (.func 260) #[] #[]))))] [] (zM<|zZ) ?_
 refine jB<|kx [(5,(jK 0))] [(2,some (bx (jD (jO.mk (jM (yV (p / r) [(p / s),(q / r),(q / s)])) (jM (gJ (p / r) [(p / s),(q / r),(q / s)]))))))] (zM<|zR (kP jY)<|zR (kP jY)<|zE (kA (i_cornersD p q r s hp hq hr hs (by assumption) (by assumption)))<|zT (qF jY)<|zM<|zZ) ?_
 refine jG ⟨_,(kJ (cs:=(bx (jD (jO.mk (jM (yV (p / r) [(p / s),(q / r),(q / s)])) (jM (gJ (p / r) [(p / s),(q / r),(q / s)])))))) (d:=(jD (jO.mk (jM (yV (p / r) [(p / s),(q / r),(q / s)])) (jM (gJ (p / r) [(p / s),(q / r),(q / s)]))))) rfl rfl jY rfl rfl (.tmp (d:=(.val (.int .i64 (0)))) rfl .nil)),?_⟩
 rfl
theorem i_divideZ(p q r s:Rat)(hp:QL p 1073741824)(hq:QL q 1073741824)(hr:QL r 1073741824)(hs:QL s 1073741824)(hpq:p≤q)(hrs:r≤s)(hz:yS r s=true):jS Tryz.prog 244 [(jD (jO.mk (jM p) (jM q))),(jD (jO.mk (jM r) (jM s)))] (.tup [(jD (jO.mk kR kR)),(.val (.int .i64 (14)))]):=by
 refine jJ Tryz.func244 rfl cb244 rfl ?_
 show qM _ _ _ _ ⟨[(0,(.d (jD (jO.mk (jM p) (jM q))))),(1,(.d (jD (jO.mk (jM r) (jM s)))))],[]⟩
 refine jB<|kx [(2,(.ref 0 0)),(3,(.ref 1 0)),(4,(.ref 2 0))] [(0,some (bx (jD (jO.mk (jM p) (jM q))))),(1,some (bx (jD (jO.mk (jM r) (jM s))))),(2,some (bx (jD (jO.mk kR kR))))] (zN (uY 0)<|zN (uY 1)<|zN (qW 2 qL qR)<|zM<|zZ) ?_
 refine jB<|jB<|kx [(11,(vb false))] [] (zR (kP jY)<|zR (kP jY)<|zE (mC uW qL qR)<|zE (kA (by have h:=i_valids [(jO.mk (jM p) (jM q)),(jO.mk (jM r) (jM s))] (List.forall_mem_cons.2 ⟨(gV (⟨uA (jQ (kB hp) (by decide:1073741824≤1073741824)),uA (jQ (kB hq) (by decide:1073741824≤1073741824))⟩) (by decide)),(List.forall_mem_cons.2 ⟨(gV (⟨uA (jQ (kB hr) (by decide:1073741824≤1073741824)),uA (jQ (kB hs) (by decide:1073741824≤1073741824))⟩) (by decide)),(fun a h=>by cases h)⟩)⟩) (by simp);rw[show List.all [(jO.mk (jM p) (jM q)),(jO.mk (jM r) (jM s))] vA=true from by simp [zI hpq,zI hrs]] at h;exact h))<|zE mT<|zZ) ?_
 refine kI ?_
 refine jF<|jB<|jB<|kx [(14,(vb true))] [] (zR (kP jY)<|zE (kA (by have h:=i_zero r s hr hs;rw[show yS r s=true from hz] at h;exact h))<|zZ) ?_
 refine uD ?_
 refine jB<|kx [(5,(jK 14))] [(2,some (bx (jD (jO.mk kR kR))))] (zE (cS pl61 qL qR)<|zT (qF jY)<|zM<|zZ) ?_
 refine jG ⟨_,(kJ (cs:=(bx (jD (jO.mk kR kR)))) (d:=(jD (jO.mk kR kR))) rfl rfl jY rfl rfl (.tmp (d:=(.val (.int .i64 (14)))) rfl .nil)),?_⟩
 rfl
theorem i_square(p q:Rat)(hp:QL p 1073741824)(hq:QL q 1073741824)(hpq:p≤q):jS Tryz.prog 108 [(jD (jO.mk (jM p) (jM q)))] (.tup [(jD (jO.mk (jM (sqL p q)) (jM (sqH p q)))),(.val (.int .i64 (0)))]):=by
 refine jJ Tryz.func108 rfl cb108 rfl ?_
 show qM _ _ _ _ ⟨[(0,(.d (jD (jO.mk (jM p) (jM q)))))],[]⟩
 refine jB<|kx [(1,(.ref 0 0)),(2,(.ref 1 0))] [(0,some (bx (jD (jO.mk (jM p) (jM q))))),(1,some (bx (jD (jO.mk kR kR))))] (zN (uY 0)<|zN (qW 1 qL qR)<|zM<|zZ) ?_
 refine jB<|jB<|kx [(7,(vb false))] [] (zR (kP jY)<|zE (kA (by have h:=fZ (jO.mk (jM p) (jM q)) (gV (⟨uA (jQ (kB hp) (by decide:1073741824≤1073741824)),uA (jQ (kB hq) (by decide:1073741824≤1073741824))⟩) (by decide));rw[show vA (jO.mk (jM p) (jM q))=true from zI hpq] at h;exact h))<|zE mT<|zZ) ?_
 refine kI ?_
 refine jF<|jB<|kd [(4,(.ref 2 0))] [(2,some (bx (jD (jO.mk (jM (yV (p*p) [(q*q)])) (jM (gJ (p*p) [(q*q)]))))))] mo (wE (qA vT)<|wR (kP jW)<|wE (qA vT)<|wR (kP jW)<|wE (kA (eS (jM p) (jM p) p p (jQ (kB hp) (by decide)) (jQ (kB hp) (by decide))))<|wE (qA xF)<|wR (kP jW)<|wE (qA xF)<|wR (kP jW)<|wE (kA (eS (jM q) (jM q) q q (jQ (kB hq) (by decide)) (jQ (kB hq) (by decide))))<|wE (mC vE uH uN)<|wE (kA (i_spanned (p*p) [(q*q)] (xW (uC (k:=2147483648) hp hp (by decide)) (by decide)) (List.forall_mem_cons.2 ⟨(xW (uC (k:=2147483648) hq hq (by decide)) (by decide)),(fun a h=>by cases h)⟩) (by simp)))<|wN (qW 2 qL qR)<|wT (qF jY)<|wZ) ?_
 refine jB<|jB<|kx [(22,(vb (yS p q)))] [] (zR (kP jY)<|zE (kA (i_zero p q hp hq))<|zZ) ?_
 refine jH (b:=(yS p q)) rfl (fun h1=>?_) (fun h1=>?_)
 ·refine kx [] [(2,some (bx (jD (jO.mk (jM ((0:Int):Rat)) (jM (gJ (p*p) [(q*q)]))))))] (zE (kA (f_whole 0 (by decide) (by decide)))<|zE (qA vT)<|zT (qF jW)<|zZ) ?_
  refine jB<|kx [(3,(jK 0))] [(1,some (bx (jD (jO.mk (jM ((0:Int):Rat)) (jM (gJ (p*p) [(q*q)]))))))] (zR (kP jY)<|zT (qF jY)<|zM<|zZ) ?_
  refine jG ⟨_,(kJ (cs:=(bx (jD (jO.mk (jM ((0:Int):Rat)) (jM (gJ (p*p) [(q*q)])))))) (d:=(jD (jO.mk (jM ((0:Int):Rat)) (jM (gJ (p*p) [(q*q)]))))) rfl rfl jY rfl rfl (.tmp (d:=(.val (.int .i64 (0)))) rfl .nil)),?_⟩
  rw[show sqL p q=_ from if_pos h1];rfl
 ·refine jF<|jB<|kx [(3,(jK 0))] [(1,some (bx (jD (jO.mk (jM (yV (p*p) [(q*q)])) (jM (gJ (p*p) [(q*q)]))))))] (zR (kP jY)<|zT (qF jY)<|zM<|zZ) ?_
  refine jG ⟨_,(kJ (cs:=(bx (jD (jO.mk (jM (yV (p*p) [(q*q)])) (jM (gJ (p*p) [(q*q)])))))) (d:=(jD (jO.mk (jM (yV (p*p) [(q*q)])) (jM (gJ (p*p) [(q*q)]))))) rfl rfl jY rfl rfl (.tmp (d:=(.val (.int .i64 (0)))) rfl .nil)),?_⟩
  rw[show sqL p q=_ from if_neg (by rw[h1];simp)];rfl
theorem h_whole(lo hi:Int)(h1:-9223372036854775808≤lo)(h2:lo≤9223372036854775807)(h3:-9223372036854775808≤hi)(h4:hi≤9223372036854775807):jS Tryz.prog 66 [(.val (.int .i64 (lo))),(.val (.int .i64 (hi)))] (jD (jO.mk (jM ((lo:Int):Rat)) (jM ((hi:Int):Rat)))):=by
 refine jJ Tryz.func66 rfl cb66 rfl ?_
 show qM _ _ _ _ ⟨[(0,(vi lo)),(1,(vi hi))],[]⟩
 refine jB<|kx [(4,(.ref 0 0))] [(0,some (bx (jD (jO.mk kR kR))))] (zN (qW 0 qL qR)<|zZ) ?_
 refine jB<|kx [] [(0,some (bx (jD (jO.mk (jM ((lo:Int):Rat)) (jM ((hi:Int):Rat))))))] (zM<|zE (kA (nX lo (by omega) (by omega)))<|zM<|zE (kA (nX hi (by omega) (by omega)))<|zE (cS pl61 qL qR)<|zT (qF jY)<|zZ) ?_
 refine jG ⟨_,(kJ (cs:=(bx (jD (jO.mk (jM ((lo:Int):Rat)) (jM ((hi:Int):Rat)))))) (d:=(jD (jO.mk (jM ((lo:Int):Rat)) (jM ((hi:Int):Rat))))) rfl rfl jY rfl rfl .nil),?_⟩
 rfl
theorem h_same(a b:jO)(ha:GOk 4294967296 a)(hb:GOk 4294967296 b):jS Tryz.prog 38 [(jD a),(jD b)] (.val (.bool ((sameG a b)))):=by
 refine jJ Tryz.func38 rfl cb38 rfl ?_
 show qM _ _ _ _ ⟨[(0,(.d (jD a))),(1,(.d (jD b)))],[]⟩
 refine jB<|kx [(2,(.ref 0 0)),(3,(.ref 1 0))] [(0,some (bx (jD a))),(1,some (bx (jD b)))] (zN (uY 0)<|zN (uY 1)<|zM<|zZ) ?_
 refine jB<|kx [(4,(vb (((vA a)&&(vA b))&&(mH a.lo b.lo&&mH a.hi b.hi))))] [] ?_ ?_
 ·refine zR (kP jY)<|zE (kA (h_valid a ha))<|zE (oV (vb (vA a)) (qQ (by kernel_rfl)))<|?_
  rcases hb1:(vA a) with _ | _
  ·exact zK<|zK<|zE gE<|zM<|zK<|zK<|zK<|zE gE<|zM<|zZ
  ·refine zR (kP jY)<|zE (kA (h_valid b hb))<|zE fA<|zE (oV (vb (true&&(vA b))) (qQ (by kernel_rfl)))<|?_
   rcases hb2:(true&&(vA b)) with _ | _
   ·exact zK<|zK<|zK<|zE gE<|zM<|zZ
   ·exact zR (kP jY)<|zR (kP jY)<|zE (kA (g_samerange a b ha hb))<|zE fA<|zM<|zZ
 refine jG ⟨_,(.tmp (d:=(.val (.bool ((((vA a)&&(vA b))&&(mH a.lo b.lo&&mH a.hi b.hi)))))) rfl .nil),?_⟩
 rfl
theorem cb55:callB Tryz.prog 55=true:=by kernel_rfl
theorem cb92:callB Tryz.prog 92=true:=by kernel_rfl
theorem cb93:callB Tryz.prog 93=true:=by kernel_rfl
theorem i_add(p q r s:Rat)(hp:QL p 1073741824)(hq:QL q 1073741824)(hr:QL r 1073741824)(hs:QL s 1073741824)(hpq:p≤q)(hrs:r≤s):jS Tryz.prog 92 [(jD (jO.mk (jM p) (jM q))),(jD (jO.mk (jM r) (jM s)))] (.tup [(jD (jO.mk (jM (p+r)) (jM (q+s)))),(.val (.int .i64 (0)))]):=by
 refine jJ Tryz.func92 rfl cb92 rfl ?_
 show qM _ _ _ _ ⟨[(0,(.d (jD (jO.mk (jM p) (jM q))))),(1,(.d (jD (jO.mk (jM r) (jM s)))))],[]⟩
 refine jB<|kx [(2,(.ref 0 0)),(3,(.ref 1 0)),(4,(.ref 2 0))] [(0,some (bx (jD (jO.mk (jM p) (jM q))))),(1,some (bx (jD (jO.mk (jM r) (jM s))))),(2,some (bx (jD (jO.mk kR kR))))] (zN (uY 0)<|zN (uY 1)<|zN (qW 2 qL qR)<|zM<|zZ) ?_
 refine jB<|jB<|kx [(10,(vb false))] [] (zR (kP jY)<|zR (kP jY)<|zE (mC uW qL qR)<|zE (kA (by have h:=i_valids [(jO.mk (jM p) (jM q)),(jO.mk (jM r) (jM s))] (List.forall_mem_cons.2 ⟨(gV (⟨uA (jQ (kB hp) (by decide:1073741824≤1073741824)),uA (jQ (kB hq) (by decide:1073741824≤1073741824))⟩) (by decide)),(List.forall_mem_cons.2 ⟨(gV (⟨uA (jQ (kB hr) (by decide:1073741824≤1073741824)),uA (jQ (kB hs) (by decide:1073741824≤1073741824))⟩) (by decide)),(fun a h=>by cases h)⟩)⟩) (by simp);rw[show List.all [(jO.mk (jM p) (jM q)),(jO.mk (jM r) (jM s))] vA=true from by simp [zI hpq,zI hrs]] at h;exact h))<|zE mT<|zZ) ?_
 refine kI ?_
 refine jF<|jB<|kd [(5,(jK 0))] [(2,some (bx (jD (jO.mk (jM (p+r)) (jM (q+s))))))] mo (wE (qA vT)<|wR (kP jW)<|wE (qA vT)<|wR (kP jW)<|wE (kA (f_add (jM p) (jM r) p r (jQ (kB hp) (by decide)) (jQ (kB hr) (by decide))))<|wE (qA xF)<|wR (kP jW)<|wE (qA xF)<|wR (kP jW)<|wE (kA (f_add (jM q) (jM s) q s (jQ (kB hq) (by decide)) (jQ (kB hs) (by decide))))<|wE (cS pl61 qL qR)<|wT (qF jY)<|wM<|wZ) ?_
 refine jG ⟨_,(kJ (cs:=(bx (jD (jO.mk (jM (p+r)) (jM (q+s)))))) (d:=(jD (jO.mk (jM (p+r)) (jM (q+s))))) rfl rfl jY rfl rfl (.tmp (d:=(.val (.int .i64 (0)))) rfl .nil)),?_⟩
 rfl
theorem i_sub(p q r s:Rat)(hp:QL p 1073741824)(hq:QL q 1073741824)(hr:QL r 1073741824)(hs:QL s 1073741824)(hpq:p≤q)(hrs:r≤s):jS Tryz.prog 93 [(jD (jO.mk (jM p) (jM q))),(jD (jO.mk (jM r) (jM s)))] (.tup [(jD (jO.mk (jM (p-s)) (jM (q-r)))),(.val (.int .i64 (0)))]):=by
 refine jJ Tryz.func93 rfl cb93 rfl ?_
 show qM _ _ _ _ ⟨[(0,(.d (jD (jO.mk (jM p) (jM q))))),(1,(.d (jD (jO.mk (jM r) (jM s)))))],[]⟩
 refine jB<|kx [(2,(.ref 0 0)),(3,(.ref 1 0)),(4,(.ref 2 0))] [(0,some (bx (jD (jO.mk (jM p) (jM q))))),(1,some (bx (jD (jO.mk (jM r) (jM s))))),(2,some (bx (jD (jO.mk kR kR))))] (zN (uY 0)<|zN (uY 1)<|zN (qW 2 qL qR)<|zM<|zZ) ?_
 refine jB<|jB<|kx [(10,(vb false))] [] (zR (kP jY)<|zR (kP jY)<|zE (mC uW qL qR)<|zE (kA (by have h:=i_valids [(jO.mk (jM p) (jM q)),(jO.mk (jM r) (jM s))] (List.forall_mem_cons.2 ⟨(gV (⟨uA (jQ (kB hp) (by decide:1073741824≤1073741824)),uA (jQ (kB hq) (by decide:1073741824≤1073741824))⟩) (by decide)),(List.forall_mem_cons.2 ⟨(gV (⟨uA (jQ (kB hr) (by decide:1073741824≤1073741824)),uA (jQ (kB hs) (by decide:1073741824≤1073741824))⟩) (by decide)),(fun a h=>by cases h)⟩)⟩) (by simp);rw[show List.all [(jO.mk (jM p) (jM q)),(jO.mk (jM r) (jM s))] vA=true from by simp [zI hpq,zI hrs]] at h;exact h))<|zE mT<|zZ) ?_
 refine kI ?_
 refine jF<|jB<|kd [(5,(jK 0))] [(2,some (bx (jD (jO.mk (jM (p-s)) (jM (q-r))))))] mo (wE (qA vT)<|wR (kP jW)<|wE (qA xF)<|wR (kP jW)<|wE (kA (f_sub (jM p) (jM s) p s (jQ (kB hp) (by decide)) (jQ (kB hs) (by decide))))<|wE (qA xF)<|wR (kP jW)<|wE (qA vT)<|wR (kP jW)<|wE (kA (f_sub (jM q) (jM r) q r (jQ (kB hq) (by decide)) (jQ (kB hr) (by decide))))<|wE (cS pl61 qL qR)<|wT (qF jY)<|wM<|wZ) ?_
 refine jG ⟨_,(kJ (cs:=(bx (jD (jO.mk (jM (p-s)) (jM (q-r)))))) (d:=(jD (jO.mk (jM (p-s)) (jM (q-r))))) rfl rfl jY rfl rfl (.tmp (d:=(.val (.int .i64 (0)))) rfl .nil)),?_⟩
 rfl
theorem by45:gM Tryz.prog 45=some 64:=by kernel_rfl
theorem cb37:callB Tryz.prog 37=true:=by kernel_rfl
theorem cb174:callB Tryz.prog 174=true:=by kernel_rfl
theorem cb238:callB Tryz.prog 238=true:=by kernel_rfl
theorem cb239:callB Tryz.prog 239=true:=by kernel_rfl
theorem g_least(l:List Rat)(hl:∀ q∈l,QL q 4294967296)(h0:0<l.length)(hb:l.length≤1000000):jS Tryz.prog 238 [(.sl 45 4 (List.map jL (List.map jM l)))] (.tup [(jL (jM (yV (l.getD 0 0) l))),(.val (.int .i64 (0)))]):=by
 refine jJ Tryz.func238 rfl cb238 rfl ?_
 show qM _ _ _ _ ⟨[(0,(vl 45 4 jL (List.map jM l)))],[]⟩
 refine jB<|kx [(2,(.ref 0 0))] [(0,some (bx (jL kR)))] (zN (qW 0 uH uN)<|zM<|zZ) ?_
 refine jB<|jB<|kx [(8,(vb (((l.length:Nat):Int) == 0)))] [] (zM<|zE (oLn vE l.length)<|zE xR<|zZ) ?_
 refine jH (b:=(((l.length:Nat):Int) == 0)) rfl (fun h1=>?_) (fun h1=>?_)
 ·replace h1:=eq_of_beq h1
  exfalso;omega
 ·replace h1:=ne_of_beq_false h1
  refine jF<|jB<|kx [(4,(.ref 1 0))] [(1,some (bx (jL (jM (l.getD 0 0)))))] (zM<|zE (oXm vE jM 0 0)<|zE (gN jW)<|zE (kA (eH (jM (l.getD 0 0)) (l.getD 0 0) (jQ (kB (cW hl (by decide) 0)) (by decide))))<|zN (qW 1 uH uN)<|zT (qF jW)<|zZ) ?_
  refine jB<|jB<|kx [(5,(jK 1))] [] (zM<|zZ) ?_
  refine jI<|kM (α:=Nat × Rat) (fun (i,b)=>⟨[(0,(vl 45 4 jL (List.map jM l))),(2,(.ref 0 0)),(4,(.ref 1 0)),(5,(jK i))],[(0,some (bx (jL kR))),(1,some (bx (jL (jM b))))]⟩) (fun (i,b)=>i≤l.length∧b=yV (l.getD 0 0) (l.take i)) (fun (i,b)=>l.length-i) (1,l.getD 0 0) wk ⟨by omega,least_start h0⟩ ?_
  rintro ⟨i,b⟩ ⟨hi,hv⟩
  have hbq:QL b 4294967296:=by rw[hv];exact ql_mnL (cW hl (by decide) 0) (fun q hq=>hl q (List.mem_of_mem_take hq))
  refine jB<|jB<|kx [(17,(vb (decide (((i:Nat):Int)<((l.length:Nat):Int)))))] [] (zM<|zM<|zE (oLn vE l.length)<|zE xY<|zZ) ?_
  refine jH rfl (fun h2=>?_) (fun h2=>?_)
  ·replace h2:=vJ h2
   refine jF<|jB<|jI<|jB<|kd [(26,(vb (decide ((yE (l.getD i 0) b)<0))))] [] mo (wM<|wM<|wE (oXm vE jM i 0)<|wE (gN jW)<|wR (kP jW)<|wE (kA (bB (jM (l.getD i 0)) (jM b) (l.getD i 0) b (kB (cW hl (by decide) i)) (kB hbq)))<|wE xY<|wZ) ?_
   refine jH (b:=decide ((yE (l.getD i 0) b)<0)) rfl (fun h3=>?_) (fun h3=>?_)
   ·replace h3:=vJ h3
    refine kx [] [(1,some (bx (jL (jM (l.getD i 0)))))] (zM<|zM<|zE (oXm vE jM i 0)<|zE (gN jW)<|zE (kA (eH (jM (l.getD i 0)) (l.getD i 0) (jQ (kB (cW hl (by decide) i)) (by decide))))<|zT (qF jW)<|zZ) ?_
    refine kx [(5,(jK (i+1)))] [] (zM<|zE (xE (i+1))<|zM<|zZ) ?_
    exact ⟨(i+1,l.getD i 0),wk,⟨by omega,mnL_lt (by omega) hv h3⟩,(by first|omega|(dsimp only;omega))⟩
   ·replace h3:=vM h3
    refine jF<|kx [(5,(jK (i+1)))] [] (zM<|zE (xE (i+1))<|zM<|zZ) ?_
    exact ⟨(i+1,b),wk,⟨by omega,mnL_ge (by omega) hv h3⟩,(by first|omega|(dsimp only;omega))⟩
  ·replace h2:=vM h2
   have hie:i=l.length:=by omega
   rw[hie,List.take_length] at hv
   refine kL<|jB<|kx [(3,(jK 0))] [(0,some (bx (jL (jM b))))] (zR (kP jW)<|zT (qF jW)<|zM<|zZ) ?_
   refine jG ⟨_,(kJ (cs:=(bx (jL (jM b)))) (d:=(jL (jM b))) rfl rfl jW rfl rfl (.tmp (d:=(.val (.int .i64 (0)))) rfl .nil)),?_⟩
   rw[hv];rfl
theorem g_greatest(l:List Rat)(hl:∀ q∈l,QL q 4294967296)(h0:0<l.length)(hb:l.length≤1000000):jS Tryz.prog 239 [(.sl 45 4 (List.map jL (List.map jM l)))] (.tup [(jL (jM (gJ (l.getD 0 0) l))),(.val (.int .i64 (0)))]):=by
 let y1:=(bx (jL kR))
 refine jJ Tryz.func239 rfl cb239 rfl ?_
 show qM _ _ _ _ ⟨[(0,(vl 45 4 jL (List.map jM l)))],[]⟩
 refine jB<|kx [(2,(.ref 0 0))] [(0,some y1)] (zN (qW 0 uH uN)<|zM<|zZ) ?_
 refine jB<|jV (wk (l:=[(0,(vl 45 4 jL (List.map jM l))),(2,(.ref 0 0))]) (b:=[(0,some y1)])) ?_
 refine kx [(4,(.own 1 45 4 0))] [(1,some (qB jL []))] (zN (oBo 1 vE uH uN)<|zM<|zZ) ?_
 refine jB<|jB<|jV (wk (l:=[(0,(vl 45 4 jL (List.map jM l))),(2,(.ref 0 0)),(4,(.own 1 45 4 0))]) (b:=[(0,some y1),(1,some (qB jL []))])) ?_
 refine kx [(5,(jK 0))] [] (zM<|zZ) ?_
 refine jI<|kM (α:=Nat × List kF) (fun (i,o)=>⟨[(0,(vl 45 4 jL (List.map jM l))),(2,(.ref 0 0)),(4,(.own 1 45 4 o.length)),(5,(jK i))],[(0,some y1),(1,some (qB jL o))]⟩) (fun (i,o)=>i≤l.length∧o=List.map jM (List.map (fun q=>-q) (l.take i))) (fun (i,o)=>l.length-i) (0,[]) wk ⟨Nat.zero_le _,rfl⟩ ?_
 rintro ⟨i,o⟩ ⟨hi,hv⟩
 have hol:o.length=i:=by rw[hv];simp;omega
 refine jB<|jB<|kx [(12,(vb (decide (((i:Nat):Int)<((l.length:Nat):Int)))))] [] (zM<|zM<|zE (oLn vE l.length)<|zE xY<|zZ) ?_
 refine jH rfl (fun h1=>?_) (fun h1=>?_)
 ·replace h1:=vJ h1
  refine jF<|jB<|jI<|jV (wk (l:=[(0,(vl 45 4 jL (List.map jM l))),(2,(.ref 0 0)),(4,(.own 1 45 4 o.length)),(5,(jK i)),(12,(vb (decide (((i:Nat):Int)<((l.length:Nat):Int)))))]) (b:=[(0,some y1),(1,some (qB jL o))])) ?_
  refine kf [(4,(.own 1 45 4 ((o++[(jM (-(l.getD i 0)))]).length)))] [(1,some (qB jL (o++[(jM (-(l.getD i 0)))])))] (zM<|zM<|zM<|zE (oXm vE jM i 0)<|zE (gN jW)<|zE (kA (g_neg (jM (l.getD i 0)) (l.getD i 0) (jQ (kB (cW hl (by decide) i)) (by decide))))<|zE (mC vE uH uN)<|zAS jL o [(jM (-(l.getD i 0)))] rfl vE uH by45<|zM<|zF) ?_
  refine jV (wk (l:=[(0,(vl 45 4 jL (List.map jM l))),(2,(.ref 0 0)),(4,(.own 1 45 4 ((o++[(jM (-(l.getD i 0)))]).length))),(5,(jK i))]) (b:=[(0,some y1),(1,some (qB jL (o++[(jM (-(l.getD i 0)))])))])) ?_
  refine kx [(5,(jK (i+1)))] [] (zM<|zE (xE (i+1))<|zM<|zZ) ?_
  exact ⟨(i+1,o++[jM (-(l.getD i 0))]),wk,⟨by omega,neg_push (by omega) hv⟩,(by first|omega|(dsimp only;omega))⟩
 ·replace h1:=vM h1
  have hie:i=l.length:=by omega
  rw[hie,List.take_length] at hv
  subst hv
  refine kL<|jB<|jV (xA (t:=4) (k:=1) (es:=List.map jL (List.map jM (List.map (fun q=>-q) l))) rfl rfl (vD _ _ (fun _=>rfl)) (qY _ _ rfl) (xB jL (List.map jM (List.map (fun q=>-q) l)) (fun _=>rfl) rfl)) ?_
  refine jV (wk (l:=[(0,(vl 45 4 jL (List.map jM l))),(2,(.ref 0 0)),(4,(vl 45 4 jL (List.map jM (List.map (fun q=>-q) l)))),(5,(jK i)),(12,(vb (decide (((i:Nat):Int)<((l.length:Nat):Int)))))]) (b:=[(0,some y1)])) ?_
  refine kx [(6,(.ref 2 0)),(7,(vi 0))] [(2,some (bx (jL (jM (yV ((List.map (fun q=>-q) l).getD 0 0) (List.map (fun q=>-q) l))))))] (zM<|zE (kA (g_least (List.map (fun q=>-q) l) (ql_negs hl) (by first | exact h0 | simpa using h0) (by first | exact hb | simpa using hb)))<|zM<|zE vI<|zE vI<|zN (qW 2 uH uN)<|zT (qF jW)<|zM<|zZ) ?_
  refine jB<|jB<|jV (wk (l:=[(2,(.ref 0 0)),(6,(.ref 2 0)),(7,(vi 0))]) (b:=[(0,some y1),(2,some (bx (jL (jM (yV ((List.map (fun q=>-q) l).getD 0 0) (List.map (fun q=>-q) l))))))])) ?_
  refine kx [(29,(vb false))] [] (zM<|zE cR<|zZ) ?_
  refine kI ?_
  refine jF<|jB<|jV (wk (l:=[(2,(.ref 0 0)),(6,(.ref 2 0)),(7,(vi 0)),(29,(vb false))]) (b:=[(0,some y1),(2,some (bx (jL (jM (yV ((List.map (fun q=>-q) l).getD 0 0) (List.map (fun q=>-q) l))))))])) ?_
  refine kx [(3,(jK 0))] [(0,some (bx (jL (jM (-(yV ((List.map (fun q=>-q) l).getD 0 0) (List.map (fun q=>-q) l)))))))] (zR (kP jW)<|zE (kA (g_neg (jM (yV ((List.map (fun q=>-q) l).getD 0 0) (List.map (fun q=>-q) l))) (yV ((List.map (fun q=>-q) l).getD 0 0) (List.map (fun q=>-q) l)) (jQ (kB (ql_mnL (cW (ql_negs hl) (by decide) 0) (ql_negs hl))) (by decide))))<|zT (qF jW)<|zM<|zZ) ?_
  refine jG ⟨_,(kJ (cs:=(bx (jL (jM (-(yV ((List.map (fun q=>-q) l).getD 0 0) (List.map (fun q=>-q) l))))))) (d:=(jL (jM (-(yV ((List.map (fun q=>-q) l).getD 0 0) (List.map (fun q=>-q) l)))))) rfl rfl jW rfl rfl (.tmp (d:=(.val (.int .i64 (0)))) rfl .nil)),?_⟩
  rw[← great_eq h0];rfl
theorem h_spanned(p:Rat)(qs:List Rat)(hl:∀ q∈p::qs,QL q 4294967296)(hb:(p::qs).length≤1000000):jS Tryz.prog 174 [(.sl 45 4 (List.map jL (List.map jM (p::qs))))] (jD (jO.mk (jM (yV p qs)) (jM (gJ p qs)))):=by
 have h0:0<(p::qs).length:=by simp
 refine jJ Tryz.func174 rfl cb174 rfl ?_
 show qM _ _ _ _ ⟨[(0,(vl 45 4 jL (List.map jM (p::qs))))],[]⟩
 refine jB<|kx [(2,(.ref 0 0))] [(0,some (bx (jD (jO.mk kR kR))))] (zN (qW 0 qL qR)<|zZ) ?_
 refine jB<|kx [(3,(.ref 1 0))] [(1,some (bx (jL (jM (yV ((p::qs).getD 0 0) (p::qs))))))] (zM<|zE (kA (g_least (p::qs) hl (by first | exact h0 | simpa using h0) (by first | exact hb | simpa using hb)))<|zM<|zE vI<|zE vI<|zN (qW 1 uH uN)<|zT (qF jW)<|zM<|zZ) ?_
 refine jB<|kx [(5,(.ref 2 0))] [(2,some (bx (jL (jM (gJ ((p::qs).getD 0 0) (p::qs))))))] (zM<|zE (kA (g_greatest (p::qs) hl h0 hb))<|zM<|zE vI<|zE vI<|zN (qW 2 uH uN)<|zT (qF jW)<|zM<|zZ) ?_
 refine jB<|kx [] [(0,some (bx (jD (jO.mk (jM (yV ((p::qs).getD 0 0) (p::qs))) (jM (gJ ((p::qs).getD 0 0) (p::qs)))))))] (zR (kP jW)<|zR (kP jW)<|zE (cS pl61 qL qR)<|zT (qF jY)<|zZ) ?_
 refine jG ⟨_,(kJ (cs:=(bx (jD (jO.mk (jM (yV ((p::qs).getD 0 0) (p::qs))) (jM (gJ ((p::qs).getD 0 0) (p::qs))))))) (d:=(jD (jO.mk (jM (yV ((p::qs).getD 0 0) (p::qs))) (jM (gJ ((p::qs).getD 0 0) (p::qs)))))) rfl rfl jY rfl rfl .nil),?_⟩
 rw[← mnL_self p qs,← mxL_self p qs];rfl
theorem h_point(p:Rat)(hp:QL p 4294967296):jS Tryz.prog 37 [(jL (jM p))] (jD (jO.mk (jM p) (jM p))):=by
 refine jJ Tryz.func37 rfl cb37 rfl ?_
 show qM _ _ _ _ ⟨[(0,(.d (jL (jM p))))],[]⟩
 refine jB<|kx [(1,(.ref 0 0)),(2,(.ref 1 0))] [(0,some (bx (jL (jM p)))),(1,some (bx (jD (jO.mk kR kR))))] (zN (uY 0)<|zN (qW 1 qL qR)<|zZ) ?_
 refine jB<|kx [] [(1,some (bx (jD (jO.mk (jM p) (jM p)))))] (zR (kP jW)<|zR (kP jW)<|zE (cS pl61 qL qR)<|zT (qF jY)<|zZ) ?_
 refine jG ⟨_,(kJ (cs:=(bx (jD (jO.mk (jM p) (jM p))))) (d:=(jD (jO.mk (jM p) (jM p)))) rfl rfl jY rfl rfl .nil),?_⟩
 rfl
theorem cb23:callB Tryz.prog 23=true:=by kernel_rfl
theorem g_zero(x:kF)(p:Rat)(hx:gX x p 140737488355328):jS Tryz.prog 23 [(jL x)] (.val (.bool ((zeroR x)))):=by
 have h1:=hx.n1
 have h2:=hx.n2
 refine jJ Tryz.func23 rfl cb23 rfl ?_
 show qM _ _ _ _ ⟨[(0,(.d (jL x)))],[]⟩
 refine jB<|kx [(1,(.ref 0 0))] [(0,some (bx (jL x)))] (zN (uY 0)<|zM<|zZ) ?_
 refine jB<|kx [(2,(vb (((!x.num.neg&&!x.den.neg)&&(((x.num.gs.length:Nat):Int) == 0))&&(((x.den.gs.length:Nat):Int) == 0))))] [] ?_ ?_
 ·refine zE (qA yA)<|zE (qA xG)<|zR (qX bJ)<|zE mT<|zE (oV (vb (!x.num.neg)) (qQ (by kernel_rfl)))<|?_
  rcases hb1:(!x.num.neg) with _ | _
  ·exact zK<|zK<|zK<|zK<|zE gE<|zM<|zK<|zK<|zK<|zK<|zK<|zE gE<|zM<|zK<|zK<|zK<|zK<|zK<|zE gE<|zM<|zZ
  ·refine zE (qA xS)<|zE (qA xG)<|zR (qX bJ)<|zE mT<|zE fA<|zE (oV (vb (true&&!x.den.neg)) (qQ (by kernel_rfl)))<|?_
   rcases hb2:(true&&!x.den.neg) with _ | _
   ·exact zK<|zK<|zK<|zK<|zK<|zE gE<|zM<|zK<|zK<|zK<|zK<|zK<|zE gE<|zM<|zZ
   ·refine zE (qA yA)<|zE (qA xN)<|zR (qX yH)<|zE (zD kV)<|zE xR<|zE fA<|zE (oV (vb (true&&(((x.num.gs.length:Nat):Int) == 0))) (qQ (by kernel_rfl)))<|?_
    rcases hb3:(true&&(((x.num.gs.length:Nat):Int) == 0)) with _ | _
    ·exact zK<|zK<|zK<|zK<|zK<|zE gE<|zM<|zZ
    ·exact zE (qA xS)<|zE (qA xN)<|zR (qX yH)<|zE (zD kV)<|zE xR<|zE fA<|zM<|zZ
 refine jG ⟨_,(.tmp (d:=(.val (.bool ((((!x.num.neg&&!x.den.neg)&&(((x.num.gs.length:Nat):Int) == 0))&&(((x.den.gs.length:Nat):Int) == 0)))))) rfl .nil),?_⟩
 rfl
end Go.Proofs.YtnajallgoaiahaaGreatDoor
