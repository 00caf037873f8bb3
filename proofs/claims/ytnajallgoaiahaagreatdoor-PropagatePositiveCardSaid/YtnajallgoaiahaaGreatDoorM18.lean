/- Part 18 of a proof: rules, plain facts, and functions walked. -/
import Derived.Test.YtnajallgoaiahaaGreatDoorM17
import Derived.Test.YtnajallgoaiahaaGreatDoorM10
import Derived.Test.YtnajallgoaiahaaGreatDoorM9
set_option linter.all false
set_option maxRecDepth 4000
namespace Go.Proofs.YtnajallgoaiahaaGreatDoor
open Go.Fid
theorem cb38:callB Tryz.prog 38=true:=by kernel_rfl
theorem cb66:callB Tryz.prog 66=true:=by kernel_rfl
theorem cb98:callB Tryz.prog 98=true:=by kernel_rfl
theorem cb107:callB Tryz.prog 107=true:=by kernel_rfl
theorem cb108:callB Tryz.prog 108=true:=by kernel_rfl
theorem cb125:callB Tryz.prog 125=true:=by kernel_rfl
theorem cb152:callB Tryz.prog 152=true:=by kernel_rfl
theorem cb164:callB Tryz.prog 164=true:=by kernel_rfl
theorem cb165:callB Tryz.prog 165=true:=by kernel_rfl
theorem cb166:callB Tryz.prog 166=true:=by kernel_rfl
theorem cb244:callB Tryz.prog 244=true:=by kernel_rfl
theorem cb260:callB Tryz.prog 260=true:=by kernel_rfl
theorem qY:vF Tryz.prog 24=some (45,4):=by kernel_rfl
theorem gP:vF Tryz.prog 86=some (61,8):=by kernel_rfl
theorem pl61:eB Tryz.prog 61=some [(0,4),(4,4)]:=by kernel_rfl
theorem kI:qO Tryz.prog 61=some (true,8):=by kernel_rfl
theorem uH:xX Tryz.prog 61=some [.bool false,.slice none 0 0,.bool false,.slice none 0 0,.bool false,.slice none 0 0,.bool false,.slice none 0 0]:=by kernel_rfl
theorem uR:aN [.bool false,.slice none 0 0,.bool false,.slice none 0 0,.bool false,.slice none 0 0,.bool false,.slice none 0 0] [.val (.bool false),.sl 140 1 [],.val (.bool false),.sl 140 1 [],.val (.bool false),.sl 140 1 [],.val (.bool false),.sl 140 1 []]:=by simp [aN,Value.oneCell']
theorem h_valid(a:jZ)(ha:GOk 4294967296 a):jP Tryz.prog 98 [(jJ a)] (.val (.bool ((uO a)))):=by
 refine jI Tryz.func98 rfl cb98 rfl ?_
 show qJ _ _ _ _ ⟨[(0,(.d (jJ a)))],[]⟩
 refine jB<|kx [(1,(.ref 0 0))] [(0,some (bx (jJ a)))] (zN (vW 0)<|zM<|zZ) ?_
 refine jB<|kx [(2,(vb (((kL a.lo)&&(kL a.hi))&&decide ((yW (qM a.lo) (qM a.hi))≤0))))] [] ?_ ?_
 ·refine zE (qE zB)<|zR (kM jT)<|zE (jX (aA a.lo (qM a.lo) (jV ha.1 (by decide))))<|zE (oV (vb (kL a.lo)) (kR (by kernel_rfl)))<|?_
  rcases hb1:(kL a.lo) with _ | _
  ·exact zK<|zK<|zK<|zE xN<|zM<|zK<|zK<|zK<|zK<|zK<|zK<|zE xN<|zM<|zZ
  ·refine zE (qE yC)<|zR (kM jT)<|zE (jX (aA a.hi (qM a.hi) (jV ha.2 (by decide))))<|zE fM<|zE (oV (vb (true&&(kL a.hi))) (kR (by kernel_rfl)))<|?_
   rcases hb2:(true&&(kL a.hi)) with _ | _
   ·exact zK<|zK<|zK<|zK<|zK<|zK<|zE xN<|zM<|zZ
   ·exact zE (qE zB)<|zR (kM jT)<|zE (qE yC)<|zR (kM jT)<|zE (jX (g_compare a.lo a.hi (qM a.lo) (qM a.hi) ha.1 ha.2))<|zE oLe<|zE fM<|zM<|zZ
 refine jE ⟨_,(.tmp (d:=(.val (.bool ((((kL a.lo)&&(kL a.hi))&&decide ((yW (qM a.lo) (qM a.hi))≤0)))))) rfl .nil),?_⟩
 rw[validG_eq];rfl
theorem bS(a:jZ)(ha:GOk 4294967296 a):jP Tryz.prog 125 [(jJ a)] (.val (.bool ((uO a)))):=by
 refine jI Tryz.func125 rfl cb125 rfl ?_
 show qJ _ _ _ _ ⟨[(0,(.d (jJ a)))],[]⟩
 refine jB<|kx [(1,(.ref 0 0))] [(0,some (bx (jJ a)))] (zN (vW 0)<|zM<|zZ) ?_
 refine jB<|kx [(2,(vb (((kL a.lo)&&(kL a.hi))&&decide ((yW (qM a.lo) (qM a.hi))≤0))))] [] ?_ ?_
 ·refine zE (qE zB)<|zR (kM jT)<|zE (jX (cK a.lo (qM a.lo) (jV ha.1 (by decide))))<|zE (oV (vb (kL a.lo)) (kR (by kernel_rfl)))<|?_
  rcases hb1:(kL a.lo) with _ | _
  ·exact zK<|zK<|zK<|zE xN<|zM<|zK<|zK<|zK<|zK<|zK<|zK<|zE xN<|zM<|zZ
  ·refine zE (qE yC)<|zR (kM jT)<|zE (jX (cK a.hi (qM a.hi) (jV ha.2 (by decide))))<|zE fM<|zE (oV (vb (true&&(kL a.hi))) (kR (by kernel_rfl)))<|?_
   rcases hb2:(true&&(kL a.hi)) with _ | _
   ·exact zK<|zK<|zK<|zK<|zK<|zK<|zE xN<|zM<|zZ
   ·exact zE (qE zB)<|zR (kM jT)<|zE (qE yC)<|zR (kM jT)<|zE (jX (cQ a.lo a.hi (qM a.lo) (qM a.hi) (jV ha.1 (by decide)) (jV ha.2 (by decide))))<|zE oLe<|zE fM<|zM<|zZ
 refine jE ⟨_,(.tmp (d:=(.val (.bool ((((kL a.lo)&&(kL a.hi))&&decide ((yW (qM a.lo) (qM a.hi))≤0)))))) rfl .nil),?_⟩
 rw[validG_eq];rfl
theorem i_valids(l:List jZ)(hl:∀ a∈l,GOk 4294967296 a)(hb:l.length≤1000000):jP Tryz.prog 152 [(.sl 61 8 (List.map jJ l))] (.val (.bool ((l.all uO)))):=by
 let y1:=(jZ.mk qH qH)
 refine jI Tryz.func152 rfl cb152 rfl ?_
 show qJ _ _ _ _ ⟨[(0,(vl 61 8 jJ l))],[]⟩
 refine jB<|kx [] [] (zM<|zZ) ?_
 refine jB<|jB<|kx [(5,(vl 61 8 jJ l)),(6,(jR l.length)),(7,(jR 0))] [] (zM<|zE (uE gP)<|zM<|zZ) ?_
 refine jH<|kB (α:=Nat) (fun i=>⟨[(5,(vl 61 8 jJ l)),(6,(jR l.length)),(7,(jR i))],[]⟩) (fun i=>i≤l.length∧(l.take i).all uO=true) (fun i=>l.length-i) 0 wk ⟨Nat.zero_le _,by simp⟩ ?_
 rintro i ⟨hi,hv⟩
 refine jB<|kx [(8,(vb (decide (((i:Nat):Int)<((l.length:Nat):Int)))))] [] (zE xG<|zZ) ?_
 refine jB<|jF rfl (fun h1=>?_) (fun h1=>?_)
 ·replace h1:=uW h1
  refine jD<|jB<|jH<|jB<|kx [(4,(.ref 0 0))] [(0,some (bx (jJ (l.getD i y1))))] (zE (xJ gP i y1)<|zE (nR kI)<|zN (uF 0 uH uR)<|zT (qK kI)<|zZ) ?_
  refine jB<|kx [(13,(vb (!(uO (l.getD i y1)))))] [] (zR (kM kI)<|zE (jX (bS (l.getD i y1) (gok_get hl (show i<l.length by omega))))<|zE nY<|zZ) ?_
  refine jF rfl (fun h2=>?_) (fun h2=>?_)
  ·refine jB<|kx [(2,(vb false))] [] (zM<|zZ) ?_
   refine jE ⟨_,(.tmp (d:=(.val (.bool (false)))) rfl .nil),?_⟩
   rw[all_not (f:=uO) (l:=l) (i:=i) (d:=(jZ.mk qH qH)) (by omega) (by simpa using h2)];rfl
  ·refine jD<|kx [(7,(jR (i+1)))] [] (zE (vT (i+1))<|zM<|zZ) ?_
   exact ⟨(i+1),wk,⟨by omega,all_take (d:=(jZ.mk qH qH)) (by omega) hv (by simpa using h2)⟩,(by first|omega|(dsimp only;omega))⟩
 ·replace h1:=uX h1
  have hie:i=l.length:=by omega
  rw[hie,List.take_length] at hv
  refine kC<|jB<|kx [(2,(vb true))] [] (zM<|zZ) ?_
  refine jE ⟨_,(.tmp (d:=(.val (.bool (true)))) rfl .nil),?_⟩
  rw[hv];rfl
theorem i_zero(p q:Rat)(hp:QL p 1073741824)(hq:QL q 1073741824):jP Tryz.prog 166 [(jJ (jZ.mk (jQ p) (jQ q)))] (.val (.bool ((gS p q)))):=by
 refine jI Tryz.func166 rfl cb166 rfl ?_
 show qJ _ _ _ _ ⟨[(0,(.d (jJ (jZ.mk (jQ p) (jQ q)))))],[]⟩
 refine jB<|kx [(1,(.ref 0 0))] [(0,some (bx (jJ (jZ.mk (jQ p) (jQ q)))))] (zN (vW 0)<|zM<|zZ) ?_
 refine jB<|kx [(2,(vb (decide ((gI p)≤0)&&decide (0≤(gI q)))))] [] ?_ ?_
 ·refine zE (qE zB)<|zR (kM jT)<|zE (jX (f_sign (jQ p) p (jV (kG hp) (by decide))))<|zE oLe<|zE (oV (vb (decide ((gI p)≤0))) (kR (by kernel_rfl)))<|?_
  rcases hb1:(decide ((gI p)≤0)) with _ | _
  ·replace hb1:=uX hb1
   exact zK<|zK<|zK<|zK<|zE xN<|zM<|zZ
  ·replace hb1:=uW hb1
   exact zE (qE yC)<|zR (kM jT)<|zE (jX (f_sign (jQ q) q (jV (kG hq) (by decide))))<|zE oGe<|zE fM<|zM<|zZ
 refine jE ⟨_,(.tmp (d:=(.val (.bool ((decide ((gI p)≤0)&&decide (0≤(gI q))))))) rfl .nil),?_⟩
 rw[zeroG_eq];rfl
theorem i_spanned(p:Rat)(qs:List Rat)(hp:QL p 17179869184)(hqs:∀ q∈qs,QL q 17179869184)(hb:qs.length≤1000000):jP Tryz.prog 165 [(jK (jQ p)),(.sl 45 4 (List.map jK (List.map jQ qs)))] (jJ (jZ.mk (jQ (mnL p qs)) (jQ (mxL p qs)))):=by
 refine jI Tryz.func165 rfl cb165 rfl ?_
 show qJ _ _ _ _ ⟨[(0,(.d (jK (jQ p)))),(1,(vl 45 4 jK (List.map jQ qs)))],[]⟩
 refine jB<|kx [(2,(.ref 0 0)),(4,(.ref 1 0))] [(0,some (bx (jK (jQ p)))),(1,some (bx (jJ (jZ.mk qH qH))))] (zN (vW 0)<|zN (uF 1 uH uR)<|zZ) ?_
 refine jB<|kx [(5,(.ref 2 0))] [(2,some (bx (jJ (jZ.mk (jQ p) (jQ p)))))] (zR (kM jT)<|zR (kM jT)<|zE (bY pl61 uH uR)<|zN (uF 2 uH uR)<|zT (qK kI)<|zZ) ?_
 refine jB<|jB<|kx [(11,(vl 45 4 jK (List.map jQ qs))),(12,(jR qs.length)),(13,(jR 0))] [] (zM<|zE (oLn qY qs.length)<|zM<|zZ) ?_
 refine jH<|kB (α:=Nat × Rat × Rat) (fun (i,lo,hi)=>⟨[(4,(.ref 1 0)),(5,(.ref 2 0)),(11,(vl 45 4 jK (List.map jQ qs))),(12,(jR qs.length)),(13,(jR i))],[(1,some (bx (jJ (jZ.mk qH qH)))),(2,some (bx (jJ (jZ.mk (jQ lo) (jQ hi)))))]⟩) (fun (i,lo,hi)=>i≤qs.length∧lo=mnL p (qs.take i)∧hi=mxL p (qs.take i)) (fun (i,lo,hi)=>qs.length-i) (0,p,p) wk ⟨Nat.zero_le _,rfl,rfl⟩ ?_
 rintro ⟨i,lo,hi⟩ ⟨hi1,hl,hh⟩
 have htk:∀ q∈qs.take i,QL q 17179869184:=fun q hq=>hqs q (List.mem_of_mem_take hq)
 have hlo:QL lo 17179869184:=by rw[hl];exact ql_mnL hp htk
 have hhi:QL hi 17179869184:=by rw[hh];exact ql_mxL hp htk
 refine jB<|kx [(14,(vb (decide (((i:Nat):Int)<((qs.length:Nat):Int)))))] [] (zE xG<|zZ) ?_
 refine jB<|jF rfl (fun h1=>?_) (fun h1=>?_)
 ·replace h1:=uW h1
  refine jD<|jB<|jH<|jB<|kx [(7,(.ref 3 0))] [(3,some (bx (jK (jQ (qs.getD i 0)))))] (zE (oXm qY jQ i 0)<|zE (nR jT)<|zN (uF 3 uG uQ)<|zT (qK jT)<|zZ) ?_
  refine jB<|jB<|kx [(21,(vb (decide ((yW (qs.getD i 0) lo)<0))))] [] (zR (kM jT)<|zE (qE zB)<|zR (kM jT)<|zE (jX (cQ (jQ (qs.getD i 0)) (jQ lo) (qs.getD i 0) lo (kG (ql_getD hqs (by decide) i)) (kG hlo)))<|zE xG<|zZ) ?_
  refine jF (b:=decide ((yW (qs.getD i 0) lo)<0)) rfl (fun h2=>?_) (fun h2=>?_)
  ·replace h2:=uW h2
   have hc1:=h2
   refine kx [] [(2,some (bx (jJ (jZ.mk (jQ (qs.getD i 0)) (jQ hi)))))] (zR (kM jT)<|zE (qE zB)<|zT (qK jT)<|zZ) ?_
   refine jB<|kx [(28,(vb (decide (0<(yW (qs.getD i 0) hi)))))] [] (zR (kM jT)<|zE (qE yC)<|zR (kM jT)<|zE (jX (cQ (jQ (qs.getD i 0)) (jQ hi) (qs.getD i 0) hi (kG (ql_getD hqs (by decide) i)) (kG hhi)))<|zE mA<|zZ) ?_
   refine jF (b:=decide (0<(yW (qs.getD i 0) hi))) rfl (fun h3=>?_) (fun h3=>?_)
   ·replace h3:=uW h3
    have hc2:=h3
    refine kx [] [(2,some (bx (jJ (jZ.mk (jQ (qs.getD i 0)) (jQ (qs.getD i 0))))))] (zR (kM jT)<|zE (qE yC)<|zT (qK jT)<|zZ) ?_
    refine kx [(13,(jR (i+1)))] [] (zE (vT (i+1))<|zM<|zZ) ?_
    exact ⟨(i+1,qs.getD i 0,qs.getD i 0),wk,⟨by omega,mnL_lt (by omega) hl hc1,mxL_gt (by omega) hh hc2⟩,(by first|omega|(dsimp only;omega))⟩
   ·replace h3:=uX h3
    have hc2:=h3
    refine jD<|kx [(13,(jR (i+1)))] [] (zE (vT (i+1))<|zM<|zZ) ?_
    exact ⟨(i+1,qs.getD i 0,hi),wk,⟨by omega,mnL_lt (by omega) hl hc1,mxL_le (by omega) hh hc2⟩,(by first|omega|(dsimp only;omega))⟩
  ·replace h2:=uX h2
   have hc1:=h2
   refine jD<|jB<|kx [(28,(vb (decide (0<(yW (qs.getD i 0) hi)))))] [] (zR (kM jT)<|zE (qE yC)<|zR (kM jT)<|zE (jX (cQ (jQ (qs.getD i 0)) (jQ hi) (qs.getD i 0) hi (kG (ql_getD hqs (by decide) i)) (kG hhi)))<|zE mA<|zZ) ?_
   refine jF (b:=decide (0<(yW (qs.getD i 0) hi))) rfl (fun h4=>?_) (fun h4=>?_)
   ·replace h4:=uW h4
    have hc2:=h4
    refine kx [] [(2,some (bx (jJ (jZ.mk (jQ lo) (jQ (qs.getD i 0))))))] (zR (kM jT)<|zE (qE yC)<|zT (qK jT)<|zZ) ?_
    refine kx [(13,(jR (i+1)))] [] (zE (vT (i+1))<|zM<|zZ) ?_
    exact ⟨(i+1,lo,qs.getD i 0),wk,⟨by omega,mnL_ge (by omega) hl hc1,mxL_gt (by omega) hh hc2⟩,(by first|omega|(dsimp only;omega))⟩
   ·replace h4:=uX h4
    have hc2:=h4
    refine jD<|kx [(13,(jR (i+1)))] [] (zE (vT (i+1))<|zM<|zZ) ?_
    exact ⟨(i+1,lo,hi),wk,⟨by omega,mnL_ge (by omega) hl hc1,mxL_le (by omega) hh hc2⟩,(by first|omega|(dsimp only;omega))⟩
 ·replace h1:=uX h1
  have hie:i=qs.length:=by omega
  rw[hie,List.take_length] at hl hh
  refine kC<|jB<|kx [] [(1,some (bx (jJ (jZ.mk (jQ lo) (jQ hi)))))] (zR (kM kI)<|zT (qK kI)<|zZ) ?_
  refine jE ⟨_,(kN (cs:=(bx (jJ (jZ.mk (jQ lo) (jQ hi))))) (d:=(jJ (jZ.mk (jQ lo) (jQ hi)))) rfl rfl kI rfl rfl .nil),?_⟩
  rw[hl,hh];rfl
theorem i_quot(p q:Rat)(hp:QL p 1073741824)(hq:QL q 1073741824)(hq0:q≠0):jP Tryz.prog 260 [(jK (jQ p)),(jK (jQ q))] (jK (jQ (p / q))):=by
 refine jI Tryz.func260 rfl cb260 rfl ?_
 show qJ _ _ _ _ ⟨[(0,(.d (jK (jQ p)))),(1,(.d (jK (jQ q))))],[]⟩
 refine jB<|kx [(2,(.ref 0 0)),(3,(.ref 1 0)),(4,(.ref 2 0))] [(0,some (bx (jK (jQ p)))),(1,some (bx (jK (jQ q)))),(2,some (bx (jK qH)))] (zN (vW 0)<|zN (vW 1)<|zN (uF 2 uG uQ)<|zZ) ?_
 refine jB<|kx [(5,(.ref 3 0))] [(3,some (bx (jK (divR p q))))] (zR (kM jT)<|zR (kM jT)<|zE (jX (f_divide (jQ p) (jQ q) p q (jV (kG hp) (by decide)) (jV (kG hq) (by decide))))<|zM<|zE xD<|zE xD<|zN (uF 3 uG uQ)<|zT (qK jT)<|zM<|zZ) ?_
 refine jB<|kx [] [(2,some (bx (jK (divR p q))))] (zR (kM jT)<|zT (qK jT)<|zZ) ?_
 refine jE ⟨_,(kN (cs:=(bx (jK (divR p q)))) (d:=(jK (divR p q))) rfl rfl jT rfl rfl .nil),?_⟩
 rw[divR_ne hq0];rfl
theorem i_cornersM(p q r s:Rat)(hp:QL p 1073741824)(hq:QL q 1073741824)(hr:QL r 1073741824)(hs:QL s 1073741824):jP Tryz.prog 164 [(.val (.func (.func 82) #[] #[])),(jJ (jZ.mk (jQ p) (jQ q))),(jJ (jZ.mk (jQ r) (jQ s)))] (jJ (jZ.mk (jQ (mnL (p*r) [(p*s),(q*r),(q*s)])) (jQ (mxL (p*r) [(p*s),(q*r),(q*s)])))):=by
 let y1:=(jJ (jZ.mk (jQ (mnL (p*r) [(p*s),(q*r),(q*s)])) (jQ (mxL (p*r) [(p*s),(q*r),(q*s)]))))
 refine jI Tryz.func164 rfl cb164 rfl ?_
 show qJ _ _ _ _ ⟨[(0,(.d (.val (.func (.func 82) #[] #[])))),(1,(.d (jJ (jZ.mk (jQ p) (jQ q))))),(2,(.d (jJ (jZ.mk (jQ r) (jQ s)))))],[]⟩
 refine jB<|kx [(4,(.ref 0 0)),(5,(.ref 1 0)),(6,(.ref 2 0))] [(0,some (bx (jJ (jZ.mk (jQ p) (jQ q))))),(1,some (bx (jJ (jZ.mk (jQ r) (jQ s))))),(2,some (bx (jJ (jZ.mk qH qH))))] (zN (vW 0)<|zN (vW 1)<|zN (uF 2 uH uR)<|zZ) ?_
 refine jB<|kd [] [(2,some (bx y1))] mo (wM<|wE (qE zB)<|wR (kM jT)<|wE (qE zB)<|wR (kM jT)<|wE (jX (eN (jQ p) (jQ r) p r (jV (kG hp) (by decide)) (jV (kG hr) (by decide))))<|wM<|wE (qE zB)<|wR (kM jT)<|wE (qE yC)<|wR (kM jT)<|wE (jX (eN (jQ p) (jQ s) p s (jV (kG hp) (by decide)) (jV (kG hs) (by decide))))<|wM<|wE (qE yC)<|wR (kM jT)<|wE (qE zB)<|wR (kM jT)<|wE (jX (eN (jQ q) (jQ r) q r (jV (kG hq) (by decide)) (jV (kG hr) (by decide))))<|wM<|wE (qE yC)<|wR (kM jT)<|wE (qE yC)<|wR (kM jT)<|wE (jX (eN (jQ q) (jQ s) q s (jV (kG hq) (by decide)) (jV (kG hs) (by decide))))<|wE (eC qY uG uQ)<|wE (jX (i_spanned (p*r) [(p*s),(q*r),(q*s)] (vC (qP (k:=2147483648) hp hr (by decide)) (by decide)) (List.forall_mem_cons.2 ⟨(vC (qP (k:=2147483648) hp hs (by decide)) (by decide)),(List.forall_mem_cons.2 ⟨(vC (qP (k:=2147483648) hq hr (by decide)) (by decide)),(List.forall_mem_cons.2 ⟨(vC (qP (k:=2147483648) hq hs (by decide)) (by decide)),(fun a h=>by cases h)⟩)⟩)⟩) (by simp)))<|wT (qK kI)<|wZ) ?_
 refine jE ⟨_,(kN (cs:=(bx y1)) (d:=y1) rfl rfl kI rfl rfl .nil),?_⟩
 rfl
theorem i_cornersD(p q r s:Rat)(hp:QL p 1073741824)(hq:QL q 1073741824)(hr:QL r 1073741824)(hs:QL s 1073741824)(hr0:r≠0)(hs0:s≠0):jP Tryz.prog 164 [(.val (.func (.func 260) #[] #[])),(jJ (jZ.mk (jQ p) (jQ q))),(jJ (jZ.mk (jQ r) (jQ s)))] (jJ (jZ.mk (jQ (mnL (p / r) [(p / s),(q / r),(q / s)])) (jQ (mxL (p / r) [(p / s),(q / r),(q / s)])))):=by
 let y1:=(jJ (jZ.mk (jQ (mnL (p / r) [(p / s),(q / r),(q / s)])) (jQ (mxL (p / r) [(p / s),(q / r),(q / s)]))))
 refine jI Tryz.func164 rfl cb164 rfl ?_
 show qJ _ _ _ _ ⟨[(0,(.d (.val (.func (.func 260) #[] #[])))),(1,(.d (jJ (jZ.mk (jQ p) (jQ q))))),(2,(.d (jJ (jZ.mk (jQ r) (jQ s)))))],[]⟩
 refine jB<|kx [(4,(.ref 0 0)),(5,(.ref 1 0)),(6,(.ref 2 0))] [(0,some (bx (jJ (jZ.mk (jQ p) (jQ q))))),(1,some (bx (jJ (jZ.mk (jQ r) (jQ s))))),(2,some (bx (jJ (jZ.mk qH qH))))] (zN (vW 0)<|zN (vW 1)<|zN (uF 2 uH uR)<|zZ) ?_
 refine jB<|kd [] [(2,some (bx y1))] mo (wM<|wE (qE zB)<|wR (kM jT)<|wE (qE zB)<|wR (kM jT)<|wE (jX (i_quot p r hp hr (by assumption)))<|wM<|wE (qE zB)<|wR (kM jT)<|wE (qE yC)<|wR (kM jT)<|wE (jX (i_quot p s hp hs (by assumption)))<|wM<|wE (qE yC)<|wR (kM jT)<|wE (qE zB)<|wR (kM jT)<|wE (jX (i_quot q r hq hr (by assumption)))<|wM<|wE (qE yC)<|wR (kM jT)<|wE (qE yC)<|wR (kM jT)<|wE (jX (i_quot q s hq hs (by assumption)))<|wE (eC qY uG uQ)<|wE (jX (i_spanned (p / r) [(p / s),(q / r),(q / s)] (vC (ql_div (k:=2147483648) hp hr (by decide)) (by decide)) (List.forall_mem_cons.2 ⟨(vC (ql_div (k:=2147483648) hp hs (by decide)) (by decide)),(List.forall_mem_cons.2 ⟨(vC (ql_div (k:=2147483648) hq hr (by decide)) (by decide)),(List.forall_mem_cons.2 ⟨(vC (ql_div (k:=2147483648) hq hs (by decide)) (by decide)),(fun a h=>by cases h)⟩)⟩)⟩) (by simp)))<|wT (qK kI)<|wZ) ?_
 refine jE ⟨_,(kN (cs:=(bx y1)) (d:=y1) rfl rfl kI rfl rfl .nil),?_⟩
 rfl
theorem i_mul(p q r s:Rat)(hp:QL p 1073741824)(hq:QL q 1073741824)(hr:QL r 1073741824)(hs:QL s 1073741824)(hpq:p≤q)(hrs:r≤s):jP Tryz.prog 107 [(jJ (jZ.mk (jQ p) (jQ q))),(jJ (jZ.mk (jQ r) (jQ s)))] (.tup [(jJ (jZ.mk (jQ (mnL (p*r) [(p*s),(q*r),(q*s)])) (jQ (mxL (p*r) [(p*s),(q*r),(q*s)])))),(.val (.int .i64 (0)))]):=by
 let y1:=(jJ (jZ.mk (jQ (mnL (p*r) [(p*s),(q*r),(q*s)])) (jQ (mxL (p*r) [(p*s),(q*r),(q*s)]))))
 refine jI Tryz.func107 rfl cb107 rfl ?_
 show qJ _ _ _ _ ⟨[(0,(.d (jJ (jZ.mk (jQ p) (jQ q))))),(1,(.d (jJ (jZ.mk (jQ r) (jQ s)))))],[]⟩
 refine jB<|kx [(2,(.ref 0 0)),(3,(.ref 1 0)),(4,(.ref 2 0))] [(0,some (bx (jJ (jZ.mk (jQ p) (jQ q))))),(1,some (bx (jJ (jZ.mk (jQ r) (jQ s))))),(2,some (bx (jJ (jZ.mk qH qH))))] (zN (vW 0)<|zN (vW 1)<|zN (uF 2 uH uR)<|zM<|zZ) ?_
 refine jB<|jB<|kx [(10,(vb false))] [] (zR (kM kI)<|zR (kM kI)<|zE (eC gP uH uR)<|zE (jX (by have h:=i_valids [(jZ.mk (jQ p) (jQ q)),(jZ.mk (jQ r) (jQ s))] (List.forall_mem_cons.2 ⟨(gZ (⟨qQ (jV (kG hp) (by decide:1073741824≤1073741824)),qQ (jV (kG hq) (by decide:1073741824≤1073741824))⟩) (by decide)),(List.forall_mem_cons.2 ⟨(gZ (⟨qQ (jV (kG hr) (by decide:1073741824≤1073741824)),qQ (jV (kG hs) (by decide:1073741824≤1073741824))⟩) (by decide)),(fun a h=>by cases h)⟩)⟩) (by simp);rw[show List.all [(jZ.mk (jQ p) (jQ q)),(jZ.mk (jQ r) (jQ s))] uO=true from by simp [zL hpq,zL hrs]] at h;exact h))<|zE nY<|zZ) ?_
 refine kS ?_
 refine jD<|jB<|kx [(5,(jR 0))] [(2,some (bx y1))] (zR (kM kI)<|zR (kM kI)<|zE (jX (i_cornersM p q r s hp hq hr hs))<|zT (qK kI)<|zM<|zZ) ?_
 refine jE ⟨_,(kN (cs:=(bx y1)) (d:=y1) rfl rfl kI rfl rfl (.tmp (d:=(.val (.int .i64 (0)))) rfl .nil)),?_⟩
 rfl
theorem i_divide(p q r s:Rat)(hp:QL p 1073741824)(hq:QL q 1073741824)(hr:QL r 1073741824)(hs:QL s 1073741824)(hpq:p≤q)(hrs:r≤s)(hz:gS r s=false):jP Tryz.prog 244 [(jJ (jZ.mk (jQ p) (jQ q))),(jJ (jZ.mk (jQ r) (jQ s)))] (.tup [(jJ (jZ.mk (jQ (mnL (p / r) [(p / s),(q / r),(q / s)])) (jQ (mxL (p / r) [(p / s),(q / r),(q / s)])))),(.val (.int .i64 (0)))]):=by
 obtain ⟨hr0,hs0⟩:=zeroG_ne hrs hz
 let y1:=(jJ (jZ.mk (jQ (mnL (p / r) [(p / s),(q / r),(q / s)])) (jQ (mxL (p / r) [(p / s),(q / r),(q / s)]))))
 refine jI Tryz.func244 rfl cb244 rfl ?_
 show qJ _ _ _ _ ⟨[(0,(.d (jJ (jZ.mk (jQ p) (jQ q))))),(1,(.d (jJ (jZ.mk (jQ r) (jQ s)))))],[]⟩
 refine jB<|kx [(2,(.ref 0 0)),(3,(.ref 1 0)),(4,(.ref 2 0))] [(0,some (bx (jJ (jZ.mk (jQ p) (jQ q))))),(1,some (bx (jJ (jZ.mk (jQ r) (jQ s))))),(2,some (bx (jJ (jZ.mk qH qH))))] (zN (vW 0)<|zN (vW 1)<|zN (uF 2 uH uR)<|zM<|zZ) ?_
 refine jB<|jB<|kx [(11,(vb false))] [] (zR (kM kI)<|zR (kM kI)<|zE (eC gP uH uR)<|zE (jX (by have h:=i_valids [(jZ.mk (jQ p) (jQ q)),(jZ.mk (jQ r) (jQ s))] (List.forall_mem_cons.2 ⟨(gZ (⟨qQ (jV (kG hp) (by decide:1073741824≤1073741824)),qQ (jV (kG hq) (by decide:1073741824≤1073741824))⟩) (by decide)),(List.forall_mem_cons.2 ⟨(gZ (⟨qQ (jV (kG hr) (by decide:1073741824≤1073741824)),qQ (jV (kG hs) (by decide:1073741824≤1073741824))⟩) (by decide)),(fun a h=>by cases h)⟩)⟩) (by simp);rw[show List.all [(jZ.mk (jQ p) (jQ q)),(jZ.mk (jQ r) (jQ s))] uO=true from by simp [zL hpq,zL hrs]] at h;exact h))<|zE nY<|zZ) ?_
 refine kS ?_
 refine jD<|jB<|jB<|kx [(14,(vb false))] [] (zR (kM kI)<|zE (jX (by have h:=i_zero r s hr hs;rw[show gS r s=false from hz] at h;exact h))<|zZ) ?_
 refine kS ?_
 refine jD<|jB<|kx [(6,(.d (.val (.func (.func 260) #[] #[]))))] [] (zM<|zZ) ?_
 refine jB<|kx [(5,(jR 0))] [(2,some (bx y1))] (zM<|zR (kM kI)<|zR (kM kI)<|zE (jX (i_cornersD p q r s hp hq hr hs (by assumption) (by assumption)))<|zT (qK kI)<|zM<|zZ) ?_
 refine jE ⟨_,(kN (cs:=(bx y1)) (d:=y1) rfl rfl kI rfl rfl (.tmp (d:=(.val (.int .i64 (0)))) rfl .nil)),?_⟩
 rfl
theorem i_divideZ(p q r s:Rat)(hp:QL p 1073741824)(hq:QL q 1073741824)(hr:QL r 1073741824)(hs:QL s 1073741824)(hpq:p≤q)(hrs:r≤s)(hz:gS r s=true):jP Tryz.prog 244 [(jJ (jZ.mk (jQ p) (jQ q))),(jJ (jZ.mk (jQ r) (jQ s)))] (.tup [(jJ (jZ.mk qH qH)),(.val (.int .i64 (14)))]):=by
 let y1:=(bx (jJ (jZ.mk qH qH)))
 refine jI Tryz.func244 rfl cb244 rfl ?_
 show qJ _ _ _ _ ⟨[(0,(.d (jJ (jZ.mk (jQ p) (jQ q))))),(1,(.d (jJ (jZ.mk (jQ r) (jQ s)))))],[]⟩
 refine jB<|kx [(2,(.ref 0 0)),(3,(.ref 1 0)),(4,(.ref 2 0))] [(0,some (bx (jJ (jZ.mk (jQ p) (jQ q))))),(1,some (bx (jJ (jZ.mk (jQ r) (jQ s))))),(2,some y1)] (zN (vW 0)<|zN (vW 1)<|zN (uF 2 uH uR)<|zM<|zZ) ?_
 refine jB<|jB<|kx [(11,(vb false))] [] (zR (kM kI)<|zR (kM kI)<|zE (eC gP uH uR)<|zE (jX (by have h:=i_valids [(jZ.mk (jQ p) (jQ q)),(jZ.mk (jQ r) (jQ s))] (List.forall_mem_cons.2 ⟨(gZ (⟨qQ (jV (kG hp) (by decide:1073741824≤1073741824)),qQ (jV (kG hq) (by decide:1073741824≤1073741824))⟩) (by decide)),(List.forall_mem_cons.2 ⟨(gZ (⟨qQ (jV (kG hr) (by decide:1073741824≤1073741824)),qQ (jV (kG hs) (by decide:1073741824≤1073741824))⟩) (by decide)),(fun a h=>by cases h)⟩)⟩) (by simp);rw[show List.all [(jZ.mk (jQ p) (jQ q)),(jZ.mk (jQ r) (jQ s))] uO=true from by simp [zL hpq,zL hrs]] at h;exact h))<|zE nY<|zZ) ?_
 refine kS ?_
 refine jD<|jB<|jB<|kx [(14,(vb true))] [] (zR (kM kI)<|zE (jX (by have h:=i_zero r s hr hs;rw[show gS r s=true from hz] at h;exact h))<|zZ) ?_
 refine xT ?_
 refine jB<|kx [(5,(jR 14))] [(2,some y1)] (zE (bY pl61 uH uR)<|zT (qK kI)<|zM<|zZ) ?_
 refine jE ⟨_,(kN (cs:=y1) (d:=(jJ (jZ.mk qH qH))) rfl rfl kI rfl rfl (.tmp (d:=(.val (.int .i64 (14)))) rfl .nil)),?_⟩
 rfl
theorem i_square(p q:Rat)(hp:QL p 1073741824)(hq:QL q 1073741824)(hpq:p≤q):jP Tryz.prog 108 [(jJ (jZ.mk (jQ p) (jQ q)))] (.tup [(jJ (jZ.mk (jQ (sqL p q)) (jQ (sqH p q)))),(.val (.int .i64 (0)))]):=by
 let y2:=(jJ (jZ.mk (jQ ((0:Int):Rat)) (jQ (mxL (p*p) [(q*q)]))))
 let y1:=(jJ (jZ.mk (jQ (mnL (p*p) [(q*q)])) (jQ (mxL (p*p) [(q*q)]))))
 refine jI Tryz.func108 rfl cb108 rfl ?_
 show qJ _ _ _ _ ⟨[(0,(.d (jJ (jZ.mk (jQ p) (jQ q)))))],[]⟩
 refine jB<|kx [(1,(.ref 0 0)),(2,(.ref 1 0))] [(0,some (bx (jJ (jZ.mk (jQ p) (jQ q))))),(1,some (bx (jJ (jZ.mk qH qH))))] (zN (vW 0)<|zN (uF 1 uH uR)<|zM<|zZ) ?_
 refine jB<|jB<|kx [(7,(vb false))] [] (zR (kM kI)<|zE (jX (by have h:=bS (jZ.mk (jQ p) (jQ q)) (gZ (⟨qQ (jV (kG hp) (by decide:1073741824≤1073741824)),qQ (jV (kG hq) (by decide:1073741824≤1073741824))⟩) (by decide));rw[show uO (jZ.mk (jQ p) (jQ q))=true from zL hpq] at h;exact h))<|zE nY<|zZ) ?_
 refine kS ?_
 refine jD<|jB<|kd [(4,(.ref 2 0))] [(2,some (bx y1))] mo (wE (qE zB)<|wR (kM jT)<|wE (qE zB)<|wR (kM jT)<|wE (jX (eN (jQ p) (jQ p) p p (jV (kG hp) (by decide)) (jV (kG hp) (by decide))))<|wE (qE yC)<|wR (kM jT)<|wE (qE yC)<|wR (kM jT)<|wE (jX (eN (jQ q) (jQ q) q q (jV (kG hq) (by decide)) (jV (kG hq) (by decide))))<|wE (eC qY uG uQ)<|wE (jX (i_spanned (p*p) [(q*q)] (vC (qP (k:=2147483648) hp hp (by decide)) (by decide)) (List.forall_mem_cons.2 ⟨(vC (qP (k:=2147483648) hq hq (by decide)) (by decide)),(fun a h=>by cases h)⟩) (by simp)))<|wN (uF 2 uH uR)<|wT (qK kI)<|wZ) ?_
 refine jB<|jB<|kx [(22,(vb (gS p q)))] [] (zR (kM kI)<|zE (jX (i_zero p q hp hq))<|zZ) ?_
 refine jF (b:=(gS p q)) rfl (fun h1=>?_) (fun h1=>?_)
 ·refine kx [] [(2,some (bx y2))] (zE (jX (f_whole 0 (by decide) (by decide)))<|zE (qE zB)<|zT (qK jT)<|zZ) ?_
  refine jB<|kx [(3,(jR 0))] [(1,some (bx y2))] (zR (kM kI)<|zT (qK kI)<|zM<|zZ) ?_
  refine jE ⟨_,(kN (cs:=(bx y2)) (d:=y2) rfl rfl kI rfl rfl (.tmp (d:=(.val (.int .i64 (0)))) rfl .nil)),?_⟩
  rw[show sqL p q=_ from if_pos h1];rfl
 ·refine jD<|jB<|kx [(3,(jR 0))] [(1,some (bx y1))] (zR (kM kI)<|zT (qK kI)<|zM<|zZ) ?_
  refine jE ⟨_,(kN (cs:=(bx y1)) (d:=y1) rfl rfl kI rfl rfl (.tmp (d:=(.val (.int .i64 (0)))) rfl .nil)),?_⟩
  rw[show sqL p q=_ from if_neg (by rw[h1];simp)];rfl
theorem h_whole(lo hi:Int)(h1:-9223372036854775808≤lo)(h2:lo≤9223372036854775807)(h3:-9223372036854775808≤hi)(h4:hi≤9223372036854775807):jP Tryz.prog 66 [(.val (.int .i64 (lo))),(.val (.int .i64 (hi)))] (jJ (jZ.mk (jQ ((lo:Int):Rat)) (jQ ((hi:Int):Rat)))):=by
 refine jI Tryz.func66 rfl cb66 rfl ?_
 show qJ _ _ _ _ ⟨[(0,(vi lo)),(1,(vi hi))],[]⟩
 refine jB<|kx [(4,(.ref 0 0))] [(0,some (bx (jJ (jZ.mk qH qH))))] (zN (uF 0 uH uR)<|zZ) ?_
 refine jB<|kx [] [(0,some (bx (jJ (jZ.mk (jQ ((lo:Int):Rat)) (jQ ((hi:Int):Rat))))))] (zM<|zE (jX (eD lo (by omega) (by omega)))<|zM<|zE (jX (eD hi (by omega) (by omega)))<|zE (bY pl61 uH uR)<|zT (qK kI)<|zZ) ?_
 refine jE ⟨_,(kN (cs:=(bx (jJ (jZ.mk (jQ ((lo:Int):Rat)) (jQ ((hi:Int):Rat)))))) (d:=(jJ (jZ.mk (jQ ((lo:Int):Rat)) (jQ ((hi:Int):Rat))))) rfl rfl kI rfl rfl .nil),?_⟩
 rfl
theorem h_same(a b:jZ)(ha:GOk 4294967296 a)(hb:GOk 4294967296 b):jP Tryz.prog 38 [(jJ a),(jJ b)] (.val (.bool ((sameG a b)))):=by
 refine jI Tryz.func38 rfl cb38 rfl ?_
 show qJ _ _ _ _ ⟨[(0,(.d (jJ a))),(1,(.d (jJ b)))],[]⟩
 refine jB<|kx [(2,(.ref 0 0)),(3,(.ref 1 0))] [(0,some (bx (jJ a))),(1,some (bx (jJ b)))] (zN (vW 0)<|zN (vW 1)<|zM<|zZ) ?_
 refine jB<|kx [(4,(vb (((uO a)&&(uO b))&&(dM a.lo b.lo&&dM a.hi b.hi))))] [] ?_ ?_
 ·refine zR (kM kI)<|zE (jX (h_valid a ha))<|zE (oV (vb (uO a)) (kR (by kernel_rfl)))<|?_
  rcases hb1:(uO a) with _ | _
  ·exact zK<|zK<|zE xN<|zM<|zK<|zK<|zK<|zE xN<|zM<|zZ
  ·refine zR (kM kI)<|zE (jX (h_valid b hb))<|zE fM<|zE (oV (vb (true&&(uO b))) (kR (by kernel_rfl)))<|?_
   rcases hb2:(true&&(uO b)) with _ | _
   ·exact zK<|zK<|zK<|zE xN<|zM<|zZ
   ·exact zR (kM kI)<|zR (kM kI)<|zE (jX (g_samerange a b ha hb))<|zE fM<|zM<|zZ
 refine jE ⟨_,(.tmp (d:=(.val (.bool ((((uO a)&&(uO b))&&(dM a.lo b.lo&&dM a.hi b.hi)))))) rfl .nil),?_⟩
 rfl
theorem cb92:callB Tryz.prog 92=true:=by kernel_rfl
theorem cb93:callB Tryz.prog 93=true:=by kernel_rfl
theorem i_add(p q r s:Rat)(hp:QL p 1073741824)(hq:QL q 1073741824)(hr:QL r 1073741824)(hs:QL s 1073741824)(hpq:p≤q)(hrs:r≤s):jP Tryz.prog 92 [(jJ (jZ.mk (jQ p) (jQ q))),(jJ (jZ.mk (jQ r) (jQ s)))] (.tup [(jJ (jZ.mk (jQ (p+r)) (jQ (q+s)))),(.val (.int .i64 (0)))]):=by
 refine jI Tryz.func92 rfl cb92 rfl ?_
 show qJ _ _ _ _ ⟨[(0,(.d (jJ (jZ.mk (jQ p) (jQ q))))),(1,(.d (jJ (jZ.mk (jQ r) (jQ s)))))],[]⟩
 refine jB<|kx [(2,(.ref 0 0)),(3,(.ref 1 0)),(4,(.ref 2 0))] [(0,some (bx (jJ (jZ.mk (jQ p) (jQ q))))),(1,some (bx (jJ (jZ.mk (jQ r) (jQ s))))),(2,some (bx (jJ (jZ.mk qH qH))))] (zN (vW 0)<|zN (vW 1)<|zN (uF 2 uH uR)<|zM<|zZ) ?_
 refine jB<|jB<|kx [(10,(vb false))] [] (zR (kM kI)<|zR (kM kI)<|zE (eC gP uH uR)<|zE (jX (by have h:=i_valids [(jZ.mk (jQ p) (jQ q)),(jZ.mk (jQ r) (jQ s))] (List.forall_mem_cons.2 ⟨(gZ (⟨qQ (jV (kG hp) (by decide:1073741824≤1073741824)),qQ (jV (kG hq) (by decide:1073741824≤1073741824))⟩) (by decide)),(List.forall_mem_cons.2 ⟨(gZ (⟨qQ (jV (kG hr) (by decide:1073741824≤1073741824)),qQ (jV (kG hs) (by decide:1073741824≤1073741824))⟩) (by decide)),(fun a h=>by cases h)⟩)⟩) (by simp);rw[show List.all [(jZ.mk (jQ p) (jQ q)),(jZ.mk (jQ r) (jQ s))] uO=true from by simp [zL hpq,zL hrs]] at h;exact h))<|zE nY<|zZ) ?_
 refine kS ?_
 refine jD<|jB<|kd [(5,(jR 0))] [(2,some (bx (jJ (jZ.mk (jQ (p+r)) (jQ (q+s))))))] mo (wE (qE zB)<|wR (kM jT)<|wE (qE zB)<|wR (kM jT)<|wE (jX (f_add (jQ p) (jQ r) p r (jV (kG hp) (by decide)) (jV (kG hr) (by decide))))<|wE (qE yC)<|wR (kM jT)<|wE (qE yC)<|wR (kM jT)<|wE (jX (f_add (jQ q) (jQ s) q s (jV (kG hq) (by decide)) (jV (kG hs) (by decide))))<|wE (bY pl61 uH uR)<|wT (qK kI)<|wM<|wZ) ?_
 refine jE ⟨_,(kN (cs:=(bx (jJ (jZ.mk (jQ (p+r)) (jQ (q+s)))))) (d:=(jJ (jZ.mk (jQ (p+r)) (jQ (q+s))))) rfl rfl kI rfl rfl (.tmp (d:=(.val (.int .i64 (0)))) rfl .nil)),?_⟩
 rfl
theorem i_sub(p q r s:Rat)(hp:QL p 1073741824)(hq:QL q 1073741824)(hr:QL r 1073741824)(hs:QL s 1073741824)(hpq:p≤q)(hrs:r≤s):jP Tryz.prog 93 [(jJ (jZ.mk (jQ p) (jQ q))),(jJ (jZ.mk (jQ r) (jQ s)))] (.tup [(jJ (jZ.mk (jQ (p-s)) (jQ (q-r)))),(.val (.int .i64 (0)))]):=by
 refine jI Tryz.func93 rfl cb93 rfl ?_
 show qJ _ _ _ _ ⟨[(0,(.d (jJ (jZ.mk (jQ p) (jQ q))))),(1,(.d (jJ (jZ.mk (jQ r) (jQ s)))))],[]⟩
 refine jB<|kx [(2,(.ref 0 0)),(3,(.ref 1 0)),(4,(.ref 2 0))] [(0,some (bx (jJ (jZ.mk (jQ p) (jQ q))))),(1,some (bx (jJ (jZ.mk (jQ r) (jQ s))))),(2,some (bx (jJ (jZ.mk qH qH))))] (zN (vW 0)<|zN (vW 1)<|zN (uF 2 uH uR)<|zM<|zZ) ?_
 refine jB<|jB<|kx [(10,(vb false))] [] (zR (kM kI)<|zR (kM kI)<|zE (eC gP uH uR)<|zE (jX (by have h:=i_valids [(jZ.mk (jQ p) (jQ q)),(jZ.mk (jQ r) (jQ s))] (List.forall_mem_cons.2 ⟨(gZ (⟨qQ (jV (kG hp) (by decide:1073741824≤1073741824)),qQ (jV (kG hq) (by decide:1073741824≤1073741824))⟩) (by decide)),(List.forall_mem_cons.2 ⟨(gZ (⟨qQ (jV (kG hr) (by decide:1073741824≤1073741824)),qQ (jV (kG hs) (by decide:1073741824≤1073741824))⟩) (by decide)),(fun a h=>by cases h)⟩)⟩) (by simp);rw[show List.all [(jZ.mk (jQ p) (jQ q)),(jZ.mk (jQ r) (jQ s))] uO=true from by simp [zL hpq,zL hrs]] at h;exact h))<|zE nY<|zZ) ?_
 refine kS ?_
 refine jD<|jB<|kd [(5,(jR 0))] [(2,some (bx (jJ (jZ.mk (jQ (p-s)) (jQ (q-r))))))] mo (wE (qE zB)<|wR (kM jT)<|wE (qE yC)<|wR (kM jT)<|wE (jX (f_sub (jQ p) (jQ s) p s (jV (kG hp) (by decide)) (jV (kG hs) (by decide))))<|wE (qE yC)<|wR (kM jT)<|wE (qE zB)<|wR (kM jT)<|wE (jX (f_sub (jQ q) (jQ r) q r (jV (kG hq) (by decide)) (jV (kG hr) (by decide))))<|wE (bY pl61 uH uR)<|wT (qK kI)<|wM<|wZ) ?_
 refine jE ⟨_,(kN (cs:=(bx (jJ (jZ.mk (jQ (p-s)) (jQ (q-r)))))) (d:=(jJ (jZ.mk (jQ (p-s)) (jQ (q-r))))) rfl rfl kI rfl rfl (.tmp (d:=(.val (.int .i64 (0)))) rfl .nil)),?_⟩
 rfl
theorem by45:yE Tryz.prog 45=some 64:=by kernel_rfl
theorem cb23:callB Tryz.prog 23=true:=by kernel_rfl
theorem g_zero(x:jN)(p:Rat)(hx:mI x p 140737488355328):jP Tryz.prog 23 [(jK x)] (.val (.bool ((zeroR x)))):=by
 have h1:=hx.n1
 have h2:=hx.n2
 refine jI Tryz.func23 rfl cb23 rfl ?_
 show qJ _ _ _ _ ⟨[(0,(.d (jK x)))],[]⟩
 refine jB<|kx [(1,(.ref 0 0))] [(0,some (bx (jK x)))] (zN (vW 0)<|zM<|zZ) ?_
 refine jB<|kx [(2,(vb (((!x.num.neg&&!x.den.neg)&&(((x.num.gs.length:Nat):Int) == 0))&&(((x.den.gs.length:Nat):Int) == 0))))] [] ?_ ?_
 ·refine zE (qE zG)<|zE (qE vL)<|zR (uN aU)<|zE nY<|zE (oV (vb (!x.num.neg)) (kR (by kernel_rfl)))<|?_
  rcases hb1:(!x.num.neg) with _ | _
  ·exact zK<|zK<|zK<|zK<|zE xN<|zM<|zK<|zK<|zK<|zK<|zK<|zE xN<|zM<|zK<|zK<|zK<|zK<|zK<|zE xN<|zM<|zZ
  ·refine zE (qE xE)<|zE (qE vL)<|zR (uN aU)<|zE nY<|zE fM<|zE (oV (vb (true&&!x.den.neg)) (kR (by kernel_rfl)))<|?_
   rcases hb2:(true&&!x.den.neg) with _ | _
   ·exact zK<|zK<|zK<|zK<|zK<|zE xN<|zM<|zK<|zK<|zK<|zK<|zK<|zE xN<|zM<|zZ
   ·refine zE (qE zG)<|zE (qE vS)<|zR (uN xZ)<|zE (uE kK)<|zE gD<|zE fM<|zE (oV (vb (true&&(((x.num.gs.length:Nat):Int) == 0))) (kR (by kernel_rfl)))<|?_
    rcases hb3:(true&&(((x.num.gs.length:Nat):Int) == 0)) with _ | _
    ·exact zK<|zK<|zK<|zK<|zK<|zE xN<|zM<|zZ
    ·exact zE (qE xE)<|zE (qE vS)<|zR (uN xZ)<|zE (uE kK)<|zE gD<|zE fM<|zM<|zZ
 refine jE ⟨_,(.tmp (d:=(.val (.bool ((((!x.num.neg&&!x.den.neg)&&(((x.num.gs.length:Nat):Int) == 0))&&(((x.den.gs.length:Nat):Int) == 0)))))) rfl .nil),?_⟩
 rfl
end Go.Proofs.YtnajallgoaiahaaGreatDoor
namespace Go.Fid
inductive LOk (n:Nat):List kU→List Int→Prop
 |nil:LOk n [] []
 |cons {x:kU} {z:Int} {l:List kU} {zs:List Int} (h:gC x z n) (t:LOk n l zs):LOk n (x::l) (z::zs)
theorem iok_nilN(n:Nat):gC ⟨false,[]⟩ 0 n:=⟨by decide,Nat.zero_le _⟩
theorem LOk.len{n:Nat}{l:List kU}{zs:List Int}(h:LOk n l zs):l.length=zs.length:=by
 induction h with
 |nil=>rfl
 |cons h t ih=>simp [ih]
theorem LOk.get{n:Nat}{l:List kU}{zs:List Int}(h:LOk n l zs)(i:Nat):gC (l.getD i ⟨false,[]⟩) (zs.getD i 0) n:=by
 induction h generalizing i with
 |nil=>exact iok_nilN n
 |cons h t ih=>
  rcases i with _ | i
  ·exact h
  ·exact ih i
theorem LOk.all{n:Nat}{l:List kU}{zs:List Int}(h:LOk n l zs):∀ z∈zs,cD z≤n:=by
 induction h with
 |nil=>simp
 |cons h t ih=>
  intro z hz
  rcases List.mem_cons.1 hz with rfl | hz
  ·exact h.ln
  ·exact ih z hz
theorem LOk.up{m n:Nat}{l:List kU}{zs:List Int}(h:LOk m l zs)(hm:m≤n):LOk n l zs:=by
 induction h with
 |nil=>exact .nil
 |cons h t ih=>exact .cons (nH h hm) ih
theorem signI_ne{z:Int}(h:z≠0):qZ z≠0:=by
 unfold qZ;split<;>(try split)<;>omega
theorem LOk.map{n:Nat}{l:List kU}{zs:List Int}(h:LOk n l zs):l.map kA=zs:=by
 induction h with
 |nil=>rfl
 |cons h t ih=>rw[List.map_cons,ih,h.v]
theorem all_nil{l:List kU}(h:∀ x∈l,x=kU.mk false [])(i:Nat):l.getD i (kU.mk false [])=kU.mk false []:=by
 rw[List.getD]
 cases hj:l[i]? with
 |none=>rfl
 |some q=>exact h q (List.mem_of_getElem? hj)
end Go.Fid
namespace Go.Proofs.YtnajallgoaiahaaGreatDoor
open Go.Fid
def uJ(n:Nat)(l:List jN):Prop:=(∀ a∈l,mI a (qM a) n)∧l.length≤140737488355328
def qS(n:Nat)(m:List (List jN)):Prop:=(∀ r∈m,uJ n r)∧m.length≤140737488355328
def yA(l:List jN):Bool:=l.all kL
theorem vM{l:List jN}{n j:Nat}{d:jN}(h:∀ a∈l,mI a (qM a) n)(hj:j<l.length):mI (l.getD j d) (qM (l.getD j d)) n:=by
 rw[List.getD_eq_getElem?_getD,List.getElem?_eq_getElem hj];exact h _ (List.getElem_mem hj)
theorem fE{n k:Nat}{l:List jN}(h:uJ n l)(hk:n≤k):uJ k l:=⟨fun a ha=>jV (h.1 a ha) hk,h.2⟩
theorem yP{n k:Nat}{m:List (List jN)}(h:qS n m)(hk:n≤k):qS k m:=⟨fun a ha=>fE (h.1 a ha) hk,h.2⟩
theorem uL{n i:Nat}{m:List (List jN)}{d:List jN}(h:qS n m)(hi:i<m.length):uJ n (m.getD i d):=by
 rw[List.getD_eq_getElem?_getD,List.getElem?_eq_getElem hi];exact h.1 _ (List.getElem_mem hi)
theorem take_all{α:Type}{f:α→Bool}{l:List α}{i:Nat}{d:α}(h:i<l.length):(l.take (i+1)).all f=((l.take i).all f&&f (l.getD i d)):=by
 rw[List.getD_eq_getElem?_getD,List.getElem?_eq_getElem h,List.take_succ_eq_append_getElem h,List.all_append]
 simp
end Go.Proofs.YtnajallgoaiahaaGreatDoor
