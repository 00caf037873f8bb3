/- Part 19 of a proof: rules, plain facts, and functions walked. -/
import Derived.Test.YtnajallgoaiahaaGreatDoorM18
import Derived.Test.YtnajallgoaiahaaGreatDoorM10
import Derived.Test.YtnajallgoaiahaaGreatDoorM11
set_option linter.all false
set_option maxRecDepth 4000
namespace Go.Proofs.YtnajallgoaiahaaGreatDoor
open Go.Fid
theorem uQ:vN Tryz.prog 24=some (45,4):=by kernel_rfl
theorem uA:vN Tryz.prog 86=some (61,8):=by kernel_rfl
theorem iJ:eW Tryz.prog 61=some [(0,4),(4,4)]:=by kernel_rfl
theorem jP:qX Tryz.prog 61=some (true,8):=by kernel_rfl
theorem qJ:yI Tryz.prog 61=some [.bool false,.slice none 0 0,.bool false,.slice none 0 0,.bool false,.slice none 0 0,.bool false,.slice none 0 0]:=by kernel_rfl
theorem qL:iB [.bool false,.slice none 0 0,.bool false,.slice none 0 0,.bool false,.slice none 0 0,.bool false,.slice none 0 0] [.val (.bool false),.sl 140 1 [],.val (.bool false),.sl 140 1 [],.val (.bool false),.sl 140 1 [],.val (.bool false),.sl 140 1 []]:=by simp [iB,Value.oneCell']
theorem h_valid(a:jL)(ha:GOk 4294967296 a):jO Tryz.prog 98 [(jF a)] (.val (.bool ((uJ a)))):=by
 refine qY Tryz.func98 ?_
 refine jB<|kx [(1,(.ref 0 0))] [(0,some (bx (jF a)))] (zN (uU 0)<|zM<|zZ) ?_
 refine jB<|kx [(2,(vb (((kR a.lo)&&(kR a.hi))&&decide ((yB (qS a.lo) (qS a.hi))<=0))))] [] ?_ ?_
 ·refine zE (kV uO)<|zR (kJ jQ)<|zE (jV (bU a.lo (qS a.lo) (jM ha.1)))<|zE (oV (vb (kR a.lo)) (qC (by kernel_rfl)))<|?_
  rcases hb1:(kR a.lo) with _ | _
  ·exact zK<|zK<|zK<|zE xQ<|zM<|zK<|zK<|zK<|zK<|zK<|zK<|zE xQ<|zM<|zZ
  ·refine zE (kV uT)<|zR (kJ jQ)<|zE (jV (bU a.hi (qS a.hi) (jM ha.2)))<|zE fR<|zE (oV (vb (true&&(kR a.hi))) (qC (by kernel_rfl)))<|?_
   rcases hb2:(true&&(kR a.hi)) with _ | _
   ·exact zK<|zK<|zK<|zK<|zK<|zK<|zE xQ<|zM<|zZ
   ·exact zE (kV uO)<|zR (kJ jQ)<|zE (kV uT)<|zR (kJ jQ)<|zE (jV (lC a.lo a.hi (qS a.lo) (qS a.hi) ha.1 ha.2))<|zE oLe<|zE fR<|zM<|zZ
 refine jE ⟨_,(.tmp (d:=(.val (.bool ((((kR a.lo)&&(kR a.hi))&&decide ((yB (qS a.lo) (qS a.hi))<=0)))))) rfl .nil),?_⟩
 rw[validG_eq];rfl
theorem lP(a:jL)(ha:GOk 4294967296 a):jO Tryz.prog 125 [(jF a)] (.val (.bool ((uJ a)))):=by
 refine qY Tryz.func125 ?_
 refine jB<|kx [(1,(.ref 0 0))] [(0,some (bx (jF a)))] (zN (uU 0)<|zM<|zZ) ?_
 refine jB<|kx [(2,(vb (((kR a.lo)&&(kR a.hi))&&decide ((yB (qS a.lo) (qS a.hi))<=0))))] [] ?_ ?_
 ·refine zE (kV uO)<|zR (kJ jQ)<|zE (jV (cQ a.lo (qS a.lo) (jM ha.1)))<|zE (oV (vb (kR a.lo)) (qC (by kernel_rfl)))<|?_
  rcases hb1:(kR a.lo) with _ | _
  ·exact zK<|zK<|zK<|zE xQ<|zM<|zK<|zK<|zK<|zK<|zK<|zK<|zE xQ<|zM<|zZ
  ·refine zE (kV uT)<|zR (kJ jQ)<|zE (jV (cQ a.hi (qS a.hi) (jM ha.2)))<|zE fR<|zE (oV (vb (true&&(kR a.hi))) (qC (by kernel_rfl)))<|?_
   rcases hb2:(true&&(kR a.hi)) with _ | _
   ·exact zK<|zK<|zK<|zK<|zK<|zK<|zE xQ<|zM<|zZ
   ·exact zE (kV uO)<|zR (kJ jQ)<|zE (kV uT)<|zR (kJ jQ)<|zE (jV (dD a.lo a.hi (qS a.lo) (qS a.hi) (jM ha.1) (jM ha.2)))<|zE oLe<|zE fR<|zM<|zZ
 refine jE ⟨_,(.tmp (d:=(.val (.bool ((((kR a.lo)&&(kR a.hi))&&decide ((yB (qS a.lo) (qS a.hi))<=0)))))) rfl .nil),?_⟩
 rw[validG_eq];rfl
theorem i_valids(l:List jL)(hl:∀ a∈l,GOk 4294967296 a)(hb:l.length<=1000000):jO Tryz.prog 152 [(.sl 61 8 (List.map jF l))] (.val (.bool ((l.all uJ)))):=by
 let y1:=(jL.mk kH kH)
 refine qY Tryz.func152 ?_
 refine jB<|kx [] [] (zM<|zZ) ?_
 refine jB<|jB<|kx [(5,(vl 61 8 jF l)),(6,(jS l.length)),(7,(jS 0))] [] (zM<|zE (vP uA)<|zM<|zZ) ?_
 refine jH<|kF (α:=Nat) (fun i=>⟨[(5,(vl 61 8 jF l)),(6,(jS l.length)),(7,(jS i))],[]⟩) (fun i=>i<=l.length/\(l.take i).all uJ=true) (fun i=>l.length-i) 0 wk ⟨Nat.zero_le _,by simp⟩ ?_
 rintro i ⟨hi,hv⟩
 refine jB<|kx [(8,(vb (decide (((i:Nat):Int)<((l.length:Nat):Int)))))] [] (zE xK<|zZ) ?_
 refine jB<|jG rfl (fun h1=>?_) (fun h1=>?_)
 ·replace h1:=uV h1
  refine jC<|jB<|jH<|jB<|kx [(4,(.ref 0 0))] [(0,some (bx (jF (l.getD i y1))))] (zE (yE uA i y1)<|zE (yJ jP)<|zN (qR 0 qJ qL)<|zT (qA jP)<|zZ) ?_
  refine jB<|kx [(13,(vb (!(uJ (l.getD i y1)))))] [] (zR (kJ jP)<|zE (jV (lP (l.getD i y1) (bE hl (show i<l.length by omega))))<|zE gD<|zZ) ?_
  refine jG rfl (fun h2=>?_) (fun h2=>?_)
  ·refine jB<|kx [(2,(vb false))] [] (zM<|zZ) ?_
   refine jE ⟨_,(.tmp (d:=(.val (.bool (false)))) rfl .nil),?_⟩
   rw[all_not (f:=uJ) (l:=l) (i:=i) (d:=(jL.mk kH kH)) (by omega) (by simpa using h2)];rfl
  ·refine jC<|kx [(7,(jS (i+1)))] [] (zE (vO (i+1))<|zM<|zZ) ?_
   exact ⟨(i+1),wk,⟨by omega,all_take (d:=(jL.mk kH kH)) (by omega) hv (by simpa using h2)⟩,(by first|omega|(dsimp only;omega))⟩
 ·replace h1:=vB h1
  have hie:i=l.length:=by omega
  rw[hie,List.take_length] at hv
  refine kD<|jB<|kx [(2,(vb true))] [] (zM<|zZ) ?_
  refine jE ⟨_,(.tmp (d:=(.val (.bool (true)))) rfl .nil),?_⟩
  rw[hv];rfl
theorem i_zero(p q:Rat)(hp:QL p 1073741824)(hq:QL q 1073741824):jO Tryz.prog 166 [(jF (jL.mk (jN p) (jN q)))] (.val (.bool ((xH p q)))):=by
 refine qY Tryz.func166 ?_
 refine jB<|kx [(1,(.ref 0 0))] [(0,some (bx (jF (jL.mk (jN p) (jN q)))))] (zN (uU 0)<|zM<|zZ) ?_
 refine jB<|kx [(2,(vb (decide ((mJ p)<=0)&&decide (0<=(mJ q)))))] [] ?_ ?_
 ·refine zE (kV uO)<|zR (kJ jQ)<|zE (jV (f_sign (jN p) p (jM (jW hp))))<|zE oLe<|zE (oV (vb (decide ((mJ p)<=0))) (qC (by kernel_rfl)))<|?_
  rcases hb1:(decide ((mJ p)<=0)) with _ | _
  ·replace hb1:=vB hb1
   exact zK<|zK<|zK<|zK<|zE xQ<|zM<|zZ
  ·replace hb1:=uV hb1
   exact zE (kV uT)<|zR (kJ jQ)<|zE (jV (f_sign (jN q) q (jM (jW hq))))<|zE oGe<|zE fR<|zM<|zZ
 refine jE ⟨_,(.tmp (d:=(.val (.bool ((decide ((mJ p)<=0)&&decide (0<=(mJ q))))))) rfl .nil),?_⟩
 rw[zeroG_eq];rfl
theorem i_spanned(p:Rat)(qs:List Rat)(hp:QL p 17179869184)(hqs:∀ q∈qs,QL q 17179869184)(hb:qs.length<=1000000):jO Tryz.prog 165 [(jJ (jN p)),(.sl 45 4 (List.map jJ (List.map jN qs)))] (jF (jL.mk (jN (hC p qs)) (jN (nY p qs)))):=by
 refine qY Tryz.func165 ?_
 refine jB<|kx [(2,(.ref 0 0)),(4,(.ref 1 0))] [(0,some (bx (jJ (jN p)))),(1,some (bx (jF (jL.mk kH kH))))] (zN (uU 0)<|zN (qR 1 qJ qL)<|zZ) ?_
 refine jB<|kx [(5,(.ref 2 0))] [(2,some (bx (jF (jL.mk (jN p) (jN p)))))] (zR (kJ jQ)<|zR (kJ jQ)<|zE (eD iJ qJ qL)<|zN (qR 2 qJ qL)<|zT (qA jP)<|zZ) ?_
 refine jB<|jB<|kx [(11,(vl 45 4 jJ (List.map jN qs))),(12,(jS qs.length)),(13,(jS 0))] [] (zM<|zE (fO uQ qs.length)<|zM<|zZ) ?_
 refine jH<|kF (α:=Nat × Rat × Rat) (fun (i,lo,hi)=>⟨[(4,(.ref 1 0)),(5,(.ref 2 0)),(11,(vl 45 4 jJ (List.map jN qs))),(12,(jS qs.length)),(13,(jS i))],[(1,some (bx (jF (jL.mk kH kH)))),(2,some (bx (jF (jL.mk (jN lo) (jN hi)))))]⟩) (fun (i,lo,hi)=>i<=qs.length/\lo=hC p (qs.take i)/\hi=nY p (qs.take i)) (fun (i,lo,hi)=>qs.length-i) (0,p,p) wk ⟨Nat.zero_le _,rfl,rfl⟩ ?_
 rintro ⟨i,lo,hi⟩ ⟨hi1,hl,hh⟩
 have htk:∀ q∈qs.take i,QL q 17179869184:=fun q hq=>hqs q (List.mem_of_mem_take hq)
 have hlo:QL lo 17179869184:=by rw[hl];exact ql_mnL hp htk
 have hhi:QL hi 17179869184:=by rw[hh];exact ql_mxL hp htk
 refine jB<|kx [(14,(vb (decide (((i:Nat):Int)<((qs.length:Nat):Int)))))] [] (zE xK<|zZ) ?_
 refine jB<|jG rfl (fun h1=>?_) (fun h1=>?_)
 ·replace h1:=uV h1
  refine jC<|jB<|jH<|jB<|kx [(7,(.ref 3 0))] [(3,some (bx (jJ (jN (qs.getD i 0)))))] (zE (bC uQ jN i 0)<|zE (yJ jQ)<|zN (qR 3 qZ uG)<|zT (qA jQ)<|zZ) ?_
  refine jB<|jB<|kx [(21,(vb (decide ((yB (qs.getD i 0) lo)<0))))] [] (zR (kJ jQ)<|zE (kV uO)<|zR (kJ jQ)<|zE (jV (dD (jN (qs.getD i 0)) (jN lo) (qs.getD i 0) lo (jW (fA hqs (by decide) i)) (jW hlo)))<|zE xK<|zZ) ?_
  refine jG (b:=decide ((yB (qs.getD i 0) lo)<0)) rfl (fun h2=>?_) (fun h2=>?_)
  ·replace h2:=uV h2
   have hc1:=h2
   refine kx [] [(2,some (bx (jF (jL.mk (jN (qs.getD i 0)) (jN hi)))))] (zR (kJ jQ)<|zE (kV uO)<|zT (qA jQ)<|zZ) ?_
   refine jB<|kx [(28,(vb (decide (0<(yB (qs.getD i 0) hi)))))] [] (zR (kJ jQ)<|zE (kV uT)<|zR (kJ jQ)<|zE (jV (dD (jN (qs.getD i 0)) (jN hi) (qs.getD i 0) hi (jW (fA hqs (by decide) i)) (jW hhi)))<|zE hH<|zZ) ?_
   refine jG (b:=decide (0<(yB (qs.getD i 0) hi))) rfl (fun h3=>?_) (fun h3=>?_)
   ·replace h3:=uV h3
    have hc2:=h3
    refine kx [] [(2,some (bx (jF (jL.mk (jN (qs.getD i 0)) (jN (qs.getD i 0))))))] (zR (kJ jQ)<|zE (kV uT)<|zT (qA jQ)<|zZ) ?_
    refine kx [(13,(jS (i+1)))] [] (zE (vO (i+1))<|zM<|zZ) ?_
    exact ⟨(i+1,qs.getD i 0,qs.getD i 0),wk,⟨by omega,mnL_lt (by omega) hl hc1,mxL_gt (by omega) hh hc2⟩,(by first|omega|(dsimp only;omega))⟩
   ·replace h3:=vB h3
    have hc2:=h3
    refine jC<|kx [(13,(jS (i+1)))] [] (zE (vO (i+1))<|zM<|zZ) ?_
    exact ⟨(i+1,qs.getD i 0,hi),wk,⟨by omega,mnL_lt (by omega) hl hc1,mxL_le (by omega) hh hc2⟩,(by first|omega|(dsimp only;omega))⟩
  ·replace h2:=vB h2
   have hc1:=h2
   refine jC<|jB<|kx [(28,(vb (decide (0<(yB (qs.getD i 0) hi)))))] [] (zR (kJ jQ)<|zE (kV uT)<|zR (kJ jQ)<|zE (jV (dD (jN (qs.getD i 0)) (jN hi) (qs.getD i 0) hi (jW (fA hqs (by decide) i)) (jW hhi)))<|zE hH<|zZ) ?_
   refine jG (b:=decide (0<(yB (qs.getD i 0) hi))) rfl (fun h4=>?_) (fun h4=>?_)
   ·replace h4:=uV h4
    have hc2:=h4
    refine kx [] [(2,some (bx (jF (jL.mk (jN lo) (jN (qs.getD i 0))))))] (zR (kJ jQ)<|zE (kV uT)<|zT (qA jQ)<|zZ) ?_
    refine kx [(13,(jS (i+1)))] [] (zE (vO (i+1))<|zM<|zZ) ?_
    exact ⟨(i+1,lo,qs.getD i 0),wk,⟨by omega,mnL_ge (by omega) hl hc1,mxL_gt (by omega) hh hc2⟩,(by first|omega|(dsimp only;omega))⟩
   ·replace h4:=vB h4
    have hc2:=h4
    refine jC<|kx [(13,(jS (i+1)))] [] (zE (vO (i+1))<|zM<|zZ) ?_
    exact ⟨(i+1,lo,hi),wk,⟨by omega,mnL_ge (by omega) hl hc1,mxL_le (by omega) hh hc2⟩,(by first|omega|(dsimp only;omega))⟩
 ·replace h1:=vB h1
  have hie:i=qs.length:=by omega
  rw[hie,List.take_length] at hl hh
  refine kD<|jB<|kx [] [(1,some (bx (jF (jL.mk (jN lo) (jN hi)))))] (zR (kJ jP)<|zT (qA jP)<|zZ) ?_
  refine jE ⟨_,(kI (cs:=(bx (jF (jL.mk (jN lo) (jN hi))))) (d:=(jF (jL.mk (jN lo) (jN hi)))) rfl rfl jP rfl rfl .nil),?_⟩
  rw[hl,hh];rfl
theorem i_quot(p q:Rat)(hp:QL p 1073741824)(hq:QL q 1073741824)(hq0:q≠0):jO Tryz.prog 260 [(jJ (jN p)),(jJ (jN q))] (jJ (jN (p / q))):=by
 refine qY Tryz.func260 ?_
 refine jB<|kx [(2,(.ref 0 0)),(3,(.ref 1 0)),(4,(.ref 2 0))] [(0,some (bx (jJ (jN p)))),(1,some (bx (jJ (jN q)))),(2,some (bx (jJ kH)))] (zN (uU 0)<|zN (uU 1)<|zN (qR 2 qZ uG)<|zZ) ?_
 refine jB<|kx [(5,(.ref 3 0))] [(3,some (bx (jJ (divR p q))))] (zR (kJ jQ)<|zR (kJ jQ)<|zE (jV (f_divide (jN p) (jN q) p q (jM (jW hp)) (jM (jW hq))))<|zM<|zE uX<|zE uX<|zN (qR 3 qZ uG)<|zT (qA jQ)<|zM<|zZ) ?_
 refine jB<|kx [] [(2,some (bx (jJ (divR p q))))] (zR (kJ jQ)<|zT (qA jQ)<|zZ) ?_
 refine jE ⟨_,(kI (cs:=(bx (jJ (divR p q)))) (d:=(jJ (divR p q))) rfl rfl jQ rfl rfl .nil),?_⟩
 rw[divR_ne hq0];rfl
theorem i_cornersM(p q r s:Rat)(hp:QL p 1073741824)(hq:QL q 1073741824)(hr:QL r 1073741824)(hs:QL s 1073741824):jO Tryz.prog 164 [(.val (.func (.func 82) #[] #[])),(jF (jL.mk (jN p) (jN q))),(jF (jL.mk (jN r) (jN s)))] (jF (jL.mk (jN (hC (p*r) [(p*s),(q*r),(q*s)])) (jN (nY (p*r) [(p*s),(q*r),(q*s)])))):=by
 let y1:=(jF (jL.mk (jN (hC (p*r) [(p*s),(q*r),(q*s)])) (jN (nY (p*r) [(p*s),(q*r),(q*s)]))))
 refine qY Tryz.func164 ?_
 refine jB<|kx [(4,(.ref 0 0)),(5,(.ref 1 0)),(6,(.ref 2 0))] [(0,some (bx (jF (jL.mk (jN p) (jN q))))),(1,some (bx (jF (jL.mk (jN r) (jN s))))),(2,some (bx (jF (jL.mk kH kH))))] (zN (uU 0)<|zN (uU 1)<|zN (qR 2 qJ qL)<|zZ) ?_
 refine jB<|kd [] [(2,some (bx y1))] mo (wM<|wE (kV uO)<|wR (kJ jQ)<|wE (kV uO)<|wR (kJ jQ)<|wE (jV (fK (jN p) (jN r) p r (jM (jW hp)) (jM (jW hr))))<|wM<|wE (kV uO)<|wR (kJ jQ)<|wE (kV uT)<|wR (kJ jQ)<|wE (jV (fK (jN p) (jN s) p s (jM (jW hp)) (jM (jW hs))))<|wM<|wE (kV uT)<|wR (kJ jQ)<|wE (kV uO)<|wR (kJ jQ)<|wE (jV (fK (jN q) (jN r) q r (jM (jW hq)) (jM (jW hr))))<|wM<|wE (kV uT)<|wR (kJ jQ)<|wE (kV uT)<|wR (kJ jQ)<|wE (jV (fK (jN q) (jN s) q s (jM (jW hq)) (jM (jW hs))))<|wE (eE uQ qZ uG)<|wE (jV (i_spanned (p*r) [(p*s),(q*r),(q*s)] (qG (qD (k:=2147483648) hp hr)) (List.forall_mem_cons.2 ⟨(qG (qD (k:=2147483648) hp hs)),(List.forall_mem_cons.2 ⟨(qG (qD (k:=2147483648) hq hr)),(List.forall_mem_cons.2 ⟨(qG (qD (k:=2147483648) hq hs)),(fun a h=>by cases h)⟩)⟩)⟩) (by simp)))<|wT (qA jP)<|wZ) ?_
 refine jE ⟨_,(kI (cs:=(bx y1)) (d:=y1) rfl rfl jP rfl rfl .nil),?_⟩
 rfl
theorem i_cornersD(p q r s:Rat)(hp:QL p 1073741824)(hq:QL q 1073741824)(hr:QL r 1073741824)(hs:QL s 1073741824)(hr0:r≠0)(hs0:s≠0):jO Tryz.prog 164 [(.val (.func (.func 260) #[] #[])),(jF (jL.mk (jN p) (jN q))),(jF (jL.mk (jN r) (jN s)))] (jF (jL.mk (jN (hC (p / r) [(p / s),(q / r),(q / s)])) (jN (nY (p / r) [(p / s),(q / r),(q / s)])))):=by
 let y1:=(jF (jL.mk (jN (hC (p / r) [(p / s),(q / r),(q / s)])) (jN (nY (p / r) [(p / s),(q / r),(q / s)]))))
 refine qY Tryz.func164 ?_
 refine jB<|kx [(4,(.ref 0 0)),(5,(.ref 1 0)),(6,(.ref 2 0))] [(0,some (bx (jF (jL.mk (jN p) (jN q))))),(1,some (bx (jF (jL.mk (jN r) (jN s))))),(2,some (bx (jF (jL.mk kH kH))))] (zN (uU 0)<|zN (uU 1)<|zN (qR 2 qJ qL)<|zZ) ?_
 refine jB<|kd [] [(2,some (bx y1))] mo (wM<|wE (kV uO)<|wR (kJ jQ)<|wE (kV uO)<|wR (kJ jQ)<|wE (jV (i_quot p r hp hr (by assumption)))<|wM<|wE (kV uO)<|wR (kJ jQ)<|wE (kV uT)<|wR (kJ jQ)<|wE (jV (i_quot p s hp hs (by assumption)))<|wM<|wE (kV uT)<|wR (kJ jQ)<|wE (kV uO)<|wR (kJ jQ)<|wE (jV (i_quot q r hq hr (by assumption)))<|wM<|wE (kV uT)<|wR (kJ jQ)<|wE (kV uT)<|wR (kJ jQ)<|wE (jV (i_quot q s hq hs (by assumption)))<|wE (eE uQ qZ uG)<|wE (jV (i_spanned (p / r) [(p / s),(q / r),(q / s)] (qG (iC (k:=2147483648) hp hr)) (List.forall_mem_cons.2 ⟨(qG (iC (k:=2147483648) hp hs)),(List.forall_mem_cons.2 ⟨(qG (iC (k:=2147483648) hq hr)),(List.forall_mem_cons.2 ⟨(qG (iC (k:=2147483648) hq hs)),(fun a h=>by cases h)⟩)⟩)⟩) (by simp)))<|wT (qA jP)<|wZ) ?_
 refine jE ⟨_,(kI (cs:=(bx y1)) (d:=y1) rfl rfl jP rfl rfl .nil),?_⟩
 rfl
theorem i_mul(p q r s:Rat)(hp:QL p 1073741824)(hq:QL q 1073741824)(hr:QL r 1073741824)(hs:QL s 1073741824)(hpq:p<=q)(hrs:r<=s):jO Tryz.prog 107 [(jF (jL.mk (jN p) (jN q))),(jF (jL.mk (jN r) (jN s)))] (.tup [(jF (jL.mk (jN (hC (p*r) [(p*s),(q*r),(q*s)])) (jN (nY (p*r) [(p*s),(q*r),(q*s)])))),(.val (.int .i64 (0)))]):=by
 let y1:=(jF (jL.mk (jN (hC (p*r) [(p*s),(q*r),(q*s)])) (jN (nY (p*r) [(p*s),(q*r),(q*s)]))))
 refine qY Tryz.func107 ?_
 refine jB<|kx [(2,(.ref 0 0)),(3,(.ref 1 0)),(4,(.ref 2 0))] [(0,some (bx (jF (jL.mk (jN p) (jN q))))),(1,some (bx (jF (jL.mk (jN r) (jN s))))),(2,some (bx (jF (jL.mk kH kH))))] (zN (uU 0)<|zN (uU 1)<|zN (qR 2 qJ qL)<|zM<|zZ) ?_
 refine jB<|jB<|kx [(10,(vb false))] [] (zR (kJ jP)<|zR (kJ jP)<|zE (eE uA qJ qL)<|zE (jV (by have h:=i_valids [(jL.mk (jN p) (jN q)),(jL.mk (jN r) (jN s))] (List.forall_mem_cons.2 ⟨(zU (⟨qQ (jM (jW hp) (by decide:1073741824<=1073741824)),qQ (jM (jW hq) (by decide:1073741824<=1073741824))⟩)),(List.forall_mem_cons.2 ⟨(zU (⟨qQ (jM (jW hr) (by decide:1073741824<=1073741824)),qQ (jM (jW hs) (by decide:1073741824<=1073741824))⟩)),(fun a h=>by cases h)⟩)⟩) (by simp);rw[show List.all [(jL.mk (jN p) (jN q)),(jL.mk (jN r) (jN s))] uJ=true from by simp [zW hpq,zW hrs]] at h;exact h))<|zE gD<|zZ) ?_
 refine kM ?_
 refine jC<|jB<|kx [(5,(jS 0))] [(2,some (bx y1))] (zR (kJ jP)<|zR (kJ jP)<|zE (jV (i_cornersM p q r s hp hq hr hs))<|zT (qA jP)<|zM<|zZ) ?_
 refine jE ⟨_,(kI (cs:=(bx y1)) (d:=y1) rfl rfl jP rfl rfl (.tmp (d:=(.val (.int .i64 (0)))) rfl .nil)),?_⟩
 rfl
theorem i_divide(p q r s:Rat)(hp:QL p 1073741824)(hq:QL q 1073741824)(hr:QL r 1073741824)(hs:QL s 1073741824)(hpq:p<=q)(hrs:r<=s)(hz:xH r s=false):jO Tryz.prog 244 [(jF (jL.mk (jN p) (jN q))),(jF (jL.mk (jN r) (jN s)))] (.tup [(jF (jL.mk (jN (hC (p / r) [(p / s),(q / r),(q / s)])) (jN (nY (p / r) [(p / s),(q / r),(q / s)])))),(.val (.int .i64 (0)))]):=by
 obtain ⟨hr0,hs0⟩:=zeroG_ne hrs hz
 let y1:=(jF (jL.mk (jN (hC (p / r) [(p / s),(q / r),(q / s)])) (jN (nY (p / r) [(p / s),(q / r),(q / s)]))))
 refine qY Tryz.func244 ?_
 refine jB<|kx [(2,(.ref 0 0)),(3,(.ref 1 0)),(4,(.ref 2 0))] [(0,some (bx (jF (jL.mk (jN p) (jN q))))),(1,some (bx (jF (jL.mk (jN r) (jN s))))),(2,some (bx (jF (jL.mk kH kH))))] (zN (uU 0)<|zN (uU 1)<|zN (qR 2 qJ qL)<|zM<|zZ) ?_
 refine jB<|jB<|kx [(11,(vb false))] [] (zR (kJ jP)<|zR (kJ jP)<|zE (eE uA qJ qL)<|zE (jV (by have h:=i_valids [(jL.mk (jN p) (jN q)),(jL.mk (jN r) (jN s))] (List.forall_mem_cons.2 ⟨(zU (⟨qQ (jM (jW hp) (by decide:1073741824<=1073741824)),qQ (jM (jW hq) (by decide:1073741824<=1073741824))⟩)),(List.forall_mem_cons.2 ⟨(zU (⟨qQ (jM (jW hr) (by decide:1073741824<=1073741824)),qQ (jM (jW hs) (by decide:1073741824<=1073741824))⟩)),(fun a h=>by cases h)⟩)⟩) (by simp);rw[show List.all [(jL.mk (jN p) (jN q)),(jL.mk (jN r) (jN s))] uJ=true from by simp [zW hpq,zW hrs]] at h;exact h))<|zE gD<|zZ) ?_
 refine kM ?_
 refine jC<|jB<|jB<|kx [(14,(vb false))] [] (zR (kJ jP)<|zE (jV (by have h:=i_zero r s hr hs;rw[show xH r s=false from hz] at h;exact h))<|zZ) ?_
 refine kM ?_
 refine jC<|jB<|kx [(6,(.d (.val (.func (.func 260) #[] #[]))))] [] (zM<|zZ) ?_
 refine jB<|kx [(5,(jS 0))] [(2,some (bx y1))] (zM<|zR (kJ jP)<|zR (kJ jP)<|zE (jV (i_cornersD p q r s hp hq hr hs (by assumption) (by assumption)))<|zT (qA jP)<|zM<|zZ) ?_
 refine jE ⟨_,(kI (cs:=(bx y1)) (d:=y1) rfl rfl jP rfl rfl (.tmp (d:=(.val (.int .i64 (0)))) rfl .nil)),?_⟩
 rfl
theorem i_divideZ(p q r s:Rat)(hp:QL p 1073741824)(hq:QL q 1073741824)(hr:QL r 1073741824)(hs:QL s 1073741824)(hpq:p<=q)(hrs:r<=s)(hz:xH r s=true):jO Tryz.prog 244 [(jF (jL.mk (jN p) (jN q))),(jF (jL.mk (jN r) (jN s)))] (.tup [(jF (jL.mk kH kH)),(.val (.int .i64 (14)))]):=by
 let y1:=(bx (jF (jL.mk kH kH)))
 refine qY Tryz.func244 ?_
 refine jB<|kx [(2,(.ref 0 0)),(3,(.ref 1 0)),(4,(.ref 2 0))] [(0,some (bx (jF (jL.mk (jN p) (jN q))))),(1,some (bx (jF (jL.mk (jN r) (jN s))))),(2,some y1)] (zN (uU 0)<|zN (uU 1)<|zN (qR 2 qJ qL)<|zM<|zZ) ?_
 refine jB<|jB<|kx [(11,(vb false))] [] (zR (kJ jP)<|zR (kJ jP)<|zE (eE uA qJ qL)<|zE (jV (by have h:=i_valids [(jL.mk (jN p) (jN q)),(jL.mk (jN r) (jN s))] (List.forall_mem_cons.2 ⟨(zU (⟨qQ (jM (jW hp) (by decide:1073741824<=1073741824)),qQ (jM (jW hq) (by decide:1073741824<=1073741824))⟩)),(List.forall_mem_cons.2 ⟨(zU (⟨qQ (jM (jW hr) (by decide:1073741824<=1073741824)),qQ (jM (jW hs) (by decide:1073741824<=1073741824))⟩)),(fun a h=>by cases h)⟩)⟩) (by simp);rw[show List.all [(jL.mk (jN p) (jN q)),(jL.mk (jN r) (jN s))] uJ=true from by simp [zW hpq,zW hrs]] at h;exact h))<|zE gD<|zZ) ?_
 refine kM ?_
 refine jC<|jB<|jB<|kx [(14,(vb true))] [] (zR (kJ jP)<|zE (jV (by have h:=i_zero r s hr hs;rw[show xH r s=true from hz] at h;exact h))<|zZ) ?_
 refine uI ?_
 refine jB<|kx [(5,(jS 14))] [(2,some y1)] (zE (eD iJ qJ qL)<|zT (qA jP)<|zM<|zZ) ?_
 refine jE ⟨_,(kI (cs:=y1) (d:=(jF (jL.mk kH kH))) rfl rfl jP rfl rfl (.tmp (d:=(.val (.int .i64 (14)))) rfl .nil)),?_⟩
 rfl
theorem i_square(p q:Rat)(hp:QL p 1073741824)(hq:QL q 1073741824)(hpq:p<=q):jO Tryz.prog 108 [(jF (jL.mk (jN p) (jN q)))] (.tup [(jF (jL.mk (jN (sqL p q)) (jN (sqH p q)))),(.val (.int .i64 (0)))]):=by
 let y2:=(jF (jL.mk (jN ((0:Int):Rat)) (jN (nY (p*p) [(q*q)]))))
 let y1:=(jF (jL.mk (jN (hC (p*p) [(q*q)])) (jN (nY (p*p) [(q*q)]))))
 refine qY Tryz.func108 ?_
 refine jB<|kx [(1,(.ref 0 0)),(2,(.ref 1 0))] [(0,some (bx (jF (jL.mk (jN p) (jN q))))),(1,some (bx (jF (jL.mk kH kH))))] (zN (uU 0)<|zN (qR 1 qJ qL)<|zM<|zZ) ?_
 refine jB<|jB<|kx [(7,(vb false))] [] (zR (kJ jP)<|zE (jV (by have h:=lP (jL.mk (jN p) (jN q)) (zU (⟨qQ (jM (jW hp) (by decide:1073741824<=1073741824)),qQ (jM (jW hq) (by decide:1073741824<=1073741824))⟩));rw[show uJ (jL.mk (jN p) (jN q))=true from zW hpq] at h;exact h))<|zE gD<|zZ) ?_
 refine kM ?_
 refine jC<|jB<|kd [(4,(.ref 2 0))] [(2,some (bx y1))] mo (wE (kV uO)<|wR (kJ jQ)<|wE (kV uO)<|wR (kJ jQ)<|wE (jV (fK (jN p) (jN p) p p (jM (jW hp)) (jM (jW hp))))<|wE (kV uT)<|wR (kJ jQ)<|wE (kV uT)<|wR (kJ jQ)<|wE (jV (fK (jN q) (jN q) q q (jM (jW hq)) (jM (jW hq))))<|wE (eE uQ qZ uG)<|wE (jV (i_spanned (p*p) [(q*q)] (qG (qD (k:=2147483648) hp hp)) (List.forall_mem_cons.2 ⟨(qG (qD (k:=2147483648) hq hq)),(fun a h=>by cases h)⟩) (by simp)))<|wN (qR 2 qJ qL)<|wT (qA jP)<|wZ) ?_
 refine jB<|jB<|kx [(22,(vb (xH p q)))] [] (zR (kJ jP)<|zE (jV (i_zero p q hp hq))<|zZ) ?_
 refine jG (b:=(xH p q)) rfl (fun h1=>?_) (fun h1=>?_)
 ·refine kx [] [(2,some (bx y2))] (zE (jV (bM 0))<|zE (kV uO)<|zT (qA jQ)<|zZ) ?_
  refine jB<|kx [(3,(jS 0))] [(1,some (bx y2))] (zR (kJ jP)<|zT (qA jP)<|zM<|zZ) ?_
  refine jE ⟨_,(kI (cs:=(bx y2)) (d:=y2) rfl rfl jP rfl rfl (.tmp (d:=(.val (.int .i64 (0)))) rfl .nil)),?_⟩
  rw[show sqL p q=_ from if_pos h1];rfl
 ·refine jC<|jB<|kx [(3,(jS 0))] [(1,some (bx y1))] (zR (kJ jP)<|zT (qA jP)<|zM<|zZ) ?_
  refine jE ⟨_,(kI (cs:=(bx y1)) (d:=y1) rfl rfl jP rfl rfl (.tmp (d:=(.val (.int .i64 (0)))) rfl .nil)),?_⟩
  rw[show sqL p q=_ from if_neg (by rw[h1];simp)];rfl
theorem h_whole(lo hi:Int)(h1:-9223372036854775808<=lo:=by decide)(h2:lo<=9223372036854775807:=by decide)(h3:-9223372036854775808<=hi:=by decide)(h4:hi<=9223372036854775807:=by decide):jO Tryz.prog 66 [(.val (.int .i64 (lo))),(.val (.int .i64 (hi)))] (jF (jL.mk (jN ((lo:Int):Rat)) (jN ((hi:Int):Rat)))):=by
 refine qY Tryz.func66 ?_
 refine jB<|kx [(4,(.ref 0 0))] [(0,some (bx (jF (jL.mk kH kH))))] (zN (qR 0 qJ qL)<|zZ) ?_
 refine jB<|kx [] [(0,some (bx (jF (jL.mk (jN ((lo:Int):Rat)) (jN ((hi:Int):Rat))))))] (zM<|zE (jV (nR lo (by omega) (by omega)))<|zM<|zE (jV (nR hi (by omega) (by omega)))<|zE (eD iJ qJ qL)<|zT (qA jP)<|zZ) ?_
 refine jE ⟨_,(kI (cs:=(bx (jF (jL.mk (jN ((lo:Int):Rat)) (jN ((hi:Int):Rat)))))) (d:=(jF (jL.mk (jN ((lo:Int):Rat)) (jN ((hi:Int):Rat))))) rfl rfl jP rfl rfl .nil),?_⟩
 rfl
theorem h_same(a b:jL)(ha:GOk 4294967296 a)(hb:GOk 4294967296 b):jO Tryz.prog 38 [(jF a),(jF b)] (.val (.bool ((sameG a b)))):=by
 refine qY Tryz.func38 ?_
 refine jB<|kx [(2,(.ref 0 0)),(3,(.ref 1 0))] [(0,some (bx (jF a))),(1,some (bx (jF b)))] (zN (uU 0)<|zN (uU 1)<|zM<|zZ) ?_
 refine jB<|kx [(4,(vb (((uJ a)&&(uJ b))&&(mG a.lo b.lo&&mG a.hi b.hi))))] [] ?_ ?_
 ·refine zR (kJ jP)<|zE (jV (h_valid a ha))<|zE (oV (vb (uJ a)) (qC (by kernel_rfl)))<|?_
  rcases hb1:(uJ a) with _ | _
  ·exact zK<|zK<|zE xQ<|zM<|zK<|zK<|zK<|zE xQ<|zM<|zZ
  ·refine zR (kJ jP)<|zE (jV (h_valid b hb))<|zE fR<|zE (oV (vb (true&&(uJ b))) (qC (by kernel_rfl)))<|?_
   rcases hb2:(true&&(uJ b)) with _ | _
   ·exact zK<|zK<|zK<|zE xQ<|zM<|zZ
   ·exact zR (kJ jP)<|zR (kJ jP)<|zE (jV (g_samerange a b ha hb))<|zE fR<|zM<|zZ
 refine jE ⟨_,(.tmp (d:=(.val (.bool ((((uJ a)&&(uJ b))&&(mG a.lo b.lo&&mG a.hi b.hi)))))) rfl .nil),?_⟩
 rfl
theorem h_width(p q:Rat)(hp:QL p 1073741824)(hq:QL q 1073741824):jO Tryz.prog 53 [(jF (jL.mk (jN p) (jN q)))] (jJ (jN (q-p))):=by
 refine qY Tryz.func53 ?_
 refine jB<|kx [(1,(.ref 0 0)),(2,(.ref 1 0))] [(0,some (bx (jF (jL.mk (jN p) (jN q))))),(1,some (bx (jJ kH)))] (zN (uU 0)<|zN (qR 1 qZ uG)<|zZ) ?_
 refine jB<|kx [] [(1,some (bx (jJ (jN (q-p)))))] (zE (kV uT)<|zR (kJ jQ)<|zE (kV uO)<|zR (kJ jQ)<|zE (jV (g_sub (jN q) (jN p) q p (jM (jW hq)) (jM (jW hp))))<|zT (qA jQ)<|zZ) ?_
 refine jE ⟨_,(kI (cs:=(bx (jJ (jN (q-p))))) (d:=(jJ (jN (q-p)))) rfl rfl jQ rfl rfl .nil),?_⟩
 rfl
theorem i_add(p q r s:Rat)(hp:QL p 1073741824)(hq:QL q 1073741824)(hr:QL r 1073741824)(hs:QL s 1073741824)(hpq:p<=q)(hrs:r<=s):jO Tryz.prog 92 [(jF (jL.mk (jN p) (jN q))),(jF (jL.mk (jN r) (jN s)))] (.tup [(jF (jL.mk (jN (p+r)) (jN (q+s)))),(.val (.int .i64 (0)))]):=by
 refine qY Tryz.func92 ?_
 refine jB<|kx [(2,(.ref 0 0)),(3,(.ref 1 0)),(4,(.ref 2 0))] [(0,some (bx (jF (jL.mk (jN p) (jN q))))),(1,some (bx (jF (jL.mk (jN r) (jN s))))),(2,some (bx (jF (jL.mk kH kH))))] (zN (uU 0)<|zN (uU 1)<|zN (qR 2 qJ qL)<|zM<|zZ) ?_
 refine jB<|jB<|kx [(10,(vb false))] [] (zR (kJ jP)<|zR (kJ jP)<|zE (eE uA qJ qL)<|zE (jV (by have h:=i_valids [(jL.mk (jN p) (jN q)),(jL.mk (jN r) (jN s))] (List.forall_mem_cons.2 ⟨(zU (⟨qQ (jM (jW hp) (by decide:1073741824<=1073741824)),qQ (jM (jW hq) (by decide:1073741824<=1073741824))⟩)),(List.forall_mem_cons.2 ⟨(zU (⟨qQ (jM (jW hr) (by decide:1073741824<=1073741824)),qQ (jM (jW hs) (by decide:1073741824<=1073741824))⟩)),(fun a h=>by cases h)⟩)⟩) (by simp);rw[show List.all [(jL.mk (jN p) (jN q)),(jL.mk (jN r) (jN s))] uJ=true from by simp [zW hpq,zW hrs]] at h;exact h))<|zE gD<|zZ) ?_
 refine kM ?_
 refine jC<|jB<|kd [(5,(jS 0))] [(2,some (bx (jF (jL.mk (jN (p+r)) (jN (q+s))))))] mo (wE (kV uO)<|wR (kJ jQ)<|wE (kV uO)<|wR (kJ jQ)<|wE (jV (f_add (jN p) (jN r) p r (jM (jW hp)) (jM (jW hr))))<|wE (kV uT)<|wR (kJ jQ)<|wE (kV uT)<|wR (kJ jQ)<|wE (jV (f_add (jN q) (jN s) q s (jM (jW hq)) (jM (jW hs))))<|wE (eD iJ qJ qL)<|wT (qA jP)<|wM<|wZ) ?_
 refine jE ⟨_,(kI (cs:=(bx (jF (jL.mk (jN (p+r)) (jN (q+s)))))) (d:=(jF (jL.mk (jN (p+r)) (jN (q+s))))) rfl rfl jP rfl rfl (.tmp (d:=(.val (.int .i64 (0)))) rfl .nil)),?_⟩
 rfl
theorem i_sub(p q r s:Rat)(hp:QL p 1073741824)(hq:QL q 1073741824)(hr:QL r 1073741824)(hs:QL s 1073741824)(hpq:p<=q)(hrs:r<=s):jO Tryz.prog 93 [(jF (jL.mk (jN p) (jN q))),(jF (jL.mk (jN r) (jN s)))] (.tup [(jF (jL.mk (jN (p-s)) (jN (q-r)))),(.val (.int .i64 (0)))]):=by
 refine qY Tryz.func93 ?_
 refine jB<|kx [(2,(.ref 0 0)),(3,(.ref 1 0)),(4,(.ref 2 0))] [(0,some (bx (jF (jL.mk (jN p) (jN q))))),(1,some (bx (jF (jL.mk (jN r) (jN s))))),(2,some (bx (jF (jL.mk kH kH))))] (zN (uU 0)<|zN (uU 1)<|zN (qR 2 qJ qL)<|zM<|zZ) ?_
 refine jB<|jB<|kx [(10,(vb false))] [] (zR (kJ jP)<|zR (kJ jP)<|zE (eE uA qJ qL)<|zE (jV (by have h:=i_valids [(jL.mk (jN p) (jN q)),(jL.mk (jN r) (jN s))] (List.forall_mem_cons.2 ⟨(zU (⟨qQ (jM (jW hp) (by decide:1073741824<=1073741824)),qQ (jM (jW hq) (by decide:1073741824<=1073741824))⟩)),(List.forall_mem_cons.2 ⟨(zU (⟨qQ (jM (jW hr) (by decide:1073741824<=1073741824)),qQ (jM (jW hs) (by decide:1073741824<=1073741824))⟩)),(fun a h=>by cases h)⟩)⟩) (by simp);rw[show List.all [(jL.mk (jN p) (jN q)),(jL.mk (jN r) (jN s))] uJ=true from by simp [zW hpq,zW hrs]] at h;exact h))<|zE gD<|zZ) ?_
 refine kM ?_
 refine jC<|jB<|kd [(5,(jS 0))] [(2,some (bx (jF (jL.mk (jN (p-s)) (jN (q-r))))))] mo (wE (kV uO)<|wR (kJ jQ)<|wE (kV uT)<|wR (kJ jQ)<|wE (jV (f_sub (jN p) (jN s) p s (jM (jW hp)) (jM (jW hs))))<|wE (kV uT)<|wR (kJ jQ)<|wE (kV uO)<|wR (kJ jQ)<|wE (jV (f_sub (jN q) (jN r) q r (jM (jW hq)) (jM (jW hr))))<|wE (eD iJ qJ qL)<|wT (qA jP)<|wM<|wZ) ?_
 refine jE ⟨_,(kI (cs:=(bx (jF (jL.mk (jN (p-s)) (jN (q-r)))))) (d:=(jF (jL.mk (jN (p-s)) (jN (q-r))))) rfl rfl jP rfl rfl (.tmp (d:=(.val (.int .i64 (0)))) rfl .nil)),?_⟩
 rfl
theorem by45:yQ Tryz.prog 45=some 64:=by kernel_rfl
theorem g_least(l:List Rat)(hl:∀ q∈l,QL q 4294967296)(h0:0<l.length)(hb:l.length<=1000000):jO Tryz.prog 238 [(.sl 45 4 (List.map jJ (List.map jN l)))] (.tup [(jJ (jN (hC (l.getD 0 0) l))),(.val (.int .i64 (0)))]):=by
 refine qY Tryz.func238 ?_
 refine jB<|kx [(2,(.ref 0 0))] [(0,some (bx (jJ kH)))] (zN (qR 0 qZ uG)<|zM<|zZ) ?_
 refine jB<|jB<|kx [(8,(vb (((l.length:Nat):Int) == 0)))] [] (zM<|zE (fO uQ l.length)<|zE xR<|zZ) ?_
 refine jG (b:=(((l.length:Nat):Int) == 0)) rfl (fun h1=>?_) (fun h1=>?_)
 ·replace h1:=eq_of_beq h1
  exfalso;omega
 ·replace h1:=ne_of_beq_false h1
  refine jC<|jB<|kx [(4,(.ref 1 0))] [(1,some (bx (jJ (jN (l.getD 0 0)))))] (zM<|zE (bC uQ jN 0 0)<|zE (yJ jQ)<|zE (jV (eS (jN (l.getD 0 0)) (l.getD 0 0) (jM (jW (fA hl (by decide) 0)))))<|zN (qR 1 qZ uG)<|zT (qA jQ)<|zZ) ?_
  refine jB<|jB<|kx [(5,(jS 1))] [] (zM<|zZ) ?_
  refine jH<|kF (α:=Nat × Rat) (fun (i,b)=>⟨[(0,(vl 45 4 jJ (List.map jN l))),(2,(.ref 0 0)),(4,(.ref 1 0)),(5,(jS i))],[(0,some (bx (jJ kH))),(1,some (bx (jJ (jN b))))]⟩) (fun (i,b)=>i<=l.length/\b=hC (l.getD 0 0) (l.take i)) (fun (i,b)=>l.length-i) (1,l.getD 0 0) wk ⟨by omega,least_start h0⟩ ?_
  rintro ⟨i,b⟩ ⟨hi,hv⟩
  have hbq:QL b 4294967296:=by rw[hv];exact ql_mnL (fA hl (by decide) 0) (fun q hq=>hl q (List.mem_of_mem_take hq))
  refine jB<|jB<|kx [(17,(vb (decide (((i:Nat):Int)<((l.length:Nat):Int)))))] [] (zM<|zM<|zE (fO uQ l.length)<|zE xK<|zZ) ?_
  refine jG rfl (fun h2=>?_) (fun h2=>?_)
  ·replace h2:=uV h2
   refine jC<|jB<|jH<|jB<|kd [(26,(vb (decide ((yB (l.getD i 0) b)<0))))] [] mo (wM<|wM<|wE (bC uQ jN i 0)<|wE (yJ jQ)<|wR (kJ jQ)<|wE (jV (lC (jN (l.getD i 0)) (jN b) (l.getD i 0) b (jW (fA hl (by decide) i)) (jW hbq)))<|wE xK<|wZ) ?_
   refine jG (b:=decide ((yB (l.getD i 0) b)<0)) rfl (fun h3=>?_) (fun h3=>?_)
   ·replace h3:=uV h3
    refine kx [] [(1,some (bx (jJ (jN (l.getD i 0)))))] (zM<|zM<|zE (bC uQ jN i 0)<|zE (yJ jQ)<|zE (jV (eS (jN (l.getD i 0)) (l.getD i 0) (jM (jW (fA hl (by decide) i)))))<|zT (qA jQ)<|zZ) ?_
    refine kx [(5,(jS (i+1)))] [] (zM<|zE (vO (i+1))<|zM<|zZ) ?_
    exact ⟨(i+1,l.getD i 0),wk,⟨by omega,mnL_lt (by omega) hv h3⟩,(by first|omega|(dsimp only;omega))⟩
   ·replace h3:=vB h3
    refine jC<|kx [(5,(jS (i+1)))] [] (zM<|zE (vO (i+1))<|zM<|zZ) ?_
    exact ⟨(i+1,b),wk,⟨by omega,mnL_ge (by omega) hv h3⟩,(by first|omega|(dsimp only;omega))⟩
  ·replace h2:=vB h2
   have hie:i=l.length:=by omega
   rw[hie,List.take_length] at hv
   refine kD<|jB<|kx [(3,(jS 0))] [(0,some (bx (jJ (jN b))))] (zR (kJ jQ)<|zT (qA jQ)<|zM<|zZ) ?_
   refine jE ⟨_,(kI (cs:=(bx (jJ (jN b)))) (d:=(jJ (jN b))) rfl rfl jQ rfl rfl (.tmp (d:=(.val (.int .i64 (0)))) rfl .nil)),?_⟩
   rw[hv];rfl
theorem g_greatest(l:List Rat)(hl:∀ q∈l,QL q 4294967296)(h0:0<l.length)(hb:l.length<=1000000):jO Tryz.prog 239 [(.sl 45 4 (List.map jJ (List.map jN l)))] (.tup [(jJ (jN (nY (l.getD 0 0) l))),(.val (.int .i64 (0)))]):=by
 let y1:=(bx (jJ kH))
 refine qY Tryz.func239 ?_
 refine jB<|kx [(2,(.ref 0 0))] [(0,some y1)] (zN (qR 0 qZ uG)<|zM<|zZ) ?_
 refine jB<|kU (wk (l:=[(0,(vl 45 4 jJ (List.map jN l))),(2,(.ref 0 0))]) (b:=[(0,some y1)])) ?_
 refine kx [(4,(.own 1 45 4 0))] [(1,some (yU jJ []))] (zN (oBo 1 uQ qZ uG)<|zM<|zZ) ?_
 refine jB<|jB<|kU (wk (l:=[(0,(vl 45 4 jJ (List.map jN l))),(2,(.ref 0 0)),(4,(.own 1 45 4 0))]) (b:=[(0,some y1),(1,some (yU jJ []))])) ?_
 refine kx [(5,(jS 0))] [] (zM<|zZ) ?_
 refine jH<|kF (α:=Nat × List jR) (fun (i,o)=>⟨[(0,(vl 45 4 jJ (List.map jN l))),(2,(.ref 0 0)),(4,(.own 1 45 4 o.length)),(5,(jS i))],[(0,some y1),(1,some (yU jJ o))]⟩) (fun (i,o)=>i<=l.length/\o=List.map jN (List.map (fun q=>-q) (l.take i))) (fun (i,o)=>l.length-i) (0,[]) wk ⟨Nat.zero_le _,rfl⟩ ?_
 rintro ⟨i,o⟩ ⟨hi,hv⟩
 have hol:o.length=i:=by rw[hv];simp;omega
 refine jB<|jB<|kx [(12,(vb (decide (((i:Nat):Int)<((l.length:Nat):Int)))))] [] (zM<|zM<|zE (fO uQ l.length)<|zE xK<|zZ) ?_
 refine jG rfl (fun h1=>?_) (fun h1=>?_)
 ·replace h1:=uV h1
  refine jC<|jB<|jH<|kU (wk (l:=[(0,(vl 45 4 jJ (List.map jN l))),(2,(.ref 0 0)),(4,(.own 1 45 4 o.length)),(5,(jS i)),(12,(vb (decide (((i:Nat):Int)<((l.length:Nat):Int)))))]) (b:=[(0,some y1),(1,some (yU jJ o))])) ?_
  refine kf [(4,(.own 1 45 4 ((o++[(jN (-(l.getD i 0)))]).length)))] [(1,some (yU jJ (o++[(jN (-(l.getD i 0)))])))] (zM<|zM<|zM<|zE (bC uQ jN i 0)<|zE (yJ jQ)<|zE (jV (g_neg (jN (l.getD i 0)) (l.getD i 0) (jM (jW (fA hl (by decide) i)))))<|zE (eE uQ qZ uG)<|zAS jJ o [(jN (-(l.getD i 0)))] rfl uQ qZ by45<|zM<|zF) ?_
  refine kU (wk (l:=[(0,(vl 45 4 jJ (List.map jN l))),(2,(.ref 0 0)),(4,(.own 1 45 4 ((o++[(jN (-(l.getD i 0)))]).length))),(5,(jS i))]) (b:=[(0,some y1),(1,some (yU jJ (o++[(jN (-(l.getD i 0)))])))])) ?_
  refine kx [(5,(jS (i+1)))] [] (zM<|zE (vO (i+1))<|zM<|zZ) ?_
  exact ⟨(i+1,o++[jN (-(l.getD i 0))]),wk,⟨by omega,neg_push (by omega) hv⟩,(by first|omega|(dsimp only;omega))⟩
 ·replace h1:=vB h1
  have hie:i=l.length:=by omega
  rw[hie,List.take_length] at hv
  subst hv
  refine kD<|jB<|kU (xC (t:=4) (k:=1) (es:=List.map jJ (List.map jN (List.map (fun q=>-q) l))) rfl rfl (gC _ _ (fun _=>rfl)) (uW _ _ rfl) (hZ jJ (List.map jN (List.map (fun q=>-q) l)) (fun _=>rfl) rfl)) ?_
  refine kU (wk (l:=[(0,(vl 45 4 jJ (List.map jN l))),(2,(.ref 0 0)),(4,(vl 45 4 jJ (List.map jN (List.map (fun q=>-q) l)))),(5,(jS i)),(12,(vb (decide (((i:Nat):Int)<((l.length:Nat):Int)))))]) (b:=[(0,some y1)])) ?_
  refine kx [(6,(.ref 2 0)),(7,(vi 0))] [(2,some (bx (jJ (jN (hC ((List.map (fun q=>-q) l).getD 0 0) (List.map (fun q=>-q) l))))))] (zM<|zE (jV (g_least (List.map (fun q=>-q) l) (ql_negs hl) (by first | exact h0 | simpa using h0) (by first | exact hb | simpa using hb)))<|zM<|zE uX<|zE uX<|zN (qR 2 qZ uG)<|zT (qA jQ)<|zM<|zZ) ?_
  refine jB<|jB<|kU (wk (l:=[(2,(.ref 0 0)),(6,(.ref 2 0)),(7,(vi 0))]) (b:=[(0,some y1),(2,some (bx (jJ (jN (hC ((List.map (fun q=>-q) l).getD 0 0) (List.map (fun q=>-q) l))))))])) ?_
  refine kx [(29,(vb false))] [] (zM<|zE mF<|zZ) ?_
  refine kM ?_
  refine jC<|jB<|kU (wk (l:=[(2,(.ref 0 0)),(6,(.ref 2 0)),(7,(vi 0)),(29,(vb false))]) (b:=[(0,some y1),(2,some (bx (jJ (jN (hC ((List.map (fun q=>-q) l).getD 0 0) (List.map (fun q=>-q) l))))))])) ?_
  refine kx [(3,(jS 0))] [(0,some (bx (jJ (jN (-(hC ((List.map (fun q=>-q) l).getD 0 0) (List.map (fun q=>-q) l)))))))] (zR (kJ jQ)<|zE (jV (g_neg (jN (hC ((List.map (fun q=>-q) l).getD 0 0) (List.map (fun q=>-q) l))) (hC ((List.map (fun q=>-q) l).getD 0 0) (List.map (fun q=>-q) l)) (jM (jW (ql_mnL (fA (ql_negs hl) (by decide) 0) (ql_negs hl))))))<|zT (qA jQ)<|zM<|zZ) ?_
  refine jE ⟨_,(kI (cs:=(bx (jJ (jN (-(hC ((List.map (fun q=>-q) l).getD 0 0) (List.map (fun q=>-q) l))))))) (d:=(jJ (jN (-(hC ((List.map (fun q=>-q) l).getD 0 0) (List.map (fun q=>-q) l)))))) rfl rfl jQ rfl rfl (.tmp (d:=(.val (.int .i64 (0)))) rfl .nil)),?_⟩
  rw[<- great_eq h0];rfl
theorem h_spanned(p:Rat)(qs:List Rat)(hl:∀ q∈p::qs,QL q 4294967296)(hb:(p::qs).length<=1000000):jO Tryz.prog 174 [(.sl 45 4 (List.map jJ (List.map jN (p::qs))))] (jF (jL.mk (jN (hC p qs)) (jN (nY p qs)))):=by
 have h0:0<(p::qs).length:=by simp
 let y1:=(jF (jL.mk (jN (hC ((p::qs).getD 0 0) (p::qs))) (jN (nY ((p::qs).getD 0 0) (p::qs)))))
 refine qY Tryz.func174 ?_
 refine jB<|kx [(2,(.ref 0 0))] [(0,some (bx (jF (jL.mk kH kH))))] (zN (qR 0 qJ qL)<|zZ) ?_
 refine jB<|kx [(3,(.ref 1 0))] [(1,some (bx (jJ (jN (hC ((p::qs).getD 0 0) (p::qs))))))] (zM<|zE (jV (g_least (p::qs) hl (by first | exact h0 | simpa using h0) (by first | exact hb | simpa using hb)))<|zM<|zE uX<|zE uX<|zN (qR 1 qZ uG)<|zT (qA jQ)<|zM<|zZ) ?_
 refine jB<|kx [(5,(.ref 2 0))] [(2,some (bx (jJ (jN (nY ((p::qs).getD 0 0) (p::qs))))))] (zM<|zE (jV (g_greatest (p::qs) hl h0 hb))<|zM<|zE uX<|zE uX<|zN (qR 2 qZ uG)<|zT (qA jQ)<|zM<|zZ) ?_
 refine jB<|kx [] [(0,some (bx y1))] (zR (kJ jQ)<|zR (kJ jQ)<|zE (eD iJ qJ qL)<|zT (qA jP)<|zZ) ?_
 refine jE ⟨_,(kI (cs:=(bx y1)) (d:=y1) rfl rfl jP rfl rfl .nil),?_⟩
 rw[<- mnL_self p qs,<- mxL_self p qs];rfl
theorem h_point(p:Rat)(hp:QL p 4294967296):jO Tryz.prog 37 [(jJ (jN p))] (jF (jL.mk (jN p) (jN p))):=by
 refine qY Tryz.func37 ?_
 refine jB<|kx [(1,(.ref 0 0)),(2,(.ref 1 0))] [(0,some (bx (jJ (jN p)))),(1,some (bx (jF (jL.mk kH kH))))] (zN (uU 0)<|zN (qR 1 qJ qL)<|zZ) ?_
 refine jB<|kx [] [(1,some (bx (jF (jL.mk (jN p) (jN p)))))] (zR (kJ jQ)<|zR (kJ jQ)<|zE (eD iJ qJ qL)<|zT (qA jP)<|zZ) ?_
 refine jE ⟨_,(kI (cs:=(bx (jF (jL.mk (jN p) (jN p))))) (d:=(jF (jL.mk (jN p) (jN p)))) rfl rfl jP rfl rfl .nil),?_⟩
 rfl
theorem g_zero(x:jR)(p:Rat)(hx:hP x p 140737488355328):jO Tryz.prog 23 [(jJ x)] (.val (.bool ((iG x)))):=by
 have h1:=hx.n1
 have h2:=hx.n2
 refine qY Tryz.func23 ?_
 refine jB<|kx [(1,(.ref 0 0))] [(0,some (bx (jJ x)))] (zN (uU 0)<|zM<|zZ) ?_
 refine jB<|kx [(2,(vb (((!x.num.neg&&!x.den.neg)&&(((x.num.gs.length:Nat):Int) == 0))&&(((x.den.gs.length:Nat):Int) == 0))))] [] ?_ ?_
 ·refine zE (kV zB)<|zE (kV vZ)<|zR (uE iP)<|zE gD<|zE (oV (vb (!x.num.neg)) (qC (by kernel_rfl)))<|?_
  rcases hb1:(!x.num.neg) with _ | _
  ·exact zK<|zK<|zK<|zK<|zE xQ<|zM<|zK<|zK<|zK<|zK<|zK<|zE xQ<|zM<|zK<|zK<|zK<|zK<|zK<|zE xQ<|zM<|zZ
  ·refine zE (kV xI)<|zE (kV vZ)<|zR (uE iP)<|zE gD<|zE fR<|zE (oV (vb (true&&!x.den.neg)) (qC (by kernel_rfl)))<|?_
   rcases hb2:(true&&!x.den.neg) with _ | _
   ·exact zK<|zK<|zK<|zK<|zK<|zE xQ<|zM<|zK<|zK<|zK<|zK<|zK<|zE xQ<|zM<|zZ
   ·refine zE (kV zB)<|zE (kV vR)<|zR (uE yD)<|zE (vP kO)<|zE xR<|zE fR<|zE (oV (vb (true&&(((x.num.gs.length:Nat):Int) == 0))) (qC (by kernel_rfl)))<|?_
    rcases hb3:(true&&(((x.num.gs.length:Nat):Int) == 0)) with _ | _
    ·exact zK<|zK<|zK<|zK<|zK<|zE xQ<|zM<|zZ
    ·exact zE (kV xI)<|zE (kV vR)<|zR (uE yD)<|zE (vP kO)<|zE xR<|zE fR<|zM<|zZ
 refine jE ⟨_,(.tmp (d:=(.val (.bool ((((!x.num.neg&&!x.den.neg)&&(((x.num.gs.length:Nat):Int) == 0))&&(((x.den.gs.length:Nat):Int) == 0)))))) rfl .nil),?_⟩
 rfl
theorem h_zero(a:jL)(ha:GOk 140737488355328 a):jO Tryz.prog 33 [(jF a)] (.val (.bool ((iG a.lo&&iG a.hi)))):=by
 refine qY Tryz.func33 ?_
 refine jB<|kx [(1,(.ref 0 0))] [(0,some (bx (jF a)))] (zN (uU 0)<|zM<|zZ) ?_
 refine jB<|kx [(2,(vb ((iG a.lo)&&(iG a.hi))))] [] ?_ ?_
 ·refine zE (kV uO)<|zR (kJ jQ)<|zE (jV (g_zero a.lo (qS a.lo) ha.1))<|zE (oV (vb (iG a.lo)) (qC (by kernel_rfl)))<|?_
  rcases hb1:(iG a.lo) with _ | _
  ·exact zK<|zK<|zK<|zE xQ<|zM<|zZ
  ·exact zE (kV uT)<|zR (kJ jQ)<|zE (jV (g_zero a.hi (qS a.hi) ha.2))<|zE fR<|zM<|zZ
 refine jE ⟨_,(.tmp (d:=(.val (.bool (((iG a.lo)&&(iG a.hi)))))) rfl .nil),?_⟩
 rfl
end Go.Proofs.YtnajallgoaiahaaGreatDoor
