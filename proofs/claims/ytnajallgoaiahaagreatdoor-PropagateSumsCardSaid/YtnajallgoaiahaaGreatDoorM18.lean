/- Part 18 of a proof: rules, plain facts, and functions walked. -/
import Derived.Test.YtnajallgoaiahaaGreatDoorM17
import Derived.Test.YtnajallgoaiahaaGreatDoorM10
import Derived.Test.YtnajallgoaiahaaGreatDoorM9
set_option linter.all false
set_option maxRecDepth 4000
namespace Go.Proofs.YtnajallgoaiahaaGreatDoor
open Go.Fid
theorem cb38:callB Tryz.prog 38=true:=by kernel_rfl
theorem cb66:callB Tryz.prog 66=true:=by kernel_rfl
theorem cb98:callB Tryz.prog 98=true:=by kernel_rfl
theorem cb107:callB Tryz.prog 107=true:=by kernel_rfl
theorem cb108:callB Tryz.prog 108=true:=by kernel_rfl
theorem cb125:callB Tryz.prog 125=true:=by kernel_rfl
theorem cb152:callB Tryz.prog 152=true:=by kernel_rfl
theorem cb164:callB Tryz.prog 164=true:=by kernel_rfl
theorem cb165:callB Tryz.prog 165=true:=by kernel_rfl
theorem cb166:callB Tryz.prog 166=true:=by kernel_rfl
theorem cb244:callB Tryz.prog 244=true:=by kernel_rfl
theorem cb260:callB Tryz.prog 260=true:=by kernel_rfl
theorem uI:vA Tryz.prog 24=some (45,4):=by kernel_rfl
theorem gN:vA Tryz.prog 86=some (61,8):=by kernel_rfl
theorem pl61:dT Tryz.prog 61=some [(0,4),(4,4)]:=by kernel_rfl
theorem kF:qO Tryz.prog 61=some (true,8):=by kernel_rfl
theorem uC:zJ Tryz.prog 61=some [.bool false,.slice none 0 0,.bool false,.slice none 0 0,.bool false,.slice none 0 0,.bool false,.slice none 0 0]:=by kernel_rfl
theorem uH:aJ [.bool false,.slice none 0 0,.bool false,.slice none 0 0,.bool false,.slice none 0 0,.bool false,.slice none 0 0] [.val (.bool false),.sl 140 1 [],.val (.bool false),.sl 140 1 [],.val (.bool false),.sl 140 1 [],.val (.bool false),.sl 140 1 []]:=by simp [aJ,Value.oneCell']
theorem h_valid(a:jW)(ha:GOk 4294967296 a):jQ Tryz.prog 98 [(jI a)] (.val (.bool ((uG a)))):=by
 refine jG Tryz.func98 rfl cb98 rfl ?_
 show qK _ _ _ _ ⟨[(0,(.d (jI a)))],[]⟩
 refine jB<|kx [(1,(.ref 0 0))] [(0,some (bx (jI a)))] (zN (vN 0)<|zM<|zZ) ?_
 refine jB<|kx [(2,(vb (((kM a.lo)&&(kM a.hi))&&decide ((yW (qJ a.lo) (qJ a.hi))≤0))))] [] ?_ ?_
 ·refine zE (kZ zB)<|zR (kO jS)<|zE (jZ (iA a.lo (qJ a.lo) (jR ha.1 (by decide))))<|zE (oV (vb (kM a.lo)) (kV (by kernel_rfl)))<|?_
  rcases hb1:(kM a.lo) with _ | _
  ·exact zK<|zK<|zK<|zE zG<|zM<|zK<|zK<|zK<|zK<|zK<|zK<|zE zG<|zM<|zZ
  ·refine zE (kZ zU)<|zR (kO jS)<|zE (jZ (iA a.hi (qJ a.hi) (jR ha.2 (by decide))))<|zE fM<|zE (oV (vb (true&&(kM a.hi))) (kV (by kernel_rfl)))<|?_
   rcases hb2:(true&&(kM a.hi)) with _ | _
   ·exact zK<|zK<|zK<|zK<|zK<|zK<|zE zG<|zM<|zZ
   ·exact zE (kZ zB)<|zR (kO jS)<|zE (kZ zU)<|zR (kO jS)<|zE (jZ (g_compare a.lo a.hi (qJ a.lo) (qJ a.hi) ha.1 ha.2))<|zE oLe<|zE fM<|zM<|zZ
 refine jE ⟨_,(.tmp (d:=(.val (.bool ((((kM a.lo)&&(kM a.hi))&&decide ((yW (qJ a.lo) (qJ a.hi))≤0)))))) rfl .nil),?_⟩
 rw[validG_eq];rfl
theorem bJ(a:jW)(ha:GOk 4294967296 a):jQ Tryz.prog 125 [(jI a)] (.val (.bool ((uG a)))):=by
 refine jG Tryz.func125 rfl cb125 rfl ?_
 show qK _ _ _ _ ⟨[(0,(.d (jI a)))],[]⟩
 refine jB<|kx [(1,(.ref 0 0))] [(0,some (bx (jI a)))] (zN (vN 0)<|zM<|zZ) ?_
 refine jB<|kx [(2,(vb (((kM a.lo)&&(kM a.hi))&&decide ((yW (qJ a.lo) (qJ a.hi))≤0))))] [] ?_ ?_
 ·refine zE (kZ zB)<|zR (kO jS)<|zE (jZ (cA a.lo (qJ a.lo) (jR ha.1 (by decide))))<|zE (oV (vb (kM a.lo)) (kV (by kernel_rfl)))<|?_
  rcases hb1:(kM a.lo) with _ | _
  ·exact zK<|zK<|zK<|zE zG<|zM<|zK<|zK<|zK<|zK<|zK<|zK<|zE zG<|zM<|zZ
  ·refine zE (kZ zU)<|zR (kO jS)<|zE (jZ (cA a.hi (qJ a.hi) (jR ha.2 (by decide))))<|zE fM<|zE (oV (vb (true&&(kM a.hi))) (kV (by kernel_rfl)))<|?_
   rcases hb2:(true&&(kM a.hi)) with _ | _
   ·exact zK<|zK<|zK<|zK<|zK<|zK<|zE zG<|zM<|zZ
   ·exact zE (kZ zB)<|zR (kO jS)<|zE (kZ zU)<|zR (kO jS)<|zE (jZ (cK a.lo a.hi (qJ a.lo) (qJ a.hi) (jR ha.1 (by decide)) (jR ha.2 (by decide))))<|zE oLe<|zE fM<|zM<|zZ
 refine jE ⟨_,(.tmp (d:=(.val (.bool ((((kM a.lo)&&(kM a.hi))&&decide ((yW (qJ a.lo) (qJ a.hi))≤0)))))) rfl .nil),?_⟩
 rw[validG_eq];rfl
theorem i_valids(l:List jW)(hl:∀ a∈l,GOk 4294967296 a)(hb:l.length≤1000000):jQ Tryz.prog 152 [(.sl 61 8 (List.map jI l))] (.val (.bool ((l.all uG)))):=by
 let y1:=(jW.mk qM qM)
 refine jG Tryz.func152 rfl cb152 rfl ?_
 show qK _ _ _ _ ⟨[(0,(vl 61 8 jI l))],[]⟩
 refine jB<|kx [] [] (zM<|zZ) ?_
 refine jB<|jB<|kx [(5,(vl 61 8 jI l)),(6,(jV l.length)),(7,(jV 0))] [] (zM<|zE (vC gN)<|zM<|zZ) ?_
 refine jH<|kL (α:=Nat) (fun i=>⟨[(5,(vl 61 8 jI l)),(6,(jV l.length)),(7,(jV i))],[]⟩) (fun i=>i≤l.length∧(l.take i).all uG=true) (fun i=>l.length-i) 0 wk ⟨Nat.zero_le _,by simp⟩ ?_
 rintro i ⟨hi,hv⟩
 refine jB<|kx [(8,(vb (decide (((i:Nat):Int)<((l.length:Nat):Int)))))] [] (zE xT<|zZ) ?_
 refine jB<|jF rfl (fun h1=>?_) (fun h1=>?_)
 ·replace h1:=vI h1
  refine jD<|jB<|jH<|jB<|kx [(4,(.ref 0 0))] [(0,some (bx (jI (l.getD i y1))))] (zE (yL gN i y1)<|zE (nA kF)<|zN (uB 0 uC uH)<|zT (qD kF)<|zZ) ?_
  refine jB<|kx [(13,(vb (!(uG (l.getD i y1)))))] [] (zR (kO kF)<|zE (jZ (bJ (l.getD i y1) (gok_get hl (show i<l.length by omega))))<|zE nF<|zZ) ?_
  refine jF rfl (fun h2=>?_) (fun h2=>?_)
  ·refine jB<|kx [(2,(vb false))] [] (zM<|zZ) ?_
   refine jE ⟨_,(.tmp (d:=(.val (.bool (false)))) rfl .nil),?_⟩
   rw[all_not (f:=uG) (l:=l) (i:=i) (d:=(jW.mk qM qM)) (by omega) (by simpa using h2)];rfl
  ·refine jD<|kx [(7,(jV (i+1)))] [] (zE (vY (i+1))<|zM<|zZ) ?_
   exact ⟨(i+1),wk,⟨by omega,all_take (d:=(jW.mk qM qM)) (by omega) hv (by simpa using h2)⟩,(by first|omega|(dsimp only;omega))⟩
 ·replace h1:=vM h1
  have hie:i=l.length:=by omega
  rw[hie,List.take_length] at hv
  refine kJ<|jB<|kx [(2,(vb true))] [] (zM<|zZ) ?_
  refine jE ⟨_,(.tmp (d:=(.val (.bool (true)))) rfl .nil),?_⟩
  rw[hv];rfl
theorem i_zero(p q:Rat)(hp:QL p 1073741824)(hq:QL q 1073741824):jQ Tryz.prog 166 [(jI (jW.mk (jP p) (jP q)))] (.val (.bool ((gP p q)))):=by
 refine jG Tryz.func166 rfl cb166 rfl ?_
 show qK _ _ _ _ ⟨[(0,(.d (jI (jW.mk (jP p) (jP q)))))],[]⟩
 refine jB<|kx [(1,(.ref 0 0))] [(0,some (bx (jI (jW.mk (jP p) (jP q)))))] (zN (vN 0)<|zM<|zZ) ?_
 refine jB<|kx [(2,(vb (decide ((nI p)≤0)&&decide (0≤(nI q)))))] [] ?_ ?_
 ·refine zE (kZ zB)<|zR (kO jS)<|zE (jZ (f_sign (jP p) p (jR (kC hp) (by decide))))<|zE oLe<|zE (oV (vb (decide ((nI p)≤0))) (kV (by kernel_rfl)))<|?_
  rcases hb1:(decide ((nI p)≤0)) with _ | _
  ·replace hb1:=vM hb1
   exact zK<|zK<|zK<|zK<|zE zG<|zM<|zZ
  ·replace hb1:=vI hb1
   exact zE (kZ zU)<|zR (kO jS)<|zE (jZ (f_sign (jP q) q (jR (kC hq) (by decide))))<|zE oGe<|zE fM<|zM<|zZ
 refine jE ⟨_,(.tmp (d:=(.val (.bool ((decide ((nI p)≤0)&&decide (0≤(nI q))))))) rfl .nil),?_⟩
 rw[zeroG_eq];rfl
theorem i_spanned(p:Rat)(qs:List Rat)(hp:QL p 17179869184)(hqs:∀ q∈qs,QL q 17179869184)(hb:qs.length≤1000000):jQ Tryz.prog 165 [(jK (jP p)),(.sl 45 4 (List.map jK (List.map jP qs)))] (jI (jW.mk (jP (mnL p qs)) (jP (mxL p qs)))):=by
 refine jG Tryz.func165 rfl cb165 rfl ?_
 show qK _ _ _ _ ⟨[(0,(.d (jK (jP p)))),(1,(vl 45 4 jK (List.map jP qs)))],[]⟩
 refine jB<|kx [(2,(.ref 0 0)),(4,(.ref 1 0))] [(0,some (bx (jK (jP p)))),(1,some (bx (jI (jW.mk qM qM))))] (zN (vN 0)<|zN (uB 1 uC uH)<|zZ) ?_
 refine jB<|kx [(5,(.ref 2 0))] [(2,some (bx (jI (jW.mk (jP p) (jP p)))))] (zR (kO jS)<|zR (kO jS)<|zE (bB pl61 uC uH)<|zN (uB 2 uC uH)<|zT (qD kF)<|zZ) ?_
 refine jB<|jB<|kx [(11,(vl 45 4 jK (List.map jP qs))),(12,(jV qs.length)),(13,(jV 0))] [] (zM<|zE (oLn uI qs.length)<|zM<|zZ) ?_
 refine jH<|kL (α:=Nat × Rat × Rat) (fun (i,lo,hi)=>⟨[(4,(.ref 1 0)),(5,(.ref 2 0)),(11,(vl 45 4 jK (List.map jP qs))),(12,(jV qs.length)),(13,(jV i))],[(1,some (bx (jI (jW.mk qM qM)))),(2,some (bx (jI (jW.mk (jP lo) (jP hi)))))]⟩) (fun (i,lo,hi)=>i≤qs.length∧lo=mnL p (qs.take i)∧hi=mxL p (qs.take i)) (fun (i,lo,hi)=>qs.length-i) (0,p,p) wk ⟨Nat.zero_le _,rfl,rfl⟩ ?_
 rintro ⟨i,lo,hi⟩ ⟨hi1,hl,hh⟩
 have htk:∀ q∈qs.take i,QL q 17179869184:=fun q hq=>hqs q (List.mem_of_mem_take hq)
 have hlo:QL lo 17179869184:=by rw[hl];exact ql_mnL hp htk
 have hhi:QL hi 17179869184:=by rw[hh];exact ql_mxL hp htk
 refine jB<|kx [(14,(vb (decide (((i:Nat):Int)<((qs.length:Nat):Int)))))] [] (zE xT<|zZ) ?_
 refine jB<|jF rfl (fun h1=>?_) (fun h1=>?_)
 ·replace h1:=vI h1
  refine jD<|jB<|jH<|jB<|kx [(7,(.ref 3 0))] [(3,some (bx (jK (jP (qs.getD i 0)))))] (zE (oXm uI jP i 0)<|zE (nA jS)<|zN (uB 3 uL uQ)<|zT (qD jS)<|zZ) ?_
  refine jB<|jB<|kx [(21,(vb (decide ((yW (qs.getD i 0) lo)<0))))] [] (zR (kO jS)<|zE (kZ zB)<|zR (kO jS)<|zE (jZ (cK (jP (qs.getD i 0)) (jP lo) (qs.getD i 0) lo (kC (ql_getD hqs (by decide) i)) (kC hlo)))<|zE xT<|zZ) ?_
  refine jF (b:=decide ((yW (qs.getD i 0) lo)<0)) rfl (fun h2=>?_) (fun h2=>?_)
  ·replace h2:=vI h2
   have hc1:=h2
   refine kx [] [(2,some (bx (jI (jW.mk (jP (qs.getD i 0)) (jP hi)))))] (zR (kO jS)<|zE (kZ zB)<|zT (qD jS)<|zZ) ?_
   refine jB<|kx [(28,(vb (decide (0<(yW (qs.getD i 0) hi)))))] [] (zR (kO jS)<|zE (kZ zU)<|zR (kO jS)<|zE (jZ (cK (jP (qs.getD i 0)) (jP hi) (qs.getD i 0) hi (kC (ql_getD hqs (by decide) i)) (kC hhi)))<|zE mT<|zZ) ?_
   refine jF (b:=decide (0<(yW (qs.getD i 0) hi))) rfl (fun h3=>?_) (fun h3=>?_)
   ·replace h3:=vI h3
    have hc2:=h3
    refine kx [] [(2,some (bx (jI (jW.mk (jP (qs.getD i 0)) (jP (qs.getD i 0))))))] (zR (kO jS)<|zE (kZ zU)<|zT (qD jS)<|zZ) ?_
    refine kx [(13,(jV (i+1)))] [] (zE (vY (i+1))<|zM<|zZ) ?_
    exact ⟨(i+1,qs.getD i 0,qs.getD i 0),wk,⟨by omega,mnL_lt (by omega) hl hc1,mxL_gt (by omega) hh hc2⟩,(by first|omega|(dsimp only;omega))⟩
   ·replace h3:=vM h3
    have hc2:=h3
    refine jD<|kx [(13,(jV (i+1)))] [] (zE (vY (i+1))<|zM<|zZ) ?_
    exact ⟨(i+1,qs.getD i 0,hi),wk,⟨by omega,mnL_lt (by omega) hl hc1,mxL_le (by omega) hh hc2⟩,(by first|omega|(dsimp only;omega))⟩
  ·replace h2:=vM h2
   have hc1:=h2
   refine jD<|jB<|kx [(28,(vb (decide (0<(yW (qs.getD i 0) hi)))))] [] (zR (kO jS)<|zE (kZ zU)<|zR (kO jS)<|zE (jZ (cK (jP (qs.getD i 0)) (jP hi) (qs.getD i 0) hi (kC (ql_getD hqs (by decide) i)) (kC hhi)))<|zE mT<|zZ) ?_
   refine jF (b:=decide (0<(yW (qs.getD i 0) hi))) rfl (fun h4=>?_) (fun h4=>?_)
   ·replace h4:=vI h4
    have hc2:=h4
    refine kx [] [(2,some (bx (jI (jW.mk (jP lo) (jP (qs.getD i 0))))))] (zR (kO jS)<|zE (kZ zU)<|zT (qD jS)<|zZ) ?_
    refine kx [(13,(jV (i+1)))] [] (zE (vY (i+1))<|zM<|zZ) ?_
    exact ⟨(i+1,lo,qs.getD i 0),wk,⟨by omega,mnL_ge (by omega) hl hc1,mxL_gt (by omega) hh hc2⟩,(by first|omega|(dsimp only;omega))⟩
   ·replace h4:=vM h4
    have hc2:=h4
    refine jD<|kx [(13,(jV (i+1)))] [] (zE (vY (i+1))<|zM<|zZ) ?_
    exact ⟨(i+1,lo,hi),wk,⟨by omega,mnL_ge (by omega) hl hc1,mxL_le (by omega) hh hc2⟩,(by first|omega|(dsimp only;omega))⟩
 ·replace h1:=vM h1
  have hie:i=qs.length:=by omega
  rw[hie,List.take_length] at hl hh
  refine kJ<|jB<|kx [] [(1,some (bx (jI (jW.mk (jP lo) (jP hi)))))] (zR (kO kF)<|zT (qD kF)<|zZ) ?_
  refine jE ⟨_,(kP (cs:=(bx (jI (jW.mk (jP lo) (jP hi))))) (d:=(jI (jW.mk (jP lo) (jP hi)))) rfl rfl kF rfl rfl .nil),?_⟩
  rw[hl,hh];rfl
theorem i_quot(p q:Rat)(hp:QL p 1073741824)(hq:QL q 1073741824)(hq0:q≠0):jQ Tryz.prog 260 [(jK (jP p)),(jK (jP q))] (jK (jP (p / q))):=by
 refine jG Tryz.func260 rfl cb260 rfl ?_
 show qK _ _ _ _ ⟨[(0,(.d (jK (jP p)))),(1,(.d (jK (jP q))))],[]⟩
 refine jB<|kx [(2,(.ref 0 0)),(3,(.ref 1 0)),(4,(.ref 2 0))] [(0,some (bx (jK (jP p)))),(1,some (bx (jK (jP q)))),(2,some (bx (jK qM)))] (zN (vN 0)<|zN (vN 1)<|zN (uB 2 uL uQ)<|zZ) ?_
 refine jB<|kx [(5,(.ref 3 0))] [(3,some (bx (jK (divR p q))))] (zR (kO jS)<|zR (kO jS)<|zE (jZ (f_divide (jP p) (jP q) p q (jR (kC hp) (by decide)) (jR (kC hq) (by decide))))<|zM<|zE vT<|zE vT<|zN (uB 3 uL uQ)<|zT (qD jS)<|zM<|zZ) ?_
 refine jB<|kx [] [(2,some (bx (jK (divR p q))))] (zR (kO jS)<|zT (qD jS)<|zZ) ?_
 refine jE ⟨_,(kP (cs:=(bx (jK (divR p q)))) (d:=(jK (divR p q))) rfl rfl jS rfl rfl .nil),?_⟩
 rw[divR_ne hq0];rfl
theorem i_cornersM(p q r s:Rat)(hp:QL p 1073741824)(hq:QL q 1073741824)(hr:QL r 1073741824)(hs:QL s 1073741824):jQ Tryz.prog 164 [(.val (.func (.func 82) #[] #[])),(jI (jW.mk (jP p) (jP q))),(jI (jW.mk (jP r) (jP s)))] (jI (jW.mk (jP (mnL (p*r) [(p*s),(q*r),(q*s)])) (jP (mxL (p*r) [(p*s),(q*r),(q*s)])))):=by
 let y1:=(jI (jW.mk (jP (mnL (p*r) [(p*s),(q*r),(q*s)])) (jP (mxL (p*r) [(p*s),(q*r),(q*s)]))))
 refine jG Tryz.func164 rfl cb164 rfl ?_
 show qK _ _ _ _ ⟨[(0,(.d (.val (.func (.func 82) #[] #[])))),(1,(.d (jI (jW.mk (jP p) (jP q))))),(2,(.d (jI (jW.mk (jP r) (jP s)))))],[]⟩
 refine jB<|kx [(4,(.ref 0 0)),(5,(.ref 1 0)),(6,(.ref 2 0))] [(0,some (bx (jI (jW.mk (jP p) (jP q))))),(1,some (bx (jI (jW.mk (jP r) (jP s))))),(2,some (bx (jI (jW.mk qM qM))))] (zN (vN 0)<|zN (vN 1)<|zN (uB 2 uC uH)<|zZ) ?_
 refine jB<|kd [] [(2,some (bx y1))] mo (wM<|wE (kZ zB)<|wR (kO jS)<|wE (kZ zB)<|wR (kO jS)<|wE (jZ (eK (jP p) (jP r) p r (jR (kC hp) (by decide)) (jR (kC hr) (by decide))))<|wM<|wE (kZ zB)<|wR (kO jS)<|wE (kZ zU)<|wR (kO jS)<|wE (jZ (eK (jP p) (jP s) p s (jR (kC hp) (by decide)) (jR (kC hs) (by decide))))<|wM<|wE (kZ zU)<|wR (kO jS)<|wE (kZ zB)<|wR (kO jS)<|wE (jZ (eK (jP q) (jP r) q r (jR (kC hq) (by decide)) (jR (kC hr) (by decide))))<|wM<|wE (kZ zU)<|wR (kO jS)<|wE (kZ zU)<|wR (kO jS)<|wE (jZ (eK (jP q) (jP s) q s (jR (kC hq) (by decide)) (jR (kC hs) (by decide))))<|wE (dG uI uL uQ)<|wE (jZ (i_spanned (p*r) [(p*s),(q*r),(q*s)] (vR (qQ (k:=2147483648) hp hr (by decide)) (by decide)) (List.forall_mem_cons.2 ⟨(vR (qQ (k:=2147483648) hp hs (by decide)) (by decide)),(List.forall_mem_cons.2 ⟨(vR (qQ (k:=2147483648) hq hr (by decide)) (by decide)),(List.forall_mem_cons.2 ⟨(vR (qQ (k:=2147483648) hq hs (by decide)) (by decide)),(fun a h=>by cases h)⟩)⟩)⟩) (by simp)))<|wT (qD kF)<|wZ) ?_
 refine jE ⟨_,(kP (cs:=(bx y1)) (d:=y1) rfl rfl kF rfl rfl .nil),?_⟩
 rfl
theorem i_cornersD(p q r s:Rat)(hp:QL p 1073741824)(hq:QL q 1073741824)(hr:QL r 1073741824)(hs:QL s 1073741824)(hr0:r≠0)(hs0:s≠0):jQ Tryz.prog 164 [(.val (.func (.func 260) #[] #[])),(jI (jW.mk (jP p) (jP q))),(jI (jW.mk (jP r) (jP s)))] (jI (jW.mk (jP (mnL (p / r) [(p / s),(q / r),(q / s)])) (jP (mxL (p / r) [(p / s),(q / r),(q / s)])))):=by
 let y1:=(jI (jW.mk (jP (mnL (p / r) [(p / s),(q / r),(q / s)])) (jP (mxL (p / r) [(p / s),(q / r),(q / s)]))))
 refine jG Tryz.func164 rfl cb164 rfl ?_
 show qK _ _ _ _ ⟨[(0,(.d (.val (.func (.func 260) #[] #[])))),(1,(.d (jI (jW.mk (jP p) (jP q))))),(2,(.d (jI (jW.mk (jP r) (jP s)))))],[]⟩
 refine jB<|kx [(4,(.ref 0 0)),(5,(.ref 1 0)),(6,(.ref 2 0))] [(0,some (bx (jI (jW.mk (jP p) (jP q))))),(1,some (bx (jI (jW.mk (jP r) (jP s))))),(2,some (bx (jI (jW.mk qM qM))))] (zN (vN 0)<|zN (vN 1)<|zN (uB 2 uC uH)<|zZ) ?_
 refine jB<|kd [] [(2,some (bx y1))] mo (wM<|wE (kZ zB)<|wR (kO jS)<|wE (kZ zB)<|wR (kO jS)<|wE (jZ (i_quot p r hp hr (by assumption)))<|wM<|wE (kZ zB)<|wR (kO jS)<|wE (kZ zU)<|wR (kO jS)<|wE (jZ (i_quot p s hp hs (by assumption)))<|wM<|wE (kZ zU)<|wR (kO jS)<|wE (kZ zB)<|wR (kO jS)<|wE (jZ (i_quot q r hq hr (by assumption)))<|wM<|wE (kZ zU)<|wR (kO jS)<|wE (kZ zU)<|wR (kO jS)<|wE (jZ (i_quot q s hq hs (by assumption)))<|wE (dG uI uL uQ)<|wE (jZ (i_spanned (p / r) [(p / s),(q / r),(q / s)] (vR (ql_div (k:=2147483648) hp hr (by decide)) (by decide)) (List.forall_mem_cons.2 ⟨(vR (ql_div (k:=2147483648) hp hs (by decide)) (by decide)),(List.forall_mem_cons.2 ⟨(vR (ql_div (k:=2147483648) hq hr (by decide)) (by decide)),(List.forall_mem_cons.2 ⟨(vR (ql_div (k:=2147483648) hq hs (by decide)) (by decide)),(fun a h=>by cases h)⟩)⟩)⟩) (by simp)))<|wT (qD kF)<|wZ) ?_
 refine jE ⟨_,(kP (cs:=(bx y1)) (d:=y1) rfl rfl kF rfl rfl .nil),?_⟩
 rfl
theorem i_mul(p q r s:Rat)(hp:QL p 1073741824)(hq:QL q 1073741824)(hr:QL r 1073741824)(hs:QL s 1073741824)(hpq:p≤q)(hrs:r≤s):jQ Tryz.prog 107 [(jI (jW.mk (jP p) (jP q))),(jI (jW.mk (jP r) (jP s)))] (.tup [(jI (jW.mk (jP (mnL (p*r) [(p*s),(q*r),(q*s)])) (jP (mxL (p*r) [(p*s),(q*r),(q*s)])))),(.val (.int .i64 (0)))]):=by
 let y1:=(jI (jW.mk (jP (mnL (p*r) [(p*s),(q*r),(q*s)])) (jP (mxL (p*r) [(p*s),(q*r),(q*s)]))))
 refine jG Tryz.func107 rfl cb107 rfl ?_
 show qK _ _ _ _ ⟨[(0,(.d (jI (jW.mk (jP p) (jP q))))),(1,(.d (jI (jW.mk (jP r) (jP s)))))],[]⟩
 refine jB<|kx [(2,(.ref 0 0)),(3,(.ref 1 0)),(4,(.ref 2 0))] [(0,some (bx (jI (jW.mk (jP p) (jP q))))),(1,some (bx (jI (jW.mk (jP r) (jP s))))),(2,some (bx (jI (jW.mk qM qM))))] (zN (vN 0)<|zN (vN 1)<|zN (uB 2 uC uH)<|zM<|zZ) ?_
 refine jB<|jB<|kx [(10,(vb false))] [] (zR (kO kF)<|zR (kO kF)<|zE (dG gN uC uH)<|zE (jZ (by have h:=i_valids [(jW.mk (jP p) (jP q)),(jW.mk (jP r) (jP s))] (List.forall_mem_cons.2 ⟨(gW (⟨qL (jR (kC hp) (by decide:1073741824≤1073741824)),qL (jR (kC hq) (by decide:1073741824≤1073741824))⟩) (by decide)),(List.forall_mem_cons.2 ⟨(gW (⟨qL (jR (kC hr) (by decide:1073741824≤1073741824)),qL (jR (kC hs) (by decide:1073741824≤1073741824))⟩) (by decide)),(fun a h=>by cases h)⟩)⟩) (by simp);rw[show List.all [(jW.mk (jP p) (jP q)),(jW.mk (jP r) (jP s))] uG=true from by simp [xX hpq,xX hrs]] at h;exact h))<|zE nF<|zZ) ?_
 refine kY ?_
 refine jD<|jB<|kx [(5,(jV 0))] [(2,some (bx y1))] (zR (kO kF)<|zR (kO kF)<|zE (jZ (i_cornersM p q r s hp hq hr hs))<|zT (qD kF)<|zM<|zZ) ?_
 refine jE ⟨_,(kP (cs:=(bx y1)) (d:=y1) rfl rfl kF rfl rfl (.tmp (d:=(.val (.int .i64 (0)))) rfl .nil)),?_⟩
 rfl
theorem i_divide(p q r s:Rat)(hp:QL p 1073741824)(hq:QL q 1073741824)(hr:QL r 1073741824)(hs:QL s 1073741824)(hpq:p≤q)(hrs:r≤s)(hz:gP r s=false):jQ Tryz.prog 244 [(jI (jW.mk (jP p) (jP q))),(jI (jW.mk (jP r) (jP s)))] (.tup [(jI (jW.mk (jP (mnL (p / r) [(p / s),(q / r),(q / s)])) (jP (mxL (p / r) [(p / s),(q / r),(q / s)])))),(.val (.int .i64 (0)))]):=by
 obtain ⟨hr0,hs0⟩:=zeroG_ne hrs hz
 let y1:=(jI (jW.mk (jP (mnL (p / r) [(p / s),(q / r),(q / s)])) (jP (mxL (p / r) [(p / s),(q / r),(q / s)]))))
 refine jG Tryz.func244 rfl cb244 rfl ?_
 show qK _ _ _ _ ⟨[(0,(.d (jI (jW.mk (jP p) (jP q))))),(1,(.d (jI (jW.mk (jP r) (jP s)))))],[]⟩
 refine jB<|kx [(2,(.ref 0 0)),(3,(.ref 1 0)),(4,(.ref 2 0))] [(0,some (bx (jI (jW.mk (jP p) (jP q))))),(1,some (bx (jI (jW.mk (jP r) (jP s))))),(2,some (bx (jI (jW.mk qM qM))))] (zN (vN 0)<|zN (vN 1)<|zN (uB 2 uC uH)<|zM<|zZ) ?_
 refine jB<|jB<|kx [(11,(vb false))] [] (zR (kO kF)<|zR (kO kF)<|zE (dG gN uC uH)<|zE (jZ (by have h:=i_valids [(jW.mk (jP p) (jP q)),(jW.mk (jP r) (jP s))] (List.forall_mem_cons.2 ⟨(gW (⟨qL (jR (kC hp) (by decide:1073741824≤1073741824)),qL (jR (kC hq) (by decide:1073741824≤1073741824))⟩) (by decide)),(List.forall_mem_cons.2 ⟨(gW (⟨qL (jR (kC hr) (by decide:1073741824≤1073741824)),qL (jR (kC hs) (by decide:1073741824≤1073741824))⟩) (by decide)),(fun a h=>by cases h)⟩)⟩) (by simp);rw[show List.all [(jW.mk (jP p) (jP q)),(jW.mk (jP r) (jP s))] uG=true from by simp [xX hpq,xX hrs]] at h;exact h))<|zE nF<|zZ) ?_
 refine kY ?_
 refine jD<|jB<|jB<|kx [(14,(vb false))] [] (zR (kO kF)<|zE (jZ (by have h:=i_zero r s hr hs;rw[show gP r s=false from hz] at h;exact h))<|zZ) ?_
 refine kY ?_
 refine jD<|jB<|kx [(6,(.d (.val (.func (.func 260) #[] #[]))))] [] (zM<|zZ) ?_
 refine jB<|kx [(5,(jV 0))] [(2,some (bx y1))] (zM<|zR (kO kF)<|zR (kO kF)<|zE (jZ (i_cornersD p q r s hp hq hr hs (by assumption) (by assumption)))<|zT (qD kF)<|zM<|zZ) ?_
 refine jE ⟨_,(kP (cs:=(bx y1)) (d:=y1) rfl rfl kF rfl rfl (.tmp (d:=(.val (.int .i64 (0)))) rfl .nil)),?_⟩
 rfl
theorem i_divideZ(p q r s:Rat)(hp:QL p 1073741824)(hq:QL q 1073741824)(hr:QL r 1073741824)(hs:QL s 1073741824)(hpq:p≤q)(hrs:r≤s)(hz:gP r s=true):jQ Tryz.prog 244 [(jI (jW.mk (jP p) (jP q))),(jI (jW.mk (jP r) (jP s)))] (.tup [(jI (jW.mk qM qM)),(.val (.int .i64 (14)))]):=by
 let y1:=(bx (jI (jW.mk qM qM)))
 refine jG Tryz.func244 rfl cb244 rfl ?_
 show qK _ _ _ _ ⟨[(0,(.d (jI (jW.mk (jP p) (jP q))))),(1,(.d (jI (jW.mk (jP r) (jP s)))))],[]⟩
 refine jB<|kx [(2,(.ref 0 0)),(3,(.ref 1 0)),(4,(.ref 2 0))] [(0,some (bx (jI (jW.mk (jP p) (jP q))))),(1,some (bx (jI (jW.mk (jP r) (jP s))))),(2,some y1)] (zN (vN 0)<|zN (vN 1)<|zN (uB 2 uC uH)<|zM<|zZ) ?_
 refine jB<|jB<|kx [(11,(vb false))] [] (zR (kO kF)<|zR (kO kF)<|zE (dG gN uC uH)<|zE (jZ (by have h:=i_valids [(jW.mk (jP p) (jP q)),(jW.mk (jP r) (jP s))] (List.forall_mem_cons.2 ⟨(gW (⟨qL (jR (kC hp) (by decide:1073741824≤1073741824)),qL (jR (kC hq) (by decide:1073741824≤1073741824))⟩) (by decide)),(List.forall_mem_cons.2 ⟨(gW (⟨qL (jR (kC hr) (by decide:1073741824≤1073741824)),qL (jR (kC hs) (by decide:1073741824≤1073741824))⟩) (by decide)),(fun a h=>by cases h)⟩)⟩) (by simp);rw[show List.all [(jW.mk (jP p) (jP q)),(jW.mk (jP r) (jP s))] uG=true from by simp [xX hpq,xX hrs]] at h;exact h))<|zE nF<|zZ) ?_
 refine kY ?_
 refine jD<|jB<|jB<|kx [(14,(vb true))] [] (zR (kO kF)<|zE (jZ (by have h:=i_zero r s hr hs;rw[show gP r s=true from hz] at h;exact h))<|zZ) ?_
 refine vP ?_
 refine jB<|kx [(5,(jV 14))] [(2,some y1)] (zE (bB pl61 uC uH)<|zT (qD kF)<|zM<|zZ) ?_
 refine jE ⟨_,(kP (cs:=y1) (d:=(jI (jW.mk qM qM))) rfl rfl kF rfl rfl (.tmp (d:=(.val (.int .i64 (14)))) rfl .nil)),?_⟩
 rfl
theorem i_square(p q:Rat)(hp:QL p 1073741824)(hq:QL q 1073741824)(hpq:p≤q):jQ Tryz.prog 108 [(jI (jW.mk (jP p) (jP q)))] (.tup [(jI (jW.mk (jP (sqL p q)) (jP (sqH p q)))),(.val (.int .i64 (0)))]):=by
 let y2:=(jI (jW.mk (jP ((0:Int):Rat)) (jP (mxL (p*p) [(q*q)]))))
 let y1:=(jI (jW.mk (jP (mnL (p*p) [(q*q)])) (jP (mxL (p*p) [(q*q)]))))
 refine jG Tryz.func108 rfl cb108 rfl ?_
 show qK _ _ _ _ ⟨[(0,(.d (jI (jW.mk (jP p) (jP q)))))],[]⟩
 refine jB<|kx [(1,(.ref 0 0)),(2,(.ref 1 0))] [(0,some (bx (jI (jW.mk (jP p) (jP q))))),(1,some (bx (jI (jW.mk qM qM))))] (zN (vN 0)<|zN (uB 1 uC uH)<|zM<|zZ) ?_
 refine jB<|jB<|kx [(7,(vb false))] [] (zR (kO kF)<|zE (jZ (by have h:=bJ (jW.mk (jP p) (jP q)) (gW (⟨qL (jR (kC hp) (by decide:1073741824≤1073741824)),qL (jR (kC hq) (by decide:1073741824≤1073741824))⟩) (by decide));rw[show uG (jW.mk (jP p) (jP q))=true from xX hpq] at h;exact h))<|zE nF<|zZ) ?_
 refine kY ?_
 refine jD<|jB<|kd [(4,(.ref 2 0))] [(2,some (bx y1))] mo (wE (kZ zB)<|wR (kO jS)<|wE (kZ zB)<|wR (kO jS)<|wE (jZ (eK (jP p) (jP p) p p (jR (kC hp) (by decide)) (jR (kC hp) (by decide))))<|wE (kZ zU)<|wR (kO jS)<|wE (kZ zU)<|wR (kO jS)<|wE (jZ (eK (jP q) (jP q) q q (jR (kC hq) (by decide)) (jR (kC hq) (by decide))))<|wE (dG uI uL uQ)<|wE (jZ (i_spanned (p*p) [(q*q)] (vR (qQ (k:=2147483648) hp hp (by decide)) (by decide)) (List.forall_mem_cons.2 ⟨(vR (qQ (k:=2147483648) hq hq (by decide)) (by decide)),(fun a h=>by cases h)⟩) (by simp)))<|wN (uB 2 uC uH)<|wT (qD kF)<|wZ) ?_
 refine jB<|jB<|kx [(22,(vb (gP p q)))] [] (zR (kO kF)<|zE (jZ (i_zero p q hp hq))<|zZ) ?_
 refine jF (b:=(gP p q)) rfl (fun h1=>?_) (fun h1=>?_)
 ·refine kx [] [(2,some (bx y2))] (zE (jZ (f_whole 0 (by decide) (by decide)))<|zE (kZ zB)<|zT (qD jS)<|zZ) ?_
  refine jB<|kx [(3,(jV 0))] [(1,some (bx y2))] (zR (kO kF)<|zT (qD kF)<|zM<|zZ) ?_
  refine jE ⟨_,(kP (cs:=(bx y2)) (d:=y2) rfl rfl kF rfl rfl (.tmp (d:=(.val (.int .i64 (0)))) rfl .nil)),?_⟩
  rw[show sqL p q=_ from if_pos h1];rfl
 ·refine jD<|jB<|kx [(3,(jV 0))] [(1,some (bx y1))] (zR (kO kF)<|zT (qD kF)<|zM<|zZ) ?_
  refine jE ⟨_,(kP (cs:=(bx y1)) (d:=y1) rfl rfl kF rfl rfl (.tmp (d:=(.val (.int .i64 (0)))) rfl .nil)),?_⟩
  rw[show sqL p q=_ from if_neg (by rw[h1];simp)];rfl
theorem h_whole(lo hi:Int)(h1:-9223372036854775808≤lo)(h2:lo≤9223372036854775807)(h3:-9223372036854775808≤hi)(h4:hi≤9223372036854775807):jQ Tryz.prog 66 [(.val (.int .i64 (lo))),(.val (.int .i64 (hi)))] (jI (jW.mk (jP ((lo:Int):Rat)) (jP ((hi:Int):Rat)))):=by
 refine jG Tryz.func66 rfl cb66 rfl ?_
 show qK _ _ _ _ ⟨[(0,(vi lo)),(1,(vi hi))],[]⟩
 refine jB<|kx [(4,(.ref 0 0))] [(0,some (bx (jI (jW.mk qM qM))))] (zN (uB 0 uC uH)<|zZ) ?_
 refine jB<|kx [] [(0,some (bx (jI (jW.mk (jP ((lo:Int):Rat)) (jP ((hi:Int):Rat))))))] (zM<|zE (jZ (eB lo (by omega) (by omega)))<|zM<|zE (jZ (eB hi (by omega) (by omega)))<|zE (bB pl61 uC uH)<|zT (qD kF)<|zZ) ?_
 refine jE ⟨_,(kP (cs:=(bx (jI (jW.mk (jP ((lo:Int):Rat)) (jP ((hi:Int):Rat)))))) (d:=(jI (jW.mk (jP ((lo:Int):Rat)) (jP ((hi:Int):Rat))))) rfl rfl kF rfl rfl .nil),?_⟩
 rfl
theorem h_same(a b:jW)(ha:GOk 4294967296 a)(hb:GOk 4294967296 b):jQ Tryz.prog 38 [(jI a),(jI b)] (.val (.bool ((sameG a b)))):=by
 refine jG Tryz.func38 rfl cb38 rfl ?_
 show qK _ _ _ _ ⟨[(0,(.d (jI a))),(1,(.d (jI b)))],[]⟩
 refine jB<|kx [(2,(.ref 0 0)),(3,(.ref 1 0))] [(0,some (bx (jI a))),(1,some (bx (jI b)))] (zN (vN 0)<|zN (vN 1)<|zM<|zZ) ?_
 refine jB<|kx [(4,(vb (((uG a)&&(uG b))&&(dE a.lo b.lo&&dE a.hi b.hi))))] [] ?_ ?_
 ·refine zR (kO kF)<|zE (jZ (h_valid a ha))<|zE (oV (vb (uG a)) (kV (by kernel_rfl)))<|?_
  rcases hb1:(uG a) with _ | _
  ·exact zK<|zK<|zE zG<|zM<|zK<|zK<|zK<|zE zG<|zM<|zZ
  ·refine zR (kO kF)<|zE (jZ (h_valid b hb))<|zE fM<|zE (oV (vb (true&&(uG b))) (kV (by kernel_rfl)))<|?_
   rcases hb2:(true&&(uG b)) with _ | _
   ·exact zK<|zK<|zK<|zE zG<|zM<|zZ
   ·exact zR (kO kF)<|zR (kO kF)<|zE (jZ (g_samerange a b ha hb))<|zE fM<|zM<|zZ
 refine jE ⟨_,(.tmp (d:=(.val (.bool ((((uG a)&&(uG b))&&(dE a.lo b.lo&&dE a.hi b.hi)))))) rfl .nil),?_⟩
 rfl
theorem cb92:callB Tryz.prog 92=true:=by kernel_rfl
theorem cb93:callB Tryz.prog 93=true:=by kernel_rfl
theorem i_add(p q r s:Rat)(hp:QL p 1073741824)(hq:QL q 1073741824)(hr:QL r 1073741824)(hs:QL s 1073741824)(hpq:p≤q)(hrs:r≤s):jQ Tryz.prog 92 [(jI (jW.mk (jP p) (jP q))),(jI (jW.mk (jP r) (jP s)))] (.tup [(jI (jW.mk (jP (p+r)) (jP (q+s)))),(.val (.int .i64 (0)))]):=by
 refine jG Tryz.func92 rfl cb92 rfl ?_
 show qK _ _ _ _ ⟨[(0,(.d (jI (jW.mk (jP p) (jP q))))),(1,(.d (jI (jW.mk (jP r) (jP s)))))],[]⟩
 refine jB<|kx [(2,(.ref 0 0)),(3,(.ref 1 0)),(4,(.ref 2 0))] [(0,some (bx (jI (jW.mk (jP p) (jP q))))),(1,some (bx (jI (jW.mk (jP r) (jP s))))),(2,some (bx (jI (jW.mk qM qM))))] (zN (vN 0)<|zN (vN 1)<|zN (uB 2 uC uH)<|zM<|zZ) ?_
 refine jB<|jB<|kx [(10,(vb false))] [] (zR (kO kF)<|zR (kO kF)<|zE (dG gN uC uH)<|zE (jZ (by have h:=i_valids [(jW.mk (jP p) (jP q)),(jW.mk (jP r) (jP s))] (List.forall_mem_cons.2 ⟨(gW (⟨qL (jR (kC hp) (by decide:1073741824≤1073741824)),qL (jR (kC hq) (by decide:1073741824≤1073741824))⟩) (by decide)),(List.forall_mem_cons.2 ⟨(gW (⟨qL (jR (kC hr) (by decide:1073741824≤1073741824)),qL (jR (kC hs) (by decide:1073741824≤1073741824))⟩) (by decide)),(fun a h=>by cases h)⟩)⟩) (by simp);rw[show List.all [(jW.mk (jP p) (jP q)),(jW.mk (jP r) (jP s))] uG=true from by simp [xX hpq,xX hrs]] at h;exact h))<|zE nF<|zZ) ?_
 refine kY ?_
 refine jD<|jB<|kd [(5,(jV 0))] [(2,some (bx (jI (jW.mk (jP (p+r)) (jP (q+s))))))] mo (wE (kZ zB)<|wR (kO jS)<|wE (kZ zB)<|wR (kO jS)<|wE (jZ (f_add (jP p) (jP r) p r (jR (kC hp) (by decide)) (jR (kC hr) (by decide))))<|wE (kZ zU)<|wR (kO jS)<|wE (kZ zU)<|wR (kO jS)<|wE (jZ (f_add (jP q) (jP s) q s (jR (kC hq) (by decide)) (jR (kC hs) (by decide))))<|wE (bB pl61 uC uH)<|wT (qD kF)<|wM<|wZ) ?_
 refine jE ⟨_,(kP (cs:=(bx (jI (jW.mk (jP (p+r)) (jP (q+s)))))) (d:=(jI (jW.mk (jP (p+r)) (jP (q+s))))) rfl rfl kF rfl rfl (.tmp (d:=(.val (.int .i64 (0)))) rfl .nil)),?_⟩
 rfl
theorem i_sub(p q r s:Rat)(hp:QL p 1073741824)(hq:QL q 1073741824)(hr:QL r 1073741824)(hs:QL s 1073741824)(hpq:p≤q)(hrs:r≤s):jQ Tryz.prog 93 [(jI (jW.mk (jP p) (jP q))),(jI (jW.mk (jP r) (jP s)))] (.tup [(jI (jW.mk (jP (p-s)) (jP (q-r)))),(.val (.int .i64 (0)))]):=by
 refine jG Tryz.func93 rfl cb93 rfl ?_
 show qK _ _ _ _ ⟨[(0,(.d (jI (jW.mk (jP p) (jP q))))),(1,(.d (jI (jW.mk (jP r) (jP s)))))],[]⟩
 refine jB<|kx [(2,(.ref 0 0)),(3,(.ref 1 0)),(4,(.ref 2 0))] [(0,some (bx (jI (jW.mk (jP p) (jP q))))),(1,some (bx (jI (jW.mk (jP r) (jP s))))),(2,some (bx (jI (jW.mk qM qM))))] (zN (vN 0)<|zN (vN 1)<|zN (uB 2 uC uH)<|zM<|zZ) ?_
 refine jB<|jB<|kx [(10,(vb false))] [] (zR (kO kF)<|zR (kO kF)<|zE (dG gN uC uH)<|zE (jZ (by have h:=i_valids [(jW.mk (jP p) (jP q)),(jW.mk (jP r) (jP s))] (List.forall_mem_cons.2 ⟨(gW (⟨qL (jR (kC hp) (by decide:1073741824≤1073741824)),qL (jR (kC hq) (by decide:1073741824≤1073741824))⟩) (by decide)),(List.forall_mem_cons.2 ⟨(gW (⟨qL (jR (kC hr) (by decide:1073741824≤1073741824)),qL (jR (kC hs) (by decide:1073741824≤1073741824))⟩) (by decide)),(fun a h=>by cases h)⟩)⟩) (by simp);rw[show List.all [(jW.mk (jP p) (jP q)),(jW.mk (jP r) (jP s))] uG=true from by simp [xX hpq,xX hrs]] at h;exact h))<|zE nF<|zZ) ?_
 refine kY ?_
 refine jD<|jB<|kd [(5,(jV 0))] [(2,some (bx (jI (jW.mk (jP (p-s)) (jP (q-r))))))] mo (wE (kZ zB)<|wR (kO jS)<|wE (kZ zU)<|wR (kO jS)<|wE (jZ (f_sub (jP p) (jP s) p s (jR (kC hp) (by decide)) (jR (kC hs) (by decide))))<|wE (kZ zU)<|wR (kO jS)<|wE (kZ zB)<|wR (kO jS)<|wE (jZ (f_sub (jP q) (jP r) q r (jR (kC hq) (by decide)) (jR (kC hr) (by decide))))<|wE (bB pl61 uC uH)<|wT (qD kF)<|wM<|wZ) ?_
 refine jE ⟨_,(kP (cs:=(bx (jI (jW.mk (jP (p-s)) (jP (q-r)))))) (d:=(jI (jW.mk (jP (p-s)) (jP (q-r))))) rfl rfl kF rfl rfl (.tmp (d:=(.val (.int .i64 (0)))) rfl .nil)),?_⟩
 rfl
theorem by45:yI Tryz.prog 45=some 64:=by kernel_rfl
theorem cb23:callB Tryz.prog 23=true:=by kernel_rfl
theorem g_zero(x:jO)(p:Rat)(hx:mN x p 140737488355328):jQ Tryz.prog 23 [(jK x)] (.val (.bool ((zeroR x)))):=by
 have h1:=hx.n1
 have h2:=hx.n2
 refine jG Tryz.func23 rfl cb23 rfl ?_
 show qK _ _ _ _ ⟨[(0,(.d (jK x)))],[]⟩
 refine jB<|kx [(1,(.ref 0 0))] [(0,some (bx (jK x)))] (zN (vN 0)<|zM<|zZ) ?_
 refine jB<|kx [(2,(vb (((!x.num.neg&&!x.den.neg)&&(((x.num.gs.length:Nat):Int) == 0))&&(((x.den.gs.length:Nat):Int) == 0))))] [] ?_ ?_
 ·refine zE (kZ yD)<|zE (kZ vD)<|zR (qS aP)<|zE nF<|zE (oV (vb (!x.num.neg)) (kV (by kernel_rfl)))<|?_
  rcases hb1:(!x.num.neg) with _ | _
  ·exact zK<|zK<|zK<|zK<|zE zG<|zM<|zK<|zK<|zK<|zK<|zK<|zE zG<|zM<|zK<|zK<|zK<|zK<|zK<|zE zG<|zM<|zZ
  ·refine zE (kZ xI)<|zE (kZ vD)<|zR (qS aP)<|zE nF<|zE fM<|zE (oV (vb (true&&!x.den.neg)) (kV (by kernel_rfl)))<|?_
   rcases hb2:(true&&!x.den.neg) with _ | _
   ·exact zK<|zK<|zK<|zK<|zK<|zE zG<|zM<|zK<|zK<|zK<|zK<|zK<|zE zG<|zM<|zZ
   ·refine zE (kZ yD)<|zE (kZ vL)<|zR (qS xZ)<|zE (vC kH)<|zE yQ<|zE fM<|zE (oV (vb (true&&(((x.num.gs.length:Nat):Int) == 0))) (kV (by kernel_rfl)))<|?_
    rcases hb3:(true&&(((x.num.gs.length:Nat):Int) == 0)) with _ | _
    ·exact zK<|zK<|zK<|zK<|zK<|zE zG<|zM<|zZ
    ·exact zE (kZ xI)<|zE (kZ vL)<|zR (qS xZ)<|zE (vC kH)<|zE yQ<|zE fM<|zM<|zZ
 refine jE ⟨_,(.tmp (d:=(.val (.bool ((((!x.num.neg&&!x.den.neg)&&(((x.num.gs.length:Nat):Int) == 0))&&(((x.den.gs.length:Nat):Int) == 0)))))) rfl .nil),?_⟩
 rfl
end Go.Proofs.YtnajallgoaiahaaGreatDoor
namespace Go.Fid
inductive LOk (n:Nat):List kU→List Int→Prop
 |nil:LOk n [] []
 |cons {x:kU} {z:Int} {l:List kU} {zs:List Int} (h:yZ x z n) (t:LOk n l zs):LOk n (x::l) (z::zs)
theorem iok_nilN(n:Nat):yZ ⟨false,[]⟩ 0 n:=⟨by decide,Nat.zero_le _⟩
theorem LOk.len{n:Nat}{l:List kU}{zs:List Int}(h:LOk n l zs):l.length=zs.length:=by
 induction h with
 |nil=>rfl
 |cons h t ih=>simp [ih]
theorem LOk.get{n:Nat}{l:List kU}{zs:List Int}(h:LOk n l zs)(i:Nat):yZ (l.getD i ⟨false,[]⟩) (zs.getD i 0) n:=by
 induction h generalizing i with
 |nil=>exact iok_nilN n
 |cons h t ih=>
  rcases i with _ | i
  ·exact h
  ·exact ih i
theorem LOk.all{n:Nat}{l:List kU}{zs:List Int}(h:LOk n l zs):∀ z∈zs,mV z≤n:=by
 induction h with
 |nil=>simp
 |cons h t ih=>
  intro z hz
  rcases List.mem_cons.1 hz with rfl | hz
  ·exact h.ln
  ·exact ih z hz
theorem LOk.up{m n:Nat}{l:List kU}{zs:List Int}(h:LOk m l zs)(hm:m≤n):LOk n l zs:=by
 induction h with
 |nil=>exact .nil
 |cons h t ih=>exact .cons (mG h hm) ih
theorem signI_ne{z:Int}(h:z≠0):qY z≠0:=by
 unfold qY;split<;>(try split)<;>omega
theorem LOk.map{n:Nat}{l:List kU}{zs:List Int}(h:LOk n l zs):l.map jX=zs:=by
 induction h with
 |nil=>rfl
 |cons h t ih=>rw[List.map_cons,ih,h.v]
theorem all_nil{l:List kU}(h:∀ x∈l,x=kU.mk false [])(i:Nat):l.getD i (kU.mk false [])=kU.mk false []:=by
 rw[List.getD]
 cases hj:l[i]? with
 |none=>rfl
 |some q=>exact h q (List.mem_of_getElem? hj)
end Go.Fid
namespace Go.Proofs.YtnajallgoaiahaaGreatDoor
open Go.Fid
def uY(n:Nat)(l:List jO):Prop:=(∀ a∈l,mN a (qJ a) n)∧l.length≤140737488355328
def xG(n:Nat)(m:List (List jO)):Prop:=(∀ r∈m,uY n r)∧m.length≤140737488355328
def gY(l:List jO):Bool:=l.all kM
theorem xO{l:List jO}{n j:Nat}{d:jO}(h:∀ a∈l,mN a (qJ a) n)(hj:j<l.length):mN (l.getD j d) (qJ (l.getD j d)) n:=by
 rw[List.getD_eq_getElem?_getD,List.getElem?_eq_getElem hj];exact h _ (List.getElem_mem hj)
theorem row_up{n k:Nat}{l:List jO}(h:uY n l)(hk:n≤k):uY k l:=⟨fun a ha=>jR (h.1 a ha) hk,h.2⟩
theorem gM{n k:Nat}{m:List (List jO)}(h:xG n m)(hk:n≤k):xG k m:=⟨fun a ha=>row_up (h.1 a ha) hk,h.2⟩
theorem xM{n i:Nat}{m:List (List jO)}{d:List jO}(h:xG n m)(hi:i<m.length):uY n (m.getD i d):=by
 rw[List.getD_eq_getElem?_getD,List.getElem?_eq_getElem hi];exact h.1 _ (List.getElem_mem hi)
theorem take_all{α:Type}{f:α→Bool}{l:List α}{i:Nat}{d:α}(h:i<l.length):(l.take (i+1)).all f=((l.take i).all f&&f (l.getD i d)):=by
 rw[List.getD_eq_getElem?_getD,List.getElem?_eq_getElem h,List.take_succ_eq_append_getElem h,List.all_append]
 simp
end Go.Proofs.YtnajallgoaiahaaGreatDoor
