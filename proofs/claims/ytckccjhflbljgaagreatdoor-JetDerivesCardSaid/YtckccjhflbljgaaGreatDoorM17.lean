/- Part 17 of a proof: rules, plain facts, and functions walked. -/
import Derived.Test.YtckccjhflbljgaaGreatDoorM16
import Derived.Test.YtckccjhflbljgaaGreatDoorM7
import Derived.Test.YtckccjhflbljgaaGreatDoorM12
import Derived.Test.YtckccjhflbljgaaGreatDoorM11
import Derived.Test.YtckccjhflbljgaaGreatDoorM13
set_option linter.all false
set_option maxRecDepth 4000
namespace Go.Proofs.YtckccjhflbljgaaGreatDoor
open List Tryz
open Go.Fid
theorem uA:uU prog 24=some (32,4):=by kernel_rfl
theorem xK:uU prog 43=some (42,8):=by kernel_rfl
theorem pl42:eL prog 42=some [(0,4),(4,4)]:=by kernel_rfl
theorem jW:qD prog 42=some (true,8):=by kernel_rfl
theorem uQ:xH prog 42=some [.bool false,.slice none 0 0,.bool false,.slice none 0 0,.bool false,.slice none 0 0,.bool false,.slice none 0 0]:=by kernel_rfl
theorem uV:eO [.bool false,.slice none 0 0,.bool false,.slice none 0 0,.bool false,.slice none 0 0,.bool false,.slice none 0 0] [.val (.bool false),.sl 107 1 [],.val (.bool false),.sl 107 1 [],.val (.bool false),.sl 107 1 [],.val (.bool false),.sl 107 1 []]:=by simp [eO,Value.oneCell']
theorem h_valid(a:jX)(ha:GOk 4294967296 a):jP prog 73 [(jG a)] (.val (.bool ((xQ a)))):=by
 refine vD func73 ?_
 refine jB<|kx [(1,(.ref 0 0))] [(0,some (bx (jG a)))] (zN (xD 0)<|zM<|zZ) ?_
 refine jB<|kx [(2,(vb (((kT a.lo)&&(kT a.hi))&&decide ((gE (qS a.lo) (qS a.hi))<=0))))] [] ?_ ?_
 ·refine zE (kK xP)<|zR (kP jT)<|zE (kB (iZ a.lo (qS a.lo) (jO ha.1)))<|zE (oV (vb (kT a.lo)) (qA (by kernel_rfl)))<|?_
  rcases hb1:(kT a.lo) with _ | _
  ·exact zK<|zK<|zK<|zE yD<|zM<|zK<|zK<|zK<|zK<|zK<|zK<|zE yD<|zM<|zZ
  ·refine zE (kK xF)<|zR (kP jT)<|zE (kB (iZ a.hi (qS a.hi) (jO ha.2)))<|zE fL<|zE (oV (vb (true&&(kT a.hi))) (qA (by kernel_rfl)))<|?_
   rcases hb2:(true&&(kT a.hi)) with _ | _
   ·exact zK<|zK<|zK<|zK<|zK<|zK<|zE yD<|zM<|zZ
   ·exact zE (kK xP)<|zR (kP jT)<|zE (kK xF)<|zR (kP jT)<|zE (kB (bR a.lo a.hi (qS a.lo) (qS a.hi) ha.1 ha.2))<|zE oLe<|zE fL<|zM<|zZ
 refine jE ⟨_,(.tmp (d:=(.val (.bool ((((kT a.lo)&&(kT a.hi))&&decide ((gE (qS a.lo) (qS a.hi))<=0)))))) rfl .nil),?_⟩
 rw[validG_eq];rfl
theorem i_valid(a:jX)(ha:GOk 4294967296 a):jP prog 76 [(jG a)] (.val (.bool ((xQ a)))):=by
 refine vD func76 ?_
 refine jB<|kx [(1,(.ref 0 0))] [(0,some (bx (jG a)))] (zN (xD 0)<|zM<|zZ) ?_
 refine jB<|kx [(2,(vb (((kT a.lo)&&(kT a.hi))&&decide ((gE (qS a.lo) (qS a.hi))<=0))))] [] ?_ ?_
 ·refine zE (kK xP)<|zR (kP jT)<|zE (kB (f_valid a.lo (qS a.lo) (jO ha.1)))<|zE (oV (vb (kT a.lo)) (qA (by kernel_rfl)))<|?_
  rcases hb1:(kT a.lo) with _ | _
  ·exact zK<|zK<|zK<|zE yD<|zM<|zK<|zK<|zK<|zK<|zK<|zK<|zE yD<|zM<|zZ
  ·refine zE (kK xF)<|zR (kP jT)<|zE (kB (f_valid a.hi (qS a.hi) (jO ha.2)))<|zE fL<|zE (oV (vb (true&&(kT a.hi))) (qA (by kernel_rfl)))<|?_
   rcases hb2:(true&&(kT a.hi)) with _ | _
   ·exact zK<|zK<|zK<|zK<|zK<|zK<|zE yD<|zM<|zZ
   ·exact zE (kK xP)<|zR (kP jT)<|zE (kK xF)<|zR (kP jT)<|zE (kB (iM a.lo a.hi (qS a.lo) (qS a.hi) (jO ha.1) (jO ha.2)))<|zE oLe<|zE fL<|zM<|zZ
 refine jE ⟨_,(.tmp (d:=(.val (.bool ((((kT a.lo)&&(kT a.hi))&&decide ((gE (qS a.lo) (qS a.hi))<=0)))))) rfl .nil),?_⟩
 rw[validG_eq];rfl
theorem i_valids(l:List jX)(hl:∀ a∈l,GOk 4294967296 a)(hb:l.length<=1000000):jP prog 198 [(.sl 42 8 (map jG l))] (.val (.bool ((l.all xQ)))):=by
 let y1:=(jX.mk qX qX)
 refine vD func198 ?_
 refine jB<|kx [] [] (zM<|zZ) ?_
 refine jB<|jB<|kx [(5,(vl 42 8 jG l)),(6,(kE l.length)),(7,(kE 0))] [] (zM<|zE (yA xK)<|zM<|zZ) ?_
 refine jH<|kR (α:=Nat) (λi=>⟨[(5,(vl 42 8 jG l)),(6,(kE l.length)),(7,(kE i))],[]⟩) (λi=>i<=l.length/\(l.take i).all xQ=true) (λi=>l.length-i) 0 wk ⟨Nat.zero_le _,by simp⟩ ?_
 rintro i ⟨hi,hv⟩
 refine jB<|kx [(8,(vb (decide (((i:Nat):Int)<((l.length:Nat):Int)))))] [] (zE gX<|zZ) ?_
 refine jB<|jD rfl (λh1=>?_) (λh1=>?_)
 ·replace h1:=vF h1
  refine jF<|jB<|jH<|jB<|kx [(4,(.ref 0 0))] [(0,some (bx (jG (l.getD i y1))))] (zE (cB xK i y1)<|zE (mR jW)<|zN (vB 0 uQ uV)<|zT (qL jW)<|zZ) ?_
  refine jB<|kx [(13,(vb (!(xQ (l.getD i y1)))))] [] (zR (kP jW)<|zE (kB (i_valid (l.getD i y1) (gok_get hl (show i<l.length by omega))))<|zE cU<|zZ) ?_
  refine jD rfl (λh2=>?_) (λh2=>?_)
  ·refine jB<|kx [(2,(vb false))] [] (zM<|zZ) ?_
   refine jE ⟨_,(.tmp (d:=(.val (.bool (false)))) rfl .nil),?_⟩
   rw[all_not (f:=xQ) (l:=l) (i:=i) (d:=(jX.mk qX qX)) (by omega) (by simpa using h2)];rfl
  ·refine jF<|kx [(7,(kE (i+1)))] [] (zE (xO (i+1))<|zM<|zZ) ?_
   exact ⟨(i+1),wk,⟨by omega,all_take (d:=(jX.mk qX qX)) (by omega) hv (by simpa using h2)⟩,(by first|omega|(dsimp only;omega))⟩
 ·replace h1:=vT h1
  have hie:i=l.length:=by omega
  rw[hie,take_length] at hv
  refine kO<|jB<|kx [(2,(vb true))] [] (zM<|zZ) ?_
  refine jE ⟨_,(.tmp (d:=(.val (.bool (true)))) rfl .nil),?_⟩
  rw[hv];rfl
theorem i_zero(p q:Rat)(hp:QL p 1073741824)(hq:QL q 1073741824):jP prog 201 [(jG (jX.mk (jM p) (jM q)))] (.val (.bool ((mU p q)))):=by
 refine vD func201 ?_
 refine jB<|kx [(1,(.ref 0 0))] [(0,some (bx (jG (jX.mk (jM p) (jM q)))))] (zN (xD 0)<|zM<|zZ) ?_
 refine jB<|kx [(2,(vb (decide ((aE p)<=0)&&decide (0<=(aE q)))))] [] ?_ ?_
 ·refine zE (kK xP)<|zR (kP jT)<|zE (kB (f_sign (jM p) p (jO (jZ hp))))<|zE oLe<|zE (oV (vb (decide ((aE p)<=0))) (qA (by kernel_rfl)))<|?_
  rcases hb1:(decide ((aE p)<=0)) with _ | _
  ·replace hb1:=vT hb1
   exact zK<|zK<|zK<|zK<|zE yD<|zM<|zZ
  ·replace hb1:=vF hb1
   exact zE (kK xF)<|zR (kP jT)<|zE (kB (f_sign (jM q) q (jO (jZ hq))))<|zE oGe<|zE fL<|zM<|zZ
 refine jE ⟨_,(.tmp (d:=(.val (.bool ((decide ((aE p)<=0)&&decide (0<=(aE q))))))) rfl .nil),?_⟩
 rw[zeroG_eq];rfl
theorem i_spanned(p:Rat)(qs:List Rat)(hp:QL p 17179869184)(hqs:∀ q∈qs,QL q 17179869184)(hb:qs.length<=1000000):jP prog 200 [(jJ (jM p)),(.sl 32 4 (map jJ (map jM qs)))] (jG (jX.mk (jM (mF p qs)) (jM (cC p qs)))):=by
 refine vD func200 ?_
 refine jB<|kx [(2,(.ref 0 0)),(4,(.ref 1 0))] [(0,some (bx (jJ (jM p)))),(1,some (bx (jG (jX.mk qX qX))))] (zN (xD 0)<|zN (vB 1 uQ uV)<|zZ) ?_
 refine jB<|kx [(5,(.ref 2 0))] [(2,some (bx (jG (jX.mk (jM p) (jM p)))))] (zR (kP jT)<|zR (kP jT)<|zE (iS pl42 uQ uV)<|zN (vB 2 uQ uV)<|zT (qL jW)<|zZ) ?_
 refine jB<|jB<|kx [(11,(vl 32 4 jJ (map jM qs))),(12,(kE qs.length)),(13,(kE 0))] [] (zM<|zE (oLn uA qs.length)<|zM<|zZ) ?_
 refine jH<|kR (α:=Nat × Rat × Rat) (λ(i,lo,hi)=>⟨[(4,(.ref 1 0)),(5,(.ref 2 0)),(11,(vl 32 4 jJ (map jM qs))),(12,(kE qs.length)),(13,(kE i))],[(1,some (bx (jG (jX.mk qX qX)))),(2,some (bx (jG (jX.mk (jM lo) (jM hi)))))]⟩) (λ(i,lo,hi)=>i<=qs.length/\lo=mF p (qs.take i)/\hi=cC p (qs.take i)) (λ(i,lo,hi)=>qs.length-i) (0,p,p) wk ⟨Nat.zero_le _,rfl,rfl⟩ ?_
 rintro ⟨i,lo,hi⟩ ⟨hi1,hl,hh⟩
 have htk:∀ q∈qs.take i,QL q 17179869184:=λq hq=>hqs q (mem_of_mem_take hq)
 have hlo:QL lo 17179869184:=by rw[hl];exact ql_mnL hp htk
 have hhi:QL hi 17179869184:=by rw[hh];exact ql_mxL hp htk
 refine jB<|kx [(14,(vb (decide (((i:Nat):Int)<((qs.length:Nat):Int)))))] [] (zE gX<|zZ) ?_
 refine jB<|jD rfl (λh1=>?_) (λh1=>?_)
 ·replace h1:=vF h1
  refine jF<|jB<|jH<|jB<|kx [(7,(.ref 3 0))] [(3,some (bx (jJ (jM (qs.getD i 0)))))] (zE (iO uA jM i 0)<|zE (mR jT)<|zN (vB 3 uO vP)<|zT (qL jT)<|zZ) ?_
  refine jB<|jB<|kx [(21,(vb (decide ((gE (qs.getD i 0) lo)<0))))] [] (zR (kP jT)<|zE (kK xP)<|zR (kP jT)<|zE (kB (iM (jM (qs.getD i 0)) (jM lo) (qs.getD i 0) lo (jZ (cH hqs (by decide) i)) (jZ hlo)))<|zE gX<|zZ) ?_
  refine jD (b:=decide ((gE (qs.getD i 0) lo)<0)) rfl (λh2=>?_) (λh2=>?_)
  ·replace h2:=vF h2
   have hc1:=h2
   refine kx [] [(2,some (bx (jG (jX.mk (jM (qs.getD i 0)) (jM hi)))))] (zR (kP jT)<|zE (kK xP)<|zT (qL jT)<|zZ) ?_
   refine jB<|kx [(28,(vb (decide (0<(gE (qs.getD i 0) hi)))))] [] (zR (kP jT)<|zE (kK xF)<|zR (kP jT)<|zE (kB (iM (jM (qs.getD i 0)) (jM hi) (qs.getD i 0) hi (jZ (cH hqs (by decide) i)) (jZ hhi)))<|zE eR<|zZ) ?_
   refine jD (b:=decide (0<(gE (qs.getD i 0) hi))) rfl (λh3=>?_) (λh3=>?_)
   ·replace h3:=vF h3
    have hc2:=h3
    refine kx [] [(2,some (bx (jG (jX.mk (jM (qs.getD i 0)) (jM (qs.getD i 0))))))] (zR (kP jT)<|zE (kK xF)<|zT (qL jT)<|zZ) ?_
    refine kx [(13,(kE (i+1)))] [] (zE (xO (i+1))<|zM<|zZ) ?_
    exact ⟨(i+1,qs.getD i 0,qs.getD i 0),wk,⟨by omega,mnL_lt (by omega) hl hc1,mxL_gt (by omega) hh hc2⟩,(by first|omega|(dsimp only;omega))⟩
   ·replace h3:=vT h3
    have hc2:=h3
    refine jF<|kx [(13,(kE (i+1)))] [] (zE (xO (i+1))<|zM<|zZ) ?_
    exact ⟨(i+1,qs.getD i 0,hi),wk,⟨by omega,mnL_lt (by omega) hl hc1,mxL_le (by omega) hh hc2⟩,(by first|omega|(dsimp only;omega))⟩
  ·replace h2:=vT h2
   have hc1:=h2
   refine jF<|jB<|kx [(28,(vb (decide (0<(gE (qs.getD i 0) hi)))))] [] (zR (kP jT)<|zE (kK xF)<|zR (kP jT)<|zE (kB (iM (jM (qs.getD i 0)) (jM hi) (qs.getD i 0) hi (jZ (cH hqs (by decide) i)) (jZ hhi)))<|zE eR<|zZ) ?_
   refine jD (b:=decide (0<(gE (qs.getD i 0) hi))) rfl (λh4=>?_) (λh4=>?_)
   ·replace h4:=vF h4
    have hc2:=h4
    refine kx [] [(2,some (bx (jG (jX.mk (jM lo) (jM (qs.getD i 0))))))] (zR (kP jT)<|zE (kK xF)<|zT (qL jT)<|zZ) ?_
    refine kx [(13,(kE (i+1)))] [] (zE (xO (i+1))<|zM<|zZ) ?_
    exact ⟨(i+1,lo,qs.getD i 0),wk,⟨by omega,mnL_ge (by omega) hl hc1,mxL_gt (by omega) hh hc2⟩,(by first|omega|(dsimp only;omega))⟩
   ·replace h4:=vT h4
    have hc2:=h4
    refine jF<|kx [(13,(kE (i+1)))] [] (zE (xO (i+1))<|zM<|zZ) ?_
    exact ⟨(i+1,lo,hi),wk,⟨by omega,mnL_ge (by omega) hl hc1,mxL_le (by omega) hh hc2⟩,(by first|omega|(dsimp only;omega))⟩
 ·replace h1:=vT h1
  have hie:i=qs.length:=by omega
  rw[hie,take_length] at hl hh
  refine kO<|jB<|kx [] [(1,some (bx (jG (jX.mk (jM lo) (jM hi)))))] (zR (kP jW)<|zT (qL jW)<|zZ) ?_
  refine jE ⟨_,(kM (cs:=(bx (jG (jX.mk (jM lo) (jM hi))))) (d:=(jG (jX.mk (jM lo) (jM hi)))) rfl rfl jW rfl rfl .nil),?_⟩
  rw[hl,hh];rfl
theorem i_cornersM(p q r s:Rat)(hp:QL p 1073741824)(hq:QL q 1073741824)(hr:QL r 1073741824)(hs:QL s 1073741824):jP prog 199 [(.val (.func (.func 47) #[] #[])),(jG (jX.mk (jM p) (jM q))),(jG (jX.mk (jM r) (jM s)))] (jG (jX.mk (jM (mF (p*r) [(p*s),(q*r),(q*s)])) (jM (cC (p*r) [(p*s),(q*r),(q*s)])))):=by
 let y1:=(jG (jX.mk (jM (mF (p*r) [(p*s),(q*r),(q*s)])) (jM (cC (p*r) [(p*s),(q*r),(q*s)]))))
 refine vD func199 ?_
 refine jB<|kx [(4,(.ref 0 0)),(5,(.ref 1 0)),(6,(.ref 2 0))] [(0,some (bx (jG (jX.mk (jM p) (jM q))))),(1,some (bx (jG (jX.mk (jM r) (jM s))))),(2,some (bx (jG (jX.mk qX qX))))] (zN (xD 0)<|zN (xD 1)<|zN (vB 2 uQ uV)<|zZ) ?_
 refine jB<|kd [] [(2,some (bx y1))] mo (wM<|wE (kK xP)<|wR (kP jT)<|wE (kK xP)<|wR (kP jT)<|wE (kB (f_mul (jM p) (jM r) p r (jO (jZ hp)) (jO (jZ hr))))<|wM<|wE (kK xP)<|wR (kP jT)<|wE (kK xF)<|wR (kP jT)<|wE (kB (f_mul (jM p) (jM s) p s (jO (jZ hp)) (jO (jZ hs))))<|wM<|wE (kK xF)<|wR (kP jT)<|wE (kK xP)<|wR (kP jT)<|wE (kB (f_mul (jM q) (jM r) q r (jO (jZ hq)) (jO (jZ hr))))<|wM<|wE (kK xF)<|wR (kP jT)<|wE (kK xF)<|wR (kP jT)<|wE (kB (f_mul (jM q) (jM s) q s (jO (jZ hq)) (jO (jZ hs))))<|wE (fC uA uO vP)<|wE (kB (i_spanned (p*r) [(p*s),(q*r),(q*s)] (uG (yH (k:=2147483648) hp hr)) (forall_mem_cons.2 ⟨(uG (yH (k:=2147483648) hp hs)),(forall_mem_cons.2 ⟨(uG (yH (k:=2147483648) hq hr)),(forall_mem_cons.2 ⟨(uG (yH (k:=2147483648) hq hs)),(λa h=>by cases h)⟩)⟩)⟩) (by simp)))<|wT (qL jW)<|wZ) ?_
 refine jE ⟨_,(kM (cs:=(bx y1)) (d:=y1) rfl rfl jW rfl rfl .nil),?_⟩
 rfl
theorem i_mul(p q r s:Rat)(hp:QL p 1073741824)(hq:QL q 1073741824)(hr:QL r 1073741824)(hs:QL s 1073741824)(hpq:p<=q)(hrs:r<=s):jP prog 173 [(jG (jX.mk (jM p) (jM q))),(jG (jX.mk (jM r) (jM s)))] (.tup [(jG (jX.mk (jM (mF (p*r) [(p*s),(q*r),(q*s)])) (jM (cC (p*r) [(p*s),(q*r),(q*s)])))),(.val (.int .i64 (0)))]):=by
 let y1:=(jG (jX.mk (jM (mF (p*r) [(p*s),(q*r),(q*s)])) (jM (cC (p*r) [(p*s),(q*r),(q*s)]))))
 refine vD func173 ?_
 refine jB<|kx [(2,(.ref 0 0)),(3,(.ref 1 0)),(4,(.ref 2 0))] [(0,some (bx (jG (jX.mk (jM p) (jM q))))),(1,some (bx (jG (jX.mk (jM r) (jM s))))),(2,some (bx (jG (jX.mk qX qX))))] (zN (xD 0)<|zN (xD 1)<|zN (vB 2 uQ uV)<|zM<|zZ) ?_
 refine jB<|jB<|kx [(10,(vb false))] [] (zR (kP jW)<|zR (kP jW)<|zE (fC xK uQ uV)<|zE (kB (by have h:=i_valids [(jX.mk (jM p) (jM q)),(jX.mk (jM r) (jM s))] (forall_mem_cons.2 ⟨(fU (⟨uW (jO (jZ hp) (by decide:1073741824<=1073741824)),uW (jO (jZ hq) (by decide:1073741824<=1073741824))⟩)),(forall_mem_cons.2 ⟨(fU (⟨uW (jO (jZ hr) (by decide:1073741824<=1073741824)),uW (jO (jZ hs) (by decide:1073741824<=1073741824))⟩)),(λa h=>by cases h)⟩)⟩) (by simp);rw[show List.all [(jX.mk (jM p) (jM q)),(jX.mk (jM r) (jM s))] xQ=true from by simp [eC hpq,eC hrs]] at h;exact h))<|zE cU<|zZ) ?_
 refine uI ?_
 refine jF<|jB<|kx [(5,(kE 0))] [(2,some (bx y1))] (zR (kP jW)<|zR (kP jW)<|zE (kB (i_cornersM p q r s hp hq hr hs))<|zT (qL jW)<|zM<|zZ) ?_
 refine jE ⟨_,(kM (cs:=(bx y1)) (d:=y1) rfl rfl jW rfl rfl (.tmp (d:=(.val (.int .i64 (0)))) rfl .nil)),?_⟩
 rfl
theorem i_square(p q:Rat)(hp:QL p 1073741824)(hq:QL q 1073741824)(hpq:p<=q):jP prog 174 [(jG (jX.mk (jM p) (jM q)))] (.tup [(jG (jX.mk (jM (sqL p q)) (jM (sqH p q)))),(.val (.int .i64 (0)))]):=by
 let y2:=(jG (jX.mk (jM ((0:Int):Rat)) (jM (cC (p*p) [(q*q)]))))
 let y1:=(jG (jX.mk (jM (mF (p*p) [(q*q)])) (jM (cC (p*p) [(q*q)]))))
 refine vD func174 ?_
 refine jB<|kx [(1,(.ref 0 0)),(2,(.ref 1 0))] [(0,some (bx (jG (jX.mk (jM p) (jM q))))),(1,some (bx (jG (jX.mk qX qX))))] (zN (xD 0)<|zN (vB 1 uQ uV)<|zM<|zZ) ?_
 refine jB<|jB<|kx [(7,(vb false))] [] (zR (kP jW)<|zE (kB (by have h:=i_valid (jX.mk (jM p) (jM q)) (fU (⟨uW (jO (jZ hp) (by decide:1073741824<=1073741824)),uW (jO (jZ hq) (by decide:1073741824<=1073741824))⟩));rw[show xQ (jX.mk (jM p) (jM q))=true from eC hpq] at h;exact h))<|zE cU<|zZ) ?_
 refine uI ?_
 refine jF<|jB<|kd [(4,(.ref 2 0))] [(2,some (bx y1))] mo (wE (kK xP)<|wR (kP jT)<|wE (kK xP)<|wR (kP jT)<|wE (kB (f_mul (jM p) (jM p) p p (jO (jZ hp)) (jO (jZ hp))))<|wE (kK xF)<|wR (kP jT)<|wE (kK xF)<|wR (kP jT)<|wE (kB (f_mul (jM q) (jM q) q q (jO (jZ hq)) (jO (jZ hq))))<|wE (fC uA uO vP)<|wE (kB (i_spanned (p*p) [(q*q)] (uG (yH (k:=2147483648) hp hp)) (forall_mem_cons.2 ⟨(uG (yH (k:=2147483648) hq hq)),(λa h=>by cases h)⟩) (by simp)))<|wN (vB 2 uQ uV)<|wT (qL jW)<|wZ) ?_
 refine jB<|jB<|kx [(22,(vb (mU p q)))] [] (zR (kP jW)<|zE (kB (i_zero p q hp hq))<|zZ) ?_
 refine jD (b:=(mU p q)) rfl (λh1=>?_) (λh1=>?_)
 ·refine kx [] [(2,some (bx y2))] (zE (kB (aV 0))<|zE (kK xP)<|zT (qL jT)<|zZ) ?_
  refine jB<|kx [(3,(kE 0))] [(1,some (bx y2))] (zR (kP jW)<|zT (qL jW)<|zM<|zZ) ?_
  refine jE ⟨_,(kM (cs:=(bx y2)) (d:=y2) rfl rfl jW rfl rfl (.tmp (d:=(.val (.int .i64 (0)))) rfl .nil)),?_⟩
  rw[show sqL p q=_ from if_pos h1];rfl
 ·refine jF<|jB<|kx [(3,(kE 0))] [(1,some (bx y1))] (zR (kP jW)<|zT (qL jW)<|zM<|zZ) ?_
  refine jE ⟨_,(kM (cs:=(bx y1)) (d:=y1) rfl rfl jW rfl rfl (.tmp (d:=(.val (.int .i64 (0)))) rfl .nil)),?_⟩
  rw[show sqL p q=_ from if_neg (by rw[h1];simp)];rfl
theorem iW(lo hi:Int)(h1:-9223372036854775808<=lo:=by decide)(h2:lo<=9223372036854775807:=by decide)(h3:-9223372036854775808<=hi:=by decide)(h4:hi<=9223372036854775807:=by decide):jP prog 30 [(.val (.int .i64 (lo))),(.val (.int .i64 (hi)))] (jG (jX.mk (jM ((lo:Int):Rat)) (jM ((hi:Int):Rat)))):=by
 refine vD func30 ?_
 refine jB<|kx [(4,(.ref 0 0))] [(0,some (bx (jG (jX.mk qX qX))))] (zN (vB 0 uQ uV)<|zZ) ?_
 refine jB<|kx [] [(0,some (bx (jG (jX.mk (jM ((lo:Int):Rat)) (jM ((hi:Int):Rat))))))] (zM<|zE (kB (cM lo (by omega) (by omega)))<|zM<|zE (kB (cM hi (by omega) (by omega)))<|zE (iS pl42 uQ uV)<|zT (qL jW)<|zZ) ?_
 refine jE ⟨_,(kM (cs:=(bx (jG (jX.mk (jM ((lo:Int):Rat)) (jM ((hi:Int):Rat)))))) (d:=(jG (jX.mk (jM ((lo:Int):Rat)) (jM ((hi:Int):Rat))))) rfl rfl jW rfl rfl .nil),?_⟩
 rfl
theorem h_same(a b:jX)(ha:GOk 4294967296 a)(hb:GOk 4294967296 b):jP prog 43 [(jG a),(jG b)] (.val (.bool ((sameG a b)))):=by
 refine vD func43 ?_
 refine jB<|kx [(2,(.ref 0 0)),(3,(.ref 1 0))] [(0,some (bx (jG a))),(1,some (bx (jG b)))] (zN (xD 0)<|zN (xD 1)<|zM<|zZ) ?_
 refine jB<|kx [(4,(vb (((xQ a)&&(xQ b))&&(dM a.lo b.lo&&dM a.hi b.hi))))] [] ?_ ?_
 ·refine zR (kP jW)<|zE (kB (h_valid a ha))<|zE (oV (vb (xQ a)) (qA (by kernel_rfl)))<|?_
  rcases hb1:(xQ a) with _ | _
  ·exact zK<|zK<|zE yD<|zM<|zK<|zK<|zK<|zE yD<|zM<|zZ
  ·refine zR (kP jW)<|zE (kB (h_valid b hb))<|zE fL<|zE (oV (vb (true&&(xQ b))) (qA (by kernel_rfl)))<|?_
   rcases hb2:(true&&(xQ b)) with _ | _
   ·exact zK<|zK<|zK<|zE yD<|zM<|zZ
   ·exact zR (kP jW)<|zR (kP jW)<|zE (kB (g_samerange a b ha hb))<|zE fL<|zM<|zZ
 refine jE ⟨_,(.tmp (d:=(.val (.bool ((((xQ a)&&(xQ b))&&(dM a.lo b.lo&&dM a.hi b.hi)))))) rfl .nil),?_⟩
 rfl
theorem i_add(p q r s:Rat)(hp:QL p 1073741824)(hq:QL q 1073741824)(hr:QL r 1073741824)(hs:QL s 1073741824)(hpq:p<=q)(hrs:r<=s):jP prog 171 [(jG (jX.mk (jM p) (jM q))),(jG (jX.mk (jM r) (jM s)))] (.tup [(jG (jX.mk (jM (p+r)) (jM (q+s)))),(.val (.int .i64 (0)))]):=by
 refine vD func171 ?_
 refine jB<|kx [(2,(.ref 0 0)),(3,(.ref 1 0)),(4,(.ref 2 0))] [(0,some (bx (jG (jX.mk (jM p) (jM q))))),(1,some (bx (jG (jX.mk (jM r) (jM s))))),(2,some (bx (jG (jX.mk qX qX))))] (zN (xD 0)<|zN (xD 1)<|zN (vB 2 uQ uV)<|zM<|zZ) ?_
 refine jB<|jB<|kx [(10,(vb false))] [] (zR (kP jW)<|zR (kP jW)<|zE (fC xK uQ uV)<|zE (kB (by have h:=i_valids [(jX.mk (jM p) (jM q)),(jX.mk (jM r) (jM s))] (forall_mem_cons.2 ⟨(fU (⟨uW (jO (jZ hp) (by decide:1073741824<=1073741824)),uW (jO (jZ hq) (by decide:1073741824<=1073741824))⟩)),(forall_mem_cons.2 ⟨(fU (⟨uW (jO (jZ hr) (by decide:1073741824<=1073741824)),uW (jO (jZ hs) (by decide:1073741824<=1073741824))⟩)),(λa h=>by cases h)⟩)⟩) (by simp);rw[show List.all [(jX.mk (jM p) (jM q)),(jX.mk (jM r) (jM s))] xQ=true from by simp [eC hpq,eC hrs]] at h;exact h))<|zE cU<|zZ) ?_
 refine uI ?_
 refine jF<|jB<|kd [(5,(kE 0))] [(2,some (bx (jG (jX.mk (jM (p+r)) (jM (q+s))))))] mo (wE (kK xP)<|wR (kP jT)<|wE (kK xP)<|wR (kP jT)<|wE (kB (f_add (jM p) (jM r) p r (jO (jZ hp)) (jO (jZ hr))))<|wE (kK xF)<|wR (kP jT)<|wE (kK xF)<|wR (kP jT)<|wE (kB (f_add (jM q) (jM s) q s (jO (jZ hq)) (jO (jZ hs))))<|wE (iS pl42 uQ uV)<|wT (qL jW)<|wM<|wZ) ?_
 refine jE ⟨_,(kM (cs:=(bx (jG (jX.mk (jM (p+r)) (jM (q+s)))))) (d:=(jG (jX.mk (jM (p+r)) (jM (q+s))))) rfl rfl jW rfl rfl (.tmp (d:=(.val (.int .i64 (0)))) rfl .nil)),?_⟩
 rfl
theorem by32:zJ prog 32=some 64:=by kernel_rfl
theorem g_least(l:List Rat)(hl:∀ q∈l,QL q 4294967296)(h0:0<l.length)(hb:l.length<=1000000):jP prog 146 [(.sl 32 4 (map jJ (map jM l)))] (.tup [(jJ (jM (mF (l.getD 0 0) l))),(.val (.int .i64 (0)))]):=by
 refine vD func146 ?_
 refine jB<|kx [(2,(.ref 0 0))] [(0,some (bx (jJ qX)))] (zN (vB 0 uO vP)<|zM<|zZ) ?_
 refine jB<|jB<|kx [(8,(vb (((l.length:Nat):Int) == 0)))] [] (zM<|zE (oLn uA l.length)<|zE xL<|zZ) ?_
 refine jD (b:=(((l.length:Nat):Int) == 0)) rfl (λh1=>?_) (λh1=>?_)
 ·replace h1:=eq_of_beq h1
  exfalso;omega
 ·replace h1:=ne_of_beq_false h1
  refine jF<|jB<|kx [(4,(.ref 1 0))] [(1,some (bx (jJ (jM (l.getD 0 0)))))] (zM<|zE (iO uA jM 0 0)<|zE (mR jT)<|zE (kB (eE (jM (l.getD 0 0)) (l.getD 0 0) (jO (jZ (cH hl (by decide) 0)))))<|zN (vB 1 uO vP)<|zT (qL jT)<|zZ) ?_
  refine jB<|jB<|kx [(5,(kE 1))] [] (zM<|zZ) ?_
  refine jH<|kR (α:=Nat × Rat) (λ(i,b)=>⟨[(0,(vl 32 4 jJ (map jM l))),(2,(.ref 0 0)),(4,(.ref 1 0)),(5,(kE i))],[(0,some (bx (jJ qX))),(1,some (bx (jJ (jM b))))]⟩) (λ(i,b)=>i<=l.length/\b=mF (l.getD 0 0) (l.take i)) (λ(i,b)=>l.length-i) (1,l.getD 0 0) wk ⟨by omega,least_start h0⟩ ?_
  rintro ⟨i,b⟩ ⟨hi,hv⟩
  have hbq:QL b 4294967296:=by rw[hv];exact ql_mnL (cH hl (by decide) 0) (λq hq=>hl q (mem_of_mem_take hq))
  refine jB<|jB<|kx [(17,(vb (decide (((i:Nat):Int)<((l.length:Nat):Int)))))] [] (zM<|zM<|zE (oLn uA l.length)<|zE gX<|zZ) ?_
  refine jD rfl (λh2=>?_) (λh2=>?_)
  ·replace h2:=vF h2
   refine jF<|jB<|jH<|jB<|kd [(26,(vb (decide ((gE (l.getD i 0) b)<0))))] [] mo (wM<|wM<|wE (iO uA jM i 0)<|wE (mR jT)<|wR (kP jT)<|wE (kB (bR (jM (l.getD i 0)) (jM b) (l.getD i 0) b (jZ (cH hl (by decide) i)) (jZ hbq)))<|wE gX<|wZ) ?_
   refine jD (b:=decide ((gE (l.getD i 0) b)<0)) rfl (λh3=>?_) (λh3=>?_)
   ·replace h3:=vF h3
    refine kx [] [(1,some (bx (jJ (jM (l.getD i 0)))))] (zM<|zM<|zE (iO uA jM i 0)<|zE (mR jT)<|zE (kB (eE (jM (l.getD i 0)) (l.getD i 0) (jO (jZ (cH hl (by decide) i)))))<|zT (qL jT)<|zZ) ?_
    refine kx [(5,(kE (i+1)))] [] (zM<|zE (xO (i+1))<|zM<|zZ) ?_
    exact ⟨(i+1,l.getD i 0),wk,⟨by omega,mnL_lt (by omega) hv h3⟩,(by first|omega|(dsimp only;omega))⟩
   ·replace h3:=vT h3
    refine jF<|kx [(5,(kE (i+1)))] [] (zM<|zE (xO (i+1))<|zM<|zZ) ?_
    exact ⟨(i+1,b),wk,⟨by omega,mnL_ge (by omega) hv h3⟩,(by first|omega|(dsimp only;omega))⟩
  ·replace h2:=vT h2
   have hie:i=l.length:=by omega
   rw[hie,take_length] at hv
   refine kO<|jB<|kx [(3,(kE 0))] [(0,some (bx (jJ (jM b))))] (zR (kP jT)<|zT (qL jT)<|zM<|zZ) ?_
   refine jE ⟨_,(kM (cs:=(bx (jJ (jM b)))) (d:=(jJ (jM b))) rfl rfl jT rfl rfl (.tmp (d:=(.val (.int .i64 (0)))) rfl .nil)),?_⟩
   rw[hv];rfl
theorem g_greatest(l:List Rat)(hl:∀ q∈l,QL q 4294967296)(h0:0<l.length)(hb:l.length<=1000000):jP prog 147 [(.sl 32 4 (map jJ (map jM l)))] (.tup [(jJ (jM (cC (l.getD 0 0) l))),(.val (.int .i64 (0)))]):=by
 let y1:=(bx (jJ qX))
 refine vD func147 ?_
 refine jB<|kx [(2,(.ref 0 0))] [(0,some y1)] (zN (vB 0 uO vP)<|zM<|zZ) ?_
 refine jB<|kS (wk (l:=[(0,(vl 32 4 jJ (map jM l))),(2,(.ref 0 0))]) (b:=[(0,some y1)])) ?_
 refine kx [(4,(.own 1 32 4 0))] [(1,some (uD jJ []))] (zN (oBo 1 uA uO vP)<|zM<|zZ) ?_
 refine jB<|jB<|kS (wk (l:=[(0,(vl 32 4 jJ (map jM l))),(2,(.ref 0 0)),(4,(.own 1 32 4 0))]) (b:=[(0,some y1),(1,some (uD jJ []))])) ?_
 refine kx [(5,(kE 0))] [] (zM<|zZ) ?_
 refine jH<|kR (α:=Nat × List kY) (λ(i,o)=>⟨[(0,(vl 32 4 jJ (map jM l))),(2,(.ref 0 0)),(4,(.own 1 32 4 o.length)),(5,(kE i))],[(0,some y1),(1,some (uD jJ o))]⟩) (λ(i,o)=>i<=l.length/\o=map jM (map (λq=>-q) (l.take i))) (λ(i,o)=>l.length-i) (0,[]) wk ⟨Nat.zero_le _,rfl⟩ ?_
 rintro ⟨i,o⟩ ⟨hi,hv⟩
 have hol:o.length=i:=by rw[hv];simp;omega
 refine jB<|jB<|kx [(12,(vb (decide (((i:Nat):Int)<((l.length:Nat):Int)))))] [] (zM<|zM<|zE (oLn uA l.length)<|zE gX<|zZ) ?_
 refine jD rfl (λh1=>?_) (λh1=>?_)
 ·replace h1:=vF h1
  refine jF<|jB<|jH<|kS (wk (l:=[(0,(vl 32 4 jJ (map jM l))),(2,(.ref 0 0)),(4,(.own 1 32 4 o.length)),(5,(kE i)),(12,(vb (decide (((i:Nat):Int)<((l.length:Nat):Int)))))]) (b:=[(0,some y1),(1,some (uD jJ o))])) ?_
  refine kf [(4,(.own 1 32 4 ((o++[(jM (-(l.getD i 0)))]).length)))] [(1,some (uD jJ (o++[(jM (-(l.getD i 0)))])))] (zM<|zM<|zM<|zE (iO uA jM i 0)<|zE (mR jT)<|zE (kB (g_neg (jM (l.getD i 0)) (l.getD i 0) (jO (jZ (cH hl (by decide) i)))))<|zE (fC uA uO vP)<|zAS jJ o [(jM (-(l.getD i 0)))] rfl uA uO by32<|zM<|zF) ?_
  refine kS (wk (l:=[(0,(vl 32 4 jJ (map jM l))),(2,(.ref 0 0)),(4,(.own 1 32 4 ((o++[(jM (-(l.getD i 0)))]).length))),(5,(kE i))]) (b:=[(0,some y1),(1,some (uD jJ (o++[(jM (-(l.getD i 0)))])))])) ?_
  refine kx [(5,(kE (i+1)))] [] (zM<|zE (xO (i+1))<|zM<|zZ) ?_
  exact ⟨(i+1,o++[jM (-(l.getD i 0))]),wk,⟨by omega,neg_push (by omega) hv⟩,(by first|omega|(dsimp only;omega))⟩
 ·replace h1:=vT h1
  have hie:i=l.length:=by omega
  rw[hie,take_length] at hv
  subst hv
  refine kO<|jB<|kS (xY (t:=4) (k:=1) (es:=map jJ (map jM (map (λq=>-q) l))) rfl rfl (gO _ _ (λ_=>rfl)) (vK _ _ rfl) (mA jJ (map jM (map (λq=>-q) l)) (λ_=>rfl) rfl)) ?_
  refine kS (wk (l:=[(0,(vl 32 4 jJ (map jM l))),(2,(.ref 0 0)),(4,(vl 32 4 jJ (map jM (map (λq=>-q) l)))),(5,(kE i)),(12,(vb (decide (((i:Nat):Int)<((l.length:Nat):Int)))))]) (b:=[(0,some y1)])) ?_
  refine kx [(6,(.ref 2 0)),(7,(vi 0))] [(2,some (bx (jJ (jM (mF ((map (λq=>-q) l).getD 0 0) (map (λq=>-q) l))))))] (zM<|zE (kB (g_least (map (λq=>-q) l) (ql_negs hl) (by first | exact h0 | simpa using h0) (by first | exact hb | simpa using hb)))<|zM<|zE zP<|zE zP<|zN (vB 2 uO vP)<|zT (qL jT)<|zM<|zZ) ?_
  refine jB<|jB<|kS (wk (l:=[(2,(.ref 0 0)),(6,(.ref 2 0)),(7,(vi 0))]) (b:=[(0,some y1),(2,some (bx (jJ (jM (mF ((map (λq=>-q) l).getD 0 0) (map (λq=>-q) l))))))])) ?_
  refine kx [(29,(vb false))] [] (zM<|zE aZ<|zZ) ?_
  refine uI ?_
  refine jF<|jB<|kS (wk (l:=[(2,(.ref 0 0)),(6,(.ref 2 0)),(7,(vi 0)),(29,(vb false))]) (b:=[(0,some y1),(2,some (bx (jJ (jM (mF ((map (λq=>-q) l).getD 0 0) (map (λq=>-q) l))))))])) ?_
  refine kx [(3,(kE 0))] [(0,some (bx (jJ (jM (-(mF ((map (λq=>-q) l).getD 0 0) (map (λq=>-q) l)))))))] (zR (kP jT)<|zE (kB (g_neg (jM (mF ((map (λq=>-q) l).getD 0 0) (map (λq=>-q) l))) (mF ((map (λq=>-q) l).getD 0 0) (map (λq=>-q) l)) (jO (jZ (ql_mnL (cH (ql_negs hl) (by decide) 0) (ql_negs hl))))))<|zT (qL jT)<|zM<|zZ) ?_
  refine jE ⟨_,(kM (cs:=(bx (jJ (jM (-(mF ((map (λq=>-q) l).getD 0 0) (map (λq=>-q) l))))))) (d:=(jJ (jM (-(mF ((map (λq=>-q) l).getD 0 0) (map (λq=>-q) l)))))) rfl rfl jT rfl rfl (.tmp (d:=(.val (.int .i64 (0)))) rfl .nil)),?_⟩
  rw[<- great_eq h0];rfl
theorem h_spanned(p:Rat)(qs:List Rat)(hl:∀ q∈p::qs,QL q 4294967296)(hb:(p::qs).length<=1000000):jP prog 78 [(.sl 32 4 (map jJ (map jM (p::qs))))] (jG (jX.mk (jM (mF p qs)) (jM (cC p qs)))):=by
 have h0:0<(p::qs).length:=by simp
 let y1:=(jG (jX.mk (jM (mF ((p::qs).getD 0 0) (p::qs))) (jM (cC ((p::qs).getD 0 0) (p::qs)))))
 refine vD func78 ?_
 refine jB<|kx [(2,(.ref 0 0))] [(0,some (bx (jG (jX.mk qX qX))))] (zN (vB 0 uQ uV)<|zZ) ?_
 refine jB<|kx [(3,(.ref 1 0))] [(1,some (bx (jJ (jM (mF ((p::qs).getD 0 0) (p::qs))))))] (zM<|zE (kB (g_least (p::qs) hl (by first | exact h0 | simpa using h0) (by first | exact hb | simpa using hb)))<|zM<|zE zP<|zE zP<|zN (vB 1 uO vP)<|zT (qL jT)<|zM<|zZ) ?_
 refine jB<|kx [(5,(.ref 2 0))] [(2,some (bx (jJ (jM (cC ((p::qs).getD 0 0) (p::qs))))))] (zM<|zE (kB (g_greatest (p::qs) hl h0 hb))<|zM<|zE zP<|zE zP<|zN (vB 2 uO vP)<|zT (qL jT)<|zM<|zZ) ?_
 refine jB<|kx [] [(0,some (bx y1))] (zR (kP jT)<|zR (kP jT)<|zE (iS pl42 uQ uV)<|zT (qL jW)<|zZ) ?_
 refine jE ⟨_,(kM (cs:=(bx y1)) (d:=y1) rfl rfl jW rfl rfl .nil),?_⟩
 rw[<- mnL_self p qs,<- mxL_self p qs];rfl
theorem h_point(p:Rat)(hp:QL p 4294967296):jP prog 33 [(jJ (jM p))] (jG (jX.mk (jM p) (jM p))):=by
 refine vD func33 ?_
 refine jB<|kx [(1,(.ref 0 0)),(2,(.ref 1 0))] [(0,some (bx (jJ (jM p)))),(1,some (bx (jG (jX.mk qX qX))))] (zN (xD 0)<|zN (vB 1 uQ uV)<|zZ) ?_
 refine jB<|kx [] [(1,some (bx (jG (jX.mk (jM p) (jM p)))))] (zR (kP jT)<|zR (kP jT)<|zE (iS pl42 uQ uV)<|zT (qL jW)<|zZ) ?_
 refine jE ⟨_,(kM (cs:=(bx (jG (jX.mk (jM p) (jM p))))) (d:=(jG (jX.mk (jM p) (jM p)))) rfl rfl jW rfl rfl .nil),?_⟩
 rfl
theorem g_zero(x:kY)(p:Rat)(hx:yB x p 140737488355328):jP prog 13 [(jJ x)] (.val (.bool ((zeroR x)))):=by
 have h1:=hx.n1
 have h2:=hx.n2
 refine vD func13 ?_
 refine jB<|kx [(1,(.ref 0 0))] [(0,some (bx (jJ x)))] (zN (xD 0)<|zM<|zZ) ?_
 refine jB<|kx [(2,(vb (((!x.num.neg&&!x.den.neg)&&(((x.num.gs.length:Nat):Int) == 0))&&(((x.den.gs.length:Nat):Int) == 0))))] [] ?_ ?_
 ·refine zE (kK zW)<|zE (kK vN)<|zR (qH aT)<|zE cU<|zE (oV (vb (!x.num.neg)) (qA (by kernel_rfl)))<|?_
  rcases hb1:(!x.num.neg) with _ | _
  ·exact zK<|zK<|zK<|zK<|zE yD<|zM<|zK<|zK<|zK<|zK<|zK<|zE yD<|zM<|zK<|zK<|zK<|zK<|zK<|zE yD<|zM<|zZ
  ·refine zE (kK xC)<|zE (kK vN)<|zR (qH aT)<|zE cU<|zE fL<|zE (oV (vb (true&&!x.den.neg)) (qA (by kernel_rfl)))<|?_
   rcases hb2:(true&&!x.den.neg) with _ | _
   ·exact zK<|zK<|zK<|zK<|zK<|zE yD<|zM<|zK<|zK<|zK<|zK<|zK<|zE yD<|zM<|zZ
   ·refine zE (kK zW)<|zE (kK vM)<|zR (qH zU)<|zE (yA kJ)<|zE xL<|zE fL<|zE (oV (vb (true&&(((x.num.gs.length:Nat):Int) == 0))) (qA (by kernel_rfl)))<|?_
    rcases hb3:(true&&(((x.num.gs.length:Nat):Int) == 0)) with _ | _
    ·exact zK<|zK<|zK<|zK<|zK<|zE yD<|zM<|zZ
    ·exact zE (kK xC)<|zE (kK vM)<|zR (qH zU)<|zE (yA kJ)<|zE xL<|zE fL<|zM<|zZ
 refine jE ⟨_,(.tmp (d:=(.val (.bool ((((!x.num.neg&&!x.den.neg)&&(((x.num.gs.length:Nat):Int) == 0))&&(((x.den.gs.length:Nat):Int) == 0)))))) rfl .nil),?_⟩
 rfl
theorem h_hasR(a:jX)(p:Rat)(q:Rat)(hp:yB a.lo p 4294967296)(hq:yB a.hi q 4294967296)(x:kY)(v:Rat)(hx:yB x v 4294967296):jP prog 35 [(jG a),(jJ x)] (.val (.bool ((hasQ p q v)))):=by
 refine vD func35 ?_
 refine jB<|kx [(2,(.ref 0 0)),(3,(.ref 1 0))] [(0,some (bx (jG a))),(1,some (bx (jJ x)))] (zN (xD 0)<|zN (xD 1)<|zM<|zZ) ?_
 refine jB<|kx [(4,(vb (decide ((gE p v)<=0)&&decide ((gE v q)<=0))))] [] ?_ ?_
 ·refine zE (kK xP)<|zR (kP jT)<|zR (kP jT)<|zE (kB (bR a.lo x p v hp hx))<|zE oLe<|zE (oV (vb (decide ((gE p v)<=0))) (qA (by kernel_rfl)))<|?_
  rcases hb1:(decide ((gE p v)<=0)) with _ | _
  ·replace hb1:=vT hb1
   exact zK<|zK<|zK<|zK<|zK<|zE yD<|zM<|zZ
  ·replace hb1:=vF hb1
   exact zR (kP jT)<|zE (kK xF)<|zR (kP jT)<|zE (kB (bR x a.hi v q hx hq))<|zE oLe<|zE fL<|zM<|zZ
 refine jE ⟨_,(.tmp (d:=(.val (.bool ((decide ((gE p v)<=0)&&decide ((gE v q)<=0)))))) rfl .nil),?_⟩
 rw[<- hasQ_eq];rfl
theorem h_neg(a:jX)(p:Rat)(q:Rat)(hp:yB a.lo p 4294967296)(hq:yB a.hi q 4294967296):jP prog 101 [(jG a)] (jG (jX.mk (jM (-q)) (jM (-p)))):=by
 refine vD func101 ?_
 refine jB<|kx [(1,(.ref 0 0)),(2,(.ref 1 0))] [(0,some (bx (jG a))),(1,some (bx (jG (jX.mk qX qX))))] (zN (xD 0)<|zN (vB 1 uQ uV)<|zZ) ?_
 refine jB<|kd [] [(1,some (bx (jG (jX.mk (jM (-q)) (jM (-p))))))] mo (wE (kK xF)<|wR (kP jT)<|wE (kB (g_neg a.hi q (jO hq)))<|wE (kK xP)<|wR (kP jT)<|wE (kB (g_neg a.lo p (jO hp)))<|wE (iS pl42 uQ uV)<|wT (qL jW)<|wZ) ?_
 refine jE ⟨_,(kM (cs:=(bx (jG (jX.mk (jM (-q)) (jM (-p)))))) (d:=(jG (jX.mk (jM (-q)) (jM (-p))))) rfl rfl jW rfl rfl .nil),?_⟩
 rfl
theorem h_add(a:jX)(p:Rat)(q:Rat)(hp:yB a.lo p 1073741824)(hq:yB a.hi q 1073741824)(b:jX)(r:Rat)(s:Rat)(hr:yB b.lo r 1073741824)(hs:yB b.hi s 1073741824):jP prog 31 [(jG a),(jG b)] (jG (jX.mk (jM (p+r)) (jM (q+s)))):=by
 refine vD func31 ?_
 refine jB<|kx [(2,(.ref 0 0)),(3,(.ref 1 0)),(4,(.ref 2 0))] [(0,some (bx (jG a))),(1,some (bx (jG b))),(2,some (bx (jG (jX.mk qX qX))))] (zN (xD 0)<|zN (xD 1)<|zN (vB 2 uQ uV)<|zZ) ?_
 refine jB<|kd [] [(2,some (bx (jG (jX.mk (jM (p+r)) (jM (q+s))))))] mo (wE (kK xP)<|wR (kP jT)<|wE (kK xP)<|wR (kP jT)<|wE (kB (g_add a.lo b.lo p r (jO hp) (jO hr)))<|wE (kK xF)<|wR (kP jT)<|wE (kK xF)<|wR (kP jT)<|wE (kB (g_add a.hi b.hi q s (jO hq) (jO hs)))<|wE (iS pl42 uQ uV)<|wT (qL jW)<|wZ) ?_
 refine jE ⟨_,(kM (cs:=(bx (jG (jX.mk (jM (p+r)) (jM (q+s)))))) (d:=(jG (jX.mk (jM (p+r)) (jM (q+s))))) rfl rfl jW rfl rfl .nil),?_⟩
 rfl
theorem h_sub(a:jX)(p:Rat)(q:Rat)(hp:yB a.lo p 1073741824)(hq:yB a.hi q 1073741824)(b:jX)(r:Rat)(s:Rat)(hr:yB b.lo r 1073741824)(hs:yB b.hi s 1073741824):jP prog 99 [(jG a),(jG b)] (jG (jX.mk (jM (p-s)) (jM (q-r)))):=by
 refine vD func99 ?_
 refine jB<|kx [(2,(.ref 0 0)),(3,(.ref 1 0)),(4,(.ref 2 0))] [(0,some (bx (jG a))),(1,some (bx (jG b))),(2,some (bx (jG (jX.mk qX qX))))] (zN (xD 0)<|zN (xD 1)<|zN (vB 2 uQ uV)<|zZ) ?_
 refine jB<|kd [] [(2,some (bx (jG (jX.mk (jM (p+(-s))) (jM (q+(-r)))))))] mo (wR (kP jW)<|wR (kP jW)<|wE (kB (h_neg b r s (jO hr) (jO hs)))<|wE (kB (h_add a p q hp hq (jX.mk (jM (-s)) (jM (-r))) (-s) (-r) (jZ (ql_neg hs.ql)) (jZ (ql_neg hr.ql))))<|wT (qL jW)<|wZ) ?_
 refine jE ⟨_,(kM (cs:=(bx (jG (jX.mk (jM (p+(-s))) (jM (q+(-r))))))) (d:=(jG (jX.mk (jM (p+(-s))) (jM (q+(-r)))))) rfl rfl jW rfl rfl .nil),?_⟩
 rw[Rat.sub_eq_add_neg,Rat.sub_eq_add_neg];rfl
theorem h_mul(a:jX)(p:Rat)(q:Rat)(hp:yB a.lo p 2147483648)(hq:yB a.hi q 2147483648)(b:jX)(r:Rat)(s:Rat)(hr:yB b.lo r 2147483648)(hs:yB b.hi s 2147483648):jP prog 32 [(jG a),(jG b)] (jG (jX.mk (jM (mF (p*r) [(p*s),(q*r),(q*s)])) (jM (cC (p*r) [(p*s),(q*r),(q*s)])))):=by
 let y1:=(jG (jX.mk (jM (mF (p*r) [(p*s),(q*r),(q*s)])) (jM (cC (p*r) [(p*s),(q*r),(q*s)]))))
 refine vD func32 ?_
 refine jB<|kx [(2,(.ref 0 0)),(3,(.ref 1 0)),(4,(.ref 2 0))] [(0,some (bx (jG a))),(1,some (bx (jG b))),(2,some (bx (jG (jX.mk qX qX))))] (zN (xD 0)<|zN (xD 1)<|zN (vB 2 uQ uV)<|zZ) ?_
 refine jB<|kd [] [(2,some (bx y1))] mo (wE (kK xP)<|wR (kP jT)<|wE (kK xP)<|wR (kP jT)<|wE (kB (g_mul a.lo b.lo p r (jO hp) (jO hr)))<|wE (kK xP)<|wR (kP jT)<|wE (kK xF)<|wR (kP jT)<|wE (kB (g_mul a.lo b.hi p s (jO hp) (jO hs)))<|wE (kK xF)<|wR (kP jT)<|wE (kK xP)<|wR (kP jT)<|wE (kB (g_mul a.hi b.lo q r (jO hq) (jO hr)))<|wE (kK xF)<|wR (kP jT)<|wE (kK xF)<|wR (kP jT)<|wE (kB (g_mul a.hi b.hi q s (jO hq) (jO hs)))<|wE (fC uA uO vP)<|wE (kB (h_spanned (p*r) [(p*s),(q*r),(q*s)] (forall_mem_cons.2 ⟨(yH (k:=4294967296) hp.ql hr.ql),(forall_mem_cons.2 ⟨(yH (k:=4294967296) hp.ql hs.ql),(forall_mem_cons.2 ⟨(yH (k:=4294967296) hq.ql hr.ql),(forall_mem_cons.2 ⟨(yH (k:=4294967296) hq.ql hs.ql),(λa h=>by cases h)⟩)⟩)⟩)⟩) (by simp)))<|wT (qL jW)<|wZ) ?_
 refine jE ⟨_,(kM (cs:=(bx y1)) (d:=y1) rfl rfl jW rfl rfl .nil),?_⟩
 rfl
theorem h_square(a:jX)(p:Rat)(q:Rat)(hp:yB a.lo p 1073741824)(hq:yB a.hi q 1073741824):jP prog 102 [(jG a)] (jG (jX.mk (jM (sqL p q)) (jM (sqH p q)))):=by
 let y1:=(jG (jX.mk (jM (mF (p*p) [(q*q),((0:Int):Rat)])) (jM (cC (p*p) [(q*q),((0:Int):Rat)]))))
 refine vD func102 ?_
 refine jB<|kx [(1,(.ref 0 0)),(2,(.ref 1 0))] [(0,some (bx (jG a))),(1,some (bx (jG (jX.mk qX qX))))] (zN (xD 0)<|zN (vB 1 uQ uV)<|zZ) ?_
 refine jB<|kd [(3,(.own 2 32 4 2))] [(2,some (uD jJ [(jM (p*p)),(jM (q*q))]))] mo (wE (kK xP)<|wR (kP jT)<|wE (kK xP)<|wR (kP jT)<|wE (kB (g_mul a.lo a.lo p p (jO hp) (jO hp)))<|wE (kK xF)<|wR (kP jT)<|wE (kK xF)<|wR (kP jT)<|wE (kB (g_mul a.hi a.hi q q (jO hq) (jO hq)))<|wN (oBo 2 uA uO vP)<|wM<|wZ) ?_
 refine jB<|jB<|kd [(17,(vb (hasQ p q ((0:Int):Rat))))] [] mo (wR (kP jW)<|wE (kB (cM 0))<|wE (kB (h_hasR a p q (jO hp) (jO hq) (jM ((0:Int):Rat)) ((0:Int):Rat) (jO (jZ (vL (z:=0) (uB))))))<|wZ) ?_
 refine jD (b:=(hasQ p q ((0:Int):Rat))) rfl (λh1=>?_) (λh1=>?_)
 ·refine kf [(3,(.own 2 32 4 ([(jM (p*p)),(jM (q*q)),(jM ((0:Int):Rat))].length)))] [(2,some (uD jJ [(jM (p*p)),(jM (q*q)),(jM ((0:Int):Rat))]))] (zM<|zE (kB (cM 0))<|zE (fC uA uO vP)<|zAS jJ [(jM (p*p)),(jM (q*q))] [(jM ((0:Int):Rat))] rfl uA uO by32<|zM<|zF) ?_
  refine jB<|kS (xY (t:=3) (k:=2) (es:=map jJ [(jM (p*p)),(jM (q*q)),(jM ((0:Int):Rat))]) rfl rfl (gO _ _ (λ_=>rfl)) (vK _ _ rfl) (mA jJ [(jM (p*p)),(jM (q*q)),(jM ((0:Int):Rat))] (λ_=>rfl) rfl)) ?_
  refine kx [] [(1,some (bx y1))] (zM<|zE (kB (h_spanned (p*p) [(q*q),((0:Int):Rat)] (forall_mem_cons.2 ⟨(uG (yH (k:=2147483648) hp.ql hp.ql)),(forall_mem_cons.2 ⟨(uG (yH (k:=2147483648) hq.ql hq.ql)),(forall_mem_cons.2 ⟨(uG (vL (z:=0) (uB))),(λa h=>by cases h)⟩)⟩)⟩) (by simp)))<|zT (qL jW)<|zZ) ?_
  refine jE ⟨_,(kM (cs:=(bx y1)) (d:=y1) rfl rfl jW rfl rfl .nil),?_⟩
  rw[sq_hasL h1,sq_hasH];rfl
 ·refine jF<|jB<|kS (xY (t:=3) (k:=2) (es:=map jJ [(jM (p*p)),(jM (q*q))]) rfl rfl (gO _ _ (λ_=>rfl)) (vK _ _ rfl) (mA jJ [(jM (p*p)),(jM (q*q))] (λ_=>rfl) rfl)) ?_
  refine kx [] [(1,some (bx (jG (jX.mk (jM (mF (p*p) [(q*q)])) (jM (cC (p*p) [(q*q)]))))))] (zM<|zE (kB (h_spanned (p*p) [(q*q)] (forall_mem_cons.2 ⟨(uG (yH (k:=2147483648) hp.ql hp.ql)),(forall_mem_cons.2 ⟨(uG (yH (k:=2147483648) hq.ql hq.ql)),(λa h=>by cases h)⟩)⟩) (by simp)))<|zT (qL jW)<|zZ) ?_
  refine jE ⟨_,(kM (cs:=(bx (jG (jX.mk (jM (mF (p*p) [(q*q)])) (jM (cC (p*p) [(q*q)])))))) (d:=(jG (jX.mk (jM (mF (p*p) [(q*q)])) (jM (cC (p*p) [(q*q)]))))) rfl rfl jW rfl rfl .nil),?_⟩
  rw[sq_noL h1];rfl
theorem h_divideZ(p:Rat)(q:Rat)(hp:QL p 1073741824)(hq:QL q 1073741824)(hpq:p<=q)(r:Rat)(s:Rat)(hr:QL r 1073741824)(hs:QL s 1073741824)(hrs:r<=s)(hz:mU r s=true):jP prog 100 [(jG (jX.mk (jM p) (jM q))),(jG (jX.mk (jM r) (jM s)))] (.tup [(jG (jX.mk qX qX)),(.val (.int .i64 (14)))]):=by
 let y1:=(bx (jG (jX.mk qX qX)))
 refine vD func100 ?_
 refine jB<|kx [(2,(.ref 0 0)),(3,(.ref 1 0)),(4,(.ref 2 0))] [(0,some (bx (jG (jX.mk (jM p) (jM q))))),(1,some (bx (jG (jX.mk (jM r) (jM s))))),(2,some y1)] (zN (xD 0)<|zN (xD 1)<|zN (vB 2 uQ uV)<|zM<|zZ) ?_
 refine jB<|jB<|kd [(12,(vb true))] [] mo (wR (kP jW)<|wE (kB (cM 0))<|wE (nA true (kB (h_hasR (jX.mk (jM r) (jM s)) r s (jO (jZ hr)) (jO (jZ hs)) (jM ((0:Int):Rat)) ((0:Int):Rat) (jO (jZ (vL (z:=0) (uB)))))) (by exact hz))<|wZ) ?_
 refine yP ?_
 refine jB<|kx [(5,(kE 14))] [(2,some y1)] (zE (iS pl42 uQ uV)<|zT (qL jW)<|zM<|zZ) ?_
 refine jE ⟨_,(kM (cs:=y1) (d:=(jG (jX.mk qX qX))) rfl rfl jW rfl rfl (.tmp (d:=(.val (.int .i64 (14)))) rfl .nil)),?_⟩
 rfl
theorem h_divide(p:Rat)(q:Rat)(hp:QL p 1073741824)(hq:QL q 1073741824)(hpq:p<=q)(r:Rat)(s:Rat)(hr:QL r 1073741824)(hs:QL s 1073741824)(hrs:r<=s)(hz:mU r s=false):jP prog 100 [(jG (jX.mk (jM p) (jM q))),(jG (jX.mk (jM r) (jM s)))] (.tup [(jG (jX.mk (jM (mF (p / r) [(p / s),(q / r),(q / s)])) (jM (cC (p / r) [(p / s),(q / r),(q / s)])))),(.val (.int .i64 (0)))]):=by
 obtain ⟨hr0,hs0⟩:=zeroG_ne hrs hz
 let y2:=(jG (jX.mk (jM (mF (p*(((1:Int):Rat) / s)) [(p*(((1:Int):Rat) / r)),(q*(((1:Int):Rat) / s)),(q*(((1:Int):Rat) / r))])) (jM (cC (p*(((1:Int):Rat) / s)) [(p*(((1:Int):Rat) / r)),(q*(((1:Int):Rat) / s)),(q*(((1:Int):Rat) / r))]))))
 let y1:=(bx y2)
 refine vD func100 ?_
 refine jB<|kx [(2,(.ref 0 0)),(3,(.ref 1 0)),(4,(.ref 2 0))] [(0,some (bx (jG (jX.mk (jM p) (jM q))))),(1,some (bx (jG (jX.mk (jM r) (jM s))))),(2,some (bx (jG (jX.mk qX qX))))] (zN (xD 0)<|zN (xD 1)<|zN (vB 2 uQ uV)<|zM<|zZ) ?_
 refine jB<|jB<|kd [(12,(vb false))] [] mo (wR (kP jW)<|wE (kB (cM 0))<|wE (nA false (kB (h_hasR (jX.mk (jM r) (jM s)) r s (jO (jZ hr)) (jO (jZ hs)) (jM ((0:Int):Rat)) ((0:Int):Rat) (jO (jZ (vL (z:=0) (uB)))))) (by exact hz))<|wZ) ?_
 refine uI ?_
 refine jF<|jB<|kd [(6,(.ref 3 0))] [(3,some (bx (jJ (jM (((1:Int):Rat) / s)))))] mo (wE (kB (cM 1))<|wE (kK xF)<|wR (kP jT)<|wE (kB (by have h:=g_divide (jM ((1:Int):Rat)) (jM s) ((1:Int):Rat) s (jO (jZ (vL (z:=1) (uB)))) (jO (jZ hs));rw[divR_ne hs0,divC_ne hs0] at h;exact h))<|wM<|wE zP<|wE zP<|wN (vB 3 uO vP)<|wT (qL jT)<|wM<|wZ) ?_
 refine jB<|kd [(8,(.ref 4 0))] [(4,some (bx (jJ (jM (((1:Int):Rat) / r)))))] mo (wE (kB (cM 1))<|wE (kK xP)<|wR (kP jT)<|wE (kB (by have h:=g_divide (jM ((1:Int):Rat)) (jM r) ((1:Int):Rat) r (jO (jZ (vL (z:=1) (uB)))) (jO (jZ hr));rw[divR_ne hr0,divC_ne hr0] at h;exact h))<|wM<|wE zP<|wE zP<|wN (vB 4 uO vP)<|wT (qL jT)<|wM<|wZ) ?_
 refine jB<|kx [(5,(kE 0))] [(2,some y1)] (zR (kP jW)<|zR (kP jT)<|zR (kP jT)<|zE (iS pl42 uQ uV)<|zE (kB (h_mul (jX.mk (jM p) (jM q)) p q (jO (jZ hp)) (jO (jZ hq)) (jX.mk (jM (((1:Int):Rat) / s)) (jM (((1:Int):Rat) / r))) (((1:Int):Rat) / s) (((1:Int):Rat) / r) (jO (jZ (ql_div (k:=1073741825) (vL (z:=1) (uB)) hs))) (jO (jZ (ql_div (k:=1073741825) (vL (z:=1) (uB)) hr)))))<|zT (qL jW)<|zM<|zZ) ?_
 refine jE ⟨_,(kM (cs:=y1) (d:=y2) rfl rfl jW rfl rfl (.tmp (d:=(.val (.int .i64 (0)))) rfl .nil)),?_⟩
 rw[<- recip_lo,<- recip_hi];rfl
theorem cD(h107:107≠1000000)(x:jX):yS 1000000 (jG x):=.agg (eQ (.val _) (eQ (avo_vals h107 _) (eQ (.val _) (eQ (avo_vals h107 _) (eQ (.val _) (eQ (avo_vals h107 _) (eQ (.val _) (eQ (avo_vals h107 _) avo_nil))))))))
abbrev eU (n k:Nat) (L:List JV) (b:Bool):List SV:=[(kE n),(kE 1),(vi (-1)),(.own k 46 10 ((map nI L).length)),(vb b)]
abbrev eT (L:List JV):List SV:=uD jR (map nI L)
abbrev mcA (n:Nat) (x:jY) (b:Bool):jY:=.agg [(.val (.int .i64 ((n:Nat):Int))),(.val (.int .i64 ((1:Nat):Int))),(.val (.int .i64 (-1))),x,(.val (.bool b))]
theorem gl_ite{c:Prop}[Decidable c]{a b:R2}{n:Nat}(ha:GL n a)(hb:GL n b):GL n (if c then a else b):=by
 split
 ·exact ha
 ·exact hb
theorem j_whole(z:Int)(hz1:-9223372036854775808<=z)(hz2:z<=9223372036854775807):jP prog 120 [(.val (.int .i64 (z)))] (jG (kF (gw z))):=by
 refine vD func120 ?_
 refine jB<|kx [(2,(.ref 0 0))] [(0,some (bx (jG (jX.mk qX qX))))] (zN (vB 0 uQ uV)<|zZ) ?_
 refine jB<|kx [] [(0,some (bx (jG (jX.mk (jM ((z:Int):Rat)) (jM ((z:Int):Rat))))))] (zM<|zE (kB (aV z (by omega) (by omega)))<|zM<|zE (kB (aV z (by omega) (by omega)))<|zE (iS pl42 uQ uV)<|zT (qL jW)<|zZ) ?_
 refine jE ⟨_,(kM (cs:=(bx (jG (jX.mk (jM ((z:Int):Rat)) (jM ((z:Int):Rat)))))) (d:=(jG (jX.mk (jM ((z:Int):Rat)) (jM ((z:Int):Rat))))) rfl rfl jW rfl rfl .nil),?_⟩
 rfl
theorem j_add(a:R2)(ha:GL 67108864 a)(b:R2)(hb:GL 67108864 b):jP prog 131 [(jG (kF a)),(jG (kF b))] (jG (kF (qE a b))):=by
 refine vD func131 ?_
 refine jB<|kx [(2,(.ref 0 0)),(3,(.ref 1 0)),(4,(.ref 2 0))] [(0,some (bx (jG (kF a)))),(1,some (bx (jG (kF b)))),(2,some (bx (jG (jX.mk qX qX))))] (zN (xD 0)<|zN (xD 1)<|zN (vB 2 uQ uV)<|zZ) ?_
 refine jB<|kx [(5,(.ref 3 0))] [(3,some (bx (jG (jX.mk (jM (a.1+b.1)) (jM (a.2+b.2))))))] (zR (kP jW)<|zR (kP jW)<|zE (kB (i_add a.1 a.2 b.1 b.2 (uG ha.1) (uG ha.2.1) (uG hb.1) (uG hb.2.1) ha.2.2 hb.2.2))<|zM<|zE zP<|zE zP<|zN (vB 3 uQ uV)<|zT (qL jW)<|zM<|zZ) ?_
 refine jB<|kx [] [(2,some (bx (jG (jX.mk (jM (a.1+b.1)) (jM (a.2+b.2))))))] (zR (kP jW)<|zT (qL jW)<|zZ) ?_
 refine jE ⟨_,(kM (cs:=(bx (jG (jX.mk (jM (a.1+b.1)) (jM (a.2+b.2)))))) (d:=(jG (jX.mk (jM (a.1+b.1)) (jM (a.2+b.2))))) rfl rfl jW rfl rfl .nil),?_⟩
 rfl
theorem j_mul(a:R2)(ha:GL 67108864 a)(b:R2)(hb:GL 67108864 b):jP prog 135 [(jG (kF a)),(jG (kF b))] (jG (kF (kL a b))):=by
 let y1:=(bx (jG (jX.mk (jM (mF (a.1*b.1) [(a.1*b.2),(a.2*b.1),(a.2*b.2)])) (jM (cC (a.1*b.1) [(a.1*b.2),(a.2*b.1),(a.2*b.2)])))))
 refine vD func135 ?_
 refine jB<|kx [(2,(.ref 0 0)),(3,(.ref 1 0)),(4,(.ref 2 0))] [(0,some (bx (jG (kF a)))),(1,some (bx (jG (kF b)))),(2,some (bx (jG (jX.mk qX qX))))] (zN (xD 0)<|zN (xD 1)<|zN (vB 2 uQ uV)<|zZ) ?_
 refine jB<|kx [(5,(.ref 3 0))] [(3,some y1)] (zR (kP jW)<|zR (kP jW)<|zE (kB (i_mul a.1 a.2 b.1 b.2 (uG ha.1) (uG ha.2.1) (uG hb.1) (uG hb.2.1) ha.2.2 hb.2.2))<|zM<|zE zP<|zE zP<|zN (vB 3 uQ uV)<|zT (qL jW)<|zM<|zZ) ?_
 refine jB<|kx [] [(2,some y1)] (zR (kP jW)<|zT (qL jW)<|zZ) ?_
 refine jE ⟨_,(kM (cs:=y1) (d:=(jG (jX.mk (jM (mF (a.1*b.1) [(a.1*b.2),(a.2*b.1),(a.2*b.2)])) (jM (cC (a.1*b.1) [(a.1*b.2),(a.2*b.1),(a.2*b.2)]))))) rfl rfl jW rfl rfl .nil),?_⟩
 rfl
theorem j_sq(a:R2)(ha:GL 67108864 a):jP prog 139 [(jG (kF a))] (jG (kF (gsq a))):=by
 refine vD func139 ?_
 refine jB<|kx [(1,(.ref 0 0)),(2,(.ref 1 0))] [(0,some (bx (jG (kF a)))),(1,some (bx (jG (jX.mk qX qX))))] (zN (xD 0)<|zN (vB 1 uQ uV)<|zZ) ?_
 refine jB<|kx [(3,(.ref 2 0))] [(2,some (bx (jG (jX.mk (jM (sqL a.1 a.2)) (jM (sqH a.1 a.2))))))] (zR (kP jW)<|zE (kB (i_square a.1 a.2 (uG ha.1) (uG ha.2.1) ha.2.2))<|zM<|zE zP<|zE zP<|zN (vB 2 uQ uV)<|zT (qL jW)<|zM<|zZ) ?_
 refine jB<|kx [] [(1,some (bx (jG (jX.mk (jM (sqL a.1 a.2)) (jM (sqH a.1 a.2))))))] (zR (kP jW)<|zT (qL jW)<|zZ) ?_
 refine jE ⟨_,(kM (cs:=(bx (jG (jX.mk (jM (sqL a.1 a.2)) (jM (sqH a.1 a.2)))))) (d:=(jG (jX.mk (jM (sqL a.1 a.2)) (jM (sqH a.1 a.2))))) rfl rfl jW rfl rfl .nil),?_⟩
 rfl
theorem j_kids(o:Int):jP prog 111 [(.val (.int .i64 (o)))] (.val (.int .i64 ((qB o)))):=by
 refine vD func111 ?_
 refine jB<|kx [] [] (zM<|zZ) ?_
 refine jB<|jB<|kx [(3,(vi o))] [] (zM<|zZ) ?_
 refine jH<|jB<|jB<|kx [(4,(vb (o == 0)))] [] (zE xL<|zM<|zZ) ?_
 refine jD (b:=(o == 0)) rfl (λh1=>?_) (λh1=>?_)
 ·replace h1:=eq_of_beq h1
  refine jF<|jD rfl (λ_=>?_) (λh=>absurd (Eq.trans (Eq.symm (show ((o == 0))=true from beq_iff_eq.2 h1)) h) (by decide))
  refine jB<|kx [(2,(kE 0))] [] (zM<|zZ) ?_
  refine jE ⟨_,(.tmp (d:=(.val (.int .i64 (0)))) rfl .nil),?_⟩
  show jY.val (.int .i64 _)=_
  unfold qB;simp [*]
 ·replace h1:=ne_of_beq_false h1
  refine kx [(4,(vb (o == 1)))] [] (zE xL<|zM<|zZ) ?_
  refine jD (b:=(o == 1)) rfl (λh2=>?_) (λh2=>?_)
  ·replace h2:=eq_of_beq h2
   refine jB<|kx [(2,(kE 0))] [] (zM<|zZ) ?_
   refine jE ⟨_,(.tmp (d:=(.val (.int .i64 (0)))) rfl .nil),?_⟩
   show jY.val (.int .i64 _)=_
   unfold qB;simp [*]
  ·replace h2:=ne_of_beq_false h2
   refine jB<|jB<|kx [(7,(vb (o == 6)))] [] (zE xL<|zM<|zZ) ?_
   refine jD (b:=(o == 6)) rfl (λh3=>?_) (λh3=>?_)
   ·replace h3:=eq_of_beq h3
    refine jF<|jD rfl (λ_=>?_) (λh=>absurd (Eq.trans (Eq.symm (show ((o == 6))=true from beq_iff_eq.2 h3)) h) (by decide))
    refine jB<|kx [(2,(kE 1))] [] (zM<|zZ) ?_
    refine jE ⟨_,(.tmp (d:=(.val (.int .i64 (1)))) rfl .nil),?_⟩
    show jY.val (.int .i64 _)=_
    unfold qB;simp [*]
   ·replace h3:=ne_of_beq_false h3
    refine kx [(7,(vb (o == 7)))] [] (zE xL<|zM<|zZ) ?_
    refine jD (b:=(o == 7)) rfl (λh4=>?_) (λh4=>?_)
    ·replace h4:=eq_of_beq h4
     refine jB<|kx [(2,(kE 1))] [] (zM<|zZ) ?_
     refine jE ⟨_,(.tmp (d:=(.val (.int .i64 (1)))) rfl .nil),?_⟩
     show jY.val (.int .i64 _)=_
     unfold qB;simp [*]
    ·replace h4:=ne_of_beq_false h4
     refine jB<|jB<|kx [(10,(vb (o == 2)))] [] (zE xL<|zM<|zZ) ?_
     refine jD (b:=(o == 2)) rfl (λh5=>?_) (λh5=>?_)
     ·replace h5:=eq_of_beq h5
      refine jF<|jD rfl (λ_=>?_) (λh=>absurd (Eq.trans (Eq.symm (show ((o == 2))=true from beq_iff_eq.2 h5)) h) (by decide))
      refine jB<|kx [(2,(kE 2))] [] (zM<|zZ) ?_
      refine jE ⟨_,(.tmp (d:=(.val (.int .i64 (2)))) rfl .nil),?_⟩
      show jY.val (.int .i64 _)=_
      unfold qB;simp [*]
     ·replace h5:=ne_of_beq_false h5
      refine jB<|kx [(10,(vb (o == 3)))] [] (zE xL<|zM<|zZ) ?_
      refine jD (b:=(o == 3)) rfl (λh6=>?_) (λh6=>?_)
      ·replace h6:=eq_of_beq h6
       refine jF<|jD rfl (λ_=>?_) (λh=>absurd (Eq.trans (Eq.symm (show ((o == 3))=true from beq_iff_eq.2 h6)) h) (by decide))
       refine jB<|kx [(2,(kE 2))] [] (zM<|zZ) ?_
       refine jE ⟨_,(.tmp (d:=(.val (.int .i64 (2)))) rfl .nil),?_⟩
       show jY.val (.int .i64 _)=_
       unfold qB;simp [*]
      ·replace h6:=ne_of_beq_false h6
       refine jB<|kx [(10,(vb (o == 4)))] [] (zE xL<|zM<|zZ) ?_
       refine jD (b:=(o == 4)) rfl (λh7=>?_) (λh7=>?_)
       ·replace h7:=eq_of_beq h7
        refine jF<|jD rfl (λ_=>?_) (λh=>absurd (Eq.trans (Eq.symm (show ((o == 4))=true from beq_iff_eq.2 h7)) h) (by decide))
        refine jB<|kx [(2,(kE 2))] [] (zM<|zZ) ?_
        refine jE ⟨_,(.tmp (d:=(.val (.int .i64 (2)))) rfl .nil),?_⟩
        show jY.val (.int .i64 _)=_
        unfold qB;simp [*]
       ·replace h7:=ne_of_beq_false h7
        refine kx [(10,(vb (o == 5)))] [] (zE xL<|zM<|zZ) ?_
        refine jD (b:=(o == 5)) rfl (λh8=>?_) (λh8=>?_)
        ·replace h8:=eq_of_beq h8
         refine jB<|kx [(2,(kE 2))] [] (zM<|zZ) ?_
         refine jE ⟨_,(.tmp (d:=(.val (.int .i64 (2)))) rfl .nil),?_⟩
         show jY.val (.int .i64 _)=_
         unfold qB;simp [*]
        ·replace h8:=ne_of_beq_false h8
         refine jF<|jB<|kx [(2,(vi (-1)))] [] (zM<|zZ) ?_
         refine jE ⟨_,(.tmp (d:=(.val (.int .i64 (-1)))) rfl .nil),?_⟩
         show jY.val (.int .i64 _)=_
         unfold qB;simp [*]
theorem r_kids(o:Int):jP prog 55 [(.val (.int .i64 (o)))] (.val (.int .i64 ((qB o)))):=by
 refine vD func55 ?_
 refine jB<|kx [] [] (zM<|zZ) ?_
 refine jB<|jB<|kx [(3,(vi o))] [] (zM<|zZ) ?_
 refine jH<|jB<|jB<|kx [(4,(vb (o == 0)))] [] (zE xL<|zM<|zZ) ?_
 refine jD (b:=(o == 0)) rfl (λh1=>?_) (λh1=>?_)
 ·replace h1:=eq_of_beq h1
  refine jF<|jD rfl (λ_=>?_) (λh=>absurd (Eq.trans (Eq.symm (show ((o == 0))=true from beq_iff_eq.2 h1)) h) (by decide))
  refine jB<|kx [(2,(kE 0))] [] (zM<|zZ) ?_
  refine jE ⟨_,(.tmp (d:=(.val (.int .i64 (0)))) rfl .nil),?_⟩
  show jY.val (.int .i64 _)=_
  unfold qB;simp [*]
 ·replace h1:=ne_of_beq_false h1
  refine kx [(4,(vb (o == 1)))] [] (zE xL<|zM<|zZ) ?_
  refine jD (b:=(o == 1)) rfl (λh2=>?_) (λh2=>?_)
  ·replace h2:=eq_of_beq h2
   refine jB<|kx [(2,(kE 0))] [] (zM<|zZ) ?_
   refine jE ⟨_,(.tmp (d:=(.val (.int .i64 (0)))) rfl .nil),?_⟩
   show jY.val (.int .i64 _)=_
   unfold qB;simp [*]
  ·replace h2:=ne_of_beq_false h2
   refine jB<|jB<|kx [(7,(vb (o == 6)))] [] (zE xL<|zM<|zZ) ?_
   refine jD (b:=(o == 6)) rfl (λh3=>?_) (λh3=>?_)
   ·replace h3:=eq_of_beq h3
    refine jF<|jD rfl (λ_=>?_) (λh=>absurd (Eq.trans (Eq.symm (show ((o == 6))=true from beq_iff_eq.2 h3)) h) (by decide))
    refine jB<|kx [(2,(kE 1))] [] (zM<|zZ) ?_
    refine jE ⟨_,(.tmp (d:=(.val (.int .i64 (1)))) rfl .nil),?_⟩
    show jY.val (.int .i64 _)=_
    unfold qB;simp [*]
   ·replace h3:=ne_of_beq_false h3
    refine kx [(7,(vb (o == 7)))] [] (zE xL<|zM<|zZ) ?_
    refine jD (b:=(o == 7)) rfl (λh4=>?_) (λh4=>?_)
    ·replace h4:=eq_of_beq h4
     refine jB<|kx [(2,(kE 1))] [] (zM<|zZ) ?_
     refine jE ⟨_,(.tmp (d:=(.val (.int .i64 (1)))) rfl .nil),?_⟩
     show jY.val (.int .i64 _)=_
     unfold qB;simp [*]
    ·replace h4:=ne_of_beq_false h4
     refine jB<|jB<|kx [(10,(vb (o == 2)))] [] (zE xL<|zM<|zZ) ?_
     refine jD (b:=(o == 2)) rfl (λh5=>?_) (λh5=>?_)
     ·replace h5:=eq_of_beq h5
      refine jF<|jD rfl (λ_=>?_) (λh=>absurd (Eq.trans (Eq.symm (show ((o == 2))=true from beq_iff_eq.2 h5)) h) (by decide))
      refine jB<|kx [(2,(kE 2))] [] (zM<|zZ) ?_
      refine jE ⟨_,(.tmp (d:=(.val (.int .i64 (2)))) rfl .nil),?_⟩
      show jY.val (.int .i64 _)=_
      unfold qB;simp [*]
     ·replace h5:=ne_of_beq_false h5
      refine jB<|kx [(10,(vb (o == 3)))] [] (zE xL<|zM<|zZ) ?_
      refine jD (b:=(o == 3)) rfl (λh6=>?_) (λh6=>?_)
      ·replace h6:=eq_of_beq h6
       refine jF<|jD rfl (λ_=>?_) (λh=>absurd (Eq.trans (Eq.symm (show ((o == 3))=true from beq_iff_eq.2 h6)) h) (by decide))
       refine jB<|kx [(2,(kE 2))] [] (zM<|zZ) ?_
       refine jE ⟨_,(.tmp (d:=(.val (.int .i64 (2)))) rfl .nil),?_⟩
       show jY.val (.int .i64 _)=_
       unfold qB;simp [*]
      ·replace h6:=ne_of_beq_false h6
       refine jB<|kx [(10,(vb (o == 4)))] [] (zE xL<|zM<|zZ) ?_
       refine jD (b:=(o == 4)) rfl (λh7=>?_) (λh7=>?_)
       ·replace h7:=eq_of_beq h7
        refine jF<|jD rfl (λ_=>?_) (λh=>absurd (Eq.trans (Eq.symm (show ((o == 4))=true from beq_iff_eq.2 h7)) h) (by decide))
        refine jB<|kx [(2,(kE 2))] [] (zM<|zZ) ?_
        refine jE ⟨_,(.tmp (d:=(.val (.int .i64 (2)))) rfl .nil),?_⟩
        show jY.val (.int .i64 _)=_
        unfold qB;simp [*]
       ·replace h7:=ne_of_beq_false h7
        refine kx [(10,(vb (o == 5)))] [] (zE xL<|zM<|zZ) ?_
        refine jD (b:=(o == 5)) rfl (λh8=>?_) (λh8=>?_)
        ·replace h8:=eq_of_beq h8
         refine jB<|kx [(2,(kE 2))] [] (zM<|zZ) ?_
         refine jE ⟨_,(.tmp (d:=(.val (.int .i64 (2)))) rfl .nil),?_⟩
         show jY.val (.int .i64 _)=_
         unfold qB;simp [*]
        ·replace h8:=ne_of_beq_false h8
         refine jF<|jB<|kx [(2,(vi (-1)))] [] (zM<|zZ) ?_
         refine jE ⟨_,(.tmp (d:=(.val (.int .i64 (-1)))) rfl .nil),?_⟩
         show jY.val (.int .i64 _)=_
         unfold qB;simp [*]
theorem jok_at{L:List JV}{N n a:Nat}(h:∀ x∈L,aW N n x)(ha:a<L.length):aW N n (L.getD a jz):=by
 rw[getD_eq_getElem?_getD,getElem?_eq_getElem ha];exact h _ (getElem_mem _)
def gR(N:Nat)(t:List jS):Prop:=∀ x∈t,yB x.n (qS x.n) N
theorem tn_get{N:Nat}{t:List jS}(h:gR N t){k:Nat}(hk:k<t.length):yB (t.getD k tz).n (qS (t.getD k tz).n) N:=by
 rw[getD_eq_getElem?_getD,getElem?_eq_getElem hk];exact h _ (getElem_mem _)
theorem tn_up{M N:Nat}{t:List jS}(h:gR M t)(hm:M<=N:=by decide):gR N t:=λx hx=>jO (h x hx) hm
theorem j_unset(x:kY)(p:Rat)(hx:yB x p 1048576):jP prog 148 [(jJ x)] (.val (.bool ((unsB x)))):=by
 refine vD func148 ?_
 refine jB<|kx [(1,(.ref 0 0))] [(0,some (bx (jJ x)))] (zN (xD 0)<|zM<|zZ) ?_
 refine jB<|kx [(2,(vb (((!x.num.neg&&!x.den.neg)&&(((x.num.gs.length:Nat):Int) == 0))&&(((x.den.gs.length:Nat):Int) == 0))))] [] ?_ ?_
 ·refine zE (kK zW)<|zE (kK vN)<|zR (qH aT)<|zE cU<|zE (oV (vb (!x.num.neg)) (qA (by kernel_rfl)))<|?_
  rcases hb1:(!x.num.neg) with _ | _
  ·exact zK<|zK<|zK<|zK<|zE yD<|zM<|zK<|zK<|zK<|zK<|zK<|zE yD<|zM<|zK<|zK<|zK<|zK<|zK<|zE yD<|zM<|zZ
  ·refine zE (kK xC)<|zE (kK vN)<|zR (qH aT)<|zE cU<|zE fL<|zE (oV (vb (true&&!x.den.neg)) (qA (by kernel_rfl)))<|?_
   rcases hb2:(true&&!x.den.neg) with _ | _
   ·exact zK<|zK<|zK<|zK<|zK<|zE yD<|zM<|zK<|zK<|zK<|zK<|zK<|zE yD<|zM<|zZ
   ·refine zE (kK zW)<|zE (kK vM)<|zR (qH zU)<|zE (yA kJ)<|zE xL<|zE fL<|zE (oV (vb (true&&(((x.num.gs.length:Nat):Int) == 0))) (qA (by kernel_rfl)))<|?_
    rcases hb3:(true&&(((x.num.gs.length:Nat):Int) == 0)) with _ | _
    ·exact zK<|zK<|zK<|zK<|zK<|zE yD<|zM<|zZ
    ·exact zE (kK xC)<|zE (kK vM)<|zR (qH zU)<|zE (yA kJ)<|zE xL<|zE fL<|zM<|zZ
 refine jE ⟨_,(.tmp (d:=(.val (.bool ((((!x.num.neg&&!x.den.neg)&&(((x.num.gs.length:Nat):Int) == 0))&&(((x.den.gs.length:Nat):Int) == 0)))))) rfl .nil),?_⟩
 rfl
theorem by3:zJ prog 3=some 8:=by kernel_rfl
theorem by72:zJ prog 72=some 88:=by kernel_rfl
theorem cb67:callB prog 67=true:=by kernel_rfl
theorem cb110:callB prog 110=true:=by kernel_rfl
theorem zY:uU prog 23=some (72,7):=by kernel_rfl
theorem uR:uU prog 74=some (3,1):=by kernel_rfl
theorem eqa130:eqaB prog 130=some 3:=by kernel_rfl
theorem xN:uX prog 72 0=some 0:=by kernel_rfl
theorem mL:uX prog 72 3=some 3:=by kernel_rfl
theorem aR:uX prog 103 0=some 0:=by kernel_rfl
theorem fo103_3:uX prog 103 3=some 3:=by kernel_rfl
theorem fo103_4:uX prog 103 4=some 4:=by kernel_rfl
theorem sh23:qD prog 23=some (false,1):=by kernel_rfl
theorem cN:qD prog 55=some (false,1):=by kernel_rfl
theorem cT:qD prog 72=some (true,7):=by kernel_rfl
theorem sh74:qD prog 74=some (false,1):=by kernel_rfl
theorem sk9:strKB prog 9=true:=by kernel_rfl
theorem dW:xH prog 72=some [.int .i64 0,.int .i64 0,.int .i64 0,.bool false,.slice none 0 0,.bool false,.slice none 0 0]:=by kernel_rfl
theorem fZ:eO [.int .i64 0,.int .i64 0,.int .i64 0,.bool false,.slice none 0 0,.bool false,.slice none 0 0] [.val (.int .i64 0),.val (.int .i64 0),.val (.int .i64 0),.val (.bool false),.sl 107 1 [],.val (.bool false),.sl 107 1 []]:=by simp [eO,Value.oneCell']
theorem e_add(x:jS)(z:Int)(B:uT)(hB:RBI B):yG prog 110 [(.ref 0 0),(.d (jN x)),(vi z)] [(0,some [(.own 1 72 7 B.tm.length),(.mp 2),(.mp 3),(.own 4 3 1 B.us.length),(vb B.ov)]),(1,some (uD jN B.tm)),(2,some [.mo (vG mS vZ B.kn)]),(3,some [.mo (vG mY vZ B.os)]),(4,some (bm jL B.us))] (.d (.val (.int .i64 ((qR B x z).2)))) [(0,some [(.own 1 72 7 (((qR B x z).1).tm.length)),(.mp 2),(.mp 3),(.own 4 3 1 (((qR B x z).1).us.length)),(vb (((qR B x z).1).ov))]),(1,some (uD jN (((qR B x z).1).tm))),(2,some [.mo (vG mS vZ (((qR B x z).1).kn))]),(3,some [.mo (vG mY vZ (((qR B x z).1).os))]),(4,some (bm jL (((qR B x z).1).us)))]:=by
 have hbl:=hB.hl
 have hbu:=hB.hu
 refine gW func110 rfl cb110 rfl ?_
 refine jB<|kx [(4,(.ref 5 0))] [(5,some (bx (jN x)))] (zH (xD 5)<|zM<|zZ) ?_
 refine jB<|jB<|kx [(16,(vb (decide (4096<z)||decide (400<=((B.tm.length:Nat):Int)))))] [] ?_ ?_
 ·refine zM<|zE eR<|zE (oV (vb (decide (4096<z))) (qA (by kernel_rfl)))<|?_
  rcases hb1:(decide (4096<z)) with _ | _
  ·replace hb1:=vT hb1
   exact zM<|zE oNc<|zE (kK aR)<|zR (qH sh23)<|zE (oLo zY)<|zE oGe<|zE aK<|zZ
  ·replace hb1:=vF hb1
   exact zK<|zK<|zK<|zK<|zK<|zK<|zE nO<|zZ
 refine jD rfl (λh2=>?_) (λh2=>?_)
 ·refine jB<|kx [] [(0,some [(.own 1 72 7 B.tm.length),(.mp 2),(.mp 3),(.own 4 3 1 B.us.length),(vb true)])] (zM<|zE oNc<|zE (kK fo103_4)<|zT (qL aT)<|zZ) ?_
  refine jB<|kx [(6,(kE 0))] [] (zM<|zZ) ?_
  rw[bAdd_t (B:=B) (x:=x) (z:=z) h2]
  refine jE ⟨vR (by kernel_rfl),xX (by kernel_rfl),.inl ⟨_,(.tmp (d:=(.val (.int .i64 (0)))) rfl .nil),?_⟩⟩
  rfl
 ·have hlt:B.tm.length<400:=by have h9:=(Bool.or_eq_false_iff.1 h2).2;rw[decide_eq_false_iff_not] at h9;omega
  refine jF<|jB<|kd [] [(0,some [(.own 6 72 7 ((B.tm++[x]).length)),(.mp 2),(.mp 3),(.own 4 3 1 B.us.length),(vb B.ov)]),(6,some (uD jN (B.tm++[x]))),(1,none)] mo (wM<|wM<|wE oNc<|wE (kK aR)<|wR (qH sh23)<|wR (kP cT)<|wE (fC zY dW fZ)<|wAS (k:=1) 6 jN B.tm [x] rfl zY dW by72<|wE oNc<|wE (kK aR)<|wT (oSx sh23)<|wZ) ?_
  refine kS (wk (l:=[(0,(.ref 0 0)),(2,(vi z))]) (b:=[(0,some [(.own 6 72 7 ((B.tm++[x]).length)),(.mp 2),(.mp 3),(.own 4 3 1 B.us.length),(vb B.ov)]),(2,some [.mo (vG mS vZ B.kn)]),(3,some [.mo (vG mY vZ B.os)]),(4,some (bm jL B.us)),(6,some (uD jN (B.tm++[x])))])) ?_
  refine kS (sim_ren2 (S':=[(0,(.ref 0 0)),(2,(vi z))]) (B':=[(0,some [(.own 1 72 7 ((B.tm++[x]).length)),(.mp 2),(.mp 3),(.own 4 3 1 B.us.length),(vb B.ov)]),(1,some (uD jN (B.tm++[x]))),(2,some [.mo (vG mS vZ B.kn)]),(3,some [.mo (vG mY vZ B.os)]),(4,some (bm jL B.us))]) 1 6 0) ?_
  refine jB<|kf [] [(0,some [(.own 1 72 7 ((B.tm++[x]).length)),(.mp 2),(.mp 3),(.own 4 3 1 ((B.us++[z]).length)),(vb B.ov)]),(4,some (bm jL (B.us++[z])))] (zM<|zM<|zE oNc<|zE (kK fo103_3)<|zR (qH sh74)<|zM<|zE (fC uR ze3 zo3)<|zAm 0 3 jL B.us [z] rfl uR ze3 by3 (hB:=by repeat first | exact clrn_nil _ _ | refine clrn_hide ?_ | refine clrn_self ?_ | refine clrn_map ?_ | refine clrn_none ?_ | refine clrn_bx ?_ | refine clrn_d ?_ | refine clrn_cons rfl ?_) (k:=4)<|zE oNc<|zE (kK fo103_3)<|zT (oSx sh74)<|zF) ?_
  refine jB<|kx [(6,(kE B.tm.length))] [] (zM<|zE oNc<|zE (kK aR)<|zR (qH sh23)<|zE (oLo zY)<|zE (oSb B.tm.length (hr:=by exact (by rw[length_append,length_singleton];exact wNat (by omega) (by simp only[kHiN];omega) (by decide))))<|zM<|zZ) ?_
  rw[bAdd_f (B:=B) (x:=x) (z:=z) h2]
  refine jE ⟨vR (by kernel_rfl),xX (by kernel_rfl),.inl ⟨_,(.tmp (d:=(.val (.int .i64 (((B.tm.length:Nat):Int))))) rfl .nil),?_⟩⟩
  rfl
theorem e_is(i:Int)(n:Int)(B:uT)(hB:RBI B)(hi:gV B i)(hn1:-9223372036854775808<=n)(hn2:n<=9223372036854775807):yG prog 67 [(.ref 0 0),(vi i),(vi n)] [(0,some [(.own 1 72 7 B.tm.length),(.mp 2),(.mp 3),(.own 4 3 1 B.us.length),(vb B.ov)]),(1,some (uD jN B.tm)),(2,some [.mo (vG mS vZ B.kn)]),(3,some [.mo (vG mY vZ B.os)]),(4,some (bm jL B.us))] (.d (.val (.bool ((bIs B i n))))) [(0,some [(.own 1 72 7 B.tm.length),(.mp 2),(.mp 3),(.own 4 3 1 B.us.length),(vb B.ov)]),(1,some (uD jN B.tm)),(2,some [.mo (vG mS vZ B.kn)]),(3,some [.mo (vG mY vZ B.os)]),(4,some (bm jL B.us))]:=by
 have hbl:=hB.hl
 have hi0:=hi.1
 have hi1:=hi.2
 refine gW func67 rfl cb67 rfl ?_
 refine jB<|kx [] [] (zM<|zZ) ?_
 refine jB<|kd [(6,(vb ((decide (i<((B.tm.length:Nat):Int))&&((B.tm.getD ((i).toNat) tz).op == 0))&&((gE (qS ((B.tm.getD ((i).toNat) tz).n)) ((n:Int):Rat)) == 0))))] [] mo ?_ ?_
 ·refine wM<|wM<|wE oNc<|wE (kK aR)<|wR (qH sh23)<|wE (oLo zY)<|wE gX<|wE (oV (vb (decide (i<((B.tm.length:Nat):Int)))) (qA (by kernel_rfl)))<|?_
  rcases hb1:(decide (i<((B.tm.length:Nat):Int))) with _ | _
  ·replace hb1:=vT hb1
   exact wK<|wK<|wK<|wK<|wK<|wK<|wK<|wK<|wK<|wE yD<|wM<|wK<|wK<|wK<|wK<|wK<|wK<|wK<|wK<|wK<|wK<|wK<|wK<|wE yD<|wM<|wZ
  ·replace hb1:=vF hb1
   refine wM<|wE oNc<|wE (kK aR)<|wR (qH sh23)<|wM<|wE (oXO zY ((i).toNat))<|wE (kK xN)<|wR (oLs (s:=7) (i:=0) cN ((i).toNat) (tz:jS))<|wE xL<|wE fL<|wE (oV (vb (true&&((B.tm.getD ((i).toNat) tz).op == 0))) (qA (by kernel_rfl)))<|?_
   rcases hb2:((B.tm.getD ((i).toNat) tz).op == 0) with _ | _
   ·replace hb2:=ne_of_beq_false hb2
    exact wK<|wK<|wK<|wK<|wK<|wK<|wK<|wK<|wK<|wK<|wK<|wK<|wE yD<|wM<|wZ
   ·replace hb2:=eq_of_beq hb2
    exact wM<|wE oNc<|wE (kK aR)<|wR (qH sh23)<|wM<|wE (oXO zY ((i).toNat))<|wE (kK mL)<|wR (yN (jJ ((B.tm.getD ((i).toNat) tz).n)) (jJ ((B.tm.getD ((i).toNat) tz).n)) (oLf (s:=7) (i:=3) jT ((i).toNat) (tz:jS) (jJ ((B.tm.getD ((i).toNat) tz).n))) (by exact rfl))<|wM<|wE (kB (aV n (by omega) (by omega)))<|wE (kB (iM ((B.tm.getD ((i).toNat) tz).n) (jM ((n:Int):Rat)) (qS ((B.tm.getD ((i).toNat) tz).n)) ((n:Int):Rat) (jO (hB.q (show (i).toNat<B.tm.length by omega))) (jO (jZ (vL (z:=n) (cE (by omega) (by omega)))))))<|wE xL<|wE fL<|wM<|wZ
 refine jE ⟨vR (by kernel_rfl),xX (by kernel_rfl),.inl ⟨_,(.tmp (d:=(.val (.bool (((decide (i<((B.tm.length:Nat):Int))&&((B.tm.getD ((i).toNat) tz).op == 0))&&((gE (qS ((B.tm.getD ((i).toNat) tz).n)) ((n:Int):Rat)) == 0)))))) rfl .nil),?_⟩⟩
 rfl
end Go.Proofs.YtckccjhflbljgaaGreatDoor
