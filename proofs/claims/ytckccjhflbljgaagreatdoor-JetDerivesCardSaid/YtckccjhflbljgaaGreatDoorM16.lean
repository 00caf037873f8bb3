/- Part 16 of a proof: rules, plain facts, and functions walked. -/
import Derived.Test.YtckccjhflbljgaaGreatDoorM15
set_option linter.all false
set_option maxRecDepth 4000
namespace Go.Proofs.YtckccjhflbljgaaGreatDoor
open List Tryz
open Go.Fid
theorem r_gcd(x:kW)(y:kW)(hx:x.gs.length<=1099511627776)(hy:y.gs.length<=1099511627776):jP prog 97 [(jQ x),(jQ y)] (jQ (kN ((Int.gcd (jV x) (jV y):Nat):Int))):=by
 have hvx:=eI x
 have hvy:=eI y
 refine vD func97 ?_
 refine jB<|kx [(2,(.ref 0 0)),(3,(.ref 1 0)),(4,(.ref 2 0))] [(0,some (bx (jQ x))),(1,some (bx (jQ y))),(2,some (bx (jQ (kW.mk false []))))] (zN (xD 0)<|zN (xD 1)<|zN (vB 2 nT nY)<|zZ) ?_
 refine jB<|kd [(5,(vl 107 1 jC (ofNat (Int.natAbs (jV x))))),(6,(vl 107 1 jC (ofNat (Int.natAbs (jV y)))))] [] mo (wR (kP kG)<|wE (kB (eJ x (by omega)))<|wE (oF1 bJ zU)<|wR (kP kG)<|wE (kB (eJ y (by omega)))<|wE (oF1 bJ zU)<|wM<|wM<|wZ) ?_
 refine jB<|jH<|kR (α:=List Nat × List Nat) (λ(a,b)=>⟨[(4,(.ref 2 0)),(5,(vl 107 1 jC a)),(6,(vl 107 1 jC b))],[(2,some (bx (jQ (kW.mk false []))))]⟩) (λ(a,b)=>gG a/\gG b/\a.length<=1099511627776/\b.length<=1099511627776/\Nat.gcd (val a) (val b)=Int.gcd (jV x) (jV y)) (λ(a,b)=>val b) ((ofNat (Int.natAbs (jV x))),(ofNat (Int.natAbs (jV y)))) wk ⟨qF _,qF _,by omega,by omega,by rw[kH,kH];rfl⟩ ?_
 rintro ⟨a,b⟩ ⟨ha,hb,hla,hlb,hg⟩
 refine jB<|jB<|kx [(29,(vb (decide (0<((b.length:Nat):Int))&&(decide (2<((a.length:Nat):Int))||decide (2<((b.length:Nat):Int))))))] [] ?_ ?_
 ·refine zM<|zE (yA kJ)<|zE eR<|zE (oV (vb (decide (0<((b.length:Nat):Int)))) (qA (by kernel_rfl)))<|?_
  rcases hb1:(decide (0<((b.length:Nat):Int))) with _ | _
  ·replace hb1:=vT hb1
   exact zK<|zK<|zK<|zK<|zK<|zK<|zK<|zK<|zE yD<|zZ
  ·replace hb1:=vF hb1
   refine zM<|zE (yA kJ)<|zE eR<|zE (oV (vb (decide (2<((a.length:Nat):Int)))) (qA (by kernel_rfl)))<|?_
   rcases hb2:(decide (2<((a.length:Nat):Int))) with _ | _
   ·replace hb2:=vT hb2
    exact zM<|zE (yA kJ)<|zE eR<|zE aK<|zE fL<|zZ
   ·replace hb2:=vF hb2
    exact zK<|zK<|zK<|zE nO<|zE nO<|zZ
 refine jD rfl (λh3=>?_) (λh3=>?_)
 ·have hbl:0<b.length:=by rw[Bool.and_eq_true,decide_eq_true_eq] at h3;omega
  have hb0:=cR hb hbl
  refine jF<|jH<|jB<|kx [(8,(vl 107 1 jC (ofNat (val a % val b))))] [] (zM<|zM<|zE (kB (r_parts a b ha hb (by omega) (by omega) (by omega)))<|zM<|zE zP<|zE zP<|zM<|zM<|zZ) ?_
  refine kx [(5,(vl 107 1 jC b)),(6,(vl 107 1 jC (ofNat (val a % val b))))] [] (zM<|zM<|zM<|zM<|zZ) ?_
  exact ⟨(b,ofNat (val a % val b)),wk,⟨hb,qF _,hlb,Nat.le_trans (len_rem a ha _) hla,by rw[kH,<- hg,Nat.gcd_comm,<- Nat.gcd_rec,Nat.gcd_comm]⟩,(by dsimp only;rw[kH];exact Nat.mod_lt _ hb0)⟩
 ·have hex:=h3
  refine kO<|jB<|jB<|kx [(40,(vb (((b.length:Nat):Int) == 0)))] [] (zM<|zE (yA kJ)<|zE xL<|zZ) ?_
  refine jD (b:=(((b.length:Nat):Int) == 0)) rfl (λh4=>?_) (λh4=>?_)
  ·replace h4:=eq_of_beq h4
   have hb1:b=[]:=eq_nil_of_length_eq_zero (by omega)
   rw[hb1,val_nil,Nat.gcd_zero_right] at hg
   refine jB<|kx [] [(2,some (bx (jQ (xU false (val a)))))] (zM<|zE (kB (mD false a ha.1 (by omega)))<|zT (qL kG)<|zZ) ?_
   refine jE ⟨_,(kM (cs:=(bx (jQ (xU false (val a))))) (d:=(jQ (xU false (val a)))) rfl rfl kG rfl rfl .nil),?_⟩
   rw[<- hg,mkI_false];rfl
  ·replace h4:=ne_of_beq_false h4
   have hl2:a.length<=2/\b.length<=2:=by simp only[Bool.and_eq_false_iff,Bool.or_eq_false_iff,decide_eq_false_iff_not] at hex;omega
   refine jF<|jB<|kx [(9,(gL (val a))),(10,(gL (val b)))] [] (zM<|zE (kB (r_pair a ha.1 (by omega)))<|zM<|zE (kB (r_pair b hb.1 (by omega)))<|zM<|zM<|zZ) ?_
   refine jB<|jH<|kR (α:=Nat × Nat) (λ(m,n)=>⟨[(4,(.ref 2 0)),(9,(gL m)),(10,(gL n))],[(2,some (bx (jQ (kW.mk false []))))]⟩) (λ(m,n)=>m<1000000000000000000/\n<1000000000000000000/\Nat.gcd m n=Int.gcd (jV x) (jV y)) (λ(m,n)=>n) (val a,val b) wk ⟨val_len2 ha.1 hl2.1,val_len2 hb.1 hl2.2,hg⟩ ?_
   rintro ⟨m,n⟩ ⟨hm,hn,hg2⟩
   refine jB<|jB<|kx [(48,(vb (decide (0<((n:Nat):Int)))))] [] (zM<|zE eR<|zZ) ?_
   refine jD (b:=decide (0<((n:Nat):Int))) rfl (λh5=>?_) (λh5=>?_)
   ·replace h5:=vF h5
    refine jF<|jH<|kd [(9,(gL n)),(10,(gL (m % n)))] [] mo (wM<|wM<|wM<|wE (oRe (m % n))<|wM<|wM<|wZ) ?_
    exact ⟨(n,m % n),wk,⟨hn,Nat.lt_of_le_of_lt (Nat.mod_le _ _) hm,by rw[<- hg2,Nat.gcd_comm,<- Nat.gcd_rec,Nat.gcd_comm]⟩,(by dsimp only;exact Nat.mod_lt _ (by omega))⟩
   ·replace h5:=vT h5
    obtain rfl:n=0:=by omega
    rw[Nat.gcd_zero_right] at hg2
    have hmv:val [m % 1000000000,m / 1000000000]=m:=by simp only[val];omega
    refine kO<|jB<|kx [] [(2,some (bx (jQ (xU false (val [(m % 1000000000),(m / 1000000000)])))))] (zM<|zE (oRe (m % 1000000000))<|zE (cA nL gP (m % 1000000000))<|zM<|zE (oQu (m / 1000000000))<|zE (cA nL gP (m / 1000000000))<|zE (fC kJ xA yR)<|zE (kB (mD false [(m % 1000000000),(m / 1000000000)] (yO.2 ⟨Nat.mod_lt _ (by decide),yO.2 ⟨by omega,gU⟩⟩) (by simp)))<|zT (qL kG)<|zZ) ?_
    refine jE ⟨_,(kM (cs:=(bx (jQ (xU false (val [(m % 1000000000),(m / 1000000000)]))))) (d:=(jQ (xU false (val [(m % 1000000000),(m / 1000000000)])))) rfl rfl kG rfl rfl .nil),?_⟩
    rw[<- hg2,hmv,mkI_false];rfl
theorem r_compare(x:kW)(y:kW)(hx:x.gs.length<=274877906944)(hy:y.gs.length<=274877906944):jP prog 96 [(jQ x),(jQ y)] (.val (.int .i64 ((uY (jV x) (jV y))))):=by
 have hv:=gs_sub x y
 refine vD func96 ?_
 refine jB<|kx [(2,(.ref 0 0)),(3,(.ref 1 0))] [(0,some (bx (jQ x))),(1,some (bx (jQ y)))] (zN (xD 0)<|zN (xD 1)<|zM<|zZ) ?_
 refine jB<|kx [(4,(vi (qZ (jV (kN (jV x-jV y))))))] [] (zR (kP kG)<|zR (kP kG)<|zE (kB (r_sub x y (by omega) (by omega)))<|zE (kB (r_sign (kN (jV x-jV y)) (by omega)))<|zM<|zZ) ?_
 refine jE ⟨_,(.tmp (d:=(.val (.int .i64 ((qZ (jV (kN (jV x-jV y)))))))) rfl .nil),?_⟩
 rw[dJ,signI_sub];rfl
theorem r_divide(x:kW)(y:kW)(hx:x.gs.length<=274877906944)(hy:y.gs.length<=274877906944)(hy0:jV y≠0):jP prog 113 [(jQ x),(jQ y)] (.tup [(jQ (kN ((jV x).fdiv (jV y)))),(jQ (kN ((jV x).fmod (jV y)))),(.val (.int .i64 (0)))]):=by
 have hvx:=eI x
 have hvy:=eI y
 have hmx:=gs_val x
 have hmy:=gs_val y
 have hy1:0<(jV y).natAbs:=by omega
 have hyl:=eH hy1
 have hql:(ofNat (val (ofNat (Int.natAbs (jV x))) / val (ofNat (Int.natAbs (jV y))))).length<=274877906944:=by have:=len_quo (ofNat (Int.natAbs (jV x))) (qF _) (val (ofNat (Int.natAbs (jV y))));omega
 have hqg:(xU (!((kN (jV x)).neg == (kN (jV y)).neg)) (val (ofNat (val (ofNat (Int.natAbs (jV x))) / val (ofNat (Int.natAbs (jV y))))))).gs.length<=274877906944:=by show (ofNat (val (ofNat (val (ofNat (Int.natAbs (jV x))) / val (ofNat (Int.natAbs (jV y))))))).length<=_;rw[kH];exact hql
 have eD:(kN 1).gs.length<=1:=(iL (z:=1)).l
 have hqs:=gs_sub (xU (!((kN (jV x)).neg == (kN (jV y)).neg)) (val (ofNat (val (ofNat (Int.natAbs (jV x))) / val (ofNat (Int.natAbs (jV y))))))) (kN 1)
 refine vD func113 ?_
 refine jB<|kx [(2,(.ref 0 0)),(3,(.ref 1 0)),(4,(.ref 2 0)),(5,(.ref 3 0))] [(0,some (bx (jQ x))),(1,some (bx (jQ y))),(2,some (bx (jQ (kW.mk false [])))),(3,some (bx (jQ (kW.mk false []))))] (zN (xD 0)<|zN (xD 1)<|zN (vB 2 nT nY)<|zN (vB 3 nT nY)<|zM<|zZ) ?_
 refine jB<|kd [] [(0,some (bx (jQ (kN (jV x))))),(1,some (bx (jQ (kN (jV y)))))] mo (wR (kP kG)<|wE (kB (eJ x (by omega)))<|wR (kP kG)<|wE (kB (eJ y (by omega)))<|wT (qL kG)<|wT (qL kG)<|wZ) ?_
 refine jB<|jB<|kx [(17,(vb ((((ofNat (Int.natAbs (jV y))).length:Nat):Int) == 0)))] [] (zE (kK vM)<|zR (qH zU)<|zE (yA kJ (L:=(ofNat (Int.natAbs (jV y)))))<|zE xL<|zZ) ?_
 refine jD rfl (λh1=>?_) (λh1=>?_)
 ·replace h1:=eq_of_beq h1
  exact absurd h1 (by omega)
 ·replace h1:=ne_of_beq_false h1
  refine jF<|jB<|kx [(7,(vl 107 1 jC (ofNat (val (ofNat (Int.natAbs (jV x))) / val (ofNat (Int.natAbs (jV y))))))),(8,(vl 107 1 jC (ofNat (val (ofNat (Int.natAbs (jV x))) % val (ofNat (Int.natAbs (jV y)))))))] [] (zE (kK vM)<|zR (qH zU)<|zE (kK vM)<|zR (qH zU)<|zE (kB (r_parts (ofNat (Int.natAbs (jV x))) (ofNat (Int.natAbs (jV y))) (by first | assumption | exact qF _ | exact qJ _) (by first | assumption | exact qF _ | exact qJ _) (by omega) (by omega) (by omega)))<|zM<|zE zP<|zE zP<|zM<|zM<|zZ) ?_
  refine jB<|kx [(9,(.ref 4 0))] [(4,some (bx (jQ (xU (!(((kN (jV x)).neg) == ((kN (jV y)).neg))) (val (ofNat (val (ofNat (Int.natAbs (jV x))) / val (ofNat (Int.natAbs (jV y))))))))))] (zE (kK vN)<|zR (qH aT)<|zE (kK vN)<|zR (qH aT)<|zE (oNb bo4)<|zM<|zE (kB (mD (!(((kN (jV x)).neg) == ((kN (jV y)).neg))) (ofNat (val (ofNat (Int.natAbs (jV x))) / val (ofNat (Int.natAbs (jV y))))) (kI _) (by omega)))<|zN (vB 4 nT nY)<|zT (qL kG)<|zZ) ?_
  refine jB<|jB<|kx [(44,(vb (!(((kN (jV x)).neg) == ((kN (jV y)).neg))&&decide (0<(((ofNat (val (ofNat (Int.natAbs (jV x))) % val (ofNat (Int.natAbs (jV y))))).length:Nat):Int)))))] [] ?_ ?_
  ·refine zE (kK vN)<|zR (qH aT)<|zE (kK vN)<|zR (qH aT)<|zE (oNb bo4)<|zE (oV (vb (!(((kN (jV x)).neg) == ((kN (jV y)).neg)))) (qA (by kernel_rfl)))<|?_
   rcases hb2:(!(((kN (jV x)).neg) == ((kN (jV y)).neg))) with _ | _
   ·exact zK<|zK<|zK<|zE yD<|zZ
   ·exact zM<|zE (yA kJ (L:=(ofNat (val (ofNat (Int.natAbs (jV x))) % val (ofNat (Int.natAbs (jV y)))))))<|zE eR<|zE fL<|zZ
  refine jD rfl (λh3=>?_) (λh3=>?_)
  ·have hqm:=gs_mul (kN (jV (xU (!((kN (jV x)).neg == (kN (jV y)).neg)) (val (ofNat (val (ofNat (Int.natAbs (jV x))) / val (ofNat (Int.natAbs (jV y)))))))-jV (kN 1))) (kN (jV y))
   have hk:=r_div_other (X:=jV x) (Y:=jV y) hy1 (by rw[Bool.and_eq_true,Bool.not_eq_true',beq_eq_false_iff_ne,decide_eq_true_eq] at h3;exact h3)
   refine kd [] [(4,some (bx (jQ (kN (jV (xU (!(((kN (jV x)).neg) == ((kN (jV y)).neg))) (val (ofNat (val (ofNat (Int.natAbs (jV x))) / val (ofNat (Int.natAbs (jV y)))))))-jV (kN 1))))))] mo (wR (kP kG)<|wE (kB (r_of 1 (by omega) (by omega)))<|wE (kB (r_sub (xU (!(((kN (jV x)).neg) == ((kN (jV y)).neg))) (val (ofNat (val (ofNat (Int.natAbs (jV x))) / val (ofNat (Int.natAbs (jV y))))))) (kN 1) (by omega) (by omega)))<|wT (qL kG)<|wZ) ?_
   refine jB<|kd [(6,(kE 0))] [(2,some (bx (jQ (kN (jV (xU (!(((kN (jV x)).neg) == ((kN (jV y)).neg))) (val (ofNat (val (ofNat (Int.natAbs (jV x))) / val (ofNat (Int.natAbs (jV y)))))))-jV (kN 1)))))),(3,some (bx (jQ (kN (jV (kN (jV x))-jV (kN (jV (kN (jV (xU (!(((kN (jV x)).neg) == ((kN (jV y)).neg))) (val (ofNat (val (ofNat (Int.natAbs (jV x))) / val (ofNat (Int.natAbs (jV y)))))))-jV (kN 1)))*jV (kN (jV y)))))))))] mo (wR (kP kG)<|wR (kP kG)<|wR (kP kG)<|wR (kP kG)<|wE (kB (r_mul (kN (jV (xU (!(((kN (jV x)).neg) == ((kN (jV y)).neg))) (val (ofNat (val (ofNat (Int.natAbs (jV x))) / val (ofNat (Int.natAbs (jV y)))))))-jV (kN 1))) (kN (jV y)) (by omega) (by omega)))<|wE (kB (r_sub (kN (jV x)) (kN (jV (kN (jV (xU (!(((kN (jV x)).neg) == ((kN (jV y)).neg))) (val (ofNat (val (ofNat (Int.natAbs (jV x))) / val (ofNat (Int.natAbs (jV y)))))))-jV (kN 1)))*jV (kN (jV y)))) (by omega) (by omega)))<|wT (qL kG)<|wT (qL kG)<|wM<|wZ) ?_
   refine jE ⟨_,(kM (cs:=(bx (jQ (kN (jV (xU (!(((kN (jV x)).neg) == ((kN (jV y)).neg))) (val (ofNat (val (ofNat (Int.natAbs (jV x))) / val (ofNat (Int.natAbs (jV y)))))))-jV (kN 1)))))) (d:=(jQ (kN (jV (xU (!(((kN (jV x)).neg) == ((kN (jV y)).neg))) (val (ofNat (val (ofNat (Int.natAbs (jV x))) / val (ofNat (Int.natAbs (jV y)))))))-jV (kN 1))))) rfl rfl kG rfl rfl (kM (cs:=(bx (jQ (kN (jV (kN (jV x))-jV (kN (jV (kN (jV (xU (!(((kN (jV x)).neg) == ((kN (jV y)).neg))) (val (ofNat (val (ofNat (Int.natAbs (jV x))) / val (ofNat (Int.natAbs (jV y)))))))-jV (kN 1)))*jV (kN (jV y))))))))) (d:=(jQ (kN (jV (kN (jV x))-jV (kN (jV (kN (jV (xU (!(((kN (jV x)).neg) == ((kN (jV y)).neg))) (val (ofNat (val (ofNat (Int.natAbs (jV x))) / val (ofNat (Int.natAbs (jV y)))))))-jV (kN 1)))*jV (kN (jV y)))))))) rfl rfl kG rfl rfl (.tmp (d:=(.val (.int .i64 (0)))) rfl .nil))),?_⟩
   rw[hk,r_rem_eq];rfl
  ·have hqm:=gs_mul (xU (!((kN (jV x)).neg == (kN (jV y)).neg)) (val (ofNat (val (ofNat (Int.natAbs (jV x))) / val (ofNat (Int.natAbs (jV y))))))) (kN (jV y))
   have hk:=r_div_same (X:=jV x) (Y:=jV y) hy1 (by rw[Bool.and_eq_false_iff,Bool.not_eq_false',beq_iff_eq,decide_eq_false_iff_not] at h3;exact h3)
   refine jF<|jB<|kd [(6,(kE 0))] [(2,some (bx (jQ (xU (!(((kN (jV x)).neg) == ((kN (jV y)).neg))) (val (ofNat (val (ofNat (Int.natAbs (jV x))) / val (ofNat (Int.natAbs (jV y)))))))))),(3,some (bx (jQ (kN (jV (kN (jV x))-jV (kN (jV (xU (!(((kN (jV x)).neg) == ((kN (jV y)).neg))) (val (ofNat (val (ofNat (Int.natAbs (jV x))) / val (ofNat (Int.natAbs (jV y)))))))*jV (kN (jV y)))))))))] mo (wR (kP kG)<|wR (kP kG)<|wR (kP kG)<|wR (kP kG)<|wE (kB (r_mul (xU (!(((kN (jV x)).neg) == ((kN (jV y)).neg))) (val (ofNat (val (ofNat (Int.natAbs (jV x))) / val (ofNat (Int.natAbs (jV y))))))) (kN (jV y)) (by omega) (by omega)))<|wE (kB (r_sub (kN (jV x)) (kN (jV (xU (!(((kN (jV x)).neg) == ((kN (jV y)).neg))) (val (ofNat (val (ofNat (Int.natAbs (jV x))) / val (ofNat (Int.natAbs (jV y)))))))*jV (kN (jV y)))) (by omega) (by omega)))<|wT (qL kG)<|wT (qL kG)<|wM<|wZ) ?_
   refine jE ⟨_,(kM (cs:=(bx (jQ (xU (!(((kN (jV x)).neg) == ((kN (jV y)).neg))) (val (ofNat (val (ofNat (Int.natAbs (jV x))) / val (ofNat (Int.natAbs (jV y)))))))))) (d:=(jQ (xU (!(((kN (jV x)).neg) == ((kN (jV y)).neg))) (val (ofNat (val (ofNat (Int.natAbs (jV x))) / val (ofNat (Int.natAbs (jV y))))))))) rfl rfl kG rfl rfl (kM (cs:=(bx (jQ (kN (jV (kN (jV x))-jV (kN (jV (xU (!(((kN (jV x)).neg) == ((kN (jV y)).neg))) (val (ofNat (val (ofNat (Int.natAbs (jV x))) / val (ofNat (Int.natAbs (jV y)))))))*jV (kN (jV y))))))))) (d:=(jQ (kN (jV (kN (jV x))-jV (kN (jV (xU (!(((kN (jV x)).neg) == ((kN (jV y)).neg))) (val (ofNat (val (ofNat (Int.natAbs (jV x))) / val (ofNat (Int.natAbs (jV y)))))))*jV (kN (jV y)))))))) rfl rfl kG rfl rfl (.tmp (d:=(.val (.int .i64 (0)))) rfl .nil))),?_⟩
   rw[hk,r_rem_eq];rfl
theorem s_neg{x:kW}{a:Int}{m:Nat}(hx:dP x a m)(hm:m<=274877906944:=by decide):jP prog 89 [(jQ x)] (jQ (kN (-a))):=by
 obtain ⟨rfl,hx'⟩:=hx
 exact t_neg x (by omega)
theorem s_sign{x:kW}{a:Int}{m:Nat}(hx:dP x a m)(hm:m<=274877906944:=by decide):jP prog 84 [(jQ x)] (.val (.int .i64 (qZ a))):=by
 obtain ⟨rfl,hx'⟩:=hx
 exact t_sign x (by omega)
theorem s_add{x y:kW}{a b:Int}{m n:Nat}(hx:dP x a m)(hy:dP y b n)(hm:m<=274877906944)(hn:n<=274877906944):jP prog 92 [(jQ x),(jQ y)] (jQ (kN (a+b))):=by
 obtain ⟨rfl,hx'⟩:=hx;obtain ⟨rfl,hy'⟩:=hy
 exact t_add x y (by omega) (by omega)
theorem s_mul{x y:kW}{a b:Int}{m n:Nat}(hx:dP x a m)(hy:dP y b n)(hm:m<=274877906944:=by decide)(hn:n<=274877906944:=by decide):jP prog 91 [(jQ x),(jQ y)] (jQ (kN (a*b))):=by
 obtain ⟨rfl,hx'⟩:=hx;obtain ⟨rfl,hy'⟩:=hy
 exact t_mul x y (by omega) (by omega)
theorem s_compare{x y:kW}{a b:Int}{m n:Nat}(hx:dP x a m)(hy:dP y b n)(hm:m<=274877906944:=by decide)(hn:n<=274877906944:=by decide):jP prog 85 [(jQ x),(jQ y)] (.val (.int .i64 (uY a b))):=by
 obtain ⟨rfl,hx'⟩:=hx;obtain ⟨rfl,hy'⟩:=hy
 exact t_compareI x y (by omega) (by omega)
theorem s_gcd{x y:kW}{a b:Int}{m n:Nat}(hx:dP x a m)(hy:dP y b n)(hm:m<=274877906944:=by decide)(hn:n<=274877906944:=by decide):jP prog 86 [(jQ x),(jQ y)] (jQ (kN ((Int.gcd a b:Nat):Int))):=by
 obtain ⟨rfl,hx'⟩:=hx;obtain ⟨rfl,hy'⟩:=hy
 exact t_gcdI x y (by omega) (by omega)
theorem s_divide{x y:kW}{a b:Int}{m n:Nat}(hx:dP x a m)(hy:dP y b n)(hm:m<=274877906944)(hn:n<=274877906944)(hb:b≠0):jP prog 160 [(jQ x),(jQ y)] (.tup [(jQ (kN (a.fdiv b))),(jQ (kN (a.fmod b))),(.val (.int .i64 0))]):=by
 obtain ⟨rfl,hx'⟩:=hx;obtain ⟨rfl,hy'⟩:=hy
 exact t_divideI x y (by omega) (by omega) hb
theorem rs_neg{x:kW}{a:Int}{m:Nat}(hx:dP x a m)(hm:m<=274877906944:=by decide):jP prog 93 [(jQ x)] (jQ (kN (-a))):=by
 obtain ⟨rfl,hx'⟩:=hx
 exact r_neg x (by omega)
theorem rs_sign{x:kW}{a:Int}{m:Nat}(hx:dP x a m)(hm:m<=274877906944:=by decide):jP prog 95 [(jQ x)] (.val (.int .i64 (qZ a))):=by
 obtain ⟨rfl,hx'⟩:=hx
 exact r_sign x (by omega)
theorem rs_add{x y:kW}{a b:Int}{m n:Nat}(hx:dP x a m)(hy:dP y b n)(hm:m<=274877906944)(hn:n<=274877906944):jP prog 71 [(jQ x),(jQ y)] (jQ (kN (a+b))):=by
 obtain ⟨rfl,hx'⟩:=hx;obtain ⟨rfl,hy'⟩:=hy
 exact r_add x y (by omega) (by omega)
theorem rs_mul{x y:kW}{a b:Int}{m n:Nat}(hx:dP x a m)(hy:dP y b n)(hm:m<=274877906944:=by decide)(hn:n<=274877906944:=by decide):jP prog 72 [(jQ x),(jQ y)] (jQ (kN (a*b))):=by
 obtain ⟨rfl,hx'⟩:=hx;obtain ⟨rfl,hy'⟩:=hy
 exact r_mul x y (by omega) (by omega)
theorem rs_compare{x y:kW}{a b:Int}{m n:Nat}(hx:dP x a m)(hy:dP y b n)(hm:m<=274877906944)(hn:n<=274877906944):jP prog 96 [(jQ x),(jQ y)] (.val (.int .i64 (uY a b))):=by
 obtain ⟨rfl,hx'⟩:=hx;obtain ⟨rfl,hy'⟩:=hy
 exact r_compare x y (by omega) (by omega)
theorem rs_gcd{x y:kW}{a b:Int}{m n:Nat}(hx:dP x a m)(hy:dP y b n)(hm:m<=274877906944:=by decide)(hn:n<=274877906944:=by decide):jP prog 97 [(jQ x),(jQ y)] (jQ (kN ((Int.gcd a b:Nat):Int))):=by
 obtain ⟨rfl,hx'⟩:=hx;obtain ⟨rfl,hy'⟩:=hy
 exact r_gcd x y (by omega) (by omega)
theorem rs_divide{x y:kW}{a b:Int}{m n:Nat}(hx:dP x a m)(hy:dP y b n)(hm:m<=274877906944)(hn:n<=274877906944)(hb:b≠0):jP prog 113 [(jQ x),(jQ y)] (.tup [(jQ (kN (a.fdiv b))),(jQ (kN (a.fmod b))),(.val (.int .i64 0))]):=by
 obtain ⟨rfl,hx'⟩:=hx;obtain ⟨rfl,hy'⟩:=hy
 exact r_divide x y (by omega) (by omega) hb
theorem zW:uX prog 32 0=some 0:=by kernel_rfl
theorem xC:uX prog 32 1=some 2:=by kernel_rfl
theorem ft32_0:lM prog 32 0=some (0,30):=by kernel_rfl
theorem pl32:eL prog 32=some [(0,2),(2,2)]:=by kernel_rfl
theorem jT:qD prog 32=some (true,4):=by kernel_rfl
theorem uO:xH prog 32=some [.bool false,.slice none 0 0,.bool false,.slice none 0 0]:=by kernel_rfl
theorem vP:eO [.bool false,.slice none 0 0,.bool false,.slice none 0 0] [.val (.bool false),.sl 107 1 [],.val (.bool false),.sl 107 1 []]:=by simp [eO,Value.oneCell']
theorem f_reduced(num den:kW)(a b:Int)(iQ:dP num a 68719476736)(aI:dP den b 68719476736)(hb:b≠0):jP prog 90 [(jQ num),(jQ den)] (jJ (jM (Rat.divInt a b))):=by
 refine vD func90 ?_
 refine jB<|kx [(2,(.ref 0 0)),(3,(.ref 1 0)),(4,(.ref 2 0))] [(0,some (bx (jQ num))),(1,some (bx (jQ den))),(2,some (bx (jJ qX)))] (zN (xD 0)<|zN (xD 1)<|zN (vB 2 uO vP)<|zZ) ?_
 refine jB<|jB<|kx [(8,(vb (decide ((qZ b)<0))))] [] (zR (kP kG)<|zE (kB (s_sign aI))<|zE gX<|zZ) ?_
 refine jD (b:=decide ((qZ b)<0)) rfl (λh1=>?_) (λh1=>?_)
 ·replace h1:=vF h1
  have hlt:=signI_lt.1 h1
  have hb2:-b≠0:=by omega
  refine kd [] [(0,some (bx (jQ (kN (-a))))),(1,some (bx (jQ (kN (-b)))))] mo (wR (kP kG)<|wE (kB (s_neg iQ))<|wR (kP kG)<|wE (kB (s_neg aI))<|wT (qL kG)<|wT (qL kG)<|wZ) ?_
  refine jB<|kx [(5,(.ref 3 0))] [(3,some (bx (jQ (kN ((Int.gcd (-a) (-b):Nat):Int)))))] (zR (kP kG)<|zR (kP kG)<|zE (kB (s_gcd (cI iQ) (cI aI)))<|zN (vB 3 nT nY)<|zT (qL kG)<|zZ) ?_
  refine jB<|kx [] [(0,some (bx (jQ (kN ((-a).fdiv (((Int.gcd (-a) (-b):Nat):Int)))))))] (zR (kP kG)<|zR (kP kG)<|zE (kB (s_divide (cI iQ) (dA (k:=68719476736) (cI iQ) (cI aI)) (by decide) (by decide) (gcd_ne (by omega))))<|zM<|zE zP<|zE zP<|zE zP<|zT (qL kG)<|zZ) ?_
  refine jB<|kx [] [(1,some (bx (jQ (kN ((-b).fdiv (((Int.gcd (-a) (-b):Nat):Int)))))))] (zR (kP kG)<|zR (kP kG)<|zE (kB (s_divide (cI aI) (dA (k:=68719476736) (cI iQ) (cI aI)) (by decide) (by decide) (gcd_ne (by omega))))<|zM<|zE zP<|zE zP<|zE zP<|zT (qL kG)<|zZ) ?_
  refine jB<|kx [] [(2,some (bx (jJ (kY.mk (kN ((-a).fdiv (((Int.gcd (-a) (-b):Nat):Int)))) (kN ((-b).fdiv (((Int.gcd (-a) (-b):Nat):Int))))))))] (zR (kP kG)<|zR (kP kG)<|zE (iS pl32 uO vP)<|zT (qL jT)<|zZ) ?_
  refine jE ⟨_,(kM (cs:=(bx (jJ (kY.mk (kN ((-a).fdiv (((Int.gcd (-a) (-b):Nat):Int)))) (kN ((-b).fdiv (((Int.gcd (-a) (-b):Nat):Int)))))))) (d:=(jJ (kY.mk (kN ((-a).fdiv (((Int.gcd (-a) (-b):Nat):Int)))) (kN ((-b).fdiv (((Int.gcd (-a) (-b):Nat):Int))))))) rfl rfl jT rfl rfl .nil),?_⟩
  rw[red_neg hlt];rfl
 ·replace h1:=vT h1
  have hge:¬ b<0:=λhh=>h1 (signI_lt.2 hh)
  refine jF<|jB<|kx [(5,(.ref 4 0))] [(4,some (bx (jQ (kN ((Int.gcd a b:Nat):Int)))))] (zR (kP kG)<|zR (kP kG)<|zE (kB (s_gcd iQ aI))<|zN (vB 4 nT nY)<|zT (qL kG)<|zZ) ?_
  refine jB<|kx [] [(0,some (bx (jQ (kN (a.fdiv (((Int.gcd a b:Nat):Int)))))))] (zR (kP kG)<|zR (kP kG)<|zE (kB (s_divide iQ (dA (k:=68719476736) iQ aI) (by decide) (by decide) (gcd_ne (by omega))))<|zM<|zE zP<|zE zP<|zE zP<|zT (qL kG)<|zZ) ?_
  refine jB<|kx [] [(1,some (bx (jQ (kN (b.fdiv (((Int.gcd a b:Nat):Int)))))))] (zR (kP kG)<|zR (kP kG)<|zE (kB (s_divide aI (dA (k:=68719476736) iQ aI) (by decide) (by decide) (gcd_ne (by omega))))<|zM<|zE zP<|zE zP<|zE zP<|zT (qL kG)<|zZ) ?_
  refine jB<|kx [] [(2,some (bx (jJ (kY.mk (kN (a.fdiv (((Int.gcd a b:Nat):Int)))) (kN (b.fdiv (((Int.gcd a b:Nat):Int))))))))] (zR (kP kG)<|zR (kP kG)<|zE (iS pl32 uO vP)<|zT (qL jT)<|zZ) ?_
  refine jE ⟨_,(kM (cs:=(bx (jJ (kY.mk (kN (a.fdiv (((Int.gcd a b:Nat):Int)))) (kN (b.fdiv (((Int.gcd a b:Nat):Int)))))))) (d:=(jJ (kY.mk (kN (a.fdiv (((Int.gcd a b:Nat):Int)))) (kN (b.fdiv (((Int.gcd a b:Nat):Int))))))) rfl rfl jT rfl rfl .nil),?_⟩
  rw[red_pos hge hb];rfl
theorem aV(n:Int)(hlo:-9223372036854775808<=n:=by decide)(hhi:n<=9223372036854775807:=by decide):jP prog 62 [(.val (.int .i64 (n)))] (jJ (jM ((n:Int):Rat))):=by
 refine vD func62 ?_
 refine jB<|kx [(2,(.ref 0 0))] [(0,some (bx (jJ qX)))] (zN (vB 0 uO vP)<|zZ) ?_
 refine jB<|kx [] [(0,some (bx (jJ (kY.mk (kN n) (kN 1)))))] (zM<|zE (kB (t_of n (by omega) (by omega)))<|zE (kB (t_of 1))<|zE (iS pl32 uO vP)<|zT (qL jT)<|zZ) ?_
 refine jE ⟨_,(kM (cs:=(bx (jJ (kY.mk (kN n) (kN 1))))) (d:=(jJ (kY.mk (kN n) (kN 1)))) rfl rfl jT rfl rfl .nil),?_⟩
 rfl
theorem f_valid(x:kY)(p:Rat)(hx:yB x p 17179869184):jP prog 45 [(jJ x)] (.val (.bool ((kT x)))):=by
 refine vD func45 ?_
 refine jB<|kx [(1,(.ref 0 0))] [(0,some (bx (jJ x)))] (zN (xD 0)<|zM<|zZ) ?_
 refine jB<|jB<|kx [(18,(vb ((!(uL x.num)||!(uL x.den))||decide ((qZ (jV x.den))<=0))))] [] ?_ ?_
 ·refine zE (kK zW)<|zR (kP kG)<|zE (kB (t_valid x.num (Nat.le_trans (yX hx.n1).l (by decide))))<|zE cU<|zE (oV (vb (!(uL x.num))) (qA (by kernel_rfl)))<|?_
  rcases hb1:(!(uL x.num)) with _ | _
  ·refine zE (kK xC)<|zR (kP kG)<|zE (kB (t_valid x.den (Nat.le_trans (yX hx.n2).l (by decide))))<|zE cU<|zE aK<|zE (oV (vb (false||!(uL x.den))) (qA (by kernel_rfl)))<|?_
   rcases hb2:(false||!(uL x.den)) with _ | _
   ·exact zE (kK xC)<|zR (kP kG)<|zE (kB (s_sign (yX hx.n2)))<|zE oLe<|zE aK<|zZ
   ·exact zK<|zK<|zK<|zK<|zE nO<|zZ
  ·exact zK<|zK<|zK<|zK<|zE nO<|zM<|zK<|zK<|zK<|zK<|zE nO<|zZ
 refine jD rfl (λh3=>?_) (λh3=>?_)
 ·refine jB<|kx [(2,(vb false))] [] (zM<|zZ) ?_
  refine jE ⟨_,(.tmp (d:=(.val (.bool (false)))) rfl .nil),?_⟩
  rw[validR_no h3];rfl
 ·refine jF<|jB<|kx [(2,(vb ((uY (((Int.gcd (jV x.num) (jV x.den):Nat):Int)) 1) == 0)))] [] (zE (kK zW)<|zR (kP kG)<|zE (kK xC)<|zR (kP kG)<|zE (kB (s_gcd (yX hx.n1) (yX hx.n2)))<|zE (kB (t_of 1))<|zE (kB (s_compare (dA (k:=17179869184) (yX hx.n1) (yX hx.n2)) (iL (z:=1))))<|zE xL<|zM<|zZ) ?_
  refine jE ⟨_,(.tmp (d:=(.val (.bool (((uY (((Int.gcd (jV x.num) (jV x.den):Nat):Int)) 1) == 0))))) rfl .nil),?_⟩
  rw[validR_yes h3];rfl
theorem f_copied(x:kY)(p:Rat)(hx:yB x p 17179869184):jP prog 159 [(jJ x)] (jJ (kY.mk (kN (-(-jV x.num))) (kN (-(-jV x.den))))):=by
 refine vD func159 ?_
 refine jB<|kx [(1,(.ref 0 0)),(2,(.ref 1 0))] [(0,some (bx (jJ x))),(1,some (bx (jJ qX)))] (zN (xD 0)<|zN (vB 1 uO vP)<|zZ) ?_
 refine jB<|kd [] [(1,some (bx (jJ (kY.mk (kN (-(-(jV x.num)))) (kN (-(-(jV x.den))))))))] mo (wE (kK zW)<|wR (kP kG)<|wE (kB (s_neg (yX hx.n1)))<|wE (kB (s_neg (cI (yX hx.n1))))<|wE (kK xC)<|wR (kP kG)<|wE (kB (s_neg (yX hx.n2)))<|wE (kB (s_neg (cI (yX hx.n2))))<|wE (iS pl32 uO vP)<|wT (qL jT)<|wZ) ?_
 refine jE ⟨_,(kM (cs:=(bx (jJ (kY.mk (kN (-(-(jV x.num)))) (kN (-(-(jV x.den)))))))) (d:=(jJ (kY.mk (kN (-(-(jV x.num)))) (kN (-(-(jV x.den))))))) rfl rfl jT rfl rfl .nil),?_⟩
 rfl
theorem fJ(x:kY)(p:Rat)(hx:yB x p 17179869184):jP prog 88 [(jJ x)] (jJ (jM p)):=by
 refine vD func88 ?_
 refine jB<|kx [(1,(.ref 0 0)),(2,(.ref 1 0))] [(0,some (bx (jJ x))),(1,some (bx (jJ qX)))] (zN (xD 0)<|zN (vB 1 uO vP)<|zZ) ?_
 refine jB<|jB<|kx [(4,(vb (kT x)))] [] (zR (kP jT)<|zE (kB (f_valid x p hx))<|zZ) ?_
 refine jD (b:=(kT x)) rfl (λh1=>?_) (λh1=>?_)
 ·refine jB<|kx [] [(1,some (bx (jJ (kY.mk (kN (-(-jV x.num))) (kN (-(-jV x.den)))))))] (zR (kP jT)<|zE (kB (f_copied x p hx))<|zT (qL jT)<|zZ) ?_
  refine jE ⟨_,(kM (cs:=(bx (jJ (kY.mk (kN (-(-jV x.num))) (kN (-(-jV x.den))))))) (d:=(jJ (kY.mk (kN (-(-jV x.num))) (kN (-(-jV x.den)))))) rfl rfl jT rfl rfl .nil),?_⟩
  rw[<- hx.v,<- copied_eq h1];rfl
 ·refine jF<|jB<|kx [] [(1,some (bx (jJ (jM ((0:Int):Rat)))))] (zE (kB (aV 0))<|zT (qL jT)<|zZ) ?_
  refine jE ⟨_,(kM (cs:=(bx (jJ (jM ((0:Int):Rat))))) (d:=(jJ (jM ((0:Int):Rat)))) rfl rfl jT rfl rfl .nil),?_⟩
  rw[<- hx.v,toQ_bad h1];rfl
theorem f_sign(x:kY)(p:Rat)(hx:yB x p 17179869184):jP prog 212 [(jJ x)] (.val (.int .i64 ((aE p)))):=by
 refine vD func212 ?_
 refine jB<|kx [(1,(.ref 0 0))] [(0,some (bx (jJ x)))] (zN (xD 0)<|zM<|zZ) ?_
 refine jB<|kx [(2,(vi (qZ p.num)))] [] (zR (kP jT)<|zE (kB (fJ x p hx))<|zE (oFv ft32_0 kG)<|zE (kB (s_sign (uK hx.ql)))<|zM<|zZ) ?_
 refine jE ⟨_,(.tmp (d:=(.val (.int .i64 ((qZ p.num))))) rfl .nil),?_⟩
 rfl
theorem f_add(x:kY)(y:kY)(p:Rat)(q:Rat)(hx:yB x p 17179869184)(hy:yB y q 17179869184):jP prog 48 [(jJ x),(jJ y)] (jJ (jM (p+q))):=by
 refine vD func48 ?_
 refine jB<|kx [(2,(.ref 0 0)),(3,(.ref 1 0)),(4,(.ref 2 0))] [(0,some (bx (jJ x))),(1,some (bx (jJ y))),(2,some (bx (jJ qX)))] (zN (xD 0)<|zN (xD 1)<|zN (vB 2 uO vP)<|zZ) ?_
 refine jB<|kd [] [(0,some (bx (jJ (jM p)))),(1,some (bx (jJ (jM q))))] mo (wR (kP jT)<|wE (kB (fJ x p hx))<|wR (kP jT)<|wE (kB (fJ y q hy))<|wT (qL jT)<|wT (qL jT)<|wZ) ?_
 refine jB<|kd [] [(2,some (bx (jJ (jM (Rat.divInt ((p.num*(q.den:Int))+(q.num*(p.den:Int))) ((p.den:Int)*(q.den:Int)))))))] mo (wE (kK zW)<|wR (kP kG)<|wE (kK xC)<|wR (kP kG)<|wE (kB (s_mul (uK hx.ql) (qU hy.ql)))<|wE (kK zW)<|wR (kP kG)<|wE (kK xC)<|wR (kP kG)<|wE (kB (s_mul (uK hy.ql) (qU hx.ql)))<|wE (kB (s_add (yW (k:=34359738368) (uK hx.ql) (qU hy.ql)) (yW (k:=34359738368) (uK hy.ql) (qU hx.ql)) (by decide) (by decide)))<|wE (kK xC)<|wR (kP kG)<|wE (kK xC)<|wR (kP kG)<|wE (kB (s_mul (qU hx.ql) (qU hy.ql)))<|wE (kB (f_reduced (kN ((p.num*(q.den:Int))+(q.num*(p.den:Int)))) (kN ((p.den:Int)*(q.den:Int))) ((p.num*(q.den:Int))+(q.num*(p.den:Int))) ((p.den:Int)*(q.den:Int)) (eZ (iok_add (k:=34359738369) (yW (k:=34359738368) (uK hx.ql) (qU hy.ql)) (yW (k:=34359738368) (uK hy.ql) (qU hx.ql)))) (eZ (yW (k:=34359738368) (qU hx.ql) (qU hy.ql))) (mul_ne (bK _) (bK _))))<|wT (qL jT)<|wZ) ?_
 refine jE ⟨_,(kM (cs:=(bx (jJ (jM (Rat.divInt ((p.num*(q.den:Int))+(q.num*(p.den:Int))) ((p.den:Int)*(q.den:Int))))))) (d:=(jJ (jM (Rat.divInt ((p.num*(q.den:Int))+(q.num*(p.den:Int))) ((p.den:Int)*(q.den:Int)))))) rfl rfl jT rfl rfl .nil),?_⟩
 rw[add_divInt];rfl
theorem f_mul(x:kY)(y:kY)(p:Rat)(q:Rat)(hx:yB x p 17179869184)(hy:yB y q 17179869184):jP prog 47 [(jJ x),(jJ y)] (jJ (jM (p*q))):=by
 refine vD func47 ?_
 refine jB<|kx [(2,(.ref 0 0)),(3,(.ref 1 0)),(4,(.ref 2 0))] [(0,some (bx (jJ x))),(1,some (bx (jJ y))),(2,some (bx (jJ qX)))] (zN (xD 0)<|zN (xD 1)<|zN (vB 2 uO vP)<|zZ) ?_
 refine jB<|kd [] [(0,some (bx (jJ (jM p)))),(1,some (bx (jJ (jM q))))] mo (wR (kP jT)<|wE (kB (fJ x p hx))<|wR (kP jT)<|wE (kB (fJ y q hy))<|wT (qL jT)<|wT (qL jT)<|wZ) ?_
 refine jB<|kd [] [(2,some (bx (jJ (jM (Rat.divInt (p.num*q.num) ((p.den:Int)*(q.den:Int)))))))] mo (wE (kK zW)<|wR (kP kG)<|wE (kK zW)<|wR (kP kG)<|wE (kB (s_mul (uK hx.ql) (uK hy.ql)))<|wE (kK xC)<|wR (kP kG)<|wE (kK xC)<|wR (kP kG)<|wE (kB (s_mul (qU hx.ql) (qU hy.ql)))<|wE (kB (f_reduced (kN (p.num*q.num)) (kN ((p.den:Int)*(q.den:Int))) (p.num*q.num) ((p.den:Int)*(q.den:Int)) (eZ (yW (k:=34359738368) (uK hx.ql) (uK hy.ql))) (eZ (yW (k:=34359738368) (qU hx.ql) (qU hy.ql))) (mul_ne (bK _) (bK _))))<|wT (qL jT)<|wZ) ?_
 refine jE ⟨_,(kM (cs:=(bx (jJ (jM (Rat.divInt (p.num*q.num) ((p.den:Int)*(q.den:Int))))))) (d:=(jJ (jM (Rat.divInt (p.num*q.num) ((p.den:Int)*(q.den:Int)))))) rfl rfl jT rfl rfl .nil),?_⟩
 rw[mul_divInt];rfl
theorem iM(x:kY)(y:kY)(p:Rat)(q:Rat)(hx:yB x p 17179869184)(hy:yB y q 17179869184):jP prog 112 [(jJ x),(jJ y)] (.val (.int .i64 ((gE p q)))):=by
 refine vD func112 ?_
 refine jB<|kx [(2,(.ref 0 0)),(3,(.ref 1 0))] [(0,some (bx (jJ x))),(1,some (bx (jJ y)))] (zN (xD 0)<|zN (xD 1)<|zM<|zZ) ?_
 refine jB<|kd [] [(0,some (bx (jJ (jM p)))),(1,some (bx (jJ (jM q))))] mo (wR (kP jT)<|wE (kB (fJ x p hx))<|wR (kP jT)<|wE (kB (fJ y q hy))<|wT (qL jT)<|wT (qL jT)<|wZ) ?_
 refine jB<|kd [(4,(vi (uY (p.num*(q.den:Int)) (q.num*(p.den:Int)))))] [] mo (wE (kK zW)<|wR (kP kG)<|wE (kK xC)<|wR (kP kG)<|wE (kB (s_mul (uK hx.ql) (qU hy.ql)))<|wE (kK zW)<|wR (kP kG)<|wE (kK xC)<|wR (kP kG)<|wE (kB (s_mul (uK hy.ql) (qU hx.ql)))<|wE (kB (s_compare (yW (k:=34359738368) (uK hx.ql) (qU hy.ql)) (yW (k:=34359738368) (uK hy.ql) (qU hx.ql))))<|wM<|wZ) ?_
 refine jE ⟨_,(.tmp (d:=(.val (.int .i64 ((uY (p.num*(q.den:Int)) (q.num*(p.den:Int))))))) rfl .nil),?_⟩
 rw[<- cmpQ_cross];rfl
theorem g_reduced(num den:kW)(a b:Int)(iQ:dP num a 68719476736)(aI:dP den b 68719476736)(hb:b≠0):jP prog 70 [(jQ num),(jQ den)] (jJ (jM (Rat.divInt a b))):=by
 refine vD func70 ?_
 refine jB<|kx [(2,(.ref 0 0)),(3,(.ref 1 0)),(4,(.ref 2 0))] [(0,some (bx (jQ num))),(1,some (bx (jQ den))),(2,some (bx (jJ qX)))] (zN (xD 0)<|zN (xD 1)<|zN (vB 2 uO vP)<|zZ) ?_
 refine jB<|kx [(5,(.ref 3 0))] [(3,some (bx (jQ (kN ((Int.gcd a b:Nat):Int)))))] (zR (kP kG)<|zR (kP kG)<|zE (kB (rs_gcd iQ aI))<|zN (vB 3 nT nY)<|zT (qL kG)<|zZ) ?_
 refine jB<|jB<|kx [(17,(vb (decide ((qZ b)<0))))] [] (zR (kP kG)<|zE (kB (rs_sign aI))<|zE gX<|zZ) ?_
 refine jD (b:=decide ((qZ b)<0)) rfl (λh1=>?_) (λh1=>?_)
 ·replace h1:=vF h1
  have hlt:=signI_lt.1 h1
  refine kx [] [(3,some (bx (jQ (kN (-(((Int.gcd a b:Nat):Int)))))))] (zR (kP kG)<|zE (kB (rs_neg (dA (k:=68719476736) iQ aI)))<|zT (qL kG)<|zZ) ?_
  refine jB<|kx [(6,(.ref 4 0))] [(4,some (bx (jQ (kN (a.fdiv (-(((Int.gcd a b:Nat):Int)))))))),(5,none)] (zR (kP kG)<|zR (kP kG)<|zE (kB (rs_divide iQ (cI (dA (k:=68719476736) iQ aI)) (by decide) (by decide) (by have:=gcd_ne (a:=a) hb;omega)))<|zM<|zE zP<|zE zP<|zE zP<|zN (vB 4 nT nY)<|zN (vB 5 nT nY)<|zT (qL kG)<|zT (qL kG)<|zM<|zZ) ?_
  refine jB<|kx [(9,(.ref 6 0))] [(6,some (bx (jQ (kN (b.fdiv (-(((Int.gcd a b:Nat):Int)))))))),(7,none)] (zR (kP kG)<|zR (kP kG)<|zE (kB (rs_divide aI (cI (dA (k:=68719476736) iQ aI)) (by decide) (by decide) (by have:=gcd_ne (a:=a) hb;omega)))<|zM<|zE zP<|zE zP<|zE zP<|zN (vB 6 nT nY)<|zN (vB 7 nT nY)<|zT (qL kG)<|zT (qL kG)<|zM<|zZ) ?_
  refine jB<|kx [] [(2,some (bx (jJ (kY.mk (kN (a.fdiv (-(((Int.gcd a b:Nat):Int))))) (kN (b.fdiv (-(((Int.gcd a b:Nat):Int)))))))))] (zR (kP kG)<|zR (kP kG)<|zE (iS pl32 uO vP)<|zT (qL jT)<|zZ) ?_
  refine jE ⟨_,(kM (cs:=(bx (jJ (kY.mk (kN (a.fdiv (-(((Int.gcd a b:Nat):Int))))) (kN (b.fdiv (-(((Int.gcd a b:Nat):Int))))))))) (d:=(jJ (kY.mk (kN (a.fdiv (-(((Int.gcd a b:Nat):Int))))) (kN (b.fdiv (-(((Int.gcd a b:Nat):Int)))))))) rfl rfl jT rfl rfl .nil),?_⟩
  rw[<- red_neg2 hlt];rfl
 ·replace h1:=vT h1
  have hge:¬ b<0:=λhh=>h1 (signI_lt.2 hh)
  refine jF<|jB<|kx [(6,(.ref 8 0))] [(8,some (bx (jQ (kN (a.fdiv (((Int.gcd a b:Nat):Int))))))),(9,none)] (zR (kP kG)<|zR (kP kG)<|zE (kB (rs_divide iQ (dA (k:=68719476736) iQ aI) (by decide) (by decide) (by have:=gcd_ne (a:=a) hb;omega)))<|zM<|zE zP<|zE zP<|zE zP<|zN (vB 8 nT nY)<|zN (vB 9 nT nY)<|zT (qL kG)<|zT (qL kG)<|zM<|zZ) ?_
  refine jB<|kx [(9,(.ref 10 0))] [(10,some (bx (jQ (kN (b.fdiv (((Int.gcd a b:Nat):Int))))))),(11,none)] (zR (kP kG)<|zR (kP kG)<|zE (kB (rs_divide aI (dA (k:=68719476736) iQ aI) (by decide) (by decide) (by have:=gcd_ne (a:=a) hb;omega)))<|zM<|zE zP<|zE zP<|zE zP<|zN (vB 10 nT nY)<|zN (vB 11 nT nY)<|zT (qL kG)<|zT (qL kG)<|zM<|zZ) ?_
  refine jB<|kx [] [(2,some (bx (jJ (kY.mk (kN (a.fdiv (((Int.gcd a b:Nat):Int)))) (kN (b.fdiv (((Int.gcd a b:Nat):Int))))))))] (zR (kP kG)<|zR (kP kG)<|zE (iS pl32 uO vP)<|zT (qL jT)<|zZ) ?_
  refine jE ⟨_,(kM (cs:=(bx (jJ (kY.mk (kN (a.fdiv (((Int.gcd a b:Nat):Int)))) (kN (b.fdiv (((Int.gcd a b:Nat):Int)))))))) (d:=(jJ (kY.mk (kN (a.fdiv (((Int.gcd a b:Nat):Int)))) (kN (b.fdiv (((Int.gcd a b:Nat):Int))))))) rfl rfl jT rfl rfl .nil),?_⟩
  rw[red_pos hge hb];rfl
theorem g_whole1(n:Int)(hlo:-9223372036854775808<=n:=by decide)(hhi:n<=9223372036854775807:=by decide):jP prog 75 [(.val (.int .i64 (n)))] (jQ (kN n)):=by
 refine vD func75 ?_
 refine jB<|kx [(2,(.ref 0 0))] [(0,some (bx (jQ (kW.mk false []))))] (zN (vB 0 nT nY)<|zZ) ?_
 refine jB<|kx [] [(0,some (bx (jQ (kN n))))] (zM<|zE (kB (r_of n (by omega) (by omega)))<|zT (qL kG)<|zZ) ?_
 refine jE ⟨_,(kM (cs:=(bx (jQ (kN n)))) (d:=(jQ (kN n))) rfl rfl kG rfl rfl .nil),?_⟩
 rfl
theorem cM(n:Int)(hlo:-9223372036854775808<=n:=by decide)(hhi:n<=9223372036854775807:=by decide):jP prog 42 [(.val (.int .i64 (n)))] (jJ (jM ((n:Int):Rat))):=by
 refine vD func42 ?_
 refine jB<|kx [(2,(.ref 0 0))] [(0,some (bx (jJ qX)))] (zN (vB 0 uO vP)<|zZ) ?_
 refine jB<|kx [] [(0,some (bx (jJ (kY.mk (kN n) (kN 1)))))] (zM<|zE (kB (g_whole1 n (by omega) (by omega)))<|zE (kB (g_whole1 1))<|zE (iS pl32 uO vP)<|zT (qL jT)<|zZ) ?_
 refine jE ⟨_,(kM (cs:=(bx (jJ (kY.mk (kN n) (kN 1))))) (d:=(jJ (kY.mk (kN n) (kN 1)))) rfl rfl jT rfl rfl .nil),?_⟩
 rfl
theorem iZ(x:kY)(p:Rat)(hx:yB x p 17179869184):jP prog 53 [(jJ x)] (.val (.bool ((kT x)))):=by
 refine vD func53 ?_
 refine jB<|kx [(1,(.ref 0 0))] [(0,some (bx (jJ x)))] (zN (xD 0)<|zM<|zZ) ?_
 refine jB<|jB<|kx [(18,(vb ((!(uL x.num)||!(uL x.den))||decide ((qZ (jV x.den))<=0))))] [] ?_ ?_
 ·refine zE (kK zW)<|zR (kP kG)<|zE (kB (r_valid x.num (Nat.le_trans (yX hx.n1).l (by decide))))<|zE cU<|zE (oV (vb (!(uL x.num))) (qA (by kernel_rfl)))<|?_
  rcases hb1:(!(uL x.num)) with _ | _
  ·refine zE (kK xC)<|zR (kP kG)<|zE (kB (r_valid x.den (Nat.le_trans (yX hx.n2).l (by decide))))<|zE cU<|zE aK<|zE (oV (vb (false||!(uL x.den))) (qA (by kernel_rfl)))<|?_
   rcases hb2:(false||!(uL x.den)) with _ | _
   ·exact zE (kK xC)<|zR (kP kG)<|zE (kB (rs_sign (yX hx.n2)))<|zE oLe<|zE aK<|zZ
   ·exact zK<|zK<|zK<|zK<|zE nO<|zZ
  ·exact zK<|zK<|zK<|zK<|zE nO<|zM<|zK<|zK<|zK<|zK<|zE nO<|zZ
 refine jD rfl (λh3=>?_) (λh3=>?_)
 ·refine jB<|kx [(2,(vb false))] [] (zM<|zZ) ?_
  refine jE ⟨_,(.tmp (d:=(.val (.bool (false)))) rfl .nil),?_⟩
  rw[validR_no h3];rfl
 ·refine jF<|jB<|kx [(2,(vb ((uY (((Int.gcd (jV x.num) (jV x.den):Nat):Int)) 1) == 0)))] [] (zE (kK zW)<|zR (kP kG)<|zE (kK xC)<|zR (kP kG)<|zE (kB (rs_gcd (yX hx.n1) (yX hx.n2)))<|zE (kB (g_whole1 1))<|zE (kB (rs_compare (dA (k:=17179869184) (yX hx.n1) (yX hx.n2)) (iL (z:=1)) (by decide) (by decide)))<|zE xL<|zM<|zZ) ?_
  refine jE ⟨_,(.tmp (d:=(.val (.bool (((uY (((Int.gcd (jV x.num) (jV x.den):Nat):Int)) 1) == 0))))) rfl .nil),?_⟩
  rw[validR_yes h3];rfl
theorem eE(x:kY)(p:Rat)(hx:yB x p 17179869184):jP prog 69 [(jJ x)] (jJ (jM p)):=by
 refine vD func69 ?_
 refine jB<|kx [(1,(.ref 0 0)),(2,(.ref 1 0))] [(0,some (bx (jJ x))),(1,some (bx (jJ qX)))] (zN (xD 0)<|zN (vB 1 uO vP)<|zZ) ?_
 refine jB<|jB<|kx [(4,(vb (kT x)))] [] (zR (kP jT)<|zE (kB (iZ x p hx))<|zZ) ?_
 refine jD (b:=(kT x)) rfl (λh1=>?_) (λh1=>?_)
 ·refine jB<|kx [] [(1,some (bx (jJ x)))] (zR (kP jT)<|zT (qL jT)<|zZ) ?_
  refine jE ⟨_,(kM (cs:=(bx (jJ x))) (d:=(jJ x)) rfl rfl jT rfl rfl .nil),?_⟩
  rw[<- hx.v,ofQ_toQ h1];rfl
 ·refine jF<|jB<|kx [] [(1,some (bx (jJ (jM ((0:Int):Rat)))))] (zE (kB (cM 0))<|zT (qL jT)<|zZ) ?_
  refine jE ⟨_,(kM (cs:=(bx (jJ (jM ((0:Int):Rat))))) (d:=(jJ (jM ((0:Int):Rat)))) rfl rfl jT rfl rfl .nil),?_⟩
  rw[<- hx.v,toQ_bad h1];rfl
theorem g_sign(x:kY)(p:Rat)(hx:yB x p 17179869184):jP prog 98 [(jJ x)] (.val (.int .i64 ((aE p)))):=by
 refine vD func98 ?_
 refine jB<|kx [(1,(.ref 0 0))] [(0,some (bx (jJ x)))] (zN (xD 0)<|zM<|zZ) ?_
 refine jB<|kx [(2,(vi (qZ p.num)))] [] (zR (kP jT)<|zE (kB (eE x p hx))<|zE (oFv ft32_0 kG)<|zE (kB (rs_sign (uK hx.ql)))<|zM<|zZ) ?_
 refine jE ⟨_,(.tmp (d:=(.val (.int .i64 ((qZ p.num))))) rfl .nil),?_⟩
 rfl
theorem g_neg(x:kY)(p:Rat)(hx:yB x p 17179869184):jP prog 51 [(jJ x)] (jJ (jM (-p))):=by
 refine vD func51 ?_
 refine jB<|kx [(1,(.ref 0 0)),(2,(.ref 1 0))] [(0,some (bx (jJ x))),(1,some (bx (jJ qX)))] (zN (xD 0)<|zN (vB 1 uO vP)<|zZ) ?_
 refine jB<|kx [(3,(.ref 2 0))] [(2,some (bx (jJ (jM p))))] (zR (kP jT)<|zE (kB (eE x p hx))<|zN (vB 2 uO vP)<|zT (qL jT)<|zZ) ?_
 refine jB<|kd [] [(1,some (bx (jJ (kY.mk (kN (-p.num)) ((jM p).den)))))] mo (wE (kK zW)<|wR (kP kG)<|wE (kB (rs_neg (uK hx.ql)))<|wE (kK xC)<|wR (kP kG)<|wE (iS pl32 uO vP)<|wT (qL jT)<|wZ) ?_
 refine jE ⟨_,(kM (cs:=(bx (jJ (kY.mk (kN (-p.num)) ((jM p).den))))) (d:=(jJ (kY.mk (kN (-p.num)) ((jM p).den)))) rfl rfl jT rfl rfl .nil),?_⟩
 rfl
theorem g_add(x:kY)(y:kY)(p:Rat)(q:Rat)(hx:yB x p 17179869184)(hy:yB y q 17179869184):jP prog 22 [(jJ x),(jJ y)] (jJ (jM (p+q))):=by
 refine vD func22 ?_
 refine jB<|kx [(2,(.ref 0 0)),(3,(.ref 1 0)),(4,(.ref 2 0))] [(0,some (bx (jJ x))),(1,some (bx (jJ y))),(2,some (bx (jJ qX)))] (zN (xD 0)<|zN (xD 1)<|zN (vB 2 uO vP)<|zZ) ?_
 refine jB<|kx [(5,(.ref 3 0))] [(3,some (bx (jJ (jM p))))] (zR (kP jT)<|zE (kB (eE x p hx))<|zN (vB 3 uO vP)<|zT (qL jT)<|zZ) ?_
 refine jB<|kx [(6,(.ref 4 0))] [(4,some (bx (jJ (jM q))))] (zR (kP jT)<|zE (kB (eE y q hy))<|zN (vB 4 uO vP)<|zT (qL jT)<|zZ) ?_
 refine jB<|kd [] [(2,some (bx (jJ (jM (Rat.divInt ((p.num*(q.den:Int))+(q.num*(p.den:Int))) ((p.den:Int)*(q.den:Int)))))))] mo (wE (kK zW)<|wR (kP kG)<|wE (kK xC)<|wR (kP kG)<|wE (kB (rs_mul (uK hx.ql) (qU hy.ql)))<|wE (kK zW)<|wR (kP kG)<|wE (kK xC)<|wR (kP kG)<|wE (kB (rs_mul (uK hy.ql) (qU hx.ql)))<|wE (kB (rs_add (yW (k:=34359738368) (uK hx.ql) (qU hy.ql)) (yW (k:=34359738368) (uK hy.ql) (qU hx.ql)) (by decide) (by decide)))<|wE (kK xC)<|wR (kP kG)<|wE (kK xC)<|wR (kP kG)<|wE (kB (rs_mul (qU hx.ql) (qU hy.ql)))<|wE (kB (g_reduced (kN ((p.num*(q.den:Int))+(q.num*(p.den:Int)))) (kN ((p.den:Int)*(q.den:Int))) ((p.num*(q.den:Int))+(q.num*(p.den:Int))) ((p.den:Int)*(q.den:Int)) (eZ (iok_add (k:=34359738369) (yW (k:=34359738368) (uK hx.ql) (qU hy.ql)) (yW (k:=34359738368) (uK hy.ql) (qU hx.ql)))) (eZ (yW (k:=34359738368) (qU hx.ql) (qU hy.ql))) (mul_ne (bK _) (bK _))))<|wT (qL jT)<|wZ) ?_
 refine jE ⟨_,(kM (cs:=(bx (jJ (jM (Rat.divInt ((p.num*(q.den:Int))+(q.num*(p.den:Int))) ((p.den:Int)*(q.den:Int))))))) (d:=(jJ (jM (Rat.divInt ((p.num*(q.den:Int))+(q.num*(p.den:Int))) ((p.den:Int)*(q.den:Int)))))) rfl rfl jT rfl rfl .nil),?_⟩
 rw[add_divInt];rfl
theorem g_sub(x:kY)(y:kY)(p:Rat)(q:Rat)(hx:yB x p 17179869184)(hy:yB y q 17179869184):jP prog 34 [(jJ x),(jJ y)] (jJ (jM (p-q))):=by
 refine vD func34 ?_
 refine jB<|kx [(2,(.ref 0 0)),(3,(.ref 1 0)),(4,(.ref 2 0))] [(0,some (bx (jJ x))),(1,some (bx (jJ y))),(2,some (bx (jJ qX)))] (zN (xD 0)<|zN (xD 1)<|zN (vB 2 uO vP)<|zZ) ?_
 refine jB<|kd [] [(2,some (bx (jJ (jM (p+(-q))))))] mo (wR (kP jT)<|wR (kP jT)<|wE (kB (g_neg y q hy))<|wE (kB (g_add x (jM (-q)) p (-q) hx (jZ (ql_neg hy.ql))))<|wT (qL jT)<|wZ) ?_
 refine jE ⟨_,(kM (cs:=(bx (jJ (jM (p+(-q)))))) (d:=(jJ (jM (p+(-q))))) rfl rfl jT rfl rfl .nil),?_⟩
 rw[Rat.sub_eq_add_neg];rfl
theorem g_mul(x:kY)(y:kY)(p:Rat)(q:Rat)(hx:yB x p 17179869184)(hy:yB y q 17179869184):jP prog 23 [(jJ x),(jJ y)] (jJ (jM (p*q))):=by
 refine vD func23 ?_
 refine jB<|kx [(2,(.ref 0 0)),(3,(.ref 1 0)),(4,(.ref 2 0))] [(0,some (bx (jJ x))),(1,some (bx (jJ y))),(2,some (bx (jJ qX)))] (zN (xD 0)<|zN (xD 1)<|zN (vB 2 uO vP)<|zZ) ?_
 refine jB<|kx [(5,(.ref 3 0))] [(3,some (bx (jJ (jM p))))] (zR (kP jT)<|zE (kB (eE x p hx))<|zN (vB 3 uO vP)<|zT (qL jT)<|zZ) ?_
 refine jB<|kx [(6,(.ref 4 0))] [(4,some (bx (jJ (jM q))))] (zR (kP jT)<|zE (kB (eE y q hy))<|zN (vB 4 uO vP)<|zT (qL jT)<|zZ) ?_
 refine jB<|kd [] [(2,some (bx (jJ (jM (Rat.divInt (p.num*q.num) ((p.den:Int)*(q.den:Int)))))))] mo (wE (kK zW)<|wR (kP kG)<|wE (kK zW)<|wR (kP kG)<|wE (kB (rs_mul (uK hx.ql) (uK hy.ql)))<|wE (kK xC)<|wR (kP kG)<|wE (kK xC)<|wR (kP kG)<|wE (kB (rs_mul (qU hx.ql) (qU hy.ql)))<|wE (kB (g_reduced (kN (p.num*q.num)) (kN ((p.den:Int)*(q.den:Int))) (p.num*q.num) ((p.den:Int)*(q.den:Int)) (eZ (yW (k:=34359738368) (uK hx.ql) (uK hy.ql))) (eZ (yW (k:=34359738368) (qU hx.ql) (qU hy.ql))) (mul_ne (bK _) (bK _))))<|wT (qL jT)<|wZ) ?_
 refine jE ⟨_,(kM (cs:=(bx (jJ (jM (Rat.divInt (p.num*q.num) ((p.den:Int)*(q.den:Int))))))) (d:=(jJ (jM (Rat.divInt (p.num*q.num) ((p.den:Int)*(q.den:Int)))))) rfl rfl jT rfl rfl .nil),?_⟩
 rw[mul_divInt];rfl
theorem g_new(num den:kW)(a b:Int)(iQ:dP num a 68719476736)(aI:dP den b 68719476736):jP prog 74 [(jQ num),(jQ den)] (.tup [(jJ (newR a b)),(.val (.int .i64 ((newC b))))]):=by
 refine vD func74 ?_
 refine jB<|kx [(2,(.ref 0 0)),(3,(.ref 1 0)),(4,(.ref 2 0))] [(0,some (bx (jQ num))),(1,some (bx (jQ den))),(2,some (bx (jJ qX)))] (zN (xD 0)<|zN (xD 1)<|zN (vB 2 uO vP)<|zM<|zZ) ?_
 refine jB<|jB<|kx [(8,(vb ((qZ b) == 0)))] [] (zR (kP kG)<|zE (kB (rs_sign aI))<|zE xL<|zZ) ?_
 refine jD (b:=((qZ b) == 0)) rfl (λh1=>?_) (λh1=>?_)
 ·replace h1:=eq_of_beq h1
  have hb:b=0:=sign0 h1
  refine jB<|kx [(5,(kE 14))] [(2,some (bx (jJ qX)))] (zE (iS pl32 uO vP)<|zT (qL jT)<|zM<|zZ) ?_
  refine jE ⟨_,(kM (cs:=(bx (jJ qX))) (d:=(jJ qX)) rfl rfl jT rfl rfl (.tmp (d:=(.val (.int .i64 (14)))) rfl .nil)),?_⟩
  rw[hb];rfl
 ·replace h1:=ne_of_beq_false h1
  have hb:b≠0:=λhh=>h1 (by rw[hh];rfl)
  refine jF<|jB<|kx [(5,(kE 0))] [(2,some (bx (jJ (jM (Rat.divInt a b)))))] (zR (kP kG)<|zR (kP kG)<|zE (kB (g_reduced num den a b iQ aI (by assumption)))<|zT (qL jT)<|zM<|zZ) ?_
  refine jE ⟨_,(kM (cs:=(bx (jJ (jM (Rat.divInt a b))))) (d:=(jJ (jM (Rat.divInt a b)))) rfl rfl jT rfl rfl (.tmp (d:=(.val (.int .i64 (0)))) rfl .nil)),?_⟩
  unfold newR newC;rw[if_neg hb,if_neg hb];rfl
theorem g_divide(x:kY)(y:kY)(p:Rat)(q:Rat)(hx:yB x p 17179869184)(hy:yB y q 17179869184):jP prog 52 [(jJ x),(jJ y)] (.tup [(jJ (divR p q)),(.val (.int .i64 ((divC q))))]):=by
 refine vD func52 ?_
 refine jB<|kx [(2,(.ref 0 0)),(3,(.ref 1 0)),(4,(.ref 2 0))] [(0,some (bx (jJ x))),(1,some (bx (jJ y))),(2,some (bx (jJ qX)))] (zN (xD 0)<|zN (xD 1)<|zN (vB 2 uO vP)<|zM<|zZ) ?_
 refine jB<|kx [(6,(.ref 3 0))] [(3,some (bx (jJ (jM p))))] (zR (kP jT)<|zE (kB (eE x p hx))<|zN (vB 3 uO vP)<|zT (qL jT)<|zZ) ?_
 refine jB<|kx [(7,(.ref 4 0))] [(4,some (bx (jJ (jM q))))] (zR (kP jT)<|zE (kB (eE y q hy))<|zN (vB 4 uO vP)<|zT (qL jT)<|zZ) ?_
 refine jB<|kd [(5,(vi (newC ((p.den:Int)*q.num))))] [(2,some (bx (jJ (newR (p.num*(q.den:Int)) ((p.den:Int)*q.num)))))] mo (wE (kK zW)<|wR (kP kG)<|wE (kK xC)<|wR (kP kG)<|wE (kB (rs_mul (uK hx.ql) (qU hy.ql)))<|wE (kK xC)<|wR (kP kG)<|wE (kK zW)<|wR (kP kG)<|wE (kB (rs_mul (qU hx.ql) (uK hy.ql)))<|wE (kB (g_new (kN (p.num*(q.den:Int))) (kN ((p.den:Int)*q.num)) (p.num*(q.den:Int)) ((p.den:Int)*q.num) (eZ (yW (k:=34359738368) (uK hx.ql) (qU hy.ql))) (eZ (yW (k:=34359738368) (qU hx.ql) (uK hy.ql)))))<|wE zP<|wE zP<|wT (qL jT)<|wM<|wZ) ?_
 refine jE ⟨_,(kM (cs:=(bx (jJ (newR (p.num*(q.den:Int)) ((p.den:Int)*q.num))))) (d:=(jJ (newR (p.num*(q.den:Int)) ((p.den:Int)*q.num)))) rfl rfl jT rfl rfl (.tmp (d:=(.val (.int .i64 ((newC ((p.den:Int)*q.num)))))) rfl .nil)),?_⟩
 rw[newR_div,newC_div];rfl
theorem bR(x:kY)(y:kY)(p:Rat)(q:Rat)(hx:yB x p 4294967296)(hy:yB y q 4294967296):jP prog 54 [(jJ x),(jJ y)] (.val (.int .i64 ((gE p q)))):=by
 refine vD func54 ?_
 refine jB<|kx [(2,(.ref 0 0)),(3,(.ref 1 0))] [(0,some (bx (jJ x))),(1,some (bx (jJ y)))] (zN (xD 0)<|zN (xD 1)<|zM<|zZ) ?_
 refine jB<|kx [(4,(vi (aE (p-q))))] [] (zR (kP jT)<|zR (kP jT)<|zE (kB (g_sub x y p q (jO hx) (jO hy)))<|zE (kB (g_sign (jM (p-q)) (p-q) (jO (jZ (ql_sub (k:=8589934593) hx.ql hy.ql (by decide))))))<|zM<|zZ) ?_
 refine jE ⟨_,(.tmp (d:=(.val (.int .i64 ((aE (p-q)))))) rfl .nil),?_⟩
 rw[<- signQ_sub];rfl
theorem xP:uX prog 42 0=some 0:=by kernel_rfl
theorem xF:uX prog 42 1=some 4:=by kernel_rfl
theorem g_same(x:kY)(y:kY)(p:Rat)(q:Rat)(hx:yB x p 4294967296)(hy:yB y q 4294967296):jP prog 14 [(jJ x),(jJ y)] (.val (.bool ((dM x y)))):=by
 refine vD func14 ?_
 refine jB<|kx [(2,(.ref 0 0)),(3,(.ref 1 0))] [(0,some (bx (jJ x))),(1,some (bx (jJ y)))] (zN (xD 0)<|zN (xD 1)<|zM<|zZ) ?_
 refine jB<|kx [(4,(vb (((kT x)&&(kT y))&&((gE p q) == 0))))] [] ?_ ?_
 ·refine zR (kP jT)<|zE (kB (iZ x p (jO hx)))<|zE (oV (vb (kT x)) (qA (by kernel_rfl)))<|?_
  rcases hb1:(kT x) with _ | _
  ·exact zK<|zK<|zE yD<|zM<|zK<|zK<|zK<|zK<|zE yD<|zM<|zZ
  ·refine zR (kP jT)<|zE (kB (iZ y q (jO hy)))<|zE fL<|zE (oV (vb (true&&(kT y))) (qA (by kernel_rfl)))<|?_
   rcases hb2:(true&&(kT y)) with _ | _
   ·exact zK<|zK<|zK<|zK<|zE yD<|zM<|zZ
   ·exact zR (kP jT)<|zR (kP jT)<|zE (kB (bR x y p q hx hy))<|zE xL<|zE fL<|zM<|zZ
 refine jE ⟨_,(.tmp (d:=(.val (.bool ((((kT x)&&(kT y))&&((gE p q) == 0)))))) rfl .nil),?_⟩
 unfold dM
 rw[<- sameR_eq,hx.v,hy.v];rfl
theorem g_digits(x:kY)(p:Rat)(hx:yB x p 140737488355328):jP prog 36 [(jJ x)] (.val (.int .i64 ((((digR x):Nat):Int)))):=by
 have h1:=hx.n1
 have h2:=hx.n2
 refine vD func36 ?_
 refine jB<|kx [(1,(.ref 0 0))] [(0,some (bx (jJ x)))] (zN (xD 0)<|zM<|zZ) ?_
 refine jB<|kx [(2,(kE (x.num.gs.length+x.den.gs.length)))] [] (zE (kK zW)<|zE (kK vM)<|zR (qH zU)<|zE (yA kJ)<|zE (kK xC)<|zE (kK vM)<|zR (qH zU)<|zE (yA kJ)<|zE (xO (x.num.gs.length+x.den.gs.length))<|zM<|zZ) ?_
 refine jE ⟨_,(.tmp (d:=(.val (.int .i64 ((((x.num.gs.length+x.den.gs.length):Nat):Int))))) rfl .nil),?_⟩
 rfl
theorem g_samerange(a b:jX)(ha:GOk 4294967296 a)(hb:GOk 4294967296 b):jP prog 81 [(jG a),(jG b)] (.val (.bool ((dM a.lo b.lo&&dM a.hi b.hi)))):=by
 refine vD func81 ?_
 refine jB<|kx [(2,(.ref 0 0)),(3,(.ref 1 0))] [(0,some (bx (jG a))),(1,some (bx (jG b)))] (zN (xD 0)<|zN (xD 1)<|zM<|zZ) ?_
 refine jB<|kx [(4,(vb ((dM a.lo b.lo)&&(dM a.hi b.hi))))] [] ?_ ?_
 ·refine zE (kK xP)<|zR (kP jT)<|zE (kK xP)<|zR (kP jT)<|zE (kB (g_same a.lo b.lo (qS a.lo) (qS b.lo) ha.1 hb.1))<|zE (oV (vb (dM a.lo b.lo)) (qA (by kernel_rfl)))<|?_
  rcases hb1:(dM a.lo b.lo) with _ | _
  ·exact zK<|zK<|zK<|zK<|zK<|zE yD<|zM<|zZ
  ·exact zE (kK xF)<|zR (kP jT)<|zE (kK xF)<|zR (kP jT)<|zE (kB (g_same a.hi b.hi (qS a.hi) (qS b.hi) ha.2 hb.2))<|zE fL<|zM<|zZ
 refine jE ⟨_,(.tmp (d:=(.val (.bool (((dM a.lo b.lo)&&(dM a.hi b.hi)))))) rfl .nil),?_⟩
 rfl
end Go.Proofs.YtckccjhflbljgaaGreatDoor
