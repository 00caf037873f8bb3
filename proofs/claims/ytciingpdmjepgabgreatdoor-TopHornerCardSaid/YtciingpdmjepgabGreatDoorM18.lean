/- Part 18 of a proof: rules, plain facts, and functions walked. -/
import Derived.Test.YtciingpdmjepgabGreatDoorM17
import Derived.Test.YtciingpdmjepgabGreatDoorM11
import Derived.Test.YtciingpdmjepgabGreatDoorM12
set_option linter.all false
set_option maxRecDepth 4000
namespace Go.Proofs.YtciingpdmjepgabGreatDoor
open Go.Fid
theorem s_neg{x:kO}{a:Int}{m:Nat}(hx:yZ x a m)(hm:m<=35184372087808:=by decide):jW Tryz.prog 63 [(jM x)] (jM (kD (-a))):=by
 obtain ⟨rfl,hx'⟩:=hx
 exact t_neg x (by omega)
theorem s_sign{x:kO}{a:Int}{m:Nat}(hx:yZ x a m)(hm:m<=35184372087808:=by decide):jW Tryz.prog 48 [(jM x)] (.val (.int .i64 (qO a))):=by
 obtain ⟨rfl,hx'⟩:=hx
 exact t_sign x (by omega)
theorem s_add{x y:kO}{a b:Int}{m n:Nat}(hx:yZ x a m)(hy:yZ y b n)(hm:m<=274877906944)(hn:n<=274877906944):jW Tryz.prog 60 [(jM x),(jM y)] (jM (kD (a+b))):=by
 obtain ⟨rfl,hx'⟩:=hx;obtain ⟨rfl,hy'⟩:=hy
 exact t_add x y (by omega) (by omega)
theorem s_mul{x y:kO}{a b:Int}{m n:Nat}(hx:yZ x a m)(hy:yZ y b n)(hm:m<=274877906944:=by decide)(hn:n<=274877906944:=by decide):jW Tryz.prog 59 [(jM x),(jM y)] (jM (kD (a*b))):=by
 obtain ⟨rfl,hx'⟩:=hx;obtain ⟨rfl,hy'⟩:=hy
 exact t_mul x y (by omega) (by omega)
theorem s_compare{x y:kO}{a b:Int}{m n:Nat}(hx:yZ x a m)(hy:yZ y b n)(hm:m<=35184372087808:=by decide)(hn:n<=35184372087808:=by decide):jW Tryz.prog 49 [(jM x),(jM y)] (.val (.int .i64 (uI a b))):=by
 obtain ⟨rfl,hx'⟩:=hx;obtain ⟨rfl,hy'⟩:=hy
 exact t_compareI x y (by omega) (by omega)
theorem s_gcd{x y:kO}{a b:Int}{m n:Nat}(hx:yZ x a m)(hy:yZ y b n)(hm:m<=35184372087808:=by decide)(hn:n<=35184372087808:=by decide):jW Tryz.prog 50 [(jM x),(jM y)] (jM (kD ((Int.gcd a b:Nat):Int))):=by
 obtain ⟨rfl,hx'⟩:=hx;obtain ⟨rfl,hy'⟩:=hy
 exact t_gcdI x y (by omega) (by omega)
theorem s_divide{x y:kO}{a b:Int}{m n:Nat}(hx:yZ x a m)(hy:yZ y b n)(hm:m<=274877906944)(hn:n<=274877906944)(hb:b≠0):jW Tryz.prog 111 [(jM x),(jM y)] (.tup [(jM (kD (a.fdiv b))),(jM (kD (a.fmod b))),(.val (.int .i64 0))]):=by
 obtain ⟨rfl,hx'⟩:=hx;obtain ⟨rfl,hy'⟩:=hy
 exact t_divideI x y (by omega) (by omega) hb
theorem rs_neg{x:kO}{a:Int}{m:Nat}(hx:yZ x a m)(hm:m<=35184372087808:=by decide):jW Tryz.prog 92 [(jM x)] (jM (kD (-a))):=by
 obtain ⟨rfl,hx'⟩:=hx
 exact r_neg x (by omega)
theorem rs_sign{x:kO}{a:Int}{m:Nat}(hx:yZ x a m)(hm:m<=35184372087808:=by decide):jW Tryz.prog 22 [(jM x)] (.val (.int .i64 (qO a))):=by
 obtain ⟨rfl,hx'⟩:=hx
 exact r_sign x (by omega)
theorem rs_add{x y:kO}{a b:Int}{m n:Nat}(hx:yZ x a m)(hy:yZ y b n)(hm:m<=274877906944)(hn:n<=274877906944):jW Tryz.prog 40 [(jM x),(jM y)] (jM (kD (a+b))):=by
 obtain ⟨rfl,hx'⟩:=hx;obtain ⟨rfl,hy'⟩:=hy
 exact r_add x y (by omega) (by omega)
theorem rs_mul{x y:kO}{a b:Int}{m n:Nat}(hx:yZ x a m)(hy:yZ y b n)(hm:m<=274877906944:=by decide)(hn:n<=274877906944:=by decide):jW Tryz.prog 41 [(jM x),(jM y)] (jM (kD (a*b))):=by
 obtain ⟨rfl,hx'⟩:=hx;obtain ⟨rfl,hy'⟩:=hy
 exact r_mul x y (by omega) (by omega)
theorem rs_compare{x y:kO}{a b:Int}{m n:Nat}(hx:yZ x a m)(hy:yZ y b n)(hm:m<=35184372087808)(hn:n<=35184372087808):jW Tryz.prog 23 [(jM x),(jM y)] (.val (.int .i64 (uI a b))):=by
 obtain ⟨rfl,hx'⟩:=hx;obtain ⟨rfl,hy'⟩:=hy
 exact r_compare x y (by omega) (by omega)
theorem rs_gcd{x y:kO}{a b:Int}{m n:Nat}(hx:yZ x a m)(hy:yZ y b n)(hm:m<=35184372087808:=by decide)(hn:n<=35184372087808:=by decide):jW Tryz.prog 24 [(jM x),(jM y)] (jM (kD ((Int.gcd a b:Nat):Int))):=by
 obtain ⟨rfl,hx'⟩:=hx;obtain ⟨rfl,hy'⟩:=hy
 exact r_gcd x y (by omega) (by omega)
theorem rs_divide{x y:kO}{a b:Int}{m n:Nat}(hx:yZ x a m)(hy:yZ y b n)(hm:m<=274877906944)(hn:n<=274877906944)(hb:b≠0):jW Tryz.prog 93 [(jM x),(jM y)] (.tup [(jM (kD (a.fdiv b))),(jM (kD (a.fmod b))),(.val (.int .i64 0))]):=by
 obtain ⟨rfl,hx'⟩:=hx;obtain ⟨rfl,hy'⟩:=hy
 exact r_divide x y (by omega) (by omega) hb
theorem xN:uL Tryz.prog 28 0=some 0:=by kernel_rfl
theorem vQ:uL Tryz.prog 28 1=some 2:=by kernel_rfl
theorem ft28_0:aP Tryz.prog 28 0=some (0,26):=by kernel_rfl
theorem pl28:mP Tryz.prog 28=some [(0,2),(2,2)]:=by kernel_rfl
theorem jR:qD Tryz.prog 28=some (true,4):=by kernel_rfl
theorem uU:vP Tryz.prog 28=some [.bool false,.slice none 0 0,.bool false,.slice none 0 0]:=by kernel_rfl
theorem uX:dV [.bool false,.slice none 0 0,.bool false,.slice none 0 0] [.val (.bool false),.sl 74 1 [],.val (.bool false),.sl 74 1 []]:=by simp [dV,Value.oneCell']
theorem fP(num den:kO)(a b:Int)(hnum:yZ num a 68719476736)(aE:yZ den b 68719476736)(hb:b≠0):jW Tryz.prog 58 [(jM num),(jM den)] (jK (jP (Rat.divInt a b))):=by
 refine uW Tryz.func58 ?_
 refine jB<|kx [(2,(.ref 0 0)),(3,(.ref 1 0)),(4,(.ref 2 0))] [(0,some (bx (jM num))),(1,some (bx (jM den))),(2,some (bx (jK qY)))] (zN (xA 0)<|zN (xA 1)<|zN (uT 2 uU uX)<|zZ) ?_
 refine jB<|jB<|kx [(8,(vb (decide ((qO b)<0))))] [] (zR (kT jX)<|zE (kH (s_sign aE))<|zE xO<|zZ) ?_
 refine jH (b:=decide ((qO b)<0)) rfl (fun h1=>?_) (fun h1=>?_)
 ·replace h1:=xF h1
  have hlt:=fY.1 h1
  have hb2:-b≠0:=by omega
  refine kd [] [(0,some (bx (jM (kD (-a))))),(1,some (bx (jM (kD (-b)))))] mo (wR (kT jX)<|wE (kH (s_neg hnum))<|wR (kT jX)<|wE (kH (s_neg aE))<|wT (qK jX)<|wT (qK jX)<|wZ) ?_
  refine jB<|kx [(5,(.ref 3 0))] [(3,some (bx (jM (kD ((Int.gcd (-a) (-b):Nat):Int)))))] (zR (kT jX)<|zR (kT jX)<|zE (kH (s_gcd (zL hnum) (zL aE)))<|zN (uT 3 xL xK)<|zT (qK jX)<|zZ) ?_
  refine jB<|kx [] [(0,some (bx (jM (kD ((-a).fdiv (((Int.gcd (-a) (-b):Nat):Int)))))))] (zR (kT jX)<|zR (kT jX)<|zE (kH (s_divide (zL hnum) (mJ (k:=68719476736) (zL hnum) (zL aE)) (by decide) (by decide) (gcd_ne (by omega))))<|zM<|zE xX<|zE xX<|zE xX<|zT (qK jX)<|zZ) ?_
  refine jB<|kx [] [(1,some (bx (jM (kD ((-b).fdiv (((Int.gcd (-a) (-b):Nat):Int)))))))] (zR (kT jX)<|zR (kT jX)<|zE (kH (s_divide (zL aE) (mJ (k:=68719476736) (zL hnum) (zL aE)) (by decide) (by decide) (gcd_ne (by omega))))<|zM<|zE xX<|zE xX<|zE xX<|zT (qK jX)<|zZ) ?_
  refine jB<|kx [] [(2,some (bx (jK (kP.mk (kD ((-a).fdiv (((Int.gcd (-a) (-b):Nat):Int)))) (kD ((-b).fdiv (((Int.gcd (-a) (-b):Nat):Int))))))))] (zR (kT jX)<|zR (kT jX)<|zE (oBd pl28 uU uX)<|zT (qK jR)<|zZ) ?_
  refine jE ⟨_,(kQ (cs:=(bx (jK (kP.mk (kD ((-a).fdiv (((Int.gcd (-a) (-b):Nat):Int)))) (kD ((-b).fdiv (((Int.gcd (-a) (-b):Nat):Int)))))))) (d:=(jK (kP.mk (kD ((-a).fdiv (((Int.gcd (-a) (-b):Nat):Int)))) (kD ((-b).fdiv (((Int.gcd (-a) (-b):Nat):Int))))))) rfl rfl jR rfl rfl .nil),?_⟩
  rw[red_neg hlt];rfl
 ·replace h1:=xH h1
  have hge:¬ b<0:=fun hh=>h1 (fY.2 hh)
  refine jF<|jB<|kx [(5,(.ref 4 0))] [(4,some (bx (jM (kD ((Int.gcd a b:Nat):Int)))))] (zR (kT jX)<|zR (kT jX)<|zE (kH (s_gcd hnum aE))<|zN (uT 4 xL xK)<|zT (qK jX)<|zZ) ?_
  refine jB<|kx [] [(0,some (bx (jM (kD (a.fdiv (((Int.gcd a b:Nat):Int)))))))] (zR (kT jX)<|zR (kT jX)<|zE (kH (s_divide hnum (mJ (k:=68719476736) hnum aE) (by decide) (by decide) (gcd_ne (by omega))))<|zM<|zE xX<|zE xX<|zE xX<|zT (qK jX)<|zZ) ?_
  refine jB<|kx [] [(1,some (bx (jM (kD (b.fdiv (((Int.gcd a b:Nat):Int)))))))] (zR (kT jX)<|zR (kT jX)<|zE (kH (s_divide aE (mJ (k:=68719476736) hnum aE) (by decide) (by decide) (gcd_ne (by omega))))<|zM<|zE xX<|zE xX<|zE xX<|zT (qK jX)<|zZ) ?_
  refine jB<|kx [] [(2,some (bx (jK (kP.mk (kD (a.fdiv (((Int.gcd a b:Nat):Int)))) (kD (b.fdiv (((Int.gcd a b:Nat):Int))))))))] (zR (kT jX)<|zR (kT jX)<|zE (oBd pl28 uU uX)<|zT (qK jR)<|zZ) ?_
  refine jE ⟨_,(kQ (cs:=(bx (jK (kP.mk (kD (a.fdiv (((Int.gcd a b:Nat):Int)))) (kD (b.fdiv (((Int.gcd a b:Nat):Int)))))))) (d:=(jK (kP.mk (kD (a.fdiv (((Int.gcd a b:Nat):Int)))) (kD (b.fdiv (((Int.gcd a b:Nat):Int))))))) rfl rfl jR rfl rfl .nil),?_⟩
  rw[red_pos hge hb];rfl
theorem f_whole(n:Int)(hlo:-9223372036854775808<=n:=by decide)(hhi:n<=9223372036854775807:=by decide):jW Tryz.prog 27 [(.val (.int .i64 (n)))] (jK (jP ((n:Int):Rat))):=by
 refine uW Tryz.func27 ?_
 refine jB<|kx [(2,(.ref 0 0))] [(0,some (bx (jK qY)))] (zN (uT 0 uU uX)<|zZ) ?_
 refine jB<|kx [] [(0,some (bx (jK (kP.mk (kD n) (kD 1)))))] (zM<|zE (kH (t_of n (by omega) (by omega)))<|zE (kH (t_of 1))<|zE (oBd pl28 uU uX)<|zT (qK jR)<|zZ) ?_
 refine jE ⟨_,(kQ (cs:=(bx (jK (kP.mk (kD n) (kD 1))))) (d:=(jK (kP.mk (kD n) (kD 1)))) rfl rfl jR rfl rfl .nil),?_⟩
 rfl
theorem bL(x:kP)(p:Rat)(hx:gD x p 35184372087808):jW Tryz.prog 17 [(jK x)] (.val (.bool ((kL x)))):=by
 refine uW Tryz.func17 ?_
 refine jB<|kx [(1,(.ref 0 0))] [(0,some (bx (jK x)))] (zN (xA 0)<|zM<|zZ) ?_
 refine jB<|jB<|kx [(18,(vb ((!(qW x.num)||!(qW x.den))||decide ((qO (jQ x.den))<=0))))] [] ?_ ?_
 ·refine zE (kW xN)<|zR (kT jX)<|zE (kH (t_valid x.num (Nat.le_trans (xU hx.n1).l (by decide))))<|zE eL<|zE (oV (vb (!(qW x.num))) (qF (by kernel_rfl)))<|?_
  rcases hb1:(!(qW x.num)) with _ | _
  ·refine zE (kW vQ)<|zR (kT jX)<|zE (kH (t_valid x.den (Nat.le_trans (xU hx.n2).l (by decide))))<|zE eL<|zE aG<|zE (oV (vb (false||!(qW x.den))) (qF (by kernel_rfl)))<|?_
   rcases hb2:(false||!(qW x.den)) with _ | _
   ·exact zE (kW vQ)<|zR (kT jX)<|zE (kH (s_sign (xU hx.n2)))<|zE oLe<|zE aG<|zZ
   ·exact zK<|zK<|zK<|zK<|zE yT<|zZ
  ·exact zK<|zK<|zK<|zK<|zE yT<|zM<|zK<|zK<|zK<|zK<|zE yT<|zZ
 refine jH rfl (fun h3=>?_) (fun h3=>?_)
 ·refine jB<|kx [(2,(vb false))] [] (zM<|zZ) ?_
  refine jE ⟨_,(.tmp (d:=(.val (.bool (false)))) rfl .nil),?_⟩
  rw[validR_no h3];rfl
 ·refine jF<|jB<|kx [(2,(vb ((uI (((Int.gcd (jQ x.num) (jQ x.den):Nat):Int)) 1) == 0)))] [] (zE (kW xN)<|zR (kT jX)<|zE (kW vQ)<|zR (kT jX)<|zE (kH (s_gcd (xU hx.n1) (xU hx.n2)))<|zE (kH (t_of 1))<|zE (kH (s_compare (mJ (k:=35184372087808) (xU hx.n1) (xU hx.n2)) (iok_small (z:=1))))<|zE nT<|zM<|zZ) ?_
  refine jE ⟨_,(.tmp (d:=(.val (.bool (((uI (((Int.gcd (jQ x.num) (jQ x.den):Nat):Int)) 1) == 0))))) rfl .nil),?_⟩
  rw[validR_yes h3];rfl
theorem f_copied(x:kP)(p:Rat)(hx:gD x p 35184372087808):jW Tryz.prog 61 [(jK x)] (jK (kP.mk (kD (-(-jQ x.num))) (kD (-(-jQ x.den))))):=by
 refine uW Tryz.func61 ?_
 refine jB<|kx [(1,(.ref 0 0)),(2,(.ref 1 0))] [(0,some (bx (jK x))),(1,some (bx (jK qY)))] (zN (xA 0)<|zN (uT 1 uU uX)<|zZ) ?_
 refine jB<|kd [] [(1,some (bx (jK (kP.mk (kD (-(-(jQ x.num)))) (kD (-(-(jQ x.den))))))))] mo (wE (kW xN)<|wR (kT jX)<|wE (kH (s_neg (xU hx.n1)))<|wE (kH (s_neg (zL (xU hx.n1))))<|wE (kW vQ)<|wR (kT jX)<|wE (kH (s_neg (xU hx.n2)))<|wE (kH (s_neg (zL (xU hx.n2))))<|wE (oBd pl28 uU uX)<|wT (qK jR)<|wZ) ?_
 refine jE ⟨_,(kQ (cs:=(bx (jK (kP.mk (kD (-(-(jQ x.num)))) (kD (-(-(jQ x.den)))))))) (d:=(jK (kP.mk (kD (-(-(jQ x.num)))) (kD (-(-(jQ x.den))))))) rfl rfl jR rfl rfl .nil),?_⟩
 rfl
theorem gO(x:kP)(p:Rat)(hx:gD x p 35184372087808):jW Tryz.prog 31 [(jK x)] (jK (jP p)):=by
 refine uW Tryz.func31 ?_
 refine jB<|kx [(1,(.ref 0 0)),(2,(.ref 1 0))] [(0,some (bx (jK x))),(1,some (bx (jK qY)))] (zN (xA 0)<|zN (uT 1 uU uX)<|zZ) ?_
 refine jB<|jB<|kx [(4,(vb (kL x)))] [] (zR (kT jR)<|zE (kH (bL x p hx))<|zZ) ?_
 refine jH (b:=(kL x)) rfl (fun h1=>?_) (fun h1=>?_)
 ·refine jB<|kx [] [(1,some (bx (jK (kP.mk (kD (-(-jQ x.num))) (kD (-(-jQ x.den)))))))] (zR (kT jR)<|zE (kH (f_copied x p hx))<|zT (qK jR)<|zZ) ?_
  refine jE ⟨_,(kQ (cs:=(bx (jK (kP.mk (kD (-(-jQ x.num))) (kD (-(-jQ x.den))))))) (d:=(jK (kP.mk (kD (-(-jQ x.num))) (kD (-(-jQ x.den)))))) rfl rfl jR rfl rfl .nil),?_⟩
  rw[<- hx.v,<- copied_eq h1];rfl
 ·refine jF<|jB<|kx [] [(1,some (bx (jK (jP ((0:Int):Rat)))))] (zE (kH (f_whole 0))<|zT (qK jR)<|zZ) ?_
  refine jE ⟨_,(kQ (cs:=(bx (jK (jP ((0:Int):Rat))))) (d:=(jK (jP ((0:Int):Rat)))) rfl rfl jR rfl rfl .nil),?_⟩
  rw[<- hx.v,toQ_bad h1];rfl
theorem f_sign(x:kP)(p:Rat)(hx:gD x p 35184372087808):jW Tryz.prog 18 [(jK x)] (.val (.int .i64 ((mY p)))):=by
 refine uW Tryz.func18 ?_
 refine jB<|kx [(1,(.ref 0 0))] [(0,some (bx (jK x)))] (zN (xA 0)<|zM<|zZ) ?_
 refine jB<|kx [(2,(vi (qO p.num)))] [] (zR (kT jR)<|zE (kH (gO x p hx))<|zE (oFv ft28_0 jX)<|zE (kH (s_sign (uE hx.ql)))<|zM<|zZ) ?_
 refine jE ⟨_,(.tmp (d:=(.val (.int .i64 ((qO p.num))))) rfl .nil),?_⟩
 rfl
theorem f_neg(x:kP)(p:Rat)(hx:gD x p 17179869184):jW Tryz.prog 33 [(jK x)] (jK (jP (-p))):=by
 refine uW Tryz.func33 ?_
 refine jB<|kx [(1,(.ref 0 0)),(2,(.ref 1 0))] [(0,some (bx (jK x))),(1,some (bx (jK qY)))] (zN (xA 0)<|zN (uT 1 uU uX)<|zZ) ?_
 refine jB<|kx [] [(0,some (bx (jK (jP p))))] (zR (kT jR)<|zE (kH (gO x p (kE hx)))<|zT (qK jR)<|zZ) ?_
 refine jB<|kd [] [(1,some (bx (jK (kP.mk (kD (-p.num)) ((jP p).den)))))] mo (wE (kW xN)<|wR (kT jX)<|wE (kH (s_neg (uE hx.ql)))<|wE (kW vQ)<|wR (kT jX)<|wE (oBd pl28 uU uX)<|wT (qK jR)<|wZ) ?_
 refine jE ⟨_,(kQ (cs:=(bx (jK (kP.mk (kD (-p.num)) ((jP p).den))))) (d:=(jK (kP.mk (kD (-p.num)) ((jP p).den)))) rfl rfl jR rfl rfl .nil),?_⟩
 rfl
theorem f_add(x:kP)(y:kP)(p:Rat)(q:Rat)(hx:gD x p 17179869184)(hy:gD y q 17179869184):jW Tryz.prog 30 [(jK x),(jK y)] (jK (jP (p+q))):=by
 refine uW Tryz.func30 ?_
 refine jB<|kx [(2,(.ref 0 0)),(3,(.ref 1 0)),(4,(.ref 2 0))] [(0,some (bx (jK x))),(1,some (bx (jK y))),(2,some (bx (jK qY)))] (zN (xA 0)<|zN (xA 1)<|zN (uT 2 uU uX)<|zZ) ?_
 refine jB<|kd [] [(0,some (bx (jK (jP p)))),(1,some (bx (jK (jP q))))] mo (wR (kT jR)<|wE (kH (gO x p (kE hx)))<|wR (kT jR)<|wE (kH (gO y q (kE hy)))<|wT (qK jR)<|wT (qK jR)<|wZ) ?_
 refine jB<|kd [] [(2,some (bx (jK (jP (Rat.divInt ((p.num*(q.den:Int))+(q.num*(p.den:Int))) ((p.den:Int)*(q.den:Int)))))))] mo (wE (kW xN)<|wR (kT jX)<|wE (kW vQ)<|wR (kT jX)<|wE (kH (s_mul (uE hx.ql) (qU hy.ql)))<|wE (kW xN)<|wR (kT jX)<|wE (kW vQ)<|wR (kT jX)<|wE (kH (s_mul (uE hy.ql) (qU hx.ql)))<|wE (kH (s_add (zY (k:=34359738368) (uE hx.ql) (qU hy.ql)) (zY (k:=34359738368) (uE hy.ql) (qU hx.ql)) (by decide) (by decide)))<|wE (kW vQ)<|wR (kT jX)<|wE (kW vQ)<|wR (kT jX)<|wE (kH (s_mul (qU hx.ql) (qU hy.ql)))<|wE (kH (fP (kD ((p.num*(q.den:Int))+(q.num*(p.den:Int)))) (kD ((p.den:Int)*(q.den:Int))) ((p.num*(q.den:Int))+(q.num*(p.den:Int))) ((p.den:Int)*(q.den:Int)) (cM (iok_add (k:=34359738369) (zY (k:=34359738368) (uE hx.ql) (qU hy.ql)) (zY (k:=34359738368) (uE hy.ql) (qU hx.ql)))) (cM (zY (k:=34359738368) (qU hx.ql) (qU hy.ql))) (mul_ne (den_ne _) (den_ne _))))<|wT (qK jR)<|wZ) ?_
 refine jE ⟨_,(kQ (cs:=(bx (jK (jP (Rat.divInt ((p.num*(q.den:Int))+(q.num*(p.den:Int))) ((p.den:Int)*(q.den:Int))))))) (d:=(jK (jP (Rat.divInt ((p.num*(q.den:Int))+(q.num*(p.den:Int))) ((p.den:Int)*(q.den:Int)))))) rfl rfl jR rfl rfl .nil),?_⟩
 rw[add_divInt];rfl
theorem f_sub(x:kP)(y:kP)(p:Rat)(q:Rat)(hx:gD x p 17179869184)(hy:gD y q 17179869184):jW Tryz.prog 34 [(jK x),(jK y)] (jK (jP (p-q))):=by
 refine uW Tryz.func34 ?_
 refine jB<|kx [(2,(.ref 0 0)),(3,(.ref 1 0)),(4,(.ref 2 0))] [(0,some (bx (jK x))),(1,some (bx (jK y))),(2,some (bx (jK qY)))] (zN (xA 0)<|zN (xA 1)<|zN (uT 2 uU uX)<|zZ) ?_
 refine jB<|kd [] [(2,some (bx (jK (jP (p+(-q))))))] mo (wR (kT jR)<|wR (kT jR)<|wE (kH (f_neg y q hy))<|wE (kH (f_add x (jP (-q)) p (-q) hx (kN (nM hy.ql))))<|wT (qK jR)<|wZ) ?_
 refine jE ⟨_,(kQ (cs:=(bx (jK (jP (p+(-q)))))) (d:=(jK (jP (p+(-q))))) rfl rfl jR rfl rfl .nil),?_⟩
 rw[Rat.sub_eq_add_neg];rfl
theorem f_mul(x:kP)(y:kP)(p:Rat)(q:Rat)(hx:gD x p 17179869184)(hy:gD y q 17179869184):jW Tryz.prog 26 [(jK x),(jK y)] (jK (jP (p*q))):=by
 refine uW Tryz.func26 ?_
 refine jB<|kx [(2,(.ref 0 0)),(3,(.ref 1 0)),(4,(.ref 2 0))] [(0,some (bx (jK x))),(1,some (bx (jK y))),(2,some (bx (jK qY)))] (zN (xA 0)<|zN (xA 1)<|zN (uT 2 uU uX)<|zZ) ?_
 refine jB<|kd [] [(0,some (bx (jK (jP p)))),(1,some (bx (jK (jP q))))] mo (wR (kT jR)<|wE (kH (gO x p (kE hx)))<|wR (kT jR)<|wE (kH (gO y q (kE hy)))<|wT (qK jR)<|wT (qK jR)<|wZ) ?_
 refine jB<|kd [] [(2,some (bx (jK (jP (Rat.divInt (p.num*q.num) ((p.den:Int)*(q.den:Int)))))))] mo (wE (kW xN)<|wR (kT jX)<|wE (kW xN)<|wR (kT jX)<|wE (kH (s_mul (uE hx.ql) (uE hy.ql)))<|wE (kW vQ)<|wR (kT jX)<|wE (kW vQ)<|wR (kT jX)<|wE (kH (s_mul (qU hx.ql) (qU hy.ql)))<|wE (kH (fP (kD (p.num*q.num)) (kD ((p.den:Int)*(q.den:Int))) (p.num*q.num) ((p.den:Int)*(q.den:Int)) (cM (zY (k:=34359738368) (uE hx.ql) (uE hy.ql))) (cM (zY (k:=34359738368) (qU hx.ql) (qU hy.ql))) (mul_ne (den_ne _) (den_ne _))))<|wT (qK jR)<|wZ) ?_
 refine jE ⟨_,(kQ (cs:=(bx (jK (jP (Rat.divInt (p.num*q.num) ((p.den:Int)*(q.den:Int))))))) (d:=(jK (jP (Rat.divInt (p.num*q.num) ((p.den:Int)*(q.den:Int)))))) rfl rfl jR rfl rfl .nil),?_⟩
 rw[mul_divInt];rfl
theorem f_divide(x:kP)(y:kP)(p:Rat)(q:Rat)(hx:gD x p 17179869184)(hy:gD y q 17179869184):jW Tryz.prog 35 [(jK x),(jK y)] (.tup [(jK (divR p q)),(.val (.int .i64 ((divC q))))]):=by
 refine uW Tryz.func35 ?_
 refine jB<|kx [(2,(.ref 0 0)),(3,(.ref 1 0)),(4,(.ref 2 0))] [(0,some (bx (jK x))),(1,some (bx (jK y))),(2,some (bx (jK qY)))] (zN (xA 0)<|zN (xA 1)<|zN (uT 2 uU uX)<|zM<|zZ) ?_
 refine jB<|kd [] [(0,some (bx (jK (jP p)))),(1,some (bx (jK (jP q))))] mo (wR (kT jR)<|wE (kH (gO x p (kE hx)))<|wR (kT jR)<|wE (kH (gO y q (kE hy)))<|wT (qK jR)<|wT (qK jR)<|wZ) ?_
 refine jB<|jB<|kx [(13,(vb ((qO q.num) == 0)))] [] (zE (kW xN)<|zR (kT jX)<|zE (kH (s_sign (uE hy.ql)))<|zE nT<|zZ) ?_
 refine jH (b:=((qO q.num) == 0)) rfl (fun h1=>?_) (fun h1=>?_)
 ·replace h1:=eq_of_beq h1
  have hq0:=signQ_zero.1 h1
  refine jB<|kx [(5,(jS 14))] [(2,some (bx (jK qY)))] (zE (oBd pl28 uU uX)<|zT (qK jR)<|zM<|zZ) ?_
  refine jE ⟨_,(kQ (cs:=(bx (jK qY))) (d:=(jK qY)) rfl rfl jR rfl rfl (.tmp (d:=(.val (.int .i64 (14)))) rfl .nil)),?_⟩
  rw[divR_zero hq0,divC_zero hq0];rfl
 ·replace h1:=ne_of_beq_false h1
  have hq0:q≠0:=fun hh=>h1 (signQ_zero.2 hh)
  refine jF<|jB<|kd [(5,(jS 0))] [(2,some (bx (jK (jP (Rat.divInt (p.num*(q.den:Int)) ((p.den:Int)*q.num))))))] mo (wE (kW xN)<|wR (kT jX)<|wE (kW vQ)<|wR (kT jX)<|wE (kH (s_mul (uE hx.ql) (qU hy.ql)))<|wE (kW vQ)<|wR (kT jX)<|wE (kW xN)<|wR (kT jX)<|wE (kH (s_mul (qU hx.ql) (uE hy.ql)))<|wE (kH (fP (kD (p.num*(q.den:Int))) (kD ((p.den:Int)*q.num)) (p.num*(q.den:Int)) ((p.den:Int)*q.num) (cM (zY (k:=34359738368) (uE hx.ql) (qU hy.ql))) (cM (zY (k:=34359738368) (qU hx.ql) (uE hy.ql))) (mul_ne (den_ne _) (num_ne hq0))))<|wT (qK jR)<|wM<|wZ) ?_
  refine jE ⟨_,(kQ (cs:=(bx (jK (jP (Rat.divInt (p.num*(q.den:Int)) ((p.den:Int)*q.num)))))) (d:=(jK (jP (Rat.divInt (p.num*(q.den:Int)) ((p.den:Int)*q.num))))) rfl rfl jR rfl rfl (.tmp (d:=(.val (.int .i64 (0)))) rfl .nil)),?_⟩
  rw[divR_ne hq0,divC_ne hq0,div_divInt];rfl
theorem f_compare(x:kP)(y:kP)(p:Rat)(q:Rat)(hx:gD x p 17179869184)(hy:gD y q 17179869184):jW Tryz.prog 64 [(jK x),(jK y)] (.val (.int .i64 ((gW p q)))):=by
 refine uW Tryz.func64 ?_
 refine jB<|kx [(2,(.ref 0 0)),(3,(.ref 1 0))] [(0,some (bx (jK x))),(1,some (bx (jK y)))] (zN (xA 0)<|zN (xA 1)<|zM<|zZ) ?_
 refine jB<|kd [] [(0,some (bx (jK (jP p)))),(1,some (bx (jK (jP q))))] mo (wR (kT jR)<|wE (kH (gO x p (kE hx)))<|wR (kT jR)<|wE (kH (gO y q (kE hy)))<|wT (qK jR)<|wT (qK jR)<|wZ) ?_
 refine jB<|kd [(4,(vi (uI (p.num*(q.den:Int)) (q.num*(p.den:Int)))))] [] mo (wE (kW xN)<|wR (kT jX)<|wE (kW vQ)<|wR (kT jX)<|wE (kH (s_mul (uE hx.ql) (qU hy.ql)))<|wE (kW xN)<|wR (kT jX)<|wE (kW vQ)<|wR (kT jX)<|wE (kH (s_mul (uE hy.ql) (qU hx.ql)))<|wE (kH (s_compare (zY (k:=34359738368) (uE hx.ql) (qU hy.ql)) (zY (k:=34359738368) (uE hy.ql) (qU hx.ql))))<|wM<|wZ) ?_
 refine jE ⟨_,(.tmp (d:=(.val (.int .i64 ((uI (p.num*(q.den:Int)) (q.num*(p.den:Int))))))) rfl .nil),?_⟩
 rw[<- cmpQ_cross];rfl
theorem g_reduced(num den:kO)(a b:Int)(hnum:yZ num a 68719476736)(aE:yZ den b 68719476736)(hb:b≠0):jW Tryz.prog 39 [(jM num),(jM den)] (jK (jP (Rat.divInt a b))):=by
 refine uW Tryz.func39 ?_
 refine jB<|kx [(2,(.ref 0 0)),(3,(.ref 1 0)),(4,(.ref 2 0))] [(0,some (bx (jM num))),(1,some (bx (jM den))),(2,some (bx (jK qY)))] (zN (xA 0)<|zN (xA 1)<|zN (uT 2 uU uX)<|zZ) ?_
 refine jB<|kx [(5,(.ref 3 0))] [(3,some (bx (jM (kD ((Int.gcd a b:Nat):Int)))))] (zR (kT jX)<|zR (kT jX)<|zE (kH (rs_gcd hnum aE))<|zN (uT 3 xL xK)<|zT (qK jX)<|zZ) ?_
 refine jB<|jB<|kx [(17,(vb (decide ((qO b)<0))))] [] (zR (kT jX)<|zE (kH (rs_sign aE))<|zE xO<|zZ) ?_
 refine jH (b:=decide ((qO b)<0)) rfl (fun h1=>?_) (fun h1=>?_)
 ·replace h1:=xF h1
  have hlt:=fY.1 h1
  refine kx [] [(3,some (bx (jM (kD (-(((Int.gcd a b:Nat):Int)))))))] (zR (kT jX)<|zE (kH (rs_neg (mJ (k:=68719476736) hnum aE)))<|zT (qK jX)<|zZ) ?_
  refine jB<|kx [(6,(.ref 4 0))] [(4,some (bx (jM (kD (a.fdiv (-(((Int.gcd a b:Nat):Int)))))))),(5,none)] (zR (kT jX)<|zR (kT jX)<|zE (kH (rs_divide hnum (zL (mJ (k:=68719476736) hnum aE)) (by decide) (by decide) (by have:=gcd_ne (a:=a) hb;omega)))<|zM<|zE xX<|zE xX<|zE xX<|zN (uT 4 xL xK)<|zN (uT 5 xL xK)<|zT (qK jX)<|zT (qK jX)<|zM<|zZ) ?_
  refine jB<|kx [(9,(.ref 6 0))] [(6,some (bx (jM (kD (b.fdiv (-(((Int.gcd a b:Nat):Int)))))))),(7,none)] (zR (kT jX)<|zR (kT jX)<|zE (kH (rs_divide aE (zL (mJ (k:=68719476736) hnum aE)) (by decide) (by decide) (by have:=gcd_ne (a:=a) hb;omega)))<|zM<|zE xX<|zE xX<|zE xX<|zN (uT 6 xL xK)<|zN (uT 7 xL xK)<|zT (qK jX)<|zT (qK jX)<|zM<|zZ) ?_
  refine jB<|kx [] [(2,some (bx (jK (kP.mk (kD (a.fdiv (-(((Int.gcd a b:Nat):Int))))) (kD (b.fdiv (-(((Int.gcd a b:Nat):Int)))))))))] (zR (kT jX)<|zR (kT jX)<|zE (oBd pl28 uU uX)<|zT (qK jR)<|zZ) ?_
  refine jE ⟨_,(kQ (cs:=(bx (jK (kP.mk (kD (a.fdiv (-(((Int.gcd a b:Nat):Int))))) (kD (b.fdiv (-(((Int.gcd a b:Nat):Int))))))))) (d:=(jK (kP.mk (kD (a.fdiv (-(((Int.gcd a b:Nat):Int))))) (kD (b.fdiv (-(((Int.gcd a b:Nat):Int)))))))) rfl rfl jR rfl rfl .nil),?_⟩
  rw[<- red_neg2 hlt];rfl
 ·replace h1:=xH h1
  have hge:¬ b<0:=fun hh=>h1 (fY.2 hh)
  refine jF<|jB<|kx [(6,(.ref 8 0))] [(8,some (bx (jM (kD (a.fdiv (((Int.gcd a b:Nat):Int))))))),(9,none)] (zR (kT jX)<|zR (kT jX)<|zE (kH (rs_divide hnum (mJ (k:=68719476736) hnum aE) (by decide) (by decide) (by have:=gcd_ne (a:=a) hb;omega)))<|zM<|zE xX<|zE xX<|zE xX<|zN (uT 8 xL xK)<|zN (uT 9 xL xK)<|zT (qK jX)<|zT (qK jX)<|zM<|zZ) ?_
  refine jB<|kx [(9,(.ref 10 0))] [(10,some (bx (jM (kD (b.fdiv (((Int.gcd a b:Nat):Int))))))),(11,none)] (zR (kT jX)<|zR (kT jX)<|zE (kH (rs_divide aE (mJ (k:=68719476736) hnum aE) (by decide) (by decide) (by have:=gcd_ne (a:=a) hb;omega)))<|zM<|zE xX<|zE xX<|zE xX<|zN (uT 10 xL xK)<|zN (uT 11 xL xK)<|zT (qK jX)<|zT (qK jX)<|zM<|zZ) ?_
  refine jB<|kx [] [(2,some (bx (jK (kP.mk (kD (a.fdiv (((Int.gcd a b:Nat):Int)))) (kD (b.fdiv (((Int.gcd a b:Nat):Int))))))))] (zR (kT jX)<|zR (kT jX)<|zE (oBd pl28 uU uX)<|zT (qK jR)<|zZ) ?_
  refine jE ⟨_,(kQ (cs:=(bx (jK (kP.mk (kD (a.fdiv (((Int.gcd a b:Nat):Int)))) (kD (b.fdiv (((Int.gcd a b:Nat):Int)))))))) (d:=(jK (kP.mk (kD (a.fdiv (((Int.gcd a b:Nat):Int)))) (kD (b.fdiv (((Int.gcd a b:Nat):Int))))))) rfl rfl jR rfl rfl .nil),?_⟩
  rw[red_pos hge hb];rfl
theorem g_whole1(n:Int)(hlo:-9223372036854775808<=n:=by decide)(hhi:n<=9223372036854775807:=by decide):jW Tryz.prog 25 [(.val (.int .i64 (n)))] (jM (kD n)):=by
 refine uW Tryz.func25 ?_
 refine jB<|kx [(2,(.ref 0 0))] [(0,some (bx (jM (kO.mk false []))))] (zN (uT 0 xL xK)<|zZ) ?_
 refine jB<|kx [] [(0,some (bx (jM (kD n))))] (zM<|zE (kH (r_of n (by omega) (by omega)))<|zT (qK jX)<|zZ) ?_
 refine jE ⟨_,(kQ (cs:=(bx (jM (kD n)))) (d:=(jM (kD n))) rfl rfl jX rfl rfl .nil),?_⟩
 rfl
theorem g_whole(n:Int)(hlo:-9223372036854775808<=n)(hhi:n<=9223372036854775807):jW Tryz.prog 46 [(.val (.int .i64 (n)))] (jK (jP ((n:Int):Rat))):=by
 refine uW Tryz.func46 ?_
 refine jB<|kx [(2,(.ref 0 0))] [(0,some (bx (jK qY)))] (zN (uT 0 uU uX)<|zZ) ?_
 refine jB<|kx [] [(0,some (bx (jK (kP.mk (kD n) (kD 1)))))] (zM<|zE (kH (g_whole1 n (by omega) (by omega)))<|zE (kH (g_whole1 1))<|zE (oBd pl28 uU uX)<|zT (qK jR)<|zZ) ?_
 refine jE ⟨_,(kQ (cs:=(bx (jK (kP.mk (kD n) (kD 1))))) (d:=(jK (kP.mk (kD n) (kD 1)))) rfl rfl jR rfl rfl .nil),?_⟩
 rfl
theorem aQ(x:kP)(p:Rat)(hx:gD x p 35184372087808):jW Tryz.prog 7 [(jK x)] (.val (.bool ((kL x)))):=by
 refine uW Tryz.func7 ?_
 refine jB<|kx [(1,(.ref 0 0))] [(0,some (bx (jK x)))] (zN (xA 0)<|zM<|zZ) ?_
 refine jB<|jB<|kx [(18,(vb ((!(qW x.num)||!(qW x.den))||decide ((qO (jQ x.den))<=0))))] [] ?_ ?_
 ·refine zE (kW xN)<|zR (kT jX)<|zE (kH (r_valid x.num (Nat.le_trans (xU hx.n1).l (by decide))))<|zE eL<|zE (oV (vb (!(qW x.num))) (qF (by kernel_rfl)))<|?_
  rcases hb1:(!(qW x.num)) with _ | _
  ·refine zE (kW vQ)<|zR (kT jX)<|zE (kH (r_valid x.den (Nat.le_trans (xU hx.n2).l (by decide))))<|zE eL<|zE aG<|zE (oV (vb (false||!(qW x.den))) (qF (by kernel_rfl)))<|?_
   rcases hb2:(false||!(qW x.den)) with _ | _
   ·exact zE (kW vQ)<|zR (kT jX)<|zE (kH (rs_sign (xU hx.n2)))<|zE oLe<|zE aG<|zZ
   ·exact zK<|zK<|zK<|zK<|zE yT<|zZ
  ·exact zK<|zK<|zK<|zK<|zE yT<|zM<|zK<|zK<|zK<|zK<|zE yT<|zZ
 refine jH rfl (fun h3=>?_) (fun h3=>?_)
 ·refine jB<|kx [(2,(vb false))] [] (zM<|zZ) ?_
  refine jE ⟨_,(.tmp (d:=(.val (.bool (false)))) rfl .nil),?_⟩
  rw[validR_no h3];rfl
 ·refine jF<|jB<|kx [(2,(vb ((uI (((Int.gcd (jQ x.num) (jQ x.den):Nat):Int)) 1) == 0)))] [] (zE (kW xN)<|zR (kT jX)<|zE (kW vQ)<|zR (kT jX)<|zE (kH (rs_gcd (xU hx.n1) (xU hx.n2)))<|zE (kH (g_whole1 1))<|zE (kH (rs_compare (mJ (k:=35184372087808) (xU hx.n1) (xU hx.n2)) (iok_small (z:=1)) (by decide) (by decide)))<|zE nT<|zM<|zZ) ?_
  refine jE ⟨_,(.tmp (d:=(.val (.bool (((uI (((Int.gcd (jQ x.num) (jQ x.den):Nat):Int)) 1) == 0))))) rfl .nil),?_⟩
  rw[validR_yes h3];rfl
theorem g_value(x:kP)(p:Rat)(hx:gD x p 35184372087808):jW Tryz.prog 38 [(jK x)] (jK (jP p)):=by
 refine uW Tryz.func38 ?_
 refine jB<|kx [(1,(.ref 0 0)),(2,(.ref 1 0))] [(0,some (bx (jK x))),(1,some (bx (jK qY)))] (zN (xA 0)<|zN (uT 1 uU uX)<|zZ) ?_
 refine jB<|jB<|kx [(4,(vb (kL x)))] [] (zR (kT jR)<|zE (kH (aQ x p hx))<|zZ) ?_
 refine jH (b:=(kL x)) rfl (fun h1=>?_) (fun h1=>?_)
 ·refine jB<|kx [] [(1,some (bx (jK x)))] (zR (kT jR)<|zT (qK jR)<|zZ) ?_
  refine jE ⟨_,(kQ (cs:=(bx (jK x))) (d:=(jK x)) rfl rfl jR rfl rfl .nil),?_⟩
  rw[<- hx.v,ofQ_toQ h1];rfl
 ·refine jF<|jB<|kx [] [(1,some (bx (jK (jP ((0:Int):Rat)))))] (zE (kH (g_whole 0 (by decide) (by decide)))<|zT (qK jR)<|zZ) ?_
  refine jE ⟨_,(kQ (cs:=(bx (jK (jP ((0:Int):Rat))))) (d:=(jK (jP ((0:Int):Rat)))) rfl rfl jR rfl rfl .nil),?_⟩
  rw[<- hx.v,toQ_bad h1];rfl
theorem g_sign(x:kP)(p:Rat)(hx:gD x p 35184372087808):jW Tryz.prog 42 [(jK x)] (.val (.int .i64 ((mY p)))):=by
 refine uW Tryz.func42 ?_
 refine jB<|kx [(1,(.ref 0 0))] [(0,some (bx (jK x)))] (zN (xA 0)<|zM<|zZ) ?_
 refine jB<|kx [(2,(vi (qO p.num)))] [] (zR (kT jR)<|zE (kH (g_value x p hx))<|zE (oFv ft28_0 jX)<|zE (kH (rs_sign (uE hx.ql)))<|zM<|zZ) ?_
 refine jE ⟨_,(.tmp (d:=(.val (.int .i64 ((qO p.num))))) rfl .nil),?_⟩
 rfl
theorem g_neg(x:kP)(p:Rat)(hx:gD x p 17179869184):jW Tryz.prog 43 [(jK x)] (jK (jP (-p))):=by
 refine uW Tryz.func43 ?_
 refine jB<|kx [(1,(.ref 0 0)),(2,(.ref 1 0))] [(0,some (bx (jK x))),(1,some (bx (jK qY)))] (zN (xA 0)<|zN (uT 1 uU uX)<|zZ) ?_
 refine jB<|kx [(3,(.ref 2 0))] [(2,some (bx (jK (jP p))))] (zR (kT jR)<|zE (kH (g_value x p (kE hx)))<|zN (uT 2 uU uX)<|zT (qK jR)<|zZ) ?_
 refine jB<|kd [] [(1,some (bx (jK (kP.mk (kD (-p.num)) ((jP p).den)))))] mo (wE (kW xN)<|wR (kT jX)<|wE (kH (rs_neg (uE hx.ql)))<|wE (kW vQ)<|wR (kT jX)<|wE (oBd pl28 uU uX)<|wT (qK jR)<|wZ) ?_
 refine jE ⟨_,(kQ (cs:=(bx (jK (kP.mk (kD (-p.num)) ((jP p).den))))) (d:=(jK (kP.mk (kD (-p.num)) ((jP p).den)))) rfl rfl jR rfl rfl .nil),?_⟩
 rfl
theorem g_abs(x:kP)(p:Rat)(hx:gD x p 17179869184):jW Tryz.prog 13 [(jK x)] (jK (jP (zW p))):=by
 refine uW Tryz.func13 ?_
 refine jB<|kx [(1,(.ref 0 0)),(2,(.ref 1 0))] [(0,some (bx (jK x))),(1,some (bx (jK qY)))] (zN (xA 0)<|zN (uT 1 uU uX)<|zZ) ?_
 refine jB<|jB<|kx [(5,(vb (decide ((mY p)<0))))] [] (zR (kT jR)<|zE (kH (g_sign x p (kE hx)))<|zE xO<|zZ) ?_
 refine jH (b:=decide ((mY p)<0)) rfl (fun h1=>?_) (fun h1=>?_)
 ·replace h1:=xF h1
  refine jB<|kx [] [(1,some (bx (jK (jP (-p)))))] (zR (kT jR)<|zE (kH (g_neg x p hx))<|zT (qK jR)<|zZ) ?_
  refine jE ⟨_,(kQ (cs:=(bx (jK (jP (-p))))) (d:=(jK (jP (-p)))) rfl rfl jR rfl rfl .nil),?_⟩
  rw[absQ_neg h1];rfl
 ·replace h1:=xH h1
  refine jF<|jB<|kx [] [(1,some (bx (jK (jP p))))] (zR (kT jR)<|zE (kH (g_value x p (kE hx)))<|zT (qK jR)<|zZ) ?_
  refine jE ⟨_,(kQ (cs:=(bx (jK (jP p)))) (d:=(jK (jP p))) rfl rfl jR rfl rfl .nil),?_⟩
  rw[absQ_pos h1];rfl
theorem g_add(x:kP)(y:kP)(p:Rat)(q:Rat)(hx:gD x p 17179869184)(hy:gD y q 17179869184):jW Tryz.prog 12 [(jK x),(jK y)] (jK (jP (p+q))):=by
 refine uW Tryz.func12 ?_
 refine jB<|kx [(2,(.ref 0 0)),(3,(.ref 1 0)),(4,(.ref 2 0))] [(0,some (bx (jK x))),(1,some (bx (jK y))),(2,some (bx (jK qY)))] (zN (xA 0)<|zN (xA 1)<|zN (uT 2 uU uX)<|zZ) ?_
 refine jB<|kx [(5,(.ref 3 0))] [(3,some (bx (jK (jP p))))] (zR (kT jR)<|zE (kH (g_value x p (kE hx)))<|zN (uT 3 uU uX)<|zT (qK jR)<|zZ) ?_
 refine jB<|kx [(6,(.ref 4 0))] [(4,some (bx (jK (jP q))))] (zR (kT jR)<|zE (kH (g_value y q (kE hy)))<|zN (uT 4 uU uX)<|zT (qK jR)<|zZ) ?_
 refine jB<|kd [] [(2,some (bx (jK (jP (Rat.divInt ((p.num*(q.den:Int))+(q.num*(p.den:Int))) ((p.den:Int)*(q.den:Int)))))))] mo (wE (kW xN)<|wR (kT jX)<|wE (kW vQ)<|wR (kT jX)<|wE (kH (rs_mul (uE hx.ql) (qU hy.ql)))<|wE (kW xN)<|wR (kT jX)<|wE (kW vQ)<|wR (kT jX)<|wE (kH (rs_mul (uE hy.ql) (qU hx.ql)))<|wE (kH (rs_add (zY (k:=34359738368) (uE hx.ql) (qU hy.ql)) (zY (k:=34359738368) (uE hy.ql) (qU hx.ql)) (by decide) (by decide)))<|wE (kW vQ)<|wR (kT jX)<|wE (kW vQ)<|wR (kT jX)<|wE (kH (rs_mul (qU hx.ql) (qU hy.ql)))<|wE (kH (g_reduced (kD ((p.num*(q.den:Int))+(q.num*(p.den:Int)))) (kD ((p.den:Int)*(q.den:Int))) ((p.num*(q.den:Int))+(q.num*(p.den:Int))) ((p.den:Int)*(q.den:Int)) (cM (iok_add (k:=34359738369) (zY (k:=34359738368) (uE hx.ql) (qU hy.ql)) (zY (k:=34359738368) (uE hy.ql) (qU hx.ql)))) (cM (zY (k:=34359738368) (qU hx.ql) (qU hy.ql))) (mul_ne (den_ne _) (den_ne _))))<|wT (qK jR)<|wZ) ?_
 refine jE ⟨_,(kQ (cs:=(bx (jK (jP (Rat.divInt ((p.num*(q.den:Int))+(q.num*(p.den:Int))) ((p.den:Int)*(q.den:Int))))))) (d:=(jK (jP (Rat.divInt ((p.num*(q.den:Int))+(q.num*(p.den:Int))) ((p.den:Int)*(q.den:Int)))))) rfl rfl jR rfl rfl .nil),?_⟩
 rw[add_divInt];rfl
theorem g_sub(x:kP)(y:kP)(p:Rat)(q:Rat)(hx:gD x p 17179869184)(hy:gD y q 17179869184):jW Tryz.prog 45 [(jK x),(jK y)] (jK (jP (p-q))):=by
 refine uW Tryz.func45 ?_
 refine jB<|kx [(2,(.ref 0 0)),(3,(.ref 1 0)),(4,(.ref 2 0))] [(0,some (bx (jK x))),(1,some (bx (jK y))),(2,some (bx (jK qY)))] (zN (xA 0)<|zN (xA 1)<|zN (uT 2 uU uX)<|zZ) ?_
 refine jB<|kd [] [(2,some (bx (jK (jP (p+(-q))))))] mo (wR (kT jR)<|wR (kT jR)<|wE (kH (g_neg y q hy))<|wE (kH (g_add x (jP (-q)) p (-q) hx (kN (nM hy.ql))))<|wT (qK jR)<|wZ) ?_
 refine jE ⟨_,(kQ (cs:=(bx (jK (jP (p+(-q)))))) (d:=(jK (jP (p+(-q))))) rfl rfl jR rfl rfl .nil),?_⟩
 rw[Rat.sub_eq_add_neg];rfl
theorem cN(x:kP)(y:kP)(p:Rat)(q:Rat)(hx:gD x p 4294967296)(hy:gD y q 4294967296):jW Tryz.prog 15 [(jK x),(jK y)] (.val (.int .i64 ((gW p q)))):=by
 refine uW Tryz.func15 ?_
 refine jB<|kx [(2,(.ref 0 0)),(3,(.ref 1 0))] [(0,some (bx (jK x))),(1,some (bx (jK y)))] (zN (xA 0)<|zN (xA 1)<|zM<|zZ) ?_
 refine jB<|kx [(4,(vi (mY (p-q))))] [] (zR (kT jR)<|zR (kT jR)<|zE (kH (g_sub x y p q (kE hx) (kE hy)))<|zE (kH (g_sign (jP (p-q)) (p-q) (kE (kN (ql_sub (k:=8589934593) hx.ql hy.ql (by decide))))))<|zM<|zZ) ?_
 refine jE ⟨_,(.tmp (d:=(.val (.int .i64 ((mY (p-q)))))) rfl .nil),?_⟩
 rw[<- signQ_sub];rfl
theorem g_same(x:kP)(y:kP)(p:Rat)(q:Rat)(hx:gD x p 4294967296)(hy:gD y q 4294967296):jW Tryz.prog 44 [(jK x),(jK y)] (.val (.bool ((sameR x y)))):=by
 refine uW Tryz.func44 ?_
 refine jB<|kx [(2,(.ref 0 0)),(3,(.ref 1 0))] [(0,some (bx (jK x))),(1,some (bx (jK y)))] (zN (xA 0)<|zN (xA 1)<|zM<|zZ) ?_
 refine jB<|kx [(4,(vb (((kL x)&&(kL y))&&((gW p q) == 0))))] [] ?_ ?_
 ·refine zR (kT jR)<|zE (kH (aQ x p (kE hx)))<|zE (oV (vb (kL x)) (qF (by kernel_rfl)))<|?_
  rcases hb1:(kL x) with _ | _
  ·exact zK<|zK<|zE gK<|zM<|zK<|zK<|zK<|zK<|zE gK<|zM<|zZ
  ·refine zR (kT jR)<|zE (kH (aQ y q (kE hy)))<|zE oPa<|zE (oV (vb (true&&(kL y))) (qF (by kernel_rfl)))<|?_
   rcases hb2:(true&&(kL y)) with _ | _
   ·exact zK<|zK<|zK<|zK<|zE gK<|zM<|zZ
   ·exact zR (kT jR)<|zR (kT jR)<|zE (kH (cN x y p q hx hy))<|zE nT<|zE oPa<|zM<|zZ
 refine jE ⟨_,(.tmp (d:=(.val (.bool ((((kL x)&&(kL y))&&((gW p q) == 0)))))) rfl .nil),?_⟩
 unfold sameR
 rw[<- sameR_eq,hx.v,hy.v];rfl
theorem g_digits(x:kP)(p:Rat)(hx:gD x p 140737488355328):jW Tryz.prog 19 [(jK x)] (.val (.int .i64 ((((digR x):Nat):Int)))):=by
 have h1:=hx.n1
 have h2:=hx.n2
 refine uW Tryz.func19 ?_
 refine jB<|kx [(1,(.ref 0 0))] [(0,some (bx (jK x)))] (zN (xA 0)<|zM<|zZ) ?_
 refine jB<|kx [(2,(jS (x.num.gs.length+x.den.gs.length)))] [] (zE (kW xN)<|zE (kW uR)<|zR (qR vZ)<|zE (zV kC)<|zE (kW vQ)<|zE (kW uR)<|zR (qR vZ)<|zE (zV kC)<|zE (vD (x.num.gs.length+x.den.gs.length))<|zM<|zZ) ?_
 refine jE ⟨_,(.tmp (d:=(.val (.int .i64 ((((x.num.gs.length+x.den.gs.length):Nat):Int))))) rfl .nil),?_⟩
 rfl
theorem xD:uB Tryz.prog 22=some (28,4):=by kernel_rfl
theorem vG:uB Tryz.prog 45=some (44,8):=by kernel_rfl
theorem gH:uL Tryz.prog 44 0=some 0:=by kernel_rfl
theorem yM:uL Tryz.prog 44 1=some 4:=by kernel_rfl
theorem pl44:mP Tryz.prog 44=some [(0,4),(4,4)]:=by kernel_rfl
theorem qI:qD Tryz.prog 44=some (true,8):=by kernel_rfl
theorem vI:vP Tryz.prog 44=some [.bool false,.slice none 0 0,.bool false,.slice none 0 0,.bool false,.slice none 0 0,.bool false,.slice none 0 0]:=by kernel_rfl
theorem xB:dV [.bool false,.slice none 0 0,.bool false,.slice none 0 0,.bool false,.slice none 0 0,.bool false,.slice none 0 0] [.val (.bool false),.sl 74 1 [],.val (.bool false),.sl 74 1 [],.val (.bool false),.sl 74 1 [],.val (.bool false),.sl 74 1 []]:=by simp [dV,Value.oneCell']
theorem i_valid(a:qB)(ha:GOk 4294967296 a):jW Tryz.prog 36 [(jJ a)] (.val (.bool ((cH a)))):=by
 refine uW Tryz.func36 ?_
 refine jB<|kx [(1,(.ref 0 0))] [(0,some (bx (jJ a)))] (zN (xA 0)<|zM<|zZ) ?_
 refine jB<|kx [(2,(vb (((kL a.lo)&&(kL a.hi))&&decide ((gW (xZ a.lo) (xZ a.hi))<=0))))] [] ?_ ?_
 ·refine zE (kW gH)<|zR (kT jR)<|zE (kH (bL a.lo (xZ a.lo) (kE ha.1)))<|zE (oV (vb (kL a.lo)) (qF (by kernel_rfl)))<|?_
  rcases hb1:(kL a.lo) with _ | _
  ·exact zK<|zK<|zK<|zE gK<|zM<|zK<|zK<|zK<|zK<|zK<|zK<|zE gK<|zM<|zZ
  ·refine zE (kW yM)<|zR (kT jR)<|zE (kH (bL a.hi (xZ a.hi) (kE ha.2)))<|zE oPa<|zE (oV (vb (true&&(kL a.hi))) (qF (by kernel_rfl)))<|?_
   rcases hb2:(true&&(kL a.hi)) with _ | _
   ·exact zK<|zK<|zK<|zK<|zK<|zK<|zE gK<|zM<|zZ
   ·exact zE (kW gH)<|zR (kT jR)<|zE (kW yM)<|zR (kT jR)<|zE (kH (f_compare a.lo a.hi (xZ a.lo) (xZ a.hi) (kE ha.1) (kE ha.2)))<|zE oLe<|zE oPa<|zM<|zZ
 refine jE ⟨_,(.tmp (d:=(.val (.bool ((((kL a.lo)&&(kL a.hi))&&decide ((gW (xZ a.lo) (xZ a.hi))<=0)))))) rfl .nil),?_⟩
 rw[validG_eq];rfl
theorem i_valids(l:List qB)(hl:∀ a∈l,GOk 4294967296 a)(hb:l.length<=1000000):jW Tryz.prog 131 [(.sl 44 8 (List.map jJ l))] (.val (.bool ((l.all cH)))):=by
 let y1:=(qB.mk qY qY)
 refine uW Tryz.func131 ?_
 refine jB<|kx [] [] (zM<|zZ) ?_
 refine jB<|jB<|kx [(5,(vl 44 8 jJ l)),(6,(jS l.length)),(7,(jS 0))] [] (zM<|zE (zV vG)<|zM<|zZ) ?_
 refine jG<|kU (α:=Nat) (fun i=>⟨[(5,(vl 44 8 jJ l)),(6,(jS l.length)),(7,(jS i))],[]⟩) (fun i=>i<=l.length/\(l.take i).all cH=true) (fun i=>l.length-i) 0 wk ⟨Nat.zero_le _,by simp⟩ ?_
 rintro i ⟨hi,hv⟩
 refine jB<|kx [(8,(vb (decide (((i:Nat):Int)<((l.length:Nat):Int)))))] [] (zE xO<|zZ) ?_
 refine jB<|jH rfl (fun h1=>?_) (fun h1=>?_)
 ·replace h1:=xF h1
  refine jF<|jB<|jG<|jB<|kx [(4,(.ref 0 0))] [(0,some (bx (jJ (l.getD i y1))))] (zE (dS vG i y1)<|zE (nX qI)<|zN (uT 0 vI xB)<|zT (qK qI)<|zZ) ?_
  refine jB<|kx [(13,(vb (!(cH (l.getD i y1)))))] [] (zR (kT qI)<|zE (kH (i_valid (l.getD i y1) (gok_get hl (show i<l.length by omega))))<|zE eL<|zZ) ?_
  refine jH rfl (fun h2=>?_) (fun h2=>?_)
  ·refine jB<|kx [(2,(vb false))] [] (zM<|zZ) ?_
   refine jE ⟨_,(.tmp (d:=(.val (.bool (false)))) rfl .nil),?_⟩
   rw[all_not (f:=cH) (l:=l) (i:=i) (d:=(qB.mk qY qY)) (by omega) (by simpa using h2)];rfl
  ·refine jF<|kx [(7,(jS (i+1)))] [] (zE (vD (i+1))<|zM<|zZ) ?_
   exact ⟨(i+1),wk,⟨by omega,all_take (d:=(qB.mk qY qY)) (by omega) hv (by simpa using h2)⟩,(by first|omega|(dsimp only;omega))⟩
 ·replace h1:=xH h1
  have hie:i=l.length:=by omega
  rw[hie,List.take_length] at hv
  refine kK<|jB<|kx [(2,(vb true))] [] (zM<|zZ) ?_
  refine jE ⟨_,(.tmp (d:=(.val (.bool (true)))) rfl .nil),?_⟩
  rw[hv];rfl
theorem i_spanned(p:Rat)(qs:List Rat)(hp:QL p 17179869184)(hqs:∀ q∈qs,QL q 17179869184)(hb:qs.length<=1000000):jW Tryz.prog 133 [(jK (jP p)),(.sl 28 4 (List.map jK (List.map jP qs)))] (jJ (qB.mk (jP (fM p qs)) (jP (eP p qs)))):=by
 refine uW Tryz.func133 ?_
 refine jB<|kx [(2,(.ref 0 0)),(4,(.ref 1 0))] [(0,some (bx (jK (jP p)))),(1,some (bx (jJ (qB.mk qY qY))))] (zN (xA 0)<|zN (uT 1 vI xB)<|zZ) ?_
 refine jB<|kx [(5,(.ref 2 0))] [(2,some (bx (jJ (qB.mk (jP p) (jP p)))))] (zR (kT jR)<|zR (kT jR)<|zE (oBd pl44 vI xB)<|zN (uT 2 vI xB)<|zT (qK qI)<|zZ) ?_
 refine jB<|jB<|kx [(11,(vl 28 4 jK (List.map jP qs))),(12,(jS qs.length)),(13,(jS 0))] [] (zM<|zE (oLn xD qs.length)<|zM<|zZ) ?_
 refine jG<|kU (α:=Nat × Rat × Rat) (fun (i,lo,hi)=>⟨[(4,(.ref 1 0)),(5,(.ref 2 0)),(11,(vl 28 4 jK (List.map jP qs))),(12,(jS qs.length)),(13,(jS i))],[(1,some (bx (jJ (qB.mk qY qY)))),(2,some (bx (jJ (qB.mk (jP lo) (jP hi)))))]⟩) (fun (i,lo,hi)=>i<=qs.length/\lo=fM p (qs.take i)/\hi=eP p (qs.take i)) (fun (i,lo,hi)=>qs.length-i) (0,p,p) wk ⟨Nat.zero_le _,rfl,rfl⟩ ?_
 rintro ⟨i,lo,hi⟩ ⟨hi1,hl,hh⟩
 have htk:∀ q∈qs.take i,QL q 17179869184:=fun q hq=>hqs q (List.mem_of_mem_take hq)
 have hlo:QL lo 17179869184:=by rw[hl];exact ql_mnL hp htk
 have hhi:QL hi 17179869184:=by rw[hh];exact ql_mxL hp htk
 refine jB<|kx [(14,(vb (decide (((i:Nat):Int)<((qs.length:Nat):Int)))))] [] (zE xO<|zZ) ?_
 refine jB<|jH rfl (fun h1=>?_) (fun h1=>?_)
 ·replace h1:=xF h1
  refine jF<|jB<|jG<|jB<|kx [(7,(.ref 3 0))] [(3,some (bx (jK (jP (qs.getD i 0)))))] (zE (oXm xD jP i 0)<|zE (nX jR)<|zN (uT 3 uU uX)<|zT (qK jR)<|zZ) ?_
  refine jB<|jB<|kx [(21,(vb (decide ((gW (qs.getD i 0) lo)<0))))] [] (zR (kT jR)<|zE (kW gH)<|zR (kT jR)<|zE (kH (f_compare (jP (qs.getD i 0)) (jP lo) (qs.getD i 0) lo (kN (dF hqs (by decide) i)) (kN hlo)))<|zE xO<|zZ) ?_
  refine jH (b:=decide ((gW (qs.getD i 0) lo)<0)) rfl (fun h2=>?_) (fun h2=>?_)
  ·replace h2:=xF h2
   have hc1:=h2
   refine kx [] [(2,some (bx (jJ (qB.mk (jP (qs.getD i 0)) (jP hi)))))] (zR (kT jR)<|zE (kW gH)<|zT (qK jR)<|zZ) ?_
   refine jB<|kx [(28,(vb (decide (0<(gW (qs.getD i 0) hi)))))] [] (zR (kT jR)<|zE (kW yM)<|zR (kT jR)<|zE (kH (f_compare (jP (qs.getD i 0)) (jP hi) (qs.getD i 0) hi (kN (dF hqs (by decide) i)) (kN hhi)))<|zE mB<|zZ) ?_
   refine jH (b:=decide (0<(gW (qs.getD i 0) hi))) rfl (fun h3=>?_) (fun h3=>?_)
   ·replace h3:=xF h3
    have hc2:=h3
    refine kx [] [(2,some (bx (jJ (qB.mk (jP (qs.getD i 0)) (jP (qs.getD i 0))))))] (zR (kT jR)<|zE (kW yM)<|zT (qK jR)<|zZ) ?_
    refine kx [(13,(jS (i+1)))] [] (zE (vD (i+1))<|zM<|zZ) ?_
    exact ⟨(i+1,qs.getD i 0,qs.getD i 0),wk,⟨by omega,mnL_lt (by omega) hl hc1,mxL_gt (by omega) hh hc2⟩,(by first|omega|(dsimp only;omega))⟩
   ·replace h3:=xH h3
    have hc2:=h3
    refine jF<|kx [(13,(jS (i+1)))] [] (zE (vD (i+1))<|zM<|zZ) ?_
    exact ⟨(i+1,qs.getD i 0,hi),wk,⟨by omega,mnL_lt (by omega) hl hc1,mxL_le (by omega) hh hc2⟩,(by first|omega|(dsimp only;omega))⟩
  ·replace h2:=xH h2
   have hc1:=h2
   refine jF<|jB<|kx [(28,(vb (decide (0<(gW (qs.getD i 0) hi)))))] [] (zR (kT jR)<|zE (kW yM)<|zR (kT jR)<|zE (kH (f_compare (jP (qs.getD i 0)) (jP hi) (qs.getD i 0) hi (kN (dF hqs (by decide) i)) (kN hhi)))<|zE mB<|zZ) ?_
   refine jH (b:=decide (0<(gW (qs.getD i 0) hi))) rfl (fun h4=>?_) (fun h4=>?_)
   ·replace h4:=xF h4
    have hc2:=h4
    refine kx [] [(2,some (bx (jJ (qB.mk (jP lo) (jP (qs.getD i 0))))))] (zR (kT jR)<|zE (kW yM)<|zT (qK jR)<|zZ) ?_
    refine kx [(13,(jS (i+1)))] [] (zE (vD (i+1))<|zM<|zZ) ?_
    exact ⟨(i+1,lo,qs.getD i 0),wk,⟨by omega,mnL_ge (by omega) hl hc1,mxL_gt (by omega) hh hc2⟩,(by first|omega|(dsimp only;omega))⟩
   ·replace h4:=xH h4
    have hc2:=h4
    refine jF<|kx [(13,(jS (i+1)))] [] (zE (vD (i+1))<|zM<|zZ) ?_
    exact ⟨(i+1,lo,hi),wk,⟨by omega,mnL_ge (by omega) hl hc1,mxL_le (by omega) hh hc2⟩,(by first|omega|(dsimp only;omega))⟩
 ·replace h1:=xH h1
  have hie:i=qs.length:=by omega
  rw[hie,List.take_length] at hl hh
  refine kK<|jB<|kx [] [(1,some (bx (jJ (qB.mk (jP lo) (jP hi)))))] (zR (kT qI)<|zT (qK qI)<|zZ) ?_
  refine jE ⟨_,(kQ (cs:=(bx (jJ (qB.mk (jP lo) (jP hi))))) (d:=(jJ (qB.mk (jP lo) (jP hi)))) rfl rfl qI rfl rfl .nil),?_⟩
  rw[hl,hh];rfl
theorem i_cornersM(p q r s:Rat)(hp:QL p 1073741824)(hq:QL q 1073741824)(hr:QL r 1073741824)(hs:QL s 1073741824):jW Tryz.prog 132 [(.val (.func (.func 26) #[] #[])),(jJ (qB.mk (jP p) (jP q))),(jJ (qB.mk (jP r) (jP s)))] (jJ (qB.mk (jP (fM (p*r) [(p*s),(q*r),(q*s)])) (jP (eP (p*r) [(p*s),(q*r),(q*s)])))):=by
 let y1:=(jJ (qB.mk (jP (fM (p*r) [(p*s),(q*r),(q*s)])) (jP (eP (p*r) [(p*s),(q*r),(q*s)]))))
 refine uW Tryz.func132 ?_
 refine jB<|kx [(4,(.ref 0 0)),(5,(.ref 1 0)),(6,(.ref 2 0))] [(0,some (bx (jJ (qB.mk (jP p) (jP q))))),(1,some (bx (jJ (qB.mk (jP r) (jP s))))),(2,some (bx (jJ (qB.mk qY qY))))] (zN (xA 0)<|zN (xA 1)<|zN (uT 2 vI xB)<|zZ) ?_
 refine jB<|kd [] [(2,some (bx y1))] mo (wM<|wE (kW gH)<|wR (kT jR)<|wE (kW gH)<|wR (kT jR)<|wE (kH (f_mul (jP p) (jP r) p r (kE (kN hp)) (kE (kN hr))))<|wM<|wE (kW gH)<|wR (kT jR)<|wE (kW yM)<|wR (kT jR)<|wE (kH (f_mul (jP p) (jP s) p s (kE (kN hp)) (kE (kN hs))))<|wM<|wE (kW yM)<|wR (kT jR)<|wE (kW gH)<|wR (kT jR)<|wE (kH (f_mul (jP q) (jP r) q r (kE (kN hq)) (kE (kN hr))))<|wM<|wE (kW yM)<|wR (kT jR)<|wE (kW yM)<|wR (kT jR)<|wE (kH (f_mul (jP q) (jP s) q s (kE (kN hq)) (kE (kN hs))))<|wE (dM xD uU uX)<|wE (kH (i_spanned (p*r) [(p*s),(q*r),(q*s)] (kS (vW (k:=2147483648) hp hr)) (List.forall_mem_cons.2 ⟨(kS (vW (k:=2147483648) hp hs)),(List.forall_mem_cons.2 ⟨(kS (vW (k:=2147483648) hq hr)),(List.forall_mem_cons.2 ⟨(kS (vW (k:=2147483648) hq hs)),(fun a h=>by cases h)⟩)⟩)⟩) (by simp)))<|wT (qK qI)<|wZ) ?_
 refine jE ⟨_,(kQ (cs:=(bx y1)) (d:=y1) rfl rfl qI rfl rfl .nil),?_⟩
 rfl
theorem i_mul(p q r s:Rat)(hp:QL p 1073741824)(hq:QL q 1073741824)(hr:QL r 1073741824)(hs:QL s 1073741824)(hpq:p<=q)(hrs:r<=s):jW Tryz.prog 118 [(jJ (qB.mk (jP p) (jP q))),(jJ (qB.mk (jP r) (jP s)))] (.tup [(jJ (qB.mk (jP (fM (p*r) [(p*s),(q*r),(q*s)])) (jP (eP (p*r) [(p*s),(q*r),(q*s)])))),(.val (.int .i64 (0)))]):=by
 let y1:=(jJ (qB.mk (jP (fM (p*r) [(p*s),(q*r),(q*s)])) (jP (eP (p*r) [(p*s),(q*r),(q*s)]))))
 refine uW Tryz.func118 ?_
 refine jB<|kx [(2,(.ref 0 0)),(3,(.ref 1 0)),(4,(.ref 2 0))] [(0,some (bx (jJ (qB.mk (jP p) (jP q))))),(1,some (bx (jJ (qB.mk (jP r) (jP s))))),(2,some (bx (jJ (qB.mk qY qY))))] (zN (xA 0)<|zN (xA 1)<|zN (uT 2 vI xB)<|zM<|zZ) ?_
 refine jB<|jB<|kx [(10,(vb false))] [] (zR (kT qI)<|zR (kT qI)<|zE (dM vG vI xB)<|zE (kH (by have h:=i_valids [(qB.mk (jP p) (jP q)),(qB.mk (jP r) (jP s))] (List.forall_mem_cons.2 ⟨(gok_up (⟨yO (kE (kN hp) (by decide:1073741824<=1073741824)),yO (kE (kN hq) (by decide:1073741824<=1073741824))⟩)),(List.forall_mem_cons.2 ⟨(gok_up (⟨yO (kE (kN hr) (by decide:1073741824<=1073741824)),yO (kE (kN hs) (by decide:1073741824<=1073741824))⟩)),(fun a h=>by cases h)⟩)⟩) (by simp);rw[show List.all [(qB.mk (jP p) (jP q)),(qB.mk (jP r) (jP s))] cH=true from by simp [dN hpq,dN hrs]] at h;exact h))<|zE eL<|zZ) ?_
 refine qH ?_
 refine jF<|jB<|kx [(5,(jS 0))] [(2,some (bx y1))] (zR (kT qI)<|zR (kT qI)<|zE (kH (i_cornersM p q r s hp hq hr hs))<|zT (qK qI)<|zM<|zZ) ?_
 refine jE ⟨_,(kQ (cs:=(bx y1)) (d:=y1) rfl rfl qI rfl rfl (.tmp (d:=(.val (.int .i64 (0)))) rfl .nil)),?_⟩
 rfl
theorem i_add(p q r s:Rat)(hp:QL p 1073741824)(hq:QL q 1073741824)(hr:QL r 1073741824)(hs:QL s 1073741824)(hpq:p<=q)(hrs:r<=s):jW Tryz.prog 116 [(jJ (qB.mk (jP p) (jP q))),(jJ (qB.mk (jP r) (jP s)))] (.tup [(jJ (qB.mk (jP (p+r)) (jP (q+s)))),(.val (.int .i64 (0)))]):=by
 refine uW Tryz.func116 ?_
 refine jB<|kx [(2,(.ref 0 0)),(3,(.ref 1 0)),(4,(.ref 2 0))] [(0,some (bx (jJ (qB.mk (jP p) (jP q))))),(1,some (bx (jJ (qB.mk (jP r) (jP s))))),(2,some (bx (jJ (qB.mk qY qY))))] (zN (xA 0)<|zN (xA 1)<|zN (uT 2 vI xB)<|zM<|zZ) ?_
 refine jB<|jB<|kx [(10,(vb false))] [] (zR (kT qI)<|zR (kT qI)<|zE (dM vG vI xB)<|zE (kH (by have h:=i_valids [(qB.mk (jP p) (jP q)),(qB.mk (jP r) (jP s))] (List.forall_mem_cons.2 ⟨(gok_up (⟨yO (kE (kN hp) (by decide:1073741824<=1073741824)),yO (kE (kN hq) (by decide:1073741824<=1073741824))⟩)),(List.forall_mem_cons.2 ⟨(gok_up (⟨yO (kE (kN hr) (by decide:1073741824<=1073741824)),yO (kE (kN hs) (by decide:1073741824<=1073741824))⟩)),(fun a h=>by cases h)⟩)⟩) (by simp);rw[show List.all [(qB.mk (jP p) (jP q)),(qB.mk (jP r) (jP s))] cH=true from by simp [dN hpq,dN hrs]] at h;exact h))<|zE eL<|zZ) ?_
 refine qH ?_
 refine jF<|jB<|kd [(5,(jS 0))] [(2,some (bx (jJ (qB.mk (jP (p+r)) (jP (q+s))))))] mo (wE (kW gH)<|wR (kT jR)<|wE (kW gH)<|wR (kT jR)<|wE (kH (f_add (jP p) (jP r) p r (kE (kN hp)) (kE (kN hr))))<|wE (kW yM)<|wR (kT jR)<|wE (kW yM)<|wR (kT jR)<|wE (kH (f_add (jP q) (jP s) q s (kE (kN hq)) (kE (kN hs))))<|wE (oBd pl44 vI xB)<|wT (qK qI)<|wM<|wZ) ?_
 refine jE ⟨_,(kQ (cs:=(bx (jJ (qB.mk (jP (p+r)) (jP (q+s)))))) (d:=(jJ (qB.mk (jP (p+r)) (jP (q+s))))) rfl rfl qI rfl rfl (.tmp (d:=(.val (.int .i64 (0)))) rfl .nil)),?_⟩
 rfl
end Go.Proofs.YtciingpdmjepgabGreatDoor
