/- Part 25 of a proof: rules, plain facts, and functions walked. -/
import Derived.Test.YtckccjhflbljgaaGreatDoorM24
set_option linter.all false
set_option maxRecDepth 4000
namespace Go.Proofs.YtckccjhflbljgaaGreatDoor
open Go.Fid
theorem s_neg{x:kS}{a:Int}{m:Nat}(hx:dP x a m)(hm:m<=274877906944:=by decide):jQ Tryz.prog 89 [(jR x)] (jR (kH (-a))):=by
 obtain ⟨rfl,hx'⟩:=hx
 exact t_neg x (by omega)
theorem s_sign{x:kS}{a:Int}{m:Nat}(hx:dP x a m)(hm:m<=274877906944:=by decide):jQ Tryz.prog 84 [(jR x)] (.val (.int .i64 (qS a))):=by
 obtain ⟨rfl,hx'⟩:=hx
 exact t_sign x (by omega)
theorem s_add{x y:kS}{a b:Int}{m n:Nat}(hx:dP x a m)(hy:dP y b n)(hm:m<=274877906944)(hn:n<=274877906944):jQ Tryz.prog 92 [(jR x),(jR y)] (jR (kH (a+b))):=by
 obtain ⟨rfl,hx'⟩:=hx;obtain ⟨rfl,hy'⟩:=hy
 exact t_add x y (by omega) (by omega)
theorem s_mul{x y:kS}{a b:Int}{m n:Nat}(hx:dP x a m)(hy:dP y b n)(hm:m<=274877906944:=by decide)(hn:n<=274877906944:=by decide):jQ Tryz.prog 91 [(jR x),(jR y)] (jR (kH (a*b))):=by
 obtain ⟨rfl,hx'⟩:=hx;obtain ⟨rfl,hy'⟩:=hy
 exact t_mul x y (by omega) (by omega)
theorem s_compare{x y:kS}{a b:Int}{m n:Nat}(hx:dP x a m)(hy:dP y b n)(hm:m<=274877906944:=by decide)(hn:n<=274877906944:=by decide):jQ Tryz.prog 85 [(jR x),(jR y)] (.val (.int .i64 (uT a b))):=by
 obtain ⟨rfl,hx'⟩:=hx;obtain ⟨rfl,hy'⟩:=hy
 exact t_compareI x y (by omega) (by omega)
theorem s_gcd{x y:kS}{a b:Int}{m n:Nat}(hx:dP x a m)(hy:dP y b n)(hm:m<=274877906944:=by decide)(hn:n<=274877906944:=by decide):jQ Tryz.prog 86 [(jR x),(jR y)] (jR (kH ((Int.gcd a b:Nat):Int))):=by
 obtain ⟨rfl,hx'⟩:=hx;obtain ⟨rfl,hy'⟩:=hy
 exact t_gcdI x y (by omega) (by omega)
theorem s_divide{x y:kS}{a b:Int}{m n:Nat}(hx:dP x a m)(hy:dP y b n)(hm:m<=274877906944)(hn:n<=274877906944)(hb:b≠0):jQ Tryz.prog 160 [(jR x),(jR y)] (.tup [(jR (kH (a.fdiv b))),(jR (kH (a.fmod b))),(.val (.int .i64 0))]):=by
 obtain ⟨rfl,hx'⟩:=hx;obtain ⟨rfl,hy'⟩:=hy
 exact t_divideI x y (by omega) (by omega) hb
theorem rs_neg{x:kS}{a:Int}{m:Nat}(hx:dP x a m)(hm:m<=274877906944:=by decide):jQ Tryz.prog 93 [(jR x)] (jR (kH (-a))):=by
 obtain ⟨rfl,hx'⟩:=hx
 exact r_neg x (by omega)
theorem rs_sign{x:kS}{a:Int}{m:Nat}(hx:dP x a m)(hm:m<=274877906944:=by decide):jQ Tryz.prog 95 [(jR x)] (.val (.int .i64 (qS a))):=by
 obtain ⟨rfl,hx'⟩:=hx
 exact r_sign x (by omega)
theorem rs_add{x y:kS}{a b:Int}{m n:Nat}(hx:dP x a m)(hy:dP y b n)(hm:m<=274877906944)(hn:n<=274877906944):jQ Tryz.prog 71 [(jR x),(jR y)] (jR (kH (a+b))):=by
 obtain ⟨rfl,hx'⟩:=hx;obtain ⟨rfl,hy'⟩:=hy
 exact r_add x y (by omega) (by omega)
theorem rs_mul{x y:kS}{a b:Int}{m n:Nat}(hx:dP x a m)(hy:dP y b n)(hm:m<=274877906944:=by decide)(hn:n<=274877906944:=by decide):jQ Tryz.prog 72 [(jR x),(jR y)] (jR (kH (a*b))):=by
 obtain ⟨rfl,hx'⟩:=hx;obtain ⟨rfl,hy'⟩:=hy
 exact r_mul x y (by omega) (by omega)
theorem rs_compare{x y:kS}{a b:Int}{m n:Nat}(hx:dP x a m)(hy:dP y b n)(hm:m<=274877906944)(hn:n<=274877906944):jQ Tryz.prog 96 [(jR x),(jR y)] (.val (.int .i64 (uT a b))):=by
 obtain ⟨rfl,hx'⟩:=hx;obtain ⟨rfl,hy'⟩:=hy
 exact r_compare x y (by omega) (by omega)
theorem rs_gcd{x y:kS}{a b:Int}{m n:Nat}(hx:dP x a m)(hy:dP y b n)(hm:m<=274877906944:=by decide)(hn:n<=274877906944:=by decide):jQ Tryz.prog 97 [(jR x),(jR y)] (jR (kH ((Int.gcd a b:Nat):Int))):=by
 obtain ⟨rfl,hx'⟩:=hx;obtain ⟨rfl,hy'⟩:=hy
 exact r_gcd x y (by omega) (by omega)
theorem rs_divide{x y:kS}{a b:Int}{m n:Nat}(hx:dP x a m)(hy:dP y b n)(hm:m<=274877906944)(hn:n<=274877906944)(hb:b≠0):jQ Tryz.prog 113 [(jR x),(jR y)] (.tup [(jR (kH (a.fdiv b))),(jR (kH (a.fmod b))),(.val (.int .i64 0))]):=by
 obtain ⟨rfl,hx'⟩:=hx;obtain ⟨rfl,hy'⟩:=hy
 exact r_divide x y (by omega) (by omega) hb
theorem xD:uU Tryz.prog 32 0=some 0:=by kernel_rfl
theorem vF:uU Tryz.prog 32 1=some 2:=by kernel_rfl
theorem ft32_0:iO Tryz.prog 32 0=some (0,30):=by kernel_rfl
theorem pl32:eF Tryz.prog 32=some [(0,2),(2,2)]:=by kernel_rfl
theorem jT:qD Tryz.prog 32=some (true,4):=by kernel_rfl
theorem qY:vX Tryz.prog 32=some [.bool false,.slice none 0 0,.bool false,.slice none 0 0]:=by kernel_rfl
theorem uJ:eL [.bool false,.slice none 0 0,.bool false,.slice none 0 0] [.val (.bool false),.sl 107 1 [],.val (.bool false),.sl 107 1 []]:=by simp [eL,Value.oneCell']
theorem f_reduced(num den:kS)(a b:Int)(iH:dP num a 68719476736)(aB:dP den b 68719476736)(hb:b≠0):jQ Tryz.prog 90 [(jR num),(jR den)] (jG (jM (Rat.divInt a b))):=by
 refine uR Tryz.func90 ?_
 refine jB<|kx [(2,(.ref 0 0)),(3,(.ref 1 0)),(4,(.ref 2 0))] [(0,some (bx (jR num))),(1,some (bx (jR den))),(2,some (bx (jG uG)))] (zN (xO 0)<|zN (xO 1)<|zN (vH 2 qY uJ)<|zZ) ?_
 refine jB<|jB<|kx [(8,(vb (decide ((qS b)<0))))] [] (zR (kP kB)<|zE (jY (s_sign aB))<|zE gZ<|zZ) ?_
 refine jE (b:=decide ((qS b)<0)) rfl (fun h1=>?_) (fun h1=>?_)
 ·replace h1:=vY h1
  have hlt:=signI_lt.1 h1
  have hb2:-b≠0:=by omega
  refine kd [] [(0,some (bx (jR (kH (-a))))),(1,some (bx (jR (kH (-b)))))] mo (wR (kP kB)<|wE (jY (s_neg iH))<|wR (kP kB)<|wE (jY (s_neg aB))<|wT (qJ kB)<|wT (qJ kB)<|wZ) ?_
  refine jB<|kx [(5,(.ref 3 0))] [(3,some (bx (jR (kH ((Int.gcd (-a) (-b):Nat):Int)))))] (zR (kP kB)<|zR (kP kB)<|zE (jY (s_gcd (cA iH) (cA aB)))<|zN (vH 3 nN nL)<|zT (qJ kB)<|zZ) ?_
  refine jB<|kx [] [(0,some (bx (jR (kH ((-a).fdiv (((Int.gcd (-a) (-b):Nat):Int)))))))] (zR (kP kB)<|zR (kP kB)<|zE (jY (s_divide (cA iH) (dC (k:=68719476736) (cA iH) (cA aB)) (by decide) (by decide) (gcd_ne (by omega))))<|zM<|zE xJ<|zE xJ<|zE xJ<|zT (qJ kB)<|zZ) ?_
  refine jB<|kx [] [(1,some (bx (jR (kH ((-b).fdiv (((Int.gcd (-a) (-b):Nat):Int)))))))] (zR (kP kB)<|zR (kP kB)<|zE (jY (s_divide (cA aB) (dC (k:=68719476736) (cA iH) (cA aB)) (by decide) (by decide) (gcd_ne (by omega))))<|zM<|zE xJ<|zE xJ<|zE xJ<|zT (qJ kB)<|zZ) ?_
  refine jB<|kx [] [(2,some (bx (jG (kT.mk (kH ((-a).fdiv (((Int.gcd (-a) (-b):Nat):Int)))) (kH ((-b).fdiv (((Int.gcd (-a) (-b):Nat):Int))))))))] (zR (kP kB)<|zR (kP kB)<|zE (oBd pl32 qY uJ)<|zT (qJ jT)<|zZ) ?_
  refine jF ⟨_,(kR (cs:=(bx (jG (kT.mk (kH ((-a).fdiv (((Int.gcd (-a) (-b):Nat):Int)))) (kH ((-b).fdiv (((Int.gcd (-a) (-b):Nat):Int)))))))) (d:=(jG (kT.mk (kH ((-a).fdiv (((Int.gcd (-a) (-b):Nat):Int)))) (kH ((-b).fdiv (((Int.gcd (-a) (-b):Nat):Int))))))) rfl rfl jT rfl rfl .nil),?_⟩
  rw[red_neg hlt];rfl
 ·replace h1:=xC h1
  have hge:¬ b<0:=fun hh=>h1 (signI_lt.2 hh)
  refine jD<|jB<|kx [(5,(.ref 4 0))] [(4,some (bx (jR (kH ((Int.gcd a b:Nat):Int)))))] (zR (kP kB)<|zR (kP kB)<|zE (jY (s_gcd iH aB))<|zN (vH 4 nN nL)<|zT (qJ kB)<|zZ) ?_
  refine jB<|kx [] [(0,some (bx (jR (kH (a.fdiv (((Int.gcd a b:Nat):Int)))))))] (zR (kP kB)<|zR (kP kB)<|zE (jY (s_divide iH (dC (k:=68719476736) iH aB) (by decide) (by decide) (gcd_ne (by omega))))<|zM<|zE xJ<|zE xJ<|zE xJ<|zT (qJ kB)<|zZ) ?_
  refine jB<|kx [] [(1,some (bx (jR (kH (b.fdiv (((Int.gcd a b:Nat):Int)))))))] (zR (kP kB)<|zR (kP kB)<|zE (jY (s_divide aB (dC (k:=68719476736) iH aB) (by decide) (by decide) (gcd_ne (by omega))))<|zM<|zE xJ<|zE xJ<|zE xJ<|zT (qJ kB)<|zZ) ?_
  refine jB<|kx [] [(2,some (bx (jG (kT.mk (kH (a.fdiv (((Int.gcd a b:Nat):Int)))) (kH (b.fdiv (((Int.gcd a b:Nat):Int))))))))] (zR (kP kB)<|zR (kP kB)<|zE (oBd pl32 qY uJ)<|zT (qJ jT)<|zZ) ?_
  refine jF ⟨_,(kR (cs:=(bx (jG (kT.mk (kH (a.fdiv (((Int.gcd a b:Nat):Int)))) (kH (b.fdiv (((Int.gcd a b:Nat):Int)))))))) (d:=(jG (kT.mk (kH (a.fdiv (((Int.gcd a b:Nat):Int)))) (kH (b.fdiv (((Int.gcd a b:Nat):Int))))))) rfl rfl jT rfl rfl .nil),?_⟩
  rw[red_pos hge hb];rfl
theorem aX(n:Int)(hlo:-9223372036854775808<=n:=by decide)(hhi:n<=9223372036854775807:=by decide):jQ Tryz.prog 62 [(.val (.int .i64 (n)))] (jG (jM ((n:Int):Rat))):=by
 refine uR Tryz.func62 ?_
 refine jB<|kx [(2,(.ref 0 0))] [(0,some (bx (jG uG)))] (zN (vH 0 qY uJ)<|zZ) ?_
 refine jB<|kx [] [(0,some (bx (jG (kT.mk (kH n) (kH 1)))))] (zM<|zE (jY (t_of n (by omega) (by omega)))<|zE (jY (t_of 1))<|zE (oBd pl32 qY uJ)<|zT (qJ jT)<|zZ) ?_
 refine jF ⟨_,(kR (cs:=(bx (jG (kT.mk (kH n) (kH 1))))) (d:=(jG (kT.mk (kH n) (kH 1)))) rfl rfl jT rfl rfl .nil),?_⟩
 rfl
theorem f_valid(x:kT)(p:Rat)(hx:yX x p 17179869184):jQ Tryz.prog 45 [(jG x)] (.val (.bool ((kM x)))):=by
 refine uR Tryz.func45 ?_
 refine jB<|kx [(1,(.ref 0 0))] [(0,some (bx (jG x)))] (zN (xO 0)<|zM<|zZ) ?_
 refine jB<|jB<|kx [(18,(vb ((!(uF x.num)||!(uF x.den))||decide ((qS (jV x.den))<=0))))] [] ?_ ?_
 ·refine zE (kI xD)<|zR (kP kB)<|zE (jY (t_valid x.num (Nat.le_trans (yS hx.n1).l (by decide))))<|zE yT<|zE (oV (vb (!(uF x.num))) (kW (by kernel_rfl)))<|?_
  rcases hb1:(!(uF x.num)) with _ | _
  ·refine zE (kI vF)<|zR (kP kB)<|zE (jY (t_valid x.den (Nat.le_trans (yS hx.n2).l (by decide))))<|zE yT<|zE aC<|zE (oV (vb (false||!(uF x.den))) (kW (by kernel_rfl)))<|?_
   rcases hb2:(false||!(uF x.den)) with _ | _
   ·exact zE (kI vF)<|zR (kP kB)<|zE (jY (s_sign (yS hx.n2)))<|zE oLe<|zE aC<|zZ
   ·exact zK<|zK<|zK<|zK<|zE yH<|zZ
  ·exact zK<|zK<|zK<|zK<|zE yH<|zM<|zK<|zK<|zK<|zK<|zE yH<|zZ
 refine jE rfl (fun h3=>?_) (fun h3=>?_)
 ·refine jB<|kx [(2,(vb false))] [] (zM<|zZ) ?_
  refine jF ⟨_,(.tmp (d:=(.val (.bool (false)))) rfl .nil),?_⟩
  rw[validR_no h3];rfl
 ·refine jD<|jB<|kx [(2,(vb ((uT (((Int.gcd (jV x.num) (jV x.den):Nat):Int)) 1) == 0)))] [] (zE (kI xD)<|zR (kP kB)<|zE (kI vF)<|zR (kP kB)<|zE (jY (s_gcd (yS hx.n1) (yS hx.n2)))<|zE (jY (t_of 1))<|zE (jY (s_compare (dC (k:=17179869184) (yS hx.n1) (yS hx.n2)) (iE (z:=1))))<|zE xU<|zM<|zZ) ?_
  refine jF ⟨_,(.tmp (d:=(.val (.bool (((uT (((Int.gcd (jV x.num) (jV x.den):Nat):Int)) 1) == 0))))) rfl .nil),?_⟩
  rw[validR_yes h3];rfl
theorem f_copied(x:kT)(p:Rat)(hx:yX x p 17179869184):jQ Tryz.prog 159 [(jG x)] (jG (kT.mk (kH (-(-jV x.num))) (kH (-(-jV x.den))))):=by
 refine uR Tryz.func159 ?_
 refine jB<|kx [(1,(.ref 0 0)),(2,(.ref 1 0))] [(0,some (bx (jG x))),(1,some (bx (jG uG)))] (zN (xO 0)<|zN (vH 1 qY uJ)<|zZ) ?_
 refine jB<|kd [] [(1,some (bx (jG (kT.mk (kH (-(-(jV x.num)))) (kH (-(-(jV x.den))))))))] mo (wE (kI xD)<|wR (kP kB)<|wE (jY (s_neg (yS hx.n1)))<|wE (jY (s_neg (cA (yS hx.n1))))<|wE (kI vF)<|wR (kP kB)<|wE (jY (s_neg (yS hx.n2)))<|wE (jY (s_neg (cA (yS hx.n2))))<|wE (oBd pl32 qY uJ)<|wT (qJ jT)<|wZ) ?_
 refine jF ⟨_,(kR (cs:=(bx (jG (kT.mk (kH (-(-(jV x.num)))) (kH (-(-(jV x.den)))))))) (d:=(jG (kT.mk (kH (-(-(jV x.num)))) (kH (-(-(jV x.den))))))) rfl rfl jT rfl rfl .nil),?_⟩
 rfl
theorem cC(x:kT)(p:Rat)(hx:yX x p 17179869184):jQ Tryz.prog 88 [(jG x)] (jG (jM p)):=by
 refine uR Tryz.func88 ?_
 refine jB<|kx [(1,(.ref 0 0)),(2,(.ref 1 0))] [(0,some (bx (jG x))),(1,some (bx (jG uG)))] (zN (xO 0)<|zN (vH 1 qY uJ)<|zZ) ?_
 refine jB<|jB<|kx [(4,(vb (kM x)))] [] (zR (kP jT)<|zE (jY (f_valid x p hx))<|zZ) ?_
 refine jE (b:=(kM x)) rfl (fun h1=>?_) (fun h1=>?_)
 ·refine jB<|kx [] [(1,some (bx (jG (kT.mk (kH (-(-jV x.num))) (kH (-(-jV x.den)))))))] (zR (kP jT)<|zE (jY (f_copied x p hx))<|zT (qJ jT)<|zZ) ?_
  refine jF ⟨_,(kR (cs:=(bx (jG (kT.mk (kH (-(-jV x.num))) (kH (-(-jV x.den))))))) (d:=(jG (kT.mk (kH (-(-jV x.num))) (kH (-(-jV x.den)))))) rfl rfl jT rfl rfl .nil),?_⟩
  rw[<- hx.v,<- copied_eq h1];rfl
 ·refine jD<|jB<|kx [] [(1,some (bx (jG (jM ((0:Int):Rat)))))] (zE (jY (aX 0))<|zT (qJ jT)<|zZ) ?_
  refine jF ⟨_,(kR (cs:=(bx (jG (jM ((0:Int):Rat))))) (d:=(jG (jM ((0:Int):Rat)))) rfl rfl jT rfl rfl .nil),?_⟩
  rw[<- hx.v,toQ_bad h1];rfl
theorem f_sign(x:kT)(p:Rat)(hx:yX x p 17179869184):jQ Tryz.prog 212 [(jG x)] (.val (.int .i64 ((fU p)))):=by
 refine uR Tryz.func212 ?_
 refine jB<|kx [(1,(.ref 0 0))] [(0,some (bx (jG x)))] (zN (xO 0)<|zM<|zZ) ?_
 refine jB<|kx [(2,(vi (qS p.num)))] [] (zR (kP jT)<|zE (jY (cC x p hx))<|zE (oFv ft32_0 kB)<|zE (jY (s_sign (qR hx.ql)))<|zM<|zZ) ?_
 refine jF ⟨_,(.tmp (d:=(.val (.int .i64 ((qS p.num))))) rfl .nil),?_⟩
 rfl
theorem f_neg(x:kT)(p:Rat)(hx:yX x p 17179869184):jQ Tryz.prog 46 [(jG x)] (jG (jM (-p))):=by
 refine uR Tryz.func46 ?_
 refine jB<|kx [(1,(.ref 0 0)),(2,(.ref 1 0))] [(0,some (bx (jG x))),(1,some (bx (jG uG)))] (zN (xO 0)<|zN (vH 1 qY uJ)<|zZ) ?_
 refine jB<|kx [] [(0,some (bx (jG (jM p))))] (zR (kP jT)<|zE (jY (cC x p hx))<|zT (qJ jT)<|zZ) ?_
 refine jB<|kd [] [(1,some (bx (jG (kT.mk (kH (-p.num)) ((jM p).den)))))] mo (wE (kI xD)<|wR (kP kB)<|wE (jY (s_neg (qR hx.ql)))<|wE (kI vF)<|wR (kP kB)<|wE (oBd pl32 qY uJ)<|wT (qJ jT)<|wZ) ?_
 refine jF ⟨_,(kR (cs:=(bx (jG (kT.mk (kH (-p.num)) ((jM p).den))))) (d:=(jG (kT.mk (kH (-p.num)) ((jM p).den)))) rfl rfl jT rfl rfl .nil),?_⟩
 rfl
theorem f_add(x:kT)(y:kT)(p:Rat)(q:Rat)(hx:yX x p 17179869184)(hy:yX y q 17179869184):jQ Tryz.prog 48 [(jG x),(jG y)] (jG (jM (p+q))):=by
 refine uR Tryz.func48 ?_
 refine jB<|kx [(2,(.ref 0 0)),(3,(.ref 1 0)),(4,(.ref 2 0))] [(0,some (bx (jG x))),(1,some (bx (jG y))),(2,some (bx (jG uG)))] (zN (xO 0)<|zN (xO 1)<|zN (vH 2 qY uJ)<|zZ) ?_
 refine jB<|kd [] [(0,some (bx (jG (jM p)))),(1,some (bx (jG (jM q))))] mo (wR (kP jT)<|wE (jY (cC x p hx))<|wR (kP jT)<|wE (jY (cC y q hy))<|wT (qJ jT)<|wT (qJ jT)<|wZ) ?_
 refine jB<|kd [] [(2,some (bx (jG (jM (Rat.divInt ((p.num*(q.den:Int))+(q.num*(p.den:Int))) ((p.den:Int)*(q.den:Int)))))))] mo (wE (kI xD)<|wR (kP kB)<|wE (kI vF)<|wR (kP kB)<|wE (jY (s_mul (qR hx.ql) (qN hy.ql)))<|wE (kI xD)<|wR (kP kB)<|wE (kI vF)<|wR (kP kB)<|wE (jY (s_mul (qR hy.ql) (qN hx.ql)))<|wE (jY (s_add (zY (k:=34359738368) (qR hx.ql) (qN hy.ql)) (zY (k:=34359738368) (qR hy.ql) (qN hx.ql)) (by decide) (by decide)))<|wE (kI vF)<|wR (kP kB)<|wE (kI vF)<|wR (kP kB)<|wE (jY (s_mul (qN hx.ql) (qN hy.ql)))<|wE (jY (f_reduced (kH ((p.num*(q.den:Int))+(q.num*(p.den:Int)))) (kH ((p.den:Int)*(q.den:Int))) ((p.num*(q.den:Int))+(q.num*(p.den:Int))) ((p.den:Int)*(q.den:Int)) (cO (iok_add (k:=34359738369) (zY (k:=34359738368) (qR hx.ql) (qN hy.ql)) (zY (k:=34359738368) (qR hy.ql) (qN hx.ql)))) (cO (zY (k:=34359738368) (qN hx.ql) (qN hy.ql))) (mul_ne (aA _) (aA _))))<|wT (qJ jT)<|wZ) ?_
 refine jF ⟨_,(kR (cs:=(bx (jG (jM (Rat.divInt ((p.num*(q.den:Int))+(q.num*(p.den:Int))) ((p.den:Int)*(q.den:Int))))))) (d:=(jG (jM (Rat.divInt ((p.num*(q.den:Int))+(q.num*(p.den:Int))) ((p.den:Int)*(q.den:Int)))))) rfl rfl jT rfl rfl .nil),?_⟩
 rw[add_divInt];rfl
theorem f_sub(x:kT)(y:kT)(p:Rat)(q:Rat)(hx:yX x p 17179869184)(hy:yX y q 17179869184):jQ Tryz.prog 49 [(jG x),(jG y)] (jG (jM (p-q))):=by
 refine uR Tryz.func49 ?_
 refine jB<|kx [(2,(.ref 0 0)),(3,(.ref 1 0)),(4,(.ref 2 0))] [(0,some (bx (jG x))),(1,some (bx (jG y))),(2,some (bx (jG uG)))] (zN (xO 0)<|zN (xO 1)<|zN (vH 2 qY uJ)<|zZ) ?_
 refine jB<|kd [] [(2,some (bx (jG (jM (p+(-q))))))] mo (wR (kP jT)<|wR (kP jT)<|wE (jY (f_neg y q hy))<|wE (jY (f_add x (jM (-q)) p (-q) hx (kC (ql_neg hy.ql))))<|wT (qJ jT)<|wZ) ?_
 refine jF ⟨_,(kR (cs:=(bx (jG (jM (p+(-q)))))) (d:=(jG (jM (p+(-q))))) rfl rfl jT rfl rfl .nil),?_⟩
 rw[Rat.sub_eq_add_neg];rfl
theorem f_mul(x:kT)(y:kT)(p:Rat)(q:Rat)(hx:yX x p 17179869184)(hy:yX y q 17179869184):jQ Tryz.prog 47 [(jG x),(jG y)] (jG (jM (p*q))):=by
 refine uR Tryz.func47 ?_
 refine jB<|kx [(2,(.ref 0 0)),(3,(.ref 1 0)),(4,(.ref 2 0))] [(0,some (bx (jG x))),(1,some (bx (jG y))),(2,some (bx (jG uG)))] (zN (xO 0)<|zN (xO 1)<|zN (vH 2 qY uJ)<|zZ) ?_
 refine jB<|kd [] [(0,some (bx (jG (jM p)))),(1,some (bx (jG (jM q))))] mo (wR (kP jT)<|wE (jY (cC x p hx))<|wR (kP jT)<|wE (jY (cC y q hy))<|wT (qJ jT)<|wT (qJ jT)<|wZ) ?_
 refine jB<|kd [] [(2,some (bx (jG (jM (Rat.divInt (p.num*q.num) ((p.den:Int)*(q.den:Int)))))))] mo (wE (kI xD)<|wR (kP kB)<|wE (kI xD)<|wR (kP kB)<|wE (jY (s_mul (qR hx.ql) (qR hy.ql)))<|wE (kI vF)<|wR (kP kB)<|wE (kI vF)<|wR (kP kB)<|wE (jY (s_mul (qN hx.ql) (qN hy.ql)))<|wE (jY (f_reduced (kH (p.num*q.num)) (kH ((p.den:Int)*(q.den:Int))) (p.num*q.num) ((p.den:Int)*(q.den:Int)) (cO (zY (k:=34359738368) (qR hx.ql) (qR hy.ql))) (cO (zY (k:=34359738368) (qN hx.ql) (qN hy.ql))) (mul_ne (aA _) (aA _))))<|wT (qJ jT)<|wZ) ?_
 refine jF ⟨_,(kR (cs:=(bx (jG (jM (Rat.divInt (p.num*q.num) ((p.den:Int)*(q.den:Int))))))) (d:=(jG (jM (Rat.divInt (p.num*q.num) ((p.den:Int)*(q.den:Int)))))) rfl rfl jT rfl rfl .nil),?_⟩
 rw[mul_divInt];rfl
theorem f_divide(x:kT)(y:kT)(p:Rat)(q:Rat)(hx:yX x p 17179869184)(hy:yX y q 17179869184):jQ Tryz.prog 50 [(jG x),(jG y)] (.tup [(jG (divR p q)),(.val (.int .i64 ((divC q))))]):=by
 refine uR Tryz.func50 ?_
 refine jB<|kx [(2,(.ref 0 0)),(3,(.ref 1 0)),(4,(.ref 2 0))] [(0,some (bx (jG x))),(1,some (bx (jG y))),(2,some (bx (jG uG)))] (zN (xO 0)<|zN (xO 1)<|zN (vH 2 qY uJ)<|zM<|zZ) ?_
 refine jB<|kd [] [(0,some (bx (jG (jM p)))),(1,some (bx (jG (jM q))))] mo (wR (kP jT)<|wE (jY (cC x p hx))<|wR (kP jT)<|wE (jY (cC y q hy))<|wT (qJ jT)<|wT (qJ jT)<|wZ) ?_
 refine jB<|jB<|kx [(13,(vb ((qS q.num) == 0)))] [] (zE (kI xD)<|zR (kP kB)<|zE (jY (s_sign (qR hy.ql)))<|zE xU<|zZ) ?_
 refine jE (b:=((qS q.num) == 0)) rfl (fun h1=>?_) (fun h1=>?_)
 ·replace h1:=eq_of_beq h1
  have hq0:=signQ_zero.1 h1
  refine jB<|kx [(5,(kF 14))] [(2,some (bx (jG uG)))] (zE (oBd pl32 qY uJ)<|zT (qJ jT)<|zM<|zZ) ?_
  refine jF ⟨_,(kR (cs:=(bx (jG uG))) (d:=(jG uG)) rfl rfl jT rfl rfl (.tmp (d:=(.val (.int .i64 (14)))) rfl .nil)),?_⟩
  rw[divR_zero hq0,divC_zero hq0];rfl
 ·replace h1:=ne_of_beq_false h1
  have hq0:q≠0:=fun hh=>h1 (signQ_zero.2 hh)
  refine jD<|jB<|kd [(5,(kF 0))] [(2,some (bx (jG (jM (Rat.divInt (p.num*(q.den:Int)) ((p.den:Int)*q.num))))))] mo (wE (kI xD)<|wR (kP kB)<|wE (kI vF)<|wR (kP kB)<|wE (jY (s_mul (qR hx.ql) (qN hy.ql)))<|wE (kI vF)<|wR (kP kB)<|wE (kI xD)<|wR (kP kB)<|wE (jY (s_mul (qN hx.ql) (qR hy.ql)))<|wE (jY (f_reduced (kH (p.num*(q.den:Int))) (kH ((p.den:Int)*q.num)) (p.num*(q.den:Int)) ((p.den:Int)*q.num) (cO (zY (k:=34359738368) (qR hx.ql) (qN hy.ql))) (cO (zY (k:=34359738368) (qN hx.ql) (qR hy.ql))) (mul_ne (aA _) (num_ne hq0))))<|wT (qJ jT)<|wM<|wZ) ?_
  refine jF ⟨_,(kR (cs:=(bx (jG (jM (Rat.divInt (p.num*(q.den:Int)) ((p.den:Int)*q.num)))))) (d:=(jG (jM (Rat.divInt (p.num*(q.den:Int)) ((p.den:Int)*q.num))))) rfl rfl jT rfl rfl (.tmp (d:=(.val (.int .i64 (0)))) rfl .nil)),?_⟩
  rw[divR_ne hq0,divC_ne hq0,div_divInt];rfl
theorem bT(x:kT)(y:kT)(p:Rat)(q:Rat)(hx:yX x p 17179869184)(hy:yX y q 17179869184):jQ Tryz.prog 112 [(jG x),(jG y)] (.val (.int .i64 ((mE p q)))):=by
 refine uR Tryz.func112 ?_
 refine jB<|kx [(2,(.ref 0 0)),(3,(.ref 1 0))] [(0,some (bx (jG x))),(1,some (bx (jG y)))] (zN (xO 0)<|zN (xO 1)<|zM<|zZ) ?_
 refine jB<|kd [] [(0,some (bx (jG (jM p)))),(1,some (bx (jG (jM q))))] mo (wR (kP jT)<|wE (jY (cC x p hx))<|wR (kP jT)<|wE (jY (cC y q hy))<|wT (qJ jT)<|wT (qJ jT)<|wZ) ?_
 refine jB<|kd [(4,(vi (uT (p.num*(q.den:Int)) (q.num*(p.den:Int)))))] [] mo (wE (kI xD)<|wR (kP kB)<|wE (kI vF)<|wR (kP kB)<|wE (jY (s_mul (qR hx.ql) (qN hy.ql)))<|wE (kI xD)<|wR (kP kB)<|wE (kI vF)<|wR (kP kB)<|wE (jY (s_mul (qR hy.ql) (qN hx.ql)))<|wE (jY (s_compare (zY (k:=34359738368) (qR hx.ql) (qN hy.ql)) (zY (k:=34359738368) (qR hy.ql) (qN hx.ql))))<|wM<|wZ) ?_
 refine jF ⟨_,(.tmp (d:=(.val (.int .i64 ((uT (p.num*(q.den:Int)) (q.num*(p.den:Int))))))) rfl .nil),?_⟩
 rw[<- cmpQ_cross];rfl
theorem g_reduced(num den:kS)(a b:Int)(iH:dP num a 68719476736)(aB:dP den b 68719476736)(hb:b≠0):jQ Tryz.prog 70 [(jR num),(jR den)] (jG (jM (Rat.divInt a b))):=by
 refine uR Tryz.func70 ?_
 refine jB<|kx [(2,(.ref 0 0)),(3,(.ref 1 0)),(4,(.ref 2 0))] [(0,some (bx (jR num))),(1,some (bx (jR den))),(2,some (bx (jG uG)))] (zN (xO 0)<|zN (xO 1)<|zN (vH 2 qY uJ)<|zZ) ?_
 refine jB<|kx [(5,(.ref 3 0))] [(3,some (bx (jR (kH ((Int.gcd a b:Nat):Int)))))] (zR (kP kB)<|zR (kP kB)<|zE (jY (rs_gcd iH aB))<|zN (vH 3 nN nL)<|zT (qJ kB)<|zZ) ?_
 refine jB<|jB<|kx [(17,(vb (decide ((qS b)<0))))] [] (zR (kP kB)<|zE (jY (rs_sign aB))<|zE gZ<|zZ) ?_
 refine jE (b:=decide ((qS b)<0)) rfl (fun h1=>?_) (fun h1=>?_)
 ·replace h1:=vY h1
  have hlt:=signI_lt.1 h1
  refine kx [] [(3,some (bx (jR (kH (-(((Int.gcd a b:Nat):Int)))))))] (zR (kP kB)<|zE (jY (rs_neg (dC (k:=68719476736) iH aB)))<|zT (qJ kB)<|zZ) ?_
  refine jB<|kx [(6,(.ref 4 0))] [(4,some (bx (jR (kH (a.fdiv (-(((Int.gcd a b:Nat):Int)))))))),(5,none)] (zR (kP kB)<|zR (kP kB)<|zE (jY (rs_divide iH (cA (dC (k:=68719476736) iH aB)) (by decide) (by decide) (by have:=gcd_ne (a:=a) hb;omega)))<|zM<|zE xJ<|zE xJ<|zE xJ<|zN (vH 4 nN nL)<|zN (vH 5 nN nL)<|zT (qJ kB)<|zT (qJ kB)<|zM<|zZ) ?_
  refine jB<|kx [(9,(.ref 6 0))] [(6,some (bx (jR (kH (b.fdiv (-(((Int.gcd a b:Nat):Int)))))))),(7,none)] (zR (kP kB)<|zR (kP kB)<|zE (jY (rs_divide aB (cA (dC (k:=68719476736) iH aB)) (by decide) (by decide) (by have:=gcd_ne (a:=a) hb;omega)))<|zM<|zE xJ<|zE xJ<|zE xJ<|zN (vH 6 nN nL)<|zN (vH 7 nN nL)<|zT (qJ kB)<|zT (qJ kB)<|zM<|zZ) ?_
  refine jB<|kx [] [(2,some (bx (jG (kT.mk (kH (a.fdiv (-(((Int.gcd a b:Nat):Int))))) (kH (b.fdiv (-(((Int.gcd a b:Nat):Int)))))))))] (zR (kP kB)<|zR (kP kB)<|zE (oBd pl32 qY uJ)<|zT (qJ jT)<|zZ) ?_
  refine jF ⟨_,(kR (cs:=(bx (jG (kT.mk (kH (a.fdiv (-(((Int.gcd a b:Nat):Int))))) (kH (b.fdiv (-(((Int.gcd a b:Nat):Int))))))))) (d:=(jG (kT.mk (kH (a.fdiv (-(((Int.gcd a b:Nat):Int))))) (kH (b.fdiv (-(((Int.gcd a b:Nat):Int)))))))) rfl rfl jT rfl rfl .nil),?_⟩
  rw[<- red_neg2 hlt];rfl
 ·replace h1:=xC h1
  have hge:¬ b<0:=fun hh=>h1 (signI_lt.2 hh)
  refine jD<|jB<|kx [(6,(.ref 8 0))] [(8,some (bx (jR (kH (a.fdiv (((Int.gcd a b:Nat):Int))))))),(9,none)] (zR (kP kB)<|zR (kP kB)<|zE (jY (rs_divide iH (dC (k:=68719476736) iH aB) (by decide) (by decide) (by have:=gcd_ne (a:=a) hb;omega)))<|zM<|zE xJ<|zE xJ<|zE xJ<|zN (vH 8 nN nL)<|zN (vH 9 nN nL)<|zT (qJ kB)<|zT (qJ kB)<|zM<|zZ) ?_
  refine jB<|kx [(9,(.ref 10 0))] [(10,some (bx (jR (kH (b.fdiv (((Int.gcd a b:Nat):Int))))))),(11,none)] (zR (kP kB)<|zR (kP kB)<|zE (jY (rs_divide aB (dC (k:=68719476736) iH aB) (by decide) (by decide) (by have:=gcd_ne (a:=a) hb;omega)))<|zM<|zE xJ<|zE xJ<|zE xJ<|zN (vH 10 nN nL)<|zN (vH 11 nN nL)<|zT (qJ kB)<|zT (qJ kB)<|zM<|zZ) ?_
  refine jB<|kx [] [(2,some (bx (jG (kT.mk (kH (a.fdiv (((Int.gcd a b:Nat):Int)))) (kH (b.fdiv (((Int.gcd a b:Nat):Int))))))))] (zR (kP kB)<|zR (kP kB)<|zE (oBd pl32 qY uJ)<|zT (qJ jT)<|zZ) ?_
  refine jF ⟨_,(kR (cs:=(bx (jG (kT.mk (kH (a.fdiv (((Int.gcd a b:Nat):Int)))) (kH (b.fdiv (((Int.gcd a b:Nat):Int)))))))) (d:=(jG (kT.mk (kH (a.fdiv (((Int.gcd a b:Nat):Int)))) (kH (b.fdiv (((Int.gcd a b:Nat):Int))))))) rfl rfl jT rfl rfl .nil),?_⟩
  rw[red_pos hge hb];rfl
theorem g_whole1(n:Int)(hlo:-9223372036854775808<=n:=by decide)(hhi:n<=9223372036854775807:=by decide):jQ Tryz.prog 75 [(.val (.int .i64 (n)))] (jR (kH n)):=by
 refine uR Tryz.func75 ?_
 refine jB<|kx [(2,(.ref 0 0))] [(0,some (bx (jR (kS.mk false []))))] (zN (vH 0 nN nL)<|zZ) ?_
 refine jB<|kx [] [(0,some (bx (jR (kH n))))] (zM<|zE (jY (r_of n (by omega) (by omega)))<|zT (qJ kB)<|zZ) ?_
 refine jF ⟨_,(kR (cs:=(bx (jR (kH n)))) (d:=(jR (kH n))) rfl rfl kB rfl rfl .nil),?_⟩
 rfl
theorem g_whole(n:Int)(hlo:-9223372036854775808<=n:=by decide)(hhi:n<=9223372036854775807:=by decide):jQ Tryz.prog 42 [(.val (.int .i64 (n)))] (jG (jM ((n:Int):Rat))):=by
 refine uR Tryz.func42 ?_
 refine jB<|kx [(2,(.ref 0 0))] [(0,some (bx (jG uG)))] (zN (vH 0 qY uJ)<|zZ) ?_
 refine jB<|kx [] [(0,some (bx (jG (kT.mk (kH n) (kH 1)))))] (zM<|zE (jY (g_whole1 n (by omega) (by omega)))<|zE (jY (g_whole1 1))<|zE (oBd pl32 qY uJ)<|zT (qJ jT)<|zZ) ?_
 refine jF ⟨_,(kR (cs:=(bx (jG (kT.mk (kH n) (kH 1))))) (d:=(jG (kT.mk (kH n) (kH 1)))) rfl rfl jT rfl rfl .nil),?_⟩
 rfl
theorem lM(x:kT)(p:Rat)(hx:yX x p 17179869184):jQ Tryz.prog 53 [(jG x)] (.val (.bool ((kM x)))):=by
 refine uR Tryz.func53 ?_
 refine jB<|kx [(1,(.ref 0 0))] [(0,some (bx (jG x)))] (zN (xO 0)<|zM<|zZ) ?_
 refine jB<|jB<|kx [(18,(vb ((!(uF x.num)||!(uF x.den))||decide ((qS (jV x.den))<=0))))] [] ?_ ?_
 ·refine zE (kI xD)<|zR (kP kB)<|zE (jY (r_valid x.num (Nat.le_trans (yS hx.n1).l (by decide))))<|zE yT<|zE (oV (vb (!(uF x.num))) (kW (by kernel_rfl)))<|?_
  rcases hb1:(!(uF x.num)) with _ | _
  ·refine zE (kI vF)<|zR (kP kB)<|zE (jY (r_valid x.den (Nat.le_trans (yS hx.n2).l (by decide))))<|zE yT<|zE aC<|zE (oV (vb (false||!(uF x.den))) (kW (by kernel_rfl)))<|?_
   rcases hb2:(false||!(uF x.den)) with _ | _
   ·exact zE (kI vF)<|zR (kP kB)<|zE (jY (rs_sign (yS hx.n2)))<|zE oLe<|zE aC<|zZ
   ·exact zK<|zK<|zK<|zK<|zE yH<|zZ
  ·exact zK<|zK<|zK<|zK<|zE yH<|zM<|zK<|zK<|zK<|zK<|zE yH<|zZ
 refine jE rfl (fun h3=>?_) (fun h3=>?_)
 ·refine jB<|kx [(2,(vb false))] [] (zM<|zZ) ?_
  refine jF ⟨_,(.tmp (d:=(.val (.bool (false)))) rfl .nil),?_⟩
  rw[validR_no h3];rfl
 ·refine jD<|jB<|kx [(2,(vb ((uT (((Int.gcd (jV x.num) (jV x.den):Nat):Int)) 1) == 0)))] [] (zE (kI xD)<|zR (kP kB)<|zE (kI vF)<|zR (kP kB)<|zE (jY (rs_gcd (yS hx.n1) (yS hx.n2)))<|zE (jY (g_whole1 1))<|zE (jY (rs_compare (dC (k:=17179869184) (yS hx.n1) (yS hx.n2)) (iE (z:=1)) (by decide) (by decide)))<|zE xU<|zM<|zZ) ?_
  refine jF ⟨_,(.tmp (d:=(.val (.bool (((uT (((Int.gcd (jV x.num) (jV x.den):Nat):Int)) 1) == 0))))) rfl .nil),?_⟩
  rw[validR_yes h3];rfl
theorem aG(x:kT)(p:Rat)(hx:yX x p 17179869184):jQ Tryz.prog 69 [(jG x)] (jG (jM p)):=by
 refine uR Tryz.func69 ?_
 refine jB<|kx [(1,(.ref 0 0)),(2,(.ref 1 0))] [(0,some (bx (jG x))),(1,some (bx (jG uG)))] (zN (xO 0)<|zN (vH 1 qY uJ)<|zZ) ?_
 refine jB<|jB<|kx [(4,(vb (kM x)))] [] (zR (kP jT)<|zE (jY (lM x p hx))<|zZ) ?_
 refine jE (b:=(kM x)) rfl (fun h1=>?_) (fun h1=>?_)
 ·refine jB<|kx [] [(1,some (bx (jG x)))] (zR (kP jT)<|zT (qJ jT)<|zZ) ?_
  refine jF ⟨_,(kR (cs:=(bx (jG x))) (d:=(jG x)) rfl rfl jT rfl rfl .nil),?_⟩
  rw[<- hx.v,ofQ_toQ h1];rfl
 ·refine jD<|jB<|kx [] [(1,some (bx (jG (jM ((0:Int):Rat)))))] (zE (jY (g_whole 0))<|zT (qJ jT)<|zZ) ?_
  refine jF ⟨_,(kR (cs:=(bx (jG (jM ((0:Int):Rat))))) (d:=(jG (jM ((0:Int):Rat)))) rfl rfl jT rfl rfl .nil),?_⟩
  rw[<- hx.v,toQ_bad h1];rfl
theorem g_sign(x:kT)(p:Rat)(hx:yX x p 17179869184):jQ Tryz.prog 98 [(jG x)] (.val (.int .i64 ((fU p)))):=by
 refine uR Tryz.func98 ?_
 refine jB<|kx [(1,(.ref 0 0))] [(0,some (bx (jG x)))] (zN (xO 0)<|zM<|zZ) ?_
 refine jB<|kx [(2,(vi (qS p.num)))] [] (zR (kP jT)<|zE (jY (aG x p hx))<|zE (oFv ft32_0 kB)<|zE (jY (rs_sign (qR hx.ql)))<|zM<|zZ) ?_
 refine jF ⟨_,(.tmp (d:=(.val (.int .i64 ((qS p.num))))) rfl .nil),?_⟩
 rfl
theorem g_neg(x:kT)(p:Rat)(hx:yX x p 17179869184):jQ Tryz.prog 51 [(jG x)] (jG (jM (-p))):=by
 refine uR Tryz.func51 ?_
 refine jB<|kx [(1,(.ref 0 0)),(2,(.ref 1 0))] [(0,some (bx (jG x))),(1,some (bx (jG uG)))] (zN (xO 0)<|zN (vH 1 qY uJ)<|zZ) ?_
 refine jB<|kx [(3,(.ref 2 0))] [(2,some (bx (jG (jM p))))] (zR (kP jT)<|zE (jY (aG x p hx))<|zN (vH 2 qY uJ)<|zT (qJ jT)<|zZ) ?_
 refine jB<|kd [] [(1,some (bx (jG (kT.mk (kH (-p.num)) ((jM p).den)))))] mo (wE (kI xD)<|wR (kP kB)<|wE (jY (rs_neg (qR hx.ql)))<|wE (kI vF)<|wR (kP kB)<|wE (oBd pl32 qY uJ)<|wT (qJ jT)<|wZ) ?_
 refine jF ⟨_,(kR (cs:=(bx (jG (kT.mk (kH (-p.num)) ((jM p).den))))) (d:=(jG (kT.mk (kH (-p.num)) ((jM p).den)))) rfl rfl jT rfl rfl .nil),?_⟩
 rfl
theorem g_add(x:kT)(y:kT)(p:Rat)(q:Rat)(hx:yX x p 17179869184)(hy:yX y q 17179869184):jQ Tryz.prog 22 [(jG x),(jG y)] (jG (jM (p+q))):=by
 refine uR Tryz.func22 ?_
 refine jB<|kx [(2,(.ref 0 0)),(3,(.ref 1 0)),(4,(.ref 2 0))] [(0,some (bx (jG x))),(1,some (bx (jG y))),(2,some (bx (jG uG)))] (zN (xO 0)<|zN (xO 1)<|zN (vH 2 qY uJ)<|zZ) ?_
 refine jB<|kx [(5,(.ref 3 0))] [(3,some (bx (jG (jM p))))] (zR (kP jT)<|zE (jY (aG x p hx))<|zN (vH 3 qY uJ)<|zT (qJ jT)<|zZ) ?_
 refine jB<|kx [(6,(.ref 4 0))] [(4,some (bx (jG (jM q))))] (zR (kP jT)<|zE (jY (aG y q hy))<|zN (vH 4 qY uJ)<|zT (qJ jT)<|zZ) ?_
 refine jB<|kd [] [(2,some (bx (jG (jM (Rat.divInt ((p.num*(q.den:Int))+(q.num*(p.den:Int))) ((p.den:Int)*(q.den:Int)))))))] mo (wE (kI xD)<|wR (kP kB)<|wE (kI vF)<|wR (kP kB)<|wE (jY (rs_mul (qR hx.ql) (qN hy.ql)))<|wE (kI xD)<|wR (kP kB)<|wE (kI vF)<|wR (kP kB)<|wE (jY (rs_mul (qR hy.ql) (qN hx.ql)))<|wE (jY (rs_add (zY (k:=34359738368) (qR hx.ql) (qN hy.ql)) (zY (k:=34359738368) (qR hy.ql) (qN hx.ql)) (by decide) (by decide)))<|wE (kI vF)<|wR (kP kB)<|wE (kI vF)<|wR (kP kB)<|wE (jY (rs_mul (qN hx.ql) (qN hy.ql)))<|wE (jY (g_reduced (kH ((p.num*(q.den:Int))+(q.num*(p.den:Int)))) (kH ((p.den:Int)*(q.den:Int))) ((p.num*(q.den:Int))+(q.num*(p.den:Int))) ((p.den:Int)*(q.den:Int)) (cO (iok_add (k:=34359738369) (zY (k:=34359738368) (qR hx.ql) (qN hy.ql)) (zY (k:=34359738368) (qR hy.ql) (qN hx.ql)))) (cO (zY (k:=34359738368) (qN hx.ql) (qN hy.ql))) (mul_ne (aA _) (aA _))))<|wT (qJ jT)<|wZ) ?_
 refine jF ⟨_,(kR (cs:=(bx (jG (jM (Rat.divInt ((p.num*(q.den:Int))+(q.num*(p.den:Int))) ((p.den:Int)*(q.den:Int))))))) (d:=(jG (jM (Rat.divInt ((p.num*(q.den:Int))+(q.num*(p.den:Int))) ((p.den:Int)*(q.den:Int)))))) rfl rfl jT rfl rfl .nil),?_⟩
 rw[add_divInt];rfl
theorem g_sub(x:kT)(y:kT)(p:Rat)(q:Rat)(hx:yX x p 17179869184)(hy:yX y q 17179869184):jQ Tryz.prog 34 [(jG x),(jG y)] (jG (jM (p-q))):=by
 refine uR Tryz.func34 ?_
 refine jB<|kx [(2,(.ref 0 0)),(3,(.ref 1 0)),(4,(.ref 2 0))] [(0,some (bx (jG x))),(1,some (bx (jG y))),(2,some (bx (jG uG)))] (zN (xO 0)<|zN (xO 1)<|zN (vH 2 qY uJ)<|zZ) ?_
 refine jB<|kd [] [(2,some (bx (jG (jM (p+(-q))))))] mo (wR (kP jT)<|wR (kP jT)<|wE (jY (g_neg y q hy))<|wE (jY (g_add x (jM (-q)) p (-q) hx (kC (ql_neg hy.ql))))<|wT (qJ jT)<|wZ) ?_
 refine jF ⟨_,(kR (cs:=(bx (jG (jM (p+(-q)))))) (d:=(jG (jM (p+(-q))))) rfl rfl jT rfl rfl .nil),?_⟩
 rw[Rat.sub_eq_add_neg];rfl
theorem g_mul(x:kT)(y:kT)(p:Rat)(q:Rat)(hx:yX x p 17179869184)(hy:yX y q 17179869184):jQ Tryz.prog 23 [(jG x),(jG y)] (jG (jM (p*q))):=by
 refine uR Tryz.func23 ?_
 refine jB<|kx [(2,(.ref 0 0)),(3,(.ref 1 0)),(4,(.ref 2 0))] [(0,some (bx (jG x))),(1,some (bx (jG y))),(2,some (bx (jG uG)))] (zN (xO 0)<|zN (xO 1)<|zN (vH 2 qY uJ)<|zZ) ?_
 refine jB<|kx [(5,(.ref 3 0))] [(3,some (bx (jG (jM p))))] (zR (kP jT)<|zE (jY (aG x p hx))<|zN (vH 3 qY uJ)<|zT (qJ jT)<|zZ) ?_
 refine jB<|kx [(6,(.ref 4 0))] [(4,some (bx (jG (jM q))))] (zR (kP jT)<|zE (jY (aG y q hy))<|zN (vH 4 qY uJ)<|zT (qJ jT)<|zZ) ?_
 refine jB<|kd [] [(2,some (bx (jG (jM (Rat.divInt (p.num*q.num) ((p.den:Int)*(q.den:Int)))))))] mo (wE (kI xD)<|wR (kP kB)<|wE (kI xD)<|wR (kP kB)<|wE (jY (rs_mul (qR hx.ql) (qR hy.ql)))<|wE (kI vF)<|wR (kP kB)<|wE (kI vF)<|wR (kP kB)<|wE (jY (rs_mul (qN hx.ql) (qN hy.ql)))<|wE (jY (g_reduced (kH (p.num*q.num)) (kH ((p.den:Int)*(q.den:Int))) (p.num*q.num) ((p.den:Int)*(q.den:Int)) (cO (zY (k:=34359738368) (qR hx.ql) (qR hy.ql))) (cO (zY (k:=34359738368) (qN hx.ql) (qN hy.ql))) (mul_ne (aA _) (aA _))))<|wT (qJ jT)<|wZ) ?_
 refine jF ⟨_,(kR (cs:=(bx (jG (jM (Rat.divInt (p.num*q.num) ((p.den:Int)*(q.den:Int))))))) (d:=(jG (jM (Rat.divInt (p.num*q.num) ((p.den:Int)*(q.den:Int)))))) rfl rfl jT rfl rfl .nil),?_⟩
 rw[mul_divInt];rfl
theorem g_new(num den:kS)(a b:Int)(iH:dP num a 68719476736)(aB:dP den b 68719476736):jQ Tryz.prog 74 [(jR num),(jR den)] (.tup [(jG (newR a b)),(.val (.int .i64 ((newC b))))]):=by
 refine uR Tryz.func74 ?_
 refine jB<|kx [(2,(.ref 0 0)),(3,(.ref 1 0)),(4,(.ref 2 0))] [(0,some (bx (jR num))),(1,some (bx (jR den))),(2,some (bx (jG uG)))] (zN (xO 0)<|zN (xO 1)<|zN (vH 2 qY uJ)<|zM<|zZ) ?_
 refine jB<|jB<|kx [(8,(vb ((qS b) == 0)))] [] (zR (kP kB)<|zE (jY (rs_sign aB))<|zE xU<|zZ) ?_
 refine jE (b:=((qS b) == 0)) rfl (fun h1=>?_) (fun h1=>?_)
 ·replace h1:=eq_of_beq h1
  have hb:b=0:=sign0 h1
  refine jB<|kx [(5,(kF 14))] [(2,some (bx (jG uG)))] (zE (oBd pl32 qY uJ)<|zT (qJ jT)<|zM<|zZ) ?_
  refine jF ⟨_,(kR (cs:=(bx (jG uG))) (d:=(jG uG)) rfl rfl jT rfl rfl (.tmp (d:=(.val (.int .i64 (14)))) rfl .nil)),?_⟩
  rw[hb];rfl
 ·replace h1:=ne_of_beq_false h1
  have hb:b≠0:=fun hh=>h1 (by rw[hh];rfl)
  refine jD<|jB<|kx [(5,(kF 0))] [(2,some (bx (jG (jM (Rat.divInt a b)))))] (zR (kP kB)<|zR (kP kB)<|zE (jY (g_reduced num den a b iH aB (by assumption)))<|zT (qJ jT)<|zM<|zZ) ?_
  refine jF ⟨_,(kR (cs:=(bx (jG (jM (Rat.divInt a b))))) (d:=(jG (jM (Rat.divInt a b)))) rfl rfl jT rfl rfl (.tmp (d:=(.val (.int .i64 (0)))) rfl .nil)),?_⟩
  unfold newR newC;rw[if_neg hb,if_neg hb];rfl
theorem g_divide(x:kT)(y:kT)(p:Rat)(q:Rat)(hx:yX x p 17179869184)(hy:yX y q 17179869184):jQ Tryz.prog 52 [(jG x),(jG y)] (.tup [(jG (divR p q)),(.val (.int .i64 ((divC q))))]):=by
 refine uR Tryz.func52 ?_
 refine jB<|kx [(2,(.ref 0 0)),(3,(.ref 1 0)),(4,(.ref 2 0))] [(0,some (bx (jG x))),(1,some (bx (jG y))),(2,some (bx (jG uG)))] (zN (xO 0)<|zN (xO 1)<|zN (vH 2 qY uJ)<|zM<|zZ) ?_
 refine jB<|kx [(6,(.ref 3 0))] [(3,some (bx (jG (jM p))))] (zR (kP jT)<|zE (jY (aG x p hx))<|zN (vH 3 qY uJ)<|zT (qJ jT)<|zZ) ?_
 refine jB<|kx [(7,(.ref 4 0))] [(4,some (bx (jG (jM q))))] (zR (kP jT)<|zE (jY (aG y q hy))<|zN (vH 4 qY uJ)<|zT (qJ jT)<|zZ) ?_
 refine jB<|kd [(5,(vi (newC ((p.den:Int)*q.num))))] [(2,some (bx (jG (newR (p.num*(q.den:Int)) ((p.den:Int)*q.num)))))] mo (wE (kI xD)<|wR (kP kB)<|wE (kI vF)<|wR (kP kB)<|wE (jY (rs_mul (qR hx.ql) (qN hy.ql)))<|wE (kI vF)<|wR (kP kB)<|wE (kI xD)<|wR (kP kB)<|wE (jY (rs_mul (qN hx.ql) (qR hy.ql)))<|wE (jY (g_new (kH (p.num*(q.den:Int))) (kH ((p.den:Int)*q.num)) (p.num*(q.den:Int)) ((p.den:Int)*q.num) (cO (zY (k:=34359738368) (qR hx.ql) (qN hy.ql))) (cO (zY (k:=34359738368) (qN hx.ql) (qR hy.ql)))))<|wE xJ<|wE xJ<|wT (qJ jT)<|wM<|wZ) ?_
 refine jF ⟨_,(kR (cs:=(bx (jG (newR (p.num*(q.den:Int)) ((p.den:Int)*q.num))))) (d:=(jG (newR (p.num*(q.den:Int)) ((p.den:Int)*q.num)))) rfl rfl jT rfl rfl (.tmp (d:=(.val (.int .i64 ((newC ((p.den:Int)*q.num)))))) rfl .nil)),?_⟩
 rw[newR_div,newC_div];rfl
theorem g_compare(x:kT)(y:kT)(p:Rat)(q:Rat)(hx:yX x p 4294967296)(hy:yX y q 4294967296):jQ Tryz.prog 54 [(jG x),(jG y)] (.val (.int .i64 ((mE p q)))):=by
 refine uR Tryz.func54 ?_
 refine jB<|kx [(2,(.ref 0 0)),(3,(.ref 1 0))] [(0,some (bx (jG x))),(1,some (bx (jG y)))] (zN (xO 0)<|zN (xO 1)<|zM<|zZ) ?_
 refine jB<|kx [(4,(vi (fU (p-q))))] [] (zR (kP jT)<|zR (kP jT)<|zE (jY (g_sub x y p q (jW hx) (jW hy)))<|zE (jY (g_sign (jM (p-q)) (p-q) (jW (kC (ql_sub (k:=8589934593) hx.ql hy.ql (by decide))))))<|zM<|zZ) ?_
 refine jF ⟨_,(.tmp (d:=(.val (.int .i64 ((fU (p-q)))))) rfl .nil),?_⟩
 rw[<- signQ_sub];rfl
theorem yF:uU Tryz.prog 42 0=some 0:=by kernel_rfl
theorem yB:uU Tryz.prog 42 1=some 4:=by kernel_rfl
theorem g_same(x:kT)(y:kT)(p:Rat)(q:Rat)(hx:yX x p 4294967296)(hy:yX y q 4294967296):jQ Tryz.prog 14 [(jG x),(jG y)] (.val (.bool ((dN x y)))):=by
 refine uR Tryz.func14 ?_
 refine jB<|kx [(2,(.ref 0 0)),(3,(.ref 1 0))] [(0,some (bx (jG x))),(1,some (bx (jG y)))] (zN (xO 0)<|zN (xO 1)<|zM<|zZ) ?_
 refine jB<|kx [(4,(vb (((kM x)&&(kM y))&&((mE p q) == 0))))] [] ?_ ?_
 ·refine zR (kP jT)<|zE (jY (lM x p (jW hx)))<|zE (oV (vb (kM x)) (kW (by kernel_rfl)))<|?_
  rcases hb1:(kM x) with _ | _
  ·exact zK<|zK<|zE vL<|zM<|zK<|zK<|zK<|zK<|zE vL<|zM<|zZ
  ·refine zR (kP jT)<|zE (jY (lM y q (jW hy)))<|zE aD<|zE (oV (vb (true&&(kM y))) (kW (by kernel_rfl)))<|?_
   rcases hb2:(true&&(kM y)) with _ | _
   ·exact zK<|zK<|zK<|zK<|zE vL<|zM<|zZ
   ·exact zR (kP jT)<|zR (kP jT)<|zE (jY (g_compare x y p q hx hy))<|zE xU<|zE aD<|zM<|zZ
 refine jF ⟨_,(.tmp (d:=(.val (.bool ((((kM x)&&(kM y))&&((mE p q) == 0)))))) rfl .nil),?_⟩
 unfold dN
 rw[<- sameR_eq,hx.v,hy.v];rfl
theorem g_digits(x:kT)(p:Rat)(hx:yX x p 140737488355328):jQ Tryz.prog 36 [(jG x)] (.val (.int .i64 ((((digR x):Nat):Int)))):=by
 have h1:=hx.n1
 have h2:=hx.n2
 refine uR Tryz.func36 ?_
 refine jB<|kx [(1,(.ref 0 0))] [(0,some (bx (jG x)))] (zN (xO 0)<|zM<|zZ) ?_
 refine jB<|kx [(2,(kF (x.num.gs.length+x.den.gs.length)))] [] (zE (kI xD)<|zE (kI vG)<|zR (qH zD)<|zE (xW kG)<|zE (kI vF)<|zE (kI vG)<|zR (qH zD)<|zE (xW kG)<|zE (vT (x.num.gs.length+x.den.gs.length))<|zM<|zZ) ?_
 refine jF ⟨_,(.tmp (d:=(.val (.int .i64 ((((x.num.gs.length+x.den.gs.length):Nat):Int))))) rfl .nil),?_⟩
 rfl
theorem g_samerange(a b:kK)(ha:GOk 4294967296 a)(hb:GOk 4294967296 b):jQ Tryz.prog 81 [(jN a),(jN b)] (.val (.bool ((dN a.lo b.lo&&dN a.hi b.hi)))):=by
 refine uR Tryz.func81 ?_
 refine jB<|kx [(2,(.ref 0 0)),(3,(.ref 1 0))] [(0,some (bx (jN a))),(1,some (bx (jN b)))] (zN (xO 0)<|zN (xO 1)<|zM<|zZ) ?_
 refine jB<|kx [(4,(vb ((dN a.lo b.lo)&&(dN a.hi b.hi))))] [] ?_ ?_
 ·refine zE (kI yF)<|zR (kP jT)<|zE (kI yF)<|zR (kP jT)<|zE (jY (g_same a.lo b.lo (vC a.lo) (vC b.lo) ha.1 hb.1))<|zE (oV (vb (dN a.lo b.lo)) (kW (by kernel_rfl)))<|?_
  rcases hb1:(dN a.lo b.lo) with _ | _
  ·exact zK<|zK<|zK<|zK<|zK<|zE vL<|zM<|zZ
  ·exact zE (kI yB)<|zR (kP jT)<|zE (kI yB)<|zR (kP jT)<|zE (jY (g_same a.hi b.hi (vC a.hi) (vC b.hi) ha.2 hb.2))<|zE aD<|zM<|zZ
 refine jF ⟨_,(.tmp (d:=(.val (.bool (((dN a.lo b.lo)&&(dN a.hi b.hi)))))) rfl .nil),?_⟩
 rfl
end Go.Proofs.YtckccjhflbljgaaGreatDoor
