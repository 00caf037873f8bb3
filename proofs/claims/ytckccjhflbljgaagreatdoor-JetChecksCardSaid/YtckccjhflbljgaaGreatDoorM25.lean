/- Part 25 of a proof: rules, plain facts, and functions walked. -/
import Derived.Test.YtckccjhflbljgaaGreatDoorM24
set_option linter.all false
set_option maxRecDepth 4000
namespace Go.Proofs.YtckccjhflbljgaaGreatDoor
open Go.Fid
theorem s_neg{x:kO}{a:Int}{m:Nat}(hx:cF x a m)(hm:m<=274877906944:=by decide):jS Tryz.prog 89 [(jO x)] (jO (kD (-a))):=by
 obtain ⟨rfl,hx'⟩:=hx
 exact t_neg x (by omega)
theorem s_sign{x:kO}{a:Int}{m:Nat}(hx:cF x a m)(hm:m<=274877906944:=by decide):jS Tryz.prog 84 [(jO x)] (.val (.int .i64 (qO a))):=by
 obtain ⟨rfl,hx'⟩:=hx
 exact t_sign x (by omega)
theorem s_add{x y:kO}{a b:Int}{m n:Nat}(hx:cF x a m)(hy:cF y b n)(hm:m<=274877906944)(hn:n<=274877906944):jS Tryz.prog 92 [(jO x),(jO y)] (jO (kD (a+b))):=by
 obtain ⟨rfl,hx'⟩:=hx;obtain ⟨rfl,hy'⟩:=hy
 exact t_add x y (by omega) (by omega)
theorem s_mul{x y:kO}{a b:Int}{m n:Nat}(hx:cF x a m)(hy:cF y b n)(hm:m<=274877906944:=by decide)(hn:n<=274877906944:=by decide):jS Tryz.prog 91 [(jO x),(jO y)] (jO (kD (a*b))):=by
 obtain ⟨rfl,hx'⟩:=hx;obtain ⟨rfl,hy'⟩:=hy
 exact t_mul x y (by omega) (by omega)
theorem s_compare{x y:kO}{a b:Int}{m n:Nat}(hx:cF x a m)(hy:cF y b n)(hm:m<=274877906944:=by decide)(hn:n<=274877906944:=by decide):jS Tryz.prog 85 [(jO x),(jO y)] (.val (.int .i64 (uN a b))):=by
 obtain ⟨rfl,hx'⟩:=hx;obtain ⟨rfl,hy'⟩:=hy
 exact t_compareI x y (by omega) (by omega)
theorem s_gcd{x y:kO}{a b:Int}{m n:Nat}(hx:cF x a m)(hy:cF y b n)(hm:m<=274877906944:=by decide)(hn:n<=274877906944:=by decide):jS Tryz.prog 86 [(jO x),(jO y)] (jO (kD ((Int.gcd a b:Nat):Int))):=by
 obtain ⟨rfl,hx'⟩:=hx;obtain ⟨rfl,hy'⟩:=hy
 exact t_gcdI x y (by omega) (by omega)
theorem s_divide{x y:kO}{a b:Int}{m n:Nat}(hx:cF x a m)(hy:cF y b n)(hm:m<=274877906944)(hn:n<=274877906944)(hb:b≠0):jS Tryz.prog 160 [(jO x),(jO y)] (.tup [(jO (kD (a.fdiv b))),(jO (kD (a.fmod b))),(.val (.int .i64 0))]):=by
 obtain ⟨rfl,hx'⟩:=hx;obtain ⟨rfl,hy'⟩:=hy
 exact t_divideI x y (by omega) (by omega) hb
theorem rs_neg{x:kO}{a:Int}{m:Nat}(hx:cF x a m)(hm:m<=274877906944:=by decide):jS Tryz.prog 93 [(jO x)] (jO (kD (-a))):=by
 obtain ⟨rfl,hx'⟩:=hx
 exact r_neg x (by omega)
theorem rs_sign{x:kO}{a:Int}{m:Nat}(hx:cF x a m)(hm:m<=274877906944:=by decide):jS Tryz.prog 95 [(jO x)] (.val (.int .i64 (qO a))):=by
 obtain ⟨rfl,hx'⟩:=hx
 exact r_sign x (by omega)
theorem rs_add{x y:kO}{a b:Int}{m n:Nat}(hx:cF x a m)(hy:cF y b n)(hm:m<=274877906944)(hn:n<=274877906944):jS Tryz.prog 71 [(jO x),(jO y)] (jO (kD (a+b))):=by
 obtain ⟨rfl,hx'⟩:=hx;obtain ⟨rfl,hy'⟩:=hy
 exact r_add x y (by omega) (by omega)
theorem rs_mul{x y:kO}{a b:Int}{m n:Nat}(hx:cF x a m)(hy:cF y b n)(hm:m<=274877906944:=by decide)(hn:n<=274877906944:=by decide):jS Tryz.prog 72 [(jO x),(jO y)] (jO (kD (a*b))):=by
 obtain ⟨rfl,hx'⟩:=hx;obtain ⟨rfl,hy'⟩:=hy
 exact r_mul x y (by omega) (by omega)
theorem rs_compare{x y:kO}{a b:Int}{m n:Nat}(hx:cF x a m)(hy:cF y b n)(hm:m<=274877906944)(hn:n<=274877906944):jS Tryz.prog 96 [(jO x),(jO y)] (.val (.int .i64 (uN a b))):=by
 obtain ⟨rfl,hx'⟩:=hx;obtain ⟨rfl,hy'⟩:=hy
 exact r_compare x y (by omega) (by omega)
theorem rs_gcd{x y:kO}{a b:Int}{m n:Nat}(hx:cF x a m)(hy:cF y b n)(hm:m<=274877906944:=by decide)(hn:n<=274877906944:=by decide):jS Tryz.prog 97 [(jO x),(jO y)] (jO (kD ((Int.gcd a b:Nat):Int))):=by
 obtain ⟨rfl,hx'⟩:=hx;obtain ⟨rfl,hy'⟩:=hy
 exact r_gcd x y (by omega) (by omega)
theorem rs_divide{x y:kO}{a b:Int}{m n:Nat}(hx:cF x a m)(hy:cF y b n)(hm:m<=274877906944)(hn:n<=274877906944)(hb:b≠0):jS Tryz.prog 113 [(jO x),(jO y)] (.tup [(jO (kD (a.fdiv b))),(jO (kD (a.fmod b))),(.val (.int .i64 0))]):=by
 obtain ⟨rfl,hx'⟩:=hx;obtain ⟨rfl,hy'⟩:=hy
 exact r_divide x y (by omega) (by omega) hb
theorem xT:uM Tryz.prog 32 0=some 0:=by kernel_rfl
theorem vO:uM Tryz.prog 32 1=some 2:=by kernel_rfl
theorem ft32_0:aI Tryz.prog 32 0=some (0,30):=by kernel_rfl
theorem pl32:cE Tryz.prog 32=some [(0,2),(2,2)]:=by kernel_rfl
theorem kA:qC Tryz.prog 32=some (true,4):=by kernel_rfl
theorem yJ:vG Tryz.prog 32=some [.bool false,.slice none 0 0,.bool false,.slice none 0 0]:=by kernel_rfl
theorem yO:cN [.bool false,.slice none 0 0,.bool false,.slice none 0 0] [.val (.bool false),.sl 107 1 [],.val (.bool false),.sl 107 1 []]:=by simp [cN,Value.oneCell']
theorem f_reduced(num den:kO)(a b:Int)(hnum:cF num a 68719476736)(fU:cF den b 68719476736)(hb:b≠0):jS Tryz.prog 90 [(jO num),(jO den)] (jQ (jV (Rat.divInt a b))):=by
 refine vA Tryz.func90 ?_
 refine jB<|kx [(2,(.ref 0 0)),(3,(.ref 1 0)),(4,(.ref 2 0))] [(0,some (bx (jO num))),(1,some (bx (jO den))),(2,some (bx (jQ vQ)))] (zN (xH 0)<|zN (xH 1)<|zN (vT 2 yJ yO)<|zZ) ?_
 refine jB<|jB<|kx [(8,(vb (decide ((qO b)<0))))] [] (zR (kV jX)<|zE (kF (s_sign fU))<|zE nD<|zZ) ?_
 refine jF (b:=decide ((qO b)<0)) rfl (fun h1=>?_) (fun h1=>?_)
 ·replace h1:=vW h1
  have hlt:=signI_lt.1 h1
  have hb2:-b≠0:=by omega
  refine kd [] [(0,some (bx (jO (kD (-a))))),(1,some (bx (jO (kD (-b)))))] mo (wR (kV jX)<|wE (kF (s_neg hnum))<|wR (kV jX)<|wE (kF (s_neg fU))<|wT (qU jX)<|wT (qU jX)<|wZ) ?_
  refine jB<|kx [(5,(.ref 3 0))] [(3,some (bx (jO (kD ((Int.gcd (-a) (-b):Nat):Int)))))] (zR (kV jX)<|zR (kV jX)<|zE (kF (s_gcd (nQ hnum) (nQ fU)))<|zN (vT 3 gH gJ)<|zT (qU jX)<|zZ) ?_
  refine jB<|kx [] [(0,some (bx (jO (kD ((-a).fdiv (((Int.gcd (-a) (-b):Nat):Int)))))))] (zR (kV jX)<|zR (kV jX)<|zE (kF (s_divide (nQ hnum) (mH (k:=68719476736) (nQ hnum) (nQ fU)) (by decide) (by decide) (gcd_ne (by omega))))<|zM<|zE yM<|zE yM<|zE yM<|zT (qU jX)<|zZ) ?_
  refine jB<|kx [] [(1,some (bx (jO (kD ((-b).fdiv (((Int.gcd (-a) (-b):Nat):Int)))))))] (zR (kV jX)<|zR (kV jX)<|zE (kF (s_divide (nQ fU) (mH (k:=68719476736) (nQ hnum) (nQ fU)) (by decide) (by decide) (gcd_ne (by omega))))<|zM<|zE yM<|zE yM<|zE yM<|zT (qU jX)<|zZ) ?_
  refine jB<|kx [] [(2,some (bx (jQ (qJ.mk (kD ((-a).fdiv (((Int.gcd (-a) (-b):Nat):Int)))) (kD ((-b).fdiv (((Int.gcd (-a) (-b):Nat):Int))))))))] (zR (kV jX)<|zR (kV jX)<|zE (oBd pl32 yJ yO)<|zT (qU kA)<|zZ) ?_
  refine jE ⟨_,(kS (cs:=(bx (jQ (qJ.mk (kD ((-a).fdiv (((Int.gcd (-a) (-b):Nat):Int)))) (kD ((-b).fdiv (((Int.gcd (-a) (-b):Nat):Int)))))))) (d:=(jQ (qJ.mk (kD ((-a).fdiv (((Int.gcd (-a) (-b):Nat):Int)))) (kD ((-b).fdiv (((Int.gcd (-a) (-b):Nat):Int))))))) rfl rfl kA rfl rfl .nil),?_⟩
  rw[red_neg hlt];rfl
 ·replace h1:=xJ h1
  have hge:¬ b<0:=fun hh=>h1 (signI_lt.2 hh)
  refine jH<|jB<|kx [(5,(.ref 4 0))] [(4,some (bx (jO (kD ((Int.gcd a b:Nat):Int)))))] (zR (kV jX)<|zR (kV jX)<|zE (kF (s_gcd hnum fU))<|zN (vT 4 gH gJ)<|zT (qU jX)<|zZ) ?_
  refine jB<|kx [] [(0,some (bx (jO (kD (a.fdiv (((Int.gcd a b:Nat):Int)))))))] (zR (kV jX)<|zR (kV jX)<|zE (kF (s_divide hnum (mH (k:=68719476736) hnum fU) (by decide) (by decide) (gcd_ne (by omega))))<|zM<|zE yM<|zE yM<|zE yM<|zT (qU jX)<|zZ) ?_
  refine jB<|kx [] [(1,some (bx (jO (kD (b.fdiv (((Int.gcd a b:Nat):Int)))))))] (zR (kV jX)<|zR (kV jX)<|zE (kF (s_divide fU (mH (k:=68719476736) hnum fU) (by decide) (by decide) (gcd_ne (by omega))))<|zM<|zE yM<|zE yM<|zE yM<|zT (qU jX)<|zZ) ?_
  refine jB<|kx [] [(2,some (bx (jQ (qJ.mk (kD (a.fdiv (((Int.gcd a b:Nat):Int)))) (kD (b.fdiv (((Int.gcd a b:Nat):Int))))))))] (zR (kV jX)<|zR (kV jX)<|zE (oBd pl32 yJ yO)<|zT (qU kA)<|zZ) ?_
  refine jE ⟨_,(kS (cs:=(bx (jQ (qJ.mk (kD (a.fdiv (((Int.gcd a b:Nat):Int)))) (kD (b.fdiv (((Int.gcd a b:Nat):Int)))))))) (d:=(jQ (qJ.mk (kD (a.fdiv (((Int.gcd a b:Nat):Int)))) (kD (b.fdiv (((Int.gcd a b:Nat):Int))))))) rfl rfl kA rfl rfl .nil),?_⟩
  rw[red_pos hge hb];rfl
theorem eH(n:Int)(hlo:-9223372036854775808<=n:=by decide)(hhi:n<=9223372036854775807:=by decide):jS Tryz.prog 62 [(.val (.int .i64 (n)))] (jQ (jV ((n:Int):Rat))):=by
 refine vA Tryz.func62 ?_
 refine jB<|kx [(2,(.ref 0 0))] [(0,some (bx (jQ vQ)))] (zN (vT 0 yJ yO)<|zZ) ?_
 refine jB<|kx [] [(0,some (bx (jQ (qJ.mk (kD n) (kD 1)))))] (zM<|zE (kF (t_of n (by omega) (by omega)))<|zE (kF (t_of 1))<|zE (oBd pl32 yJ yO)<|zT (qU kA)<|zZ) ?_
 refine jE ⟨_,(kS (cs:=(bx (jQ (qJ.mk (kD n) (kD 1))))) (d:=(jQ (qJ.mk (kD n) (kD 1)))) rfl rfl kA rfl rfl .nil),?_⟩
 rfl
theorem f_valid(x:qJ)(p:Rat)(hx:nZ x p 17179869184):jS Tryz.prog 45 [(jQ x)] (.val (.bool ((kN x)))):=by
 refine vA Tryz.func45 ?_
 refine jB<|kx [(1,(.ref 0 0))] [(0,some (bx (jQ x)))] (zN (xH 0)<|zM<|zZ) ?_
 refine jB<|jB<|kx [(18,(vb ((!(qZ x.num)||!(qZ x.den))||decide ((qO (jR x.den))<=0))))] [] ?_ ?_
 ·refine zE (kL xT)<|zR (kV jX)<|zE (kF (t_valid x.num (Nat.le_trans (zW hx.n1).l (by decide))))<|zE oNt<|zE (oV (vb (!(qZ x.num))) (qE (by kernel_rfl)))<|?_
  rcases hb1:(!(qZ x.num)) with _ | _
  ·refine zE (kL vO)<|zR (kV jX)<|zE (kF (t_valid x.den (Nat.le_trans (zW hx.n2).l (by decide))))<|zE oNt<|zE fW<|zE (oV (vb (false||!(qZ x.den))) (qE (by kernel_rfl)))<|?_
   rcases hb2:(false||!(qZ x.den)) with _ | _
   ·exact zE (kL vO)<|zR (kV jX)<|zE (kF (s_sign (zW hx.n2)))<|zE oLe<|zE fW<|zZ
   ·exact zK<|zK<|zK<|zK<|zE nT<|zZ
  ·exact zK<|zK<|zK<|zK<|zE nT<|zM<|zK<|zK<|zK<|zK<|zE nT<|zZ
 refine jF rfl (fun h3=>?_) (fun h3=>?_)
 ·refine jB<|kx [(2,(vb false))] [] (zM<|zZ) ?_
  refine jE ⟨_,(.tmp (d:=(.val (.bool (false)))) rfl .nil),?_⟩
  rw[validR_no h3];rfl
 ·refine jH<|jB<|kx [(2,(vb ((uN (((Int.gcd (jR x.num) (jR x.den):Nat):Int)) 1) == 0)))] [] (zE (kL xT)<|zR (kV jX)<|zE (kL vO)<|zR (kV jX)<|zE (kF (s_gcd (zW hx.n1) (zW hx.n2)))<|zE (kF (t_of 1))<|zE (kF (s_compare (mH (k:=17179869184) (zW hx.n1) (zW hx.n2)) (iok_small (z:=1))))<|zE yA<|zM<|zZ) ?_
  refine jE ⟨_,(.tmp (d:=(.val (.bool (((uN (((Int.gcd (jR x.num) (jR x.den):Nat):Int)) 1) == 0))))) rfl .nil),?_⟩
  rw[validR_yes h3];rfl
theorem f_copied(x:qJ)(p:Rat)(hx:nZ x p 17179869184):jS Tryz.prog 159 [(jQ x)] (jQ (qJ.mk (kD (-(-jR x.num))) (kD (-(-jR x.den))))):=by
 refine vA Tryz.func159 ?_
 refine jB<|kx [(1,(.ref 0 0)),(2,(.ref 1 0))] [(0,some (bx (jQ x))),(1,some (bx (jQ vQ)))] (zN (xH 0)<|zN (vT 1 yJ yO)<|zZ) ?_
 refine jB<|kd [] [(1,some (bx (jQ (qJ.mk (kD (-(-(jR x.num)))) (kD (-(-(jR x.den))))))))] mo (wE (kL xT)<|wR (kV jX)<|wE (kF (s_neg (zW hx.n1)))<|wE (kF (s_neg (nQ (zW hx.n1))))<|wE (kL vO)<|wR (kV jX)<|wE (kF (s_neg (zW hx.n2)))<|wE (kF (s_neg (nQ (zW hx.n2))))<|wE (oBd pl32 yJ yO)<|wT (qU kA)<|wZ) ?_
 refine jE ⟨_,(kS (cs:=(bx (jQ (qJ.mk (kD (-(-(jR x.num)))) (kD (-(-(jR x.den)))))))) (d:=(jQ (qJ.mk (kD (-(-(jR x.num)))) (kD (-(-(jR x.den))))))) rfl rfl kA rfl rfl .nil),?_⟩
 rfl
theorem mK(x:qJ)(p:Rat)(hx:nZ x p 17179869184):jS Tryz.prog 88 [(jQ x)] (jQ (jV p)):=by
 refine vA Tryz.func88 ?_
 refine jB<|kx [(1,(.ref 0 0)),(2,(.ref 1 0))] [(0,some (bx (jQ x))),(1,some (bx (jQ vQ)))] (zN (xH 0)<|zN (vT 1 yJ yO)<|zZ) ?_
 refine jB<|jB<|kx [(4,(vb (kN x)))] [] (zR (kV kA)<|zE (kF (f_valid x p hx))<|zZ) ?_
 refine jF (b:=(kN x)) rfl (fun h1=>?_) (fun h1=>?_)
 ·refine jB<|kx [] [(1,some (bx (jQ (qJ.mk (kD (-(-jR x.num))) (kD (-(-jR x.den)))))))] (zR (kV kA)<|zE (kF (f_copied x p hx))<|zT (qU kA)<|zZ) ?_
  refine jE ⟨_,(kS (cs:=(bx (jQ (qJ.mk (kD (-(-jR x.num))) (kD (-(-jR x.den))))))) (d:=(jQ (qJ.mk (kD (-(-jR x.num))) (kD (-(-jR x.den)))))) rfl rfl kA rfl rfl .nil),?_⟩
  rw[<- hx.v,<- copied_eq h1];rfl
 ·refine jH<|jB<|kx [] [(1,some (bx (jQ (jV ((0:Int):Rat)))))] (zE (kF (eH 0))<|zT (qU kA)<|zZ) ?_
  refine jE ⟨_,(kS (cs:=(bx (jQ (jV ((0:Int):Rat))))) (d:=(jQ (jV ((0:Int):Rat)))) rfl rfl kA rfl rfl .nil),?_⟩
  rw[<- hx.v,toQ_bad h1];rfl
theorem f_sign(x:qJ)(p:Rat)(hx:nZ x p 17179869184):jS Tryz.prog 212 [(jQ x)] (.val (.int .i64 ((dX p)))):=by
 refine vA Tryz.func212 ?_
 refine jB<|kx [(1,(.ref 0 0))] [(0,some (bx (jQ x)))] (zN (xH 0)<|zM<|zZ) ?_
 refine jB<|kx [(2,(vi (qO p.num)))] [] (zR (kV kA)<|zE (kF (mK x p hx))<|zE (oFv ft32_0 jX)<|zE (kF (s_sign (uI hx.ql)))<|zM<|zZ) ?_
 refine jE ⟨_,(.tmp (d:=(.val (.int .i64 ((qO p.num))))) rfl .nil),?_⟩
 rfl
theorem f_neg(x:qJ)(p:Rat)(hx:nZ x p 17179869184):jS Tryz.prog 46 [(jQ x)] (jQ (jV (-p))):=by
 refine vA Tryz.func46 ?_
 refine jB<|kx [(1,(.ref 0 0)),(2,(.ref 1 0))] [(0,some (bx (jQ x))),(1,some (bx (jQ vQ)))] (zN (xH 0)<|zN (vT 1 yJ yO)<|zZ) ?_
 refine jB<|kx [] [(0,some (bx (jQ (jV p))))] (zR (kV kA)<|zE (kF (mK x p hx))<|zT (qU kA)<|zZ) ?_
 refine jB<|kd [] [(1,some (bx (jQ (qJ.mk (kD (-p.num)) ((jV p).den)))))] mo (wE (kL xT)<|wR (kV jX)<|wE (kF (s_neg (uI hx.ql)))<|wE (kL vO)<|wR (kV jX)<|wE (oBd pl32 yJ yO)<|wT (qU kA)<|wZ) ?_
 refine jE ⟨_,(kS (cs:=(bx (jQ (qJ.mk (kD (-p.num)) ((jV p).den))))) (d:=(jQ (qJ.mk (kD (-p.num)) ((jV p).den)))) rfl rfl kA rfl rfl .nil),?_⟩
 rfl
theorem f_add(x:qJ)(y:qJ)(p:Rat)(q:Rat)(hx:nZ x p 17179869184)(hy:nZ y q 17179869184):jS Tryz.prog 48 [(jQ x),(jQ y)] (jQ (jV (p+q))):=by
 refine vA Tryz.func48 ?_
 refine jB<|kx [(2,(.ref 0 0)),(3,(.ref 1 0)),(4,(.ref 2 0))] [(0,some (bx (jQ x))),(1,some (bx (jQ y))),(2,some (bx (jQ vQ)))] (zN (xH 0)<|zN (xH 1)<|zN (vT 2 yJ yO)<|zZ) ?_
 refine jB<|kd [] [(0,some (bx (jQ (jV p)))),(1,some (bx (jQ (jV q))))] mo (wR (kV kA)<|wE (kF (mK x p hx))<|wR (kV kA)<|wE (kF (mK y q hy))<|wT (qU kA)<|wT (qU kA)<|wZ) ?_
 refine jB<|kd [] [(2,some (bx (jQ (jV (Rat.divInt ((p.num*(q.den:Int))+(q.num*(p.den:Int))) ((p.den:Int)*(q.den:Int)))))))] mo (wE (kL xT)<|wR (kV jX)<|wE (kL vO)<|wR (kV jX)<|wE (kF (s_mul (uI hx.ql) (qY hy.ql)))<|wE (kL xT)<|wR (kV jX)<|wE (kL vO)<|wR (kV jX)<|wE (kF (s_mul (uI hy.ql) (qY hx.ql)))<|wE (kF (s_add (yS (k:=34359738368) (uI hx.ql) (qY hy.ql)) (yS (k:=34359738368) (uI hy.ql) (qY hx.ql)) (by decide) (by decide)))<|wE (kL vO)<|wR (kV jX)<|wE (kL vO)<|wR (kV jX)<|wE (kF (s_mul (qY hx.ql) (qY hy.ql)))<|wE (kF (f_reduced (kD ((p.num*(q.den:Int))+(q.num*(p.den:Int)))) (kD ((p.den:Int)*(q.den:Int))) ((p.num*(q.den:Int))+(q.num*(p.den:Int))) ((p.den:Int)*(q.den:Int)) (eT (iok_add (k:=34359738369) (yS (k:=34359738368) (uI hx.ql) (qY hy.ql)) (yS (k:=34359738368) (uI hy.ql) (qY hx.ql)))) (eT (yS (k:=34359738368) (qY hx.ql) (qY hy.ql))) (mul_ne (den_ne _) (den_ne _))))<|wT (qU kA)<|wZ) ?_
 refine jE ⟨_,(kS (cs:=(bx (jQ (jV (Rat.divInt ((p.num*(q.den:Int))+(q.num*(p.den:Int))) ((p.den:Int)*(q.den:Int))))))) (d:=(jQ (jV (Rat.divInt ((p.num*(q.den:Int))+(q.num*(p.den:Int))) ((p.den:Int)*(q.den:Int)))))) rfl rfl kA rfl rfl .nil),?_⟩
 rw[add_divInt];rfl
theorem f_sub(x:qJ)(y:qJ)(p:Rat)(q:Rat)(hx:nZ x p 17179869184)(hy:nZ y q 17179869184):jS Tryz.prog 49 [(jQ x),(jQ y)] (jQ (jV (p-q))):=by
 refine vA Tryz.func49 ?_
 refine jB<|kx [(2,(.ref 0 0)),(3,(.ref 1 0)),(4,(.ref 2 0))] [(0,some (bx (jQ x))),(1,some (bx (jQ y))),(2,some (bx (jQ vQ)))] (zN (xH 0)<|zN (xH 1)<|zN (vT 2 yJ yO)<|zZ) ?_
 refine jB<|kd [] [(2,some (bx (jQ (jV (p+(-q))))))] mo (wR (kV kA)<|wR (kV kA)<|wE (kF (f_neg y q hy))<|wE (kF (f_add x (jV (-q)) p (-q) hx (kI (ql_neg hy.ql))))<|wT (qU kA)<|wZ) ?_
 refine jE ⟨_,(kS (cs:=(bx (jQ (jV (p+(-q)))))) (d:=(jQ (jV (p+(-q))))) rfl rfl kA rfl rfl .nil),?_⟩
 rw[Rat.sub_eq_add_neg];rfl
theorem f_mul(x:qJ)(y:qJ)(p:Rat)(q:Rat)(hx:nZ x p 17179869184)(hy:nZ y q 17179869184):jS Tryz.prog 47 [(jQ x),(jQ y)] (jQ (jV (p*q))):=by
 refine vA Tryz.func47 ?_
 refine jB<|kx [(2,(.ref 0 0)),(3,(.ref 1 0)),(4,(.ref 2 0))] [(0,some (bx (jQ x))),(1,some (bx (jQ y))),(2,some (bx (jQ vQ)))] (zN (xH 0)<|zN (xH 1)<|zN (vT 2 yJ yO)<|zZ) ?_
 refine jB<|kd [] [(0,some (bx (jQ (jV p)))),(1,some (bx (jQ (jV q))))] mo (wR (kV kA)<|wE (kF (mK x p hx))<|wR (kV kA)<|wE (kF (mK y q hy))<|wT (qU kA)<|wT (qU kA)<|wZ) ?_
 refine jB<|kd [] [(2,some (bx (jQ (jV (Rat.divInt (p.num*q.num) ((p.den:Int)*(q.den:Int)))))))] mo (wE (kL xT)<|wR (kV jX)<|wE (kL xT)<|wR (kV jX)<|wE (kF (s_mul (uI hx.ql) (uI hy.ql)))<|wE (kL vO)<|wR (kV jX)<|wE (kL vO)<|wR (kV jX)<|wE (kF (s_mul (qY hx.ql) (qY hy.ql)))<|wE (kF (f_reduced (kD (p.num*q.num)) (kD ((p.den:Int)*(q.den:Int))) (p.num*q.num) ((p.den:Int)*(q.den:Int)) (eT (yS (k:=34359738368) (uI hx.ql) (uI hy.ql))) (eT (yS (k:=34359738368) (qY hx.ql) (qY hy.ql))) (mul_ne (den_ne _) (den_ne _))))<|wT (qU kA)<|wZ) ?_
 refine jE ⟨_,(kS (cs:=(bx (jQ (jV (Rat.divInt (p.num*q.num) ((p.den:Int)*(q.den:Int))))))) (d:=(jQ (jV (Rat.divInt (p.num*q.num) ((p.den:Int)*(q.den:Int)))))) rfl rfl kA rfl rfl .nil),?_⟩
 rw[mul_divInt];rfl
theorem f_divide(x:qJ)(y:qJ)(p:Rat)(q:Rat)(hx:nZ x p 17179869184)(hy:nZ y q 17179869184):jS Tryz.prog 50 [(jQ x),(jQ y)] (.tup [(jQ (divR p q)),(.val (.int .i64 ((divC q))))]):=by
 refine vA Tryz.func50 ?_
 refine jB<|kx [(2,(.ref 0 0)),(3,(.ref 1 0)),(4,(.ref 2 0))] [(0,some (bx (jQ x))),(1,some (bx (jQ y))),(2,some (bx (jQ vQ)))] (zN (xH 0)<|zN (xH 1)<|zN (vT 2 yJ yO)<|zM<|zZ) ?_
 refine jB<|kd [] [(0,some (bx (jQ (jV p)))),(1,some (bx (jQ (jV q))))] mo (wR (kV kA)<|wE (kF (mK x p hx))<|wR (kV kA)<|wE (kF (mK y q hy))<|wT (qU kA)<|wT (qU kA)<|wZ) ?_
 refine jB<|jB<|kx [(13,(vb ((qO q.num) == 0)))] [] (zE (kL xT)<|zR (kV jX)<|zE (kF (s_sign (uI hy.ql)))<|zE yA<|zZ) ?_
 refine jF (b:=((qO q.num) == 0)) rfl (fun h1=>?_) (fun h1=>?_)
 ·replace h1:=eq_of_beq h1
  have hq0:=signQ_zero.1 h1
  refine jB<|kx [(5,(kJ 14))] [(2,some (bx (jQ vQ)))] (zE (oBd pl32 yJ yO)<|zT (qU kA)<|zM<|zZ) ?_
  refine jE ⟨_,(kS (cs:=(bx (jQ vQ))) (d:=(jQ vQ)) rfl rfl kA rfl rfl (.tmp (d:=(.val (.int .i64 (14)))) rfl .nil)),?_⟩
  rw[divR_zero hq0,divC_zero hq0];rfl
 ·replace h1:=ne_of_beq_false h1
  have hq0:q≠0:=fun hh=>h1 (signQ_zero.2 hh)
  refine jH<|jB<|kd [(5,(kJ 0))] [(2,some (bx (jQ (jV (Rat.divInt (p.num*(q.den:Int)) ((p.den:Int)*q.num))))))] mo (wE (kL xT)<|wR (kV jX)<|wE (kL vO)<|wR (kV jX)<|wE (kF (s_mul (uI hx.ql) (qY hy.ql)))<|wE (kL vO)<|wR (kV jX)<|wE (kL xT)<|wR (kV jX)<|wE (kF (s_mul (qY hx.ql) (uI hy.ql)))<|wE (kF (f_reduced (kD (p.num*(q.den:Int))) (kD ((p.den:Int)*q.num)) (p.num*(q.den:Int)) ((p.den:Int)*q.num) (eT (yS (k:=34359738368) (uI hx.ql) (qY hy.ql))) (eT (yS (k:=34359738368) (qY hx.ql) (uI hy.ql))) (mul_ne (den_ne _) (num_ne hq0))))<|wT (qU kA)<|wM<|wZ) ?_
  refine jE ⟨_,(kS (cs:=(bx (jQ (jV (Rat.divInt (p.num*(q.den:Int)) ((p.den:Int)*q.num)))))) (d:=(jQ (jV (Rat.divInt (p.num*(q.den:Int)) ((p.den:Int)*q.num))))) rfl rfl kA rfl rfl (.tmp (d:=(.val (.int .i64 (0)))) rfl .nil)),?_⟩
  rw[divR_ne hq0,divC_ne hq0,div_divInt];rfl
theorem fL(x:qJ)(y:qJ)(p:Rat)(q:Rat)(hx:nZ x p 17179869184)(hy:nZ y q 17179869184):jS Tryz.prog 112 [(jQ x),(jQ y)] (.val (.int .i64 ((gY p q)))):=by
 refine vA Tryz.func112 ?_
 refine jB<|kx [(2,(.ref 0 0)),(3,(.ref 1 0))] [(0,some (bx (jQ x))),(1,some (bx (jQ y)))] (zN (xH 0)<|zN (xH 1)<|zM<|zZ) ?_
 refine jB<|kd [] [(0,some (bx (jQ (jV p)))),(1,some (bx (jQ (jV q))))] mo (wR (kV kA)<|wE (kF (mK x p hx))<|wR (kV kA)<|wE (kF (mK y q hy))<|wT (qU kA)<|wT (qU kA)<|wZ) ?_
 refine jB<|kd [(4,(vi (uN (p.num*(q.den:Int)) (q.num*(p.den:Int)))))] [] mo (wE (kL xT)<|wR (kV jX)<|wE (kL vO)<|wR (kV jX)<|wE (kF (s_mul (uI hx.ql) (qY hy.ql)))<|wE (kL xT)<|wR (kV jX)<|wE (kL vO)<|wR (kV jX)<|wE (kF (s_mul (uI hy.ql) (qY hx.ql)))<|wE (kF (s_compare (yS (k:=34359738368) (uI hx.ql) (qY hy.ql)) (yS (k:=34359738368) (uI hy.ql) (qY hx.ql))))<|wM<|wZ) ?_
 refine jE ⟨_,(.tmp (d:=(.val (.int .i64 ((uN (p.num*(q.den:Int)) (q.num*(p.den:Int))))))) rfl .nil),?_⟩
 rw[<- cmpQ_cross];rfl
theorem g_reduced(num den:kO)(a b:Int)(hnum:cF num a 68719476736)(fU:cF den b 68719476736)(hb:b≠0):jS Tryz.prog 70 [(jO num),(jO den)] (jQ (jV (Rat.divInt a b))):=by
 refine vA Tryz.func70 ?_
 refine jB<|kx [(2,(.ref 0 0)),(3,(.ref 1 0)),(4,(.ref 2 0))] [(0,some (bx (jO num))),(1,some (bx (jO den))),(2,some (bx (jQ vQ)))] (zN (xH 0)<|zN (xH 1)<|zN (vT 2 yJ yO)<|zZ) ?_
 refine jB<|kx [(5,(.ref 3 0))] [(3,some (bx (jO (kD ((Int.gcd a b:Nat):Int)))))] (zR (kV jX)<|zR (kV jX)<|zE (kF (rs_gcd hnum fU))<|zN (vT 3 gH gJ)<|zT (qU jX)<|zZ) ?_
 refine jB<|jB<|kx [(17,(vb (decide ((qO b)<0))))] [] (zR (kV jX)<|zE (kF (rs_sign fU))<|zE nD<|zZ) ?_
 refine jF (b:=decide ((qO b)<0)) rfl (fun h1=>?_) (fun h1=>?_)
 ·replace h1:=vW h1
  have hlt:=signI_lt.1 h1
  refine kx [] [(3,some (bx (jO (kD (-(((Int.gcd a b:Nat):Int)))))))] (zR (kV jX)<|zE (kF (rs_neg (mH (k:=68719476736) hnum fU)))<|zT (qU jX)<|zZ) ?_
  refine jB<|kx [(6,(.ref 4 0))] [(4,some (bx (jO (kD (a.fdiv (-(((Int.gcd a b:Nat):Int)))))))),(5,none)] (zR (kV jX)<|zR (kV jX)<|zE (kF (rs_divide hnum (nQ (mH (k:=68719476736) hnum fU)) (by decide) (by decide) (by have:=gcd_ne (a:=a) hb;omega)))<|zM<|zE yM<|zE yM<|zE yM<|zN (vT 4 gH gJ)<|zN (vT 5 gH gJ)<|zT (qU jX)<|zT (qU jX)<|zM<|zZ) ?_
  refine jB<|kx [(9,(.ref 6 0))] [(6,some (bx (jO (kD (b.fdiv (-(((Int.gcd a b:Nat):Int)))))))),(7,none)] (zR (kV jX)<|zR (kV jX)<|zE (kF (rs_divide fU (nQ (mH (k:=68719476736) hnum fU)) (by decide) (by decide) (by have:=gcd_ne (a:=a) hb;omega)))<|zM<|zE yM<|zE yM<|zE yM<|zN (vT 6 gH gJ)<|zN (vT 7 gH gJ)<|zT (qU jX)<|zT (qU jX)<|zM<|zZ) ?_
  refine jB<|kx [] [(2,some (bx (jQ (qJ.mk (kD (a.fdiv (-(((Int.gcd a b:Nat):Int))))) (kD (b.fdiv (-(((Int.gcd a b:Nat):Int)))))))))] (zR (kV jX)<|zR (kV jX)<|zE (oBd pl32 yJ yO)<|zT (qU kA)<|zZ) ?_
  refine jE ⟨_,(kS (cs:=(bx (jQ (qJ.mk (kD (a.fdiv (-(((Int.gcd a b:Nat):Int))))) (kD (b.fdiv (-(((Int.gcd a b:Nat):Int))))))))) (d:=(jQ (qJ.mk (kD (a.fdiv (-(((Int.gcd a b:Nat):Int))))) (kD (b.fdiv (-(((Int.gcd a b:Nat):Int)))))))) rfl rfl kA rfl rfl .nil),?_⟩
  rw[<- red_neg2 hlt];rfl
 ·replace h1:=xJ h1
  have hge:¬ b<0:=fun hh=>h1 (signI_lt.2 hh)
  refine jH<|jB<|kx [(6,(.ref 8 0))] [(8,some (bx (jO (kD (a.fdiv (((Int.gcd a b:Nat):Int))))))),(9,none)] (zR (kV jX)<|zR (kV jX)<|zE (kF (rs_divide hnum (mH (k:=68719476736) hnum fU) (by decide) (by decide) (by have:=gcd_ne (a:=a) hb;omega)))<|zM<|zE yM<|zE yM<|zE yM<|zN (vT 8 gH gJ)<|zN (vT 9 gH gJ)<|zT (qU jX)<|zT (qU jX)<|zM<|zZ) ?_
  refine jB<|kx [(9,(.ref 10 0))] [(10,some (bx (jO (kD (b.fdiv (((Int.gcd a b:Nat):Int))))))),(11,none)] (zR (kV jX)<|zR (kV jX)<|zE (kF (rs_divide fU (mH (k:=68719476736) hnum fU) (by decide) (by decide) (by have:=gcd_ne (a:=a) hb;omega)))<|zM<|zE yM<|zE yM<|zE yM<|zN (vT 10 gH gJ)<|zN (vT 11 gH gJ)<|zT (qU jX)<|zT (qU jX)<|zM<|zZ) ?_
  refine jB<|kx [] [(2,some (bx (jQ (qJ.mk (kD (a.fdiv (((Int.gcd a b:Nat):Int)))) (kD (b.fdiv (((Int.gcd a b:Nat):Int))))))))] (zR (kV jX)<|zR (kV jX)<|zE (oBd pl32 yJ yO)<|zT (qU kA)<|zZ) ?_
  refine jE ⟨_,(kS (cs:=(bx (jQ (qJ.mk (kD (a.fdiv (((Int.gcd a b:Nat):Int)))) (kD (b.fdiv (((Int.gcd a b:Nat):Int)))))))) (d:=(jQ (qJ.mk (kD (a.fdiv (((Int.gcd a b:Nat):Int)))) (kD (b.fdiv (((Int.gcd a b:Nat):Int))))))) rfl rfl kA rfl rfl .nil),?_⟩
  rw[red_pos hge hb];rfl
theorem g_whole1(n:Int)(hlo:-9223372036854775808<=n:=by decide)(hhi:n<=9223372036854775807:=by decide):jS Tryz.prog 75 [(.val (.int .i64 (n)))] (jO (kD n)):=by
 refine vA Tryz.func75 ?_
 refine jB<|kx [(2,(.ref 0 0))] [(0,some (bx (jO (kO.mk false []))))] (zN (vT 0 gH gJ)<|zZ) ?_
 refine jB<|kx [] [(0,some (bx (jO (kD n))))] (zM<|zE (kF (r_of n (by omega) (by omega)))<|zT (qU jX)<|zZ) ?_
 refine jE ⟨_,(kS (cs:=(bx (jO (kD n)))) (d:=(jO (kD n))) rfl rfl jX rfl rfl .nil),?_⟩
 rfl
theorem g_whole(n:Int)(hlo:-9223372036854775808<=n:=by decide)(hhi:n<=9223372036854775807:=by decide):jS Tryz.prog 42 [(.val (.int .i64 (n)))] (jQ (jV ((n:Int):Rat))):=by
 refine vA Tryz.func42 ?_
 refine jB<|kx [(2,(.ref 0 0))] [(0,some (bx (jQ vQ)))] (zN (vT 0 yJ yO)<|zZ) ?_
 refine jB<|kx [] [(0,some (bx (jQ (qJ.mk (kD n) (kD 1)))))] (zM<|zE (kF (g_whole1 n (by omega) (by omega)))<|zE (kF (g_whole1 1))<|zE (oBd pl32 yJ yO)<|zT (qU kA)<|zZ) ?_
 refine jE ⟨_,(kS (cs:=(bx (jQ (qJ.mk (kD n) (kD 1))))) (d:=(jQ (qJ.mk (kD n) (kD 1)))) rfl rfl kA rfl rfl .nil),?_⟩
 rfl
theorem g_valid(x:qJ)(p:Rat)(hx:nZ x p 17179869184):jS Tryz.prog 53 [(jQ x)] (.val (.bool ((kN x)))):=by
 refine vA Tryz.func53 ?_
 refine jB<|kx [(1,(.ref 0 0))] [(0,some (bx (jQ x)))] (zN (xH 0)<|zM<|zZ) ?_
 refine jB<|jB<|kx [(18,(vb ((!(qZ x.num)||!(qZ x.den))||decide ((qO (jR x.den))<=0))))] [] ?_ ?_
 ·refine zE (kL xT)<|zR (kV jX)<|zE (kF (r_valid x.num (Nat.le_trans (zW hx.n1).l (by decide))))<|zE oNt<|zE (oV (vb (!(qZ x.num))) (qE (by kernel_rfl)))<|?_
  rcases hb1:(!(qZ x.num)) with _ | _
  ·refine zE (kL vO)<|zR (kV jX)<|zE (kF (r_valid x.den (Nat.le_trans (zW hx.n2).l (by decide))))<|zE oNt<|zE fW<|zE (oV (vb (false||!(qZ x.den))) (qE (by kernel_rfl)))<|?_
   rcases hb2:(false||!(qZ x.den)) with _ | _
   ·exact zE (kL vO)<|zR (kV jX)<|zE (kF (rs_sign (zW hx.n2)))<|zE oLe<|zE fW<|zZ
   ·exact zK<|zK<|zK<|zK<|zE nT<|zZ
  ·exact zK<|zK<|zK<|zK<|zE nT<|zM<|zK<|zK<|zK<|zK<|zE nT<|zZ
 refine jF rfl (fun h3=>?_) (fun h3=>?_)
 ·refine jB<|kx [(2,(vb false))] [] (zM<|zZ) ?_
  refine jE ⟨_,(.tmp (d:=(.val (.bool (false)))) rfl .nil),?_⟩
  rw[validR_no h3];rfl
 ·refine jH<|jB<|kx [(2,(vb ((uN (((Int.gcd (jR x.num) (jR x.den):Nat):Int)) 1) == 0)))] [] (zE (kL xT)<|zR (kV jX)<|zE (kL vO)<|zR (kV jX)<|zE (kF (rs_gcd (zW hx.n1) (zW hx.n2)))<|zE (kF (g_whole1 1))<|zE (kF (rs_compare (mH (k:=17179869184) (zW hx.n1) (zW hx.n2)) (iok_small (z:=1)) (by decide) (by decide)))<|zE yA<|zM<|zZ) ?_
  refine jE ⟨_,(.tmp (d:=(.val (.bool (((uN (((Int.gcd (jR x.num) (jR x.den):Nat):Int)) 1) == 0))))) rfl .nil),?_⟩
  rw[validR_yes h3];rfl
theorem g_value(x:qJ)(p:Rat)(hx:nZ x p 17179869184):jS Tryz.prog 69 [(jQ x)] (jQ (jV p)):=by
 refine vA Tryz.func69 ?_
 refine jB<|kx [(1,(.ref 0 0)),(2,(.ref 1 0))] [(0,some (bx (jQ x))),(1,some (bx (jQ vQ)))] (zN (xH 0)<|zN (vT 1 yJ yO)<|zZ) ?_
 refine jB<|jB<|kx [(4,(vb (kN x)))] [] (zR (kV kA)<|zE (kF (g_valid x p hx))<|zZ) ?_
 refine jF (b:=(kN x)) rfl (fun h1=>?_) (fun h1=>?_)
 ·refine jB<|kx [] [(1,some (bx (jQ x)))] (zR (kV kA)<|zT (qU kA)<|zZ) ?_
  refine jE ⟨_,(kS (cs:=(bx (jQ x))) (d:=(jQ x)) rfl rfl kA rfl rfl .nil),?_⟩
  rw[<- hx.v,ofQ_toQ h1];rfl
 ·refine jH<|jB<|kx [] [(1,some (bx (jQ (jV ((0:Int):Rat)))))] (zE (kF (g_whole 0))<|zT (qU kA)<|zZ) ?_
  refine jE ⟨_,(kS (cs:=(bx (jQ (jV ((0:Int):Rat))))) (d:=(jQ (jV ((0:Int):Rat)))) rfl rfl kA rfl rfl .nil),?_⟩
  rw[<- hx.v,toQ_bad h1];rfl
theorem g_sign(x:qJ)(p:Rat)(hx:nZ x p 17179869184):jS Tryz.prog 98 [(jQ x)] (.val (.int .i64 ((dX p)))):=by
 refine vA Tryz.func98 ?_
 refine jB<|kx [(1,(.ref 0 0))] [(0,some (bx (jQ x)))] (zN (xH 0)<|zM<|zZ) ?_
 refine jB<|kx [(2,(vi (qO p.num)))] [] (zR (kV kA)<|zE (kF (g_value x p hx))<|zE (oFv ft32_0 jX)<|zE (kF (rs_sign (uI hx.ql)))<|zM<|zZ) ?_
 refine jE ⟨_,(.tmp (d:=(.val (.int .i64 ((qO p.num))))) rfl .nil),?_⟩
 rfl
theorem g_neg(x:qJ)(p:Rat)(hx:nZ x p 17179869184):jS Tryz.prog 51 [(jQ x)] (jQ (jV (-p))):=by
 refine vA Tryz.func51 ?_
 refine jB<|kx [(1,(.ref 0 0)),(2,(.ref 1 0))] [(0,some (bx (jQ x))),(1,some (bx (jQ vQ)))] (zN (xH 0)<|zN (vT 1 yJ yO)<|zZ) ?_
 refine jB<|kx [(3,(.ref 2 0))] [(2,some (bx (jQ (jV p))))] (zR (kV kA)<|zE (kF (g_value x p hx))<|zN (vT 2 yJ yO)<|zT (qU kA)<|zZ) ?_
 refine jB<|kd [] [(1,some (bx (jQ (qJ.mk (kD (-p.num)) ((jV p).den)))))] mo (wE (kL xT)<|wR (kV jX)<|wE (kF (rs_neg (uI hx.ql)))<|wE (kL vO)<|wR (kV jX)<|wE (oBd pl32 yJ yO)<|wT (qU kA)<|wZ) ?_
 refine jE ⟨_,(kS (cs:=(bx (jQ (qJ.mk (kD (-p.num)) ((jV p).den))))) (d:=(jQ (qJ.mk (kD (-p.num)) ((jV p).den)))) rfl rfl kA rfl rfl .nil),?_⟩
 rfl
theorem g_add(x:qJ)(y:qJ)(p:Rat)(q:Rat)(hx:nZ x p 17179869184)(hy:nZ y q 17179869184):jS Tryz.prog 22 [(jQ x),(jQ y)] (jQ (jV (p+q))):=by
 refine vA Tryz.func22 ?_
 refine jB<|kx [(2,(.ref 0 0)),(3,(.ref 1 0)),(4,(.ref 2 0))] [(0,some (bx (jQ x))),(1,some (bx (jQ y))),(2,some (bx (jQ vQ)))] (zN (xH 0)<|zN (xH 1)<|zN (vT 2 yJ yO)<|zZ) ?_
 refine jB<|kx [(5,(.ref 3 0))] [(3,some (bx (jQ (jV p))))] (zR (kV kA)<|zE (kF (g_value x p hx))<|zN (vT 3 yJ yO)<|zT (qU kA)<|zZ) ?_
 refine jB<|kx [(6,(.ref 4 0))] [(4,some (bx (jQ (jV q))))] (zR (kV kA)<|zE (kF (g_value y q hy))<|zN (vT 4 yJ yO)<|zT (qU kA)<|zZ) ?_
 refine jB<|kd [] [(2,some (bx (jQ (jV (Rat.divInt ((p.num*(q.den:Int))+(q.num*(p.den:Int))) ((p.den:Int)*(q.den:Int)))))))] mo (wE (kL xT)<|wR (kV jX)<|wE (kL vO)<|wR (kV jX)<|wE (kF (rs_mul (uI hx.ql) (qY hy.ql)))<|wE (kL xT)<|wR (kV jX)<|wE (kL vO)<|wR (kV jX)<|wE (kF (rs_mul (uI hy.ql) (qY hx.ql)))<|wE (kF (rs_add (yS (k:=34359738368) (uI hx.ql) (qY hy.ql)) (yS (k:=34359738368) (uI hy.ql) (qY hx.ql)) (by decide) (by decide)))<|wE (kL vO)<|wR (kV jX)<|wE (kL vO)<|wR (kV jX)<|wE (kF (rs_mul (qY hx.ql) (qY hy.ql)))<|wE (kF (g_reduced (kD ((p.num*(q.den:Int))+(q.num*(p.den:Int)))) (kD ((p.den:Int)*(q.den:Int))) ((p.num*(q.den:Int))+(q.num*(p.den:Int))) ((p.den:Int)*(q.den:Int)) (eT (iok_add (k:=34359738369) (yS (k:=34359738368) (uI hx.ql) (qY hy.ql)) (yS (k:=34359738368) (uI hy.ql) (qY hx.ql)))) (eT (yS (k:=34359738368) (qY hx.ql) (qY hy.ql))) (mul_ne (den_ne _) (den_ne _))))<|wT (qU kA)<|wZ) ?_
 refine jE ⟨_,(kS (cs:=(bx (jQ (jV (Rat.divInt ((p.num*(q.den:Int))+(q.num*(p.den:Int))) ((p.den:Int)*(q.den:Int))))))) (d:=(jQ (jV (Rat.divInt ((p.num*(q.den:Int))+(q.num*(p.den:Int))) ((p.den:Int)*(q.den:Int)))))) rfl rfl kA rfl rfl .nil),?_⟩
 rw[add_divInt];rfl
theorem g_sub(x:qJ)(y:qJ)(p:Rat)(q:Rat)(hx:nZ x p 17179869184)(hy:nZ y q 17179869184):jS Tryz.prog 34 [(jQ x),(jQ y)] (jQ (jV (p-q))):=by
 refine vA Tryz.func34 ?_
 refine jB<|kx [(2,(.ref 0 0)),(3,(.ref 1 0)),(4,(.ref 2 0))] [(0,some (bx (jQ x))),(1,some (bx (jQ y))),(2,some (bx (jQ vQ)))] (zN (xH 0)<|zN (xH 1)<|zN (vT 2 yJ yO)<|zZ) ?_
 refine jB<|kd [] [(2,some (bx (jQ (jV (p+(-q))))))] mo (wR (kV kA)<|wR (kV kA)<|wE (kF (g_neg y q hy))<|wE (kF (g_add x (jV (-q)) p (-q) hx (kI (ql_neg hy.ql))))<|wT (qU kA)<|wZ) ?_
 refine jE ⟨_,(kS (cs:=(bx (jQ (jV (p+(-q)))))) (d:=(jQ (jV (p+(-q))))) rfl rfl kA rfl rfl .nil),?_⟩
 rw[Rat.sub_eq_add_neg];rfl
theorem g_compare(x:qJ)(y:qJ)(p:Rat)(q:Rat)(hx:nZ x p 4294967296)(hy:nZ y q 4294967296):jS Tryz.prog 54 [(jQ x),(jQ y)] (.val (.int .i64 ((gY p q)))):=by
 refine vA Tryz.func54 ?_
 refine jB<|kx [(2,(.ref 0 0)),(3,(.ref 1 0))] [(0,some (bx (jQ x))),(1,some (bx (jQ y)))] (zN (xH 0)<|zN (xH 1)<|zM<|zZ) ?_
 refine jB<|kx [(4,(vi (dX (p-q))))] [] (zR (kV kA)<|zR (kV kA)<|zE (kF (g_sub x y p q (kE hx) (kE hy)))<|zE (kF (g_sign (jV (p-q)) (p-q) (kE (kI (ql_sub (k:=8589934593) hx.ql hy.ql (by decide))))))<|zM<|zZ) ?_
 refine jE ⟨_,(.tmp (d:=(.val (.int .i64 ((dX (p-q)))))) rfl .nil),?_⟩
 rw[<- signQ_sub];rfl
theorem xV:uM Tryz.prog 42 0=some 0:=by kernel_rfl
theorem xP:uM Tryz.prog 42 1=some 4:=by kernel_rfl
theorem g_same(x:qJ)(y:qJ)(p:Rat)(q:Rat)(hx:nZ x p 4294967296)(hy:nZ y q 4294967296):jS Tryz.prog 14 [(jQ x),(jQ y)] (.val (.bool ((mQ x y)))):=by
 refine vA Tryz.func14 ?_
 refine jB<|kx [(2,(.ref 0 0)),(3,(.ref 1 0))] [(0,some (bx (jQ x))),(1,some (bx (jQ y)))] (zN (xH 0)<|zN (xH 1)<|zM<|zZ) ?_
 refine jB<|kx [(4,(vb (((kN x)&&(kN y))&&((gY p q) == 0))))] [] ?_ ?_
 ·refine zR (kV kA)<|zE (kF (g_valid x p (kE hx)))<|zE (oV (vb (kN x)) (qE (by kernel_rfl)))<|?_
  rcases hb1:(kN x) with _ | _
  ·exact zK<|zK<|zE gG<|zM<|zK<|zK<|zK<|zK<|zE gG<|zM<|zZ
  ·refine zR (kV kA)<|zE (kF (g_valid y q (kE hy)))<|zE dZ<|zE (oV (vb (true&&(kN y))) (qE (by kernel_rfl)))<|?_
   rcases hb2:(true&&(kN y)) with _ | _
   ·exact zK<|zK<|zK<|zK<|zE gG<|zM<|zZ
   ·exact zR (kV kA)<|zR (kV kA)<|zE (kF (g_compare x y p q hx hy))<|zE yA<|zE dZ<|zM<|zZ
 refine jE ⟨_,(.tmp (d:=(.val (.bool ((((kN x)&&(kN y))&&((gY p q) == 0)))))) rfl .nil),?_⟩
 unfold mQ
 rw[<- sameR_eq,hx.v,hy.v];rfl
theorem g_digits(x:qJ)(p:Rat)(hx:nZ x p 140737488355328):jS Tryz.prog 36 [(jQ x)] (.val (.int .i64 ((((digR x):Nat):Int)))):=by
 have h1:=hx.n1
 have h2:=hx.n2
 refine vA Tryz.func36 ?_
 refine jB<|kx [(1,(.ref 0 0))] [(0,some (bx (jQ x)))] (zN (xH 0)<|zM<|zZ) ?_
 refine jB<|kx [(2,(kJ (x.num.gs.length+x.den.gs.length)))] [] (zE (kL xT)<|zE (kL uX)<|zR (qK xN)<|zE (yD kB)<|zE (kL vO)<|zE (kL uX)<|zR (qK xN)<|zE (yD kB)<|zE (xO (x.num.gs.length+x.den.gs.length))<|zM<|zZ) ?_
 refine jE ⟨_,(.tmp (d:=(.val (.int .i64 ((((x.num.gs.length+x.den.gs.length):Nat):Int))))) rfl .nil),?_⟩
 rfl
theorem g_samerange(a b:kH)(ha:GOk 4294967296 a)(hb:GOk 4294967296 b):jS Tryz.prog 81 [(jM a),(jM b)] (.val (.bool ((mQ a.lo b.lo&&mQ a.hi b.hi)))):=by
 refine vA Tryz.func81 ?_
 refine jB<|kx [(2,(.ref 0 0)),(3,(.ref 1 0))] [(0,some (bx (jM a))),(1,some (bx (jM b)))] (zN (xH 0)<|zN (xH 1)<|zM<|zZ) ?_
 refine jB<|kx [(4,(vb ((mQ a.lo b.lo)&&(mQ a.hi b.hi))))] [] ?_ ?_
 ·refine zE (kL xV)<|zR (kV kA)<|zE (kL xV)<|zR (kV kA)<|zE (kF (g_same a.lo b.lo (xD a.lo) (xD b.lo) ha.1 hb.1))<|zE (oV (vb (mQ a.lo b.lo)) (qE (by kernel_rfl)))<|?_
  rcases hb1:(mQ a.lo b.lo) with _ | _
  ·exact zK<|zK<|zK<|zK<|zK<|zE gG<|zM<|zZ
  ·exact zE (kL xP)<|zR (kV kA)<|zE (kL xP)<|zR (kV kA)<|zE (kF (g_same a.hi b.hi (xD a.hi) (xD b.hi) ha.2 hb.2))<|zE dZ<|zM<|zZ
 refine jE ⟨_,(.tmp (d:=(.val (.bool (((mQ a.lo b.lo)&&(mQ a.hi b.hi)))))) rfl .nil),?_⟩
 rfl
end Go.Proofs.YtckccjhflbljgaaGreatDoor
