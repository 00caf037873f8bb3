/- Part 25 of a proof: rules, plain facts, and functions walked. -/
import Derived.Test.YtckccjhflbljgaaGreatDoorM24
set_option linter.all false
set_option maxRecDepth 4000
namespace Go.Proofs.YtckccjhflbljgaaGreatDoor
open Go.Fid
theorem s_neg{x:kS}{a:Int}{m:Nat}(hx:cB x a m)(hm:m<=274877906944:=by decide):jR Tryz.prog 89 [(jQ x)] (jQ (kH (-a))):=by
 obtain ⟨rfl,hx'⟩:=hx
 exact t_neg x (by omega)
theorem s_sign{x:kS}{a:Int}{m:Nat}(hx:cB x a m)(hm:m<=274877906944:=by decide):jR Tryz.prog 84 [(jQ x)] (.val (.int .i64 (qQ a))):=by
 obtain ⟨rfl,hx'⟩:=hx
 exact t_sign x (by omega)
theorem s_add{x y:kS}{a b:Int}{m n:Nat}(hx:cB x a m)(hy:cB y b n)(hm:m<=274877906944)(hn:n<=274877906944):jR Tryz.prog 92 [(jQ x),(jQ y)] (jQ (kH (a+b))):=by
 obtain ⟨rfl,hx'⟩:=hx;obtain ⟨rfl,hy'⟩:=hy
 exact t_add x y (by omega) (by omega)
theorem s_mul{x y:kS}{a b:Int}{m n:Nat}(hx:cB x a m)(hy:cB y b n)(hm:m<=274877906944:=by decide)(hn:n<=274877906944:=by decide):jR Tryz.prog 91 [(jQ x),(jQ y)] (jQ (kH (a*b))):=by
 obtain ⟨rfl,hx'⟩:=hx;obtain ⟨rfl,hy'⟩:=hy
 exact t_mul x y (by omega) (by omega)
theorem s_compare{x y:kS}{a b:Int}{m n:Nat}(hx:cB x a m)(hy:cB y b n)(hm:m<=274877906944:=by decide)(hn:n<=274877906944:=by decide):jR Tryz.prog 85 [(jQ x),(jQ y)] (.val (.int .i64 (uX a b))):=by
 obtain ⟨rfl,hx'⟩:=hx;obtain ⟨rfl,hy'⟩:=hy
 exact t_compareI x y (by omega) (by omega)
theorem s_gcd{x y:kS}{a b:Int}{m n:Nat}(hx:cB x a m)(hy:cB y b n)(hm:m<=274877906944:=by decide)(hn:n<=274877906944:=by decide):jR Tryz.prog 86 [(jQ x),(jQ y)] (jQ (kH ((Int.gcd a b:Nat):Int))):=by
 obtain ⟨rfl,hx'⟩:=hx;obtain ⟨rfl,hy'⟩:=hy
 exact t_gcdI x y (by omega) (by omega)
theorem s_divide{x y:kS}{a b:Int}{m n:Nat}(hx:cB x a m)(hy:cB y b n)(hm:m<=274877906944)(hn:n<=274877906944)(hb:b≠0):jR Tryz.prog 160 [(jQ x),(jQ y)] (.tup [(jQ (kH (a.fdiv b))),(jQ (kH (a.fmod b))),(.val (.int .i64 0))]):=by
 obtain ⟨rfl,hx'⟩:=hx;obtain ⟨rfl,hy'⟩:=hy
 exact t_divideI x y (by omega) (by omega) hb
theorem rs_neg{x:kS}{a:Int}{m:Nat}(hx:cB x a m)(hm:m<=274877906944:=by decide):jR Tryz.prog 93 [(jQ x)] (jQ (kH (-a))):=by
 obtain ⟨rfl,hx'⟩:=hx
 exact r_neg x (by omega)
theorem rs_sign{x:kS}{a:Int}{m:Nat}(hx:cB x a m)(hm:m<=274877906944:=by decide):jR Tryz.prog 95 [(jQ x)] (.val (.int .i64 (qQ a))):=by
 obtain ⟨rfl,hx'⟩:=hx
 exact r_sign x (by omega)
theorem rs_add{x y:kS}{a b:Int}{m n:Nat}(hx:cB x a m)(hy:cB y b n)(hm:m<=274877906944)(hn:n<=274877906944):jR Tryz.prog 71 [(jQ x),(jQ y)] (jQ (kH (a+b))):=by
 obtain ⟨rfl,hx'⟩:=hx;obtain ⟨rfl,hy'⟩:=hy
 exact r_add x y (by omega) (by omega)
theorem rs_mul{x y:kS}{a b:Int}{m n:Nat}(hx:cB x a m)(hy:cB y b n)(hm:m<=274877906944:=by decide)(hn:n<=274877906944:=by decide):jR Tryz.prog 72 [(jQ x),(jQ y)] (jQ (kH (a*b))):=by
 obtain ⟨rfl,hx'⟩:=hx;obtain ⟨rfl,hy'⟩:=hy
 exact r_mul x y (by omega) (by omega)
theorem rs_compare{x y:kS}{a b:Int}{m n:Nat}(hx:cB x a m)(hy:cB y b n)(hm:m<=274877906944)(hn:n<=274877906944):jR Tryz.prog 96 [(jQ x),(jQ y)] (.val (.int .i64 (uX a b))):=by
 obtain ⟨rfl,hx'⟩:=hx;obtain ⟨rfl,hy'⟩:=hy
 exact r_compare x y (by omega) (by omega)
theorem rs_gcd{x y:kS}{a b:Int}{m n:Nat}(hx:cB x a m)(hy:cB y b n)(hm:m<=274877906944:=by decide)(hn:n<=274877906944:=by decide):jR Tryz.prog 97 [(jQ x),(jQ y)] (jQ (kH ((Int.gcd a b:Nat):Int))):=by
 obtain ⟨rfl,hx'⟩:=hx;obtain ⟨rfl,hy'⟩:=hy
 exact r_gcd x y (by omega) (by omega)
theorem rs_divide{x y:kS}{a b:Int}{m n:Nat}(hx:cB x a m)(hy:cB y b n)(hm:m<=274877906944)(hn:n<=274877906944)(hb:b≠0):jR Tryz.prog 113 [(jQ x),(jQ y)] (.tup [(jQ (kH (a.fdiv b))),(jQ (kH (a.fmod b))),(.val (.int .i64 0))]):=by
 obtain ⟨rfl,hx'⟩:=hx;obtain ⟨rfl,hy'⟩:=hy
 exact r_divide x y (by omega) (by omega) hb
theorem vP:uQ Tryz.prog 32 0=some 0:=by kernel_rfl
theorem vB:uQ Tryz.prog 32 1=some 2:=by kernel_rfl
theorem ft32_0:bL Tryz.prog 32 0=some (0,30):=by kernel_rfl
theorem pl32:cR Tryz.prog 32=some [(0,2),(2,2)]:=by kernel_rfl
theorem jS:qE Tryz.prog 32=some (true,4):=by kernel_rfl
theorem qU:vO Tryz.prog 32=some [.bool false,.slice none 0 0,.bool false,.slice none 0 0]:=by kernel_rfl
theorem uG:dC [.bool false,.slice none 0 0,.bool false,.slice none 0 0] [.val (.bool false),.sl 107 1 [],.val (.bool false),.sl 107 1 []]:=by simp [dC,Value.oneCell']
theorem f_reduced(num den:kS)(a b:Int)(aJ:cB num a 68719476736)(eI:cB den b 68719476736)(hb:b≠0):jR Tryz.prog 90 [(jQ num),(jQ den)] (jJ (jO (Rat.divInt a b))):=by
 refine uU Tryz.func90 ?_
 refine jB<|kx [(2,(.ref 0 0)),(3,(.ref 1 0)),(4,(.ref 2 0))] [(0,some (bx (jQ num))),(1,some (bx (jQ den))),(2,some (bx (jJ uD)))] (zN (vZ 0)<|zN (vZ 1)<|zN (vC 2 qU uG)<|zZ) ?_
 refine jB<|jB<|kx [(8,(vb (decide ((qQ b)<0))))] [] (zR (kR jZ)<|zE (kB (s_sign eI))<|zE gX<|zZ) ?_
 refine jF (b:=decide ((qQ b)<0)) rfl (fun h1=>?_) (fun h1=>?_)
 ·replace h1:=vN h1
  have hlt:=signI_lt.1 h1
  have hb2:-b≠0:=by omega
  refine kd [] [(0,some (bx (jQ (kH (-a))))),(1,some (bx (jQ (kH (-b)))))] mo (wR (kR jZ)<|wE (kB (s_neg aJ))<|wR (kR jZ)<|wE (kB (s_neg eI))<|wT (qM jZ)<|wT (qM jZ)<|wZ) ?_
  refine jB<|kx [(5,(.ref 3 0))] [(3,some (bx (jQ (kH ((Int.gcd (-a) (-b):Nat):Int)))))] (zR (kR jZ)<|zR (kR jZ)<|zE (kB (s_gcd (nY aJ) (nY eI)))<|zN (vC 3 gN gM)<|zT (qM jZ)<|zZ) ?_
  refine jB<|kx [] [(0,some (bx (jQ (kH ((-a).fdiv (((Int.gcd (-a) (-b):Nat):Int)))))))] (zR (kR jZ)<|zR (kR jZ)<|zE (kB (s_divide (nY aJ) (mJ (k:=68719476736) (nY aJ) (nY eI)) (by decide) (by decide) (gcd_ne (by omega))))<|zM<|zE xU<|zE xU<|zE xU<|zT (qM jZ)<|zZ) ?_
  refine jB<|kx [] [(1,some (bx (jQ (kH ((-b).fdiv (((Int.gcd (-a) (-b):Nat):Int)))))))] (zR (kR jZ)<|zR (kR jZ)<|zE (kB (s_divide (nY eI) (mJ (k:=68719476736) (nY aJ) (nY eI)) (by decide) (by decide) (gcd_ne (by omega))))<|zM<|zE xU<|zE xU<|zE xU<|zT (qM jZ)<|zZ) ?_
  refine jB<|kx [] [(2,some (bx (jJ (kV.mk (kH ((-a).fdiv (((Int.gcd (-a) (-b):Nat):Int)))) (kH ((-b).fdiv (((Int.gcd (-a) (-b):Nat):Int))))))))] (zR (kR jZ)<|zR (kR jZ)<|zE (bC pl32 qU uG)<|zT (qM jS)<|zZ) ?_
  refine jE ⟨_,(kP (cs:=(bx (jJ (kV.mk (kH ((-a).fdiv (((Int.gcd (-a) (-b):Nat):Int)))) (kH ((-b).fdiv (((Int.gcd (-a) (-b):Nat):Int)))))))) (d:=(jJ (kV.mk (kH ((-a).fdiv (((Int.gcd (-a) (-b):Nat):Int)))) (kH ((-b).fdiv (((Int.gcd (-a) (-b):Nat):Int))))))) rfl rfl jS rfl rfl .nil),?_⟩
  rw[red_neg hlt];rfl
 ·replace h1:=vX h1
  have hge:¬ b<0:=fun hh=>h1 (signI_lt.2 hh)
  refine jG<|jB<|kx [(5,(.ref 4 0))] [(4,some (bx (jQ (kH ((Int.gcd a b:Nat):Int)))))] (zR (kR jZ)<|zR (kR jZ)<|zE (kB (s_gcd aJ eI))<|zN (vC 4 gN gM)<|zT (qM jZ)<|zZ) ?_
  refine jB<|kx [] [(0,some (bx (jQ (kH (a.fdiv (((Int.gcd a b:Nat):Int)))))))] (zR (kR jZ)<|zR (kR jZ)<|zE (kB (s_divide aJ (mJ (k:=68719476736) aJ eI) (by decide) (by decide) (gcd_ne (by omega))))<|zM<|zE xU<|zE xU<|zE xU<|zT (qM jZ)<|zZ) ?_
  refine jB<|kx [] [(1,some (bx (jQ (kH (b.fdiv (((Int.gcd a b:Nat):Int)))))))] (zR (kR jZ)<|zR (kR jZ)<|zE (kB (s_divide eI (mJ (k:=68719476736) aJ eI) (by decide) (by decide) (gcd_ne (by omega))))<|zM<|zE xU<|zE xU<|zE xU<|zT (qM jZ)<|zZ) ?_
  refine jB<|kx [] [(2,some (bx (jJ (kV.mk (kH (a.fdiv (((Int.gcd a b:Nat):Int)))) (kH (b.fdiv (((Int.gcd a b:Nat):Int))))))))] (zR (kR jZ)<|zR (kR jZ)<|zE (bC pl32 qU uG)<|zT (qM jS)<|zZ) ?_
  refine jE ⟨_,(kP (cs:=(bx (jJ (kV.mk (kH (a.fdiv (((Int.gcd a b:Nat):Int)))) (kH (b.fdiv (((Int.gcd a b:Nat):Int)))))))) (d:=(jJ (kV.mk (kH (a.fdiv (((Int.gcd a b:Nat):Int)))) (kH (b.fdiv (((Int.gcd a b:Nat):Int))))))) rfl rfl jS rfl rfl .nil),?_⟩
  rw[red_pos hge hb];rfl
theorem eR(n:Int)(hlo:-9223372036854775808<=n:=by decide)(hhi:n<=9223372036854775807:=by decide):jR Tryz.prog 62 [(.val (.int .i64 (n)))] (jJ (jO ((n:Int):Rat))):=by
 refine uU Tryz.func62 ?_
 refine jB<|kx [(2,(.ref 0 0))] [(0,some (bx (jJ uD)))] (zN (vC 0 qU uG)<|zZ) ?_
 refine jB<|kx [] [(0,some (bx (jJ (kV.mk (kH n) (kH 1)))))] (zM<|zE (kB (t_of n (by omega) (by omega)))<|zE (kB (t_of 1))<|zE (bC pl32 qU uG)<|zT (qM jS)<|zZ) ?_
 refine jE ⟨_,(kP (cs:=(bx (jJ (kV.mk (kH n) (kH 1))))) (d:=(jJ (kV.mk (kH n) (kH 1)))) rfl rfl jS rfl rfl .nil),?_⟩
 rfl
theorem eU(x:kV)(p:Rat)(hx:gZ x p 17179869184):jR Tryz.prog 45 [(jJ x)] (.val (.bool ((kL x)))):=by
 refine uU Tryz.func45 ?_
 refine jB<|kx [(1,(.ref 0 0))] [(0,some (bx (jJ x)))] (zN (vZ 0)<|zM<|zZ) ?_
 refine jB<|jB<|kx [(18,(vb ((!(uF x.num)||!(uF x.den))||decide ((qQ (jV x.den))<=0))))] [] ?_ ?_
 ·refine zE (kK vP)<|zR (kR jZ)<|zE (kB (t_valid x.num (Nat.le_trans (yF hx.n1).l (by decide))))<|zE mH<|zE (oV (vb (!(uF x.num))) (qA (by kernel_rfl)))<|?_
  rcases hb1:(!(uF x.num)) with _ | _
  ·refine zE (kK vB)<|zR (kR jZ)<|zE (kB (t_valid x.den (Nat.le_trans (yF hx.n2).l (by decide))))<|zE mH<|zE eM<|zE (oV (vb (false||!(uF x.den))) (qA (by kernel_rfl)))<|?_
   rcases hb2:(false||!(uF x.den)) with _ | _
   ·exact zE (kK vB)<|zR (kR jZ)<|zE (kB (s_sign (yF hx.n2)))<|zE oLe<|zE eM<|zZ
   ·exact zK<|zK<|zK<|zK<|zE gU<|zZ
  ·exact zK<|zK<|zK<|zK<|zE gU<|zM<|zK<|zK<|zK<|zK<|zE gU<|zZ
 refine jF rfl (fun h3=>?_) (fun h3=>?_)
 ·refine jB<|kx [(2,(vb false))] [] (zM<|zZ) ?_
  refine jE ⟨_,(.tmp (d:=(.val (.bool (false)))) rfl .nil),?_⟩
  rw[validR_no h3];rfl
 ·refine jG<|jB<|kx [(2,(vb ((uX (((Int.gcd (jV x.num) (jV x.den):Nat):Int)) 1) == 0)))] [] (zE (kK vP)<|zR (kR jZ)<|zE (kK vB)<|zR (kR jZ)<|zE (kB (s_gcd (yF hx.n1) (yF hx.n2)))<|zE (kB (t_of 1))<|zE (kB (s_compare (mJ (k:=17179869184) (yF hx.n1) (yF hx.n2)) (iok_small (z:=1))))<|zE xV<|zM<|zZ) ?_
  refine jE ⟨_,(.tmp (d:=(.val (.bool (((uX (((Int.gcd (jV x.num) (jV x.den):Nat):Int)) 1) == 0))))) rfl .nil),?_⟩
  rw[validR_yes h3];rfl
theorem f_copied(x:kV)(p:Rat)(hx:gZ x p 17179869184):jR Tryz.prog 159 [(jJ x)] (jJ (kV.mk (kH (-(-jV x.num))) (kH (-(-jV x.den))))):=by
 refine uU Tryz.func159 ?_
 refine jB<|kx [(1,(.ref 0 0)),(2,(.ref 1 0))] [(0,some (bx (jJ x))),(1,some (bx (jJ uD)))] (zN (vZ 0)<|zN (vC 1 qU uG)<|zZ) ?_
 refine jB<|kd [] [(1,some (bx (jJ (kV.mk (kH (-(-(jV x.num)))) (kH (-(-(jV x.den))))))))] mo (wE (kK vP)<|wR (kR jZ)<|wE (kB (s_neg (yF hx.n1)))<|wE (kB (s_neg (nY (yF hx.n1))))<|wE (kK vB)<|wR (kR jZ)<|wE (kB (s_neg (yF hx.n2)))<|wE (kB (s_neg (nY (yF hx.n2))))<|wE (bC pl32 qU uG)<|wT (qM jS)<|wZ) ?_
 refine jE ⟨_,(kP (cs:=(bx (jJ (kV.mk (kH (-(-(jV x.num)))) (kH (-(-(jV x.den)))))))) (d:=(jJ (kV.mk (kH (-(-(jV x.num)))) (kH (-(-(jV x.den))))))) rfl rfl jS rfl rfl .nil),?_⟩
 rfl
theorem mT(x:kV)(p:Rat)(hx:gZ x p 17179869184):jR Tryz.prog 88 [(jJ x)] (jJ (jO p)):=by
 refine uU Tryz.func88 ?_
 refine jB<|kx [(1,(.ref 0 0)),(2,(.ref 1 0))] [(0,some (bx (jJ x))),(1,some (bx (jJ uD)))] (zN (vZ 0)<|zN (vC 1 qU uG)<|zZ) ?_
 refine jB<|jB<|kx [(4,(vb (kL x)))] [] (zR (kR jS)<|zE (kB (eU x p hx))<|zZ) ?_
 refine jF (b:=(kL x)) rfl (fun h1=>?_) (fun h1=>?_)
 ·refine jB<|kx [] [(1,some (bx (jJ (kV.mk (kH (-(-jV x.num))) (kH (-(-jV x.den)))))))] (zR (kR jS)<|zE (kB (f_copied x p hx))<|zT (qM jS)<|zZ) ?_
  refine jE ⟨_,(kP (cs:=(bx (jJ (kV.mk (kH (-(-jV x.num))) (kH (-(-jV x.den))))))) (d:=(jJ (kV.mk (kH (-(-jV x.num))) (kH (-(-jV x.den)))))) rfl rfl jS rfl rfl .nil),?_⟩
  rw[<- hx.v,<- copied_eq h1];rfl
 ·refine jG<|jB<|kx [] [(1,some (bx (jJ (jO ((0:Int):Rat)))))] (zE (kB (eR 0))<|zT (qM jS)<|zZ) ?_
  refine jE ⟨_,(kP (cs:=(bx (jJ (jO ((0:Int):Rat))))) (d:=(jJ (jO ((0:Int):Rat)))) rfl rfl jS rfl rfl .nil),?_⟩
  rw[<- hx.v,toQ_bad h1];rfl
theorem f_sign(x:kV)(p:Rat)(hx:gZ x p 17179869184):jR Tryz.prog 212 [(jJ x)] (.val (.int .i64 ((eA p)))):=by
 refine uU Tryz.func212 ?_
 refine jB<|kx [(1,(.ref 0 0))] [(0,some (bx (jJ x)))] (zN (vZ 0)<|zM<|zZ) ?_
 refine jB<|kx [(2,(vi (qQ p.num)))] [] (zR (kR jS)<|zE (kB (mT x p hx))<|zE (oFv ft32_0 jZ)<|zE (kB (s_sign (qR hx.ql)))<|zM<|zZ) ?_
 refine jE ⟨_,(.tmp (d:=(.val (.int .i64 ((qQ p.num))))) rfl .nil),?_⟩
 rfl
theorem f_neg(x:kV)(p:Rat)(hx:gZ x p 17179869184):jR Tryz.prog 46 [(jJ x)] (jJ (jO (-p))):=by
 refine uU Tryz.func46 ?_
 refine jB<|kx [(1,(.ref 0 0)),(2,(.ref 1 0))] [(0,some (bx (jJ x))),(1,some (bx (jJ uD)))] (zN (vZ 0)<|zN (vC 1 qU uG)<|zZ) ?_
 refine jB<|kx [] [(0,some (bx (jJ (jO p))))] (zR (kR jS)<|zE (kB (mT x p hx))<|zT (qM jS)<|zZ) ?_
 refine jB<|kd [] [(1,some (bx (jJ (kV.mk (kH (-p.num)) ((jO p).den)))))] mo (wE (kK vP)<|wR (kR jZ)<|wE (kB (s_neg (qR hx.ql)))<|wE (kK vB)<|wR (kR jZ)<|wE (bC pl32 qU uG)<|wT (qM jS)<|wZ) ?_
 refine jE ⟨_,(kP (cs:=(bx (jJ (kV.mk (kH (-p.num)) ((jO p).den))))) (d:=(jJ (kV.mk (kH (-p.num)) ((jO p).den)))) rfl rfl jS rfl rfl .nil),?_⟩
 rfl
theorem f_add(x:kV)(y:kV)(p:Rat)(q:Rat)(hx:gZ x p 17179869184)(hy:gZ y q 17179869184):jR Tryz.prog 48 [(jJ x),(jJ y)] (jJ (jO (p+q))):=by
 refine uU Tryz.func48 ?_
 refine jB<|kx [(2,(.ref 0 0)),(3,(.ref 1 0)),(4,(.ref 2 0))] [(0,some (bx (jJ x))),(1,some (bx (jJ y))),(2,some (bx (jJ uD)))] (zN (vZ 0)<|zN (vZ 1)<|zN (vC 2 qU uG)<|zZ) ?_
 refine jB<|kd [] [(0,some (bx (jJ (jO p)))),(1,some (bx (jJ (jO q))))] mo (wR (kR jS)<|wE (kB (mT x p hx))<|wR (kR jS)<|wE (kB (mT y q hy))<|wT (qM jS)<|wT (qM jS)<|wZ) ?_
 refine jB<|kd [] [(2,some (bx (jJ (jO (Rat.divInt ((p.num*(q.den:Int))+(q.num*(p.den:Int))) ((p.den:Int)*(q.den:Int)))))))] mo (wE (kK vP)<|wR (kR jZ)<|wE (kK vB)<|wR (kR jZ)<|wE (kB (s_mul (qR hx.ql) (qO hy.ql)))<|wE (kK vP)<|wR (kR jZ)<|wE (kK vB)<|wR (kR jZ)<|wE (kB (s_mul (qR hy.ql) (qO hx.ql)))<|wE (kB (s_add (xX (k:=34359738368) (qR hx.ql) (qO hy.ql)) (xX (k:=34359738368) (qR hy.ql) (qO hx.ql)) (by decide) (by decide)))<|wE (kK vB)<|wR (kR jZ)<|wE (kK vB)<|wR (kR jZ)<|wE (kB (s_mul (qO hx.ql) (qO hy.ql)))<|wE (kB (f_reduced (kH ((p.num*(q.den:Int))+(q.num*(p.den:Int)))) (kH ((p.den:Int)*(q.den:Int))) ((p.num*(q.den:Int))+(q.num*(p.den:Int))) ((p.den:Int)*(q.den:Int)) (mM (iok_add (k:=34359738369) (xX (k:=34359738368) (qR hx.ql) (qO hy.ql)) (xX (k:=34359738368) (qR hy.ql) (qO hx.ql)))) (mM (xX (k:=34359738368) (qO hx.ql) (qO hy.ql))) (mul_ne (dW _) (dW _))))<|wT (qM jS)<|wZ) ?_
 refine jE ⟨_,(kP (cs:=(bx (jJ (jO (Rat.divInt ((p.num*(q.den:Int))+(q.num*(p.den:Int))) ((p.den:Int)*(q.den:Int))))))) (d:=(jJ (jO (Rat.divInt ((p.num*(q.den:Int))+(q.num*(p.den:Int))) ((p.den:Int)*(q.den:Int)))))) rfl rfl jS rfl rfl .nil),?_⟩
 rw[add_divInt];rfl
theorem f_sub(x:kV)(y:kV)(p:Rat)(q:Rat)(hx:gZ x p 17179869184)(hy:gZ y q 17179869184):jR Tryz.prog 49 [(jJ x),(jJ y)] (jJ (jO (p-q))):=by
 refine uU Tryz.func49 ?_
 refine jB<|kx [(2,(.ref 0 0)),(3,(.ref 1 0)),(4,(.ref 2 0))] [(0,some (bx (jJ x))),(1,some (bx (jJ y))),(2,some (bx (jJ uD)))] (zN (vZ 0)<|zN (vZ 1)<|zN (vC 2 qU uG)<|zZ) ?_
 refine jB<|kd [] [(2,some (bx (jJ (jO (p+(-q))))))] mo (wR (kR jS)<|wR (kR jS)<|wE (kB (f_neg y q hy))<|wE (kB (f_add x (jO (-q)) p (-q) hx (kF (ql_neg hy.ql))))<|wT (qM jS)<|wZ) ?_
 refine jE ⟨_,(kP (cs:=(bx (jJ (jO (p+(-q)))))) (d:=(jJ (jO (p+(-q))))) rfl rfl jS rfl rfl .nil),?_⟩
 rw[Rat.sub_eq_add_neg];rfl
theorem f_mul(x:kV)(y:kV)(p:Rat)(q:Rat)(hx:gZ x p 17179869184)(hy:gZ y q 17179869184):jR Tryz.prog 47 [(jJ x),(jJ y)] (jJ (jO (p*q))):=by
 refine uU Tryz.func47 ?_
 refine jB<|kx [(2,(.ref 0 0)),(3,(.ref 1 0)),(4,(.ref 2 0))] [(0,some (bx (jJ x))),(1,some (bx (jJ y))),(2,some (bx (jJ uD)))] (zN (vZ 0)<|zN (vZ 1)<|zN (vC 2 qU uG)<|zZ) ?_
 refine jB<|kd [] [(0,some (bx (jJ (jO p)))),(1,some (bx (jJ (jO q))))] mo (wR (kR jS)<|wE (kB (mT x p hx))<|wR (kR jS)<|wE (kB (mT y q hy))<|wT (qM jS)<|wT (qM jS)<|wZ) ?_
 refine jB<|kd [] [(2,some (bx (jJ (jO (Rat.divInt (p.num*q.num) ((p.den:Int)*(q.den:Int)))))))] mo (wE (kK vP)<|wR (kR jZ)<|wE (kK vP)<|wR (kR jZ)<|wE (kB (s_mul (qR hx.ql) (qR hy.ql)))<|wE (kK vB)<|wR (kR jZ)<|wE (kK vB)<|wR (kR jZ)<|wE (kB (s_mul (qO hx.ql) (qO hy.ql)))<|wE (kB (f_reduced (kH (p.num*q.num)) (kH ((p.den:Int)*(q.den:Int))) (p.num*q.num) ((p.den:Int)*(q.den:Int)) (mM (xX (k:=34359738368) (qR hx.ql) (qR hy.ql))) (mM (xX (k:=34359738368) (qO hx.ql) (qO hy.ql))) (mul_ne (dW _) (dW _))))<|wT (qM jS)<|wZ) ?_
 refine jE ⟨_,(kP (cs:=(bx (jJ (jO (Rat.divInt (p.num*q.num) ((p.den:Int)*(q.den:Int))))))) (d:=(jJ (jO (Rat.divInt (p.num*q.num) ((p.den:Int)*(q.den:Int)))))) rfl rfl jS rfl rfl .nil),?_⟩
 rw[mul_divInt];rfl
theorem f_divide(x:kV)(y:kV)(p:Rat)(q:Rat)(hx:gZ x p 17179869184)(hy:gZ y q 17179869184):jR Tryz.prog 50 [(jJ x),(jJ y)] (.tup [(jJ (divR p q)),(.val (.int .i64 ((divC q))))]):=by
 refine uU Tryz.func50 ?_
 refine jB<|kx [(2,(.ref 0 0)),(3,(.ref 1 0)),(4,(.ref 2 0))] [(0,some (bx (jJ x))),(1,some (bx (jJ y))),(2,some (bx (jJ uD)))] (zN (vZ 0)<|zN (vZ 1)<|zN (vC 2 qU uG)<|zM<|zZ) ?_
 refine jB<|kd [] [(0,some (bx (jJ (jO p)))),(1,some (bx (jJ (jO q))))] mo (wR (kR jS)<|wE (kB (mT x p hx))<|wR (kR jS)<|wE (kB (mT y q hy))<|wT (qM jS)<|wT (qM jS)<|wZ) ?_
 refine jB<|jB<|kx [(13,(vb ((qQ q.num) == 0)))] [] (zE (kK vP)<|zR (kR jZ)<|zE (kB (s_sign (qR hy.ql)))<|zE xV<|zZ) ?_
 refine jF (b:=((qQ q.num) == 0)) rfl (fun h1=>?_) (fun h1=>?_)
 ·replace h1:=eq_of_beq h1
  have hq0:=signQ_zero.1 h1
  refine jB<|kx [(5,(kG 14))] [(2,some (bx (jJ uD)))] (zE (bC pl32 qU uG)<|zT (qM jS)<|zM<|zZ) ?_
  refine jE ⟨_,(kP (cs:=(bx (jJ uD))) (d:=(jJ uD)) rfl rfl jS rfl rfl (.tmp (d:=(.val (.int .i64 (14)))) rfl .nil)),?_⟩
  rw[divR_zero hq0,divC_zero hq0];rfl
 ·replace h1:=ne_of_beq_false h1
  have hq0:q≠0:=fun hh=>h1 (signQ_zero.2 hh)
  refine jG<|jB<|kd [(5,(kG 0))] [(2,some (bx (jJ (jO (Rat.divInt (p.num*(q.den:Int)) ((p.den:Int)*q.num))))))] mo (wE (kK vP)<|wR (kR jZ)<|wE (kK vB)<|wR (kR jZ)<|wE (kB (s_mul (qR hx.ql) (qO hy.ql)))<|wE (kK vB)<|wR (kR jZ)<|wE (kK vP)<|wR (kR jZ)<|wE (kB (s_mul (qO hx.ql) (qR hy.ql)))<|wE (kB (f_reduced (kH (p.num*(q.den:Int))) (kH ((p.den:Int)*q.num)) (p.num*(q.den:Int)) ((p.den:Int)*q.num) (mM (xX (k:=34359738368) (qR hx.ql) (qO hy.ql))) (mM (xX (k:=34359738368) (qO hx.ql) (qR hy.ql))) (mul_ne (dW _) (num_ne hq0))))<|wT (qM jS)<|wM<|wZ) ?_
  refine jE ⟨_,(kP (cs:=(bx (jJ (jO (Rat.divInt (p.num*(q.den:Int)) ((p.den:Int)*q.num)))))) (d:=(jJ (jO (Rat.divInt (p.num*(q.den:Int)) ((p.den:Int)*q.num))))) rfl rfl jS rfl rfl (.tmp (d:=(.val (.int .i64 (0)))) rfl .nil)),?_⟩
  rw[divR_ne hq0,divC_ne hq0,div_divInt];rfl
theorem aE(x:kV)(y:kV)(p:Rat)(q:Rat)(hx:gZ x p 17179869184)(hy:gZ y q 17179869184):jR Tryz.prog 112 [(jJ x),(jJ y)] (.val (.int .i64 ((nB p q)))):=by
 refine uU Tryz.func112 ?_
 refine jB<|kx [(2,(.ref 0 0)),(3,(.ref 1 0))] [(0,some (bx (jJ x))),(1,some (bx (jJ y)))] (zN (vZ 0)<|zN (vZ 1)<|zM<|zZ) ?_
 refine jB<|kd [] [(0,some (bx (jJ (jO p)))),(1,some (bx (jJ (jO q))))] mo (wR (kR jS)<|wE (kB (mT x p hx))<|wR (kR jS)<|wE (kB (mT y q hy))<|wT (qM jS)<|wT (qM jS)<|wZ) ?_
 refine jB<|kd [(4,(vi (uX (p.num*(q.den:Int)) (q.num*(p.den:Int)))))] [] mo (wE (kK vP)<|wR (kR jZ)<|wE (kK vB)<|wR (kR jZ)<|wE (kB (s_mul (qR hx.ql) (qO hy.ql)))<|wE (kK vP)<|wR (kR jZ)<|wE (kK vB)<|wR (kR jZ)<|wE (kB (s_mul (qR hy.ql) (qO hx.ql)))<|wE (kB (s_compare (xX (k:=34359738368) (qR hx.ql) (qO hy.ql)) (xX (k:=34359738368) (qR hy.ql) (qO hx.ql))))<|wM<|wZ) ?_
 refine jE ⟨_,(.tmp (d:=(.val (.int .i64 ((uX (p.num*(q.den:Int)) (q.num*(p.den:Int))))))) rfl .nil),?_⟩
 rw[<- cmpQ_cross];rfl
theorem g_reduced(num den:kS)(a b:Int)(aJ:cB num a 68719476736)(eI:cB den b 68719476736)(hb:b≠0):jR Tryz.prog 70 [(jQ num),(jQ den)] (jJ (jO (Rat.divInt a b))):=by
 refine uU Tryz.func70 ?_
 refine jB<|kx [(2,(.ref 0 0)),(3,(.ref 1 0)),(4,(.ref 2 0))] [(0,some (bx (jQ num))),(1,some (bx (jQ den))),(2,some (bx (jJ uD)))] (zN (vZ 0)<|zN (vZ 1)<|zN (vC 2 qU uG)<|zZ) ?_
 refine jB<|kx [(5,(.ref 3 0))] [(3,some (bx (jQ (kH ((Int.gcd a b:Nat):Int)))))] (zR (kR jZ)<|zR (kR jZ)<|zE (kB (rs_gcd aJ eI))<|zN (vC 3 gN gM)<|zT (qM jZ)<|zZ) ?_
 refine jB<|jB<|kx [(17,(vb (decide ((qQ b)<0))))] [] (zR (kR jZ)<|zE (kB (rs_sign eI))<|zE gX<|zZ) ?_
 refine jF (b:=decide ((qQ b)<0)) rfl (fun h1=>?_) (fun h1=>?_)
 ·replace h1:=vN h1
  have hlt:=signI_lt.1 h1
  refine kx [] [(3,some (bx (jQ (kH (-(((Int.gcd a b:Nat):Int)))))))] (zR (kR jZ)<|zE (kB (rs_neg (mJ (k:=68719476736) aJ eI)))<|zT (qM jZ)<|zZ) ?_
  refine jB<|kx [(6,(.ref 4 0))] [(4,some (bx (jQ (kH (a.fdiv (-(((Int.gcd a b:Nat):Int)))))))),(5,none)] (zR (kR jZ)<|zR (kR jZ)<|zE (kB (rs_divide aJ (nY (mJ (k:=68719476736) aJ eI)) (by decide) (by decide) (by have:=gcd_ne (a:=a) hb;omega)))<|zM<|zE xU<|zE xU<|zE xU<|zN (vC 4 gN gM)<|zN (vC 5 gN gM)<|zT (qM jZ)<|zT (qM jZ)<|zM<|zZ) ?_
  refine jB<|kx [(9,(.ref 6 0))] [(6,some (bx (jQ (kH (b.fdiv (-(((Int.gcd a b:Nat):Int)))))))),(7,none)] (zR (kR jZ)<|zR (kR jZ)<|zE (kB (rs_divide eI (nY (mJ (k:=68719476736) aJ eI)) (by decide) (by decide) (by have:=gcd_ne (a:=a) hb;omega)))<|zM<|zE xU<|zE xU<|zE xU<|zN (vC 6 gN gM)<|zN (vC 7 gN gM)<|zT (qM jZ)<|zT (qM jZ)<|zM<|zZ) ?_
  refine jB<|kx [] [(2,some (bx (jJ (kV.mk (kH (a.fdiv (-(((Int.gcd a b:Nat):Int))))) (kH (b.fdiv (-(((Int.gcd a b:Nat):Int)))))))))] (zR (kR jZ)<|zR (kR jZ)<|zE (bC pl32 qU uG)<|zT (qM jS)<|zZ) ?_
  refine jE ⟨_,(kP (cs:=(bx (jJ (kV.mk (kH (a.fdiv (-(((Int.gcd a b:Nat):Int))))) (kH (b.fdiv (-(((Int.gcd a b:Nat):Int))))))))) (d:=(jJ (kV.mk (kH (a.fdiv (-(((Int.gcd a b:Nat):Int))))) (kH (b.fdiv (-(((Int.gcd a b:Nat):Int)))))))) rfl rfl jS rfl rfl .nil),?_⟩
  rw[<- red_neg2 hlt];rfl
 ·replace h1:=vX h1
  have hge:¬ b<0:=fun hh=>h1 (signI_lt.2 hh)
  refine jG<|jB<|kx [(6,(.ref 8 0))] [(8,some (bx (jQ (kH (a.fdiv (((Int.gcd a b:Nat):Int))))))),(9,none)] (zR (kR jZ)<|zR (kR jZ)<|zE (kB (rs_divide aJ (mJ (k:=68719476736) aJ eI) (by decide) (by decide) (by have:=gcd_ne (a:=a) hb;omega)))<|zM<|zE xU<|zE xU<|zE xU<|zN (vC 8 gN gM)<|zN (vC 9 gN gM)<|zT (qM jZ)<|zT (qM jZ)<|zM<|zZ) ?_
  refine jB<|kx [(9,(.ref 10 0))] [(10,some (bx (jQ (kH (b.fdiv (((Int.gcd a b:Nat):Int))))))),(11,none)] (zR (kR jZ)<|zR (kR jZ)<|zE (kB (rs_divide eI (mJ (k:=68719476736) aJ eI) (by decide) (by decide) (by have:=gcd_ne (a:=a) hb;omega)))<|zM<|zE xU<|zE xU<|zE xU<|zN (vC 10 gN gM)<|zN (vC 11 gN gM)<|zT (qM jZ)<|zT (qM jZ)<|zM<|zZ) ?_
  refine jB<|kx [] [(2,some (bx (jJ (kV.mk (kH (a.fdiv (((Int.gcd a b:Nat):Int)))) (kH (b.fdiv (((Int.gcd a b:Nat):Int))))))))] (zR (kR jZ)<|zR (kR jZ)<|zE (bC pl32 qU uG)<|zT (qM jS)<|zZ) ?_
  refine jE ⟨_,(kP (cs:=(bx (jJ (kV.mk (kH (a.fdiv (((Int.gcd a b:Nat):Int)))) (kH (b.fdiv (((Int.gcd a b:Nat):Int)))))))) (d:=(jJ (kV.mk (kH (a.fdiv (((Int.gcd a b:Nat):Int)))) (kH (b.fdiv (((Int.gcd a b:Nat):Int))))))) rfl rfl jS rfl rfl .nil),?_⟩
  rw[red_pos hge hb];rfl
theorem g_whole1(n:Int)(hlo:-9223372036854775808<=n:=by decide)(hhi:n<=9223372036854775807:=by decide):jR Tryz.prog 75 [(.val (.int .i64 (n)))] (jQ (kH n)):=by
 refine uU Tryz.func75 ?_
 refine jB<|kx [(2,(.ref 0 0))] [(0,some (bx (jQ (kS.mk false []))))] (zN (vC 0 gN gM)<|zZ) ?_
 refine jB<|kx [] [(0,some (bx (jQ (kH n))))] (zM<|zE (kB (r_of n (by omega) (by omega)))<|zT (qM jZ)<|zZ) ?_
 refine jE ⟨_,(kP (cs:=(bx (jQ (kH n)))) (d:=(jQ (kH n))) rfl rfl jZ rfl rfl .nil),?_⟩
 rfl
theorem g_whole(n:Int)(hlo:-9223372036854775808<=n:=by decide)(hhi:n<=9223372036854775807:=by decide):jR Tryz.prog 42 [(.val (.int .i64 (n)))] (jJ (jO ((n:Int):Rat))):=by
 refine uU Tryz.func42 ?_
 refine jB<|kx [(2,(.ref 0 0))] [(0,some (bx (jJ uD)))] (zN (vC 0 qU uG)<|zZ) ?_
 refine jB<|kx [] [(0,some (bx (jJ (kV.mk (kH n) (kH 1)))))] (zM<|zE (kB (g_whole1 n (by omega) (by omega)))<|zE (kB (g_whole1 1))<|zE (bC pl32 qU uG)<|zT (qM jS)<|zZ) ?_
 refine jE ⟨_,(kP (cs:=(bx (jJ (kV.mk (kH n) (kH 1))))) (d:=(jJ (kV.mk (kH n) (kH 1)))) rfl rfl jS rfl rfl .nil),?_⟩
 rfl
theorem aY(x:kV)(p:Rat)(hx:gZ x p 17179869184):jR Tryz.prog 53 [(jJ x)] (.val (.bool ((kL x)))):=by
 refine uU Tryz.func53 ?_
 refine jB<|kx [(1,(.ref 0 0))] [(0,some (bx (jJ x)))] (zN (vZ 0)<|zM<|zZ) ?_
 refine jB<|jB<|kx [(18,(vb ((!(uF x.num)||!(uF x.den))||decide ((qQ (jV x.den))<=0))))] [] ?_ ?_
 ·refine zE (kK vP)<|zR (kR jZ)<|zE (kB (r_valid x.num (Nat.le_trans (yF hx.n1).l (by decide))))<|zE mH<|zE (oV (vb (!(uF x.num))) (qA (by kernel_rfl)))<|?_
  rcases hb1:(!(uF x.num)) with _ | _
  ·refine zE (kK vB)<|zR (kR jZ)<|zE (kB (r_valid x.den (Nat.le_trans (yF hx.n2).l (by decide))))<|zE mH<|zE eM<|zE (oV (vb (false||!(uF x.den))) (qA (by kernel_rfl)))<|?_
   rcases hb2:(false||!(uF x.den)) with _ | _
   ·exact zE (kK vB)<|zR (kR jZ)<|zE (kB (rs_sign (yF hx.n2)))<|zE oLe<|zE eM<|zZ
   ·exact zK<|zK<|zK<|zK<|zE gU<|zZ
  ·exact zK<|zK<|zK<|zK<|zE gU<|zM<|zK<|zK<|zK<|zK<|zE gU<|zZ
 refine jF rfl (fun h3=>?_) (fun h3=>?_)
 ·refine jB<|kx [(2,(vb false))] [] (zM<|zZ) ?_
  refine jE ⟨_,(.tmp (d:=(.val (.bool (false)))) rfl .nil),?_⟩
  rw[validR_no h3];rfl
 ·refine jG<|jB<|kx [(2,(vb ((uX (((Int.gcd (jV x.num) (jV x.den):Nat):Int)) 1) == 0)))] [] (zE (kK vP)<|zR (kR jZ)<|zE (kK vB)<|zR (kR jZ)<|zE (kB (rs_gcd (yF hx.n1) (yF hx.n2)))<|zE (kB (g_whole1 1))<|zE (kB (rs_compare (mJ (k:=17179869184) (yF hx.n1) (yF hx.n2)) (iok_small (z:=1)) (by decide) (by decide)))<|zE xV<|zM<|zZ) ?_
  refine jE ⟨_,(.tmp (d:=(.val (.bool (((uX (((Int.gcd (jV x.num) (jV x.den):Nat):Int)) 1) == 0))))) rfl .nil),?_⟩
  rw[validR_yes h3];rfl
theorem fD(x:kV)(p:Rat)(hx:gZ x p 17179869184):jR Tryz.prog 69 [(jJ x)] (jJ (jO p)):=by
 refine uU Tryz.func69 ?_
 refine jB<|kx [(1,(.ref 0 0)),(2,(.ref 1 0))] [(0,some (bx (jJ x))),(1,some (bx (jJ uD)))] (zN (vZ 0)<|zN (vC 1 qU uG)<|zZ) ?_
 refine jB<|jB<|kx [(4,(vb (kL x)))] [] (zR (kR jS)<|zE (kB (aY x p hx))<|zZ) ?_
 refine jF (b:=(kL x)) rfl (fun h1=>?_) (fun h1=>?_)
 ·refine jB<|kx [] [(1,some (bx (jJ x)))] (zR (kR jS)<|zT (qM jS)<|zZ) ?_
  refine jE ⟨_,(kP (cs:=(bx (jJ x))) (d:=(jJ x)) rfl rfl jS rfl rfl .nil),?_⟩
  rw[<- hx.v,ofQ_toQ h1];rfl
 ·refine jG<|jB<|kx [] [(1,some (bx (jJ (jO ((0:Int):Rat)))))] (zE (kB (g_whole 0))<|zT (qM jS)<|zZ) ?_
  refine jE ⟨_,(kP (cs:=(bx (jJ (jO ((0:Int):Rat))))) (d:=(jJ (jO ((0:Int):Rat)))) rfl rfl jS rfl rfl .nil),?_⟩
  rw[<- hx.v,toQ_bad h1];rfl
theorem g_sign(x:kV)(p:Rat)(hx:gZ x p 17179869184):jR Tryz.prog 98 [(jJ x)] (.val (.int .i64 ((eA p)))):=by
 refine uU Tryz.func98 ?_
 refine jB<|kx [(1,(.ref 0 0))] [(0,some (bx (jJ x)))] (zN (vZ 0)<|zM<|zZ) ?_
 refine jB<|kx [(2,(vi (qQ p.num)))] [] (zR (kR jS)<|zE (kB (fD x p hx))<|zE (oFv ft32_0 jZ)<|zE (kB (rs_sign (qR hx.ql)))<|zM<|zZ) ?_
 refine jE ⟨_,(.tmp (d:=(.val (.int .i64 ((qQ p.num))))) rfl .nil),?_⟩
 rfl
theorem g_neg(x:kV)(p:Rat)(hx:gZ x p 17179869184):jR Tryz.prog 51 [(jJ x)] (jJ (jO (-p))):=by
 refine uU Tryz.func51 ?_
 refine jB<|kx [(1,(.ref 0 0)),(2,(.ref 1 0))] [(0,some (bx (jJ x))),(1,some (bx (jJ uD)))] (zN (vZ 0)<|zN (vC 1 qU uG)<|zZ) ?_
 refine jB<|kx [(3,(.ref 2 0))] [(2,some (bx (jJ (jO p))))] (zR (kR jS)<|zE (kB (fD x p hx))<|zN (vC 2 qU uG)<|zT (qM jS)<|zZ) ?_
 refine jB<|kd [] [(1,some (bx (jJ (kV.mk (kH (-p.num)) ((jO p).den)))))] mo (wE (kK vP)<|wR (kR jZ)<|wE (kB (rs_neg (qR hx.ql)))<|wE (kK vB)<|wR (kR jZ)<|wE (bC pl32 qU uG)<|wT (qM jS)<|wZ) ?_
 refine jE ⟨_,(kP (cs:=(bx (jJ (kV.mk (kH (-p.num)) ((jO p).den))))) (d:=(jJ (kV.mk (kH (-p.num)) ((jO p).den)))) rfl rfl jS rfl rfl .nil),?_⟩
 rfl
theorem g_add(x:kV)(y:kV)(p:Rat)(q:Rat)(hx:gZ x p 17179869184)(hy:gZ y q 17179869184):jR Tryz.prog 22 [(jJ x),(jJ y)] (jJ (jO (p+q))):=by
 refine uU Tryz.func22 ?_
 refine jB<|kx [(2,(.ref 0 0)),(3,(.ref 1 0)),(4,(.ref 2 0))] [(0,some (bx (jJ x))),(1,some (bx (jJ y))),(2,some (bx (jJ uD)))] (zN (vZ 0)<|zN (vZ 1)<|zN (vC 2 qU uG)<|zZ) ?_
 refine jB<|kx [(5,(.ref 3 0))] [(3,some (bx (jJ (jO p))))] (zR (kR jS)<|zE (kB (fD x p hx))<|zN (vC 3 qU uG)<|zT (qM jS)<|zZ) ?_
 refine jB<|kx [(6,(.ref 4 0))] [(4,some (bx (jJ (jO q))))] (zR (kR jS)<|zE (kB (fD y q hy))<|zN (vC 4 qU uG)<|zT (qM jS)<|zZ) ?_
 refine jB<|kd [] [(2,some (bx (jJ (jO (Rat.divInt ((p.num*(q.den:Int))+(q.num*(p.den:Int))) ((p.den:Int)*(q.den:Int)))))))] mo (wE (kK vP)<|wR (kR jZ)<|wE (kK vB)<|wR (kR jZ)<|wE (kB (rs_mul (qR hx.ql) (qO hy.ql)))<|wE (kK vP)<|wR (kR jZ)<|wE (kK vB)<|wR (kR jZ)<|wE (kB (rs_mul (qR hy.ql) (qO hx.ql)))<|wE (kB (rs_add (xX (k:=34359738368) (qR hx.ql) (qO hy.ql)) (xX (k:=34359738368) (qR hy.ql) (qO hx.ql)) (by decide) (by decide)))<|wE (kK vB)<|wR (kR jZ)<|wE (kK vB)<|wR (kR jZ)<|wE (kB (rs_mul (qO hx.ql) (qO hy.ql)))<|wE (kB (g_reduced (kH ((p.num*(q.den:Int))+(q.num*(p.den:Int)))) (kH ((p.den:Int)*(q.den:Int))) ((p.num*(q.den:Int))+(q.num*(p.den:Int))) ((p.den:Int)*(q.den:Int)) (mM (iok_add (k:=34359738369) (xX (k:=34359738368) (qR hx.ql) (qO hy.ql)) (xX (k:=34359738368) (qR hy.ql) (qO hx.ql)))) (mM (xX (k:=34359738368) (qO hx.ql) (qO hy.ql))) (mul_ne (dW _) (dW _))))<|wT (qM jS)<|wZ) ?_
 refine jE ⟨_,(kP (cs:=(bx (jJ (jO (Rat.divInt ((p.num*(q.den:Int))+(q.num*(p.den:Int))) ((p.den:Int)*(q.den:Int))))))) (d:=(jJ (jO (Rat.divInt ((p.num*(q.den:Int))+(q.num*(p.den:Int))) ((p.den:Int)*(q.den:Int)))))) rfl rfl jS rfl rfl .nil),?_⟩
 rw[add_divInt];rfl
theorem g_sub(x:kV)(y:kV)(p:Rat)(q:Rat)(hx:gZ x p 17179869184)(hy:gZ y q 17179869184):jR Tryz.prog 34 [(jJ x),(jJ y)] (jJ (jO (p-q))):=by
 refine uU Tryz.func34 ?_
 refine jB<|kx [(2,(.ref 0 0)),(3,(.ref 1 0)),(4,(.ref 2 0))] [(0,some (bx (jJ x))),(1,some (bx (jJ y))),(2,some (bx (jJ uD)))] (zN (vZ 0)<|zN (vZ 1)<|zN (vC 2 qU uG)<|zZ) ?_
 refine jB<|kd [] [(2,some (bx (jJ (jO (p+(-q))))))] mo (wR (kR jS)<|wR (kR jS)<|wE (kB (g_neg y q hy))<|wE (kB (g_add x (jO (-q)) p (-q) hx (kF (ql_neg hy.ql))))<|wT (qM jS)<|wZ) ?_
 refine jE ⟨_,(kP (cs:=(bx (jJ (jO (p+(-q)))))) (d:=(jJ (jO (p+(-q))))) rfl rfl jS rfl rfl .nil),?_⟩
 rw[Rat.sub_eq_add_neg];rfl
theorem g_mul(x:kV)(y:kV)(p:Rat)(q:Rat)(hx:gZ x p 17179869184)(hy:gZ y q 17179869184):jR Tryz.prog 23 [(jJ x),(jJ y)] (jJ (jO (p*q))):=by
 refine uU Tryz.func23 ?_
 refine jB<|kx [(2,(.ref 0 0)),(3,(.ref 1 0)),(4,(.ref 2 0))] [(0,some (bx (jJ x))),(1,some (bx (jJ y))),(2,some (bx (jJ uD)))] (zN (vZ 0)<|zN (vZ 1)<|zN (vC 2 qU uG)<|zZ) ?_
 refine jB<|kx [(5,(.ref 3 0))] [(3,some (bx (jJ (jO p))))] (zR (kR jS)<|zE (kB (fD x p hx))<|zN (vC 3 qU uG)<|zT (qM jS)<|zZ) ?_
 refine jB<|kx [(6,(.ref 4 0))] [(4,some (bx (jJ (jO q))))] (zR (kR jS)<|zE (kB (fD y q hy))<|zN (vC 4 qU uG)<|zT (qM jS)<|zZ) ?_
 refine jB<|kd [] [(2,some (bx (jJ (jO (Rat.divInt (p.num*q.num) ((p.den:Int)*(q.den:Int)))))))] mo (wE (kK vP)<|wR (kR jZ)<|wE (kK vP)<|wR (kR jZ)<|wE (kB (rs_mul (qR hx.ql) (qR hy.ql)))<|wE (kK vB)<|wR (kR jZ)<|wE (kK vB)<|wR (kR jZ)<|wE (kB (rs_mul (qO hx.ql) (qO hy.ql)))<|wE (kB (g_reduced (kH (p.num*q.num)) (kH ((p.den:Int)*(q.den:Int))) (p.num*q.num) ((p.den:Int)*(q.den:Int)) (mM (xX (k:=34359738368) (qR hx.ql) (qR hy.ql))) (mM (xX (k:=34359738368) (qO hx.ql) (qO hy.ql))) (mul_ne (dW _) (dW _))))<|wT (qM jS)<|wZ) ?_
 refine jE ⟨_,(kP (cs:=(bx (jJ (jO (Rat.divInt (p.num*q.num) ((p.den:Int)*(q.den:Int))))))) (d:=(jJ (jO (Rat.divInt (p.num*q.num) ((p.den:Int)*(q.den:Int)))))) rfl rfl jS rfl rfl .nil),?_⟩
 rw[mul_divInt];rfl
theorem g_new(num den:kS)(a b:Int)(aJ:cB num a 68719476736)(eI:cB den b 68719476736):jR Tryz.prog 74 [(jQ num),(jQ den)] (.tup [(jJ (newR a b)),(.val (.int .i64 ((newC b))))]):=by
 refine uU Tryz.func74 ?_
 refine jB<|kx [(2,(.ref 0 0)),(3,(.ref 1 0)),(4,(.ref 2 0))] [(0,some (bx (jQ num))),(1,some (bx (jQ den))),(2,some (bx (jJ uD)))] (zN (vZ 0)<|zN (vZ 1)<|zN (vC 2 qU uG)<|zM<|zZ) ?_
 refine jB<|jB<|kx [(8,(vb ((qQ b) == 0)))] [] (zR (kR jZ)<|zE (kB (rs_sign eI))<|zE xV<|zZ) ?_
 refine jF (b:=((qQ b) == 0)) rfl (fun h1=>?_) (fun h1=>?_)
 ·replace h1:=eq_of_beq h1
  have hb:b=0:=sign0 h1
  refine jB<|kx [(5,(kG 14))] [(2,some (bx (jJ uD)))] (zE (bC pl32 qU uG)<|zT (qM jS)<|zM<|zZ) ?_
  refine jE ⟨_,(kP (cs:=(bx (jJ uD))) (d:=(jJ uD)) rfl rfl jS rfl rfl (.tmp (d:=(.val (.int .i64 (14)))) rfl .nil)),?_⟩
  rw[hb];rfl
 ·replace h1:=ne_of_beq_false h1
  have hb:b≠0:=fun hh=>h1 (by rw[hh];rfl)
  refine jG<|jB<|kx [(5,(kG 0))] [(2,some (bx (jJ (jO (Rat.divInt a b)))))] (zR (kR jZ)<|zR (kR jZ)<|zE (kB (g_reduced num den a b aJ eI (by assumption)))<|zT (qM jS)<|zM<|zZ) ?_
  refine jE ⟨_,(kP (cs:=(bx (jJ (jO (Rat.divInt a b))))) (d:=(jJ (jO (Rat.divInt a b)))) rfl rfl jS rfl rfl (.tmp (d:=(.val (.int .i64 (0)))) rfl .nil)),?_⟩
  unfold newR newC;rw[if_neg hb,if_neg hb];rfl
theorem g_divide(x:kV)(y:kV)(p:Rat)(q:Rat)(hx:gZ x p 17179869184)(hy:gZ y q 17179869184):jR Tryz.prog 52 [(jJ x),(jJ y)] (.tup [(jJ (divR p q)),(.val (.int .i64 ((divC q))))]):=by
 refine uU Tryz.func52 ?_
 refine jB<|kx [(2,(.ref 0 0)),(3,(.ref 1 0)),(4,(.ref 2 0))] [(0,some (bx (jJ x))),(1,some (bx (jJ y))),(2,some (bx (jJ uD)))] (zN (vZ 0)<|zN (vZ 1)<|zN (vC 2 qU uG)<|zM<|zZ) ?_
 refine jB<|kx [(6,(.ref 3 0))] [(3,some (bx (jJ (jO p))))] (zR (kR jS)<|zE (kB (fD x p hx))<|zN (vC 3 qU uG)<|zT (qM jS)<|zZ) ?_
 refine jB<|kx [(7,(.ref 4 0))] [(4,some (bx (jJ (jO q))))] (zR (kR jS)<|zE (kB (fD y q hy))<|zN (vC 4 qU uG)<|zT (qM jS)<|zZ) ?_
 refine jB<|kd [(5,(vi (newC ((p.den:Int)*q.num))))] [(2,some (bx (jJ (newR (p.num*(q.den:Int)) ((p.den:Int)*q.num)))))] mo (wE (kK vP)<|wR (kR jZ)<|wE (kK vB)<|wR (kR jZ)<|wE (kB (rs_mul (qR hx.ql) (qO hy.ql)))<|wE (kK vB)<|wR (kR jZ)<|wE (kK vP)<|wR (kR jZ)<|wE (kB (rs_mul (qO hx.ql) (qR hy.ql)))<|wE (kB (g_new (kH (p.num*(q.den:Int))) (kH ((p.den:Int)*q.num)) (p.num*(q.den:Int)) ((p.den:Int)*q.num) (mM (xX (k:=34359738368) (qR hx.ql) (qO hy.ql))) (mM (xX (k:=34359738368) (qO hx.ql) (qR hy.ql)))))<|wE xU<|wE xU<|wT (qM jS)<|wM<|wZ) ?_
 refine jE ⟨_,(kP (cs:=(bx (jJ (newR (p.num*(q.den:Int)) ((p.den:Int)*q.num))))) (d:=(jJ (newR (p.num*(q.den:Int)) ((p.den:Int)*q.num)))) rfl rfl jS rfl rfl (.tmp (d:=(.val (.int .i64 ((newC ((p.den:Int)*q.num)))))) rfl .nil)),?_⟩
 rw[newR_div,newC_div];rfl
theorem g_compare(x:kV)(y:kV)(p:Rat)(q:Rat)(hx:gZ x p 4294967296)(hy:gZ y q 4294967296):jR Tryz.prog 54 [(jJ x),(jJ y)] (.val (.int .i64 ((nB p q)))):=by
 refine uU Tryz.func54 ?_
 refine jB<|kx [(2,(.ref 0 0)),(3,(.ref 1 0))] [(0,some (bx (jJ x))),(1,some (bx (jJ y)))] (zN (vZ 0)<|zN (vZ 1)<|zM<|zZ) ?_
 refine jB<|kx [(4,(vi (eA (p-q))))] [] (zR (kR jS)<|zR (kR jS)<|zE (kB (g_sub x y p q (jY hx) (jY hy)))<|zE (kB (g_sign (jO (p-q)) (p-q) (jY (kF (ql_sub (k:=8589934593) hx.ql hy.ql (by decide))))))<|zM<|zZ) ?_
 refine jE ⟨_,(.tmp (d:=(.val (.int .i64 ((eA (p-q)))))) rfl .nil),?_⟩
 rw[<- signQ_sub];rfl
theorem zP:uQ Tryz.prog 42 0=some 0:=by kernel_rfl
theorem zD:uQ Tryz.prog 42 1=some 4:=by kernel_rfl
theorem g_same(x:kV)(y:kV)(p:Rat)(q:Rat)(hx:gZ x p 4294967296)(hy:gZ y q 4294967296):jR Tryz.prog 14 [(jJ x),(jJ y)] (.val (.bool ((mZ x y)))):=by
 refine uU Tryz.func14 ?_
 refine jB<|kx [(2,(.ref 0 0)),(3,(.ref 1 0))] [(0,some (bx (jJ x))),(1,some (bx (jJ y)))] (zN (vZ 0)<|zN (vZ 1)<|zM<|zZ) ?_
 refine jB<|kx [(4,(vb (((kL x)&&(kL y))&&((nB p q) == 0))))] [] ?_ ?_
 ·refine zR (kR jS)<|zE (kB (aY x p (jY hx)))<|zE (oV (vb (kL x)) (qA (by kernel_rfl)))<|?_
  rcases hb1:(kL x) with _ | _
  ·exact zK<|zK<|zE yS<|zM<|zK<|zK<|zK<|zK<|zE yS<|zM<|zZ
  ·refine zR (kR jS)<|zE (kB (aY y q (jY hy)))<|zE eK<|zE (oV (vb (true&&(kL y))) (qA (by kernel_rfl)))<|?_
   rcases hb2:(true&&(kL y)) with _ | _
   ·exact zK<|zK<|zK<|zK<|zE yS<|zM<|zZ
   ·exact zR (kR jS)<|zR (kR jS)<|zE (kB (g_compare x y p q hx hy))<|zE xV<|zE eK<|zM<|zZ
 refine jE ⟨_,(.tmp (d:=(.val (.bool ((((kL x)&&(kL y))&&((nB p q) == 0)))))) rfl .nil),?_⟩
 unfold mZ
 rw[<- sameR_eq,hx.v,hy.v];rfl
theorem g_digits(x:kV)(p:Rat)(hx:gZ x p 140737488355328):jR Tryz.prog 36 [(jJ x)] (.val (.int .i64 ((((digR x):Nat):Int)))):=by
 have h1:=hx.n1
 have h2:=hx.n2
 refine uU Tryz.func36 ?_
 refine jB<|kx [(1,(.ref 0 0))] [(0,some (bx (jJ x)))] (zN (vZ 0)<|zM<|zZ) ?_
 refine jB<|kx [(2,(kG (x.num.gs.length+x.den.gs.length)))] [] (zE (kK vP)<|zE (kK uO)<|zR (qI xG)<|zE (zL kD)<|zE (kK vB)<|zE (kK uO)<|zR (qI xG)<|zE (zL kD)<|zE (vY (x.num.gs.length+x.den.gs.length))<|zM<|zZ) ?_
 refine jE ⟨_,(.tmp (d:=(.val (.int .i64 ((((x.num.gs.length+x.den.gs.length):Nat):Int))))) rfl .nil),?_⟩
 rfl
theorem g_samerange(a b:kJ)(ha:GOk 4294967296 a)(hb:GOk 4294967296 b):jR Tryz.prog 81 [(jN a),(jN b)] (.val (.bool ((mZ a.lo b.lo&&mZ a.hi b.hi)))):=by
 refine uU Tryz.func81 ?_
 refine jB<|kx [(2,(.ref 0 0)),(3,(.ref 1 0))] [(0,some (bx (jN a))),(1,some (bx (jN b)))] (zN (vZ 0)<|zN (vZ 1)<|zM<|zZ) ?_
 refine jB<|kx [(4,(vb ((mZ a.lo b.lo)&&(mZ a.hi b.hi))))] [] ?_ ?_
 ·refine zE (kK zP)<|zR (kR jS)<|zE (kK zP)<|zR (kR jS)<|zE (kB (g_same a.lo b.lo (vQ a.lo) (vQ b.lo) ha.1 hb.1))<|zE (oV (vb (mZ a.lo b.lo)) (qA (by kernel_rfl)))<|?_
  rcases hb1:(mZ a.lo b.lo) with _ | _
  ·exact zK<|zK<|zK<|zK<|zK<|zE yS<|zM<|zZ
  ·exact zE (kK zD)<|zR (kR jS)<|zE (kK zD)<|zR (kR jS)<|zE (kB (g_same a.hi b.hi (vQ a.hi) (vQ b.hi) ha.2 hb.2))<|zE eK<|zM<|zZ
 refine jE ⟨_,(.tmp (d:=(.val (.bool (((mZ a.lo b.lo)&&(mZ a.hi b.hi)))))) rfl .nil),?_⟩
 rfl
end Go.Proofs.YtckccjhflbljgaaGreatDoor
