/- Part 25 of a proof: rules, plain facts, and functions walked. -/
import Derived.Test.YtckccjhflbljgaaGreatDoorM24
set_option linter.all false
set_option maxRecDepth 4000
namespace Go.Proofs.YtckccjhflbljgaaGreatDoor
open Go.Fid
theorem s_neg{x:kW}{a:Int}{m:Nat}(hx:dB x a m)(hm:m<=274877906944:=by decide):jS Tryz.prog 89 [(jR x)] (jR (kM (-a))):=by
 obtain ⟨rfl,hx'⟩:=hx
 exact t_neg x (by omega)
theorem s_sign{x:kW}{a:Int}{m:Nat}(hx:dB x a m)(hm:m<=274877906944:=by decide):jS Tryz.prog 84 [(jR x)] (.val (.int .i64 (qV a))):=by
 obtain ⟨rfl,hx'⟩:=hx
 exact t_sign x (by omega)
theorem s_add{x y:kW}{a b:Int}{m n:Nat}(hx:dB x a m)(hy:dB y b n)(hm:m<=274877906944)(hn:n<=274877906944):jS Tryz.prog 92 [(jR x),(jR y)] (jR (kM (a+b))):=by
 obtain ⟨rfl,hx'⟩:=hx;obtain ⟨rfl,hy'⟩:=hy
 exact t_add x y (by omega) (by omega)
theorem s_mul{x y:kW}{a b:Int}{m n:Nat}(hx:dB x a m)(hy:dB y b n)(hm:m<=274877906944:=by decide)(hn:n<=274877906944:=by decide):jS Tryz.prog 91 [(jR x),(jR y)] (jR (kM (a*b))):=by
 obtain ⟨rfl,hx'⟩:=hx;obtain ⟨rfl,hy'⟩:=hy
 exact t_mul x y (by omega) (by omega)
theorem s_compare{x y:kW}{a b:Int}{m n:Nat}(hx:dB x a m)(hy:dB y b n)(hm:m<=274877906944:=by decide)(hn:n<=274877906944:=by decide):jS Tryz.prog 85 [(jR x),(jR y)] (.val (.int .i64 (vD a b))):=by
 obtain ⟨rfl,hx'⟩:=hx;obtain ⟨rfl,hy'⟩:=hy
 exact t_compareI x y (by omega) (by omega)
theorem s_gcd{x y:kW}{a b:Int}{m n:Nat}(hx:dB x a m)(hy:dB y b n)(hm:m<=274877906944:=by decide)(hn:n<=274877906944:=by decide):jS Tryz.prog 86 [(jR x),(jR y)] (jR (kM ((Int.gcd a b:Nat):Int))):=by
 obtain ⟨rfl,hx'⟩:=hx;obtain ⟨rfl,hy'⟩:=hy
 exact t_gcdI x y (by omega) (by omega)
theorem s_divide{x y:kW}{a b:Int}{m n:Nat}(hx:dB x a m)(hy:dB y b n)(hm:m<=274877906944)(hn:n<=274877906944)(hb:b≠0):jS Tryz.prog 160 [(jR x),(jR y)] (.tup [(jR (kM (a.fdiv b))),(jR (kM (a.fmod b))),(.val (.int .i64 0))]):=by
 obtain ⟨rfl,hx'⟩:=hx;obtain ⟨rfl,hy'⟩:=hy
 exact t_divideI x y (by omega) (by omega) hb
theorem rs_neg{x:kW}{a:Int}{m:Nat}(hx:dB x a m)(hm:m<=274877906944:=by decide):jS Tryz.prog 93 [(jR x)] (jR (kM (-a))):=by
 obtain ⟨rfl,hx'⟩:=hx
 exact r_neg x (by omega)
theorem rs_sign{x:kW}{a:Int}{m:Nat}(hx:dB x a m)(hm:m<=274877906944:=by decide):jS Tryz.prog 95 [(jR x)] (.val (.int .i64 (qV a))):=by
 obtain ⟨rfl,hx'⟩:=hx
 exact r_sign x (by omega)
theorem rs_add{x y:kW}{a b:Int}{m n:Nat}(hx:dB x a m)(hy:dB y b n)(hm:m<=274877906944)(hn:n<=274877906944):jS Tryz.prog 71 [(jR x),(jR y)] (jR (kM (a+b))):=by
 obtain ⟨rfl,hx'⟩:=hx;obtain ⟨rfl,hy'⟩:=hy
 exact r_add x y (by omega) (by omega)
theorem rs_mul{x y:kW}{a b:Int}{m n:Nat}(hx:dB x a m)(hy:dB y b n)(hm:m<=274877906944:=by decide)(hn:n<=274877906944:=by decide):jS Tryz.prog 72 [(jR x),(jR y)] (jR (kM (a*b))):=by
 obtain ⟨rfl,hx'⟩:=hx;obtain ⟨rfl,hy'⟩:=hy
 exact r_mul x y (by omega) (by omega)
theorem rs_compare{x y:kW}{a b:Int}{m n:Nat}(hx:dB x a m)(hy:dB y b n)(hm:m<=274877906944)(hn:n<=274877906944):jS Tryz.prog 96 [(jR x),(jR y)] (.val (.int .i64 (vD a b))):=by
 obtain ⟨rfl,hx'⟩:=hx;obtain ⟨rfl,hy'⟩:=hy
 exact r_compare x y (by omega) (by omega)
theorem rs_gcd{x y:kW}{a b:Int}{m n:Nat}(hx:dB x a m)(hy:dB y b n)(hm:m<=274877906944:=by decide)(hn:n<=274877906944:=by decide):jS Tryz.prog 97 [(jR x),(jR y)] (jR (kM ((Int.gcd a b:Nat):Int))):=by
 obtain ⟨rfl,hx'⟩:=hx;obtain ⟨rfl,hy'⟩:=hy
 exact r_gcd x y (by omega) (by omega)
theorem rs_divide{x y:kW}{a b:Int}{m n:Nat}(hx:dB x a m)(hy:dB y b n)(hm:m<=274877906944)(hn:n<=274877906944)(hb:b≠0):jS Tryz.prog 113 [(jR x),(jR y)] (.tup [(jR (kM (a.fdiv b))),(jR (kM (a.fmod b))),(.val (.int .i64 0))]):=by
 obtain ⟨rfl,hx'⟩:=hx;obtain ⟨rfl,hy'⟩:=hy
 exact r_divide x y (by omega) (by omega) hb
theorem zG:uY Tryz.prog 32 0=some 0:=by kernel_rfl
theorem xF:uY Tryz.prog 32 1=some 2:=by kernel_rfl
theorem ft32_0:iV Tryz.prog 32 0=some (0,30):=by kernel_rfl
theorem pl32:dX Tryz.prog 32=some [(0,2),(2,2)]:=by kernel_rfl
theorem jW:kZ Tryz.prog 32=some (true,4):=by kernel_rfl
theorem uV:xB Tryz.prog 32=some [.bool false,.slice none 0 0,.bool false,.slice none 0 0]:=by kernel_rfl
theorem vL:dR [.bool false,.slice none 0 0,.bool false,.slice none 0 0] [.val (.bool false),.sl 107 1 [],.val (.bool false),.sl 107 1 []]:=by simp [dR,Value.oneCell']
theorem f_reduced(num den:kW)(a b:Int)(iD:dB num a 68719476736)(fV:dB den b 68719476736)(hb:b≠0):jS Tryz.prog 90 [(jR num),(jR den)] (jK (jN (Rat.divInt a b))):=by
 refine uW Tryz.func90 ?_
 refine jB<|kx [(2,(.ref 0 0)),(3,(.ref 1 0)),(4,(.ref 2 0))] [(0,some (bx (jR num))),(1,some (bx (jR den))),(2,some (bx (jK kO)))] (zN (vX 0)<|zN (vX 1)<|zN (uJ 2 uV vL)<|zZ) ?_
 refine jB<|jB<|kx [(8,(vb (decide ((qV b)<0))))] [] (zR (kR kD)<|zE (kB (s_sign fV))<|zE yY<|zZ) ?_
 refine jF (b:=decide ((qV b)<0)) rfl (fun h1=>?_) (fun h1=>?_)
 ·replace h1:=vT h1
  have hlt:=signI_lt.1 h1
  have hb2:-b≠0:=by omega
  refine kd [] [(0,some (bx (jR (kM (-a))))),(1,some (bx (jR (kM (-b)))))] mo (wR (kR kD)<|wE (kB (s_neg iD))<|wR (kR kD)<|wE (kB (s_neg fV))<|wT (qM kD)<|wT (qM kD)<|wZ) ?_
  refine jB<|kx [(5,(.ref 3 0))] [(3,some (bx (jR (kM ((Int.gcd (-a) (-b):Nat):Int)))))] (zR (kR kD)<|zR (kR kD)<|zE (kB (s_gcd (mZ iD) (mZ fV)))<|zN (uJ 3 nM nN)<|zT (qM kD)<|zZ) ?_
  refine jB<|kx [] [(0,some (bx (jR (kM ((-a).fdiv (((Int.gcd (-a) (-b):Nat):Int)))))))] (zR (kR kD)<|zR (kR kD)<|zE (kB (s_divide (mZ iD) (cU (k:=68719476736) (mZ iD) (mZ fV)) (by decide) (by decide) (gcd_ne (by omega))))<|zM<|zE zJ<|zE zJ<|zE zJ<|zT (qM kD)<|zZ) ?_
  refine jB<|kx [] [(1,some (bx (jR (kM ((-b).fdiv (((Int.gcd (-a) (-b):Nat):Int)))))))] (zR (kR kD)<|zR (kR kD)<|zE (kB (s_divide (mZ fV) (cU (k:=68719476736) (mZ iD) (mZ fV)) (by decide) (by decide) (gcd_ne (by omega))))<|zM<|zE zJ<|zE zJ<|zE zJ<|zT (qM kD)<|zZ) ?_
  refine jB<|kx [] [(2,some (bx (jK (qE.mk (kM ((-a).fdiv (((Int.gcd (-a) (-b):Nat):Int)))) (kM ((-b).fdiv (((Int.gcd (-a) (-b):Nat):Int))))))))] (zR (kR kD)<|zR (kR kD)<|zE (bH pl32 uV vL)<|zT (qM jW)<|zZ) ?_
  refine jD ⟨_,(kS (cs:=(bx (jK (qE.mk (kM ((-a).fdiv (((Int.gcd (-a) (-b):Nat):Int)))) (kM ((-b).fdiv (((Int.gcd (-a) (-b):Nat):Int)))))))) (d:=(jK (qE.mk (kM ((-a).fdiv (((Int.gcd (-a) (-b):Nat):Int)))) (kM ((-b).fdiv (((Int.gcd (-a) (-b):Nat):Int))))))) rfl rfl jW rfl rfl .nil),?_⟩
  rw[red_neg hlt];rfl
 ·replace h1:=xC h1
  have hge:¬ b<0:=fun hh=>h1 (signI_lt.2 hh)
  refine jE<|jB<|kx [(5,(.ref 4 0))] [(4,some (bx (jR (kM ((Int.gcd a b:Nat):Int)))))] (zR (kR kD)<|zR (kR kD)<|zE (kB (s_gcd iD fV))<|zN (uJ 4 nM nN)<|zT (qM kD)<|zZ) ?_
  refine jB<|kx [] [(0,some (bx (jR (kM (a.fdiv (((Int.gcd a b:Nat):Int)))))))] (zR (kR kD)<|zR (kR kD)<|zE (kB (s_divide iD (cU (k:=68719476736) iD fV) (by decide) (by decide) (gcd_ne (by omega))))<|zM<|zE zJ<|zE zJ<|zE zJ<|zT (qM kD)<|zZ) ?_
  refine jB<|kx [] [(1,some (bx (jR (kM (b.fdiv (((Int.gcd a b:Nat):Int)))))))] (zR (kR kD)<|zR (kR kD)<|zE (kB (s_divide fV (cU (k:=68719476736) iD fV) (by decide) (by decide) (gcd_ne (by omega))))<|zM<|zE zJ<|zE zJ<|zE zJ<|zT (qM kD)<|zZ) ?_
  refine jB<|kx [] [(2,some (bx (jK (qE.mk (kM (a.fdiv (((Int.gcd a b:Nat):Int)))) (kM (b.fdiv (((Int.gcd a b:Nat):Int))))))))] (zR (kR kD)<|zR (kR kD)<|zE (bH pl32 uV vL)<|zT (qM jW)<|zZ) ?_
  refine jD ⟨_,(kS (cs:=(bx (jK (qE.mk (kM (a.fdiv (((Int.gcd a b:Nat):Int)))) (kM (b.fdiv (((Int.gcd a b:Nat):Int)))))))) (d:=(jK (qE.mk (kM (a.fdiv (((Int.gcd a b:Nat):Int)))) (kM (b.fdiv (((Int.gcd a b:Nat):Int))))))) rfl rfl jW rfl rfl .nil),?_⟩
  rw[red_pos hge hb];rfl
theorem aI(n:Int)(hlo:-9223372036854775808<=n:=by decide)(hhi:n<=9223372036854775807:=by decide):jS Tryz.prog 62 [(.val (.int .i64 (n)))] (jK (jN ((n:Int):Rat))):=by
 refine uW Tryz.func62 ?_
 refine jB<|kx [(2,(.ref 0 0))] [(0,some (bx (jK kO)))] (zN (uJ 0 uV vL)<|zZ) ?_
 refine jB<|kx [] [(0,some (bx (jK (qE.mk (kM n) (kM 1)))))] (zM<|zE (kB (t_of n (by omega) (by omega)))<|zE (kB (t_of 1))<|zE (bH pl32 uV vL)<|zT (qM jW)<|zZ) ?_
 refine jD ⟨_,(kS (cs:=(bx (jK (qE.mk (kM n) (kM 1))))) (d:=(jK (qE.mk (kM n) (kM 1)))) rfl rfl jW rfl rfl .nil),?_⟩
 rfl
theorem f_valid(x:qE)(p:Rat)(hx:nL x p 17179869184):jS Tryz.prog 45 [(jK x)] (.val (.bool ((kX x)))):=by
 refine uW Tryz.func45 ?_
 refine jB<|kx [(1,(.ref 0 0))] [(0,some (bx (jK x)))] (zN (vX 0)<|zM<|zZ) ?_
 refine jB<|jB<|kx [(18,(vb ((!(uL x.num)||!(uL x.den))||decide ((qV (jX x.den))<=0))))] [] ?_ ?_
 ·refine zE (kN zG)<|zR (kR kD)<|zE (kB (t_valid x.num (Nat.le_trans (yW hx.n1).l (by decide))))<|zE cC<|zE (oV (vb (!(uL x.num))) (qA (by kernel_rfl)))<|?_
  rcases hb1:(!(uL x.num)) with _ | _
  ·refine zE (kN xF)<|zR (kR kD)<|zE (kB (t_valid x.den (Nat.le_trans (yW hx.n2).l (by decide))))<|zE cC<|zE aD<|zE (oV (vb (false||!(uL x.den))) (qA (by kernel_rfl)))<|?_
   rcases hb2:(false||!(uL x.den)) with _ | _
   ·exact zE (kN xF)<|zR (kR kD)<|zE (kB (s_sign (yW hx.n2)))<|zE oLe<|zE aD<|zZ
   ·exact zK<|zK<|zK<|zK<|zE nT<|zZ
  ·exact zK<|zK<|zK<|zK<|zE nT<|zM<|zK<|zK<|zK<|zK<|zE nT<|zZ
 refine jF rfl (fun h3=>?_) (fun h3=>?_)
 ·refine jB<|kx [(2,(vb false))] [] (zM<|zZ) ?_
  refine jD ⟨_,(.tmp (d:=(.val (.bool (false)))) rfl .nil),?_⟩
  rw[validR_no h3];rfl
 ·refine jE<|jB<|kx [(2,(vb ((vD (((Int.gcd (jX x.num) (jX x.den):Nat):Int)) 1) == 0)))] [] (zE (kN zG)<|zR (kR kD)<|zE (kN xF)<|zR (kR kD)<|zE (kB (s_gcd (yW hx.n1) (yW hx.n2)))<|zE (kB (t_of 1))<|zE (kB (s_compare (cU (k:=17179869184) (yW hx.n1) (yW hx.n2)) (iok_small (z:=1))))<|zE yP<|zM<|zZ) ?_
  refine jD ⟨_,(.tmp (d:=(.val (.bool (((vD (((Int.gcd (jX x.num) (jX x.den):Nat):Int)) 1) == 0))))) rfl .nil),?_⟩
  rw[validR_yes h3];rfl
theorem f_copied(x:qE)(p:Rat)(hx:nL x p 17179869184):jS Tryz.prog 159 [(jK x)] (jK (qE.mk (kM (-(-jX x.num))) (kM (-(-jX x.den))))):=by
 refine uW Tryz.func159 ?_
 refine jB<|kx [(1,(.ref 0 0)),(2,(.ref 1 0))] [(0,some (bx (jK x))),(1,some (bx (jK kO)))] (zN (vX 0)<|zN (uJ 1 uV vL)<|zZ) ?_
 refine jB<|kd [] [(1,some (bx (jK (qE.mk (kM (-(-(jX x.num)))) (kM (-(-(jX x.den))))))))] mo (wE (kN zG)<|wR (kR kD)<|wE (kB (s_neg (yW hx.n1)))<|wE (kB (s_neg (mZ (yW hx.n1))))<|wE (kN xF)<|wR (kR kD)<|wE (kB (s_neg (yW hx.n2)))<|wE (kB (s_neg (mZ (yW hx.n2))))<|wE (bH pl32 uV vL)<|wT (qM jW)<|wZ) ?_
 refine jD ⟨_,(kS (cs:=(bx (jK (qE.mk (kM (-(-(jX x.num)))) (kM (-(-(jX x.den)))))))) (d:=(jK (qE.mk (kM (-(-(jX x.num)))) (kM (-(-(jX x.den))))))) rfl rfl jW rfl rfl .nil),?_⟩
 rfl
theorem cT(x:qE)(p:Rat)(hx:nL x p 17179869184):jS Tryz.prog 88 [(jK x)] (jK (jN p)):=by
 refine uW Tryz.func88 ?_
 refine jB<|kx [(1,(.ref 0 0)),(2,(.ref 1 0))] [(0,some (bx (jK x))),(1,some (bx (jK kO)))] (zN (vX 0)<|zN (uJ 1 uV vL)<|zZ) ?_
 refine jB<|jB<|kx [(4,(vb (kX x)))] [] (zR (kR jW)<|zE (kB (f_valid x p hx))<|zZ) ?_
 refine jF (b:=(kX x)) rfl (fun h1=>?_) (fun h1=>?_)
 ·refine jB<|kx [] [(1,some (bx (jK (qE.mk (kM (-(-jX x.num))) (kM (-(-jX x.den)))))))] (zR (kR jW)<|zE (kB (f_copied x p hx))<|zT (qM jW)<|zZ) ?_
  refine jD ⟨_,(kS (cs:=(bx (jK (qE.mk (kM (-(-jX x.num))) (kM (-(-jX x.den))))))) (d:=(jK (qE.mk (kM (-(-jX x.num))) (kM (-(-jX x.den)))))) rfl rfl jW rfl rfl .nil),?_⟩
  rw[<- hx.v,<- copied_eq h1];rfl
 ·refine jE<|jB<|kx [] [(1,some (bx (jK (jN ((0:Int):Rat)))))] (zE (kB (aI 0))<|zT (qM jW)<|zZ) ?_
  refine jD ⟨_,(kS (cs:=(bx (jK (jN ((0:Int):Rat))))) (d:=(jK (jN ((0:Int):Rat)))) rfl rfl jW rfl rfl .nil),?_⟩
  rw[<- hx.v,toQ_bad h1];rfl
theorem f_sign(x:qE)(p:Rat)(hx:nL x p 17179869184):jS Tryz.prog 212 [(jK x)] (.val (.int .i64 ((fN p)))):=by
 refine uW Tryz.func212 ?_
 refine jB<|kx [(1,(.ref 0 0))] [(0,some (bx (jK x)))] (zN (vX 0)<|zM<|zZ) ?_
 refine jB<|kx [(2,(vi (qV p.num)))] [] (zR (kR jW)<|zE (kB (cT x p hx))<|zE (oFv ft32_0 kD)<|zE (kB (s_sign (uG hx.ql)))<|zM<|zZ) ?_
 refine jD ⟨_,(.tmp (d:=(.val (.int .i64 ((qV p.num))))) rfl .nil),?_⟩
 rfl
theorem f_neg(x:qE)(p:Rat)(hx:nL x p 17179869184):jS Tryz.prog 46 [(jK x)] (jK (jN (-p))):=by
 refine uW Tryz.func46 ?_
 refine jB<|kx [(1,(.ref 0 0)),(2,(.ref 1 0))] [(0,some (bx (jK x))),(1,some (bx (jK kO)))] (zN (vX 0)<|zN (uJ 1 uV vL)<|zZ) ?_
 refine jB<|kx [] [(0,some (bx (jK (jN p))))] (zR (kR jW)<|zE (kB (cT x p hx))<|zT (qM jW)<|zZ) ?_
 refine jB<|kd [] [(1,some (bx (jK (qE.mk (kM (-p.num)) ((jN p).den)))))] mo (wE (kN zG)<|wR (kR kD)<|wE (kB (s_neg (uG hx.ql)))<|wE (kN xF)<|wR (kR kD)<|wE (bH pl32 uV vL)<|wT (qM jW)<|wZ) ?_
 refine jD ⟨_,(kS (cs:=(bx (jK (qE.mk (kM (-p.num)) ((jN p).den))))) (d:=(jK (qE.mk (kM (-p.num)) ((jN p).den)))) rfl rfl jW rfl rfl .nil),?_⟩
 rfl
theorem f_add(x:qE)(y:qE)(p:Rat)(q:Rat)(hx:nL x p 17179869184)(hy:nL y q 17179869184):jS Tryz.prog 48 [(jK x),(jK y)] (jK (jN (p+q))):=by
 refine uW Tryz.func48 ?_
 refine jB<|kx [(2,(.ref 0 0)),(3,(.ref 1 0)),(4,(.ref 2 0))] [(0,some (bx (jK x))),(1,some (bx (jK y))),(2,some (bx (jK kO)))] (zN (vX 0)<|zN (vX 1)<|zN (uJ 2 uV vL)<|zZ) ?_
 refine jB<|kd [] [(0,some (bx (jK (jN p)))),(1,some (bx (jK (jN q))))] mo (wR (kR jW)<|wE (kB (cT x p hx))<|wR (kR jW)<|wE (kB (cT y q hy))<|wT (qM jW)<|wT (qM jW)<|wZ) ?_
 refine jB<|kd [] [(2,some (bx (jK (jN (Rat.divInt ((p.num*(q.den:Int))+(q.num*(p.den:Int))) ((p.den:Int)*(q.den:Int)))))))] mo (wE (kN zG)<|wR (kR kD)<|wE (kN xF)<|wR (kR kD)<|wE (kB (s_mul (uG hx.ql) (qW hy.ql)))<|wE (kN zG)<|wR (kR kD)<|wE (kN xF)<|wR (kR kD)<|wE (kB (s_mul (uG hy.ql) (qW hx.ql)))<|wE (kB (s_add (yX (k:=34359738368) (uG hx.ql) (qW hy.ql)) (yX (k:=34359738368) (uG hy.ql) (qW hx.ql)) (by decide) (by decide)))<|wE (kN xF)<|wR (kR kD)<|wE (kN xF)<|wR (kR kD)<|wE (kB (s_mul (qW hx.ql) (qW hy.ql)))<|wE (kB (f_reduced (kM ((p.num*(q.den:Int))+(q.num*(p.den:Int)))) (kM ((p.den:Int)*(q.den:Int))) ((p.num*(q.den:Int))+(q.num*(p.den:Int))) ((p.den:Int)*(q.den:Int)) (cR (iok_add (k:=34359738369) (yX (k:=34359738368) (uG hx.ql) (qW hy.ql)) (yX (k:=34359738368) (uG hy.ql) (qW hx.ql)))) (cR (yX (k:=34359738368) (qW hx.ql) (qW hy.ql))) (mul_ne (iI _) (iI _))))<|wT (qM jW)<|wZ) ?_
 refine jD ⟨_,(kS (cs:=(bx (jK (jN (Rat.divInt ((p.num*(q.den:Int))+(q.num*(p.den:Int))) ((p.den:Int)*(q.den:Int))))))) (d:=(jK (jN (Rat.divInt ((p.num*(q.den:Int))+(q.num*(p.den:Int))) ((p.den:Int)*(q.den:Int)))))) rfl rfl jW rfl rfl .nil),?_⟩
 rw[add_divInt];rfl
theorem f_sub(x:qE)(y:qE)(p:Rat)(q:Rat)(hx:nL x p 17179869184)(hy:nL y q 17179869184):jS Tryz.prog 49 [(jK x),(jK y)] (jK (jN (p-q))):=by
 refine uW Tryz.func49 ?_
 refine jB<|kx [(2,(.ref 0 0)),(3,(.ref 1 0)),(4,(.ref 2 0))] [(0,some (bx (jK x))),(1,some (bx (jK y))),(2,some (bx (jK kO)))] (zN (vX 0)<|zN (vX 1)<|zN (uJ 2 uV vL)<|zZ) ?_
 refine jB<|kd [] [(2,some (bx (jK (jN (p+(-q))))))] mo (wR (kR jW)<|wR (kR jW)<|wE (kB (f_neg y q hy))<|wE (kB (f_add x (jN (-q)) p (-q) hx (jY (ql_neg hy.ql))))<|wT (qM jW)<|wZ) ?_
 refine jD ⟨_,(kS (cs:=(bx (jK (jN (p+(-q)))))) (d:=(jK (jN (p+(-q))))) rfl rfl jW rfl rfl .nil),?_⟩
 rw[Rat.sub_eq_add_neg];rfl
theorem f_mul(x:qE)(y:qE)(p:Rat)(q:Rat)(hx:nL x p 17179869184)(hy:nL y q 17179869184):jS Tryz.prog 47 [(jK x),(jK y)] (jK (jN (p*q))):=by
 refine uW Tryz.func47 ?_
 refine jB<|kx [(2,(.ref 0 0)),(3,(.ref 1 0)),(4,(.ref 2 0))] [(0,some (bx (jK x))),(1,some (bx (jK y))),(2,some (bx (jK kO)))] (zN (vX 0)<|zN (vX 1)<|zN (uJ 2 uV vL)<|zZ) ?_
 refine jB<|kd [] [(0,some (bx (jK (jN p)))),(1,some (bx (jK (jN q))))] mo (wR (kR jW)<|wE (kB (cT x p hx))<|wR (kR jW)<|wE (kB (cT y q hy))<|wT (qM jW)<|wT (qM jW)<|wZ) ?_
 refine jB<|kd [] [(2,some (bx (jK (jN (Rat.divInt (p.num*q.num) ((p.den:Int)*(q.den:Int)))))))] mo (wE (kN zG)<|wR (kR kD)<|wE (kN zG)<|wR (kR kD)<|wE (kB (s_mul (uG hx.ql) (uG hy.ql)))<|wE (kN xF)<|wR (kR kD)<|wE (kN xF)<|wR (kR kD)<|wE (kB (s_mul (qW hx.ql) (qW hy.ql)))<|wE (kB (f_reduced (kM (p.num*q.num)) (kM ((p.den:Int)*(q.den:Int))) (p.num*q.num) ((p.den:Int)*(q.den:Int)) (cR (yX (k:=34359738368) (uG hx.ql) (uG hy.ql))) (cR (yX (k:=34359738368) (qW hx.ql) (qW hy.ql))) (mul_ne (iI _) (iI _))))<|wT (qM jW)<|wZ) ?_
 refine jD ⟨_,(kS (cs:=(bx (jK (jN (Rat.divInt (p.num*q.num) ((p.den:Int)*(q.den:Int))))))) (d:=(jK (jN (Rat.divInt (p.num*q.num) ((p.den:Int)*(q.den:Int)))))) rfl rfl jW rfl rfl .nil),?_⟩
 rw[mul_divInt];rfl
theorem f_divide(x:qE)(y:qE)(p:Rat)(q:Rat)(hx:nL x p 17179869184)(hy:nL y q 17179869184):jS Tryz.prog 50 [(jK x),(jK y)] (.tup [(jK (divR p q)),(.val (.int .i64 ((divC q))))]):=by
 refine uW Tryz.func50 ?_
 refine jB<|kx [(2,(.ref 0 0)),(3,(.ref 1 0)),(4,(.ref 2 0))] [(0,some (bx (jK x))),(1,some (bx (jK y))),(2,some (bx (jK kO)))] (zN (vX 0)<|zN (vX 1)<|zN (uJ 2 uV vL)<|zM<|zZ) ?_
 refine jB<|kd [] [(0,some (bx (jK (jN p)))),(1,some (bx (jK (jN q))))] mo (wR (kR jW)<|wE (kB (cT x p hx))<|wR (kR jW)<|wE (kB (cT y q hy))<|wT (qM jW)<|wT (qM jW)<|wZ) ?_
 refine jB<|jB<|kx [(13,(vb ((qV q.num) == 0)))] [] (zE (kN zG)<|zR (kR kD)<|zE (kB (s_sign (uG hy.ql)))<|zE yP<|zZ) ?_
 refine jF (b:=((qV q.num) == 0)) rfl (fun h1=>?_) (fun h1=>?_)
 ·replace h1:=eq_of_beq h1
  have hq0:=signQ_zero.1 h1
  refine jB<|kx [(5,(jT 14))] [(2,some (bx (jK kO)))] (zE (bH pl32 uV vL)<|zT (qM jW)<|zM<|zZ) ?_
  refine jD ⟨_,(kS (cs:=(bx (jK kO))) (d:=(jK kO)) rfl rfl jW rfl rfl (.tmp (d:=(.val (.int .i64 (14)))) rfl .nil)),?_⟩
  rw[divR_zero hq0,divC_zero hq0];rfl
 ·replace h1:=ne_of_beq_false h1
  have hq0:q≠0:=fun hh=>h1 (signQ_zero.2 hh)
  refine jE<|jB<|kd [(5,(jT 0))] [(2,some (bx (jK (jN (Rat.divInt (p.num*(q.den:Int)) ((p.den:Int)*q.num))))))] mo (wE (kN zG)<|wR (kR kD)<|wE (kN xF)<|wR (kR kD)<|wE (kB (s_mul (uG hx.ql) (qW hy.ql)))<|wE (kN xF)<|wR (kR kD)<|wE (kN zG)<|wR (kR kD)<|wE (kB (s_mul (qW hx.ql) (uG hy.ql)))<|wE (kB (f_reduced (kM (p.num*(q.den:Int))) (kM ((p.den:Int)*q.num)) (p.num*(q.den:Int)) ((p.den:Int)*q.num) (cR (yX (k:=34359738368) (uG hx.ql) (qW hy.ql))) (cR (yX (k:=34359738368) (qW hx.ql) (uG hy.ql))) (mul_ne (iI _) (num_ne hq0))))<|wT (qM jW)<|wM<|wZ) ?_
  refine jD ⟨_,(kS (cs:=(bx (jK (jN (Rat.divInt (p.num*(q.den:Int)) ((p.den:Int)*q.num)))))) (d:=(jK (jN (Rat.divInt (p.num*(q.den:Int)) ((p.den:Int)*q.num))))) rfl rfl jW rfl rfl (.tmp (d:=(.val (.int .i64 (0)))) rfl .nil)),?_⟩
  rw[divR_ne hq0,divC_ne hq0,div_divInt];rfl
theorem bZ(x:qE)(y:qE)(p:Rat)(q:Rat)(hx:nL x p 17179869184)(hy:nL y q 17179869184):jS Tryz.prog 112 [(jK x),(jK y)] (.val (.int .i64 ((gC p q)))):=by
 refine uW Tryz.func112 ?_
 refine jB<|kx [(2,(.ref 0 0)),(3,(.ref 1 0))] [(0,some (bx (jK x))),(1,some (bx (jK y)))] (zN (vX 0)<|zN (vX 1)<|zM<|zZ) ?_
 refine jB<|kd [] [(0,some (bx (jK (jN p)))),(1,some (bx (jK (jN q))))] mo (wR (kR jW)<|wE (kB (cT x p hx))<|wR (kR jW)<|wE (kB (cT y q hy))<|wT (qM jW)<|wT (qM jW)<|wZ) ?_
 refine jB<|kd [(4,(vi (vD (p.num*(q.den:Int)) (q.num*(p.den:Int)))))] [] mo (wE (kN zG)<|wR (kR kD)<|wE (kN xF)<|wR (kR kD)<|wE (kB (s_mul (uG hx.ql) (qW hy.ql)))<|wE (kN zG)<|wR (kR kD)<|wE (kN xF)<|wR (kR kD)<|wE (kB (s_mul (uG hy.ql) (qW hx.ql)))<|wE (kB (s_compare (yX (k:=34359738368) (uG hx.ql) (qW hy.ql)) (yX (k:=34359738368) (uG hy.ql) (qW hx.ql))))<|wM<|wZ) ?_
 refine jD ⟨_,(.tmp (d:=(.val (.int .i64 ((vD (p.num*(q.den:Int)) (q.num*(p.den:Int))))))) rfl .nil),?_⟩
 rw[<- cmpQ_cross];rfl
theorem g_reduced(num den:kW)(a b:Int)(iD:dB num a 68719476736)(fV:dB den b 68719476736)(hb:b≠0):jS Tryz.prog 70 [(jR num),(jR den)] (jK (jN (Rat.divInt a b))):=by
 refine uW Tryz.func70 ?_
 refine jB<|kx [(2,(.ref 0 0)),(3,(.ref 1 0)),(4,(.ref 2 0))] [(0,some (bx (jR num))),(1,some (bx (jR den))),(2,some (bx (jK kO)))] (zN (vX 0)<|zN (vX 1)<|zN (uJ 2 uV vL)<|zZ) ?_
 refine jB<|kx [(5,(.ref 3 0))] [(3,some (bx (jR (kM ((Int.gcd a b:Nat):Int)))))] (zR (kR kD)<|zR (kR kD)<|zE (kB (rs_gcd iD fV))<|zN (uJ 3 nM nN)<|zT (qM kD)<|zZ) ?_
 refine jB<|jB<|kx [(17,(vb (decide ((qV b)<0))))] [] (zR (kR kD)<|zE (kB (rs_sign fV))<|zE yY<|zZ) ?_
 refine jF (b:=decide ((qV b)<0)) rfl (fun h1=>?_) (fun h1=>?_)
 ·replace h1:=vT h1
  have hlt:=signI_lt.1 h1
  refine kx [] [(3,some (bx (jR (kM (-(((Int.gcd a b:Nat):Int)))))))] (zR (kR kD)<|zE (kB (rs_neg (cU (k:=68719476736) iD fV)))<|zT (qM kD)<|zZ) ?_
  refine jB<|kx [(6,(.ref 4 0))] [(4,some (bx (jR (kM (a.fdiv (-(((Int.gcd a b:Nat):Int)))))))),(5,none)] (zR (kR kD)<|zR (kR kD)<|zE (kB (rs_divide iD (mZ (cU (k:=68719476736) iD fV)) (by decide) (by decide) (by have:=gcd_ne (a:=a) hb;omega)))<|zM<|zE zJ<|zE zJ<|zE zJ<|zN (uJ 4 nM nN)<|zN (uJ 5 nM nN)<|zT (qM kD)<|zT (qM kD)<|zM<|zZ) ?_
  refine jB<|kx [(9,(.ref 6 0))] [(6,some (bx (jR (kM (b.fdiv (-(((Int.gcd a b:Nat):Int)))))))),(7,none)] (zR (kR kD)<|zR (kR kD)<|zE (kB (rs_divide fV (mZ (cU (k:=68719476736) iD fV)) (by decide) (by decide) (by have:=gcd_ne (a:=a) hb;omega)))<|zM<|zE zJ<|zE zJ<|zE zJ<|zN (uJ 6 nM nN)<|zN (uJ 7 nM nN)<|zT (qM kD)<|zT (qM kD)<|zM<|zZ) ?_
  refine jB<|kx [] [(2,some (bx (jK (qE.mk (kM (a.fdiv (-(((Int.gcd a b:Nat):Int))))) (kM (b.fdiv (-(((Int.gcd a b:Nat):Int)))))))))] (zR (kR kD)<|zR (kR kD)<|zE (bH pl32 uV vL)<|zT (qM jW)<|zZ) ?_
  refine jD ⟨_,(kS (cs:=(bx (jK (qE.mk (kM (a.fdiv (-(((Int.gcd a b:Nat):Int))))) (kM (b.fdiv (-(((Int.gcd a b:Nat):Int))))))))) (d:=(jK (qE.mk (kM (a.fdiv (-(((Int.gcd a b:Nat):Int))))) (kM (b.fdiv (-(((Int.gcd a b:Nat):Int)))))))) rfl rfl jW rfl rfl .nil),?_⟩
  rw[<- red_neg2 hlt];rfl
 ·replace h1:=xC h1
  have hge:¬ b<0:=fun hh=>h1 (signI_lt.2 hh)
  refine jE<|jB<|kx [(6,(.ref 8 0))] [(8,some (bx (jR (kM (a.fdiv (((Int.gcd a b:Nat):Int))))))),(9,none)] (zR (kR kD)<|zR (kR kD)<|zE (kB (rs_divide iD (cU (k:=68719476736) iD fV) (by decide) (by decide) (by have:=gcd_ne (a:=a) hb;omega)))<|zM<|zE zJ<|zE zJ<|zE zJ<|zN (uJ 8 nM nN)<|zN (uJ 9 nM nN)<|zT (qM kD)<|zT (qM kD)<|zM<|zZ) ?_
  refine jB<|kx [(9,(.ref 10 0))] [(10,some (bx (jR (kM (b.fdiv (((Int.gcd a b:Nat):Int))))))),(11,none)] (zR (kR kD)<|zR (kR kD)<|zE (kB (rs_divide fV (cU (k:=68719476736) iD fV) (by decide) (by decide) (by have:=gcd_ne (a:=a) hb;omega)))<|zM<|zE zJ<|zE zJ<|zE zJ<|zN (uJ 10 nM nN)<|zN (uJ 11 nM nN)<|zT (qM kD)<|zT (qM kD)<|zM<|zZ) ?_
  refine jB<|kx [] [(2,some (bx (jK (qE.mk (kM (a.fdiv (((Int.gcd a b:Nat):Int)))) (kM (b.fdiv (((Int.gcd a b:Nat):Int))))))))] (zR (kR kD)<|zR (kR kD)<|zE (bH pl32 uV vL)<|zT (qM jW)<|zZ) ?_
  refine jD ⟨_,(kS (cs:=(bx (jK (qE.mk (kM (a.fdiv (((Int.gcd a b:Nat):Int)))) (kM (b.fdiv (((Int.gcd a b:Nat):Int)))))))) (d:=(jK (qE.mk (kM (a.fdiv (((Int.gcd a b:Nat):Int)))) (kM (b.fdiv (((Int.gcd a b:Nat):Int))))))) rfl rfl jW rfl rfl .nil),?_⟩
  rw[red_pos hge hb];rfl
theorem g_whole1(n:Int)(hlo:-9223372036854775808<=n:=by decide)(hhi:n<=9223372036854775807:=by decide):jS Tryz.prog 75 [(.val (.int .i64 (n)))] (jR (kM n)):=by
 refine uW Tryz.func75 ?_
 refine jB<|kx [(2,(.ref 0 0))] [(0,some (bx (jR (kW.mk false []))))] (zN (uJ 0 nM nN)<|zZ) ?_
 refine jB<|kx [] [(0,some (bx (jR (kM n))))] (zM<|zE (kB (r_of n (by omega) (by omega)))<|zT (qM kD)<|zZ) ?_
 refine jD ⟨_,(kS (cs:=(bx (jR (kM n)))) (d:=(jR (kM n))) rfl rfl kD rfl rfl .nil),?_⟩
 rfl
theorem g_whole(n:Int)(hlo:-9223372036854775808<=n:=by decide)(hhi:n<=9223372036854775807:=by decide):jS Tryz.prog 42 [(.val (.int .i64 (n)))] (jK (jN ((n:Int):Rat))):=by
 refine uW Tryz.func42 ?_
 refine jB<|kx [(2,(.ref 0 0))] [(0,some (bx (jK kO)))] (zN (uJ 0 uV vL)<|zZ) ?_
 refine jB<|kx [] [(0,some (bx (jK (qE.mk (kM n) (kM 1)))))] (zM<|zE (kB (g_whole1 n (by omega) (by omega)))<|zE (kB (g_whole1 1))<|zE (bH pl32 uV vL)<|zT (qM jW)<|zZ) ?_
 refine jD ⟨_,(kS (cs:=(bx (jK (qE.mk (kM n) (kM 1))))) (d:=(jK (qE.mk (kM n) (kM 1)))) rfl rfl jW rfl rfl .nil),?_⟩
 rfl
theorem g_valid(x:qE)(p:Rat)(hx:nL x p 17179869184):jS Tryz.prog 53 [(jK x)] (.val (.bool ((kX x)))):=by
 refine uW Tryz.func53 ?_
 refine jB<|kx [(1,(.ref 0 0))] [(0,some (bx (jK x)))] (zN (vX 0)<|zM<|zZ) ?_
 refine jB<|jB<|kx [(18,(vb ((!(uL x.num)||!(uL x.den))||decide ((qV (jX x.den))<=0))))] [] ?_ ?_
 ·refine zE (kN zG)<|zR (kR kD)<|zE (kB (r_valid x.num (Nat.le_trans (yW hx.n1).l (by decide))))<|zE cC<|zE (oV (vb (!(uL x.num))) (qA (by kernel_rfl)))<|?_
  rcases hb1:(!(uL x.num)) with _ | _
  ·refine zE (kN xF)<|zR (kR kD)<|zE (kB (r_valid x.den (Nat.le_trans (yW hx.n2).l (by decide))))<|zE cC<|zE aD<|zE (oV (vb (false||!(uL x.den))) (qA (by kernel_rfl)))<|?_
   rcases hb2:(false||!(uL x.den)) with _ | _
   ·exact zE (kN xF)<|zR (kR kD)<|zE (kB (rs_sign (yW hx.n2)))<|zE oLe<|zE aD<|zZ
   ·exact zK<|zK<|zK<|zK<|zE nT<|zZ
  ·exact zK<|zK<|zK<|zK<|zE nT<|zM<|zK<|zK<|zK<|zK<|zE nT<|zZ
 refine jF rfl (fun h3=>?_) (fun h3=>?_)
 ·refine jB<|kx [(2,(vb false))] [] (zM<|zZ) ?_
  refine jD ⟨_,(.tmp (d:=(.val (.bool (false)))) rfl .nil),?_⟩
  rw[validR_no h3];rfl
 ·refine jE<|jB<|kx [(2,(vb ((vD (((Int.gcd (jX x.num) (jX x.den):Nat):Int)) 1) == 0)))] [] (zE (kN zG)<|zR (kR kD)<|zE (kN xF)<|zR (kR kD)<|zE (kB (rs_gcd (yW hx.n1) (yW hx.n2)))<|zE (kB (g_whole1 1))<|zE (kB (rs_compare (cU (k:=17179869184) (yW hx.n1) (yW hx.n2)) (iok_small (z:=1)) (by decide) (by decide)))<|zE yP<|zM<|zZ) ?_
  refine jD ⟨_,(.tmp (d:=(.val (.bool (((vD (((Int.gcd (jX x.num) (jX x.den):Nat):Int)) 1) == 0))))) rfl .nil),?_⟩
  rw[validR_yes h3];rfl
theorem aH(x:qE)(p:Rat)(hx:nL x p 17179869184):jS Tryz.prog 69 [(jK x)] (jK (jN p)):=by
 refine uW Tryz.func69 ?_
 refine jB<|kx [(1,(.ref 0 0)),(2,(.ref 1 0))] [(0,some (bx (jK x))),(1,some (bx (jK kO)))] (zN (vX 0)<|zN (uJ 1 uV vL)<|zZ) ?_
 refine jB<|jB<|kx [(4,(vb (kX x)))] [] (zR (kR jW)<|zE (kB (g_valid x p hx))<|zZ) ?_
 refine jF (b:=(kX x)) rfl (fun h1=>?_) (fun h1=>?_)
 ·refine jB<|kx [] [(1,some (bx (jK x)))] (zR (kR jW)<|zT (qM jW)<|zZ) ?_
  refine jD ⟨_,(kS (cs:=(bx (jK x))) (d:=(jK x)) rfl rfl jW rfl rfl .nil),?_⟩
  rw[<- hx.v,iN h1];rfl
 ·refine jE<|jB<|kx [] [(1,some (bx (jK (jN ((0:Int):Rat)))))] (zE (kB (g_whole 0))<|zT (qM jW)<|zZ) ?_
  refine jD ⟨_,(kS (cs:=(bx (jK (jN ((0:Int):Rat))))) (d:=(jK (jN ((0:Int):Rat)))) rfl rfl jW rfl rfl .nil),?_⟩
  rw[<- hx.v,toQ_bad h1];rfl
theorem g_sign(x:qE)(p:Rat)(hx:nL x p 17179869184):jS Tryz.prog 98 [(jK x)] (.val (.int .i64 ((fN p)))):=by
 refine uW Tryz.func98 ?_
 refine jB<|kx [(1,(.ref 0 0))] [(0,some (bx (jK x)))] (zN (vX 0)<|zM<|zZ) ?_
 refine jB<|kx [(2,(vi (qV p.num)))] [] (zR (kR jW)<|zE (kB (aH x p hx))<|zE (oFv ft32_0 kD)<|zE (kB (rs_sign (uG hx.ql)))<|zM<|zZ) ?_
 refine jD ⟨_,(.tmp (d:=(.val (.int .i64 ((qV p.num))))) rfl .nil),?_⟩
 rfl
theorem g_neg(x:qE)(p:Rat)(hx:nL x p 17179869184):jS Tryz.prog 51 [(jK x)] (jK (jN (-p))):=by
 refine uW Tryz.func51 ?_
 refine jB<|kx [(1,(.ref 0 0)),(2,(.ref 1 0))] [(0,some (bx (jK x))),(1,some (bx (jK kO)))] (zN (vX 0)<|zN (uJ 1 uV vL)<|zZ) ?_
 refine jB<|kx [(3,(.ref 2 0))] [(2,some (bx (jK (jN p))))] (zR (kR jW)<|zE (kB (aH x p hx))<|zN (uJ 2 uV vL)<|zT (qM jW)<|zZ) ?_
 refine jB<|kd [] [(1,some (bx (jK (qE.mk (kM (-p.num)) ((jN p).den)))))] mo (wE (kN zG)<|wR (kR kD)<|wE (kB (rs_neg (uG hx.ql)))<|wE (kN xF)<|wR (kR kD)<|wE (bH pl32 uV vL)<|wT (qM jW)<|wZ) ?_
 refine jD ⟨_,(kS (cs:=(bx (jK (qE.mk (kM (-p.num)) ((jN p).den))))) (d:=(jK (qE.mk (kM (-p.num)) ((jN p).den)))) rfl rfl jW rfl rfl .nil),?_⟩
 rfl
theorem g_add(x:qE)(y:qE)(p:Rat)(q:Rat)(hx:nL x p 17179869184)(hy:nL y q 17179869184):jS Tryz.prog 22 [(jK x),(jK y)] (jK (jN (p+q))):=by
 refine uW Tryz.func22 ?_
 refine jB<|kx [(2,(.ref 0 0)),(3,(.ref 1 0)),(4,(.ref 2 0))] [(0,some (bx (jK x))),(1,some (bx (jK y))),(2,some (bx (jK kO)))] (zN (vX 0)<|zN (vX 1)<|zN (uJ 2 uV vL)<|zZ) ?_
 refine jB<|kx [(5,(.ref 3 0))] [(3,some (bx (jK (jN p))))] (zR (kR jW)<|zE (kB (aH x p hx))<|zN (uJ 3 uV vL)<|zT (qM jW)<|zZ) ?_
 refine jB<|kx [(6,(.ref 4 0))] [(4,some (bx (jK (jN q))))] (zR (kR jW)<|zE (kB (aH y q hy))<|zN (uJ 4 uV vL)<|zT (qM jW)<|zZ) ?_
 refine jB<|kd [] [(2,some (bx (jK (jN (Rat.divInt ((p.num*(q.den:Int))+(q.num*(p.den:Int))) ((p.den:Int)*(q.den:Int)))))))] mo (wE (kN zG)<|wR (kR kD)<|wE (kN xF)<|wR (kR kD)<|wE (kB (rs_mul (uG hx.ql) (qW hy.ql)))<|wE (kN zG)<|wR (kR kD)<|wE (kN xF)<|wR (kR kD)<|wE (kB (rs_mul (uG hy.ql) (qW hx.ql)))<|wE (kB (rs_add (yX (k:=34359738368) (uG hx.ql) (qW hy.ql)) (yX (k:=34359738368) (uG hy.ql) (qW hx.ql)) (by decide) (by decide)))<|wE (kN xF)<|wR (kR kD)<|wE (kN xF)<|wR (kR kD)<|wE (kB (rs_mul (qW hx.ql) (qW hy.ql)))<|wE (kB (g_reduced (kM ((p.num*(q.den:Int))+(q.num*(p.den:Int)))) (kM ((p.den:Int)*(q.den:Int))) ((p.num*(q.den:Int))+(q.num*(p.den:Int))) ((p.den:Int)*(q.den:Int)) (cR (iok_add (k:=34359738369) (yX (k:=34359738368) (uG hx.ql) (qW hy.ql)) (yX (k:=34359738368) (uG hy.ql) (qW hx.ql)))) (cR (yX (k:=34359738368) (qW hx.ql) (qW hy.ql))) (mul_ne (iI _) (iI _))))<|wT (qM jW)<|wZ) ?_
 refine jD ⟨_,(kS (cs:=(bx (jK (jN (Rat.divInt ((p.num*(q.den:Int))+(q.num*(p.den:Int))) ((p.den:Int)*(q.den:Int))))))) (d:=(jK (jN (Rat.divInt ((p.num*(q.den:Int))+(q.num*(p.den:Int))) ((p.den:Int)*(q.den:Int)))))) rfl rfl jW rfl rfl .nil),?_⟩
 rw[add_divInt];rfl
theorem g_sub(x:qE)(y:qE)(p:Rat)(q:Rat)(hx:nL x p 17179869184)(hy:nL y q 17179869184):jS Tryz.prog 34 [(jK x),(jK y)] (jK (jN (p-q))):=by
 refine uW Tryz.func34 ?_
 refine jB<|kx [(2,(.ref 0 0)),(3,(.ref 1 0)),(4,(.ref 2 0))] [(0,some (bx (jK x))),(1,some (bx (jK y))),(2,some (bx (jK kO)))] (zN (vX 0)<|zN (vX 1)<|zN (uJ 2 uV vL)<|zZ) ?_
 refine jB<|kd [] [(2,some (bx (jK (jN (p+(-q))))))] mo (wR (kR jW)<|wR (kR jW)<|wE (kB (g_neg y q hy))<|wE (kB (g_add x (jN (-q)) p (-q) hx (jY (ql_neg hy.ql))))<|wT (qM jW)<|wZ) ?_
 refine jD ⟨_,(kS (cs:=(bx (jK (jN (p+(-q)))))) (d:=(jK (jN (p+(-q))))) rfl rfl jW rfl rfl .nil),?_⟩
 rw[Rat.sub_eq_add_neg];rfl
theorem g_mul(x:qE)(y:qE)(p:Rat)(q:Rat)(hx:nL x p 17179869184)(hy:nL y q 17179869184):jS Tryz.prog 23 [(jK x),(jK y)] (jK (jN (p*q))):=by
 refine uW Tryz.func23 ?_
 refine jB<|kx [(2,(.ref 0 0)),(3,(.ref 1 0)),(4,(.ref 2 0))] [(0,some (bx (jK x))),(1,some (bx (jK y))),(2,some (bx (jK kO)))] (zN (vX 0)<|zN (vX 1)<|zN (uJ 2 uV vL)<|zZ) ?_
 refine jB<|kx [(5,(.ref 3 0))] [(3,some (bx (jK (jN p))))] (zR (kR jW)<|zE (kB (aH x p hx))<|zN (uJ 3 uV vL)<|zT (qM jW)<|zZ) ?_
 refine jB<|kx [(6,(.ref 4 0))] [(4,some (bx (jK (jN q))))] (zR (kR jW)<|zE (kB (aH y q hy))<|zN (uJ 4 uV vL)<|zT (qM jW)<|zZ) ?_
 refine jB<|kd [] [(2,some (bx (jK (jN (Rat.divInt (p.num*q.num) ((p.den:Int)*(q.den:Int)))))))] mo (wE (kN zG)<|wR (kR kD)<|wE (kN zG)<|wR (kR kD)<|wE (kB (rs_mul (uG hx.ql) (uG hy.ql)))<|wE (kN xF)<|wR (kR kD)<|wE (kN xF)<|wR (kR kD)<|wE (kB (rs_mul (qW hx.ql) (qW hy.ql)))<|wE (kB (g_reduced (kM (p.num*q.num)) (kM ((p.den:Int)*(q.den:Int))) (p.num*q.num) ((p.den:Int)*(q.den:Int)) (cR (yX (k:=34359738368) (uG hx.ql) (uG hy.ql))) (cR (yX (k:=34359738368) (qW hx.ql) (qW hy.ql))) (mul_ne (iI _) (iI _))))<|wT (qM jW)<|wZ) ?_
 refine jD ⟨_,(kS (cs:=(bx (jK (jN (Rat.divInt (p.num*q.num) ((p.den:Int)*(q.den:Int))))))) (d:=(jK (jN (Rat.divInt (p.num*q.num) ((p.den:Int)*(q.den:Int)))))) rfl rfl jW rfl rfl .nil),?_⟩
 rw[mul_divInt];rfl
theorem bO(x:qE)(y:qE)(p:Rat)(q:Rat)(hx:nL x p 4294967296)(hy:nL y q 4294967296):jS Tryz.prog 54 [(jK x),(jK y)] (.val (.int .i64 ((gC p q)))):=by
 refine uW Tryz.func54 ?_
 refine jB<|kx [(2,(.ref 0 0)),(3,(.ref 1 0))] [(0,some (bx (jK x))),(1,some (bx (jK y)))] (zN (vX 0)<|zN (vX 1)<|zM<|zZ) ?_
 refine jB<|kx [(4,(vi (fN (p-q))))] [] (zR (kR jW)<|zR (kR jW)<|zE (kB (g_sub x y p q (jP hx) (jP hy)))<|zE (kB (g_sign (jN (p-q)) (p-q) (jP (jY (yD (k:=8589934593) hx.ql hy.ql)))))<|zM<|zZ) ?_
 refine jD ⟨_,(.tmp (d:=(.val (.int .i64 ((fN (p-q)))))) rfl .nil),?_⟩
 rw[<- signQ_sub];rfl
theorem uX:uY Tryz.prog 42 0=some 0:=by kernel_rfl
theorem vP:uY Tryz.prog 42 1=some 4:=by kernel_rfl
theorem g_same(x:qE)(y:qE)(p:Rat)(q:Rat)(hx:nL x p 4294967296)(hy:nL y q 4294967296):jS Tryz.prog 14 [(jK x),(jK y)] (.val (.bool ((dE x y)))):=by
 refine uW Tryz.func14 ?_
 refine jB<|kx [(2,(.ref 0 0)),(3,(.ref 1 0))] [(0,some (bx (jK x))),(1,some (bx (jK y)))] (zN (vX 0)<|zN (vX 1)<|zM<|zZ) ?_
 refine jB<|kx [(4,(vb (((kX x)&&(kX y))&&((gC p q) == 0))))] [] ?_ ?_
 ·refine zR (kR jW)<|zE (kB (g_valid x p (jP hx)))<|zE (oV (vb (kX x)) (qA (by kernel_rfl)))<|?_
  rcases hb1:(kX x) with _ | _
  ·exact zK<|zK<|zE yJ<|zM<|zK<|zK<|zK<|zK<|zE yJ<|zM<|zZ
  ·refine zR (kR jW)<|zE (kB (g_valid y q (jP hy)))<|zE aB<|zE (oV (vb (true&&(kX y))) (qA (by kernel_rfl)))<|?_
   rcases hb2:(true&&(kX y)) with _ | _
   ·exact zK<|zK<|zK<|zK<|zE yJ<|zM<|zZ
   ·exact zR (kR jW)<|zR (kR jW)<|zE (kB (bO x y p q hx hy))<|zE yP<|zE aB<|zM<|zZ
 refine jD ⟨_,(.tmp (d:=(.val (.bool ((((kX x)&&(kX y))&&((gC p q) == 0)))))) rfl .nil),?_⟩
 unfold dE
 rw[<- sameR_eq,hx.v,hy.v];rfl
theorem g_digits(x:qE)(p:Rat)(hx:nL x p 140737488355328):jS Tryz.prog 36 [(jK x)] (.val (.int .i64 ((((iA x):Nat):Int)))):=by
 have h1:=hx.n1
 have h2:=hx.n2
 refine uW Tryz.func36 ?_
 refine jB<|kx [(1,(.ref 0 0))] [(0,some (bx (jK x)))] (zN (vX 0)<|zM<|zZ) ?_
 refine jB<|kx [(2,(jT (x.num.gs.length+x.den.gs.length)))] [] (zE (kN zG)<|zE (kN vK)<|zR (qJ xX)<|zE (yH kJ)<|zE (kN xF)<|zE (kN vK)<|zR (qJ xX)<|zE (yH kJ)<|zE (xD (x.num.gs.length+x.den.gs.length))<|zM<|zZ) ?_
 refine jD ⟨_,(.tmp (d:=(.val (.int .i64 ((((x.num.gs.length+x.den.gs.length):Nat):Int))))) rfl .nil),?_⟩
 rfl
theorem g_samerange(a b:jM)(ha:GOk 4294967296 a)(hb:GOk 4294967296 b):jS Tryz.prog 81 [(jG a),(jG b)] (.val (.bool ((dE a.lo b.lo&&dE a.hi b.hi)))):=by
 refine uW Tryz.func81 ?_
 refine jB<|kx [(2,(.ref 0 0)),(3,(.ref 1 0))] [(0,some (bx (jG a))),(1,some (bx (jG b)))] (zN (vX 0)<|zN (vX 1)<|zM<|zZ) ?_
 refine jB<|kx [(4,(vb ((dE a.lo b.lo)&&(dE a.hi b.hi))))] [] ?_ ?_
 ·refine zE (kN uX)<|zR (kR jW)<|zE (kN uX)<|zR (kR jW)<|zE (kB (g_same a.lo b.lo (xW a.lo) (xW b.lo) ha.1 hb.1))<|zE (oV (vb (dE a.lo b.lo)) (qA (by kernel_rfl)))<|?_
  rcases hb1:(dE a.lo b.lo) with _ | _
  ·exact zK<|zK<|zK<|zK<|zK<|zE yJ<|zM<|zZ
  ·exact zE (kN vP)<|zR (kR jW)<|zE (kN vP)<|zR (kR jW)<|zE (kB (g_same a.hi b.hi (xW a.hi) (xW b.hi) ha.2 hb.2))<|zE aB<|zM<|zZ
 refine jD ⟨_,(.tmp (d:=(.val (.bool (((dE a.lo b.lo)&&(dE a.hi b.hi)))))) rfl .nil),?_⟩
 rfl
end Go.Proofs.YtckccjhflbljgaaGreatDoor
