/- Part 18 of a proof: rules, plain facts, and functions walked. -/
import Derived.Test.YtnajallgoaiahaaGreatDoorM17
set_option linter.all false
set_option maxRecDepth 4000
namespace Go.Proofs.YtnajallgoaiahaaGreatDoor
open Go.Fid
theorem s_neg{x:qF}{a:Int}{m:Nat}(hx:gQ x a m)(hm:m<=274877906944:=by decide):jO Tryz.prog 225 [(jX x)] (jX (kN (-a))):=by
 obtain ⟨rfl,hx'⟩:=hx
 exact t_neg x (by omega)
theorem s_sign{x:qF}{a:Int}{m:Nat}(hx:gQ x a m)(hm:m<=274877906944:=by decide):jO Tryz.prog 136 [(jX x)] (.val (.int .i64 (uK a))):=by
 obtain ⟨rfl,hx'⟩:=hx
 exact t_sign x (by omega)
theorem s_add{x y:qF}{a b:Int}{m n:Nat}(hx:gQ x a m)(hy:gQ y b n)(hm:m<=274877906944:=by decide)(hn:n<=274877906944:=by decide):jO Tryz.prog 150 [(jX x),(jX y)] (jX (kN (a+b))):=by
 obtain ⟨rfl,hx'⟩:=hx;obtain ⟨rfl,hy'⟩:=hy
 exact t_add x y (by omega) (by omega)
theorem s_mul{x y:qF}{a b:Int}{m n:Nat}(hx:gQ x a m)(hy:gQ y b n)(hm:m<=274877906944:=by decide)(hn:n<=274877906944:=by decide):jO Tryz.prog 142 [(jX x),(jX y)] (jX (kN (a*b))):=by
 obtain ⟨rfl,hx'⟩:=hx;obtain ⟨rfl,hy'⟩:=hy
 exact t_mul x y (by omega) (by omega)
theorem s_compare{x y:qF}{a b:Int}{m n:Nat}(hx:gQ x a m)(hy:gQ y b n)(hm:m<=274877906944:=by decide)(hn:n<=274877906944:=by decide):jO Tryz.prog 137 [(jX x),(jX y)] (.val (.int .i64 (vK a b))):=by
 obtain ⟨rfl,hx'⟩:=hx;obtain ⟨rfl,hy'⟩:=hy
 exact t_compareI x y (by omega) (by omega)
theorem s_gcd{x y:qF}{a b:Int}{m n:Nat}(hx:gQ x a m)(hy:gQ y b n)(hm:m<=274877906944:=by decide)(hn:n<=274877906944:=by decide):jO Tryz.prog 138 [(jX x),(jX y)] (jX (kN ((Int.gcd a b:Nat):Int))):=by
 obtain ⟨rfl,hx'⟩:=hx;obtain ⟨rfl,hy'⟩:=hy
 exact t_gcdI x y (by omega) (by omega)
theorem s_divide{x y:qF}{a b:Int}{m n:Nat}(hx:gQ x a m)(hy:gQ y b n)(hm:m<=274877906944)(hn:n<=274877906944)(hb:b≠0):jO Tryz.prog 227 [(jX x),(jX y)] (.tup [(jX (kN (a.fdiv b))),(jX (kN (a.fmod b))),(.val (.int .i64 0))]):=by
 obtain ⟨rfl,hx'⟩:=hx;obtain ⟨rfl,hy'⟩:=hy
 exact t_divideI x y (by omega) (by omega) hb
theorem rs_neg{x:qF}{a:Int}{m:Nat}(hx:gQ x a m)(hm:m<=274877906944:=by decide):jO Tryz.prog 145 [(jX x)] (jX (kN (-a))):=by
 obtain ⟨rfl,hx'⟩:=hx
 exact r_neg x (by omega)
theorem rs_sign{x:qF}{a:Int}{m:Nat}(hx:gQ x a m)(hm:m<=274877906944:=by decide):jO Tryz.prog 83 [(jX x)] (.val (.int .i64 (uK a))):=by
 obtain ⟨rfl,hx'⟩:=hx
 exact r_sign x (by omega)
theorem rs_add{x y:qF}{a b:Int}{m n:Nat}(hx:gQ x a m)(hy:gQ y b n)(hm:m<=274877906944)(hn:n<=274877906944):jO Tryz.prog 96 [(jX x),(jX y)] (jX (kN (a+b))):=by
 obtain ⟨rfl,hx'⟩:=hx;obtain ⟨rfl,hy'⟩:=hy
 exact r_add x y (by omega) (by omega)
theorem rs_mul{x y:qF}{a b:Int}{m n:Nat}(hx:gQ x a m)(hy:gQ y b n)(hm:m<=274877906944:=by decide)(hn:n<=274877906944:=by decide):jO Tryz.prog 87 [(jX x),(jX y)] (jX (kN (a*b))):=by
 obtain ⟨rfl,hx'⟩:=hx;obtain ⟨rfl,hy'⟩:=hy
 exact r_mul x y (by omega) (by omega)
theorem rs_compare{x y:qF}{a b:Int}{m n:Nat}(hx:gQ x a m)(hy:gQ y b n)(hm:m<=274877906944)(hn:n<=274877906944):jO Tryz.prog 117 [(jX x),(jX y)] (.val (.int .i64 (vK a b))):=by
 obtain ⟨rfl,hx'⟩:=hx;obtain ⟨rfl,hy'⟩:=hy
 exact r_compare x y (by omega) (by omega)
theorem rs_gcd{x y:qF}{a b:Int}{m n:Nat}(hx:gQ x a m)(hy:gQ y b n)(hm:m<=274877906944:=by decide)(hn:n<=274877906944:=by decide):jO Tryz.prog 118 [(jX x),(jX y)] (jX (kN ((Int.gcd a b:Nat):Int))):=by
 obtain ⟨rfl,hx'⟩:=hx;obtain ⟨rfl,hy'⟩:=hy
 exact r_gcd x y (by omega) (by omega)
theorem rs_divide{x y:qF}{a b:Int}{m n:Nat}(hx:gQ x a m)(hy:gQ y b n)(hm:m<=274877906944)(hn:n<=274877906944)(hb:b≠0):jO Tryz.prog 146 [(jX x),(jX y)] (.tup [(jX (kN (a.fdiv b))),(jX (kN (a.fmod b))),(.val (.int .i64 0))]):=by
 obtain ⟨rfl,hx'⟩:=hx;obtain ⟨rfl,hy'⟩:=hy
 exact r_divide x y (by omega) (by omega) hb
theorem zB:xV Tryz.prog 45 0=some 0:=by kernel_rfl
theorem xI:xV Tryz.prog 45 1=some 2:=by kernel_rfl
theorem ft45_0:lH Tryz.prog 45 0=some (0,43):=by kernel_rfl
theorem pl45:eW Tryz.prog 45=some [(0,2),(2,2)]:=by kernel_rfl
theorem jQ:qX Tryz.prog 45=some (true,4):=by kernel_rfl
theorem qZ:yI Tryz.prog 45=some [.bool false,.slice none 0 0,.bool false,.slice none 0 0]:=by kernel_rfl
theorem uG:iB [.bool false,.slice none 0 0,.bool false,.slice none 0 0] [.val (.bool false),.sl 140 1 [],.val (.bool false),.sl 140 1 []]:=by simp [iB,Value.oneCell']
theorem dH(num den:qF)(a b:Int)(fP:gQ num a 68719476736)(dL:gQ den b 68719476736)(hb:b≠0):jO Tryz.prog 143 [(jX num),(jX den)] (jJ (jN (Rat.divInt a b))):=by
 refine qY Tryz.func143 ?_
 refine jB<|kx [(2,(.ref 0 0)),(3,(.ref 1 0)),(4,(.ref 2 0))] [(0,some (bx (jX num))),(1,some (bx (jX den))),(2,some (bx (jJ kH)))] (zN (uU 0)<|zN (uU 1)<|zN (qR 2 qZ uG)<|zZ) ?_
 refine jB<|jB<|kx [(8,(vb (decide ((uK b)<0))))] [] (zR (kJ kC)<|zE (jV (s_sign dL))<|zE xK<|zZ) ?_
 refine jG (b:=decide ((uK b)<0)) rfl (fun h1=>?_) (fun h1=>?_)
 ·replace h1:=uV h1
  have hlt:=signI_lt.1 h1
  have hb2:-b≠0:=by omega
  refine kd [] [(0,some (bx (jX (kN (-a))))),(1,some (bx (jX (kN (-b)))))] mo (wR (kJ kC)<|wE (jV (s_neg fP))<|wR (kJ kC)<|wE (jV (s_neg dL))<|wT (qA kC)<|wT (qA kC)<|wZ) ?_
  refine jB<|kx [(5,(.ref 3 0))] [(3,some (bx (jX (kN ((Int.gcd (-a) (-b):Nat):Int)))))] (zR (kJ kC)<|zR (kJ kC)<|zE (jV (s_gcd (cR fP) (cR dL)))<|zN (qR 3 gE gF)<|zT (qA kC)<|zZ) ?_
  refine jB<|kx [] [(0,some (bx (jX (kN ((-a).fdiv (((Int.gcd (-a) (-b):Nat):Int)))))))] (zR (kJ kC)<|zR (kJ kC)<|zE (jV (s_divide (cR fP) (eB (k:=68719476736) (cR fP) (cR dL)) (by decide) (by decide) (gcd_ne (by omega))))<|zM<|zE uX<|zE uX<|zE uX<|zT (qA kC)<|zZ) ?_
  refine jB<|kx [] [(1,some (bx (jX (kN ((-b).fdiv (((Int.gcd (-a) (-b):Nat):Int)))))))] (zR (kJ kC)<|zR (kJ kC)<|zE (jV (s_divide (cR dL) (eB (k:=68719476736) (cR fP) (cR dL)) (by decide) (by decide) (gcd_ne (by omega))))<|zM<|zE uX<|zE uX<|zE uX<|zT (qA kC)<|zZ) ?_
  refine jB<|kx [] [(2,some (bx (jJ (jR.mk (kN ((-a).fdiv (((Int.gcd (-a) (-b):Nat):Int)))) (kN ((-b).fdiv (((Int.gcd (-a) (-b):Nat):Int))))))))] (zR (kJ kC)<|zR (kJ kC)<|zE (eD pl45 qZ uG)<|zT (qA jQ)<|zZ) ?_
  refine jE ⟨_,(kI (cs:=(bx (jJ (jR.mk (kN ((-a).fdiv (((Int.gcd (-a) (-b):Nat):Int)))) (kN ((-b).fdiv (((Int.gcd (-a) (-b):Nat):Int)))))))) (d:=(jJ (jR.mk (kN ((-a).fdiv (((Int.gcd (-a) (-b):Nat):Int)))) (kN ((-b).fdiv (((Int.gcd (-a) (-b):Nat):Int))))))) rfl rfl jQ rfl rfl .nil),?_⟩
  rw[red_neg hlt];rfl
 ·replace h1:=vB h1
  have hge:¬ b<0:=fun hh=>h1 (signI_lt.2 hh)
  refine jC<|jB<|kx [(5,(.ref 4 0))] [(4,some (bx (jX (kN ((Int.gcd a b:Nat):Int)))))] (zR (kJ kC)<|zR (kJ kC)<|zE (jV (s_gcd fP dL))<|zN (qR 4 gE gF)<|zT (qA kC)<|zZ) ?_
  refine jB<|kx [] [(0,some (bx (jX (kN (a.fdiv (((Int.gcd a b:Nat):Int)))))))] (zR (kJ kC)<|zR (kJ kC)<|zE (jV (s_divide fP (eB (k:=68719476736) fP dL) (by decide) (by decide) (gcd_ne (by omega))))<|zM<|zE uX<|zE uX<|zE uX<|zT (qA kC)<|zZ) ?_
  refine jB<|kx [] [(1,some (bx (jX (kN (b.fdiv (((Int.gcd a b:Nat):Int)))))))] (zR (kJ kC)<|zR (kJ kC)<|zE (jV (s_divide dL (eB (k:=68719476736) fP dL) (by decide) (by decide) (gcd_ne (by omega))))<|zM<|zE uX<|zE uX<|zE uX<|zT (qA kC)<|zZ) ?_
  refine jB<|kx [] [(2,some (bx (jJ (jR.mk (kN (a.fdiv (((Int.gcd a b:Nat):Int)))) (kN (b.fdiv (((Int.gcd a b:Nat):Int))))))))] (zR (kJ kC)<|zR (kJ kC)<|zE (eD pl45 qZ uG)<|zT (qA jQ)<|zZ) ?_
  refine jE ⟨_,(kI (cs:=(bx (jJ (jR.mk (kN (a.fdiv (((Int.gcd a b:Nat):Int)))) (kN (b.fdiv (((Int.gcd a b:Nat):Int)))))))) (d:=(jJ (jR.mk (kN (a.fdiv (((Int.gcd a b:Nat):Int)))) (kN (b.fdiv (((Int.gcd a b:Nat):Int))))))) rfl rfl jQ rfl rfl .nil),?_⟩
  rw[red_pos hge hb];rfl
theorem bM(n:Int)(hlo:-9223372036854775808<=n:=by decide)(hhi:n<=9223372036854775807:=by decide):jO Tryz.prog 105 [(.val (.int .i64 (n)))] (jJ (jN ((n:Int):Rat))):=by
 refine qY Tryz.func105 ?_
 refine jB<|kx [(2,(.ref 0 0))] [(0,some (bx (jJ kH)))] (zN (qR 0 qZ uG)<|zZ) ?_
 refine jB<|kx [] [(0,some (bx (jJ (jR.mk (kN n) (kN 1)))))] (zM<|zE (jV (t_of n (by omega) (by omega)))<|zE (jV (t_of 1))<|zE (eD pl45 qZ uG)<|zT (qA jQ)<|zZ) ?_
 refine jE ⟨_,(kI (cs:=(bx (jJ (jR.mk (kN n) (kN 1))))) (d:=(jJ (jR.mk (kN n) (kN 1)))) rfl rfl jQ rfl rfl .nil),?_⟩
 rfl
theorem cQ(x:jR)(p:Rat)(hx:hP x p 17179869184):jO Tryz.prog 78 [(jJ x)] (.val (.bool ((kR x)))):=by
 refine qY Tryz.func78 ?_
 refine jB<|kx [(1,(.ref 0 0))] [(0,some (bx (jJ x)))] (zN (uU 0)<|zM<|zZ) ?_
 refine jB<|jB<|kx [(18,(vb ((!(vC x.num)||!(vC x.den))||decide ((uK (kG x.den))<=0))))] [] ?_ ?_
 ·refine zE (kV zB)<|zR (kJ kC)<|zE (jV (t_valid x.num (Nat.le_trans (gZ hx.n1).l (by decide))))<|zE gD<|zE (oV (vb (!(vC x.num))) (qC (by kernel_rfl)))<|?_
  rcases hb1:(!(vC x.num)) with _ | _
  ·refine zE (kV xI)<|zR (kJ kC)<|zE (jV (t_valid x.den (Nat.le_trans (gZ hx.n2).l (by decide))))<|zE gD<|zE dG<|zE (oV (vb (false||!(vC x.den))) (qC (by kernel_rfl)))<|?_
   rcases hb2:(false||!(vC x.den)) with _ | _
   ·exact zE (kV xI)<|zR (kJ kC)<|zE (jV (s_sign (gZ hx.n2)))<|zE oLe<|zE dG<|zZ
   ·exact zK<|zK<|zK<|zK<|zE yR<|zZ
  ·exact zK<|zK<|zK<|zK<|zE yR<|zM<|zK<|zK<|zK<|zK<|zE yR<|zZ
 refine jG rfl (fun h3=>?_) (fun h3=>?_)
 ·refine jB<|kx [(2,(vb false))] [] (zM<|zZ) ?_
  refine jE ⟨_,(.tmp (d:=(.val (.bool (false)))) rfl .nil),?_⟩
  rw[validR_no h3];rfl
 ·refine jC<|jB<|kx [(2,(vb ((vK (((Int.gcd (kG x.num) (kG x.den):Nat):Int)) 1) == 0)))] [] (zE (kV zB)<|zR (kJ kC)<|zE (kV xI)<|zR (kJ kC)<|zE (jV (s_gcd (gZ hx.n1) (gZ hx.n2)))<|zE (jV (t_of 1))<|zE (jV (s_compare (eB (k:=17179869184) (gZ hx.n1) (gZ hx.n2)) (lA (z:=1))))<|zE xR<|zM<|zZ) ?_
  refine jE ⟨_,(.tmp (d:=(.val (.bool (((vK (((Int.gcd (kG x.num) (kG x.den):Nat):Int)) 1) == 0))))) rfl .nil),?_⟩
  rw[validR_yes h3];rfl
theorem f_copied(x:jR)(p:Rat)(hx:hP x p 17179869184):jO Tryz.prog 224 [(jJ x)] (jJ (jR.mk (kN (-(-kG x.num))) (kN (-(-kG x.den))))):=by
 refine qY Tryz.func224 ?_
 refine jB<|kx [(1,(.ref 0 0)),(2,(.ref 1 0))] [(0,some (bx (jJ x))),(1,some (bx (jJ kH)))] (zN (uU 0)<|zN (qR 1 qZ uG)<|zZ) ?_
 refine jB<|kd [] [(1,some (bx (jJ (jR.mk (kN (-(-(kG x.num)))) (kN (-(-(kG x.den))))))))] mo (wE (kV zB)<|wR (kJ kC)<|wE (jV (s_neg (gZ hx.n1)))<|wE (jV (s_neg (cR (gZ hx.n1))))<|wE (kV xI)<|wR (kJ kC)<|wE (jV (s_neg (gZ hx.n2)))<|wE (jV (s_neg (cR (gZ hx.n2))))<|wE (eD pl45 qZ uG)<|wT (qA jQ)<|wZ) ?_
 refine jE ⟨_,(kI (cs:=(bx (jJ (jR.mk (kN (-(-(kG x.num)))) (kN (-(-(kG x.den)))))))) (d:=(jJ (jR.mk (kN (-(-(kG x.num)))) (kN (-(-(kG x.den))))))) rfl rfl jQ rfl rfl .nil),?_⟩
 rfl
theorem dS(x:jR)(p:Rat)(hx:hP x p 17179869184):jO Tryz.prog 140 [(jJ x)] (jJ (jN p)):=by
 refine qY Tryz.func140 ?_
 refine jB<|kx [(1,(.ref 0 0)),(2,(.ref 1 0))] [(0,some (bx (jJ x))),(1,some (bx (jJ kH)))] (zN (uU 0)<|zN (qR 1 qZ uG)<|zZ) ?_
 refine jB<|jB<|kx [(4,(vb (kR x)))] [] (zR (kJ jQ)<|zE (jV (cQ x p hx))<|zZ) ?_
 refine jG (b:=(kR x)) rfl (fun h1=>?_) (fun h1=>?_)
 ·refine jB<|kx [] [(1,some (bx (jJ (jR.mk (kN (-(-kG x.num))) (kN (-(-kG x.den)))))))] (zR (kJ jQ)<|zE (jV (f_copied x p hx))<|zT (qA jQ)<|zZ) ?_
  refine jE ⟨_,(kI (cs:=(bx (jJ (jR.mk (kN (-(-kG x.num))) (kN (-(-kG x.den))))))) (d:=(jJ (jR.mk (kN (-(-kG x.num))) (kN (-(-kG x.den)))))) rfl rfl jQ rfl rfl .nil),?_⟩
  rw[<- hx.v,<- copied_eq h1];rfl
 ·refine jC<|jB<|kx [] [(1,some (bx (jJ (jN ((0:Int):Rat)))))] (zE (jV (bM 0))<|zT (qA jQ)<|zZ) ?_
  refine jE ⟨_,(kI (cs:=(bx (jJ (jN ((0:Int):Rat))))) (d:=(jJ (jN ((0:Int):Rat)))) rfl rfl jQ rfl rfl .nil),?_⟩
  rw[<- hx.v,toQ_bad h1];rfl
theorem f_sign(x:jR)(p:Rat)(hx:hP x p 17179869184):jO Tryz.prog 79 [(jJ x)] (.val (.int .i64 ((mJ p)))):=by
 refine qY Tryz.func79 ?_
 refine jB<|kx [(1,(.ref 0 0))] [(0,some (bx (jJ x)))] (zN (uU 0)<|zM<|zZ) ?_
 refine jB<|kx [(2,(vi (uK p.num)))] [] (zR (kJ jQ)<|zE (jV (dS x p hx))<|zE (oFv ft45_0 kC)<|zE (jV (s_sign (uM hx.ql)))<|zM<|zZ) ?_
 refine jE ⟨_,(.tmp (d:=(.val (.int .i64 ((uK p.num))))) rfl .nil),?_⟩
 rfl
theorem f_neg(x:jR)(p:Rat)(hx:hP x p 17179869184):jO Tryz.prog 141 [(jJ x)] (jJ (jN (-p))):=by
 refine qY Tryz.func141 ?_
 refine jB<|kx [(1,(.ref 0 0)),(2,(.ref 1 0))] [(0,some (bx (jJ x))),(1,some (bx (jJ kH)))] (zN (uU 0)<|zN (qR 1 qZ uG)<|zZ) ?_
 refine jB<|kx [] [(0,some (bx (jJ (jN p))))] (zR (kJ jQ)<|zE (jV (dS x p hx))<|zT (qA jQ)<|zZ) ?_
 refine jB<|kd [] [(1,some (bx (jJ (jR.mk (kN (-p.num)) ((jN p).den)))))] mo (wE (kV zB)<|wR (kJ kC)<|wE (jV (s_neg (uM hx.ql)))<|wE (kV xI)<|wR (kJ kC)<|wE (eD pl45 qZ uG)<|wT (qA jQ)<|wZ) ?_
 refine jE ⟨_,(kI (cs:=(bx (jJ (jR.mk (kN (-p.num)) ((jN p).den))))) (d:=(jJ (jR.mk (kN (-p.num)) ((jN p).den)))) rfl rfl jQ rfl rfl .nil),?_⟩
 rfl
theorem f_add(x:jR)(y:jR)(p:Rat)(q:Rat)(hx:hP x p 17179869184)(hy:hP y q 17179869184):jO Tryz.prog 90 [(jJ x),(jJ y)] (jJ (jN (p+q))):=by
 refine qY Tryz.func90 ?_
 refine jB<|kx [(2,(.ref 0 0)),(3,(.ref 1 0)),(4,(.ref 2 0))] [(0,some (bx (jJ x))),(1,some (bx (jJ y))),(2,some (bx (jJ kH)))] (zN (uU 0)<|zN (uU 1)<|zN (qR 2 qZ uG)<|zZ) ?_
 refine jB<|kd [] [(0,some (bx (jJ (jN p)))),(1,some (bx (jJ (jN q))))] mo (wR (kJ jQ)<|wE (jV (dS x p hx))<|wR (kJ jQ)<|wE (jV (dS y q hy))<|wT (qA jQ)<|wT (qA jQ)<|wZ) ?_
 refine jB<|kd [] [(2,some (bx (jJ (jN (Rat.divInt ((p.num*(q.den:Int))+(q.num*(p.den:Int))) ((p.den:Int)*(q.den:Int)))))))] mo (wE (kV zB)<|wR (kJ kC)<|wE (kV xI)<|wR (kJ kC)<|wE (jV (s_mul (uM hx.ql) (uH hy.ql)))<|wE (kV zB)<|wR (kJ kC)<|wE (kV xI)<|wR (kJ kC)<|wE (jV (s_mul (uM hy.ql) (uH hx.ql)))<|wE (jV (s_add (yN (k:=34359738368) (uM hx.ql) (uH hy.ql)) (yN (k:=34359738368) (uM hy.ql) (uH hx.ql))))<|wE (kV xI)<|wR (kJ kC)<|wE (kV xI)<|wR (kJ kC)<|wE (jV (s_mul (uH hx.ql) (uH hy.ql)))<|wE (jV (dH (kN ((p.num*(q.den:Int))+(q.num*(p.den:Int)))) (kN ((p.den:Int)*(q.den:Int))) ((p.num*(q.den:Int))+(q.num*(p.den:Int))) ((p.den:Int)*(q.den:Int)) (gW (iok_add (k:=34359738369) (yN (k:=34359738368) (uM hx.ql) (uH hy.ql)) (yN (k:=34359738368) (uM hy.ql) (uH hx.ql)))) (gW (yN (k:=34359738368) (uH hx.ql) (uH hy.ql))) (mul_ne (aP _) (aP _))))<|wT (qA jQ)<|wZ) ?_
 refine jE ⟨_,(kI (cs:=(bx (jJ (jN (Rat.divInt ((p.num*(q.den:Int))+(q.num*(p.den:Int))) ((p.den:Int)*(q.den:Int))))))) (d:=(jJ (jN (Rat.divInt ((p.num*(q.den:Int))+(q.num*(p.den:Int))) ((p.den:Int)*(q.den:Int)))))) rfl rfl jQ rfl rfl .nil),?_⟩
 rw[add_divInt];rfl
theorem f_sub(x:jR)(y:jR)(p:Rat)(q:Rat)(hx:hP x p 17179869184)(hy:hP y q 17179869184):jO Tryz.prog 80 [(jJ x),(jJ y)] (jJ (jN (p-q))):=by
 refine qY Tryz.func80 ?_
 refine jB<|kx [(2,(.ref 0 0)),(3,(.ref 1 0)),(4,(.ref 2 0))] [(0,some (bx (jJ x))),(1,some (bx (jJ y))),(2,some (bx (jJ kH)))] (zN (uU 0)<|zN (uU 1)<|zN (qR 2 qZ uG)<|zZ) ?_
 refine jB<|kd [] [(2,some (bx (jJ (jN (p+(-q))))))] mo (wR (kJ jQ)<|wR (kJ jQ)<|wE (jV (f_neg y q hy))<|wE (jV (f_add x (jN (-q)) p (-q) hx (jW (ql_neg hy.ql))))<|wT (qA jQ)<|wZ) ?_
 refine jE ⟨_,(kI (cs:=(bx (jJ (jN (p+(-q)))))) (d:=(jJ (jN (p+(-q))))) rfl rfl jQ rfl rfl .nil),?_⟩
 rw[Rat.sub_eq_add_neg];rfl
theorem fK(x:jR)(y:jR)(p:Rat)(q:Rat)(hx:hP x p 17179869184)(hy:hP y q 17179869184):jO Tryz.prog 82 [(jJ x),(jJ y)] (jJ (jN (p*q))):=by
 refine qY Tryz.func82 ?_
 refine jB<|kx [(2,(.ref 0 0)),(3,(.ref 1 0)),(4,(.ref 2 0))] [(0,some (bx (jJ x))),(1,some (bx (jJ y))),(2,some (bx (jJ kH)))] (zN (uU 0)<|zN (uU 1)<|zN (qR 2 qZ uG)<|zZ) ?_
 refine jB<|kd [] [(0,some (bx (jJ (jN p)))),(1,some (bx (jJ (jN q))))] mo (wR (kJ jQ)<|wE (jV (dS x p hx))<|wR (kJ jQ)<|wE (jV (dS y q hy))<|wT (qA jQ)<|wT (qA jQ)<|wZ) ?_
 refine jB<|kd [] [(2,some (bx (jJ (jN (Rat.divInt (p.num*q.num) ((p.den:Int)*(q.den:Int)))))))] mo (wE (kV zB)<|wR (kJ kC)<|wE (kV zB)<|wR (kJ kC)<|wE (jV (s_mul (uM hx.ql) (uM hy.ql)))<|wE (kV xI)<|wR (kJ kC)<|wE (kV xI)<|wR (kJ kC)<|wE (jV (s_mul (uH hx.ql) (uH hy.ql)))<|wE (jV (dH (kN (p.num*q.num)) (kN ((p.den:Int)*(q.den:Int))) (p.num*q.num) ((p.den:Int)*(q.den:Int)) (gW (yN (k:=34359738368) (uM hx.ql) (uM hy.ql))) (gW (yN (k:=34359738368) (uH hx.ql) (uH hy.ql))) (mul_ne (aP _) (aP _))))<|wT (qA jQ)<|wZ) ?_
 refine jE ⟨_,(kI (cs:=(bx (jJ (jN (Rat.divInt (p.num*q.num) ((p.den:Int)*(q.den:Int))))))) (d:=(jJ (jN (Rat.divInt (p.num*q.num) ((p.den:Int)*(q.den:Int)))))) rfl rfl jQ rfl rfl .nil),?_⟩
 rw[mul_divInt];rfl
theorem f_divide(x:jR)(y:jR)(p:Rat)(q:Rat)(hx:hP x p 17179869184)(hy:hP y q 17179869184):jO Tryz.prog 261 [(jJ x),(jJ y)] (.tup [(jJ (divR p q)),(.val (.int .i64 ((divC q))))]):=by
 refine qY Tryz.func261 ?_
 refine jB<|kx [(2,(.ref 0 0)),(3,(.ref 1 0)),(4,(.ref 2 0))] [(0,some (bx (jJ x))),(1,some (bx (jJ y))),(2,some (bx (jJ kH)))] (zN (uU 0)<|zN (uU 1)<|zN (qR 2 qZ uG)<|zM<|zZ) ?_
 refine jB<|kd [] [(0,some (bx (jJ (jN p)))),(1,some (bx (jJ (jN q))))] mo (wR (kJ jQ)<|wE (jV (dS x p hx))<|wR (kJ jQ)<|wE (jV (dS y q hy))<|wT (qA jQ)<|wT (qA jQ)<|wZ) ?_
 refine jB<|jB<|kx [(13,(vb ((uK q.num) == 0)))] [] (zE (kV zB)<|zR (kJ kC)<|zE (jV (s_sign (uM hy.ql)))<|zE xR<|zZ) ?_
 refine jG (b:=((uK q.num) == 0)) rfl (fun h1=>?_) (fun h1=>?_)
 ·replace h1:=eq_of_beq h1
  have hq0:=aW.1 h1
  refine jB<|kx [(5,(jS 14))] [(2,some (bx (jJ kH)))] (zE (eD pl45 qZ uG)<|zT (qA jQ)<|zM<|zZ) ?_
  refine jE ⟨_,(kI (cs:=(bx (jJ kH))) (d:=(jJ kH)) rfl rfl jQ rfl rfl (.tmp (d:=(.val (.int .i64 (14)))) rfl .nil)),?_⟩
  rw[divR_zero hq0,divC_zero hq0];rfl
 ·replace h1:=ne_of_beq_false h1
  have hq0:q≠0:=fun hh=>h1 (aW.2 hh)
  refine jC<|jB<|kd [(5,(jS 0))] [(2,some (bx (jJ (jN (Rat.divInt (p.num*(q.den:Int)) ((p.den:Int)*q.num))))))] mo (wE (kV zB)<|wR (kJ kC)<|wE (kV xI)<|wR (kJ kC)<|wE (jV (s_mul (uM hx.ql) (uH hy.ql)))<|wE (kV xI)<|wR (kJ kC)<|wE (kV zB)<|wR (kJ kC)<|wE (jV (s_mul (uH hx.ql) (uM hy.ql)))<|wE (jV (dH (kN (p.num*(q.den:Int))) (kN ((p.den:Int)*q.num)) (p.num*(q.den:Int)) ((p.den:Int)*q.num) (gW (yN (k:=34359738368) (uM hx.ql) (uH hy.ql))) (gW (yN (k:=34359738368) (uH hx.ql) (uM hy.ql))) (mul_ne (aP _) (num_ne hq0))))<|wT (qA jQ)<|wM<|wZ) ?_
  refine jE ⟨_,(kI (cs:=(bx (jJ (jN (Rat.divInt (p.num*(q.den:Int)) ((p.den:Int)*q.num)))))) (d:=(jJ (jN (Rat.divInt (p.num*(q.den:Int)) ((p.den:Int)*q.num))))) rfl rfl jQ rfl rfl (.tmp (d:=(.val (.int .i64 (0)))) rfl .nil)),?_⟩
  rw[divR_ne hq0,divC_ne hq0,div_divInt];rfl
theorem dD(x:jR)(y:jR)(p:Rat)(q:Rat)(hx:hP x p 17179869184)(hy:hP y q 17179869184):jO Tryz.prog 81 [(jJ x),(jJ y)] (.val (.int .i64 ((yB p q)))):=by
 refine qY Tryz.func81 ?_
 refine jB<|kx [(2,(.ref 0 0)),(3,(.ref 1 0))] [(0,some (bx (jJ x))),(1,some (bx (jJ y)))] (zN (uU 0)<|zN (uU 1)<|zM<|zZ) ?_
 refine jB<|kd [] [(0,some (bx (jJ (jN p)))),(1,some (bx (jJ (jN q))))] mo (wR (kJ jQ)<|wE (jV (dS x p hx))<|wR (kJ jQ)<|wE (jV (dS y q hy))<|wT (qA jQ)<|wT (qA jQ)<|wZ) ?_
 refine jB<|kd [(4,(vi (vK (p.num*(q.den:Int)) (q.num*(p.den:Int)))))] [] mo (wE (kV zB)<|wR (kJ kC)<|wE (kV xI)<|wR (kJ kC)<|wE (jV (s_mul (uM hx.ql) (uH hy.ql)))<|wE (kV zB)<|wR (kJ kC)<|wE (kV xI)<|wR (kJ kC)<|wE (jV (s_mul (uM hy.ql) (uH hx.ql)))<|wE (jV (s_compare (yN (k:=34359738368) (uM hx.ql) (uH hy.ql)) (yN (k:=34359738368) (uM hy.ql) (uH hx.ql))))<|wM<|wZ) ?_
 refine jE ⟨_,(.tmp (d:=(.val (.int .i64 ((vK (p.num*(q.den:Int)) (q.num*(p.den:Int))))))) rfl .nil),?_⟩
 rw[<- cmpQ_cross];rfl
theorem g_reduced(num den:qF)(a b:Int)(fP:gQ num a 68719476736)(dL:gQ den b 68719476736)(hb:b≠0):jO Tryz.prog 86 [(jX num),(jX den)] (jJ (jN (Rat.divInt a b))):=by
 refine qY Tryz.func86 ?_
 refine jB<|kx [(2,(.ref 0 0)),(3,(.ref 1 0)),(4,(.ref 2 0))] [(0,some (bx (jX num))),(1,some (bx (jX den))),(2,some (bx (jJ kH)))] (zN (uU 0)<|zN (uU 1)<|zN (qR 2 qZ uG)<|zZ) ?_
 refine jB<|kx [(5,(.ref 3 0))] [(3,some (bx (jX (kN ((Int.gcd a b:Nat):Int)))))] (zR (kJ kC)<|zR (kJ kC)<|zE (jV (rs_gcd fP dL))<|zN (qR 3 gE gF)<|zT (qA kC)<|zZ) ?_
 refine jB<|jB<|kx [(17,(vb (decide ((uK b)<0))))] [] (zR (kJ kC)<|zE (jV (rs_sign dL))<|zE xK<|zZ) ?_
 refine jG (b:=decide ((uK b)<0)) rfl (fun h1=>?_) (fun h1=>?_)
 ·replace h1:=uV h1
  have hlt:=signI_lt.1 h1
  refine kx [] [(3,some (bx (jX (kN (-(((Int.gcd a b:Nat):Int)))))))] (zR (kJ kC)<|zE (jV (rs_neg (eB (k:=68719476736) fP dL)))<|zT (qA kC)<|zZ) ?_
  refine jB<|kx [(6,(.ref 4 0))] [(4,some (bx (jX (kN (a.fdiv (-(((Int.gcd a b:Nat):Int)))))))),(5,none)] (zR (kJ kC)<|zR (kJ kC)<|zE (jV (rs_divide fP (cR (eB (k:=68719476736) fP dL)) (by decide) (by decide) (by have:=gcd_ne (a:=a) hb;omega)))<|zM<|zE uX<|zE uX<|zE uX<|zN (qR 4 gE gF)<|zN (qR 5 gE gF)<|zT (qA kC)<|zT (qA kC)<|zM<|zZ) ?_
  refine jB<|kx [(9,(.ref 6 0))] [(6,some (bx (jX (kN (b.fdiv (-(((Int.gcd a b:Nat):Int)))))))),(7,none)] (zR (kJ kC)<|zR (kJ kC)<|zE (jV (rs_divide dL (cR (eB (k:=68719476736) fP dL)) (by decide) (by decide) (by have:=gcd_ne (a:=a) hb;omega)))<|zM<|zE uX<|zE uX<|zE uX<|zN (qR 6 gE gF)<|zN (qR 7 gE gF)<|zT (qA kC)<|zT (qA kC)<|zM<|zZ) ?_
  refine jB<|kx [] [(2,some (bx (jJ (jR.mk (kN (a.fdiv (-(((Int.gcd a b:Nat):Int))))) (kN (b.fdiv (-(((Int.gcd a b:Nat):Int)))))))))] (zR (kJ kC)<|zR (kJ kC)<|zE (eD pl45 qZ uG)<|zT (qA jQ)<|zZ) ?_
  refine jE ⟨_,(kI (cs:=(bx (jJ (jR.mk (kN (a.fdiv (-(((Int.gcd a b:Nat):Int))))) (kN (b.fdiv (-(((Int.gcd a b:Nat):Int))))))))) (d:=(jJ (jR.mk (kN (a.fdiv (-(((Int.gcd a b:Nat):Int))))) (kN (b.fdiv (-(((Int.gcd a b:Nat):Int)))))))) rfl rfl jQ rfl rfl .nil),?_⟩
  rw[<- red_neg2 hlt];rfl
 ·replace h1:=vB h1
  have hge:¬ b<0:=fun hh=>h1 (signI_lt.2 hh)
  refine jC<|jB<|kx [(6,(.ref 8 0))] [(8,some (bx (jX (kN (a.fdiv (((Int.gcd a b:Nat):Int))))))),(9,none)] (zR (kJ kC)<|zR (kJ kC)<|zE (jV (rs_divide fP (eB (k:=68719476736) fP dL) (by decide) (by decide) (by have:=gcd_ne (a:=a) hb;omega)))<|zM<|zE uX<|zE uX<|zE uX<|zN (qR 8 gE gF)<|zN (qR 9 gE gF)<|zT (qA kC)<|zT (qA kC)<|zM<|zZ) ?_
  refine jB<|kx [(9,(.ref 10 0))] [(10,some (bx (jX (kN (b.fdiv (((Int.gcd a b:Nat):Int))))))),(11,none)] (zR (kJ kC)<|zR (kJ kC)<|zE (jV (rs_divide dL (eB (k:=68719476736) fP dL) (by decide) (by decide) (by have:=gcd_ne (a:=a) hb;omega)))<|zM<|zE uX<|zE uX<|zE uX<|zN (qR 10 gE gF)<|zN (qR 11 gE gF)<|zT (qA kC)<|zT (qA kC)<|zM<|zZ) ?_
  refine jB<|kx [] [(2,some (bx (jJ (jR.mk (kN (a.fdiv (((Int.gcd a b:Nat):Int)))) (kN (b.fdiv (((Int.gcd a b:Nat):Int))))))))] (zR (kJ kC)<|zR (kJ kC)<|zE (eD pl45 qZ uG)<|zT (qA jQ)<|zZ) ?_
  refine jE ⟨_,(kI (cs:=(bx (jJ (jR.mk (kN (a.fdiv (((Int.gcd a b:Nat):Int)))) (kN (b.fdiv (((Int.gcd a b:Nat):Int)))))))) (d:=(jJ (jR.mk (kN (a.fdiv (((Int.gcd a b:Nat):Int)))) (kN (b.fdiv (((Int.gcd a b:Nat):Int))))))) rfl rfl jQ rfl rfl .nil),?_⟩
  rw[red_pos hge hb];rfl
theorem g_whole1(n:Int)(hlo:-9223372036854775808<=n:=by decide)(hhi:n<=9223372036854775807:=by decide):jO Tryz.prog 95 [(.val (.int .i64 (n)))] (jX (kN n)):=by
 refine qY Tryz.func95 ?_
 refine jB<|kx [(2,(.ref 0 0))] [(0,some (bx (jX (qF.mk false []))))] (zN (qR 0 gE gF)<|zZ) ?_
 refine jB<|kx [] [(0,some (bx (jX (kN n))))] (zM<|zE (jV (r_of n (by omega) (by omega)))<|zT (qA kC)<|zZ) ?_
 refine jE ⟨_,(kI (cs:=(bx (jX (kN n)))) (d:=(jX (kN n))) rfl rfl kC rfl rfl .nil),?_⟩
 rfl
theorem nR(n:Int)(hlo:-9223372036854775808<=n:=by decide)(hhi:n<=9223372036854775807:=by decide):jO Tryz.prog 56 [(.val (.int .i64 (n)))] (jJ (jN ((n:Int):Rat))):=by
 refine qY Tryz.func56 ?_
 refine jB<|kx [(2,(.ref 0 0))] [(0,some (bx (jJ kH)))] (zN (qR 0 qZ uG)<|zZ) ?_
 refine jB<|kx [] [(0,some (bx (jJ (jR.mk (kN n) (kN 1)))))] (zM<|zE (jV (g_whole1 n (by omega) (by omega)))<|zE (jV (g_whole1 1))<|zE (eD pl45 qZ uG)<|zT (qA jQ)<|zZ) ?_
 refine jE ⟨_,(kI (cs:=(bx (jJ (jR.mk (kN n) (kN 1))))) (d:=(jJ (jR.mk (kN n) (kN 1)))) rfl rfl jQ rfl rfl .nil),?_⟩
 rfl
theorem bU(x:jR)(p:Rat)(hx:hP x p 17179869184):jO Tryz.prog 54 [(jJ x)] (.val (.bool ((kR x)))):=by
 refine qY Tryz.func54 ?_
 refine jB<|kx [(1,(.ref 0 0))] [(0,some (bx (jJ x)))] (zN (uU 0)<|zM<|zZ) ?_
 refine jB<|jB<|kx [(18,(vb ((!(vC x.num)||!(vC x.den))||decide ((uK (kG x.den))<=0))))] [] ?_ ?_
 ·refine zE (kV zB)<|zR (kJ kC)<|zE (jV (r_valid x.num (Nat.le_trans (gZ hx.n1).l (by decide))))<|zE gD<|zE (oV (vb (!(vC x.num))) (qC (by kernel_rfl)))<|?_
  rcases hb1:(!(vC x.num)) with _ | _
  ·refine zE (kV xI)<|zR (kJ kC)<|zE (jV (r_valid x.den (Nat.le_trans (gZ hx.n2).l (by decide))))<|zE gD<|zE dG<|zE (oV (vb (false||!(vC x.den))) (qC (by kernel_rfl)))<|?_
   rcases hb2:(false||!(vC x.den)) with _ | _
   ·exact zE (kV xI)<|zR (kJ kC)<|zE (jV (rs_sign (gZ hx.n2)))<|zE oLe<|zE dG<|zZ
   ·exact zK<|zK<|zK<|zK<|zE yR<|zZ
  ·exact zK<|zK<|zK<|zK<|zE yR<|zM<|zK<|zK<|zK<|zK<|zE yR<|zZ
 refine jG rfl (fun h3=>?_) (fun h3=>?_)
 ·refine jB<|kx [(2,(vb false))] [] (zM<|zZ) ?_
  refine jE ⟨_,(.tmp (d:=(.val (.bool (false)))) rfl .nil),?_⟩
  rw[validR_no h3];rfl
 ·refine jC<|jB<|kx [(2,(vb ((vK (((Int.gcd (kG x.num) (kG x.den):Nat):Int)) 1) == 0)))] [] (zE (kV zB)<|zR (kJ kC)<|zE (kV xI)<|zR (kJ kC)<|zE (jV (rs_gcd (gZ hx.n1) (gZ hx.n2)))<|zE (jV (g_whole1 1))<|zE (jV (rs_compare (eB (k:=17179869184) (gZ hx.n1) (gZ hx.n2)) (lA (z:=1)) (by decide) (by decide)))<|zE xR<|zM<|zZ) ?_
  refine jE ⟨_,(.tmp (d:=(.val (.bool (((vK (((Int.gcd (kG x.num) (kG x.den):Nat):Int)) 1) == 0))))) rfl .nil),?_⟩
  rw[validR_yes h3];rfl
theorem eS(x:jR)(p:Rat)(hx:hP x p 17179869184):jO Tryz.prog 84 [(jJ x)] (jJ (jN p)):=by
 refine qY Tryz.func84 ?_
 refine jB<|kx [(1,(.ref 0 0)),(2,(.ref 1 0))] [(0,some (bx (jJ x))),(1,some (bx (jJ kH)))] (zN (uU 0)<|zN (qR 1 qZ uG)<|zZ) ?_
 refine jB<|jB<|kx [(4,(vb (kR x)))] [] (zR (kJ jQ)<|zE (jV (bU x p hx))<|zZ) ?_
 refine jG (b:=(kR x)) rfl (fun h1=>?_) (fun h1=>?_)
 ·refine jB<|kx [] [(1,some (bx (jJ x)))] (zR (kJ jQ)<|zT (qA jQ)<|zZ) ?_
  refine jE ⟨_,(kI (cs:=(bx (jJ x))) (d:=(jJ x)) rfl rfl jQ rfl rfl .nil),?_⟩
  rw[<- hx.v,bK h1];rfl
 ·refine jC<|jB<|kx [] [(1,some (bx (jJ (jN ((0:Int):Rat)))))] (zE (jV (nR 0))<|zT (qA jQ)<|zZ) ?_
  refine jE ⟨_,(kI (cs:=(bx (jJ (jN ((0:Int):Rat))))) (d:=(jJ (jN ((0:Int):Rat)))) rfl rfl jQ rfl rfl .nil),?_⟩
  rw[<- hx.v,toQ_bad h1];rfl
theorem g_sign(x:jR)(p:Rat)(hx:hP x p 17179869184):jO Tryz.prog 28 [(jJ x)] (.val (.int .i64 ((mJ p)))):=by
 refine qY Tryz.func28 ?_
 refine jB<|kx [(1,(.ref 0 0))] [(0,some (bx (jJ x)))] (zN (uU 0)<|zM<|zZ) ?_
 refine jB<|kx [(2,(vi (uK p.num)))] [] (zR (kJ jQ)<|zE (jV (eS x p hx))<|zE (oFv ft45_0 kC)<|zE (jV (rs_sign (uM hx.ql)))<|zM<|zZ) ?_
 refine jE ⟨_,(.tmp (d:=(.val (.int .i64 ((uK p.num))))) rfl .nil),?_⟩
 rfl
theorem g_neg(x:jR)(p:Rat)(hx:hP x p 17179869184):jO Tryz.prog 85 [(jJ x)] (jJ (jN (-p))):=by
 refine qY Tryz.func85 ?_
 refine jB<|kx [(1,(.ref 0 0)),(2,(.ref 1 0))] [(0,some (bx (jJ x))),(1,some (bx (jJ kH)))] (zN (uU 0)<|zN (qR 1 qZ uG)<|zZ) ?_
 refine jB<|kx [(3,(.ref 2 0))] [(2,some (bx (jJ (jN p))))] (zR (kJ jQ)<|zE (jV (eS x p hx))<|zN (qR 2 qZ uG)<|zT (qA jQ)<|zZ) ?_
 refine jB<|kd [] [(1,some (bx (jJ (jR.mk (kN (-p.num)) ((jN p).den)))))] mo (wE (kV zB)<|wR (kJ kC)<|wE (jV (rs_neg (uM hx.ql)))<|wE (kV xI)<|wR (kJ kC)<|wE (eD pl45 qZ uG)<|wT (qA jQ)<|wZ) ?_
 refine jE ⟨_,(kI (cs:=(bx (jJ (jR.mk (kN (-p.num)) ((jN p).den))))) (d:=(jJ (jR.mk (kN (-p.num)) ((jN p).den)))) rfl rfl jQ rfl rfl .nil),?_⟩
 rfl
theorem g_add(x:jR)(y:jR)(p:Rat)(q:Rat)(hx:hP x p 17179869184)(hy:hP y q 17179869184):jO Tryz.prog 35 [(jJ x),(jJ y)] (jJ (jN (p+q))):=by
 refine qY Tryz.func35 ?_
 refine jB<|kx [(2,(.ref 0 0)),(3,(.ref 1 0)),(4,(.ref 2 0))] [(0,some (bx (jJ x))),(1,some (bx (jJ y))),(2,some (bx (jJ kH)))] (zN (uU 0)<|zN (uU 1)<|zN (qR 2 qZ uG)<|zZ) ?_
 refine jB<|kx [(5,(.ref 3 0))] [(3,some (bx (jJ (jN p))))] (zR (kJ jQ)<|zE (jV (eS x p hx))<|zN (qR 3 qZ uG)<|zT (qA jQ)<|zZ) ?_
 refine jB<|kx [(6,(.ref 4 0))] [(4,some (bx (jJ (jN q))))] (zR (kJ jQ)<|zE (jV (eS y q hy))<|zN (qR 4 qZ uG)<|zT (qA jQ)<|zZ) ?_
 refine jB<|kd [] [(2,some (bx (jJ (jN (Rat.divInt ((p.num*(q.den:Int))+(q.num*(p.den:Int))) ((p.den:Int)*(q.den:Int)))))))] mo (wE (kV zB)<|wR (kJ kC)<|wE (kV xI)<|wR (kJ kC)<|wE (jV (rs_mul (uM hx.ql) (uH hy.ql)))<|wE (kV zB)<|wR (kJ kC)<|wE (kV xI)<|wR (kJ kC)<|wE (jV (rs_mul (uM hy.ql) (uH hx.ql)))<|wE (jV (rs_add (yN (k:=34359738368) (uM hx.ql) (uH hy.ql)) (yN (k:=34359738368) (uM hy.ql) (uH hx.ql)) (by decide) (by decide)))<|wE (kV xI)<|wR (kJ kC)<|wE (kV xI)<|wR (kJ kC)<|wE (jV (rs_mul (uH hx.ql) (uH hy.ql)))<|wE (jV (g_reduced (kN ((p.num*(q.den:Int))+(q.num*(p.den:Int)))) (kN ((p.den:Int)*(q.den:Int))) ((p.num*(q.den:Int))+(q.num*(p.den:Int))) ((p.den:Int)*(q.den:Int)) (gW (iok_add (k:=34359738369) (yN (k:=34359738368) (uM hx.ql) (uH hy.ql)) (yN (k:=34359738368) (uM hy.ql) (uH hx.ql)))) (gW (yN (k:=34359738368) (uH hx.ql) (uH hy.ql))) (mul_ne (aP _) (aP _))))<|wT (qA jQ)<|wZ) ?_
 refine jE ⟨_,(kI (cs:=(bx (jJ (jN (Rat.divInt ((p.num*(q.den:Int))+(q.num*(p.den:Int))) ((p.den:Int)*(q.den:Int))))))) (d:=(jJ (jN (Rat.divInt ((p.num*(q.den:Int))+(q.num*(p.den:Int))) ((p.den:Int)*(q.den:Int)))))) rfl rfl jQ rfl rfl .nil),?_⟩
 rw[add_divInt];rfl
theorem g_sub(x:jR)(y:jR)(p:Rat)(q:Rat)(hx:hP x p 17179869184)(hy:hP y q 17179869184):jO Tryz.prog 29 [(jJ x),(jJ y)] (jJ (jN (p-q))):=by
 refine qY Tryz.func29 ?_
 refine jB<|kx [(2,(.ref 0 0)),(3,(.ref 1 0)),(4,(.ref 2 0))] [(0,some (bx (jJ x))),(1,some (bx (jJ y))),(2,some (bx (jJ kH)))] (zN (uU 0)<|zN (uU 1)<|zN (qR 2 qZ uG)<|zZ) ?_
 refine jB<|kd [] [(2,some (bx (jJ (jN (p+(-q))))))] mo (wR (kJ jQ)<|wR (kJ jQ)<|wE (jV (g_neg y q hy))<|wE (jV (g_add x (jN (-q)) p (-q) hx (jW (ql_neg hy.ql))))<|wT (qA jQ)<|wZ) ?_
 refine jE ⟨_,(kI (cs:=(bx (jJ (jN (p+(-q)))))) (d:=(jJ (jN (p+(-q))))) rfl rfl jQ rfl rfl .nil),?_⟩
 rw[Rat.sub_eq_add_neg];rfl
theorem g_mul(x:jR)(y:jR)(p:Rat)(q:Rat)(hx:hP x p 17179869184)(hy:hP y q 17179869184):jO Tryz.prog 31 [(jJ x),(jJ y)] (jJ (jN (p*q))):=by
 refine qY Tryz.func31 ?_
 refine jB<|kx [(2,(.ref 0 0)),(3,(.ref 1 0)),(4,(.ref 2 0))] [(0,some (bx (jJ x))),(1,some (bx (jJ y))),(2,some (bx (jJ kH)))] (zN (uU 0)<|zN (uU 1)<|zN (qR 2 qZ uG)<|zZ) ?_
 refine jB<|kx [(5,(.ref 3 0))] [(3,some (bx (jJ (jN p))))] (zR (kJ jQ)<|zE (jV (eS x p hx))<|zN (qR 3 qZ uG)<|zT (qA jQ)<|zZ) ?_
 refine jB<|kx [(6,(.ref 4 0))] [(4,some (bx (jJ (jN q))))] (zR (kJ jQ)<|zE (jV (eS y q hy))<|zN (qR 4 qZ uG)<|zT (qA jQ)<|zZ) ?_
 refine jB<|kd [] [(2,some (bx (jJ (jN (Rat.divInt (p.num*q.num) ((p.den:Int)*(q.den:Int)))))))] mo (wE (kV zB)<|wR (kJ kC)<|wE (kV zB)<|wR (kJ kC)<|wE (jV (rs_mul (uM hx.ql) (uM hy.ql)))<|wE (kV xI)<|wR (kJ kC)<|wE (kV xI)<|wR (kJ kC)<|wE (jV (rs_mul (uH hx.ql) (uH hy.ql)))<|wE (jV (g_reduced (kN (p.num*q.num)) (kN ((p.den:Int)*(q.den:Int))) (p.num*q.num) ((p.den:Int)*(q.den:Int)) (gW (yN (k:=34359738368) (uM hx.ql) (uM hy.ql))) (gW (yN (k:=34359738368) (uH hx.ql) (uH hy.ql))) (mul_ne (aP _) (aP _))))<|wT (qA jQ)<|wZ) ?_
 refine jE ⟨_,(kI (cs:=(bx (jJ (jN (Rat.divInt (p.num*q.num) ((p.den:Int)*(q.den:Int))))))) (d:=(jJ (jN (Rat.divInt (p.num*q.num) ((p.den:Int)*(q.den:Int)))))) rfl rfl jQ rfl rfl .nil),?_⟩
 rw[mul_divInt];rfl
theorem g_new(num den:qF)(a b:Int)(fP:gQ num a 68719476736)(dL:gQ den b 68719476736):jO Tryz.prog 94 [(jX num),(jX den)] (.tup [(jJ (newR a b)),(.val (.int .i64 ((newC b))))]):=by
 refine qY Tryz.func94 ?_
 refine jB<|kx [(2,(.ref 0 0)),(3,(.ref 1 0)),(4,(.ref 2 0))] [(0,some (bx (jX num))),(1,some (bx (jX den))),(2,some (bx (jJ kH)))] (zN (uU 0)<|zN (uU 1)<|zN (qR 2 qZ uG)<|zM<|zZ) ?_
 refine jB<|jB<|kx [(8,(vb ((uK b) == 0)))] [] (zR (kJ kC)<|zE (jV (rs_sign dL))<|zE xR<|zZ) ?_
 refine jG (b:=((uK b) == 0)) rfl (fun h1=>?_) (fun h1=>?_)
 ·replace h1:=eq_of_beq h1
  have hb:b=0:=sign0 h1
  refine jB<|kx [(5,(jS 14))] [(2,some (bx (jJ kH)))] (zE (eD pl45 qZ uG)<|zT (qA jQ)<|zM<|zZ) ?_
  refine jE ⟨_,(kI (cs:=(bx (jJ kH))) (d:=(jJ kH)) rfl rfl jQ rfl rfl (.tmp (d:=(.val (.int .i64 (14)))) rfl .nil)),?_⟩
  rw[hb];rfl
 ·replace h1:=ne_of_beq_false h1
  have hb:b≠0:=fun hh=>h1 (by rw[hh];rfl)
  refine jC<|jB<|kx [(5,(jS 0))] [(2,some (bx (jJ (jN (Rat.divInt a b)))))] (zR (kJ kC)<|zR (kJ kC)<|zE (jV (g_reduced num den a b fP dL (by assumption)))<|zT (qA jQ)<|zM<|zZ) ?_
  refine jE ⟨_,(kI (cs:=(bx (jJ (jN (Rat.divInt a b))))) (d:=(jJ (jN (Rat.divInt a b)))) rfl rfl jQ rfl rfl (.tmp (d:=(.val (.int .i64 (0)))) rfl .nil)),?_⟩
  unfold newR newC;rw[if_neg hb,if_neg hb];rfl
theorem g_divide(x:jR)(y:jR)(p:Rat)(q:Rat)(hx:hP x p 17179869184)(hy:hP y q 17179869184):jO Tryz.prog 63 [(jJ x),(jJ y)] (.tup [(jJ (divR p q)),(.val (.int .i64 ((divC q))))]):=by
 refine qY Tryz.func63 ?_
 refine jB<|kx [(2,(.ref 0 0)),(3,(.ref 1 0)),(4,(.ref 2 0))] [(0,some (bx (jJ x))),(1,some (bx (jJ y))),(2,some (bx (jJ kH)))] (zN (uU 0)<|zN (uU 1)<|zN (qR 2 qZ uG)<|zM<|zZ) ?_
 refine jB<|kx [(6,(.ref 3 0))] [(3,some (bx (jJ (jN p))))] (zR (kJ jQ)<|zE (jV (eS x p hx))<|zN (qR 3 qZ uG)<|zT (qA jQ)<|zZ) ?_
 refine jB<|kx [(7,(.ref 4 0))] [(4,some (bx (jJ (jN q))))] (zR (kJ jQ)<|zE (jV (eS y q hy))<|zN (qR 4 qZ uG)<|zT (qA jQ)<|zZ) ?_
 refine jB<|kd [(5,(vi (newC ((p.den:Int)*q.num))))] [(2,some (bx (jJ (newR (p.num*(q.den:Int)) ((p.den:Int)*q.num)))))] mo (wE (kV zB)<|wR (kJ kC)<|wE (kV xI)<|wR (kJ kC)<|wE (jV (rs_mul (uM hx.ql) (uH hy.ql)))<|wE (kV xI)<|wR (kJ kC)<|wE (kV zB)<|wR (kJ kC)<|wE (jV (rs_mul (uH hx.ql) (uM hy.ql)))<|wE (jV (g_new (kN (p.num*(q.den:Int))) (kN ((p.den:Int)*q.num)) (p.num*(q.den:Int)) ((p.den:Int)*q.num) (gW (yN (k:=34359738368) (uM hx.ql) (uH hy.ql))) (gW (yN (k:=34359738368) (uH hx.ql) (uM hy.ql)))))<|wE uX<|wE uX<|wT (qA jQ)<|wM<|wZ) ?_
 refine jE ⟨_,(kI (cs:=(bx (jJ (newR (p.num*(q.den:Int)) ((p.den:Int)*q.num))))) (d:=(jJ (newR (p.num*(q.den:Int)) ((p.den:Int)*q.num)))) rfl rfl jQ rfl rfl (.tmp (d:=(.val (.int .i64 ((newC ((p.den:Int)*q.num)))))) rfl .nil)),?_⟩
 rw[newR_div,newC_div];rfl
theorem lC(x:jR)(y:jR)(p:Rat)(q:Rat)(hx:hP x p 4294967296)(hy:hP y q 4294967296):jO Tryz.prog 30 [(jJ x),(jJ y)] (.val (.int .i64 ((yB p q)))):=by
 refine qY Tryz.func30 ?_
 refine jB<|kx [(2,(.ref 0 0)),(3,(.ref 1 0))] [(0,some (bx (jJ x))),(1,some (bx (jJ y)))] (zN (uU 0)<|zN (uU 1)<|zM<|zZ) ?_
 refine jB<|kx [(4,(vi (mJ (p-q))))] [] (zR (kJ jQ)<|zR (kJ jQ)<|zE (jV (g_sub x y p q (jM hx) (jM hy)))<|zE (jV (g_sign (jN (p-q)) (p-q) (jM (jW (eL (k:=8589934593) hx.ql hy.ql)))))<|zM<|zZ) ?_
 refine jE ⟨_,(.tmp (d:=(.val (.int .i64 ((mJ (p-q)))))) rfl .nil),?_⟩
 rw[<- signQ_sub];rfl
theorem uO:xV Tryz.prog 61 0=some 0:=by kernel_rfl
theorem uT:xV Tryz.prog 61 1=some 4:=by kernel_rfl
theorem g_same(x:jR)(y:jR)(p:Rat)(q:Rat)(hx:hP x p 4294967296)(hy:hP y q 4294967296):jO Tryz.prog 24 [(jJ x),(jJ y)] (.val (.bool ((mG x y)))):=by
 refine qY Tryz.func24 ?_
 refine jB<|kx [(2,(.ref 0 0)),(3,(.ref 1 0))] [(0,some (bx (jJ x))),(1,some (bx (jJ y)))] (zN (uU 0)<|zN (uU 1)<|zM<|zZ) ?_
 refine jB<|kx [(4,(vb (((kR x)&&(kR y))&&((yB p q) == 0))))] [] ?_ ?_
 ·refine zR (kJ jQ)<|zE (jV (bU x p (jM hx)))<|zE (oV (vb (kR x)) (qC (by kernel_rfl)))<|?_
  rcases hb1:(kR x) with _ | _
  ·exact zK<|zK<|zE xQ<|zM<|zK<|zK<|zK<|zK<|zE xQ<|zM<|zZ
  ·refine zR (kJ jQ)<|zE (jV (bU y q (jM hy)))<|zE fR<|zE (oV (vb (true&&(kR y))) (qC (by kernel_rfl)))<|?_
   rcases hb2:(true&&(kR y)) with _ | _
   ·exact zK<|zK<|zK<|zK<|zE xQ<|zM<|zZ
   ·exact zR (kJ jQ)<|zR (kJ jQ)<|zE (jV (lC x y p q hx hy))<|zE xR<|zE fR<|zM<|zZ
 refine jE ⟨_,(.tmp (d:=(.val (.bool ((((kR x)&&(kR y))&&((yB p q) == 0)))))) rfl .nil),?_⟩
 unfold mG
 rw[<- sameR_eq,hx.v,hy.v];rfl
theorem nF(x:jR)(p:Rat)(hx:hP x p 140737488355328):jO Tryz.prog 26 [(jJ x)] (.val (.int .i64 ((((xP x):Nat):Int)))):=by
 have h1:=hx.n1
 have h2:=hx.n2
 refine qY Tryz.func26 ?_
 refine jB<|kx [(1,(.ref 0 0))] [(0,some (bx (jJ x)))] (zN (uU 0)<|zM<|zZ) ?_
 refine jB<|kx [(2,(jS (x.num.gs.length+x.den.gs.length)))] [] (zE (kV zB)<|zE (kV vR)<|zR (uE yD)<|zE (vP kO)<|zE (kV xI)<|zE (kV vR)<|zR (uE yD)<|zE (vP kO)<|zE (vO (x.num.gs.length+x.den.gs.length))<|zM<|zZ) ?_
 refine jE ⟨_,(.tmp (d:=(.val (.int .i64 ((((x.num.gs.length+x.den.gs.length):Nat):Int))))) rfl .nil),?_⟩
 rfl
theorem g_samerange(a b:jL)(ha:GOk 4294967296 a)(hb:GOk 4294967296 b):jO Tryz.prog 99 [(jF a),(jF b)] (.val (.bool ((mG a.lo b.lo&&mG a.hi b.hi)))):=by
 refine qY Tryz.func99 ?_
 refine jB<|kx [(2,(.ref 0 0)),(3,(.ref 1 0))] [(0,some (bx (jF a))),(1,some (bx (jF b)))] (zN (uU 0)<|zN (uU 1)<|zM<|zZ) ?_
 refine jB<|kx [(4,(vb ((mG a.lo b.lo)&&(mG a.hi b.hi))))] [] ?_ ?_
 ·refine zE (kV uO)<|zR (kJ jQ)<|zE (kV uO)<|zR (kJ jQ)<|zE (jV (g_same a.lo b.lo (qS a.lo) (qS b.lo) ha.1 hb.1))<|zE (oV (vb (mG a.lo b.lo)) (qC (by kernel_rfl)))<|?_
  rcases hb1:(mG a.lo b.lo) with _ | _
  ·exact zK<|zK<|zK<|zK<|zK<|zE xQ<|zM<|zZ
  ·exact zE (kV uT)<|zR (kJ jQ)<|zE (kV uT)<|zR (kJ jQ)<|zE (jV (g_same a.hi b.hi (qS a.hi) (qS b.hi) ha.2 hb.2))<|zE fR<|zM<|zZ
 refine jE ⟨_,(.tmp (d:=(.val (.bool (((mG a.lo b.lo)&&(mG a.hi b.hi)))))) rfl .nil),?_⟩
 rfl
end Go.Proofs.YtnajallgoaiahaaGreatDoor
