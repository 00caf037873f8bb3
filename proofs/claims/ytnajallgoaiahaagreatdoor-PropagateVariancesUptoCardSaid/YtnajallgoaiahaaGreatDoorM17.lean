/- Part 17 of a proof: rules, plain facts, and functions walked. -/
import Derived.Test.YtnajallgoaiahaaGreatDoorM16
set_option linter.all false
set_option maxRecDepth 4000
namespace Go.Proofs.YtnajallgoaiahaaGreatDoor
open Go.Fid
theorem s_neg{x:qB}{a:Int}{m:Nat}(hx:gO x a m)(hm:m≤274877906944):jR Tryz.prog 225 [(jT x)] (jT (kN (-a))):=by
 obtain ⟨rfl,hx'⟩:=hx
 exact t_neg x (by omega)
theorem s_sign{x:qB}{a:Int}{m:Nat}(hx:gO x a m)(hm:m≤274877906944):jR Tryz.prog 136 [(jT x)] (.val (.int .i64 (uG a))):=by
 obtain ⟨rfl,hx'⟩:=hx
 exact t_sign x (by omega)
theorem s_add{x y:qB}{a b:Int}{m n:Nat}(hx:gO x a m)(hy:gO y b n)(hm:m≤274877906944)(hn:n≤274877906944):jR Tryz.prog 150 [(jT x),(jT y)] (jT (kN (a+b))):=by
 obtain ⟨rfl,hx'⟩:=hx;obtain ⟨rfl,hy'⟩:=hy
 exact t_add x y (by omega) (by omega)
theorem s_mul{x y:qB}{a b:Int}{m n:Nat}(hx:gO x a m)(hy:gO y b n)(hm:m≤274877906944)(hn:n≤274877906944):jR Tryz.prog 142 [(jT x),(jT y)] (jT (kN (a*b))):=by
 obtain ⟨rfl,hx'⟩:=hx;obtain ⟨rfl,hy'⟩:=hy
 exact t_mul x y (by omega) (by omega)
theorem s_compare{x y:qB}{a b:Int}{m n:Nat}(hx:gO x a m)(hy:gO y b n)(hm:m≤274877906944)(hn:n≤274877906944):jR Tryz.prog 137 [(jT x),(jT y)] (.val (.int .i64 (vF a b))):=by
 obtain ⟨rfl,hx'⟩:=hx;obtain ⟨rfl,hy'⟩:=hy
 exact t_compareI x y (by omega) (by omega)
theorem s_gcd{x y:qB}{a b:Int}{m n:Nat}(hx:gO x a m)(hy:gO y b n)(hm:m≤274877906944)(hn:n≤274877906944):jR Tryz.prog 138 [(jT x),(jT y)] (jT (kN ((Int.gcd a b:Nat):Int))):=by
 obtain ⟨rfl,hx'⟩:=hx;obtain ⟨rfl,hy'⟩:=hy
 exact t_gcdI x y (by omega) (by omega)
theorem s_divide{x y:qB}{a b:Int}{m n:Nat}(hx:gO x a m)(hy:gO y b n)(hm:m≤274877906944)(hn:n≤274877906944)(hb:b≠0):jR Tryz.prog 227 [(jT x),(jT y)] (.tup [(jT (kN (a.fdiv b))),(jT (kN (a.fmod b))),(.val (.int .i64 0))]):=by
 obtain ⟨rfl,hx'⟩:=hx;obtain ⟨rfl,hy'⟩:=hy
 exact t_divideI x y (by omega) (by omega) hb
theorem rs_neg{x:qB}{a:Int}{m:Nat}(hx:gO x a m)(hm:m≤274877906944):jR Tryz.prog 145 [(jT x)] (jT (kN (-a))):=by
 obtain ⟨rfl,hx'⟩:=hx
 exact r_neg x (by omega)
theorem rs_sign{x:qB}{a:Int}{m:Nat}(hx:gO x a m)(hm:m≤274877906944):jR Tryz.prog 83 [(jT x)] (.val (.int .i64 (uG a))):=by
 obtain ⟨rfl,hx'⟩:=hx
 exact r_sign x (by omega)
theorem rs_add{x y:qB}{a b:Int}{m n:Nat}(hx:gO x a m)(hy:gO y b n)(hm:m≤274877906944)(hn:n≤274877906944):jR Tryz.prog 96 [(jT x),(jT y)] (jT (kN (a+b))):=by
 obtain ⟨rfl,hx'⟩:=hx;obtain ⟨rfl,hy'⟩:=hy
 exact r_add x y (by omega) (by omega)
theorem rs_mul{x y:qB}{a b:Int}{m n:Nat}(hx:gO x a m)(hy:gO y b n)(hm:m≤274877906944)(hn:n≤274877906944):jR Tryz.prog 87 [(jT x),(jT y)] (jT (kN (a*b))):=by
 obtain ⟨rfl,hx'⟩:=hx;obtain ⟨rfl,hy'⟩:=hy
 exact r_mul x y (by omega) (by omega)
theorem rs_compare{x y:qB}{a b:Int}{m n:Nat}(hx:gO x a m)(hy:gO y b n)(hm:m≤274877906944)(hn:n≤274877906944):jR Tryz.prog 117 [(jT x),(jT y)] (.val (.int .i64 (vF a b))):=by
 obtain ⟨rfl,hx'⟩:=hx;obtain ⟨rfl,hy'⟩:=hy
 exact r_compare x y (by omega) (by omega)
theorem rs_gcd{x y:qB}{a b:Int}{m n:Nat}(hx:gO x a m)(hy:gO y b n)(hm:m≤274877906944)(hn:n≤274877906944):jR Tryz.prog 118 [(jT x),(jT y)] (jT (kN ((Int.gcd a b:Nat):Int))):=by
 obtain ⟨rfl,hx'⟩:=hx;obtain ⟨rfl,hy'⟩:=hy
 exact r_gcd x y (by omega) (by omega)
theorem rs_divide{x y:qB}{a b:Int}{m n:Nat}(hx:gO x a m)(hy:gO y b n)(hm:m≤274877906944)(hn:n≤274877906944)(hb:b≠0):jR Tryz.prog 146 [(jT x),(jT y)] (.tup [(jT (kN (a.fdiv b))),(jT (kN (a.fmod b))),(.val (.int .i64 0))]):=by
 obtain ⟨rfl,hx'⟩:=hx;obtain ⟨rfl,hy'⟩:=hy
 exact r_divide x y (by omega) (by omega) hb
theorem cb78:callB Tryz.prog 78=true:=by kernel_rfl
theorem cb79:callB Tryz.prog 79=true:=by kernel_rfl
theorem cb80:callB Tryz.prog 80=true:=by kernel_rfl
theorem cb81:callB Tryz.prog 81=true:=by kernel_rfl
theorem cb82:callB Tryz.prog 82=true:=by kernel_rfl
theorem cb90:callB Tryz.prog 90=true:=by kernel_rfl
theorem cb105:callB Tryz.prog 105=true:=by kernel_rfl
theorem cb140:callB Tryz.prog 140=true:=by kernel_rfl
theorem cb141:callB Tryz.prog 141=true:=by kernel_rfl
theorem cb143:callB Tryz.prog 143=true:=by kernel_rfl
theorem cb224:callB Tryz.prog 224=true:=by kernel_rfl
theorem cb261:callB Tryz.prog 261=true:=by kernel_rfl
theorem xU:zG Tryz.prog 45 0=some 0:=by kernel_rfl
theorem xJ:zG Tryz.prog 45 1=some 2:=by kernel_rfl
theorem ft45_0:iO Tryz.prog 45 0=some (0,43):=by kernel_rfl
theorem pl45:eS Tryz.prog 45=some [(0,2),(2,2)]:=by kernel_rfl
theorem jS:qW Tryz.prog 45=some (true,4):=by kernel_rfl
theorem qU:yE Tryz.prog 45=some [.bool false,.slice none 0 0,.bool false,.slice none 0 0]:=by kernel_rfl
theorem qY:bA [.bool false,.slice none 0 0,.bool false,.slice none 0 0] [.val (.bool false),.sl 140 1 [],.val (.bool false),.sl 140 1 []]:=by simp [bA,Value.oneCell']
theorem cU(num den:qB)(a b:Int)(aE:gO num a 68719476736)(eJ:gO den b 68719476736)(hb:b≠0):jR Tryz.prog 143 [(jT num),(jT den)] (jK (jN (Rat.divInt a b))):=by
 refine jJ Tryz.func143 rfl cb143 rfl ?_
 show qG _ _ _ _ ⟨[(0,(.d (jT num))),(1,(.d (jT den)))],[]⟩
 refine jB<|kx [(2,(.ref 0 0)),(3,(.ref 1 0)),(4,(.ref 2 0))] [(0,some (bx (jT num))),(1,some (bx (jT den))),(2,some (bx (jK kZ)))] (zN (vA 0)<|zN (vA 1)<|zN (qV 2 qU qY)<|zZ) ?_
 refine jB<|jB<|kx [(8,(vb (decide ((uG b)<0))))] [] (zR (kK kF)<|zE (jY (s_sign eJ (by decide)))<|zE xK<|zZ) ?_
 refine jG (b:=decide ((uG b)<0)) rfl (fun h1=>?_) (fun h1=>?_)
 ·replace h1:=uP h1
  have hlt:=signI_lt.1 h1
  have hb2:-b≠0:=by omega
  refine kd [] [(0,some (bx (jT (kN (-a))))),(1,some (bx (jT (kN (-b)))))] mo (wR (kK kF)<|wE (jY (s_neg aE (by decide)))<|wR (kK kF)<|wE (jY (s_neg eJ (by decide)))<|wT (qA kF)<|wT (qA kF)<|wZ) ?_
  refine jB<|kx [(5,(.ref 3 0))] [(3,some (bx (jT (kN ((Int.gcd (-a) (-b):Nat):Int)))))] (zR (kK kF)<|zR (kK kF)<|zE (jY (s_gcd (cL aE) (cL eJ) (by decide) (by decide)))<|zN (qV 3 gD gB)<|zT (qA kF)<|zZ) ?_
  refine jB<|kx [] [(0,some (bx (jT (kN ((-a).fdiv (((Int.gcd (-a) (-b):Nat):Int)))))))] (zR (kK kF)<|zR (kK kF)<|zE (jY (s_divide (cL aE) (dY (k:=68719476736) (cL aE) (cL eJ) (by decide)) (by decide) (by decide) (gcd_ne (by omega))))<|zM<|zE uT<|zE uT<|zE uT<|zT (qA kF)<|zZ) ?_
  refine jB<|kx [] [(1,some (bx (jT (kN ((-b).fdiv (((Int.gcd (-a) (-b):Nat):Int)))))))] (zR (kK kF)<|zR (kK kF)<|zE (jY (s_divide (cL eJ) (dY (k:=68719476736) (cL aE) (cL eJ) (by decide)) (by decide) (by decide) (gcd_ne (by omega))))<|zM<|zE uT<|zE uT<|zE uT<|zT (qA kF)<|zZ) ?_
  refine jB<|kx [] [(2,some (bx (jK (jQ.mk (kN ((-a).fdiv (((Int.gcd (-a) (-b):Nat):Int)))) (kN ((-b).fdiv (((Int.gcd (-a) (-b):Nat):Int))))))))] (zR (kK kF)<|zR (kK kF)<|zE (eX pl45 qU qY)<|zT (qA jS)<|zZ) ?_
  refine jE ⟨_,(kH (cs:=(bx (jK (jQ.mk (kN ((-a).fdiv (((Int.gcd (-a) (-b):Nat):Int)))) (kN ((-b).fdiv (((Int.gcd (-a) (-b):Nat):Int)))))))) (d:=(jK (jQ.mk (kN ((-a).fdiv (((Int.gcd (-a) (-b):Nat):Int)))) (kN ((-b).fdiv (((Int.gcd (-a) (-b):Nat):Int))))))) rfl rfl jS rfl rfl .nil),?_⟩
  rw[red_neg hlt];rfl
 ·replace h1:=uR h1
  have hge:¬ b<0:=fun hh=>h1 (signI_lt.2 hh)
  refine jD<|jB<|kx [(5,(.ref 4 0))] [(4,some (bx (jT (kN ((Int.gcd a b:Nat):Int)))))] (zR (kK kF)<|zR (kK kF)<|zE (jY (s_gcd aE eJ (by decide) (by decide)))<|zN (qV 4 gD gB)<|zT (qA kF)<|zZ) ?_
  refine jB<|kx [] [(0,some (bx (jT (kN (a.fdiv (((Int.gcd a b:Nat):Int)))))))] (zR (kK kF)<|zR (kK kF)<|zE (jY (s_divide aE (dY (k:=68719476736) aE eJ (by decide)) (by decide) (by decide) (gcd_ne (by omega))))<|zM<|zE uT<|zE uT<|zE uT<|zT (qA kF)<|zZ) ?_
  refine jB<|kx [] [(1,some (bx (jT (kN (b.fdiv (((Int.gcd a b:Nat):Int)))))))] (zR (kK kF)<|zR (kK kF)<|zE (jY (s_divide eJ (dY (k:=68719476736) aE eJ (by decide)) (by decide) (by decide) (gcd_ne (by omega))))<|zM<|zE uT<|zE uT<|zE uT<|zT (qA kF)<|zZ) ?_
  refine jB<|kx [] [(2,some (bx (jK (jQ.mk (kN (a.fdiv (((Int.gcd a b:Nat):Int)))) (kN (b.fdiv (((Int.gcd a b:Nat):Int))))))))] (zR (kK kF)<|zR (kK kF)<|zE (eX pl45 qU qY)<|zT (qA jS)<|zZ) ?_
  refine jE ⟨_,(kH (cs:=(bx (jK (jQ.mk (kN (a.fdiv (((Int.gcd a b:Nat):Int)))) (kN (b.fdiv (((Int.gcd a b:Nat):Int)))))))) (d:=(jK (jQ.mk (kN (a.fdiv (((Int.gcd a b:Nat):Int)))) (kN (b.fdiv (((Int.gcd a b:Nat):Int))))))) rfl rfl jS rfl rfl .nil),?_⟩
  rw[red_pos hge hb];rfl
theorem f_whole(n:Int)(hlo:-9223372036854775808≤n)(hhi:n≤9223372036854775807):jR Tryz.prog 105 [(.val (.int .i64 (n)))] (jK (jN ((n:Int):Rat))):=by
 refine jJ Tryz.func105 rfl cb105 rfl ?_
 show qG _ _ _ _ ⟨[(0,(vi n))],[]⟩
 refine jB<|kx [(2,(.ref 0 0))] [(0,some (bx (jK kZ)))] (zN (qV 0 qU qY)<|zZ) ?_
 refine jB<|kx [] [(0,some (bx (jK (jQ.mk (kN n) (kN 1)))))] (zM<|zE (jY (t_of n (by omega) (by omega)))<|zE (jY (t_of 1 (by decide) (by decide)))<|zE (eX pl45 qU qY)<|zT (qA jS)<|zZ) ?_
 refine jE ⟨_,(kH (cs:=(bx (jK (jQ.mk (kN n) (kN 1))))) (d:=(jK (jQ.mk (kN n) (kN 1)))) rfl rfl jS rfl rfl .nil),?_⟩
 rfl
theorem cQ(x:jQ)(p:Rat)(hx:gW x p 17179869184):jR Tryz.prog 78 [(jK x)] (.val (.bool ((kR x)))):=by
 refine jJ Tryz.func78 rfl cb78 rfl ?_
 show qG _ _ _ _ ⟨[(0,(.d (jK x)))],[]⟩
 refine jB<|kx [(1,(.ref 0 0))] [(0,some (bx (jK x)))] (zN (vA 0)<|zM<|zZ) ?_
 refine jB<|jB<|kx [(18,(vb ((!(uV x.num)||!(uV x.den))||decide ((uG (kG x.den))≤0))))] [] ?_ ?_
 ·refine zE (kY xU)<|zR (kK kF)<|zE (jY (t_valid x.num (Nat.le_trans (gQ hx.n1).l (by decide))))<|zE mD<|zE (oV (vb (!(uV x.num))) (qC (by kernel_rfl)))<|?_
  rcases hb1:(!(uV x.num)) with _ | _
  ·refine zE (kY xJ)<|zR (kK kF)<|zE (jY (t_valid x.den (Nat.le_trans (gQ hx.n2).l (by decide))))<|zE mD<|zE eP<|zE (oV (vb (false||!(uV x.den))) (qC (by kernel_rfl)))<|?_
   rcases hb2:(false||!(uV x.den)) with _ | _
   ·exact zE (kY xJ)<|zR (kK kF)<|zE (jY (s_sign (gQ hx.n2) (by decide)))<|zE oLe<|zE eP<|zZ
   ·exact zK<|zK<|zK<|zK<|zE gR<|zZ
  ·exact zK<|zK<|zK<|zK<|zE gR<|zM<|zK<|zK<|zK<|zK<|zE gR<|zZ
 refine jG rfl (fun h3=>?_) (fun h3=>?_)
 ·refine jB<|kx [(2,(vb false))] [] (zM<|zZ) ?_
  refine jE ⟨_,(.tmp (d:=(.val (.bool (false)))) rfl .nil),?_⟩
  rw[validR_no h3];rfl
 ·refine jD<|jB<|kx [(2,(vb ((vF (((Int.gcd (kG x.num) (kG x.den):Nat):Int)) 1) == 0)))] [] (zE (kY xU)<|zR (kK kF)<|zE (kY xJ)<|zR (kK kF)<|zE (jY (s_gcd (gQ hx.n1) (gQ hx.n2) (by decide) (by decide)))<|zE (jY (t_of 1 (by decide) (by decide)))<|zE (jY (s_compare (dY (k:=17179869184) (gQ hx.n1) (gQ hx.n2) (by decide)) (bU (z:=1) (by decide)) (by decide) (by decide)))<|zE xR<|zM<|zZ) ?_
  refine jE ⟨_,(.tmp (d:=(.val (.bool (((vF (((Int.gcd (kG x.num) (kG x.den):Nat):Int)) 1) == 0))))) rfl .nil),?_⟩
  rw[validR_yes h3];rfl
theorem f_copied(x:jQ)(p:Rat)(hx:gW x p 17179869184):jR Tryz.prog 224 [(jK x)] (jK (jQ.mk (kN (-(-kG x.num))) (kN (-(-kG x.den))))):=by
 refine jJ Tryz.func224 rfl cb224 rfl ?_
 show qG _ _ _ _ ⟨[(0,(.d (jK x)))],[]⟩
 refine jB<|kx [(1,(.ref 0 0)),(2,(.ref 1 0))] [(0,some (bx (jK x))),(1,some (bx (jK kZ)))] (zN (vA 0)<|zN (qV 1 qU qY)<|zZ) ?_
 refine jB<|kd [] [(1,some (bx (jK (jQ.mk (kN (-(-(kG x.num)))) (kN (-(-(kG x.den))))))))] mo (wE (kY xU)<|wR (kK kF)<|wE (jY (s_neg (gQ hx.n1) (by decide)))<|wE (jY (s_neg (cL (gQ hx.n1)) (by decide)))<|wE (kY xJ)<|wR (kK kF)<|wE (jY (s_neg (gQ hx.n2) (by decide)))<|wE (jY (s_neg (cL (gQ hx.n2)) (by decide)))<|wE (eX pl45 qU qY)<|wT (qA jS)<|wZ) ?_
 refine jE ⟨_,(kH (cs:=(bx (jK (jQ.mk (kN (-(-(kG x.num)))) (kN (-(-(kG x.den)))))))) (d:=(jK (jQ.mk (kN (-(-(kG x.num)))) (kN (-(-(kG x.den))))))) rfl rfl jS rfl rfl .nil),?_⟩
 rfl
theorem dH(x:jQ)(p:Rat)(hx:gW x p 17179869184):jR Tryz.prog 140 [(jK x)] (jK (jN p)):=by
 refine jJ Tryz.func140 rfl cb140 rfl ?_
 show qG _ _ _ _ ⟨[(0,(.d (jK x)))],[]⟩
 refine jB<|kx [(1,(.ref 0 0)),(2,(.ref 1 0))] [(0,some (bx (jK x))),(1,some (bx (jK kZ)))] (zN (vA 0)<|zN (qV 1 qU qY)<|zZ) ?_
 refine jB<|jB<|kx [(4,(vb (kR x)))] [] (zR (kK jS)<|zE (jY (cQ x p hx))<|zZ) ?_
 refine jG (b:=(kR x)) rfl (fun h1=>?_) (fun h1=>?_)
 ·refine jB<|kx [] [(1,some (bx (jK (jQ.mk (kN (-(-kG x.num))) (kN (-(-kG x.den)))))))] (zR (kK jS)<|zE (jY (f_copied x p hx))<|zT (qA jS)<|zZ) ?_
  refine jE ⟨_,(kH (cs:=(bx (jK (jQ.mk (kN (-(-kG x.num))) (kN (-(-kG x.den))))))) (d:=(jK (jQ.mk (kN (-(-kG x.num))) (kN (-(-kG x.den)))))) rfl rfl jS rfl rfl .nil),?_⟩
  rw[← hx.v,← copied_eq h1];rfl
 ·refine jD<|jB<|kx [] [(1,some (bx (jK (jN ((0:Int):Rat)))))] (zE (jY (f_whole 0 (by decide) (by decide)))<|zT (qA jS)<|zZ) ?_
  refine jE ⟨_,(kH (cs:=(bx (jK (jN ((0:Int):Rat))))) (d:=(jK (jN ((0:Int):Rat)))) rfl rfl jS rfl rfl .nil),?_⟩
  rw[← hx.v,toQ_bad h1];rfl
theorem f_sign(x:jQ)(p:Rat)(hx:gW x p 17179869184):jR Tryz.prog 79 [(jK x)] (.val (.int .i64 ((nX p)))):=by
 refine jJ Tryz.func79 rfl cb79 rfl ?_
 show qG _ _ _ _ ⟨[(0,(.d (jK x)))],[]⟩
 refine jB<|kx [(1,(.ref 0 0))] [(0,some (bx (jK x)))] (zN (vA 0)<|zM<|zZ) ?_
 refine jB<|kx [(2,(vi (uG p.num)))] [] (zR (kK jS)<|zE (jY (dH x p hx))<|zE (oFv ft45_0 kF)<|zE (jY (s_sign (uI hx.ql) (by decide)))<|zM<|zZ) ?_
 refine jE ⟨_,(.tmp (d:=(.val (.int .i64 ((uG p.num))))) rfl .nil),?_⟩
 rfl
theorem f_neg(x:jQ)(p:Rat)(hx:gW x p 17179869184):jR Tryz.prog 141 [(jK x)] (jK (jN (-p))):=by
 refine jJ Tryz.func141 rfl cb141 rfl ?_
 show qG _ _ _ _ ⟨[(0,(.d (jK x)))],[]⟩
 refine jB<|kx [(1,(.ref 0 0)),(2,(.ref 1 0))] [(0,some (bx (jK x))),(1,some (bx (jK kZ)))] (zN (vA 0)<|zN (qV 1 qU qY)<|zZ) ?_
 refine jB<|kx [] [(0,some (bx (jK (jN p))))] (zR (kK jS)<|zE (jY (dH x p hx))<|zT (qA jS)<|zZ) ?_
 refine jB<|kd [] [(1,some (bx (jK (jQ.mk (kN (-p.num)) ((jN p).den)))))] mo (wE (kY xU)<|wR (kK kF)<|wE (jY (s_neg (uI hx.ql) (by decide)))<|wE (kY xJ)<|wR (kK kF)<|wE (eX pl45 qU qY)<|wT (qA jS)<|wZ) ?_
 refine jE ⟨_,(kH (cs:=(bx (jK (jQ.mk (kN (-p.num)) ((jN p).den))))) (d:=(jK (jQ.mk (kN (-p.num)) ((jN p).den)))) rfl rfl jS rfl rfl .nil),?_⟩
 rfl
theorem f_add(x:jQ)(y:jQ)(p:Rat)(q:Rat)(hx:gW x p 17179869184)(hy:gW y q 17179869184):jR Tryz.prog 90 [(jK x),(jK y)] (jK (jN (p+q))):=by
 refine jJ Tryz.func90 rfl cb90 rfl ?_
 show qG _ _ _ _ ⟨[(0,(.d (jK x))),(1,(.d (jK y)))],[]⟩
 refine jB<|kx [(2,(.ref 0 0)),(3,(.ref 1 0)),(4,(.ref 2 0))] [(0,some (bx (jK x))),(1,some (bx (jK y))),(2,some (bx (jK kZ)))] (zN (vA 0)<|zN (vA 1)<|zN (qV 2 qU qY)<|zZ) ?_
 refine jB<|kd [] [(0,some (bx (jK (jN p)))),(1,some (bx (jK (jN q))))] mo (wR (kK jS)<|wE (jY (dH x p hx))<|wR (kK jS)<|wE (jY (dH y q hy))<|wT (qA jS)<|wT (qA jS)<|wZ) ?_
 refine jB<|kd [] [(2,some (bx (jK (jN (Rat.divInt ((p.num*(q.den:Int))+(q.num*(p.den:Int))) ((p.den:Int)*(q.den:Int)))))))] mo (wE (kY xU)<|wR (kK kF)<|wE (kY xJ)<|wR (kK kF)<|wE (jY (s_mul (uI hx.ql) (uD hy.ql) (by decide) (by decide)))<|wE (kY xU)<|wR (kK kF)<|wE (kY xJ)<|wR (kK kF)<|wE (jY (s_mul (uI hy.ql) (uD hx.ql) (by decide) (by decide)))<|wE (jY (s_add (yH (k:=34359738368) (uI hx.ql) (uD hy.ql) (by decide)) (yH (k:=34359738368) (uI hy.ql) (uD hx.ql) (by decide)) (by decide) (by decide)))<|wE (kY xJ)<|wR (kK kF)<|wE (kY xJ)<|wR (kK kF)<|wE (jY (s_mul (uD hx.ql) (uD hy.ql) (by decide) (by decide)))<|wE (jY (cU (kN ((p.num*(q.den:Int))+(q.num*(p.den:Int)))) (kN ((p.den:Int)*(q.den:Int))) ((p.num*(q.den:Int))+(q.num*(p.den:Int))) ((p.den:Int)*(q.den:Int)) (nC (iok_add (k:=34359738369) (yH (k:=34359738368) (uI hx.ql) (uD hy.ql) (by decide)) (yH (k:=34359738368) (uI hy.ql) (uD hx.ql) (by decide)) (by decide)) (by decide)) (nC (yH (k:=34359738368) (uD hx.ql) (uD hy.ql) (by decide)) (by decide)) (mul_ne (fX _) (fX _))))<|wT (qA jS)<|wZ) ?_
 refine jE ⟨_,(kH (cs:=(bx (jK (jN (Rat.divInt ((p.num*(q.den:Int))+(q.num*(p.den:Int))) ((p.den:Int)*(q.den:Int))))))) (d:=(jK (jN (Rat.divInt ((p.num*(q.den:Int))+(q.num*(p.den:Int))) ((p.den:Int)*(q.den:Int)))))) rfl rfl jS rfl rfl .nil),?_⟩
 rw[add_divInt];rfl
theorem f_sub(x:jQ)(y:jQ)(p:Rat)(q:Rat)(hx:gW x p 17179869184)(hy:gW y q 17179869184):jR Tryz.prog 80 [(jK x),(jK y)] (jK (jN (p-q))):=by
 refine jJ Tryz.func80 rfl cb80 rfl ?_
 show qG _ _ _ _ ⟨[(0,(.d (jK x))),(1,(.d (jK y)))],[]⟩
 refine jB<|kx [(2,(.ref 0 0)),(3,(.ref 1 0)),(4,(.ref 2 0))] [(0,some (bx (jK x))),(1,some (bx (jK y))),(2,some (bx (jK kZ)))] (zN (vA 0)<|zN (vA 1)<|zN (qV 2 qU qY)<|zZ) ?_
 refine jB<|kd [] [(2,some (bx (jK (jN (p+(-q))))))] mo (wR (kK jS)<|wR (kK jS)<|wE (jY (f_neg y q hy))<|wE (jY (f_add x (jN (-q)) p (-q) hx (jZ (ql_neg hy.ql))))<|wT (qA jS)<|wZ) ?_
 refine jE ⟨_,(kH (cs:=(bx (jK (jN (p+(-q)))))) (d:=(jK (jN (p+(-q))))) rfl rfl jS rfl rfl .nil),?_⟩
 rw[Rat.sub_eq_add_neg];rfl
theorem fD(x:jQ)(y:jQ)(p:Rat)(q:Rat)(hx:gW x p 17179869184)(hy:gW y q 17179869184):jR Tryz.prog 82 [(jK x),(jK y)] (jK (jN (p*q))):=by
 refine jJ Tryz.func82 rfl cb82 rfl ?_
 show qG _ _ _ _ ⟨[(0,(.d (jK x))),(1,(.d (jK y)))],[]⟩
 refine jB<|kx [(2,(.ref 0 0)),(3,(.ref 1 0)),(4,(.ref 2 0))] [(0,some (bx (jK x))),(1,some (bx (jK y))),(2,some (bx (jK kZ)))] (zN (vA 0)<|zN (vA 1)<|zN (qV 2 qU qY)<|zZ) ?_
 refine jB<|kd [] [(0,some (bx (jK (jN p)))),(1,some (bx (jK (jN q))))] mo (wR (kK jS)<|wE (jY (dH x p hx))<|wR (kK jS)<|wE (jY (dH y q hy))<|wT (qA jS)<|wT (qA jS)<|wZ) ?_
 refine jB<|kd [] [(2,some (bx (jK (jN (Rat.divInt (p.num*q.num) ((p.den:Int)*(q.den:Int)))))))] mo (wE (kY xU)<|wR (kK kF)<|wE (kY xU)<|wR (kK kF)<|wE (jY (s_mul (uI hx.ql) (uI hy.ql) (by decide) (by decide)))<|wE (kY xJ)<|wR (kK kF)<|wE (kY xJ)<|wR (kK kF)<|wE (jY (s_mul (uD hx.ql) (uD hy.ql) (by decide) (by decide)))<|wE (jY (cU (kN (p.num*q.num)) (kN ((p.den:Int)*(q.den:Int))) (p.num*q.num) ((p.den:Int)*(q.den:Int)) (nC (yH (k:=34359738368) (uI hx.ql) (uI hy.ql) (by decide)) (by decide)) (nC (yH (k:=34359738368) (uD hx.ql) (uD hy.ql) (by decide)) (by decide)) (mul_ne (fX _) (fX _))))<|wT (qA jS)<|wZ) ?_
 refine jE ⟨_,(kH (cs:=(bx (jK (jN (Rat.divInt (p.num*q.num) ((p.den:Int)*(q.den:Int))))))) (d:=(jK (jN (Rat.divInt (p.num*q.num) ((p.den:Int)*(q.den:Int)))))) rfl rfl jS rfl rfl .nil),?_⟩
 rw[mul_divInt];rfl
theorem f_divide(x:jQ)(y:jQ)(p:Rat)(q:Rat)(hx:gW x p 17179869184)(hy:gW y q 17179869184):jR Tryz.prog 261 [(jK x),(jK y)] (.tup [(jK (divR p q)),(.val (.int .i64 ((divC q))))]):=by
 refine jJ Tryz.func261 rfl cb261 rfl ?_
 show qG _ _ _ _ ⟨[(0,(.d (jK x))),(1,(.d (jK y)))],[]⟩
 refine jB<|kx [(2,(.ref 0 0)),(3,(.ref 1 0)),(4,(.ref 2 0))] [(0,some (bx (jK x))),(1,some (bx (jK y))),(2,some (bx (jK kZ)))] (zN (vA 0)<|zN (vA 1)<|zN (qV 2 qU qY)<|zM<|zZ) ?_
 refine jB<|kd [] [(0,some (bx (jK (jN p)))),(1,some (bx (jK (jN q))))] mo (wR (kK jS)<|wE (jY (dH x p hx))<|wR (kK jS)<|wE (jY (dH y q hy))<|wT (qA jS)<|wT (qA jS)<|wZ) ?_
 refine jB<|jB<|kx [(13,(vb ((uG q.num) == 0)))] [] (zE (kY xU)<|zR (kK kF)<|zE (jY (s_sign (uI hy.ql) (by decide)))<|zE xR<|zZ) ?_
 refine jG (b:=((uG q.num) == 0)) rfl (fun h1=>?_) (fun h1=>?_)
 ·replace h1:=eq_of_beq h1
  have hq0:=aB.1 h1
  refine jB<|kx [(5,(jP 14))] [(2,some (bx (jK kZ)))] (zE (eX pl45 qU qY)<|zT (qA jS)<|zM<|zZ) ?_
  refine jE ⟨_,(kH (cs:=(bx (jK kZ))) (d:=(jK kZ)) rfl rfl jS rfl rfl (.tmp (d:=(.val (.int .i64 (14)))) rfl .nil)),?_⟩
  rw[divR_zero hq0,divC_zero hq0];rfl
 ·replace h1:=ne_of_beq_false h1
  have hq0:q≠0:=fun hh=>h1 (aB.2 hh)
  refine jD<|jB<|kd [(5,(jP 0))] [(2,some (bx (jK (jN (Rat.divInt (p.num*(q.den:Int)) ((p.den:Int)*q.num))))))] mo (wE (kY xU)<|wR (kK kF)<|wE (kY xJ)<|wR (kK kF)<|wE (jY (s_mul (uI hx.ql) (uD hy.ql) (by decide) (by decide)))<|wE (kY xJ)<|wR (kK kF)<|wE (kY xU)<|wR (kK kF)<|wE (jY (s_mul (uD hx.ql) (uI hy.ql) (by decide) (by decide)))<|wE (jY (cU (kN (p.num*(q.den:Int))) (kN ((p.den:Int)*q.num)) (p.num*(q.den:Int)) ((p.den:Int)*q.num) (nC (yH (k:=34359738368) (uI hx.ql) (uD hy.ql) (by decide)) (by decide)) (nC (yH (k:=34359738368) (uD hx.ql) (uI hy.ql) (by decide)) (by decide)) (mul_ne (fX _) (num_ne hq0))))<|wT (qA jS)<|wM<|wZ) ?_
  refine jE ⟨_,(kH (cs:=(bx (jK (jN (Rat.divInt (p.num*(q.den:Int)) ((p.den:Int)*q.num)))))) (d:=(jK (jN (Rat.divInt (p.num*(q.den:Int)) ((p.den:Int)*q.num))))) rfl rfl jS rfl rfl (.tmp (d:=(.val (.int .i64 (0)))) rfl .nil)),?_⟩
  rw[divR_ne hq0,divC_ne hq0,div_divInt];rfl
theorem cY(x:jQ)(y:jQ)(p:Rat)(q:Rat)(hx:gW x p 17179869184)(hy:gW y q 17179869184):jR Tryz.prog 81 [(jK x),(jK y)] (.val (.int .i64 ((yC p q)))):=by
 refine jJ Tryz.func81 rfl cb81 rfl ?_
 show qG _ _ _ _ ⟨[(0,(.d (jK x))),(1,(.d (jK y)))],[]⟩
 refine jB<|kx [(2,(.ref 0 0)),(3,(.ref 1 0))] [(0,some (bx (jK x))),(1,some (bx (jK y)))] (zN (vA 0)<|zN (vA 1)<|zM<|zZ) ?_
 refine jB<|kd [] [(0,some (bx (jK (jN p)))),(1,some (bx (jK (jN q))))] mo (wR (kK jS)<|wE (jY (dH x p hx))<|wR (kK jS)<|wE (jY (dH y q hy))<|wT (qA jS)<|wT (qA jS)<|wZ) ?_
 refine jB<|kd [(4,(vi (vF (p.num*(q.den:Int)) (q.num*(p.den:Int)))))] [] mo (wE (kY xU)<|wR (kK kF)<|wE (kY xJ)<|wR (kK kF)<|wE (jY (s_mul (uI hx.ql) (uD hy.ql) (by decide) (by decide)))<|wE (kY xU)<|wR (kK kF)<|wE (kY xJ)<|wR (kK kF)<|wE (jY (s_mul (uI hy.ql) (uD hx.ql) (by decide) (by decide)))<|wE (jY (s_compare (yH (k:=34359738368) (uI hx.ql) (uD hy.ql) (by decide)) (yH (k:=34359738368) (uI hy.ql) (uD hx.ql) (by decide)) (by decide) (by decide)))<|wM<|wZ) ?_
 refine jE ⟨_,(.tmp (d:=(.val (.int .i64 ((vF (p.num*(q.den:Int)) (q.num*(p.den:Int))))))) rfl .nil),?_⟩
 rw[← cmpQ_cross];rfl
theorem cb28:callB Tryz.prog 28=true:=by kernel_rfl
theorem cb29:callB Tryz.prog 29=true:=by kernel_rfl
theorem cb30:callB Tryz.prog 30=true:=by kernel_rfl
theorem cb31:callB Tryz.prog 31=true:=by kernel_rfl
theorem cb35:callB Tryz.prog 35=true:=by kernel_rfl
theorem cb54:callB Tryz.prog 54=true:=by kernel_rfl
theorem cb56:callB Tryz.prog 56=true:=by kernel_rfl
theorem cb63:callB Tryz.prog 63=true:=by kernel_rfl
theorem cb84:callB Tryz.prog 84=true:=by kernel_rfl
theorem cb85:callB Tryz.prog 85=true:=by kernel_rfl
theorem cb86:callB Tryz.prog 86=true:=by kernel_rfl
theorem cb94:callB Tryz.prog 94=true:=by kernel_rfl
theorem cb95:callB Tryz.prog 95=true:=by kernel_rfl
theorem g_reduced(num den:qB)(a b:Int)(aE:gO num a 68719476736)(eJ:gO den b 68719476736)(hb:b≠0):jR Tryz.prog 86 [(jT num),(jT den)] (jK (jN (Rat.divInt a b))):=by
 refine jJ Tryz.func86 rfl cb86 rfl ?_
 show qG _ _ _ _ ⟨[(0,(.d (jT num))),(1,(.d (jT den)))],[]⟩
 refine jB<|kx [(2,(.ref 0 0)),(3,(.ref 1 0)),(4,(.ref 2 0))] [(0,some (bx (jT num))),(1,some (bx (jT den))),(2,some (bx (jK kZ)))] (zN (vA 0)<|zN (vA 1)<|zN (qV 2 qU qY)<|zZ) ?_
 refine jB<|kx [(5,(.ref 3 0))] [(3,some (bx (jT (kN ((Int.gcd a b:Nat):Int)))))] (zR (kK kF)<|zR (kK kF)<|zE (jY (rs_gcd aE eJ (by decide) (by decide)))<|zN (qV 3 gD gB)<|zT (qA kF)<|zZ) ?_
 refine jB<|jB<|kx [(17,(vb (decide ((uG b)<0))))] [] (zR (kK kF)<|zE (jY (rs_sign eJ (by decide)))<|zE xK<|zZ) ?_
 refine jG (b:=decide ((uG b)<0)) rfl (fun h1=>?_) (fun h1=>?_)
 ·replace h1:=uP h1
  have hlt:=signI_lt.1 h1
  refine kx [] [(3,some (bx (jT (kN (-(((Int.gcd a b:Nat):Int)))))))] (zR (kK kF)<|zE (jY (rs_neg (dY (k:=68719476736) aE eJ (by decide)) (by decide)))<|zT (qA kF)<|zZ) ?_
  refine jB<|kx [(6,(.ref 4 0))] [(4,some (bx (jT (kN (a.fdiv (-(((Int.gcd a b:Nat):Int)))))))),(5,none)] (zR (kK kF)<|zR (kK kF)<|zE (jY (rs_divide aE (cL (dY (k:=68719476736) aE eJ (by decide))) (by decide) (by decide) (by have:=gcd_ne (a:=a) hb;omega)))<|zM<|zE uT<|zE uT<|zE uT<|zN (qV 4 gD gB)<|zN (qV 5 gD gB)<|zT (qA kF)<|zT (qA kF)<|zM<|zZ) ?_
  refine jB<|kx [(9,(.ref 6 0))] [(6,some (bx (jT (kN (b.fdiv (-(((Int.gcd a b:Nat):Int)))))))),(7,none)] (zR (kK kF)<|zR (kK kF)<|zE (jY (rs_divide eJ (cL (dY (k:=68719476736) aE eJ (by decide))) (by decide) (by decide) (by have:=gcd_ne (a:=a) hb;omega)))<|zM<|zE uT<|zE uT<|zE uT<|zN (qV 6 gD gB)<|zN (qV 7 gD gB)<|zT (qA kF)<|zT (qA kF)<|zM<|zZ) ?_
  refine jB<|kx [] [(2,some (bx (jK (jQ.mk (kN (a.fdiv (-(((Int.gcd a b:Nat):Int))))) (kN (b.fdiv (-(((Int.gcd a b:Nat):Int)))))))))] (zR (kK kF)<|zR (kK kF)<|zE (eX pl45 qU qY)<|zT (qA jS)<|zZ) ?_
  refine jE ⟨_,(kH (cs:=(bx (jK (jQ.mk (kN (a.fdiv (-(((Int.gcd a b:Nat):Int))))) (kN (b.fdiv (-(((Int.gcd a b:Nat):Int))))))))) (d:=(jK (jQ.mk (kN (a.fdiv (-(((Int.gcd a b:Nat):Int))))) (kN (b.fdiv (-(((Int.gcd a b:Nat):Int)))))))) rfl rfl jS rfl rfl .nil),?_⟩
  rw[← red_neg2 hlt];rfl
 ·replace h1:=uR h1
  have hge:¬ b<0:=fun hh=>h1 (signI_lt.2 hh)
  refine jD<|jB<|kx [(6,(.ref 8 0))] [(8,some (bx (jT (kN (a.fdiv (((Int.gcd a b:Nat):Int))))))),(9,none)] (zR (kK kF)<|zR (kK kF)<|zE (jY (rs_divide aE (dY (k:=68719476736) aE eJ (by decide)) (by decide) (by decide) (by have:=gcd_ne (a:=a) hb;omega)))<|zM<|zE uT<|zE uT<|zE uT<|zN (qV 8 gD gB)<|zN (qV 9 gD gB)<|zT (qA kF)<|zT (qA kF)<|zM<|zZ) ?_
  refine jB<|kx [(9,(.ref 10 0))] [(10,some (bx (jT (kN (b.fdiv (((Int.gcd a b:Nat):Int))))))),(11,none)] (zR (kK kF)<|zR (kK kF)<|zE (jY (rs_divide eJ (dY (k:=68719476736) aE eJ (by decide)) (by decide) (by decide) (by have:=gcd_ne (a:=a) hb;omega)))<|zM<|zE uT<|zE uT<|zE uT<|zN (qV 10 gD gB)<|zN (qV 11 gD gB)<|zT (qA kF)<|zT (qA kF)<|zM<|zZ) ?_
  refine jB<|kx [] [(2,some (bx (jK (jQ.mk (kN (a.fdiv (((Int.gcd a b:Nat):Int)))) (kN (b.fdiv (((Int.gcd a b:Nat):Int))))))))] (zR (kK kF)<|zR (kK kF)<|zE (eX pl45 qU qY)<|zT (qA jS)<|zZ) ?_
  refine jE ⟨_,(kH (cs:=(bx (jK (jQ.mk (kN (a.fdiv (((Int.gcd a b:Nat):Int)))) (kN (b.fdiv (((Int.gcd a b:Nat):Int)))))))) (d:=(jK (jQ.mk (kN (a.fdiv (((Int.gcd a b:Nat):Int)))) (kN (b.fdiv (((Int.gcd a b:Nat):Int))))))) rfl rfl jS rfl rfl .nil),?_⟩
  rw[red_pos hge hb];rfl
theorem g_whole1(n:Int)(hlo:-9223372036854775808≤n)(hhi:n≤9223372036854775807):jR Tryz.prog 95 [(.val (.int .i64 (n)))] (jT (kN n)):=by
 refine jJ Tryz.func95 rfl cb95 rfl ?_
 show qG _ _ _ _ ⟨[(0,(vi n))],[]⟩
 refine jB<|kx [(2,(.ref 0 0))] [(0,some (bx (jT (qB.mk false []))))] (zN (qV 0 gD gB)<|zZ) ?_
 refine jB<|kx [] [(0,some (bx (jT (kN n))))] (zM<|zE (jY (r_of n (by omega) (by omega)))<|zT (qA kF)<|zZ) ?_
 refine jE ⟨_,(kH (cs:=(bx (jT (kN n)))) (d:=(jT (kN n))) rfl rfl kF rfl rfl .nil),?_⟩
 rfl
theorem hH(n:Int)(hlo:-9223372036854775808≤n)(hhi:n≤9223372036854775807):jR Tryz.prog 56 [(.val (.int .i64 (n)))] (jK (jN ((n:Int):Rat))):=by
 refine jJ Tryz.func56 rfl cb56 rfl ?_
 show qG _ _ _ _ ⟨[(0,(vi n))],[]⟩
 refine jB<|kx [(2,(.ref 0 0))] [(0,some (bx (jK kZ)))] (zN (qV 0 qU qY)<|zZ) ?_
 refine jB<|kx [] [(0,some (bx (jK (jQ.mk (kN n) (kN 1)))))] (zM<|zE (jY (g_whole1 n (by omega) (by omega)))<|zE (jY (g_whole1 1 (by decide) (by decide)))<|zE (eX pl45 qU qY)<|zT (qA jS)<|zZ) ?_
 refine jE ⟨_,(kH (cs:=(bx (jK (jQ.mk (kN n) (kN 1))))) (d:=(jK (jQ.mk (kN n) (kN 1)))) rfl rfl jS rfl rfl .nil),?_⟩
 rfl
theorem iX(x:jQ)(p:Rat)(hx:gW x p 17179869184):jR Tryz.prog 54 [(jK x)] (.val (.bool ((kR x)))):=by
 refine jJ Tryz.func54 rfl cb54 rfl ?_
 show qG _ _ _ _ ⟨[(0,(.d (jK x)))],[]⟩
 refine jB<|kx [(1,(.ref 0 0))] [(0,some (bx (jK x)))] (zN (vA 0)<|zM<|zZ) ?_
 refine jB<|jB<|kx [(18,(vb ((!(uV x.num)||!(uV x.den))||decide ((uG (kG x.den))≤0))))] [] ?_ ?_
 ·refine zE (kY xU)<|zR (kK kF)<|zE (jY (r_valid x.num (Nat.le_trans (gQ hx.n1).l (by decide))))<|zE mD<|zE (oV (vb (!(uV x.num))) (qC (by kernel_rfl)))<|?_
  rcases hb1:(!(uV x.num)) with _ | _
  ·refine zE (kY xJ)<|zR (kK kF)<|zE (jY (r_valid x.den (Nat.le_trans (gQ hx.n2).l (by decide))))<|zE mD<|zE eP<|zE (oV (vb (false||!(uV x.den))) (qC (by kernel_rfl)))<|?_
   rcases hb2:(false||!(uV x.den)) with _ | _
   ·exact zE (kY xJ)<|zR (kK kF)<|zE (jY (rs_sign (gQ hx.n2) (by decide)))<|zE oLe<|zE eP<|zZ
   ·exact zK<|zK<|zK<|zK<|zE gR<|zZ
  ·exact zK<|zK<|zK<|zK<|zE gR<|zM<|zK<|zK<|zK<|zK<|zE gR<|zZ
 refine jG rfl (fun h3=>?_) (fun h3=>?_)
 ·refine jB<|kx [(2,(vb false))] [] (zM<|zZ) ?_
  refine jE ⟨_,(.tmp (d:=(.val (.bool (false)))) rfl .nil),?_⟩
  rw[validR_no h3];rfl
 ·refine jD<|jB<|kx [(2,(vb ((vF (((Int.gcd (kG x.num) (kG x.den):Nat):Int)) 1) == 0)))] [] (zE (kY xU)<|zR (kK kF)<|zE (kY xJ)<|zR (kK kF)<|zE (jY (rs_gcd (gQ hx.n1) (gQ hx.n2) (by decide) (by decide)))<|zE (jY (g_whole1 1 (by decide) (by decide)))<|zE (jY (rs_compare (dY (k:=17179869184) (gQ hx.n1) (gQ hx.n2) (by decide)) (bU (z:=1) (by decide)) (by decide) (by decide)))<|zE xR<|zM<|zZ) ?_
  refine jE ⟨_,(.tmp (d:=(.val (.bool (((vF (((Int.gcd (kG x.num) (kG x.den):Nat):Int)) 1) == 0))))) rfl .nil),?_⟩
  rw[validR_yes h3];rfl
theorem eO(x:jQ)(p:Rat)(hx:gW x p 17179869184):jR Tryz.prog 84 [(jK x)] (jK (jN p)):=by
 refine jJ Tryz.func84 rfl cb84 rfl ?_
 show qG _ _ _ _ ⟨[(0,(.d (jK x)))],[]⟩
 refine jB<|kx [(1,(.ref 0 0)),(2,(.ref 1 0))] [(0,some (bx (jK x))),(1,some (bx (jK kZ)))] (zN (vA 0)<|zN (qV 1 qU qY)<|zZ) ?_
 refine jB<|jB<|kx [(4,(vb (kR x)))] [] (zR (kK jS)<|zE (jY (iX x p hx))<|zZ) ?_
 refine jG (b:=(kR x)) rfl (fun h1=>?_) (fun h1=>?_)
 ·refine jB<|kx [] [(1,some (bx (jK x)))] (zR (kK jS)<|zT (qA jS)<|zZ) ?_
  refine jE ⟨_,(kH (cs:=(bx (jK x))) (d:=(jK x)) rfl rfl jS rfl rfl .nil),?_⟩
  rw[← hx.v,ofQ_toQ h1];rfl
 ·refine jD<|jB<|kx [] [(1,some (bx (jK (jN ((0:Int):Rat)))))] (zE (jY (hH 0 (by decide) (by decide)))<|zT (qA jS)<|zZ) ?_
  refine jE ⟨_,(kH (cs:=(bx (jK (jN ((0:Int):Rat))))) (d:=(jK (jN ((0:Int):Rat)))) rfl rfl jS rfl rfl .nil),?_⟩
  rw[← hx.v,toQ_bad h1];rfl
theorem g_sign(x:jQ)(p:Rat)(hx:gW x p 17179869184):jR Tryz.prog 28 [(jK x)] (.val (.int .i64 ((nX p)))):=by
 refine jJ Tryz.func28 rfl cb28 rfl ?_
 show qG _ _ _ _ ⟨[(0,(.d (jK x)))],[]⟩
 refine jB<|kx [(1,(.ref 0 0))] [(0,some (bx (jK x)))] (zN (vA 0)<|zM<|zZ) ?_
 refine jB<|kx [(2,(vi (uG p.num)))] [] (zR (kK jS)<|zE (jY (eO x p hx))<|zE (oFv ft45_0 kF)<|zE (jY (rs_sign (uI hx.ql) (by decide)))<|zM<|zZ) ?_
 refine jE ⟨_,(.tmp (d:=(.val (.int .i64 ((uG p.num))))) rfl .nil),?_⟩
 rfl
theorem g_neg(x:jQ)(p:Rat)(hx:gW x p 17179869184):jR Tryz.prog 85 [(jK x)] (jK (jN (-p))):=by
 refine jJ Tryz.func85 rfl cb85 rfl ?_
 show qG _ _ _ _ ⟨[(0,(.d (jK x)))],[]⟩
 refine jB<|kx [(1,(.ref 0 0)),(2,(.ref 1 0))] [(0,some (bx (jK x))),(1,some (bx (jK kZ)))] (zN (vA 0)<|zN (qV 1 qU qY)<|zZ) ?_
 refine jB<|kx [(3,(.ref 2 0))] [(2,some (bx (jK (jN p))))] (zR (kK jS)<|zE (jY (eO x p hx))<|zN (qV 2 qU qY)<|zT (qA jS)<|zZ) ?_
 refine jB<|kd [] [(1,some (bx (jK (jQ.mk (kN (-p.num)) ((jN p).den)))))] mo (wE (kY xU)<|wR (kK kF)<|wE (jY (rs_neg (uI hx.ql) (by decide)))<|wE (kY xJ)<|wR (kK kF)<|wE (eX pl45 qU qY)<|wT (qA jS)<|wZ) ?_
 refine jE ⟨_,(kH (cs:=(bx (jK (jQ.mk (kN (-p.num)) ((jN p).den))))) (d:=(jK (jQ.mk (kN (-p.num)) ((jN p).den)))) rfl rfl jS rfl rfl .nil),?_⟩
 rfl
theorem g_add(x:jQ)(y:jQ)(p:Rat)(q:Rat)(hx:gW x p 17179869184)(hy:gW y q 17179869184):jR Tryz.prog 35 [(jK x),(jK y)] (jK (jN (p+q))):=by
 refine jJ Tryz.func35 rfl cb35 rfl ?_
 show qG _ _ _ _ ⟨[(0,(.d (jK x))),(1,(.d (jK y)))],[]⟩
 refine jB<|kx [(2,(.ref 0 0)),(3,(.ref 1 0)),(4,(.ref 2 0))] [(0,some (bx (jK x))),(1,some (bx (jK y))),(2,some (bx (jK kZ)))] (zN (vA 0)<|zN (vA 1)<|zN (qV 2 qU qY)<|zZ) ?_
 refine jB<|kx [(5,(.ref 3 0))] [(3,some (bx (jK (jN p))))] (zR (kK jS)<|zE (jY (eO x p hx))<|zN (qV 3 qU qY)<|zT (qA jS)<|zZ) ?_
 refine jB<|kx [(6,(.ref 4 0))] [(4,some (bx (jK (jN q))))] (zR (kK jS)<|zE (jY (eO y q hy))<|zN (qV 4 qU qY)<|zT (qA jS)<|zZ) ?_
 refine jB<|kd [] [(2,some (bx (jK (jN (Rat.divInt ((p.num*(q.den:Int))+(q.num*(p.den:Int))) ((p.den:Int)*(q.den:Int)))))))] mo (wE (kY xU)<|wR (kK kF)<|wE (kY xJ)<|wR (kK kF)<|wE (jY (rs_mul (uI hx.ql) (uD hy.ql) (by decide) (by decide)))<|wE (kY xU)<|wR (kK kF)<|wE (kY xJ)<|wR (kK kF)<|wE (jY (rs_mul (uI hy.ql) (uD hx.ql) (by decide) (by decide)))<|wE (jY (rs_add (yH (k:=34359738368) (uI hx.ql) (uD hy.ql) (by decide)) (yH (k:=34359738368) (uI hy.ql) (uD hx.ql) (by decide)) (by decide) (by decide)))<|wE (kY xJ)<|wR (kK kF)<|wE (kY xJ)<|wR (kK kF)<|wE (jY (rs_mul (uD hx.ql) (uD hy.ql) (by decide) (by decide)))<|wE (jY (g_reduced (kN ((p.num*(q.den:Int))+(q.num*(p.den:Int)))) (kN ((p.den:Int)*(q.den:Int))) ((p.num*(q.den:Int))+(q.num*(p.den:Int))) ((p.den:Int)*(q.den:Int)) (nC (iok_add (k:=34359738369) (yH (k:=34359738368) (uI hx.ql) (uD hy.ql) (by decide)) (yH (k:=34359738368) (uI hy.ql) (uD hx.ql) (by decide)) (by decide)) (by decide)) (nC (yH (k:=34359738368) (uD hx.ql) (uD hy.ql) (by decide)) (by decide)) (mul_ne (fX _) (fX _))))<|wT (qA jS)<|wZ) ?_
 refine jE ⟨_,(kH (cs:=(bx (jK (jN (Rat.divInt ((p.num*(q.den:Int))+(q.num*(p.den:Int))) ((p.den:Int)*(q.den:Int))))))) (d:=(jK (jN (Rat.divInt ((p.num*(q.den:Int))+(q.num*(p.den:Int))) ((p.den:Int)*(q.den:Int)))))) rfl rfl jS rfl rfl .nil),?_⟩
 rw[add_divInt];rfl
theorem g_sub(x:jQ)(y:jQ)(p:Rat)(q:Rat)(hx:gW x p 17179869184)(hy:gW y q 17179869184):jR Tryz.prog 29 [(jK x),(jK y)] (jK (jN (p-q))):=by
 refine jJ Tryz.func29 rfl cb29 rfl ?_
 show qG _ _ _ _ ⟨[(0,(.d (jK x))),(1,(.d (jK y)))],[]⟩
 refine jB<|kx [(2,(.ref 0 0)),(3,(.ref 1 0)),(4,(.ref 2 0))] [(0,some (bx (jK x))),(1,some (bx (jK y))),(2,some (bx (jK kZ)))] (zN (vA 0)<|zN (vA 1)<|zN (qV 2 qU qY)<|zZ) ?_
 refine jB<|kd [] [(2,some (bx (jK (jN (p+(-q))))))] mo (wR (kK jS)<|wR (kK jS)<|wE (jY (g_neg y q hy))<|wE (jY (g_add x (jN (-q)) p (-q) hx (jZ (ql_neg hy.ql))))<|wT (qA jS)<|wZ) ?_
 refine jE ⟨_,(kH (cs:=(bx (jK (jN (p+(-q)))))) (d:=(jK (jN (p+(-q))))) rfl rfl jS rfl rfl .nil),?_⟩
 rw[Rat.sub_eq_add_neg];rfl
theorem g_mul(x:jQ)(y:jQ)(p:Rat)(q:Rat)(hx:gW x p 17179869184)(hy:gW y q 17179869184):jR Tryz.prog 31 [(jK x),(jK y)] (jK (jN (p*q))):=by
 refine jJ Tryz.func31 rfl cb31 rfl ?_
 show qG _ _ _ _ ⟨[(0,(.d (jK x))),(1,(.d (jK y)))],[]⟩
 refine jB<|kx [(2,(.ref 0 0)),(3,(.ref 1 0)),(4,(.ref 2 0))] [(0,some (bx (jK x))),(1,some (bx (jK y))),(2,some (bx (jK kZ)))] (zN (vA 0)<|zN (vA 1)<|zN (qV 2 qU qY)<|zZ) ?_
 refine jB<|kx [(5,(.ref 3 0))] [(3,some (bx (jK (jN p))))] (zR (kK jS)<|zE (jY (eO x p hx))<|zN (qV 3 qU qY)<|zT (qA jS)<|zZ) ?_
 refine jB<|kx [(6,(.ref 4 0))] [(4,some (bx (jK (jN q))))] (zR (kK jS)<|zE (jY (eO y q hy))<|zN (qV 4 qU qY)<|zT (qA jS)<|zZ) ?_
 refine jB<|kd [] [(2,some (bx (jK (jN (Rat.divInt (p.num*q.num) ((p.den:Int)*(q.den:Int)))))))] mo (wE (kY xU)<|wR (kK kF)<|wE (kY xU)<|wR (kK kF)<|wE (jY (rs_mul (uI hx.ql) (uI hy.ql) (by decide) (by decide)))<|wE (kY xJ)<|wR (kK kF)<|wE (kY xJ)<|wR (kK kF)<|wE (jY (rs_mul (uD hx.ql) (uD hy.ql) (by decide) (by decide)))<|wE (jY (g_reduced (kN (p.num*q.num)) (kN ((p.den:Int)*(q.den:Int))) (p.num*q.num) ((p.den:Int)*(q.den:Int)) (nC (yH (k:=34359738368) (uI hx.ql) (uI hy.ql) (by decide)) (by decide)) (nC (yH (k:=34359738368) (uD hx.ql) (uD hy.ql) (by decide)) (by decide)) (mul_ne (fX _) (fX _))))<|wT (qA jS)<|wZ) ?_
 refine jE ⟨_,(kH (cs:=(bx (jK (jN (Rat.divInt (p.num*q.num) ((p.den:Int)*(q.den:Int))))))) (d:=(jK (jN (Rat.divInt (p.num*q.num) ((p.den:Int)*(q.den:Int)))))) rfl rfl jS rfl rfl .nil),?_⟩
 rw[mul_divInt];rfl
theorem g_new(num den:qB)(a b:Int)(aE:gO num a 68719476736)(eJ:gO den b 68719476736):jR Tryz.prog 94 [(jT num),(jT den)] (.tup [(jK (newR a b)),(.val (.int .i64 ((newC b))))]):=by
 refine jJ Tryz.func94 rfl cb94 rfl ?_
 show qG _ _ _ _ ⟨[(0,(.d (jT num))),(1,(.d (jT den)))],[]⟩
 refine jB<|kx [(2,(.ref 0 0)),(3,(.ref 1 0)),(4,(.ref 2 0))] [(0,some (bx (jT num))),(1,some (bx (jT den))),(2,some (bx (jK kZ)))] (zN (vA 0)<|zN (vA 1)<|zN (qV 2 qU qY)<|zM<|zZ) ?_
 refine jB<|jB<|kx [(8,(vb ((uG b) == 0)))] [] (zR (kK kF)<|zE (jY (rs_sign eJ (by decide)))<|zE xR<|zZ) ?_
 refine jG (b:=((uG b) == 0)) rfl (fun h1=>?_) (fun h1=>?_)
 ·replace h1:=eq_of_beq h1
  have hb:b=0:=sign0 h1
  refine jB<|kx [(5,(jP 14))] [(2,some (bx (jK kZ)))] (zE (eX pl45 qU qY)<|zT (qA jS)<|zM<|zZ) ?_
  refine jE ⟨_,(kH (cs:=(bx (jK kZ))) (d:=(jK kZ)) rfl rfl jS rfl rfl (.tmp (d:=(.val (.int .i64 (14)))) rfl .nil)),?_⟩
  rw[hb];rfl
 ·replace h1:=ne_of_beq_false h1
  have hb:b≠0:=fun hh=>h1 (by rw[hh];rfl)
  refine jD<|jB<|kx [(5,(jP 0))] [(2,some (bx (jK (jN (Rat.divInt a b)))))] (zR (kK kF)<|zR (kK kF)<|zE (jY (g_reduced num den a b aE eJ (by assumption)))<|zT (qA jS)<|zM<|zZ) ?_
  refine jE ⟨_,(kH (cs:=(bx (jK (jN (Rat.divInt a b))))) (d:=(jK (jN (Rat.divInt a b)))) rfl rfl jS rfl rfl (.tmp (d:=(.val (.int .i64 (0)))) rfl .nil)),?_⟩
  unfold newR newC;rw[if_neg hb,if_neg hb];rfl
theorem g_divide(x:jQ)(y:jQ)(p:Rat)(q:Rat)(hx:gW x p 17179869184)(hy:gW y q 17179869184):jR Tryz.prog 63 [(jK x),(jK y)] (.tup [(jK (divR p q)),(.val (.int .i64 ((divC q))))]):=by
 refine jJ Tryz.func63 rfl cb63 rfl ?_
 show qG _ _ _ _ ⟨[(0,(.d (jK x))),(1,(.d (jK y)))],[]⟩
 refine jB<|kx [(2,(.ref 0 0)),(3,(.ref 1 0)),(4,(.ref 2 0))] [(0,some (bx (jK x))),(1,some (bx (jK y))),(2,some (bx (jK kZ)))] (zN (vA 0)<|zN (vA 1)<|zN (qV 2 qU qY)<|zM<|zZ) ?_
 refine jB<|kx [(6,(.ref 3 0))] [(3,some (bx (jK (jN p))))] (zR (kK jS)<|zE (jY (eO x p hx))<|zN (qV 3 qU qY)<|zT (qA jS)<|zZ) ?_
 refine jB<|kx [(7,(.ref 4 0))] [(4,some (bx (jK (jN q))))] (zR (kK jS)<|zE (jY (eO y q hy))<|zN (qV 4 qU qY)<|zT (qA jS)<|zZ) ?_
 refine jB<|kd [(5,(vi (newC ((p.den:Int)*q.num))))] [(2,some (bx (jK (newR (p.num*(q.den:Int)) ((p.den:Int)*q.num)))))] mo (wE (kY xU)<|wR (kK kF)<|wE (kY xJ)<|wR (kK kF)<|wE (jY (rs_mul (uI hx.ql) (uD hy.ql) (by decide) (by decide)))<|wE (kY xJ)<|wR (kK kF)<|wE (kY xU)<|wR (kK kF)<|wE (jY (rs_mul (uD hx.ql) (uI hy.ql) (by decide) (by decide)))<|wE (jY (g_new (kN (p.num*(q.den:Int))) (kN ((p.den:Int)*q.num)) (p.num*(q.den:Int)) ((p.den:Int)*q.num) (nC (yH (k:=34359738368) (uI hx.ql) (uD hy.ql) (by decide)) (by decide)) (nC (yH (k:=34359738368) (uD hx.ql) (uI hy.ql) (by decide)) (by decide))))<|wE uT<|wE uT<|wT (qA jS)<|wM<|wZ) ?_
 refine jE ⟨_,(kH (cs:=(bx (jK (newR (p.num*(q.den:Int)) ((p.den:Int)*q.num))))) (d:=(jK (newR (p.num*(q.den:Int)) ((p.den:Int)*q.num)))) rfl rfl jS rfl rfl (.tmp (d:=(.val (.int .i64 ((newC ((p.den:Int)*q.num)))))) rfl .nil)),?_⟩
 rw[newR_div,newC_div];rfl
theorem bY(x:jQ)(y:jQ)(p:Rat)(q:Rat)(hx:gW x p 4294967296)(hy:gW y q 4294967296):jR Tryz.prog 30 [(jK x),(jK y)] (.val (.int .i64 ((yC p q)))):=by
 refine jJ Tryz.func30 rfl cb30 rfl ?_
 show qG _ _ _ _ ⟨[(0,(.d (jK x))),(1,(.d (jK y)))],[]⟩
 refine jB<|kx [(2,(.ref 0 0)),(3,(.ref 1 0))] [(0,some (bx (jK x))),(1,some (bx (jK y)))] (zN (vA 0)<|zN (vA 1)<|zM<|zZ) ?_
 refine jB<|kx [(4,(vi (nX (p-q))))] [] (zR (kK jS)<|zR (kK jS)<|zE (jY (g_sub x y p q (jO hx (by decide)) (jO hy (by decide))))<|zE (jY (g_sign (jN (p-q)) (p-q) (jO (jZ (bC (k:=8589934593) hx.ql hy.ql (by decide))) (by decide))))<|zM<|zZ) ?_
 refine jE ⟨_,(.tmp (d:=(.val (.int .i64 ((nX (p-q)))))) rfl .nil),?_⟩
 rw[← signQ_sub];rfl
theorem cb24:callB Tryz.prog 24=true:=by kernel_rfl
theorem cb26:callB Tryz.prog 26=true:=by kernel_rfl
theorem cb99:callB Tryz.prog 99=true:=by kernel_rfl
theorem vK:zG Tryz.prog 61 0=some 0:=by kernel_rfl
theorem vY:zG Tryz.prog 61 1=some 4:=by kernel_rfl
theorem g_same(x:jQ)(y:jQ)(p:Rat)(q:Rat)(hx:gW x p 4294967296)(hy:gW y q 4294967296):jR Tryz.prog 24 [(jK x),(jK y)] (.val (.bool ((mA x y)))):=by
 refine jJ Tryz.func24 rfl cb24 rfl ?_
 show qG _ _ _ _ ⟨[(0,(.d (jK x))),(1,(.d (jK y)))],[]⟩
 refine jB<|kx [(2,(.ref 0 0)),(3,(.ref 1 0))] [(0,some (bx (jK x))),(1,some (bx (jK y)))] (zN (vA 0)<|zN (vA 1)<|zM<|zZ) ?_
 refine jB<|kx [(4,(vb (((kR x)&&(kR y))&&((yC p q) == 0))))] [] ?_ ?_
 ·refine zR (kK jS)<|zE (jY (iX x p (jO hx (by decide))))<|zE (oV (vb (kR x)) (qC (by kernel_rfl)))<|?_
  rcases hb1:(kR x) with _ | _
  ·exact zK<|zK<|zE yP<|zM<|zK<|zK<|zK<|zK<|zE yP<|zM<|zZ
  ·refine zR (kK jS)<|zE (jY (iX y q (jO hy (by decide))))<|zE fA<|zE (oV (vb (true&&(kR y))) (qC (by kernel_rfl)))<|?_
   rcases hb2:(true&&(kR y)) with _ | _
   ·exact zK<|zK<|zK<|zK<|zE yP<|zM<|zZ
   ·exact zR (kK jS)<|zR (kK jS)<|zE (jY (bY x y p q hx hy))<|zE xR<|zE fA<|zM<|zZ
 refine jE ⟨_,(.tmp (d:=(.val (.bool ((((kR x)&&(kR y))&&((yC p q) == 0)))))) rfl .nil),?_⟩
 unfold mA
 rw[← sameR_eq,hx.v,hy.v];rfl
theorem g_digits(x:jQ)(p:Rat)(hx:gW x p 140737488355328):jR Tryz.prog 26 [(jK x)] (.val (.int .i64 ((((digR x):Nat):Int)))):=by
 have h1:=hx.n1
 have h2:=hx.n2
 refine jJ Tryz.func26 rfl cb26 rfl ?_
 show qG _ _ _ _ ⟨[(0,(.d (jK x)))],[]⟩
 refine jB<|kx [(1,(.ref 0 0))] [(0,some (bx (jK x)))] (zN (vA 0)<|zM<|zZ) ?_
 refine jB<|kx [(2,(jP (x.num.gs.length+x.den.gs.length)))] [] (zE (kY xU)<|zE (kY vS)<|zR (uM yB)<|zE (uW kO)<|zE (kY xJ)<|zE (kY vS)<|zR (uM yB)<|zE (uW kO)<|zE (vC (x.num.gs.length+x.den.gs.length))<|zM<|zZ) ?_
 refine jE ⟨_,(.tmp (d:=(.val (.int .i64 ((((x.num.gs.length+x.den.gs.length):Nat):Int))))) rfl .nil),?_⟩
 rfl
theorem g_samerange(a b:jV)(ha:GOk 4294967296 a)(hb:GOk 4294967296 b):jR Tryz.prog 99 [(jF a),(jF b)] (.val (.bool ((mA a.lo b.lo&&mA a.hi b.hi)))):=by
 refine jJ Tryz.func99 rfl cb99 rfl ?_
 show qG _ _ _ _ ⟨[(0,(.d (jF a))),(1,(.d (jF b)))],[]⟩
 refine jB<|kx [(2,(.ref 0 0)),(3,(.ref 1 0))] [(0,some (bx (jF a))),(1,some (bx (jF b)))] (zN (vA 0)<|zN (vA 1)<|zM<|zZ) ?_
 refine jB<|kx [(4,(vb ((mA a.lo b.lo)&&(mA a.hi b.hi))))] [] ?_ ?_
 ·refine zE (kY vK)<|zR (kK jS)<|zE (kY vK)<|zR (kK jS)<|zE (jY (g_same a.lo b.lo (qP a.lo) (qP b.lo) ha.1 hb.1))<|zE (oV (vb (mA a.lo b.lo)) (qC (by kernel_rfl)))<|?_
  rcases hb1:(mA a.lo b.lo) with _ | _
  ·exact zK<|zK<|zK<|zK<|zK<|zE yP<|zM<|zZ
  ·exact zE (kY vY)<|zR (kK jS)<|zE (kY vY)<|zR (kK jS)<|zE (jY (g_same a.hi b.hi (qP a.hi) (qP b.hi) ha.2 hb.2))<|zE fA<|zM<|zZ
 refine jE ⟨_,(.tmp (d:=(.val (.bool (((mA a.lo b.lo)&&(mA a.hi b.hi)))))) rfl .nil),?_⟩
 rfl
end Go.Proofs.YtnajallgoaiahaaGreatDoor
