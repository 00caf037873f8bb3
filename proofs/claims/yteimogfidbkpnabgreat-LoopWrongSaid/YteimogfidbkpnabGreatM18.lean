/- Part 18 of a proof: rules, plain facts, and functions walked. -/
import Derived.Test.YteimogfidbkpnabGreatM17
import Derived.Test.YteimogfidbkpnabGreatM13
import Derived.Test.YteimogfidbkpnabGreatM11
import Derived.Test.YteimogfidbkpnabGreatM12
set_option linter.all false
set_option maxRecDepth 4000
namespace Go.Proofs.YteimogfidbkpnabGreat
open Go.Fid
theorem s_neg{x:kJ}{a:Int}{m:Nat}(hx:zJ x a m)(hm:m≤274877906944):kB Tryz.prog 97 [(jJ x)] (jJ (jQ (-a))):=by
 obtain ⟨rfl,hx'⟩:=hx
 exact t_neg x (by omega)
theorem mY{x:kJ}{a:Int}{m:Nat}(hx:zJ x a m)(hm:m≤274877906944):kB Tryz.prog 44 [(jJ x)] (.val (.int .i64 (kG a))):=by
 obtain ⟨rfl,hx'⟩:=hx
 exact t_sign x (by omega)
theorem s_add{x y:kJ}{a b:Int}{m n:Nat}(hx:zJ x a m)(hy:zJ y b n)(hm:m≤274877906944)(hn:n≤274877906944):kB Tryz.prog 100 [(jJ x),(jJ y)] (jJ (jQ (a+b))):=by
 obtain ⟨rfl,hx'⟩:=hx;obtain ⟨rfl,hy'⟩:=hy
 exact t_add x y (by omega) (by omega)
theorem s_mul{x y:kJ}{a b:Int}{m n:Nat}(hx:zJ x a m)(hy:zJ y b n)(hm:m≤274877906944)(hn:n≤274877906944):kB Tryz.prog 49 [(jJ x),(jJ y)] (jJ (jQ (a*b))):=by
 obtain ⟨rfl,hx'⟩:=hx;obtain ⟨rfl,hy'⟩:=hy
 exact t_mul x y (by omega) (by omega)
theorem s_compare{x y:kJ}{a b:Int}{m n:Nat}(hx:zJ x a m)(hy:zJ y b n)(hm:m≤274877906944)(hn:n≤274877906944):kB Tryz.prog 45 [(jJ x),(jJ y)] (.val (.int .i64 (qY a b))):=by
 obtain ⟨rfl,hx'⟩:=hx;obtain ⟨rfl,hy'⟩:=hy
 exact t_compareI x y (by omega) (by omega)
theorem s_gcd{x y:kJ}{a b:Int}{m n:Nat}(hx:zJ x a m)(hy:zJ y b n)(hm:m≤274877906944)(hn:n≤274877906944):kB Tryz.prog 46 [(jJ x),(jJ y)] (jJ (jQ ((Int.gcd a b:Nat):Int))):=by
 obtain ⟨rfl,hx'⟩:=hx;obtain ⟨rfl,hy'⟩:=hy
 exact t_gcdI x y (by omega) (by omega)
theorem mV{x y:kJ}{a b:Int}{m n:Nat}(hx:zJ x a m)(hy:zJ y b n)(hm:m≤274877906944)(hn:n≤274877906944)(hb:b≠0):kB Tryz.prog 99 [(jJ x),(jJ y)] (.tup [(jJ (jQ (a.fdiv b))),(jJ (jQ (a.fmod b))),(.val (.int .i64 0))]):=by
 obtain ⟨rfl,hx'⟩:=hx;obtain ⟨rfl,hy'⟩:=hy
 exact t_divideI x y (by omega) (by omega) hb
theorem rs_neg{x:kJ}{a:Int}{m:Nat}(hx:zJ x a m)(hm:m≤274877906944):kB Tryz.prog 86 [(jJ x)] (jJ (jQ (-a))):=by
 obtain ⟨rfl,hx'⟩:=hx
 exact r_neg x (by omega)
theorem rs_sign{x:kJ}{a:Int}{m:Nat}(hx:zJ x a m)(hm:m≤274877906944):kB Tryz.prog 61 [(jJ x)] (.val (.int .i64 (kG a))):=by
 obtain ⟨rfl,hx'⟩:=hx
 exact r_sign x (by omega)
theorem rs_compare{x y:kJ}{a b:Int}{m n:Nat}(hx:zJ x a m)(hy:zJ y b n)(hm:m≤274877906944)(hn:n≤274877906944):kB Tryz.prog 106 [(jJ x),(jJ y)] (.val (.int .i64 (qY a b))):=by
 obtain ⟨rfl,hx'⟩:=hx;obtain ⟨rfl,hy'⟩:=hy
 exact r_compare x y (by omega) (by omega)
theorem rs_gcd{x y:kJ}{a b:Int}{m n:Nat}(hx:zJ x a m)(hy:zJ y b n)(hm:m≤274877906944)(hn:n≤274877906944):kB Tryz.prog 85 [(jJ x),(jJ y)] (jJ (jQ ((Int.gcd a b:Nat):Int))):=by
 obtain ⟨rfl,hx'⟩:=hx;obtain ⟨rfl,hy'⟩:=hy
 exact r_gcd x y (by omega) (by omega)
theorem nD{x y:kJ}{a b:Int}{m n:Nat}(hx:zJ x a m)(hy:zJ y b n)(hm:m≤274877906944)(hn:n≤274877906944)(hb:b≠0):kB Tryz.prog 87 [(jJ x),(jJ y)] (.tup [(jJ (jQ (a.fdiv b))),(jJ (jQ (a.fmod b))),(.val (.int .i64 0))]):=by
 obtain ⟨rfl,hx'⟩:=hx;obtain ⟨rfl,hy'⟩:=hy
 exact r_divide x y (by omega) (by omega) hb
theorem cb24:callB Tryz.prog 24=true:=by kernel_rfl
theorem cb25:callB Tryz.prog 25=true:=by kernel_rfl
theorem cb26:callB Tryz.prog 26=true:=by kernel_rfl
theorem cb27:callB Tryz.prog 27=true:=by kernel_rfl
theorem cb48:callB Tryz.prog 48=true:=by kernel_rfl
theorem cb58:callB Tryz.prog 58=true:=by kernel_rfl
theorem cb77:callB Tryz.prog 77=true:=by kernel_rfl
theorem cb81:callB Tryz.prog 81=true:=by kernel_rfl
theorem cb82:callB Tryz.prog 82=true:=by kernel_rfl
theorem cb83:callB Tryz.prog 83=true:=by kernel_rfl
theorem fo44_0:yO Tryz.prog 44 0=some 0:=by kernel_rfl
theorem dI:yO Tryz.prog 44 1=some 2:=by kernel_rfl
theorem ft44_0:aE Tryz.prog 44 0=some (0,42):=by kernel_rfl
theorem pl44:fU Tryz.prog 44=some [(0,2),(2,2)]:=by kernel_rfl
theorem vB:kS Tryz.prog 44=some (true,4):=by kernel_rfl
theorem mX:uZ Tryz.prog 44=some [.bool false,.slice none 0 0,.bool false,.slice none 0 0]:=by kernel_rfl
theorem mS:mW [.bool false,.slice none 0 0,.bool false,.slice none 0 0] [.val (.bool false),.sl 103 1 [],.val (.bool false),.sl 103 1 []]:=by simp [mW,Value.oneCell']
theorem f_reduced(num den:kJ)(a b:Int)(dR:zJ num a 68719476736)(mM:zJ den b 68719476736)(hb:b≠0):kB Tryz.prog 81 [(jJ num),(jJ den)] (kN (zB (Rat.divInt a b))):=by
 refine jK Tryz.func81 rfl cb81 rfl ?_
 show qU _ _ _ _ ⟨[(0,(.d (jJ num))),(1,(.d (jJ den)))],[]⟩
 refine jA<|kx [(2,(.ref 0 0)),(3,(.ref 1 0)),(4,(.ref 2 0))] [(0,some (bx (jJ num))),(1,some (bx (jJ den))),(2,some (bx (kN oZr)))] (zN (yC 0)<|zN (yC 1)<|zN (uQ 2 mX mS)<|zZ) ?_
 refine jA<|jA<|kx [(8,(vb (decide ((kG b)<0))))] [] (zR (kY jL)<|zE (kE (mY mM (by decide)))<|zE uM<|zZ) ?_
 refine jG (b:=decide ((kG b)<0)) rfl (fun h1=>?_) (fun h1=>?_)
 ·replace h1:=uW h1
  have hlt:=signI_lt.1 h1
  have hb2:-b≠0:=by omega
  refine kd [] [(0,some (bx (jJ (jQ (-a))))),(1,some (bx (jJ (jQ (-b)))))] mo (wR (kY jL)<|wE (kE (s_neg dR (by decide)))<|wR (kY jL)<|wE (kE (s_neg mM (by decide)))<|wT (qA jL)<|wT (qA jL)<|wZ) ?_
  refine jA<|kx [(5,(.ref 3 0))] [(3,some (bx (jJ (jQ ((Int.gcd (-a) (-b):Nat):Int)))))] (zR (kY jL)<|zR (kY jL)<|zE (kE (s_gcd (hH dR) (hH mM) (by decide) (by decide)))<|zN (uQ 3 uH uI)<|zT (qA jL)<|zZ) ?_
  refine jA<|kx [] [(0,some (bx (jJ (jQ ((-a).fdiv (((Int.gcd (-a) (-b):Nat):Int)))))))] (zR (kY jL)<|zR (kY jL)<|zE (kE (mV (hH dR) (qR (k:=68719476736) (hH dR) (hH mM) (by decide)) (by decide) (by decide) (gcd_ne (by omega))))<|zM<|zE qQ<|zE qQ<|zE qQ<|zT (qA jL)<|zZ) ?_
  refine jA<|kx [] [(1,some (bx (jJ (jQ ((-b).fdiv (((Int.gcd (-a) (-b):Nat):Int)))))))] (zR (kY jL)<|zR (kY jL)<|zE (kE (mV (hH mM) (qR (k:=68719476736) (hH dR) (hH mM) (by decide)) (by decide) (by decide) (gcd_ne (by omega))))<|zM<|zE qQ<|zE qQ<|zE qQ<|zT (qA jL)<|zZ) ?_
  refine jA<|kx [] [(2,some (bx (kN (uN.mk (jQ ((-a).fdiv (((Int.gcd (-a) (-b):Nat):Int)))) (jQ ((-b).fdiv (((Int.gcd (-a) (-b):Nat):Int))))))))] (zR (kY jL)<|zR (kY jL)<|zE (eQ pl44 mX mS)<|zT (qA vB)<|zZ) ?_
  refine jI ⟨_,(kQ (cs:=(bx (kN (uN.mk (jQ ((-a).fdiv (((Int.gcd (-a) (-b):Nat):Int)))) (jQ ((-b).fdiv (((Int.gcd (-a) (-b):Nat):Int)))))))) (d:=(kN (uN.mk (jQ ((-a).fdiv (((Int.gcd (-a) (-b):Nat):Int)))) (jQ ((-b).fdiv (((Int.gcd (-a) (-b):Nat):Int))))))) rfl rfl vB rfl rfl .nil),?_⟩
  rw[red_neg hlt];rfl
 ·replace h1:=uY h1
  have hge:¬ b<0:=fun hh=>h1 (signI_lt.2 hh)
  refine jE<|jA<|kx [(5,(.ref 4 0))] [(4,some (bx (jJ (jQ ((Int.gcd a b:Nat):Int)))))] (zR (kY jL)<|zR (kY jL)<|zE (kE (s_gcd dR mM (by decide) (by decide)))<|zN (uQ 4 uH uI)<|zT (qA jL)<|zZ) ?_
  refine jA<|kx [] [(0,some (bx (jJ (jQ (a.fdiv (((Int.gcd a b:Nat):Int)))))))] (zR (kY jL)<|zR (kY jL)<|zE (kE (mV dR (qR (k:=68719476736) dR mM (by decide)) (by decide) (by decide) (gcd_ne (by omega))))<|zM<|zE qQ<|zE qQ<|zE qQ<|zT (qA jL)<|zZ) ?_
  refine jA<|kx [] [(1,some (bx (jJ (jQ (b.fdiv (((Int.gcd a b:Nat):Int)))))))] (zR (kY jL)<|zR (kY jL)<|zE (kE (mV mM (qR (k:=68719476736) dR mM (by decide)) (by decide) (by decide) (gcd_ne (by omega))))<|zM<|zE qQ<|zE qQ<|zE qQ<|zT (qA jL)<|zZ) ?_
  refine jA<|kx [] [(2,some (bx (kN (uN.mk (jQ (a.fdiv (((Int.gcd a b:Nat):Int)))) (jQ (b.fdiv (((Int.gcd a b:Nat):Int))))))))] (zR (kY jL)<|zR (kY jL)<|zE (eQ pl44 mX mS)<|zT (qA vB)<|zZ) ?_
  refine jI ⟨_,(kQ (cs:=(bx (kN (uN.mk (jQ (a.fdiv (((Int.gcd a b:Nat):Int)))) (jQ (b.fdiv (((Int.gcd a b:Nat):Int)))))))) (d:=(kN (uN.mk (jQ (a.fdiv (((Int.gcd a b:Nat):Int)))) (jQ (b.fdiv (((Int.gcd a b:Nat):Int))))))) rfl rfl vB rfl rfl .nil),?_⟩
  rw[red_pos hge hb];rfl
theorem f_whole(n:Int)(hlo:-9223372036854775808≤n)(hhi:n≤9223372036854775807):kB Tryz.prog 27 [(.val (.int .i64 (n)))] (kN (zB ((n:Int):Rat))):=by
 refine jK Tryz.func27 rfl cb27 rfl ?_
 show qU _ _ _ _ ⟨[(0,(vi n))],[]⟩
 refine jA<|kx [(2,(.ref 0 0))] [(0,some (bx (kN oZr)))] (zN (uQ 0 mX mS)<|zZ) ?_
 refine jA<|kx [] [(0,some (bx (kN (uN.mk (jQ n) (jQ 1)))))] (zM<|zE (kE (t_of n (by omega) (by omega)))<|zE (kE (t_of 1 (by decide) (by decide)))<|zE (eQ pl44 mX mS)<|zT (qA vB)<|zZ) ?_
 refine jI ⟨_,(kQ (cs:=(bx (kN (uN.mk (jQ n) (jQ 1))))) (d:=(kN (uN.mk (jQ n) (jQ 1)))) rfl rfl vB rfl rfl .nil),?_⟩
 rfl
theorem f_valid(x:uN)(p:Rat)(hx:QOk x p 17179869184):kB Tryz.prog 24 [(kN x)] (.val (.bool ((xO x)))):=by
 refine jK Tryz.func24 rfl cb24 rfl ?_
 show qU _ _ _ _ ⟨[(0,(.d (kN x)))],[]⟩
 refine jA<|kx [(1,(.ref 0 0))] [(0,some (bx (kN x)))] (zN (yC 0)<|zM<|zZ) ?_
 refine jA<|jA<|kx [(18,(vb ((!(uF x.num)||!(uF x.den))||decide ((kG (jS x.den))≤0))))] [] ?_ ?_
 ·refine zE (kV fo44_0)<|zR (kY jL)<|zE (kE (t_valid x.num (Nat.le_trans (nP hx.n1).l (by decide))))<|zE oNt<|zE (oV (vb (!(uF x.num))) (kZ (by kernel_rfl)))<|?_
  rcases hb1:(!(uF x.num)) with _ | _
  ·refine zE (kV dI)<|zR (kY jL)<|zE (kE (t_valid x.den (Nat.le_trans (nP hx.n2).l (by decide))))<|zE oNt<|zE cF<|zE (oV (vb (false||!(uF x.den))) (kZ (by kernel_rfl)))<|?_
   rcases hb2:(false||!(uF x.den)) with _ | _
   ·exact zE (kV dI)<|zR (kY jL)<|zE (kE (mY (nP hx.n2) (by decide)))<|zE oLe<|zE cF<|zZ
   ·exact zK<|zK<|zK<|zK<|zE xC<|zZ
  ·exact zK<|zK<|zK<|zK<|zE xC<|zM<|zK<|zK<|zK<|zK<|zE xC<|zZ
 refine jG rfl (fun h3=>?_) (fun h3=>?_)
 ·refine jA<|kx [(2,(vb false))] [] (zM<|zZ) ?_
  refine jI ⟨_,(.tmp (d:=(.val (.bool (false)))) rfl .nil),?_⟩
  rw[validR_no h3];rfl
 ·refine jE<|jA<|kx [(2,(vb ((qY (((Int.gcd (jS x.num) (jS x.den):Nat):Int)) 1) == 0)))] [] (zE (kV fo44_0)<|zR (kY jL)<|zE (kV dI)<|zR (kY jL)<|zE (kE (s_gcd (nP hx.n1) (nP hx.n2) (by decide) (by decide)))<|zE (kE (t_of 1 (by decide) (by decide)))<|zE (kE (s_compare (qR (k:=17179869184) (nP hx.n1) (nP hx.n2) (by decide)) (mG (z:=1) (by decide)) (by decide) (by decide)))<|zE gX<|zM<|zZ) ?_
  refine jI ⟨_,(.tmp (d:=(.val (.bool (((qY (((Int.gcd (jS x.num) (jS x.den):Nat):Int)) 1) == 0))))) rfl .nil),?_⟩
  rw[validR_yes h3];rfl
theorem f_copied(x:uN)(p:Rat)(hx:QOk x p 17179869184):kB Tryz.prog 77 [(kN x)] (kN (uN.mk (jQ (-(-jS x.num))) (jQ (-(-jS x.den))))):=by
 refine jK Tryz.func77 rfl cb77 rfl ?_
 show qU _ _ _ _ ⟨[(0,(.d (kN x)))],[]⟩
 refine jA<|kx [(1,(.ref 0 0)),(2,(.ref 1 0))] [(0,some (bx (kN x))),(1,some (bx (kN oZr)))] (zN (yC 0)<|zN (uQ 1 mX mS)<|zZ) ?_
 refine jA<|kd [] [(1,some (bx (kN (uN.mk (jQ (-(-(jS x.num)))) (jQ (-(-(jS x.den))))))))] mo (wE (kV fo44_0)<|wR (kY jL)<|wE (kE (s_neg (nP hx.n1) (by decide)))<|wE (kE (s_neg (hH (nP hx.n1)) (by decide)))<|wE (kV dI)<|wR (kY jL)<|wE (kE (s_neg (nP hx.n2) (by decide)))<|wE (kE (s_neg (hH (nP hx.n2)) (by decide)))<|wE (eQ pl44 mX mS)<|wT (qA vB)<|wZ) ?_
 refine jI ⟨_,(kQ (cs:=(bx (kN (uN.mk (jQ (-(-(jS x.num)))) (jQ (-(-(jS x.den)))))))) (d:=(kN (uN.mk (jQ (-(-(jS x.num)))) (jQ (-(-(jS x.den))))))) rfl rfl vB rfl rfl .nil),?_⟩
 rfl
theorem f_value(x:uN)(p:Rat)(hx:QOk x p 17179869184):kB Tryz.prog 48 [(kN x)] (kN (zB p)):=by
 refine jK Tryz.func48 rfl cb48 rfl ?_
 show qU _ _ _ _ ⟨[(0,(.d (kN x)))],[]⟩
 refine jA<|kx [(1,(.ref 0 0)),(2,(.ref 1 0))] [(0,some (bx (kN x))),(1,some (bx (kN oZr)))] (zN (yC 0)<|zN (uQ 1 mX mS)<|zZ) ?_
 refine jA<|jA<|kx [(4,(vb (xO x)))] [] (zR (kY vB)<|zE (kE (f_valid x p hx))<|zZ) ?_
 refine jG (b:=(xO x)) rfl (fun h1=>?_) (fun h1=>?_)
 ·refine jA<|kx [] [(1,some (bx (kN (uN.mk (jQ (-(-jS x.num))) (jQ (-(-jS x.den)))))))] (zR (kY vB)<|zE (kE (f_copied x p hx))<|zT (qA vB)<|zZ) ?_
  refine jI ⟨_,(kQ (cs:=(bx (kN (uN.mk (jQ (-(-jS x.num))) (jQ (-(-jS x.den))))))) (d:=(kN (uN.mk (jQ (-(-jS x.num))) (jQ (-(-jS x.den)))))) rfl rfl vB rfl rfl .nil),?_⟩
  rw[← hx.v,← copied_eq h1];rfl
 ·refine jE<|jA<|kx [] [(1,some (bx (kN (zB ((0:Int):Rat)))))] (zE (kE (f_whole 0 (by decide) (by decide)))<|zT (qA vB)<|zZ) ?_
  refine jI ⟨_,(kQ (cs:=(bx (kN (zB ((0:Int):Rat))))) (d:=(kN (zB ((0:Int):Rat)))) rfl rfl vB rfl rfl .nil),?_⟩
  rw[← hx.v,toQ_bad h1];rfl
theorem f_sign(x:uN)(p:Rat)(hx:QOk x p 17179869184):kB Tryz.prog 25 [(kN x)] (.val (.int .i64 ((signQ p)))):=by
 refine jK Tryz.func25 rfl cb25 rfl ?_
 show qU _ _ _ _ ⟨[(0,(.d (kN x)))],[]⟩
 refine jA<|kx [(1,(.ref 0 0))] [(0,some (bx (kN x)))] (zN (yC 0)<|zM<|zZ) ?_
 refine jA<|kx [(2,(vi (kG p.num)))] [] (zR (kY vB)<|zE (kE (f_value x p hx))<|zE (oFv ft44_0 jL)<|zE (kE (mY (hM hx.ql) (by decide)))<|zM<|zZ) ?_
 refine jI ⟨_,(.tmp (d:=(.val (.int .i64 ((kG p.num))))) rfl .nil),?_⟩
 rfl
theorem f_neg(x:uN)(p:Rat)(hx:QOk x p 17179869184):kB Tryz.prog 83 [(kN x)] (kN (zB (-p))):=by
 refine jK Tryz.func83 rfl cb83 rfl ?_
 show qU _ _ _ _ ⟨[(0,(.d (kN x)))],[]⟩
 refine jA<|kx [(1,(.ref 0 0)),(2,(.ref 1 0))] [(0,some (bx (kN x))),(1,some (bx (kN oZr)))] (zN (yC 0)<|zN (uQ 1 mX mS)<|zZ) ?_
 refine jA<|kx [] [(0,some (bx (kN (zB p))))] (zR (kY vB)<|zE (kE (f_value x p hx))<|zT (qA vB)<|zZ) ?_
 refine jA<|kd [] [(1,some (bx (kN (uN.mk (jQ (-p.num)) ((zB p).den)))))] mo (wE (kV fo44_0)<|wR (kY jL)<|wE (kE (s_neg (hM hx.ql) (by decide)))<|wE (kV dI)<|wR (kY jL)<|wE (eQ pl44 mX mS)<|wT (qA vB)<|wZ) ?_
 refine jI ⟨_,(kQ (cs:=(bx (kN (uN.mk (jQ (-p.num)) ((zB p).den))))) (d:=(kN (uN.mk (jQ (-p.num)) ((zB p).den)))) rfl rfl vB rfl rfl .nil),?_⟩
 rfl
theorem f_add(x:uN)(y:uN)(p:Rat)(q:Rat)(hx:QOk x p 17179869184)(hy:QOk y q 17179869184):kB Tryz.prog 82 [(kN x),(kN y)] (kN (zB (p+q))):=by
 refine jK Tryz.func82 rfl cb82 rfl ?_
 show qU _ _ _ _ ⟨[(0,(.d (kN x))),(1,(.d (kN y)))],[]⟩
 refine jA<|kx [(2,(.ref 0 0)),(3,(.ref 1 0)),(4,(.ref 2 0))] [(0,some (bx (kN x))),(1,some (bx (kN y))),(2,some (bx (kN oZr)))] (zN (yC 0)<|zN (yC 1)<|zN (uQ 2 mX mS)<|zZ) ?_
 refine jA<|kd [] [(0,some (bx (kN (zB p)))),(1,some (bx (kN (zB q))))] mo (wR (kY vB)<|wE (kE (f_value x p hx))<|wR (kY vB)<|wE (kE (f_value y q hy))<|wT (qA vB)<|wT (qA vB)<|wZ) ?_
 refine jA<|kd [] [(2,some (bx (kN (zB (Rat.divInt ((p.num*(q.den:Int))+(q.num*(p.den:Int))) ((p.den:Int)*(q.den:Int)))))))] mo (wE (kV fo44_0)<|wR (kY jL)<|wE (kV dI)<|wR (kY jL)<|wE (kE (s_mul (hM hx.ql) (yS hy.ql) (by decide) (by decide)))<|wE (kV fo44_0)<|wR (kY jL)<|wE (kV dI)<|wR (kY jL)<|wE (kE (s_mul (hM hy.ql) (yS hx.ql) (by decide) (by decide)))<|wE (kE (s_add (nL (k:=34359738368) (hM hx.ql) (yS hy.ql) (by decide)) (nL (k:=34359738368) (hM hy.ql) (yS hx.ql) (by decide)) (by decide) (by decide)))<|wE (kV dI)<|wR (kY jL)<|wE (kV dI)<|wR (kY jL)<|wE (kE (s_mul (yS hx.ql) (yS hy.ql) (by decide) (by decide)))<|wE (kE (f_reduced (jQ ((p.num*(q.den:Int))+(q.num*(p.den:Int)))) (jQ ((p.den:Int)*(q.den:Int))) ((p.num*(q.den:Int))+(q.num*(p.den:Int))) ((p.den:Int)*(q.den:Int)) (xG (iok_add (k:=34359738369) (nL (k:=34359738368) (hM hx.ql) (yS hy.ql) (by decide)) (nL (k:=34359738368) (hM hy.ql) (yS hx.ql) (by decide)) (by decide)) (by decide)) (xG (nL (k:=34359738368) (yS hx.ql) (yS hy.ql) (by decide)) (by decide)) (mul_ne (den_ne _) (den_ne _))))<|wT (qA vB)<|wZ) ?_
 refine jI ⟨_,(kQ (cs:=(bx (kN (zB (Rat.divInt ((p.num*(q.den:Int))+(q.num*(p.den:Int))) ((p.den:Int)*(q.den:Int))))))) (d:=(kN (zB (Rat.divInt ((p.num*(q.den:Int))+(q.num*(p.den:Int))) ((p.den:Int)*(q.den:Int)))))) rfl rfl vB rfl rfl .nil),?_⟩
 rw[add_divInt];rfl
theorem f_sub(x:uN)(y:uN)(p:Rat)(q:Rat)(hx:QOk x p 17179869184)(hy:QOk y q 17179869184):kB Tryz.prog 58 [(kN x),(kN y)] (kN (zB (p-q))):=by
 refine jK Tryz.func58 rfl cb58 rfl ?_
 show qU _ _ _ _ ⟨[(0,(.d (kN x))),(1,(.d (kN y)))],[]⟩
 refine jA<|kx [(2,(.ref 0 0)),(3,(.ref 1 0)),(4,(.ref 2 0))] [(0,some (bx (kN x))),(1,some (bx (kN y))),(2,some (bx (kN oZr)))] (zN (yC 0)<|zN (yC 1)<|zN (uQ 2 mX mS)<|zZ) ?_
 refine jA<|kd [] [(2,some (bx (kN (zB (p+(-q))))))] mo (wR (kY vB)<|wR (kY vB)<|wE (kE (f_neg y q hy))<|wE (kE (f_add x (zB (-q)) p (-q) hx (qok_of (ql_neg hy.ql))))<|wT (qA vB)<|wZ) ?_
 refine jI ⟨_,(kQ (cs:=(bx (kN (zB (p+(-q)))))) (d:=(kN (zB (p+(-q))))) rfl rfl vB rfl rfl .nil),?_⟩
 rw[Rat.sub_eq_add_neg];rfl
theorem f_compare(x:uN)(y:uN)(p:Rat)(q:Rat)(hx:QOk x p 17179869184)(hy:QOk y q 17179869184):kB Tryz.prog 26 [(kN x),(kN y)] (.val (.int .i64 ((cmpQ p q)))):=by
 refine jK Tryz.func26 rfl cb26 rfl ?_
 show qU _ _ _ _ ⟨[(0,(.d (kN x))),(1,(.d (kN y)))],[]⟩
 refine jA<|kx [(2,(.ref 0 0)),(3,(.ref 1 0))] [(0,some (bx (kN x))),(1,some (bx (kN y)))] (zN (yC 0)<|zN (yC 1)<|zM<|zZ) ?_
 refine jA<|kd [] [(0,some (bx (kN (zB p)))),(1,some (bx (kN (zB q))))] mo (wR (kY vB)<|wE (kE (f_value x p hx))<|wR (kY vB)<|wE (kE (f_value y q hy))<|wT (qA vB)<|wT (qA vB)<|wZ) ?_
 refine jA<|kd [(4,(vi (qY (p.num*(q.den:Int)) (q.num*(p.den:Int)))))] [] mo (wE (kV fo44_0)<|wR (kY jL)<|wE (kV dI)<|wR (kY jL)<|wE (kE (s_mul (hM hx.ql) (yS hy.ql) (by decide) (by decide)))<|wE (kV fo44_0)<|wR (kY jL)<|wE (kV dI)<|wR (kY jL)<|wE (kE (s_mul (hM hy.ql) (yS hx.ql) (by decide) (by decide)))<|wE (kE (s_compare (nL (k:=34359738368) (hM hx.ql) (yS hy.ql) (by decide)) (nL (k:=34359738368) (hM hy.ql) (yS hx.ql) (by decide)) (by decide) (by decide)))<|wM<|wZ) ?_
 refine jI ⟨_,(.tmp (d:=(.val (.int .i64 ((qY (p.num*(q.den:Int)) (q.num*(p.den:Int))))))) rfl .nil),?_⟩
 rw[← cmpQ_cross];rfl
theorem cb32:callB Tryz.prog 32=true:=by kernel_rfl
theorem cb37:callB Tryz.prog 37=true:=by kernel_rfl
theorem cb38:callB Tryz.prog 38=true:=by kernel_rfl
theorem cb62:callB Tryz.prog 62=true:=by kernel_rfl
theorem g_reduced(num den:kJ)(a b:Int)(dR:zJ num a 68719476736)(mM:zJ den b 68719476736)(hb:b≠0):kB Tryz.prog 62 [(jJ num),(jJ den)] (kN (zB (Rat.divInt a b))):=by
 refine jK Tryz.func62 rfl cb62 rfl ?_
 show qU _ _ _ _ ⟨[(0,(.d (jJ num))),(1,(.d (jJ den)))],[]⟩
 refine jA<|kx [(2,(.ref 0 0)),(3,(.ref 1 0)),(4,(.ref 2 0))] [(0,some (bx (jJ num))),(1,some (bx (jJ den))),(2,some (bx (kN oZr)))] (zN (yC 0)<|zN (yC 1)<|zN (uQ 2 mX mS)<|zZ) ?_
 refine jA<|kx [(5,(.ref 3 0))] [(3,some (bx (jJ (jQ ((Int.gcd a b:Nat):Int)))))] (zR (kY jL)<|zR (kY jL)<|zE (kE (rs_gcd dR mM (by decide) (by decide)))<|zN (uQ 3 uH uI)<|zT (qA jL)<|zZ) ?_
 refine jA<|jA<|kx [(17,(vb (decide ((kG b)<0))))] [] (zR (kY jL)<|zE (kE (rs_sign mM (by decide)))<|zE uM<|zZ) ?_
 refine jG (b:=decide ((kG b)<0)) rfl (fun h1=>?_) (fun h1=>?_)
 ·replace h1:=uW h1
  have hlt:=signI_lt.1 h1
  refine kx [] [(3,some (bx (jJ (jQ (-(((Int.gcd a b:Nat):Int)))))))] (zR (kY jL)<|zE (kE (rs_neg (qR (k:=68719476736) dR mM (by decide)) (by decide)))<|zT (qA jL)<|zZ) ?_
  refine jA<|kx [(6,(.ref 4 0))] [(4,some (bx (jJ (jQ (a.fdiv (-(((Int.gcd a b:Nat):Int)))))))),(5,none)] (zR (kY jL)<|zR (kY jL)<|zE (kE (nD dR (hH (qR (k:=68719476736) dR mM (by decide))) (by decide) (by decide) (by have:=gcd_ne (a:=a) hb;omega)))<|zM<|zE qQ<|zE qQ<|zE qQ<|zN (uQ 4 uH uI)<|zN (uQ 5 uH uI)<|zT (qA jL)<|zT (qA jL)<|zM<|zZ) ?_
  refine jA<|kx [(9,(.ref 6 0))] [(6,some (bx (jJ (jQ (b.fdiv (-(((Int.gcd a b:Nat):Int)))))))),(7,none)] (zR (kY jL)<|zR (kY jL)<|zE (kE (nD mM (hH (qR (k:=68719476736) dR mM (by decide))) (by decide) (by decide) (by have:=gcd_ne (a:=a) hb;omega)))<|zM<|zE qQ<|zE qQ<|zE qQ<|zN (uQ 6 uH uI)<|zN (uQ 7 uH uI)<|zT (qA jL)<|zT (qA jL)<|zM<|zZ) ?_
  refine jA<|kx [] [(2,some (bx (kN (uN.mk (jQ (a.fdiv (-(((Int.gcd a b:Nat):Int))))) (jQ (b.fdiv (-(((Int.gcd a b:Nat):Int)))))))))] (zR (kY jL)<|zR (kY jL)<|zE (eQ pl44 mX mS)<|zT (qA vB)<|zZ) ?_
  refine jI ⟨_,(kQ (cs:=(bx (kN (uN.mk (jQ (a.fdiv (-(((Int.gcd a b:Nat):Int))))) (jQ (b.fdiv (-(((Int.gcd a b:Nat):Int))))))))) (d:=(kN (uN.mk (jQ (a.fdiv (-(((Int.gcd a b:Nat):Int))))) (jQ (b.fdiv (-(((Int.gcd a b:Nat):Int)))))))) rfl rfl vB rfl rfl .nil),?_⟩
  rw[← red_neg2 hlt];rfl
 ·replace h1:=uY h1
  have hge:¬ b<0:=fun hh=>h1 (signI_lt.2 hh)
  refine jE<|jA<|kx [(6,(.ref 8 0))] [(8,some (bx (jJ (jQ (a.fdiv (((Int.gcd a b:Nat):Int))))))),(9,none)] (zR (kY jL)<|zR (kY jL)<|zE (kE (nD dR (qR (k:=68719476736) dR mM (by decide)) (by decide) (by decide) (by have:=gcd_ne (a:=a) hb;omega)))<|zM<|zE qQ<|zE qQ<|zE qQ<|zN (uQ 8 uH uI)<|zN (uQ 9 uH uI)<|zT (qA jL)<|zT (qA jL)<|zM<|zZ) ?_
  refine jA<|kx [(9,(.ref 10 0))] [(10,some (bx (jJ (jQ (b.fdiv (((Int.gcd a b:Nat):Int))))))),(11,none)] (zR (kY jL)<|zR (kY jL)<|zE (kE (nD mM (qR (k:=68719476736) dR mM (by decide)) (by decide) (by decide) (by have:=gcd_ne (a:=a) hb;omega)))<|zM<|zE qQ<|zE qQ<|zE qQ<|zN (uQ 10 uH uI)<|zN (uQ 11 uH uI)<|zT (qA jL)<|zT (qA jL)<|zM<|zZ) ?_
  refine jA<|kx [] [(2,some (bx (kN (uN.mk (jQ (a.fdiv (((Int.gcd a b:Nat):Int)))) (jQ (b.fdiv (((Int.gcd a b:Nat):Int))))))))] (zR (kY jL)<|zR (kY jL)<|zE (eQ pl44 mX mS)<|zT (qA vB)<|zZ) ?_
  refine jI ⟨_,(kQ (cs:=(bx (kN (uN.mk (jQ (a.fdiv (((Int.gcd a b:Nat):Int)))) (jQ (b.fdiv (((Int.gcd a b:Nat):Int)))))))) (d:=(kN (uN.mk (jQ (a.fdiv (((Int.gcd a b:Nat):Int)))) (jQ (b.fdiv (((Int.gcd a b:Nat):Int))))))) rfl rfl vB rfl rfl .nil),?_⟩
  rw[red_pos hge hb];rfl
theorem g_whole1(n:Int)(hlo:-9223372036854775808≤n)(hhi:n≤9223372036854775807):kB Tryz.prog 38 [(.val (.int .i64 (n)))] (jJ (jQ n)):=by
 refine jK Tryz.func38 rfl cb38 rfl ?_
 show qU _ _ _ _ ⟨[(0,(vi n))],[]⟩
 refine jA<|kx [(2,(.ref 0 0))] [(0,some (bx (jJ (kJ.mk false []))))] (zN (uQ 0 uH uI)<|zZ) ?_
 refine jA<|kx [] [(0,some (bx (jJ (jQ n))))] (zM<|zE (kE (r_of n (by omega) (by omega)))<|zT (qA jL)<|zZ) ?_
 refine jI ⟨_,(kQ (cs:=(bx (jJ (jQ n)))) (d:=(jJ (jQ n))) rfl rfl jL rfl rfl .nil),?_⟩
 rfl
theorem g_whole(n:Int)(hlo:-9223372036854775808≤n)(hhi:n≤9223372036854775807):kB Tryz.prog 32 [(.val (.int .i64 (n)))] (kN (zB ((n:Int):Rat))):=by
 refine jK Tryz.func32 rfl cb32 rfl ?_
 show qU _ _ _ _ ⟨[(0,(vi n))],[]⟩
 refine jA<|kx [(2,(.ref 0 0))] [(0,some (bx (kN oZr)))] (zN (uQ 0 mX mS)<|zZ) ?_
 refine jA<|kx [] [(0,some (bx (kN (uN.mk (jQ n) (jQ 1)))))] (zM<|zE (kE (g_whole1 n (by omega) (by omega)))<|zE (kE (g_whole1 1 (by decide) (by decide)))<|zE (eQ pl44 mX mS)<|zT (qA vB)<|zZ) ?_
 refine jI ⟨_,(kQ (cs:=(bx (kN (uN.mk (jQ n) (jQ 1))))) (d:=(kN (uN.mk (jQ n) (jQ 1)))) rfl rfl vB rfl rfl .nil),?_⟩
 rfl
end Go.Proofs.YteimogfidbkpnabGreat
namespace Go.Fid
open Go.RowKit (Below)
section
variable {P:Program} {o:Oper} {S:Nat→SV}
theorem e_mkf{f:FuncId}{ks:List Nat}{aJ:List Operand}(ho:o.op=.makeFunc (.func f) #[] aJ.toArray)(hx:aJ.map (ev S)=ks.map (fun k=>.ref k 0)):qW P o S [] (.clo f ks) :=
 qW.same fun a w D β hop _=>by
  refine ⟨.func (.func f) #[] (aJ.map a.eval).toArray,?_,aJ.map a.eval,rfl,?_,fun i k hk=>?_⟩
  ·simp only[execOp,ho,Instr.makeFunc,Array.map_empty,List.map_toArray,Sem.run_bind,Sem.run_pure,Result.andThen_ok]
   rfl
  ·simpa using congrArg List.length hx
  ·have hi:=congrArg (fun l:List SV=>l[i]?) hx
   simp only[List.getElem?_map,hk,Option.map_some,Option.map_eq_some_iff] at hi
   obtain ⟨c,hc,e⟩:=hi
   have hm:=hop c (by simp [ho,Op.operands,List.mem_of_getElem? hc])
   rw[e] at hm
   obtain ⟨b,h1,h2⟩:=hm
   exact ⟨b,h1,by rw[List.getElem?_map,hc,Option.map_some,h2]⟩
theorem oMf{f:FuncId}{aJ:List Operand}(ks:List Nat)(ho:o.op=.makeFunc (.func f) #[] aJ.toArray:=by exact rfl)(hx:aJ.map (ev S)=ks.map (fun k=>.ref k 0):=by kernel_rfl):qW P o S [] (.clo f ks):=e_mkf ho hx
end
section
variable {P:Program} {n:Fr} {ops:Array Oper} {K:SL→BS→Prop} {S:SL} {B:BS} {l:List Oper} {o:Oper} {news:List Nat} {acc0:List (List Nat × List Nat)}
end
inductive CArgs (bl:List (Nat × List kF)):List Nat→List (List kF)→Prop
 |nil:CArgs bl [] []
 |cons {k:Nat} {cs:List kF} {ks:List Nat} {css:List (List kF)} (hk:(k,cs)∈bl) (h:CArgs bl ks css):CArgs bl (k::ks) (cs::css)
theorem CArgs.len{bl:List (Nat × List kF)}{ks:List Nat}{css:List (List kF)}(h:CArgs bl ks css):ks.length=css.length:=by
 induction h with
 |nil=>rfl
 |cons hk h ih=>simp [ih]
theorem CArgs.get{bl:List (Nat × List kF)}{ks:List Nat}{css:List (List kF)}(h:CArgs bl ks css):∀ (i:Nat) k cs,ks[i]?=some k→css[i]?=some cs→(k,cs)∈bl:=by
 induction h with
 |nil=>intro i k cs h;simp at h
 |cons hk h ih=>
  intro i k cs h1 h2
  rcases i with _ | i
  ·simp at h1 h2;subst h1;subst h2;exact hk
  ·exact ih i k cs (by simpa using h1) (by simpa using h2)
inductive eW (bl:List (Nat × List kF)) (E:TypeId):List SV→List kF→Prop
 |nil:eW bl E [] []
 |d {x:kF} {zs:List SV} {ds:List kF} (h:eW bl E zs ds):eW bl E (.d x::zs) (x::ds)
 |v {k q n s:Nat} {cs es:List kF} {zs:List SV} {ds:List kF} (hk:(k,cs)∈bl) (hes:∀ e∈es,e.cells.length=s) (hl:es.length=n) (hc:(cs.drop q).take (n*s)=flat es) (h:eW bl E zs ds):eW bl E (.view k q n::zs) (.sl E s es::ds)
 |p {k o:Nat} {cs:List kF} {zs:List SV} {ds:List kF} (hk:(k,cs)∈bl) (h:eW bl E zs ds):eW bl E (.ref k o::zs) (.cptr E cs o::ds)
 |c {f:FuncId} {ks:List Nat} {css:List (List kF)} {zs:List SV} {ds:List kF} (hk:CArgs bl ks css) (h:eW bl E zs ds):eW bl E (.clo f ks::zs) (.clo f (css.map fun cs=>.cptr E cs 0)::ds)
theorem eW.len{bl:List (Nat × List kF)}{E:TypeId}{zs:List SV}{ds:List kF}(h:eW bl E zs ds):zs.length=ds.length:=by
 induction h with
 |nil=>rfl
 |d h ih=>simp [ih]
 |v hk hes hl hc h ih=>simp [ih]
 |p hk h ih=>simp [ih]
 |c hk h ih=>simp [ih]
theorem eW.rep{bl:List (Nat × List kF)}{E:TypeId}{zs:List SV}{ds:List kF}(h:eW bl E zs ds){w:World}{D D':kU}{β:qE}(h1:∀ v x,uD w D v x→uD w D' v x)
  (h2:∀ (k q n s:Nat) (cs es:List kF) (v:Value),(k,cs)∈bl→(∀ e∈es,e.cells.length=s)→es.length=n→(cs.drop q).take (n*s)=flat es→qB w D β v (.view k q n)→uD w D' v (.sl E s es))
  (h3:∀ (k o:Nat) (cs:List kF) (v:Value),(k,cs)∈bl→qB w D β v (.ref k o)→uD w D' v (.cptr E cs o)) :
  ∀ (vs:List Value),vs.length=zs.length→(∀ (i:Nat) v x,vs[i]?=some v→zs[i]?=some x→qB w D β v x)→∀ (i:Nat) v d,vs[i]?=some v→ds[i]?=some d→uD w D' v d:=by
 induction h with
 |nil=>intro vs _ _ i v d _ hd;simp at hd
 |d h ih=>
  intro vs hl hr i v d' hv hd
  rcases vs with _ | ⟨v0,vs⟩
  ·simp at hl
  ·rcases i with _ | i
   ·simp at hv hd;subst hv;subst hd;exact h1 _ _ (hr 0 _ _ rfl rfl)
   ·exact ih vs (by simpa using hl) (fun i v x h3 h4=>hr (i+1) v x (by simpa using h3) (by simpa using h4)) i v d' (by simpa using hv) (by simpa using hd)
 |v hk hes hl' hc h ih=>
  intro vs hl hr i v d' hv hd
  rcases vs with _ | ⟨v0,vs⟩
  ·simp at hl
  ·rcases i with _ | i
   ·simp at hv hd;subst hv;subst hd;exact h2 _ _ _ _ _ _ _ hk hes hl' hc (hr 0 _ _ rfl rfl)
   ·exact ih vs (by simpa using hl) (fun i v x h3 h4=>hr (i+1) v x (by simpa using h3) (by simpa using h4)) i v d' (by simpa using hv) (by simpa using hd)
 |p hk h ih=>
  intro vs hl hr i v d' hv hd
  rcases vs with _ | ⟨v0,vs⟩
  ·simp at hl
  ·rcases i with _ | i
   ·simp at hv hd;subst hv;subst hd;exact h3 _ _ _ _ hk (hr 0 _ _ rfl rfl)
   ·exact ih vs (by simpa using hl) (fun i v x h3 h4=>hr (i+1) v x (by simpa using h3) (by simpa using h4)) i v d' (by simpa using hv) (by simpa using hd)
 |c hk h ih=>
  intro vs hl hr i v d' hv hd
  rcases vs with _ | ⟨v0,vs⟩
  ·simp at hl
  ·rcases i with _ | i
   ·simp at hv hd;subst hv;subst hd
    obtain ⟨us,e1,e2,e3⟩:=hr 0 _ _ rfl rfl
    rw[e1]
    refine .clo us (by rw[e2,hk.len,List.length_map]) fun j u d hu hd=>?_
    rw[List.getElem?_map,Option.map_eq_some_iff] at hd
    obtain ⟨cs,hcs,rfl⟩:=hd
    have hlt:j<_:=(List.getElem?_eq_some_iff.1 hcs).1
    rw[← hk.len] at hlt
    obtain ⟨b,g1,g2⟩:=e3 j _ (List.getElem?_eq_getElem hlt)
    rw[hu] at g2
    injection g2 with g2
    exact h3 _ 0 cs u (hk.get j _ cs (List.getElem?_eq_getElem hlt) hcs) ⟨b,g1,g2⟩
   ·exact ih vs (by simpa using hl) (fun i v x h3 h4=>hr (i+1) v x (by simpa using h3) (by simpa using h4)) i v d' (by simpa using hv) (by simpa using hd)
variable {P:Program}
def intFs(P:Program):List Field→Nat→Bool
 |[],_=>true
 | f :: l, i => (f.name != "_") && (Nat.beq f.offset i && ((match P.underlying f.type with | some (.int _) => true | _ => false) && intFs P l (i + 1)))
def eqsB(P:Program)(T:TypeId):Option Nat :=
 match P.underlying T with
 |some (.struct fs)=>if intFs P fs.toList 0&&(!P.stoodInHeld T&&!P.eqGuardType P.depth T) then some fs.size else none
 |_=>none
theorem cH{t:TypeId}{ms:List Int}{i:Nat}{m:Int}{k j:IntKind}(ht:P.underlying t=some (.int j))(hi:ms[i]?=some m)(w:World):(part t (ms.map (Value.int k)).toArray i).run P w=.ok (.int k m) w:=by
 have h2:(ms.map (Value.int k))[i]?=some (.int k m):=by rw[List.getElem?_map,hi];rfl
 simp [part,eV ht,isAggD,h2]
theorem run_eqInt{t:TypeId}{k j:IntKind}{m n:Int}(ht:P.underlying t=some (.int j))(d:Nat)(w:World):(Op.equalIn (d+1) t (.int k m) (.int k n)).run P w=.ok (m == n) w:=by
 simp [Op.equalIn,run_underlying ht]
theorem run_fs(k:IntKind)(d:Nat)(w:World)(ms ns:List Int):∀ (l:List Field) (i:Nat),intFs P l i=true→ms.length=i+l.length→ns.length=i+l.length →
  Sem.run P (forIn l ((none,()):Option Bool × Unit) fun f _=>
      if f.name = "_" then pure (ForInStep.yield (none, ()))
      else do
       let a ← part f.type (List.map (Value.int k) ms).toArray f.offset
       let b ← part f.type (List.map (Value.int k) ns).toArray f.offset
       let c ← Op.equalIn (d+1) f.type a b
       if c=false then pure (ForInStep.done (some false,())) else pure (ForInStep.yield (none,()))) w=.ok (if ms.drop i=ns.drop i then (none,()) else (some false,())) w
 |[],i,_,h1,h2=>by
  have e1:ms.drop i=[]:=List.drop_eq_nil_of_le (by simp at h1;omega)
  have e2:ns.drop i=[]:=List.drop_eq_nil_of_le (by simp at h2;omega)
  rw[e1,e2];simp
 |f::l,i,h,h1,h2=>by
  unfold intFs at h
  simp only[Bool.and_eq_true,bne_iff_ne,ne_eq] at h
  obtain ⟨g1,g2,g3,g4⟩:=h
  have g2:f.offset=i:=Nat.eq_of_beq_eq_true g2
  have hd:∃ j,P.underlying f.type=some (.int j):=by
   split at g3
   ·rename_i j e;exact ⟨j,e⟩
   ·cases g3
  obtain ⟨j,hj⟩:=hd
  simp only[List.length_cons] at h1 h2
  have b1:i<ms.length:=by omega
  have b2:i<ns.length:=by omega
  have ih:=run_fs k d w ms ns l (i+1) g4 (by omega) (by omega)
  have e1:=List.drop_eq_getElem_cons b1
  have e2:=List.drop_eq_getElem_cons b2
  simp only[List.forIn_cons,g1,if_false,g2,Sem.run_bind,cH hj (List.getElem?_eq_getElem b1),cH hj (List.getElem?_eq_getElem b2),Result.andThen_ok,run_eqInt hj]
  by_cases he:ms[i]=ns[i]
  ·have hx:(ms.drop i=ns.drop i)=(ms.drop (i+1)=ns.drop (i+1)):=by
    rw[e1,e2,he]
    exact propext ⟨fun h=>(List.cons.inj h).2,fun h=>by rw[h]⟩
   simp only[he,beq_self_eq_true,Bool.true_eq_false,if_false,Sem.run_pure,Result.andThen_ok]
   rw[ih]
   simp only[hx]
  ·have hx:¬ ms.drop i=ns.drop i:=by
    rw[e1,e2]
    exact fun h=>he (List.cons.inj h).1
   have hb:(ms[i] == ns[i])=false:=by simp [he]
   simp only[hb,if_true,Sem.run_pure,Result.andThen_ok,if_neg hx]
theorem run_eqS{T:TypeId}{c:Nat}(h:eqsB P T=some c)(k:IntKind)(ms ns:List Int)(h1:ms.length=c)(h2:ns.length=c)(w:World) :
  (Op.equal T (.agg (ms.map (Value.int k)).toArray) (.agg (ns.map (Value.int k)).toArray)).run P w=.ok (decide (ms=ns)) w∧P.eqGuardType P.depth T=false:=by
 unfold eqsB at h
 split at h
 ·rename_i fs hT
  split at h
  ·rename_i hq
   simp only[Bool.and_eq_true,Bool.not_eq_true'] at hq
   injection h with h
   refine ⟨?_,hq.2.2⟩
   show (Op.equalIn (9998+2) T _ _).run P w=_
   rw[Op.equalIn]
   have hl:=run_fs k 9998 w ms ns fs.toList 0 hq.1 (by simp;omega) (by simp;omega)
   rw[Array.forIn_toList] at hl
   simp [run_underlying hT,hq.2.1]
   have hl2:=hl
   simp only[List.drop_zero] at hl2
   rw[hl2]
   by_cases e:ms=ns
   ·simp [e]
   ·simp [e]
  ·cases h
 ·cases h
theorem fK{w:World}{D:kU}{v:Value}{k:IntKind}{ms:List Int}(h:uD w D v (.agg (ms.map fun m=>.val (.int k m)))):v=.agg (ms.map (Value.int k)).toArray:=by
 obtain ⟨vs,rfl,hl,_,hr⟩:=rep_agg h
 have e:vs=ms.map (Value.int k):=by
  refine List.ext_getElem (by simpa using hl) fun i h1 h2=>?_
  have hi:i<ms.length:=by simpa using h2
  have:=qM (hr i vs[i] (.val (.int k ms[i])) (List.getElem?_eq_getElem h1) (by rw[List.getElem?_map,List.getElem?_eq_getElem hi];rfl))
  rw[this];simp
 rw[e]
theorem e_eqs{o:Oper}{S:Nat→SV}{T T':TypeId}{x y:Operand}{k:IntKind}{ms ns:List Int}{c:Nat}(ho:o.op=.binOp .eql T x y T')(hT:eqsB P T=some c)(hx:ev S x=.d (.agg (ms.map fun m=>.val (.int k m))))(hy:ev S y=.d (.agg (ns.map fun m=>.val (.int k m))))(h1:ms.length=c)(h2:ns.length=c):qW P o S [] (.d (.val (.bool (decide (ms=ns))))) :=
 qW.same fun a w D β hop _=>by
  have hx':=hop x (by simp [ho,Op.operands])
  have hy':=hop y (by simp [ho,Op.operands])
  rw[hx] at hx'
  rw[hy] at hy'
  have ex:=fK hx'
  have ey:=fK hy'
  obtain ⟨g1,g2⟩:=run_eqS hT k ms ns h1 h2 w
  refine ⟨.bool (decide (ms=ns)),?_,.val _⟩
  simp [execOp,ho,ex,ey,eqGuard,g2,binOp,g1]
theorem oEs{P:Program}{o:Oper}{S:Nat→SV}{T T':TypeId}{x y:Operand}{c:Nat}(hT:eqsB P T=some c)(k:IntKind)(ms ns:List Int)(ho:o.op=.binOp .eql T x y T':=by exact rfl)(hx:ev S x=.d (.agg (ms.map fun m=>.val (.int k m))):=by kernel_rfl)(hy:ev S y=.d (.agg (ns.map fun m=>.val (.int k m))):=by kernel_rfl)(h1:ms.length=c:=by exact rfl)(h2:ns.length=c:=by exact rfl):qW P o S [] (.d (.val (.bool (decide (ms=ns))))):=e_eqs ho hT hx hy h1 h2
end Go.Fid
namespace Go.Fid
variable {P:Program} {o:Oper} {S:Nat→SV}
end Go.Fid
namespace Go.Proofs.YteimogfidbkpnabGreat
open Go.Fid
theorem avo_encQuat(x:jB):yG 1000000 (jF x):=.agg (fJ (.val _) (fJ (.val _) (fJ (.val _) (fJ (.val _) avo_nil))))
end Go.Proofs.YteimogfidbkpnabGreat
