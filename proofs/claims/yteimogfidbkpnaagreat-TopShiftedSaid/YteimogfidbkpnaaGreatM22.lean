/- Part 22 of a proof: rules, plain facts, and functions walked. -/
import Derived.Test.YteimogfidbkpnaaGreatM21
set_option linter.all false
set_option maxRecDepth 4000
namespace Go.Proofs.YteimogfidbkpnaaGreat
open Go.Fid
theorem s_neg{x:kM}{a:Int}{m:Nat}(hx:gU x a m)(hm:m≤274877906944):jR Tryz.prog 100 [(jJ x)] (jJ (jZ (-a))):=by
 obtain ⟨rfl,hx'⟩:=hx
 exact t_neg x (by omega)
theorem s_abs{x:kM}{a:Int}{m:Nat}(hx:gU x a m)(hm:m≤274877906944):jR Tryz.prog 87 [(jJ x)] (jJ (jZ (a.natAbs:Int))):=by
 obtain ⟨rfl,hx'⟩:=hx
 exact t_absI x (by omega)
theorem s_sign{x:kM}{a:Int}{m:Nat}(hx:gU x a m)(hm:m≤274877906944):jR Tryz.prog 35 [(jJ x)] (.val (.int .i64 (qQ a))):=by
 obtain ⟨rfl,hx'⟩:=hx
 exact t_sign x (by omega)
theorem s_add{x y:kM}{a b:Int}{m n:Nat}(hx:gU x a m)(hy:gU y b n)(hm:m≤274877906944)(hn:n≤274877906944):jR Tryz.prog 124 [(jJ x),(jJ y)] (jJ (jZ (a+b))):=by
 obtain ⟨rfl,hx'⟩:=hx;obtain ⟨rfl,hy'⟩:=hy
 exact t_add x y (by omega) (by omega)
theorem s_mul{x y:kM}{a b:Int}{m n:Nat}(hx:gU x a m)(hy:gU y b n)(hm:m≤274877906944)(hn:n≤274877906944):jR Tryz.prog 70 [(jJ x),(jJ y)] (jJ (jZ (a*b))):=by
 obtain ⟨rfl,hx'⟩:=hx;obtain ⟨rfl,hy'⟩:=hy
 exact t_mul x y (by omega) (by omega)
theorem s_compare{x y:kM}{a b:Int}{m n:Nat}(hx:gU x a m)(hy:gU y b n)(hm:m≤274877906944)(hn:n≤274877906944):jR Tryz.prog 36 [(jJ x),(jJ y)] (.val (.int .i64 (uP a b))):=by
 obtain ⟨rfl,hx'⟩:=hx;obtain ⟨rfl,hy'⟩:=hy
 exact t_compareI x y (by omega) (by omega)
theorem s_gcd{x y:kM}{a b:Int}{m n:Nat}(hx:gU x a m)(hy:gU y b n)(hm:m≤274877906944)(hn:n≤274877906944):jR Tryz.prog 37 [(jJ x),(jJ y)] (jJ (jZ ((Int.gcd a b:Nat):Int))):=by
 obtain ⟨rfl,hx'⟩:=hx;obtain ⟨rfl,hy'⟩:=hy
 exact t_gcdI x y (by omega) (by omega)
theorem s_divide{x y:kM}{a b:Int}{m n:Nat}(hx:gU x a m)(hy:gU y b n)(hm:m≤274877906944)(hn:n≤274877906944)(hb:b≠0):jR Tryz.prog 101 [(jJ x),(jJ y)] (.tup [(jJ (jZ (a.fdiv b))),(jJ (jZ (a.fmod b))),(.val (.int .i64 0))]):=by
 obtain ⟨rfl,hx'⟩:=hx;obtain ⟨rfl,hy'⟩:=hy
 exact t_divideI x y (by omega) (by omega) hb
theorem rs_neg{x:kM}{a:Int}{m:Nat}(hx:gU x a m)(hm:m≤274877906944):jR Tryz.prog 104 [(jJ x)] (jJ (jZ (-a))):=by
 obtain ⟨rfl,hx'⟩:=hx
 exact r_neg x (by omega)
theorem rs_sign{x:kM}{a:Int}{m:Nat}(hx:gU x a m)(hm:m≤274877906944):jR Tryz.prog 52 [(jJ x)] (.val (.int .i64 (qQ a))):=by
 obtain ⟨rfl,hx'⟩:=hx
 exact r_sign x (by omega)
theorem rs_add{x y:kM}{a b:Int}{m n:Nat}(hx:gU x a m)(hy:gU y b n)(hm:m≤274877906944)(hn:n≤274877906944):jR Tryz.prog 114 [(jJ x),(jJ y)] (jJ (jZ (a+b))):=by
 obtain ⟨rfl,hx'⟩:=hx;obtain ⟨rfl,hy'⟩:=hy
 exact r_add x y (by omega) (by omega)
theorem rs_mul{x y:kM}{a b:Int}{m n:Nat}(hx:gU x a m)(hy:gU y b n)(hm:m≤274877906944)(hn:n≤274877906944):jR Tryz.prog 121 [(jJ x),(jJ y)] (jJ (jZ (a*b))):=by
 obtain ⟨rfl,hx'⟩:=hx;obtain ⟨rfl,hy'⟩:=hy
 exact r_mul x y (by omega) (by omega)
theorem rs_compare{x y:kM}{a b:Int}{m n:Nat}(hx:gU x a m)(hy:gU y b n)(hm:m≤274877906944)(hn:n≤274877906944):jR Tryz.prog 53 [(jJ x),(jJ y)] (.val (.int .i64 (uP a b))):=by
 obtain ⟨rfl,hx'⟩:=hx;obtain ⟨rfl,hy'⟩:=hy
 exact r_compare x y (by omega) (by omega)
theorem rs_gcd{x y:kM}{a b:Int}{m n:Nat}(hx:gU x a m)(hy:gU y b n)(hm:m≤274877906944)(hn:n≤274877906944):jR Tryz.prog 54 [(jJ x),(jJ y)] (jJ (jZ ((Int.gcd a b:Nat):Int))):=by
 obtain ⟨rfl,hx'⟩:=hx;obtain ⟨rfl,hy'⟩:=hy
 exact r_gcd x y (by omega) (by omega)
theorem rs_divide{x y:kM}{a b:Int}{m n:Nat}(hx:gU x a m)(hy:gU y b n)(hm:m≤274877906944)(hn:n≤274877906944)(hb:b≠0):jR Tryz.prog 105 [(jJ x),(jJ y)] (.tup [(jJ (jZ (a.fdiv b))),(jJ (jZ (a.fmod b))),(.val (.int .i64 0))]):=by
 obtain ⟨rfl,hx'⟩:=hx;obtain ⟨rfl,hy'⟩:=hy
 exact r_divide x y (by omega) (by omega) hb
theorem cb15:callB Tryz.prog 15=true:=by kernel_rfl
theorem cb28:callB Tryz.prog 28=true:=by kernel_rfl
theorem cb45:callB Tryz.prog 45=true:=by kernel_rfl
theorem cb48:callB Tryz.prog 48=true:=by kernel_rfl
theorem cb49:callB Tryz.prog 49=true:=by kernel_rfl
theorem cb50:callB Tryz.prog 50=true:=by kernel_rfl
theorem cb67:callB Tryz.prog 67=true:=by kernel_rfl
theorem cb68:callB Tryz.prog 68=true:=by kernel_rfl
theorem cb69:callB Tryz.prog 69=true:=by kernel_rfl
theorem cb97:callB Tryz.prog 97=true:=by kernel_rfl
theorem cb98:callB Tryz.prog 98=true:=by kernel_rfl
theorem cb99:callB Tryz.prog 99=true:=by kernel_rfl
theorem cb125:callB Tryz.prog 125=true:=by kernel_rfl
theorem zJ:uA Tryz.prog 38 0=some 0:=by kernel_rfl
theorem xQ:uA Tryz.prog 38 1=some 2:=by kernel_rfl
theorem ft38_0:fH Tryz.prog 38 0=some (0,36):=by kernel_rfl
theorem pl38:yR Tryz.prog 38=some [(0,2),(2,2)]:=by kernel_rfl
theorem jP:kZ Tryz.prog 38=some (true,4):=by kernel_rfl
theorem qW:uL Tryz.prog 38=some [.bool false,.slice none 0 0,.bool false,.slice none 0 0]:=by kernel_rfl
theorem uI:gD [.bool false,.slice none 0 0,.bool false,.slice none 0 0] [.val (.bool false),.sl 121 1 [],.val (.bool false),.sl 121 1 []]:=by simp [gD,Value.oneCell']
theorem f_reduced(num den:kM)(a b:Int)(cU:gU num a 68719476736)(mB:gU den b 68719476736)(hb:b≠0):jR Tryz.prog 69 [(jJ num),(jJ den)] (jI (jF (Rat.divInt a b))):=by
 refine jH Tryz.func69 rfl cb69 rfl ?_
 show qS _ _ _ _ ⟨[(0,(.d (jJ num))),(1,(.d (jJ den)))],[]⟩
 refine jA<|kx [(2,(.ref 0 0)),(3,(.ref 1 0)),(4,(.ref 2 0))] [(0,some (bx (jJ num))),(1,some (bx (jJ den))),(2,some (bx (jI nT)))] (zN (vL 0)<|zN (vL 1)<|zN (uX 2 qW uI)<|zZ) ?_
 refine jA<|jA<|kx [(8,(vb (decide ((qQ b)<0))))] [] (zR (kI jS)<|zE (jX (s_sign mB (by decide)))<|zE uE<|zZ) ?_
 refine jG (b:=decide ((qQ b)<0)) rfl (fun h1=>?_) (fun h1=>?_)
 ·replace h1:=vM h1
  have hlt:=signI_lt.1 h1
  have hb2:-b≠0:=by omega
  refine kd [] [(0,some (bx (jJ (jZ (-a))))),(1,some (bx (jJ (jZ (-b)))))] mo (wR (kI jS)<|wE (jX (s_neg cU (by decide)))<|wR (kI jS)<|wE (jX (s_neg mB (by decide)))<|wT (qF jS)<|wT (qF jS)<|wZ) ?_
  refine jA<|kx [(5,(.ref 3 0))] [(3,some (bx (jJ (jZ ((Int.gcd (-a) (-b):Nat):Int)))))] (zR (kI jS)<|zR (kI jS)<|zE (jX (s_gcd (hP cU) (hP mB) (by decide) (by decide)))<|zN (uX 3 yI yL)<|zT (qF jS)<|zZ) ?_
  refine jA<|kx [] [(0,some (bx (jJ (jZ ((-a).fdiv (((Int.gcd (-a) (-b):Nat):Int)))))))] (zR (kI jS)<|zR (kI jS)<|zE (jX (s_divide (hP cU) (gL (k:=68719476736) (hP cU) (hP mB) (by decide)) (by decide) (by decide) (gcd_ne (by omega))))<|zM<|zE vQ<|zE vQ<|zE vQ<|zT (qF jS)<|zZ) ?_
  refine jA<|kx [] [(1,some (bx (jJ (jZ ((-b).fdiv (((Int.gcd (-a) (-b):Nat):Int)))))))] (zR (kI jS)<|zR (kI jS)<|zE (jX (s_divide (hP mB) (gL (k:=68719476736) (hP cU) (hP mB) (by decide)) (by decide) (by decide) (gcd_ne (by omega))))<|zM<|zE vQ<|zE vQ<|zE vQ<|zT (qF jS)<|zZ) ?_
  refine jA<|kx [] [(2,some (bx (jI (qK.mk (jZ ((-a).fdiv (((Int.gcd (-a) (-b):Nat):Int)))) (jZ ((-b).fdiv (((Int.gcd (-a) (-b):Nat):Int))))))))] (zR (kI jS)<|zR (kI jS)<|zE (oBd pl38 qW uI)<|zT (qF jP)<|zZ) ?_
  refine jE ⟨_,(kV (cs:=(bx (jI (qK.mk (jZ ((-a).fdiv (((Int.gcd (-a) (-b):Nat):Int)))) (jZ ((-b).fdiv (((Int.gcd (-a) (-b):Nat):Int)))))))) (d:=(jI (qK.mk (jZ ((-a).fdiv (((Int.gcd (-a) (-b):Nat):Int)))) (jZ ((-b).fdiv (((Int.gcd (-a) (-b):Nat):Int))))))) rfl rfl jP rfl rfl .nil),?_⟩
  rw[red_neg hlt];rfl
 ·replace h1:=vK h1
  have hge:¬ b<0:=fun hh=>h1 (signI_lt.2 hh)
  refine jC<|jA<|kx [(5,(.ref 4 0))] [(4,some (bx (jJ (jZ ((Int.gcd a b:Nat):Int)))))] (zR (kI jS)<|zR (kI jS)<|zE (jX (s_gcd cU mB (by decide) (by decide)))<|zN (uX 4 yI yL)<|zT (qF jS)<|zZ) ?_
  refine jA<|kx [] [(0,some (bx (jJ (jZ (a.fdiv (((Int.gcd a b:Nat):Int)))))))] (zR (kI jS)<|zR (kI jS)<|zE (jX (s_divide cU (gL (k:=68719476736) cU mB (by decide)) (by decide) (by decide) (gcd_ne (by omega))))<|zM<|zE vQ<|zE vQ<|zE vQ<|zT (qF jS)<|zZ) ?_
  refine jA<|kx [] [(1,some (bx (jJ (jZ (b.fdiv (((Int.gcd a b:Nat):Int)))))))] (zR (kI jS)<|zR (kI jS)<|zE (jX (s_divide mB (gL (k:=68719476736) cU mB (by decide)) (by decide) (by decide) (gcd_ne (by omega))))<|zM<|zE vQ<|zE vQ<|zE vQ<|zT (qF jS)<|zZ) ?_
  refine jA<|kx [] [(2,some (bx (jI (qK.mk (jZ (a.fdiv (((Int.gcd a b:Nat):Int)))) (jZ (b.fdiv (((Int.gcd a b:Nat):Int))))))))] (zR (kI jS)<|zR (kI jS)<|zE (oBd pl38 qW uI)<|zT (qF jP)<|zZ) ?_
  refine jE ⟨_,(kV (cs:=(bx (jI (qK.mk (jZ (a.fdiv (((Int.gcd a b:Nat):Int)))) (jZ (b.fdiv (((Int.gcd a b:Nat):Int)))))))) (d:=(jI (qK.mk (jZ (a.fdiv (((Int.gcd a b:Nat):Int)))) (jZ (b.fdiv (((Int.gcd a b:Nat):Int))))))) rfl rfl jP rfl rfl .nil),?_⟩
  rw[red_pos hge hb];rfl
theorem hO(n:Int)(hlo:-9223372036854775808≤n)(hhi:n≤9223372036854775807):jR Tryz.prog 48 [(.val (.int .i64 (n)))] (jI (jF ((n:Int):Rat))):=by
 refine jH Tryz.func48 rfl cb48 rfl ?_
 show qS _ _ _ _ ⟨[(0,(vi n))],[]⟩
 refine jA<|kx [(2,(.ref 0 0))] [(0,some (bx (jI nT)))] (zN (uX 0 qW uI)<|zZ) ?_
 refine jA<|kx [] [(0,some (bx (jI (qK.mk (jZ n) (jZ 1)))))] (zM<|zE (jX (t_of n (by omega) (by omega)))<|zE (jX (t_of 1 (by decide) (by decide)))<|zE (oBd pl38 qW uI)<|zT (qF jP)<|zZ) ?_
 refine jE ⟨_,(kV (cs:=(bx (jI (qK.mk (jZ n) (jZ 1))))) (d:=(jI (qK.mk (jZ n) (jZ 1)))) rfl rfl jP rfl rfl .nil),?_⟩
 rfl
theorem f_valid(x:qK)(p:Rat)(hx:QOk x p 17179869184):jR Tryz.prog 15 [(jI x)] (.val (.bool ((vD x)))):=by
 refine jH Tryz.func15 rfl cb15 rfl ?_
 show qS _ _ _ _ ⟨[(0,(.d (jI x)))],[]⟩
 refine jA<|kx [(1,(.ref 0 0))] [(0,some (bx (jI x)))] (zN (vL 0)<|zM<|zZ) ?_
 refine jA<|jA<|kx [(18,(vb ((!(qY x.num)||!(qY x.den))||decide ((qQ (jO x.den))≤0))))] [] ?_ ?_
 ·refine zE (kJ zJ)<|zR (kI jS)<|zE (jX (t_valid x.num (Nat.le_trans (xY hx.n1).l (by decide))))<|zE oNt<|zE (oV (vb (!(qY x.num))) (kT (by kernel_rfl)))<|?_
  rcases hb1:(!(qY x.num)) with _ | _
  ·refine zE (kJ xQ)<|zR (kI jS)<|zE (jX (t_valid x.den (Nat.le_trans (xY hx.n2).l (by decide))))<|zE oNt<|zE nS<|zE (oV (vb (false||!(qY x.den))) (kT (by kernel_rfl)))<|?_
   rcases hb2:(false||!(qY x.den)) with _ | _
   ·exact zE (kJ xQ)<|zR (kI jS)<|zE (jX (s_sign (xY hx.n2) (by decide)))<|zE oLe<|zE nS<|zZ
   ·exact zK<|zK<|zK<|zK<|zE xB<|zZ
  ·exact zK<|zK<|zK<|zK<|zE xB<|zM<|zK<|zK<|zK<|zK<|zE xB<|zZ
 refine jG rfl (fun h3=>?_) (fun h3=>?_)
 ·refine jA<|kx [(2,(vb false))] [] (zM<|zZ) ?_
  refine jE ⟨_,(.tmp (d:=(.val (.bool (false)))) rfl .nil),?_⟩
  rw[validR_no h3];rfl
 ·refine jC<|jA<|kx [(2,(vb ((uP (((Int.gcd (jO x.num) (jO x.den):Nat):Int)) 1) == 0)))] [] (zE (kJ zJ)<|zR (kI jS)<|zE (kJ xQ)<|zR (kI jS)<|zE (jX (s_gcd (xY hx.n1) (xY hx.n2) (by decide) (by decide)))<|zE (jX (t_of 1 (by decide) (by decide)))<|zE (jX (s_compare (gL (k:=17179869184) (xY hx.n1) (xY hx.n2) (by decide)) (eK (z:=1) (by decide)) (by decide) (by decide)))<|zE oEq<|zM<|zZ) ?_
  refine jE ⟨_,(.tmp (d:=(.val (.bool (((uP (((Int.gcd (jO x.num) (jO x.den):Nat):Int)) 1) == 0))))) rfl .nil),?_⟩
  rw[validR_yes h3];rfl
theorem f_copied(x:qK)(p:Rat)(hx:QOk x p 17179869184):jR Tryz.prog 99 [(jI x)] (jI (qK.mk (jZ (-(-jO x.num))) (jZ (-(-jO x.den))))):=by
 refine jH Tryz.func99 rfl cb99 rfl ?_
 show qS _ _ _ _ ⟨[(0,(.d (jI x)))],[]⟩
 refine jA<|kx [(1,(.ref 0 0)),(2,(.ref 1 0))] [(0,some (bx (jI x))),(1,some (bx (jI nT)))] (zN (vL 0)<|zN (uX 1 qW uI)<|zZ) ?_
 refine jA<|kd [] [(1,some (bx (jI (qK.mk (jZ (-(-(jO x.num)))) (jZ (-(-(jO x.den))))))))] mo (wE (kJ zJ)<|wR (kI jS)<|wE (jX (s_neg (xY hx.n1) (by decide)))<|wE (jX (s_neg (hP (xY hx.n1)) (by decide)))<|wE (kJ xQ)<|wR (kI jS)<|wE (jX (s_neg (xY hx.n2) (by decide)))<|wE (jX (s_neg (hP (xY hx.n2)) (by decide)))<|wE (oBd pl38 qW uI)<|wT (qF jP)<|wZ) ?_
 refine jE ⟨_,(kV (cs:=(bx (jI (qK.mk (jZ (-(-(jO x.num)))) (jZ (-(-(jO x.den)))))))) (d:=(jI (qK.mk (jZ (-(-(jO x.num)))) (jZ (-(-(jO x.den))))))) rfl rfl jP rfl rfl .nil),?_⟩
 rfl
theorem nH(x:qK)(p:Rat)(hx:QOk x p 17179869184):jR Tryz.prog 68 [(jI x)] (jI (jF p)):=by
 refine jH Tryz.func68 rfl cb68 rfl ?_
 show qS _ _ _ _ ⟨[(0,(.d (jI x)))],[]⟩
 refine jA<|kx [(1,(.ref 0 0)),(2,(.ref 1 0))] [(0,some (bx (jI x))),(1,some (bx (jI nT)))] (zN (vL 0)<|zN (uX 1 qW uI)<|zZ) ?_
 refine jA<|jA<|kx [(4,(vb (vD x)))] [] (zR (kI jP)<|zE (jX (f_valid x p hx))<|zZ) ?_
 refine jG (b:=(vD x)) rfl (fun h1=>?_) (fun h1=>?_)
 ·refine jA<|kx [] [(1,some (bx (jI (qK.mk (jZ (-(-jO x.num))) (jZ (-(-jO x.den)))))))] (zR (kI jP)<|zE (jX (f_copied x p hx))<|zT (qF jP)<|zZ) ?_
  refine jE ⟨_,(kV (cs:=(bx (jI (qK.mk (jZ (-(-jO x.num))) (jZ (-(-jO x.den))))))) (d:=(jI (qK.mk (jZ (-(-jO x.num))) (jZ (-(-jO x.den)))))) rfl rfl jP rfl rfl .nil),?_⟩
  rw[← hx.v,← copied_eq h1];rfl
 ·refine jC<|jA<|kx [] [(1,some (bx (jI (jF ((0:Int):Rat)))))] (zE (jX (hO 0 (by decide) (by decide)))<|zT (qF jP)<|zZ) ?_
  refine jE ⟨_,(kV (cs:=(bx (jI (jF ((0:Int):Rat))))) (d:=(jI (jF ((0:Int):Rat)))) rfl rfl jP rfl rfl .nil),?_⟩
  rw[← hx.v,toQ_bad h1];rfl
theorem f_sign(x:qK)(p:Rat)(hx:QOk x p 17179869184):jR Tryz.prog 67 [(jI x)] (.val (.int .i64 ((eN p)))):=by
 refine jH Tryz.func67 rfl cb67 rfl ?_
 show qS _ _ _ _ ⟨[(0,(.d (jI x)))],[]⟩
 refine jA<|kx [(1,(.ref 0 0))] [(0,some (bx (jI x)))] (zN (vL 0)<|zM<|zZ) ?_
 refine jA<|kx [(2,(vi (qQ p.num)))] [] (zR (kI jP)<|zE (jX (nH x p hx))<|zE (oFv ft38_0 jS)<|zE (jX (s_sign (qR hx.ql) (by decide)))<|zM<|zZ) ?_
 refine jE ⟨_,(.tmp (d:=(.val (.int .i64 ((qQ p.num))))) rfl .nil),?_⟩
 rfl
theorem f_neg(x:qK)(p:Rat)(hx:QOk x p 17179869184):jR Tryz.prog 125 [(jI x)] (jI (jF (-p))):=by
 refine jH Tryz.func125 rfl cb125 rfl ?_
 show qS _ _ _ _ ⟨[(0,(.d (jI x)))],[]⟩
 refine jA<|kx [(1,(.ref 0 0)),(2,(.ref 1 0))] [(0,some (bx (jI x))),(1,some (bx (jI nT)))] (zN (vL 0)<|zN (uX 1 qW uI)<|zZ) ?_
 refine jA<|kx [] [(0,some (bx (jI (jF p))))] (zR (kI jP)<|zE (jX (nH x p hx))<|zT (qF jP)<|zZ) ?_
 refine jA<|kd [] [(1,some (bx (jI (qK.mk (jZ (-p.num)) ((jF p).den)))))] mo (wE (kJ zJ)<|wR (kI jS)<|wE (jX (s_neg (qR hx.ql) (by decide)))<|wE (kJ xQ)<|wR (kI jS)<|wE (oBd pl38 qW uI)<|wT (qF jP)<|wZ) ?_
 refine jE ⟨_,(kV (cs:=(bx (jI (qK.mk (jZ (-p.num)) ((jF p).den))))) (d:=(jI (qK.mk (jZ (-p.num)) ((jF p).den)))) rfl rfl jP rfl rfl .nil),?_⟩
 rfl
theorem f_abs(x:qK)(p:Rat)(hx:QOk x p 17179869184):jR Tryz.prog 50 [(jI x)] (jI (jF (absQ p))):=by
 refine jH Tryz.func50 rfl cb50 rfl ?_
 show qS _ _ _ _ ⟨[(0,(.d (jI x)))],[]⟩
 refine jA<|kx [(1,(.ref 0 0)),(2,(.ref 1 0))] [(0,some (bx (jI x))),(1,some (bx (jI nT)))] (zN (vL 0)<|zN (uX 1 qW uI)<|zZ) ?_
 refine jA<|kx [] [(0,some (bx (jI (jF p))))] (zR (kI jP)<|zE (jX (nH x p hx))<|zT (qF jP)<|zZ) ?_
 refine jA<|kd [] [(1,some (bx (jI (qK.mk (jZ (p.num.natAbs:Int)) ((jF p).den)))))] mo (wE (kJ zJ)<|wR (kI jS)<|wE (jX (s_abs (qR hx.ql) (by decide)))<|wE (kJ xQ)<|wR (kI jS)<|wE (oBd pl38 qW uI)<|wT (qF jP)<|wZ) ?_
 refine jE ⟨_,(kV (cs:=(bx (jI (qK.mk (jZ (p.num.natAbs:Int)) ((jF p).den))))) (d:=(jI (qK.mk (jZ (p.num.natAbs:Int)) ((jF p).den)))) rfl rfl jP rfl rfl .nil),?_⟩
 rw[← abs_eq];rfl
theorem f_add(x:qK)(y:qK)(p:Rat)(q:Rat)(hx:QOk x p 17179869184)(hy:QOk y q 17179869184):jR Tryz.prog 97 [(jI x),(jI y)] (jI (jF (p+q))):=by
 refine jH Tryz.func97 rfl cb97 rfl ?_
 show qS _ _ _ _ ⟨[(0,(.d (jI x))),(1,(.d (jI y)))],[]⟩
 refine jA<|kx [(2,(.ref 0 0)),(3,(.ref 1 0)),(4,(.ref 2 0))] [(0,some (bx (jI x))),(1,some (bx (jI y))),(2,some (bx (jI nT)))] (zN (vL 0)<|zN (vL 1)<|zN (uX 2 qW uI)<|zZ) ?_
 refine jA<|kd [] [(0,some (bx (jI (jF p)))),(1,some (bx (jI (jF q))))] mo (wR (kI jP)<|wE (jX (nH x p hx))<|wR (kI jP)<|wE (jX (nH y q hy))<|wT (qF jP)<|wT (qF jP)<|wZ) ?_
 refine jA<|kd [] [(2,some (bx (jI (jF (Rat.divInt ((p.num*(q.den:Int))+(q.num*(p.den:Int))) ((p.den:Int)*(q.den:Int)))))))] mo (wE (kJ zJ)<|wR (kI jS)<|wE (kJ xQ)<|wR (kI jS)<|wE (jX (s_mul (qR hx.ql) (uH hy.ql) (by decide) (by decide)))<|wE (kJ zJ)<|wR (kI jS)<|wE (kJ xQ)<|wR (kI jS)<|wE (jX (s_mul (qR hy.ql) (uH hx.ql) (by decide) (by decide)))<|wE (jX (s_add (yH (k:=34359738368) (qR hx.ql) (uH hy.ql) (by decide)) (yH (k:=34359738368) (qR hy.ql) (uH hx.ql) (by decide)) (by decide) (by decide)))<|wE (kJ xQ)<|wR (kI jS)<|wE (kJ xQ)<|wR (kI jS)<|wE (jX (s_mul (uH hx.ql) (uH hy.ql) (by decide) (by decide)))<|wE (jX (f_reduced (jZ ((p.num*(q.den:Int))+(q.num*(p.den:Int)))) (jZ ((p.den:Int)*(q.den:Int))) ((p.num*(q.den:Int))+(q.num*(p.den:Int))) ((p.den:Int)*(q.den:Int)) (nD (iok_add (k:=34359738369) (yH (k:=34359738368) (qR hx.ql) (uH hy.ql) (by decide)) (yH (k:=34359738368) (qR hy.ql) (uH hx.ql) (by decide)) (by decide)) (by decide)) (nD (yH (k:=34359738368) (uH hx.ql) (uH hy.ql) (by decide)) (by decide)) (mul_ne (den_ne _) (den_ne _))))<|wT (qF jP)<|wZ) ?_
 refine jE ⟨_,(kV (cs:=(bx (jI (jF (Rat.divInt ((p.num*(q.den:Int))+(q.num*(p.den:Int))) ((p.den:Int)*(q.den:Int))))))) (d:=(jI (jF (Rat.divInt ((p.num*(q.den:Int))+(q.num*(p.den:Int))) ((p.den:Int)*(q.den:Int)))))) rfl rfl jP rfl rfl .nil),?_⟩
 rw[add_divInt];rfl
theorem f_sub(x:qK)(y:qK)(p:Rat)(q:Rat)(hx:QOk x p 17179869184)(hy:QOk y q 17179869184):jR Tryz.prog 98 [(jI x),(jI y)] (jI (jF (p-q))):=by
 refine jH Tryz.func98 rfl cb98 rfl ?_
 show qS _ _ _ _ ⟨[(0,(.d (jI x))),(1,(.d (jI y)))],[]⟩
 refine jA<|kx [(2,(.ref 0 0)),(3,(.ref 1 0)),(4,(.ref 2 0))] [(0,some (bx (jI x))),(1,some (bx (jI y))),(2,some (bx (jI nT)))] (zN (vL 0)<|zN (vL 1)<|zN (uX 2 qW uI)<|zZ) ?_
 refine jA<|kd [] [(2,some (bx (jI (jF (p+(-q))))))] mo (wR (kI jP)<|wR (kI jP)<|wE (jX (f_neg y q hy))<|wE (jX (f_add x (jF (-q)) p (-q) hx (kQ (ql_neg hy.ql))))<|wT (qF jP)<|wZ) ?_
 refine jE ⟨_,(kV (cs:=(bx (jI (jF (p+(-q)))))) (d:=(jI (jF (p+(-q))))) rfl rfl jP rfl rfl .nil),?_⟩
 rw[Rat.sub_eq_add_neg];rfl
theorem cY(x:qK)(y:qK)(p:Rat)(q:Rat)(hx:QOk x p 17179869184)(hy:QOk y q 17179869184):jR Tryz.prog 49 [(jI x),(jI y)] (jI (jF (p*q))):=by
 refine jH Tryz.func49 rfl cb49 rfl ?_
 show qS _ _ _ _ ⟨[(0,(.d (jI x))),(1,(.d (jI y)))],[]⟩
 refine jA<|kx [(2,(.ref 0 0)),(3,(.ref 1 0)),(4,(.ref 2 0))] [(0,some (bx (jI x))),(1,some (bx (jI y))),(2,some (bx (jI nT)))] (zN (vL 0)<|zN (vL 1)<|zN (uX 2 qW uI)<|zZ) ?_
 refine jA<|kd [] [(0,some (bx (jI (jF p)))),(1,some (bx (jI (jF q))))] mo (wR (kI jP)<|wE (jX (nH x p hx))<|wR (kI jP)<|wE (jX (nH y q hy))<|wT (qF jP)<|wT (qF jP)<|wZ) ?_
 refine jA<|kd [] [(2,some (bx (jI (jF (Rat.divInt (p.num*q.num) ((p.den:Int)*(q.den:Int)))))))] mo (wE (kJ zJ)<|wR (kI jS)<|wE (kJ zJ)<|wR (kI jS)<|wE (jX (s_mul (qR hx.ql) (qR hy.ql) (by decide) (by decide)))<|wE (kJ xQ)<|wR (kI jS)<|wE (kJ xQ)<|wR (kI jS)<|wE (jX (s_mul (uH hx.ql) (uH hy.ql) (by decide) (by decide)))<|wE (jX (f_reduced (jZ (p.num*q.num)) (jZ ((p.den:Int)*(q.den:Int))) (p.num*q.num) ((p.den:Int)*(q.den:Int)) (nD (yH (k:=34359738368) (qR hx.ql) (qR hy.ql) (by decide)) (by decide)) (nD (yH (k:=34359738368) (uH hx.ql) (uH hy.ql) (by decide)) (by decide)) (mul_ne (den_ne _) (den_ne _))))<|wT (qF jP)<|wZ) ?_
 refine jE ⟨_,(kV (cs:=(bx (jI (jF (Rat.divInt (p.num*q.num) ((p.den:Int)*(q.den:Int))))))) (d:=(jI (jF (Rat.divInt (p.num*q.num) ((p.den:Int)*(q.den:Int)))))) rfl rfl jP rfl rfl .nil),?_⟩
 rw[mul_divInt];rfl
theorem f_divide(x:qK)(y:qK)(p:Rat)(q:Rat)(hx:QOk x p 17179869184)(hy:QOk y q 17179869184):jR Tryz.prog 28 [(jI x),(jI y)] (.tup [(jI (divR p q)),(.val (.int .i64 ((divC q))))]):=by
 refine jH Tryz.func28 rfl cb28 rfl ?_
 show qS _ _ _ _ ⟨[(0,(.d (jI x))),(1,(.d (jI y)))],[]⟩
 refine jA<|kx [(2,(.ref 0 0)),(3,(.ref 1 0)),(4,(.ref 2 0))] [(0,some (bx (jI x))),(1,some (bx (jI y))),(2,some (bx (jI nT)))] (zN (vL 0)<|zN (vL 1)<|zN (uX 2 qW uI)<|zM<|zZ) ?_
 refine jA<|kd [] [(0,some (bx (jI (jF p)))),(1,some (bx (jI (jF q))))] mo (wR (kI jP)<|wE (jX (nH x p hx))<|wR (kI jP)<|wE (jX (nH y q hy))<|wT (qF jP)<|wT (qF jP)<|wZ) ?_
 refine jA<|jA<|kx [(13,(vb ((qQ q.num) == 0)))] [] (zE (kJ zJ)<|zR (kI jS)<|zE (jX (s_sign (qR hy.ql) (by decide)))<|zE oEq<|zZ) ?_
 refine jG (b:=((qQ q.num) == 0)) rfl (fun h1=>?_) (fun h1=>?_)
 ·replace h1:=eq_of_beq h1
  have hq0:=cP.1 h1
  refine jA<|kx [(5,(jL 14))] [(2,some (bx (jI nT)))] (zE (oBd pl38 qW uI)<|zT (qF jP)<|zM<|zZ) ?_
  refine jE ⟨_,(kV (cs:=(bx (jI nT))) (d:=(jI nT)) rfl rfl jP rfl rfl (.tmp (d:=(.val (.int .i64 (14)))) rfl .nil)),?_⟩
  rw[divR_zero hq0,divC_zero hq0];rfl
 ·replace h1:=ne_of_beq_false h1
  have hq0:q≠0:=fun hh=>h1 (cP.2 hh)
  refine jC<|jA<|kd [(5,(jL 0))] [(2,some (bx (jI (jF (Rat.divInt (p.num*(q.den:Int)) ((p.den:Int)*q.num))))))] mo (wE (kJ zJ)<|wR (kI jS)<|wE (kJ xQ)<|wR (kI jS)<|wE (jX (s_mul (qR hx.ql) (uH hy.ql) (by decide) (by decide)))<|wE (kJ xQ)<|wR (kI jS)<|wE (kJ zJ)<|wR (kI jS)<|wE (jX (s_mul (uH hx.ql) (qR hy.ql) (by decide) (by decide)))<|wE (jX (f_reduced (jZ (p.num*(q.den:Int))) (jZ ((p.den:Int)*q.num)) (p.num*(q.den:Int)) ((p.den:Int)*q.num) (nD (yH (k:=34359738368) (qR hx.ql) (uH hy.ql) (by decide)) (by decide)) (nD (yH (k:=34359738368) (uH hx.ql) (qR hy.ql) (by decide)) (by decide)) (mul_ne (den_ne _) (num_ne hq0))))<|wT (qF jP)<|wM<|wZ) ?_
  refine jE ⟨_,(kV (cs:=(bx (jI (jF (Rat.divInt (p.num*(q.den:Int)) ((p.den:Int)*q.num)))))) (d:=(jI (jF (Rat.divInt (p.num*(q.den:Int)) ((p.den:Int)*q.num))))) rfl rfl jP rfl rfl (.tmp (d:=(.val (.int .i64 (0)))) rfl .nil)),?_⟩
  rw[divR_ne hq0,divC_ne hq0,div_divInt];rfl
theorem f_compare(x:qK)(y:qK)(p:Rat)(q:Rat)(hx:QOk x p 17179869184)(hy:QOk y q 17179869184):jR Tryz.prog 45 [(jI x),(jI y)] (.val (.int .i64 ((dN p q)))):=by
 refine jH Tryz.func45 rfl cb45 rfl ?_
 show qS _ _ _ _ ⟨[(0,(.d (jI x))),(1,(.d (jI y)))],[]⟩
 refine jA<|kx [(2,(.ref 0 0)),(3,(.ref 1 0))] [(0,some (bx (jI x))),(1,some (bx (jI y)))] (zN (vL 0)<|zN (vL 1)<|zM<|zZ) ?_
 refine jA<|kd [] [(0,some (bx (jI (jF p)))),(1,some (bx (jI (jF q))))] mo (wR (kI jP)<|wE (jX (nH x p hx))<|wR (kI jP)<|wE (jX (nH y q hy))<|wT (qF jP)<|wT (qF jP)<|wZ) ?_
 refine jA<|kd [(4,(vi (uP (p.num*(q.den:Int)) (q.num*(p.den:Int)))))] [] mo (wE (kJ zJ)<|wR (kI jS)<|wE (kJ xQ)<|wR (kI jS)<|wE (jX (s_mul (qR hx.ql) (uH hy.ql) (by decide) (by decide)))<|wE (kJ zJ)<|wR (kI jS)<|wE (kJ xQ)<|wR (kI jS)<|wE (jX (s_mul (qR hy.ql) (uH hx.ql) (by decide) (by decide)))<|wE (jX (s_compare (yH (k:=34359738368) (qR hx.ql) (uH hy.ql) (by decide)) (yH (k:=34359738368) (qR hy.ql) (uH hx.ql) (by decide)) (by decide) (by decide)))<|wM<|wZ) ?_
 refine jE ⟨_,(.tmp (d:=(.val (.int .i64 ((uP (p.num*(q.den:Int)) (q.num*(p.den:Int))))))) rfl .nil),?_⟩
 rw[← cmpQ_cross];rfl
theorem cb7:callB Tryz.prog 7=true:=by kernel_rfl
theorem cb20:callB Tryz.prog 20=true:=by kernel_rfl
theorem cb23:callB Tryz.prog 23=true:=by kernel_rfl
theorem cb24:callB Tryz.prog 24=true:=by kernel_rfl
theorem cb32:callB Tryz.prog 32=true:=by kernel_rfl
theorem cb55:callB Tryz.prog 55=true:=by kernel_rfl
theorem cb56:callB Tryz.prog 56=true:=by kernel_rfl
theorem cb73:callB Tryz.prog 73=true:=by kernel_rfl
theorem cb92:callB Tryz.prog 92=true:=by kernel_rfl
theorem cb93:callB Tryz.prog 93=true:=by kernel_rfl
theorem cb94:callB Tryz.prog 94=true:=by kernel_rfl
theorem g_reduced(num den:kM)(a b:Int)(cU:gU num a 68719476736)(mB:gU den b 68719476736)(hb:b≠0):jR Tryz.prog 73 [(jJ num),(jJ den)] (jI (jF (Rat.divInt a b))):=by
 refine jH Tryz.func73 rfl cb73 rfl ?_
 show qS _ _ _ _ ⟨[(0,(.d (jJ num))),(1,(.d (jJ den)))],[]⟩
 refine jA<|kx [(2,(.ref 0 0)),(3,(.ref 1 0)),(4,(.ref 2 0))] [(0,some (bx (jJ num))),(1,some (bx (jJ den))),(2,some (bx (jI nT)))] (zN (vL 0)<|zN (vL 1)<|zN (uX 2 qW uI)<|zZ) ?_
 refine jA<|kx [(5,(.ref 3 0))] [(3,some (bx (jJ (jZ ((Int.gcd a b:Nat):Int)))))] (zR (kI jS)<|zR (kI jS)<|zE (jX (rs_gcd cU mB (by decide) (by decide)))<|zN (uX 3 yI yL)<|zT (qF jS)<|zZ) ?_
 refine jA<|jA<|kx [(17,(vb (decide ((qQ b)<0))))] [] (zR (kI jS)<|zE (jX (rs_sign mB (by decide)))<|zE uE<|zZ) ?_
 refine jG (b:=decide ((qQ b)<0)) rfl (fun h1=>?_) (fun h1=>?_)
 ·replace h1:=vM h1
  have hlt:=signI_lt.1 h1
  refine kx [] [(3,some (bx (jJ (jZ (-(((Int.gcd a b:Nat):Int)))))))] (zR (kI jS)<|zE (jX (rs_neg (gL (k:=68719476736) cU mB (by decide)) (by decide)))<|zT (qF jS)<|zZ) ?_
  refine jA<|kx [(6,(.ref 4 0))] [(4,some (bx (jJ (jZ (a.fdiv (-(((Int.gcd a b:Nat):Int)))))))),(5,none)] (zR (kI jS)<|zR (kI jS)<|zE (jX (rs_divide cU (hP (gL (k:=68719476736) cU mB (by decide))) (by decide) (by decide) (by have:=gcd_ne (a:=a) hb;omega)))<|zM<|zE vQ<|zE vQ<|zE vQ<|zN (uX 4 yI yL)<|zN (uX 5 yI yL)<|zT (qF jS)<|zT (qF jS)<|zM<|zZ) ?_
  refine jA<|kx [(9,(.ref 6 0))] [(6,some (bx (jJ (jZ (b.fdiv (-(((Int.gcd a b:Nat):Int)))))))),(7,none)] (zR (kI jS)<|zR (kI jS)<|zE (jX (rs_divide mB (hP (gL (k:=68719476736) cU mB (by decide))) (by decide) (by decide) (by have:=gcd_ne (a:=a) hb;omega)))<|zM<|zE vQ<|zE vQ<|zE vQ<|zN (uX 6 yI yL)<|zN (uX 7 yI yL)<|zT (qF jS)<|zT (qF jS)<|zM<|zZ) ?_
  refine jA<|kx [] [(2,some (bx (jI (qK.mk (jZ (a.fdiv (-(((Int.gcd a b:Nat):Int))))) (jZ (b.fdiv (-(((Int.gcd a b:Nat):Int)))))))))] (zR (kI jS)<|zR (kI jS)<|zE (oBd pl38 qW uI)<|zT (qF jP)<|zZ) ?_
  refine jE ⟨_,(kV (cs:=(bx (jI (qK.mk (jZ (a.fdiv (-(((Int.gcd a b:Nat):Int))))) (jZ (b.fdiv (-(((Int.gcd a b:Nat):Int))))))))) (d:=(jI (qK.mk (jZ (a.fdiv (-(((Int.gcd a b:Nat):Int))))) (jZ (b.fdiv (-(((Int.gcd a b:Nat):Int)))))))) rfl rfl jP rfl rfl .nil),?_⟩
  rw[← red_neg2 hlt];rfl
 ·replace h1:=vK h1
  have hge:¬ b<0:=fun hh=>h1 (signI_lt.2 hh)
  refine jC<|jA<|kx [(6,(.ref 8 0))] [(8,some (bx (jJ (jZ (a.fdiv (((Int.gcd a b:Nat):Int))))))),(9,none)] (zR (kI jS)<|zR (kI jS)<|zE (jX (rs_divide cU (gL (k:=68719476736) cU mB (by decide)) (by decide) (by decide) (by have:=gcd_ne (a:=a) hb;omega)))<|zM<|zE vQ<|zE vQ<|zE vQ<|zN (uX 8 yI yL)<|zN (uX 9 yI yL)<|zT (qF jS)<|zT (qF jS)<|zM<|zZ) ?_
  refine jA<|kx [(9,(.ref 10 0))] [(10,some (bx (jJ (jZ (b.fdiv (((Int.gcd a b:Nat):Int))))))),(11,none)] (zR (kI jS)<|zR (kI jS)<|zE (jX (rs_divide mB (gL (k:=68719476736) cU mB (by decide)) (by decide) (by decide) (by have:=gcd_ne (a:=a) hb;omega)))<|zM<|zE vQ<|zE vQ<|zE vQ<|zN (uX 10 yI yL)<|zN (uX 11 yI yL)<|zT (qF jS)<|zT (qF jS)<|zM<|zZ) ?_
  refine jA<|kx [] [(2,some (bx (jI (qK.mk (jZ (a.fdiv (((Int.gcd a b:Nat):Int)))) (jZ (b.fdiv (((Int.gcd a b:Nat):Int))))))))] (zR (kI jS)<|zR (kI jS)<|zE (oBd pl38 qW uI)<|zT (qF jP)<|zZ) ?_
  refine jE ⟨_,(kV (cs:=(bx (jI (qK.mk (jZ (a.fdiv (((Int.gcd a b:Nat):Int)))) (jZ (b.fdiv (((Int.gcd a b:Nat):Int)))))))) (d:=(jI (qK.mk (jZ (a.fdiv (((Int.gcd a b:Nat):Int)))) (jZ (b.fdiv (((Int.gcd a b:Nat):Int))))))) rfl rfl jP rfl rfl .nil),?_⟩
  rw[red_pos hge hb];rfl
theorem g_whole1(n:Int)(hlo:-9223372036854775808≤n)(hhi:n≤9223372036854775807):jR Tryz.prog 20 [(.val (.int .i64 (n)))] (jJ (jZ n)):=by
 refine jH Tryz.func20 rfl cb20 rfl ?_
 show qS _ _ _ _ ⟨[(0,(vi n))],[]⟩
 refine jA<|kx [(2,(.ref 0 0))] [(0,some (bx (jJ (kM.mk false []))))] (zN (uX 0 yI yL)<|zZ) ?_
 refine jA<|kx [] [(0,some (bx (jJ (jZ n))))] (zM<|zE (jX (r_of n (by omega) (by omega)))<|zT (qF jS)<|zZ) ?_
 refine jE ⟨_,(kV (cs:=(bx (jJ (jZ n)))) (d:=(jJ (jZ n))) rfl rfl jS rfl rfl .nil),?_⟩
 rfl
theorem g_whole(n:Int)(hlo:-9223372036854775808≤n)(hhi:n≤9223372036854775807):jR Tryz.prog 7 [(.val (.int .i64 (n)))] (jI (jF ((n:Int):Rat))):=by
 refine jH Tryz.func7 rfl cb7 rfl ?_
 show qS _ _ _ _ ⟨[(0,(vi n))],[]⟩
 refine jA<|kx [(2,(.ref 0 0))] [(0,some (bx (jI nT)))] (zN (uX 0 qW uI)<|zZ) ?_
 refine jA<|kx [] [(0,some (bx (jI (qK.mk (jZ n) (jZ 1)))))] (zM<|zE (jX (g_whole1 n (by omega) (by omega)))<|zE (jX (g_whole1 1 (by decide) (by decide)))<|zE (oBd pl38 qW uI)<|zT (qF jP)<|zZ) ?_
 refine jE ⟨_,(kV (cs:=(bx (jI (qK.mk (jZ n) (jZ 1))))) (d:=(jI (qK.mk (jZ n) (jZ 1)))) rfl rfl jP rfl rfl .nil),?_⟩
 rfl
theorem g_valid(x:qK)(p:Rat)(hx:QOk x p 17179869184):jR Tryz.prog 23 [(jI x)] (.val (.bool ((vD x)))):=by
 refine jH Tryz.func23 rfl cb23 rfl ?_
 show qS _ _ _ _ ⟨[(0,(.d (jI x)))],[]⟩
 refine jA<|kx [(1,(.ref 0 0))] [(0,some (bx (jI x)))] (zN (vL 0)<|zM<|zZ) ?_
 refine jA<|jA<|kx [(18,(vb ((!(qY x.num)||!(qY x.den))||decide ((qQ (jO x.den))≤0))))] [] ?_ ?_
 ·refine zE (kJ zJ)<|zR (kI jS)<|zE (jX (r_valid x.num (Nat.le_trans (xY hx.n1).l (by decide))))<|zE oNt<|zE (oV (vb (!(qY x.num))) (kT (by kernel_rfl)))<|?_
  rcases hb1:(!(qY x.num)) with _ | _
  ·refine zE (kJ xQ)<|zR (kI jS)<|zE (jX (r_valid x.den (Nat.le_trans (xY hx.n2).l (by decide))))<|zE oNt<|zE nS<|zE (oV (vb (false||!(qY x.den))) (kT (by kernel_rfl)))<|?_
   rcases hb2:(false||!(qY x.den)) with _ | _
   ·exact zE (kJ xQ)<|zR (kI jS)<|zE (jX (rs_sign (xY hx.n2) (by decide)))<|zE oLe<|zE nS<|zZ
   ·exact zK<|zK<|zK<|zK<|zE xB<|zZ
  ·exact zK<|zK<|zK<|zK<|zE xB<|zM<|zK<|zK<|zK<|zK<|zE xB<|zZ
 refine jG rfl (fun h3=>?_) (fun h3=>?_)
 ·refine jA<|kx [(2,(vb false))] [] (zM<|zZ) ?_
  refine jE ⟨_,(.tmp (d:=(.val (.bool (false)))) rfl .nil),?_⟩
  rw[validR_no h3];rfl
 ·refine jC<|jA<|kx [(2,(vb ((uP (((Int.gcd (jO x.num) (jO x.den):Nat):Int)) 1) == 0)))] [] (zE (kJ zJ)<|zR (kI jS)<|zE (kJ xQ)<|zR (kI jS)<|zE (jX (rs_gcd (xY hx.n1) (xY hx.n2) (by decide) (by decide)))<|zE (jX (g_whole1 1 (by decide) (by decide)))<|zE (jX (rs_compare (gL (k:=17179869184) (xY hx.n1) (xY hx.n2) (by decide)) (eK (z:=1) (by decide)) (by decide) (by decide)))<|zE oEq<|zM<|zZ) ?_
  refine jE ⟨_,(.tmp (d:=(.val (.bool (((uP (((Int.gcd (jO x.num) (jO x.den):Nat):Int)) 1) == 0))))) rfl .nil),?_⟩
  rw[validR_yes h3];rfl
theorem g_value(x:qK)(p:Rat)(hx:QOk x p 17179869184):jR Tryz.prog 92 [(jI x)] (jI (jF p)):=by
 refine jH Tryz.func92 rfl cb92 rfl ?_
 show qS _ _ _ _ ⟨[(0,(.d (jI x)))],[]⟩
 refine jA<|kx [(1,(.ref 0 0)),(2,(.ref 1 0))] [(0,some (bx (jI x))),(1,some (bx (jI nT)))] (zN (vL 0)<|zN (uX 1 qW uI)<|zZ) ?_
 refine jA<|jA<|kx [(4,(vb (vD x)))] [] (zR (kI jP)<|zE (jX (g_valid x p hx))<|zZ) ?_
 refine jG (b:=(vD x)) rfl (fun h1=>?_) (fun h1=>?_)
 ·refine jA<|kx [] [(1,some (bx (jI x)))] (zR (kI jP)<|zT (qF jP)<|zZ) ?_
  refine jE ⟨_,(kV (cs:=(bx (jI x))) (d:=(jI x)) rfl rfl jP rfl rfl .nil),?_⟩
  rw[← hx.v,ofQ_toQ h1];rfl
 ·refine jC<|jA<|kx [] [(1,some (bx (jI (jF ((0:Int):Rat)))))] (zE (jX (g_whole 0 (by decide) (by decide)))<|zT (qF jP)<|zZ) ?_
  refine jE ⟨_,(kV (cs:=(bx (jI (jF ((0:Int):Rat))))) (d:=(jI (jF ((0:Int):Rat)))) rfl rfl jP rfl rfl .nil),?_⟩
  rw[← hx.v,toQ_bad h1];rfl
theorem g_sign(x:qK)(p:Rat)(hx:QOk x p 17179869184):jR Tryz.prog 55 [(jI x)] (.val (.int .i64 ((eN p)))):=by
 refine jH Tryz.func55 rfl cb55 rfl ?_
 show qS _ _ _ _ ⟨[(0,(.d (jI x)))],[]⟩
 refine jA<|kx [(1,(.ref 0 0))] [(0,some (bx (jI x)))] (zN (vL 0)<|zM<|zZ) ?_
 refine jA<|kx [(2,(vi (qQ p.num)))] [] (zR (kI jP)<|zE (jX (g_value x p hx))<|zE (oFv ft38_0 jS)<|zE (jX (rs_sign (qR hx.ql) (by decide)))<|zM<|zZ) ?_
 refine jE ⟨_,(.tmp (d:=(.val (.int .i64 ((qQ p.num))))) rfl .nil),?_⟩
 rfl
theorem g_neg(x:qK)(p:Rat)(hx:QOk x p 17179869184):jR Tryz.prog 94 [(jI x)] (jI (jF (-p))):=by
 refine jH Tryz.func94 rfl cb94 rfl ?_
 show qS _ _ _ _ ⟨[(0,(.d (jI x)))],[]⟩
 refine jA<|kx [(1,(.ref 0 0)),(2,(.ref 1 0))] [(0,some (bx (jI x))),(1,some (bx (jI nT)))] (zN (vL 0)<|zN (uX 1 qW uI)<|zZ) ?_
 refine jA<|kx [(3,(.ref 2 0))] [(2,some (bx (jI (jF p))))] (zR (kI jP)<|zE (jX (g_value x p hx))<|zN (uX 2 qW uI)<|zT (qF jP)<|zZ) ?_
 refine jA<|kd [] [(1,some (bx (jI (qK.mk (jZ (-p.num)) ((jF p).den)))))] mo (wE (kJ zJ)<|wR (kI jS)<|wE (jX (rs_neg (qR hx.ql) (by decide)))<|wE (kJ xQ)<|wR (kI jS)<|wE (oBd pl38 qW uI)<|wT (qF jP)<|wZ) ?_
 refine jE ⟨_,(kV (cs:=(bx (jI (qK.mk (jZ (-p.num)) ((jF p).den))))) (d:=(jI (qK.mk (jZ (-p.num)) ((jF p).den)))) rfl rfl jP rfl rfl .nil),?_⟩
 rfl
theorem g_add(x:qK)(y:qK)(p:Rat)(q:Rat)(hx:QOk x p 17179869184)(hy:QOk y q 17179869184):jR Tryz.prog 93 [(jI x),(jI y)] (jI (jF (p+q))):=by
 refine jH Tryz.func93 rfl cb93 rfl ?_
 show qS _ _ _ _ ⟨[(0,(.d (jI x))),(1,(.d (jI y)))],[]⟩
 refine jA<|kx [(2,(.ref 0 0)),(3,(.ref 1 0)),(4,(.ref 2 0))] [(0,some (bx (jI x))),(1,some (bx (jI y))),(2,some (bx (jI nT)))] (zN (vL 0)<|zN (vL 1)<|zN (uX 2 qW uI)<|zZ) ?_
 refine jA<|kx [(5,(.ref 3 0))] [(3,some (bx (jI (jF p))))] (zR (kI jP)<|zE (jX (g_value x p hx))<|zN (uX 3 qW uI)<|zT (qF jP)<|zZ) ?_
 refine jA<|kx [(6,(.ref 4 0))] [(4,some (bx (jI (jF q))))] (zR (kI jP)<|zE (jX (g_value y q hy))<|zN (uX 4 qW uI)<|zT (qF jP)<|zZ) ?_
 refine jA<|kd [] [(2,some (bx (jI (jF (Rat.divInt ((p.num*(q.den:Int))+(q.num*(p.den:Int))) ((p.den:Int)*(q.den:Int)))))))] mo (wE (kJ zJ)<|wR (kI jS)<|wE (kJ xQ)<|wR (kI jS)<|wE (jX (rs_mul (qR hx.ql) (uH hy.ql) (by decide) (by decide)))<|wE (kJ zJ)<|wR (kI jS)<|wE (kJ xQ)<|wR (kI jS)<|wE (jX (rs_mul (qR hy.ql) (uH hx.ql) (by decide) (by decide)))<|wE (jX (rs_add (yH (k:=34359738368) (qR hx.ql) (uH hy.ql) (by decide)) (yH (k:=34359738368) (qR hy.ql) (uH hx.ql) (by decide)) (by decide) (by decide)))<|wE (kJ xQ)<|wR (kI jS)<|wE (kJ xQ)<|wR (kI jS)<|wE (jX (rs_mul (uH hx.ql) (uH hy.ql) (by decide) (by decide)))<|wE (jX (g_reduced (jZ ((p.num*(q.den:Int))+(q.num*(p.den:Int)))) (jZ ((p.den:Int)*(q.den:Int))) ((p.num*(q.den:Int))+(q.num*(p.den:Int))) ((p.den:Int)*(q.den:Int)) (nD (iok_add (k:=34359738369) (yH (k:=34359738368) (qR hx.ql) (uH hy.ql) (by decide)) (yH (k:=34359738368) (qR hy.ql) (uH hx.ql) (by decide)) (by decide)) (by decide)) (nD (yH (k:=34359738368) (uH hx.ql) (uH hy.ql) (by decide)) (by decide)) (mul_ne (den_ne _) (den_ne _))))<|wT (qF jP)<|wZ) ?_
 refine jE ⟨_,(kV (cs:=(bx (jI (jF (Rat.divInt ((p.num*(q.den:Int))+(q.num*(p.den:Int))) ((p.den:Int)*(q.den:Int))))))) (d:=(jI (jF (Rat.divInt ((p.num*(q.den:Int))+(q.num*(p.den:Int))) ((p.den:Int)*(q.den:Int)))))) rfl rfl jP rfl rfl .nil),?_⟩
 rw[add_divInt];rfl
theorem g_sub(x:qK)(y:qK)(p:Rat)(q:Rat)(hx:QOk x p 17179869184)(hy:QOk y q 17179869184):jR Tryz.prog 56 [(jI x),(jI y)] (jI (jF (p-q))):=by
 refine jH Tryz.func56 rfl cb56 rfl ?_
 show qS _ _ _ _ ⟨[(0,(.d (jI x))),(1,(.d (jI y)))],[]⟩
 refine jA<|kx [(2,(.ref 0 0)),(3,(.ref 1 0)),(4,(.ref 2 0))] [(0,some (bx (jI x))),(1,some (bx (jI y))),(2,some (bx (jI nT)))] (zN (vL 0)<|zN (vL 1)<|zN (uX 2 qW uI)<|zZ) ?_
 refine jA<|kd [] [(2,some (bx (jI (jF (p+(-q))))))] mo (wR (kI jP)<|wR (kI jP)<|wE (jX (g_neg y q hy))<|wE (jX (g_add x (jF (-q)) p (-q) hx (kQ (ql_neg hy.ql))))<|wT (qF jP)<|wZ) ?_
 refine jE ⟨_,(kV (cs:=(bx (jI (jF (p+(-q)))))) (d:=(jI (jF (p+(-q))))) rfl rfl jP rfl rfl .nil),?_⟩
 rw[Rat.sub_eq_add_neg];rfl
theorem g_compare(x:qK)(y:qK)(p:Rat)(q:Rat)(hx:QOk x p 4294967296)(hy:QOk y q 4294967296):jR Tryz.prog 24 [(jI x),(jI y)] (.val (.int .i64 ((dN p q)))):=by
 refine jH Tryz.func24 rfl cb24 rfl ?_
 show qS _ _ _ _ ⟨[(0,(.d (jI x))),(1,(.d (jI y)))],[]⟩
 refine jA<|kx [(2,(.ref 0 0)),(3,(.ref 1 0))] [(0,some (bx (jI x))),(1,some (bx (jI y)))] (zN (vL 0)<|zN (vL 1)<|zM<|zZ) ?_
 refine jA<|kx [(4,(vi (eN (p-q))))] [] (zR (kI jP)<|zR (kI jP)<|zE (jX (g_sub x y p q (kO hx (by decide)) (kO hy (by decide))))<|zE (jX (g_sign (jF (p-q)) (p-q) (kO (kQ (dQ (k:=8589934593) hx.ql hy.ql (by decide))) (by decide))))<|zM<|zZ) ?_
 refine jE ⟨_,(.tmp (d:=(.val (.int .i64 ((eN (p-q)))))) rfl .nil),?_⟩
 rw[← signQ_sub];rfl
theorem cb9:callB Tryz.prog 9=true:=by kernel_rfl
theorem g_same(x:qK)(y:qK)(p:Rat)(q:Rat)(hx:QOk x p 4294967296)(hy:QOk y q 4294967296):jR Tryz.prog 9 [(jI x),(jI y)] (.val (.bool ((sameR x y)))):=by
 refine jH Tryz.func9 rfl cb9 rfl ?_
 show qS _ _ _ _ ⟨[(0,(.d (jI x))),(1,(.d (jI y)))],[]⟩
 refine jA<|kx [(2,(.ref 0 0)),(3,(.ref 1 0))] [(0,some (bx (jI x))),(1,some (bx (jI y)))] (zN (vL 0)<|zN (vL 1)<|zM<|zZ) ?_
 refine jA<|kx [(4,(vb (((vD x)&&(vD y))&&((dN p q) == 0))))] [] ?_ ?_
 ·refine zR (kI jP)<|zE (jX (g_valid x p (kO hx (by decide))))<|zE (oV (vb (vD x)) (kT (by kernel_rfl)))<|?_
  rcases hb1:(vD x) with _ | _
  ·exact zK<|zK<|zE cB<|zM<|zK<|zK<|zK<|zK<|zE cB<|zM<|zZ
  ·refine zR (kI jP)<|zE (jX (g_valid y q (kO hy (by decide))))<|zE oPa<|zE (oV (vb (true&&(vD y))) (kT (by kernel_rfl)))<|?_
   rcases hb2:(true&&(vD y)) with _ | _
   ·exact zK<|zK<|zK<|zK<|zE cB<|zM<|zZ
   ·exact zR (kI jP)<|zR (kI jP)<|zE (jX (g_compare x y p q hx hy))<|zE oEq<|zE oPa<|zM<|zZ
 refine jE ⟨_,(.tmp (d:=(.val (.bool ((((vD x)&&(vD y))&&((dN p q) == 0)))))) rfl .nil),?_⟩
 unfold sameR
 rw[← sameR_eq,hx.v,hy.v];rfl
end Go.Proofs.YteimogfidbkpnaaGreat
