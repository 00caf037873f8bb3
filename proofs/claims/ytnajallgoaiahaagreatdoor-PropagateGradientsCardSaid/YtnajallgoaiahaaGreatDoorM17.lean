/- Part 17 of a proof: rules, plain facts, and functions walked. -/
import Derived.Test.YtnajallgoaiahaaGreatDoorM16
set_option linter.unusedVariables false
set_option linter.unusedSimpArgs false
set_option maxRecDepth 4000
namespace Go.Proofs.YtnajallgoaiahaaGreatDoor
open Go.Fid
theorem s_neg{x:qG}{a:Int}{m:Nat}(hx:gR x a m)(hm:m≤274877906944):jS Tryz.prog 225 [(jT x)] (jT (kS (-a))):=by
 obtain ⟨rfl,hx'⟩:=hx
 exact t_neg x (by omega)
theorem s_sign{x:qG}{a:Int}{m:Nat}(hx:gR x a m)(hm:m≤274877906944):jS Tryz.prog 136 [(jT x)] (.val (.int .i64 (uL a))):=by
 obtain ⟨rfl,hx'⟩:=hx
 exact t_sign x (by omega)
theorem s_add{x y:qG}{a b:Int}{m n:Nat}(hx:gR x a m)(hy:gR y b n)(hm:m≤274877906944)(hn:n≤274877906944):jS Tryz.prog 150 [(jT x),(jT y)] (jT (kS (a+b))):=by
 obtain ⟨rfl,hx'⟩:=hx;obtain ⟨rfl,hy'⟩:=hy
 exact t_add x y (by omega) (by omega)
theorem s_mul{x y:qG}{a b:Int}{m n:Nat}(hx:gR x a m)(hy:gR y b n)(hm:m≤274877906944)(hn:n≤274877906944):jS Tryz.prog 142 [(jT x),(jT y)] (jT (kS (a*b))):=by
 obtain ⟨rfl,hx'⟩:=hx;obtain ⟨rfl,hy'⟩:=hy
 exact t_mul x y (by omega) (by omega)
theorem s_compare{x y:qG}{a b:Int}{m n:Nat}(hx:gR x a m)(hy:gR y b n)(hm:m≤274877906944)(hn:n≤274877906944):jS Tryz.prog 137 [(jT x),(jT y)] (.val (.int .i64 (vN a b))):=by
 obtain ⟨rfl,hx'⟩:=hx;obtain ⟨rfl,hy'⟩:=hy
 exact t_compareI x y (by omega) (by omega)
theorem s_gcd{x y:qG}{a b:Int}{m n:Nat}(hx:gR x a m)(hy:gR y b n)(hm:m≤274877906944)(hn:n≤274877906944):jS Tryz.prog 138 [(jT x),(jT y)] (jT (kS ((Int.gcd a b:Nat):Int))):=by
 obtain ⟨rfl,hx'⟩:=hx;obtain ⟨rfl,hy'⟩:=hy
 exact t_gcdI x y (by omega) (by omega)
theorem s_divide{x y:qG}{a b:Int}{m n:Nat}(hx:gR x a m)(hy:gR y b n)(hm:m≤274877906944)(hn:n≤274877906944)(hb:b≠0):jS Tryz.prog 227 [(jT x),(jT y)] (.tup [(jT (kS (a.fdiv b))),(jT (kS (a.fmod b))),(.val (.int .i64 0))]):=by
 obtain ⟨rfl,hx'⟩:=hx;obtain ⟨rfl,hy'⟩:=hy
 exact t_divideI x y (by omega) (by omega) hb
theorem rs_neg{x:qG}{a:Int}{m:Nat}(hx:gR x a m)(hm:m≤274877906944):jS Tryz.prog 145 [(jT x)] (jT (kS (-a))):=by
 obtain ⟨rfl,hx'⟩:=hx
 exact r_neg x (by omega)
theorem rs_sign{x:qG}{a:Int}{m:Nat}(hx:gR x a m)(hm:m≤274877906944):jS Tryz.prog 83 [(jT x)] (.val (.int .i64 (uL a))):=by
 obtain ⟨rfl,hx'⟩:=hx
 exact r_sign x (by omega)
theorem rs_add{x y:qG}{a b:Int}{m n:Nat}(hx:gR x a m)(hy:gR y b n)(hm:m≤274877906944)(hn:n≤274877906944):jS Tryz.prog 96 [(jT x),(jT y)] (jT (kS (a+b))):=by
 obtain ⟨rfl,hx'⟩:=hx;obtain ⟨rfl,hy'⟩:=hy
 exact r_add x y (by omega) (by omega)
theorem rs_mul{x y:qG}{a b:Int}{m n:Nat}(hx:gR x a m)(hy:gR y b n)(hm:m≤274877906944)(hn:n≤274877906944):jS Tryz.prog 87 [(jT x),(jT y)] (jT (kS (a*b))):=by
 obtain ⟨rfl,hx'⟩:=hx;obtain ⟨rfl,hy'⟩:=hy
 exact r_mul x y (by omega) (by omega)
theorem rs_compare{x y:qG}{a b:Int}{m n:Nat}(hx:gR x a m)(hy:gR y b n)(hm:m≤274877906944)(hn:n≤274877906944):jS Tryz.prog 117 [(jT x),(jT y)] (.val (.int .i64 (vN a b))):=by
 obtain ⟨rfl,hx'⟩:=hx;obtain ⟨rfl,hy'⟩:=hy
 exact r_compare x y (by omega) (by omega)
theorem rs_gcd{x y:qG}{a b:Int}{m n:Nat}(hx:gR x a m)(hy:gR y b n)(hm:m≤274877906944)(hn:n≤274877906944):jS Tryz.prog 118 [(jT x),(jT y)] (jT (kS ((Int.gcd a b:Nat):Int))):=by
 obtain ⟨rfl,hx'⟩:=hx;obtain ⟨rfl,hy'⟩:=hy
 exact r_gcd x y (by omega) (by omega)
theorem rs_divide{x y:qG}{a b:Int}{m n:Nat}(hx:gR x a m)(hy:gR y b n)(hm:m≤274877906944)(hn:n≤274877906944)(hb:b≠0):jS Tryz.prog 146 [(jT x),(jT y)] (.tup [(jT (kS (a.fdiv b))),(jT (kS (a.fmod b))),(.val (.int .i64 0))]):=by
 obtain ⟨rfl,hx'⟩:=hx;obtain ⟨rfl,hy'⟩:=hy
 exact r_divide x y (by omega) (by omega) hb
theorem cb78:callB Tryz.prog 78=true:=by kernel_rfl
theorem cb79:callB Tryz.prog 79=true:=by kernel_rfl
theorem cb80:callB Tryz.prog 80=true:=by kernel_rfl
theorem cb81:callB Tryz.prog 81=true:=by kernel_rfl
theorem cb82:callB Tryz.prog 82=true:=by kernel_rfl
theorem cb90:callB Tryz.prog 90=true:=by kernel_rfl
theorem cb105:callB Tryz.prog 105=true:=by kernel_rfl
theorem cb140:callB Tryz.prog 140=true:=by kernel_rfl
theorem cb141:callB Tryz.prog 141=true:=by kernel_rfl
theorem cb143:callB Tryz.prog 143=true:=by kernel_rfl
theorem cb224:callB Tryz.prog 224=true:=by kernel_rfl
theorem cb261:callB Tryz.prog 261=true:=by kernel_rfl
theorem yA:zY Tryz.prog 45 0=some 0:=by kernel_rfl
theorem xS:zY Tryz.prog 45 1=some 2:=by kernel_rfl
theorem ft45_0:bT Tryz.prog 45 0=some (0,43):=by kernel_rfl
theorem pl45:eF Tryz.prog 45=some [(0,2),(2,2)]:=by kernel_rfl
theorem jW:uF Tryz.prog 45=some (true,4):=by kernel_rfl
theorem uH:yM Tryz.prog 45=some [.bool false,.slice none 0 0,.bool false,.slice none 0 0]:=by kernel_rfl
theorem uN:aR [.bool false,.slice none 0 0,.bool false,.slice none 0 0] [.val (.bool false),.sl 140 1 [],.val (.bool false),.sl 140 1 []]:=by simp [aR,Value.oneCell']
theorem cM(num den:qG)(a b:Int)(fR:gR num a 68719476736)(eB:gR den b 68719476736)(hb:b≠0):jS Tryz.prog 143 [(jT num),(jT den)] (jL (jM (Rat.divInt a b))):=by
 refine jJ Tryz.func143 rfl cb143 rfl ?_
 show qM _ _ _ _ ⟨[(0,(.d (jT num))),(1,(.d (jT den)))],[]⟩
 refine jB<|kx [(2,(.ref 0 0)),(3,(.ref 1 0)),(4,(.ref 2 0))] [(0,some (bx (jT num))),(1,some (bx (jT den))),(2,some (bx (jL kR)))] (zN (uY 0)<|zN (uY 1)<|zN (qW 2 uH uN)<|zZ) ?_
 refine jB<|jB<|kx [(8,(vb (decide ((uL b)<0))))] [] (zR (kP kD)<|zE (kA (s_sign eB (by decide)))<|zE xY<|zZ) ?_
 refine jH (b:=decide ((uL b)<0)) rfl (fun h1=>?_) (fun h1=>?_)
 ·replace h1:=vJ h1
  have hlt:=signI_lt.1 h1
  have hb2:-b≠0:=by omega
  refine kd [] [(0,some (bx (jT (kS (-a))))),(1,some (bx (jT (kS (-b)))))] mo (wR (kP kD)<|wE (kA (s_neg fR (by decide)))<|wR (kP kD)<|wE (kA (s_neg eB (by decide)))<|wT (qF kD)<|wT (qF kD)<|wZ) ?_
  refine jB<|kx [(5,(.ref 3 0))] [(3,some (bx (jT (kS ((Int.gcd (-a) (-b):Nat):Int)))))] (zR (kP kD)<|zR (kP kD)<|zE (kA (s_gcd (cI fR) (cI eB) (by decide) (by decide)))<|zN (qW 3 gC gA)<|zT (qF kD)<|zZ) ?_
  refine jB<|kx [] [(0,some (bx (jT (kS ((-a).fdiv (((Int.gcd (-a) (-b):Nat):Int)))))))] (zR (kP kD)<|zR (kP kD)<|zE (kA (s_divide (cI fR) (cV (k:=68719476736) (cI fR) (cI eB) (by decide)) (by decide) (by decide) (gcd_ne (by omega))))<|zM<|zE vI<|zE vI<|zE vI<|zT (qF kD)<|zZ) ?_
  refine jB<|kx [] [(1,some (bx (jT (kS ((-b).fdiv (((Int.gcd (-a) (-b):Nat):Int)))))))] (zR (kP kD)<|zR (kP kD)<|zE (kA (s_divide (cI eB) (cV (k:=68719476736) (cI fR) (cI eB) (by decide)) (by decide) (by decide) (gcd_ne (by omega))))<|zM<|zE vI<|zE vI<|zE vI<|zT (qF kD)<|zZ) ?_
  refine jB<|kx [] [(2,some (bx (jL (kF.mk (kS ((-a).fdiv (((Int.gcd (-a) (-b):Nat):Int)))) (kS ((-b).fdiv (((Int.gcd (-a) (-b):Nat):Int))))))))] (zR (kP kD)<|zR (kP kD)<|zE (cS pl45 uH uN)<|zT (qF jW)<|zZ) ?_
  refine jG ⟨_,(kJ (cs:=(bx (jL (kF.mk (kS ((-a).fdiv (((Int.gcd (-a) (-b):Nat):Int)))) (kS ((-b).fdiv (((Int.gcd (-a) (-b):Nat):Int)))))))) (d:=(jL (kF.mk (kS ((-a).fdiv (((Int.gcd (-a) (-b):Nat):Int)))) (kS ((-b).fdiv (((Int.gcd (-a) (-b):Nat):Int))))))) rfl rfl jW rfl rfl .nil),?_⟩
  rw[red_neg hlt];rfl
 ·replace h1:=vM h1
  have hge:¬ b<0:=fun hh=>h1 (signI_lt.2 hh)
  refine jF<|jB<|kx [(5,(.ref 4 0))] [(4,some (bx (jT (kS ((Int.gcd a b:Nat):Int)))))] (zR (kP kD)<|zR (kP kD)<|zE (kA (s_gcd fR eB (by decide) (by decide)))<|zN (qW 4 gC gA)<|zT (qF kD)<|zZ) ?_
  refine jB<|kx [] [(0,some (bx (jT (kS (a.fdiv (((Int.gcd a b:Nat):Int)))))))] (zR (kP kD)<|zR (kP kD)<|zE (kA (s_divide fR (cV (k:=68719476736) fR eB (by decide)) (by decide) (by decide) (gcd_ne (by omega))))<|zM<|zE vI<|zE vI<|zE vI<|zT (qF kD)<|zZ) ?_
  refine jB<|kx [] [(1,some (bx (jT (kS (b.fdiv (((Int.gcd a b:Nat):Int)))))))] (zR (kP kD)<|zR (kP kD)<|zE (kA (s_divide eB (cV (k:=68719476736) fR eB (by decide)) (by decide) (by decide) (gcd_ne (by omega))))<|zM<|zE vI<|zE vI<|zE vI<|zT (qF kD)<|zZ) ?_
  refine jB<|kx [] [(2,some (bx (jL (kF.mk (kS (a.fdiv (((Int.gcd a b:Nat):Int)))) (kS (b.fdiv (((Int.gcd a b:Nat):Int))))))))] (zR (kP kD)<|zR (kP kD)<|zE (cS pl45 uH uN)<|zT (qF jW)<|zZ) ?_
  refine jG ⟨_,(kJ (cs:=(bx (jL (kF.mk (kS (a.fdiv (((Int.gcd a b:Nat):Int)))) (kS (b.fdiv (((Int.gcd a b:Nat):Int)))))))) (d:=(jL (kF.mk (kS (a.fdiv (((Int.gcd a b:Nat):Int)))) (kS (b.fdiv (((Int.gcd a b:Nat):Int))))))) rfl rfl jW rfl rfl .nil),?_⟩
  rw[red_pos hge hb];rfl
theorem f_whole(n:Int)(hlo:-9223372036854775808≤n)(hhi:n≤9223372036854775807):jS Tryz.prog 105 [(.val (.int .i64 (n)))] (jL (jM ((n:Int):Rat))):=by
 refine jJ Tryz.func105 rfl cb105 rfl ?_
 show qM _ _ _ _ ⟨[(0,(vi n))],[]⟩
 refine jB<|kx [(2,(.ref 0 0))] [(0,some (bx (jL kR)))] (zN (qW 0 uH uN)<|zZ) ?_
 refine jB<|kx [] [(0,some (bx (jL (kF.mk (kS n) (kS 1)))))] (zM<|zE (kA (t_of n (by omega) (by omega)))<|zE (kA (t_of 1 (by decide) (by decide)))<|zE (cS pl45 uH uN)<|zT (qF jW)<|zZ) ?_
 refine jG ⟨_,(kJ (cs:=(bx (jL (kF.mk (kS n) (kS 1))))) (d:=(jL (kF.mk (kS n) (kS 1)))) rfl rfl jW rfl rfl .nil),?_⟩
 rfl
theorem cE(x:kF)(p:Rat)(hx:gX x p 17179869184):jS Tryz.prog 78 [(jL x)] (.val (.bool ((kW x)))):=by
 refine jJ Tryz.func78 rfl cb78 rfl ?_
 show qM _ _ _ _ ⟨[(0,(.d (jL x)))],[]⟩
 refine jB<|kx [(1,(.ref 0 0))] [(0,some (bx (jL x)))] (zN (uY 0)<|zM<|zZ) ?_
 refine jB<|jB<|kx [(18,(vb ((!(vC x.num)||!(vC x.den))||decide ((uL (kH x.den))≤0))))] [] ?_ ?_
 ·refine zE (qA yA)<|zR (kP kD)<|zE (kA (t_valid x.num (Nat.le_trans (gP hx.n1).l (by decide))))<|zE mT<|zE (oV (vb (!(vC x.num))) (qQ (by kernel_rfl)))<|?_
  rcases hb1:(!(vC x.num)) with _ | _
  ·refine zE (qA xS)<|zR (kP kD)<|zE (kA (t_valid x.den (Nat.le_trans (gP hx.n2).l (by decide))))<|zE mT<|zE fU<|zE (oV (vb (false||!(vC x.den))) (qQ (by kernel_rfl)))<|?_
   rcases hb2:(false||!(vC x.den)) with _ | _
   ·exact zE (qA xS)<|zR (kP kD)<|zE (kA (s_sign (gP hx.n2) (by decide)))<|zE oLe<|zE fU<|zZ
   ·exact zK<|zK<|zK<|zK<|zE nY<|zZ
  ·exact zK<|zK<|zK<|zK<|zE nY<|zM<|zK<|zK<|zK<|zK<|zE nY<|zZ
 refine jH rfl (fun h3=>?_) (fun h3=>?_)
 ·refine jB<|kx [(2,(vb false))] [] (zM<|zZ) ?_
  refine jG ⟨_,(.tmp (d:=(.val (.bool (false)))) rfl .nil),?_⟩
  rw[validR_no h3];rfl
 ·refine jF<|jB<|kx [(2,(vb ((vN (((Int.gcd (kH x.num) (kH x.den):Nat):Int)) 1) == 0)))] [] (zE (qA yA)<|zR (kP kD)<|zE (qA xS)<|zR (kP kD)<|zE (kA (s_gcd (gP hx.n1) (gP hx.n2) (by decide) (by decide)))<|zE (kA (t_of 1 (by decide) (by decide)))<|zE (kA (s_compare (cV (k:=17179869184) (gP hx.n1) (gP hx.n2) (by decide)) (bI (z:=1) (by decide)) (by decide) (by decide)))<|zE xR<|zM<|zZ) ?_
  refine jG ⟨_,(.tmp (d:=(.val (.bool (((vN (((Int.gcd (kH x.num) (kH x.den):Nat):Int)) 1) == 0))))) rfl .nil),?_⟩
  rw[validR_yes h3];rfl
theorem f_copied(x:kF)(p:Rat)(hx:gX x p 17179869184):jS Tryz.prog 224 [(jL x)] (jL (kF.mk (kS (-(-kH x.num))) (kS (-(-kH x.den))))):=by
 refine jJ Tryz.func224 rfl cb224 rfl ?_
 show qM _ _ _ _ ⟨[(0,(.d (jL x)))],[]⟩
 refine jB<|kx [(1,(.ref 0 0)),(2,(.ref 1 0))] [(0,some (bx (jL x))),(1,some (bx (jL kR)))] (zN (uY 0)<|zN (qW 1 uH uN)<|zZ) ?_
 refine jB<|kd [] [(1,some (bx (jL (kF.mk (kS (-(-(kH x.num)))) (kS (-(-(kH x.den))))))))] mo (wE (qA yA)<|wR (kP kD)<|wE (kA (s_neg (gP hx.n1) (by decide)))<|wE (kA (s_neg (cI (gP hx.n1)) (by decide)))<|wE (qA xS)<|wR (kP kD)<|wE (kA (s_neg (gP hx.n2) (by decide)))<|wE (kA (s_neg (cI (gP hx.n2)) (by decide)))<|wE (cS pl45 uH uN)<|wT (qF jW)<|wZ) ?_
 refine jG ⟨_,(kJ (cs:=(bx (jL (kF.mk (kS (-(-(kH x.num)))) (kS (-(-(kH x.den)))))))) (d:=(jL (kF.mk (kS (-(-(kH x.num)))) (kS (-(-(kH x.den))))))) rfl rfl jW rfl rfl .nil),?_⟩
 rfl
theorem dG(x:kF)(p:Rat)(hx:gX x p 17179869184):jS Tryz.prog 140 [(jL x)] (jL (jM p)):=by
 refine jJ Tryz.func140 rfl cb140 rfl ?_
 show qM _ _ _ _ ⟨[(0,(.d (jL x)))],[]⟩
 refine jB<|kx [(1,(.ref 0 0)),(2,(.ref 1 0))] [(0,some (bx (jL x))),(1,some (bx (jL kR)))] (zN (uY 0)<|zN (qW 1 uH uN)<|zZ) ?_
 refine jB<|jB<|kx [(4,(vb (kW x)))] [] (zR (kP jW)<|zE (kA (cE x p hx))<|zZ) ?_
 refine jH (b:=(kW x)) rfl (fun h1=>?_) (fun h1=>?_)
 ·refine jB<|kx [] [(1,some (bx (jL (kF.mk (kS (-(-kH x.num))) (kS (-(-kH x.den)))))))] (zR (kP jW)<|zE (kA (f_copied x p hx))<|zT (qF jW)<|zZ) ?_
  refine jG ⟨_,(kJ (cs:=(bx (jL (kF.mk (kS (-(-kH x.num))) (kS (-(-kH x.den))))))) (d:=(jL (kF.mk (kS (-(-kH x.num))) (kS (-(-kH x.den)))))) rfl rfl jW rfl rfl .nil),?_⟩
  rw[← hx.v,← copied_eq h1];rfl
 ·refine jF<|jB<|kx [] [(1,some (bx (jL (jM ((0:Int):Rat)))))] (zE (kA (f_whole 0 (by decide) (by decide)))<|zT (qF jW)<|zZ) ?_
  refine jG ⟨_,(kJ (cs:=(bx (jL (jM ((0:Int):Rat))))) (d:=(jL (jM ((0:Int):Rat)))) rfl rfl jW rfl rfl .nil),?_⟩
  rw[← hx.v,toQ_bad h1];rfl
theorem f_sign(x:kF)(p:Rat)(hx:gX x p 17179869184):jS Tryz.prog 79 [(jL x)] (.val (.int .i64 ((mB p)))):=by
 refine jJ Tryz.func79 rfl cb79 rfl ?_
 show qM _ _ _ _ ⟨[(0,(.d (jL x)))],[]⟩
 refine jB<|kx [(1,(.ref 0 0))] [(0,some (bx (jL x)))] (zN (uY 0)<|zM<|zZ) ?_
 refine jB<|kx [(2,(vi (uL p.num)))] [] (zR (kP jW)<|zE (kA (dG x p hx))<|zE (oFv ft45_0 kD)<|zE (kA (s_sign (uQ hx.ql) (by decide)))<|zM<|zZ) ?_
 refine jG ⟨_,(.tmp (d:=(.val (.int .i64 ((uL p.num))))) rfl .nil),?_⟩
 rfl
theorem f_neg(x:kF)(p:Rat)(hx:gX x p 17179869184):jS Tryz.prog 141 [(jL x)] (jL (jM (-p))):=by
 refine jJ Tryz.func141 rfl cb141 rfl ?_
 show qM _ _ _ _ ⟨[(0,(.d (jL x)))],[]⟩
 refine jB<|kx [(1,(.ref 0 0)),(2,(.ref 1 0))] [(0,some (bx (jL x))),(1,some (bx (jL kR)))] (zN (uY 0)<|zN (qW 1 uH uN)<|zZ) ?_
 refine jB<|kx [] [(0,some (bx (jL (jM p))))] (zR (kP jW)<|zE (kA (dG x p hx))<|zT (qF jW)<|zZ) ?_
 refine jB<|kd [] [(1,some (bx (jL (kF.mk (kS (-p.num)) ((jM p).den)))))] mo (wE (qA yA)<|wR (kP kD)<|wE (kA (s_neg (uQ hx.ql) (by decide)))<|wE (qA xS)<|wR (kP kD)<|wE (cS pl45 uH uN)<|wT (qF jW)<|wZ) ?_
 refine jG ⟨_,(kJ (cs:=(bx (jL (kF.mk (kS (-p.num)) ((jM p).den))))) (d:=(jL (kF.mk (kS (-p.num)) ((jM p).den)))) rfl rfl jW rfl rfl .nil),?_⟩
 rfl
theorem f_add(x:kF)(y:kF)(p:Rat)(q:Rat)(hx:gX x p 17179869184)(hy:gX y q 17179869184):jS Tryz.prog 90 [(jL x),(jL y)] (jL (jM (p+q))):=by
 refine jJ Tryz.func90 rfl cb90 rfl ?_
 show qM _ _ _ _ ⟨[(0,(.d (jL x))),(1,(.d (jL y)))],[]⟩
 refine jB<|kx [(2,(.ref 0 0)),(3,(.ref 1 0)),(4,(.ref 2 0))] [(0,some (bx (jL x))),(1,some (bx (jL y))),(2,some (bx (jL kR)))] (zN (uY 0)<|zN (uY 1)<|zN (qW 2 uH uN)<|zZ) ?_
 refine jB<|kd [] [(0,some (bx (jL (jM p)))),(1,some (bx (jL (jM q))))] mo (wR (kP jW)<|wE (kA (dG x p hx))<|wR (kP jW)<|wE (kA (dG y q hy))<|wT (qF jW)<|wT (qF jW)<|wZ) ?_
 refine jB<|kd [] [(2,some (bx (jL (jM (Rat.divInt ((p.num*(q.den:Int))+(q.num*(p.den:Int))) ((p.den:Int)*(q.den:Int)))))))] mo (wE (qA yA)<|wR (kP kD)<|wE (qA xS)<|wR (kP kD)<|wE (kA (s_mul (uQ hx.ql) (uJ hy.ql) (by decide) (by decide)))<|wE (qA yA)<|wR (kP kD)<|wE (qA xS)<|wR (kP kD)<|wE (kA (s_mul (uQ hy.ql) (uJ hx.ql) (by decide) (by decide)))<|wE (kA (s_add (yJ (k:=34359738368) (uQ hx.ql) (uJ hy.ql) (by decide)) (yJ (k:=34359738368) (uQ hy.ql) (uJ hx.ql) (by decide)) (by decide) (by decide)))<|wE (qA xS)<|wR (kP kD)<|wE (qA xS)<|wR (kP kD)<|wE (kA (s_mul (uJ hx.ql) (uJ hy.ql) (by decide) (by decide)))<|wE (kA (cM (kS ((p.num*(q.den:Int))+(q.num*(p.den:Int)))) (kS ((p.den:Int)*(q.den:Int))) ((p.num*(q.den:Int))+(q.num*(p.den:Int))) ((p.den:Int)*(q.den:Int)) (nA (iok_add (k:=34359738369) (yJ (k:=34359738368) (uQ hx.ql) (uJ hy.ql) (by decide)) (yJ (k:=34359738368) (uQ hy.ql) (uJ hx.ql) (by decide)) (by decide)) (by decide)) (nA (yJ (k:=34359738368) (uJ hx.ql) (uJ hy.ql) (by decide)) (by decide)) (mul_ne (fL _) (fL _))))<|wT (qF jW)<|wZ) ?_
 refine jG ⟨_,(kJ (cs:=(bx (jL (jM (Rat.divInt ((p.num*(q.den:Int))+(q.num*(p.den:Int))) ((p.den:Int)*(q.den:Int))))))) (d:=(jL (jM (Rat.divInt ((p.num*(q.den:Int))+(q.num*(p.den:Int))) ((p.den:Int)*(q.den:Int)))))) rfl rfl jW rfl rfl .nil),?_⟩
 rw[add_divInt];rfl
theorem f_sub(x:kF)(y:kF)(p:Rat)(q:Rat)(hx:gX x p 17179869184)(hy:gX y q 17179869184):jS Tryz.prog 80 [(jL x),(jL y)] (jL (jM (p-q))):=by
 refine jJ Tryz.func80 rfl cb80 rfl ?_
 show qM _ _ _ _ ⟨[(0,(.d (jL x))),(1,(.d (jL y)))],[]⟩
 refine jB<|kx [(2,(.ref 0 0)),(3,(.ref 1 0)),(4,(.ref 2 0))] [(0,some (bx (jL x))),(1,some (bx (jL y))),(2,some (bx (jL kR)))] (zN (uY 0)<|zN (uY 1)<|zN (qW 2 uH uN)<|zZ) ?_
 refine jB<|kd [] [(2,some (bx (jL (jM (p+(-q))))))] mo (wR (kP jW)<|wR (kP jW)<|wE (kA (f_neg y q hy))<|wE (kA (f_add x (jM (-q)) p (-q) hx (kB (ql_neg hy.ql))))<|wT (qF jW)<|wZ) ?_
 refine jG ⟨_,(kJ (cs:=(bx (jL (jM (p+(-q)))))) (d:=(jL (jM (p+(-q))))) rfl rfl jW rfl rfl .nil),?_⟩
 rw[Rat.sub_eq_add_neg];rfl
theorem eS(x:kF)(y:kF)(p:Rat)(q:Rat)(hx:gX x p 17179869184)(hy:gX y q 17179869184):jS Tryz.prog 82 [(jL x),(jL y)] (jL (jM (p*q))):=by
 refine jJ Tryz.func82 rfl cb82 rfl ?_
 show qM _ _ _ _ ⟨[(0,(.d (jL x))),(1,(.d (jL y)))],[]⟩
 refine jB<|kx [(2,(.ref 0 0)),(3,(.ref 1 0)),(4,(.ref 2 0))] [(0,some (bx (jL x))),(1,some (bx (jL y))),(2,some (bx (jL kR)))] (zN (uY 0)<|zN (uY 1)<|zN (qW 2 uH uN)<|zZ) ?_
 refine jB<|kd [] [(0,some (bx (jL (jM p)))),(1,some (bx (jL (jM q))))] mo (wR (kP jW)<|wE (kA (dG x p hx))<|wR (kP jW)<|wE (kA (dG y q hy))<|wT (qF jW)<|wT (qF jW)<|wZ) ?_
 refine jB<|kd [] [(2,some (bx (jL (jM (Rat.divInt (p.num*q.num) ((p.den:Int)*(q.den:Int)))))))] mo (wE (qA yA)<|wR (kP kD)<|wE (qA yA)<|wR (kP kD)<|wE (kA (s_mul (uQ hx.ql) (uQ hy.ql) (by decide) (by decide)))<|wE (qA xS)<|wR (kP kD)<|wE (qA xS)<|wR (kP kD)<|wE (kA (s_mul (uJ hx.ql) (uJ hy.ql) (by decide) (by decide)))<|wE (kA (cM (kS (p.num*q.num)) (kS ((p.den:Int)*(q.den:Int))) (p.num*q.num) ((p.den:Int)*(q.den:Int)) (nA (yJ (k:=34359738368) (uQ hx.ql) (uQ hy.ql) (by decide)) (by decide)) (nA (yJ (k:=34359738368) (uJ hx.ql) (uJ hy.ql) (by decide)) (by decide)) (mul_ne (fL _) (fL _))))<|wT (qF jW)<|wZ) ?_
 refine jG ⟨_,(kJ (cs:=(bx (jL (jM (Rat.divInt (p.num*q.num) ((p.den:Int)*(q.den:Int))))))) (d:=(jL (jM (Rat.divInt (p.num*q.num) ((p.den:Int)*(q.den:Int)))))) rfl rfl jW rfl rfl .nil),?_⟩
 rw[mul_divInt];rfl
theorem f_divide(x:kF)(y:kF)(p:Rat)(q:Rat)(hx:gX x p 17179869184)(hy:gX y q 17179869184):jS Tryz.prog 261 [(jL x),(jL y)] (.tup [(jL (divR p q)),(.val (.int .i64 ((divC q))))]):=by
 refine jJ Tryz.func261 rfl cb261 rfl ?_
 show qM _ _ _ _ ⟨[(0,(.d (jL x))),(1,(.d (jL y)))],[]⟩
 refine jB<|kx [(2,(.ref 0 0)),(3,(.ref 1 0)),(4,(.ref 2 0))] [(0,some (bx (jL x))),(1,some (bx (jL y))),(2,some (bx (jL kR)))] (zN (uY 0)<|zN (uY 1)<|zN (qW 2 uH uN)<|zM<|zZ) ?_
 refine jB<|kd [] [(0,some (bx (jL (jM p)))),(1,some (bx (jL (jM q))))] mo (wR (kP jW)<|wE (kA (dG x p hx))<|wR (kP jW)<|wE (kA (dG y q hy))<|wT (qF jW)<|wT (qF jW)<|wZ) ?_
 refine jB<|jB<|kx [(13,(vb ((uL q.num) == 0)))] [] (zE (qA yA)<|zR (kP kD)<|zE (kA (s_sign (uQ hy.ql) (by decide)))<|zE xR<|zZ) ?_
 refine jH (b:=((uL q.num) == 0)) rfl (fun h1=>?_) (fun h1=>?_)
 ·replace h1:=eq_of_beq h1
  have hq0:=fO.1 h1
  refine jB<|kx [(5,(jK 14))] [(2,some (bx (jL kR)))] (zE (cS pl45 uH uN)<|zT (qF jW)<|zM<|zZ) ?_
  refine jG ⟨_,(kJ (cs:=(bx (jL kR))) (d:=(jL kR)) rfl rfl jW rfl rfl (.tmp (d:=(.val (.int .i64 (14)))) rfl .nil)),?_⟩
  rw[divR_zero hq0,divC_zero hq0];rfl
 ·replace h1:=ne_of_beq_false h1
  have hq0:q≠0:=fun hh=>h1 (fO.2 hh)
  refine jF<|jB<|kd [(5,(jK 0))] [(2,some (bx (jL (jM (Rat.divInt (p.num*(q.den:Int)) ((p.den:Int)*q.num))))))] mo (wE (qA yA)<|wR (kP kD)<|wE (qA xS)<|wR (kP kD)<|wE (kA (s_mul (uQ hx.ql) (uJ hy.ql) (by decide) (by decide)))<|wE (qA xS)<|wR (kP kD)<|wE (qA yA)<|wR (kP kD)<|wE (kA (s_mul (uJ hx.ql) (uQ hy.ql) (by decide) (by decide)))<|wE (kA (cM (kS (p.num*(q.den:Int))) (kS ((p.den:Int)*q.num)) (p.num*(q.den:Int)) ((p.den:Int)*q.num) (nA (yJ (k:=34359738368) (uQ hx.ql) (uJ hy.ql) (by decide)) (by decide)) (nA (yJ (k:=34359738368) (uJ hx.ql) (uQ hy.ql) (by decide)) (by decide)) (mul_ne (fL _) (num_ne hq0))))<|wT (qF jW)<|wM<|wZ) ?_
  refine jG ⟨_,(kJ (cs:=(bx (jL (jM (Rat.divInt (p.num*(q.den:Int)) ((p.den:Int)*q.num)))))) (d:=(jL (jM (Rat.divInt (p.num*(q.den:Int)) ((p.den:Int)*q.num))))) rfl rfl jW rfl rfl (.tmp (d:=(.val (.int .i64 (0)))) rfl .nil)),?_⟩
  rw[divR_ne hq0,divC_ne hq0,div_divInt];rfl
theorem cL(x:kF)(y:kF)(p:Rat)(q:Rat)(hx:gX x p 17179869184)(hy:gX y q 17179869184):jS Tryz.prog 81 [(jL x),(jL y)] (.val (.int .i64 ((yE p q)))):=by
 refine jJ Tryz.func81 rfl cb81 rfl ?_
 show qM _ _ _ _ ⟨[(0,(.d (jL x))),(1,(.d (jL y)))],[]⟩
 refine jB<|kx [(2,(.ref 0 0)),(3,(.ref 1 0))] [(0,some (bx (jL x))),(1,some (bx (jL y)))] (zN (uY 0)<|zN (uY 1)<|zM<|zZ) ?_
 refine jB<|kd [] [(0,some (bx (jL (jM p)))),(1,some (bx (jL (jM q))))] mo (wR (kP jW)<|wE (kA (dG x p hx))<|wR (kP jW)<|wE (kA (dG y q hy))<|wT (qF jW)<|wT (qF jW)<|wZ) ?_
 refine jB<|kd [(4,(vi (vN (p.num*(q.den:Int)) (q.num*(p.den:Int)))))] [] mo (wE (qA yA)<|wR (kP kD)<|wE (qA xS)<|wR (kP kD)<|wE (kA (s_mul (uQ hx.ql) (uJ hy.ql) (by decide) (by decide)))<|wE (qA yA)<|wR (kP kD)<|wE (qA xS)<|wR (kP kD)<|wE (kA (s_mul (uQ hy.ql) (uJ hx.ql) (by decide) (by decide)))<|wE (kA (s_compare (yJ (k:=34359738368) (uQ hx.ql) (uJ hy.ql) (by decide)) (yJ (k:=34359738368) (uQ hy.ql) (uJ hx.ql) (by decide)) (by decide) (by decide)))<|wM<|wZ) ?_
 refine jG ⟨_,(.tmp (d:=(.val (.int .i64 ((vN (p.num*(q.den:Int)) (q.num*(p.den:Int))))))) rfl .nil),?_⟩
 rw[← cmpQ_cross];rfl
theorem cb28:callB Tryz.prog 28=true:=by kernel_rfl
theorem cb29:callB Tryz.prog 29=true:=by kernel_rfl
theorem cb30:callB Tryz.prog 30=true:=by kernel_rfl
theorem cb31:callB Tryz.prog 31=true:=by kernel_rfl
theorem cb35:callB Tryz.prog 35=true:=by kernel_rfl
theorem cb54:callB Tryz.prog 54=true:=by kernel_rfl
theorem cb56:callB Tryz.prog 56=true:=by kernel_rfl
theorem cb63:callB Tryz.prog 63=true:=by kernel_rfl
theorem cb84:callB Tryz.prog 84=true:=by kernel_rfl
theorem cb85:callB Tryz.prog 85=true:=by kernel_rfl
theorem cb86:callB Tryz.prog 86=true:=by kernel_rfl
theorem cb94:callB Tryz.prog 94=true:=by kernel_rfl
theorem cb95:callB Tryz.prog 95=true:=by kernel_rfl
theorem g_reduced(num den:qG)(a b:Int)(fR:gR num a 68719476736)(eB:gR den b 68719476736)(hb:b≠0):jS Tryz.prog 86 [(jT num),(jT den)] (jL (jM (Rat.divInt a b))):=by
 refine jJ Tryz.func86 rfl cb86 rfl ?_
 show qM _ _ _ _ ⟨[(0,(.d (jT num))),(1,(.d (jT den)))],[]⟩
 refine jB<|kx [(2,(.ref 0 0)),(3,(.ref 1 0)),(4,(.ref 2 0))] [(0,some (bx (jT num))),(1,some (bx (jT den))),(2,some (bx (jL kR)))] (zN (uY 0)<|zN (uY 1)<|zN (qW 2 uH uN)<|zZ) ?_
 refine jB<|kx [(5,(.ref 3 0))] [(3,some (bx (jT (kS ((Int.gcd a b:Nat):Int)))))] (zR (kP kD)<|zR (kP kD)<|zE (kA (rs_gcd fR eB (by decide) (by decide)))<|zN (qW 3 gC gA)<|zT (qF kD)<|zZ) ?_
 refine jB<|jB<|kx [(17,(vb (decide ((uL b)<0))))] [] (zR (kP kD)<|zE (kA (rs_sign eB (by decide)))<|zE xY<|zZ) ?_
 refine jH (b:=decide ((uL b)<0)) rfl (fun h1=>?_) (fun h1=>?_)
 ·replace h1:=vJ h1
  have hlt:=signI_lt.1 h1
  refine kx [] [(3,some (bx (jT (kS (-(((Int.gcd a b:Nat):Int)))))))] (zR (kP kD)<|zE (kA (rs_neg (cV (k:=68719476736) fR eB (by decide)) (by decide)))<|zT (qF kD)<|zZ) ?_
  refine jB<|kx [(6,(.ref 4 0))] [(4,some (bx (jT (kS (a.fdiv (-(((Int.gcd a b:Nat):Int)))))))),(5,none)] (zR (kP kD)<|zR (kP kD)<|zE (kA (rs_divide fR (cI (cV (k:=68719476736) fR eB (by decide))) (by decide) (by decide) (by have:=gcd_ne (a:=a) hb;omega)))<|zM<|zE vI<|zE vI<|zE vI<|zN (qW 4 gC gA)<|zN (qW 5 gC gA)<|zT (qF kD)<|zT (qF kD)<|zM<|zZ) ?_
  refine jB<|kx [(9,(.ref 6 0))] [(6,some (bx (jT (kS (b.fdiv (-(((Int.gcd a b:Nat):Int)))))))),(7,none)] (zR (kP kD)<|zR (kP kD)<|zE (kA (rs_divide eB (cI (cV (k:=68719476736) fR eB (by decide))) (by decide) (by decide) (by have:=gcd_ne (a:=a) hb;omega)))<|zM<|zE vI<|zE vI<|zE vI<|zN (qW 6 gC gA)<|zN (qW 7 gC gA)<|zT (qF kD)<|zT (qF kD)<|zM<|zZ) ?_
  refine jB<|kx [] [(2,some (bx (jL (kF.mk (kS (a.fdiv (-(((Int.gcd a b:Nat):Int))))) (kS (b.fdiv (-(((Int.gcd a b:Nat):Int)))))))))] (zR (kP kD)<|zR (kP kD)<|zE (cS pl45 uH uN)<|zT (qF jW)<|zZ) ?_
  refine jG ⟨_,(kJ (cs:=(bx (jL (kF.mk (kS (a.fdiv (-(((Int.gcd a b:Nat):Int))))) (kS (b.fdiv (-(((Int.gcd a b:Nat):Int))))))))) (d:=(jL (kF.mk (kS (a.fdiv (-(((Int.gcd a b:Nat):Int))))) (kS (b.fdiv (-(((Int.gcd a b:Nat):Int)))))))) rfl rfl jW rfl rfl .nil),?_⟩
  rw[← red_neg2 hlt];rfl
 ·replace h1:=vM h1
  have hge:¬ b<0:=fun hh=>h1 (signI_lt.2 hh)
  refine jF<|jB<|kx [(6,(.ref 8 0))] [(8,some (bx (jT (kS (a.fdiv (((Int.gcd a b:Nat):Int))))))),(9,none)] (zR (kP kD)<|zR (kP kD)<|zE (kA (rs_divide fR (cV (k:=68719476736) fR eB (by decide)) (by decide) (by decide) (by have:=gcd_ne (a:=a) hb;omega)))<|zM<|zE vI<|zE vI<|zE vI<|zN (qW 8 gC gA)<|zN (qW 9 gC gA)<|zT (qF kD)<|zT (qF kD)<|zM<|zZ) ?_
  refine jB<|kx [(9,(.ref 10 0))] [(10,some (bx (jT (kS (b.fdiv (((Int.gcd a b:Nat):Int))))))),(11,none)] (zR (kP kD)<|zR (kP kD)<|zE (kA (rs_divide eB (cV (k:=68719476736) fR eB (by decide)) (by decide) (by decide) (by have:=gcd_ne (a:=a) hb;omega)))<|zM<|zE vI<|zE vI<|zE vI<|zN (qW 10 gC gA)<|zN (qW 11 gC gA)<|zT (qF kD)<|zT (qF kD)<|zM<|zZ) ?_
  refine jB<|kx [] [(2,some (bx (jL (kF.mk (kS (a.fdiv (((Int.gcd a b:Nat):Int)))) (kS (b.fdiv (((Int.gcd a b:Nat):Int))))))))] (zR (kP kD)<|zR (kP kD)<|zE (cS pl45 uH uN)<|zT (qF jW)<|zZ) ?_
  refine jG ⟨_,(kJ (cs:=(bx (jL (kF.mk (kS (a.fdiv (((Int.gcd a b:Nat):Int)))) (kS (b.fdiv (((Int.gcd a b:Nat):Int)))))))) (d:=(jL (kF.mk (kS (a.fdiv (((Int.gcd a b:Nat):Int)))) (kS (b.fdiv (((Int.gcd a b:Nat):Int))))))) rfl rfl jW rfl rfl .nil),?_⟩
  rw[red_pos hge hb];rfl
theorem g_whole1(n:Int)(hlo:-9223372036854775808≤n)(hhi:n≤9223372036854775807):jS Tryz.prog 95 [(.val (.int .i64 (n)))] (jT (kS n)):=by
 refine jJ Tryz.func95 rfl cb95 rfl ?_
 show qM _ _ _ _ ⟨[(0,(vi n))],[]⟩
 refine jB<|kx [(2,(.ref 0 0))] [(0,some (bx (jT (qG.mk false []))))] (zN (qW 0 gC gA)<|zZ) ?_
 refine jB<|kx [] [(0,some (bx (jT (kS n))))] (zM<|zE (kA (r_of n (by omega) (by omega)))<|zT (qF kD)<|zZ) ?_
 refine jG ⟨_,(kJ (cs:=(bx (jT (kS n)))) (d:=(jT (kS n))) rfl rfl kD rfl rfl .nil),?_⟩
 rfl
theorem nX(n:Int)(hlo:-9223372036854775808≤n)(hhi:n≤9223372036854775807):jS Tryz.prog 56 [(.val (.int .i64 (n)))] (jL (jM ((n:Int):Rat))):=by
 refine jJ Tryz.func56 rfl cb56 rfl ?_
 show qM _ _ _ _ ⟨[(0,(vi n))],[]⟩
 refine jB<|kx [(2,(.ref 0 0))] [(0,some (bx (jL kR)))] (zN (qW 0 uH uN)<|zZ) ?_
 refine jB<|kx [] [(0,some (bx (jL (kF.mk (kS n) (kS 1)))))] (zM<|zE (kA (g_whole1 n (by omega) (by omega)))<|zE (kA (g_whole1 1 (by decide) (by decide)))<|zE (cS pl45 uH uN)<|zT (qF jW)<|zZ) ?_
 refine jG ⟨_,(kJ (cs:=(bx (jL (kF.mk (kS n) (kS 1))))) (d:=(jL (kF.mk (kS n) (kS 1)))) rfl rfl jW rfl rfl .nil),?_⟩
 rfl
theorem iA(x:kF)(p:Rat)(hx:gX x p 17179869184):jS Tryz.prog 54 [(jL x)] (.val (.bool ((kW x)))):=by
 refine jJ Tryz.func54 rfl cb54 rfl ?_
 show qM _ _ _ _ ⟨[(0,(.d (jL x)))],[]⟩
 refine jB<|kx [(1,(.ref 0 0))] [(0,some (bx (jL x)))] (zN (uY 0)<|zM<|zZ) ?_
 refine jB<|jB<|kx [(18,(vb ((!(vC x.num)||!(vC x.den))||decide ((uL (kH x.den))≤0))))] [] ?_ ?_
 ·refine zE (qA yA)<|zR (kP kD)<|zE (kA (r_valid x.num (Nat.le_trans (gP hx.n1).l (by decide))))<|zE mT<|zE (oV (vb (!(vC x.num))) (qQ (by kernel_rfl)))<|?_
  rcases hb1:(!(vC x.num)) with _ | _
  ·refine zE (qA xS)<|zR (kP kD)<|zE (kA (r_valid x.den (Nat.le_trans (gP hx.n2).l (by decide))))<|zE mT<|zE fU<|zE (oV (vb (false||!(vC x.den))) (qQ (by kernel_rfl)))<|?_
   rcases hb2:(false||!(vC x.den)) with _ | _
   ·exact zE (qA xS)<|zR (kP kD)<|zE (kA (rs_sign (gP hx.n2) (by decide)))<|zE oLe<|zE fU<|zZ
   ·exact zK<|zK<|zK<|zK<|zE nY<|zZ
  ·exact zK<|zK<|zK<|zK<|zE nY<|zM<|zK<|zK<|zK<|zK<|zE nY<|zZ
 refine jH rfl (fun h3=>?_) (fun h3=>?_)
 ·refine jB<|kx [(2,(vb false))] [] (zM<|zZ) ?_
  refine jG ⟨_,(.tmp (d:=(.val (.bool (false)))) rfl .nil),?_⟩
  rw[validR_no h3];rfl
 ·refine jF<|jB<|kx [(2,(vb ((vN (((Int.gcd (kH x.num) (kH x.den):Nat):Int)) 1) == 0)))] [] (zE (qA yA)<|zR (kP kD)<|zE (qA xS)<|zR (kP kD)<|zE (kA (rs_gcd (gP hx.n1) (gP hx.n2) (by decide) (by decide)))<|zE (kA (g_whole1 1 (by decide) (by decide)))<|zE (kA (rs_compare (cV (k:=17179869184) (gP hx.n1) (gP hx.n2) (by decide)) (bI (z:=1) (by decide)) (by decide) (by decide)))<|zE xR<|zM<|zZ) ?_
  refine jG ⟨_,(.tmp (d:=(.val (.bool (((vN (((Int.gcd (kH x.num) (kH x.den):Nat):Int)) 1) == 0))))) rfl .nil),?_⟩
  rw[validR_yes h3];rfl
theorem eH(x:kF)(p:Rat)(hx:gX x p 17179869184):jS Tryz.prog 84 [(jL x)] (jL (jM p)):=by
 refine jJ Tryz.func84 rfl cb84 rfl ?_
 show qM _ _ _ _ ⟨[(0,(.d (jL x)))],[]⟩
 refine jB<|kx [(1,(.ref 0 0)),(2,(.ref 1 0))] [(0,some (bx (jL x))),(1,some (bx (jL kR)))] (zN (uY 0)<|zN (qW 1 uH uN)<|zZ) ?_
 refine jB<|jB<|kx [(4,(vb (kW x)))] [] (zR (kP jW)<|zE (kA (iA x p hx))<|zZ) ?_
 refine jH (b:=(kW x)) rfl (fun h1=>?_) (fun h1=>?_)
 ·refine jB<|kx [] [(1,some (bx (jL x)))] (zR (kP jW)<|zT (qF jW)<|zZ) ?_
  refine jG ⟨_,(kJ (cs:=(bx (jL x))) (d:=(jL x)) rfl rfl jW rfl rfl .nil),?_⟩
  rw[← hx.v,ofQ_toQ h1];rfl
 ·refine jF<|jB<|kx [] [(1,some (bx (jL (jM ((0:Int):Rat)))))] (zE (kA (nX 0 (by decide) (by decide)))<|zT (qF jW)<|zZ) ?_
  refine jG ⟨_,(kJ (cs:=(bx (jL (jM ((0:Int):Rat))))) (d:=(jL (jM ((0:Int):Rat)))) rfl rfl jW rfl rfl .nil),?_⟩
  rw[← hx.v,toQ_bad h1];rfl
theorem g_sign(x:kF)(p:Rat)(hx:gX x p 17179869184):jS Tryz.prog 28 [(jL x)] (.val (.int .i64 ((mB p)))):=by
 refine jJ Tryz.func28 rfl cb28 rfl ?_
 show qM _ _ _ _ ⟨[(0,(.d (jL x)))],[]⟩
 refine jB<|kx [(1,(.ref 0 0))] [(0,some (bx (jL x)))] (zN (uY 0)<|zM<|zZ) ?_
 refine jB<|kx [(2,(vi (uL p.num)))] [] (zR (kP jW)<|zE (kA (eH x p hx))<|zE (oFv ft45_0 kD)<|zE (kA (rs_sign (uQ hx.ql) (by decide)))<|zM<|zZ) ?_
 refine jG ⟨_,(.tmp (d:=(.val (.int .i64 ((uL p.num))))) rfl .nil),?_⟩
 rfl
theorem g_neg(x:kF)(p:Rat)(hx:gX x p 17179869184):jS Tryz.prog 85 [(jL x)] (jL (jM (-p))):=by
 refine jJ Tryz.func85 rfl cb85 rfl ?_
 show qM _ _ _ _ ⟨[(0,(.d (jL x)))],[]⟩
 refine jB<|kx [(1,(.ref 0 0)),(2,(.ref 1 0))] [(0,some (bx (jL x))),(1,some (bx (jL kR)))] (zN (uY 0)<|zN (qW 1 uH uN)<|zZ) ?_
 refine jB<|kx [(3,(.ref 2 0))] [(2,some (bx (jL (jM p))))] (zR (kP jW)<|zE (kA (eH x p hx))<|zN (qW 2 uH uN)<|zT (qF jW)<|zZ) ?_
 refine jB<|kd [] [(1,some (bx (jL (kF.mk (kS (-p.num)) ((jM p).den)))))] mo (wE (qA yA)<|wR (kP kD)<|wE (kA (rs_neg (uQ hx.ql) (by decide)))<|wE (qA xS)<|wR (kP kD)<|wE (cS pl45 uH uN)<|wT (qF jW)<|wZ) ?_
 refine jG ⟨_,(kJ (cs:=(bx (jL (kF.mk (kS (-p.num)) ((jM p).den))))) (d:=(jL (kF.mk (kS (-p.num)) ((jM p).den)))) rfl rfl jW rfl rfl .nil),?_⟩
 rfl
theorem g_add(x:kF)(y:kF)(p:Rat)(q:Rat)(hx:gX x p 17179869184)(hy:gX y q 17179869184):jS Tryz.prog 35 [(jL x),(jL y)] (jL (jM (p+q))):=by
 refine jJ Tryz.func35 rfl cb35 rfl ?_
 show qM _ _ _ _ ⟨[(0,(.d (jL x))),(1,(.d (jL y)))],[]⟩
 refine jB<|kx [(2,(.ref 0 0)),(3,(.ref 1 0)),(4,(.ref 2 0))] [(0,some (bx (jL x))),(1,some (bx (jL y))),(2,some (bx (jL kR)))] (zN (uY 0)<|zN (uY 1)<|zN (qW 2 uH uN)<|zZ) ?_
 refine jB<|kx [(5,(.ref 3 0))] [(3,some (bx (jL (jM p))))] (zR (kP jW)<|zE (kA (eH x p hx))<|zN (qW 3 uH uN)<|zT (qF jW)<|zZ) ?_
 refine jB<|kx [(6,(.ref 4 0))] [(4,some (bx (jL (jM q))))] (zR (kP jW)<|zE (kA (eH y q hy))<|zN (qW 4 uH uN)<|zT (qF jW)<|zZ) ?_
 refine jB<|kd [] [(2,some (bx (jL (jM (Rat.divInt ((p.num*(q.den:Int))+(q.num*(p.den:Int))) ((p.den:Int)*(q.den:Int)))))))] mo (wE (qA yA)<|wR (kP kD)<|wE (qA xS)<|wR (kP kD)<|wE (kA (rs_mul (uQ hx.ql) (uJ hy.ql) (by decide) (by decide)))<|wE (qA yA)<|wR (kP kD)<|wE (qA xS)<|wR (kP kD)<|wE (kA (rs_mul (uQ hy.ql) (uJ hx.ql) (by decide) (by decide)))<|wE (kA (rs_add (yJ (k:=34359738368) (uQ hx.ql) (uJ hy.ql) (by decide)) (yJ (k:=34359738368) (uQ hy.ql) (uJ hx.ql) (by decide)) (by decide) (by decide)))<|wE (qA xS)<|wR (kP kD)<|wE (qA xS)<|wR (kP kD)<|wE (kA (rs_mul (uJ hx.ql) (uJ hy.ql) (by decide) (by decide)))<|wE (kA (g_reduced (kS ((p.num*(q.den:Int))+(q.num*(p.den:Int)))) (kS ((p.den:Int)*(q.den:Int))) ((p.num*(q.den:Int))+(q.num*(p.den:Int))) ((p.den:Int)*(q.den:Int)) (nA (iok_add (k:=34359738369) (yJ (k:=34359738368) (uQ hx.ql) (uJ hy.ql) (by decide)) (yJ (k:=34359738368) (uQ hy.ql) (uJ hx.ql) (by decide)) (by decide)) (by decide)) (nA (yJ (k:=34359738368) (uJ hx.ql) (uJ hy.ql) (by decide)) (by decide)) (mul_ne (fL _) (fL _))))<|wT (qF jW)<|wZ) ?_
 refine jG ⟨_,(kJ (cs:=(bx (jL (jM (Rat.divInt ((p.num*(q.den:Int))+(q.num*(p.den:Int))) ((p.den:Int)*(q.den:Int))))))) (d:=(jL (jM (Rat.divInt ((p.num*(q.den:Int))+(q.num*(p.den:Int))) ((p.den:Int)*(q.den:Int)))))) rfl rfl jW rfl rfl .nil),?_⟩
 rw[add_divInt];rfl
theorem g_sub(x:kF)(y:kF)(p:Rat)(q:Rat)(hx:gX x p 17179869184)(hy:gX y q 17179869184):jS Tryz.prog 29 [(jL x),(jL y)] (jL (jM (p-q))):=by
 refine jJ Tryz.func29 rfl cb29 rfl ?_
 show qM _ _ _ _ ⟨[(0,(.d (jL x))),(1,(.d (jL y)))],[]⟩
 refine jB<|kx [(2,(.ref 0 0)),(3,(.ref 1 0)),(4,(.ref 2 0))] [(0,some (bx (jL x))),(1,some (bx (jL y))),(2,some (bx (jL kR)))] (zN (uY 0)<|zN (uY 1)<|zN (qW 2 uH uN)<|zZ) ?_
 refine jB<|kd [] [(2,some (bx (jL (jM (p+(-q))))))] mo (wR (kP jW)<|wR (kP jW)<|wE (kA (g_neg y q hy))<|wE (kA (g_add x (jM (-q)) p (-q) hx (kB (ql_neg hy.ql))))<|wT (qF jW)<|wZ) ?_
 refine jG ⟨_,(kJ (cs:=(bx (jL (jM (p+(-q)))))) (d:=(jL (jM (p+(-q))))) rfl rfl jW rfl rfl .nil),?_⟩
 rw[Rat.sub_eq_add_neg];rfl
theorem g_mul(x:kF)(y:kF)(p:Rat)(q:Rat)(hx:gX x p 17179869184)(hy:gX y q 17179869184):jS Tryz.prog 31 [(jL x),(jL y)] (jL (jM (p*q))):=by
 refine jJ Tryz.func31 rfl cb31 rfl ?_
 show qM _ _ _ _ ⟨[(0,(.d (jL x))),(1,(.d (jL y)))],[]⟩
 refine jB<|kx [(2,(.ref 0 0)),(3,(.ref 1 0)),(4,(.ref 2 0))] [(0,some (bx (jL x))),(1,some (bx (jL y))),(2,some (bx (jL kR)))] (zN (uY 0)<|zN (uY 1)<|zN (qW 2 uH uN)<|zZ) ?_
 refine jB<|kx [(5,(.ref 3 0))] [(3,some (bx (jL (jM p))))] (zR (kP jW)<|zE (kA (eH x p hx))<|zN (qW 3 uH uN)<|zT (qF jW)<|zZ) ?_
 refine jB<|kx [(6,(.ref 4 0))] [(4,some (bx (jL (jM q))))] (zR (kP jW)<|zE (kA (eH y q hy))<|zN (qW 4 uH uN)<|zT (qF jW)<|zZ) ?_
 refine jB<|kd [] [(2,some (bx (jL (jM (Rat.divInt (p.num*q.num) ((p.den:Int)*(q.den:Int)))))))] mo (wE (qA yA)<|wR (kP kD)<|wE (qA yA)<|wR (kP kD)<|wE (kA (rs_mul (uQ hx.ql) (uQ hy.ql) (by decide) (by decide)))<|wE (qA xS)<|wR (kP kD)<|wE (qA xS)<|wR (kP kD)<|wE (kA (rs_mul (uJ hx.ql) (uJ hy.ql) (by decide) (by decide)))<|wE (kA (g_reduced (kS (p.num*q.num)) (kS ((p.den:Int)*(q.den:Int))) (p.num*q.num) ((p.den:Int)*(q.den:Int)) (nA (yJ (k:=34359738368) (uQ hx.ql) (uQ hy.ql) (by decide)) (by decide)) (nA (yJ (k:=34359738368) (uJ hx.ql) (uJ hy.ql) (by decide)) (by decide)) (mul_ne (fL _) (fL _))))<|wT (qF jW)<|wZ) ?_
 refine jG ⟨_,(kJ (cs:=(bx (jL (jM (Rat.divInt (p.num*q.num) ((p.den:Int)*(q.den:Int))))))) (d:=(jL (jM (Rat.divInt (p.num*q.num) ((p.den:Int)*(q.den:Int)))))) rfl rfl jW rfl rfl .nil),?_⟩
 rw[mul_divInt];rfl
theorem g_new(num den:qG)(a b:Int)(fR:gR num a 68719476736)(eB:gR den b 68719476736):jS Tryz.prog 94 [(jT num),(jT den)] (.tup [(jL (newR a b)),(.val (.int .i64 ((newC b))))]):=by
 refine jJ Tryz.func94 rfl cb94 rfl ?_
 show qM _ _ _ _ ⟨[(0,(.d (jT num))),(1,(.d (jT den)))],[]⟩
 refine jB<|kx [(2,(.ref 0 0)),(3,(.ref 1 0)),(4,(.ref 2 0))] [(0,some (bx (jT num))),(1,some (bx (jT den))),(2,some (bx (jL kR)))] (zN (uY 0)<|zN (uY 1)<|zN (qW 2 uH uN)<|zM<|zZ) ?_
 refine jB<|jB<|kx [(8,(vb ((uL b) == 0)))] [] (zR (kP kD)<|zE (kA (rs_sign eB (by decide)))<|zE xR<|zZ) ?_
 refine jH (b:=((uL b) == 0)) rfl (fun h1=>?_) (fun h1=>?_)
 ·replace h1:=eq_of_beq h1
  have hb:b=0:=sign0 h1
  refine jB<|kx [(5,(jK 14))] [(2,some (bx (jL kR)))] (zE (cS pl45 uH uN)<|zT (qF jW)<|zM<|zZ) ?_
  refine jG ⟨_,(kJ (cs:=(bx (jL kR))) (d:=(jL kR)) rfl rfl jW rfl rfl (.tmp (d:=(.val (.int .i64 (14)))) rfl .nil)),?_⟩
  rw[hb];rfl
 ·replace h1:=ne_of_beq_false h1
  have hb:b≠0:=fun hh=>h1 (by rw[hh];rfl)
  refine jF<|jB<|kx [(5,(jK 0))] [(2,some (bx (jL (jM (Rat.divInt a b)))))] (zR (kP kD)<|zR (kP kD)<|zE (kA (g_reduced num den a b fR eB (by assumption)))<|zT (qF jW)<|zM<|zZ) ?_
  refine jG ⟨_,(kJ (cs:=(bx (jL (jM (Rat.divInt a b))))) (d:=(jL (jM (Rat.divInt a b)))) rfl rfl jW rfl rfl (.tmp (d:=(.val (.int .i64 (0)))) rfl .nil)),?_⟩
  unfold newR newC;rw[if_neg hb,if_neg hb];rfl
theorem g_divide(x:kF)(y:kF)(p:Rat)(q:Rat)(hx:gX x p 17179869184)(hy:gX y q 17179869184):jS Tryz.prog 63 [(jL x),(jL y)] (.tup [(jL (divR p q)),(.val (.int .i64 ((divC q))))]):=by
 refine jJ Tryz.func63 rfl cb63 rfl ?_
 show qM _ _ _ _ ⟨[(0,(.d (jL x))),(1,(.d (jL y)))],[]⟩
 refine jB<|kx [(2,(.ref 0 0)),(3,(.ref 1 0)),(4,(.ref 2 0))] [(0,some (bx (jL x))),(1,some (bx (jL y))),(2,some (bx (jL kR)))] (zN (uY 0)<|zN (uY 1)<|zN (qW 2 uH uN)<|zM<|zZ) ?_
 refine jB<|kx [(6,(.ref 3 0))] [(3,some (bx (jL (jM p))))] (zR (kP jW)<|zE (kA (eH x p hx))<|zN (qW 3 uH uN)<|zT (qF jW)<|zZ) ?_
 refine jB<|kx [(7,(.ref 4 0))] [(4,some (bx (jL (jM q))))] (zR (kP jW)<|zE (kA (eH y q hy))<|zN (qW 4 uH uN)<|zT (qF jW)<|zZ) ?_
 refine jB<|kd [(5,(vi (newC ((p.den:Int)*q.num))))] [(2,some (bx (jL (newR (p.num*(q.den:Int)) ((p.den:Int)*q.num)))))] mo (wE (qA yA)<|wR (kP kD)<|wE (qA xS)<|wR (kP kD)<|wE (kA (rs_mul (uQ hx.ql) (uJ hy.ql) (by decide) (by decide)))<|wE (qA xS)<|wR (kP kD)<|wE (qA yA)<|wR (kP kD)<|wE (kA (rs_mul (uJ hx.ql) (uQ hy.ql) (by decide) (by decide)))<|wE (kA (g_new (kS (p.num*(q.den:Int))) (kS ((p.den:Int)*q.num)) (p.num*(q.den:Int)) ((p.den:Int)*q.num) (nA (yJ (k:=34359738368) (uQ hx.ql) (uJ hy.ql) (by decide)) (by decide)) (nA (yJ (k:=34359738368) (uJ hx.ql) (uQ hy.ql) (by decide)) (by decide))))<|wE vI<|wE vI<|wT (qF jW)<|wM<|wZ) ?_
 refine jG ⟨_,(kJ (cs:=(bx (jL (newR (p.num*(q.den:Int)) ((p.den:Int)*q.num))))) (d:=(jL (newR (p.num*(q.den:Int)) ((p.den:Int)*q.num)))) rfl rfl jW rfl rfl (.tmp (d:=(.val (.int .i64 ((newC ((p.den:Int)*q.num)))))) rfl .nil)),?_⟩
 rw[newR_div,newC_div];rfl
theorem bB(x:kF)(y:kF)(p:Rat)(q:Rat)(hx:gX x p 4294967296)(hy:gX y q 4294967296):jS Tryz.prog 30 [(jL x),(jL y)] (.val (.int .i64 ((yE p q)))):=by
 refine jJ Tryz.func30 rfl cb30 rfl ?_
 show qM _ _ _ _ ⟨[(0,(.d (jL x))),(1,(.d (jL y)))],[]⟩
 refine jB<|kx [(2,(.ref 0 0)),(3,(.ref 1 0))] [(0,some (bx (jL x))),(1,some (bx (jL y)))] (zN (uY 0)<|zN (uY 1)<|zM<|zZ) ?_
 refine jB<|kx [(4,(vi (mB (p-q))))] [] (zR (kP jW)<|zR (kP jW)<|zE (kA (g_sub x y p q (jQ hx (by decide)) (jQ hy (by decide))))<|zE (kA (g_sign (jM (p-q)) (p-q) (jQ (kB (aP (k:=8589934593) hx.ql hy.ql (by decide))) (by decide))))<|zM<|zZ) ?_
 refine jG ⟨_,(.tmp (d:=(.val (.int .i64 ((mB (p-q)))))) rfl .nil),?_⟩
 rw[← signQ_sub];rfl
theorem cb24:callB Tryz.prog 24=true:=by kernel_rfl
theorem cb26:callB Tryz.prog 26=true:=by kernel_rfl
theorem cb99:callB Tryz.prog 99=true:=by kernel_rfl
theorem vT:zY Tryz.prog 61 0=some 0:=by kernel_rfl
theorem xF:zY Tryz.prog 61 1=some 4:=by kernel_rfl
theorem g_same(x:kF)(y:kF)(p:Rat)(q:Rat)(hx:gX x p 4294967296)(hy:gX y q 4294967296):jS Tryz.prog 24 [(jL x),(jL y)] (.val (.bool ((mH x y)))):=by
 refine jJ Tryz.func24 rfl cb24 rfl ?_
 show qM _ _ _ _ ⟨[(0,(.d (jL x))),(1,(.d (jL y)))],[]⟩
 refine jB<|kx [(2,(.ref 0 0)),(3,(.ref 1 0))] [(0,some (bx (jL x))),(1,some (bx (jL y)))] (zN (uY 0)<|zN (uY 1)<|zM<|zZ) ?_
 refine jB<|kx [(4,(vb (((kW x)&&(kW y))&&((yE p q) == 0))))] [] ?_ ?_
 ·refine zR (kP jW)<|zE (kA (iA x p (jQ hx (by decide))))<|zE (oV (vb (kW x)) (qQ (by kernel_rfl)))<|?_
  rcases hb1:(kW x) with _ | _
  ·exact zK<|zK<|zE gE<|zM<|zK<|zK<|zK<|zK<|zE gE<|zM<|zZ
  ·refine zR (kP jW)<|zE (kA (iA y q (jQ hy (by decide))))<|zE fA<|zE (oV (vb (true&&(kW y))) (qQ (by kernel_rfl)))<|?_
   rcases hb2:(true&&(kW y)) with _ | _
   ·exact zK<|zK<|zK<|zK<|zE gE<|zM<|zZ
   ·exact zR (kP jW)<|zR (kP jW)<|zE (kA (bB x y p q hx hy))<|zE xR<|zE fA<|zM<|zZ
 refine jG ⟨_,(.tmp (d:=(.val (.bool ((((kW x)&&(kW y))&&((yE p q) == 0)))))) rfl .nil),?_⟩
 unfold mH
 rw[← sameR_eq,hx.v,hy.v];rfl
theorem g_digits(x:kF)(p:Rat)(hx:gX x p 140737488355328):jS Tryz.prog 26 [(jL x)] (.val (.int .i64 ((((digR x):Nat):Int)))):=by
 have h1:=hx.n1
 have h2:=hx.n2
 refine jJ Tryz.func26 rfl cb26 rfl ?_
 show qM _ _ _ _ ⟨[(0,(.d (jL x)))],[]⟩
 refine jB<|kx [(1,(.ref 0 0))] [(0,some (bx (jL x)))] (zN (uY 0)<|zM<|zZ) ?_
 refine jB<|kx [(2,(jK (x.num.gs.length+x.den.gs.length)))] [] (zE (qA yA)<|zE (qA xN)<|zR (qX yH)<|zE (zD kV)<|zE (qA xS)<|zE (qA xN)<|zR (qX yH)<|zE (zD kV)<|zE (xE (x.num.gs.length+x.den.gs.length))<|zM<|zZ) ?_
 refine jG ⟨_,(.tmp (d:=(.val (.int .i64 ((((x.num.gs.length+x.den.gs.length):Nat):Int))))) rfl .nil),?_⟩
 rfl
theorem g_samerange(a b:jO)(ha:GOk 4294967296 a)(hb:GOk 4294967296 b):jS Tryz.prog 99 [(jD a),(jD b)] (.val (.bool ((mH a.lo b.lo&&mH a.hi b.hi)))):=by
 refine jJ Tryz.func99 rfl cb99 rfl ?_
 show qM _ _ _ _ ⟨[(0,(.d (jD a))),(1,(.d (jD b)))],[]⟩
 refine jB<|kx [(2,(.ref 0 0)),(3,(.ref 1 0))] [(0,some (bx (jD a))),(1,some (bx (jD b)))] (zN (uY 0)<|zN (uY 1)<|zM<|zZ) ?_
 refine jB<|kx [(4,(vb ((mH a.lo b.lo)&&(mH a.hi b.hi))))] [] ?_ ?_
 ·refine zE (qA vT)<|zR (kP jW)<|zE (qA vT)<|zR (kP jW)<|zE (kA (g_same a.lo b.lo (qN a.lo) (qN b.lo) ha.1 hb.1))<|zE (oV (vb (mH a.lo b.lo)) (qQ (by kernel_rfl)))<|?_
  rcases hb1:(mH a.lo b.lo) with _ | _
  ·exact zK<|zK<|zK<|zK<|zK<|zE gE<|zM<|zZ
  ·exact zE (qA xF)<|zR (kP jW)<|zE (qA xF)<|zR (kP jW)<|zE (kA (g_same a.hi b.hi (qN a.hi) (qN b.hi) ha.2 hb.2))<|zE fA<|zM<|zZ
 refine jG ⟨_,(.tmp (d:=(.val (.bool (((mH a.lo b.lo)&&(mH a.hi b.hi)))))) rfl .nil),?_⟩
 rfl
end Go.Proofs.YtnajallgoaiahaaGreatDoor
