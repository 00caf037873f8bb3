/- Part 17 of a proof: rules, plain facts, and functions walked. -/
import Derived.Test.YtnajallgoaiahaaGreatDoorM16
set_option linter.all false
set_option maxRecDepth 4000
namespace Go.Proofs.YtnajallgoaiahaaGreatDoor
open Go.Fid
theorem s_neg{x:kU}{a:Int}{m:Nat}(hx:yZ x a m)(hm:m≤274877906944):jQ Tryz.prog 225 [(jN x)] (jN (kD (-a))):=by
 obtain ⟨rfl,hx'⟩:=hx
 exact t_neg x (by omega)
theorem s_sign{x:kU}{a:Int}{m:Nat}(hx:yZ x a m)(hm:m≤274877906944):jQ Tryz.prog 136 [(jN x)] (.val (.int .i64 (qY a))):=by
 obtain ⟨rfl,hx'⟩:=hx
 exact t_sign x (by omega)
theorem s_add{x y:kU}{a b:Int}{m n:Nat}(hx:yZ x a m)(hy:yZ y b n)(hm:m≤274877906944)(hn:n≤274877906944):jQ Tryz.prog 150 [(jN x),(jN y)] (jN (kD (a+b))):=by
 obtain ⟨rfl,hx'⟩:=hx;obtain ⟨rfl,hy'⟩:=hy
 exact t_add x y (by omega) (by omega)
theorem s_mul{x y:kU}{a b:Int}{m n:Nat}(hx:yZ x a m)(hy:yZ y b n)(hm:m≤274877906944)(hn:n≤274877906944):jQ Tryz.prog 142 [(jN x),(jN y)] (jN (kD (a*b))):=by
 obtain ⟨rfl,hx'⟩:=hx;obtain ⟨rfl,hy'⟩:=hy
 exact t_mul x y (by omega) (by omega)
theorem s_compare{x y:kU}{a b:Int}{m n:Nat}(hx:yZ x a m)(hy:yZ y b n)(hm:m≤274877906944)(hn:n≤274877906944):jQ Tryz.prog 137 [(jN x),(jN y)] (.val (.int .i64 (uP a b))):=by
 obtain ⟨rfl,hx'⟩:=hx;obtain ⟨rfl,hy'⟩:=hy
 exact t_compareI x y (by omega) (by omega)
theorem s_gcd{x y:kU}{a b:Int}{m n:Nat}(hx:yZ x a m)(hy:yZ y b n)(hm:m≤274877906944)(hn:n≤274877906944):jQ Tryz.prog 138 [(jN x),(jN y)] (jN (kD ((Int.gcd a b:Nat):Int))):=by
 obtain ⟨rfl,hx'⟩:=hx;obtain ⟨rfl,hy'⟩:=hy
 exact t_gcdI x y (by omega) (by omega)
theorem s_divide{x y:kU}{a b:Int}{m n:Nat}(hx:yZ x a m)(hy:yZ y b n)(hm:m≤274877906944)(hn:n≤274877906944)(hb:b≠0):jQ Tryz.prog 227 [(jN x),(jN y)] (.tup [(jN (kD (a.fdiv b))),(jN (kD (a.fmod b))),(.val (.int .i64 0))]):=by
 obtain ⟨rfl,hx'⟩:=hx;obtain ⟨rfl,hy'⟩:=hy
 exact t_divideI x y (by omega) (by omega) hb
theorem rs_neg{x:kU}{a:Int}{m:Nat}(hx:yZ x a m)(hm:m≤274877906944):jQ Tryz.prog 145 [(jN x)] (jN (kD (-a))):=by
 obtain ⟨rfl,hx'⟩:=hx
 exact r_neg x (by omega)
theorem rs_sign{x:kU}{a:Int}{m:Nat}(hx:yZ x a m)(hm:m≤274877906944):jQ Tryz.prog 83 [(jN x)] (.val (.int .i64 (qY a))):=by
 obtain ⟨rfl,hx'⟩:=hx
 exact r_sign x (by omega)
theorem rs_add{x y:kU}{a b:Int}{m n:Nat}(hx:yZ x a m)(hy:yZ y b n)(hm:m≤274877906944)(hn:n≤274877906944):jQ Tryz.prog 96 [(jN x),(jN y)] (jN (kD (a+b))):=by
 obtain ⟨rfl,hx'⟩:=hx;obtain ⟨rfl,hy'⟩:=hy
 exact r_add x y (by omega) (by omega)
theorem rs_mul{x y:kU}{a b:Int}{m n:Nat}(hx:yZ x a m)(hy:yZ y b n)(hm:m≤274877906944)(hn:n≤274877906944):jQ Tryz.prog 87 [(jN x),(jN y)] (jN (kD (a*b))):=by
 obtain ⟨rfl,hx'⟩:=hx;obtain ⟨rfl,hy'⟩:=hy
 exact r_mul x y (by omega) (by omega)
theorem rs_compare{x y:kU}{a b:Int}{m n:Nat}(hx:yZ x a m)(hy:yZ y b n)(hm:m≤274877906944)(hn:n≤274877906944):jQ Tryz.prog 117 [(jN x),(jN y)] (.val (.int .i64 (uP a b))):=by
 obtain ⟨rfl,hx'⟩:=hx;obtain ⟨rfl,hy'⟩:=hy
 exact r_compare x y (by omega) (by omega)
theorem rs_gcd{x y:kU}{a b:Int}{m n:Nat}(hx:yZ x a m)(hy:yZ y b n)(hm:m≤274877906944)(hn:n≤274877906944):jQ Tryz.prog 118 [(jN x),(jN y)] (jN (kD ((Int.gcd a b:Nat):Int))):=by
 obtain ⟨rfl,hx'⟩:=hx;obtain ⟨rfl,hy'⟩:=hy
 exact r_gcd x y (by omega) (by omega)
theorem rs_divide{x y:kU}{a b:Int}{m n:Nat}(hx:yZ x a m)(hy:yZ y b n)(hm:m≤274877906944)(hn:n≤274877906944)(hb:b≠0):jQ Tryz.prog 146 [(jN x),(jN y)] (.tup [(jN (kD (a.fdiv b))),(jN (kD (a.fmod b))),(.val (.int .i64 0))]):=by
 obtain ⟨rfl,hx'⟩:=hx;obtain ⟨rfl,hy'⟩:=hy
 exact r_divide x y (by omega) (by omega) hb
theorem cb78:callB Tryz.prog 78=true:=by kernel_rfl
theorem cb79:callB Tryz.prog 79=true:=by kernel_rfl
theorem cb80:callB Tryz.prog 80=true:=by kernel_rfl
theorem cb81:callB Tryz.prog 81=true:=by kernel_rfl
theorem cb82:callB Tryz.prog 82=true:=by kernel_rfl
theorem cb90:callB Tryz.prog 90=true:=by kernel_rfl
theorem cb105:callB Tryz.prog 105=true:=by kernel_rfl
theorem cb140:callB Tryz.prog 140=true:=by kernel_rfl
theorem cb141:callB Tryz.prog 141=true:=by kernel_rfl
theorem cb143:callB Tryz.prog 143=true:=by kernel_rfl
theorem cb224:callB Tryz.prog 224=true:=by kernel_rfl
theorem cb261:callB Tryz.prog 261=true:=by kernel_rfl
theorem yD:xR Tryz.prog 45 0=some 0:=by kernel_rfl
theorem xI:xR Tryz.prog 45 1=some 2:=by kernel_rfl
theorem ft45_0:bC Tryz.prog 45 0=some (0,43):=by kernel_rfl
theorem pl45:dT Tryz.prog 45=some [(0,2),(2,2)]:=by kernel_rfl
theorem jS:qO Tryz.prog 45=some (true,4):=by kernel_rfl
theorem uL:zJ Tryz.prog 45=some [.bool false,.slice none 0 0,.bool false,.slice none 0 0]:=by kernel_rfl
theorem uQ:aJ [.bool false,.slice none 0 0,.bool false,.slice none 0 0] [.val (.bool false),.sl 140 1 [],.val (.bool false),.sl 140 1 []]:=by simp [aJ,Value.oneCell']
theorem cI(num den:kU)(a b:Int)(aL:yZ num a 68719476736)(eX:yZ den b 68719476736)(hb:b≠0):jQ Tryz.prog 143 [(jN num),(jN den)] (jK (jP (Rat.divInt a b))):=by
 refine jG Tryz.func143 rfl cb143 rfl ?_
 show qK _ _ _ _ ⟨[(0,(.d (jN num))),(1,(.d (jN den)))],[]⟩
 refine jB<|kx [(2,(.ref 0 0)),(3,(.ref 1 0)),(4,(.ref 2 0))] [(0,some (bx (jN num))),(1,some (bx (jN den))),(2,some (bx (jK qM)))] (zN (vN 0)<|zN (vN 1)<|zN (uB 2 uL uQ)<|zZ) ?_
 refine jB<|jB<|kx [(8,(vb (decide ((qY b)<0))))] [] (zR (kO jY)<|zE (jZ (s_sign eX (by decide)))<|zE xT<|zZ) ?_
 refine jF (b:=decide ((qY b)<0)) rfl (fun h1=>?_) (fun h1=>?_)
 ·replace h1:=vI h1
  have hlt:=signI_lt.1 h1
  have hb2:-b≠0:=by omega
  refine kd [] [(0,some (bx (jN (kD (-a))))),(1,some (bx (jN (kD (-b)))))] mo (wR (kO jY)<|wE (jZ (s_neg aL (by decide)))<|wR (kO jY)<|wE (jZ (s_neg eX (by decide)))<|wT (qD jY)<|wT (qD jY)<|wZ) ?_
  refine jB<|kx [(5,(.ref 3 0))] [(3,some (bx (jN (kD ((Int.gcd (-a) (-b):Nat):Int)))))] (zR (kO jY)<|zR (kO jY)<|zE (jZ (s_gcd (cB aL) (cB eX) (by decide) (by decide)))<|zN (uB 3 yH yF)<|zT (qD jY)<|zZ) ?_
  refine jB<|kx [] [(0,some (bx (jN (kD ((-a).fdiv (((Int.gcd (-a) (-b):Nat):Int)))))))] (zR (kO jY)<|zR (kO jY)<|zE (jZ (s_divide (cB aL) (cN (k:=68719476736) (cB aL) (cB eX) (by decide)) (by decide) (by decide) (gcd_ne (by omega))))<|zM<|zE vT<|zE vT<|zE vT<|zT (qD jY)<|zZ) ?_
  refine jB<|kx [] [(1,some (bx (jN (kD ((-b).fdiv (((Int.gcd (-a) (-b):Nat):Int)))))))] (zR (kO jY)<|zR (kO jY)<|zE (jZ (s_divide (cB eX) (cN (k:=68719476736) (cB aL) (cB eX) (by decide)) (by decide) (by decide) (gcd_ne (by omega))))<|zM<|zE vT<|zE vT<|zE vT<|zT (qD jY)<|zZ) ?_
  refine jB<|kx [] [(2,some (bx (jK (jO.mk (kD ((-a).fdiv (((Int.gcd (-a) (-b):Nat):Int)))) (kD ((-b).fdiv (((Int.gcd (-a) (-b):Nat):Int))))))))] (zR (kO jY)<|zR (kO jY)<|zE (bB pl45 uL uQ)<|zT (qD jS)<|zZ) ?_
  refine jE ⟨_,(kP (cs:=(bx (jK (jO.mk (kD ((-a).fdiv (((Int.gcd (-a) (-b):Nat):Int)))) (kD ((-b).fdiv (((Int.gcd (-a) (-b):Nat):Int)))))))) (d:=(jK (jO.mk (kD ((-a).fdiv (((Int.gcd (-a) (-b):Nat):Int)))) (kD ((-b).fdiv (((Int.gcd (-a) (-b):Nat):Int))))))) rfl rfl jS rfl rfl .nil),?_⟩
  rw[red_neg hlt];rfl
 ·replace h1:=vM h1
  have hge:¬ b<0:=fun hh=>h1 (signI_lt.2 hh)
  refine jD<|jB<|kx [(5,(.ref 4 0))] [(4,some (bx (jN (kD ((Int.gcd a b:Nat):Int)))))] (zR (kO jY)<|zR (kO jY)<|zE (jZ (s_gcd aL eX (by decide) (by decide)))<|zN (uB 4 yH yF)<|zT (qD jY)<|zZ) ?_
  refine jB<|kx [] [(0,some (bx (jN (kD (a.fdiv (((Int.gcd a b:Nat):Int)))))))] (zR (kO jY)<|zR (kO jY)<|zE (jZ (s_divide aL (cN (k:=68719476736) aL eX (by decide)) (by decide) (by decide) (gcd_ne (by omega))))<|zM<|zE vT<|zE vT<|zE vT<|zT (qD jY)<|zZ) ?_
  refine jB<|kx [] [(1,some (bx (jN (kD (b.fdiv (((Int.gcd a b:Nat):Int)))))))] (zR (kO jY)<|zR (kO jY)<|zE (jZ (s_divide eX (cN (k:=68719476736) aL eX (by decide)) (by decide) (by decide) (gcd_ne (by omega))))<|zM<|zE vT<|zE vT<|zE vT<|zT (qD jY)<|zZ) ?_
  refine jB<|kx [] [(2,some (bx (jK (jO.mk (kD (a.fdiv (((Int.gcd a b:Nat):Int)))) (kD (b.fdiv (((Int.gcd a b:Nat):Int))))))))] (zR (kO jY)<|zR (kO jY)<|zE (bB pl45 uL uQ)<|zT (qD jS)<|zZ) ?_
  refine jE ⟨_,(kP (cs:=(bx (jK (jO.mk (kD (a.fdiv (((Int.gcd a b:Nat):Int)))) (kD (b.fdiv (((Int.gcd a b:Nat):Int)))))))) (d:=(jK (jO.mk (kD (a.fdiv (((Int.gcd a b:Nat):Int)))) (kD (b.fdiv (((Int.gcd a b:Nat):Int))))))) rfl rfl jS rfl rfl .nil),?_⟩
  rw[red_pos hge hb];rfl
theorem f_whole(n:Int)(hlo:-9223372036854775808≤n)(hhi:n≤9223372036854775807):jQ Tryz.prog 105 [(.val (.int .i64 (n)))] (jK (jP ((n:Int):Rat))):=by
 refine jG Tryz.func105 rfl cb105 rfl ?_
 show qK _ _ _ _ ⟨[(0,(vi n))],[]⟩
 refine jB<|kx [(2,(.ref 0 0))] [(0,some (bx (jK qM)))] (zN (uB 0 uL uQ)<|zZ) ?_
 refine jB<|kx [] [(0,some (bx (jK (jO.mk (kD n) (kD 1)))))] (zM<|zE (jZ (t_of n (by omega) (by omega)))<|zE (jZ (t_of 1 (by decide) (by decide)))<|zE (bB pl45 uL uQ)<|zT (qD jS)<|zZ) ?_
 refine jE ⟨_,(kP (cs:=(bx (jK (jO.mk (kD n) (kD 1))))) (d:=(jK (jO.mk (kD n) (kD 1)))) rfl rfl jS rfl rfl .nil),?_⟩
 rfl
theorem cA(x:jO)(p:Rat)(hx:mN x p 17179869184):jQ Tryz.prog 78 [(jK x)] (.val (.bool ((kM x)))):=by
 refine jG Tryz.func78 rfl cb78 rfl ?_
 show qK _ _ _ _ ⟨[(0,(.d (jK x)))],[]⟩
 refine jB<|kx [(1,(.ref 0 0))] [(0,some (bx (jK x)))] (zN (vN 0)<|zM<|zZ) ?_
 refine jB<|jB<|kx [(18,(vb ((!(uF x.num)||!(uF x.den))||decide ((qY (jX x.den))≤0))))] [] ?_ ?_
 ·refine zE (kZ yD)<|zR (kO jY)<|zE (jZ (t_valid x.num (Nat.le_trans (yX hx.n1).l (by decide))))<|zE nF<|zE (oV (vb (!(uF x.num))) (kV (by kernel_rfl)))<|?_
  rcases hb1:(!(uF x.num)) with _ | _
  ·refine zE (kZ xI)<|zR (kO jY)<|zE (jZ (t_valid x.den (Nat.le_trans (yX hx.n2).l (by decide))))<|zE nF<|zE cL<|zE (oV (vb (false||!(uF x.den))) (kV (by kernel_rfl)))<|?_
   rcases hb2:(false||!(uF x.den)) with _ | _
   ·exact zE (kZ xI)<|zR (kO jY)<|zE (jZ (s_sign (yX hx.n2) (by decide)))<|zE oLe<|zE cL<|zZ
   ·exact zK<|zK<|zK<|zK<|zE xS<|zZ
  ·exact zK<|zK<|zK<|zK<|zE xS<|zM<|zK<|zK<|zK<|zK<|zE xS<|zZ
 refine jF rfl (fun h3=>?_) (fun h3=>?_)
 ·refine jB<|kx [(2,(vb false))] [] (zM<|zZ) ?_
  refine jE ⟨_,(.tmp (d:=(.val (.bool (false)))) rfl .nil),?_⟩
  rw[validR_no h3];rfl
 ·refine jD<|jB<|kx [(2,(vb ((uP (((Int.gcd (jX x.num) (jX x.den):Nat):Int)) 1) == 0)))] [] (zE (kZ yD)<|zR (kO jY)<|zE (kZ xI)<|zR (kO jY)<|zE (jZ (s_gcd (yX hx.n1) (yX hx.n2) (by decide) (by decide)))<|zE (jZ (t_of 1 (by decide) (by decide)))<|zE (jZ (s_compare (cN (k:=17179869184) (yX hx.n1) (yX hx.n2) (by decide)) (aY (z:=1) (by decide)) (by decide) (by decide)))<|zE yQ<|zM<|zZ) ?_
  refine jE ⟨_,(.tmp (d:=(.val (.bool (((uP (((Int.gcd (jX x.num) (jX x.den):Nat):Int)) 1) == 0))))) rfl .nil),?_⟩
  rw[validR_yes h3];rfl
theorem f_copied(x:jO)(p:Rat)(hx:mN x p 17179869184):jQ Tryz.prog 224 [(jK x)] (jK (jO.mk (kD (-(-jX x.num))) (kD (-(-jX x.den))))):=by
 refine jG Tryz.func224 rfl cb224 rfl ?_
 show qK _ _ _ _ ⟨[(0,(.d (jK x)))],[]⟩
 refine jB<|kx [(1,(.ref 0 0)),(2,(.ref 1 0))] [(0,some (bx (jK x))),(1,some (bx (jK qM)))] (zN (vN 0)<|zN (uB 1 uL uQ)<|zZ) ?_
 refine jB<|kd [] [(1,some (bx (jK (jO.mk (kD (-(-(jX x.num)))) (kD (-(-(jX x.den))))))))] mo (wE (kZ yD)<|wR (kO jY)<|wE (jZ (s_neg (yX hx.n1) (by decide)))<|wE (jZ (s_neg (cB (yX hx.n1)) (by decide)))<|wE (kZ xI)<|wR (kO jY)<|wE (jZ (s_neg (yX hx.n2) (by decide)))<|wE (jZ (s_neg (cB (yX hx.n2)) (by decide)))<|wE (bB pl45 uL uQ)<|wT (qD jS)<|wZ) ?_
 refine jE ⟨_,(kP (cs:=(bx (jK (jO.mk (kD (-(-(jX x.num)))) (kD (-(-(jX x.den)))))))) (d:=(jK (jO.mk (kD (-(-(jX x.num)))) (kD (-(-(jX x.den))))))) rfl rfl jS rfl rfl .nil),?_⟩
 rfl
theorem dB(x:jO)(p:Rat)(hx:mN x p 17179869184):jQ Tryz.prog 140 [(jK x)] (jK (jP p)):=by
 refine jG Tryz.func140 rfl cb140 rfl ?_
 show qK _ _ _ _ ⟨[(0,(.d (jK x)))],[]⟩
 refine jB<|kx [(1,(.ref 0 0)),(2,(.ref 1 0))] [(0,some (bx (jK x))),(1,some (bx (jK qM)))] (zN (vN 0)<|zN (uB 1 uL uQ)<|zZ) ?_
 refine jB<|jB<|kx [(4,(vb (kM x)))] [] (zR (kO jS)<|zE (jZ (cA x p hx))<|zZ) ?_
 refine jF (b:=(kM x)) rfl (fun h1=>?_) (fun h1=>?_)
 ·refine jB<|kx [] [(1,some (bx (jK (jO.mk (kD (-(-jX x.num))) (kD (-(-jX x.den)))))))] (zR (kO jS)<|zE (jZ (f_copied x p hx))<|zT (qD jS)<|zZ) ?_
  refine jE ⟨_,(kP (cs:=(bx (jK (jO.mk (kD (-(-jX x.num))) (kD (-(-jX x.den))))))) (d:=(jK (jO.mk (kD (-(-jX x.num))) (kD (-(-jX x.den)))))) rfl rfl jS rfl rfl .nil),?_⟩
  rw[← hx.v,← copied_eq h1];rfl
 ·refine jD<|jB<|kx [] [(1,some (bx (jK (jP ((0:Int):Rat)))))] (zE (jZ (f_whole 0 (by decide) (by decide)))<|zT (qD jS)<|zZ) ?_
  refine jE ⟨_,(kP (cs:=(bx (jK (jP ((0:Int):Rat))))) (d:=(jK (jP ((0:Int):Rat)))) rfl rfl jS rfl rfl .nil),?_⟩
  rw[← hx.v,toQ_bad h1];rfl
theorem f_sign(x:jO)(p:Rat)(hx:mN x p 17179869184):jQ Tryz.prog 79 [(jK x)] (.val (.int .i64 ((nI p)))):=by
 refine jG Tryz.func79 rfl cb79 rfl ?_
 show qK _ _ _ _ ⟨[(0,(.d (jK x)))],[]⟩
 refine jB<|kx [(1,(.ref 0 0))] [(0,some (bx (jK x)))] (zN (vN 0)<|zM<|zZ) ?_
 refine jB<|kx [(2,(vi (qY p.num)))] [] (zR (kO jS)<|zE (jZ (dB x p hx))<|zE (oFv ft45_0 jY)<|zE (jZ (s_sign (uV hx.ql) (by decide)))<|zM<|zZ) ?_
 refine jE ⟨_,(.tmp (d:=(.val (.int .i64 ((qY p.num))))) rfl .nil),?_⟩
 rfl
theorem f_neg(x:jO)(p:Rat)(hx:mN x p 17179869184):jQ Tryz.prog 141 [(jK x)] (jK (jP (-p))):=by
 refine jG Tryz.func141 rfl cb141 rfl ?_
 show qK _ _ _ _ ⟨[(0,(.d (jK x)))],[]⟩
 refine jB<|kx [(1,(.ref 0 0)),(2,(.ref 1 0))] [(0,some (bx (jK x))),(1,some (bx (jK qM)))] (zN (vN 0)<|zN (uB 1 uL uQ)<|zZ) ?_
 refine jB<|kx [] [(0,some (bx (jK (jP p))))] (zR (kO jS)<|zE (jZ (dB x p hx))<|zT (qD jS)<|zZ) ?_
 refine jB<|kd [] [(1,some (bx (jK (jO.mk (kD (-p.num)) ((jP p).den)))))] mo (wE (kZ yD)<|wR (kO jY)<|wE (jZ (s_neg (uV hx.ql) (by decide)))<|wE (kZ xI)<|wR (kO jY)<|wE (bB pl45 uL uQ)<|wT (qD jS)<|wZ) ?_
 refine jE ⟨_,(kP (cs:=(bx (jK (jO.mk (kD (-p.num)) ((jP p).den))))) (d:=(jK (jO.mk (kD (-p.num)) ((jP p).den)))) rfl rfl jS rfl rfl .nil),?_⟩
 rfl
theorem f_add(x:jO)(y:jO)(p:Rat)(q:Rat)(hx:mN x p 17179869184)(hy:mN y q 17179869184):jQ Tryz.prog 90 [(jK x),(jK y)] (jK (jP (p+q))):=by
 refine jG Tryz.func90 rfl cb90 rfl ?_
 show qK _ _ _ _ ⟨[(0,(.d (jK x))),(1,(.d (jK y)))],[]⟩
 refine jB<|kx [(2,(.ref 0 0)),(3,(.ref 1 0)),(4,(.ref 2 0))] [(0,some (bx (jK x))),(1,some (bx (jK y))),(2,some (bx (jK qM)))] (zN (vN 0)<|zN (vN 1)<|zN (uB 2 uL uQ)<|zZ) ?_
 refine jB<|kd [] [(0,some (bx (jK (jP p)))),(1,some (bx (jK (jP q))))] mo (wR (kO jS)<|wE (jZ (dB x p hx))<|wR (kO jS)<|wE (jZ (dB y q hy))<|wT (qD jS)<|wT (qD jS)<|wZ) ?_
 refine jB<|kd [] [(2,some (bx (jK (jP (Rat.divInt ((p.num*(q.den:Int))+(q.num*(p.den:Int))) ((p.den:Int)*(q.den:Int)))))))] mo (wE (kZ yD)<|wR (kO jY)<|wE (kZ xI)<|wR (kO jY)<|wE (jZ (s_mul (uV hx.ql) (uK hy.ql) (by decide) (by decide)))<|wE (kZ yD)<|wR (kO jY)<|wE (kZ xI)<|wR (kO jY)<|wE (jZ (s_mul (uV hy.ql) (uK hx.ql) (by decide) (by decide)))<|wE (jZ (s_add (gJ (k:=34359738368) (uV hx.ql) (uK hy.ql) (by decide)) (gJ (k:=34359738368) (uV hy.ql) (uK hx.ql) (by decide)) (by decide) (by decide)))<|wE (kZ xI)<|wR (kO jY)<|wE (kZ xI)<|wR (kO jY)<|wE (jZ (s_mul (uK hx.ql) (uK hy.ql) (by decide) (by decide)))<|wE (jZ (cI (kD ((p.num*(q.den:Int))+(q.num*(p.den:Int)))) (kD ((p.den:Int)*(q.den:Int))) ((p.num*(q.den:Int))+(q.num*(p.den:Int))) ((p.den:Int)*(q.den:Int)) (mG (iok_add (k:=34359738369) (gJ (k:=34359738368) (uV hx.ql) (uK hy.ql) (by decide)) (gJ (k:=34359738368) (uV hy.ql) (uK hx.ql) (by decide)) (by decide)) (by decide)) (mG (gJ (k:=34359738368) (uK hx.ql) (uK hy.ql) (by decide)) (by decide)) (mul_ne (den_ne _) (den_ne _))))<|wT (qD jS)<|wZ) ?_
 refine jE ⟨_,(kP (cs:=(bx (jK (jP (Rat.divInt ((p.num*(q.den:Int))+(q.num*(p.den:Int))) ((p.den:Int)*(q.den:Int))))))) (d:=(jK (jP (Rat.divInt ((p.num*(q.den:Int))+(q.num*(p.den:Int))) ((p.den:Int)*(q.den:Int)))))) rfl rfl jS rfl rfl .nil),?_⟩
 rw[add_divInt];rfl
theorem f_sub(x:jO)(y:jO)(p:Rat)(q:Rat)(hx:mN x p 17179869184)(hy:mN y q 17179869184):jQ Tryz.prog 80 [(jK x),(jK y)] (jK (jP (p-q))):=by
 refine jG Tryz.func80 rfl cb80 rfl ?_
 show qK _ _ _ _ ⟨[(0,(.d (jK x))),(1,(.d (jK y)))],[]⟩
 refine jB<|kx [(2,(.ref 0 0)),(3,(.ref 1 0)),(4,(.ref 2 0))] [(0,some (bx (jK x))),(1,some (bx (jK y))),(2,some (bx (jK qM)))] (zN (vN 0)<|zN (vN 1)<|zN (uB 2 uL uQ)<|zZ) ?_
 refine jB<|kd [] [(2,some (bx (jK (jP (p+(-q))))))] mo (wR (kO jS)<|wR (kO jS)<|wE (jZ (f_neg y q hy))<|wE (jZ (f_add x (jP (-q)) p (-q) hx (kC (ql_neg hy.ql))))<|wT (qD jS)<|wZ) ?_
 refine jE ⟨_,(kP (cs:=(bx (jK (jP (p+(-q)))))) (d:=(jK (jP (p+(-q))))) rfl rfl jS rfl rfl .nil),?_⟩
 rw[Rat.sub_eq_add_neg];rfl
theorem eK(x:jO)(y:jO)(p:Rat)(q:Rat)(hx:mN x p 17179869184)(hy:mN y q 17179869184):jQ Tryz.prog 82 [(jK x),(jK y)] (jK (jP (p*q))):=by
 refine jG Tryz.func82 rfl cb82 rfl ?_
 show qK _ _ _ _ ⟨[(0,(.d (jK x))),(1,(.d (jK y)))],[]⟩
 refine jB<|kx [(2,(.ref 0 0)),(3,(.ref 1 0)),(4,(.ref 2 0))] [(0,some (bx (jK x))),(1,some (bx (jK y))),(2,some (bx (jK qM)))] (zN (vN 0)<|zN (vN 1)<|zN (uB 2 uL uQ)<|zZ) ?_
 refine jB<|kd [] [(0,some (bx (jK (jP p)))),(1,some (bx (jK (jP q))))] mo (wR (kO jS)<|wE (jZ (dB x p hx))<|wR (kO jS)<|wE (jZ (dB y q hy))<|wT (qD jS)<|wT (qD jS)<|wZ) ?_
 refine jB<|kd [] [(2,some (bx (jK (jP (Rat.divInt (p.num*q.num) ((p.den:Int)*(q.den:Int)))))))] mo (wE (kZ yD)<|wR (kO jY)<|wE (kZ yD)<|wR (kO jY)<|wE (jZ (s_mul (uV hx.ql) (uV hy.ql) (by decide) (by decide)))<|wE (kZ xI)<|wR (kO jY)<|wE (kZ xI)<|wR (kO jY)<|wE (jZ (s_mul (uK hx.ql) (uK hy.ql) (by decide) (by decide)))<|wE (jZ (cI (kD (p.num*q.num)) (kD ((p.den:Int)*(q.den:Int))) (p.num*q.num) ((p.den:Int)*(q.den:Int)) (mG (gJ (k:=34359738368) (uV hx.ql) (uV hy.ql) (by decide)) (by decide)) (mG (gJ (k:=34359738368) (uK hx.ql) (uK hy.ql) (by decide)) (by decide)) (mul_ne (den_ne _) (den_ne _))))<|wT (qD jS)<|wZ) ?_
 refine jE ⟨_,(kP (cs:=(bx (jK (jP (Rat.divInt (p.num*q.num) ((p.den:Int)*(q.den:Int))))))) (d:=(jK (jP (Rat.divInt (p.num*q.num) ((p.den:Int)*(q.den:Int)))))) rfl rfl jS rfl rfl .nil),?_⟩
 rw[mul_divInt];rfl
theorem f_divide(x:jO)(y:jO)(p:Rat)(q:Rat)(hx:mN x p 17179869184)(hy:mN y q 17179869184):jQ Tryz.prog 261 [(jK x),(jK y)] (.tup [(jK (divR p q)),(.val (.int .i64 ((divC q))))]):=by
 refine jG Tryz.func261 rfl cb261 rfl ?_
 show qK _ _ _ _ ⟨[(0,(.d (jK x))),(1,(.d (jK y)))],[]⟩
 refine jB<|kx [(2,(.ref 0 0)),(3,(.ref 1 0)),(4,(.ref 2 0))] [(0,some (bx (jK x))),(1,some (bx (jK y))),(2,some (bx (jK qM)))] (zN (vN 0)<|zN (vN 1)<|zN (uB 2 uL uQ)<|zM<|zZ) ?_
 refine jB<|kd [] [(0,some (bx (jK (jP p)))),(1,some (bx (jK (jP q))))] mo (wR (kO jS)<|wE (jZ (dB x p hx))<|wR (kO jS)<|wE (jZ (dB y q hy))<|wT (qD jS)<|wT (qD jS)<|wZ) ?_
 refine jB<|jB<|kx [(13,(vb ((qY q.num) == 0)))] [] (zE (kZ yD)<|zR (kO jY)<|zE (jZ (s_sign (uV hy.ql) (by decide)))<|zE yQ<|zZ) ?_
 refine jF (b:=((qY q.num) == 0)) rfl (fun h1=>?_) (fun h1=>?_)
 ·replace h1:=eq_of_beq h1
  have hq0:=fG.1 h1
  refine jB<|kx [(5,(jV 14))] [(2,some (bx (jK qM)))] (zE (bB pl45 uL uQ)<|zT (qD jS)<|zM<|zZ) ?_
  refine jE ⟨_,(kP (cs:=(bx (jK qM))) (d:=(jK qM)) rfl rfl jS rfl rfl (.tmp (d:=(.val (.int .i64 (14)))) rfl .nil)),?_⟩
  rw[divR_zero hq0,divC_zero hq0];rfl
 ·replace h1:=ne_of_beq_false h1
  have hq0:q≠0:=fun hh=>h1 (fG.2 hh)
  refine jD<|jB<|kd [(5,(jV 0))] [(2,some (bx (jK (jP (Rat.divInt (p.num*(q.den:Int)) ((p.den:Int)*q.num))))))] mo (wE (kZ yD)<|wR (kO jY)<|wE (kZ xI)<|wR (kO jY)<|wE (jZ (s_mul (uV hx.ql) (uK hy.ql) (by decide) (by decide)))<|wE (kZ xI)<|wR (kO jY)<|wE (kZ yD)<|wR (kO jY)<|wE (jZ (s_mul (uK hx.ql) (uV hy.ql) (by decide) (by decide)))<|wE (jZ (cI (kD (p.num*(q.den:Int))) (kD ((p.den:Int)*q.num)) (p.num*(q.den:Int)) ((p.den:Int)*q.num) (mG (gJ (k:=34359738368) (uV hx.ql) (uK hy.ql) (by decide)) (by decide)) (mG (gJ (k:=34359738368) (uK hx.ql) (uV hy.ql) (by decide)) (by decide)) (mul_ne (den_ne _) (num_ne hq0))))<|wT (qD jS)<|wM<|wZ) ?_
  refine jE ⟨_,(kP (cs:=(bx (jK (jP (Rat.divInt (p.num*(q.den:Int)) ((p.den:Int)*q.num)))))) (d:=(jK (jP (Rat.divInt (p.num*(q.den:Int)) ((p.den:Int)*q.num))))) rfl rfl jS rfl rfl (.tmp (d:=(.val (.int .i64 (0)))) rfl .nil)),?_⟩
  rw[divR_ne hq0,divC_ne hq0,div_divInt];rfl
theorem cK(x:jO)(y:jO)(p:Rat)(q:Rat)(hx:mN x p 17179869184)(hy:mN y q 17179869184):jQ Tryz.prog 81 [(jK x),(jK y)] (.val (.int .i64 ((yW p q)))):=by
 refine jG Tryz.func81 rfl cb81 rfl ?_
 show qK _ _ _ _ ⟨[(0,(.d (jK x))),(1,(.d (jK y)))],[]⟩
 refine jB<|kx [(2,(.ref 0 0)),(3,(.ref 1 0))] [(0,some (bx (jK x))),(1,some (bx (jK y)))] (zN (vN 0)<|zN (vN 1)<|zM<|zZ) ?_
 refine jB<|kd [] [(0,some (bx (jK (jP p)))),(1,some (bx (jK (jP q))))] mo (wR (kO jS)<|wE (jZ (dB x p hx))<|wR (kO jS)<|wE (jZ (dB y q hy))<|wT (qD jS)<|wT (qD jS)<|wZ) ?_
 refine jB<|kd [(4,(vi (uP (p.num*(q.den:Int)) (q.num*(p.den:Int)))))] [] mo (wE (kZ yD)<|wR (kO jY)<|wE (kZ xI)<|wR (kO jY)<|wE (jZ (s_mul (uV hx.ql) (uK hy.ql) (by decide) (by decide)))<|wE (kZ yD)<|wR (kO jY)<|wE (kZ xI)<|wR (kO jY)<|wE (jZ (s_mul (uV hy.ql) (uK hx.ql) (by decide) (by decide)))<|wE (jZ (s_compare (gJ (k:=34359738368) (uV hx.ql) (uK hy.ql) (by decide)) (gJ (k:=34359738368) (uV hy.ql) (uK hx.ql) (by decide)) (by decide) (by decide)))<|wM<|wZ) ?_
 refine jE ⟨_,(.tmp (d:=(.val (.int .i64 ((uP (p.num*(q.den:Int)) (q.num*(p.den:Int))))))) rfl .nil),?_⟩
 rw[← cmpQ_cross];rfl
theorem cb28:callB Tryz.prog 28=true:=by kernel_rfl
theorem cb29:callB Tryz.prog 29=true:=by kernel_rfl
theorem cb30:callB Tryz.prog 30=true:=by kernel_rfl
theorem cb35:callB Tryz.prog 35=true:=by kernel_rfl
theorem cb54:callB Tryz.prog 54=true:=by kernel_rfl
theorem cb56:callB Tryz.prog 56=true:=by kernel_rfl
theorem cb84:callB Tryz.prog 84=true:=by kernel_rfl
theorem cb85:callB Tryz.prog 85=true:=by kernel_rfl
theorem cb86:callB Tryz.prog 86=true:=by kernel_rfl
theorem cb95:callB Tryz.prog 95=true:=by kernel_rfl
theorem g_reduced(num den:kU)(a b:Int)(aL:yZ num a 68719476736)(eX:yZ den b 68719476736)(hb:b≠0):jQ Tryz.prog 86 [(jN num),(jN den)] (jK (jP (Rat.divInt a b))):=by
 refine jG Tryz.func86 rfl cb86 rfl ?_
 show qK _ _ _ _ ⟨[(0,(.d (jN num))),(1,(.d (jN den)))],[]⟩
 refine jB<|kx [(2,(.ref 0 0)),(3,(.ref 1 0)),(4,(.ref 2 0))] [(0,some (bx (jN num))),(1,some (bx (jN den))),(2,some (bx (jK qM)))] (zN (vN 0)<|zN (vN 1)<|zN (uB 2 uL uQ)<|zZ) ?_
 refine jB<|kx [(5,(.ref 3 0))] [(3,some (bx (jN (kD ((Int.gcd a b:Nat):Int)))))] (zR (kO jY)<|zR (kO jY)<|zE (jZ (rs_gcd aL eX (by decide) (by decide)))<|zN (uB 3 yH yF)<|zT (qD jY)<|zZ) ?_
 refine jB<|jB<|kx [(17,(vb (decide ((qY b)<0))))] [] (zR (kO jY)<|zE (jZ (rs_sign eX (by decide)))<|zE xT<|zZ) ?_
 refine jF (b:=decide ((qY b)<0)) rfl (fun h1=>?_) (fun h1=>?_)
 ·replace h1:=vI h1
  have hlt:=signI_lt.1 h1
  refine kx [] [(3,some (bx (jN (kD (-(((Int.gcd a b:Nat):Int)))))))] (zR (kO jY)<|zE (jZ (rs_neg (cN (k:=68719476736) aL eX (by decide)) (by decide)))<|zT (qD jY)<|zZ) ?_
  refine jB<|kx [(6,(.ref 4 0))] [(4,some (bx (jN (kD (a.fdiv (-(((Int.gcd a b:Nat):Int)))))))),(5,none)] (zR (kO jY)<|zR (kO jY)<|zE (jZ (rs_divide aL (cB (cN (k:=68719476736) aL eX (by decide))) (by decide) (by decide) (by have:=gcd_ne (a:=a) hb;omega)))<|zM<|zE vT<|zE vT<|zE vT<|zN (uB 4 yH yF)<|zN (uB 5 yH yF)<|zT (qD jY)<|zT (qD jY)<|zM<|zZ) ?_
  refine jB<|kx [(9,(.ref 6 0))] [(6,some (bx (jN (kD (b.fdiv (-(((Int.gcd a b:Nat):Int)))))))),(7,none)] (zR (kO jY)<|zR (kO jY)<|zE (jZ (rs_divide eX (cB (cN (k:=68719476736) aL eX (by decide))) (by decide) (by decide) (by have:=gcd_ne (a:=a) hb;omega)))<|zM<|zE vT<|zE vT<|zE vT<|zN (uB 6 yH yF)<|zN (uB 7 yH yF)<|zT (qD jY)<|zT (qD jY)<|zM<|zZ) ?_
  refine jB<|kx [] [(2,some (bx (jK (jO.mk (kD (a.fdiv (-(((Int.gcd a b:Nat):Int))))) (kD (b.fdiv (-(((Int.gcd a b:Nat):Int)))))))))] (zR (kO jY)<|zR (kO jY)<|zE (bB pl45 uL uQ)<|zT (qD jS)<|zZ) ?_
  refine jE ⟨_,(kP (cs:=(bx (jK (jO.mk (kD (a.fdiv (-(((Int.gcd a b:Nat):Int))))) (kD (b.fdiv (-(((Int.gcd a b:Nat):Int))))))))) (d:=(jK (jO.mk (kD (a.fdiv (-(((Int.gcd a b:Nat):Int))))) (kD (b.fdiv (-(((Int.gcd a b:Nat):Int)))))))) rfl rfl jS rfl rfl .nil),?_⟩
  rw[← red_neg2 hlt];rfl
 ·replace h1:=vM h1
  have hge:¬ b<0:=fun hh=>h1 (signI_lt.2 hh)
  refine jD<|jB<|kx [(6,(.ref 8 0))] [(8,some (bx (jN (kD (a.fdiv (((Int.gcd a b:Nat):Int))))))),(9,none)] (zR (kO jY)<|zR (kO jY)<|zE (jZ (rs_divide aL (cN (k:=68719476736) aL eX (by decide)) (by decide) (by decide) (by have:=gcd_ne (a:=a) hb;omega)))<|zM<|zE vT<|zE vT<|zE vT<|zN (uB 8 yH yF)<|zN (uB 9 yH yF)<|zT (qD jY)<|zT (qD jY)<|zM<|zZ) ?_
  refine jB<|kx [(9,(.ref 10 0))] [(10,some (bx (jN (kD (b.fdiv (((Int.gcd a b:Nat):Int))))))),(11,none)] (zR (kO jY)<|zR (kO jY)<|zE (jZ (rs_divide eX (cN (k:=68719476736) aL eX (by decide)) (by decide) (by decide) (by have:=gcd_ne (a:=a) hb;omega)))<|zM<|zE vT<|zE vT<|zE vT<|zN (uB 10 yH yF)<|zN (uB 11 yH yF)<|zT (qD jY)<|zT (qD jY)<|zM<|zZ) ?_
  refine jB<|kx [] [(2,some (bx (jK (jO.mk (kD (a.fdiv (((Int.gcd a b:Nat):Int)))) (kD (b.fdiv (((Int.gcd a b:Nat):Int))))))))] (zR (kO jY)<|zR (kO jY)<|zE (bB pl45 uL uQ)<|zT (qD jS)<|zZ) ?_
  refine jE ⟨_,(kP (cs:=(bx (jK (jO.mk (kD (a.fdiv (((Int.gcd a b:Nat):Int)))) (kD (b.fdiv (((Int.gcd a b:Nat):Int)))))))) (d:=(jK (jO.mk (kD (a.fdiv (((Int.gcd a b:Nat):Int)))) (kD (b.fdiv (((Int.gcd a b:Nat):Int))))))) rfl rfl jS rfl rfl .nil),?_⟩
  rw[red_pos hge hb];rfl
theorem g_whole1(n:Int)(hlo:-9223372036854775808≤n)(hhi:n≤9223372036854775807):jQ Tryz.prog 95 [(.val (.int .i64 (n)))] (jN (kD n)):=by
 refine jG Tryz.func95 rfl cb95 rfl ?_
 show qK _ _ _ _ ⟨[(0,(vi n))],[]⟩
 refine jB<|kx [(2,(.ref 0 0))] [(0,some (bx (jN (kU.mk false []))))] (zN (uB 0 yH yF)<|zZ) ?_
 refine jB<|kx [] [(0,some (bx (jN (kD n))))] (zM<|zE (jZ (r_of n (by omega) (by omega)))<|zT (qD jY)<|zZ) ?_
 refine jE ⟨_,(kP (cs:=(bx (jN (kD n)))) (d:=(jN (kD n))) rfl rfl jY rfl rfl .nil),?_⟩
 rfl
theorem eB(n:Int)(hlo:-9223372036854775808≤n)(hhi:n≤9223372036854775807):jQ Tryz.prog 56 [(.val (.int .i64 (n)))] (jK (jP ((n:Int):Rat))):=by
 refine jG Tryz.func56 rfl cb56 rfl ?_
 show qK _ _ _ _ ⟨[(0,(vi n))],[]⟩
 refine jB<|kx [(2,(.ref 0 0))] [(0,some (bx (jK qM)))] (zN (uB 0 uL uQ)<|zZ) ?_
 refine jB<|kx [] [(0,some (bx (jK (jO.mk (kD n) (kD 1)))))] (zM<|zE (jZ (g_whole1 n (by omega) (by omega)))<|zE (jZ (g_whole1 1 (by decide) (by decide)))<|zE (bB pl45 uL uQ)<|zT (qD jS)<|zZ) ?_
 refine jE ⟨_,(kP (cs:=(bx (jK (jO.mk (kD n) (kD 1))))) (d:=(jK (jO.mk (kD n) (kD 1)))) rfl rfl jS rfl rfl .nil),?_⟩
 rfl
theorem iA(x:jO)(p:Rat)(hx:mN x p 17179869184):jQ Tryz.prog 54 [(jK x)] (.val (.bool ((kM x)))):=by
 refine jG Tryz.func54 rfl cb54 rfl ?_
 show qK _ _ _ _ ⟨[(0,(.d (jK x)))],[]⟩
 refine jB<|kx [(1,(.ref 0 0))] [(0,some (bx (jK x)))] (zN (vN 0)<|zM<|zZ) ?_
 refine jB<|jB<|kx [(18,(vb ((!(uF x.num)||!(uF x.den))||decide ((qY (jX x.den))≤0))))] [] ?_ ?_
 ·refine zE (kZ yD)<|zR (kO jY)<|zE (jZ (r_valid x.num (Nat.le_trans (yX hx.n1).l (by decide))))<|zE nF<|zE (oV (vb (!(uF x.num))) (kV (by kernel_rfl)))<|?_
  rcases hb1:(!(uF x.num)) with _ | _
  ·refine zE (kZ xI)<|zR (kO jY)<|zE (jZ (r_valid x.den (Nat.le_trans (yX hx.n2).l (by decide))))<|zE nF<|zE cL<|zE (oV (vb (false||!(uF x.den))) (kV (by kernel_rfl)))<|?_
   rcases hb2:(false||!(uF x.den)) with _ | _
   ·exact zE (kZ xI)<|zR (kO jY)<|zE (jZ (rs_sign (yX hx.n2) (by decide)))<|zE oLe<|zE cL<|zZ
   ·exact zK<|zK<|zK<|zK<|zE xS<|zZ
  ·exact zK<|zK<|zK<|zK<|zE xS<|zM<|zK<|zK<|zK<|zK<|zE xS<|zZ
 refine jF rfl (fun h3=>?_) (fun h3=>?_)
 ·refine jB<|kx [(2,(vb false))] [] (zM<|zZ) ?_
  refine jE ⟨_,(.tmp (d:=(.val (.bool (false)))) rfl .nil),?_⟩
  rw[validR_no h3];rfl
 ·refine jD<|jB<|kx [(2,(vb ((uP (((Int.gcd (jX x.num) (jX x.den):Nat):Int)) 1) == 0)))] [] (zE (kZ yD)<|zR (kO jY)<|zE (kZ xI)<|zR (kO jY)<|zE (jZ (rs_gcd (yX hx.n1) (yX hx.n2) (by decide) (by decide)))<|zE (jZ (g_whole1 1 (by decide) (by decide)))<|zE (jZ (rs_compare (cN (k:=17179869184) (yX hx.n1) (yX hx.n2) (by decide)) (aY (z:=1) (by decide)) (by decide) (by decide)))<|zE yQ<|zM<|zZ) ?_
  refine jE ⟨_,(.tmp (d:=(.val (.bool (((uP (((Int.gcd (jX x.num) (jX x.den):Nat):Int)) 1) == 0))))) rfl .nil),?_⟩
  rw[validR_yes h3];rfl
theorem g_value(x:jO)(p:Rat)(hx:mN x p 17179869184):jQ Tryz.prog 84 [(jK x)] (jK (jP p)):=by
 refine jG Tryz.func84 rfl cb84 rfl ?_
 show qK _ _ _ _ ⟨[(0,(.d (jK x)))],[]⟩
 refine jB<|kx [(1,(.ref 0 0)),(2,(.ref 1 0))] [(0,some (bx (jK x))),(1,some (bx (jK qM)))] (zN (vN 0)<|zN (uB 1 uL uQ)<|zZ) ?_
 refine jB<|jB<|kx [(4,(vb (kM x)))] [] (zR (kO jS)<|zE (jZ (iA x p hx))<|zZ) ?_
 refine jF (b:=(kM x)) rfl (fun h1=>?_) (fun h1=>?_)
 ·refine jB<|kx [] [(1,some (bx (jK x)))] (zR (kO jS)<|zT (qD jS)<|zZ) ?_
  refine jE ⟨_,(kP (cs:=(bx (jK x))) (d:=(jK x)) rfl rfl jS rfl rfl .nil),?_⟩
  rw[← hx.v,ofQ_toQ h1];rfl
 ·refine jD<|jB<|kx [] [(1,some (bx (jK (jP ((0:Int):Rat)))))] (zE (jZ (eB 0 (by decide) (by decide)))<|zT (qD jS)<|zZ) ?_
  refine jE ⟨_,(kP (cs:=(bx (jK (jP ((0:Int):Rat))))) (d:=(jK (jP ((0:Int):Rat)))) rfl rfl jS rfl rfl .nil),?_⟩
  rw[← hx.v,toQ_bad h1];rfl
theorem g_sign(x:jO)(p:Rat)(hx:mN x p 17179869184):jQ Tryz.prog 28 [(jK x)] (.val (.int .i64 ((nI p)))):=by
 refine jG Tryz.func28 rfl cb28 rfl ?_
 show qK _ _ _ _ ⟨[(0,(.d (jK x)))],[]⟩
 refine jB<|kx [(1,(.ref 0 0))] [(0,some (bx (jK x)))] (zN (vN 0)<|zM<|zZ) ?_
 refine jB<|kx [(2,(vi (qY p.num)))] [] (zR (kO jS)<|zE (jZ (g_value x p hx))<|zE (oFv ft45_0 jY)<|zE (jZ (rs_sign (uV hx.ql) (by decide)))<|zM<|zZ) ?_
 refine jE ⟨_,(.tmp (d:=(.val (.int .i64 ((qY p.num))))) rfl .nil),?_⟩
 rfl
theorem g_neg(x:jO)(p:Rat)(hx:mN x p 17179869184):jQ Tryz.prog 85 [(jK x)] (jK (jP (-p))):=by
 refine jG Tryz.func85 rfl cb85 rfl ?_
 show qK _ _ _ _ ⟨[(0,(.d (jK x)))],[]⟩
 refine jB<|kx [(1,(.ref 0 0)),(2,(.ref 1 0))] [(0,some (bx (jK x))),(1,some (bx (jK qM)))] (zN (vN 0)<|zN (uB 1 uL uQ)<|zZ) ?_
 refine jB<|kx [(3,(.ref 2 0))] [(2,some (bx (jK (jP p))))] (zR (kO jS)<|zE (jZ (g_value x p hx))<|zN (uB 2 uL uQ)<|zT (qD jS)<|zZ) ?_
 refine jB<|kd [] [(1,some (bx (jK (jO.mk (kD (-p.num)) ((jP p).den)))))] mo (wE (kZ yD)<|wR (kO jY)<|wE (jZ (rs_neg (uV hx.ql) (by decide)))<|wE (kZ xI)<|wR (kO jY)<|wE (bB pl45 uL uQ)<|wT (qD jS)<|wZ) ?_
 refine jE ⟨_,(kP (cs:=(bx (jK (jO.mk (kD (-p.num)) ((jP p).den))))) (d:=(jK (jO.mk (kD (-p.num)) ((jP p).den)))) rfl rfl jS rfl rfl .nil),?_⟩
 rfl
theorem g_add(x:jO)(y:jO)(p:Rat)(q:Rat)(hx:mN x p 17179869184)(hy:mN y q 17179869184):jQ Tryz.prog 35 [(jK x),(jK y)] (jK (jP (p+q))):=by
 refine jG Tryz.func35 rfl cb35 rfl ?_
 show qK _ _ _ _ ⟨[(0,(.d (jK x))),(1,(.d (jK y)))],[]⟩
 refine jB<|kx [(2,(.ref 0 0)),(3,(.ref 1 0)),(4,(.ref 2 0))] [(0,some (bx (jK x))),(1,some (bx (jK y))),(2,some (bx (jK qM)))] (zN (vN 0)<|zN (vN 1)<|zN (uB 2 uL uQ)<|zZ) ?_
 refine jB<|kx [(5,(.ref 3 0))] [(3,some (bx (jK (jP p))))] (zR (kO jS)<|zE (jZ (g_value x p hx))<|zN (uB 3 uL uQ)<|zT (qD jS)<|zZ) ?_
 refine jB<|kx [(6,(.ref 4 0))] [(4,some (bx (jK (jP q))))] (zR (kO jS)<|zE (jZ (g_value y q hy))<|zN (uB 4 uL uQ)<|zT (qD jS)<|zZ) ?_
 refine jB<|kd [] [(2,some (bx (jK (jP (Rat.divInt ((p.num*(q.den:Int))+(q.num*(p.den:Int))) ((p.den:Int)*(q.den:Int)))))))] mo (wE (kZ yD)<|wR (kO jY)<|wE (kZ xI)<|wR (kO jY)<|wE (jZ (rs_mul (uV hx.ql) (uK hy.ql) (by decide) (by decide)))<|wE (kZ yD)<|wR (kO jY)<|wE (kZ xI)<|wR (kO jY)<|wE (jZ (rs_mul (uV hy.ql) (uK hx.ql) (by decide) (by decide)))<|wE (jZ (rs_add (gJ (k:=34359738368) (uV hx.ql) (uK hy.ql) (by decide)) (gJ (k:=34359738368) (uV hy.ql) (uK hx.ql) (by decide)) (by decide) (by decide)))<|wE (kZ xI)<|wR (kO jY)<|wE (kZ xI)<|wR (kO jY)<|wE (jZ (rs_mul (uK hx.ql) (uK hy.ql) (by decide) (by decide)))<|wE (jZ (g_reduced (kD ((p.num*(q.den:Int))+(q.num*(p.den:Int)))) (kD ((p.den:Int)*(q.den:Int))) ((p.num*(q.den:Int))+(q.num*(p.den:Int))) ((p.den:Int)*(q.den:Int)) (mG (iok_add (k:=34359738369) (gJ (k:=34359738368) (uV hx.ql) (uK hy.ql) (by decide)) (gJ (k:=34359738368) (uV hy.ql) (uK hx.ql) (by decide)) (by decide)) (by decide)) (mG (gJ (k:=34359738368) (uK hx.ql) (uK hy.ql) (by decide)) (by decide)) (mul_ne (den_ne _) (den_ne _))))<|wT (qD jS)<|wZ) ?_
 refine jE ⟨_,(kP (cs:=(bx (jK (jP (Rat.divInt ((p.num*(q.den:Int))+(q.num*(p.den:Int))) ((p.den:Int)*(q.den:Int))))))) (d:=(jK (jP (Rat.divInt ((p.num*(q.den:Int))+(q.num*(p.den:Int))) ((p.den:Int)*(q.den:Int)))))) rfl rfl jS rfl rfl .nil),?_⟩
 rw[add_divInt];rfl
theorem g_sub(x:jO)(y:jO)(p:Rat)(q:Rat)(hx:mN x p 17179869184)(hy:mN y q 17179869184):jQ Tryz.prog 29 [(jK x),(jK y)] (jK (jP (p-q))):=by
 refine jG Tryz.func29 rfl cb29 rfl ?_
 show qK _ _ _ _ ⟨[(0,(.d (jK x))),(1,(.d (jK y)))],[]⟩
 refine jB<|kx [(2,(.ref 0 0)),(3,(.ref 1 0)),(4,(.ref 2 0))] [(0,some (bx (jK x))),(1,some (bx (jK y))),(2,some (bx (jK qM)))] (zN (vN 0)<|zN (vN 1)<|zN (uB 2 uL uQ)<|zZ) ?_
 refine jB<|kd [] [(2,some (bx (jK (jP (p+(-q))))))] mo (wR (kO jS)<|wR (kO jS)<|wE (jZ (g_neg y q hy))<|wE (jZ (g_add x (jP (-q)) p (-q) hx (kC (ql_neg hy.ql))))<|wT (qD jS)<|wZ) ?_
 refine jE ⟨_,(kP (cs:=(bx (jK (jP (p+(-q)))))) (d:=(jK (jP (p+(-q))))) rfl rfl jS rfl rfl .nil),?_⟩
 rw[Rat.sub_eq_add_neg];rfl
theorem g_compare(x:jO)(y:jO)(p:Rat)(q:Rat)(hx:mN x p 4294967296)(hy:mN y q 4294967296):jQ Tryz.prog 30 [(jK x),(jK y)] (.val (.int .i64 ((yW p q)))):=by
 refine jG Tryz.func30 rfl cb30 rfl ?_
 show qK _ _ _ _ ⟨[(0,(.d (jK x))),(1,(.d (jK y)))],[]⟩
 refine jB<|kx [(2,(.ref 0 0)),(3,(.ref 1 0))] [(0,some (bx (jK x))),(1,some (bx (jK y)))] (zN (vN 0)<|zN (vN 1)<|zM<|zZ) ?_
 refine jB<|kx [(4,(vi (nI (p-q))))] [] (zR (kO jS)<|zR (kO jS)<|zE (jZ (g_sub x y p q (jR hx (by decide)) (jR hy (by decide))))<|zE (jZ (g_sign (jP (p-q)) (p-q) (jR (kC (aF (k:=8589934593) hx.ql hy.ql (by decide))) (by decide))))<|zM<|zZ) ?_
 refine jE ⟨_,(.tmp (d:=(.val (.int .i64 ((nI (p-q)))))) rfl .nil),?_⟩
 rw[← signQ_sub];rfl
theorem cb24:callB Tryz.prog 24=true:=by kernel_rfl
theorem cb26:callB Tryz.prog 26=true:=by kernel_rfl
theorem cb99:callB Tryz.prog 99=true:=by kernel_rfl
theorem zB:xR Tryz.prog 61 0=some 0:=by kernel_rfl
theorem zU:xR Tryz.prog 61 1=some 4:=by kernel_rfl
theorem g_same(x:jO)(y:jO)(p:Rat)(q:Rat)(hx:mN x p 4294967296)(hy:mN y q 4294967296):jQ Tryz.prog 24 [(jK x),(jK y)] (.val (.bool ((dE x y)))):=by
 refine jG Tryz.func24 rfl cb24 rfl ?_
 show qK _ _ _ _ ⟨[(0,(.d (jK x))),(1,(.d (jK y)))],[]⟩
 refine jB<|kx [(2,(.ref 0 0)),(3,(.ref 1 0))] [(0,some (bx (jK x))),(1,some (bx (jK y)))] (zN (vN 0)<|zN (vN 1)<|zM<|zZ) ?_
 refine jB<|kx [(4,(vb (((kM x)&&(kM y))&&((yW p q) == 0))))] [] ?_ ?_
 ·refine zR (kO jS)<|zE (jZ (iA x p (jR hx (by decide))))<|zE (oV (vb (kM x)) (kV (by kernel_rfl)))<|?_
  rcases hb1:(kM x) with _ | _
  ·exact zK<|zK<|zE zG<|zM<|zK<|zK<|zK<|zK<|zE zG<|zM<|zZ
  ·refine zR (kO jS)<|zE (jZ (iA y q (jR hy (by decide))))<|zE fM<|zE (oV (vb (true&&(kM y))) (kV (by kernel_rfl)))<|?_
   rcases hb2:(true&&(kM y)) with _ | _
   ·exact zK<|zK<|zK<|zK<|zE zG<|zM<|zZ
   ·exact zR (kO jS)<|zR (kO jS)<|zE (jZ (g_compare x y p q hx hy))<|zE yQ<|zE fM<|zM<|zZ
 refine jE ⟨_,(.tmp (d:=(.val (.bool ((((kM x)&&(kM y))&&((yW p q) == 0)))))) rfl .nil),?_⟩
 unfold dE
 rw[← sameR_eq,hx.v,hy.v];rfl
theorem g_digits(x:jO)(p:Rat)(hx:mN x p 140737488355328):jQ Tryz.prog 26 [(jK x)] (.val (.int .i64 ((((digR x):Nat):Int)))):=by
 have h1:=hx.n1
 have h2:=hx.n2
 refine jG Tryz.func26 rfl cb26 rfl ?_
 show qK _ _ _ _ ⟨[(0,(.d (jK x)))],[]⟩
 refine jB<|kx [(1,(.ref 0 0))] [(0,some (bx (jK x)))] (zN (vN 0)<|zM<|zZ) ?_
 refine jB<|kx [(2,(jV (x.num.gs.length+x.den.gs.length)))] [] (zE (kZ yD)<|zE (kZ vL)<|zR (qS xZ)<|zE (vC kH)<|zE (kZ xI)<|zE (kZ vL)<|zR (qS xZ)<|zE (vC kH)<|zE (vY (x.num.gs.length+x.den.gs.length))<|zM<|zZ) ?_
 refine jE ⟨_,(.tmp (d:=(.val (.int .i64 ((((x.num.gs.length+x.den.gs.length):Nat):Int))))) rfl .nil),?_⟩
 rfl
theorem g_samerange(a b:jW)(ha:GOk 4294967296 a)(hb:GOk 4294967296 b):jQ Tryz.prog 99 [(jI a),(jI b)] (.val (.bool ((dE a.lo b.lo&&dE a.hi b.hi)))):=by
 refine jG Tryz.func99 rfl cb99 rfl ?_
 show qK _ _ _ _ ⟨[(0,(.d (jI a))),(1,(.d (jI b)))],[]⟩
 refine jB<|kx [(2,(.ref 0 0)),(3,(.ref 1 0))] [(0,some (bx (jI a))),(1,some (bx (jI b)))] (zN (vN 0)<|zN (vN 1)<|zM<|zZ) ?_
 refine jB<|kx [(4,(vb ((dE a.lo b.lo)&&(dE a.hi b.hi))))] [] ?_ ?_
 ·refine zE (kZ zB)<|zR (kO jS)<|zE (kZ zB)<|zR (kO jS)<|zE (jZ (g_same a.lo b.lo (qJ a.lo) (qJ b.lo) ha.1 hb.1))<|zE (oV (vb (dE a.lo b.lo)) (kV (by kernel_rfl)))<|?_
  rcases hb1:(dE a.lo b.lo) with _ | _
  ·exact zK<|zK<|zK<|zK<|zK<|zE zG<|zM<|zZ
  ·exact zE (kZ zU)<|zR (kO jS)<|zE (kZ zU)<|zR (kO jS)<|zE (jZ (g_same a.hi b.hi (qJ a.hi) (qJ b.hi) ha.2 hb.2))<|zE fM<|zM<|zZ
 refine jE ⟨_,(.tmp (d:=(.val (.bool (((dE a.lo b.lo)&&(dE a.hi b.hi)))))) rfl .nil),?_⟩
 rfl
end Go.Proofs.YtnajallgoaiahaaGreatDoor
