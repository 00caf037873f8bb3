/- Part 17 of a proof: rules, plain facts, and functions walked. -/
import Derived.Test.YtnajallgoaiahaaGreatDoorM16
set_option linter.all false
set_option maxRecDepth 4000
namespace Go.Proofs.YtnajallgoaiahaaGreatDoor
open Go.Fid
theorem s_neg{x:kU}{a:Int}{m:Nat}(hx:gC x a m)(hm:m≤274877906944):jP Tryz.prog 225 [(jO x)] (jO (kH (-a))):=by
 obtain ⟨rfl,hx'⟩:=hx
 exact t_neg x (by omega)
theorem s_sign{x:kU}{a:Int}{m:Nat}(hx:gC x a m)(hm:m≤274877906944):jP Tryz.prog 136 [(jO x)] (.val (.int .i64 (qZ a))):=by
 obtain ⟨rfl,hx'⟩:=hx
 exact t_sign x (by omega)
theorem s_add{x y:kU}{a b:Int}{m n:Nat}(hx:gC x a m)(hy:gC y b n)(hm:m≤274877906944)(hn:n≤274877906944):jP Tryz.prog 150 [(jO x),(jO y)] (jO (kH (a+b))):=by
 obtain ⟨rfl,hx'⟩:=hx;obtain ⟨rfl,hy'⟩:=hy
 exact t_add x y (by omega) (by omega)
theorem s_mul{x y:kU}{a b:Int}{m n:Nat}(hx:gC x a m)(hy:gC y b n)(hm:m≤274877906944)(hn:n≤274877906944):jP Tryz.prog 142 [(jO x),(jO y)] (jO (kH (a*b))):=by
 obtain ⟨rfl,hx'⟩:=hx;obtain ⟨rfl,hy'⟩:=hy
 exact t_mul x y (by omega) (by omega)
theorem s_compare{x y:kU}{a b:Int}{m n:Nat}(hx:gC x a m)(hy:gC y b n)(hm:m≤274877906944)(hn:n≤274877906944):jP Tryz.prog 137 [(jO x),(jO y)] (.val (.int .i64 (vB a b))):=by
 obtain ⟨rfl,hx'⟩:=hx;obtain ⟨rfl,hy'⟩:=hy
 exact t_compareI x y (by omega) (by omega)
theorem s_gcd{x y:kU}{a b:Int}{m n:Nat}(hx:gC x a m)(hy:gC y b n)(hm:m≤274877906944)(hn:n≤274877906944):jP Tryz.prog 138 [(jO x),(jO y)] (jO (kH ((Int.gcd a b:Nat):Int))):=by
 obtain ⟨rfl,hx'⟩:=hx;obtain ⟨rfl,hy'⟩:=hy
 exact t_gcdI x y (by omega) (by omega)
theorem s_divide{x y:kU}{a b:Int}{m n:Nat}(hx:gC x a m)(hy:gC y b n)(hm:m≤274877906944)(hn:n≤274877906944)(hb:b≠0):jP Tryz.prog 227 [(jO x),(jO y)] (.tup [(jO (kH (a.fdiv b))),(jO (kH (a.fmod b))),(.val (.int .i64 0))]):=by
 obtain ⟨rfl,hx'⟩:=hx;obtain ⟨rfl,hy'⟩:=hy
 exact t_divideI x y (by omega) (by omega) hb
theorem rs_neg{x:kU}{a:Int}{m:Nat}(hx:gC x a m)(hm:m≤274877906944):jP Tryz.prog 145 [(jO x)] (jO (kH (-a))):=by
 obtain ⟨rfl,hx'⟩:=hx
 exact r_neg x (by omega)
theorem rs_sign{x:kU}{a:Int}{m:Nat}(hx:gC x a m)(hm:m≤274877906944):jP Tryz.prog 83 [(jO x)] (.val (.int .i64 (qZ a))):=by
 obtain ⟨rfl,hx'⟩:=hx
 exact r_sign x (by omega)
theorem rs_add{x y:kU}{a b:Int}{m n:Nat}(hx:gC x a m)(hy:gC y b n)(hm:m≤274877906944)(hn:n≤274877906944):jP Tryz.prog 96 [(jO x),(jO y)] (jO (kH (a+b))):=by
 obtain ⟨rfl,hx'⟩:=hx;obtain ⟨rfl,hy'⟩:=hy
 exact r_add x y (by omega) (by omega)
theorem rs_mul{x y:kU}{a b:Int}{m n:Nat}(hx:gC x a m)(hy:gC y b n)(hm:m≤274877906944)(hn:n≤274877906944):jP Tryz.prog 87 [(jO x),(jO y)] (jO (kH (a*b))):=by
 obtain ⟨rfl,hx'⟩:=hx;obtain ⟨rfl,hy'⟩:=hy
 exact r_mul x y (by omega) (by omega)
theorem rs_compare{x y:kU}{a b:Int}{m n:Nat}(hx:gC x a m)(hy:gC y b n)(hm:m≤274877906944)(hn:n≤274877906944):jP Tryz.prog 117 [(jO x),(jO y)] (.val (.int .i64 (vB a b))):=by
 obtain ⟨rfl,hx'⟩:=hx;obtain ⟨rfl,hy'⟩:=hy
 exact r_compare x y (by omega) (by omega)
theorem rs_gcd{x y:kU}{a b:Int}{m n:Nat}(hx:gC x a m)(hy:gC y b n)(hm:m≤274877906944)(hn:n≤274877906944):jP Tryz.prog 118 [(jO x),(jO y)] (jO (kH ((Int.gcd a b:Nat):Int))):=by
 obtain ⟨rfl,hx'⟩:=hx;obtain ⟨rfl,hy'⟩:=hy
 exact r_gcd x y (by omega) (by omega)
theorem rs_divide{x y:kU}{a b:Int}{m n:Nat}(hx:gC x a m)(hy:gC y b n)(hm:m≤274877906944)(hn:n≤274877906944)(hb:b≠0):jP Tryz.prog 146 [(jO x),(jO y)] (.tup [(jO (kH (a.fdiv b))),(jO (kH (a.fmod b))),(.val (.int .i64 0))]):=by
 obtain ⟨rfl,hx'⟩:=hx;obtain ⟨rfl,hy'⟩:=hy
 exact r_divide x y (by omega) (by omega) hb
theorem cb78:callB Tryz.prog 78=true:=by kernel_rfl
theorem cb79:callB Tryz.prog 79=true:=by kernel_rfl
theorem cb80:callB Tryz.prog 80=true:=by kernel_rfl
theorem cb81:callB Tryz.prog 81=true:=by kernel_rfl
theorem cb82:callB Tryz.prog 82=true:=by kernel_rfl
theorem cb90:callB Tryz.prog 90=true:=by kernel_rfl
theorem cb105:callB Tryz.prog 105=true:=by kernel_rfl
theorem cb140:callB Tryz.prog 140=true:=by kernel_rfl
theorem cb141:callB Tryz.prog 141=true:=by kernel_rfl
theorem cb143:callB Tryz.prog 143=true:=by kernel_rfl
theorem cb224:callB Tryz.prog 224=true:=by kernel_rfl
theorem cb261:callB Tryz.prog 261=true:=by kernel_rfl
theorem zG:xP Tryz.prog 45 0=some 0:=by kernel_rfl
theorem xE:xP Tryz.prog 45 1=some 2:=by kernel_rfl
theorem ft45_0:bZ Tryz.prog 45 0=some (0,43):=by kernel_rfl
theorem pl45:eB Tryz.prog 45=some [(0,2),(2,2)]:=by kernel_rfl
theorem jT:qO Tryz.prog 45=some (true,4):=by kernel_rfl
theorem uG:xX Tryz.prog 45=some [.bool false,.slice none 0 0,.bool false,.slice none 0 0]:=by kernel_rfl
theorem uQ:aN [.bool false,.slice none 0 0,.bool false,.slice none 0 0] [.val (.bool false),.sl 140 1 [],.val (.bool false),.sl 140 1 []]:=by simp [aN,Value.oneCell']
theorem cM(num den:kU)(a b:Int)(aP:gC num a 68719476736)(eY:gC den b 68719476736)(hb:b≠0):jP Tryz.prog 143 [(jO num),(jO den)] (jK (jQ (Rat.divInt a b))):=by
 refine jI Tryz.func143 rfl cb143 rfl ?_
 show qJ _ _ _ _ ⟨[(0,(.d (jO num))),(1,(.d (jO den)))],[]⟩
 refine jB<|kx [(2,(.ref 0 0)),(3,(.ref 1 0)),(4,(.ref 2 0))] [(0,some (bx (jO num))),(1,some (bx (jO den))),(2,some (bx (jK qH)))] (zN (vW 0)<|zN (vW 1)<|zN (uF 2 uG uQ)<|zZ) ?_
 refine jB<|jB<|kx [(8,(vb (decide ((qZ b)<0))))] [] (zR (kM jY)<|zE (jX (s_sign eY (by decide)))<|zE xG<|zZ) ?_
 refine jF (b:=decide ((qZ b)<0)) rfl (fun h1=>?_) (fun h1=>?_)
 ·replace h1:=uW h1
  have hlt:=signI_lt.1 h1
  have hb2:-b≠0:=by omega
  refine kd [] [(0,some (bx (jO (kH (-a))))),(1,some (bx (jO (kH (-b)))))] mo (wR (kM jY)<|wE (jX (s_neg aP (by decide)))<|wR (kM jY)<|wE (jX (s_neg eY (by decide)))<|wT (qK jY)<|wT (qK jY)<|wZ) ?_
  refine jB<|kx [(5,(.ref 3 0))] [(3,some (bx (jO (kH ((Int.gcd (-a) (-b):Nat):Int)))))] (zR (kM jY)<|zR (kM jY)<|zE (jX (s_gcd (cF aP) (cF eY) (by decide) (by decide)))<|zN (uF 3 yN yL)<|zT (qK jY)<|zZ) ?_
  refine jB<|kx [] [(0,some (bx (jO (kH ((-a).fdiv (((Int.gcd (-a) (-b):Nat):Int)))))))] (zR (kM jY)<|zR (kM jY)<|zE (jX (s_divide (cF aP) (dB (k:=68719476736) (cF aP) (cF eY) (by decide)) (by decide) (by decide) (gcd_ne (by omega))))<|zM<|zE xD<|zE xD<|zE xD<|zT (qK jY)<|zZ) ?_
  refine jB<|kx [] [(1,some (bx (jO (kH ((-b).fdiv (((Int.gcd (-a) (-b):Nat):Int)))))))] (zR (kM jY)<|zR (kM jY)<|zE (jX (s_divide (cF eY) (dB (k:=68719476736) (cF aP) (cF eY) (by decide)) (by decide) (by decide) (gcd_ne (by omega))))<|zM<|zE xD<|zE xD<|zE xD<|zT (qK jY)<|zZ) ?_
  refine jB<|kx [] [(2,some (bx (jK (jN.mk (kH ((-a).fdiv (((Int.gcd (-a) (-b):Nat):Int)))) (kH ((-b).fdiv (((Int.gcd (-a) (-b):Nat):Int))))))))] (zR (kM jY)<|zR (kM jY)<|zE (bY pl45 uG uQ)<|zT (qK jT)<|zZ) ?_
  refine jE ⟨_,(kN (cs:=(bx (jK (jN.mk (kH ((-a).fdiv (((Int.gcd (-a) (-b):Nat):Int)))) (kH ((-b).fdiv (((Int.gcd (-a) (-b):Nat):Int)))))))) (d:=(jK (jN.mk (kH ((-a).fdiv (((Int.gcd (-a) (-b):Nat):Int)))) (kH ((-b).fdiv (((Int.gcd (-a) (-b):Nat):Int))))))) rfl rfl jT rfl rfl .nil),?_⟩
  rw[red_neg hlt];rfl
 ·replace h1:=uX h1
  have hge:¬ b<0:=fun hh=>h1 (signI_lt.2 hh)
  refine jD<|jB<|kx [(5,(.ref 4 0))] [(4,some (bx (jO (kH ((Int.gcd a b:Nat):Int)))))] (zR (kM jY)<|zR (kM jY)<|zE (jX (s_gcd aP eY (by decide) (by decide)))<|zN (uF 4 yN yL)<|zT (qK jY)<|zZ) ?_
  refine jB<|kx [] [(0,some (bx (jO (kH (a.fdiv (((Int.gcd a b:Nat):Int)))))))] (zR (kM jY)<|zR (kM jY)<|zE (jX (s_divide aP (dB (k:=68719476736) aP eY (by decide)) (by decide) (by decide) (gcd_ne (by omega))))<|zM<|zE xD<|zE xD<|zE xD<|zT (qK jY)<|zZ) ?_
  refine jB<|kx [] [(1,some (bx (jO (kH (b.fdiv (((Int.gcd a b:Nat):Int)))))))] (zR (kM jY)<|zR (kM jY)<|zE (jX (s_divide eY (dB (k:=68719476736) aP eY (by decide)) (by decide) (by decide) (gcd_ne (by omega))))<|zM<|zE xD<|zE xD<|zE xD<|zT (qK jY)<|zZ) ?_
  refine jB<|kx [] [(2,some (bx (jK (jN.mk (kH (a.fdiv (((Int.gcd a b:Nat):Int)))) (kH (b.fdiv (((Int.gcd a b:Nat):Int))))))))] (zR (kM jY)<|zR (kM jY)<|zE (bY pl45 uG uQ)<|zT (qK jT)<|zZ) ?_
  refine jE ⟨_,(kN (cs:=(bx (jK (jN.mk (kH (a.fdiv (((Int.gcd a b:Nat):Int)))) (kH (b.fdiv (((Int.gcd a b:Nat):Int)))))))) (d:=(jK (jN.mk (kH (a.fdiv (((Int.gcd a b:Nat):Int)))) (kH (b.fdiv (((Int.gcd a b:Nat):Int))))))) rfl rfl jT rfl rfl .nil),?_⟩
  rw[red_pos hge hb];rfl
theorem f_whole(n:Int)(hlo:-9223372036854775808≤n)(hhi:n≤9223372036854775807):jP Tryz.prog 105 [(.val (.int .i64 (n)))] (jK (jQ ((n:Int):Rat))):=by
 refine jI Tryz.func105 rfl cb105 rfl ?_
 show qJ _ _ _ _ ⟨[(0,(vi n))],[]⟩
 refine jB<|kx [(2,(.ref 0 0))] [(0,some (bx (jK qH)))] (zN (uF 0 uG uQ)<|zZ) ?_
 refine jB<|kx [] [(0,some (bx (jK (jN.mk (kH n) (kH 1)))))] (zM<|zE (jX (t_of n (by omega) (by omega)))<|zE (jX (t_of 1 (by decide) (by decide)))<|zE (bY pl45 uG uQ)<|zT (qK jT)<|zZ) ?_
 refine jE ⟨_,(kN (cs:=(bx (jK (jN.mk (kH n) (kH 1))))) (d:=(jK (jN.mk (kH n) (kH 1)))) rfl rfl jT rfl rfl .nil),?_⟩
 rfl
theorem cK(x:jN)(p:Rat)(hx:mI x p 17179869184):jP Tryz.prog 78 [(jK x)] (.val (.bool ((kL x)))):=by
 refine jI Tryz.func78 rfl cb78 rfl ?_
 show qJ _ _ _ _ ⟨[(0,(.d (jK x)))],[]⟩
 refine jB<|kx [(1,(.ref 0 0))] [(0,some (bx (jK x)))] (zN (vW 0)<|zM<|zZ) ?_
 refine jB<|jB<|kx [(18,(vb ((!(uP x.num)||!(uP x.den))||decide ((qZ (kA x.den))≤0))))] [] ?_ ?_
 ·refine zE (qE zG)<|zR (kM jY)<|zE (jX (t_valid x.num (Nat.le_trans (gA hx.n1).l (by decide))))<|zE nY<|zE (oV (vb (!(uP x.num))) (kR (by kernel_rfl)))<|?_
  rcases hb1:(!(uP x.num)) with _ | _
  ·refine zE (qE xE)<|zR (kM jY)<|zE (jX (t_valid x.den (Nat.le_trans (gA hx.n2).l (by decide))))<|zE nY<|zE cG<|zE (oV (vb (false||!(uP x.den))) (kR (by kernel_rfl)))<|?_
   rcases hb2:(false||!(uP x.den)) with _ | _
   ·exact zE (qE xE)<|zR (kM jY)<|zE (jX (s_sign (gA hx.n2) (by decide)))<|zE oLe<|zE cG<|zZ
   ·exact zK<|zK<|zK<|zK<|zE xA<|zZ
  ·exact zK<|zK<|zK<|zK<|zE xA<|zM<|zK<|zK<|zK<|zK<|zE xA<|zZ
 refine jF rfl (fun h3=>?_) (fun h3=>?_)
 ·refine jB<|kx [(2,(vb false))] [] (zM<|zZ) ?_
  refine jE ⟨_,(.tmp (d:=(.val (.bool (false)))) rfl .nil),?_⟩
  rw[validR_no h3];rfl
 ·refine jD<|jB<|kx [(2,(vb ((vB (((Int.gcd (kA x.num) (kA x.den):Nat):Int)) 1) == 0)))] [] (zE (qE zG)<|zR (kM jY)<|zE (qE xE)<|zR (kM jY)<|zE (jX (s_gcd (gA hx.n1) (gA hx.n2) (by decide) (by decide)))<|zE (jX (t_of 1 (by decide) (by decide)))<|zE (jX (s_compare (dB (k:=17179869184) (gA hx.n1) (gA hx.n2) (by decide)) (bJ (z:=1) (by decide)) (by decide) (by decide)))<|zE gD<|zM<|zZ) ?_
  refine jE ⟨_,(.tmp (d:=(.val (.bool (((vB (((Int.gcd (kA x.num) (kA x.den):Nat):Int)) 1) == 0))))) rfl .nil),?_⟩
  rw[validR_yes h3];rfl
theorem f_copied(x:jN)(p:Rat)(hx:mI x p 17179869184):jP Tryz.prog 224 [(jK x)] (jK (jN.mk (kH (-(-kA x.num))) (kH (-(-kA x.den))))):=by
 refine jI Tryz.func224 rfl cb224 rfl ?_
 show qJ _ _ _ _ ⟨[(0,(.d (jK x)))],[]⟩
 refine jB<|kx [(1,(.ref 0 0)),(2,(.ref 1 0))] [(0,some (bx (jK x))),(1,some (bx (jK qH)))] (zN (vW 0)<|zN (uF 1 uG uQ)<|zZ) ?_
 refine jB<|kd [] [(1,some (bx (jK (jN.mk (kH (-(-(kA x.num)))) (kH (-(-(kA x.den))))))))] mo (wE (qE zG)<|wR (kM jY)<|wE (jX (s_neg (gA hx.n1) (by decide)))<|wE (jX (s_neg (cF (gA hx.n1)) (by decide)))<|wE (qE xE)<|wR (kM jY)<|wE (jX (s_neg (gA hx.n2) (by decide)))<|wE (jX (s_neg (cF (gA hx.n2)) (by decide)))<|wE (bY pl45 uG uQ)<|wT (qK jT)<|wZ) ?_
 refine jE ⟨_,(kN (cs:=(bx (jK (jN.mk (kH (-(-(kA x.num)))) (kH (-(-(kA x.den)))))))) (d:=(jK (jN.mk (kH (-(-(kA x.num)))) (kH (-(-(kA x.den))))))) rfl rfl jT rfl rfl .nil),?_⟩
 rfl
theorem dG(x:jN)(p:Rat)(hx:mI x p 17179869184):jP Tryz.prog 140 [(jK x)] (jK (jQ p)):=by
 refine jI Tryz.func140 rfl cb140 rfl ?_
 show qJ _ _ _ _ ⟨[(0,(.d (jK x)))],[]⟩
 refine jB<|kx [(1,(.ref 0 0)),(2,(.ref 1 0))] [(0,some (bx (jK x))),(1,some (bx (jK qH)))] (zN (vW 0)<|zN (uF 1 uG uQ)<|zZ) ?_
 refine jB<|jB<|kx [(4,(vb (kL x)))] [] (zR (kM jT)<|zE (jX (cK x p hx))<|zZ) ?_
 refine jF (b:=(kL x)) rfl (fun h1=>?_) (fun h1=>?_)
 ·refine jB<|kx [] [(1,some (bx (jK (jN.mk (kH (-(-kA x.num))) (kH (-(-kA x.den)))))))] (zR (kM jT)<|zE (jX (f_copied x p hx))<|zT (qK jT)<|zZ) ?_
  refine jE ⟨_,(kN (cs:=(bx (jK (jN.mk (kH (-(-kA x.num))) (kH (-(-kA x.den))))))) (d:=(jK (jN.mk (kH (-(-kA x.num))) (kH (-(-kA x.den)))))) rfl rfl jT rfl rfl .nil),?_⟩
  rw[← hx.v,← copied_eq h1];rfl
 ·refine jD<|jB<|kx [] [(1,some (bx (jK (jQ ((0:Int):Rat)))))] (zE (jX (f_whole 0 (by decide) (by decide)))<|zT (qK jT)<|zZ) ?_
  refine jE ⟨_,(kN (cs:=(bx (jK (jQ ((0:Int):Rat))))) (d:=(jK (jQ ((0:Int):Rat)))) rfl rfl jT rfl rfl .nil),?_⟩
  rw[← hx.v,toQ_bad h1];rfl
theorem f_sign(x:jN)(p:Rat)(hx:mI x p 17179869184):jP Tryz.prog 79 [(jK x)] (.val (.int .i64 ((gI p)))):=by
 refine jI Tryz.func79 rfl cb79 rfl ?_
 show qJ _ _ _ _ ⟨[(0,(.d (jK x)))],[]⟩
 refine jB<|kx [(1,(.ref 0 0))] [(0,some (bx (jK x)))] (zN (vW 0)<|zM<|zZ) ?_
 refine jB<|kx [(2,(vi (qZ p.num)))] [] (zR (kM jT)<|zE (jX (dG x p hx))<|zE (oFv ft45_0 jY)<|zE (jX (s_sign (uK hx.ql) (by decide)))<|zM<|zZ) ?_
 refine jE ⟨_,(.tmp (d:=(.val (.int .i64 ((qZ p.num))))) rfl .nil),?_⟩
 rfl
theorem f_neg(x:jN)(p:Rat)(hx:mI x p 17179869184):jP Tryz.prog 141 [(jK x)] (jK (jQ (-p))):=by
 refine jI Tryz.func141 rfl cb141 rfl ?_
 show qJ _ _ _ _ ⟨[(0,(.d (jK x)))],[]⟩
 refine jB<|kx [(1,(.ref 0 0)),(2,(.ref 1 0))] [(0,some (bx (jK x))),(1,some (bx (jK qH)))] (zN (vW 0)<|zN (uF 1 uG uQ)<|zZ) ?_
 refine jB<|kx [] [(0,some (bx (jK (jQ p))))] (zR (kM jT)<|zE (jX (dG x p hx))<|zT (qK jT)<|zZ) ?_
 refine jB<|kd [] [(1,some (bx (jK (jN.mk (kH (-p.num)) ((jQ p).den)))))] mo (wE (qE zG)<|wR (kM jY)<|wE (jX (s_neg (uK hx.ql) (by decide)))<|wE (qE xE)<|wR (kM jY)<|wE (bY pl45 uG uQ)<|wT (qK jT)<|wZ) ?_
 refine jE ⟨_,(kN (cs:=(bx (jK (jN.mk (kH (-p.num)) ((jQ p).den))))) (d:=(jK (jN.mk (kH (-p.num)) ((jQ p).den)))) rfl rfl jT rfl rfl .nil),?_⟩
 rfl
theorem f_add(x:jN)(y:jN)(p:Rat)(q:Rat)(hx:mI x p 17179869184)(hy:mI y q 17179869184):jP Tryz.prog 90 [(jK x),(jK y)] (jK (jQ (p+q))):=by
 refine jI Tryz.func90 rfl cb90 rfl ?_
 show qJ _ _ _ _ ⟨[(0,(.d (jK x))),(1,(.d (jK y)))],[]⟩
 refine jB<|kx [(2,(.ref 0 0)),(3,(.ref 1 0)),(4,(.ref 2 0))] [(0,some (bx (jK x))),(1,some (bx (jK y))),(2,some (bx (jK qH)))] (zN (vW 0)<|zN (vW 1)<|zN (uF 2 uG uQ)<|zZ) ?_
 refine jB<|kd [] [(0,some (bx (jK (jQ p)))),(1,some (bx (jK (jQ q))))] mo (wR (kM jT)<|wE (jX (dG x p hx))<|wR (kM jT)<|wE (jX (dG y q hy))<|wT (qK jT)<|wT (qK jT)<|wZ) ?_
 refine jB<|kd [] [(2,some (bx (jK (jQ (Rat.divInt ((p.num*(q.den:Int))+(q.num*(p.den:Int))) ((p.den:Int)*(q.den:Int)))))))] mo (wE (qE zG)<|wR (kM jY)<|wE (qE xE)<|wR (kM jY)<|wE (jX (s_mul (uK hx.ql) (uC hy.ql) (by decide) (by decide)))<|wE (qE zG)<|wR (kM jY)<|wE (qE xE)<|wR (kM jY)<|wE (jX (s_mul (uK hy.ql) (uC hx.ql) (by decide) (by decide)))<|wE (jX (s_add (yO (k:=34359738368) (uK hx.ql) (uC hy.ql) (by decide)) (yO (k:=34359738368) (uK hy.ql) (uC hx.ql) (by decide)) (by decide) (by decide)))<|wE (qE xE)<|wR (kM jY)<|wE (qE xE)<|wR (kM jY)<|wE (jX (s_mul (uC hx.ql) (uC hy.ql) (by decide) (by decide)))<|wE (jX (cM (kH ((p.num*(q.den:Int))+(q.num*(p.den:Int)))) (kH ((p.den:Int)*(q.den:Int))) ((p.num*(q.den:Int))+(q.num*(p.den:Int))) ((p.den:Int)*(q.den:Int)) (nH (iok_add (k:=34359738369) (yO (k:=34359738368) (uK hx.ql) (uC hy.ql) (by decide)) (yO (k:=34359738368) (uK hy.ql) (uC hx.ql) (by decide)) (by decide)) (by decide)) (nH (yO (k:=34359738368) (uC hx.ql) (uC hy.ql) (by decide)) (by decide)) (mul_ne (iI _) (iI _))))<|wT (qK jT)<|wZ) ?_
 refine jE ⟨_,(kN (cs:=(bx (jK (jQ (Rat.divInt ((p.num*(q.den:Int))+(q.num*(p.den:Int))) ((p.den:Int)*(q.den:Int))))))) (d:=(jK (jQ (Rat.divInt ((p.num*(q.den:Int))+(q.num*(p.den:Int))) ((p.den:Int)*(q.den:Int)))))) rfl rfl jT rfl rfl .nil),?_⟩
 rw[add_divInt];rfl
theorem f_sub(x:jN)(y:jN)(p:Rat)(q:Rat)(hx:mI x p 17179869184)(hy:mI y q 17179869184):jP Tryz.prog 80 [(jK x),(jK y)] (jK (jQ (p-q))):=by
 refine jI Tryz.func80 rfl cb80 rfl ?_
 show qJ _ _ _ _ ⟨[(0,(.d (jK x))),(1,(.d (jK y)))],[]⟩
 refine jB<|kx [(2,(.ref 0 0)),(3,(.ref 1 0)),(4,(.ref 2 0))] [(0,some (bx (jK x))),(1,some (bx (jK y))),(2,some (bx (jK qH)))] (zN (vW 0)<|zN (vW 1)<|zN (uF 2 uG uQ)<|zZ) ?_
 refine jB<|kd [] [(2,some (bx (jK (jQ (p+(-q))))))] mo (wR (kM jT)<|wR (kM jT)<|wE (jX (f_neg y q hy))<|wE (jX (f_add x (jQ (-q)) p (-q) hx (kG (ql_neg hy.ql))))<|wT (qK jT)<|wZ) ?_
 refine jE ⟨_,(kN (cs:=(bx (jK (jQ (p+(-q)))))) (d:=(jK (jQ (p+(-q))))) rfl rfl jT rfl rfl .nil),?_⟩
 rw[Rat.sub_eq_add_neg];rfl
theorem eN(x:jN)(y:jN)(p:Rat)(q:Rat)(hx:mI x p 17179869184)(hy:mI y q 17179869184):jP Tryz.prog 82 [(jK x),(jK y)] (jK (jQ (p*q))):=by
 refine jI Tryz.func82 rfl cb82 rfl ?_
 show qJ _ _ _ _ ⟨[(0,(.d (jK x))),(1,(.d (jK y)))],[]⟩
 refine jB<|kx [(2,(.ref 0 0)),(3,(.ref 1 0)),(4,(.ref 2 0))] [(0,some (bx (jK x))),(1,some (bx (jK y))),(2,some (bx (jK qH)))] (zN (vW 0)<|zN (vW 1)<|zN (uF 2 uG uQ)<|zZ) ?_
 refine jB<|kd [] [(0,some (bx (jK (jQ p)))),(1,some (bx (jK (jQ q))))] mo (wR (kM jT)<|wE (jX (dG x p hx))<|wR (kM jT)<|wE (jX (dG y q hy))<|wT (qK jT)<|wT (qK jT)<|wZ) ?_
 refine jB<|kd [] [(2,some (bx (jK (jQ (Rat.divInt (p.num*q.num) ((p.den:Int)*(q.den:Int)))))))] mo (wE (qE zG)<|wR (kM jY)<|wE (qE zG)<|wR (kM jY)<|wE (jX (s_mul (uK hx.ql) (uK hy.ql) (by decide) (by decide)))<|wE (qE xE)<|wR (kM jY)<|wE (qE xE)<|wR (kM jY)<|wE (jX (s_mul (uC hx.ql) (uC hy.ql) (by decide) (by decide)))<|wE (jX (cM (kH (p.num*q.num)) (kH ((p.den:Int)*(q.den:Int))) (p.num*q.num) ((p.den:Int)*(q.den:Int)) (nH (yO (k:=34359738368) (uK hx.ql) (uK hy.ql) (by decide)) (by decide)) (nH (yO (k:=34359738368) (uC hx.ql) (uC hy.ql) (by decide)) (by decide)) (mul_ne (iI _) (iI _))))<|wT (qK jT)<|wZ) ?_
 refine jE ⟨_,(kN (cs:=(bx (jK (jQ (Rat.divInt (p.num*q.num) ((p.den:Int)*(q.den:Int))))))) (d:=(jK (jQ (Rat.divInt (p.num*q.num) ((p.den:Int)*(q.den:Int)))))) rfl rfl jT rfl rfl .nil),?_⟩
 rw[mul_divInt];rfl
theorem f_divide(x:jN)(y:jN)(p:Rat)(q:Rat)(hx:mI x p 17179869184)(hy:mI y q 17179869184):jP Tryz.prog 261 [(jK x),(jK y)] (.tup [(jK (divR p q)),(.val (.int .i64 ((divC q))))]):=by
 refine jI Tryz.func261 rfl cb261 rfl ?_
 show qJ _ _ _ _ ⟨[(0,(.d (jK x))),(1,(.d (jK y)))],[]⟩
 refine jB<|kx [(2,(.ref 0 0)),(3,(.ref 1 0)),(4,(.ref 2 0))] [(0,some (bx (jK x))),(1,some (bx (jK y))),(2,some (bx (jK qH)))] (zN (vW 0)<|zN (vW 1)<|zN (uF 2 uG uQ)<|zM<|zZ) ?_
 refine jB<|kd [] [(0,some (bx (jK (jQ p)))),(1,some (bx (jK (jQ q))))] mo (wR (kM jT)<|wE (jX (dG x p hx))<|wR (kM jT)<|wE (jX (dG y q hy))<|wT (qK jT)<|wT (qK jT)<|wZ) ?_
 refine jB<|jB<|kx [(13,(vb ((qZ q.num) == 0)))] [] (zE (qE zG)<|zR (kM jY)<|zE (jX (s_sign (uK hy.ql) (by decide)))<|zE gD<|zZ) ?_
 refine jF (b:=((qZ q.num) == 0)) rfl (fun h1=>?_) (fun h1=>?_)
 ·replace h1:=eq_of_beq h1
  have hq0:=fK.1 h1
  refine jB<|kx [(5,(jR 14))] [(2,some (bx (jK qH)))] (zE (bY pl45 uG uQ)<|zT (qK jT)<|zM<|zZ) ?_
  refine jE ⟨_,(kN (cs:=(bx (jK qH))) (d:=(jK qH)) rfl rfl jT rfl rfl (.tmp (d:=(.val (.int .i64 (14)))) rfl .nil)),?_⟩
  rw[divR_zero hq0,divC_zero hq0];rfl
 ·replace h1:=ne_of_beq_false h1
  have hq0:q≠0:=fun hh=>h1 (fK.2 hh)
  refine jD<|jB<|kd [(5,(jR 0))] [(2,some (bx (jK (jQ (Rat.divInt (p.num*(q.den:Int)) ((p.den:Int)*q.num))))))] mo (wE (qE zG)<|wR (kM jY)<|wE (qE xE)<|wR (kM jY)<|wE (jX (s_mul (uK hx.ql) (uC hy.ql) (by decide) (by decide)))<|wE (qE xE)<|wR (kM jY)<|wE (qE zG)<|wR (kM jY)<|wE (jX (s_mul (uC hx.ql) (uK hy.ql) (by decide) (by decide)))<|wE (jX (cM (kH (p.num*(q.den:Int))) (kH ((p.den:Int)*q.num)) (p.num*(q.den:Int)) ((p.den:Int)*q.num) (nH (yO (k:=34359738368) (uK hx.ql) (uC hy.ql) (by decide)) (by decide)) (nH (yO (k:=34359738368) (uC hx.ql) (uK hy.ql) (by decide)) (by decide)) (mul_ne (iI _) (num_ne hq0))))<|wT (qK jT)<|wM<|wZ) ?_
  refine jE ⟨_,(kN (cs:=(bx (jK (jQ (Rat.divInt (p.num*(q.den:Int)) ((p.den:Int)*q.num)))))) (d:=(jK (jQ (Rat.divInt (p.num*(q.den:Int)) ((p.den:Int)*q.num))))) rfl rfl jT rfl rfl (.tmp (d:=(.val (.int .i64 (0)))) rfl .nil)),?_⟩
  rw[divR_ne hq0,divC_ne hq0,div_divInt];rfl
theorem cQ(x:jN)(y:jN)(p:Rat)(q:Rat)(hx:mI x p 17179869184)(hy:mI y q 17179869184):jP Tryz.prog 81 [(jK x),(jK y)] (.val (.int .i64 ((yW p q)))):=by
 refine jI Tryz.func81 rfl cb81 rfl ?_
 show qJ _ _ _ _ ⟨[(0,(.d (jK x))),(1,(.d (jK y)))],[]⟩
 refine jB<|kx [(2,(.ref 0 0)),(3,(.ref 1 0))] [(0,some (bx (jK x))),(1,some (bx (jK y)))] (zN (vW 0)<|zN (vW 1)<|zM<|zZ) ?_
 refine jB<|kd [] [(0,some (bx (jK (jQ p)))),(1,some (bx (jK (jQ q))))] mo (wR (kM jT)<|wE (jX (dG x p hx))<|wR (kM jT)<|wE (jX (dG y q hy))<|wT (qK jT)<|wT (qK jT)<|wZ) ?_
 refine jB<|kd [(4,(vi (vB (p.num*(q.den:Int)) (q.num*(p.den:Int)))))] [] mo (wE (qE zG)<|wR (kM jY)<|wE (qE xE)<|wR (kM jY)<|wE (jX (s_mul (uK hx.ql) (uC hy.ql) (by decide) (by decide)))<|wE (qE zG)<|wR (kM jY)<|wE (qE xE)<|wR (kM jY)<|wE (jX (s_mul (uK hy.ql) (uC hx.ql) (by decide) (by decide)))<|wE (jX (s_compare (yO (k:=34359738368) (uK hx.ql) (uC hy.ql) (by decide)) (yO (k:=34359738368) (uK hy.ql) (uC hx.ql) (by decide)) (by decide) (by decide)))<|wM<|wZ) ?_
 refine jE ⟨_,(.tmp (d:=(.val (.int .i64 ((vB (p.num*(q.den:Int)) (q.num*(p.den:Int))))))) rfl .nil),?_⟩
 rw[← cmpQ_cross];rfl
theorem cb28:callB Tryz.prog 28=true:=by kernel_rfl
theorem cb29:callB Tryz.prog 29=true:=by kernel_rfl
theorem cb30:callB Tryz.prog 30=true:=by kernel_rfl
theorem cb31:callB Tryz.prog 31=true:=by kernel_rfl
theorem cb35:callB Tryz.prog 35=true:=by kernel_rfl
theorem cb54:callB Tryz.prog 54=true:=by kernel_rfl
theorem cb56:callB Tryz.prog 56=true:=by kernel_rfl
theorem cb84:callB Tryz.prog 84=true:=by kernel_rfl
theorem cb85:callB Tryz.prog 85=true:=by kernel_rfl
theorem cb86:callB Tryz.prog 86=true:=by kernel_rfl
theorem cb95:callB Tryz.prog 95=true:=by kernel_rfl
theorem g_reduced(num den:kU)(a b:Int)(aP:gC num a 68719476736)(eY:gC den b 68719476736)(hb:b≠0):jP Tryz.prog 86 [(jO num),(jO den)] (jK (jQ (Rat.divInt a b))):=by
 refine jI Tryz.func86 rfl cb86 rfl ?_
 show qJ _ _ _ _ ⟨[(0,(.d (jO num))),(1,(.d (jO den)))],[]⟩
 refine jB<|kx [(2,(.ref 0 0)),(3,(.ref 1 0)),(4,(.ref 2 0))] [(0,some (bx (jO num))),(1,some (bx (jO den))),(2,some (bx (jK qH)))] (zN (vW 0)<|zN (vW 1)<|zN (uF 2 uG uQ)<|zZ) ?_
 refine jB<|kx [(5,(.ref 3 0))] [(3,some (bx (jO (kH ((Int.gcd a b:Nat):Int)))))] (zR (kM jY)<|zR (kM jY)<|zE (jX (rs_gcd aP eY (by decide) (by decide)))<|zN (uF 3 yN yL)<|zT (qK jY)<|zZ) ?_
 refine jB<|jB<|kx [(17,(vb (decide ((qZ b)<0))))] [] (zR (kM jY)<|zE (jX (rs_sign eY (by decide)))<|zE xG<|zZ) ?_
 refine jF (b:=decide ((qZ b)<0)) rfl (fun h1=>?_) (fun h1=>?_)
 ·replace h1:=uW h1
  have hlt:=signI_lt.1 h1
  refine kx [] [(3,some (bx (jO (kH (-(((Int.gcd a b:Nat):Int)))))))] (zR (kM jY)<|zE (jX (rs_neg (dB (k:=68719476736) aP eY (by decide)) (by decide)))<|zT (qK jY)<|zZ) ?_
  refine jB<|kx [(6,(.ref 4 0))] [(4,some (bx (jO (kH (a.fdiv (-(((Int.gcd a b:Nat):Int)))))))),(5,none)] (zR (kM jY)<|zR (kM jY)<|zE (jX (rs_divide aP (cF (dB (k:=68719476736) aP eY (by decide))) (by decide) (by decide) (by have:=gcd_ne (a:=a) hb;omega)))<|zM<|zE xD<|zE xD<|zE xD<|zN (uF 4 yN yL)<|zN (uF 5 yN yL)<|zT (qK jY)<|zT (qK jY)<|zM<|zZ) ?_
  refine jB<|kx [(9,(.ref 6 0))] [(6,some (bx (jO (kH (b.fdiv (-(((Int.gcd a b:Nat):Int)))))))),(7,none)] (zR (kM jY)<|zR (kM jY)<|zE (jX (rs_divide eY (cF (dB (k:=68719476736) aP eY (by decide))) (by decide) (by decide) (by have:=gcd_ne (a:=a) hb;omega)))<|zM<|zE xD<|zE xD<|zE xD<|zN (uF 6 yN yL)<|zN (uF 7 yN yL)<|zT (qK jY)<|zT (qK jY)<|zM<|zZ) ?_
  refine jB<|kx [] [(2,some (bx (jK (jN.mk (kH (a.fdiv (-(((Int.gcd a b:Nat):Int))))) (kH (b.fdiv (-(((Int.gcd a b:Nat):Int)))))))))] (zR (kM jY)<|zR (kM jY)<|zE (bY pl45 uG uQ)<|zT (qK jT)<|zZ) ?_
  refine jE ⟨_,(kN (cs:=(bx (jK (jN.mk (kH (a.fdiv (-(((Int.gcd a b:Nat):Int))))) (kH (b.fdiv (-(((Int.gcd a b:Nat):Int))))))))) (d:=(jK (jN.mk (kH (a.fdiv (-(((Int.gcd a b:Nat):Int))))) (kH (b.fdiv (-(((Int.gcd a b:Nat):Int)))))))) rfl rfl jT rfl rfl .nil),?_⟩
  rw[← red_neg2 hlt];rfl
 ·replace h1:=uX h1
  have hge:¬ b<0:=fun hh=>h1 (signI_lt.2 hh)
  refine jD<|jB<|kx [(6,(.ref 8 0))] [(8,some (bx (jO (kH (a.fdiv (((Int.gcd a b:Nat):Int))))))),(9,none)] (zR (kM jY)<|zR (kM jY)<|zE (jX (rs_divide aP (dB (k:=68719476736) aP eY (by decide)) (by decide) (by decide) (by have:=gcd_ne (a:=a) hb;omega)))<|zM<|zE xD<|zE xD<|zE xD<|zN (uF 8 yN yL)<|zN (uF 9 yN yL)<|zT (qK jY)<|zT (qK jY)<|zM<|zZ) ?_
  refine jB<|kx [(9,(.ref 10 0))] [(10,some (bx (jO (kH (b.fdiv (((Int.gcd a b:Nat):Int))))))),(11,none)] (zR (kM jY)<|zR (kM jY)<|zE (jX (rs_divide eY (dB (k:=68719476736) aP eY (by decide)) (by decide) (by decide) (by have:=gcd_ne (a:=a) hb;omega)))<|zM<|zE xD<|zE xD<|zE xD<|zN (uF 10 yN yL)<|zN (uF 11 yN yL)<|zT (qK jY)<|zT (qK jY)<|zM<|zZ) ?_
  refine jB<|kx [] [(2,some (bx (jK (jN.mk (kH (a.fdiv (((Int.gcd a b:Nat):Int)))) (kH (b.fdiv (((Int.gcd a b:Nat):Int))))))))] (zR (kM jY)<|zR (kM jY)<|zE (bY pl45 uG uQ)<|zT (qK jT)<|zZ) ?_
  refine jE ⟨_,(kN (cs:=(bx (jK (jN.mk (kH (a.fdiv (((Int.gcd a b:Nat):Int)))) (kH (b.fdiv (((Int.gcd a b:Nat):Int)))))))) (d:=(jK (jN.mk (kH (a.fdiv (((Int.gcd a b:Nat):Int)))) (kH (b.fdiv (((Int.gcd a b:Nat):Int))))))) rfl rfl jT rfl rfl .nil),?_⟩
  rw[red_pos hge hb];rfl
theorem g_whole1(n:Int)(hlo:-9223372036854775808≤n)(hhi:n≤9223372036854775807):jP Tryz.prog 95 [(.val (.int .i64 (n)))] (jO (kH n)):=by
 refine jI Tryz.func95 rfl cb95 rfl ?_
 show qJ _ _ _ _ ⟨[(0,(vi n))],[]⟩
 refine jB<|kx [(2,(.ref 0 0))] [(0,some (bx (jO (kU.mk false []))))] (zN (uF 0 yN yL)<|zZ) ?_
 refine jB<|kx [] [(0,some (bx (jO (kH n))))] (zM<|zE (jX (r_of n (by omega) (by omega)))<|zT (qK jY)<|zZ) ?_
 refine jE ⟨_,(kN (cs:=(bx (jO (kH n)))) (d:=(jO (kH n))) rfl rfl jY rfl rfl .nil),?_⟩
 rfl
theorem eD(n:Int)(hlo:-9223372036854775808≤n)(hhi:n≤9223372036854775807):jP Tryz.prog 56 [(.val (.int .i64 (n)))] (jK (jQ ((n:Int):Rat))):=by
 refine jI Tryz.func56 rfl cb56 rfl ?_
 show qJ _ _ _ _ ⟨[(0,(vi n))],[]⟩
 refine jB<|kx [(2,(.ref 0 0))] [(0,some (bx (jK qH)))] (zN (uF 0 uG uQ)<|zZ) ?_
 refine jB<|kx [] [(0,some (bx (jK (jN.mk (kH n) (kH 1)))))] (zM<|zE (jX (g_whole1 n (by omega) (by omega)))<|zE (jX (g_whole1 1 (by decide) (by decide)))<|zE (bY pl45 uG uQ)<|zT (qK jT)<|zZ) ?_
 refine jE ⟨_,(kN (cs:=(bx (jK (jN.mk (kH n) (kH 1))))) (d:=(jK (jN.mk (kH n) (kH 1)))) rfl rfl jT rfl rfl .nil),?_⟩
 rfl
theorem aA(x:jN)(p:Rat)(hx:mI x p 17179869184):jP Tryz.prog 54 [(jK x)] (.val (.bool ((kL x)))):=by
 refine jI Tryz.func54 rfl cb54 rfl ?_
 show qJ _ _ _ _ ⟨[(0,(.d (jK x)))],[]⟩
 refine jB<|kx [(1,(.ref 0 0))] [(0,some (bx (jK x)))] (zN (vW 0)<|zM<|zZ) ?_
 refine jB<|jB<|kx [(18,(vb ((!(uP x.num)||!(uP x.den))||decide ((qZ (kA x.den))≤0))))] [] ?_ ?_
 ·refine zE (qE zG)<|zR (kM jY)<|zE (jX (r_valid x.num (Nat.le_trans (gA hx.n1).l (by decide))))<|zE nY<|zE (oV (vb (!(uP x.num))) (kR (by kernel_rfl)))<|?_
  rcases hb1:(!(uP x.num)) with _ | _
  ·refine zE (qE xE)<|zR (kM jY)<|zE (jX (r_valid x.den (Nat.le_trans (gA hx.n2).l (by decide))))<|zE nY<|zE cG<|zE (oV (vb (false||!(uP x.den))) (kR (by kernel_rfl)))<|?_
   rcases hb2:(false||!(uP x.den)) with _ | _
   ·exact zE (qE xE)<|zR (kM jY)<|zE (jX (rs_sign (gA hx.n2) (by decide)))<|zE oLe<|zE cG<|zZ
   ·exact zK<|zK<|zK<|zK<|zE xA<|zZ
  ·exact zK<|zK<|zK<|zK<|zE xA<|zM<|zK<|zK<|zK<|zK<|zE xA<|zZ
 refine jF rfl (fun h3=>?_) (fun h3=>?_)
 ·refine jB<|kx [(2,(vb false))] [] (zM<|zZ) ?_
  refine jE ⟨_,(.tmp (d:=(.val (.bool (false)))) rfl .nil),?_⟩
  rw[validR_no h3];rfl
 ·refine jD<|jB<|kx [(2,(vb ((vB (((Int.gcd (kA x.num) (kA x.den):Nat):Int)) 1) == 0)))] [] (zE (qE zG)<|zR (kM jY)<|zE (qE xE)<|zR (kM jY)<|zE (jX (rs_gcd (gA hx.n1) (gA hx.n2) (by decide) (by decide)))<|zE (jX (g_whole1 1 (by decide) (by decide)))<|zE (jX (rs_compare (dB (k:=17179869184) (gA hx.n1) (gA hx.n2) (by decide)) (bJ (z:=1) (by decide)) (by decide) (by decide)))<|zE gD<|zM<|zZ) ?_
  refine jE ⟨_,(.tmp (d:=(.val (.bool (((vB (((Int.gcd (kA x.num) (kA x.den):Nat):Int)) 1) == 0))))) rfl .nil),?_⟩
  rw[validR_yes h3];rfl
theorem g_value(x:jN)(p:Rat)(hx:mI x p 17179869184):jP Tryz.prog 84 [(jK x)] (jK (jQ p)):=by
 refine jI Tryz.func84 rfl cb84 rfl ?_
 show qJ _ _ _ _ ⟨[(0,(.d (jK x)))],[]⟩
 refine jB<|kx [(1,(.ref 0 0)),(2,(.ref 1 0))] [(0,some (bx (jK x))),(1,some (bx (jK qH)))] (zN (vW 0)<|zN (uF 1 uG uQ)<|zZ) ?_
 refine jB<|jB<|kx [(4,(vb (kL x)))] [] (zR (kM jT)<|zE (jX (aA x p hx))<|zZ) ?_
 refine jF (b:=(kL x)) rfl (fun h1=>?_) (fun h1=>?_)
 ·refine jB<|kx [] [(1,some (bx (jK x)))] (zR (kM jT)<|zT (qK jT)<|zZ) ?_
  refine jE ⟨_,(kN (cs:=(bx (jK x))) (d:=(jK x)) rfl rfl jT rfl rfl .nil),?_⟩
  rw[← hx.v,ofQ_toQ h1];rfl
 ·refine jD<|jB<|kx [] [(1,some (bx (jK (jQ ((0:Int):Rat)))))] (zE (jX (eD 0 (by decide) (by decide)))<|zT (qK jT)<|zZ) ?_
  refine jE ⟨_,(kN (cs:=(bx (jK (jQ ((0:Int):Rat))))) (d:=(jK (jQ ((0:Int):Rat)))) rfl rfl jT rfl rfl .nil),?_⟩
  rw[← hx.v,toQ_bad h1];rfl
theorem g_sign(x:jN)(p:Rat)(hx:mI x p 17179869184):jP Tryz.prog 28 [(jK x)] (.val (.int .i64 ((gI p)))):=by
 refine jI Tryz.func28 rfl cb28 rfl ?_
 show qJ _ _ _ _ ⟨[(0,(.d (jK x)))],[]⟩
 refine jB<|kx [(1,(.ref 0 0))] [(0,some (bx (jK x)))] (zN (vW 0)<|zM<|zZ) ?_
 refine jB<|kx [(2,(vi (qZ p.num)))] [] (zR (kM jT)<|zE (jX (g_value x p hx))<|zE (oFv ft45_0 jY)<|zE (jX (rs_sign (uK hx.ql) (by decide)))<|zM<|zZ) ?_
 refine jE ⟨_,(.tmp (d:=(.val (.int .i64 ((qZ p.num))))) rfl .nil),?_⟩
 rfl
theorem g_neg(x:jN)(p:Rat)(hx:mI x p 17179869184):jP Tryz.prog 85 [(jK x)] (jK (jQ (-p))):=by
 refine jI Tryz.func85 rfl cb85 rfl ?_
 show qJ _ _ _ _ ⟨[(0,(.d (jK x)))],[]⟩
 refine jB<|kx [(1,(.ref 0 0)),(2,(.ref 1 0))] [(0,some (bx (jK x))),(1,some (bx (jK qH)))] (zN (vW 0)<|zN (uF 1 uG uQ)<|zZ) ?_
 refine jB<|kx [(3,(.ref 2 0))] [(2,some (bx (jK (jQ p))))] (zR (kM jT)<|zE (jX (g_value x p hx))<|zN (uF 2 uG uQ)<|zT (qK jT)<|zZ) ?_
 refine jB<|kd [] [(1,some (bx (jK (jN.mk (kH (-p.num)) ((jQ p).den)))))] mo (wE (qE zG)<|wR (kM jY)<|wE (jX (rs_neg (uK hx.ql) (by decide)))<|wE (qE xE)<|wR (kM jY)<|wE (bY pl45 uG uQ)<|wT (qK jT)<|wZ) ?_
 refine jE ⟨_,(kN (cs:=(bx (jK (jN.mk (kH (-p.num)) ((jQ p).den))))) (d:=(jK (jN.mk (kH (-p.num)) ((jQ p).den)))) rfl rfl jT rfl rfl .nil),?_⟩
 rfl
theorem g_add(x:jN)(y:jN)(p:Rat)(q:Rat)(hx:mI x p 17179869184)(hy:mI y q 17179869184):jP Tryz.prog 35 [(jK x),(jK y)] (jK (jQ (p+q))):=by
 refine jI Tryz.func35 rfl cb35 rfl ?_
 show qJ _ _ _ _ ⟨[(0,(.d (jK x))),(1,(.d (jK y)))],[]⟩
 refine jB<|kx [(2,(.ref 0 0)),(3,(.ref 1 0)),(4,(.ref 2 0))] [(0,some (bx (jK x))),(1,some (bx (jK y))),(2,some (bx (jK qH)))] (zN (vW 0)<|zN (vW 1)<|zN (uF 2 uG uQ)<|zZ) ?_
 refine jB<|kx [(5,(.ref 3 0))] [(3,some (bx (jK (jQ p))))] (zR (kM jT)<|zE (jX (g_value x p hx))<|zN (uF 3 uG uQ)<|zT (qK jT)<|zZ) ?_
 refine jB<|kx [(6,(.ref 4 0))] [(4,some (bx (jK (jQ q))))] (zR (kM jT)<|zE (jX (g_value y q hy))<|zN (uF 4 uG uQ)<|zT (qK jT)<|zZ) ?_
 refine jB<|kd [] [(2,some (bx (jK (jQ (Rat.divInt ((p.num*(q.den:Int))+(q.num*(p.den:Int))) ((p.den:Int)*(q.den:Int)))))))] mo (wE (qE zG)<|wR (kM jY)<|wE (qE xE)<|wR (kM jY)<|wE (jX (rs_mul (uK hx.ql) (uC hy.ql) (by decide) (by decide)))<|wE (qE zG)<|wR (kM jY)<|wE (qE xE)<|wR (kM jY)<|wE (jX (rs_mul (uK hy.ql) (uC hx.ql) (by decide) (by decide)))<|wE (jX (rs_add (yO (k:=34359738368) (uK hx.ql) (uC hy.ql) (by decide)) (yO (k:=34359738368) (uK hy.ql) (uC hx.ql) (by decide)) (by decide) (by decide)))<|wE (qE xE)<|wR (kM jY)<|wE (qE xE)<|wR (kM jY)<|wE (jX (rs_mul (uC hx.ql) (uC hy.ql) (by decide) (by decide)))<|wE (jX (g_reduced (kH ((p.num*(q.den:Int))+(q.num*(p.den:Int)))) (kH ((p.den:Int)*(q.den:Int))) ((p.num*(q.den:Int))+(q.num*(p.den:Int))) ((p.den:Int)*(q.den:Int)) (nH (iok_add (k:=34359738369) (yO (k:=34359738368) (uK hx.ql) (uC hy.ql) (by decide)) (yO (k:=34359738368) (uK hy.ql) (uC hx.ql) (by decide)) (by decide)) (by decide)) (nH (yO (k:=34359738368) (uC hx.ql) (uC hy.ql) (by decide)) (by decide)) (mul_ne (iI _) (iI _))))<|wT (qK jT)<|wZ) ?_
 refine jE ⟨_,(kN (cs:=(bx (jK (jQ (Rat.divInt ((p.num*(q.den:Int))+(q.num*(p.den:Int))) ((p.den:Int)*(q.den:Int))))))) (d:=(jK (jQ (Rat.divInt ((p.num*(q.den:Int))+(q.num*(p.den:Int))) ((p.den:Int)*(q.den:Int)))))) rfl rfl jT rfl rfl .nil),?_⟩
 rw[add_divInt];rfl
theorem g_sub(x:jN)(y:jN)(p:Rat)(q:Rat)(hx:mI x p 17179869184)(hy:mI y q 17179869184):jP Tryz.prog 29 [(jK x),(jK y)] (jK (jQ (p-q))):=by
 refine jI Tryz.func29 rfl cb29 rfl ?_
 show qJ _ _ _ _ ⟨[(0,(.d (jK x))),(1,(.d (jK y)))],[]⟩
 refine jB<|kx [(2,(.ref 0 0)),(3,(.ref 1 0)),(4,(.ref 2 0))] [(0,some (bx (jK x))),(1,some (bx (jK y))),(2,some (bx (jK qH)))] (zN (vW 0)<|zN (vW 1)<|zN (uF 2 uG uQ)<|zZ) ?_
 refine jB<|kd [] [(2,some (bx (jK (jQ (p+(-q))))))] mo (wR (kM jT)<|wR (kM jT)<|wE (jX (g_neg y q hy))<|wE (jX (g_add x (jQ (-q)) p (-q) hx (kG (ql_neg hy.ql))))<|wT (qK jT)<|wZ) ?_
 refine jE ⟨_,(kN (cs:=(bx (jK (jQ (p+(-q)))))) (d:=(jK (jQ (p+(-q))))) rfl rfl jT rfl rfl .nil),?_⟩
 rw[Rat.sub_eq_add_neg];rfl
theorem g_mul(x:jN)(y:jN)(p:Rat)(q:Rat)(hx:mI x p 17179869184)(hy:mI y q 17179869184):jP Tryz.prog 31 [(jK x),(jK y)] (jK (jQ (p*q))):=by
 refine jI Tryz.func31 rfl cb31 rfl ?_
 show qJ _ _ _ _ ⟨[(0,(.d (jK x))),(1,(.d (jK y)))],[]⟩
 refine jB<|kx [(2,(.ref 0 0)),(3,(.ref 1 0)),(4,(.ref 2 0))] [(0,some (bx (jK x))),(1,some (bx (jK y))),(2,some (bx (jK qH)))] (zN (vW 0)<|zN (vW 1)<|zN (uF 2 uG uQ)<|zZ) ?_
 refine jB<|kx [(5,(.ref 3 0))] [(3,some (bx (jK (jQ p))))] (zR (kM jT)<|zE (jX (g_value x p hx))<|zN (uF 3 uG uQ)<|zT (qK jT)<|zZ) ?_
 refine jB<|kx [(6,(.ref 4 0))] [(4,some (bx (jK (jQ q))))] (zR (kM jT)<|zE (jX (g_value y q hy))<|zN (uF 4 uG uQ)<|zT (qK jT)<|zZ) ?_
 refine jB<|kd [] [(2,some (bx (jK (jQ (Rat.divInt (p.num*q.num) ((p.den:Int)*(q.den:Int)))))))] mo (wE (qE zG)<|wR (kM jY)<|wE (qE zG)<|wR (kM jY)<|wE (jX (rs_mul (uK hx.ql) (uK hy.ql) (by decide) (by decide)))<|wE (qE xE)<|wR (kM jY)<|wE (qE xE)<|wR (kM jY)<|wE (jX (rs_mul (uC hx.ql) (uC hy.ql) (by decide) (by decide)))<|wE (jX (g_reduced (kH (p.num*q.num)) (kH ((p.den:Int)*(q.den:Int))) (p.num*q.num) ((p.den:Int)*(q.den:Int)) (nH (yO (k:=34359738368) (uK hx.ql) (uK hy.ql) (by decide)) (by decide)) (nH (yO (k:=34359738368) (uC hx.ql) (uC hy.ql) (by decide)) (by decide)) (mul_ne (iI _) (iI _))))<|wT (qK jT)<|wZ) ?_
 refine jE ⟨_,(kN (cs:=(bx (jK (jQ (Rat.divInt (p.num*q.num) ((p.den:Int)*(q.den:Int))))))) (d:=(jK (jQ (Rat.divInt (p.num*q.num) ((p.den:Int)*(q.den:Int)))))) rfl rfl jT rfl rfl .nil),?_⟩
 rw[mul_divInt];rfl
theorem g_compare(x:jN)(y:jN)(p:Rat)(q:Rat)(hx:mI x p 4294967296)(hy:mI y q 4294967296):jP Tryz.prog 30 [(jK x),(jK y)] (.val (.int .i64 ((yW p q)))):=by
 refine jI Tryz.func30 rfl cb30 rfl ?_
 show qJ _ _ _ _ ⟨[(0,(.d (jK x))),(1,(.d (jK y)))],[]⟩
 refine jB<|kx [(2,(.ref 0 0)),(3,(.ref 1 0))] [(0,some (bx (jK x))),(1,some (bx (jK y)))] (zN (vW 0)<|zN (vW 1)<|zM<|zZ) ?_
 refine jB<|kx [(4,(vi (gI (p-q))))] [] (zR (kM jT)<|zR (kM jT)<|zE (jX (g_sub x y p q (jV hx (by decide)) (jV hy (by decide))))<|zE (jX (g_sign (jQ (p-q)) (p-q) (jV (kG (aK (k:=8589934593) hx.ql hy.ql (by decide))) (by decide))))<|zM<|zZ) ?_
 refine jE ⟨_,(.tmp (d:=(.val (.int .i64 ((gI (p-q)))))) rfl .nil),?_⟩
 rw[← signQ_sub];rfl
theorem cb24:callB Tryz.prog 24=true:=by kernel_rfl
theorem cb26:callB Tryz.prog 26=true:=by kernel_rfl
theorem cb99:callB Tryz.prog 99=true:=by kernel_rfl
theorem zB:xP Tryz.prog 61 0=some 0:=by kernel_rfl
theorem yC:xP Tryz.prog 61 1=some 4:=by kernel_rfl
theorem g_same(x:jN)(y:jN)(p:Rat)(q:Rat)(hx:mI x p 4294967296)(hy:mI y q 4294967296):jP Tryz.prog 24 [(jK x),(jK y)] (.val (.bool ((dM x y)))):=by
 refine jI Tryz.func24 rfl cb24 rfl ?_
 show qJ _ _ _ _ ⟨[(0,(.d (jK x))),(1,(.d (jK y)))],[]⟩
 refine jB<|kx [(2,(.ref 0 0)),(3,(.ref 1 0))] [(0,some (bx (jK x))),(1,some (bx (jK y)))] (zN (vW 0)<|zN (vW 1)<|zM<|zZ) ?_
 refine jB<|kx [(4,(vb (((kL x)&&(kL y))&&((yW p q) == 0))))] [] ?_ ?_
 ·refine zR (kM jT)<|zE (jX (aA x p (jV hx (by decide))))<|zE (oV (vb (kL x)) (kR (by kernel_rfl)))<|?_
  rcases hb1:(kL x) with _ | _
  ·exact zK<|zK<|zE xN<|zM<|zK<|zK<|zK<|zK<|zE xN<|zM<|zZ
  ·refine zR (kM jT)<|zE (jX (aA y q (jV hy (by decide))))<|zE fM<|zE (oV (vb (true&&(kL y))) (kR (by kernel_rfl)))<|?_
   rcases hb2:(true&&(kL y)) with _ | _
   ·exact zK<|zK<|zK<|zK<|zE xN<|zM<|zZ
   ·exact zR (kM jT)<|zR (kM jT)<|zE (jX (g_compare x y p q hx hy))<|zE gD<|zE fM<|zM<|zZ
 refine jE ⟨_,(.tmp (d:=(.val (.bool ((((kL x)&&(kL y))&&((yW p q) == 0)))))) rfl .nil),?_⟩
 unfold dM
 rw[← sameR_eq,hx.v,hy.v];rfl
theorem g_digits(x:jN)(p:Rat)(hx:mI x p 140737488355328):jP Tryz.prog 26 [(jK x)] (.val (.int .i64 ((((digR x):Nat):Int)))):=by
 have h1:=hx.n1
 have h2:=hx.n2
 refine jI Tryz.func26 rfl cb26 rfl ?_
 show qJ _ _ _ _ ⟨[(0,(.d (jK x)))],[]⟩
 refine jB<|kx [(1,(.ref 0 0))] [(0,some (bx (jK x)))] (zN (vW 0)<|zM<|zZ) ?_
 refine jB<|kx [(2,(jR (x.num.gs.length+x.den.gs.length)))] [] (zE (qE zG)<|zE (qE vS)<|zR (uN xZ)<|zE (uE kK)<|zE (qE xE)<|zE (qE vS)<|zR (uN xZ)<|zE (uE kK)<|zE (vT (x.num.gs.length+x.den.gs.length))<|zM<|zZ) ?_
 refine jE ⟨_,(.tmp (d:=(.val (.int .i64 ((((x.num.gs.length+x.den.gs.length):Nat):Int))))) rfl .nil),?_⟩
 rfl
theorem g_samerange(a b:jZ)(ha:GOk 4294967296 a)(hb:GOk 4294967296 b):jP Tryz.prog 99 [(jJ a),(jJ b)] (.val (.bool ((dM a.lo b.lo&&dM a.hi b.hi)))):=by
 refine jI Tryz.func99 rfl cb99 rfl ?_
 show qJ _ _ _ _ ⟨[(0,(.d (jJ a))),(1,(.d (jJ b)))],[]⟩
 refine jB<|kx [(2,(.ref 0 0)),(3,(.ref 1 0))] [(0,some (bx (jJ a))),(1,some (bx (jJ b)))] (zN (vW 0)<|zN (vW 1)<|zM<|zZ) ?_
 refine jB<|kx [(4,(vb ((dM a.lo b.lo)&&(dM a.hi b.hi))))] [] ?_ ?_
 ·refine zE (qE zB)<|zR (kM jT)<|zE (qE zB)<|zR (kM jT)<|zE (jX (g_same a.lo b.lo (qM a.lo) (qM b.lo) ha.1 hb.1))<|zE (oV (vb (dM a.lo b.lo)) (kR (by kernel_rfl)))<|?_
  rcases hb1:(dM a.lo b.lo) with _ | _
  ·exact zK<|zK<|zK<|zK<|zK<|zE xN<|zM<|zZ
  ·exact zE (qE yC)<|zR (kM jT)<|zE (qE yC)<|zR (kM jT)<|zE (jX (g_same a.hi b.hi (qM a.hi) (qM b.hi) ha.2 hb.2))<|zE fM<|zM<|zZ
 refine jE ⟨_,(.tmp (d:=(.val (.bool (((dM a.lo b.lo)&&(dM a.hi b.hi)))))) rfl .nil),?_⟩
 rfl
end Go.Proofs.YtnajallgoaiahaaGreatDoor
