/- Part 32 of a proof: rules, plain facts, and functions walked. -/
import Derived.Test.YtciingpdmjepgaaGreatM31
import Derived.Test.YtciingpdmjepgaaGreatM11
set_option linter.all false
set_option maxRecDepth 4000
namespace Go.Proofs.YtciingpdmjepgaaGreat
open Go.Fid
theorem n_far1(n:Int)(m:Int)(hml:0<=m)(hmh:m<=4611686018427387904):jU Tryz.prog 79 [(.val (.int .i64 (n))),(.cptr 1000000 (jW.cells (.val (.int .i64 (m)))) 0)] (.val (.bool ((xA m n)))):=by
 refine vD Tryz.func79 ?_
 refine jA<|kx [] [] (zM<|zZ) ?_
 refine jA<|kx [(3,(vb (decide (n < -m)||decide (m<n))))] [] ?_ ?_
 ·refine zM<|zE (mV kK)<|zE (oNg (-m) (hr:=by exact (qG (by first | omega | rfl | (dsimp only;omega)) (by simp only[vR];omega) (by simp only[vS];omega))))<|zE uT<|zE (oV (vb (decide (n < -m))) (kA (by kernel_rfl)))<|?_
  rcases hb1:(decide (n < -m)) with _ | _
  ·replace hb1:=uZ hb1
   exact zM<|zE (mV kK)<|zE cC<|zE zG<|zM<|zZ
  ·replace hb1:=uY hb1
   exact zK<|zK<|zK<|zE uP<|zM<|zZ
 refine jG ⟨_,(.tmp (d:=(.val (.bool ((decide (n < -m)||decide (m<n)))))) rfl .nil),?_⟩
 rfl
theorem n_farAI(l:List Int)(m:Int)(hml:0<=m)(hmh:m<=4611686018427387904)(hb:l.length<=1000000):jU Tryz.prog 80 [(.sl 3 1 (List.map jT l)),(.clo 79 [(.cptr 1000000 (jW.cells (.val (.int .i64 (m)))) 0)])] (.val (.int .i64 ((uD (xA m) l 0)))):=by
 refine vD Tryz.func80 ?_
 refine jA<|kx [] [] (zM<|zZ) ?_
 refine jA<|jA<|kx [(7,(jN l.length)),(8,(jN 0))] [] (zM<|zE (vV xN)<|zM<|zZ) ?_
 refine jH<|kF (α:=Nat) (fun k=>⟨[(0,(vl 3 1 jT l)),(1,(.d (.clo 79 [(.cptr 1000000 (jW.cells (.val (.int .i64 (m)))) 0)]))),(7,(jN l.length)),(8,(jN k))],[]⟩) (fun k=>k<=l.length/\uD (xA m) l 0=uD (xA m) (l.drop k) k) (fun k=>l.length-k) 0 wk ⟨Nat.zero_le _,rfl⟩ ?_
 rintro k ⟨hk,hv⟩
 refine jA<|kx [(9,(vb (decide (((k:Nat):Int)<((l.length:Nat):Int)))))] [] (zE uT<|zZ) ?_
 refine jA<|jF rfl (fun h1=>?_) (fun h1=>?_)
 ·replace h1:=uY h1
  refine jD<|jA<|jH<|jA<|kx [(5,(jN k))] [] (zM<|zM<|zZ) ?_
  refine jA<|kx [(16,(vb (xA m (l.getD k 0))))] [] (zM<|zM<|zM<|zE (nA xN k (0:Int))<|zE (mV kK)<|zE (oCd (ds:=[(.val (.int .i64 ((l.getD k 0))))]) (caps:=[(.cptr 1000000 (jW.cells (.val (.int .i64 (m)))) 0)]) (n_far1 (l.getD k 0) m (by omega) (by omega)))<|zZ) ?_
  refine jF (b:=(xA m (l.getD k 0))) rfl (fun h2=>?_) (fun h2=>?_)
  ·have hix:=aY _ l k (by omega) h2
   refine jA<|kx [(4,(jN k))] [] (zM<|zM<|zZ) ?_
   refine jG ⟨_,(.tmp (d:=(.val (.int .i64 (((k:Nat):Int))))) rfl .nil),?_⟩
   rw[hv,hix];rfl
  ·have hix:=dJ _ l k (by omega) h2
   refine jD<|kx [(8,(jN (k+1)))] [] (zE (uL (k+1))<|zM<|zZ) ?_
   exact ⟨(k+1),wk,⟨by omega,hv.trans hix⟩,(by omega)⟩
 ·replace h1:=uZ h1
  have hix:=eY (xA m) l k (by omega)
  refine jS<|jA<|kx [(4,(vi (-1)))] [] (zM<|zZ) ?_
  refine jG ⟨_,(.tmp (d:=(.val (.int .i64 (-1)))) rfl .nil),?_⟩
  rw[hv,hix];rfl
theorem n_farA(l:List Int)(m:Int)(hml:0<=m)(hmh:m<=4611686018427387904)(hb:l.length<=1000000):jU Tryz.prog 54 [(.sl 3 1 (List.map jT l)),(.clo 79 [(.cptr 1000000 (jW.cells (.val (.int .i64 (m)))) 0)])] (.val (.bool ((l.any (xA m))))):=by
 refine vD Tryz.func54 ?_
 refine jA<|kx [] [] (zM<|zZ) ?_
 refine jA<|kx [(4,(vb (decide (0<=(uD (xA m) l 0)))))] [] (zM<|zM<|zE (kD (n_farAI l m (by omega) (by omega) hb))<|zE oGe<|zM<|zZ) ?_
 refine jG ⟨_,(.tmp (d:=(.val (.bool (decide (0<=(uD (xA m) l 0)))))) rfl .nil),?_⟩
 rw[cH];rfl
theorem n_far(m:Int)(hml:0<=m)(hmh:m<=4611686018427387904)(l:List Int)(hb:l.length<=1000000):jU Tryz.prog 53 [(.val (.int .i64 (m))),(.sl 3 1 (List.map jT l))] (.val (.bool ((l.any (xA m))))):=by
 refine vD Tryz.func53 ?_
 refine jA<|kx [(2,(.ref 0 0))] [(0,some (bx (.val (.int .i64 (m)))))] (zN (yB 0)<|zM<|zZ) ?_
 refine jA<|kx [(4,(vb (l.any (xA m))))] [] (zM<|zE (oMf [0])<|zC (oCg [(0,(jW.cells (.val (.int .i64 (m)))))] [(vl 3 1 jT l),(.clo 79 [0])] (n_farA l m (by omega) (by omega) hb) (.d (.c (css:=[(jW.cells (.val (.int .i64 (m))))]) (.cons (.head _) .nil) .nil)) (.val _))<|zM<|zZ) ?_
 refine jG ⟨_,(.tmp (d:=(.val (.bool ((l.any (xA m)))))) rfl .nil),?_⟩
 rfl
theorem n_out1(i:Int)(b:qW):jU Tryz.prog 56 [(.val (.int .i64 (i))),(.cptr 1000000 (jW.cells (kJ b)) 0)] (.val (.bool ((dH ((b.sts.length:Nat):Int) i)))):=by
 refine vD Tryz.func56 ?_
 refine jA<|kx [] [] (zM<|zZ) ?_
 refine jA<|kx [(3,(vb (decide (i<0)||decide (((b.sts.length:Nat):Int)<=i))))] [] ?_ ?_
 ·refine zM<|zE uT<|zE (oV (vb (decide (i<0))) (kA (by kernel_rfl)))<|?_
  rcases hb1:(decide (i<0)) with _ | _
  ·replace hb1:=uZ hb1
   exact zM<|zE (oFc gL)<|zE (mV sh22)<|zE (vV eI)<|zE oGe<|zE zG<|zM<|zZ
  ·replace hb1:=uY hb1
   exact zK<|zK<|zK<|zK<|zK<|zE uP<|zM<|zZ
 refine jG ⟨_,(.tmp (d:=(.val (.bool ((decide (i<0)||decide (((b.sts.length:Nat):Int)<=i)))))) rfl .nil),?_⟩
 rfl
theorem n_outA1I(l:List Int)(b:qW)(hb:l.length<=1000000):jU Tryz.prog 80 [(.sl 3 1 (List.map jT l)),(.clo 56 [(.cptr 1000000 (jW.cells (kJ b)) 0)])] (.val (.int .i64 ((uD (dH ((b.sts.length:Nat):Int)) l 0)))):=by
 refine vD Tryz.func80 ?_
 refine jA<|kx [] [] (zM<|zZ) ?_
 refine jA<|jA<|kx [(7,(jN l.length)),(8,(jN 0))] [] (zM<|zE (vV xN)<|zM<|zZ) ?_
 refine jH<|kF (α:=Nat) (fun k=>⟨[(0,(vl 3 1 jT l)),(1,(.d (.clo 56 [(.cptr 1000000 (jW.cells (kJ b)) 0)]))),(7,(jN l.length)),(8,(jN k))],[]⟩) (fun k=>k<=l.length/\uD (dH ((b.sts.length:Nat):Int)) l 0=uD (dH ((b.sts.length:Nat):Int)) (l.drop k) k) (fun k=>l.length-k) 0 wk ⟨Nat.zero_le _,rfl⟩ ?_
 rintro k ⟨hk,hv⟩
 refine jA<|kx [(9,(vb (decide (((k:Nat):Int)<((l.length:Nat):Int)))))] [] (zE uT<|zZ) ?_
 refine jA<|jF rfl (fun h1=>?_) (fun h1=>?_)
 ·replace h1:=uY h1
  refine jD<|jA<|jH<|jA<|kx [(5,(jN k))] [] (zM<|zM<|zZ) ?_
  refine jA<|kx [(16,(vb (dH ((b.sts.length:Nat):Int) (l.getD k 0))))] [] (zM<|zM<|zM<|zE (nA xN k (0:Int))<|zE (mV kK)<|zE (oCd (ds:=[(.val (.int .i64 ((l.getD k 0))))]) (caps:=[(.cptr 1000000 (jW.cells (kJ b)) 0)]) (n_out1 (l.getD k 0) b))<|zZ) ?_
  refine jF rfl (fun h2=>?_) (fun h2=>?_)
  ·have hix:=aY _ l k (by omega) h2
   refine jA<|kx [(4,(jN k))] [] (zM<|zM<|zZ) ?_
   refine jG ⟨_,(.tmp (d:=(.val (.int .i64 (((k:Nat):Int))))) rfl .nil),?_⟩
   rw[hv,hix];rfl
  ·have hix:=dJ _ l k (by omega) h2
   refine jD<|kx [(8,(jN (k+1)))] [] (zE (uL (k+1))<|zM<|zZ) ?_
   exact ⟨(k+1),wk,⟨by omega,hv.trans hix⟩,(by omega)⟩
 ·replace h1:=uZ h1
  have hix:=eY (dH ((b.sts.length:Nat):Int)) l k (by omega)
  refine jS<|jA<|kx [(4,(vi (-1)))] [] (zM<|zZ) ?_
  refine jG ⟨_,(.tmp (d:=(.val (.int .i64 (-1)))) rfl .nil),?_⟩
  rw[hv,hix];rfl
theorem n_outA1(l:List Int)(b:qW)(hb:l.length<=1000000):jU Tryz.prog 54 [(.sl 3 1 (List.map jT l)),(.clo 56 [(.cptr 1000000 (jW.cells (kJ b)) 0)])] (.val (.bool ((l.any (dH ((b.sts.length:Nat):Int)))))):=by
 refine vD Tryz.func54 ?_
 refine jA<|kx [] [] (zM<|zZ) ?_
 refine jA<|kx [(4,(vb (decide (0<=(uD (dH ((b.sts.length:Nat):Int)) l 0)))))] [] (zM<|zM<|zE (kD (n_outA1I l b hb))<|zE oGe<|zM<|zZ) ?_
 refine jG ⟨_,(.tmp (d:=(.val (.bool (decide (0<=(uD (dH ((b.sts.length:Nat):Int)) l 0)))))) rfl .nil),?_⟩
 rw[cH];rfl
theorem n_out2(i:Int)(b:qW):jU Tryz.prog 58 [(.val (.int .i64 (i))),(.cptr 1000000 (jW.cells (kJ b)) 0)] (.val (.bool ((dH ((b.pts.length:Nat):Int) i)))):=by
 refine vD Tryz.func58 ?_
 refine jA<|kx [] [] (zM<|zZ) ?_
 refine jA<|kx [(3,(vb (decide (i<0)||decide (((b.pts.length:Nat):Int)<=i))))] [] ?_ ?_
 ·refine zM<|zE uT<|zE (oV (vb (decide (i<0))) (kA (by kernel_rfl)))<|?_
  rcases hb1:(decide (i<0)) with _ | _
  ·replace hb1:=uZ hb1
   exact zM<|zE (oFc dW)<|zE (mV sh23)<|zE (vV el23)<|zE oGe<|zE zG<|zM<|zZ
  ·replace hb1:=uY hb1
   exact zK<|zK<|zK<|zK<|zK<|zE uP<|zM<|zZ
 refine jG ⟨_,(.tmp (d:=(.val (.bool ((decide (i<0)||decide (((b.pts.length:Nat):Int)<=i)))))) rfl .nil),?_⟩
 rfl
theorem n_outA2I(l:List Int)(b:qW)(hb:l.length<=1000000):jU Tryz.prog 80 [(.sl 3 1 (List.map jT l)),(.clo 58 [(.cptr 1000000 (jW.cells (kJ b)) 0)])] (.val (.int .i64 ((uD (dH ((b.pts.length:Nat):Int)) l 0)))):=by
 refine vD Tryz.func80 ?_
 refine jA<|kx [] [] (zM<|zZ) ?_
 refine jA<|jA<|kx [(7,(jN l.length)),(8,(jN 0))] [] (zM<|zE (vV xN)<|zM<|zZ) ?_
 refine jH<|kF (α:=Nat) (fun k=>⟨[(0,(vl 3 1 jT l)),(1,(.d (.clo 58 [(.cptr 1000000 (jW.cells (kJ b)) 0)]))),(7,(jN l.length)),(8,(jN k))],[]⟩) (fun k=>k<=l.length/\uD (dH ((b.pts.length:Nat):Int)) l 0=uD (dH ((b.pts.length:Nat):Int)) (l.drop k) k) (fun k=>l.length-k) 0 wk ⟨Nat.zero_le _,rfl⟩ ?_
 rintro k ⟨hk,hv⟩
 refine jA<|kx [(9,(vb (decide (((k:Nat):Int)<((l.length:Nat):Int)))))] [] (zE uT<|zZ) ?_
 refine jA<|jF rfl (fun h1=>?_) (fun h1=>?_)
 ·replace h1:=uY h1
  refine jD<|jA<|jH<|jA<|kx [(5,(jN k))] [] (zM<|zM<|zZ) ?_
  refine jA<|kx [(16,(vb (dH ((b.pts.length:Nat):Int) (l.getD k 0))))] [] (zM<|zM<|zM<|zE (nA xN k (0:Int))<|zE (mV kK)<|zE (oCd (ds:=[(.val (.int .i64 ((l.getD k 0))))]) (caps:=[(.cptr 1000000 (jW.cells (kJ b)) 0)]) (n_out2 (l.getD k 0) b))<|zZ) ?_
  refine jF rfl (fun h2=>?_) (fun h2=>?_)
  ·have hix:=aY _ l k (by omega) h2
   refine jA<|kx [(4,(jN k))] [] (zM<|zM<|zZ) ?_
   refine jG ⟨_,(.tmp (d:=(.val (.int .i64 (((k:Nat):Int))))) rfl .nil),?_⟩
   rw[hv,hix];rfl
  ·have hix:=dJ _ l k (by omega) h2
   refine jD<|kx [(8,(jN (k+1)))] [] (zE (uL (k+1))<|zM<|zZ) ?_
   exact ⟨(k+1),wk,⟨by omega,hv.trans hix⟩,(by omega)⟩
 ·replace h1:=uZ h1
  have hix:=eY (dH ((b.pts.length:Nat):Int)) l k (by omega)
  refine jS<|jA<|kx [(4,(vi (-1)))] [] (zM<|zZ) ?_
  refine jG ⟨_,(.tmp (d:=(.val (.int .i64 (-1)))) rfl .nil),?_⟩
  rw[hv,hix];rfl
theorem n_outA2(l:List Int)(b:qW)(hb:l.length<=1000000):jU Tryz.prog 54 [(.sl 3 1 (List.map jT l)),(.clo 58 [(.cptr 1000000 (jW.cells (kJ b)) 0)])] (.val (.bool ((l.any (dH ((b.pts.length:Nat):Int)))))):=by
 refine vD Tryz.func54 ?_
 refine jA<|kx [] [] (zM<|zZ) ?_
 refine jA<|kx [(4,(vb (decide (0<=(uD (dH ((b.pts.length:Nat):Int)) l 0)))))] [] (zM<|zM<|zE (kD (n_outA2I l b hb))<|zE oGe<|zM<|zZ) ?_
 refine jG ⟨_,(.tmp (d:=(.val (.bool (decide (0<=(uD (dH ((b.pts.length:Nat):Int)) l 0)))))) rfl .nil),?_⟩
 rw[cH];rfl
theorem n_ix(l:List Int)(v:Int)(hb:l.length<=1000000):jU Tryz.prog 96 [(.sl 3 1 (List.map jT l)),(.val (.int .i64 (v)))] (.val (.int .i64 ((uD (fun x=>x == v) l 0)))):=by
 refine vD Tryz.func96 ?_
 refine jA<|kx [] [] (zM<|zZ) ?_
 refine jA<|jA<|kx [(7,(jN l.length)),(8,(jN 0))] [] (zM<|zE (vV xN)<|zM<|zZ) ?_
 refine jH<|kF (α:=Nat) (fun k=>⟨[(0,(vl 3 1 jT l)),(1,(vi v)),(7,(jN l.length)),(8,(jN k))],[]⟩) (fun k=>k<=l.length/\uD (fun x=>x == v) l 0=uD (fun x=>x == v) (l.drop k) k) (fun k=>l.length-k) 0 wk ⟨Nat.zero_le _,rfl⟩ ?_
 rintro k ⟨hk,hv⟩
 refine jA<|kx [(9,(vb (decide (((k:Nat):Int)<((l.length:Nat):Int)))))] [] (zE uT<|zZ) ?_
 refine jA<|jF rfl (fun h1=>?_) (fun h1=>?_)
 ·replace h1:=uY h1
  refine jD<|jA<|jH<|jA<|kx [(5,(jN k))] [] (zM<|zM<|zZ) ?_
  refine jA<|kx [(16,(vb (v == (l.getD k 0))))] [] (zM<|zM<|zM<|zE (nA xN k (0:Int))<|zE (mV kK)<|zE zW<|zZ) ?_
  refine jF (b:=(v == (l.getD k 0))) rfl (fun h2=>?_) (fun h2=>?_)
  ·replace h2:=eq_of_beq h2
   have hix:=aY (fun x=>x == v) l k (by omega) (beq_iff_eq.2 (Eq.symm h2))
   refine jA<|kx [(4,(jN k))] [] (zM<|zM<|zZ) ?_
   refine jG ⟨_,(.tmp (d:=(.val (.int .i64 (((k:Nat):Int))))) rfl .nil),?_⟩
   rw[hv,hix];rfl
  ·replace h2:=ne_of_beq_false h2
   have hix:=dJ (fun x=>x == v) l k (by omega) (beq_eq_false_iff_ne.2 (Ne.symm h2))
   refine jD<|kx [(8,(jN (k+1)))] [] (zE (uL (k+1))<|zM<|zZ) ?_
   exact ⟨(k+1),wk,⟨by omega,hv.trans hix⟩,(by omega)⟩
 ·replace h1:=uZ h1
  have hix:=eY (fun x=>x == v) l k (by omega)
  refine jS<|jA<|kx [(4,(vi (-1)))] [] (zM<|zZ) ?_
  refine jG ⟨_,(.tmp (d:=(.val (.int .i64 (-1)))) rfl .nil),?_⟩
  rw[hv,hix];rfl
theorem n_cn(l:List Int)(v:Int)(hb:l.length<=1000000):jU Tryz.prog 82 [(.sl 3 1 (List.map jT l)),(.val (.int .i64 (v)))] (.val (.bool ((gG l v)))):=by
 refine vD Tryz.func82 ?_
 refine jA<|kx [] [] (zM<|zZ) ?_
 refine jA<|kx [(4,(vb (decide (0<=(uD (fun x=>x == v) l 0)))))] [] (zM<|zM<|zE (kD (n_ix l v hb))<|zE oGe<|zM<|zZ) ?_
 refine jG ⟨_,(.tmp (d:=(.val (.bool (decide (0<=(uD (fun x=>x == v) l 0)))))) rfl .nil),?_⟩
 rw[cH];rfl
theorem n_stN(dim:Int)(s:kM):jU Tryz.prog 52 [(.val (.int .i64 (dim))),(uQ s)] (.val (.int .i64 ((((stN dim s):Nat):Int)))):=by
 refine vD Tryz.func52 ?_
 refine jA<|kx [(3,(.ref 0 0))] [(0,some (bx (uQ s)))] (zN (yB 0)<|zM<|zZ) ?_
 refine jA<|jA<|kx [(32,(vb ((([s.at_.x,s.at_.y,s.at_.z,s.centre.x,s.centre.y].any (xA 1048576))||decide (s.focal<1))||decide (1048576<s.focal))))] [] ?_ ?_
 ·refine zE (jY fQ)<|zE (jY fo30_0)<|zR (jZ kK)<|zE (jY fQ)<|zE (jY dC)<|zR (jZ kK)<|zE (jY fQ)<|zE (jY fo30_2)<|zR (jZ kK)<|zE (jY fo38_3)<|zE (jY fo36_0)<|zR (jZ kK)<|zE (jY fo38_3)<|zE (jY fo36_1)<|zR (jZ kK)<|zE (eG xN ze3 zo3)<|zE (kD (n_far 1048576 (by omega) (by omega) [s.at_.x,s.at_.y,s.at_.z,s.centre.x,s.centre.y] (by first | assumption | exact sL_len _ | exact pL_len _ | (simp only[List.length_cons,List.length_nil];omega))))<|zE (oV (vb ([s.at_.x,s.at_.y,s.at_.z,s.centre.x,s.centre.y].any (xA 1048576))) (kA (by kernel_rfl)))<|?_
  rcases hb1:([s.at_.x,s.at_.y,s.at_.z,s.centre.x,s.centre.y].any (xA 1048576)) with _ | _
  ·refine zE (jY fo38_2)<|zR (jZ kK)<|zE uT<|zE zG<|zE (oV (vb (false||decide (s.focal<1))) (kA (by kernel_rfl)))<|?_
   rcases hb2:(false||decide (s.focal<1)) with _ | _
   ·replace hb2:=uZ (p:=(s.focal<1)) hb2
    exact zE (jY fo38_2)<|zR (jZ kK)<|zE cC<|zE zG<|zZ
   ·replace hb2:=uY (p:=(s.focal<1)) hb2
    exact zK<|zK<|zK<|zE uP<|zZ
  ·exact zK<|zK<|zK<|zE uP<|zM<|zK<|zK<|zK<|zE uP<|zZ
 refine jF rfl (fun h3=>?_) (fun h3=>?_)
 ·refine jA<|kx [(4,(jN 2))] [] (zM<|zZ) ?_
  refine jG ⟨_,(.tmp (d:=(.val (.int .i64 (2)))) rfl .nil),?_⟩
  unfold stN
  rw[if_pos (by first | exact h3 | exact ne_true_of_eq_false h3 | exact fun hn=>hn h3 | simpa using h3)]
  rfl
 ·refine jD<|jA<|jA<|kx [(5,(jN (yD s.turn.a s.turn.b s.turn.c s.turn.d)))] [] (zE (jY cW)<|zR (qE qQ)<|zE (kD (q_chk s.turn.a s.turn.b s.turn.c s.turn.d))<|zM<|zZ) ?_
  refine jA<|kx [(37,(vb ((((yD s.turn.a s.turn.b s.turn.c s.turn.d):Nat):Int) != 0)))] [] (zM<|zE xX<|zZ) ?_
  refine jF rfl (fun h4=>?_) (fun h4=>?_)
  ·replace h4:=bne_iff_ne.1 h4
   refine jA<|kx [(4,(jN (yD s.turn.a s.turn.b s.turn.c s.turn.d)))] [] (zM<|zM<|zZ) ?_
   refine jG ⟨_,(.tmp (d:=(.val (.int .i64 ((((yD s.turn.a s.turn.b s.turn.c s.turn.d):Nat):Int))))) rfl .nil),?_⟩
   unfold stN
   rw[if_neg (by first | exact h3 | exact ne_true_of_eq_false h3 | exact fun hn=>hn h3 | simpa using h3)]
   rw[if_pos (by first | exact h4 | exact ne_true_of_eq_false h4 | exact fun hn=>hn h4 | simpa using h4)]
   rfl
  ·replace h4:=bne_eq_false_iff_eq.1 h4
   refine jD<|jA<|jA<|kx [(64,(vb ((dim == 2)&&((((s.at_.y != 0)||(s.centre.y != 0))||(s.turn.b != 0))||(s.turn.d != 0)))))] [] ?_ ?_
   ·refine zM<|zE zW<|zE (oV (vb (dim == 2)) (kA (by kernel_rfl)))<|?_
    rcases hb5:(dim == 2) with _ | _
    ·replace hb5:=ne_of_beq_false hb5
     exact zK<|zK<|zK<|zK<|zK<|zK<|zK<|zK<|zK<|zK<|zK<|zK<|zK<|zK<|zK<|zK<|zK<|zK<|zK<|zK<|zK<|zK<|zE mJ<|zZ
    ·replace hb5:=eq_of_beq hb5
     refine zE (jY fQ)<|zE (jY dC)<|zR (jZ kK)<|zE xX<|zE (oV (vb (s.at_.y != 0)) (kA (by kernel_rfl)))<|?_
     rcases hb6:(s.at_.y != 0) with _ | _
     ·replace hb6:=bne_eq_false_iff_eq.1 hb6
      refine zE (jY fo38_3)<|zE (jY fo36_1)<|zR (jZ kK)<|zE xX<|zE zG<|zE (oV (vb (false||(s.centre.y != 0))) (kA (by kernel_rfl)))<|?_
      rcases hb7:(false||(s.centre.y != 0)) with _ | _
      ·refine zE (jY cW)<|zE (jY uS)<|zR (jZ kK)<|zE xX<|zE zG<|zE (oV (vb (false||(s.turn.b != 0))) (kA (by kernel_rfl)))<|?_
       rcases hb8:(false||(s.turn.b != 0)) with _ | _
       ·exact zE (jY cW)<|zE (jY uR)<|zR (jZ kK)<|zE xX<|zE zG<|zE aC<|zZ
       ·exact zK<|zK<|zK<|zK<|zE uP<|zE uP<|zZ
      ·exact zK<|zK<|zK<|zK<|zE uP<|zM<|zK<|zK<|zK<|zK<|zE uP<|zE uP<|zZ
     ·replace hb6:=bne_iff_ne.1 hb6
      exact zK<|zK<|zK<|zK<|zE uP<|zM<|zK<|zK<|zK<|zK<|zE uP<|zM<|zK<|zK<|zK<|zK<|zE uP<|zE uP<|zZ
   refine jF rfl (fun h9=>?_) (fun h9=>?_)
   ·refine jA<|kx [(4,(jN 1))] [] (zM<|zZ) ?_
    refine jG ⟨_,(.tmp (d:=(.val (.int .i64 (1)))) rfl .nil),?_⟩
    unfold stN
    rw[if_neg (by first | exact h3 | exact ne_true_of_eq_false h3 | exact fun hn=>hn h3 | simpa using h3)]
    rw[if_neg (by first | exact h4 | exact ne_true_of_eq_false h4 | exact fun hn=>hn h4 | simpa using h4)]
    rw[if_pos (by first | exact h9 | exact ne_true_of_eq_false h9 | exact fun hn=>hn h9 | simpa using h9)]
    rfl
   ·refine jD<|jA<|kx [(4,(jN 0))] [] (zM<|zZ) ?_
    refine jG ⟨_,(.tmp (d:=(.val (.int .i64 (0)))) rfl .nil),?_⟩
    unfold stN
    rw[if_neg (by first | exact h3 | exact ne_true_of_eq_false h3 | exact fun hn=>hn h3 | simpa using h3)]
    rw[if_neg (by first | exact h4 | exact ne_true_of_eq_false h4 | exact fun hn=>hn h4 | simpa using h4)]
    rw[if_neg (by first | exact h9 | exact ne_true_of_eq_false h9 | exact fun hn=>hn h9 | simpa using h9)]
    rfl
theorem n_sL(o:kL):jU Tryz.prog 55 [(qN o)] (.sl 3 1 (List.map jT (sL o))):=by
 refine vD Tryz.func55 ?_
 refine jA<|kx [(1,(.ref 0 0))] [(0,some (bx (qN o)))] (zN (yB 0)<|zE (fH 3 1)<|zZ) ?_
 refine jA<|jA<|kx [(20,(vb (((o.kind == 0)||(o.kind == 2))||((o.kind == 4)&&(o.b == -1)))))] [] ?_ ?_
 ·refine zE (jY zD)<|zR (jZ eK)<|zE zW<|zE (oV (vb (o.kind == 0)) (kA (by kernel_rfl)))<|?_
  rcases hb1:(o.kind == 0) with _ | _
  ·replace hb1:=ne_of_beq_false hb1
   refine zE (jY zD)<|zR (jZ eK)<|zE zW<|zE zG<|zE (oV (vb (false||(o.kind == 2))) (kA (by kernel_rfl)))<|?_
   rcases hb2:(false||(o.kind == 2)) with _ | _
   ·refine zE (jY zD)<|zR (jZ eK)<|zE zW<|zE (oV (vb (o.kind == 4)) (kA (by kernel_rfl)))<|?_
    rcases hb3:(o.kind == 4) with _ | _
    ·replace hb3:=ne_of_beq_false hb3
     exact zK<|zK<|zK<|zE mJ<|zE mJ<|zZ
    ·replace hb3:=eq_of_beq hb3
     exact zE (jY nG)<|zR (jZ kK)<|zE zW<|zE aC<|zE zG<|zZ
   ·exact zK<|zK<|zK<|zK<|zK<|zK<|zK<|zK<|zE uP<|zZ
  ·replace hb1:=eq_of_beq hb1
   exact zK<|zK<|zK<|zE uP<|zM<|zK<|zK<|zK<|zK<|zK<|zK<|zK<|zK<|zE uP<|zZ
 refine jF rfl (fun h4=>?_) (fun h4=>?_)
 ·refine jA<|kx [(2,(vl 3 1 jT [o.a]))] [] (zE (jY mX)<|zR (jZ kK)<|zE (eG xN ze3 zo3)<|zM<|zZ) ?_
  refine jG ⟨_,(.tmp (d:=(.sl 3 1 (List.map jT [o.a]))) rfl .nil),?_⟩
  unfold sL
  rw[if_pos (by first | exact h4 | exact ne_true_of_eq_false h4 | exact fun hn=>hn h4 | simpa using h4)]
  rfl
 ·refine jD<|jA<|kx [(2,(vl 3 1 jT []))] [] (zE (fH 3 1)<|zZ) ?_
  refine jG ⟨_,(.tmp (d:=(.sl 3 1 (List.map jT []))) rfl .nil),?_⟩
  unfold sL
  rw[if_neg (by first | exact h4 | exact ne_true_of_eq_false h4 | exact fun hn=>hn h4 | simpa using h4)]
  rfl
theorem n_pL(o:kL):jU Tryz.prog 57 [(qN o)] (.sl 3 1 (List.map jT (pL o))):=by
 refine vD Tryz.func57 ?_
 refine jA<|kx [(1,(.ref 0 0))] [(0,some (bx (qN o)))] (zN (yB 0)<|zE (fH 3 1)<|zZ) ?_
 refine jA<|jH<|jA<|kx [(3,(vb (o.kind == 3)))] [] (zE (jY zD)<|zR (jZ eK)<|zE zW<|zM<|zZ) ?_
 refine jF (b:=(o.kind == 3)) rfl (fun h1=>?_) (fun h1=>?_)
 ·replace h1:=eq_of_beq h1
  refine jA<|kx [(2,(vl 3 1 jT [o.a,o.b]))] [] (zE (jY mX)<|zR (jZ kK)<|zE (jY nG)<|zR (jZ kK)<|zE (eG xN ze3 zo3)<|zM<|zZ) ?_
  refine jG ⟨_,(.tmp (d:=(.sl 3 1 (List.map jT [o.a,o.b]))) rfl .nil),?_⟩
  unfold pL
  rw[if_pos (by first | exact h1 | exact ne_true_of_eq_false h1 | exact fun hn=>hn h1 | simpa using h1)]
  rfl
 ·replace h1:=ne_of_beq_false h1
  refine jA<|kx [(12,(vb ((o.kind == 2)||((o.kind == 4)&&(o.b == -1)))))] [] ?_ ?_
  ·refine zE (jY zD)<|zR (jZ eK)<|zE zW<|zE (oV (vb (o.kind == 2)) (kA (by kernel_rfl)))<|?_
   rcases hb2:(o.kind == 2) with _ | _
   ·replace hb2:=ne_of_beq_false hb2
    refine zE (jY zD)<|zR (jZ eK)<|zE zW<|zE (oV (vb (o.kind == 4)) (kA (by kernel_rfl)))<|?_
    rcases hb3:(o.kind == 4) with _ | _
    ·replace hb3:=ne_of_beq_false hb3
     exact zK<|zK<|zK<|zE mJ<|zE mJ<|zM<|zZ
    ·replace hb3:=eq_of_beq hb3
     exact zE (jY nG)<|zR (jZ kK)<|zE zW<|zE aC<|zE zG<|zM<|zZ
   ·replace hb2:=eq_of_beq hb2
    exact zK<|zK<|zK<|zK<|zK<|zK<|zK<|zK<|zE uP<|zM<|zZ
  refine jF rfl (fun h4=>?_) (fun h4=>?_)
  ·refine jA<|kx [(2,(vl 3 1 jT []))] [] (zE (fH 3 1)<|zZ) ?_
   refine jG ⟨_,(.tmp (d:=(.sl 3 1 (List.map jT []))) rfl .nil),?_⟩
   unfold pL
   rw[if_neg (by first | exact h1 | exact ne_true_of_eq_false h1 | exact fun hn=>hn h1 | simpa using h1)]
   rw[if_pos (by first | exact h4 | exact ne_true_of_eq_false h4 | exact fun hn=>hn h4 | simpa using h4)]
   rfl
  ·refine jD<|jA<|kx [(2,(vl 3 1 jT [o.b]))] [] (zE (jY nG)<|zR (jZ kK)<|zE (eG xN ze3 zo3)<|zM<|zZ) ?_
   refine jG ⟨_,(.tmp (d:=(.sl 3 1 (List.map jT [o.b]))) rfl .nil),?_⟩
   unfold pL
   rw[if_neg (by first | exact h1 | exact ne_true_of_eq_false h1 | exact fun hn=>hn h1 | simpa using h1)]
   rw[if_neg (by first | exact h4 | exact ne_true_of_eq_false h4 | exact fun hn=>hn h4 | simpa using h4)]
   rfl
theorem n_oddN(dim:Int)(o:kL):jU Tryz.prog 59 [(.val (.int .i64 (dim))),(qN o)] (.val (.bool ((odN dim o)))):=by
 refine vD Tryz.func59 ?_
 refine jA<|kx [(3,(.ref 0 0))] [(0,some (bx (qN o)))] (zN (yB 0)<|zM<|zZ) ?_
 refine jA<|jA<|kx [(18,(vb ((o.value.a1 != 0)&&((o.kind != 0)||(dim == 2)))))] [] ?_ ?_
 ·refine zE (jY aQ)<|zE (aB ar66 1)<|zR (jZ kK)<|zE xX<|zE (oV (vb (o.value.a1 != 0)) (kA (by kernel_rfl)))<|?_
  rcases hb1:(o.value.a1 != 0) with _ | _
  ·replace hb1:=bne_eq_false_iff_eq.1 hb1
   exact zK<|zK<|zK<|zK<|zK<|zK<|zK<|zE mJ<|zZ
  ·replace hb1:=bne_iff_ne.1 hb1
   refine zE (jY zD)<|zR (jZ eK)<|zE xX<|zE (oV (vb (o.kind != 0)) (kA (by kernel_rfl)))<|?_
   rcases hb2:(o.kind != 0) with _ | _
   ·replace hb2:=bne_eq_false_iff_eq.1 hb2
    exact zM<|zE zW<|zE zG<|zE aC<|zZ
   ·replace hb2:=bne_iff_ne.1 hb2
    exact zK<|zK<|zE uP<|zE uP<|zZ
 refine jF rfl (fun h3=>?_) (fun h3=>?_)
 ·refine jA<|kx [(4,(vb true))] [] (zM<|zZ) ?_
  refine jG ⟨_,(.tmp (d:=(.val (.bool (true)))) rfl .nil),?_⟩
  unfold odN
  rw[if_pos (by first | exact h3 | exact ne_true_of_eq_false h3 | exact fun hn=>hn h3 | simpa using h3)]
  rfl
 ·refine jD<|jA<|kx [(5,(vl 3 1 jT (cO dim 1)))] [] (zM<|zE (kD (n_axesN dim 1))<|zM<|zZ) ?_
  refine jA<|jA<|kx [(22,(vi o.kind))] [] (zE (jY zD)<|zR (jZ eK)<|zZ) ?_
  refine jH<|jA<|kx [(23,(vb (o.kind == 0)))] [] (zE zW<|zM<|zZ) ?_
  refine jF (b:=(o.kind == 0)) rfl (fun h4=>?_) (fun h4=>?_)
  ·replace h4:=eq_of_beq h4
   refine jA<|kx [(4,(vb (o.axis != 0)))] [] (zE (jY mO)<|zR (jZ kK)<|zE xX<|zM<|zZ) ?_
   refine jG ⟨_,(.tmp (d:=(.val (.bool ((o.axis != 0))))) rfl .nil),?_⟩
   unfold odN
   rw[if_neg (by first | exact h3 | exact ne_true_of_eq_false h3 | exact fun hn=>hn h3 | simpa using h3)]
   rw[if_pos (by first | exact h4 | exact ne_true_of_eq_false h4 | exact fun hn=>hn h4 | simpa using h4)]
   rfl
  ·replace h4:=ne_of_beq_false h4
   refine jA<|kx [(28,(vb (o.kind == 1)))] [] (zE zW<|zM<|zZ) ?_
   refine jF (b:=(o.kind == 1)) rfl (fun h5=>?_) (fun h5=>?_)
   ·replace h5:=eq_of_beq h5
    refine jA<|kx [(4,(vb ((o.a != 0)||!(gG (cO dim 1) o.axis))))] [] ?_ ?_
    ·refine zE (jY mX)<|zR (jZ kK)<|zE xX<|zE (oV (vb (o.a != 0)) (kA (by kernel_rfl)))<|?_
     rcases hb6:(o.a != 0) with _ | _
     ·replace hb6:=bne_eq_false_iff_eq.1 hb6
      exact zM<|zE (jY mO)<|zR (jZ kK)<|zE (kD (n_cn (cO dim 1) o.axis (by first | assumption | (have:=yG dim 1;have:=yG dim 0;omega))))<|zE eU<|zE zG<|zM<|zZ
     ·replace hb6:=bne_iff_ne.1 hb6
      exact zK<|zK<|zK<|zK<|zK<|zE uP<|zM<|zZ
    refine jG ⟨_,(.tmp (d:=(.val (.bool (((o.a != 0)||!(gG (cO dim 1) o.axis)))))) rfl .nil),?_⟩
    unfold odN
    rw[if_neg (by first | exact h3 | exact ne_true_of_eq_false h3 | exact fun hn=>hn h3 | simpa using h3)]
    rw[if_neg (by first | exact h4 | exact ne_true_of_eq_false h4 | exact fun hn=>hn h4 | simpa using h4)]
    rw[if_pos (by first | exact h5 | exact ne_true_of_eq_false h5 | exact fun hn=>hn h5 | simpa using h5)]
    rfl
   ·replace h5:=ne_of_beq_false h5
    refine jA<|kx [(40,(vb (o.kind == 2)))] [] (zE zW<|zM<|zZ) ?_
    refine jF (b:=(o.kind == 2)) rfl (fun h7=>?_) (fun h7=>?_)
    ·replace h7:=eq_of_beq h7
     refine jA<|kx [(4,(vb ((o.b != 0)||!(gG (cO dim 1) o.axis))))] [] ?_ ?_
     ·refine zE (jY nG)<|zR (jZ kK)<|zE xX<|zE (oV (vb (o.b != 0)) (kA (by kernel_rfl)))<|?_
      rcases hb8:(o.b != 0) with _ | _
      ·replace hb8:=bne_eq_false_iff_eq.1 hb8
       exact zM<|zE (jY mO)<|zR (jZ kK)<|zE (kD (n_cn (cO dim 1) o.axis (by first | assumption | (have:=yG dim 1;have:=yG dim 0;omega))))<|zE eU<|zE zG<|zM<|zZ
      ·replace hb8:=bne_iff_ne.1 hb8
       exact zK<|zK<|zK<|zK<|zK<|zE uP<|zM<|zZ
     refine jG ⟨_,(.tmp (d:=(.val (.bool (((o.b != 0)||!(gG (cO dim 1) o.axis)))))) rfl .nil),?_⟩
     unfold odN
     rw[if_neg (by first | exact h3 | exact ne_true_of_eq_false h3 | exact fun hn=>hn h3 | simpa using h3)]
     rw[if_neg (by first | exact h4 | exact ne_true_of_eq_false h4 | exact fun hn=>hn h4 | simpa using h4)]
     rw[if_neg (by first | exact h5 | exact ne_true_of_eq_false h5 | exact fun hn=>hn h5 | simpa using h5)]
     rw[if_pos (by first | exact h7 | exact ne_true_of_eq_false h7 | exact fun hn=>hn h7 | simpa using h7)]
     rfl
    ·replace h7:=ne_of_beq_false h7
     refine jA<|kx [(52,(vb (o.kind == 3)))] [] (zE zW<|zM<|zZ) ?_
     refine jF (b:=(o.kind == 3)) rfl (fun h9=>?_) (fun h9=>?_)
     ·replace h9:=eq_of_beq h9
      refine jA<|kx [(4,(vb ((o.axis != 0)||(o.a == o.b))))] [] ?_ ?_
      ·refine zE (jY mO)<|zR (jZ kK)<|zE xX<|zE (oV (vb (o.axis != 0)) (kA (by kernel_rfl)))<|?_
       rcases hb10:(o.axis != 0) with _ | _
       ·replace hb10:=bne_eq_false_iff_eq.1 hb10
        exact zE (jY mX)<|zR (jZ kK)<|zE (jY nG)<|zR (jZ kK)<|zE zW<|zE zG<|zM<|zZ
       ·replace hb10:=bne_iff_ne.1 hb10
        exact zK<|zK<|zK<|zK<|zK<|zE uP<|zM<|zZ
      refine jG ⟨_,(.tmp (d:=(.val (.bool (((o.axis != 0)||(o.a == o.b)))))) rfl .nil),?_⟩
      unfold odN
      rw[if_neg (by first | exact h3 | exact ne_true_of_eq_false h3 | exact fun hn=>hn h3 | simpa using h3)]
      rw[if_neg (by first | exact h4 | exact ne_true_of_eq_false h4 | exact fun hn=>hn h4 | simpa using h4)]
      rw[if_neg (by first | exact h5 | exact ne_true_of_eq_false h5 | exact fun hn=>hn h5 | simpa using h5)]
      rw[if_neg (by first | exact h7 | exact ne_true_of_eq_false h7 | exact fun hn=>hn h7 | simpa using h7)]
      rw[if_pos (by first | exact h9 | exact ne_true_of_eq_false h9 | exact fun hn=>hn h9 | simpa using h9)]
      rfl
     ·replace h9:=ne_of_beq_false h9
      refine jD<|jA<|jA<|kx [(67,(vb (o.value.a0 != 0)))] [] (zE (jY aQ)<|zE (aB ar66 0)<|zR (jZ kK)<|zE xX<|zZ) ?_
      refine jF (b:=(o.value.a0 != 0)) rfl (fun h11=>?_) (fun h11=>?_)
      ·replace h11:=bne_iff_ne.1 h11
       refine jA<|kx [(4,(vb true))] [] (zM<|zZ) ?_
       refine jG ⟨_,(.tmp (d:=(.val (.bool (true)))) rfl .nil),?_⟩
       unfold odN
       rw[if_neg (by first | exact h3 | exact ne_true_of_eq_false h3 | exact fun hn=>hn h3 | simpa using h3)]
       rw[if_neg (by first | exact h4 | exact ne_true_of_eq_false h4 | exact fun hn=>hn h4 | simpa using h4)]
       rw[if_neg (by first | exact h5 | exact ne_true_of_eq_false h5 | exact fun hn=>hn h5 | simpa using h5)]
       rw[if_neg (by first | exact h7 | exact ne_true_of_eq_false h7 | exact fun hn=>hn h7 | simpa using h7)]
       rw[if_neg (by first | exact h9 | exact ne_true_of_eq_false h9 | exact fun hn=>hn h9 | simpa using h9)]
       rw[if_pos (by first | exact h11 | exact ne_true_of_eq_false h11 | exact fun hn=>hn h11 | simpa using h11)]
       rfl
      ·replace h11:=bne_eq_false_iff_eq.1 h11
       refine jD<|jA<|jA<|kx [(70,(vb (o.b == -1)))] [] (zE (jY nG)<|zR (jZ kK)<|zE zW<|zZ) ?_
       refine jF (b:=(o.b == -1)) rfl (fun h12=>?_) (fun h12=>?_)
       ·replace h12:=eq_of_beq h12
        refine jA<|kd [(4,(vb (!(gG (cO dim 0) o.axis))))] [] mo (wM<|wE (kD (n_axesN dim 0))<|wE (jY mO)<|wR (jZ kK)<|wE (kD (n_cn (cO dim 0) o.axis (by first | assumption | (have:=yG dim 1;have:=yG dim 0;omega))))<|wE eU<|wM<|wZ) ?_
        refine jG ⟨_,(.tmp (d:=(.val (.bool (!(gG (cO dim 0) o.axis))))) rfl .nil),?_⟩
        unfold odN
        rw[if_neg (by first | exact h3 | exact ne_true_of_eq_false h3 | exact fun hn=>hn h3 | simpa using h3)]
        rw[if_neg (by first | exact h4 | exact ne_true_of_eq_false h4 | exact fun hn=>hn h4 | simpa using h4)]
        rw[if_neg (by first | exact h5 | exact ne_true_of_eq_false h5 | exact fun hn=>hn h5 | simpa using h5)]
        rw[if_neg (by first | exact h7 | exact ne_true_of_eq_false h7 | exact fun hn=>hn h7 | simpa using h7)]
        rw[if_neg (by first | exact h9 | exact ne_true_of_eq_false h9 | exact fun hn=>hn h9 | simpa using h9)]
        rw[if_neg (by first | exact h11 | exact ne_true_of_eq_false h11 | exact fun hn=>hn h11 | simpa using h11)]
        rw[if_pos (by first | exact h12 | exact ne_true_of_eq_false h12 | exact fun hn=>hn h12 | simpa using h12)]
        rfl
       ·replace h12:=ne_of_beq_false h12
        refine jD<|jA<|kx [(4,(vb ((o.a != 0)||!(gG (cO dim 1) o.axis))))] [] ?_ ?_
        ·refine zE (jY mX)<|zR (jZ kK)<|zE xX<|zE (oV (vb (o.a != 0)) (kA (by kernel_rfl)))<|?_
         rcases hb13:(o.a != 0) with _ | _
         ·replace hb13:=bne_eq_false_iff_eq.1 hb13
          exact zM<|zE (jY mO)<|zR (jZ kK)<|zE (kD (n_cn (cO dim 1) o.axis (by first | assumption | (have:=yG dim 1;have:=yG dim 0;omega))))<|zE eU<|zE zG<|zM<|zZ
         ·replace hb13:=bne_iff_ne.1 hb13
          exact zK<|zK<|zK<|zK<|zK<|zE uP<|zM<|zZ
        refine jG ⟨_,(.tmp (d:=(.val (.bool (((o.a != 0)||!(gG (cO dim 1) o.axis)))))) rfl .nil),?_⟩
        unfold odN
        rw[if_neg (by first | exact h3 | exact ne_true_of_eq_false h3 | exact fun hn=>hn h3 | simpa using h3)]
        rw[if_neg (by first | exact h4 | exact ne_true_of_eq_false h4 | exact fun hn=>hn h4 | simpa using h4)]
        rw[if_neg (by first | exact h5 | exact ne_true_of_eq_false h5 | exact fun hn=>hn h5 | simpa using h5)]
        rw[if_neg (by first | exact h7 | exact ne_true_of_eq_false h7 | exact fun hn=>hn h7 | simpa using h7)]
        rw[if_neg (by first | exact h9 | exact ne_true_of_eq_false h9 | exact fun hn=>hn h9 | simpa using h9)]
        rw[if_neg (by first | exact h11 | exact ne_true_of_eq_false h11 | exact fun hn=>hn h11 | simpa using h11)]
        rw[if_neg (by first | exact h12 | exact ne_true_of_eq_false h12 | exact fun hn=>hn h12 | simpa using h12)]
        rfl
end Go.Proofs.YtciingpdmjepgaaGreat
