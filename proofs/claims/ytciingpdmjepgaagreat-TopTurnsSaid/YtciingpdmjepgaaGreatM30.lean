/- Part 30 of a proof: rules, plain facts, and functions walked. -/
import Derived.Test.YtciingpdmjepgaaGreatM28
import Derived.Test.YtciingpdmjepgaaGreatM29
set_option linter.all false
set_option maxRecDepth 4000
namespace Go.Proofs.YtciingpdmjepgaaGreat
open Go.Fid
theorem ar66:arrB Tryz.prog 66=some (2,3,1):=by kernel_rfl
theorem eI:uJ Tryz.prog 22=some (38,10):=by kernel_rfl
theorem el23:uJ Tryz.prog 23=some (30,3):=by kernel_rfl
theorem gL:uF Tryz.prog 26 1=some 1:=by kernel_rfl
theorem dW:uF Tryz.prog 26 2=some 2:=by kernel_rfl
theorem fo30_0:uF Tryz.prog 30 0=some 0:=by kernel_rfl
theorem dC:uF Tryz.prog 30 1=some 1:=by kernel_rfl
theorem fo30_2:uF Tryz.prog 30 2=some 2:=by kernel_rfl
theorem fo36_0:uF Tryz.prog 36 0=some 0:=by kernel_rfl
theorem fo36_1:uF Tryz.prog 36 1=some 1:=by kernel_rfl
theorem fQ:uF Tryz.prog 38 0=some 0:=by kernel_rfl
theorem cW:uF Tryz.prog 38 1=some 3:=by kernel_rfl
theorem fo38_2:uF Tryz.prog 38 2=some 7:=by kernel_rfl
theorem fo38_3:uF Tryz.prog 38 3=some 8:=by kernel_rfl
theorem zD:uF Tryz.prog 68 0=some 0:=by kernel_rfl
theorem mX:uF Tryz.prog 68 1=some 1:=by kernel_rfl
theorem nG:uF Tryz.prog 68 2=some 2:=by kernel_rfl
theorem mO:uF Tryz.prog 68 3=some 3:=by kernel_rfl
theorem aQ:uF Tryz.prog 68 4=some 4:=by kernel_rfl
theorem sh22:kQ Tryz.prog 22=some (false,1):=by kernel_rfl
theorem sh23:kQ Tryz.prog 23=some (false,1):=by kernel_rfl
theorem eK:kQ Tryz.prog 65=some (false,1):=by kernel_rfl
theorem n_small(l:List Int)(m:Int)(hml:0<=m)(hmh:m<=4611686018427387904)(hb:l.length<=1000000):jU Tryz.prog 17 [(.sl 3 1 (List.map jT l)),(.val (.int .i64 (m)))] (.val (.bool ((smI l m)))):=by
 refine vD Tryz.func17 ?_
 refine jA<|kx [] [] (zM<|zZ) ?_
 refine jA<|jA<|kx [(5,(jN 0))] [] (zM<|zZ) ?_
 refine jH<|kF (α:=Nat) (fun i=>⟨[(0,(vl 3 1 jT l)),(1,(vi m)),(5,(jN i))],[]⟩) (fun i=>i<=l.length/\∀ j,j<i->xA m (l.getD j 0)=false) (fun i=>l.length-i) 0 wk ⟨Nat.zero_le _,fun j hj=>absurd hj (Nat.not_lt_zero j)⟩ ?_
 rintro i ⟨hi,hv⟩
 refine jA<|jA<|kx [(9,(vb (decide (((i:Nat):Int)<((l.length:Nat):Int)))))] [] (zM<|zM<|zE (vV xN)<|zE uT<|zZ) ?_
 refine jF rfl (fun h1=>?_) (fun h1=>?_)
 ·replace h1:=uY h1
  refine jD<|jA<|jH<|jA<|kx [(26,(vb (decide ((l.getD i 0) < -m)||decide (m<(l.getD i 0)))))] [] ?_ ?_
  ·refine zM<|zM<|zE (nA xN i (0:Int))<|zE (mV kK)<|zM<|zE (oNg (-m) (hr:=by exact (qG (by first | omega | rfl | (dsimp only;omega)) (by simp only[vR];omega) (by simp only[vS];omega))))<|zE uT<|zE (oV (vb (decide ((l.getD i 0) < -m))) (kA (by kernel_rfl)))<|?_
   rcases hb2:(decide ((l.getD i 0) < -m)) with _ | _
   ·replace hb2:=uZ hb2
    exact zM<|zM<|zE (nA xN i (0:Int))<|zE (mV kK)<|zM<|zE cC<|zE zG<|zZ
   ·replace hb2:=uY hb2
    exact zK<|zK<|zK<|zK<|zK<|zK<|zE uP<|zZ
  refine jF rfl (fun h3=>?_) (fun h3=>?_)
  ·refine jA<|kx [(4,(vb false))] [] (zM<|zZ) ?_
   refine jG ⟨_,(.tmp (d:=(.val (.bool (false)))) rfl .nil),?_⟩
   rw[smI_no (show i<l.length by omega) (by exact h3)];rfl
  ·refine jD<|kx [(5,(jN (i+1)))] [] (zM<|zE (uL (i+1) (hr:=by exact (qG (by first | omega | rfl | (dsimp only;omega)) (by simp only[vR];omega) (by simp only[vS];omega))))<|zM<|zZ) ?_
   exact ⟨i+1,wk,⟨by omega,gO hv (by exact h3)⟩,(by first|omega|(dsimp only;omega))⟩
 ·replace h1:=uZ h1
  refine jS<|jA<|kx [(4,(vb true))] [] (zM<|zZ) ?_
  refine jG ⟨_,(.tmp (d:=(.val (.bool (true)))) rfl .nil),?_⟩
  rw[smI_yes (fun j hj=>hv j (by omega))];rfl
theorem n_has(l:List Int)(n:Int)(hb:l.length<=1000000):jU Tryz.prog 37 [(.sl 3 1 (List.map jT l)),(.val (.int .i64 (n)))] (.val (.bool ((gG l n)))):=by
 refine vD Tryz.func37 ?_
 refine jA<|kx [] [] (zM<|zZ) ?_
 refine jA<|jA<|kx [(5,(jN 0))] [] (zM<|zZ) ?_
 refine jH<|kF (α:=Nat) (fun i=>⟨[(0,(vl 3 1 jT l)),(1,(vi n)),(5,(jN i))],[]⟩) (fun i=>i<=l.length/\∀ j,j<i->¬ l.getD j 0=n) (fun i=>l.length-i) 0 wk ⟨Nat.zero_le _,fun j hj=>absurd hj (Nat.not_lt_zero j)⟩ ?_
 rintro i ⟨hi,hv⟩
 refine jA<|jA<|kx [(9,(vb (decide (((i:Nat):Int)<((l.length:Nat):Int)))))] [] (zM<|zM<|zE (vV xN)<|zE uT<|zZ) ?_
 refine jF rfl (fun h1=>?_) (fun h1=>?_)
 ·replace h1:=uY h1
  refine jD<|jA<|jH<|jA<|kx [(17,(vb ((l.getD i 0) == n)))] [] (zM<|zM<|zE (nA xN i (0:Int))<|zE (mV kK)<|zM<|zE zW<|zZ) ?_
  refine jF (b:=((l.getD i 0) == n)) rfl (fun h2=>?_) (fun h2=>?_)
  ·replace h2:=eq_of_beq h2
   refine jA<|kx [(4,(vb true))] [] (zM<|zZ) ?_
   refine jG ⟨_,(.tmp (d:=(.val (.bool (true)))) rfl .nil),?_⟩
   rw[hasI_yes (show i<l.length by omega) h2];rfl
  ·replace h2:=ne_of_beq_false h2
   refine jD<|kx [(5,(jN (i+1)))] [] (zM<|zE (uL (i+1))<|zM<|zZ) ?_
   exact ⟨i+1,wk,⟨by omega,gO hv h2⟩,(by first|omega|(dsimp only;omega))⟩
 ·replace h1:=uZ h1
  refine jS<|jA<|kx [(4,(vb false))] [] (zM<|zZ) ?_
  refine jG ⟨_,(.tmp (d:=(.val (.bool (false)))) rfl .nil),?_⟩
  rw[hasI_no (fun j hj=>hv j (by omega))];rfl
theorem eR(i:Int)(n:Int):jU Tryz.prog 36 [(.val (.int .i64 (i))),(.val (.int .i64 (n)))] (.val (.bool ((mC i n)))):=by
 refine vD Tryz.func36 ?_
 refine jA<|kx [] [] (zM<|zZ) ?_
 refine jA<|kx [(4,(vb (decide (0<=i)&&decide (i<n))))] [] ?_ ?_
 ·refine zM<|zE oGe<|zE (oV (vb (decide (0<=i))) (kA (by kernel_rfl)))<|?_
  rcases hb1:(decide (0<=i)) with _ | _
  ·replace hb1:=uZ hb1
   exact zK<|zK<|zK<|zE mJ<|zM<|zZ
  ·replace hb1:=uY hb1
   exact zM<|zM<|zE uT<|zE aC<|zM<|zZ
 refine jG ⟨_,(.tmp (d:=(.val (.bool ((decide (0<=i)&&decide (i<n)))))) rfl .nil),?_⟩
 rfl
theorem n_axes(dim:Int)(k:Int):jU Tryz.prog 38 [(.val (.int .i64 (dim))),(.val (.int .i64 (k)))] (.sl 3 1 (List.map jT (cO dim k))):=by
 refine vD Tryz.func38 ?_
 refine jA<|kx [] [] (zE (fH 3 1)<|zZ) ?_
 refine jA<|jA<|kx [(10,(vb ((dim == 2)&&(k == 0))))] [] ?_ ?_
 ·refine zM<|zE zW<|zE (oV (vb (dim == 2)) (kA (by kernel_rfl)))<|?_
  rcases hb1:(dim == 2) with _ | _
  ·replace hb1:=ne_of_beq_false hb1
   exact zK<|zK<|zE mJ<|zZ
  ·replace hb1:=eq_of_beq hb1
   exact zM<|zE zW<|zE aC<|zZ
 refine jF (b:=((dim == 2)&&(k == 0))) rfl (fun h2=>?_) (fun h2=>?_)
 ·refine jA<|kx [(4,(vl 3 1 jT [0,2,4]))] [] (zE (eG xN ze3 zo3)<|zM<|zZ) ?_
  refine jG ⟨_,(.tmp (d:=(.sl 3 1 (List.map jT [0,2,4]))) rfl .nil),?_⟩
  unfold cO
  rw[if_pos (by first | exact h2 | exact ne_true_of_eq_false h2 | exact fun hn=>hn h2 | simpa using h2)]
  rfl
 ·refine jD<|jA<|jA<|kx [(13,(vb (dim == 2)))] [] (zM<|zE zW<|zZ) ?_
  refine jF (b:=(dim == 2)) rfl (fun h3=>?_) (fun h3=>?_)
  ·replace h3:=eq_of_beq h3
   refine jA<|kx [(4,(vl 3 1 jT [0,2]))] [] (zE (eG xN ze3 zo3)<|zM<|zZ) ?_
   refine jG ⟨_,(.tmp (d:=(.sl 3 1 (List.map jT [0,2]))) rfl .nil),?_⟩
   unfold cO
   rw[if_neg (by first | exact h2 | exact ne_true_of_eq_false h2 | exact fun hn=>hn h2 | simpa using h2)]
   rw[if_pos (by first | exact h3 | exact ne_true_of_eq_false h3 | exact fun hn=>hn h3 | simpa using h3)]
   rfl
  ·replace h3:=ne_of_beq_false h3
   refine jD<|jA<|jA<|kx [(16,(vb (k == 0)))] [] (zM<|zE zW<|zZ) ?_
   refine jF (b:=(k == 0)) rfl (fun h4=>?_) (fun h4=>?_)
   ·replace h4:=eq_of_beq h4
    refine jA<|kx [(4,(vl 3 1 jT [0,1,2,3,4,5]))] [] (zE (eG xN ze3 zo3)<|zM<|zZ) ?_
    refine jG ⟨_,(.tmp (d:=(.sl 3 1 (List.map jT [0,1,2,3,4,5]))) rfl .nil),?_⟩
    unfold cO
    rw[if_neg (by first | exact h2 | exact ne_true_of_eq_false h2 | exact fun hn=>hn h2 | simpa using h2)]
    rw[if_neg (by first | exact h3 | exact ne_true_of_eq_false h3 | exact fun hn=>hn h3 | simpa using h3)]
    rw[if_pos (by first | exact h4 | exact ne_true_of_eq_false h4 | exact fun hn=>hn h4 | simpa using h4)]
    rfl
   ·replace h4:=ne_of_beq_false h4
    refine jD<|jA<|kx [(4,(vl 3 1 jT [0,1,2]))] [] (zE (eG xN ze3 zo3)<|zM<|zZ) ?_
    refine jG ⟨_,(.tmp (d:=(.sl 3 1 (List.map jT [0,1,2]))) rfl .nil),?_⟩
    unfold cO
    rw[if_neg (by first | exact h2 | exact ne_true_of_eq_false h2 | exact fun hn=>hn h2 | simpa using h2)]
    rw[if_neg (by first | exact h3 | exact ne_true_of_eq_false h3 | exact fun hn=>hn h3 | simpa using h3)]
    rw[if_neg (by first | exact h4 | exact ne_true_of_eq_false h4 | exact fun hn=>hn h4 | simpa using h4)]
    rfl
theorem n_axesN(dim:Int)(k:Int):jU Tryz.prog 81 [(.val (.int .i64 (dim))),(.val (.int .i64 (k)))] (.sl 3 1 (List.map jT (cO dim k))):=by
 refine vD Tryz.func81 ?_
 refine jA<|kx [] [] (zE (fH 3 1)<|zZ) ?_
 refine jA<|jH<|jA<|kx [(5,(vb ((dim == 2)&&(k == 0))))] [] ?_ ?_
 ·refine zM<|zE zW<|zE (oV (vb (dim == 2)) (kA (by kernel_rfl)))<|?_
  rcases hb1:(dim == 2) with _ | _
  ·replace hb1:=ne_of_beq_false hb1
   exact zK<|zK<|zE mJ<|zM<|zZ
  ·replace hb1:=eq_of_beq hb1
   exact zM<|zE zW<|zE aC<|zM<|zZ
 refine jF (b:=((dim == 2)&&(k == 0))) rfl (fun h2=>?_) (fun h2=>?_)
 ·refine jA<|kx [(4,(vl 3 1 jT [0,2,4]))] [] (zE (eG xN ze3 zo3)<|zM<|zZ) ?_
  refine jG ⟨_,(.tmp (d:=(.sl 3 1 (List.map jT [0,2,4]))) rfl .nil),?_⟩
  unfold cO
  rw[if_pos (by first | exact h2 | exact ne_true_of_eq_false h2 | exact fun hn=>hn h2 | simpa using h2)]
  rfl
 ·refine jA<|kx [(13,(vb (dim == 2)))] [] (zM<|zE zW<|zM<|zZ) ?_
  refine jF (b:=(dim == 2)) rfl (fun h3=>?_) (fun h3=>?_)
  ·replace h3:=eq_of_beq h3
   refine jA<|kx [(4,(vl 3 1 jT [0,2]))] [] (zE (eG xN ze3 zo3)<|zM<|zZ) ?_
   refine jG ⟨_,(.tmp (d:=(.sl 3 1 (List.map jT [0,2]))) rfl .nil),?_⟩
   unfold cO
   rw[if_neg (by first | exact h2 | exact ne_true_of_eq_false h2 | exact fun hn=>hn h2 | simpa using h2)]
   rw[if_pos (by first | exact h3 | exact ne_true_of_eq_false h3 | exact fun hn=>hn h3 | simpa using h3)]
   rfl
  ·replace h3:=ne_of_beq_false h3
   refine jA<|kx [(17,(vb (k == 0)))] [] (zM<|zE zW<|zM<|zZ) ?_
   refine jF (b:=(k == 0)) rfl (fun h4=>?_) (fun h4=>?_)
   ·replace h4:=eq_of_beq h4
    refine jA<|kx [(4,(vl 3 1 jT [0,1,2,3,4,5]))] [] (zE (eG xN ze3 zo3)<|zM<|zZ) ?_
    refine jG ⟨_,(.tmp (d:=(.sl 3 1 (List.map jT [0,1,2,3,4,5]))) rfl .nil),?_⟩
    unfold cO
    rw[if_neg (by first | exact h2 | exact ne_true_of_eq_false h2 | exact fun hn=>hn h2 | simpa using h2)]
    rw[if_neg (by first | exact h3 | exact ne_true_of_eq_false h3 | exact fun hn=>hn h3 | simpa using h3)]
    rw[if_pos (by first | exact h4 | exact ne_true_of_eq_false h4 | exact fun hn=>hn h4 | simpa using h4)]
    rfl
   ·replace h4:=ne_of_beq_false h4
    refine jD<|jA<|kx [(4,(vl 3 1 jT [0,1,2]))] [] (zE (eG xN ze3 zo3)<|zM<|zZ) ?_
    refine jG ⟨_,(.tmp (d:=(.sl 3 1 (List.map jT [0,1,2]))) rfl .nil),?_⟩
    unfold cO
    rw[if_neg (by first | exact h2 | exact ne_true_of_eq_false h2 | exact fun hn=>hn h2 | simpa using h2)]
    rw[if_neg (by first | exact h3 | exact ne_true_of_eq_false h3 | exact fun hn=>hn h3 | simpa using h3)]
    rw[if_neg (by first | exact h4 | exact ne_true_of_eq_false h4 | exact fun hn=>hn h4 | simpa using h4)]
    rfl
theorem n_st33(dim:Int)(s:kM):jU Tryz.prog 13 [(.val (.int .i64 (dim))),(uQ s)] (.val (.int .i64 ((((eH dim s):Nat):Int)))):=by
 refine vD Tryz.func13 ?_
 refine jA<|kx [(3,(.ref 0 0))] [(0,some (bx (uQ s)))] (zN (yB 0)<|zM<|zZ) ?_
 refine jA<|jA<|kx [(33,(vb ((!(smI [s.at_.x,s.at_.y,s.at_.z,s.centre.x,s.centre.y] 1048576)||decide (s.focal<1))||decide (1048576<s.focal))))] [] ?_ ?_
 ·refine zE (jY fQ)<|zE (jY fo30_0)<|zR (jZ kK)<|zE (jY fQ)<|zE (jY dC)<|zR (jZ kK)<|zE (jY fQ)<|zE (jY fo30_2)<|zR (jZ kK)<|zE (jY fo38_3)<|zE (jY fo36_0)<|zR (jZ kK)<|zE (jY fo38_3)<|zE (jY fo36_1)<|zR (jZ kK)<|zE (eG xN ze3 zo3)<|zE (kD (n_small [s.at_.x,s.at_.y,s.at_.z,s.centre.x,s.centre.y] 1048576 (by omega) (by omega) (by first | assumption | decide | (simp only[List.length_cons,List.length_nil];omega))))<|zE eU<|zE (oV (vb (!(smI [s.at_.x,s.at_.y,s.at_.z,s.centre.x,s.centre.y] 1048576))) (kA (by kernel_rfl)))<|?_
  rcases hb1:(!(smI [s.at_.x,s.at_.y,s.at_.z,s.centre.x,s.centre.y] 1048576)) with _ | _
  ·refine zE (jY fo38_2)<|zR (jZ kK)<|zE uT<|zE zG<|zE (oV (vb (false||decide (s.focal<1))) (kA (by kernel_rfl)))<|?_
   rcases hb2:(false||decide (s.focal<1)) with _ | _
   ·replace hb2:=uZ (p:=(s.focal<1)) hb2
    exact zE (jY fo38_2)<|zR (jZ kK)<|zE cC<|zE zG<|zZ
   ·replace hb2:=uY (p:=(s.focal<1)) hb2
    exact zK<|zK<|zK<|zE uP<|zZ
  ·exact zK<|zK<|zK<|zE uP<|zM<|zK<|zK<|zK<|zE uP<|zZ
 refine jF rfl (fun h3=>?_) (fun h3=>?_)
 ·refine jA<|kx [(4,(jN 2))] [] (zM<|zZ) ?_
  refine jG ⟨_,(.tmp (d:=(.val (.int .i64 (2)))) rfl .nil),?_⟩
  unfold eH
  rw[if_pos (by first | exact h3 | exact ne_true_of_eq_false h3 | exact fun hn=>hn h3 | simpa using h3)]
  rfl
 ·refine jD<|jA<|jA<|kx [(5,(jN (yD s.turn.a s.turn.b s.turn.c s.turn.d)))] [] (zE (jY cW)<|zR (qE qQ)<|zE (kD (qs_chk s.turn.a s.turn.b s.turn.c s.turn.d))<|zM<|zZ) ?_
  refine jA<|kx [(38,(vb ((((yD s.turn.a s.turn.b s.turn.c s.turn.d):Nat):Int) != 0)))] [] (zM<|zE xX<|zZ) ?_
  refine jF rfl (fun h4=>?_) (fun h4=>?_)
  ·replace h4:=bne_iff_ne.1 h4
   refine jA<|kx [(4,(jN (yD s.turn.a s.turn.b s.turn.c s.turn.d)))] [] (zM<|zM<|zZ) ?_
   refine jG ⟨_,(.tmp (d:=(.val (.int .i64 ((((yD s.turn.a s.turn.b s.turn.c s.turn.d):Nat):Int))))) rfl .nil),?_⟩
   unfold eH
   rw[if_neg (by first | exact h3 | exact ne_true_of_eq_false h3 | exact fun hn=>hn h3 | simpa using h3)]
   rw[if_pos (by first | exact h4 | exact ne_true_of_eq_false h4 | exact fun hn=>hn h4 | simpa using h4)]
   rfl
  ·replace h4:=bne_eq_false_iff_eq.1 h4
   refine jD<|jA<|jA<|kx [(65,(vb ((dim == 2)&&((((s.at_.y != 0)||(s.centre.y != 0))||(s.turn.b != 0))||(s.turn.d != 0)))))] [] ?_ ?_
   ·refine zM<|zE zW<|zE (oV (vb (dim == 2)) (kA (by kernel_rfl)))<|?_
    rcases hb5:(dim == 2) with _ | _
    ·replace hb5:=ne_of_beq_false hb5
     exact zK<|zK<|zK<|zK<|zK<|zK<|zK<|zK<|zK<|zK<|zK<|zK<|zK<|zK<|zK<|zK<|zK<|zK<|zK<|zK<|zK<|zK<|zE mJ<|zZ
    ·replace hb5:=eq_of_beq hb5
     refine zE (jY fQ)<|zE (jY dC)<|zR (jZ kK)<|zE xX<|zE (oV (vb (s.at_.y != 0)) (kA (by kernel_rfl)))<|?_
     rcases hb6:(s.at_.y != 0) with _ | _
     ·replace hb6:=bne_eq_false_iff_eq.1 hb6
      refine zE (jY fo38_3)<|zE (jY fo36_1)<|zR (jZ kK)<|zE xX<|zE zG<|zE (oV (vb (false||(s.centre.y != 0))) (kA (by kernel_rfl)))<|?_
      rcases hb7:(false||(s.centre.y != 0)) with _ | _
      ·refine zE (jY cW)<|zE (jY uS)<|zR (jZ kK)<|zE xX<|zE zG<|zE (oV (vb (false||(s.turn.b != 0))) (kA (by kernel_rfl)))<|?_
       rcases hb8:(false||(s.turn.b != 0)) with _ | _
       ·exact zE (jY cW)<|zE (jY uR)<|zR (jZ kK)<|zE xX<|zE zG<|zE aC<|zZ
       ·exact zK<|zK<|zK<|zK<|zE uP<|zE uP<|zZ
      ·exact zK<|zK<|zK<|zK<|zE uP<|zM<|zK<|zK<|zK<|zK<|zE uP<|zE uP<|zZ
     ·replace hb6:=bne_iff_ne.1 hb6
      exact zK<|zK<|zK<|zK<|zE uP<|zM<|zK<|zK<|zK<|zK<|zE uP<|zM<|zK<|zK<|zK<|zK<|zE uP<|zE uP<|zZ
   refine jF rfl (fun h9=>?_) (fun h9=>?_)
   ·refine jA<|kx [(4,(jN 1))] [] (zM<|zZ) ?_
    refine jG ⟨_,(.tmp (d:=(.val (.int .i64 (1)))) rfl .nil),?_⟩
    unfold eH
    rw[if_neg (by first | exact h3 | exact ne_true_of_eq_false h3 | exact fun hn=>hn h3 | simpa using h3)]
    rw[if_neg (by first | exact h4 | exact ne_true_of_eq_false h4 | exact fun hn=>hn h4 | simpa using h4)]
    rw[if_pos (by first | exact h9 | exact ne_true_of_eq_false h9 | exact fun hn=>hn h9 | simpa using h9)]
    rfl
   ·refine jD<|jA<|kx [(4,(jN 0))] [] (zM<|zZ) ?_
    refine jG ⟨_,(.tmp (d:=(.val (.int .i64 (0)))) rfl .nil),?_⟩
    unfold eH
    rw[if_neg (by first | exact h3 | exact ne_true_of_eq_false h3 | exact fun hn=>hn h3 | simpa using h3)]
    rw[if_neg (by first | exact h4 | exact ne_true_of_eq_false h4 | exact fun hn=>hn h4 | simpa using h4)]
    rw[if_neg (by first | exact h9 | exact ne_true_of_eq_false h9 | exact fun hn=>hn h9 | simpa using h9)]
    rfl
theorem n_pt33(dim:Int)(p:jM):jU Tryz.prog 14 [(.val (.int .i64 (dim))),(kH p)] (.val (.int .i64 ((((pt33 dim p):Nat):Int)))):=by
 refine vD Tryz.func14 ?_
 refine jA<|kx [(3,(.ref 0 0))] [(0,some (bx (kH p)))] (zN (yB 0)<|zM<|zZ) ?_
 refine jA<|jA<|kx [(13,(vb (!(smI [p.x,p.y,p.z] 1048576))))] [] (zE (jY fo30_0)<|zR (jZ kK)<|zE (jY dC)<|zR (jZ kK)<|zE (jY fo30_2)<|zR (jZ kK)<|zE (eG xN ze3 zo3)<|zE (kD (n_small [p.x,p.y,p.z] 1048576 (by omega) (by omega) (by first | assumption | decide | (simp only[List.length_cons,List.length_nil];omega))))<|zE eU<|zZ) ?_
 refine jF (b:=!(smI [p.x,p.y,p.z] 1048576)) rfl (fun h1=>?_) (fun h1=>?_)
 ·refine jA<|kx [(4,(jN 2))] [] (zM<|zZ) ?_
  refine jG ⟨_,(.tmp (d:=(.val (.int .i64 (2)))) rfl .nil),?_⟩
  unfold pt33
  rw[if_pos (by first | exact h1 | exact ne_true_of_eq_false h1 | exact fun hn=>hn h1 | simpa using h1)]
  rfl
 ·refine jD<|jA<|jA<|kx [(20,(vb ((dim == 2)&&(p.y != 0))))] [] ?_ ?_
  ·refine zM<|zE zW<|zE (oV (vb (dim == 2)) (kA (by kernel_rfl)))<|?_
   rcases hb2:(dim == 2) with _ | _
   ·replace hb2:=ne_of_beq_false hb2
    exact zK<|zK<|zK<|zE mJ<|zZ
   ·replace hb2:=eq_of_beq hb2
    exact zE (jY dC)<|zR (jZ kK)<|zE xX<|zE aC<|zZ
  refine jF (b:=((dim == 2)&&(p.y != 0))) rfl (fun h3=>?_) (fun h3=>?_)
  ·refine jA<|kx [(4,(jN 1))] [] (zM<|zZ) ?_
   refine jG ⟨_,(.tmp (d:=(.val (.int .i64 (1)))) rfl .nil),?_⟩
   unfold pt33
   rw[if_neg (by first | exact h1 | exact ne_true_of_eq_false h1 | exact fun hn=>hn h1 | simpa using h1)]
   rw[if_pos (by first | exact h3 | exact ne_true_of_eq_false h3 | exact fun hn=>hn h3 | simpa using h3)]
   rfl
  ·refine jD<|jA<|kx [(4,(jN 0))] [] (zM<|zZ) ?_
   refine jG ⟨_,(.tmp (d:=(.val (.int .i64 (0)))) rfl .nil),?_⟩
   unfold pt33
   rw[if_neg (by first | exact h1 | exact ne_true_of_eq_false h1 | exact fun hn=>hn h1 | simpa using h1)]
   rw[if_neg (by first | exact h3 | exact ne_true_of_eq_false h3 | exact fun hn=>hn h3 | simpa using h3)]
   rfl
theorem n_miss(b:qW)(o:kL):jU Tryz.prog 15 [(kJ b),(qN o)] (.val (.bool ((msB b o)))):=by
 refine vD Tryz.func15 ?_
 refine jA<|kx [(2,(.ref 0 0)),(3,(.ref 1 0))] [(0,some (bx (kJ b))),(1,some (bx (qN o)))] (zN (yB 0)<|zN (yB 1)<|zM<|zZ) ?_
 refine jA<|kd [(5,(jN b.sts.length)),(6,(jN b.pts.length))] [] mo (wE (jY gL)<|wR (jZ sh22)<|wE (vV eI)<|wE (jY dW)<|wR (jZ sh23)<|wE (vV el23)<|wM<|wM<|wZ) ?_
 refine jA<|jA<|kx [(14,(vi o.kind))] [] (zE (jY zD)<|zR (jZ eK)<|zZ) ?_
 refine jH<|jA<|kx [(15,(vb (o.kind == 0)))] [] (zE zW<|zM<|zZ) ?_
 refine jF (b:=(o.kind == 0)) rfl (fun h1=>?_) (fun h1=>?_)
 ·replace h1:=eq_of_beq h1
  refine jA<|kx [(4,(vb (!(mC o.a ((b.sts.length:Nat):Int))||!(mC o.b ((b.pts.length:Nat):Int)))))] [] ?_ ?_
  ·refine zE (jY mX)<|zR (jZ kK)<|zM<|zE (kD (eR o.a ((b.sts.length:Nat):Int)))<|zE eU<|zE (oV (vb (!(mC o.a ((b.sts.length:Nat):Int)))) (kA (by kernel_rfl)))<|?_
   rcases hb2:(!(mC o.a ((b.sts.length:Nat):Int))) with _ | _
   ·exact zE (jY nG)<|zR (jZ kK)<|zM<|zE (kD (eR o.b ((b.pts.length:Nat):Int)))<|zE eU<|zE zG<|zM<|zZ
   ·exact zK<|zK<|zK<|zK<|zK<|zE uP<|zM<|zZ
  refine jG ⟨_,(.tmp (d:=(.val (.bool ((!(mC o.a ((b.sts.length:Nat):Int))||!(mC o.b ((b.pts.length:Nat):Int))))))) rfl .nil),?_⟩
  unfold msB
  rw[if_pos (by first | exact h1 | exact ne_true_of_eq_false h1 | exact fun hn=>hn h1 | simpa using h1)]
  rfl
 ·replace h1:=ne_of_beq_false h1
  refine jA<|kx [(29,(vb (o.kind == 1)))] [] (zE zW<|zM<|zZ) ?_
  refine jF (b:=(o.kind == 1)) rfl (fun h3=>?_) (fun h3=>?_)
  ·replace h3:=eq_of_beq h3
   refine jA<|kx [(4,(vb (!(mC o.b ((b.pts.length:Nat):Int)))))] [] (zE (jY nG)<|zR (jZ kK)<|zM<|zE (kD (eR o.b ((b.pts.length:Nat):Int)))<|zE eU<|zM<|zZ) ?_
   refine jG ⟨_,(.tmp (d:=(.val (.bool (!(mC o.b ((b.pts.length:Nat):Int)))))) rfl .nil),?_⟩
   unfold msB
   rw[if_neg (by first | exact h1 | exact ne_true_of_eq_false h1 | exact fun hn=>hn h1 | simpa using h1)]
   rw[if_pos (by first | exact h3 | exact ne_true_of_eq_false h3 | exact fun hn=>hn h3 | simpa using h3)]
   rfl
  ·replace h3:=ne_of_beq_false h3
   refine jA<|kx [(36,(vb (o.kind == 2)))] [] (zE zW<|zM<|zZ) ?_
   refine jF (b:=(o.kind == 2)) rfl (fun h4=>?_) (fun h4=>?_)
   ·replace h4:=eq_of_beq h4
    refine jA<|kx [(4,(vb (!(mC o.a ((b.sts.length:Nat):Int)))))] [] (zE (jY mX)<|zR (jZ kK)<|zM<|zE (kD (eR o.a ((b.sts.length:Nat):Int)))<|zE eU<|zM<|zZ) ?_
    refine jG ⟨_,(.tmp (d:=(.val (.bool (!(mC o.a ((b.sts.length:Nat):Int)))))) rfl .nil),?_⟩
    unfold msB
    rw[if_neg (by first | exact h1 | exact ne_true_of_eq_false h1 | exact fun hn=>hn h1 | simpa using h1)]
    rw[if_neg (by first | exact h3 | exact ne_true_of_eq_false h3 | exact fun hn=>hn h3 | simpa using h3)]
    rw[if_pos (by first | exact h4 | exact ne_true_of_eq_false h4 | exact fun hn=>hn h4 | simpa using h4)]
    rfl
   ·replace h4:=ne_of_beq_false h4
    refine jA<|kx [(43,(vb (o.kind == 3)))] [] (zE zW<|zM<|zZ) ?_
    refine jF (b:=(o.kind == 3)) rfl (fun h5=>?_) (fun h5=>?_)
    ·replace h5:=eq_of_beq h5
     refine jA<|kx [(4,(vb (!(mC o.a ((b.pts.length:Nat):Int))||!(mC o.b ((b.pts.length:Nat):Int)))))] [] ?_ ?_
     ·refine zE (jY mX)<|zR (jZ kK)<|zM<|zE (kD (eR o.a ((b.pts.length:Nat):Int)))<|zE eU<|zE (oV (vb (!(mC o.a ((b.pts.length:Nat):Int)))) (kA (by kernel_rfl)))<|?_
      rcases hb6:(!(mC o.a ((b.pts.length:Nat):Int))) with _ | _
      ·exact zE (jY nG)<|zR (jZ kK)<|zM<|zE (kD (eR o.b ((b.pts.length:Nat):Int)))<|zE eU<|zE zG<|zM<|zZ
      ·exact zK<|zK<|zK<|zK<|zK<|zE uP<|zM<|zZ
     refine jG ⟨_,(.tmp (d:=(.val (.bool ((!(mC o.a ((b.pts.length:Nat):Int))||!(mC o.b ((b.pts.length:Nat):Int))))))) rfl .nil),?_⟩
     unfold msB
     rw[if_neg (by first | exact h1 | exact ne_true_of_eq_false h1 | exact fun hn=>hn h1 | simpa using h1)]
     rw[if_neg (by first | exact h3 | exact ne_true_of_eq_false h3 | exact fun hn=>hn h3 | simpa using h3)]
     rw[if_neg (by first | exact h4 | exact ne_true_of_eq_false h4 | exact fun hn=>hn h4 | simpa using h4)]
     rw[if_pos (by first | exact h5 | exact ne_true_of_eq_false h5 | exact fun hn=>hn h5 | simpa using h5)]
     rfl
    ·replace h5:=ne_of_beq_false h5
     refine jD<|jA<|jA<|kx [(59,(vb (o.b == -1)))] [] (zE (jY nG)<|zR (jZ kK)<|zE zW<|zZ) ?_
     refine jF (b:=(o.b == -1)) rfl (fun h7=>?_) (fun h7=>?_)
     ·replace h7:=eq_of_beq h7
      refine jA<|kx [(4,(vb (!(mC o.a ((b.sts.length:Nat):Int)))))] [] (zE (jY mX)<|zR (jZ kK)<|zM<|zE (kD (eR o.a ((b.sts.length:Nat):Int)))<|zE eU<|zM<|zZ) ?_
      refine jG ⟨_,(.tmp (d:=(.val (.bool (!(mC o.a ((b.sts.length:Nat):Int)))))) rfl .nil),?_⟩
      unfold msB
      rw[if_neg (by first | exact h1 | exact ne_true_of_eq_false h1 | exact fun hn=>hn h1 | simpa using h1)]
      rw[if_neg (by first | exact h3 | exact ne_true_of_eq_false h3 | exact fun hn=>hn h3 | simpa using h3)]
      rw[if_neg (by first | exact h4 | exact ne_true_of_eq_false h4 | exact fun hn=>hn h4 | simpa using h4)]
      rw[if_neg (by first | exact h5 | exact ne_true_of_eq_false h5 | exact fun hn=>hn h5 | simpa using h5)]
      rw[if_pos (by first | exact h7 | exact ne_true_of_eq_false h7 | exact fun hn=>hn h7 | simpa using h7)]
      rfl
     ·replace h7:=ne_of_beq_false h7
      refine jD<|jA<|kx [(4,(vb (!(mC o.b ((b.pts.length:Nat):Int)))))] [] (zE (jY nG)<|zR (jZ kK)<|zM<|zE (kD (eR o.b ((b.pts.length:Nat):Int)))<|zE eU<|zM<|zZ) ?_
      refine jG ⟨_,(.tmp (d:=(.val (.bool (!(mC o.b ((b.pts.length:Nat):Int)))))) rfl .nil),?_⟩
      unfold msB
      rw[if_neg (by first | exact h1 | exact ne_true_of_eq_false h1 | exact fun hn=>hn h1 | simpa using h1)]
      rw[if_neg (by first | exact h3 | exact ne_true_of_eq_false h3 | exact fun hn=>hn h3 | simpa using h3)]
      rw[if_neg (by first | exact h4 | exact ne_true_of_eq_false h4 | exact fun hn=>hn h4 | simpa using h4)]
      rw[if_neg (by first | exact h5 | exact ne_true_of_eq_false h5 | exact fun hn=>hn h5 | simpa using h5)]
      rw[if_neg (by first | exact h7 | exact ne_true_of_eq_false h7 | exact fun hn=>hn h7 | simpa using h7)]
      rfl
theorem n_oddR(dim:Int)(o:kL):jU Tryz.prog 16 [(.val (.int .i64 (dim))),(qN o)] (.val (.bool ((odR dim o)))):=by
 refine vD Tryz.func16 ?_
 refine jA<|kx [(3,(.ref 0 0))] [(0,some (bx (qN o)))] (zN (yB 0)<|zM<|zZ) ?_
 refine jA<|kx [(5,(vb ((o.value.a1 != 0)&&((o.kind != 0)||(dim == 2)))))] [] ?_ ?_
 ·refine zE (jY aQ)<|zE (aB ar66 1)<|zR (jZ kK)<|zE xX<|zE (oV (vb (o.value.a1 != 0)) (kA (by kernel_rfl)))<|?_
  rcases hb1:(o.value.a1 != 0) with _ | _
  ·replace hb1:=bne_eq_false_iff_eq.1 hb1
   exact zK<|zK<|zK<|zK<|zK<|zK<|zK<|zE mJ<|zM<|zZ
  ·replace hb1:=bne_iff_ne.1 hb1
   refine zE (jY zD)<|zR (jZ eK)<|zE xX<|zE (oV (vb (o.kind != 0)) (kA (by kernel_rfl)))<|?_
   rcases hb2:(o.kind != 0) with _ | _
   ·replace hb2:=bne_eq_false_iff_eq.1 hb2
    exact zM<|zE zW<|zE zG<|zE aC<|zM<|zZ
   ·replace hb2:=bne_iff_ne.1 hb2
    exact zK<|zK<|zE uP<|zE uP<|zM<|zZ
 refine jA<|jA<|kx [(20,(vi o.kind))] [] (zE (jY zD)<|zR (jZ eK)<|zZ) ?_
 refine jH<|jA<|kx [(21,(vb (o.kind == 0)))] [] (zE zW<|zM<|zZ) ?_
 refine jF (b:=(o.kind == 0)) rfl (fun h3=>?_) (fun h3=>?_)
 ·replace h3:=eq_of_beq h3
  refine jA<|kx [(4,(vb ((o.axis != 0)||((o.value.a1 != 0)&&((o.kind != 0)||(dim == 2))))))] [] ?_ ?_
  ·refine zE (jY mO)<|zR (jZ kK)<|zE xX<|zE (oV (vb (o.axis != 0)) (kA (by kernel_rfl)))<|?_
   rcases hb4:(o.axis != 0) with _ | _
   ·replace hb4:=bne_eq_false_iff_eq.1 hb4
    exact zM<|zE zG<|zM<|zZ
   ·replace hb4:=bne_iff_ne.1 hb4
    exact zK<|zE uP<|zM<|zZ
  refine jG ⟨_,(.tmp (d:=(.val (.bool (((o.axis != 0)||((o.value.a1 != 0)&&((o.kind != 0)||(dim == 2)))))))) rfl .nil),?_⟩
  unfold odR
  rw[if_pos (by first | exact h3 | exact ne_true_of_eq_false h3 | exact fun hn=>hn h3 | simpa using h3)]
  rfl
 ·replace h3:=ne_of_beq_false h3
  refine jA<|kx [(29,(vb (o.kind == 1)))] [] (zE zW<|zM<|zZ) ?_
  refine jF (b:=(o.kind == 1)) rfl (fun h5=>?_) (fun h5=>?_)
  ·replace h5:=eq_of_beq h5
   refine jA<|kd [(4,(vb ((!(gG (cO dim 1) o.axis)||(o.a != 0))||((o.value.a1 != 0)&&((o.kind != 0)||(dim == 2))))))] [] mo ?_ ?_
   ·refine wM<|wE (kD (n_axes dim 1))<|wE (jY mO)<|wR (jZ kK)<|wE (kD (n_has (cO dim 1) o.axis (by have:=yG dim 1;have:=yG dim 0;omega)))<|wE eU<|wE (oV (vb (!(gG (cO dim 1) o.axis))) (kA (by kernel_rfl)))<|?_
    rcases hb6:(!(gG (cO dim 1) o.axis)) with _ | _
    ·refine wE (jY mX)<|wR (jZ kK)<|wE xX<|wE zG<|wE (oV (vb (false||(o.a != 0))) (kA (by kernel_rfl)))<|?_
     rcases hb7:(false||(o.a != 0)) with _ | _
     ·exact wM<|wE zG<|wM<|wZ
     ·exact wK<|wE uP<|wM<|wZ
    ·exact wK<|wK<|wK<|wE uP<|wM<|wK<|wE uP<|wM<|wZ
   refine jG ⟨_,(.tmp (d:=(.val (.bool (((!(gG (cO dim 1) o.axis)||(o.a != 0))||((o.value.a1 != 0)&&((o.kind != 0)||(dim == 2)))))))) rfl .nil),?_⟩
   unfold odR
   rw[if_neg (by first | exact h3 | exact ne_true_of_eq_false h3 | exact fun hn=>hn h3 | simpa using h3)]
   rw[if_pos (by first | exact h5 | exact ne_true_of_eq_false h5 | exact fun hn=>hn h5 | simpa using h5)]
   rfl
  ·replace h5:=ne_of_beq_false h5
   refine jA<|kx [(45,(vb (o.kind == 2)))] [] (zE zW<|zM<|zZ) ?_
   refine jF (b:=(o.kind == 2)) rfl (fun h8=>?_) (fun h8=>?_)
   ·replace h8:=eq_of_beq h8
    refine jA<|kd [(4,(vb ((!(gG (cO dim 1) o.axis)||(o.b != 0))||((o.value.a1 != 0)&&((o.kind != 0)||(dim == 2))))))] [] mo ?_ ?_
    ·refine wM<|wE (kD (n_axes dim 1))<|wE (jY mO)<|wR (jZ kK)<|wE (kD (n_has (cO dim 1) o.axis (by have:=yG dim 1;have:=yG dim 0;omega)))<|wE eU<|wE (oV (vb (!(gG (cO dim 1) o.axis))) (kA (by kernel_rfl)))<|?_
     rcases hb9:(!(gG (cO dim 1) o.axis)) with _ | _
     ·refine wE (jY nG)<|wR (jZ kK)<|wE xX<|wE zG<|wE (oV (vb (false||(o.b != 0))) (kA (by kernel_rfl)))<|?_
      rcases hb10:(false||(o.b != 0)) with _ | _
      ·exact wM<|wE zG<|wM<|wZ
      ·exact wK<|wE uP<|wM<|wZ
     ·exact wK<|wK<|wK<|wE uP<|wM<|wK<|wE uP<|wM<|wZ
    refine jG ⟨_,(.tmp (d:=(.val (.bool (((!(gG (cO dim 1) o.axis)||(o.b != 0))||((o.value.a1 != 0)&&((o.kind != 0)||(dim == 2)))))))) rfl .nil),?_⟩
    unfold odR
    rw[if_neg (by first | exact h3 | exact ne_true_of_eq_false h3 | exact fun hn=>hn h3 | simpa using h3)]
    rw[if_neg (by first | exact h5 | exact ne_true_of_eq_false h5 | exact fun hn=>hn h5 | simpa using h5)]
    rw[if_pos (by first | exact h8 | exact ne_true_of_eq_false h8 | exact fun hn=>hn h8 | simpa using h8)]
    rfl
   ·replace h8:=ne_of_beq_false h8
    refine jA<|kx [(61,(vb (o.kind == 3)))] [] (zE zW<|zM<|zZ) ?_
    refine jF (b:=(o.kind == 3)) rfl (fun h11=>?_) (fun h11=>?_)
    ·replace h11:=eq_of_beq h11
     refine jA<|kx [(4,(vb (((o.axis != 0)||(o.a == o.b))||((o.value.a1 != 0)&&((o.kind != 0)||(dim == 2))))))] [] ?_ ?_
     ·refine zE (jY mO)<|zR (jZ kK)<|zE xX<|zE (oV (vb (o.axis != 0)) (kA (by kernel_rfl)))<|?_
      rcases hb12:(o.axis != 0) with _ | _
      ·replace hb12:=bne_eq_false_iff_eq.1 hb12
       refine zE (jY mX)<|zR (jZ kK)<|zE (jY nG)<|zR (jZ kK)<|zE zW<|zE zG<|zE (oV (vb (false||(o.a == o.b))) (kA (by kernel_rfl)))<|?_
       rcases hb13:(false||(o.a == o.b)) with _ | _
       ·exact zM<|zE zG<|zM<|zZ
       ·exact zK<|zE uP<|zM<|zZ
      ·replace hb12:=bne_iff_ne.1 hb12
       exact zK<|zK<|zK<|zK<|zK<|zE uP<|zM<|zK<|zE uP<|zM<|zZ
     refine jG ⟨_,(.tmp (d:=(.val (.bool ((((o.axis != 0)||(o.a == o.b))||((o.value.a1 != 0)&&((o.kind != 0)||(dim == 2)))))))) rfl .nil),?_⟩
     unfold odR
     rw[if_neg (by first | exact h3 | exact ne_true_of_eq_false h3 | exact fun hn=>hn h3 | simpa using h3)]
     rw[if_neg (by first | exact h5 | exact ne_true_of_eq_false h5 | exact fun hn=>hn h5 | simpa using h5)]
     rw[if_neg (by first | exact h8 | exact ne_true_of_eq_false h8 | exact fun hn=>hn h8 | simpa using h8)]
     rw[if_pos (by first | exact h11 | exact ne_true_of_eq_false h11 | exact fun hn=>hn h11 | simpa using h11)]
     rfl
    ·replace h11:=ne_of_beq_false h11
     refine jD<|jA<|jA<|kx [(78,(vb (o.b == -1)))] [] (zE (jY nG)<|zR (jZ kK)<|zE zW<|zZ) ?_
     refine jF (b:=(o.b == -1)) rfl (fun h14=>?_) (fun h14=>?_)
     ·replace h14:=eq_of_beq h14
      refine jA<|kd [(4,(vb ((!(gG (cO dim 0) o.axis)||(o.value.a0 != 0))||((o.value.a1 != 0)&&((o.kind != 0)||(dim == 2))))))] [] mo ?_ ?_
      ·refine wM<|wE (kD (n_axes dim 0))<|wE (jY mO)<|wR (jZ kK)<|wE (kD (n_has (cO dim 0) o.axis (by have:=yG dim 1;have:=yG dim 0;omega)))<|wE eU<|wE (oV (vb (!(gG (cO dim 0) o.axis))) (kA (by kernel_rfl)))<|?_
       rcases hb15:(!(gG (cO dim 0) o.axis)) with _ | _
       ·refine wE (jY aQ)<|wE (aB ar66 0)<|wR (jZ kK)<|wE xX<|wE zG<|wE (oV (vb (false||(o.value.a0 != 0))) (kA (by kernel_rfl)))<|?_
        rcases hb16:(false||(o.value.a0 != 0)) with _ | _
        ·exact wM<|wE zG<|wM<|wZ
        ·exact wK<|wE uP<|wM<|wZ
       ·exact wK<|wK<|wK<|wK<|wE uP<|wM<|wK<|wE uP<|wM<|wZ
      refine jG ⟨_,(.tmp (d:=(.val (.bool (((!(gG (cO dim 0) o.axis)||(o.value.a0 != 0))||((o.value.a1 != 0)&&((o.kind != 0)||(dim == 2)))))))) rfl .nil),?_⟩
      unfold odR
      rw[if_neg (by first | exact h3 | exact ne_true_of_eq_false h3 | exact fun hn=>hn h3 | simpa using h3)]
      rw[if_neg (by first | exact h5 | exact ne_true_of_eq_false h5 | exact fun hn=>hn h5 | simpa using h5)]
      rw[if_neg (by first | exact h8 | exact ne_true_of_eq_false h8 | exact fun hn=>hn h8 | simpa using h8)]
      rw[if_neg (by first | exact h11 | exact ne_true_of_eq_false h11 | exact fun hn=>hn h11 | simpa using h11)]
      rw[if_pos (by first | exact h14 | exact ne_true_of_eq_false h14 | exact fun hn=>hn h14 | simpa using h14)]
      rfl
     ·replace h14:=ne_of_beq_false h14
      refine jD<|jA<|kd [(4,(vb (((!(gG (cO dim 1) o.axis)||(o.a != 0))||(o.value.a0 != 0))||((o.value.a1 != 0)&&((o.kind != 0)||(dim == 2))))))] [] mo ?_ ?_
      ·refine wM<|wE (kD (n_axes dim 1))<|wE (jY mO)<|wR (jZ kK)<|wE (kD (n_has (cO dim 1) o.axis (by have:=yG dim 1;have:=yG dim 0;omega)))<|wE eU<|wE (oV (vb (!(gG (cO dim 1) o.axis))) (kA (by kernel_rfl)))<|?_
       rcases hb17:(!(gG (cO dim 1) o.axis)) with _ | _
       ·refine wE (jY mX)<|wR (jZ kK)<|wE xX<|wE zG<|wE (oV (vb (false||(o.a != 0))) (kA (by kernel_rfl)))<|?_
        rcases hb18:(false||(o.a != 0)) with _ | _
        ·refine wE (jY aQ)<|wE (aB ar66 0)<|wR (jZ kK)<|wE xX<|wE zG<|wE (oV (vb (false||(o.value.a0 != 0))) (kA (by kernel_rfl)))<|?_
         rcases hb19:(false||(o.value.a0 != 0)) with _ | _
         ·exact wM<|wE zG<|wM<|wZ
         ·exact wK<|wE uP<|wM<|wZ
        ·exact wK<|wK<|wK<|wK<|wE uP<|wM<|wK<|wE uP<|wM<|wZ
       ·exact wK<|wK<|wK<|wE uP<|wM<|wK<|wK<|wK<|wK<|wE uP<|wM<|wK<|wE uP<|wM<|wZ
      refine jG ⟨_,(.tmp (d:=(.val (.bool ((((!(gG (cO dim 1) o.axis)||(o.a != 0))||(o.value.a0 != 0))||((o.value.a1 != 0)&&((o.kind != 0)||(dim == 2)))))))) rfl .nil),?_⟩
      unfold odR
      rw[if_neg (by first | exact h3 | exact ne_true_of_eq_false h3 | exact fun hn=>hn h3 | simpa using h3)]
      rw[if_neg (by first | exact h5 | exact ne_true_of_eq_false h5 | exact fun hn=>hn h5 | simpa using h5)]
      rw[if_neg (by first | exact h8 | exact ne_true_of_eq_false h8 | exact fun hn=>hn h8 | simpa using h8)]
      rw[if_neg (by first | exact h11 | exact ne_true_of_eq_false h11 | exact fun hn=>hn h11 | simpa using h11)]
      rw[if_neg (by first | exact h14 | exact ne_true_of_eq_false h14 | exact fun hn=>hn h14 | simpa using h14)]
      rfl
end Go.Proofs.YtciingpdmjepgaaGreat
