/- Part 38 of a proof: rules, plain facts, and functions walked. -/
import Derived.Test.YtckccjhflbljgaaGreatDoorM32
import Derived.Test.YtckccjhflbljgaaGreatDoorM17
import Derived.Test.YtckccjhflbljgaaGreatDoorM33
import Derived.Test.YtckccjhflbljgaaGreatDoorM37
import Derived.Test.YtckccjhflbljgaaGreatDoorM34
import Derived.Test.YtckccjhflbljgaaGreatDoorM36
import Derived.Test.YtckccjhflbljgaaGreatDoorM31
import Derived.Test.YtckccjhflbljgaaGreatDoorM27
set_option linter.all false
set_option maxRecDepth 4000
namespace Go.Proofs.YtckccjhflbljgaaGreatDoor
open Go.Fid
theorem u_brief(x:kT)(p:Rat)(hx:yX x p 140737488355328):jQ Tryz.prog 82 [(jG x)] (.val (.bool ((brX x)))):=by
 refine uR Tryz.func82 ?_
 refine jB<|kx [(1,(.ref 0 0))] [(0,some (bx (jG x)))] (zN (xO 0)<|zM<|zZ) ?_
 refine jB<|kd [(3,(vl 107 1 jC x.num.gs)),(4,(vl 107 1 jC x.den.gs))] [] mo (wE (kI xD)<|wE (kI vG)<|wR (qH zD)<|wE (kI vF)<|wE (kI vG)<|wR (qH zD)<|wM<|wM<|wZ) ?_
 refine jB<|jB<|kx [(18,(vb (decide (1<((x.num.gs.length:Nat):Int))||decide (1<((x.den.gs.length:Nat):Int)))))] [] ?_ ?_
 ·refine zM<|zE (xW kG)<|zE dV<|zE (oV (vb (decide (1<((x.num.gs.length:Nat):Int)))) (kW (by kernel_rfl)))<|?_
  rcases hb1:(decide (1<((x.num.gs.length:Nat):Int))) with _ | _
  ·replace hb1:=xC hb1
   exact zM<|zE (xW kG)<|zE dV<|zE aC<|zZ
  ·replace hb1:=vY hb1
   exact zK<|zK<|zK<|zE yH<|zZ
 refine jE rfl (fun h2=>?_) (fun h2=>?_)
 ·refine jB<|kx [(2,(vb false))] [] (zM<|zZ) ?_
  refine jF ⟨_,(.tmp (d:=(.val (.bool (false)))) rfl .nil),?_⟩
  unfold brX;rw[if_pos h2];rfl
 ·refine jD<|jB<|kx [(2,(vb (((((x.num.gs.length:Nat):Int) == 0)||decide ((((x.num.gs.getD 0 0):Nat):Int)<100000))&&((((x.den.gs.length:Nat):Int) == 0)||decide ((((x.den.gs.getD 0 0):Nat):Int)<=100)))))] [] ?_ ?_
  ·refine zM<|zE (xW kG)<|zE xU<|zE (oV (vb (((x.num.gs.length:Nat):Int) == 0)) (kW (by kernel_rfl)))<|?_
   rcases hb3:(((x.num.gs.length:Nat):Int) == 0) with _ | _
   ·replace hb3:=ne_of_beq_false hb3
    refine zM<|zE (cT kG 0 (0:Nat))<|zE (nY qL)<|zE gZ<|zE aC<|zE (oV (vb (false||decide ((((x.num.gs.getD 0 0):Nat):Int)<100000))) (kW (by kernel_rfl)))<|?_
    rcases hb4:(false||decide ((((x.num.gs.getD 0 0):Nat):Int)<100000)) with _ | _
    ·exact zK<|zK<|zK<|zK<|zK<|zK<|zK<|zK<|zK<|zE vL<|zM<|zZ
    ·refine zM<|zE (xW kG)<|zE xU<|zE (oV (vb (((x.den.gs.length:Nat):Int) == 0)) (kW (by kernel_rfl)))<|?_
     rcases hb5:(((x.den.gs.length:Nat):Int) == 0) with _ | _
     ·replace hb5:=ne_of_beq_false hb5
      exact zM<|zE (cT kG 0 (0:Nat))<|zE (nY qL)<|zE oLe<|zE aC<|zE aD<|zM<|zZ
     ·replace hb5:=eq_of_beq hb5
      exact zK<|zK<|zK<|zK<|zE yH<|zE yH<|zM<|zZ
   ·replace hb3:=eq_of_beq hb3
    refine zK<|zK<|zK<|zK<|zE yH<|zM<|zM<|zE (xW kG)<|zE xU<|zE (oV (vb (((x.den.gs.length:Nat):Int) == 0)) (kW (by kernel_rfl)))<|?_
    rcases hb6:(((x.den.gs.length:Nat):Int) == 0) with _ | _
    ·replace hb6:=ne_of_beq_false hb6
     exact zM<|zE (cT kG 0 (0:Nat))<|zE (nY qL)<|zE oLe<|zE aC<|zE aD<|zM<|zZ
    ·replace hb6:=eq_of_beq hb6
     exact zK<|zK<|zK<|zK<|zE yH<|zE yH<|zM<|zZ
  refine jF ⟨_,(.tmp (d:=(.val (.bool ((((((x.num.gs.length:Nat):Int) == 0)||decide ((((x.num.gs.getD 0 0):Nat):Int)<100000))&&((((x.den.gs.length:Nat):Int) == 0)||decide ((((x.den.gs.getD 0 0):Nat):Int)<=100))))))) rfl .nil),?_⟩
  unfold brX;rw[if_neg (by rw[h2];decide)];rfl
theorem u_short(l:List kT)(hl:RowOk 140737488355328 l)(c:Nat)(hc:c<=1000)(n:Nat)(hn:n<=1000):jQ Tryz.prog 44 [(.sl 32 4 (List.map jG l)),(.val (.int .i64 (((c:Nat):Int)))),(.val (.int .i64 (((n:Nat):Int))))] (.val (.bool ((shR c n l)))):=by
 have hb:=hl.2
 let y1:=uG
 refine uR Tryz.func44 ?_
 refine jB<|kx [] [] (zM<|zZ) ?_
 refine jB<|jB<|kx [(11,(vb (decide (((c:Nat):Int)<((l.length:Nat):Int)))))] [] (zM<|zE (xW qF)<|zM<|zE dV<|zZ) ?_
 refine jE rfl (fun h1=>?_) (fun h1=>?_)
 ·replace h1:=vY h1
  refine jB<|kx [(6,(vb false))] [] (zM<|zZ) ?_
  refine jF ⟨_,(.tmp (d:=(.val (.bool (false)))) rfl .nil),?_⟩
  rw[shR_long (by omega)];rfl
 ·replace h1:=xC h1
  have hlk:=h1
  refine jD<|jB<|jB<|kx [(7,(kF 0))] [] (zM<|zZ) ?_
  refine jH<|kO (α:=Nat) (fun i=>⟨[(0,(vl 32 4 jG l)),(2,(kF n)),(7,(kF i))],[]⟩) (fun i=>i<=l.length/\(l.take i).all (shX n)=true) (fun i=>l.length-i) 0 wk ⟨Nat.zero_le _,by simp⟩ ?_
  rintro i ⟨hi,hal⟩
  refine jB<|jB<|kx [(15,(vb (decide (((i:Nat):Int)<((l.length:Nat):Int)))))] [] (zM<|zM<|zE (xW qF)<|zE gZ<|zZ) ?_
  refine jE rfl (fun h2=>?_) (fun h2=>?_)
  ·replace h2:=vY h2
   refine jD<|jB<|jH<|jB<|kx [(36,(vb (decide (((n:Nat):Int)<(((digR (l.getD i y1)):Nat):Int))||(decide (((n:Nat):Int)<=6)&&!(brX (l.getD i y1))))))] [] ?_ ?_
   ·refine zM<|zM<|zE (cT qF i y1)<|zE (eJ jT)<|zE (jY (g_digits (l.getD i y1) (vC (l.getD i y1)) (qok_at hl.1 (show i<l.length by omega))))<|zM<|zE dV<|zE (oV (vb (decide (((n:Nat):Int)<(((digR (l.getD i y1)):Nat):Int)))) (kW (by kernel_rfl)))<|?_
    rcases hb3:(decide (((n:Nat):Int)<(((digR (l.getD i uG)):Nat):Int))) with _ | _
    ·replace hb3:=xC hb3
     refine zM<|zE oLe<|zE (oV (vb (decide (((n:Nat):Int)<=6))) (kW (by kernel_rfl)))<|?_
     rcases hb4:(decide (((n:Nat):Int)<=6)) with _ | _
     ·replace hb4:=xC hb4
      exact zK<|zK<|zK<|zK<|zK<|zK<|zE vL<|zE vL<|zZ
     ·replace hb4:=vY hb4
      exact zM<|zM<|zE (cT qF i y1)<|zE (eJ jT)<|zE (jY (u_brief (l.getD i y1) (vC (l.getD i y1)) (qok_at hl.1 (show i<l.length by omega))))<|zE yT<|zE aD<|zE aC<|zZ
    ·replace hb3:=vY hb3
     exact zK<|zK<|zK<|zK<|zK<|zK<|zK<|zK<|zK<|zK<|zE yH<|zZ
   refine jE rfl (fun h5=>?_) (fun h5=>?_)
   ·refine jB<|kx [(6,(vb false))] [] (zM<|zZ) ?_
    refine jF ⟨_,(.tmp (d:=(.val (.bool (false)))) rfl .nil),?_⟩
    rw[shR_no (all_no (i:=i) (d:=uG) (by omega) (shX_t h5))];rfl
   ·have hfi:shX n (l.getD i uG)=true:=shX_f h5
    refine jD<|kx [(7,(kF (i+1)))] [] (zM<|zE (vT (i+1))<|zM<|zZ) ?_
    exact ⟨(i+1),wk,⟨by omega,all_up (d:=uG) (by omega) hal hfi⟩,(by omega)⟩
  ·replace h2:=xC h2
   have hie:i=l.length:=by omega
   rw[hie,List.take_length] at hal
   refine kL<|jB<|kx [(6,(vb true))] [] (zM<|zZ) ?_
   refine jF ⟨_,(.tmp (d:=(.val (.bool (true)))) rfl .nil),?_⟩
   rw[shR_yes hlk hal];rfl
theorem mC(t:List jO)(ht:uL 140737488355328 t)(n:Nat)(hn:n<=1000)(m:Nat)(hm:m<=1000)(htl:t.length<=140737488355328):jQ Tryz.prog 9 [(.sl 72 7 (List.map jK t)),(.val (.int .i64 (((n:Nat):Int)))),(.val (.int .i64 (((m:Nat):Int))))] (.val (.bool ((gP n m t)))):=by
 refine uR Tryz.func9 ?_
 refine jB<|kx [] [] (zM<|zZ) ?_
 refine jB<|jB<|kx [(16,(vb (decide (((n:Nat):Int)<((t.length:Nat):Int)))))] [] (zM<|zE (xW vE)<|zM<|zE dV<|zZ) ?_
 refine jE rfl (fun h1=>?_) (fun h1=>?_)
 ·replace h1:=vY h1
  refine jB<|kx [(6,(vb false))] [] (zM<|zZ) ?_
  refine jF ⟨_,(.tmp (d:=(.val (.bool (false)))) rfl .nil),?_⟩
  rw[fewT_long h1];rfl
 ·replace h1:=xC h1
  have hlk:=h1
  refine jD<|jB<|jB<|kx [(17,(vl 72 7 jK t)),(18,(kF t.length)),(19,(kF 0))] [] (zM<|zE (xW vE)<|zM<|zZ) ?_
  refine jH<|kO (α:=Nat) (fun i=>⟨[(0,(vl 72 7 jK t)),(2,(kF m)),(17,(vl 72 7 jK t)),(18,(kF t.length)),(19,(kF i))],[]⟩) (fun i=>i<=t.length/\(t.take i).all dgB=true) (fun i=>t.length-i) 0 wk ⟨Nat.zero_le _,by simp⟩ ?_
  rintro i ⟨hi,hal⟩
  refine jB<|kx [(20,(vb (decide (((i:Nat):Int)<((t.length:Nat):Int)))))] [] (zE gZ<|zZ) ?_
  refine jB<|jE rfl (fun h2=>?_) (fun h2=>?_)
  ·replace h2:=vY h2
   refine jD<|jB<|jH<|jB<|kx [(8,(.ref 0 0))] [(0,some (bx (jK (t.getD i tz))))] (zE (cT vE i (tz:jO))<|zE (eJ cN)<|zN (vH 0 mD dH)<|zT (qJ cN)<|zZ) ?_
   refine jB<|kx [(26,(vb (decide (8<(((digR ((t.getD i tz).n)):Nat):Int)))))] [] (zE (kI nR)<|zR (kP jT)<|zE (jY (g_digits ((t.getD i tz).n) (vC (t.getD i tz).n) (tn_get ht (show i<t.length by omega))))<|zE dV<|zZ) ?_
   refine jE rfl (fun h3=>?_) (fun h3=>?_)
   ·replace h3:=vY h3
    refine jB<|kx [(6,(vb false))] [] (zM<|zZ) ?_
    refine jF ⟨_,(.tmp (d:=(.val (.bool (false)))) rfl .nil),?_⟩
    rw[fewT_dig (all_no (i:=i) (d:=tz) (by omega) (dgB_n h3))];rfl
   ·replace h3:=xC h3
    refine jD<|kx [(19,(kF (i+1)))] [] (zE (vT (i+1))<|zM<|zZ) ?_
    exact ⟨(i+1),wk,⟨by omega,all_up (d:=tz) (by omega) hal (dgB_y h3)⟩,(by first|omega|(dsimp only;omega))⟩
  ·replace h2:=xC h2
   have hie:i=t.length:=by omega
   rw[hie,List.take_length] at hal
   have hT8:uL 8 t:=dg_ok hal
   refine kL<|jB<|kx [(9,(vl 3 1 jL (tmL 8 t))),(10,(kF (zP 8 t)))] [] (zM<|zE (jY (u_sizes t (eQ hT8) 8))<|zM<|zE xJ<|zE xJ<|zM<|zM<|zZ) ?_
   refine jB<|jB<|kx [(34,(vb ((((zP 8 t):Nat):Int) != 0)))] [] (zM<|zE cK<|zZ) ?_
   refine jE (b:=((((zP 8 t):Nat):Int) != 0)) rfl (fun h4=>?_) (fun h4=>?_)
   ·replace h4:=bne_iff_ne.1 h4
    refine jB<|kx [(6,(vb true))] [] (zM<|zZ) ?_
    refine jF ⟨_,(.tmp (d:=(.val (.bool (true)))) rfl .nil),?_⟩
    rw[fewT_code hlk hal h4];rfl
   ·replace h4:=bne_eq_false_iff_eq.1 h4
    have hc0:=h4
    have hll:=tmL_len hc0
    refine jD<|jB<|jB<|kx [(35,(vl 3 1 jL (tmL 8 t))),(36,(kF ((tmL 8 t).length))),(37,(kF 0))] [] (zM<|zE (xW uI (L:=(tmL 8 t)))<|zM<|zZ) ?_
    refine jH<|kO (α:=Nat) (fun j=>⟨[(2,(kF m)),(35,(vl 3 1 jL (tmL 8 t))),(36,(kF ((tmL 8 t).length))),(37,(kF j))],[]⟩) (fun j=>j<=(tmL 8 t).length/\((tmL 8 t).take j).all (szB m)=true) (fun j=>(tmL 8 t).length-j) 0 wk ⟨Nat.zero_le _,by simp⟩ ?_
    rintro j ⟨hj,hal2⟩
    refine jB<|kx [(38,(vb (decide (((j:Nat):Int)<(((tmL 8 t).length:Nat):Int)))))] [] (zE gZ<|zZ) ?_
    refine jB<|jE rfl (fun h5=>?_) (fun h5=>?_)
    ·replace h5:=vY h5
     refine jD<|jB<|jH<|jB<|kx [(12,(vi ((tmL 8 t).getD j 0)))] [] (zE (cT uI j (0:Int) (L:=(tmL 8 t)))<|zE (nY qZ)<|zM<|zZ) ?_
     refine jB<|kx [(43,(vb (decide (((m:Nat):Int)<((tmL 8 t).getD j 0)))))] [] (zM<|zM<|zE dV<|zZ) ?_
     refine jE rfl (fun h6=>?_) (fun h6=>?_)
     ·replace h6:=vY h6
      refine jB<|kx [(6,(vb false))] [] (zM<|zZ) ?_
      refine jF ⟨_,(.tmp (d:=(.val (.bool (false)))) rfl .nil),?_⟩
      rw[fewT_big hc0 (all_no (i:=j) (d:=0) (by omega) (by unfold szB;exact decide_eq_false (by omega)))];rfl
     ·replace h6:=xC h6
      refine jD<|kx [(37,(kF (j+1)))] [] (zE (vT (j+1))<|zM<|zZ) ?_
      exact ⟨(j+1),wk,⟨by omega,all_up (d:=0) (by omega) hal2 (by unfold szB;exact decide_eq_true (by omega))⟩,(by first|omega|(dsimp only;omega))⟩
    ·replace h5:=xC h5
     have hje:j=(tmL 8 t).length:=by omega
     rw[hje,List.take_length] at hal2
     refine kL<|jB<|kx [(6,(vb true))] [] (zM<|zZ) ?_
     refine jF ⟨_,(.tmp (d:=(.val (.bool (true)))) rfl .nil),?_⟩
     rw[fewT_yes hlk hal hal2];rfl
theorem mT(l:List kT)(hl:RowOk 140737488355328 l):jQ Tryz.prog 10 [(.sl 32 4 (List.map jG l))] (.val (.bool ((shR 4 8 l)))):=by
 refine uR Tryz.func10 ?_
 refine jB<|kx [] [] (zM<|zZ) ?_
 refine jB<|kx [(2,(vb (shR 4 8 l)))] [] (zM<|zE (jY (u_short l hl 4 (by omega) 8 (by omega)))<|zM<|zZ) ?_
 refine jF ⟨_,(.tmp (d:=(.val (.bool ((shR 4 8 l))))) rfl .nil),?_⟩
 rfl
theorem w_le1(s:List jO)(hts:uL 140737488355328 s)(r:List jO)(htr:uL 140737488355328 r)(l:List kT)(hl:RowOk 140737488355328 l)(hw1:gP 10 6 s=false)(hsl:s.length<=140737488355328)(hrl:r.length<=140737488355328):jQ Tryz.prog 5 [(.sl 72 7 (List.map jK s)),(.sl 72 7 (List.map jK r)),(.sl 32 4 (List.map jG l))] (.val (.bool (true))):=by
 refine uR Tryz.func5 ?_
 refine jB<|kx [] [] (zM<|zZ) ?_
 refine jB<|jB<|kx [(19,(vb false))] [] (zE (jY mZ)<|zE yT<|zZ) ?_
 refine qE ?_
 refine jD<|jB<|jB<|kx [(64,(vb true))] [] (zM<|zE (vS false (jY (mC s hts 10 (by omega) 6 (by omega) hsl)) (by exact hw1))<|zE yT<|zM<|zK<|zK<|zK<|zE yH<|zM<|zK<|zK<|zK<|zE yH<|zM<|zK<|zK<|zK<|zE yH<|zM<|zK<|zK<|zK<|zE yH<|zM<|zK<|zK<|zK<|zK<|zK<|zE yH<|zM<|zK<|zK<|zK<|zK<|zK<|zE yH<|zM<|zK<|zK<|zK<|zK<|zK<|zK<|zE yH<|zZ) ?_
 refine xQ ?_
 refine jB<|kx [(6,(vb true))] [] (zM<|zZ) ?_
 refine jF ⟨_,(.tmp (d:=(.val (.bool (true)))) rfl .nil),?_⟩
 rfl
theorem w_le2(s:List jO)(hts:uL 140737488355328 s)(r:List jO)(htr:uL 140737488355328 r)(l:List kT)(hl:RowOk 140737488355328 l)(hw1:gP 10 6 s=true)(hw2:gP 10 6 r=false)(hsl:s.length<=140737488355328)(hrl:r.length<=140737488355328):jQ Tryz.prog 5 [(.sl 72 7 (List.map jK s)),(.sl 72 7 (List.map jK r)),(.sl 32 4 (List.map jG l))] (.val (.bool (true))):=by
 refine uR Tryz.func5 ?_
 refine jB<|kx [] [] (zM<|zZ) ?_
 refine jB<|jB<|kx [(19,(vb false))] [] (zE (jY mZ)<|zE yT<|zZ) ?_
 refine qE ?_
 refine jD<|jB<|jB<|kx [(64,(vb true))] [] (zM<|zE (vS true (jY (mC s hts 10 (by omega) 6 (by omega) hsl)) (by exact hw1))<|zE yT<|zM<|zM<|zE (vS false (jY (mC r htr 10 (by omega) 6 (by omega) hrl)) (by exact hw2))<|zE yT<|zE vL<|zM<|zK<|zK<|zK<|zE yH<|zM<|zK<|zK<|zK<|zE yH<|zM<|zK<|zK<|zK<|zE yH<|zM<|zK<|zK<|zK<|zK<|zK<|zE yH<|zM<|zK<|zK<|zK<|zK<|zK<|zE yH<|zM<|zK<|zK<|zK<|zK<|zK<|zK<|zE yH<|zZ) ?_
 refine xQ ?_
 refine jB<|kx [(6,(vb true))] [] (zM<|zZ) ?_
 refine jF ⟨_,(.tmp (d:=(.val (.bool (true)))) rfl .nil),?_⟩
 rfl
theorem w_le3(s:List jO)(hts:uL 140737488355328 s)(r:List jO)(htr:uL 140737488355328 r)(l:List kT)(hl:RowOk 140737488355328 l)(hw1:gP 10 6 s=true)(hw2:gP 10 6 r=true)(hs:shR 4 8 l=false)(hsl:s.length<=140737488355328)(hrl:r.length<=140737488355328):jQ Tryz.prog 5 [(.sl 72 7 (List.map jK s)),(.sl 72 7 (List.map jK r)),(.sl 32 4 (List.map jG l))] (.val (.bool (true))):=by
 refine uR Tryz.func5 ?_
 refine jB<|kx [] [] (zM<|zZ) ?_
 refine jB<|jB<|kx [(19,(vb false))] [] (zE (jY mZ)<|zE yT<|zZ) ?_
 refine qE ?_
 refine jD<|jB<|jB<|kx [(64,(vb true))] [] (zM<|zE (vS true (jY (mC s hts 10 (by omega) 6 (by omega) hsl)) (by exact hw1))<|zE yT<|zM<|zM<|zE (vS true (jY (mC r htr 10 (by omega) 6 (by omega) hrl)) (by exact hw2))<|zE yT<|zE vL<|zM<|zM<|zE (vS false (jY (mT l hl)) (by exact hs))<|zE yT<|zE vL<|zM<|zK<|zK<|zK<|zE yH<|zM<|zK<|zK<|zK<|zE yH<|zM<|zK<|zK<|zK<|zK<|zK<|zE yH<|zM<|zK<|zK<|zK<|zK<|zK<|zE yH<|zM<|zK<|zK<|zK<|zK<|zK<|zK<|zE yH<|zZ) ?_
 refine xQ ?_
 refine jB<|kx [(6,(vb true))] [] (zM<|zZ) ?_
 refine jF ⟨_,(.tmp (d:=(.val (.bool (true)))) rfl .nil),?_⟩
 rfl
theorem w_le4(s:List jO)(hts:uL 140737488355328 s)(r:List jO)(htr:uL 140737488355328 r)(l:List kT)(hl:RowOk 140737488355328 l)(hw1:gP 10 6 s=true)(hw2:gP 10 6 r=true)(hs:shR 4 8 l=true)(hl0:l.length=0)(hsl:s.length<=140737488355328)(hrl:r.length<=140737488355328):jQ Tryz.prog 5 [(.sl 72 7 (List.map jK s)),(.sl 72 7 (List.map jK r)),(.sl 32 4 (List.map jG l))] (.val (.bool (true))):=by
 refine uR Tryz.func5 ?_
 refine jB<|kx [] [] (zM<|zZ) ?_
 refine jB<|jB<|kx [(19,(vb false))] [] (zE (jY mZ)<|zE yT<|zZ) ?_
 refine qE ?_
 refine jD<|jB<|jB<|kx [(64,(vb true))] [] (zM<|zE (vS true (jY (mC s hts 10 (by omega) 6 (by omega) hsl)) (by exact hw1))<|zE yT<|zM<|zM<|zE (vS true (jY (mC r htr 10 (by omega) 6 (by omega) hrl)) (by exact hw2))<|zE yT<|zE vL<|zM<|zM<|zE (vS true (jY (mT l hl)) (by exact hs))<|zE yT<|zE vL<|zM<|zM<|zE (xW qF)<|zE (vS true xU (by exact beq_iff_eq.2 (by rw[show l.length=0 from hl0]<;>rfl)))<|zE vL<|zM<|zK<|zK<|zK<|zE yH<|zM<|zK<|zK<|zK<|zK<|zK<|zE yH<|zM<|zK<|zK<|zK<|zK<|zK<|zE yH<|zM<|zK<|zK<|zK<|zK<|zK<|zK<|zE yH<|zZ) ?_
 refine xQ ?_
 refine jB<|kx [(6,(vb true))] [] (zM<|zZ) ?_
 refine jF ⟨_,(.tmp (d:=(.val (.bool (true)))) rfl .nil),?_⟩
 rfl
theorem w_le5(s:List jO)(hts:uL 1048576 s)(r:List jO)(htr:uL 1048576 r)(l:List kT)(hl:RowOk 1048576 l)(hw1:gP 10 6 s=true)(hw2:gP 10 6 r=true)(hs:shR 4 8 l=true)(hl0:l.length≠0)(hv:vRow l=false)(hxb:l.length<=1000000)(hsl:s.length<=140737488355328)(hrl:r.length<=140737488355328):jQ Tryz.prog 5 [(.sl 72 7 (List.map jK s)),(.sl 72 7 (List.map jK r)),(.sl 32 4 (List.map jG l))] (.val (.bool (true))):=by
 refine uR Tryz.func5 ?_
 refine jB<|kx [] [] (zM<|zZ) ?_
 refine jB<|jB<|kx [(19,(vb false))] [] (zE (jY mZ)<|zE yT<|zZ) ?_
 refine qE ?_
 refine jD<|jB<|jB<|kx [(64,(vb true))] [] (zM<|zE (vS true (jY (mC s (eQ hts) 10 (by omega) 6 (by omega) hsl)) (by exact hw1))<|zE yT<|zM<|zM<|zE (vS true (jY (mC r (eQ htr) 10 (by omega) 6 (by omega) hrl)) (by exact hw2))<|zE yT<|zE vL<|zM<|zM<|zE (vS true (jY (mT l (row_up hl))) (by exact hs))<|zE yT<|zE vL<|zM<|zM<|zE (xW qF)<|zE (vS false xU (by exact beq_eq_false_iff_ne.2 (by have hx:=hl0;omega)))<|zE vL<|zM<|zM<|zE (vS false (jY (fH l hl)) (by exact hv))<|zE yT<|zE vL<|zM<|zK<|zK<|zK<|zK<|zK<|zE yH<|zM<|zK<|zK<|zK<|zK<|zK<|zE yH<|zM<|zK<|zK<|zK<|zK<|zK<|zK<|zE yH<|zZ) ?_
 refine xQ ?_
 refine jB<|kx [(6,(vb true))] [] (zM<|zZ) ?_
 refine jF ⟨_,(.tmp (d:=(.val (.bool (true)))) rfl .nil),?_⟩
 rfl
theorem w_le6(s:List jO)(hts:uL 1048576 s)(r:List jO)(htr:uL 1048576 r)(xs:List Rat)(hx:∀ q∈xs,QL q 1048576)(hw1:gP 10 6 s=true)(hw2:gP 10 6 r=true)(hs:shR 4 8 (List.map jM xs)=true)(hl0:xs.length≠0)(hxb:xs.length<=1000000)(hc1:zP ((xs.length:Nat):Int) s≠0)(hsl:s.length<=140737488355328)(hrl:r.length<=140737488355328):jQ Tryz.prog 5 [(.sl 72 7 (List.map jK s)),(.sl 72 7 (List.map jK r)),(.sl 32 4 (List.map jG (List.map jM xs)))] (.val (.bool (true))):=by
 refine uR Tryz.func5 ?_
 refine jB<|kx [] [] (zM<|zZ) ?_
 refine jB<|jB<|kx [(19,(vb false))] [] (zE (jY mZ)<|zE yT<|zZ) ?_
 refine qE ?_
 refine jD<|jB<|jB<|kx [(64,(vb true))] [] (zM<|zE (vS true (jY (mC s (eQ hts) 10 (by omega) 6 (by omega) hsl)) (by exact hw1))<|zE yT<|zM<|zM<|zE (vS true (jY (mC r (eQ htr) 10 (by omega) 6 (by omega) hrl)) (by exact hw2))<|zE yT<|zE vL<|zM<|zM<|zE (vS true (jY (mT (List.map jM xs) (row_up (nE hx (by omega))))) (by exact hs))<|zE yT<|zE vL<|zM<|zM<|zE (oLn qF xs.length)<|zE (vS false xU (by exact beq_eq_false_iff_ne.2 (by have hx:=hl0;omega)))<|zE vL<|zM<|zM<|zE (vS true (jY (fH (List.map jM xs) (nE hx (by omega)))) (by exact (aS xs)))<|zE yT<|zE vL<|zM<|zM<|zM<|zE (oLn qF xs.length)<|zE (jY (aJ s hts ((xs.length:Nat):Int)))<|zE (vS true cK (by exact bne_iff_ne.2 (by have hx:=hc1;omega)))<|zE vL<|zM<|zK<|zK<|zK<|zK<|zK<|zE yH<|zM<|zK<|zK<|zK<|zK<|zK<|zK<|zE yH<|zZ) ?_
 refine xQ ?_
 refine jB<|kx [(6,(vb true))] [] (zM<|zZ) ?_
 refine jF ⟨_,(.tmp (d:=(.val (.bool (true)))) rfl .nil),?_⟩
 rfl
theorem w_le7(s:List jO)(hts:uL 1048576 s)(r:List jO)(htr:uL 1048576 r)(xs:List Rat)(hx:∀ q∈xs,QL q 1048576)(hw1:gP 10 6 s=true)(hw2:gP 10 6 r=true)(hs:shR 4 8 (List.map jM xs)=true)(hl0:xs.length≠0)(hxb:xs.length<=1000000)(hc1:zP ((xs.length:Nat):Int) s=0)(hc2:zP ((xs.length:Nat):Int) r≠0)(hsl:s.length<=140737488355328)(hrl:r.length<=140737488355328):jQ Tryz.prog 5 [(.sl 72 7 (List.map jK s)),(.sl 72 7 (List.map jK r)),(.sl 32 4 (List.map jG (List.map jM xs)))] (.val (.bool (true))):=by
 refine uR Tryz.func5 ?_
 refine jB<|kx [] [] (zM<|zZ) ?_
 refine jB<|jB<|kx [(19,(vb false))] [] (zE (jY mZ)<|zE yT<|zZ) ?_
 refine qE ?_
 refine jD<|jB<|jB<|kx [(64,(vb true))] [] (zM<|zE (vS true (jY (mC s (eQ hts) 10 (by omega) 6 (by omega) hsl)) (by exact hw1))<|zE yT<|zM<|zM<|zE (vS true (jY (mC r (eQ htr) 10 (by omega) 6 (by omega) hrl)) (by exact hw2))<|zE yT<|zE vL<|zM<|zM<|zE (vS true (jY (mT (List.map jM xs) (row_up (nE hx (by omega))))) (by exact hs))<|zE yT<|zE vL<|zM<|zM<|zE (oLn qF xs.length)<|zE (vS false xU (by exact beq_eq_false_iff_ne.2 (by have hx:=hl0;omega)))<|zE vL<|zM<|zM<|zE (vS true (jY (fH (List.map jM xs) (nE hx (by omega)))) (by exact (aS xs)))<|zE yT<|zE vL<|zM<|zM<|zM<|zE (oLn qF xs.length)<|zE (jY (aJ s hts ((xs.length:Nat):Int)))<|zE (vS false cK (by exact bne_eq_false_iff_eq.2 (by rw[show (zP ((xs.length:Nat):Int) s)=0 from hc1]<;>rfl)))<|zE vL<|zM<|zM<|zM<|zE (oLn qF xs.length)<|zE (jY (aJ r htr ((xs.length:Nat):Int)))<|zE (vS true cK (by exact bne_iff_ne.2 (by have hx:=hc2;omega)))<|zE vL<|zM<|zK<|zK<|zK<|zK<|zK<|zK<|zE yH<|zZ) ?_
 refine xQ ?_
 refine jB<|kx [(6,(vb true))] [] (zM<|zZ) ?_
 refine jF ⟨_,(.tmp (d:=(.val (.bool (true)))) rfl .nil),?_⟩
 rfl
theorem w_le8(s:List jO)(hts:uL 1048576 s)(r:List jO)(htr:uL 1048576 r)(xs:List Rat)(hx:∀ q∈xs,QL q 1048576)(hw1:gP 10 6 s=true)(hw2:gP 10 6 r=true)(hs:shR 4 8 (List.map jM xs)=true)(hl0:xs.length≠0)(hxb:xs.length<=1000000)(hc1:zP ((xs.length:Nat):Int) s=0)(hc2:zP ((xs.length:Nat):Int) r=0)(hdv:3<dvN s s.length+dvN r r.length)(hsl:s.length<=140737488355328)(hrl:r.length<=140737488355328):jQ Tryz.prog 5 [(.sl 72 7 (List.map jK s)),(.sl 72 7 (List.map jK r)),(.sl 32 4 (List.map jG (List.map jM xs)))] (.val (.bool (true))):=by
 have hl1:=(mF hw1).1
 have hl2:=(mF hw2).1
 have hd1:=dR s s.length
 have hd2:=dR r r.length
 refine uR Tryz.func5 ?_
 refine jB<|kx [] [] (zM<|zZ) ?_
 refine jB<|jB<|kx [(19,(vb false))] [] (zE (jY mZ)<|zE yT<|zZ) ?_
 refine qE ?_
 refine jD<|jB<|jB<|kx [(64,(vb true))] [] (zM<|zE (vS true (jY (mC s (eQ hts) 10 (by omega) 6 (by omega) hsl)) (by exact hw1))<|zE yT<|zM<|zM<|zE (vS true (jY (mC r (eQ htr) 10 (by omega) 6 (by omega) hrl)) (by exact hw2))<|zE yT<|zE vL<|zM<|zM<|zE (vS true (jY (mT (List.map jM xs) (row_up (nE hx (by omega))))) (by exact hs))<|zE yT<|zE vL<|zM<|zM<|zE (oLn qF xs.length)<|zE (vS false xU (by exact beq_eq_false_iff_ne.2 (by have hx:=hl0;omega)))<|zE vL<|zM<|zM<|zE (vS true (jY (fH (List.map jM xs) (nE hx (by omega)))) (by exact (aS xs)))<|zE yT<|zE vL<|zM<|zM<|zM<|zE (oLn qF xs.length)<|zE (jY (aJ s hts ((xs.length:Nat):Int)))<|zE (vS false cK (by exact bne_eq_false_iff_eq.2 (by rw[show (zP ((xs.length:Nat):Int) s)=0 from hc1]<;>rfl)))<|zE vL<|zM<|zM<|zM<|zE (oLn qF xs.length)<|zE (jY (aJ r htr ((xs.length:Nat):Int)))<|zE (vS false cK (by exact bne_eq_false_iff_eq.2 (by rw[show (zP ((xs.length:Nat):Int) r)=0 from hc2]<;>rfl)))<|zE vL<|zM<|zM<|zE (jY (x_div s hts (by omega)))<|zM<|zE (jY (x_div r htr (by omega)))<|zE (vT ((dvN s s.length)+(dvN r r.length)))<|zE (vS true dV (by exact decide_eq_true (by omega)))<|zE vL<|zZ) ?_
 refine xQ ?_
 refine jB<|kx [(6,(vb true))] [] (zM<|zZ) ?_
 refine jF ⟨_,(.tmp (d:=(.val (.bool (true)))) rfl .nil),?_⟩
 rfl
theorem w_le9(s:List jO)(hts:uL 1048576 s)(r:List jO)(htr:uL 1048576 r)(xs:List Rat)(hx:∀ q∈xs,QL q 1048576)(hw1:gP 10 6 s=true)(hw2:gP 10 6 r=true)(hs:shR 4 8 (List.map jM xs)=true)(hl0:xs.length≠0)(hxb:xs.length<=1000000)(hc1:zP ((xs.length:Nat):Int) s=0)(hc2:zP ((xs.length:Nat):Int) r=0)(hdv:¬ 3<dvN s s.length+dvN r r.length)(hf1:∃ k,VFail xs s k)(hf2:∃ k,VFail xs r k)(hsl:s.length<=140737488355328)(hrl:r.length<=140737488355328):jQ Tryz.prog 5 [(.sl 72 7 (List.map jK s)),(.sl 72 7 (List.map jK r)),(.sl 32 4 (List.map jG (List.map jM xs)))] (.val (.bool (true))):=by
 have hl1:=(mF hw1).1
 have hl2:=(mF hw2).1
 have hd1:=dR s s.length
 have hd2:=dR r r.length
 refine uR Tryz.func5 ?_
 refine jB<|kx [] [] (zM<|zZ) ?_
 refine jB<|jB<|kx [(19,(vb false))] [] (zE (jY mZ)<|zE yT<|zZ) ?_
 refine qE ?_
 refine jD<|jB<|jB<|kx [(64,(vb false))] [] (zM<|zE (vS true (jY (mC s (eQ hts) 10 (by omega) 6 (by omega) hsl)) (by exact hw1))<|zE yT<|zM<|zM<|zE (vS true (jY (mC r (eQ htr) 10 (by omega) 6 (by omega) hrl)) (by exact hw2))<|zE yT<|zE vL<|zM<|zM<|zE (vS true (jY (mT (List.map jM xs) (row_up (nE hx (by omega))))) (by exact hs))<|zE yT<|zE vL<|zM<|zM<|zE (oLn qF xs.length)<|zE (vS false xU (by exact beq_eq_false_iff_ne.2 (by have hx:=hl0;omega)))<|zE vL<|zM<|zM<|zE (vS true (jY (fH (List.map jM xs) (nE hx (by omega)))) (by exact (aS xs)))<|zE yT<|zE vL<|zM<|zM<|zM<|zE (oLn qF xs.length)<|zE (jY (aJ s hts ((xs.length:Nat):Int)))<|zE (vS false cK (by exact bne_eq_false_iff_eq.2 (by rw[show (zP ((xs.length:Nat):Int) s)=0 from hc1]<;>rfl)))<|zE vL<|zM<|zM<|zM<|zE (oLn qF xs.length)<|zE (jY (aJ r htr ((xs.length:Nat):Int)))<|zE (vS false cK (by exact bne_eq_false_iff_eq.2 (by rw[show (zP ((xs.length:Nat):Int) r)=0 from hc2]<;>rfl)))<|zE vL<|zM<|zM<|zE (jY (x_div s hts (by omega)))<|zM<|zE (jY (x_div r htr (by omega)))<|zE (vT ((dvN s s.length)+(dvN r r.length)))<|zE (vS false dV (by exact decide_eq_false (by omega)))<|zE vL<|zZ) ?_
 refine qE ?_
 refine jD<|jB<|kx [(7,(.ref 0 0)),(8,(kF 14))] [(0,some (bx (jG uG)))] (zM<|zM<|zE (jY (u_valF s hts xs hx hf1 hxb))<|zM<|zE xJ<|zE xJ<|zN (vH 0 qY uJ)<|zT (qJ jT)<|zM<|zZ) ?_
 refine jB<|kx [(9,(.ref 1 0)),(10,(kF 14))] [(1,some (bx (jG uG)))] (zM<|zM<|zE (jY (u_valF r htr xs hx hf2 hxb))<|zM<|zE xJ<|zE xJ<|zN (vH 1 qY uJ)<|zT (qJ jT)<|zM<|zZ) ?_
 refine jB<|jB<|kx [(82,(vb true))] [] (zM<|zE (vS true cK)<|zM<|zK<|zK<|zE yH<|zZ) ?_
 refine xQ ?_
 refine jB<|kx [(6,(vb true))] [] (zM<|zZ) ?_
 refine jF ⟨_,(.tmp (d:=(.val (.bool (true)))) rfl .nil),?_⟩
 rfl
theorem w_leA(s:List jO)(hts:uL 1048576 s)(r:List jO)(htr:uL 1048576 r)(xs:List Rat)(hx:∀ q∈xs,QL q 1048576)(hw1:gP 10 6 s=true)(hw2:gP 10 6 r=true)(hs:shR 4 8 (List.map jM xs)=true)(hl0:xs.length≠0)(hxb:xs.length<=1000000)(hc1:zP ((xs.length:Nat):Int) s=0)(hc2:zP ((xs.length:Nat):Int) r=0)(hdv:¬ 3<dvN s s.length+dvN r r.length)(hf1:∃ k,VFail xs s k)(hf2:iB xs r)(hsl:s.length<=140737488355328)(hrl:r.length<=140737488355328):jQ Tryz.prog 5 [(.sl 72 7 (List.map jK s)),(.sl 72 7 (List.map jK r)),(.sl 32 4 (List.map jG (List.map jM xs)))] (.val (.bool (true))):=by
 have hl1:=(mF hw1).1
 have hl2:=(mF hw2).1
 have hd1:=dR s s.length
 have hd2:=dR r r.length
 refine uR Tryz.func5 ?_
 refine jB<|kx [] [] (zM<|zZ) ?_
 refine jB<|jB<|kx [(19,(vb false))] [] (zE (jY mZ)<|zE yT<|zZ) ?_
 refine qE ?_
 refine jD<|jB<|jB<|kx [(64,(vb false))] [] (zM<|zE (vS true (jY (mC s (eQ hts) 10 (by omega) 6 (by omega) hsl)) (by exact hw1))<|zE yT<|zM<|zM<|zE (vS true (jY (mC r (eQ htr) 10 (by omega) 6 (by omega) hrl)) (by exact hw2))<|zE yT<|zE vL<|zM<|zM<|zE (vS true (jY (mT (List.map jM xs) (row_up (nE hx (by omega))))) (by exact hs))<|zE yT<|zE vL<|zM<|zM<|zE (oLn qF xs.length)<|zE (vS false xU (by exact beq_eq_false_iff_ne.2 (by have hx:=hl0;omega)))<|zE vL<|zM<|zM<|zE (vS true (jY (fH (List.map jM xs) (nE hx (by omega)))) (by exact (aS xs)))<|zE yT<|zE vL<|zM<|zM<|zM<|zE (oLn qF xs.length)<|zE (jY (aJ s hts ((xs.length:Nat):Int)))<|zE (vS false cK (by exact bne_eq_false_iff_eq.2 (by rw[show (zP ((xs.length:Nat):Int) s)=0 from hc1]<;>rfl)))<|zE vL<|zM<|zM<|zM<|zE (oLn qF xs.length)<|zE (jY (aJ r htr ((xs.length:Nat):Int)))<|zE (vS false cK (by exact bne_eq_false_iff_eq.2 (by rw[show (zP ((xs.length:Nat):Int) r)=0 from hc2]<;>rfl)))<|zE vL<|zM<|zM<|zE (jY (x_div s hts (by omega)))<|zM<|zE (jY (x_div r htr (by omega)))<|zE (vT ((dvN s s.length)+(dvN r r.length)))<|zE (vS false dV (by exact decide_eq_false (by omega)))<|zE vL<|zZ) ?_
 refine qE ?_
 refine jD<|jB<|kx [(7,(.ref 0 0)),(8,(kF 14))] [(0,some (bx (jG uG)))] (zM<|zM<|zE (jY (u_valF s hts xs hx hf1 hxb))<|zM<|zE xJ<|zE xJ<|zN (vH 0 qY uJ)<|zT (qJ jT)<|zM<|zZ) ?_
 refine jB<|kx [(9,(.ref 1 0)),(10,(kF 0))] [(1,some (bx (jG (jM (xA xs r)))))] (zM<|zM<|zE (jY (u_val r htr xs hx hf2 hxb))<|zM<|zE xJ<|zE xJ<|zN (vH 1 qY uJ)<|zT (qJ jT)<|zM<|zZ) ?_
 refine jB<|jB<|kx [(82,(vb true))] [] (zM<|zE (vS true cK)<|zM<|zK<|zK<|zE yH<|zZ) ?_
 refine xQ ?_
 refine jB<|kx [(6,(vb true))] [] (zM<|zZ) ?_
 refine jF ⟨_,(.tmp (d:=(.val (.bool (true)))) rfl .nil),?_⟩
 rfl
theorem w_leB(s:List jO)(hts:uL 1048576 s)(r:List jO)(htr:uL 1048576 r)(xs:List Rat)(hx:∀ q∈xs,QL q 1048576)(hw1:gP 10 6 s=true)(hw2:gP 10 6 r=true)(hs:shR 4 8 (List.map jM xs)=true)(hl0:xs.length≠0)(hxb:xs.length<=1000000)(hc1:zP ((xs.length:Nat):Int) s=0)(hc2:zP ((xs.length:Nat):Int) r=0)(hdv:¬ 3<dvN s s.length+dvN r r.length)(hf1:iB xs s)(hf2:∃ k,VFail xs r k)(hsl:s.length<=140737488355328)(hrl:r.length<=140737488355328):jQ Tryz.prog 5 [(.sl 72 7 (List.map jK s)),(.sl 72 7 (List.map jK r)),(.sl 32 4 (List.map jG (List.map jM xs)))] (.val (.bool (true))):=by
 have hl1:=(mF hw1).1
 have hl2:=(mF hw2).1
 have hd1:=dR s s.length
 have hd2:=dR r r.length
 refine uR Tryz.func5 ?_
 refine jB<|kx [] [] (zM<|zZ) ?_
 refine jB<|jB<|kx [(19,(vb false))] [] (zE (jY mZ)<|zE yT<|zZ) ?_
 refine qE ?_
 refine jD<|jB<|jB<|kx [(64,(vb false))] [] (zM<|zE (vS true (jY (mC s (eQ hts) 10 (by omega) 6 (by omega) hsl)) (by exact hw1))<|zE yT<|zM<|zM<|zE (vS true (jY (mC r (eQ htr) 10 (by omega) 6 (by omega) hrl)) (by exact hw2))<|zE yT<|zE vL<|zM<|zM<|zE (vS true (jY (mT (List.map jM xs) (row_up (nE hx (by omega))))) (by exact hs))<|zE yT<|zE vL<|zM<|zM<|zE (oLn qF xs.length)<|zE (vS false xU (by exact beq_eq_false_iff_ne.2 (by have hx:=hl0;omega)))<|zE vL<|zM<|zM<|zE (vS true (jY (fH (List.map jM xs) (nE hx (by omega)))) (by exact (aS xs)))<|zE yT<|zE vL<|zM<|zM<|zM<|zE (oLn qF xs.length)<|zE (jY (aJ s hts ((xs.length:Nat):Int)))<|zE (vS false cK (by exact bne_eq_false_iff_eq.2 (by rw[show (zP ((xs.length:Nat):Int) s)=0 from hc1]<;>rfl)))<|zE vL<|zM<|zM<|zM<|zE (oLn qF xs.length)<|zE (jY (aJ r htr ((xs.length:Nat):Int)))<|zE (vS false cK (by exact bne_eq_false_iff_eq.2 (by rw[show (zP ((xs.length:Nat):Int) r)=0 from hc2]<;>rfl)))<|zE vL<|zM<|zM<|zE (jY (x_div s hts (by omega)))<|zM<|zE (jY (x_div r htr (by omega)))<|zE (vT ((dvN s s.length)+(dvN r r.length)))<|zE (vS false dV (by exact decide_eq_false (by omega)))<|zE vL<|zZ) ?_
 refine qE ?_
 refine jD<|jB<|kx [(7,(.ref 0 0)),(8,(kF 0))] [(0,some (bx (jG (jM (xA xs s)))))] (zM<|zM<|zE (jY (u_val s hts xs hx hf1 hxb))<|zM<|zE xJ<|zE xJ<|zN (vH 0 qY uJ)<|zT (qJ jT)<|zM<|zZ) ?_
 refine jB<|kx [(9,(.ref 1 0)),(10,(kF 14))] [(1,some (bx (jG uG)))] (zM<|zM<|zE (jY (u_valF r htr xs hx hf2 hxb))<|zM<|zE xJ<|zE xJ<|zN (vH 1 qY uJ)<|zT (qJ jT)<|zM<|zZ) ?_
 refine jB<|jB<|kx [(82,(vb true))] [] (zM<|zE (vS false cK)<|zM<|zM<|zE (vS true cK)<|zE vL<|zZ) ?_
 refine xQ ?_
 refine jB<|kx [(6,(vb true))] [] (zM<|zZ) ?_
 refine jF ⟨_,(.tmp (d:=(.val (.bool (true)))) rfl .nil),?_⟩
 rfl
theorem el56:uM Tryz.prog 56=some (23,1):=by kernel_rfl
theorem ze23:vX Tryz.prog 23=some [.slice none 0 0]:=by kernel_rfl
theorem zo23:eL [.slice none 0 0] [.sl 72 7 []]:=by simp [eL,Value.oneCell']
def DrvE(xs:List Rat)(t:List jO)(F:Nat->List jO):Prop:=∀ i,i<xs.length->jQ Tryz.prog 19 [.sl 72 7 (List.map jK t),.val (.int .i64 ((xs.length:Nat):Int)),.val (.int .i64 ((i:Nat):Int))] (.tup [.sl 72 7 (List.map jK (F i)),.val (.int .i64 ((0:Nat):Int))])
def ValE(xs:List Rat)(F:Nat->List jO)(v:Nat->Rat):Prop:=∀ i,i<xs.length->jQ Tryz.prog 11 [.sl 72 7 (List.map jK (F i)),.sl 32 4 (List.map jG (List.map jM xs))] (.tup [jG (jM (v i)),.val (.int .i64 ((0:Nat):Int))])
theorem w_le(s:List jO)(hts:uL 1048576 s)(r:List jO)(htr:uL 1048576 r)(xs:List Rat)(hx:∀ q∈xs,QL q 1048576)(m:Nat)(F1:Nat->List jO)(F2:Nat->List jO)(F3:Nat->List jO)(F4:Nat->List jO)(g1:Nat->Rat)(g2:Nat->Rat)(g3:Nat->Rat)(g4:Nat->Rat)(hw1:gP 10 6 s=true)(hw2:gP 10 6 r=true)(hs:shR 4 8 (List.map jM xs)=true)(hl0:xs.length≠0)(hxb:xs.length<=1000000)(hc1:zP ((xs.length:Nat):Int) s=0)(hc2:zP ((xs.length:Nat):Int) r=0)(hdv:¬ 3<dvN s s.length+dvN r r.length)(hf1:iB xs s)(hf2:iB xs r)(u2m:dD ((m:Nat):Int) r r.length)(s1:1<=s.length)(r1:1<=r.length)(hF1:∀ i,uL 1048576 (F1 i))(hF2:∀ i,uL 1048576 (F2 i))(hF3:∀ i,uL 1048576 (F3 i))(hF4:∀ i,uL 1048576 (F4 i))(hG1:∀ i,QL (g1 i) 1048576)(hG2:∀ i,QL (g2 i) 1048576)(hG3:∀ i,QL (g3 i) 1048576)(hG4:∀ i,QL (g4 i) 1048576)(hy1:DrvE xs s F1)(hy2:DrvE xs r F2)(hy3:DrvE xs (dM ((2:Nat):Int) s r) F3)(hy4:DrvE xs (dM ((4:Nat):Int) s r) F4)(hv1:ValE xs F1 g1)(hv2:ValE xs F2 g2)(hv3:ValE xs F3 g3)(hv4:ValE xs F4 g4)(hsum:∀ i,g3 i=g1 i+g2 i)(hmul:∀ i,g4 i=g1 i*xA xs r+xA xs s*g2 i)(hsl:s.length<=140737488355328)(hrl:r.length<=140737488355328):jQ Tryz.prog 5 [(.sl 72 7 (List.map jK s)),(.sl 72 7 (List.map jK r)),(.sl 32 4 (List.map jG (List.map jM xs)))] (.val (.bool (true))):=by
 have hl1:=(mF hw1).1
 have hl2:=(mF hw2).1
 have hd1:=dR s s.length
 have hd2:=dR r r.length
 have hxn:(List.map jM xs).length=xs.length:=List.length_map _
 refine uR Tryz.func5 ?_
 refine jB<|kx [] [] (zM<|zZ) ?_
 refine jB<|jB<|kx [(19,(vb false))] [] (zE (jY mZ)<|zE yT<|zZ) ?_
 refine qE ?_
 refine jD<|jB<|jB<|kx [(64,(vb false))] [] (zM<|zE (vS true (jY (mC s (eQ hts) 10 (by omega) 6 (by omega) hsl)) (by exact hw1))<|zE yT<|zM<|zM<|zE (vS true (jY (mC r (eQ htr) 10 (by omega) 6 (by omega) hrl)) (by exact hw2))<|zE yT<|zE vL<|zM<|zM<|zE (vS true (jY (mT (List.map jM xs) (row_up (nE hx (by omega))))) (by exact hs))<|zE yT<|zE vL<|zM<|zM<|zE (oLn qF xs.length)<|zE (vS false xU (by exact beq_eq_false_iff_ne.2 (by have hx:=hl0;omega)))<|zE vL<|zM<|zM<|zE (vS true (jY (fH (List.map jM xs) (nE hx (by omega)))) (by exact (aS xs)))<|zE yT<|zE vL<|zM<|zM<|zM<|zE (oLn qF xs.length)<|zE (jY (aJ s hts ((xs.length:Nat):Int)))<|zE (vS false cK (by exact bne_eq_false_iff_eq.2 (by rw[show (zP ((xs.length:Nat):Int) s)=0 from hc1]<;>rfl)))<|zE vL<|zM<|zM<|zM<|zE (oLn qF xs.length)<|zE (jY (aJ r htr ((xs.length:Nat):Int)))<|zE (vS false cK (by exact bne_eq_false_iff_eq.2 (by rw[show (zP ((xs.length:Nat):Int) r)=0 from hc2]<;>rfl)))<|zE vL<|zM<|zM<|zE (jY (x_div s hts (by omega)))<|zM<|zE (jY (x_div r htr (by omega)))<|zE (vT ((dvN s s.length)+(dvN r r.length)))<|zE (vS false dV (by exact decide_eq_false (by omega)))<|zE vL<|zZ) ?_
 refine qE ?_
 refine jD<|jB<|kx [(7,(.ref 0 0)),(8,(kF 0))] [(0,some (bx (jG (jM (xA xs s)))))] (zM<|zM<|zE (jY (u_val s hts xs hx hf1 hxb))<|zM<|zE xJ<|zE xJ<|zN (vH 0 qY uJ)<|zT (qJ jT)<|zM<|zZ) ?_
 refine jB<|kx [(9,(.ref 1 0)),(10,(kF 0))] [(1,some (bx (jG (jM (xA xs r)))))] (zM<|zM<|zE (jY (u_val r htr xs hx hf2 hxb))<|zM<|zE xJ<|zE xJ<|zN (vH 1 qY uJ)<|zT (qJ jT)<|zM<|zZ) ?_
 refine jB<|jB<|kx [(82,(vb false))] [] (zM<|zE (vS false cK)<|zM<|zM<|zE (vS false cK)<|zE vL<|zZ) ?_
 refine qE ?_
 refine jD<|jB<|jB<|kx [(84,(kF xs.length)),(85,(kF 0))] [] (zM<|zE (oLn qF xs.length)<|zM<|zZ) ?_
 refine jH<|kO (α:=Nat) (fun i=>⟨[(0,(vl 72 7 jK s)),(1,(vl 72 7 jK r)),(2,(vl 32 4 jG (List.map jM xs))),(7,(.ref 0 0)),(9,(.ref 1 0)),(84,(kF xs.length)),(85,(kF i))],[(0,some (bx (jG (jM (xA xs s))))),(1,some (bx (jG (jM (xA xs r)))))]⟩) (fun i=>i<=xs.length) (fun i=>xs.length-i) 0 wk (Nat.zero_le _) ?_
 rintro i hi
 refine jB<|kx [(86,(vb (decide (((i:Nat):Int)<((xs.length:Nat):Int)))))] [] (zE gZ<|zZ) ?_
 refine jB<|jE rfl (fun h1=>?_) (fun h1=>?_)
 ·replace h1:=vY h1
  refine jD<|jB<|jH<|jB<|kx [(11,(kF i))] [] (zM<|zM<|zZ) ?_
  refine jB<|kx [(12,(.own 2 32 4 0))] [(2,some (uK jG []))] (zN (oBo 2 qF qY uJ)<|zM<|zZ) ?_
  refine jB<|jB<|kx [(97,(vl 23 1 enc_sl_22 [s,r,(dM 2 s r),(dM 4 s r)])),(98,(kF 4)),(99,(kF 0))] [] (zM<|zM<|zM<|zM<|zE (jY (x_join ((2:Nat):Int) s hts r htr m u2m s1 r1 (by omega) (by omega)))<|zM<|zM<|zE (jY (x_join ((4:Nat):Int) s hts r htr m u2m s1 r1 (by omega) (by omega)))<|zE (eY el56 ze23 zo23)<|zE (oLn el56 4)<|zM<|zZ) ?_
  refine jH<|pwp_rounds 5 ?_
  refine pwp_round<|jB<|kx [(100,(vb true))] [] (zE (vS true gZ)<|zZ) ?_
  refine jB<|xQ ?_
  refine jD<|jB<|jH<|jB<|kx [(14,(vl 72 7 jK s))] [] (zE (oXs el56 0)<|zE (nY sh23)<|zM<|zZ) ?_
  refine jB<|kx [(15,(vl 72 7 jK (F1 i))),(16,(kF 0))] [] (zM<|zM<|zE (oLn qF xs.length)<|zM<|zE (jY (hy1 i (by omega)))<|zM<|zE xJ<|zE xJ<|zM<|zM<|zZ) ?_
  refine jB<|jB<|kx [(112,(vb false))] [] (zM<|zE (vS false cK)<|zZ) ?_
  refine qE ?_
  refine jD<|jB<|kx [(16,(kF 0)),(17,(.ref 3 0))] [(3,some (bx (jG (jM (g1 i)))))] (zM<|zM<|zE (jY (hv1 i (by omega)))<|zM<|zE xJ<|zE xJ<|zH (vH 3 qY uJ)<|zT (qJ jT)<|zM<|zZ) ?_
  refine jB<|jB<|kx [(120,(vb false))] [] (zM<|zE (vS false cK)<|zZ) ?_
  refine qE ?_
  refine jD<|kf [(12,(.own 2 32 4 ([(jM (g1 i))].length)))] [(2,some (uK jG [(jM (g1 i))]))] (zM<|zR (kP jT)<|zE (eY qF qY uJ)<|zAS jG [] [(jM (g1 i))] rfl qF qY by32<|zM<|zF) ?_
  refine kx [(99,(kF 1))] [] (zE (vT 1 (hr:=by decide))<|zM<|zZ) ?_
  refine pwp_again (uY.refl _) ?_
  refine jB<|kx [(100,(vb true))] [] (zE (vS true gZ)<|zZ) ?_
  refine jB<|xQ ?_
  refine jD<|jB<|jH<|jB<|kx [(14,(vl 72 7 jK r))] [] (zE (oXs el56 1)<|zE (nY sh23)<|zM<|zZ) ?_
  refine jB<|qG (wk (l:=[(0,(vl 72 7 jK s)),(1,(vl 72 7 jK r)),(2,(vl 32 4 jG (List.map jM xs))),(7,(.ref 0 0)),(9,(.ref 1 0)),(11,(kF i)),(12,(.own 2 32 4 ([(jM (g1 i))].length))),(14,(vl 72 7 jK r)),(84,(kF xs.length)),(85,(kF i)),(97,(vl 23 1 enc_sl_22 [s,r,(dM 2 s r),(dM 4 s r)])),(98,(kF 4)),(99,(kF 1))]) (b:=[(0,some (bx (jG (jM (xA xs s))))),(1,some (bx (jG (jM (xA xs r))))),(2,some (uK jG [(jM (g1 i))]))])) ?_
  refine kx [(15,(vl 72 7 jK (F2 i))),(16,(kF 0))] [] (zM<|zM<|zE (oLn qF xs.length)<|zM<|zE (jY (hy2 i (by omega)))<|zM<|zE xJ<|zE xJ<|zM<|zM<|zZ) ?_
  refine jB<|jB<|kx [(112,(vb false))] [] (zM<|zE (vS false cK)<|zZ) ?_
  refine qE ?_
  refine jD<|jB<|kx [(16,(kF 0)),(17,(.ref 4 0))] [(4,some (bx (jG (jM (g2 i)))))] (zM<|zM<|zE (jY (hv2 i (by omega)))<|zM<|zE xJ<|zE xJ<|zH (vH 4 qY uJ)<|zT (qJ jT)<|zM<|zZ) ?_
  refine jB<|jB<|kx [(120,(vb false))] [] (zM<|zE (vS false cK)<|zZ) ?_
  refine qE ?_
  refine jD<|kf [(12,(.own 2 32 4 ([(jM (g1 i)),(jM (g2 i))].length)))] [(2,some (uK jG [(jM (g1 i)),(jM (g2 i))]))] (zM<|zR (kP jT)<|zE (eY qF qY uJ)<|zAS jG [(jM (g1 i))] [(jM (g2 i))] rfl qF qY by32<|zM<|zF) ?_
  refine kx [(99,(kF 2))] [] (zE (vT 2 (hr:=by decide))<|zM<|zZ) ?_
  refine pwp_again (uY.refl _) ?_
  refine jB<|kx [(100,(vb true))] [] (zE (vS true gZ)<|zZ) ?_
  refine jB<|xQ ?_
  refine jD<|jB<|jH<|jB<|kx [(14,(vl 72 7 jK (dM 2 s r)))] [] (zE (oXs el56 2)<|zE (nY sh23)<|zM<|zZ) ?_
  refine jB<|kx [(15,(vl 72 7 jK (F3 i))),(16,(kF 0))] [] (zM<|zM<|zE (oLn qF xs.length)<|zM<|zE (jY (hy3 i (by omega)))<|zM<|zE xJ<|zE xJ<|zM<|zM<|zZ) ?_
  refine jB<|jB<|kx [(112,(vb false))] [] (zM<|zE (vS false cK)<|zZ) ?_
  refine qE ?_
  refine jD<|jB<|kx [(16,(kF 0)),(17,(.ref 5 0))] [(5,some (bx (jG (jM (g3 i)))))] (zM<|zM<|zE (jY (hv3 i (by omega)))<|zM<|zE xJ<|zE xJ<|zH (vH 5 qY uJ)<|zT (qJ jT)<|zM<|zZ) ?_
  refine jB<|jB<|kx [(120,(vb false))] [] (zM<|zE (vS false cK)<|zZ) ?_
  refine qE ?_
  refine jD<|kf [(12,(.own 2 32 4 ([(jM (g1 i)),(jM (g2 i)),(jM (g3 i))].length)))] [(2,some (uK jG [(jM (g1 i)),(jM (g2 i)),(jM (g3 i))]))] (zM<|zR (kP jT)<|zE (eY qF qY uJ)<|zAS jG [(jM (g1 i)),(jM (g2 i))] [(jM (g3 i))] rfl qF qY by32<|zM<|zF) ?_
  refine kx [(99,(kF 3))] [] (zE (vT 3 (hr:=by decide))<|zM<|zZ) ?_
  refine pwp_again (uY.refl _) ?_
  refine jB<|qG (wk (l:=[(0,(vl 72 7 jK s)),(1,(vl 72 7 jK r)),(2,(vl 32 4 jG (List.map jM xs))),(7,(.ref 0 0)),(9,(.ref 1 0)),(11,(kF i)),(12,(.own 2 32 4 ([(jM (g1 i)),(jM (g2 i)),(jM (g3 i))].length))),(84,(kF xs.length)),(85,(kF i)),(97,(vl 23 1 enc_sl_22 [s,r,(dM 2 s r),(dM 4 s r)])),(98,(kF 4)),(99,(kF 3))]) (b:=[(0,some (bx (jG (jM (xA xs s))))),(1,some (bx (jG (jM (xA xs r))))),(2,some (uK jG [(jM (g1 i)),(jM (g2 i)),(jM (g3 i))]))])) ?_
  refine kx [(100,(vb true))] [] (zE (vS true gZ)<|zZ) ?_
  refine jB<|xQ ?_
  refine jD<|jB<|jH<|jB<|kx [(14,(vl 72 7 jK (dM 4 s r)))] [] (zE (oXs el56 3)<|zE (nY sh23)<|zM<|zZ) ?_
  refine jB<|kx [(15,(vl 72 7 jK (F4 i))),(16,(kF 0))] [] (zM<|zM<|zE (oLn qF xs.length)<|zM<|zE (jY (hy4 i (by omega)))<|zM<|zE xJ<|zE xJ<|zM<|zM<|zZ) ?_
  refine jB<|jB<|kx [(112,(vb false))] [] (zM<|zE (vS false cK)<|zZ) ?_
  refine qE ?_
  refine jD<|jB<|kx [(16,(kF 0)),(17,(.ref 6 0))] [(6,some (bx (jG (jM (g4 i)))))] (zM<|zM<|zE (jY (hv4 i (by omega)))<|zM<|zE xJ<|zE xJ<|zH (vH 6 qY uJ)<|zT (qJ jT)<|zM<|zZ) ?_
  refine jB<|jB<|kx [(120,(vb false))] [] (zM<|zE (vS false cK)<|zZ) ?_
  refine qE ?_
  refine jD<|kf [(12,(.own 2 32 4 ([(jM (g1 i)),(jM (g2 i)),(jM (g3 i)),(jM (g4 i))].length)))] [(2,some (uK jG [(jM (g1 i)),(jM (g2 i)),(jM (g3 i)),(jM (g4 i))]))] (zM<|zR (kP jT)<|zE (eY qF qY uJ)<|zAS jG [(jM (g1 i)),(jM (g2 i)),(jM (g3 i))] [(jM (g4 i))] rfl qF qY by32<|zM<|zF) ?_
  refine kx [(99,(kF 4))] [] (zE (vT 4 (hr:=by decide))<|zM<|zZ) ?_
  refine pwp_again (uY.refl _) ?_
  refine jB<|kx [(100,(vb false))] [] (zE (vS false gZ)<|zZ) ?_
  refine jB<|qE ?_
  refine kL<|jB<|kd [(155,(vb false))] [] mo (wM<|wE (fK qF 2 (hj:=by first | omega | (simp only[List.length_cons,List.length_nil];omega) | decide) (h1:=by first | omega | (simp only[List.length_cons,List.length_nil];omega) | decide))<|wR (mR (jG ([(jM (g1 i)),(jM (g2 i)),(jM (g3 i)),(jM (g4 i))].getD 2 uG)) (jG (jM (g3 i))) (oLA jT 2 uG (h1:=by first | omega | (simp only[List.length_cons,List.length_nil];omega) | decide)) (by exact rfl))<|wM<|wE (fK qF 0 (hj:=by first | omega | (simp only[List.length_cons,List.length_nil];omega) | decide) (h1:=by first | omega | (simp only[List.length_cons,List.length_nil];omega) | decide))<|wR (mR (jG ([(jM (g1 i)),(jM (g2 i)),(jM (g3 i)),(jM (g4 i))].getD 0 uG)) (jG (jM (g1 i))) (oLA jT 0 uG (h1:=by first | omega | (simp only[List.length_cons,List.length_nil];omega) | decide)) (by exact rfl))<|wM<|wE (fK qF 1 (hj:=by first | omega | (simp only[List.length_cons,List.length_nil];omega) | decide) (h1:=by first | omega | (simp only[List.length_cons,List.length_nil];omega) | decide))<|wR (mR (jG ([(jM (g1 i)),(jM (g2 i)),(jM (g3 i)),(jM (g4 i))].getD 1 uG)) (jG (jM (g2 i))) (oLA jT 1 uG (h1:=by first | omega | (simp only[List.length_cons,List.length_nil];omega) | decide)) (by exact rfl))<|wE (jY (g_add (jM (g1 i)) (jM (g2 i)) (g1 i) (g2 i) (jW (kC (hG1 i))) (jW (kC (hG2 i)))))<|wE (vS true (jY (by have h:=g_same (jM (g3 i)) (jM ((g1 i)+(g2 i))) (g3 i) ((g1 i)+(g2 i)) (jW (kC (hG3 i))) (jW (kC (ql_add (k:=2097153) (hG1 i) (hG2 i))));rw[sameR_of] at h;exact h)) (by exact decide_eq_true (hsum i)))<|wE yT<|wM<|wM<|wE (fK qF 3 (hj:=by first | omega | (simp only[List.length_cons,List.length_nil];omega) | decide) (h1:=by first | omega | (simp only[List.length_cons,List.length_nil];omega) | decide))<|wR (mR (jG ([(jM (g1 i)),(jM (g2 i)),(jM (g3 i)),(jM (g4 i))].getD 3 uG)) (jG (jM (g4 i))) (oLA jT 3 uG (h1:=by first | omega | (simp only[List.length_cons,List.length_nil];omega) | decide)) (by exact rfl))<|wM<|wE (fK qF 0 (hj:=by first | omega | (simp only[List.length_cons,List.length_nil];omega) | decide) (h1:=by first | omega | (simp only[List.length_cons,List.length_nil];omega) | decide))<|wR (mR (jG ([(jM (g1 i)),(jM (g2 i)),(jM (g3 i)),(jM (g4 i))].getD 0 uG)) (jG (jM (g1 i))) (oLA jT 0 uG (h1:=by first | omega | (simp only[List.length_cons,List.length_nil];omega) | decide)) (by exact rfl))<|wR (kP jT)<|wE (jY (g_mul (jM (g1 i)) (jM (xA xs r)) (g1 i) (xA xs r) (jW (kC (hG1 i))) (jW (kC hf2.last))))<|wR (kP jT)<|wM<|wE (fK qF 1 (hj:=by first | omega | (simp only[List.length_cons,List.length_nil];omega) | decide) (h1:=by first | omega | (simp only[List.length_cons,List.length_nil];omega) | decide))<|wR (mR (jG ([(jM (g1 i)),(jM (g2 i)),(jM (g3 i)),(jM (g4 i))].getD 1 uG)) (jG (jM (g2 i))) (oLA jT 1 uG (h1:=by first | omega | (simp only[List.length_cons,List.length_nil];omega) | decide)) (by exact rfl))<|wE (jY (g_mul (jM (xA xs s)) (jM (g2 i)) (xA xs s) (g2 i) (jW (kC hf1.last)) (jW (kC (hG2 i)))))<|wE (jY (g_add (jM ((g1 i)*(xA xs r))) (jM ((xA xs s)*(g2 i))) ((g1 i)*(xA xs r)) ((xA xs s)*(g2 i)) (jW (kC (gS (k:=2097152) (hG1 i) hf2.last))) (jW (kC (gS (k:=2097152) hf1.last (hG2 i))))))<|wE (vS true (jY (by have h:=g_same (jM (g4 i)) (jM (((g1 i)*(xA xs r))+((xA xs s)*(g2 i)))) (g4 i) (((g1 i)*(xA xs r))+((xA xs s)*(g2 i))) (jW (kC (hG4 i))) (jW (kC (ql_add (k:=4194305) (gS (k:=2097152) (hG1 i) hf2.last) (gS (k:=2097152) hf1.last (hG2 i)))));rw[sameR_of] at h;exact h)) (by exact decide_eq_true (hmul i)))<|wE yT<|wE vL<|wZ) ?_
  refine qE ?_
  refine jD<|kx [(85,(kF (i+1)))] [] (zE (vT (i+1))<|zM<|zZ) ?_
  exact ⟨i+1,wk,(by omega),(by first|omega|(dsimp only;omega))⟩
 ·replace h1:=xC h1
  refine kL<|jB<|kx [(6,(vb true))] [] (zM<|zZ) ?_
  refine jF ⟨_,(.tmp (d:=(.val (.bool (true)))) rfl .nil),?_⟩
  rfl
end Go.Proofs.YtckccjhflbljgaaGreatDoor
