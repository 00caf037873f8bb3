/- Part 33 of a proof: rules, plain facts, and functions walked. -/
import Derived.Test.YtnajallgoaiahaaGreatDoorM32
import Derived.Test.YtnajallgoaiahaaGreatDoorM29
import Derived.Test.YtnajallgoaiahaaGreatDoorM30
import Derived.Test.YtnajallgoaiahaaGreatDoorM18
set_option linter.all false
set_option maxRecDepth 4000
namespace Go.Proofs.YtnajallgoaiahaaGreatDoor
open Go.Fid
theorem cb19:callB Tryz.prog 19=true:=by kernel_rfl
theorem s_chk(m:List (List jN))(hm:qS 1048576 m):jP Tryz.prog 19 [(.sl 24 1 (List.map jG m))] (.val (.int .i64 ((((yF m):Nat):Int)))):=by
 have hmb:=hm.2
 refine jI Tryz.func19 rfl cb19 rfl ?_
 show qJ _ _ _ _ ⟨[(0,(vl 24 1 jG m))],[]⟩
 refine jB<|kx [] [] (zM<|zZ) ?_
 refine jB<|jB<|kx [(25,(vb (((decide (((m.length:Nat):Int)<1)||decide (64<((m.length:Nat):Int)))||decide ((((m.getD 0 []).length:Nat):Int)<1))||decide (64<(((m.getD 0 []).length:Nat):Int)))))] [] ?_ ?_
 ·refine zM<|zE (uE uV)<|zE xG<|zE (oV (vb (decide (((m.length:Nat):Int)<1))) (kR (by kernel_rfl)))<|?_
  rcases hb1:(decide (((m.length:Nat):Int)<1)) with _ | _
  ·replace hb1:=uX hb1
   refine zM<|zE (uE uV)<|zE mA<|zE cG<|zE (oV (vb (false||decide (64<((m.length:Nat):Int)))) (kR (by kernel_rfl)))<|?_
   rcases hb2:(false||decide (64<((m.length:Nat):Int))) with _ | _
   ·replace hb2:=uX (p:=(64<((m.length:Nat):Int))) hb2
    refine zM<|zE (xJ uV 0 ([]:List (jN)))<|zE (xO gB)<|zE (uE qY (L:=(m.getD 0 [])))<|zE xG<|zE cG<|zE (oV (vb (false||decide ((((m.getD 0 []).length:Nat):Int)<1))) (kR (by kernel_rfl)))<|?_
    rcases hb3:(false||decide ((((m.getD 0 []).length:Nat):Int)<1)) with _ | _
    ·replace hb3:=uX (p:=((((m.getD 0 []).length:Nat):Int)<1)) hb3
     exact zM<|zE (xJ uV 0 ([]:List (jN)))<|zE (xO gB)<|zE (uE qY (L:=(m.getD 0 [])))<|zE mA<|zE cG<|zZ
    ·replace hb3:=uW (p:=((((m.getD 0 []).length:Nat):Int)<1)) hb3
     exact zK<|zK<|zK<|zK<|zK<|zE xA<|zZ
   ·replace hb2:=uW (p:=(64<((m.length:Nat):Int))) hb2
    exact zK<|zK<|zK<|zK<|zK<|zE xA<|zM<|zK<|zK<|zK<|zK<|zK<|zE xA<|zZ
  ·replace hb1:=uW hb1
   exact zK<|zK<|zK<|zE xA<|zM<|zK<|zK<|zK<|zK<|zK<|zE xA<|zM<|zK<|zK<|zK<|zK<|zK<|zE xA<|zZ
 refine jF rfl (fun h4=>?_) (fun h4=>?_)
 ·refine jB<|kx [(2,(jR 1))] [] (zM<|zZ) ?_
  refine jE ⟨_,(.tmp (d:=(.val (.int .i64 (1)))) rfl .nil),?_⟩
  rw[mchk_1 h4];rfl
 ·have h0:=shp_0 h4
  have hsh:=h4
  refine jD<|jB<|jB<|kx [(3,(jR 0))] [] (zM<|zZ) ?_
  refine jH<|kB (α:=Nat) (fun i=>⟨[(0,(vl 24 1 jG m)),(3,(jR i))],[]⟩) (fun i=>i≤m.length∧∀ a,a<i→zJ m (m.getD a [])=false) (fun i=>m.length-i) 0 wk ⟨Nat.zero_le _,fun a h=>by omega⟩ ?_
  rintro i ⟨hi,he⟩
  refine jB<|jB<|kx [(29,(vb (decide (((i:Nat):Int)<((m.length:Nat):Int)))))] [] (zM<|zM<|zE (uE uV)<|zE xG<|zZ) ?_
  refine jF rfl (fun h5=>?_) (fun h5=>?_)
  ·replace h5:=uW h5
   refine jD<|jB<|jH<|jB<|kd [(49,(vb (((((m.getD i []).length:Nat):Int) != (((m.getD 0 []).length:Nat):Int))||!(yA (m.getD i [])))))] [] mo ?_ ?_
   ·refine wM<|wM<|wE (xJ uV i ([]:List (jN)))<|wE (xO gB)<|wE (uE qY (L:=(m.getD i [])))<|wM<|wE (xJ uV 0 ([]:List (jN)))<|wE (xO gB)<|wE (uE qY (L:=(m.getD 0 [])))<|wE mC<|wE (oV (vb ((((m.getD i []).length:Nat):Int) != (((m.getD 0 []).length:Nat):Int))) (kR (by kernel_rfl)))<|?_
    rcases hb6:((((m.getD i []).length:Nat):Int) != (((m.getD 0 []).length:Nat):Int)) with _ | _
    ·replace hb6:=bne_eq_false_iff_eq.1 hb6
     exact wM<|wM<|wE (xJ uV i ([]:List (jN)))<|wE (xO gB)<|wE (jX (m_vlist (m.getD i []) (uL (d:=[]) hm (show i<m.length by omega))))<|wE nY<|wE cG<|wZ
    ·replace hb6:=bne_iff_ne.1 hb6
     exact wK<|wK<|wK<|wK<|wK<|wK<|wE xA<|wZ
   refine jF rfl (fun h7=>?_) (fun h7=>?_)
   ·refine jB<|kx [(2,(jR 1))] [] (zM<|zZ) ?_
    refine jE ⟨_,(.tmp (d:=(.val (.int .i64 (1)))) rfl .nil),?_⟩
    rw[mchk_2 (bad_any (i:=i) (by omega) h7)];rfl
   ·refine jD<|kx [(3,(jR (i+1)))] [] (zM<|zE (vT (i+1))<|zM<|zZ) ?_
    exact ⟨i+1,wk,⟨by omega,up_bad he h7⟩,(by first|omega|(dsimp only;omega))⟩
  ·replace h5:=uX h5
   have hie:i=m.length:=by omega
   subst hie
   refine kC<|jB<|kx [(2,(jR 0))] [] (zM<|zZ) ?_
   refine jE ⟨_,(.tmp (d:=(.val (.int .i64 (0)))) rfl .nil),?_⟩
   rw[mchk_3 hsh (bad_none he)];rfl
theorem cb17:callB Tryz.prog 17=true:=by kernel_rfl
theorem cb46:callB Tryz.prog 46=true:=by kernel_rfl
theorem cb70:callB Tryz.prog 70=true:=by kernel_rfl
theorem cb104:callB Tryz.prog 104=true:=by kernel_rfl
theorem u_brief(x:jN)(p:Rat)(hx:mI x p 140737488355328):jP Tryz.prog 104 [(jK x)] (.val (.bool ((brX x)))):=by
 refine jI Tryz.func104 rfl cb104 rfl ?_
 show qJ _ _ _ _ ⟨[(0,(.d (jK x)))],[]⟩
 refine jB<|kx [(1,(.ref 0 0))] [(0,some (bx (jK x)))] (zN (vW 0)<|zM<|zZ) ?_
 refine jB<|kd [(3,(vl 140 1 jC x.num.gs)),(4,(vl 140 1 jC x.den.gs))] [] mo (wE (qE zG)<|wE (qE vS)<|wR (uN xZ)<|wE (qE xE)<|wE (qE vS)<|wR (uN xZ)<|wM<|wM<|wZ) ?_
 refine jB<|jB<|kx [(18,(vb (decide (1<((x.num.gs.length:Nat):Int))||decide (1<((x.den.gs.length:Nat):Int)))))] [] ?_ ?_
 ·refine zM<|zE (uE kK)<|zE mA<|zE (oV (vb (decide (1<((x.num.gs.length:Nat):Int)))) (kR (by kernel_rfl)))<|?_
  rcases hb1:(decide (1<((x.num.gs.length:Nat):Int))) with _ | _
  ·replace hb1:=uX hb1
   exact zM<|zE (uE kK)<|zE mA<|zE cG<|zZ
  ·replace hb1:=uW hb1
   exact zK<|zK<|zK<|zE xA<|zZ
 refine jF rfl (fun h2=>?_) (fun h2=>?_)
 ·refine jB<|kx [(2,(vb false))] [] (zM<|zZ) ?_
  refine jE ⟨_,(.tmp (d:=(.val (.bool (false)))) rfl .nil),?_⟩
  unfold brX;rw[if_pos h2];rfl
 ·refine jD<|jB<|kx [(2,(vb (((((x.num.gs.length:Nat):Int) == 0)||decide ((((x.num.gs.getD 0 0):Nat):Int)<100000))&&((((x.den.gs.length:Nat):Int) == 0)||decide ((((x.den.gs.getD 0 0):Nat):Int)≤100)))))] [] ?_ ?_
  ·refine zM<|zE (uE kK)<|zE gD<|zE (oV (vb (((x.num.gs.length:Nat):Int) == 0)) (kR (by kernel_rfl)))<|?_
   rcases hb3:(((x.num.gs.length:Nat):Int) == 0) with _ | _
   ·replace hb3:=ne_of_beq_false hb3
    refine zM<|zE (xJ kK 0 (0:Nat))<|zE (xO qR)<|zE xG<|zE cG<|zE (oV (vb (false||decide ((((x.num.gs.getD 0 0):Nat):Int)<100000))) (kR (by kernel_rfl)))<|?_
    rcases hb4:(false||decide ((((x.num.gs.getD 0 0):Nat):Int)<100000)) with _ | _
    ·exact zK<|zK<|zK<|zK<|zK<|zK<|zK<|zK<|zK<|zE xN<|zM<|zZ
    ·refine zM<|zE (uE kK)<|zE gD<|zE (oV (vb (((x.den.gs.length:Nat):Int) == 0)) (kR (by kernel_rfl)))<|?_
     rcases hb5:(((x.den.gs.length:Nat):Int) == 0) with _ | _
     ·replace hb5:=ne_of_beq_false hb5
      exact zM<|zE (xJ kK 0 (0:Nat))<|zE (xO qR)<|zE oLe<|zE cG<|zE fM<|zM<|zZ
     ·replace hb5:=eq_of_beq hb5
      exact zK<|zK<|zK<|zK<|zE xA<|zE xA<|zM<|zZ
   ·replace hb3:=eq_of_beq hb3
    refine zK<|zK<|zK<|zK<|zE xA<|zM<|zM<|zE (uE kK)<|zE gD<|zE (oV (vb (((x.den.gs.length:Nat):Int) == 0)) (kR (by kernel_rfl)))<|?_
    rcases hb6:(((x.den.gs.length:Nat):Int) == 0) with _ | _
    ·replace hb6:=ne_of_beq_false hb6
     exact zM<|zE (xJ kK 0 (0:Nat))<|zE (xO qR)<|zE oLe<|zE cG<|zE fM<|zM<|zZ
    ·replace hb6:=eq_of_beq hb6
     exact zK<|zK<|zK<|zK<|zE xA<|zE xA<|zM<|zZ
  refine jE ⟨_,(.tmp (d:=(.val (.bool ((((((x.num.gs.length:Nat):Int) == 0)||decide ((((x.num.gs.getD 0 0):Nat):Int)<100000))&&((((x.den.gs.length:Nat):Int) == 0)||decide ((((x.den.gs.getD 0 0):Nat):Int)≤100))))))) rfl .nil),?_⟩
  unfold brX;rw[if_neg (by rw[h2];decide)];rfl
theorem u_short(l:List jN)(hl:uJ 140737488355328 l)(c:Nat)(hc:c≤1000)(n:Nat)(hn:n≤1000):jP Tryz.prog 46 [(.sl 45 4 (List.map jK l)),(.val (.int .i64 (((c:Nat):Int)))),(.val (.int .i64 (((n:Nat):Int))))] (.val (.bool ((shR c n l)))):=by
 have hb:=hl.2
 let y1:=qH
 refine jI Tryz.func46 rfl cb46 rfl ?_
 show qJ _ _ _ _ ⟨[(0,(vl 45 4 jK l)),(1,(jR c)),(2,(jR n))],[]⟩
 refine jB<|kx [] [] (zM<|zZ) ?_
 refine jB<|jB<|kx [(11,(vb (decide (((c:Nat):Int)<((l.length:Nat):Int)))))] [] (zM<|zE (uE qY)<|zM<|zE mA<|zZ) ?_
 refine jF rfl (fun h1=>?_) (fun h1=>?_)
 ·replace h1:=uW h1
  refine jB<|kx [(6,(vb false))] [] (zM<|zZ) ?_
  refine jE ⟨_,(.tmp (d:=(.val (.bool (false)))) rfl .nil),?_⟩
  rw[shR_long (by omega)];rfl
 ·replace h1:=uX h1
  have hlk:=h1
  refine jD<|jB<|jB<|kx [(7,(jR 0))] [] (zM<|zZ) ?_
  refine jH<|kB (α:=Nat) (fun i=>⟨[(0,(vl 45 4 jK l)),(2,(jR n)),(7,(jR i))],[]⟩) (fun i=>i≤l.length∧(l.take i).all (shX n)=true) (fun i=>l.length-i) 0 wk ⟨Nat.zero_le _,by simp⟩ ?_
  rintro i ⟨hi,hal⟩
  refine jB<|jB<|kx [(15,(vb (decide (((i:Nat):Int)<((l.length:Nat):Int)))))] [] (zM<|zM<|zE (uE qY)<|zE xG<|zZ) ?_
  refine jF rfl (fun h2=>?_) (fun h2=>?_)
  ·replace h2:=uW h2
   refine jD<|jB<|jH<|jB<|kx [(36,(vb (decide (((n:Nat):Int)<(((digR (l.getD i y1)):Nat):Int))||(decide (((n:Nat):Int)≤6)&&!(brX (l.getD i y1))))))] [] ?_ ?_
   ·refine zM<|zM<|zE (xJ qY i y1)<|zE (nR jT)<|zE (jX (g_digits (l.getD i y1) (qM (l.getD i y1)) (vM hl.1 (show i<l.length by omega))))<|zM<|zE mA<|zE (oV (vb (decide (((n:Nat):Int)<(((digR (l.getD i y1)):Nat):Int)))) (kR (by kernel_rfl)))<|?_
    rcases hb3:(decide (((n:Nat):Int)<(((digR (l.getD i qH)):Nat):Int))) with _ | _
    ·replace hb3:=uX hb3
     refine zM<|zE oLe<|zE (oV (vb (decide (((n:Nat):Int)≤6))) (kR (by kernel_rfl)))<|?_
     rcases hb4:(decide (((n:Nat):Int)≤6)) with _ | _
     ·replace hb4:=uX hb4
      exact zK<|zK<|zK<|zK<|zK<|zK<|zE xN<|zE xN<|zZ
     ·replace hb4:=uW hb4
      exact zM<|zM<|zE (xJ qY i y1)<|zE (nR jT)<|zE (jX (u_brief (l.getD i y1) (qM (l.getD i y1)) (vM hl.1 (show i<l.length by omega))))<|zE nY<|zE fM<|zE cG<|zZ
    ·replace hb3:=uW hb3
     exact zK<|zK<|zK<|zK<|zK<|zK<|zK<|zK<|zK<|zK<|zE xA<|zZ
   refine jF rfl (fun h5=>?_) (fun h5=>?_)
   ·refine jB<|kx [(6,(vb false))] [] (zM<|zZ) ?_
    refine jE ⟨_,(.tmp (d:=(.val (.bool (false)))) rfl .nil),?_⟩
    rw[shR_no (all_no (i:=i) (d:=qH) (by omega) (shX_t h5))];rfl
   ·have hfi:shX n (l.getD i qH)=true:=shX_f h5
    refine jD<|kx [(7,(jR (i+1)))] [] (zM<|zE (vT (i+1))<|zM<|zZ) ?_
    exact ⟨(i+1),wk,⟨by omega,all_up (d:=qH) (by omega) hal hfi⟩,(by omega)⟩
  ·replace h2:=uX h2
   have hie:i=l.length:=by omega
   rw[hie,List.take_length] at hal
   refine kC<|jB<|kx [(6,(vb true))] [] (zM<|zZ) ?_
   refine jE ⟨_,(.tmp (d:=(.val (.bool (true)))) rfl .nil),?_⟩
   rw[shR_yes hlk hal];rfl
theorem u_shortM(m:List (List jN))(hm:qS 140737488355328 m)(c:Nat)(hc:c≤1000)(n:Nat)(hn:n≤1000):jP Tryz.prog 70 [(.sl 24 1 (List.map jG m)),(.val (.int .i64 (((c:Nat):Int)))),(.val (.int .i64 (((n:Nat):Int))))] (.val (.bool ((shM c n m)))):=by
 have hb:=hm.2
 refine jI Tryz.func70 rfl cb70 rfl ?_
 show qJ _ _ _ _ ⟨[(0,(vl 24 1 jG m)),(1,(jR c)),(2,(jR n))],[]⟩
 refine jB<|kx [] [] (zM<|zZ) ?_
 refine jB<|jB<|kx [(11,(vb (decide (((c:Nat):Int)<((m.length:Nat):Int)))))] [] (zM<|zE (uE uV)<|zM<|zE mA<|zZ) ?_
 refine jF rfl (fun h1=>?_) (fun h1=>?_)
 ·replace h1:=uW h1
  refine jB<|kx [(6,(vb false))] [] (zM<|zZ) ?_
  refine jE ⟨_,(.tmp (d:=(.val (.bool (false)))) rfl .nil),?_⟩
  rw[shM_long (by omega)];rfl
 ·replace h1:=uX h1
  have hlk:=h1
  refine jD<|jB<|jB<|kx [(7,(jR 0))] [] (zM<|zZ) ?_
  refine jH<|kB (α:=Nat) (fun i=>⟨[(0,(vl 24 1 jG m)),(1,(jR c)),(2,(jR n)),(7,(jR i))],[]⟩) (fun i=>i≤m.length∧(m.take i).all (shR c n)=true) (fun i=>m.length-i) 0 wk ⟨Nat.zero_le _,by simp⟩ ?_
  rintro i ⟨hi,hal⟩
  refine jB<|jB<|kx [(15,(vb (decide (((i:Nat):Int)<((m.length:Nat):Int)))))] [] (zM<|zM<|zE (uE uV)<|zE xG<|zZ) ?_
  refine jF rfl (fun h2=>?_) (fun h2=>?_)
  ·replace h2:=uW h2
   refine jD<|jB<|jH<|jB<|kx [(25,(vb (!(shR c n (m.getD i [])))))] [] (zM<|zM<|zE (xJ uV i ([]:List (jN)))<|zE (xO gB)<|zM<|zM<|zE (jX (u_short (m.getD i []) (uL (d:=[]) hm (show i<m.length by omega)) c (by omega) n (by omega)))<|zE nY<|zZ) ?_
   refine jF (b:=!(shR c n (m.getD i []))) rfl (fun h3=>?_) (fun h3=>?_)
   ·refine jB<|kx [(6,(vb false))] [] (zM<|zZ) ?_
    refine jE ⟨_,(.tmp (d:=(.val (.bool (false)))) rfl .nil),?_⟩
    rw[shM_no (all_no (i:=i) (d:=[]) (by omega) (by simpa using h3))];rfl
   ·have hfi:shR c n (m.getD i [])=true:=by simpa using h3
    refine jD<|kx [(7,(jR (i+1)))] [] (zM<|zE (vT (i+1))<|zM<|zZ) ?_
    exact ⟨(i+1),wk,⟨by omega,all_up (d:=[]) (by omega) hal hfi⟩,(by omega)⟩
  ·replace h2:=uX h2
   have hie:i=m.length:=by omega
   rw[hie,List.take_length] at hal
   refine kC<|jB<|kx [(6,(vb true))] [] (zM<|zZ) ?_
   refine jE ⟨_,(.tmp (d:=(.val (.bool (true)))) rfl .nil),?_⟩
   rw[shM_yes hlk hal];rfl
theorem fY(m:List (List jN))(hm:qS 140737488355328 m):jP Tryz.prog 17 [(.sl 24 1 (List.map jG m))] (.val (.bool ((shM 5 6 m)))):=by
 refine jI Tryz.func17 rfl cb17 rfl ?_
 show qJ _ _ _ _ ⟨[(0,(vl 24 1 jG m))],[]⟩
 refine jB<|kx [] [] (zM<|zZ) ?_
 refine jB<|kx [(2,(vb (shM 5 6 m)))] [] (zM<|zE (jX (u_shortM m hm 5 (by omega) 6 (by omega)))<|zM<|zZ) ?_
 refine jE ⟨_,(.tmp (d:=(.val (.bool ((shM 5 6 m))))) rfl .nil),?_⟩
 rfl
theorem cb12:callB Tryz.prog 12=true:=by kernel_rfl
theorem cb45:callB Tryz.prog 45=true:=by kernel_rfl
theorem u_few(t:List kW)(ht:yM 140737488355328 t)(n:Nat)(hn:n≤1000)(m:Nat)(hm:m≤1000)(htl:t.length≤140737488355328):jP Tryz.prog 45 [(.sl 83 7 (List.map qA t)),(.val (.int .i64 (((n:Nat):Int)))),(.val (.int .i64 (((m:Nat):Int))))] (.val (.bool ((cR n m t)))):=by
 refine jI Tryz.func45 rfl cb45 rfl ?_
 show qJ _ _ _ _ ⟨[(0,(vl 83 7 qA t)),(1,(jR n)),(2,(jR m))],[]⟩
 refine jB<|kx [] [] (zM<|zZ) ?_
 refine jB<|jB<|kx [(16,(vb (decide (((n:Nat):Int)<((t.length:Nat):Int)))))] [] (zM<|zE (uE el23)<|zM<|zE mA<|zZ) ?_
 refine jF rfl (fun h1=>?_) (fun h1=>?_)
 ·replace h1:=uW h1
  refine jB<|kx [(6,(vb false))] [] (zM<|zZ) ?_
  refine jE ⟨_,(.tmp (d:=(.val (.bool (false)))) rfl .nil),?_⟩
  rw[fewT_long h1];rfl
 ·replace h1:=uX h1
  have hlk:=h1
  refine jD<|jB<|jB<|kx [(17,(vl 83 7 qA t)),(18,(jR t.length)),(19,(jR 0))] [] (zM<|zE (uE el23)<|zM<|zZ) ?_
  refine jH<|kB (α:=Nat) (fun i=>⟨[(0,(vl 83 7 qA t)),(2,(jR m)),(17,(vl 83 7 qA t)),(18,(jR t.length)),(19,(jR i))],[]⟩) (fun i=>i≤t.length∧(t.take i).all dgB=true) (fun i=>t.length-i) 0 wk ⟨Nat.zero_le _,by simp⟩ ?_
  rintro i ⟨hi,hal⟩
  refine jB<|kx [(20,(vb (decide (((i:Nat):Int)<((t.length:Nat):Int)))))] [] (zE xG<|zZ) ?_
  refine jB<|jF rfl (fun h2=>?_) (fun h2=>?_)
  ·replace h2:=uW h2
   refine jD<|jB<|jH<|jB<|kx [(8,(.ref 0 0))] [(0,some (bx (qA (t.getD i tz))))] (zE (xJ el23 i (tz:kW))<|zE (nR sh83)<|zN (uF 0 ze83 zo83)<|zT (qK sh83)<|zZ) ?_
   refine jB<|kx [(26,(vb (decide (8<(((digR ((t.getD i tz).n)):Nat):Int)))))] [] (zE (qE dU)<|zR (kM jT)<|zE (jX (g_digits ((t.getD i tz).n) (qM (t.getD i tz).n) (tn_get ht (show i<t.length by omega))))<|zE mA<|zZ) ?_
   refine jF rfl (fun h3=>?_) (fun h3=>?_)
   ·replace h3:=uW h3
    refine jB<|kx [(6,(vb false))] [] (zM<|zZ) ?_
    refine jE ⟨_,(.tmp (d:=(.val (.bool (false)))) rfl .nil),?_⟩
    rw[fewT_dig (all_no (i:=i) (d:=tz) (by omega) (dgB_n h3))];rfl
   ·replace h3:=uX h3
    refine jD<|kx [(19,(jR (i+1)))] [] (zE (vT (i+1))<|zM<|zZ) ?_
    exact ⟨(i+1),wk,⟨by omega,all_up (d:=tz) (by omega) hal (dgB_y h3)⟩,(by first|omega|(dsimp only;omega))⟩
  ·replace h2:=uX h2
   have hie:i=t.length:=by omega
   rw[hie,List.take_length] at hal
   have hT8:yM 8 t:=dg_ok hal
   refine kC<|jB<|kx [(9,(vl 3 1 qD (tmL 8 t))),(10,(jR (cB 8 t)))] [] (zM<|zE (jX (u_sizes t (tn_up hT8 (by decide)) 8))<|zM<|zE xD<|zE xD<|zM<|zM<|zZ) ?_
   refine jB<|jB<|kx [(34,(vb ((((cB 8 t):Nat):Int) != 0)))] [] (zM<|zE mC<|zZ) ?_
   refine jF (b:=((((cB 8 t):Nat):Int) != 0)) rfl (fun h4=>?_) (fun h4=>?_)
   ·replace h4:=bne_iff_ne.1 h4
    refine jB<|kx [(6,(vb true))] [] (zM<|zZ) ?_
    refine jE ⟨_,(.tmp (d:=(.val (.bool (true)))) rfl .nil),?_⟩
    rw[fewT_code hlk hal h4];rfl
   ·replace h4:=bne_eq_false_iff_eq.1 h4
    have hc0:=h4
    have hll:=tmL_len hc0
    refine jD<|jB<|jB<|kx [(35,(vl 3 1 qD (tmL 8 t))),(36,(jR ((tmL 8 t).length))),(37,(jR 0))] [] (zM<|zE (uE nT (L:=(tmL 8 t)))<|zM<|zZ) ?_
    refine jH<|kB (α:=Nat) (fun j=>⟨[(2,(jR m)),(35,(vl 3 1 qD (tmL 8 t))),(36,(jR ((tmL 8 t).length))),(37,(jR j))],[]⟩) (fun j=>j≤(tmL 8 t).length∧((tmL 8 t).take j).all (szB m)=true) (fun j=>(tmL 8 t).length-j) 0 wk ⟨Nat.zero_le _,by simp⟩ ?_
    rintro j ⟨hj,hal2⟩
    refine jB<|kx [(38,(vb (decide (((j:Nat):Int)<(((tmL 8 t).length:Nat):Int)))))] [] (zE xG<|zZ) ?_
    refine jB<|jF rfl (fun h5=>?_) (fun h5=>?_)
    ·replace h5:=uW h5
     refine jD<|jB<|jH<|jB<|kx [(12,(vi ((tmL 8 t).getD j 0)))] [] (zE (xJ nT j (0:Int) (L:=(tmL 8 t)))<|zE (xO cS)<|zM<|zZ) ?_
     refine jB<|kx [(43,(vb (decide (((m:Nat):Int)<((tmL 8 t).getD j 0)))))] [] (zM<|zM<|zE mA<|zZ) ?_
     refine jF rfl (fun h6=>?_) (fun h6=>?_)
     ·replace h6:=uW h6
      refine jB<|kx [(6,(vb false))] [] (zM<|zZ) ?_
      refine jE ⟨_,(.tmp (d:=(.val (.bool (false)))) rfl .nil),?_⟩
      rw[fewT_big hc0 (all_no (i:=j) (d:=0) (by omega) (by unfold szB;exact decide_eq_false (by omega)))];rfl
     ·replace h6:=uX h6
      refine jD<|kx [(37,(jR (j+1)))] [] (zE (vT (j+1))<|zM<|zZ) ?_
      exact ⟨(j+1),wk,⟨by omega,all_up (d:=0) (by omega) hal2 (by unfold szB;exact decide_eq_true (by omega))⟩,(by first|omega|(dsimp only;omega))⟩
    ·replace h5:=uX h5
     have hje:j=(tmL 8 t).length:=by omega
     rw[hje,List.take_length] at hal2
     refine kC<|jB<|kx [(6,(vb true))] [] (zM<|zZ) ?_
     refine jE ⟨_,(.tmp (d:=(.val (.bool (true)))) rfl .nil),?_⟩
     rw[fewT_yes hlk hal hal2];rfl
theorem u_small(t:List kW)(ht:yM 140737488355328 t)(l:List jN)(hl:uJ 140737488355328 l)(htl:t.length≤140737488355328):jP Tryz.prog 12 [(.sl 83 7 (List.map qA t)),(.sl 45 4 (List.map jK l))] (.val (.bool ((cR 16 10 t&&shR 4 6 l)))):=by
 refine jI Tryz.func12 rfl cb12 rfl ?_
 show qJ _ _ _ _ ⟨[(0,(vl 83 7 qA t)),(1,(vl 45 4 jK l))],[]⟩
 refine jB<|kx [] [] (zM<|zZ) ?_
 refine jB<|kx [(4,(vb ((cR 16 10 t)&&(shR 4 6 l))))] [] ?_ ?_
 ·refine zM<|zE (jX (u_few t ht 16 (by omega) 10 (by omega) htl))<|zE (oV (vb (cR 16 10 t)) (kR (by kernel_rfl)))<|?_
  rcases hb1:(cR 16 10 t) with _ | _
  ·exact zK<|zK<|zE xN<|zM<|zZ
  ·exact zM<|zE (jX (u_short l hl 4 (by omega) 6 (by omega)))<|zE fM<|zM<|zZ
 refine jE ⟨_,(.tmp (d:=(.val (.bool (((cR 16 10 t)&&(shR 4 6 l)))))) rfl .nil),?_⟩
 rfl
theorem tame_fail{bv:List R2}{t:List kW}(h:fR bv t)(hd:dzT bv t=true):∃ k,JFailP bv t k:=by
 obtain ⟨k,hk⟩:=dz_fst hd
 exact ⟨k,fail_p h hk⟩
theorem p_valR(rb:List jZ)(hrb:∀ a∈rb,GOk 1048576 a)(hbl:rb.length≤1048576):jP Tryz.prog 71 [(.sl 61 8 (List.map jJ rb))] (.val (.bool ((List.all rb uO)))):=by
 let y1:=(jZ.mk qH qH)
 refine jI Tryz.func71 rfl cb71 rfl ?_
 show qJ _ _ _ _ ⟨[(0,(vl 61 8 jJ rb))],[]⟩
 refine jB<|kx [] [] (zM<|zZ) ?_
 refine jB<|jB<|kx [(5,(vl 61 8 jJ rb)),(6,(jR rb.length)),(7,(jR 0))] [] (zM<|zE (uE gP)<|zM<|zZ) ?_
 refine jH<|kB (α:=Nat) (fun i=>⟨[(5,(vl 61 8 jJ rb)),(6,(jR rb.length)),(7,(jR i))],[]⟩) (fun i=>i≤rb.length∧(rb.take i).all uO=true) (fun i=>rb.length-i) 0 wk ⟨Nat.zero_le _,by simp⟩ ?_
 rintro i ⟨hi,hal⟩
 refine jB<|kx [(8,(vb (decide (((i:Nat):Int)<((rb.length:Nat):Int)))))] [] (zE xG<|zZ) ?_
 refine jB<|jF rfl (fun h1=>?_) (fun h1=>?_)
 ·replace h1:=uW h1
  refine jD<|jB<|jH<|jB<|kx [(4,(.ref 0 0))] [(0,some (bx (jJ (rb.getD i y1))))] (zE (xJ gP i y1)<|zE (nR kI)<|zN (uF 0 uH uR)<|zT (qK kI)<|zZ) ?_
  refine jB<|kx [(13,(vb (!(uO (rb.getD i y1)))))] [] (zR (kM kI)<|zE (jX (bS (rb.getD i y1) (gZ (gok_get hrb (show i<rb.length by omega)) (by decide))))<|zE nY<|zZ) ?_
  refine jF rfl (fun h2=>?_) (fun h2=>?_)
  ·refine jB<|kx [(2,(vb false))] [] (zM<|zZ) ?_
   refine jE ⟨_,(.tmp (d:=(.val (.bool (false)))) rfl .nil),?_⟩
   rw[all_not (f:=uO) (l:=rb) (i:=i) (d:=(jZ.mk qH qH)) (by omega) (by simpa using h2)];rfl
  ·refine jD<|kx [(7,(jR (i+1)))] [] (zE (vT (i+1))<|zM<|zZ) ?_
   exact ⟨(i+1),wk,⟨by omega,all_take (d:=(jZ.mk qH qH)) (by omega) hal (by simpa using h2)⟩,(by first|omega|(dsimp only;omega))⟩
 ·replace h1:=uX h1
  have hie:i=rb.length:=by omega
  rw[hie,List.take_length] at hal
  refine kC<|jB<|kx [(2,(vb true))] [] (zM<|zZ) ?_
  refine jE ⟨_,(.tmp (d:=(.val (.bool (true)))) rfl .nil),?_⟩
  rw[hal];rfl
theorem ptr_t{l:List jN}{q:List (List jN)}(h:(!(List.map (fun x=>jZ.mk x x) l).all uO||((yF q:Nat):Int) != ((0:Nat):Int))=true):(yA l&&decide (yF q=0))=false:=raw_t (by rwa [ptr_all] at h)
theorem ptr_f{l:List jN}{q:List (List jN)}(h:(!(List.map (fun x=>jZ.mk x x) l).all uO||((yF q:Nat):Int) != ((0:Nat):Int))=false):(yA l&&decide (yF q=0))=true:=raw_f (by rwa [ptr_all] at h)
theorem p_tabR(ts:List (List kW))(hts:∀ t∈ts,yM 1048576 t)(l:List jN)(hl:uJ 1048576 l)(q:List (List jN))(hq:qS 1048576 q)(hz:(yA l&&decide (yF q=0))=true→ts.length=0)(hxb:l.length≤1048576):jP Tryz.prog 18 [(.sl 23 1 (List.map qB ts)),(.sl 45 4 (List.map jK l)),(.sl 24 1 (List.map jG q))] (.tup [(.sl 24 1 (List.map jG [])),(.val (.int .i64 ((((rawC l q):Nat):Int))))]):=by
 have hlb:=hl.2
 have hgx:(List.map (fun x=>jZ.mk x x) l).length=l.length:=List.length_map _
 refine jI Tryz.func18 rfl cb18 rfl ?_
 show qJ _ _ _ _ ⟨[(0,(vl 23 1 qB ts)),(1,(vl 45 4 jK l)),(2,(vl 24 1 jG q))],[]⟩
 refine jB<|kx [] [] (zE (cT 24 1)<|zM<|zZ) ?_
 refine jB<|jB<|kx [(31,(vb (!(List.all (List.map (fun x=>jZ.mk x x) l) uO)||((((yF q):Nat):Int) != ((0:Nat):Int)))))] [] ?_ ?_
 ·refine zM<|zE (jX (p_ptsR l hl hxb))<|zE (jX (p_valR (List.map (fun x=>jZ.mk x x) l) (ptr_ok hl) (by omega)))<|zE nY<|zE (oV (vb (!(List.all (List.map (fun x=>jZ.mk x x) l) uO))) (kR (by kernel_rfl)))<|?_
  rcases hb1:(!(List.all (List.map (fun x=>jZ.mk x x) l) uO)) with _ | _
  ·exact zM<|zE (jX (m_chk q hq))<|zE mC<|zE cG<|zZ
  ·exact zK<|zK<|zK<|zE xA<|zZ
 refine jF rfl (fun h2=>?_) (fun h2=>?_)
 ·refine jB<|kx [(6,(vl 24 1 jG [])),(7,(jR 1))] [] (zE (cT 24 1)<|zM<|zZ) ?_
  refine jE ⟨_,(.tmp (d:=(.sl 24 1 (List.map jG []))) rfl (.tmp (d:=(.val (.int .i64 (((1:Nat):Int))))) rfl .nil)),?_⟩
  rw[← (rawA_1 (ptr_t h2)).2];rfl
 ·refine jD<|jB<|jB<|kx [(34,(vb (((ts.length:Nat):Int) == ((0:Nat):Int))))] [] (zM<|zE (uE mG)<|zE gD<|zZ) ?_
  refine jF rfl (fun h3=>?_) (fun h3=>?_)
  ·replace h3:=eq_of_beq h3
   refine jB<|kx [(6,(vl 24 1 jG [])),(7,(jR 6))] [] (zE (cT 24 1)<|zM<|zZ) ?_
   refine jE ⟨_,(.tmp (d:=(.sl 24 1 (List.map jG []))) rfl (.tmp (d:=(.val (.int .i64 (((6:Nat):Int))))) rfl .nil)),?_⟩
   rw[← (rawA_0 (ptr_f h2)).2];rfl
  ·replace h3:=ne_of_beq_false h3
   have h9:=hz (ptr_f h2);exfalso;omega
theorem p_tabE(ts:List (List kW))(hts:∀ t∈ts,yM 1048576 t)(xs:List Rat)(hx:∀ q∈xs,QL q 1048576)(q:List (List jN))(hq:qS 1048576 q)(hE:tbC xs q ts≠0)(hr0:yI q q.length (q.getD 0 []).length)(hTm:∀ t∈ts,tmN xs t=0→fR (List.map mH xs) t)(h1:1≤ts.length)(h64:ts.length≤64)(hxb:xs.length≤1000000):jP Tryz.prog 18 [(.sl 23 1 (List.map qB ts)),(.sl 45 4 (List.map jK (List.map jQ xs))),(.sl 24 1 (List.map jG q))] (.tup [(.sl 24 1 (List.map jG [])),(.val (.int .i64 ((((tbC xs q ts):Nat):Int))))]):=by
 have hx64:xs.length≤1000000:=hxb
 have hqm:=hr0.r64
 have hc0:=rect_chk hr0
 have hxn:((List.map jQ xs).length)=xs.length:=List.length_map _
 have hgx:(List.map mH xs).length=xs.length:=List.length_map _
 refine jI Tryz.func18 rfl cb18 rfl ?_
 show qJ _ _ _ _ ⟨[(0,(vl 23 1 qB ts)),(1,(vl 45 4 jK (List.map jQ xs))),(2,(vl 24 1 jG q))],[]⟩
 refine jB<|kx [] [] (zE (cT 24 1)<|zM<|zZ) ?_
 refine jB<|jB<|kx [(31,(vb false))] [] (zM<|zE (jX (p_pts xs hx hxb))<|zE (jX (p_val (List.map mH xs) (pts_gl hx) (by omega)))<|zE nY<|zM<|zM<|zE (jX (m_chk q hq))<|zE (vZ false mC (by exact bne_eq_false_iff_eq.2 (by rw[show (yF q)=0 from hc0]<;>rfl)))<|zE xN<|zZ) ?_
 refine kS ?_
 refine jD<|jB<|jB<|kx [(34,(vb (((ts.length:Nat):Int) == ((0:Nat):Int))))] [] (zM<|zE (uE mG)<|zE gD<|zZ) ?_
 refine jF rfl (fun h1=>?_) (fun h1=>?_)
 ·replace h1:=eq_of_beq h1
  exfalso;omega
 ·replace h1:=ne_of_beq_false h1
  refine jD<|jB<|jB<|kx [(37,(vb (decide (((64:Nat):Int)<((ts.length:Nat):Int)))))] [] (zM<|zE (uE mG)<|zE mA<|zZ) ?_
  refine jF rfl (fun h2=>?_) (fun h2=>?_)
  ·replace h2:=uW h2
   exfalso;omega
  ·replace h2:=uX h2
   refine jD<|jB<|jB<|kx [(38,(vl 23 1 qB ts)),(39,(jR ts.length)),(40,(jR 0))] [] (zM<|zE (uE mG)<|zM<|zZ) ?_
   refine jH<|kB (α:=Nat) (fun i=>⟨[(0,(vl 23 1 qB ts)),(1,(vl 45 4 jK (List.map jQ xs))),(2,(vl 24 1 jG q)),(38,(vl 23 1 qB ts)),(39,(jR ts.length)),(40,(jR i))],[]⟩) (fun i=>i≤ts.length∧nU (tmN xs) (ts.take i)=0) (fun i=>ts.length-i) 0 wk ⟨Nat.zero_le _,rfl⟩ ?_
   rintro i ⟨hi,hc⟩
   refine jB<|kx [(41,(vb (decide (((i:Nat):Int)<((ts.length:Nat):Int)))))] [] (zE xG<|zZ) ?_
   refine jB<|jF rfl (fun h3=>?_) (fun h3=>?_)
   ·replace h3:=uW h3
    refine jD<|jB<|jH<|jB<|kx [(9,(vl 83 7 qA (ts.getD i [])))] [] (zE (xJ mG i ([]:List (kW)))<|zE (xO sh23)<|zM<|zZ) ?_
    refine jB<|kx [(10,(jR (cB ((xs.length:Nat):Int) (ts.getD i []))))] [] (zM<|zM<|zE (oLn qY xs.length)<|zE (jX (j_chk (ts.getD i []) (nP (P:=yM 1048576) hts (show i<ts.length by omega)) ((xs.length:Nat):Int)))<|zM<|zZ) ?_
    refine jB<|kx [(49,(vb ((((cB ((xs.length:Nat):Int) (ts.getD i [])):Nat):Int) != ((0:Nat):Int))))] [] (zM<|zE mC<|zZ) ?_
    refine jF rfl (fun h4=>?_) (fun h4=>?_)
    ·replace h4:=bne_iff_ne.1 h4
     refine jB<|kx [(6,(vl 24 1 jG [])),(7,(jR (cB ((xs.length:Nat):Int) (ts.getD i []))))] [] (zM<|zE (cT 24 1)<|zM<|zZ) ?_
     refine jE ⟨_,(.tmp (d:=(.sl 24 1 (List.map jG []))) rfl (.tmp (d:=(.val (.int .i64 ((((cB ((xs.length:Nat):Int) (ts.getD i [])):Nat):Int))))) rfl .nil)),?_⟩
     rw[tbE1 (q:=q) (by omega) hc h4];rfl
    ·replace h4:=bne_eq_false_iff_eq.1 h4
     refine jD<|kx [(40,(jR (i+1)))] [] (zE (vT (i+1))<|zM<|zZ) ?_
     exact ⟨i+1,wk,⟨by omega,fst_up0 (by omega) hc (show tmN xs (ts.getD i [])=0 by unfold tmN;omega)⟩,(by first|omega|(dsimp only;omega))⟩
   ·replace h3:=uX h3
    have hc1:nU (tmN xs) ts=0:=by rw[show i=ts.length by omega,List.take_length] at hc;exact hc
    refine kC<|jB<|jB<|kx [(11,(jR (dJ q xs.length)))] [] (zM<|zM<|zE (oLn qY xs.length)<|zE (jX (p_fit q hq xs.length hr0))<|zM<|zZ) ?_
    refine jB<|kx [(57,(vb ((((dJ q xs.length):Nat):Int) != ((0:Nat):Int))))] [] (zM<|zE mC<|zZ) ?_
    refine jF rfl (fun h5=>?_) (fun h5=>?_)
    ·replace h5:=bne_iff_ne.1 h5
     refine jB<|kx [(6,(vl 24 1 jG [])),(7,(jR (dJ q xs.length)))] [] (zM<|zE (cT 24 1)<|zM<|zZ) ?_
     refine jE ⟨_,(.tmp (d:=(.sl 24 1 (List.map jG []))) rfl (.tmp (d:=(.val (.int .i64 ((((dJ q xs.length):Nat):Int))))) rfl .nil)),?_⟩
     rw[tbE2 hc1 h5];rfl
    ·replace h5:=bne_eq_false_iff_eq.1 h5
     have hfz:=h5
     refine jD<|jB<|kx [(12,(.own 0 24 1 0))] [(0,some (bm jG []))] (zO 0 24 1<|zZ) ?_
     refine jB<|jB<|kx [(59,(vl 23 1 qB ts)),(60,(jR ts.length)),(61,(jR 0))] [] (zM<|zE (uE mG)<|zM<|zZ) ?_
     refine jH<|kB (α:=Nat × List (List jN)) (fun (i,o)=>⟨[(1,(vl 45 4 jK (List.map jQ xs))),(2,(vl 24 1 jG q)),(12,(.own 0 24 1 o.length)),(59,(vl 23 1 qB ts)),(60,(jR ts.length)),(61,(jR i))],[(0,some (bm jG o))]⟩) (fun (i,o)=>i≤ts.length∧o=(ts.take i).map (xY xs)∧nU (dzC xs) (ts.take i)=0) (fun (i,o)=>ts.length-i) (0,[]) wk ⟨Nat.zero_le _,by simp,rfl⟩ ?_
     rintro ⟨i,o⟩ ⟨hi,ho,hd⟩
     have hol:o.length=i:=by rw[ho,List.length_map,List.length_take];omega
     refine jB<|kx [(62,(vb (decide (((i:Nat):Int)<((ts.length:Nat):Int)))))] [] (zE xG<|zZ) ?_
     refine jB<|jF rfl (fun h6=>?_) (fun h6=>?_)
     ·replace h6:=uW h6
      have hTi:=nP hTm (show i<ts.length by omega) (tm_of hc1 (show i<ts.length by omega))
      refine jD<|jB<|jH<|jB<|kx [(14,(vl 83 7 qA (ts.getD i [])))] [] (zE (xJ mG i ([]:List (kW)))<|zE (xO sh23)<|zM<|zZ) ?_
      refine jB ?_
      rcases hdz:(dzT (List.map mH xs) (ts.getD i [])) with _ | _
      ·refine kx [(15,(vl 45 4 jK (xY xs (ts.getD i [])))),(16,(jR 0))] [] (zM<|zM<|zE (jX (p_grd (ts.getD i []) (nP (P:=yM 1048576) hts (show i<ts.length by omega)) xs hx (tame_run hTi hdz) hxb))<|zM<|zE xD<|zE xD<|zM<|zM<|zZ) ?_
       refine jB<|jB<|kx [(72,(vb false))] [] (zM<|zE (vZ false mC)<|zZ) ?_
       refine kS ?_
       refine jD<|kf [(12,(.own 0 24 1 ((o++[(xY xs (ts.getD i []))]).length)))] [(0,some (bm jG (o++[(xY xs (ts.getD i []))])))] (zM<|zM<|zE (eC el33 ze24 zo24)<|zA jG o [(xY xs (ts.getD i []))] rfl el33 ze24 by24<|zM<|zF) ?_
       refine kx [(61,(jR (i+1)))] [] (zE (vT (i+1))<|zM<|zZ) ?_
       exact ⟨(i+1,o++[xY xs (ts.getD i [])]),wk,⟨by omega,by rw[ho];exact mR (by omega),fst_up0 (by omega) hd (dzC_n hdz)⟩,(by first|omega|(dsimp only;omega))⟩
      ·refine kx [(15,(vl 45 4 jK [])),(16,(jR 14))] [] (zM<|zM<|zE (jX (p_grdF (ts.getD i []) (nP (P:=yM 1048576) hts (show i<ts.length by omega)) xs hx (tame_fail hTi hdz) hxb))<|zM<|zE xD<|zE xD<|zM<|zM<|zZ) ?_
       refine jB<|jB<|kx [(72,(vb true))] [] (zM<|zE (vZ true mC)<|zZ) ?_
       refine xT ?_
       refine jB<|kx [(6,(vl 24 1 jG [])),(7,(jR 14))] [] (zM<|zE (cT 24 1)<|zM<|zZ) ?_
       refine jE ⟨_,(.tmp (d:=(.sl 24 1 (List.map jG []))) rfl (.tmp (d:=(.val (.int .i64 (((14:Nat):Int))))) rfl .nil)),?_⟩
       rw[← tbE3 hc1 (by omega) (by omega) hd hdz];rfl
     ·replace h6:=uX h6
      exact absurd (tbE4 hc1 (by omega) (by rw[show i=ts.length by omega,List.take_length] at hd;exact hd)) hE
theorem tab_8{q:List (List jN)}{xs:List Rat}{ts:List (List kW)}(hq:qS 1048576 q)(hr:yI q q.length xs.length)(h:∀ t∈ts,bI (List.map mH xs) t)(hx:xs.length=q.length)(h64:ts.length≤64)(h8:q.length≤8):qS 268435456 (gO q (List.map (xY xs) ts)):=by
 have h0:=tab_ok hq hr h hx h64
 refine ⟨fun r hr'=>⟨fun a ha=>?_,(h0.1 r hr').2⟩,h0.2⟩
 unfold gO at hr'
 obtain ⟨u,hu,rfl⟩:=List.mem_map.1 hr'
 obtain ⟨v,hv,rfl⟩:=List.mem_map.1 ha
 obtain ⟨t,ht,rfl⟩:=List.mem_map.1 hu
 obtain ⟨s,hs,rfl⟩:=List.mem_map.1 hv
 rw[zP]
 have e:=grQ_len (h s hs)
 exact kG (cov_8 hq (grQ_ok (h t ht)) (grQ_ok (h s hs)) (by rw[e];exact hr) h8 (by omega) (by rw[grQ_len (h t ht)];exact hx))
theorem p_tab8(ts:List (List kW))(hts:∀ t∈ts,yM 1048576 t)(xs:List Rat)(hx:∀ q∈xs,QL q 1048576)(q:List (List jN))(hq:qS 1048576 q)(hjs:∀ t∈ts,JRunP (List.map mH xs) t)(hr:yI q q.length xs.length)(hf:dJ q xs.length=0)(hxq:xs.length=q.length)(h1:1≤ts.length)(h64:ts.length≤64)(h8:q.length≤8):jP Tryz.prog 18 [(.sl 23 1 (List.map qB ts)),(.sl 45 4 (List.map jK (List.map jQ xs))),(.sl 24 1 (List.map jG q))] (.tup [(.sl 24 1 (List.map jG (gO q (List.map (xY xs) ts)))),(.val (.int .i64 (((0:Nat):Int))))]):=p_tab ts hts xs hx q hq hjs hr hf hxq h1 h64
theorem cb44:callB Tryz.prog 44=true:=by kernel_rfl
theorem cb103:callB Tryz.prog 103=true:=by kernel_rfl
theorem cb162:callB Tryz.prog 162=true:=by kernel_rfl
theorem cb163:callB Tryz.prog 163=true:=by kernel_rfl
theorem e_mulS(a:List (List jN))(ha:qS 1048576 a)(b:List (List jN))(hb:qS 1048576 b)(hal:a.length≤64)(hb1:1≤b.length)(hb6:b.length≤64)(hc:(b.getD 0 []).length≤64)(hra:∀ i,i<a.length→b.length≤(a.getD i []).length)(hrb:∀ k,k<b.length→(b.getD k []).length=(b.getD 0 []).length)(hs:∀ i j k,k≤b.length→QL (mulK a b i j k) 1048576):jP Tryz.prog 42 [(.sl 24 1 (List.map jG a)),(.sl 24 1 (List.map jG b))] (.sl 24 1 (List.map jG (muM (mQ a b) a.length (b.getD 0 []).length))):=e_mul a (yP ha (by decide)) b (yP hb (by decide)) hal hb1 hb6 hc hra hrb (fun i j k h=>vC (hs i j k h) (by decide))
theorem e_col(l:List jN)(hl:uJ 4294967296 l)(hxb:l.length≤1000000):jP Tryz.prog 163 [(.sl 45 4 (List.map jK l))] (.sl 24 1 (List.map jG (aL l))):=by
 refine jI Tryz.func163 rfl cb163 rfl ?_
 show qJ _ _ _ _ ⟨[(0,(vl 45 4 jK l))],[]⟩
 refine jB<|kx [] [] (zE (cT 24 1)<|zZ) ?_
 refine jB<|kx [(3,(.own 0 24 1 0))] [(0,some (bm jG []))] (zN (oBo 0 uV ze24 zo24)<|zM<|zZ) ?_
 refine jB<|jB<|kx [(4,(jR 0))] [] (zM<|zZ) ?_
 refine jH<|kB (α:=Nat × List (List jN)) (fun (i,o)=>⟨[(0,(vl 45 4 jK l)),(3,(.own 0 24 1 o.length)),(4,(jR i))],[(0,some (bm jG o))]⟩) (fun (i,o)=>i≤l.length∧o=(l.take i).map (fun x:jN=>[x])) (fun (i,o)=>l.length-i) (0,[]) wk ⟨Nat.zero_le _,by simp⟩ ?_
 rintro ⟨i,o⟩ ⟨hi,ho⟩
 have hol:o.length=i:=by rw[ho,List.length_map,List.length_take];omega
 refine jB<|jB<|kx [(9,(vb (decide (((i:Nat):Int)<((l.length:Nat):Int)))))] [] (zM<|zM<|zE (uE qY)<|zE xG<|zZ) ?_
 refine jF rfl (fun h1=>?_) (fun h1=>?_)
 ·replace h1:=uW h1
  refine jD<|jB<|jH<|kf [(3,(.own 0 24 1 ((o++[[(l.getD i qH)]]).length)))] [(0,some (bm jG (o++[[(l.getD i qH)]])))] (zM<|zM<|zM<|zE (xJ qY i qH)<|zE (nR jT)<|zE (eC qY uG uQ)<|zE (eC uV ze24 zo24)<|zA jG o [[(l.getD i qH)]] rfl uV ze24 by24<|zM<|zF) ?_
  refine kx [(4,(jR (i+1)))] [] (zM<|zE (vT (i+1))<|zM<|zZ) ?_
  exact ⟨(i+1,o++[[l.getD i qH]]),wk,⟨by omega,by rw[ho];exact mR (f:=fun x:jN=>[x]) (by omega)⟩,(by first|omega|(dsimp only;omega))⟩
 ·replace h1:=uX h1
  refine kC<|jB<|kx [(2,(.own 0 24 1 o.length))] [] (zM<|zM<|zZ) ?_
  refine kV (vN (t:=2) (k:=0) (es:=List.map jG o) rfl rfl (uI _ _ (fun _=>rfl)) (uT _ _ rfl) (vH _ _ (fun _=>rfl) rfl)) ?_
  refine jE ⟨_,(.tmp (d:=(.sl 24 1 (List.map jG o))) rfl .nil),?_⟩
  rw[ho,show i=l.length by omega,List.take_length];rfl
theorem e_fst(m:List (List jN))(hm:qS 17179869184 m)(hmb:m.length≤1000)(hm1:∀ i,i<m.length→1≤(m.getD i []).length):jP Tryz.prog 162 [(.sl 24 1 (List.map jG m))] (.sl 45 4 (List.map jK (fstM m))):=by
 let y1:=qH
 refine jI Tryz.func162 rfl cb162 rfl ?_
 show qJ _ _ _ _ ⟨[(0,(vl 24 1 jG m))],[]⟩
 refine jB<|kx [] [] (zE (cT 45 4)<|zZ) ?_
 refine jB<|kx [(3,(.own 0 45 4 0))] [(0,some (nD jK []))] (zN (oBo 0 qY uG uQ)<|zM<|zZ) ?_
 refine jB<|jB<|kx [(4,(jR 0))] [] (zM<|zZ) ?_
 refine jH<|kB (α:=Nat × List jN) (fun (i,o)=>⟨[(0,(vl 24 1 jG m)),(3,(.own 0 45 4 o.length)),(4,(jR i))],[(0,some (nD jK o))]⟩) (fun (i,o)=>i≤m.length∧o=(m.take i).map (fun r:List jN=>r.getD 0 y1)) (fun (i,o)=>m.length-i) (0,[]) wk ⟨Nat.zero_le _,by simp⟩ ?_
 rintro ⟨i,o⟩ ⟨hi,ho⟩
 have hol:o.length=i:=by rw[ho,List.length_map,List.length_take];omega
 refine jB<|jB<|kx [(9,(vb (decide (((i:Nat):Int)<((m.length:Nat):Int)))))] [] (zM<|zM<|zE (uE uV)<|zE xG<|zZ) ?_
 refine jF rfl (fun h1=>?_) (fun h1=>?_)
 ·replace h1:=uW h1
  have h1i:=hm1 i (by omega)
  refine jD<|jB<|jH<|kf [(3,(.own 0 45 4 ((o++[((m.getD i []).getD 0 y1)]).length)))] [(0,some (nD jK (o++[((m.getD i []).getD 0 y1)])))] (zM<|zM<|zM<|zE (xJ uV i ([]:List (jN)))<|zE (xO gB)<|zE (xJ qY 0 y1 (L:=(m.getD i [])))<|zE (nR jT)<|zE (eC qY uG uQ)<|zAS jK o [((m.getD i []).getD 0 y1)] rfl qY uG by45<|zM<|zF) ?_
  refine kx [(4,(jR (i+1)))] [] (zM<|zE (vT (i+1))<|zM<|zZ) ?_
  exact ⟨(i+1,o++[(m.getD i []).getD 0 qH]),wk,⟨by omega,by rw[ho];exact mR (f:=fun r:List jN=>r.getD 0 qH) (by omega)⟩,(by first|omega|(dsimp only;omega))⟩
 ·replace h1:=uX h1
  refine kC<|jB<|kx [(2,(.own 0 45 4 o.length))] [] (zM<|zM<|zZ) ?_
  refine kV (vN (t:=2) (k:=0) (es:=List.map jK o) rfl rfl (nL _ _ (fun _=>rfl)) (uT _ _ rfl) (mT jK o (fun _=>rfl) rfl)) ?_
  refine jE ⟨_,(.tmp (d:=(.sl 45 4 (List.map jK o))) rfl .nil),?_⟩
  rw[ho,show i=m.length by omega,List.take_length];rfl
theorem e_app(m:List (List jN))(hm:qS 268435456 m)(v:List jN)(hv:uJ 6 v)(hml:m.length≤64)(hv1:1≤v.length)(hv8:v.length≤4)(hrm:∀ i,i<m.length→(m.getD i []).length=v.length):jP Tryz.prog 103 [(.sl 24 1 (List.map jG m)),(.sl 45 4 (List.map jK v))] (.sl 45 4 (List.map jK (mE m v))):=by
 have hcl:=colM_len v
 have hc0:=colM_0 hv1
 have hmq:∀ i j k,k≤(aL v).length→QL (mulK m (aL v) i j k) 17179869184:=fun i j k hk=>vC (mulK_ql hm (colM_ok hv) (by decide) (by decide) i j k) (by omega)
 have hfa:=fst_app hv1 hrm
 have hml2:=muM_len (mQ m (aL v)) m.length ((aL v).getD 0 []).length
 refine jI Tryz.func103 rfl cb103 rfl ?_
 show qJ _ _ _ _ ⟨[(0,(vl 24 1 jG m)),(1,(vl 45 4 jK v))],[]⟩
 refine jB<|kx [] [] (zE (cT 45 4)<|zZ) ?_
 refine jB<|kx [(4,(vl 45 4 jK (fstM (muM (mQ m (aL v)) m.length ((aL v).getD 0 []).length))))] [] (zM<|zM<|zE (jX (e_col v (fE hv (by decide)) (by omega)))<|zE (jX (e_mul m (yP hm (by decide)) (aL v) (colM_ok (fE hv (by decide))) hml (by omega) (by omega) (by omega) (fun i hi=>by rw[hcl,hrm i hi];exact Nat.le_refl _) (fun k hk=>by rw[hc0,colM_at (show k<v.length by omega)];rfl) hmq))<|zE (jX (e_fst (muM (mQ m (aL v)) m.length ((aL v).getD 0 []).length) (muM_ok hml (by omega) hmq) (by omega) (fun i hi=>by rw[muM_at _ (by omega),hc0];simp)))<|zM<|zZ) ?_
 refine jE ⟨_,(.tmp (d:=(.sl 45 4 (List.map jK (fstM (muM (mQ m (aL v)) m.length ((aL v).getD 0 []).length))))) rfl .nil),?_⟩
 rw[hfa];rfl
theorem e_form(m:List (List jN))(hm:qS 268435456 m)(v:List jN)(hv:uJ 6 v)(hml:m.length≤64)(hv1:1≤v.length)(hv8:v.length≤4)(hrm:∀ i,i<m.length→(m.getD i []).length=v.length)(hvm:v.length=m.length):jP Tryz.prog 44 [(.sl 24 1 (List.map jG m)),(.sl 45 4 (List.map jK v))] (jK (jQ (dT m v v))):=by
 have hal:=appR_len m v
 let y1:=qH
 refine jI Tryz.func44 rfl cb44 rfl ?_
 show qJ _ _ _ _ ⟨[(0,(vl 24 1 jG m)),(1,(vl 45 4 jK v))],[]⟩
 refine jB<|kx [(4,(.ref 0 0))] [(0,some (bx (jK y1)))] (zN (uF 0 uG uQ)<|zZ) ?_
 refine jB<|kx [(5,(.ref 1 0))] [(1,some (bx (jK (jQ ((0:Int):Rat)))))] (zE (jX (z_whole5 0 (by omega) (by omega)))<|zN (uF 1 uG uQ)<|zT (qK jT)<|zZ) ?_
 refine jB<|kx [(6,(vl 45 4 jK (mE m v)))] [] (zM<|zM<|zE (jX (e_app m hm v hv hml hv1 hv8 hrm))<|zM<|zZ) ?_
 refine jB<|jB<|kx [(7,(jR 0))] [] (zM<|zZ) ?_
 refine jH<|kB (α:=Nat × Rat) (fun (i,s)=>⟨[(1,(vl 45 4 jK v)),(4,(.ref 0 0)),(5,(.ref 1 0)),(6,(vl 45 4 jK (mE m v))),(7,(jR i))],[(0,some (bx (jK y1))),(1,some (bx (jK (jQ s))))]⟩) (fun (i,s)=>i≤v.length∧s=eQ v (mE m v) i) (fun (i,s)=>v.length-i) (0,((0:Int):Rat)) wk ⟨Nat.zero_le _,rfl⟩ ?_
 rintro ⟨i,s⟩ ⟨hi,hs⟩
 refine jB<|jB<|kx [(15,(vb (decide (((i:Nat):Int)<((v.length:Nat):Int)))))] [] (zM<|zM<|zE (uE qY)<|zE xG<|zZ) ?_
 refine jF rfl (fun h1=>?_) (fun h1=>?_)
 ·replace h1:=uW h1
  refine jD<|jB<|jH<|kd [] [(1,some (bx (jK (jQ (s+((qM (v.getD i y1))*(qM ((mE m v).getD i y1))))))))] mo (wR (kM jT)<|wM<|wM<|wE (xJ qY i y1)<|wE (nR jT)<|wM<|wM<|wE (xJ qY i y1 (L:=(mE m v)))<|wE (nR jT)<|wE (jX (g_mul (v.getD i y1) ((mE m v).getD i y1) (qM (v.getD i y1)) (qM ((mE m v).getD i y1)) (jV (vM hv.1 (show i<v.length by omega)) (by decide)) (jV (vM (app_ok hm hv hrm hv8).1 (show i<(mE m v).length by omega)) (by decide))))<|wE (jX (g_add (jQ s) (jQ ((qM (v.getD i y1))*(qM ((mE m v).getD i y1)))) s ((qM (v.getD i y1))*(qM ((mE m v).getD i y1))) (jV (kG (show QL s 8589934592 by rw[hs];exact form_s hm hv hrm hv8 hvm (show i≤v.length by omega))) (by decide)) (jV (kG (qP (k:=2147483654) (vM hv.1 (show i<v.length by omega)).ql (vM (app_ok hm hv hrm hv8).1 (show i<(mE m v).length by omega)).ql (by decide))) (by decide))))<|wT (qK jT)<|wZ) ?_
  refine kx [(7,(jR (i+1)))] [] (zM<|zE (vT (i+1))<|zM<|zZ) ?_
  exact ⟨(i+1,s+qM (v.getD i qH)*qM ((mE m v).getD i qH)),wk,⟨by omega,by rw[hs];rfl⟩,(by first|omega|(dsimp only;omega))⟩
 ·replace h1:=uX h1
  refine kC<|jB<|kx [] [(0,some (bx (jK (jQ s))))] (zR (kM jT)<|zT (qK jT)<|zZ) ?_
  refine jE ⟨_,(kN (cs:=(bx (jK (jQ s)))) (d:=(jK (jQ s))) rfl rfl jT rfl rfl .nil),?_⟩
  rw[hs,show i=v.length by omega];rfl
theorem m_vlB(l:List jN)(hl:uJ 268435456 l):jP Tryz.prog 14 [(.sl 45 4 (List.map jK l))] (.val (.bool ((yA l)))):=by
 have hb:=hl.2
 refine jI Tryz.func14 rfl cb14 rfl ?_
 show qJ _ _ _ _ ⟨[(0,(vl 45 4 jK l))],[]⟩
 refine jB<|kx [] [] (zM<|zZ) ?_
 refine jB<|jB<|kx [(3,(jR 0))] [] (zM<|zZ) ?_
 refine jH<|kB (α:=Nat) (fun i=>⟨[(0,(vl 45 4 jK l)),(3,(jR i))],[]⟩) (fun i=>i≤l.length∧(l.take i).all kL=true) (fun i=>l.length-i) 0 wk ⟨Nat.zero_le _,by simp⟩ ?_
 rintro i ⟨hi,hal⟩
 refine jB<|jB<|kx [(7,(vb (decide (((i:Nat):Int)<((l.length:Nat):Int)))))] [] (zM<|zM<|zE (uE qY)<|zE xG<|zZ) ?_
 refine jF rfl (fun h1=>?_) (fun h1=>?_)
 ·replace h1:=uW h1
  refine jD<|jB<|jH<|jB<|kx [(15,(vb (!(kL (l.getD i qH)))))] [] (zM<|zM<|zE (xJ qY i qH)<|zE (nR jT)<|zE (jX (aA (l.getD i qH) (qM (l.getD i qH)) (jV (vM hl.1 (show i<l.length by omega)) (by decide))))<|zE nY<|zZ) ?_
  refine jF rfl (fun h2=>?_) (fun h2=>?_)
  ·refine jB<|kx [(2,(vb false))] [] (zM<|zZ) ?_
   refine jE ⟨_,(.tmp (d:=(.val (.bool (false)))) rfl .nil),?_⟩
   rw[show yA l=false from all_not (f:=kL) (l:=l) (i:=i) (d:=qH) (by omega) (by simpa using h2)];rfl
  ·refine jD<|kx [(3,(jR (i+1)))] [] (zM<|zE (vT (i+1))<|zM<|zZ) ?_
   exact ⟨(i+1),wk,⟨by omega,all_take (d:=qH) (by omega) hal (by simpa using h2)⟩,(by first|omega|(dsimp only;omega))⟩
 ·replace h1:=uX h1
  have hie:i=l.length:=by omega
  rw[hie,List.take_length] at hal
  refine kC<|jB<|kx [(2,(vb true))] [] (zM<|zZ) ?_
  refine jE ⟨_,(.tmp (d:=(.val (.bool (true)))) rfl .nil),?_⟩
  rw[show yA l=true from hal];rfl
theorem s_chkB(m:List (List jN))(hm:qS 268435456 m):jP Tryz.prog 19 [(.sl 24 1 (List.map jG m))] (.val (.int .i64 ((((yF m):Nat):Int)))):=by
 have hmb:=hm.2
 refine jI Tryz.func19 rfl cb19 rfl ?_
 show qJ _ _ _ _ ⟨[(0,(vl 24 1 jG m))],[]⟩
 refine jB<|kx [] [] (zM<|zZ) ?_
 refine jB<|jB<|kx [(25,(vb (((decide (((m.length:Nat):Int)<1)||decide (64<((m.length:Nat):Int)))||decide ((((m.getD 0 []).length:Nat):Int)<1))||decide (64<(((m.getD 0 []).length:Nat):Int)))))] [] ?_ ?_
 ·refine zM<|zE (uE uV)<|zE xG<|zE (oV (vb (decide (((m.length:Nat):Int)<1))) (kR (by kernel_rfl)))<|?_
  rcases hb1:(decide (((m.length:Nat):Int)<1)) with _ | _
  ·replace hb1:=uX hb1
   refine zM<|zE (uE uV)<|zE mA<|zE cG<|zE (oV (vb (false||decide (64<((m.length:Nat):Int)))) (kR (by kernel_rfl)))<|?_
   rcases hb2:(false||decide (64<((m.length:Nat):Int))) with _ | _
   ·replace hb2:=uX (p:=(64<((m.length:Nat):Int))) hb2
    refine zM<|zE (xJ uV 0 ([]:List (jN)))<|zE (xO gB)<|zE (uE qY (L:=(m.getD 0 [])))<|zE xG<|zE cG<|zE (oV (vb (false||decide ((((m.getD 0 []).length:Nat):Int)<1))) (kR (by kernel_rfl)))<|?_
    rcases hb3:(false||decide ((((m.getD 0 []).length:Nat):Int)<1)) with _ | _
    ·replace hb3:=uX (p:=((((m.getD 0 []).length:Nat):Int)<1)) hb3
     exact zM<|zE (xJ uV 0 ([]:List (jN)))<|zE (xO gB)<|zE (uE qY (L:=(m.getD 0 [])))<|zE mA<|zE cG<|zZ
    ·replace hb3:=uW (p:=((((m.getD 0 []).length:Nat):Int)<1)) hb3
     exact zK<|zK<|zK<|zK<|zK<|zE xA<|zZ
   ·replace hb2:=uW (p:=(64<((m.length:Nat):Int))) hb2
    exact zK<|zK<|zK<|zK<|zK<|zE xA<|zM<|zK<|zK<|zK<|zK<|zK<|zE xA<|zZ
  ·replace hb1:=uW hb1
   exact zK<|zK<|zK<|zE xA<|zM<|zK<|zK<|zK<|zK<|zK<|zE xA<|zM<|zK<|zK<|zK<|zK<|zK<|zE xA<|zZ
 refine jF rfl (fun h4=>?_) (fun h4=>?_)
 ·refine jB<|kx [(2,(jR 1))] [] (zM<|zZ) ?_
  refine jE ⟨_,(.tmp (d:=(.val (.int .i64 (1)))) rfl .nil),?_⟩
  rw[mchk_1 h4];rfl
 ·have h0:=shp_0 h4
  have hsh:=h4
  refine jD<|jB<|jB<|kx [(3,(jR 0))] [] (zM<|zZ) ?_
  refine jH<|kB (α:=Nat) (fun i=>⟨[(0,(vl 24 1 jG m)),(3,(jR i))],[]⟩) (fun i=>i≤m.length∧∀ a,a<i→zJ m (m.getD a [])=false) (fun i=>m.length-i) 0 wk ⟨Nat.zero_le _,fun a h=>by omega⟩ ?_
  rintro i ⟨hi,he⟩
  refine jB<|jB<|kx [(29,(vb (decide (((i:Nat):Int)<((m.length:Nat):Int)))))] [] (zM<|zM<|zE (uE uV)<|zE xG<|zZ) ?_
  refine jF rfl (fun h5=>?_) (fun h5=>?_)
  ·replace h5:=uW h5
   refine jD<|jB<|jH<|jB<|kd [(49,(vb (((((m.getD i []).length:Nat):Int) != (((m.getD 0 []).length:Nat):Int))||!(yA (m.getD i [])))))] [] mo ?_ ?_
   ·refine wM<|wM<|wE (xJ uV i ([]:List (jN)))<|wE (xO gB)<|wE (uE qY (L:=(m.getD i [])))<|wM<|wE (xJ uV 0 ([]:List (jN)))<|wE (xO gB)<|wE (uE qY (L:=(m.getD 0 [])))<|wE mC<|wE (oV (vb ((((m.getD i []).length:Nat):Int) != (((m.getD 0 []).length:Nat):Int))) (kR (by kernel_rfl)))<|?_
    rcases hb6:((((m.getD i []).length:Nat):Int) != (((m.getD 0 []).length:Nat):Int)) with _ | _
    ·replace hb6:=bne_eq_false_iff_eq.1 hb6
     exact wM<|wM<|wE (xJ uV i ([]:List (jN)))<|wE (xO gB)<|wE (jX (m_vlB (m.getD i []) (uL (d:=[]) hm (show i<m.length by omega))))<|wE nY<|wE cG<|wZ
    ·replace hb6:=bne_iff_ne.1 hb6
     exact wK<|wK<|wK<|wK<|wK<|wK<|wE xA<|wZ
   refine jF rfl (fun h7=>?_) (fun h7=>?_)
   ·refine jB<|kx [(2,(jR 1))] [] (zM<|zZ) ?_
    refine jE ⟨_,(.tmp (d:=(.val (.int .i64 (1)))) rfl .nil),?_⟩
    rw[mchk_2 (bad_any (i:=i) (by omega) h7)];rfl
   ·refine jD<|kx [(3,(jR (i+1)))] [] (zM<|zE (vT (i+1))<|zM<|zZ) ?_
    exact ⟨i+1,wk,⟨by omega,up_bad he h7⟩,(by first|omega|(dsimp only;omega))⟩
  ·replace h5:=uX h5
   have hie:i=m.length:=by omega
   subst hie
   refine kC<|jB<|kx [(2,(jR 0))] [] (zM<|zZ) ?_
   refine jE ⟨_,(.tmp (d:=(.val (.int .i64 (0)))) rfl .nil),?_⟩
   rw[mchk_3 hsh (bad_none he)];rfl
end Go.Proofs.YtnajallgoaiahaaGreatDoor
namespace Go.Fid
theorem den_pos(u:Rat):((u.den:Nat):Int)≠0:=by have:=u.den_pos;omega
end Go.Fid
