/- Part 38 of a proof: rules, plain facts, and functions walked. -/
import Derived.Test.YtnajallgoaiahaaGreatDoorM37
set_option linter.all false
set_option maxRecDepth 4000
namespace Go.Proofs.YtnajallgoaiahaaGreatDoor
open Go.Fid
theorem ar87:arrB Tryz.prog 87=some (4,5,1):=by kernel_rfl
theorem gG:xV Tryz.prog 89 0=some 0:=by kernel_rfl
theorem fo89_1:xV Tryz.prog 89 1=some 1:=by kernel_rfl
theorem sh5:qX Tryz.prog 5=some (false,1):=by kernel_rfl
theorem un5:(Tryz.prog.underlying 5).isSome=true:=by kernel_rfl
theorem w_bo1(t:List qB)(ht:zL 140737488355328 t)(rb:List jL)(hrb:∀ a∈rb,GOk 140737488355328 a)(q:List (List jR))(hq:uY 140737488355328 q)(p:A4 Nat)(hb4:4<rb.length)(htl:t.length<=140737488355328)(hrl:rb.length<=140737488355328):jO Tryz.prog 9 [(.sl 83 7 (List.map kS t)),(.sl 61 8 (List.map jF rb)),(gO (RPt.mk q p))] (.val (.bool (true))):=by
 refine qY Tryz.func9 ?_
 refine jB<|kx [(5,(.ref 0 0))] [(0,some (bx (gO (RPt.mk q p))))] (zN (uU 0)<|zM<|zZ) ?_
 refine jB<|jB<|kx [(20,(vb false))] [] (zE (jV eU)<|zE gD<|zZ) ?_
 refine kM ?_
 refine jC<|jB<|jB<|kx [(40,(vb true))] [] (zM<|zE (vP uA)<|zE (uP true hH (by exact decide_eq_true (by omega)))<|zM<|zK<|zK<|zK<|zK<|zE yR<|zM<|zK<|zK<|zK<|zE yR<|zM<|zK<|zK<|zK<|zK<|zE yR<|zZ) ?_
 refine uI ?_
 refine jB<|kx [(6,(vb true))] [] (zM<|zZ) ?_
 refine jE ⟨_,(.tmp (d:=(.val (.bool (true)))) rfl .nil),?_⟩
 rfl
theorem w_bo2(t:List qB)(ht:zL 140737488355328 t)(rb:List jL)(hrb:∀ a∈rb,GOk 140737488355328 a)(q:List (List jR))(hq:uY 140737488355328 q)(p:A4 Nat)(hb4:rb.length<=4)(hsq:shM 5 6 q=false)(htl:t.length<=140737488355328)(hrl:rb.length<=140737488355328):jO Tryz.prog 9 [(.sl 83 7 (List.map kS t)),(.sl 61 8 (List.map jF rb)),(gO (RPt.mk q p))] (.val (.bool (true))):=by
 refine qY Tryz.func9 ?_
 refine jB<|kx [(5,(.ref 0 0))] [(0,some (bx (gO (RPt.mk q p))))] (zN (uU 0)<|zM<|zZ) ?_
 refine jB<|jB<|kx [(20,(vb false))] [] (zE (jV eU)<|zE gD<|zZ) ?_
 refine kM ?_
 refine jC<|jB<|jB<|kx [(40,(vb true))] [] (zM<|zE (vP uA)<|zE (uP false hH (by exact decide_eq_false (by omega)))<|zM<|zE (kV gG)<|zR (uE cH)<|zE (uP false (jV (fS q hq)) (by exact hsq))<|zE gD<|zE xQ<|zM<|zK<|zK<|zK<|zE yR<|zM<|zK<|zK<|zK<|zK<|zE yR<|zZ) ?_
 refine uI ?_
 refine jB<|kx [(6,(vb true))] [] (zM<|zZ) ?_
 refine jE ⟨_,(.tmp (d:=(.val (.bool (true)))) rfl .nil),?_⟩
 rfl
theorem w_bo3(t:List qB)(ht:zL 140737488355328 t)(rb:List jL)(hrb:∀ a∈rb,GOk 140737488355328 a)(q:List (List jR))(hq:uY 140737488355328 q)(p:A4 Nat)(hb4:rb.length<=4)(hsq:shM 5 6 q=true)(hsm:(dK 16 10 t&&shR 4 6 [])=false)(htl:t.length<=140737488355328)(hrl:rb.length<=140737488355328):jO Tryz.prog 9 [(.sl 83 7 (List.map kS t)),(.sl 61 8 (List.map jF rb)),(gO (RPt.mk q p))] (.val (.bool (true))):=by
 refine qY Tryz.func9 ?_
 refine jB<|kx [(5,(.ref 0 0))] [(0,some (bx (gO (RPt.mk q p))))] (zN (uU 0)<|zM<|zZ) ?_
 refine jB<|jB<|kx [(20,(vb false))] [] (zE (jV eU)<|zE gD<|zZ) ?_
 refine kM ?_
 refine jC<|jB<|jB<|kx [(40,(vb true))] [] (zM<|zE (vP uA)<|zE (uP false hH (by exact decide_eq_false (by omega)))<|zM<|zE (kV gG)<|zR (uE cH)<|zE (uP true (jV (fS q hq)) (by exact hsq))<|zE gD<|zE xQ<|zM<|zM<|zE (uP false (jV (tk_nil (bP t ht [] (bH _) htl) (.same (.cut 45 4 .nil)))) (by exact hsm))<|zE gD<|zE xQ<|zM<|zK<|zK<|zK<|zK<|zE yR<|zZ) ?_
 refine uI ?_
 refine jB<|kx [(6,(vb true))] [] (zM<|zZ) ?_
 refine jE ⟨_,(.tmp (d:=(.val (.bool (true)))) rfl .nil),?_⟩
 rfl
theorem w_bo4(t:List qB)(ht:zL 1048576 t)(rb:List jL)(hrb:∀ a∈rb,GOk 140737488355328 a)(q:List (List jR))(hq:uY 140737488355328 q)(p:A4 Nat)(hb4:rb.length<=4)(hsq:shM 5 6 q=true)(hsm:(dK 16 10 t&&shR 4 6 [])=true)(hlg:lM rb t=false)(htl:t.length<=140737488355328)(hrl:rb.length<=140737488355328):jO Tryz.prog 9 [(.sl 83 7 (List.map kS t)),(.sl 61 8 (List.map jF rb)),(gO (RPt.mk q p))] (.val (.bool (true))):=by
 refine qY Tryz.func9 ?_
 refine jB<|kx [(5,(.ref 0 0))] [(0,some (bx (gO (RPt.mk q p))))] (zN (uU 0)<|zM<|zZ) ?_
 refine jB<|jB<|kx [(20,(vb false))] [] (zE (jV eU)<|zE gD<|zZ) ?_
 refine kM ?_
 refine jC<|jB<|jB<|kx [(40,(vb true))] [] (zM<|zE (vP uA)<|zE (uP false hH (by exact decide_eq_false (by omega)))<|zM<|zE (kV gG)<|zR (uE cH)<|zE (uP true (jV (fS q hq)) (by exact hsq))<|zE gD<|zE xQ<|zM<|zM<|zE (uP true (jV (tk_nil (bP t (tn_up ht) [] (bH _) htl) (.same (.cut 45 4 .nil)))) (by exact hsm))<|zE gD<|zE xQ<|zM<|zM<|zM<|zE (uP false (jV (oA t ht rb hrb htl hrl)) (by exact hlg))<|zE gD<|zE xQ<|zZ) ?_
 refine uI ?_
 refine jB<|kx [(6,(vb true))] [] (zM<|zZ) ?_
 refine jE ⟨_,(.tmp (d:=(.val (.bool (true)))) rfl .nil),?_⟩
 rfl
theorem w_bo5(t:List qB)(ht:zL 1048576 t)(rb:List jL)(hrb:∀ a∈rb,GOk 140737488355328 a)(q:List (List jR))(hq:uY 140737488355328 q)(p:A4 Nat)(hb4:rb.length<=4)(hsq:shM 5 6 q=true)(hsm:(dK 16 10 t&&shR 4 6 [])=true)(hlg:lM rb t=true)(hdg:rb.all dgG=false)(htl:t.length<=140737488355328)(hrl:rb.length<=140737488355328):jO Tryz.prog 9 [(.sl 83 7 (List.map kS t)),(.sl 61 8 (List.map jF rb)),(gO (RPt.mk q p))] (.val (.bool (true))):=by
 let y1:=(jL.mk kH kH)
 refine qY Tryz.func9 ?_
 refine jB<|kx [(5,(.ref 0 0))] [(0,some (bx (gO (RPt.mk q p))))] (zN (uU 0)<|zM<|zZ) ?_
 refine jB<|jB<|kx [(20,(vb false))] [] (zE (jV eU)<|zE gD<|zZ) ?_
 refine kM ?_
 refine jC<|jB<|jB<|kx [(40,(vb false))] [] (zM<|zE (vP uA)<|zE (uP false hH (by exact decide_eq_false (by omega)))<|zM<|zE (kV gG)<|zR (uE cH)<|zE (uP true (jV (fS q hq)) (by exact hsq))<|zE gD<|zE xQ<|zM<|zM<|zE (uP true (jV (tk_nil (bP t (tn_up ht) [] (bH _) htl) (.same (.cut 45 4 .nil)))) (by exact hsm))<|zE gD<|zE xQ<|zM<|zM<|zM<|zE (uP true (jV (oA t ht rb hrb htl hrl)) (by exact hlg))<|zE gD<|zE xQ<|zZ) ?_
 refine kM ?_
 refine jC<|jB<|jB<|kx [(41,(vl 61 8 jF rb)),(42,(jS rb.length)),(43,(jS 0))] [] (zM<|zE (vP uA)<|zM<|zZ) ?_
 refine jH<|kF (α:=Nat) (fun i=>⟨[(0,(vl 83 7 kS t)),(1,(vl 61 8 jF rb)),(5,(.ref 0 0)),(41,(vl 61 8 jF rb)),(42,(jS rb.length)),(43,(jS i))],[(0,some (bx (gO (RPt.mk q p))))]⟩) (fun i=>i<=rb.length/\(rb.take i).all dgG=true) (fun i=>rb.length-i) 0 wk ⟨Nat.zero_le _,by simp⟩ ?_
 rintro i ⟨hi,hal⟩
 refine jB<|kx [(44,(vb (decide (((i:Nat):Int)<((rb.length:Nat):Int)))))] [] (zE xK<|zZ) ?_
 refine jB<|jG rfl (fun h1=>?_) (fun h1=>?_)
 ·replace h1:=uV h1
  refine jC<|jB<|jH<|jB<|kx [(8,(.ref 1 0))] [(1,some (bx (jF (rb.getD i y1))))] (zE (yE uA i y1)<|zE (yJ jP)<|zN (qR 1 qJ qL)<|zT (qA jP)<|zZ) ?_
  refine jB<|kx [(56,(vb (decide (((6:Nat):Int)<(((xP ((rb.getD i y1).lo)):Nat):Int))||decide (((6:Nat):Int)<(((xP ((rb.getD i y1).hi)):Nat):Int)))))] [] ?_ ?_
  ·refine zE (kV uO)<|zR (kJ jQ)<|zE (jV (nF ((rb.getD i y1).lo) (qS (rb.getD i y1).lo) (bE hrb (show i<rb.length by omega)).1))<|zE hH<|zE (oV (vb (decide (((6:Nat):Int)<(((xP ((rb.getD i y1).lo)):Nat):Int)))) (qC (by kernel_rfl)))<|?_
   rcases hb2:(decide (((6:Nat):Int)<(((xP ((rb.getD i (jL.mk kH kH)).lo)):Nat):Int))) with _ | _
   ·replace hb2:=vB hb2
    exact zE (kV uT)<|zR (kJ jQ)<|zE (jV (nF ((rb.getD i y1).hi) (qS (rb.getD i y1).hi) (bE hrb (show i<rb.length by omega)).2))<|zE hH<|zE dG<|zZ
   ·replace hb2:=uV hb2
    exact zK<|zK<|zK<|zK<|zE yR<|zZ
  refine jG rfl (fun h3=>?_) (fun h3=>?_)
  ·refine jB<|kx [(6,(vb true))] [] (zM<|zZ) ?_
   refine jE ⟨_,(.tmp (d:=(.val (.bool (true)))) rfl .nil),?_⟩
   rfl
  ·refine jC<|kx [(43,(jS (i+1)))] [] (zE (vO (i+1))<|zM<|zZ) ?_
   exact ⟨(i+1),wk,⟨by omega,all_up (d:=(jL.mk kH kH)) (by omega) hal (dgG_y h3)⟩,(by first|omega|(dsimp only;omega))⟩
 ·replace h1:=vB h1
  exfalso;have hie:i=rb.length:=(by omega);rw[hie,List.take_length,hdg] at hal;cases hal
theorem w_boR(t:List qB)(ht:zL 1048576 t)(rb:List jL)(hrb:∀ a∈rb,GOk 1048576 a)(q:List (List jR))(hq:uY 6 q)(p:A4 Nat)(hb4:rb.length<=4)(hsq:shM 5 6 q=true)(hsm:(dK 16 10 t&&shR 4 6 [])=true)(hlg:lM rb t=true)(hdg:∀ a∈rb,xP a.lo<=6/\xP a.hi<=6)(hv1:(rb.all uJ&&decide (mZ q=0))=false)(htl:t.length<=140737488355328)(hbl:rb.length<=1000000):jO Tryz.prog 9 [(.sl 83 7 (List.map kS t)),(.sl 61 8 (List.map jF rb)),(gO (RPt.mk q p))] (.val (.bool (true))):=by
 let y1:=(jL.mk kH kH)
 refine qY Tryz.func9 ?_
 refine jB<|kx [(5,(.ref 0 0))] [(0,some (bx (gO (RPt.mk q p))))] (zN (uU 0)<|zM<|zZ) ?_
 refine jB<|jB<|kx [(20,(vb false))] [] (zE (jV eU)<|zE gD<|zZ) ?_
 refine kM ?_
 refine jC<|jB<|jB<|kx [(40,(vb false))] [] (zM<|zE (vP uA)<|zE (uP false hH (by exact decide_eq_false (by omega)))<|zM<|zE (kV gG)<|zR (uE cH)<|zE (uP true (jV (fS q (gH hq))) (by exact hsq))<|zE gD<|zE xQ<|zM<|zM<|zE (uP true (jV (tk_nil (bP t (tn_up ht) [] (bH _) htl) (.same (.cut 45 4 .nil)))) (by exact hsm))<|zE gD<|zE xQ<|zM<|zM<|zM<|zE (uP true (jV (oA t ht rb (gokl_up hrb) htl (by omega))) (by exact hlg))<|zE gD<|zE xQ<|zZ) ?_
 refine kM ?_
 refine jC<|jB<|jB<|kx [(41,(vl 61 8 jF rb)),(42,(jS rb.length)),(43,(jS 0))] [] (zM<|zE (vP uA)<|zM<|zZ) ?_
 refine jH<|kF (α:=Nat) (fun i=>⟨[(0,(vl 83 7 kS t)),(1,(vl 61 8 jF rb)),(5,(.ref 0 0)),(41,(vl 61 8 jF rb)),(42,(jS rb.length)),(43,(jS i))],[(0,some (bx (gO (RPt.mk q p))))]⟩) (fun i=>i<=rb.length) (fun i=>rb.length-i) 0 wk (Nat.zero_le _) ?_
 rintro i hi
 refine jB<|kx [(44,(vb (decide (((i:Nat):Int)<((rb.length:Nat):Int)))))] [] (zE xK<|zZ) ?_
 refine jB<|jG rfl (fun h1=>?_) (fun h1=>?_)
 ·replace h1:=uV h1
  obtain ⟨hd1,hd2⟩:(¬ 6<((xP (rb.getD i (jL.mk kH kH)).lo:Nat):Int))/\¬ 6<((xP (rb.getD i (jL.mk kH kH)).hi:Nat):Int):=dg_i (hdg _ (vA (d:=(jL.mk kH kH)) (show i<rb.length by omega)))
  refine jC<|jB<|jH<|jB<|kx [(8,(.ref 1 0))] [(1,some (bx (jF (rb.getD i y1))))] (zE (yE uA i y1)<|zE (yJ jP)<|zN (qR 1 qJ qL)<|zT (qA jP)<|zZ) ?_
  refine jB<|kx [(56,(vb false))] [] (zE (kV uO)<|zR (kJ jQ)<|zE (jV (nF ((rb.getD i y1).lo) (qS (rb.getD i y1).lo) (jM (bE hrb (show i<rb.length by omega)).1)))<|zE (uP false hH (by exact decide_eq_false hd1))<|zM<|zE (kV uT)<|zR (kJ jQ)<|zE (jV (nF ((rb.getD i y1).hi) (qS (rb.getD i y1).hi) (jM (bE hrb (show i<rb.length by omega)).2)))<|zE (uP false hH (by exact decide_eq_false hd2))<|zE xQ<|zZ) ?_
  refine kM ?_
  refine jC<|kx [(43,(jS (i+1)))] [] (zE (vO (i+1))<|zM<|zZ) ?_
  exact ⟨i+1,wk,(by omega),(by first|omega|(dsimp only;omega))⟩
 ·replace h1:=vB h1
  refine kD<|jB<|kx [(9,(.ref 2 0)),(10,(jS 1))] [(2,some (bx (jF y1)))] (zM<|zM<|zE (kV gG)<|zR (uE cH)<|zE (jV (p_bndR t ht rb hrb q (gH hq) hv1 hbl))<|zM<|zE uX<|zE uX<|zN (qR 2 qJ qL)<|zT (qA jP)<|zM<|zZ) ?_
  refine jB<|kx [(11,(jS 0))] [] (zM<|zZ) ?_
  refine jB<|jB<|kx [(74,(vb (!(List.all rb uJ)||((((mZ q):Nat):Int) != ((0:Nat):Int)))))] [] ?_ ?_
  ·refine zM<|zE (jV (u_vlR rb hrb hbl))<|zE gD<|zE (oV (vb (!(List.all rb uJ))) (qC (by kernel_rfl)))<|?_
   rcases hb2:(!(List.all rb uJ)) with _ | _
   ·exact zE (kV gG)<|zR (uE cH)<|zE (jV (s_chk q (gH hq)))<|zE mF<|zE dG<|zZ
   ·exact zK<|zK<|zK<|zK<|zE yR<|zZ
  refine jG rfl (fun h3=>?_) (fun h3=>?_)
  ·refine kx [(11,(jS 1))] [] (zM<|zZ) ?_
   refine jB<|jB<|kx [(76,(vb false))] [] (zM<|zE (uP false xR)<|zZ) ?_
   refine kM ?_
   refine jC<|jB<|jB<|kx [(82,(vb false))] [] (zM<|zE (uP false xR)<|zZ) ?_
   refine kM ?_
   refine jC<|jB<|kx [(12,(.ref 3 0))] [(3,some (bx (jI (vX.mk y1 [] []))))] (zE (eD pl95 mE cG)<|zN (qR 3 mE cG)<|zT (qA gU)<|zZ) ?_
   refine jB<|jB<|kx [(90,(vb false))] [] (zM<|zE (uP false xR)<|zZ) ?_
   refine kM ?_
   refine jC<|jB<|jB<|kx [(98,(vb true))] [] (zM<|zE (uP true mF)<|zZ) ?_
   refine uI ?_
   refine jB<|kx [(6,(vb true))] [] (zM<|zM<|zE (uP true xR)<|zM<|zR (kJ jP)<|zE (jV (h_zero y1 (zU gok_none)))<|zE yR<|zM<|zZ) ?_
   refine jE ⟨_,(.tmp (d:=(.val (.bool (true)))) rfl .nil),?_⟩
   rfl
  ·exact absurd (bd_f h3) (by rw[hv1];decide)
theorem w_boc(t:List qB)(ht:zL 1048576 t)(bv:List R2)(hbx:∀ x∈bv,GL 1048576 x)(q:List (List jR))(hq:uY 6 q)(p:A4 Nat)(hb4:bv.length<=4)(hsq:shM 5 6 q=true)(hsm:(dK 16 10 t&&shR 4 6 [])=true)(hlg:lM (List.map jY bv) t=true)(hdg:∀ a∈(List.map jY bv),xP a.lo<=6/\xP a.hi<=6)(hq0:mZ q=0)(htl:t.length<=140737488355328)(hbl:bv.length<=1000000)(hc:gK ((bv.length:Nat):Int) t≠0):jO Tryz.prog 9 [(.sl 83 7 (List.map kS t)),(.sl 61 8 (List.map jF (List.map jY bv))),(gO (RPt.mk q p))] (.val (.bool (true))):=by
 have hr0:=iM hq0
 have hbm:(List.map jY bv).length=bv.length:=List.length_map _
 let y1:=(jL.mk kH kH)
 refine qY Tryz.func9 ?_
 refine jB<|kx [(5,(.ref 0 0))] [(0,some (bx (gO (RPt.mk q p))))] (zN (uU 0)<|zM<|zZ) ?_
 refine jB<|jB<|kx [(20,(vb false))] [] (zE (jV eU)<|zE gD<|zZ) ?_
 refine kM ?_
 refine jC<|jB<|jB<|kx [(40,(vb false))] [] (zM<|zE (fO uA bv.length)<|zE (uP false hH (by exact decide_eq_false (by omega)))<|zM<|zE (kV gG)<|zR (uE cH)<|zE (uP true (jV (fS q (gH hq))) (by exact hsq))<|zE gD<|zE xQ<|zM<|zM<|zE (uP true (jV (tk_nil (bP t (tn_up ht) [] (bH _) htl) (.same (.cut 45 4 .nil)))) (by exact hsm))<|zE gD<|zE xQ<|zM<|zM<|zM<|zE (uP true (jV (oA t ht (List.map jY bv) (gokl_up (gok_map hbx)) htl (by omega))) (by exact hlg))<|zE gD<|zE xQ<|zZ) ?_
 refine kM ?_
 refine jC<|jB<|jB<|kx [(41,(vl 61 8 jF (List.map jY bv))),(42,(jS bv.length)),(43,(jS 0))] [] (zM<|zE (fO uA bv.length)<|zM<|zZ) ?_
 refine jH<|kF (α:=Nat) (fun i=>⟨[(0,(vl 83 7 kS t)),(1,(vl 61 8 jF (List.map jY bv))),(5,(.ref 0 0)),(41,(vl 61 8 jF (List.map jY bv))),(42,(jS bv.length)),(43,(jS i))],[(0,some (bx (gO (RPt.mk q p))))]⟩) (fun i=>i<=bv.length) (fun i=>bv.length-i) 0 wk (Nat.zero_le _) ?_
 rintro i hi
 refine jB<|kx [(44,(vb (decide (((i:Nat):Int)<((bv.length:Nat):Int)))))] [] (zE xK<|zZ) ?_
 refine jB<|jG rfl (fun h1=>?_) (fun h1=>?_)
 ·replace h1:=uV h1
  have hdm:=hdg _ (List.mem_map_of_mem (f:=jY) (vA (d:=z2) (show i<bv.length by omega)))
  obtain ⟨hd1,hd2⟩:(¬ 6<((xP (jN (bv.getD i z2).1):Nat):Int))/\¬ 6<((xP (jN (bv.getD i z2).2):Nat):Int):=dg_i hdm
  refine jC<|jB<|jH<|jB<|kx [(8,(.ref 1 0))] [(1,some (bx (jF (jY (bv.getD i z2)))))] (zE (bC uA jY i z2)<|zE (yJ jP)<|zN (qR 1 qJ qL)<|zT (qA jP)<|zZ) ?_
  refine jB<|kx [(56,(vb (decide (((6:Nat):Int)<(((xP (jN ((bv.getD i z2).1))):Nat):Int))||decide (((6:Nat):Int)<(((xP (jN ((bv.getD i z2).2))):Nat):Int)))))] [] ?_ ?_
  ·refine zE (kV uO)<|zR (kJ jQ)<|zE (jV (nF (jN ((bv.getD i z2).1)) ((bv.getD i z2).1) (jM (jW (kZ hbx (by decide) i).1))))<|zE hH<|zE (oV (vb (decide (((6:Nat):Int)<(((xP (jN ((bv.getD i z2).1))):Nat):Int)))) (qC (by kernel_rfl)))<|?_
   rcases hb2:(decide (((6:Nat):Int)<(((xP (jN ((bv.getD i z2).1))):Nat):Int))) with _ | _
   ·replace hb2:=vB hb2
    exact zE (kV uT)<|zR (kJ jQ)<|zE (jV (nF (jN ((bv.getD i z2).2)) ((bv.getD i z2).2) (jM (jW (kZ hbx (by decide) i).2.1))))<|zE hH<|zE dG<|zZ
   ·replace hb2:=uV hb2
    exact zK<|zK<|zK<|zK<|zE yR<|zZ
  refine jG rfl (fun h3=>?_) (fun h3=>?_)
  ·refine jB<|kx [(6,(vb true))] [] (zM<|zZ) ?_
   refine jE ⟨_,(.tmp (d:=(.val (.bool (true)))) rfl .nil),?_⟩
   rfl
  ·refine jC<|kx [(43,(jS (i+1)))] [] (zE (vO (i+1))<|zM<|zZ) ?_
   exact ⟨i+1,wk,(by omega),(by first|omega|(dsimp only;omega))⟩
 ·replace h1:=vB h1
  refine kD<|jB<|kx [(9,(.ref 2 0)),(10,(jS (gK ((bv.length:Nat):Int) t)))] [(2,some (bx (jF y1)))] (zM<|zM<|zE (kV gG)<|zR (uE cH)<|zE (jV (p_bnd1 t ht bv hbx q (gH hq) hc hr0 hbl))<|zM<|zE uX<|zE uX<|zN (qR 2 qJ qL)<|zT (qA jP)<|zM<|zZ) ?_
  refine jB<|kx [(11,(jS 0))] [] (zM<|zZ) ?_
  refine jB<|jB<|kx [(74,(vb false))] [] (zM<|zE (jV (u_vlB bv hbx hbl))<|zE gD<|zM<|zE (kV gG)<|zR (uE cH)<|zE (jV (s_chk q (gH hq)))<|zE (uP false mF (by exact bne_eq_false_iff_eq.2 (by rw[show (mZ q)=0 from hq0]<;>rfl)))<|zE xQ<|zZ) ?_
  refine kM ?_
  refine jC<|jB<|jB<|kx [(76,(vb true))] [] (zM<|zE (uP true xR)<|zZ) ?_
  refine uI ?_
  refine kx [(11,(jS (gK ((bv.length:Nat):Int) t)))] [] (zM<|zM<|zE (fO uA bv.length)<|zE (jV (u_chk t ht ((bv.length:Nat):Int)))<|zM<|zZ) ?_
  refine jB<|jB<|kx [(82,(vb false))] [] (zM<|zE (uP false xR (by exact beq_eq_false_iff_ne.2 (by have hx:=hc;omega)))<|zZ) ?_
  refine kM ?_
  refine jC<|jB<|kx [(12,(.ref 3 0))] [(3,some (bx (jI (vX.mk y1 [] []))))] (zE (eD pl95 mE cG)<|zN (qR 3 mE cG)<|zT (qA gU)<|zZ) ?_
  refine jB<|jB<|kx [(90,(vb false))] [] (zM<|zE (uP false xR (by exact beq_eq_false_iff_ne.2 (by have hx:=hc;omega)))<|zZ) ?_
  refine kM ?_
  refine jC<|jB<|jB<|kx [(98,(vb true))] [] (zM<|zE (uP true mF (by exact bne_iff_ne.2 (by have hx:=hc;omega)))<|zZ) ?_
  refine uI ?_
  refine jB<|kx [(6,(vb true))] [] (zM<|zM<|zE (uP true xR (by exact beq_self_eq_true _))<|zM<|zR (kJ jP)<|zE (jV (h_zero y1 (zU gok_none)))<|zE yR<|zM<|zZ) ?_
  refine jE ⟨_,(.tmp (d:=(.val (.bool (true)))) rfl .nil),?_⟩
  rfl
theorem w_bof(t:List qB)(ht:zL 1048576 t)(bv:List R2)(hbx:∀ x∈bv,GL 1048576 x)(q:List (List jR))(hq:uY 6 q)(p:A4 Nat)(hb4:bv.length<=4)(hsq:shM 5 6 q=true)(hsm:(dK 16 10 t&&shR 4 6 [])=true)(hlg:lM (List.map jY bv) t=true)(hdg:∀ a∈(List.map jY bv),xP a.lo<=6/\xP a.hi<=6)(hq0:mZ q=0)(htl:t.length<=140737488355328)(hbl:bv.length<=1000000)(hc:gK ((bv.length:Nat):Int) t=0)(hf:nP q bv.length≠0):jO Tryz.prog 9 [(.sl 83 7 (List.map kS t)),(.sl 61 8 (List.map jF (List.map jY bv))),(gO (RPt.mk q p))] (.val (.bool (true))):=by
 have hr0:=iM hq0
 have hbm:(List.map jY bv).length=bv.length:=List.length_map _
 let y1:=(jL.mk kH kH)
 refine qY Tryz.func9 ?_
 refine jB<|kx [(5,(.ref 0 0))] [(0,some (bx (gO (RPt.mk q p))))] (zN (uU 0)<|zM<|zZ) ?_
 refine jB<|jB<|kx [(20,(vb false))] [] (zE (jV eU)<|zE gD<|zZ) ?_
 refine kM ?_
 refine jC<|jB<|jB<|kx [(40,(vb false))] [] (zM<|zE (fO uA bv.length)<|zE (uP false hH (by exact decide_eq_false (by omega)))<|zM<|zE (kV gG)<|zR (uE cH)<|zE (uP true (jV (fS q (gH hq))) (by exact hsq))<|zE gD<|zE xQ<|zM<|zM<|zE (uP true (jV (tk_nil (bP t (tn_up ht) [] (bH _) htl) (.same (.cut 45 4 .nil)))) (by exact hsm))<|zE gD<|zE xQ<|zM<|zM<|zM<|zE (uP true (jV (oA t ht (List.map jY bv) (gokl_up (gok_map hbx)) htl (by omega))) (by exact hlg))<|zE gD<|zE xQ<|zZ) ?_
 refine kM ?_
 refine jC<|jB<|jB<|kx [(41,(vl 61 8 jF (List.map jY bv))),(42,(jS bv.length)),(43,(jS 0))] [] (zM<|zE (fO uA bv.length)<|zM<|zZ) ?_
 refine jH<|kF (α:=Nat) (fun i=>⟨[(0,(vl 83 7 kS t)),(1,(vl 61 8 jF (List.map jY bv))),(5,(.ref 0 0)),(41,(vl 61 8 jF (List.map jY bv))),(42,(jS bv.length)),(43,(jS i))],[(0,some (bx (gO (RPt.mk q p))))]⟩) (fun i=>i<=bv.length) (fun i=>bv.length-i) 0 wk (Nat.zero_le _) ?_
 rintro i hi
 refine jB<|kx [(44,(vb (decide (((i:Nat):Int)<((bv.length:Nat):Int)))))] [] (zE xK<|zZ) ?_
 refine jB<|jG rfl (fun h1=>?_) (fun h1=>?_)
 ·replace h1:=uV h1
  have hdm:=hdg _ (List.mem_map_of_mem (f:=jY) (vA (d:=z2) (show i<bv.length by omega)))
  obtain ⟨hd1,hd2⟩:(¬ 6<((xP (jN (bv.getD i z2).1):Nat):Int))/\¬ 6<((xP (jN (bv.getD i z2).2):Nat):Int):=dg_i hdm
  refine jC<|jB<|jH<|jB<|kx [(8,(.ref 1 0))] [(1,some (bx (jF (jY (bv.getD i z2)))))] (zE (bC uA jY i z2)<|zE (yJ jP)<|zN (qR 1 qJ qL)<|zT (qA jP)<|zZ) ?_
  refine jB<|kx [(56,(vb (decide (((6:Nat):Int)<(((xP (jN ((bv.getD i z2).1))):Nat):Int))||decide (((6:Nat):Int)<(((xP (jN ((bv.getD i z2).2))):Nat):Int)))))] [] ?_ ?_
  ·refine zE (kV uO)<|zR (kJ jQ)<|zE (jV (nF (jN ((bv.getD i z2).1)) ((bv.getD i z2).1) (jM (jW (kZ hbx (by decide) i).1))))<|zE hH<|zE (oV (vb (decide (((6:Nat):Int)<(((xP (jN ((bv.getD i z2).1))):Nat):Int)))) (qC (by kernel_rfl)))<|?_
   rcases hb2:(decide (((6:Nat):Int)<(((xP (jN ((bv.getD i z2).1))):Nat):Int))) with _ | _
   ·replace hb2:=vB hb2
    exact zE (kV uT)<|zR (kJ jQ)<|zE (jV (nF (jN ((bv.getD i z2).2)) ((bv.getD i z2).2) (jM (jW (kZ hbx (by decide) i).2.1))))<|zE hH<|zE dG<|zZ
   ·replace hb2:=uV hb2
    exact zK<|zK<|zK<|zK<|zE yR<|zZ
  refine jG rfl (fun h3=>?_) (fun h3=>?_)
  ·refine jB<|kx [(6,(vb true))] [] (zM<|zZ) ?_
   refine jE ⟨_,(.tmp (d:=(.val (.bool (true)))) rfl .nil),?_⟩
   rfl
  ·refine jC<|kx [(43,(jS (i+1)))] [] (zE (vO (i+1))<|zM<|zZ) ?_
   exact ⟨i+1,wk,(by omega),(by first|omega|(dsimp only;omega))⟩
 ·replace h1:=vB h1
  refine kD<|jB<|kx [(9,(.ref 2 0)),(10,(jS (nP q bv.length)))] [(2,some (bx (jF y1)))] (zM<|zM<|zE (kV gG)<|zR (uE cH)<|zE (jV (p_bnd2 t ht bv hbx q (gH hq) hc hf hr0 hbl))<|zM<|zE uX<|zE uX<|zN (qR 2 qJ qL)<|zT (qA jP)<|zM<|zZ) ?_
  refine jB<|kx [(11,(jS 0))] [] (zM<|zZ) ?_
  refine jB<|jB<|kx [(74,(vb false))] [] (zM<|zE (jV (u_vlB bv hbx hbl))<|zE gD<|zM<|zE (kV gG)<|zR (uE cH)<|zE (jV (s_chk q (gH hq)))<|zE (uP false mF (by exact bne_eq_false_iff_eq.2 (by rw[show (mZ q)=0 from hq0]<;>rfl)))<|zE xQ<|zZ) ?_
  refine kM ?_
  refine jC<|jB<|jB<|kx [(76,(vb true))] [] (zM<|zE (uP true xR)<|zZ) ?_
  refine uI ?_
  refine kx [(11,(jS (gK ((bv.length:Nat):Int) t)))] [] (zM<|zM<|zE (fO uA bv.length)<|zE (jV (u_chk t ht ((bv.length:Nat):Int)))<|zM<|zZ) ?_
  refine jB<|jB<|kx [(82,(vb true))] [] (zM<|zE (uP true xR (by exact beq_iff_eq.2 (by rw[show (gK ((bv.length:Nat):Int) t)=0 from hc]<;>rfl)))<|zZ) ?_
  refine uI ?_
  refine kx [(11,(jS (nP q bv.length)))] [] (zE (kV gG)<|zR (uE cH)<|zM<|zE (fO uA bv.length)<|zE (jV (s_fits q (gH hq) bv.length hr0))<|zM<|zZ) ?_
  refine jB<|kx [(12,(.ref 3 0))] [(3,some (bx (jI (vX.mk y1 [] []))))] (zE (eD pl95 mE cG)<|zN (qR 3 mE cG)<|zT (qA gU)<|zZ) ?_
  refine jB<|jB<|kx [(90,(vb false))] [] (zM<|zE (uP false xR (by exact beq_eq_false_iff_ne.2 (by have hx:=hf;omega)))<|zZ) ?_
  refine kM ?_
  refine jC<|jB<|jB<|kx [(98,(vb true))] [] (zM<|zE (uP true mF (by exact bne_iff_ne.2 (by have hx:=hf;omega)))<|zZ) ?_
  refine uI ?_
  refine jB<|kx [(6,(vb true))] [] (zM<|zM<|zE (uP true xR (by exact beq_self_eq_true _))<|zM<|zR (kJ jP)<|zE (jV (h_zero y1 (zU gok_none)))<|zE yR<|zM<|zZ) ?_
  refine jE ⟨_,(.tmp (d:=(.val (.bool (true)))) rfl .nil),?_⟩
  rfl
theorem w_bod(t:List qB)(ht:zL 1048576 t)(bv:List R2)(hbx:∀ x∈bv,GL 1048576 x)(q:List (List jR))(hq:uY 6 q)(p:A4 Nat)(hb4:bv.length<=4)(hsq:shM 5 6 q=true)(hsm:(dK 16 10 t&&shR 4 6 [])=true)(hlg:lM (List.map jY bv) t=true)(hdg:∀ a∈(List.map jY bv),xP a.lo<=6/\xP a.hi<=6)(hq0:mZ q=0)(htl:t.length<=140737488355328)(hbl:bv.length<=1000000)(hT:mR bv t)(hf:nP q bv.length=0)(hd:dzT bv t=true):jO Tryz.prog 9 [(.sl 83 7 (List.map kS t)),(.sl 61 8 (List.map jF (List.map jY bv))),(gO (RPt.mk q p))] (.val (.bool (true))):=by
 have hr0:=iM hq0
 have hbm:(List.map jY bv).length=bv.length:=List.length_map _
 let y1:=(jL.mk kH kH)
 refine qY Tryz.func9 ?_
 refine jB<|kx [(5,(.ref 0 0))] [(0,some (bx (gO (RPt.mk q p))))] (zN (uU 0)<|zM<|zZ) ?_
 refine jB<|jB<|kx [(20,(vb false))] [] (zE (jV eU)<|zE gD<|zZ) ?_
 refine kM ?_
 refine jC<|jB<|jB<|kx [(40,(vb false))] [] (zM<|zE (fO uA bv.length)<|zE (uP false hH (by exact decide_eq_false (by omega)))<|zM<|zE (kV gG)<|zR (uE cH)<|zE (uP true (jV (fS q (gH hq))) (by exact hsq))<|zE gD<|zE xQ<|zM<|zM<|zE (uP true (jV (tk_nil (bP t (tn_up ht) [] (bH _) htl) (.same (.cut 45 4 .nil)))) (by exact hsm))<|zE gD<|zE xQ<|zM<|zM<|zM<|zE (uP true (jV (oA t ht (List.map jY bv) (gokl_up (gok_map hbx)) htl (by omega))) (by exact hlg))<|zE gD<|zE xQ<|zZ) ?_
 refine kM ?_
 refine jC<|jB<|jB<|kx [(41,(vl 61 8 jF (List.map jY bv))),(42,(jS bv.length)),(43,(jS 0))] [] (zM<|zE (fO uA bv.length)<|zM<|zZ) ?_
 refine jH<|kF (α:=Nat) (fun i=>⟨[(0,(vl 83 7 kS t)),(1,(vl 61 8 jF (List.map jY bv))),(5,(.ref 0 0)),(41,(vl 61 8 jF (List.map jY bv))),(42,(jS bv.length)),(43,(jS i))],[(0,some (bx (gO (RPt.mk q p))))]⟩) (fun i=>i<=bv.length) (fun i=>bv.length-i) 0 wk (Nat.zero_le _) ?_
 rintro i hi
 refine jB<|kx [(44,(vb (decide (((i:Nat):Int)<((bv.length:Nat):Int)))))] [] (zE xK<|zZ) ?_
 refine jB<|jG rfl (fun h1=>?_) (fun h1=>?_)
 ·replace h1:=uV h1
  have hdm:=hdg _ (List.mem_map_of_mem (f:=jY) (vA (d:=z2) (show i<bv.length by omega)))
  obtain ⟨hd1,hd2⟩:(¬ 6<((xP (jN (bv.getD i z2).1):Nat):Int))/\¬ 6<((xP (jN (bv.getD i z2).2):Nat):Int):=dg_i hdm
  refine jC<|jB<|jH<|jB<|kx [(8,(.ref 1 0))] [(1,some (bx (jF (jY (bv.getD i z2)))))] (zE (bC uA jY i z2)<|zE (yJ jP)<|zN (qR 1 qJ qL)<|zT (qA jP)<|zZ) ?_
  refine jB<|kx [(56,(vb (decide (((6:Nat):Int)<(((xP (jN ((bv.getD i z2).1))):Nat):Int))||decide (((6:Nat):Int)<(((xP (jN ((bv.getD i z2).2))):Nat):Int)))))] [] ?_ ?_
  ·refine zE (kV uO)<|zR (kJ jQ)<|zE (jV (nF (jN ((bv.getD i z2).1)) ((bv.getD i z2).1) (jM (jW (kZ hbx (by decide) i).1))))<|zE hH<|zE (oV (vb (decide (((6:Nat):Int)<(((xP (jN ((bv.getD i z2).1))):Nat):Int)))) (qC (by kernel_rfl)))<|?_
   rcases hb2:(decide (((6:Nat):Int)<(((xP (jN ((bv.getD i z2).1))):Nat):Int))) with _ | _
   ·replace hb2:=vB hb2
    exact zE (kV uT)<|zR (kJ jQ)<|zE (jV (nF (jN ((bv.getD i z2).2)) ((bv.getD i z2).2) (jM (jW (kZ hbx (by decide) i).2.1))))<|zE hH<|zE dG<|zZ
   ·replace hb2:=uV hb2
    exact zK<|zK<|zK<|zK<|zE yR<|zZ
  refine jG rfl (fun h3=>?_) (fun h3=>?_)
  ·refine jB<|kx [(6,(vb true))] [] (zM<|zZ) ?_
   refine jE ⟨_,(.tmp (d:=(.val (.bool (true)))) rfl .nil),?_⟩
   rfl
  ·refine jC<|kx [(43,(jS (i+1)))] [] (zE (vO (i+1))<|zM<|zZ) ?_
   exact ⟨i+1,wk,(by omega),(by first|omega|(dsimp only;omega))⟩
 ·replace h1:=vB h1
  refine kD<|jB<|kx [(9,(.ref 2 0)),(10,(jS 14))] [(2,some (bx (jF y1)))] (zM<|zM<|zE (kV gG)<|zR (uE cH)<|zE (jV (p_bnd3 t ht bv hbx q (gH hq) hT.c0 hf (tame_fail hT hd) hr0 hbl))<|zM<|zE uX<|zE uX<|zN (qR 2 qJ qL)<|zT (qA jP)<|zM<|zZ) ?_
  refine jB<|kx [(11,(jS 0))] [] (zM<|zZ) ?_
  refine jB<|jB<|kx [(74,(vb false))] [] (zM<|zE (jV (u_vlB bv hbx hbl))<|zE gD<|zM<|zE (kV gG)<|zR (uE cH)<|zE (jV (s_chk q (gH hq)))<|zE (uP false mF (by exact bne_eq_false_iff_eq.2 (by rw[show (mZ q)=0 from hq0]<;>rfl)))<|zE xQ<|zZ) ?_
  refine kM ?_
  refine jC<|jB<|jB<|kx [(76,(vb true))] [] (zM<|zE (uP true xR)<|zZ) ?_
  refine uI ?_
  refine kx [(11,(jS (gK ((bv.length:Nat):Int) t)))] [] (zM<|zM<|zE (fO uA bv.length)<|zE (jV (u_chk t ht ((bv.length:Nat):Int)))<|zM<|zZ) ?_
  refine jB<|jB<|kx [(82,(vb true))] [] (zM<|zE (uP true xR (by exact beq_iff_eq.2 (by rw[show (gK ((bv.length:Nat):Int) t)=0 from hT.c0]<;>rfl)))<|zZ) ?_
  refine uI ?_
  refine kx [(11,(jS (nP q bv.length)))] [] (zE (kV gG)<|zR (uE cH)<|zM<|zE (fO uA bv.length)<|zE (jV (s_fits q (gH hq) bv.length hr0))<|zM<|zZ) ?_
  refine jB<|kx [(12,(.ref 3 0))] [(3,some (bx (jI (vX.mk y1 [] []))))] (zE (eD pl95 mE cG)<|zN (qR 3 mE cG)<|zT (qA gU)<|zZ) ?_
  refine jB<|jB<|kx [(90,(vb true))] [] (zM<|zE (uP true xR (by exact beq_iff_eq.2 (by rw[show (nP q bv.length)=0 from hf]<;>rfl)))<|zZ) ?_
  refine uI ?_
  refine kx [(11,(jS 14))] [(3,some (bx (jI (vX.mk y1 [] []))))] (zM<|zM<|zE (jV (u_jetsZ t ht bv hbx hT hd hbl))<|zM<|zE uX<|zE uX<|zT (qA gU)<|zM<|zZ) ?_
  refine jB<|jB<|kx [(98,(vb true))] [] (zM<|zE (uP true mF)<|zZ) ?_
  refine uI ?_
  refine jB<|kx [(6,(vb true))] [] (zM<|zM<|zE (uP true xR)<|zM<|zR (kJ jP)<|zE (jV (h_zero y1 (zU gok_none)))<|zE yR<|zM<|zZ) ?_
  refine jE ⟨_,(.tmp (d:=(.val (.bool (true)))) rfl .nil),?_⟩
  rfl
theorem w_bo(t:List qB)(ht:zL 1048576 t)(bv:List R2)(hbx:∀ x∈bv,GL 1048576 x)(q:List (List jR))(hq:uY 6 q)(p:A4 Nat)(hb4:bv.length<=4)(hsq:shM 5 6 q=true)(hsm:(dK 16 10 t&&shR 4 6 [])=true)(hlg:lM (List.map jY bv) t=true)(hdg:∀ a∈(List.map jY bv),xP a.lo<=6/\xP a.hi<=6)(hq0:mZ q=0)(htl:t.length<=140737488355328)(hbl:bv.length<=1000000)(hb6:∀ y∈bv,GL 6 y)(hp:∀ i,a4 p i<=255)(hT:mR bv t)(hf:nP q bv.length=0)(hd:dzT bv t=false):jO Tryz.prog 9 [(.sl 83 7 (List.map kS t)),(.sl 61 8 (List.map jF (List.map jY bv))),(gO (RPt.mk q p))] (.val (.bool (true))):=by
 have hr0:=iM hq0
 have hbm:(List.map jY bv).length=bv.length:=List.length_map _
 obtain ⟨hfq,hfc,_⟩:=fit_of hf
 have hrm:yL q q.length bv.length:=by rw[hfc] at hr0;exact hr0
 have hgl:(kA bv t).g.length=bv.length:=(xW hT hd).run.last.2.2
 have hft:dK 16 10 t=true:=by rw[Bool.and_eq_true] at hsm;exact hsm.1
 obtain ⟨hT2,hd2⟩:=bo_at (v:=a4 p) hb6 (by omega) hft hT hd
 have hhas:=bo_has (v:=a4 p) hb6 hT hT2 hd hd2 hrm hf
 have hpl:=nC bv (a4 p)
 refine qY Tryz.func9 ?_
 refine jB<|kx [(5,(.ref 0 0))] [(0,some (bx (gO (RPt.mk q p))))] (zN (uU 0)<|zM<|zZ) ?_
 refine jB<|jB<|kx [(20,(vb false))] [] (zE (jV eU)<|zE gD<|zZ) ?_
 refine kM ?_
 refine jC<|jB<|jB<|kx [(40,(vb false))] [] (zM<|zE (fO uA bv.length)<|zE (uP false hH (by exact decide_eq_false (by omega)))<|zM<|zE (kV gG)<|zR (uE cH)<|zE (uP true (jV (fS q (gH hq))) (by exact hsq))<|zE gD<|zE xQ<|zM<|zM<|zE (uP true (jV (tk_nil (bP t (tn_up ht) [] (bH _) htl) (.same (.cut 45 4 .nil)))) (by exact hsm))<|zE gD<|zE xQ<|zM<|zM<|zM<|zE (uP true (jV (oA t ht (List.map jY bv) (gokl_up (gok_map hbx)) htl (by omega))) (by exact hlg))<|zE gD<|zE xQ<|zZ) ?_
 refine kM ?_
 refine jC<|jB<|jB<|kx [(41,(vl 61 8 jF (List.map jY bv))),(42,(jS bv.length)),(43,(jS 0))] [] (zM<|zE (fO uA bv.length)<|zM<|zZ) ?_
 refine jH<|kF (α:=Nat) (fun i=>⟨[(0,(vl 83 7 kS t)),(1,(vl 61 8 jF (List.map jY bv))),(5,(.ref 0 0)),(41,(vl 61 8 jF (List.map jY bv))),(42,(jS bv.length)),(43,(jS i))],[(0,some (bx (gO (RPt.mk q p))))]⟩) (fun i=>i<=bv.length) (fun i=>bv.length-i) 0 wk (Nat.zero_le _) ?_
 rintro i hi
 refine jB<|kx [(44,(vb (decide (((i:Nat):Int)<((bv.length:Nat):Int)))))] [] (zE xK<|zZ) ?_
 refine jB<|jG rfl (fun h1=>?_) (fun h1=>?_)
 ·replace h1:=uV h1
  have hdm:=hdg _ (List.mem_map_of_mem (f:=jY) (vA (d:=z2) (show i<bv.length by omega)))
  obtain ⟨hd1,hd2⟩:(¬ 6<((xP (jN (bv.getD i z2).1):Nat):Int))/\¬ 6<((xP (jN (bv.getD i z2).2):Nat):Int):=dg_i hdm
  refine jC<|jB<|jH<|jB<|kx [(8,(.ref 1 0))] [(1,some (bx (jF (jY (bv.getD i z2)))))] (zE (bC uA jY i z2)<|zE (yJ jP)<|zN (qR 1 qJ qL)<|zT (qA jP)<|zZ) ?_
  refine jB<|kx [(56,(vb (decide (((6:Nat):Int)<(((xP (jN ((bv.getD i z2).1))):Nat):Int))||decide (((6:Nat):Int)<(((xP (jN ((bv.getD i z2).2))):Nat):Int)))))] [] ?_ ?_
  ·refine zE (kV uO)<|zR (kJ jQ)<|zE (jV (nF (jN ((bv.getD i z2).1)) ((bv.getD i z2).1) (jM (jW (kZ hbx (by decide) i).1))))<|zE hH<|zE (oV (vb (decide (((6:Nat):Int)<(((xP (jN ((bv.getD i z2).1))):Nat):Int)))) (qC (by kernel_rfl)))<|?_
   rcases hb2:(decide (((6:Nat):Int)<(((xP (jN ((bv.getD i z2).1))):Nat):Int))) with _ | _
   ·replace hb2:=vB hb2
    exact zE (kV uT)<|zR (kJ jQ)<|zE (jV (nF (jN ((bv.getD i z2).2)) ((bv.getD i z2).2) (jM (jW (kZ hbx (by decide) i).2.1))))<|zE hH<|zE dG<|zZ
   ·replace hb2:=uV hb2
    exact zK<|zK<|zK<|zK<|zE yR<|zZ
  refine jG rfl (fun h3=>?_) (fun h3=>?_)
  ·refine jB<|kx [(6,(vb true))] [] (zM<|zZ) ?_
   refine jE ⟨_,(.tmp (d:=(.val (.bool (true)))) rfl .nil),?_⟩
   rfl
  ·refine jC<|kx [(43,(jS (i+1)))] [] (zE (vO (i+1))<|zM<|zZ) ?_
   exact ⟨i+1,wk,(by omega),(by first|omega|(dsimp only;omega))⟩
 ·replace h1:=vB h1
  refine kD<|jB<|kx [(9,(.ref 2 0)),(10,(jS 0))] [(2,some (bx (jF (jY (bdR q (kA bv t).g)))))] (zM<|zM<|zE (kV gG)<|zR (uE cH)<|zE (jV (p_bnd t ht bv hbx q hq (xW hT hd) hf hbl hrm hfq.symm hb4))<|zM<|zE uX<|zE uX<|zN (qR 2 qJ qL)<|zT (qA jP)<|zM<|zZ) ?_
  refine jB<|kx [(11,(jS 0))] [] (zM<|zZ) ?_
  refine jB<|jB<|kx [(74,(vb false))] [] (zM<|zE (jV (u_vlB bv hbx hbl))<|zE gD<|zM<|zE (kV gG)<|zR (uE cH)<|zE (jV (s_chk q (gH hq)))<|zE (uP false mF (by exact bne_eq_false_iff_eq.2 (by rw[show (mZ q)=0 from hq0]<;>rfl)))<|zE xQ<|zZ) ?_
  refine kM ?_
  refine jC<|jB<|jB<|kx [(76,(vb true))] [] (zM<|zE (uP true xR)<|zZ) ?_
  refine uI ?_
  refine kx [(11,(jS (gK ((bv.length:Nat):Int) t)))] [] (zM<|zM<|zE (fO uA bv.length)<|zE (jV (u_chk t ht ((bv.length:Nat):Int)))<|zM<|zZ) ?_
  refine jB<|jB<|kx [(82,(vb true))] [] (zM<|zE (uP true xR (by exact beq_iff_eq.2 (by rw[show (gK ((bv.length:Nat):Int) t)=0 from hT.c0]<;>rfl)))<|zZ) ?_
  refine uI ?_
  refine kx [(11,(jS (nP q bv.length)))] [] (zE (kV gG)<|zR (uE cH)<|zM<|zE (fO uA bv.length)<|zE (jV (s_fits q (gH hq) bv.length hr0))<|zM<|zZ) ?_
  refine jB<|kx [(12,(.ref 3 0))] [(3,some (bx (jI (vX.mk (jL.mk kH kH) [] []))))] (zE (eD pl95 mE cG)<|zN (qR 3 mE cG)<|zT (qA gU)<|zZ) ?_
  refine jB<|jB<|kx [(90,(vb true))] [] (zM<|zE (uP true xR (by exact beq_iff_eq.2 (by rw[show (nP q bv.length)=0 from hf]<;>rfl)))<|zZ) ?_
  refine uI ?_
  refine kx [(11,(jS 0))] [(3,some (bx (jI (qW (kA bv t)))))] (zM<|zM<|zE (jV (u_jetsO t ht bv hbx hT hd hbl))<|zM<|zE uX<|zE uX<|zT (qA gU)<|zM<|zZ) ?_
  refine jB<|jB<|kx [(98,(vb false))] [] (zM<|zE (uP false mF)<|zZ) ?_
  refine kM ?_
  refine jC<|jB<|jB<|kd [(117,(vb false))] [] mo (wM<|wE (uP false mF)<|wM<|wR (kJ jP)<|wE (kV xO)<|wR (uE cB)<|wE (kV gG)<|wR (uE cH)<|wE (jV (u_bnd ((kA bv t).g) ((mR.dend hT hd).last.2.1) q hq (by rw[hgl];exact hrm) (hgl.trans hfq.symm) (by rw[hgl];exact hb4)))<|wE (uP true (jV (h_same (jY (bdR q (kA bv t).g)) (jY (bdR q ((kA bv t).g))) (zU (⟨qQ (jM (jW (bd_gl hq (xW hT hd).run.last hb4).1) (by decide:67108864<=67108864)),qQ (jM (jW (bd_gl hq (xW hT hd).run.last hb4).2.1) (by decide:67108864<=67108864))⟩)) (zU (⟨qQ (jM (jW (bdI_26 hq ((mR.dend hT hd).last.2.1) (by rw[hgl];exact hb4)).1) (by decide:67108864<=67108864)),qQ (jM (jW (bdI_26 hq ((mR.dend hT hd).last.2.1) (by rw[hgl];exact hb4)).2.1) (by decide:67108864<=67108864))⟩)))) (by exact (sameG_self (bd_gl hq (xW hT hd).run.last hb4).2.2)))<|wE gD<|wE xQ<|wZ) ?_
  refine kM ?_
  refine jC<|jB<|kx [(13,(.own 4 45 4 0))] [(4,some (yU jJ []))] (zN (oBo 4 uQ qZ uG)<|zM<|zZ) ?_
  refine jB<|jB<|kU (wk (l:=[(0,(vl 83 7 kS t)),(1,(vl 61 8 jF (List.map jY bv))),(5,(.ref 0 0)),(9,(.ref 2 0)),(13,(.own 4 45 4 0))]) (b:=[(0,some (bx (gO (RPt.mk q p)))),(2,some (bx (jF (jY (bdR q (kA bv t).g))))),(4,some (yU jJ []))])) ?_
  refine kx [(119,(vl 61 8 jF (List.map jY bv))),(120,(jS bv.length)),(121,(jS 0))] [] (zM<|zE (fO uA bv.length)<|zM<|zZ) ?_
  refine jH<|kF (α:=Nat × List jR) (fun (i,o)=>⟨[(0,(vl 83 7 kS t)),(5,(.ref 0 0)),(9,(.ref 2 0)),(13,(.own 4 45 4 o.length)),(119,(vl 61 8 jF (List.map jY bv))),(120,(jS bv.length)),(121,(jS i))],[(0,some (bx (gO (RPt.mk q p)))),(2,some (bx (jF (jY (bdR q (kA bv t).g))))),(4,some (yU jJ o))]⟩) (fun (i,o)=>i<=bv.length/\o=((cJ bv (a4 p)).take i).map jN) (fun (i,o)=>bv.length-i) (0,[]) wk ⟨Nat.zero_le _,by simp⟩ ?_
  rintro ⟨i,o⟩ ⟨hi,ho⟩
  have hol:o.length=i:=by rw[ho,List.length_map,List.length_take];omega
  refine jB<|kx [(122,(vb (decide (((i:Nat):Int)<((bv.length:Nat):Int)))))] [] (zE xK<|zZ) ?_
  refine jB<|jG rfl (fun h4=>?_) (fun h4=>?_)
  ·replace h4:=uV h4
   have hp8:=hp i
   refine jC<|jB<|jH<|jB<|kx [(14,(jS i)),(15,(.ref 5 0))] [(5,some (bx (jF (jY (bv.getD i z2)))))] (zM<|zE (bC uA jY i z2)<|zE (yJ jP)<|zH (qR 5 qJ qL)<|zM<|zT (qA jP)<|zZ) ?_
   refine jB<|kx [(16,(.ref 6 0))] [(6,some (bx (jJ (jN (Rat.divInt ((((a4 p i) % 17):Nat):Int) 16)))))] (zM<|zE (kV fo89_1)<|zE (oXr ar87 i (h1:=Nat.ble_eq_true_of_le (by show i+1<=4;omega)))<|zR (oLi sh5 (fun i=>jZ.val (.int .u8 ((a4 p i:Nat):Int))) 4 i)<|zE (cM un5 in3 (a4 p i))<|zE (oRe ((a4 p i) % 17))<|zE (jV (p_of2 ((((a4 p i) % 17):Nat):Int) (by omega) (by omega) ((16:Nat):Int) (by omega) (by omega) (by decide)))<|zM<|zE uX<|zE uX<|zH (qR 6 qZ uG)<|zT (qA jQ)<|zM<|zZ) ?_
   refine kd [(13,(.own 7 45 4 ((o++[(jN (((bv.getD i z2).1)+((Rat.divInt ((((a4 p i) % 17):Nat):Int) 16)*(((bv.getD i z2).2)-((bv.getD i z2).1)))))]).length)))] [(7,some (yU jJ (o++[(jN (((bv.getD i z2).1)+((Rat.divInt ((((a4 p i) % 17):Nat):Int) 16)*(((bv.getD i z2).2)-((bv.getD i z2).1)))))]))),(4,none)] mo (wM<|wE (kV uO)<|wR (kJ jQ)<|wR (kJ jQ)<|wR (kJ jP)<|wE (jV (h_width ((bv.getD i z2).1) ((bv.getD i z2).2) (qG (kZ hbx (by decide) i).1) (qG (kZ hbx (by decide) i).2.1)))<|wE (jV (g_mul (jN (Rat.divInt ((((a4 p i) % 17):Nat):Int) 16)) (jN (((bv.getD i z2).2)-((bv.getD i z2).1))) (Rat.divInt ((((a4 p i) % 17):Nat):Int) 16) (((bv.getD i z2).2)-((bv.getD i z2).1)) (jM (jW (xX (n:=3) (xS (by omega) (by omega)) (xS (by omega) (by omega))))) (jM (jW (eL (k:=2097153) (kZ hbx (by decide) i).2.1 (kZ hbx (by decide) i).1)))))<|wE (jV (g_add (jN ((bv.getD i z2).1)) (jN ((Rat.divInt ((((a4 p i) % 17):Nat):Int) 16)*(((bv.getD i z2).2)-((bv.getD i z2).1)))) ((bv.getD i z2).1) ((Rat.divInt ((((a4 p i) % 17):Nat):Int) 16)*(((bv.getD i z2).2)-((bv.getD i z2).1))) (jM (jW (kZ hbx (by decide) i).1)) (jM (jW (qD (k:=2097156) (xX (n:=3) (xS (by omega) (by omega)) (xS (by omega) (by omega))) (eL (k:=2097153) (kZ hbx (by decide) i).2.1 (kZ hbx (by decide) i).1))))))<|wE (eE uQ qZ uG)<|wAS (k:=4) 7 jJ o [(jN (((bv.getD i z2).1)+((Rat.divInt ((((a4 p i) % 17):Nat):Int) 16)*(((bv.getD i z2).2)-((bv.getD i z2).1)))))] rfl uQ qZ by45<|wM<|wZ) ?_
   refine kU (sim_ren (S':=[(0,(vl 83 7 kS t)),(5,(.ref 0 0)),(9,(.ref 2 0)),(13,(.own 4 45 4 ((o++[(jN (((bv.getD i z2).1)+((Rat.divInt ((((a4 p i) % 17):Nat):Int) 16)*(((bv.getD i z2).2)-((bv.getD i z2).1)))))]).length))),(119,(vl 61 8 jF (List.map jY bv))),(120,(jS bv.length)),(121,(jS i))]) (B':=[(0,some (bx (gO (RPt.mk q p)))),(2,some (bx (jF (jY (bdR q (kA bv t).g))))),(4,some (yU jJ (o++[(jN (((bv.getD i z2).1)+((Rat.divInt ((((a4 p i) % 17):Nat):Int) 16)*(((bv.getD i z2).2)-((bv.getD i z2).1)))))])))]) 4 7) ?_
   refine kx [(121,(jS (i+1)))] [] (zE (vO (i+1))<|zM<|zZ) ?_
   exact ⟨(i+1,o++[jN (atG (bv.getD i z2) (a4 p i))]),wk,⟨by omega,by rw[ho];exact pts_step (by omega)⟩,(by first|omega|(dsimp only;omega))⟩
  ·replace h4:=vB h4
   refine kD<|jB<|kU (xC (t:=13) (k:=4) (es:=List.map jJ o) rfl rfl (gC _ _ (fun _=>rfl)) (uW _ _ rfl) (hZ jJ o (fun _=>rfl) rfl)) ?_
   refine kU (wk (l:=[(0,(vl 83 7 kS t)),(5,(.ref 0 0)),(9,(.ref 2 0)),(13,(vl 45 4 jJ o)),(119,(vl 61 8 jF (List.map jY bv))),(120,(jS bv.length)),(121,(jS i)),(122,(vb (decide (((i:Nat):Int)<((bv.length:Nat):Int)))))]) (b:=[(0,some (bx (gO (RPt.mk q p)))),(2,some (bx (jF (jY (bdR q (kA bv t).g)))))])) ?_
   refine kx [(10,(jS 0)),(18,(.ref 8 0))] [(8,some (bx (jJ (jN (fG q (gP (cJ bv (a4 p)) t) (gP (cJ bv (a4 p)) t))))))] (zM<|zE (oQd (.sl 45 4 (List.map jJ o)) (.sl 45 4 (List.map jJ (List.map jN (cJ bv (a4 p))))) (oV (vl 45 4 jJ o) (qC (by kernel_rfl))) (by exact (by rw[ho,show i=bv.length by omega,show bv.length=(cJ bv (a4 p)).length from hpl.symm,List.take_length])))<|zE (kV gG)<|zR (uE cH)<|zE (jV (p_var8 t ht (cJ bv (a4 p)) (fun p9 h9=>qG (ptsG_ql hb6 p9 h9) (by decide)) q (gH hq) (xW hT2 hd2) (by rw[nC];exact hrm) (by rw[nC];exact hf) (by rw[nC];exact hfq.symm) (by omega)))<|zM<|zE uX<|zE uX<|zN (qR 8 qZ uG)<|zT (qA jQ)<|zM<|zZ) ?_
   refine jB<|kx [(6,(vb true))] [] (zM<|zE (uP true xR)<|zM<|zR (kJ jQ)<|zE (uP true (jV (bU (jN (fG q (gP (cJ bv (a4 p)) t) (gP (cJ bv (a4 p)) t))) (fG q (gP (cJ bv (a4 p)) t) (gP (cJ bv (a4 p)) t)) (jM (jW (cov_8 (gH hq) (grQ_ok (xW hT2 hd2).run) (grQ_ok (xW hT2 hd2).run) (by rw[fY (xW hT2 hd2).run];exact (by rw[nC];exact hrm)) (by omega) (by rw[fY (xW hT2 hd2).run];omega) (by rw[fY (xW hT2 hd2).run];exact (by rw[nC];exact hfq.symm))))))) (by exact (mP _)))<|zE yR<|zM<|zR (kJ jP)<|zR (kJ jQ)<|zE (uP true (jV (h_hasR (jY (bdR q (kA bv t).g)) ((bdR q (kA bv t).g).1) ((bdR q (kA bv t).g).2) (jM (jW (bd_gl hq (xW hT hd).run.last hb4).1)) (jM (jW (bd_gl hq (xW hT hd).run.last hb4).2.1)) (jN (fG q (gP (cJ bv (a4 p)) t) (gP (cJ bv (a4 p)) t))) (fG q (gP (cJ bv (a4 p)) t) (gP (cJ bv (a4 p)) t)) (jM (jW (cov_8 (gH hq) (grQ_ok (xW hT2 hd2).run) (grQ_ok (xW hT2 hd2).run) (by rw[fY (xW hT2 hd2).run];exact (by rw[nC];exact hrm)) (by omega) (by rw[fY (xW hT2 hd2).run];omega) (by rw[fY (xW hT2 hd2).run];exact (by rw[nC];exact hfq.symm))))))) (by exact hhas))<|zE yR<|zM<|zZ) ?_
   refine jE ⟨_,(.tmp (d:=(.val (.bool (true)))) rfl .nil),?_⟩
   rfl
end Go.Proofs.YtnajallgoaiahaaGreatDoor
