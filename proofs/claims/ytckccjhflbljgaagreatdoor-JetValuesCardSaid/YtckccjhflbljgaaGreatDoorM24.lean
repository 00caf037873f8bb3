/- Part 24 of a proof: rules, plain facts, and functions walked. -/
import Derived.Test.YtckccjhflbljgaaGreatDoorM23
set_option linter.all false
set_option maxRecDepth 4000
namespace Go.Proofs.YtckccjhflbljgaaGreatDoor
open Go.Fid
theorem r_neg(x:kS)(hx:x.gs.length<=1099511627776):jR Tryz.prog 93 [(jQ x)] (jQ (kH (-jV x))):=by
 have hvx:=cO x
 refine uU Tryz.func93 ?_
 refine jB<|kx [(1,(.ref 0 0)),(2,(.ref 1 0))] [(0,some (bx (jQ x))),(1,some (bx (jQ (kS.mk false []))))] (zN (vZ 0)<|zN (vC 1 gN gM)<|zZ) ?_
 refine jB<|kx [] [(0,some (bx (jQ (kH (jV x)))))] (zR (kR jZ)<|zE (kB (cP x (by omega)))<|zT (qM jZ)<|zZ) ?_
 refine jB<|kx [] [(1,some (bx (jQ (vW (!((kH (jV x)).neg)) (val (ofNat (Int.natAbs (jV x))))))))] (zE (kK uW)<|zR (qI eL)<|zE mH<|zE (kK uO)<|zR (qI xG)<|zE (kB (gS (!((kH (jV x)).neg)) (ofNat (Int.natAbs (jV x))) (by first | assumption | exact kE _ | exact (qB _).1 | exact (qF _).1) (by omega)))<|zT (qM jZ)<|zZ) ?_
 refine jE ⟨_,(kP (cs:=(bx (jQ (vW (!((kH (jV x)).neg)) (val (ofNat (Int.natAbs (jV x)))))))) (d:=(jQ (vW (!((kH (jV x)).neg)) (val (ofNat (Int.natAbs (jV x))))))) rfl rfl jZ rfl rfl .nil),?_⟩
 rw[<- rneg_eq];rfl
theorem r_sign(x:kS)(hx:x.gs.length<=1099511627776):jR Tryz.prog 95 [(jQ x)] (.val (.int .i64 ((qQ (jV x))))):=by
 have hvx:=cO x
 refine uU Tryz.func95 ?_
 refine jB<|kx [(1,(.ref 0 0))] [(0,some (bx (jQ x)))] (zN (vZ 0)<|zM<|zZ) ?_
 refine jB<|kx [] [(0,some (bx (jQ (kH (jV x)))))] (zR (kR jZ)<|zE (kB (cP x (by omega)))<|zT (qM jZ)<|zZ) ?_
 refine jB<|jB<|kx [(8,(vb ((((ofNat (Int.natAbs (jV x))).length:Nat):Int) == 0)))] [] (zE (kK uO)<|zR (qI xG)<|zE (zL kD (L:=(ofNat (Int.natAbs (jV x)))))<|zE xV<|zZ) ?_
 refine jF rfl (fun h1=>?_) (fun h1=>?_)
 ·replace h1:=eq_of_beq h1
  refine jB<|kx [(2,(kG 0))] [] (zM<|zZ) ?_
  refine jE ⟨_,(.tmp (d:=(.val (.int .i64 (0)))) rfl .nil),?_⟩
  rw[rsign_zero h1];rfl
 ·replace h1:=ne_of_beq_false h1
  refine jG<|jB<|jB<|kx [(10,(vb ((kH (jV x)).neg)))] [] (zE (kK uW)<|zR (qI eL)<|zZ) ?_
  refine jF (b:=(kH (jV x)).neg) rfl (fun h2=>?_) (fun h2=>?_)
  ·refine jB<|kx [(2,(vi (-1)))] [] (zM<|zZ) ?_
   refine jE ⟨_,(.tmp (d:=(.val (.int .i64 (-1)))) rfl .nil),?_⟩
   rw[rsign_neg h1 h2];rfl
  ·refine jG<|jB<|kx [(2,(kG 1))] [] (zM<|zZ) ?_
   refine jE ⟨_,(.tmp (d:=(.val (.int .i64 (1)))) rfl .nil),?_⟩
   rw[rsign_pos h1 h2];rfl
theorem r_add(x:kS)(y:kS)(hx:x.gs.length<=1099511627776)(hy:y.gs.length<=1099511627776):jR Tryz.prog 71 [(jQ x),(jQ y)] (jQ (kH (jV x+jV y))):=by
 have hvx:=cO x
 have hvy:=cO y
 refine uU Tryz.func71 ?_
 refine jB<|kx [(2,(.ref 0 0)),(3,(.ref 1 0)),(4,(.ref 2 0))] [(0,some (bx (jQ x))),(1,some (bx (jQ y))),(2,some (bx (jQ (kS.mk false []))))] (zN (vZ 0)<|zN (vZ 1)<|zN (vC 2 gN gM)<|zZ) ?_
 refine jB<|kd [] [(0,some (bx (jQ (kH (jV x))))),(1,some (bx (jQ (kH (jV y)))))] mo (wR (kR jZ)<|wE (kB (cP x (by omega)))<|wR (kR jZ)<|wE (kB (cP y (by omega)))<|wT (qM jZ)<|wT (qM jZ)<|wZ) ?_
 refine jB<|jB<|kx [(13,(vb (((kH (jV x)).neg) == ((kH (jV y)).neg))))] [] (zE (kK uW)<|zR (qI eL)<|zE (kK uW)<|zR (qI eL)<|zE (oEb bo4)<|zZ) ?_
 refine jF rfl (fun h1=>?_) (fun h1=>?_)
 ·replace h1:=eq_of_beq h1
  refine jB<|kd [] [(2,some (bx (jQ (vW ((kH (jV x)).neg) (val (ofNat (val (ofNat (Int.natAbs (jV x)))+val (ofNat (Int.natAbs (jV y))))))))))] mo (wE (kK uW)<|wR (qI eL)<|wE (kK uO)<|wR (qI xG)<|wE (kK uO)<|wR (qI xG)<|wE (kB (r_plus (ofNat (Int.natAbs (jV x))) (ofNat (Int.natAbs (jV y))) (by first | assumption | exact kE _ | exact (qB _).1 | exact (qF _).1) (by first | assumption | exact kE _ | exact (qB _).1 | exact (qF _).1) (by omega) (by omega)))<|wE (kB (gS ((kH (jV x)).neg) (ofNat (val (ofNat (Int.natAbs (jV x)))+val (ofNat (Int.natAbs (jV y))))) (by first | assumption | exact kE _ | exact (qB _).1 | exact (qF _).1) (by first | omega | exact Nat.le_trans (add_len (kE _) (kE _)) (by omega) | exact Nat.le_trans (sub_len (kE _)) (by omega))))<|wT (qM jZ)<|wZ) ?_
  refine jE ⟨_,(kP (cs:=(bx (jQ (vW ((kH (jV x)).neg) (val (ofNat (val (ofNat (Int.natAbs (jV x)))+val (ofNat (Int.natAbs (jV y)))))))))) (d:=(jQ (vW ((kH (jV x)).neg) (val (ofNat (val (ofNat (Int.natAbs (jV x)))+val (ofNat (Int.natAbs (jV y))))))))) rfl rfl jZ rfl rfl .nil),?_⟩
  rw[<- rsum_same h1];rfl
 ·replace h1:=ne_of_beq_false h1
  refine jG<|jB<|jB<|kx [(27,(vb (decide (0<=(uX ((val (ofNat (Int.natAbs (jV x))):Nat):Int) ((val (ofNat (Int.natAbs (jV y))):Nat):Int))))))] [] (zE (kK uO)<|zR (qI xG)<|zE (kK uO)<|zR (qI xG)<|zE (kB (r_size (ofNat (Int.natAbs (jV x))) (ofNat (Int.natAbs (jV y))) (by first | assumption | exact qB _ | exact qF _) (by first | assumption | exact qB _ | exact qF _) (by omega) (by omega)))<|zE oGe<|zZ) ?_
  refine jF rfl (fun h2=>?_) (fun h2=>?_)
  ·replace h2:=vN h2
   refine jB<|kd [] [(2,some (bx (jQ (vW ((kH (jV x)).neg) (val (ofNat (val (ofNat (Int.natAbs (jV x)))-val (ofNat (Int.natAbs (jV y))))))))))] mo (wE (kK uW)<|wR (qI eL)<|wE (kK uO)<|wR (qI xG)<|wE (kK uO)<|wR (qI xG)<|wE (kB (r_minus (ofNat (Int.natAbs (jV x))) (ofNat (Int.natAbs (jV y))) (by first | assumption | exact kE _ | exact (qB _).1 | exact (qF _).1) (by first | assumption | exact kE _ | exact (qB _).1 | exact (qF _).1) (by have:=aT h2;omega) (by omega)))<|wE (kB (gS ((kH (jV x)).neg) (ofNat (val (ofNat (Int.natAbs (jV x)))-val (ofNat (Int.natAbs (jV y))))) (by first | assumption | exact kE _ | exact (qB _).1 | exact (qF _).1) (by first | omega | exact Nat.le_trans (add_len (kE _) (kE _)) (by omega) | exact Nat.le_trans (sub_len (kE _)) (by omega))))<|wT (qM jZ)<|wZ) ?_
   refine jE ⟨_,(kP (cs:=(bx (jQ (vW ((kH (jV x)).neg) (val (ofNat (val (ofNat (Int.natAbs (jV x)))-val (ofNat (Int.natAbs (jV y)))))))))) (d:=(jQ (vW ((kH (jV x)).neg) (val (ofNat (val (ofNat (Int.natAbs (jV x)))-val (ofNat (Int.natAbs (jV y))))))))) rfl rfl jZ rfl rfl .nil),?_⟩
   rw[<- rsum_first h1 (by have:=aT h2;omega)];rfl
  ·replace h2:=vX h2
   refine jG<|jB<|kd [] [(2,some (bx (jQ (vW ((kH (jV y)).neg) (val (ofNat (val (ofNat (Int.natAbs (jV y)))-val (ofNat (Int.natAbs (jV x))))))))))] mo (wE (kK uW)<|wR (qI eL)<|wE (kK uO)<|wR (qI xG)<|wE (kK uO)<|wR (qI xG)<|wE (kB (r_minus (ofNat (Int.natAbs (jV y))) (ofNat (Int.natAbs (jV x))) (by first | assumption | exact kE _ | exact (qB _).1 | exact (qF _).1) (by first | assumption | exact kE _ | exact (qB _).1 | exact (qF _).1) (by have:=cmpI_lt h2;omega) (by omega)))<|wE (kB (gS ((kH (jV y)).neg) (ofNat (val (ofNat (Int.natAbs (jV y)))-val (ofNat (Int.natAbs (jV x))))) (by first | assumption | exact kE _ | exact (qB _).1 | exact (qF _).1) (by first | omega | exact Nat.le_trans (add_len (kE _) (kE _)) (by omega) | exact Nat.le_trans (sub_len (kE _)) (by omega))))<|wT (qM jZ)<|wZ) ?_
   refine jE ⟨_,(kP (cs:=(bx (jQ (vW ((kH (jV y)).neg) (val (ofNat (val (ofNat (Int.natAbs (jV y)))-val (ofNat (Int.natAbs (jV x)))))))))) (d:=(jQ (vW ((kH (jV y)).neg) (val (ofNat (val (ofNat (Int.natAbs (jV y)))-val (ofNat (Int.natAbs (jV x))))))))) rfl rfl jZ rfl rfl .nil),?_⟩
   rw[<- rsum_second h1 (by have:=cmpI_lt h2;omega)];rfl
theorem r_sub(x:kS)(y:kS)(hx:x.gs.length<=1099511627776)(hy:y.gs.length<=1099511627776):jR Tryz.prog 163 [(jQ x),(jQ y)] (jQ (kH (jV x-jV y))):=by
 have hv:=gs_neg y
 refine uU Tryz.func163 ?_
 refine jB<|kx [(2,(.ref 0 0)),(3,(.ref 1 0)),(4,(.ref 2 0))] [(0,some (bx (jQ x))),(1,some (bx (jQ y))),(2,some (bx (jQ (kS.mk false []))))] (zN (vZ 0)<|zN (vZ 1)<|zN (vC 2 gN gM)<|zZ) ?_
 refine jB<|kd [] [(2,some (bx (jQ (kH (jV x+jV (kH (-jV y)))))))] mo (wR (kR jZ)<|wR (kR jZ)<|wE (kB (r_neg y (by omega)))<|wE (kB (r_add x (kH (-jV y)) (by omega) (by omega)))<|wT (qM jZ)<|wZ) ?_
 refine jE ⟨_,(kP (cs:=(bx (jQ (kH (jV x+jV (kH (-jV y))))))) (d:=(jQ (kH (jV x+jV (kH (-jV y)))))) rfl rfl jZ rfl rfl .nil),?_⟩
 rw[mO,<- Int.sub_eq_add_neg];rfl
theorem r_mul(x:kS)(y:kS)(hx:x.gs.length<=1099511627776)(hy:y.gs.length<=1099511627776):jR Tryz.prog 72 [(jQ x),(jQ y)] (jQ (kH (jV x*jV y))):=by
 have hvx:=cO x
 have hvy:=cO y
 have hda:=kE (Int.natAbs (jV x))
 have hdb:=kE (Int.natAbs (jV y))
 refine uU Tryz.func72 ?_
 refine jB<|kx [(2,(.ref 0 0)),(3,(.ref 1 0)),(4,(.ref 2 0))] [(0,some (bx (jQ x))),(1,some (bx (jQ y))),(2,some (bx (jQ (kS.mk false []))))] (zN (vZ 0)<|zN (vZ 1)<|zN (vC 2 gN gM)<|zZ) ?_
 refine jB<|kd [] [(0,some (bx (jQ (kH (jV x))))),(1,some (bx (jQ (kH (jV y)))))] mo (wR (kR jZ)<|wE (kB (cP x (by omega)))<|wR (kR jZ)<|wE (kB (cP y (by omega)))<|wT (qM jZ)<|wT (qM jZ)<|wZ) ?_
 refine jB<|kx [(5,(.own 3 107 1 ((ofNat (Int.natAbs (jV x))).length+(ofNat (Int.natAbs (jV y))).length)))] [(3,some (bm jD (List.replicate ((ofNat (Int.natAbs (jV x))).length+(ofNat (Int.natAbs (jV y))).length) 0)))] (zE (kK uO)<|zR (qI xG)<|zE (zL kD (L:=(ofNat (Int.natAbs (jV x)))))<|zE (kK uO)<|zR (qI xG)<|zE (zL kD (L:=(ofNat (Int.natAbs (jV y)))))<|zE (vY ((ofNat (Int.natAbs (jV x))).length+(ofNat (Int.natAbs (jV y))).length))<|zN (oMk 3 jD (0:Nat) ((ofNat (Int.natAbs (jV x))).length+(ofNat (Int.natAbs (jV y))).length) ((ofNat (Int.natAbs (jV x))).length+(ofNat (Int.natAbs (jV y))).length) kD vH yD nC)<|zM<|zZ) ?_
 refine jB<|jB<|kx [(6,(kG 0))] [] (zM<|zZ) ?_
 refine jL<|kQ (α:=Nat × List Nat) (fun (i,out)=>⟨[(2,(.ref 0 0)),(3,(.ref 1 0)),(4,(.ref 2 0)),(5,(.own 3 107 1 ((ofNat (Int.natAbs (jV x))).length+(ofNat (Int.natAbs (jV y))).length))),(6,(kG i))],[(0,some (bx (jQ (kH (jV x))))),(1,some (bx (jQ (kH (jV y))))),(2,some (bx (jQ (kS.mk false [])))),(3,some (bm jD out))]⟩) (fun (i,out)=>out.length=(ofNat (Int.natAbs (jV x))).length+(ofNat (Int.natAbs (jV y))).length/\Dig out/\i<=(ofNat (Int.natAbs (jV x))).length/\(∀ k,i+(ofNat (Int.natAbs (jV y))).length<=k->out.getD k 0=0)/\val out=val ((ofNat (Int.natAbs (jV x))).take i)*val (ofNat (Int.natAbs (jV y)))) (fun (i,out)=>(ofNat (Int.natAbs (jV x))).length-i) (0,List.replicate ((ofNat (Int.natAbs (jV x))).length+(ofNat (Int.natAbs (jV y))).length) 0) wk ⟨by simp,xQ _,Nat.zero_le _,fun k _=>eD _ k,by simp [val,cN]⟩ ?_
 rintro ⟨i,out⟩ ⟨qK,hdo,hi,hz,hv⟩
 have hai:=hda.getD i
 refine jB<|jB<|kx [(26,(vb (decide (((i:Nat):Int)<(((ofNat (Int.natAbs (jV x))).length:Nat):Int)))))] [] (zM<|zE (kK uO)<|zR (qI xG)<|zE (zL kD (L:=(ofNat (Int.natAbs (jV x)))))<|zE gX<|zZ) ?_
 refine jF rfl (fun h1=>?_) (fun h1=>?_)
 ·replace h1:=vN h1
  refine jG<|jB<|jL<|jB<|kx [(7,(yO 0))] [] (zM<|zZ) ?_
  refine jB<|jB<|kx [(8,(kG 0))] [] (zM<|zZ) ?_
  refine jL<|kQ (α:=Nat × List Nat × Nat) (fun (j,o2,c)=>⟨[(2,(.ref 0 0)),(3,(.ref 1 0)),(4,(.ref 2 0)),(5,(.own 3 107 1 ((ofNat (Int.natAbs (jV x))).length+(ofNat (Int.natAbs (jV y))).length))),(6,(kG i)),(7,(yO c)),(8,(kG j))],[(0,some (bx (jQ (kH (jV x))))),(1,some (bx (jQ (kH (jV y))))),(2,some (bx (jQ (kS.mk false [])))),(3,some (bm jD o2))]⟩) (fun (j,o2,c)=>o2.length=(ofNat (Int.natAbs (jV x))).length+(ofNat (Int.natAbs (jV y))).length/\Dig o2/\j<=(ofNat (Int.natAbs (jV y))).length/\c<1000000000/\(∀ k,i+(ofNat (Int.natAbs (jV y))).length<=k->o2.getD k 0=0)/\val o2+pw (i+j)*c=val ((ofNat (Int.natAbs (jV x))).take i)*val (ofNat (Int.natAbs (jV y)))+pw i*((ofNat (Int.natAbs (jV x))).getD i 0*val ((ofNat (Int.natAbs (jV y))).take j))) (fun (j,o2,c)=>(ofNat (Int.natAbs (jV y))).length-j) (0,out,0) wk ⟨qK,hdo,Nat.zero_le _,by decide,hz,by simp [val,hv]⟩ ?_
  rintro ⟨j,o2,c⟩ ⟨hlen2,hdo2,hj,hc,hz2,hv2⟩
  have hbj:=hdb.getD j
  have hoj:=hdo2.getD (i+j)
  have hpq:(ofNat (Int.natAbs (jV x))).getD i 0*(ofNat (Int.natAbs (jV y))).getD j 0<=999999999*999999999:=Nat.mul_le_mul (by omega) (by omega)
  refine jB<|jB<|kx [(33,(vb (decide (((j:Nat):Int)<(((ofNat (Int.natAbs (jV y))).length:Nat):Int)))))] [] (zM<|zE (kK uO)<|zR (qI xG)<|zE (zL kD (L:=(ofNat (Int.natAbs (jV y)))))<|zE gX<|zZ) ?_
  refine jF rfl (fun h2=>?_) (fun h2=>?_)
  ·replace h2:=vN h2
   refine jG<|jB<|jL<|jB<|kd [(9,(yO (((o2.getD (i+j) 0)+(((ofNat (Int.natAbs (jV x))).getD i 0)*((ofNat (Int.natAbs (jV y))).getD j 0)))+c)))] [] mo (wM<|wM<|wM<|wE (vY (i+j))<|wE (zJ kD (i+j))<|wR (dG qJ (i+j) (0:Nat))<|wE (nZ yA zU (o2.getD (i+j) 0))<|wE (kK uO)<|wR (qI xG)<|wM<|wE (mV kD i (0:Nat) (L:=(ofNat (Int.natAbs (jV x)))))<|wE (nK qJ)<|wE (nZ yA zU ((ofNat (Int.natAbs (jV x))).getD i 0))<|wE (kK uO)<|wR (qI xG)<|wM<|wE (mV kD j (0:Nat) (L:=(ofNat (Int.natAbs (jV y)))))<|wE (nK qJ)<|wE (nZ yA zU ((ofNat (Int.natAbs (jV y))).getD j 0))<|wE (oMl (((ofNat (Int.natAbs (jV x))).getD i 0)*((ofNat (Int.natAbs (jV y))).getD j 0)))<|wE (vY ((o2.getD (i+j) 0)+(((ofNat (Int.natAbs (jV x))).getD i 0)*((ofNat (Int.natAbs (jV y))).getD j 0))))<|wM<|wE (vY (((o2.getD (i+j) 0)+(((ofNat (Int.natAbs (jV x))).getD i 0)*((ofNat (Int.natAbs (jV y))).getD j 0)))+c))<|wM<|wZ) ?_
   refine jB<|kx [] [(3,some (bm jD (o2.set (i+j) ((((o2.getD (i+j) 0)+(((ofNat (Int.natAbs (jV x))).getD i 0)*((ofNat (Int.natAbs (jV y))).getD j 0)))+c) % 1000000000))))] (zM<|zM<|zM<|zE (vY (i+j))<|zM<|zE (oRe ((((o2.getD (i+j) 0)+(((ofNat (Int.natAbs (jV x))).getD i 0)*((ofNat (Int.natAbs (jV y))).getD j 0)))+c) % 1000000000))<|zE (nZ gF yT ((((o2.getD (i+j) 0)+(((ofNat (Int.natAbs (jV x))).getD i 0)*((ofNat (Int.natAbs (jV y))).getD j 0)))+c) % 1000000000))<|zE (zJ kD (i+j))<|zT (dH qJ (i+j) ((((o2.getD (i+j) 0)+(((ofNat (Int.natAbs (jV x))).getD i 0)*((ofNat (Int.natAbs (jV y))).getD j 0)))+c) % 1000000000))<|zZ) ?_
   refine kx [(7,(yO ((((o2.getD (i+j) 0)+(((ofNat (Int.natAbs (jV x))).getD i 0)*((ofNat (Int.natAbs (jV y))).getD j 0)))+c) / 1000000000)))] [] (zM<|zE (oQu ((((o2.getD (i+j) 0)+(((ofNat (Int.natAbs (jV x))).getD i 0)*((ofNat (Int.natAbs (jV y))).getD j 0)))+c) / 1000000000))<|zM<|zZ) ?_
   refine kx [(8,(kG (j+1)))] [] (zM<|zE (vY (j+1))<|zM<|zZ) ?_
   exact ⟨(j+1,o2.set (i+j) ((o2.getD (i+j) 0+(ofNat (Int.natAbs (jV x))).getD i 0*(ofNat (Int.natAbs (jV y))).getD j 0+c) % 1000000000),(o2.getD (i+j) 0+(ofNat (Int.natAbs (jV x))).getD i 0*(ofNat (Int.natAbs (jV y))).getD j 0+c) / 1000000000),wk,(by obtain ⟨q1,q2⟩:=times_step (by omega) hdo2 hv2 rfl (val_take_succ _ j);exact ⟨by simpa using hlen2,q1,by omega,by omega,zero_set (by omega) hz2,q2⟩),(by first|omega|(dsimp only;omega))⟩
  ·replace h2:=vX h2
   have hje:j=(ofNat (Int.natAbs (jV y))).length:=by omega
   rw[hje] at hv2
   refine kN<|kx [] [(3,some (bm jD (o2.set (i+(ofNat (Int.natAbs (jV y))).length) c)))] (zM<|zM<|zE (kK uO)<|zR (qI xG)<|zE (zL kD (L:=(ofNat (Int.natAbs (jV y)))))<|zE (vY (i+(ofNat (Int.natAbs (jV y))).length))<|zM<|zE (nZ gF yT c)<|zE (zJ kD (i+(ofNat (Int.natAbs (jV y))).length))<|zT (dH qJ (i+(ofNat (Int.natAbs (jV y))).length) c)<|zZ) ?_
   refine kx [(6,(kG (i+1)))] [] (zM<|zE (vY (i+1))<|zM<|zZ) ?_
   exact ⟨(i+1,o2.set (i+(ofNat (Int.natAbs (jV y))).length) c),wk,(by obtain ⟨q1,q2,q3,q4⟩:=times_row hdo2 (by omega) hlen2 hz2 hc hv2;exact ⟨q1,q2,by omega,q3,q4⟩),(by first|omega|(dsimp only;omega))⟩
 ·replace h1:=vX h1
  have hie:i=(ofNat (Int.natAbs (jV x))).length:=by omega
  rw[hie,List.take_length] at hv
  refine kN<|jB<|qL (yG (t:=5) (k:=3) (es:=List.map jD out) rfl rfl (vK _ _ (fun _=>rfl)) (xH _ _ qK) (xJ _ _ (fun _=>rfl) qK)) ?_
  refine kx [] [(2,some (bx (jQ (vW (!(((kH (jV x)).neg) == ((kH (jV y)).neg))) (val out)))))] (zE (kK uW)<|zR (qI eL)<|zE (kK uW)<|zR (qI eL)<|zE (oNb bo4)<|zM<|zE (kB (gS (!(((kH (jV x)).neg) == ((kH (jV y)).neg))) out hdo (by omega)))<|zT (qM jZ)<|zZ) ?_
  refine jE ⟨_,(kP (cs:=(bx (jQ (vW (!(((kH (jV x)).neg) == ((kH (jV y)).neg))) (val out))))) (d:=(jQ (vW (!(((kH (jV x)).neg) == ((kH (jV y)).neg))) (val out)))) rfl rfl jZ rfl rfl .nil),?_⟩
  rw[hv,rmul_eq];rfl
theorem r_short(a:List Nat)(d:Nat)(hda:Dig a)(hd0:0<d)(hd1:d<=1000000000)(hla:a.length<=17592186044416):jR Tryz.prog 185 [(.sl 107 1 (List.map jD a)),(.val (.int .u64 (((d:Nat):Int))))] (.tup [(.sl 107 1 (List.map jD (ofNat (val a / d)))),(.val (.int .u64 ((((val a % d):Nat):Int))))]):=by
 refine uU Tryz.func185 ?_
 refine jB<|kx [] [] (zE (fQ 107 1)<|zM<|zZ) ?_
 refine jB<|kx [(6,(.own 0 107 1 a.length))] [(0,some (bm jD (List.replicate a.length 0)))] (zM<|zE (zL kD)<|zN (oMk 0 jD (0:Nat) a.length a.length kD vH yD nC)<|zM<|zZ) ?_
 refine jB<|kx [(7,(yO 0))] [] (zM<|zZ) ?_
 refine jB<|jB<|kx [(8,(vi (((a.length:Nat):Int)-1)))] [] (zM<|zE (zL kD)<|zE (zSb (((a.length:Nat):Int)-1))<|zM<|zZ) ?_
 refine jL<|kQ (α:=Nat × List Nat × Nat) (fun (k,q,vT)=>⟨[(0,(vl 107 1 jD a)),(1,(yO d)),(6,(.own 0 107 1 a.length)),(7,(yO vT)),(8,(vi (((k:Nat):Int)-1)))],[(0,some (bm jD q))]⟩) (fun (k,q,vT)=>k<=a.length/\q.length=a.length/\Dig q/\vT<d/\val (a.drop k)=val (q.drop k)*d+vT) (fun (k,q,vT)=>k) (a.length,List.replicate a.length 0,0) wk ⟨Nat.le_refl _,by simp,xQ _,hd0,by simp [val]⟩ ?_
 rintro ⟨k,q,vT⟩ ⟨hk,qK,hdq,hr,hv⟩
 refine jB<|jB<|kx [(17,(vb (decide (0<=(((k:Nat):Int)-1)))))] [] (zM<|zE oGe<|zZ) ?_
 refine jF (b:=decide (0<=(((k:Nat):Int)-1))) rfl (fun h1=>?_) (fun h1=>?_)
 ·replace h1:=vN h1
  obtain ⟨i,rfl⟩:∃ i,k=i+1:=⟨k-1,by omega⟩
  rw[show (((i+1:Nat):Int)-1)=((i:Nat):Int) from by omega]
  have hg:=hda.getD i
  obtain ⟨hb1,hb2⟩:=short_bound hr hd1 hg
  refine jG<|jB<|jL<|jB<|kx [(8,(kG i)),(9,(yO ((vT*1000000000)+(a.getD i 0))))] [] (zM<|zE (oMl (vT*1000000000))<|zM<|zM<|zE (mV kD i (0:Nat))<|zE (nK qJ)<|zE (nZ yA zU (a.getD i 0))<|zE (vY ((vT*1000000000)+(a.getD i 0)))<|zM<|zZ) ?_
  refine jB<|kx [] [(0,some (bm jD (q.set i (((vT*1000000000)+(a.getD i 0)) / d))))] (zM<|zM<|zM<|zM<|zE (oQu (((vT*1000000000)+(a.getD i 0)) / d))<|zE (nZ gF yT (((vT*1000000000)+(a.getD i 0)) / d))<|zE (zJ kD i)<|zT (dH qJ i (((vT*1000000000)+(a.getD i 0)) / d))<|zZ) ?_
  refine kx [(7,(yO (((vT*1000000000)+(a.getD i 0)) % d)))] [] (zM<|zM<|zE (oRe (((vT*1000000000)+(a.getD i 0)) % d))<|zM<|zZ) ?_
  refine kx [(8,(vi (((i:Nat):Int)-1)))] [] (zM<|zE (zSb (((i:Nat):Int)-1))<|zM<|zZ) ?_
  exact ⟨(i,q.set i ((vT*1000000000+a.getD i 0) / d),(vT*1000000000+a.getD i 0) % d),wk,⟨by omega,by simpa using qK,hdq.set _ hb2,Nat.mod_lt _ hd0,rshort_step (by omega) hv rfl⟩,(by first|omega|(dsimp only;omega))⟩
 ·replace h1:=vX h1
  obtain rfl:k=0:=by omega
  obtain ⟨e1,e2⟩:=short_end (a:=a) (q:=q) (by rw[Nat.sub_self];exact hv) hr
  refine kN<|jB<|qL (yG (t:=6) (k:=0) (es:=List.map jD q) rfl rfl (vK _ _ (fun _=>rfl)) (xH _ _ qK) (xJ _ _ (fun _=>rfl) qK)) ?_
  refine kx [(4,(vl 107 1 jD (ofNat (val q)))),(5,(yO vT))] [] (zM<|zE (kB (gS false q (by first | assumption | exact kE _ | exact (qB _).1 | exact (qF _).1) (by omega)))<|zE (oF1 fO xG)<|zM<|zM<|zM<|zZ) ?_
  refine jE ⟨_,(.tmp (d:=(.sl 107 1 (List.map jD (ofNat (val q))))) rfl (.tmp (d:=(.val (.int .u64 (((vT:Nat):Int))))) rfl .nil)),?_⟩
  rw[<- e1,<- e2];rfl
theorem r_pair(l:List Nat)(hd:Dig l)(h2:l.length<=2):jR Tryz.prog 165 [(.sl 107 1 (List.map jD l))] (.val (.int .u64 ((((val l):Nat):Int)))):=by
 have h0:=hd.getD 0
 have h1:=hd.getD 1
 refine uU Tryz.func165 ?_
 refine jB<|kx [] [] (zM<|zZ) ?_
 refine jB<|kx [(2,(yO (((l.getD 1 0)*1000000000)+(l.getD 0 0))))] [] (zM<|zE (kB (eS l 1 (by first | assumption | exact kE _ | exact (qB _).1 | exact (qF _).1)))<|zE (oMl ((l.getD 1 0)*1000000000))<|zM<|zE (kB (eS l 0 (by first | assumption | exact kE _ | exact (qB _).1 | exact (qF _).1)))<|zE (vY (((l.getD 1 0)*1000000000)+(l.getD 0 0)))<|zM<|zZ) ?_
 refine jE ⟨_,(.tmp (d:=(.val (.int .u64 ((((((l.getD 1 0)*1000000000)+(l.getD 0 0)):Nat):Int))))) rfl .nil),?_⟩
 rw[val_pair h2];rfl
theorem r_parts(a b:List Nat)(hda:yM a)(hdb:yM b)(hb0:0<b.length)(hla:a.length<=1099511627776)(hlb:b.length<=1099511627776):jR Tryz.prog 164 [(.sl 107 1 (List.map jD a)),(.sl 107 1 (List.map jD b))] (.tup [(.sl 107 1 (List.map jD (ofNat (val a / val b)))),(.sl 107 1 (List.map jD (ofNat (val a % val b))))]):=by
 have hsc:=fW hdb hb0
 have htp:=bK hdb hb0
 have hbp:=mD hdb hb0
 refine uU Tryz.func164 ?_
 refine jB<|kx [] [] (zE (fQ 107 1)<|zE (fQ 107 1)<|zZ) ?_
 refine jB<|kx [(6,(kG b.length))] [] (zM<|zE (zL kD)<|zM<|zZ) ?_
 refine jB<|jB<|kx [(19,(vb (((b.length:Nat):Int) == 1)))] [] (zM<|zE xV<|zZ) ?_
 refine jF (b:=(((b.length:Nat):Int) == 1)) rfl (fun h1=>?_) (fun h1=>?_)
 ·replace h1:=eq_of_beq h1
  have hg0:=hdb.1.getD 0
  have hv1:=val_len1 (b:=b) (by omega)
  have hb00:0<b.getD 0 0:=by omega
  have hrl:val a % b.getD 0 0<1000000000:=Nat.lt_trans (Nat.mod_lt _ hb00) (by omega)
  refine jB<|kx [(7,(vl 107 1 jD (ofNat (val a / (b.getD 0 0))))),(8,(yO (val a % (b.getD 0 0))))] [] (zM<|zM<|zE (mV kD 0 (0:Nat))<|zE (nK qJ)<|zE (nZ yA zU (b.getD 0 0))<|zE (kB (r_short a (b.getD 0 0) hda.1 (by omega) (by omega) (by omega)))<|zM<|zE xU<|zE xU<|zM<|zM<|zZ) ?_
  refine jB<|kx [(4,(vl 107 1 jD (ofNat (val a / (b.getD 0 0))))),(5,(vl 107 1 jD (ofNat (val [(val a % (b.getD 0 0))]))))] [] (zM<|zM<|zE (nZ gF yT (val a % (b.getD 0 0)))<|zE (fH kD vH yD)<|zE (kB (gS false [(val a % (b.getD 0 0))] (zY.2 ⟨by omega,yW⟩) (by simp)))<|zE (oF1 fO xG)<|zM<|zM<|zZ) ?_
  refine jE ⟨_,(.tmp (d:=(.sl 107 1 (List.map jD (ofNat (val a / (b.getD 0 0)))))) rfl (.tmp (d:=(.sl 107 1 (List.map jD (ofNat (val [(val a % (b.getD 0 0))]))))) rfl .nil)),?_⟩
  rw[hv1,mK];rfl
 ·replace h1:=ne_of_beq_false h1
  refine jG<|jB<|jB<|kx [(38,(vb (decide ((uX ((val a:Nat):Int) ((val b:Nat):Int))<0))))] [] (zM<|zM<|zE (kB (r_size a b (by first | assumption | exact qB _ | exact qF _) (by first | assumption | exact qB _ | exact qF _) (by omega) (by omega)))<|zE gX<|zZ) ?_
  refine jF rfl (fun h2=>?_) (fun h2=>?_)
  ·replace h2:=vN h2
   refine jB<|kx [(4,(vl 107 1 jD [])),(5,(vl 107 1 jD a))] [] (zE (fH kD vH yD)<|zM<|zM<|zM<|zZ) ?_
   refine jE ⟨_,(.tmp (d:=(.sl 107 1 (List.map jD []))) rfl (.tmp (d:=(.sl 107 1 (List.map jD a))) rfl .nil)),?_⟩
   have hlt:=cmpI_neg h2
   rw[Nat.div_eq_of_lt hlt,Nat.mod_eq_of_lt hlt,qV,<- can_eq hda];rfl
  ·replace h2:=vX h2
   obtain ⟨u,hue⟩:∃ u,u=ofNat (val a*mX b):=⟨_,rfl⟩
   obtain ⟨v,hve⟩:∃ v,v=ofNat (val b*mX b):=⟨_,rfl⟩
   have hu:Dig u:=by rw[hue];exact kE _
   have hcv:yM v:=by rw[hve];exact qB _
   have hvd:=hcv.1
   have hvl:v.length=b.length:=by rw[hve];exact scl_len hdb hb0
   have hvv:val v=val b*mX b:=by rw[hve];exact kA _
   have huv:val u=val a*mX b:=by rw[hue];exact kA _
   have hab:=len_of_le hda hdb (cmpI_nn h2)
   have hul:a.length<=u.length/\u.length<=a.length+1:=by rw[hue];exact scl_lenA hda hdb hb0
   have hvp:=mD hcv (by omega)
   have hpv:pw (b.length-1)<=val v:=by have h1:=val_top hvd (by omega);have h3:=bK hcv (by omega);rw[hvl] at h1 h3;have h2:=Nat.mul_le_mul_right (pw (b.length-1)) h3.1;omega
   refine jG<|jB<|kx [(9,(yO (mX b)))] [] (zM<|zM<|zE (oSb (b.length-1))<|zE (mV kD (b.length-1) (0:Nat))<|zE (nK qJ)<|zE (nZ yA zU (b.getD (b.length-1) 0))<|zE (vY ((b.getD (b.length-1) 0)+1))<|zE (oQu (mX b) (hr:=by exact (quo_u64 1000000000 (b.getD (b.length-1) 0+1))))<|zM<|zZ) ?_
   refine jB<|kx [(0,(vl 107 1 jD u)),(1,(vl 107 1 jD v))] [] (zM<|zM<|zE (kB (hue▸r_scaled a (mX b) hda.1 (by omega) (by omega)))<|zM<|zM<|zE (kB (hve▸r_scaled b (mX b) hdb.1 (by omega) (by omega)))<|zM<|zM<|zZ) ?_
   refine jB<|kx [(10,(vl 107 1 jD (ofNat (val (List.drop ((u.length-b.length)+1) u)))))] [] (zM<|zM<|zE (zL kD)<|zM<|zE (oSb (u.length-b.length))<|zE (vY ((u.length-b.length)+1))<|zE (e_slc (l:=((u.length-b.length)+1)) (h:=(List.map jD u).length) (kl:=.i64) (kh:=.i64) (es':=List.map jD (List.drop ((u.length-b.length)+1) u)) (by exact rfl) kD (by exact rfl) (by exact rfl) (by exact rfl) (by simp only[List.length_map];omega) (Nat.le_refl _) (by rw[List.take_length,List.map_drop]))<|zE (kB (gS false (List.drop ((u.length-b.length)+1) u) (hu.drop _) (by rw[List.length_drop];omega)))<|zE (oF1 fO xG)<|zM<|zZ) ?_
   refine jB<|kx [(11,(.own 0 107 1 ((u.length-b.length)+1)))] [(0,some (bm jD (List.replicate ((u.length-b.length)+1) 0)))] (zM<|zE (zL kD)<|zM<|zE (oSb (u.length-b.length))<|zE (vY ((u.length-b.length)+1))<|zN (oMk 0 jD (0:Nat) ((u.length-b.length)+1) ((u.length-b.length)+1) kD vH yD nC)<|zM<|zZ) ?_
   refine jB<|jB<|kx [(12,(vi ((((u.length-b.length)+1:Nat):Int)-1)))] [] (zM<|zE (zL kD)<|zM<|zE (zSb ((((u.length-b.length)+1:Nat):Int)-1))<|zM<|zZ) ?_
   refine jL<|kQ (α:=Nat × List Nat × List Nat) (fun (k,r,q)=>⟨[(0,(vl 107 1 jD u)),(1,(vl 107 1 jD v)),(6,(kG b.length)),(9,(yO (mX b))),(10,(vl 107 1 jD r)),(11,(.own 0 107 1 ((u.length-b.length)+1))),(12,(vi (((k:Nat):Int)-1)))],[(0,some (bm jD q))]⟩) (fun (k,r,q)=>yM r/\k<=((u.length-b.length)+1)/\q.length=((u.length-b.length)+1)/\Dig q/\val r<val v/\val (u.drop k)=val v*val (q.drop k)+val r) (fun (k,r,q)=>k) (((u.length-b.length)+1),ofNat (val (List.drop ((u.length-b.length)+1) u)),List.replicate ((u.length-b.length)+1) 0) wk ⟨qB _,Nat.le_refl _,by simp,xQ _,by rw[kA];have h7:=vI (hu.drop ((u.length-b.length)+1));rw[List.length_drop,show u.length-((u.length-b.length)+1)=b.length-1 by omega] at h7;omega,by rw[kA];simp [val]⟩ ?_
   rintro ⟨k,r,q⟩ ⟨hrc,hk,hql,hqd,hr,hv⟩
   refine jB<|jB<|kx [(75,(vb (decide (0<=(((k:Nat):Int)-1)))))] [] (zM<|zE oGe<|zZ) ?_
   refine jF (b:=decide (0<=(((k:Nat):Int)-1))) rfl (fun h3=>?_) (fun h3=>?_)
   ·replace h3:=vN h3
    obtain ⟨i,rfl⟩:∃ i,k=i+1:=⟨k-1,by omega⟩
    rw[show (((i+1:Nat):Int)-1)=((i:Nat):Int) from by omega]
    have hgu:=hu.getD i
    have hW:(u.getD i 0+1000000000*val r)<1000000000*val v:=by omega
    have hrs:=rshift_val u hv
    obtain ⟨hg1,hg2⟩:=rguess hvd hvl hb0 hW
    have hgv:=hvd.getD (b.length-1)
    have hgw1:=(kE (u.getD i 0+1000000000*val r)).getD b.length
    have hgw2:=(kE (u.getD i 0+1000000000*val r)).getD (b.length-1)
    have hrl:r.length<=b.length:=by have h9:=xA (Nat.le_of_lt hr);rwa [<- can_eq hrc,<- can_eq hcv,hvl] at h9
    have hwl:(ofNat (u.getD i 0+1000000000*val r)).length<=b.length+1:=qX (by rw[uR];have:=vI hvd;rw[hvl] at this;omega)
    refine jG<|jB<|jL<|jB<|kx [(10,(vl 107 1 jD (ofNat ((u.getD i 0)+1000000000*val r)))),(12,(kG i))] [] (zM<|zM<|zM<|zE (mV kD i (0:Nat))<|zE (nK qJ)<|zE (kB (r_shifted r (u.getD i 0) hrc.1 (by omega) (by omega)))<|zM<|zZ) ?_
    refine jB<|kd [(13,(yO (((((ofNat ((u.getD i 0)+1000000000*val r)).getD b.length 0)*1000000000)+((ofNat ((u.getD i 0)+1000000000*val r)).getD (b.length-1) 0)) / ((v.getD (b.length-1) 0)+1))))] [] mo (wM<|wM<|wE (kB (eS (ofNat ((u.getD i 0)+1000000000*val r)) b.length (kE _)))<|wE (oMl (((ofNat ((u.getD i 0)+1000000000*val r)).getD b.length 0)*1000000000))<|wM<|wM<|wE (oSb (b.length-1))<|wE (kB (eS (ofNat ((u.getD i 0)+1000000000*val r)) (b.length-1) (by first | assumption | exact kE _ | exact (qB _).1 | exact (qF _).1)))<|wE (vY ((((ofNat ((u.getD i 0)+1000000000*val r)).getD b.length 0)*1000000000)+((ofNat ((u.getD i 0)+1000000000*val r)).getD (b.length-1) 0)))<|wM<|wM<|wE (oSb (b.length-1))<|wE (mV kD (b.length-1) (0:Nat))<|wE (nK qJ)<|wE (nZ yA zU (v.getD (b.length-1) 0))<|wE (vY ((v.getD (b.length-1) 0)+1))<|wE (oQu (((((ofNat ((u.getD i 0)+1000000000*val r)).getD b.length 0)*1000000000)+((ofNat ((u.getD i 0)+1000000000*val r)).getD (b.length-1) 0)) / ((v.getD (b.length-1) 0)+1)))<|wM<|wZ) ?_
    refine jB<|kx [(10,(vl 107 1 jD (ofNat (val (ofNat ((u.getD i 0)+1000000000*val r))-val (ofNat (val v*(((((ofNat ((u.getD i 0)+1000000000*val r)).getD b.length 0)*1000000000)+((ofNat ((u.getD i 0)+1000000000*val r)).getD (b.length-1) 0)) / ((v.getD (b.length-1) 0)+1))))))))] [] (zM<|zM<|zM<|zE (kB (r_scaled v (((((ofNat ((u.getD i 0)+1000000000*val r)).getD b.length 0)*1000000000)+((ofNat ((u.getD i 0)+1000000000*val r)).getD (b.length-1) 0)) / ((v.getD (b.length-1) 0)+1)) hvd (by omega) (by omega)))<|zE (kB (r_minus (ofNat ((u.getD i 0)+1000000000*val r)) (ofNat (val v*(((((ofNat ((u.getD i 0)+1000000000*val r)).getD b.length 0)*1000000000)+((ofNat ((u.getD i 0)+1000000000*val r)).getD (b.length-1) 0)) / ((v.getD (b.length-1) 0)+1)))) (kE _) (kE _) (by rw[kA,kA,Nat.mul_comm];exact hg1) (by omega)))<|zM<|zZ) ?_
    refine jB<|jL<|kQ (α:=Nat × List Nat) (fun (G,r2)=>⟨[(0,(vl 107 1 jD u)),(1,(vl 107 1 jD v)),(6,(kG b.length)),(9,(yO (mX b))),(10,(vl 107 1 jD r2)),(11,(.own 0 107 1 ((u.length-b.length)+1))),(12,(kG i)),(13,(yO G))],[(0,some (bm jD q))]⟩) (fun (G,r2)=>yM r2/\val v*G+val r2=(u.getD i 0+1000000000*val r)) (fun (G,r2)=>val r2) ((((ofNat (u.getD i 0+1000000000*val r)).getD b.length 0*1000000000+(ofNat (u.getD i 0+1000000000*val r)).getD (b.length-1) 0) / (v.getD (b.length-1) 0+1)),ofNat (val (ofNat (u.getD i 0+1000000000*val r))-val (ofNat (val v*(((ofNat (u.getD i 0+1000000000*val r)).getD b.length 0*1000000000+(ofNat (u.getD i 0+1000000000*val r)).getD (b.length-1) 0) / (v.getD (b.length-1) 0+1)))))) wk ⟨qB _,by rw[kA,kA,kA];rw[Nat.mul_comm] at hg1;omega⟩ ?_
    rintro ⟨G,r2⟩ ⟨hr2,hr2v⟩
    have hr2l:r2.length<=b.length+1:=by have h9:=xA (show val r2<=(u.getD i 0+1000000000*val r) by omega);rw[<- can_eq hr2] at h9;omega
    refine jB<|jB<|kx [(109,(vb (decide (0<=(uX ((val r2:Nat):Int) ((val v:Nat):Int))))))] [] (zM<|zM<|zE (kB (r_size r2 v hr2 hcv (by omega) (by omega)))<|zE oGe<|zZ) ?_
    refine jF rfl (fun h4=>?_) (fun h4=>?_)
    ·replace h4:=vN h4
     have hge:=aT h4
     have hG:=rquo_lt hr2v hW
     have hr2l:r2.length<=b.length+1:=by have h9:=xA (show val r2<=(u.getD i 0+1000000000*val r) by omega);rw[<- can_eq hr2] at h9;omega
     refine jG<|jL<|jB<|kx [(10,(vl 107 1 jD (ofNat (val r2-val v))))] [] (zM<|zM<|zE (kB (r_minus r2 v hr2.1 hvd (by omega) (by omega)))<|zM<|zZ) ?_
     refine kx [(13,(yO (G+1)))] [] (zM<|zE (vY (G+1))<|zM<|zZ) ?_
     exact ⟨(G+1,ofNat (val r2-val v)),wk,(by have hge:=aT h4;exact ⟨qB _,by rw[kA,Nat.mul_add,Nat.mul_one];omega⟩),(by have hge:=aT h4;dsimp only;rw[kA];omega)⟩
    ·replace h4:=vX h4
     have hG:=rquo_lt hr2v hW
     have hlt:val r2<val v:=by have h9:=cmpI_lt h4;omega
     refine kN<|kx [] [(0,some (bm jD (q.set i G)))] (zM<|zM<|zM<|zE (nZ gF yT G)<|zE (zJ kD i)<|zT (dH qJ i G)<|zZ) ?_
     refine kx [(12,(vi (((i:Nat):Int)-1)))] [] (zM<|zE (zSb (((i:Nat):Int)-1))<|zM<|zZ) ?_
     exact ⟨(i,r2,q.set i G),wk,⟨hr2,by omega,by simpa using hql,hqd.set _ hG,hlt,rround (by omega) (by rw[hr2v];exact hrs)⟩,(by first|omega|(dsimp only;omega))⟩
   ·replace h3:=vX h3
    obtain rfl:k=0:=by omega
    obtain ⟨e1,e2⟩:=scl_div (a:=a) (b:=b) (q:=q) (u:=r) hdb hb0 (by rw[List.drop_zero,List.drop_zero] at hv;rw[nX,Nat.one_mul,List.drop_zero,<- huv,<- hvv,hv];omega) (by rw[List.drop_zero,<- hvv];exact hr)
    have hrl:r.length<=b.length:=by have h9:=xA (Nat.le_of_lt hr);rwa [<- can_eq hrc,<- can_eq hcv,hvl] at h9
    refine kN<|jB<|kx [(14,(vl 107 1 jD (ofNat (val r / (mX b)))))] [] (zM<|zM<|zE (kB (r_short r (mX b) hrc.1 (by omega) (by omega) (by omega)))<|zM<|zE xU<|zE xU<|zM<|zM<|zZ) ?_
    refine jB<|qL (yG (t:=11) (k:=0) (es:=List.map jD q) rfl rfl (vK _ _ (fun _=>rfl)) (xH _ _ hql) (xJ _ _ (fun _=>rfl) hql)) ?_
    refine kx [(4,(vl 107 1 jD (ofNat (val q)))),(5,(vl 107 1 jD (ofNat (val r / (mX b)))))] [] (zM<|zE (kB (gS false q hqd (by omega)))<|zE (oF1 fO xG)<|zM<|zM<|zM<|zZ) ?_
    refine jE ⟨_,(.tmp (d:=(.sl 107 1 (List.map jD (ofNat (val q))))) rfl (.tmp (d:=(.sl 107 1 (List.map jD (ofNat (val r / (mX b)))))) rfl .nil)),?_⟩
    rw[<- e1,<- e2];rfl
theorem r_gcd(x:kS)(y:kS)(hx:x.gs.length<=1099511627776)(hy:y.gs.length<=1099511627776):jR Tryz.prog 97 [(jQ x),(jQ y)] (jQ (kH ((Int.gcd (jV x) (jV y):Nat):Int))):=by
 have hvx:=cO x
 have hvy:=cO y
 refine uU Tryz.func97 ?_
 refine jB<|kx [(2,(.ref 0 0)),(3,(.ref 1 0)),(4,(.ref 2 0))] [(0,some (bx (jQ x))),(1,some (bx (jQ y))),(2,some (bx (jQ (kS.mk false []))))] (zN (vZ 0)<|zN (vZ 1)<|zN (vC 2 gN gM)<|zZ) ?_
 refine jB<|kd [(5,(vl 107 1 jD (ofNat (Int.natAbs (jV x))))),(6,(vl 107 1 jD (ofNat (Int.natAbs (jV y)))))] [] mo (wR (kR jZ)<|wE (kB (cP x (by omega)))<|wE (oF1 fO xG)<|wR (kR jZ)<|wE (kB (cP y (by omega)))<|wE (oF1 fO xG)<|wM<|wM<|wZ) ?_
 refine jB<|jL<|kQ (α:=List Nat × List Nat) (fun (a,b)=>⟨[(4,(.ref 2 0)),(5,(vl 107 1 jD a)),(6,(vl 107 1 jD b))],[(2,some (bx (jQ (kS.mk false []))))]⟩) (fun (a,b)=>yM a/\yM b/\a.length<=1099511627776/\b.length<=1099511627776/\Nat.gcd (val a) (val b)=Int.gcd (jV x) (jV y)) (fun (a,b)=>val b) ((ofNat (Int.natAbs (jV x))),(ofNat (Int.natAbs (jV y)))) wk ⟨qB _,qB _,by omega,by omega,by rw[kA,kA];rfl⟩ ?_
 rintro ⟨a,b⟩ ⟨ha,hb,hla,hlb,hg⟩
 refine jB<|jB<|kx [(29,(vb (decide (0<((b.length:Nat):Int))&&(decide (2<((a.length:Nat):Int))||decide (2<((b.length:Nat):Int))))))] [] ?_ ?_
 ·refine zM<|zE (zL kD)<|zE dI<|zE (oV (vb (decide (0<((b.length:Nat):Int)))) (qA (by kernel_rfl)))<|?_
  rcases hb1:(decide (0<((b.length:Nat):Int))) with _ | _
  ·replace hb1:=vX hb1
   exact zK<|zK<|zK<|zK<|zK<|zK<|zK<|zK<|zE yS<|zZ
  ·replace hb1:=vN hb1
   refine zM<|zE (zL kD)<|zE dI<|zE (oV (vb (decide (2<((a.length:Nat):Int)))) (qA (by kernel_rfl)))<|?_
   rcases hb2:(decide (2<((a.length:Nat):Int))) with _ | _
   ·replace hb2:=vX hb2
    exact zM<|zE (zL kD)<|zE dI<|zE eM<|zE eK<|zZ
   ·replace hb2:=vN hb2
    exact zK<|zK<|zK<|zE gU<|zE gU<|zZ
 refine jF rfl (fun h3=>?_) (fun h3=>?_)
 ·have hbl:0<b.length:=by rw[Bool.and_eq_true,decide_eq_true_eq] at h3;omega
  have hb0:=mD hb hbl
  refine jG<|jL<|jB<|kx [(8,(vl 107 1 jD (ofNat (val a % val b))))] [] (zM<|zM<|zE (kB (r_parts a b ha hb (by omega) (by omega) (by omega)))<|zM<|zE xU<|zE xU<|zM<|zM<|zZ) ?_
  refine kx [(5,(vl 107 1 jD b)),(6,(vl 107 1 jD (ofNat (val a % val b))))] [] (zM<|zM<|zM<|zM<|zZ) ?_
  exact ⟨(b,ofNat (val a % val b)),wk,⟨hb,qB _,hlb,Nat.le_trans (len_rem a ha _) hla,by rw[kA,<- hg,Nat.gcd_comm,<- Nat.gcd_rec,Nat.gcd_comm]⟩,(by dsimp only;rw[kA];exact Nat.mod_lt _ hb0)⟩
 ·have hex:=h3
  refine kN<|jB<|jB<|kx [(40,(vb (((b.length:Nat):Int) == 0)))] [] (zM<|zE (zL kD)<|zE xV<|zZ) ?_
  refine jF (b:=(((b.length:Nat):Int) == 0)) rfl (fun h4=>?_) (fun h4=>?_)
  ·replace h4:=eq_of_beq h4
   have hb1:b=[]:=List.eq_nil_of_length_eq_zero (by omega)
   rw[hb1,val_nil,Nat.gcd_zero_right] at hg
   refine jB<|kx [] [(2,some (bx (jQ (vW false (val a)))))] (zM<|zE (kB (gS false a ha.1 (by omega)))<|zT (qM jZ)<|zZ) ?_
   refine jE ⟨_,(kP (cs:=(bx (jQ (vW false (val a))))) (d:=(jQ (vW false (val a)))) rfl rfl jZ rfl rfl .nil),?_⟩
   rw[<- hg,mkI_false];rfl
  ·replace h4:=ne_of_beq_false h4
   have hl2:a.length<=2/\b.length<=2:=by simp only[Bool.and_eq_false_iff,Bool.or_eq_false_iff,decide_eq_false_iff_not] at hex;omega
   refine jG<|jB<|kx [(9,(yO (val a))),(10,(yO (val b)))] [] (zM<|zE (kB (r_pair a ha.1 (by omega)))<|zM<|zE (kB (r_pair b hb.1 (by omega)))<|zM<|zM<|zZ) ?_
   refine jB<|jL<|kQ (α:=Nat × Nat) (fun (m,n)=>⟨[(4,(.ref 2 0)),(9,(yO m)),(10,(yO n))],[(2,some (bx (jQ (kS.mk false []))))]⟩) (fun (m,n)=>m<1000000000000000000/\n<1000000000000000000/\Nat.gcd m n=Int.gcd (jV x) (jV y)) (fun (m,n)=>n) (val a,val b) wk ⟨val_len2 ha.1 hl2.1,val_len2 hb.1 hl2.2,hg⟩ ?_
   rintro ⟨m,n⟩ ⟨hm,hn,hg2⟩
   refine jB<|jB<|kx [(48,(vb (decide (0<((n:Nat):Int)))))] [] (zM<|zE dI<|zZ) ?_
   refine jF (b:=decide (0<((n:Nat):Int))) rfl (fun h5=>?_) (fun h5=>?_)
   ·replace h5:=vN h5
    refine jG<|jL<|kd [(9,(yO n)),(10,(yO (m % n)))] [] mo (wM<|wM<|wM<|wE (oRe (m % n))<|wM<|wM<|wZ) ?_
    exact ⟨(n,m % n),wk,⟨hn,Nat.lt_of_le_of_lt (Nat.mod_le _ _) hm,by rw[<- hg2,Nat.gcd_comm,<- Nat.gcd_rec,Nat.gcd_comm]⟩,(by dsimp only;exact Nat.mod_lt _ (by omega))⟩
   ·replace h5:=vX h5
    obtain rfl:n=0:=by omega
    rw[Nat.gcd_zero_right] at hg2
    have hmv:val [m % 1000000000,m / 1000000000]=m:=by simp only[val];omega
    refine kN<|jB<|kx [] [(2,some (bx (jQ (vW false (val [(m % 1000000000),(m / 1000000000)])))))] (zM<|zE (oRe (m % 1000000000))<|zE (nZ gF yT (m % 1000000000))<|zM<|zE (oQu (m / 1000000000))<|zE (nZ gF yT (m / 1000000000))<|zE (fH kD vH yD)<|zE (kB (gS false [(m % 1000000000),(m / 1000000000)] (zY.2 ⟨Nat.mod_lt _ (by decide),zY.2 ⟨by omega,yW⟩⟩) (by simp)))<|zT (qM jZ)<|zZ) ?_
    refine jE ⟨_,(kP (cs:=(bx (jQ (vW false (val [(m % 1000000000),(m / 1000000000)]))))) (d:=(jQ (vW false (val [(m % 1000000000),(m / 1000000000)])))) rfl rfl jZ rfl rfl .nil),?_⟩
    rw[<- hg2,hmv,mkI_false];rfl
theorem r_compare(x:kS)(y:kS)(hx:x.gs.length<=274877906944)(hy:y.gs.length<=274877906944):jR Tryz.prog 96 [(jQ x),(jQ y)] (.val (.int .i64 ((uX (jV x) (jV y))))):=by
 have hv:=gs_sub x y
 refine uU Tryz.func96 ?_
 refine jB<|kx [(2,(.ref 0 0)),(3,(.ref 1 0))] [(0,some (bx (jQ x))),(1,some (bx (jQ y)))] (zN (vZ 0)<|zN (vZ 1)<|zM<|zZ) ?_
 refine jB<|kx [(4,(vi (qQ (jV (kH (jV x-jV y))))))] [] (zR (kR jZ)<|zR (kR jZ)<|zE (kB (r_sub x y (by omega) (by omega)))<|zE (kB (r_sign (kH (jV x-jV y)) (by omega)))<|zM<|zZ) ?_
 refine jE ⟨_,(.tmp (d:=(.val (.int .i64 ((qQ (jV (kH (jV x-jV y)))))))) rfl .nil),?_⟩
 rw[mO,signI_sub];rfl
theorem r_divide(x:kS)(y:kS)(hx:x.gs.length<=274877906944)(hy:y.gs.length<=274877906944)(hy0:jV y≠0):jR Tryz.prog 113 [(jQ x),(jQ y)] (.tup [(jQ (kH ((jV x).fdiv (jV y)))),(jQ (kH ((jV x).fmod (jV y)))),(.val (.int .i64 (0)))]):=by
 have hvx:=cO x
 have hvy:=cO y
 have hmx:=gs_val x
 have hmy:=gs_val y
 have hy1:0<(jV y).natAbs:=by omega
 have hyl:=cM hy1
 have hql:(ofNat (val (ofNat (Int.natAbs (jV x))) / val (ofNat (Int.natAbs (jV y))))).length<=274877906944:=by have:=len_quo (ofNat (Int.natAbs (jV x))) (qB _) (val (ofNat (Int.natAbs (jV y))));omega
 have hqg:(vW (!((kH (jV x)).neg == (kH (jV y)).neg)) (val (ofNat (val (ofNat (Int.natAbs (jV x))) / val (ofNat (Int.natAbs (jV y))))))).gs.length<=274877906944:=by show (ofNat (val (ofNat (val (ofNat (Int.natAbs (jV x))) / val (ofNat (Int.natAbs (jV y))))))).length<=_;rw[kA];exact hql
 have cK:(kH 1).gs.length<=1:=(iok_small (z:=1)).l
 have hqs:=gs_sub (vW (!((kH (jV x)).neg == (kH (jV y)).neg)) (val (ofNat (val (ofNat (Int.natAbs (jV x))) / val (ofNat (Int.natAbs (jV y))))))) (kH 1)
 refine uU Tryz.func113 ?_
 refine jB<|kx [(2,(.ref 0 0)),(3,(.ref 1 0)),(4,(.ref 2 0)),(5,(.ref 3 0))] [(0,some (bx (jQ x))),(1,some (bx (jQ y))),(2,some (bx (jQ (kS.mk false [])))),(3,some (bx (jQ (kS.mk false []))))] (zN (vZ 0)<|zN (vZ 1)<|zN (vC 2 gN gM)<|zN (vC 3 gN gM)<|zM<|zZ) ?_
 refine jB<|kd [] [(0,some (bx (jQ (kH (jV x))))),(1,some (bx (jQ (kH (jV y)))))] mo (wR (kR jZ)<|wE (kB (cP x (by omega)))<|wR (kR jZ)<|wE (kB (cP y (by omega)))<|wT (qM jZ)<|wT (qM jZ)<|wZ) ?_
 refine jB<|jB<|kx [(17,(vb ((((ofNat (Int.natAbs (jV y))).length:Nat):Int) == 0)))] [] (zE (kK uO)<|zR (qI xG)<|zE (zL kD (L:=(ofNat (Int.natAbs (jV y)))))<|zE xV<|zZ) ?_
 refine jF rfl (fun h1=>?_) (fun h1=>?_)
 ·replace h1:=eq_of_beq h1
  exact absurd h1 (by omega)
 ·replace h1:=ne_of_beq_false h1
  refine jG<|jB<|kx [(7,(vl 107 1 jD (ofNat (val (ofNat (Int.natAbs (jV x))) / val (ofNat (Int.natAbs (jV y))))))),(8,(vl 107 1 jD (ofNat (val (ofNat (Int.natAbs (jV x))) % val (ofNat (Int.natAbs (jV y)))))))] [] (zE (kK uO)<|zR (qI xG)<|zE (kK uO)<|zR (qI xG)<|zE (kB (r_parts (ofNat (Int.natAbs (jV x))) (ofNat (Int.natAbs (jV y))) (by first | assumption | exact qB _ | exact qF _) (by first | assumption | exact qB _ | exact qF _) (by omega) (by omega) (by omega)))<|zM<|zE xU<|zE xU<|zM<|zM<|zZ) ?_
  refine jB<|kx [(9,(.ref 4 0))] [(4,some (bx (jQ (vW (!(((kH (jV x)).neg) == ((kH (jV y)).neg))) (val (ofNat (val (ofNat (Int.natAbs (jV x))) / val (ofNat (Int.natAbs (jV y))))))))))] (zE (kK uW)<|zR (qI eL)<|zE (kK uW)<|zR (qI eL)<|zE (oNb bo4)<|zM<|zE (kB (gS (!(((kH (jV x)).neg) == ((kH (jV y)).neg))) (ofNat (val (ofNat (Int.natAbs (jV x))) / val (ofNat (Int.natAbs (jV y))))) (kE _) (by omega)))<|zN (vC 4 gN gM)<|zT (qM jZ)<|zZ) ?_
  refine jB<|jB<|kx [(44,(vb (!(((kH (jV x)).neg) == ((kH (jV y)).neg))&&decide (0<(((ofNat (val (ofNat (Int.natAbs (jV x))) % val (ofNat (Int.natAbs (jV y))))).length:Nat):Int)))))] [] ?_ ?_
  ·refine zE (kK uW)<|zR (qI eL)<|zE (kK uW)<|zR (qI eL)<|zE (oNb bo4)<|zE (oV (vb (!(((kH (jV x)).neg) == ((kH (jV y)).neg)))) (qA (by kernel_rfl)))<|?_
   rcases hb2:(!(((kH (jV x)).neg) == ((kH (jV y)).neg))) with _ | _
   ·exact zK<|zK<|zK<|zE yS<|zZ
   ·exact zM<|zE (zL kD (L:=(ofNat (val (ofNat (Int.natAbs (jV x))) % val (ofNat (Int.natAbs (jV y)))))))<|zE dI<|zE eK<|zZ
  refine jF rfl (fun h3=>?_) (fun h3=>?_)
  ·have hqm:=gs_mul (kH (jV (vW (!((kH (jV x)).neg == (kH (jV y)).neg)) (val (ofNat (val (ofNat (Int.natAbs (jV x))) / val (ofNat (Int.natAbs (jV y)))))))-jV (kH 1))) (kH (jV y))
   have hk:=r_div_other (X:=jV x) (Y:=jV y) hy1 (by rw[Bool.and_eq_true,Bool.not_eq_true',beq_eq_false_iff_ne,decide_eq_true_eq] at h3;exact h3)
   refine kd [] [(4,some (bx (jQ (kH (jV (vW (!(((kH (jV x)).neg) == ((kH (jV y)).neg))) (val (ofNat (val (ofNat (Int.natAbs (jV x))) / val (ofNat (Int.natAbs (jV y)))))))-jV (kH 1))))))] mo (wR (kR jZ)<|wE (kB (r_of 1 (by omega) (by omega)))<|wE (kB (r_sub (vW (!(((kH (jV x)).neg) == ((kH (jV y)).neg))) (val (ofNat (val (ofNat (Int.natAbs (jV x))) / val (ofNat (Int.natAbs (jV y))))))) (kH 1) (by omega) (by omega)))<|wT (qM jZ)<|wZ) ?_
   refine jB<|kd [(6,(kG 0))] [(2,some (bx (jQ (kH (jV (vW (!(((kH (jV x)).neg) == ((kH (jV y)).neg))) (val (ofNat (val (ofNat (Int.natAbs (jV x))) / val (ofNat (Int.natAbs (jV y)))))))-jV (kH 1)))))),(3,some (bx (jQ (kH (jV (kH (jV x))-jV (kH (jV (kH (jV (vW (!(((kH (jV x)).neg) == ((kH (jV y)).neg))) (val (ofNat (val (ofNat (Int.natAbs (jV x))) / val (ofNat (Int.natAbs (jV y)))))))-jV (kH 1)))*jV (kH (jV y)))))))))] mo (wR (kR jZ)<|wR (kR jZ)<|wR (kR jZ)<|wR (kR jZ)<|wE (kB (r_mul (kH (jV (vW (!(((kH (jV x)).neg) == ((kH (jV y)).neg))) (val (ofNat (val (ofNat (Int.natAbs (jV x))) / val (ofNat (Int.natAbs (jV y)))))))-jV (kH 1))) (kH (jV y)) (by omega) (by omega)))<|wE (kB (r_sub (kH (jV x)) (kH (jV (kH (jV (vW (!(((kH (jV x)).neg) == ((kH (jV y)).neg))) (val (ofNat (val (ofNat (Int.natAbs (jV x))) / val (ofNat (Int.natAbs (jV y)))))))-jV (kH 1)))*jV (kH (jV y)))) (by omega) (by omega)))<|wT (qM jZ)<|wT (qM jZ)<|wM<|wZ) ?_
   refine jE ⟨_,(kP (cs:=(bx (jQ (kH (jV (vW (!(((kH (jV x)).neg) == ((kH (jV y)).neg))) (val (ofNat (val (ofNat (Int.natAbs (jV x))) / val (ofNat (Int.natAbs (jV y)))))))-jV (kH 1)))))) (d:=(jQ (kH (jV (vW (!(((kH (jV x)).neg) == ((kH (jV y)).neg))) (val (ofNat (val (ofNat (Int.natAbs (jV x))) / val (ofNat (Int.natAbs (jV y)))))))-jV (kH 1))))) rfl rfl jZ rfl rfl (kP (cs:=(bx (jQ (kH (jV (kH (jV x))-jV (kH (jV (kH (jV (vW (!(((kH (jV x)).neg) == ((kH (jV y)).neg))) (val (ofNat (val (ofNat (Int.natAbs (jV x))) / val (ofNat (Int.natAbs (jV y)))))))-jV (kH 1)))*jV (kH (jV y))))))))) (d:=(jQ (kH (jV (kH (jV x))-jV (kH (jV (kH (jV (vW (!(((kH (jV x)).neg) == ((kH (jV y)).neg))) (val (ofNat (val (ofNat (Int.natAbs (jV x))) / val (ofNat (Int.natAbs (jV y)))))))-jV (kH 1)))*jV (kH (jV y)))))))) rfl rfl jZ rfl rfl (.tmp (d:=(.val (.int .i64 (0)))) rfl .nil))),?_⟩
   rw[hk,r_rem_eq];rfl
  ·have hqm:=gs_mul (vW (!((kH (jV x)).neg == (kH (jV y)).neg)) (val (ofNat (val (ofNat (Int.natAbs (jV x))) / val (ofNat (Int.natAbs (jV y))))))) (kH (jV y))
   have hk:=r_div_same (X:=jV x) (Y:=jV y) hy1 (by rw[Bool.and_eq_false_iff,Bool.not_eq_false',beq_iff_eq,decide_eq_false_iff_not] at h3;exact h3)
   refine jG<|jB<|kd [(6,(kG 0))] [(2,some (bx (jQ (vW (!(((kH (jV x)).neg) == ((kH (jV y)).neg))) (val (ofNat (val (ofNat (Int.natAbs (jV x))) / val (ofNat (Int.natAbs (jV y)))))))))),(3,some (bx (jQ (kH (jV (kH (jV x))-jV (kH (jV (vW (!(((kH (jV x)).neg) == ((kH (jV y)).neg))) (val (ofNat (val (ofNat (Int.natAbs (jV x))) / val (ofNat (Int.natAbs (jV y)))))))*jV (kH (jV y)))))))))] mo (wR (kR jZ)<|wR (kR jZ)<|wR (kR jZ)<|wR (kR jZ)<|wE (kB (r_mul (vW (!(((kH (jV x)).neg) == ((kH (jV y)).neg))) (val (ofNat (val (ofNat (Int.natAbs (jV x))) / val (ofNat (Int.natAbs (jV y))))))) (kH (jV y)) (by omega) (by omega)))<|wE (kB (r_sub (kH (jV x)) (kH (jV (vW (!(((kH (jV x)).neg) == ((kH (jV y)).neg))) (val (ofNat (val (ofNat (Int.natAbs (jV x))) / val (ofNat (Int.natAbs (jV y)))))))*jV (kH (jV y)))) (by omega) (by omega)))<|wT (qM jZ)<|wT (qM jZ)<|wM<|wZ) ?_
   refine jE ⟨_,(kP (cs:=(bx (jQ (vW (!(((kH (jV x)).neg) == ((kH (jV y)).neg))) (val (ofNat (val (ofNat (Int.natAbs (jV x))) / val (ofNat (Int.natAbs (jV y)))))))))) (d:=(jQ (vW (!(((kH (jV x)).neg) == ((kH (jV y)).neg))) (val (ofNat (val (ofNat (Int.natAbs (jV x))) / val (ofNat (Int.natAbs (jV y))))))))) rfl rfl jZ rfl rfl (kP (cs:=(bx (jQ (kH (jV (kH (jV x))-jV (kH (jV (vW (!(((kH (jV x)).neg) == ((kH (jV y)).neg))) (val (ofNat (val (ofNat (Int.natAbs (jV x))) / val (ofNat (Int.natAbs (jV y)))))))*jV (kH (jV y))))))))) (d:=(jQ (kH (jV (kH (jV x))-jV (kH (jV (vW (!(((kH (jV x)).neg) == ((kH (jV y)).neg))) (val (ofNat (val (ofNat (Int.natAbs (jV x))) / val (ofNat (Int.natAbs (jV y)))))))*jV (kH (jV y)))))))) rfl rfl jZ rfl rfl (.tmp (d:=(.val (.int .i64 (0)))) rfl .nil))),?_⟩
   rw[hk,r_rem_eq];rfl
end Go.Proofs.YtckccjhflbljgaaGreatDoor
