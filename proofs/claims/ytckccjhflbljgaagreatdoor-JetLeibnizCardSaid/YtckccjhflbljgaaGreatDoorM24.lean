/- Part 24 of a proof: rules, plain facts, and functions walked. -/
import Derived.Test.YtckccjhflbljgaaGreatDoorM23
set_option linter.all false
set_option maxRecDepth 4000
namespace Go.Proofs.YtckccjhflbljgaaGreatDoor
open Go.Fid
theorem r_neg(x:kS)(hx:x.gs.length<=1099511627776):jQ Tryz.prog 93 [(jR x)] (jR (kH (-jV x))):=by
 have hvx:=eG x
 refine uR Tryz.func93 ?_
 refine jB<|kx [(1,(.ref 0 0)),(2,(.ref 1 0))] [(0,some (bx (jR x))),(1,some (bx (jR (kS.mk false []))))] (zN (xO 0)<|zN (vH 1 nN nL)<|zZ) ?_
 refine jB<|kx [] [(0,some (bx (jR (kH (jV x)))))] (zR (kP kB)<|zE (jY (eH x (by omega)))<|zT (qJ kB)<|zZ) ?_
 refine jB<|kx [] [(1,some (bx (jR (xI (!((kH (jV x)).neg)) (val (ofNat (Int.natAbs (jV x))))))))] (zE (kI vK)<|zR (qH aU)<|zE yT<|zE (kI vG)<|zR (qH zD)<|zE (jY (nS (!((kH (jV x)).neg)) (ofNat (Int.natAbs (jV x))) (by first | assumption | exact kE _ | exact (kY _).1 | exact (qB _).1) (by omega)))<|zT (qJ kB)<|zZ) ?_
 refine jF ⟨_,(kR (cs:=(bx (jR (xI (!((kH (jV x)).neg)) (val (ofNat (Int.natAbs (jV x)))))))) (d:=(jR (xI (!((kH (jV x)).neg)) (val (ofNat (Int.natAbs (jV x))))))) rfl rfl kB rfl rfl .nil),?_⟩
 rw[<- rneg_eq];rfl
theorem r_sign(x:kS)(hx:x.gs.length<=1099511627776):jQ Tryz.prog 95 [(jR x)] (.val (.int .i64 ((qS (jV x))))):=by
 have hvx:=eG x
 refine uR Tryz.func95 ?_
 refine jB<|kx [(1,(.ref 0 0))] [(0,some (bx (jR x)))] (zN (xO 0)<|zM<|zZ) ?_
 refine jB<|kx [] [(0,some (bx (jR (kH (jV x)))))] (zR (kP kB)<|zE (jY (eH x (by omega)))<|zT (qJ kB)<|zZ) ?_
 refine jB<|jB<|kx [(8,(vb ((((ofNat (Int.natAbs (jV x))).length:Nat):Int) == 0)))] [] (zE (kI vG)<|zR (qH zD)<|zE (xW kG (L:=(ofNat (Int.natAbs (jV x)))))<|zE xU<|zZ) ?_
 refine jE rfl (fun h1=>?_) (fun h1=>?_)
 ·replace h1:=eq_of_beq h1
  refine jB<|kx [(2,(kF 0))] [] (zM<|zZ) ?_
  refine jF ⟨_,(.tmp (d:=(.val (.int .i64 (0)))) rfl .nil),?_⟩
  rw[rsign_zero h1];rfl
 ·replace h1:=ne_of_beq_false h1
  refine jD<|jB<|jB<|kx [(10,(vb ((kH (jV x)).neg)))] [] (zE (kI vK)<|zR (qH aU)<|zZ) ?_
  refine jE (b:=(kH (jV x)).neg) rfl (fun h2=>?_) (fun h2=>?_)
  ·refine jB<|kx [(2,(vi (-1)))] [] (zM<|zZ) ?_
   refine jF ⟨_,(.tmp (d:=(.val (.int .i64 (-1)))) rfl .nil),?_⟩
   rw[rsign_neg h1 h2];rfl
  ·refine jD<|jB<|kx [(2,(kF 1))] [] (zM<|zZ) ?_
   refine jF ⟨_,(.tmp (d:=(.val (.int .i64 (1)))) rfl .nil),?_⟩
   rw[rsign_pos h1 h2];rfl
theorem r_add(x:kS)(y:kS)(hx:x.gs.length<=1099511627776)(hy:y.gs.length<=1099511627776):jQ Tryz.prog 71 [(jR x),(jR y)] (jR (kH (jV x+jV y))):=by
 have hvx:=eG x
 have hvy:=eG y
 refine uR Tryz.func71 ?_
 refine jB<|kx [(2,(.ref 0 0)),(3,(.ref 1 0)),(4,(.ref 2 0))] [(0,some (bx (jR x))),(1,some (bx (jR y))),(2,some (bx (jR (kS.mk false []))))] (zN (xO 0)<|zN (xO 1)<|zN (vH 2 nN nL)<|zZ) ?_
 refine jB<|kd [] [(0,some (bx (jR (kH (jV x))))),(1,some (bx (jR (kH (jV y)))))] mo (wR (kP kB)<|wE (jY (eH x (by omega)))<|wR (kP kB)<|wE (jY (eH y (by omega)))<|wT (qJ kB)<|wT (qJ kB)<|wZ) ?_
 refine jB<|jB<|kx [(13,(vb (((kH (jV x)).neg) == ((kH (jV y)).neg))))] [] (zE (kI vK)<|zR (qH aU)<|zE (kI vK)<|zR (qH aU)<|zE (oEb bo4)<|zZ) ?_
 refine jE rfl (fun h1=>?_) (fun h1=>?_)
 ·replace h1:=eq_of_beq h1
  refine jB<|kd [] [(2,some (bx (jR (xI ((kH (jV x)).neg) (val (ofNat (val (ofNat (Int.natAbs (jV x)))+val (ofNat (Int.natAbs (jV y))))))))))] mo (wE (kI vK)<|wR (qH aU)<|wE (kI vG)<|wR (qH zD)<|wE (kI vG)<|wR (qH zD)<|wE (jY (r_plus (ofNat (Int.natAbs (jV x))) (ofNat (Int.natAbs (jV y))) (by first | assumption | exact kE _ | exact (kY _).1 | exact (qB _).1) (by first | assumption | exact kE _ | exact (kY _).1 | exact (qB _).1) (by omega) (by omega)))<|wE (jY (nS ((kH (jV x)).neg) (ofNat (val (ofNat (Int.natAbs (jV x)))+val (ofNat (Int.natAbs (jV y))))) (by first | assumption | exact kE _ | exact (kY _).1 | exact (qB _).1) (by first | omega | exact Nat.le_trans (add_len (kE _) (kE _)) (by omega) | exact Nat.le_trans (sub_len (kE _)) (by omega))))<|wT (qJ kB)<|wZ) ?_
  refine jF ⟨_,(kR (cs:=(bx (jR (xI ((kH (jV x)).neg) (val (ofNat (val (ofNat (Int.natAbs (jV x)))+val (ofNat (Int.natAbs (jV y)))))))))) (d:=(jR (xI ((kH (jV x)).neg) (val (ofNat (val (ofNat (Int.natAbs (jV x)))+val (ofNat (Int.natAbs (jV y))))))))) rfl rfl kB rfl rfl .nil),?_⟩
  rw[<- rsum_same h1];rfl
 ·replace h1:=ne_of_beq_false h1
  refine jD<|jB<|jB<|kx [(27,(vb (decide (0<=(uT ((val (ofNat (Int.natAbs (jV x))):Nat):Int) ((val (ofNat (Int.natAbs (jV y))):Nat):Int))))))] [] (zE (kI vG)<|zR (qH zD)<|zE (kI vG)<|zR (qH zD)<|zE (jY (r_size (ofNat (Int.natAbs (jV x))) (ofNat (Int.natAbs (jV y))) (by first | assumption | exact kY _ | exact qB _) (by first | assumption | exact kY _ | exact qB _) (by omega) (by omega)))<|zE oGe<|zZ) ?_
  refine jE rfl (fun h2=>?_) (fun h2=>?_)
  ·replace h2:=vY h2
   refine jB<|kd [] [(2,some (bx (jR (xI ((kH (jV x)).neg) (val (ofNat (val (ofNat (Int.natAbs (jV x)))-val (ofNat (Int.natAbs (jV y))))))))))] mo (wE (kI vK)<|wR (qH aU)<|wE (kI vG)<|wR (qH zD)<|wE (kI vG)<|wR (qH zD)<|wE (jY (r_minus (ofNat (Int.natAbs (jV x))) (ofNat (Int.natAbs (jV y))) (by first | assumption | exact kE _ | exact (kY _).1 | exact (qB _).1) (by first | assumption | exact kE _ | exact (kY _).1 | exact (qB _).1) (by have:=iM h2;omega) (by omega)))<|wE (jY (nS ((kH (jV x)).neg) (ofNat (val (ofNat (Int.natAbs (jV x)))-val (ofNat (Int.natAbs (jV y))))) (by first | assumption | exact kE _ | exact (kY _).1 | exact (qB _).1) (by first | omega | exact Nat.le_trans (add_len (kE _) (kE _)) (by omega) | exact Nat.le_trans (sub_len (kE _)) (by omega))))<|wT (qJ kB)<|wZ) ?_
   refine jF ⟨_,(kR (cs:=(bx (jR (xI ((kH (jV x)).neg) (val (ofNat (val (ofNat (Int.natAbs (jV x)))-val (ofNat (Int.natAbs (jV y)))))))))) (d:=(jR (xI ((kH (jV x)).neg) (val (ofNat (val (ofNat (Int.natAbs (jV x)))-val (ofNat (Int.natAbs (jV y))))))))) rfl rfl kB rfl rfl .nil),?_⟩
   rw[<- rsum_first h1 (by have:=iM h2;omega)];rfl
  ·replace h2:=xC h2
   refine jD<|jB<|kd [] [(2,some (bx (jR (xI ((kH (jV y)).neg) (val (ofNat (val (ofNat (Int.natAbs (jV y)))-val (ofNat (Int.natAbs (jV x))))))))))] mo (wE (kI vK)<|wR (qH aU)<|wE (kI vG)<|wR (qH zD)<|wE (kI vG)<|wR (qH zD)<|wE (jY (r_minus (ofNat (Int.natAbs (jV y))) (ofNat (Int.natAbs (jV x))) (by first | assumption | exact kE _ | exact (kY _).1 | exact (qB _).1) (by first | assumption | exact kE _ | exact (kY _).1 | exact (qB _).1) (by have:=cmpI_lt h2;omega) (by omega)))<|wE (jY (nS ((kH (jV y)).neg) (ofNat (val (ofNat (Int.natAbs (jV y)))-val (ofNat (Int.natAbs (jV x))))) (by first | assumption | exact kE _ | exact (kY _).1 | exact (qB _).1) (by first | omega | exact Nat.le_trans (add_len (kE _) (kE _)) (by omega) | exact Nat.le_trans (sub_len (kE _)) (by omega))))<|wT (qJ kB)<|wZ) ?_
   refine jF ⟨_,(kR (cs:=(bx (jR (xI ((kH (jV y)).neg) (val (ofNat (val (ofNat (Int.natAbs (jV y)))-val (ofNat (Int.natAbs (jV x)))))))))) (d:=(jR (xI ((kH (jV y)).neg) (val (ofNat (val (ofNat (Int.natAbs (jV y)))-val (ofNat (Int.natAbs (jV x))))))))) rfl rfl kB rfl rfl .nil),?_⟩
   rw[<- rsum_second h1 (by have:=cmpI_lt h2;omega)];rfl
theorem r_sub(x:kS)(y:kS)(hx:x.gs.length<=1099511627776)(hy:y.gs.length<=1099511627776):jQ Tryz.prog 163 [(jR x),(jR y)] (jR (kH (jV x-jV y))):=by
 have hv:=gs_neg y
 refine uR Tryz.func163 ?_
 refine jB<|kx [(2,(.ref 0 0)),(3,(.ref 1 0)),(4,(.ref 2 0))] [(0,some (bx (jR x))),(1,some (bx (jR y))),(2,some (bx (jR (kS.mk false []))))] (zN (xO 0)<|zN (xO 1)<|zN (vH 2 nN nL)<|zZ) ?_
 refine jB<|kd [] [(2,some (bx (jR (kH (jV x+jV (kH (-jV y)))))))] mo (wR (kP kB)<|wR (kP kB)<|wE (jY (r_neg y (by omega)))<|wE (jY (r_add x (kH (-jV y)) (by omega) (by omega)))<|wT (qJ kB)<|wZ) ?_
 refine jF ⟨_,(kR (cs:=(bx (jR (kH (jV x+jV (kH (-jV y))))))) (d:=(jR (kH (jV x+jV (kH (-jV y)))))) rfl rfl kB rfl rfl .nil),?_⟩
 rw[cY,<- Int.sub_eq_add_neg];rfl
theorem r_mul(x:kS)(y:kS)(hx:x.gs.length<=1099511627776)(hy:y.gs.length<=1099511627776):jQ Tryz.prog 72 [(jR x),(jR y)] (jR (kH (jV x*jV y))):=by
 have hvx:=eG x
 have hvy:=eG y
 have hda:=kE (Int.natAbs (jV x))
 have hdb:=kE (Int.natAbs (jV y))
 refine uR Tryz.func72 ?_
 refine jB<|kx [(2,(.ref 0 0)),(3,(.ref 1 0)),(4,(.ref 2 0))] [(0,some (bx (jR x))),(1,some (bx (jR y))),(2,some (bx (jR (kS.mk false []))))] (zN (xO 0)<|zN (xO 1)<|zN (vH 2 nN nL)<|zZ) ?_
 refine jB<|kd [] [(0,some (bx (jR (kH (jV x))))),(1,some (bx (jR (kH (jV y)))))] mo (wR (kP kB)<|wE (jY (eH x (by omega)))<|wR (kP kB)<|wE (jY (eH y (by omega)))<|wT (qJ kB)<|wT (qJ kB)<|wZ) ?_
 refine jB<|kx [(5,(.own 3 107 1 ((ofNat (Int.natAbs (jV x))).length+(ofNat (Int.natAbs (jV y))).length)))] [(3,some (bm jC (List.replicate ((ofNat (Int.natAbs (jV x))).length+(ofNat (Int.natAbs (jV y))).length) 0)))] (zE (kI vG)<|zR (qH zD)<|zE (xW kG (L:=(ofNat (Int.natAbs (jV x)))))<|zE (kI vG)<|zR (qH zD)<|zE (xW kG (L:=(ofNat (Int.natAbs (jV y)))))<|zE (vT ((ofNat (Int.natAbs (jV x))).length+(ofNat (Int.natAbs (jV y))).length))<|zN (oMk 3 jC (0:Nat) ((ofNat (Int.natAbs (jV x))).length+(ofNat (Int.natAbs (jV y))).length) ((ofNat (Int.natAbs (jV x))).length+(ofNat (Int.natAbs (jV y))).length) kG vQ yQ mB)<|zM<|zZ) ?_
 refine jB<|jB<|kx [(6,(kF 0))] [] (zM<|zZ) ?_
 refine jH<|kO (α:=Nat × List Nat) (fun (i,out)=>⟨[(2,(.ref 0 0)),(3,(.ref 1 0)),(4,(.ref 2 0)),(5,(.own 3 107 1 ((ofNat (Int.natAbs (jV x))).length+(ofNat (Int.natAbs (jV y))).length))),(6,(kF i))],[(0,some (bx (jR (kH (jV x))))),(1,some (bx (jR (kH (jV y))))),(2,some (bx (jR (kS.mk false [])))),(3,some (bm jC out))]⟩) (fun (i,out)=>out.length=(ofNat (Int.natAbs (jV x))).length+(ofNat (Int.natAbs (jV y))).length/\Dig out/\i<=(ofNat (Int.natAbs (jV x))).length/\(∀ k,i+(ofNat (Int.natAbs (jV y))).length<=k->out.getD k 0=0)/\val out=val ((ofNat (Int.natAbs (jV x))).take i)*val (ofNat (Int.natAbs (jV y)))) (fun (i,out)=>(ofNat (Int.natAbs (jV x))).length-i) (0,List.replicate ((ofNat (Int.natAbs (jV x))).length+(ofNat (Int.natAbs (jV y))).length) 0) wk ⟨by simp,zU _,Nat.zero_le _,fun k _=>fZ _ k,by simp [val,eD]⟩ ?_
 rintro ⟨i,out⟩ ⟨qK,hdo,hi,hz,hv⟩
 have hai:=hda.getD i
 refine jB<|jB<|kx [(26,(vb (decide (((i:Nat):Int)<(((ofNat (Int.natAbs (jV x))).length:Nat):Int)))))] [] (zM<|zE (kI vG)<|zR (qH zD)<|zE (xW kG (L:=(ofNat (Int.natAbs (jV x)))))<|zE gZ<|zZ) ?_
 refine jE rfl (fun h1=>?_) (fun h1=>?_)
 ·replace h1:=vY h1
  refine jD<|jB<|jH<|jB<|kx [(7,(gE 0))] [] (zM<|zZ) ?_
  refine jB<|jB<|kx [(8,(kF 0))] [] (zM<|zZ) ?_
  refine jH<|kO (α:=Nat × List Nat × Nat) (fun (j,o2,c)=>⟨[(2,(.ref 0 0)),(3,(.ref 1 0)),(4,(.ref 2 0)),(5,(.own 3 107 1 ((ofNat (Int.natAbs (jV x))).length+(ofNat (Int.natAbs (jV y))).length))),(6,(kF i)),(7,(gE c)),(8,(kF j))],[(0,some (bx (jR (kH (jV x))))),(1,some (bx (jR (kH (jV y))))),(2,some (bx (jR (kS.mk false [])))),(3,some (bm jC o2))]⟩) (fun (j,o2,c)=>o2.length=(ofNat (Int.natAbs (jV x))).length+(ofNat (Int.natAbs (jV y))).length/\Dig o2/\j<=(ofNat (Int.natAbs (jV y))).length/\c<1000000000/\(∀ k,i+(ofNat (Int.natAbs (jV y))).length<=k->o2.getD k 0=0)/\val o2+pw (i+j)*c=val ((ofNat (Int.natAbs (jV x))).take i)*val (ofNat (Int.natAbs (jV y)))+pw i*((ofNat (Int.natAbs (jV x))).getD i 0*val ((ofNat (Int.natAbs (jV y))).take j))) (fun (j,o2,c)=>(ofNat (Int.natAbs (jV y))).length-j) (0,out,0) wk ⟨qK,hdo,Nat.zero_le _,by decide,hz,by simp [val,hv]⟩ ?_
  rintro ⟨j,o2,c⟩ ⟨hlen2,hdo2,hj,hc,hz2,hv2⟩
  have hbj:=hdb.getD j
  have hoj:=hdo2.getD (i+j)
  have hpq:(ofNat (Int.natAbs (jV x))).getD i 0*(ofNat (Int.natAbs (jV y))).getD j 0<=999999999*999999999:=Nat.mul_le_mul (by omega) (by omega)
  refine jB<|jB<|kx [(33,(vb (decide (((j:Nat):Int)<(((ofNat (Int.natAbs (jV y))).length:Nat):Int)))))] [] (zM<|zE (kI vG)<|zR (qH zD)<|zE (xW kG (L:=(ofNat (Int.natAbs (jV y)))))<|zE gZ<|zZ) ?_
  refine jE rfl (fun h2=>?_) (fun h2=>?_)
  ·replace h2:=vY h2
   refine jD<|jB<|jH<|jB<|kd [(9,(gE (((o2.getD (i+j) 0)+(((ofNat (Int.natAbs (jV x))).getD i 0)*((ofNat (Int.natAbs (jV y))).getD j 0)))+c)))] [] mo (wM<|wM<|wM<|wE (vT (i+j))<|wE (yE kG (i+j))<|wR (eZ qL (i+j) (0:Nat))<|wE (cB yM yI (o2.getD (i+j) 0))<|wE (kI vG)<|wR (qH zD)<|wM<|wE (cT kG i (0:Nat) (L:=(ofNat (Int.natAbs (jV x)))))<|wE (nY qL)<|wE (cB yM yI ((ofNat (Int.natAbs (jV x))).getD i 0))<|wE (kI vG)<|wR (qH zD)<|wM<|wE (cT kG j (0:Nat) (L:=(ofNat (Int.natAbs (jV y)))))<|wE (nY qL)<|wE (cB yM yI ((ofNat (Int.natAbs (jV y))).getD j 0))<|wE (oMl (((ofNat (Int.natAbs (jV x))).getD i 0)*((ofNat (Int.natAbs (jV y))).getD j 0)))<|wE (vT ((o2.getD (i+j) 0)+(((ofNat (Int.natAbs (jV x))).getD i 0)*((ofNat (Int.natAbs (jV y))).getD j 0))))<|wM<|wE (vT (((o2.getD (i+j) 0)+(((ofNat (Int.natAbs (jV x))).getD i 0)*((ofNat (Int.natAbs (jV y))).getD j 0)))+c))<|wM<|wZ) ?_
   refine jB<|kx [] [(3,some (bm jC (o2.set (i+j) ((((o2.getD (i+j) 0)+(((ofNat (Int.natAbs (jV x))).getD i 0)*((ofNat (Int.natAbs (jV y))).getD j 0)))+c) % 1000000000))))] (zM<|zM<|zM<|zE (vT (i+j))<|zM<|zE (oRe ((((o2.getD (i+j) 0)+(((ofNat (Int.natAbs (jV x))).getD i 0)*((ofNat (Int.natAbs (jV y))).getD j 0)))+c) % 1000000000))<|zE (cB nA gJ ((((o2.getD (i+j) 0)+(((ofNat (Int.natAbs (jV x))).getD i 0)*((ofNat (Int.natAbs (jV y))).getD j 0)))+c) % 1000000000))<|zE (yE kG (i+j))<|zT (eX qL (i+j) ((((o2.getD (i+j) 0)+(((ofNat (Int.natAbs (jV x))).getD i 0)*((ofNat (Int.natAbs (jV y))).getD j 0)))+c) % 1000000000))<|zZ) ?_
   refine kx [(7,(gE ((((o2.getD (i+j) 0)+(((ofNat (Int.natAbs (jV x))).getD i 0)*((ofNat (Int.natAbs (jV y))).getD j 0)))+c) / 1000000000)))] [] (zM<|zE (oQu ((((o2.getD (i+j) 0)+(((ofNat (Int.natAbs (jV x))).getD i 0)*((ofNat (Int.natAbs (jV y))).getD j 0)))+c) / 1000000000))<|zM<|zZ) ?_
   refine kx [(8,(kF (j+1)))] [] (zM<|zE (vT (j+1))<|zM<|zZ) ?_
   exact ⟨(j+1,o2.set (i+j) ((o2.getD (i+j) 0+(ofNat (Int.natAbs (jV x))).getD i 0*(ofNat (Int.natAbs (jV y))).getD j 0+c) % 1000000000),(o2.getD (i+j) 0+(ofNat (Int.natAbs (jV x))).getD i 0*(ofNat (Int.natAbs (jV y))).getD j 0+c) / 1000000000),wk,(by obtain ⟨q1,q2⟩:=times_step (by omega) hdo2 hv2 rfl (val_take_succ _ j);exact ⟨by simpa using hlen2,q1,by omega,by omega,zero_set (by omega) hz2,q2⟩),(by first|omega|(dsimp only;omega))⟩
  ·replace h2:=xC h2
   have hje:j=(ofNat (Int.natAbs (jV y))).length:=by omega
   rw[hje] at hv2
   refine kL<|kx [] [(3,some (bm jC (o2.set (i+(ofNat (Int.natAbs (jV y))).length) c)))] (zM<|zM<|zE (kI vG)<|zR (qH zD)<|zE (xW kG (L:=(ofNat (Int.natAbs (jV y)))))<|zE (vT (i+(ofNat (Int.natAbs (jV y))).length))<|zM<|zE (cB nA gJ c)<|zE (yE kG (i+(ofNat (Int.natAbs (jV y))).length))<|zT (eX qL (i+(ofNat (Int.natAbs (jV y))).length) c)<|zZ) ?_
   refine kx [(6,(kF (i+1)))] [] (zM<|zE (vT (i+1))<|zM<|zZ) ?_
   exact ⟨(i+1,o2.set (i+(ofNat (Int.natAbs (jV y))).length) c),wk,(by obtain ⟨q1,q2,q3,q4⟩:=times_row hdo2 (by omega) hlen2 hz2 hc hv2;exact ⟨q1,q2,by omega,q3,q4⟩),(by first|omega|(dsimp only;omega))⟩
 ·replace h1:=xC h1
  have hie:i=(ofNat (Int.natAbs (jV x))).length:=by omega
  rw[hie,List.take_length] at hv
  refine kL<|jB<|qG (yG (t:=5) (k:=3) (es:=List.map jC out) rfl rfl (vW _ _ (fun _=>rfl)) (xR _ _ qK) (xY _ _ (fun _=>rfl) qK)) ?_
  refine kx [] [(2,some (bx (jR (xI (!(((kH (jV x)).neg) == ((kH (jV y)).neg))) (val out)))))] (zE (kI vK)<|zR (qH aU)<|zE (kI vK)<|zR (qH aU)<|zE (oNb bo4)<|zM<|zE (jY (nS (!(((kH (jV x)).neg) == ((kH (jV y)).neg))) out hdo (by omega)))<|zT (qJ kB)<|zZ) ?_
  refine jF ⟨_,(kR (cs:=(bx (jR (xI (!(((kH (jV x)).neg) == ((kH (jV y)).neg))) (val out))))) (d:=(jR (xI (!(((kH (jV x)).neg) == ((kH (jV y)).neg))) (val out)))) rfl rfl kB rfl rfl .nil),?_⟩
  rw[hv,rmul_eq];rfl
theorem r_short(a:List Nat)(d:Nat)(hda:Dig a)(hd0:0<d)(hd1:d<=1000000000)(hla:a.length<=17592186044416):jQ Tryz.prog 185 [(.sl 107 1 (List.map jC a)),(.val (.int .u64 (((d:Nat):Int))))] (.tup [(.sl 107 1 (List.map jC (ofNat (val a / d)))),(.val (.int .u64 ((((val a % d):Nat):Int))))]):=by
 refine uR Tryz.func185 ?_
 refine jB<|kx [] [] (zE (aY 107 1)<|zM<|zZ) ?_
 refine jB<|kx [(6,(.own 0 107 1 a.length))] [(0,some (bm jC (List.replicate a.length 0)))] (zM<|zE (xW kG)<|zN (oMk 0 jC (0:Nat) a.length a.length kG vQ yQ mB)<|zM<|zZ) ?_
 refine jB<|kx [(7,(gE 0))] [] (zM<|zZ) ?_
 refine jB<|jB<|kx [(8,(vi (((a.length:Nat):Int)-1)))] [] (zM<|zE (xW kG)<|zE (zSb (((a.length:Nat):Int)-1))<|zM<|zZ) ?_
 refine jH<|kO (α:=Nat × List Nat × Nat) (fun (k,q,xH)=>⟨[(0,(vl 107 1 jC a)),(1,(gE d)),(6,(.own 0 107 1 a.length)),(7,(gE xH)),(8,(vi (((k:Nat):Int)-1)))],[(0,some (bm jC q))]⟩) (fun (k,q,xH)=>k<=a.length/\q.length=a.length/\Dig q/\xH<d/\val (a.drop k)=val (q.drop k)*d+xH) (fun (k,q,xH)=>k) (a.length,List.replicate a.length 0,0) wk ⟨Nat.le_refl _,by simp,zU _,hd0,by simp [val]⟩ ?_
 rintro ⟨k,q,xH⟩ ⟨hk,qK,hdq,hr,hv⟩
 refine jB<|jB<|kx [(17,(vb (decide (0<=(((k:Nat):Int)-1)))))] [] (zM<|zE oGe<|zZ) ?_
 refine jE (b:=decide (0<=(((k:Nat):Int)-1))) rfl (fun h1=>?_) (fun h1=>?_)
 ·replace h1:=vY h1
  obtain ⟨i,rfl⟩:∃ i,k=i+1:=⟨k-1,by omega⟩
  rw[show (((i+1:Nat):Int)-1)=((i:Nat):Int) from by omega]
  have hg:=hda.getD i
  obtain ⟨hb1,hb2⟩:=short_bound hr hd1 hg
  refine jD<|jB<|jH<|jB<|kx [(8,(kF i)),(9,(gE ((xH*1000000000)+(a.getD i 0))))] [] (zM<|zE (oMl (xH*1000000000))<|zM<|zM<|zE (cT kG i (0:Nat))<|zE (nY qL)<|zE (cB yM yI (a.getD i 0))<|zE (vT ((xH*1000000000)+(a.getD i 0)))<|zM<|zZ) ?_
  refine jB<|kx [] [(0,some (bm jC (q.set i (((xH*1000000000)+(a.getD i 0)) / d))))] (zM<|zM<|zM<|zM<|zE (oQu (((xH*1000000000)+(a.getD i 0)) / d))<|zE (cB nA gJ (((xH*1000000000)+(a.getD i 0)) / d))<|zE (yE kG i)<|zT (eX qL i (((xH*1000000000)+(a.getD i 0)) / d))<|zZ) ?_
  refine kx [(7,(gE (((xH*1000000000)+(a.getD i 0)) % d)))] [] (zM<|zM<|zE (oRe (((xH*1000000000)+(a.getD i 0)) % d))<|zM<|zZ) ?_
  refine kx [(8,(vi (((i:Nat):Int)-1)))] [] (zM<|zE (zSb (((i:Nat):Int)-1))<|zM<|zZ) ?_
  exact ⟨(i,q.set i ((xH*1000000000+a.getD i 0) / d),(xH*1000000000+a.getD i 0) % d),wk,⟨by omega,by simpa using qK,hdq.set _ hb2,Nat.mod_lt _ hd0,rshort_step (by omega) hv rfl⟩,(by first|omega|(dsimp only;omega))⟩
 ·replace h1:=xC h1
  obtain rfl:k=0:=by omega
  obtain ⟨e1,e2⟩:=short_end (a:=a) (q:=q) (by rw[Nat.sub_self];exact hv) hr
  refine kL<|jB<|qG (yG (t:=6) (k:=0) (es:=List.map jC q) rfl rfl (vW _ _ (fun _=>rfl)) (xR _ _ qK) (xY _ _ (fun _=>rfl) qK)) ?_
  refine kx [(4,(vl 107 1 jC (ofNat (val q)))),(5,(gE xH))] [] (zM<|zE (jY (nS false q (by first | assumption | exact kE _ | exact (kY _).1 | exact (qB _).1) (by omega)))<|zE (oF1 bF zD)<|zM<|zM<|zM<|zZ) ?_
  refine jF ⟨_,(.tmp (d:=(.sl 107 1 (List.map jC (ofNat (val q))))) rfl (.tmp (d:=(.val (.int .u64 (((xH:Nat):Int))))) rfl .nil)),?_⟩
  rw[<- e1,<- e2];rfl
theorem r_pair(l:List Nat)(hd:Dig l)(h2:l.length<=2):jQ Tryz.prog 165 [(.sl 107 1 (List.map jC l))] (.val (.int .u64 ((((val l):Nat):Int)))):=by
 have h0:=hd.getD 0
 have h1:=hd.getD 1
 refine uR Tryz.func165 ?_
 refine jB<|kx [] [] (zM<|zZ) ?_
 refine jB<|kx [(2,(gE (((l.getD 1 0)*1000000000)+(l.getD 0 0))))] [] (zM<|zE (jY (aM l 1 (by first | assumption | exact kE _ | exact (kY _).1 | exact (qB _).1)))<|zE (oMl ((l.getD 1 0)*1000000000))<|zM<|zE (jY (aM l 0 (by first | assumption | exact kE _ | exact (kY _).1 | exact (qB _).1)))<|zE (vT (((l.getD 1 0)*1000000000)+(l.getD 0 0)))<|zM<|zZ) ?_
 refine jF ⟨_,(.tmp (d:=(.val (.int .u64 ((((((l.getD 1 0)*1000000000)+(l.getD 0 0)):Nat):Int))))) rfl .nil),?_⟩
 rw[val_pair h2];rfl
theorem r_parts(a b:List Nat)(hda:yY a)(hdb:yY b)(hb0:0<b.length)(hla:a.length<=1099511627776)(hlb:b.length<=1099511627776):jQ Tryz.prog 164 [(.sl 107 1 (List.map jC a)),(.sl 107 1 (List.map jC b))] (.tup [(.sl 107 1 (List.map jC (ofNat (val a / val b)))),(.sl 107 1 (List.map jC (ofNat (val a % val b))))]):=by
 have hsc:=bW hdb hb0
 have htp:=iL hdb hb0
 have hbp:=cL hdb hb0
 refine uR Tryz.func164 ?_
 refine jB<|kx [] [] (zE (aY 107 1)<|zE (aY 107 1)<|zZ) ?_
 refine jB<|kx [(6,(kF b.length))] [] (zM<|zE (xW kG)<|zM<|zZ) ?_
 refine jB<|jB<|kx [(19,(vb (((b.length:Nat):Int) == 1)))] [] (zM<|zE xU<|zZ) ?_
 refine jE (b:=(((b.length:Nat):Int) == 1)) rfl (fun h1=>?_) (fun h1=>?_)
 ·replace h1:=eq_of_beq h1
  have hg0:=hdb.1.getD 0
  have hv1:=val_len1 (b:=b) (by omega)
  have hb00:0<b.getD 0 0:=by omega
  have hrl:val a % b.getD 0 0<1000000000:=Nat.lt_trans (Nat.mod_lt _ hb00) (by omega)
  refine jB<|kx [(7,(vl 107 1 jC (ofNat (val a / (b.getD 0 0))))),(8,(gE (val a % (b.getD 0 0))))] [] (zM<|zM<|zE (cT kG 0 (0:Nat))<|zE (nY qL)<|zE (cB yM yI (b.getD 0 0))<|zE (jY (r_short a (b.getD 0 0) hda.1 (by omega) (by omega) (by omega)))<|zM<|zE xJ<|zE xJ<|zM<|zM<|zZ) ?_
  refine jB<|kx [(4,(vl 107 1 jC (ofNat (val a / (b.getD 0 0))))),(5,(vl 107 1 jC (ofNat (val [(val a % (b.getD 0 0))]))))] [] (zM<|zM<|zE (cB nA gJ (val a % (b.getD 0 0)))<|zE (eY kG vQ yQ)<|zE (jY (nS false [(val a % (b.getD 0 0))] (yR.2 ⟨by omega,gL⟩) (by simp)))<|zE (oF1 bF zD)<|zM<|zM<|zZ) ?_
  refine jF ⟨_,(.tmp (d:=(.sl 107 1 (List.map jC (ofNat (val a / (b.getD 0 0)))))) rfl (.tmp (d:=(.sl 107 1 (List.map jC (ofNat (val [(val a % (b.getD 0 0))]))))) rfl .nil)),?_⟩
  rw[hv1,cV];rfl
 ·replace h1:=ne_of_beq_false h1
  refine jD<|jB<|jB<|kx [(38,(vb (decide ((uT ((val a:Nat):Int) ((val b:Nat):Int))<0))))] [] (zM<|zM<|zE (jY (r_size a b (by first | assumption | exact kY _ | exact qB _) (by first | assumption | exact kY _ | exact qB _) (by omega) (by omega)))<|zE gZ<|zZ) ?_
  refine jE rfl (fun h2=>?_) (fun h2=>?_)
  ·replace h2:=vY h2
   refine jB<|kx [(4,(vl 107 1 jC [])),(5,(vl 107 1 jC a))] [] (zE (eY kG vQ yQ)<|zM<|zM<|zM<|zZ) ?_
   refine jF ⟨_,(.tmp (d:=(.sl 107 1 (List.map jC []))) rfl (.tmp (d:=(.sl 107 1 (List.map jC a))) rfl .nil)),?_⟩
   have hlt:=cmpI_neg h2
   rw[Nat.div_eq_of_lt hlt,Nat.mod_eq_of_lt hlt,uA,<- can_eq hda];rfl
  ·replace h2:=xC h2
   obtain ⟨u,hue⟩:∃ u,u=ofNat (val a*dI b):=⟨_,rfl⟩
   obtain ⟨v,hve⟩:∃ v,v=ofNat (val b*dI b):=⟨_,rfl⟩
   have hu:Dig u:=by rw[hue];exact kE _
   have hcv:yY v:=by rw[hve];exact kY _
   have hvd:=hcv.1
   have hvl:v.length=b.length:=by rw[hve];exact scl_len hdb hb0
   have hvv:val v=val b*dI b:=by rw[hve];exact kD _
   have huv:val u=val a*dI b:=by rw[hue];exact kD _
   have hab:=len_of_le hda hdb (cmpI_nn h2)
   have hul:a.length<=u.length/\u.length<=a.length+1:=by rw[hue];exact scl_lenA hda hdb hb0
   have hvp:=cL hcv (by omega)
   have hpv:pw (b.length-1)<=val v:=by have h1:=val_top hvd (by omega);have h3:=iL hcv (by omega);rw[hvl] at h1 h3;have h2:=Nat.mul_le_mul_right (pw (b.length-1)) h3.1;omega
   refine jD<|jB<|kx [(9,(gE (dI b)))] [] (zM<|zM<|zE (oSb (b.length-1))<|zE (cT kG (b.length-1) (0:Nat))<|zE (nY qL)<|zE (cB yM yI (b.getD (b.length-1) 0))<|zE (vT ((b.getD (b.length-1) 0)+1))<|zE (oQu (dI b) (hr:=by exact (quo_u64 1000000000 (b.getD (b.length-1) 0+1))))<|zM<|zZ) ?_
   refine jB<|kx [(0,(vl 107 1 jC u)),(1,(vl 107 1 jC v))] [] (zM<|zM<|zE (jY (hue▸r_scaled a (dI b) hda.1 (by omega) (by omega)))<|zM<|zM<|zE (jY (hve▸r_scaled b (dI b) hdb.1 (by omega) (by omega)))<|zM<|zM<|zZ) ?_
   refine jB<|kx [(10,(vl 107 1 jC (ofNat (val (List.drop ((u.length-b.length)+1) u)))))] [] (zM<|zM<|zE (xW kG)<|zM<|zE (oSb (u.length-b.length))<|zE (vT ((u.length-b.length)+1))<|zE (e_slc (l:=((u.length-b.length)+1)) (h:=(List.map jC u).length) (kl:=.i64) (kh:=.i64) (es':=List.map jC (List.drop ((u.length-b.length)+1) u)) (by exact rfl) kG (by exact rfl) (by exact rfl) (by exact rfl) (by simp only[List.length_map];omega) (Nat.le_refl _) (by rw[List.take_length,List.map_drop]))<|zE (jY (nS false (List.drop ((u.length-b.length)+1) u) (hu.drop _) (by rw[List.length_drop];omega)))<|zE (oF1 bF zD)<|zM<|zZ) ?_
   refine jB<|kx [(11,(.own 0 107 1 ((u.length-b.length)+1)))] [(0,some (bm jC (List.replicate ((u.length-b.length)+1) 0)))] (zM<|zE (xW kG)<|zM<|zE (oSb (u.length-b.length))<|zE (vT ((u.length-b.length)+1))<|zN (oMk 0 jC (0:Nat) ((u.length-b.length)+1) ((u.length-b.length)+1) kG vQ yQ mB)<|zM<|zZ) ?_
   refine jB<|jB<|kx [(12,(vi ((((u.length-b.length)+1:Nat):Int)-1)))] [] (zM<|zE (xW kG)<|zM<|zE (zSb ((((u.length-b.length)+1:Nat):Int)-1))<|zM<|zZ) ?_
   refine jH<|kO (α:=Nat × List Nat × List Nat) (fun (k,r,q)=>⟨[(0,(vl 107 1 jC u)),(1,(vl 107 1 jC v)),(6,(kF b.length)),(9,(gE (dI b))),(10,(vl 107 1 jC r)),(11,(.own 0 107 1 ((u.length-b.length)+1))),(12,(vi (((k:Nat):Int)-1)))],[(0,some (bm jC q))]⟩) (fun (k,r,q)=>yY r/\k<=((u.length-b.length)+1)/\q.length=((u.length-b.length)+1)/\Dig q/\val r<val v/\val (u.drop k)=val v*val (q.drop k)+val r) (fun (k,r,q)=>k) (((u.length-b.length)+1),ofNat (val (List.drop ((u.length-b.length)+1) u)),List.replicate ((u.length-b.length)+1) 0) wk ⟨kY _,Nat.le_refl _,by simp,zU _,by rw[kD];have h7:=vR (hu.drop ((u.length-b.length)+1));rw[List.length_drop,show u.length-((u.length-b.length)+1)=b.length-1 by omega] at h7;omega,by rw[kD];simp [val]⟩ ?_
   rintro ⟨k,r,q⟩ ⟨hrc,hk,hql,hqd,hr,hv⟩
   refine jB<|jB<|kx [(75,(vb (decide (0<=(((k:Nat):Int)-1)))))] [] (zM<|zE oGe<|zZ) ?_
   refine jE (b:=decide (0<=(((k:Nat):Int)-1))) rfl (fun h3=>?_) (fun h3=>?_)
   ·replace h3:=vY h3
    obtain ⟨i,rfl⟩:∃ i,k=i+1:=⟨k-1,by omega⟩
    rw[show (((i+1:Nat):Int)-1)=((i:Nat):Int) from by omega]
    have hgu:=hu.getD i
    have hW:(u.getD i 0+1000000000*val r)<1000000000*val v:=by omega
    have hrs:=rshift_val u hv
    obtain ⟨hg1,hg2⟩:=rguess hvd hvl hb0 hW
    have hgv:=hvd.getD (b.length-1)
    have hgw1:=(kE (u.getD i 0+1000000000*val r)).getD b.length
    have hgw2:=(kE (u.getD i 0+1000000000*val r)).getD (b.length-1)
    have hrl:r.length<=b.length:=by have h9:=xM (Nat.le_of_lt hr);rwa [<- can_eq hrc,<- can_eq hcv,hvl] at h9
    have hwl:(ofNat (u.getD i 0+1000000000*val r)).length<=b.length+1:=uB (by rw[uV];have:=vR hvd;rw[hvl] at this;omega)
    refine jD<|jB<|jH<|jB<|kx [(10,(vl 107 1 jC (ofNat ((u.getD i 0)+1000000000*val r)))),(12,(kF i))] [] (zM<|zM<|zM<|zE (cT kG i (0:Nat))<|zE (nY qL)<|zE (jY (r_shifted r (u.getD i 0) hrc.1 (by omega) (by omega)))<|zM<|zZ) ?_
    refine jB<|kd [(13,(gE (((((ofNat ((u.getD i 0)+1000000000*val r)).getD b.length 0)*1000000000)+((ofNat ((u.getD i 0)+1000000000*val r)).getD (b.length-1) 0)) / ((v.getD (b.length-1) 0)+1))))] [] mo (wM<|wM<|wE (jY (aM (ofNat ((u.getD i 0)+1000000000*val r)) b.length (kE _)))<|wE (oMl (((ofNat ((u.getD i 0)+1000000000*val r)).getD b.length 0)*1000000000))<|wM<|wM<|wE (oSb (b.length-1))<|wE (jY (aM (ofNat ((u.getD i 0)+1000000000*val r)) (b.length-1) (by first | assumption | exact kE _ | exact (kY _).1 | exact (qB _).1)))<|wE (vT ((((ofNat ((u.getD i 0)+1000000000*val r)).getD b.length 0)*1000000000)+((ofNat ((u.getD i 0)+1000000000*val r)).getD (b.length-1) 0)))<|wM<|wM<|wE (oSb (b.length-1))<|wE (cT kG (b.length-1) (0:Nat))<|wE (nY qL)<|wE (cB yM yI (v.getD (b.length-1) 0))<|wE (vT ((v.getD (b.length-1) 0)+1))<|wE (oQu (((((ofNat ((u.getD i 0)+1000000000*val r)).getD b.length 0)*1000000000)+((ofNat ((u.getD i 0)+1000000000*val r)).getD (b.length-1) 0)) / ((v.getD (b.length-1) 0)+1)))<|wM<|wZ) ?_
    refine jB<|kx [(10,(vl 107 1 jC (ofNat (val (ofNat ((u.getD i 0)+1000000000*val r))-val (ofNat (val v*(((((ofNat ((u.getD i 0)+1000000000*val r)).getD b.length 0)*1000000000)+((ofNat ((u.getD i 0)+1000000000*val r)).getD (b.length-1) 0)) / ((v.getD (b.length-1) 0)+1))))))))] [] (zM<|zM<|zM<|zE (jY (r_scaled v (((((ofNat ((u.getD i 0)+1000000000*val r)).getD b.length 0)*1000000000)+((ofNat ((u.getD i 0)+1000000000*val r)).getD (b.length-1) 0)) / ((v.getD (b.length-1) 0)+1)) hvd (by omega) (by omega)))<|zE (jY (r_minus (ofNat ((u.getD i 0)+1000000000*val r)) (ofNat (val v*(((((ofNat ((u.getD i 0)+1000000000*val r)).getD b.length 0)*1000000000)+((ofNat ((u.getD i 0)+1000000000*val r)).getD (b.length-1) 0)) / ((v.getD (b.length-1) 0)+1)))) (kE _) (kE _) (by rw[kD,kD,Nat.mul_comm];exact hg1) (by omega)))<|zM<|zZ) ?_
    refine jB<|jH<|kO (α:=Nat × List Nat) (fun (G,r2)=>⟨[(0,(vl 107 1 jC u)),(1,(vl 107 1 jC v)),(6,(kF b.length)),(9,(gE (dI b))),(10,(vl 107 1 jC r2)),(11,(.own 0 107 1 ((u.length-b.length)+1))),(12,(kF i)),(13,(gE G))],[(0,some (bm jC q))]⟩) (fun (G,r2)=>yY r2/\val v*G+val r2=(u.getD i 0+1000000000*val r)) (fun (G,r2)=>val r2) ((((ofNat (u.getD i 0+1000000000*val r)).getD b.length 0*1000000000+(ofNat (u.getD i 0+1000000000*val r)).getD (b.length-1) 0) / (v.getD (b.length-1) 0+1)),ofNat (val (ofNat (u.getD i 0+1000000000*val r))-val (ofNat (val v*(((ofNat (u.getD i 0+1000000000*val r)).getD b.length 0*1000000000+(ofNat (u.getD i 0+1000000000*val r)).getD (b.length-1) 0) / (v.getD (b.length-1) 0+1)))))) wk ⟨kY _,by rw[kD,kD,kD];rw[Nat.mul_comm] at hg1;omega⟩ ?_
    rintro ⟨G,r2⟩ ⟨hr2,hr2v⟩
    have hr2l:r2.length<=b.length+1:=by have h9:=xM (show val r2<=(u.getD i 0+1000000000*val r) by omega);rw[<- can_eq hr2] at h9;omega
    refine jB<|jB<|kx [(109,(vb (decide (0<=(uT ((val r2:Nat):Int) ((val v:Nat):Int))))))] [] (zM<|zM<|zE (jY (r_size r2 v hr2 hcv (by omega) (by omega)))<|zE oGe<|zZ) ?_
    refine jE rfl (fun h4=>?_) (fun h4=>?_)
    ·replace h4:=vY h4
     have hge:=iM h4
     have hG:=rquo_lt hr2v hW
     have hr2l:r2.length<=b.length+1:=by have h9:=xM (show val r2<=(u.getD i 0+1000000000*val r) by omega);rw[<- can_eq hr2] at h9;omega
     refine jD<|jH<|jB<|kx [(10,(vl 107 1 jC (ofNat (val r2-val v))))] [] (zM<|zM<|zE (jY (r_minus r2 v hr2.1 hvd (by omega) (by omega)))<|zM<|zZ) ?_
     refine kx [(13,(gE (G+1)))] [] (zM<|zE (vT (G+1))<|zM<|zZ) ?_
     exact ⟨(G+1,ofNat (val r2-val v)),wk,(by have hge:=iM h4;exact ⟨kY _,by rw[kD,Nat.mul_add,Nat.mul_one];omega⟩),(by have hge:=iM h4;dsimp only;rw[kD];omega)⟩
    ·replace h4:=xC h4
     have hG:=rquo_lt hr2v hW
     have hlt:val r2<val v:=by have h9:=cmpI_lt h4;omega
     refine kL<|kx [] [(0,some (bm jC (q.set i G)))] (zM<|zM<|zM<|zE (cB nA gJ G)<|zE (yE kG i)<|zT (eX qL i G)<|zZ) ?_
     refine kx [(12,(vi (((i:Nat):Int)-1)))] [] (zM<|zE (zSb (((i:Nat):Int)-1))<|zM<|zZ) ?_
     exact ⟨(i,r2,q.set i G),wk,⟨hr2,by omega,by simpa using hql,hqd.set _ hG,hlt,rround (by omega) (by rw[hr2v];exact hrs)⟩,(by first|omega|(dsimp only;omega))⟩
   ·replace h3:=xC h3
    obtain rfl:k=0:=by omega
    obtain ⟨e1,e2⟩:=scl_div (a:=a) (b:=b) (q:=q) (u:=r) hdb hb0 (by rw[List.drop_zero,List.drop_zero] at hv;rw[cD,Nat.one_mul,List.drop_zero,<- huv,<- hvv,hv];omega) (by rw[List.drop_zero,<- hvv];exact hr)
    have hrl:r.length<=b.length:=by have h9:=xM (Nat.le_of_lt hr);rwa [<- can_eq hrc,<- can_eq hcv,hvl] at h9
    refine kL<|jB<|kx [(14,(vl 107 1 jC (ofNat (val r / (dI b)))))] [] (zM<|zM<|zE (jY (r_short r (dI b) hrc.1 (by omega) (by omega) (by omega)))<|zM<|zE xJ<|zE xJ<|zM<|zM<|zZ) ?_
    refine jB<|qG (yG (t:=11) (k:=0) (es:=List.map jC q) rfl rfl (vW _ _ (fun _=>rfl)) (xR _ _ hql) (xY _ _ (fun _=>rfl) hql)) ?_
    refine kx [(4,(vl 107 1 jC (ofNat (val q)))),(5,(vl 107 1 jC (ofNat (val r / (dI b)))))] [] (zM<|zE (jY (nS false q hqd (by omega)))<|zE (oF1 bF zD)<|zM<|zM<|zM<|zZ) ?_
    refine jF ⟨_,(.tmp (d:=(.sl 107 1 (List.map jC (ofNat (val q))))) rfl (.tmp (d:=(.sl 107 1 (List.map jC (ofNat (val r / (dI b)))))) rfl .nil)),?_⟩
    rw[<- e1,<- e2];rfl
theorem r_gcd(x:kS)(y:kS)(hx:x.gs.length<=1099511627776)(hy:y.gs.length<=1099511627776):jQ Tryz.prog 97 [(jR x),(jR y)] (jR (kH ((Int.gcd (jV x) (jV y):Nat):Int))):=by
 have hvx:=eG x
 have hvy:=eG y
 refine uR Tryz.func97 ?_
 refine jB<|kx [(2,(.ref 0 0)),(3,(.ref 1 0)),(4,(.ref 2 0))] [(0,some (bx (jR x))),(1,some (bx (jR y))),(2,some (bx (jR (kS.mk false []))))] (zN (xO 0)<|zN (xO 1)<|zN (vH 2 nN nL)<|zZ) ?_
 refine jB<|kd [(5,(vl 107 1 jC (ofNat (Int.natAbs (jV x))))),(6,(vl 107 1 jC (ofNat (Int.natAbs (jV y)))))] [] mo (wR (kP kB)<|wE (jY (eH x (by omega)))<|wE (oF1 bF zD)<|wR (kP kB)<|wE (jY (eH y (by omega)))<|wE (oF1 bF zD)<|wM<|wM<|wZ) ?_
 refine jB<|jH<|kO (α:=List Nat × List Nat) (fun (a,b)=>⟨[(4,(.ref 2 0)),(5,(vl 107 1 jC a)),(6,(vl 107 1 jC b))],[(2,some (bx (jR (kS.mk false []))))]⟩) (fun (a,b)=>yY a/\yY b/\a.length<=1099511627776/\b.length<=1099511627776/\Nat.gcd (val a) (val b)=Int.gcd (jV x) (jV y)) (fun (a,b)=>val b) ((ofNat (Int.natAbs (jV x))),(ofNat (Int.natAbs (jV y)))) wk ⟨kY _,kY _,by omega,by omega,by rw[kD,kD];rfl⟩ ?_
 rintro ⟨a,b⟩ ⟨ha,hb,hla,hlb,hg⟩
 refine jB<|jB<|kx [(29,(vb (decide (0<((b.length:Nat):Int))&&(decide (2<((a.length:Nat):Int))||decide (2<((b.length:Nat):Int))))))] [] ?_ ?_
 ·refine zM<|zE (xW kG)<|zE dV<|zE (oV (vb (decide (0<((b.length:Nat):Int)))) (kW (by kernel_rfl)))<|?_
  rcases hb1:(decide (0<((b.length:Nat):Int))) with _ | _
  ·replace hb1:=xC hb1
   exact zK<|zK<|zK<|zK<|zK<|zK<|zK<|zK<|zE vL<|zZ
  ·replace hb1:=vY hb1
   refine zM<|zE (xW kG)<|zE dV<|zE (oV (vb (decide (2<((a.length:Nat):Int)))) (kW (by kernel_rfl)))<|?_
   rcases hb2:(decide (2<((a.length:Nat):Int))) with _ | _
   ·replace hb2:=xC hb2
    exact zM<|zE (xW kG)<|zE dV<|zE aC<|zE aD<|zZ
   ·replace hb2:=vY hb2
    exact zK<|zK<|zK<|zE yH<|zE yH<|zZ
 refine jE rfl (fun h3=>?_) (fun h3=>?_)
 ·have hbl:0<b.length:=by rw[Bool.and_eq_true,decide_eq_true_eq] at h3;omega
  have hb0:=cL hb hbl
  refine jD<|jH<|jB<|kx [(8,(vl 107 1 jC (ofNat (val a % val b))))] [] (zM<|zM<|zE (jY (r_parts a b ha hb (by omega) (by omega) (by omega)))<|zM<|zE xJ<|zE xJ<|zM<|zM<|zZ) ?_
  refine kx [(5,(vl 107 1 jC b)),(6,(vl 107 1 jC (ofNat (val a % val b))))] [] (zM<|zM<|zM<|zM<|zZ) ?_
  exact ⟨(b,ofNat (val a % val b)),wk,⟨hb,kY _,hlb,Nat.le_trans (len_rem a ha _) hla,by rw[kD,<- hg,Nat.gcd_comm,<- Nat.gcd_rec,Nat.gcd_comm]⟩,(by dsimp only;rw[kD];exact Nat.mod_lt _ hb0)⟩
 ·have hex:=h3
  refine kL<|jB<|jB<|kx [(40,(vb (((b.length:Nat):Int) == 0)))] [] (zM<|zE (xW kG)<|zE xU<|zZ) ?_
  refine jE (b:=(((b.length:Nat):Int) == 0)) rfl (fun h4=>?_) (fun h4=>?_)
  ·replace h4:=eq_of_beq h4
   have hb1:b=[]:=List.eq_nil_of_length_eq_zero (by omega)
   rw[hb1,val_nil,Nat.gcd_zero_right] at hg
   refine jB<|kx [] [(2,some (bx (jR (xI false (val a)))))] (zM<|zE (jY (nS false a ha.1 (by omega)))<|zT (qJ kB)<|zZ) ?_
   refine jF ⟨_,(kR (cs:=(bx (jR (xI false (val a))))) (d:=(jR (xI false (val a)))) rfl rfl kB rfl rfl .nil),?_⟩
   rw[<- hg,mkI_false];rfl
  ·replace h4:=ne_of_beq_false h4
   have hl2:a.length<=2/\b.length<=2:=by simp only[Bool.and_eq_false_iff,Bool.or_eq_false_iff,decide_eq_false_iff_not] at hex;omega
   refine jD<|jB<|kx [(9,(gE (val a))),(10,(gE (val b)))] [] (zM<|zE (jY (r_pair a ha.1 (by omega)))<|zM<|zE (jY (r_pair b hb.1 (by omega)))<|zM<|zM<|zZ) ?_
   refine jB<|jH<|kO (α:=Nat × Nat) (fun (m,n)=>⟨[(4,(.ref 2 0)),(9,(gE m)),(10,(gE n))],[(2,some (bx (jR (kS.mk false []))))]⟩) (fun (m,n)=>m<1000000000000000000/\n<1000000000000000000/\Nat.gcd m n=Int.gcd (jV x) (jV y)) (fun (m,n)=>n) (val a,val b) wk ⟨val_len2 ha.1 hl2.1,val_len2 hb.1 hl2.2,hg⟩ ?_
   rintro ⟨m,n⟩ ⟨hm,hn,hg2⟩
   refine jB<|jB<|kx [(48,(vb (decide (0<((n:Nat):Int)))))] [] (zM<|zE dV<|zZ) ?_
   refine jE (b:=decide (0<((n:Nat):Int))) rfl (fun h5=>?_) (fun h5=>?_)
   ·replace h5:=vY h5
    refine jD<|jH<|kd [(9,(gE n)),(10,(gE (m % n)))] [] mo (wM<|wM<|wM<|wE (oRe (m % n))<|wM<|wM<|wZ) ?_
    exact ⟨(n,m % n),wk,⟨hn,Nat.lt_of_le_of_lt (Nat.mod_le _ _) hm,by rw[<- hg2,Nat.gcd_comm,<- Nat.gcd_rec,Nat.gcd_comm]⟩,(by dsimp only;exact Nat.mod_lt _ (by omega))⟩
   ·replace h5:=xC h5
    obtain rfl:n=0:=by omega
    rw[Nat.gcd_zero_right] at hg2
    have hmv:val [m % 1000000000,m / 1000000000]=m:=by simp only[val];omega
    refine kL<|jB<|kx [] [(2,some (bx (jR (xI false (val [(m % 1000000000),(m / 1000000000)])))))] (zM<|zE (oRe (m % 1000000000))<|zE (cB nA gJ (m % 1000000000))<|zM<|zE (oQu (m / 1000000000))<|zE (cB nA gJ (m / 1000000000))<|zE (eY kG vQ yQ)<|zE (jY (nS false [(m % 1000000000),(m / 1000000000)] (yR.2 ⟨Nat.mod_lt _ (by decide),yR.2 ⟨by omega,gL⟩⟩) (by simp)))<|zT (qJ kB)<|zZ) ?_
    refine jF ⟨_,(kR (cs:=(bx (jR (xI false (val [(m % 1000000000),(m / 1000000000)]))))) (d:=(jR (xI false (val [(m % 1000000000),(m / 1000000000)])))) rfl rfl kB rfl rfl .nil),?_⟩
    rw[<- hg2,hmv,mkI_false];rfl
theorem r_compare(x:kS)(y:kS)(hx:x.gs.length<=274877906944)(hy:y.gs.length<=274877906944):jQ Tryz.prog 96 [(jR x),(jR y)] (.val (.int .i64 ((uT (jV x) (jV y))))):=by
 have hv:=gs_sub x y
 refine uR Tryz.func96 ?_
 refine jB<|kx [(2,(.ref 0 0)),(3,(.ref 1 0))] [(0,some (bx (jR x))),(1,some (bx (jR y)))] (zN (xO 0)<|zN (xO 1)<|zM<|zZ) ?_
 refine jB<|kx [(4,(vi (qS (jV (kH (jV x-jV y))))))] [] (zR (kP kB)<|zR (kP kB)<|zE (jY (r_sub x y (by omega) (by omega)))<|zE (jY (r_sign (kH (jV x-jV y)) (by omega)))<|zM<|zZ) ?_
 refine jF ⟨_,(.tmp (d:=(.val (.int .i64 ((qS (jV (kH (jV x-jV y)))))))) rfl .nil),?_⟩
 rw[cY,signI_sub];rfl
theorem r_divide(x:kS)(y:kS)(hx:x.gs.length<=274877906944)(hy:y.gs.length<=274877906944)(hy0:jV y≠0):jQ Tryz.prog 113 [(jR x),(jR y)] (.tup [(jR (kH ((jV x).fdiv (jV y)))),(jR (kH ((jV x).fmod (jV y)))),(.val (.int .i64 (0)))]):=by
 have hvx:=eG x
 have hvy:=eG y
 have hmx:=gs_val x
 have hmy:=gs_val y
 have hy1:0<(jV y).natAbs:=by omega
 have hyl:=eE hy1
 have hql:(ofNat (val (ofNat (Int.natAbs (jV x))) / val (ofNat (Int.natAbs (jV y))))).length<=274877906944:=by have:=len_quo (ofNat (Int.natAbs (jV x))) (kY _) (val (ofNat (Int.natAbs (jV y))));omega
 have hqg:(xI (!((kH (jV x)).neg == (kH (jV y)).neg)) (val (ofNat (val (ofNat (Int.natAbs (jV x))) / val (ofNat (Int.natAbs (jV y))))))).gs.length<=274877906944:=by show (ofNat (val (ofNat (val (ofNat (Int.natAbs (jV x))) / val (ofNat (Int.natAbs (jV y))))))).length<=_;rw[kD];exact hql
 have eC:(kH 1).gs.length<=1:=(iE (z:=1)).l
 have hqs:=gs_sub (xI (!((kH (jV x)).neg == (kH (jV y)).neg)) (val (ofNat (val (ofNat (Int.natAbs (jV x))) / val (ofNat (Int.natAbs (jV y))))))) (kH 1)
 refine uR Tryz.func113 ?_
 refine jB<|kx [(2,(.ref 0 0)),(3,(.ref 1 0)),(4,(.ref 2 0)),(5,(.ref 3 0))] [(0,some (bx (jR x))),(1,some (bx (jR y))),(2,some (bx (jR (kS.mk false [])))),(3,some (bx (jR (kS.mk false []))))] (zN (xO 0)<|zN (xO 1)<|zN (vH 2 nN nL)<|zN (vH 3 nN nL)<|zM<|zZ) ?_
 refine jB<|kd [] [(0,some (bx (jR (kH (jV x))))),(1,some (bx (jR (kH (jV y)))))] mo (wR (kP kB)<|wE (jY (eH x (by omega)))<|wR (kP kB)<|wE (jY (eH y (by omega)))<|wT (qJ kB)<|wT (qJ kB)<|wZ) ?_
 refine jB<|jB<|kx [(17,(vb ((((ofNat (Int.natAbs (jV y))).length:Nat):Int) == 0)))] [] (zE (kI vG)<|zR (qH zD)<|zE (xW kG (L:=(ofNat (Int.natAbs (jV y)))))<|zE xU<|zZ) ?_
 refine jE rfl (fun h1=>?_) (fun h1=>?_)
 ·replace h1:=eq_of_beq h1
  exact absurd h1 (by omega)
 ·replace h1:=ne_of_beq_false h1
  refine jD<|jB<|kx [(7,(vl 107 1 jC (ofNat (val (ofNat (Int.natAbs (jV x))) / val (ofNat (Int.natAbs (jV y))))))),(8,(vl 107 1 jC (ofNat (val (ofNat (Int.natAbs (jV x))) % val (ofNat (Int.natAbs (jV y)))))))] [] (zE (kI vG)<|zR (qH zD)<|zE (kI vG)<|zR (qH zD)<|zE (jY (r_parts (ofNat (Int.natAbs (jV x))) (ofNat (Int.natAbs (jV y))) (by first | assumption | exact kY _ | exact qB _) (by first | assumption | exact kY _ | exact qB _) (by omega) (by omega) (by omega)))<|zM<|zE xJ<|zE xJ<|zM<|zM<|zZ) ?_
  refine jB<|kx [(9,(.ref 4 0))] [(4,some (bx (jR (xI (!(((kH (jV x)).neg) == ((kH (jV y)).neg))) (val (ofNat (val (ofNat (Int.natAbs (jV x))) / val (ofNat (Int.natAbs (jV y))))))))))] (zE (kI vK)<|zR (qH aU)<|zE (kI vK)<|zR (qH aU)<|zE (oNb bo4)<|zM<|zE (jY (nS (!(((kH (jV x)).neg) == ((kH (jV y)).neg))) (ofNat (val (ofNat (Int.natAbs (jV x))) / val (ofNat (Int.natAbs (jV y))))) (kE _) (by omega)))<|zN (vH 4 nN nL)<|zT (qJ kB)<|zZ) ?_
  refine jB<|jB<|kx [(44,(vb (!(((kH (jV x)).neg) == ((kH (jV y)).neg))&&decide (0<(((ofNat (val (ofNat (Int.natAbs (jV x))) % val (ofNat (Int.natAbs (jV y))))).length:Nat):Int)))))] [] ?_ ?_
  ·refine zE (kI vK)<|zR (qH aU)<|zE (kI vK)<|zR (qH aU)<|zE (oNb bo4)<|zE (oV (vb (!(((kH (jV x)).neg) == ((kH (jV y)).neg)))) (kW (by kernel_rfl)))<|?_
   rcases hb2:(!(((kH (jV x)).neg) == ((kH (jV y)).neg))) with _ | _
   ·exact zK<|zK<|zK<|zE vL<|zZ
   ·exact zM<|zE (xW kG (L:=(ofNat (val (ofNat (Int.natAbs (jV x))) % val (ofNat (Int.natAbs (jV y)))))))<|zE dV<|zE aD<|zZ
  refine jE rfl (fun h3=>?_) (fun h3=>?_)
  ·have hqm:=gs_mul (kH (jV (xI (!((kH (jV x)).neg == (kH (jV y)).neg)) (val (ofNat (val (ofNat (Int.natAbs (jV x))) / val (ofNat (Int.natAbs (jV y)))))))-jV (kH 1))) (kH (jV y))
   have hk:=r_div_other (X:=jV x) (Y:=jV y) hy1 (by rw[Bool.and_eq_true,Bool.not_eq_true',beq_eq_false_iff_ne,decide_eq_true_eq] at h3;exact h3)
   refine kd [] [(4,some (bx (jR (kH (jV (xI (!(((kH (jV x)).neg) == ((kH (jV y)).neg))) (val (ofNat (val (ofNat (Int.natAbs (jV x))) / val (ofNat (Int.natAbs (jV y)))))))-jV (kH 1))))))] mo (wR (kP kB)<|wE (jY (r_of 1 (by omega) (by omega)))<|wE (jY (r_sub (xI (!(((kH (jV x)).neg) == ((kH (jV y)).neg))) (val (ofNat (val (ofNat (Int.natAbs (jV x))) / val (ofNat (Int.natAbs (jV y))))))) (kH 1) (by omega) (by omega)))<|wT (qJ kB)<|wZ) ?_
   refine jB<|kd [(6,(kF 0))] [(2,some (bx (jR (kH (jV (xI (!(((kH (jV x)).neg) == ((kH (jV y)).neg))) (val (ofNat (val (ofNat (Int.natAbs (jV x))) / val (ofNat (Int.natAbs (jV y)))))))-jV (kH 1)))))),(3,some (bx (jR (kH (jV (kH (jV x))-jV (kH (jV (kH (jV (xI (!(((kH (jV x)).neg) == ((kH (jV y)).neg))) (val (ofNat (val (ofNat (Int.natAbs (jV x))) / val (ofNat (Int.natAbs (jV y)))))))-jV (kH 1)))*jV (kH (jV y)))))))))] mo (wR (kP kB)<|wR (kP kB)<|wR (kP kB)<|wR (kP kB)<|wE (jY (r_mul (kH (jV (xI (!(((kH (jV x)).neg) == ((kH (jV y)).neg))) (val (ofNat (val (ofNat (Int.natAbs (jV x))) / val (ofNat (Int.natAbs (jV y)))))))-jV (kH 1))) (kH (jV y)) (by omega) (by omega)))<|wE (jY (r_sub (kH (jV x)) (kH (jV (kH (jV (xI (!(((kH (jV x)).neg) == ((kH (jV y)).neg))) (val (ofNat (val (ofNat (Int.natAbs (jV x))) / val (ofNat (Int.natAbs (jV y)))))))-jV (kH 1)))*jV (kH (jV y)))) (by omega) (by omega)))<|wT (qJ kB)<|wT (qJ kB)<|wM<|wZ) ?_
   refine jF ⟨_,(kR (cs:=(bx (jR (kH (jV (xI (!(((kH (jV x)).neg) == ((kH (jV y)).neg))) (val (ofNat (val (ofNat (Int.natAbs (jV x))) / val (ofNat (Int.natAbs (jV y)))))))-jV (kH 1)))))) (d:=(jR (kH (jV (xI (!(((kH (jV x)).neg) == ((kH (jV y)).neg))) (val (ofNat (val (ofNat (Int.natAbs (jV x))) / val (ofNat (Int.natAbs (jV y)))))))-jV (kH 1))))) rfl rfl kB rfl rfl (kR (cs:=(bx (jR (kH (jV (kH (jV x))-jV (kH (jV (kH (jV (xI (!(((kH (jV x)).neg) == ((kH (jV y)).neg))) (val (ofNat (val (ofNat (Int.natAbs (jV x))) / val (ofNat (Int.natAbs (jV y)))))))-jV (kH 1)))*jV (kH (jV y))))))))) (d:=(jR (kH (jV (kH (jV x))-jV (kH (jV (kH (jV (xI (!(((kH (jV x)).neg) == ((kH (jV y)).neg))) (val (ofNat (val (ofNat (Int.natAbs (jV x))) / val (ofNat (Int.natAbs (jV y)))))))-jV (kH 1)))*jV (kH (jV y)))))))) rfl rfl kB rfl rfl (.tmp (d:=(.val (.int .i64 (0)))) rfl .nil))),?_⟩
   rw[hk,r_rem_eq];rfl
  ·have hqm:=gs_mul (xI (!((kH (jV x)).neg == (kH (jV y)).neg)) (val (ofNat (val (ofNat (Int.natAbs (jV x))) / val (ofNat (Int.natAbs (jV y))))))) (kH (jV y))
   have hk:=r_div_same (X:=jV x) (Y:=jV y) hy1 (by rw[Bool.and_eq_false_iff,Bool.not_eq_false',beq_iff_eq,decide_eq_false_iff_not] at h3;exact h3)
   refine jD<|jB<|kd [(6,(kF 0))] [(2,some (bx (jR (xI (!(((kH (jV x)).neg) == ((kH (jV y)).neg))) (val (ofNat (val (ofNat (Int.natAbs (jV x))) / val (ofNat (Int.natAbs (jV y)))))))))),(3,some (bx (jR (kH (jV (kH (jV x))-jV (kH (jV (xI (!(((kH (jV x)).neg) == ((kH (jV y)).neg))) (val (ofNat (val (ofNat (Int.natAbs (jV x))) / val (ofNat (Int.natAbs (jV y)))))))*jV (kH (jV y)))))))))] mo (wR (kP kB)<|wR (kP kB)<|wR (kP kB)<|wR (kP kB)<|wE (jY (r_mul (xI (!(((kH (jV x)).neg) == ((kH (jV y)).neg))) (val (ofNat (val (ofNat (Int.natAbs (jV x))) / val (ofNat (Int.natAbs (jV y))))))) (kH (jV y)) (by omega) (by omega)))<|wE (jY (r_sub (kH (jV x)) (kH (jV (xI (!(((kH (jV x)).neg) == ((kH (jV y)).neg))) (val (ofNat (val (ofNat (Int.natAbs (jV x))) / val (ofNat (Int.natAbs (jV y)))))))*jV (kH (jV y)))) (by omega) (by omega)))<|wT (qJ kB)<|wT (qJ kB)<|wM<|wZ) ?_
   refine jF ⟨_,(kR (cs:=(bx (jR (xI (!(((kH (jV x)).neg) == ((kH (jV y)).neg))) (val (ofNat (val (ofNat (Int.natAbs (jV x))) / val (ofNat (Int.natAbs (jV y)))))))))) (d:=(jR (xI (!(((kH (jV x)).neg) == ((kH (jV y)).neg))) (val (ofNat (val (ofNat (Int.natAbs (jV x))) / val (ofNat (Int.natAbs (jV y))))))))) rfl rfl kB rfl rfl (kR (cs:=(bx (jR (kH (jV (kH (jV x))-jV (kH (jV (xI (!(((kH (jV x)).neg) == ((kH (jV y)).neg))) (val (ofNat (val (ofNat (Int.natAbs (jV x))) / val (ofNat (Int.natAbs (jV y)))))))*jV (kH (jV y))))))))) (d:=(jR (kH (jV (kH (jV x))-jV (kH (jV (xI (!(((kH (jV x)).neg) == ((kH (jV y)).neg))) (val (ofNat (val (ofNat (Int.natAbs (jV x))) / val (ofNat (Int.natAbs (jV y)))))))*jV (kH (jV y)))))))) rfl rfl kB rfl rfl (.tmp (d:=(.val (.int .i64 (0)))) rfl .nil))),?_⟩
   rw[hk,r_rem_eq];rfl
end Go.Proofs.YtckccjhflbljgaaGreatDoor
