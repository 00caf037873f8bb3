/- Part 24 of a proof: rules, plain facts, and functions walked. -/
import Derived.Test.YtckccjhflbljgaaGreatDoorM23
set_option linter.all false
set_option maxRecDepth 4000
namespace Go.Proofs.YtckccjhflbljgaaGreatDoor
open Go.Fid
theorem r_neg(x:kW)(hx:x.gs.length<=1099511627776):jS Tryz.prog 93 [(jR x)] (jR (kM (-jX x))):=by
 have hvx:=eD x
 refine uW Tryz.func93 ?_
 refine jB<|kx [(1,(.ref 0 0)),(2,(.ref 1 0))] [(0,some (bx (jR x))),(1,some (bx (jR (kW.mk false []))))] (zN (vX 0)<|zN (uJ 1 nM nN)<|zZ) ?_
 refine jB<|kx [] [(0,some (bx (jR (kM (jX x)))))] (zR (kR kD)<|zE (kB (dW x (by omega)))<|zT (qM kD)<|zZ) ?_
 refine jB<|kx [] [(1,some (bx (jR (xN (!((kM (jX x)).neg)) (val (ofNat (Int.natAbs (jX x))))))))] (zE (kN vO)<|zR (qJ fG)<|zE cC<|zE (kN vK)<|zR (qJ xX)<|zE (kB (nR (!((kM (jX x)).neg)) (ofNat (Int.natAbs (jX x))) (by first | assumption | exact kI _ | exact (qB _).1 | exact (qG _).1) (by omega)))<|zT (qM kD)<|zZ) ?_
 refine jD ⟨_,(kS (cs:=(bx (jR (xN (!((kM (jX x)).neg)) (val (ofNat (Int.natAbs (jX x)))))))) (d:=(jR (xN (!((kM (jX x)).neg)) (val (ofNat (Int.natAbs (jX x))))))) rfl rfl kD rfl rfl .nil),?_⟩
 rw[<- rneg_eq];rfl
theorem r_sign(x:kW)(hx:x.gs.length<=1099511627776):jS Tryz.prog 95 [(jR x)] (.val (.int .i64 ((qV (jX x))))):=by
 have hvx:=eD x
 refine uW Tryz.func95 ?_
 refine jB<|kx [(1,(.ref 0 0))] [(0,some (bx (jR x)))] (zN (vX 0)<|zM<|zZ) ?_
 refine jB<|kx [] [(0,some (bx (jR (kM (jX x)))))] (zR (kR kD)<|zE (kB (dW x (by omega)))<|zT (qM kD)<|zZ) ?_
 refine jB<|jB<|kx [(8,(vb ((((ofNat (Int.natAbs (jX x))).length:Nat):Int) == 0)))] [] (zE (kN vK)<|zR (qJ xX)<|zE (yH kJ (L:=(ofNat (Int.natAbs (jX x)))))<|zE yP<|zZ) ?_
 refine jF rfl (fun h1=>?_) (fun h1=>?_)
 ·replace h1:=eq_of_beq h1
  refine jB<|kx [(2,(jT 0))] [] (zM<|zZ) ?_
  refine jD ⟨_,(.tmp (d:=(.val (.int .i64 (0)))) rfl .nil),?_⟩
  rw[rsign_zero h1];rfl
 ·replace h1:=ne_of_beq_false h1
  refine jE<|jB<|jB<|kx [(10,(vb ((kM (jX x)).neg)))] [] (zE (kN vO)<|zR (qJ fG)<|zZ) ?_
  refine jF (b:=(kM (jX x)).neg) rfl (fun h2=>?_) (fun h2=>?_)
  ·refine jB<|kx [(2,(vi (-1)))] [] (zM<|zZ) ?_
   refine jD ⟨_,(.tmp (d:=(.val (.int .i64 (-1)))) rfl .nil),?_⟩
   rw[rsign_neg h1 h2];rfl
  ·refine jE<|jB<|kx [(2,(jT 1))] [] (zM<|zZ) ?_
   refine jD ⟨_,(.tmp (d:=(.val (.int .i64 (1)))) rfl .nil),?_⟩
   rw[rsign_pos h1 h2];rfl
theorem r_add(x:kW)(y:kW)(hx:x.gs.length<=1099511627776)(hy:y.gs.length<=1099511627776):jS Tryz.prog 71 [(jR x),(jR y)] (jR (kM (jX x+jX y))):=by
 have hvx:=eD x
 have hvy:=eD y
 refine uW Tryz.func71 ?_
 refine jB<|kx [(2,(.ref 0 0)),(3,(.ref 1 0)),(4,(.ref 2 0))] [(0,some (bx (jR x))),(1,some (bx (jR y))),(2,some (bx (jR (kW.mk false []))))] (zN (vX 0)<|zN (vX 1)<|zN (uJ 2 nM nN)<|zZ) ?_
 refine jB<|kd [] [(0,some (bx (jR (kM (jX x))))),(1,some (bx (jR (kM (jX y)))))] mo (wR (kR kD)<|wE (kB (dW x (by omega)))<|wR (kR kD)<|wE (kB (dW y (by omega)))<|wT (qM kD)<|wT (qM kD)<|wZ) ?_
 refine jB<|jB<|kx [(13,(vb (((kM (jX x)).neg) == ((kM (jX y)).neg))))] [] (zE (kN vO)<|zR (qJ fG)<|zE (kN vO)<|zR (qJ fG)<|zE (oEb bo4)<|zZ) ?_
 refine jF rfl (fun h1=>?_) (fun h1=>?_)
 ·replace h1:=eq_of_beq h1
  refine jB<|kd [] [(2,some (bx (jR (xN ((kM (jX x)).neg) (val (ofNat (val (ofNat (Int.natAbs (jX x)))+val (ofNat (Int.natAbs (jX y))))))))))] mo (wE (kN vO)<|wR (qJ fG)<|wE (kN vK)<|wR (qJ xX)<|wE (kN vK)<|wR (qJ xX)<|wE (kB (r_plus (ofNat (Int.natAbs (jX x))) (ofNat (Int.natAbs (jX y))) (by first | assumption | exact kI _ | exact (qB _).1 | exact (qG _).1) (by first | assumption | exact kI _ | exact (qB _).1 | exact (qG _).1) (by omega) (by omega)))<|wE (kB (nR ((kM (jX x)).neg) (ofNat (val (ofNat (Int.natAbs (jX x)))+val (ofNat (Int.natAbs (jX y))))) (by first | assumption | exact kI _ | exact (qB _).1 | exact (qG _).1) (by first | omega | exact Nat.le_trans (add_len (kI _) (kI _)) (by omega) | exact Nat.le_trans (sub_len (kI _)) (by omega))))<|wT (qM kD)<|wZ) ?_
  refine jD ⟨_,(kS (cs:=(bx (jR (xN ((kM (jX x)).neg) (val (ofNat (val (ofNat (Int.natAbs (jX x)))+val (ofNat (Int.natAbs (jX y)))))))))) (d:=(jR (xN ((kM (jX x)).neg) (val (ofNat (val (ofNat (Int.natAbs (jX x)))+val (ofNat (Int.natAbs (jX y))))))))) rfl rfl kD rfl rfl .nil),?_⟩
  rw[<- rsum_same h1];rfl
 ·replace h1:=ne_of_beq_false h1
  refine jE<|jB<|jB<|kx [(27,(vb (decide (0<=(vD ((val (ofNat (Int.natAbs (jX x))):Nat):Int) ((val (ofNat (Int.natAbs (jX y))):Nat):Int))))))] [] (zE (kN vK)<|zR (qJ xX)<|zE (kN vK)<|zR (qJ xX)<|zE (kB (r_size (ofNat (Int.natAbs (jX x))) (ofNat (Int.natAbs (jX y))) (by first | assumption | exact qB _ | exact qG _) (by first | assumption | exact qB _ | exact qG _) (by omega) (by omega)))<|zE oGe<|zZ) ?_
  refine jF rfl (fun h2=>?_) (fun h2=>?_)
  ·replace h2:=vT h2
   refine jB<|kd [] [(2,some (bx (jR (xN ((kM (jX x)).neg) (val (ofNat (val (ofNat (Int.natAbs (jX x)))-val (ofNat (Int.natAbs (jX y))))))))))] mo (wE (kN vO)<|wR (qJ fG)<|wE (kN vK)<|wR (qJ xX)<|wE (kN vK)<|wR (qJ xX)<|wE (kB (r_minus (ofNat (Int.natAbs (jX x))) (ofNat (Int.natAbs (jX y))) (by first | assumption | exact kI _ | exact (qB _).1 | exact (qG _).1) (by first | assumption | exact kI _ | exact (qB _).1 | exact (qG _).1) (by have:=lE h2;omega) (by omega)))<|wE (kB (nR ((kM (jX x)).neg) (ofNat (val (ofNat (Int.natAbs (jX x)))-val (ofNat (Int.natAbs (jX y))))) (by first | assumption | exact kI _ | exact (qB _).1 | exact (qG _).1) (by first | omega | exact Nat.le_trans (add_len (kI _) (kI _)) (by omega) | exact Nat.le_trans (sub_len (kI _)) (by omega))))<|wT (qM kD)<|wZ) ?_
   refine jD ⟨_,(kS (cs:=(bx (jR (xN ((kM (jX x)).neg) (val (ofNat (val (ofNat (Int.natAbs (jX x)))-val (ofNat (Int.natAbs (jX y)))))))))) (d:=(jR (xN ((kM (jX x)).neg) (val (ofNat (val (ofNat (Int.natAbs (jX x)))-val (ofNat (Int.natAbs (jX y))))))))) rfl rfl kD rfl rfl .nil),?_⟩
   rw[<- rsum_first h1 (by have:=lE h2;omega)];rfl
  ·replace h2:=xC h2
   refine jE<|jB<|kd [] [(2,some (bx (jR (xN ((kM (jX y)).neg) (val (ofNat (val (ofNat (Int.natAbs (jX y)))-val (ofNat (Int.natAbs (jX x))))))))))] mo (wE (kN vO)<|wR (qJ fG)<|wE (kN vK)<|wR (qJ xX)<|wE (kN vK)<|wR (qJ xX)<|wE (kB (r_minus (ofNat (Int.natAbs (jX y))) (ofNat (Int.natAbs (jX x))) (by first | assumption | exact kI _ | exact (qB _).1 | exact (qG _).1) (by first | assumption | exact kI _ | exact (qB _).1 | exact (qG _).1) (by have:=cmpI_lt h2;omega) (by omega)))<|wE (kB (nR ((kM (jX y)).neg) (ofNat (val (ofNat (Int.natAbs (jX y)))-val (ofNat (Int.natAbs (jX x))))) (by first | assumption | exact kI _ | exact (qB _).1 | exact (qG _).1) (by first | omega | exact Nat.le_trans (add_len (kI _) (kI _)) (by omega) | exact Nat.le_trans (sub_len (kI _)) (by omega))))<|wT (qM kD)<|wZ) ?_
   refine jD ⟨_,(kS (cs:=(bx (jR (xN ((kM (jX y)).neg) (val (ofNat (val (ofNat (Int.natAbs (jX y)))-val (ofNat (Int.natAbs (jX x)))))))))) (d:=(jR (xN ((kM (jX y)).neg) (val (ofNat (val (ofNat (Int.natAbs (jX y)))-val (ofNat (Int.natAbs (jX x))))))))) rfl rfl kD rfl rfl .nil),?_⟩
   rw[<- rsum_second h1 (by have:=cmpI_lt h2;omega)];rfl
theorem r_sub(x:kW)(y:kW)(hx:x.gs.length<=1099511627776)(hy:y.gs.length<=1099511627776):jS Tryz.prog 163 [(jR x),(jR y)] (jR (kM (jX x-jX y))):=by
 have hv:=gs_neg y
 refine uW Tryz.func163 ?_
 refine jB<|kx [(2,(.ref 0 0)),(3,(.ref 1 0)),(4,(.ref 2 0))] [(0,some (bx (jR x))),(1,some (bx (jR y))),(2,some (bx (jR (kW.mk false []))))] (zN (vX 0)<|zN (vX 1)<|zN (uJ 2 nM nN)<|zZ) ?_
 refine jB<|kd [] [(2,some (bx (jR (kM (jX x+jX (kM (-jX y)))))))] mo (wR (kR kD)<|wR (kR kD)<|wE (kB (r_neg y (by omega)))<|wE (kB (r_add x (kM (-jX y)) (by omega) (by omega)))<|wT (qM kD)<|wZ) ?_
 refine jD ⟨_,(kS (cs:=(bx (jR (kM (jX x+jX (kM (-jX y))))))) (d:=(jR (kM (jX x+jX (kM (-jX y)))))) rfl rfl kD rfl rfl .nil),?_⟩
 rw[cS,<- Int.sub_eq_add_neg];rfl
theorem r_mul(x:kW)(y:kW)(hx:x.gs.length<=1099511627776)(hy:y.gs.length<=1099511627776):jS Tryz.prog 72 [(jR x),(jR y)] (jR (kM (jX x*jX y))):=by
 have hvx:=eD x
 have hvy:=eD y
 have hda:=kI (Int.natAbs (jX x))
 have hdb:=kI (Int.natAbs (jX y))
 refine uW Tryz.func72 ?_
 refine jB<|kx [(2,(.ref 0 0)),(3,(.ref 1 0)),(4,(.ref 2 0))] [(0,some (bx (jR x))),(1,some (bx (jR y))),(2,some (bx (jR (kW.mk false []))))] (zN (vX 0)<|zN (vX 1)<|zN (uJ 2 nM nN)<|zZ) ?_
 refine jB<|kd [] [(0,some (bx (jR (kM (jX x))))),(1,some (bx (jR (kM (jX y)))))] mo (wR (kR kD)<|wE (kB (dW x (by omega)))<|wR (kR kD)<|wE (kB (dW y (by omega)))<|wT (qM kD)<|wT (qM kD)<|wZ) ?_
 refine jB<|kx [(5,(.own 3 107 1 ((ofNat (Int.natAbs (jX x))).length+(ofNat (Int.natAbs (jX y))).length)))] [(3,some (bm jC (List.replicate ((ofNat (Int.natAbs (jX x))).length+(ofNat (Int.natAbs (jX y))).length) 0)))] (zE (kN vK)<|zR (qJ xX)<|zE (yH kJ (L:=(ofNat (Int.natAbs (jX x)))))<|zE (kN vK)<|zR (qJ xX)<|zE (yH kJ (L:=(ofNat (Int.natAbs (jX y)))))<|zE (xD ((ofNat (Int.natAbs (jX x))).length+(ofNat (Int.natAbs (jX y))).length))<|zN (oMk 3 jC (0:Nat) ((ofNat (Int.natAbs (jX x))).length+(ofNat (Int.natAbs (jX y))).length) ((ofNat (Int.natAbs (jX x))).length+(ofNat (Int.natAbs (jX y))).length) kJ vY yT nY)<|zM<|zZ) ?_
 refine jB<|jB<|kx [(6,(jT 0))] [] (zM<|zZ) ?_
 refine jH<|kQ (α:=Nat × List Nat) (fun (i,out)=>⟨[(2,(.ref 0 0)),(3,(.ref 1 0)),(4,(.ref 2 0)),(5,(.own 3 107 1 ((ofNat (Int.natAbs (jX x))).length+(ofNat (Int.natAbs (jX y))).length))),(6,(jT i))],[(0,some (bx (jR (kM (jX x))))),(1,some (bx (jR (kM (jX y))))),(2,some (bx (jR (kW.mk false [])))),(3,some (bm jC out))]⟩) (fun (i,out)=>out.length=(ofNat (Int.natAbs (jX x))).length+(ofNat (Int.natAbs (jX y))).length/\Dig out/\i<=(ofNat (Int.natAbs (jX x))).length/\(∀ k,i+(ofNat (Int.natAbs (jX y))).length<=k->out.getD k 0=0)/\val out=val ((ofNat (Int.natAbs (jX x))).take i)*val (ofNat (Int.natAbs (jX y)))) (fun (i,out)=>(ofNat (Int.natAbs (jX x))).length-i) (0,List.replicate ((ofNat (Int.natAbs (jX x))).length+(ofNat (Int.natAbs (jX y))).length) 0) wk ⟨by simp,zP _,Nat.zero_le _,fun k _=>fS _ k,by simp [val,dZ]⟩ ?_
 rintro ⟨i,out⟩ ⟨qO,hdo,hi,hz,hv⟩
 have hai:=hda.getD i
 refine jB<|jB<|kx [(26,(vb (decide (((i:Nat):Int)<(((ofNat (Int.natAbs (jX x))).length:Nat):Int)))))] [] (zM<|zE (kN vK)<|zR (qJ xX)<|zE (yH kJ (L:=(ofNat (Int.natAbs (jX x)))))<|zE yY<|zZ) ?_
 refine jF rfl (fun h1=>?_) (fun h1=>?_)
 ·replace h1:=vT h1
  refine jE<|jB<|jH<|jB<|kx [(7,(gN 0))] [] (zM<|zZ) ?_
  refine jB<|jB<|kx [(8,(jT 0))] [] (zM<|zZ) ?_
  refine jH<|kQ (α:=Nat × List Nat × Nat) (fun (j,o2,c)=>⟨[(2,(.ref 0 0)),(3,(.ref 1 0)),(4,(.ref 2 0)),(5,(.own 3 107 1 ((ofNat (Int.natAbs (jX x))).length+(ofNat (Int.natAbs (jX y))).length))),(6,(jT i)),(7,(gN c)),(8,(jT j))],[(0,some (bx (jR (kM (jX x))))),(1,some (bx (jR (kM (jX y))))),(2,some (bx (jR (kW.mk false [])))),(3,some (bm jC o2))]⟩) (fun (j,o2,c)=>o2.length=(ofNat (Int.natAbs (jX x))).length+(ofNat (Int.natAbs (jX y))).length/\Dig o2/\j<=(ofNat (Int.natAbs (jX y))).length/\c<1000000000/\(∀ k,i+(ofNat (Int.natAbs (jX y))).length<=k->o2.getD k 0=0)/\val o2+pw (i+j)*c=val ((ofNat (Int.natAbs (jX x))).take i)*val (ofNat (Int.natAbs (jX y)))+pw i*((ofNat (Int.natAbs (jX x))).getD i 0*val ((ofNat (Int.natAbs (jX y))).take j))) (fun (j,o2,c)=>(ofNat (Int.natAbs (jX y))).length-j) (0,out,0) wk ⟨qO,hdo,Nat.zero_le _,by decide,hz,by simp [val,hv]⟩ ?_
  rintro ⟨j,o2,c⟩ ⟨hlen2,hdo2,hj,hc,hz2,hv2⟩
  have hbj:=hdb.getD j
  have hoj:=hdo2.getD (i+j)
  have hpq:(ofNat (Int.natAbs (jX x))).getD i 0*(ofNat (Int.natAbs (jX y))).getD j 0<=999999999*999999999:=Nat.mul_le_mul (by omega) (by omega)
  refine jB<|jB<|kx [(33,(vb (decide (((j:Nat):Int)<(((ofNat (Int.natAbs (jX y))).length:Nat):Int)))))] [] (zM<|zE (kN vK)<|zR (qJ xX)<|zE (yH kJ (L:=(ofNat (Int.natAbs (jX y)))))<|zE yY<|zZ) ?_
  refine jF rfl (fun h2=>?_) (fun h2=>?_)
  ·replace h2:=vT h2
   refine jE<|jB<|jH<|jB<|kd [(9,(gN (((o2.getD (i+j) 0)+(((ofNat (Int.natAbs (jX x))).getD i 0)*((ofNat (Int.natAbs (jX y))).getD j 0)))+c)))] [] mo (wM<|wM<|wM<|wE (xD (i+j))<|wE (yK kJ (i+j))<|wR (eQ qP (i+j) (0:Nat))<|wE (mP yU yM (o2.getD (i+j) 0))<|wE (kN vK)<|wR (qJ xX)<|wM<|wE (dA kJ i (0:Nat) (L:=(ofNat (Int.natAbs (jX x)))))<|wE (nX qP)<|wE (mP yU yM ((ofNat (Int.natAbs (jX x))).getD i 0))<|wE (kN vK)<|wR (qJ xX)<|wM<|wE (dA kJ j (0:Nat) (L:=(ofNat (Int.natAbs (jX y)))))<|wE (nX qP)<|wE (mP yU yM ((ofNat (Int.natAbs (jX y))).getD j 0))<|wE (oMl (((ofNat (Int.natAbs (jX x))).getD i 0)*((ofNat (Int.natAbs (jX y))).getD j 0)))<|wE (xD ((o2.getD (i+j) 0)+(((ofNat (Int.natAbs (jX x))).getD i 0)*((ofNat (Int.natAbs (jX y))).getD j 0))))<|wM<|wE (xD (((o2.getD (i+j) 0)+(((ofNat (Int.natAbs (jX x))).getD i 0)*((ofNat (Int.natAbs (jX y))).getD j 0)))+c))<|wM<|wZ) ?_
   refine jB<|kx [] [(3,some (bm jC (o2.set (i+j) ((((o2.getD (i+j) 0)+(((ofNat (Int.natAbs (jX x))).getD i 0)*((ofNat (Int.natAbs (jX y))).getD j 0)))+c) % 1000000000))))] (zM<|zM<|zM<|zE (xD (i+j))<|zM<|zE (oRe ((((o2.getD (i+j) 0)+(((ofNat (Int.natAbs (jX x))).getD i 0)*((ofNat (Int.natAbs (jX y))).getD j 0)))+c) % 1000000000))<|zE (mP nC gV ((((o2.getD (i+j) 0)+(((ofNat (Int.natAbs (jX x))).getD i 0)*((ofNat (Int.natAbs (jX y))).getD j 0)))+c) % 1000000000))<|zE (yK kJ (i+j))<|zT (eR qP (i+j) ((((o2.getD (i+j) 0)+(((ofNat (Int.natAbs (jX x))).getD i 0)*((ofNat (Int.natAbs (jX y))).getD j 0)))+c) % 1000000000))<|zZ) ?_
   refine kx [(7,(gN ((((o2.getD (i+j) 0)+(((ofNat (Int.natAbs (jX x))).getD i 0)*((ofNat (Int.natAbs (jX y))).getD j 0)))+c) / 1000000000)))] [] (zM<|zE (oQu ((((o2.getD (i+j) 0)+(((ofNat (Int.natAbs (jX x))).getD i 0)*((ofNat (Int.natAbs (jX y))).getD j 0)))+c) / 1000000000))<|zM<|zZ) ?_
   refine kx [(8,(jT (j+1)))] [] (zM<|zE (xD (j+1))<|zM<|zZ) ?_
   exact ⟨(j+1,o2.set (i+j) ((o2.getD (i+j) 0+(ofNat (Int.natAbs (jX x))).getD i 0*(ofNat (Int.natAbs (jX y))).getD j 0+c) % 1000000000),(o2.getD (i+j) 0+(ofNat (Int.natAbs (jX x))).getD i 0*(ofNat (Int.natAbs (jX y))).getD j 0+c) / 1000000000),wk,(by obtain ⟨q1,q2⟩:=times_step (by omega) hdo2 hv2 rfl (val_take_succ _ j);exact ⟨by simpa using hlen2,q1,by omega,by omega,zero_set (by omega) hz2,q2⟩),(by first|omega|(dsimp only;omega))⟩
  ·replace h2:=xC h2
   have hje:j=(ofNat (Int.natAbs (jX y))).length:=by omega
   rw[hje] at hv2
   refine kL<|kx [] [(3,some (bm jC (o2.set (i+(ofNat (Int.natAbs (jX y))).length) c)))] (zM<|zM<|zE (kN vK)<|zR (qJ xX)<|zE (yH kJ (L:=(ofNat (Int.natAbs (jX y)))))<|zE (xD (i+(ofNat (Int.natAbs (jX y))).length))<|zM<|zE (mP nC gV c)<|zE (yK kJ (i+(ofNat (Int.natAbs (jX y))).length))<|zT (eR qP (i+(ofNat (Int.natAbs (jX y))).length) c)<|zZ) ?_
   refine kx [(6,(jT (i+1)))] [] (zM<|zE (xD (i+1))<|zM<|zZ) ?_
   exact ⟨(i+1,o2.set (i+(ofNat (Int.natAbs (jX y))).length) c),wk,(by obtain ⟨q1,q2,q3,q4⟩:=times_row hdo2 (by omega) hlen2 hz2 hc hv2;exact ⟨q1,q2,by omega,q3,q4⟩),(by first|omega|(dsimp only;omega))⟩
 ·replace h1:=xC h1
  have hie:i=(ofNat (Int.natAbs (jX x))).length:=by omega
  rw[hie,List.take_length] at hv
  refine kL<|jB<|kG (yL (t:=5) (k:=3) (es:=List.map jC out) rfl rfl (vQ _ _ (fun _=>rfl)) (vS _ _ qO) (xP _ _ (fun _=>rfl) qO)) ?_
  refine kx [] [(2,some (bx (jR (xN (!(((kM (jX x)).neg) == ((kM (jX y)).neg))) (val out)))))] (zE (kN vO)<|zR (qJ fG)<|zE (kN vO)<|zR (qJ fG)<|zE (oNb bo4)<|zM<|zE (kB (nR (!(((kM (jX x)).neg) == ((kM (jX y)).neg))) out hdo (by omega)))<|zT (qM kD)<|zZ) ?_
  refine jD ⟨_,(kS (cs:=(bx (jR (xN (!(((kM (jX x)).neg) == ((kM (jX y)).neg))) (val out))))) (d:=(jR (xN (!(((kM (jX x)).neg) == ((kM (jX y)).neg))) (val out)))) rfl rfl kD rfl rfl .nil),?_⟩
  rw[hv,rmul_eq];rfl
theorem r_short(a:List Nat)(d:Nat)(hda:Dig a)(hd0:0<d)(hd1:d<=1000000000)(hla:a.length<=17592186044416):jS Tryz.prog 185 [(.sl 107 1 (List.map jC a)),(.val (.int .u64 (((d:Nat):Int))))] (.tup [(.sl 107 1 (List.map jC (ofNat (val a / d)))),(.val (.int .u64 ((((val a % d):Nat):Int))))]):=by
 refine uW Tryz.func185 ?_
 refine jB<|kx [] [] (zE (bB 107 1)<|zM<|zZ) ?_
 refine jB<|kx [(6,(.own 0 107 1 a.length))] [(0,some (bm jC (List.replicate a.length 0)))] (zM<|zE (yH kJ)<|zN (oMk 0 jC (0:Nat) a.length a.length kJ vY yT nY)<|zM<|zZ) ?_
 refine jB<|kx [(7,(gN 0))] [] (zM<|zZ) ?_
 refine jB<|jB<|kx [(8,(vi (((a.length:Nat):Int)-1)))] [] (zM<|zE (yH kJ)<|zE (zSb (((a.length:Nat):Int)-1))<|zM<|zZ) ?_
 refine jH<|kQ (α:=Nat × List Nat × Nat) (fun (k,q,xM)=>⟨[(0,(vl 107 1 jC a)),(1,(gN d)),(6,(.own 0 107 1 a.length)),(7,(gN xM)),(8,(vi (((k:Nat):Int)-1)))],[(0,some (bm jC q))]⟩) (fun (k,q,xM)=>k<=a.length/\q.length=a.length/\Dig q/\xM<d/\val (a.drop k)=val (q.drop k)*d+xM) (fun (k,q,xM)=>k) (a.length,List.replicate a.length 0,0) wk ⟨Nat.le_refl _,by simp,zP _,hd0,by simp [val]⟩ ?_
 rintro ⟨k,q,xM⟩ ⟨hk,qO,hdq,hr,hv⟩
 refine jB<|jB<|kx [(17,(vb (decide (0<=(((k:Nat):Int)-1)))))] [] (zM<|zE oGe<|zZ) ?_
 refine jF (b:=decide (0<=(((k:Nat):Int)-1))) rfl (fun h1=>?_) (fun h1=>?_)
 ·replace h1:=vT h1
  obtain ⟨i,rfl⟩:∃ i,k=i+1:=⟨k-1,by omega⟩
  rw[show (((i+1:Nat):Int)-1)=((i:Nat):Int) from by omega]
  have hg:=hda.getD i
  obtain ⟨hb1,hb2⟩:=short_bound hr hd1 hg
  refine jE<|jB<|jH<|jB<|kx [(8,(jT i)),(9,(gN ((xM*1000000000)+(a.getD i 0))))] [] (zM<|zE (oMl (xM*1000000000))<|zM<|zM<|zE (dA kJ i (0:Nat))<|zE (nX qP)<|zE (mP yU yM (a.getD i 0))<|zE (xD ((xM*1000000000)+(a.getD i 0)))<|zM<|zZ) ?_
  refine jB<|kx [] [(0,some (bm jC (q.set i (((xM*1000000000)+(a.getD i 0)) / d))))] (zM<|zM<|zM<|zM<|zE (oQu (((xM*1000000000)+(a.getD i 0)) / d))<|zE (mP nC gV (((xM*1000000000)+(a.getD i 0)) / d))<|zE (yK kJ i)<|zT (eR qP i (((xM*1000000000)+(a.getD i 0)) / d))<|zZ) ?_
  refine kx [(7,(gN (((xM*1000000000)+(a.getD i 0)) % d)))] [] (zM<|zM<|zE (oRe (((xM*1000000000)+(a.getD i 0)) % d))<|zM<|zZ) ?_
  refine kx [(8,(vi (((i:Nat):Int)-1)))] [] (zM<|zE (zSb (((i:Nat):Int)-1))<|zM<|zZ) ?_
  exact ⟨(i,q.set i ((xM*1000000000+a.getD i 0) / d),(xM*1000000000+a.getD i 0) % d),wk,⟨by omega,by simpa using qO,hdq.set _ hb2,Nat.mod_lt _ hd0,rshort_step (by omega) hv rfl⟩,(by first|omega|(dsimp only;omega))⟩
 ·replace h1:=xC h1
  obtain rfl:k=0:=by omega
  obtain ⟨e1,e2⟩:=short_end (a:=a) (q:=q) (by rw[Nat.sub_self];exact hv) hr
  refine kL<|jB<|kG (yL (t:=6) (k:=0) (es:=List.map jC q) rfl rfl (vQ _ _ (fun _=>rfl)) (vS _ _ qO) (xP _ _ (fun _=>rfl) qO)) ?_
  refine kx [(4,(vl 107 1 jC (ofNat (val q)))),(5,(gN xM))] [] (zM<|zE (kB (nR false q (by first | assumption | exact kI _ | exact (qB _).1 | exact (qG _).1) (by omega)))<|zE (oF1 aY xX)<|zM<|zM<|zM<|zZ) ?_
  refine jD ⟨_,(.tmp (d:=(.sl 107 1 (List.map jC (ofNat (val q))))) rfl (.tmp (d:=(.val (.int .u64 (((xM:Nat):Int))))) rfl .nil)),?_⟩
  rw[<- e1,<- e2];rfl
theorem r_pair(l:List Nat)(hd:Dig l)(h2:l.length<=2):jS Tryz.prog 165 [(.sl 107 1 (List.map jC l))] (.val (.int .u64 ((((val l):Nat):Int)))):=by
 have h0:=hd.getD 0
 have h1:=hd.getD 1
 refine uW Tryz.func165 ?_
 refine jB<|kx [] [] (zM<|zZ) ?_
 refine jB<|kx [(2,(gN (((l.getD 1 0)*1000000000)+(l.getD 0 0))))] [] (zM<|zE (kB (aO l 1 (by first | assumption | exact kI _ | exact (qB _).1 | exact (qG _).1)))<|zE (oMl ((l.getD 1 0)*1000000000))<|zM<|zE (kB (aO l 0 (by first | assumption | exact kI _ | exact (qB _).1 | exact (qG _).1)))<|zE (xD (((l.getD 1 0)*1000000000)+(l.getD 0 0)))<|zM<|zZ) ?_
 refine jD ⟨_,(.tmp (d:=(.val (.int .u64 ((((((l.getD 1 0)*1000000000)+(l.getD 0 0)):Nat):Int))))) rfl .nil),?_⟩
 rw[val_pair h2];rfl
theorem r_parts(a b:List Nat)(hda:gH a)(hdb:gH b)(hb0:0<b.length)(hla:a.length<=1099511627776)(hlb:b.length<=1099511627776):jS Tryz.prog 164 [(.sl 107 1 (List.map jC a)),(.sl 107 1 (List.map jC b))] (.tup [(.sl 107 1 (List.map jC (ofNat (val a / val b)))),(.sl 107 1 (List.map jC (ofNat (val a % val b))))]):=by
 have hsc:=bR hdb hb0
 have htp:=iL hdb hb0
 have hbp:=cE hdb hb0
 refine uW Tryz.func164 ?_
 refine jB<|kx [] [] (zE (bB 107 1)<|zE (bB 107 1)<|zZ) ?_
 refine jB<|kx [(6,(jT b.length))] [] (zM<|zE (yH kJ)<|zM<|zZ) ?_
 refine jB<|jB<|kx [(19,(vb (((b.length:Nat):Int) == 1)))] [] (zM<|zE yP<|zZ) ?_
 refine jF (b:=(((b.length:Nat):Int) == 1)) rfl (fun h1=>?_) (fun h1=>?_)
 ·replace h1:=eq_of_beq h1
  have hg0:=hdb.1.getD 0
  have hv1:=val_len1 (b:=b) (by omega)
  have hb00:0<b.getD 0 0:=by omega
  have hrl:val a % b.getD 0 0<1000000000:=Nat.lt_trans (Nat.mod_lt _ hb00) (by omega)
  refine jB<|kx [(7,(vl 107 1 jC (ofNat (val a / (b.getD 0 0))))),(8,(gN (val a % (b.getD 0 0))))] [] (zM<|zM<|zE (dA kJ 0 (0:Nat))<|zE (nX qP)<|zE (mP yU yM (b.getD 0 0))<|zE (kB (r_short a (b.getD 0 0) hda.1 (by omega) (by omega) (by omega)))<|zM<|zE zJ<|zE zJ<|zM<|zM<|zZ) ?_
  refine jB<|kx [(4,(vl 107 1 jC (ofNat (val a / (b.getD 0 0))))),(5,(vl 107 1 jC (ofNat (val [(val a % (b.getD 0 0))]))))] [] (zM<|zM<|zE (mP nC gV (val a % (b.getD 0 0)))<|zE (fF kJ vY yT)<|zE (kB (nR false [(val a % (b.getD 0 0))] (yS.2 ⟨by omega,gW⟩) (by simp)))<|zE (oF1 aY xX)<|zM<|zM<|zZ) ?_
  refine jD ⟨_,(.tmp (d:=(.sl 107 1 (List.map jC (ofNat (val a / (b.getD 0 0)))))) rfl (.tmp (d:=(.sl 107 1 (List.map jC (ofNat (val [(val a % (b.getD 0 0))]))))) rfl .nil)),?_⟩
  rw[hv1,cO];rfl
 ·replace h1:=ne_of_beq_false h1
  refine jE<|jB<|jB<|kx [(38,(vb (decide ((vD ((val a:Nat):Int) ((val b:Nat):Int))<0))))] [] (zM<|zM<|zE (kB (r_size a b (by first | assumption | exact qB _ | exact qG _) (by first | assumption | exact qB _ | exact qG _) (by omega) (by omega)))<|zE yY<|zZ) ?_
  refine jF rfl (fun h2=>?_) (fun h2=>?_)
  ·replace h2:=vT h2
   refine jB<|kx [(4,(vl 107 1 jC [])),(5,(vl 107 1 jC a))] [] (zE (fF kJ vY yT)<|zM<|zM<|zM<|zZ) ?_
   refine jD ⟨_,(.tmp (d:=(.sl 107 1 (List.map jC []))) rfl (.tmp (d:=(.sl 107 1 (List.map jC a))) rfl .nil)),?_⟩
   have hlt:=cmpI_neg h2
   rw[Nat.div_eq_of_lt hlt,Nat.mod_eq_of_lt hlt,uB,<- can_eq hda];rfl
  ·replace h2:=xC h2
   obtain ⟨u,hue⟩:∃ u,u=ofNat (val a*scl b):=⟨_,rfl⟩
   obtain ⟨v,hve⟩:∃ v,v=ofNat (val b*scl b):=⟨_,rfl⟩
   have hu:Dig u:=by rw[hue];exact kI _
   have hcv:gH v:=by rw[hve];exact qB _
   have hvd:=hcv.1
   have hvl:v.length=b.length:=by rw[hve];exact scl_len hdb hb0
   have hvv:val v=val b*scl b:=by rw[hve];exact kE _
   have huv:val u=val a*scl b:=by rw[hue];exact kE _
   have hab:=len_of_le hda hdb (cmpI_nn h2)
   have hul:a.length<=u.length/\u.length<=a.length+1:=by rw[hue];exact scl_lenA hda hdb hb0
   have hvp:=cE hcv (by omega)
   have hpv:pw (b.length-1)<=val v:=by have h1:=val_top hvd (by omega);have h3:=iL hcv (by omega);rw[hvl] at h1 h3;have h2:=Nat.mul_le_mul_right (pw (b.length-1)) h3.1;omega
   refine jE<|jB<|kx [(9,(gN (scl b)))] [] (zM<|zM<|zE (oSb (b.length-1))<|zE (dA kJ (b.length-1) (0:Nat))<|zE (nX qP)<|zE (mP yU yM (b.getD (b.length-1) 0))<|zE (xD ((b.getD (b.length-1) 0)+1))<|zE (oQu (scl b) (hr:=by exact (quo_u64 1000000000 (b.getD (b.length-1) 0+1))))<|zM<|zZ) ?_
   refine jB<|kx [(0,(vl 107 1 jC u)),(1,(vl 107 1 jC v))] [] (zM<|zM<|zE (kB (hue▸r_scaled a (scl b) hda.1 (by omega) (by omega)))<|zM<|zM<|zE (kB (hve▸r_scaled b (scl b) hdb.1 (by omega) (by omega)))<|zM<|zM<|zZ) ?_
   refine jB<|kx [(10,(vl 107 1 jC (ofNat (val (List.drop ((u.length-b.length)+1) u)))))] [] (zM<|zM<|zE (yH kJ)<|zM<|zE (oSb (u.length-b.length))<|zE (xD ((u.length-b.length)+1))<|zE (e_slc (l:=((u.length-b.length)+1)) (h:=(List.map jC u).length) (kl:=.i64) (kh:=.i64) (es':=List.map jC (List.drop ((u.length-b.length)+1) u)) (by exact rfl) kJ (by exact rfl) (by exact rfl) (by exact rfl) (by simp only[List.length_map];omega) (Nat.le_refl _) (by rw[List.take_length,List.map_drop]))<|zE (kB (nR false (List.drop ((u.length-b.length)+1) u) (hu.drop _) (by rw[List.length_drop];omega)))<|zE (oF1 aY xX)<|zM<|zZ) ?_
   refine jB<|kx [(11,(.own 0 107 1 ((u.length-b.length)+1)))] [(0,some (bm jC (List.replicate ((u.length-b.length)+1) 0)))] (zM<|zE (yH kJ)<|zM<|zE (oSb (u.length-b.length))<|zE (xD ((u.length-b.length)+1))<|zN (oMk 0 jC (0:Nat) ((u.length-b.length)+1) ((u.length-b.length)+1) kJ vY yT nY)<|zM<|zZ) ?_
   refine jB<|jB<|kx [(12,(vi ((((u.length-b.length)+1:Nat):Int)-1)))] [] (zM<|zE (yH kJ)<|zM<|zE (zSb ((((u.length-b.length)+1:Nat):Int)-1))<|zM<|zZ) ?_
   refine jH<|kQ (α:=Nat × List Nat × List Nat) (fun (k,r,q)=>⟨[(0,(vl 107 1 jC u)),(1,(vl 107 1 jC v)),(6,(jT b.length)),(9,(gN (scl b))),(10,(vl 107 1 jC r)),(11,(.own 0 107 1 ((u.length-b.length)+1))),(12,(vi (((k:Nat):Int)-1)))],[(0,some (bm jC q))]⟩) (fun (k,r,q)=>gH r/\k<=((u.length-b.length)+1)/\q.length=((u.length-b.length)+1)/\Dig q/\val r<val v/\val (u.drop k)=val v*val (q.drop k)+val r) (fun (k,r,q)=>k) (((u.length-b.length)+1),ofNat (val (List.drop ((u.length-b.length)+1) u)),List.replicate ((u.length-b.length)+1) 0) wk ⟨qB _,Nat.le_refl _,by simp,zP _,by rw[kE];have h7:=xA (hu.drop ((u.length-b.length)+1));rw[List.length_drop,show u.length-((u.length-b.length)+1)=b.length-1 by omega] at h7;omega,by rw[kE];simp [val]⟩ ?_
   rintro ⟨k,r,q⟩ ⟨hrc,hk,hql,hqd,hr,hv⟩
   refine jB<|jB<|kx [(75,(vb (decide (0<=(((k:Nat):Int)-1)))))] [] (zM<|zE oGe<|zZ) ?_
   refine jF (b:=decide (0<=(((k:Nat):Int)-1))) rfl (fun h3=>?_) (fun h3=>?_)
   ·replace h3:=vT h3
    obtain ⟨i,rfl⟩:∃ i,k=i+1:=⟨k-1,by omega⟩
    rw[show (((i+1:Nat):Int)-1)=((i:Nat):Int) from by omega]
    have hgu:=hu.getD i
    have hW:(u.getD i 0+1000000000*val r)<1000000000*val v:=by omega
    have hrs:=rshift_val u hv
    obtain ⟨hg1,hg2⟩:=rguess hvd hvl hb0 hW
    have hgv:=hvd.getD (b.length-1)
    have hgw1:=(kI (u.getD i 0+1000000000*val r)).getD b.length
    have hgw2:=(kI (u.getD i 0+1000000000*val r)).getD (b.length-1)
    have hrl:r.length<=b.length:=by have h9:=xS (Nat.le_of_lt hr);rwa [<- can_eq hrc,<- can_eq hcv,hvl] at h9
    have hwl:(ofNat (u.getD i 0+1000000000*val r)).length<=b.length+1:=uD (by rw[vA];have:=xA hvd;rw[hvl] at this;omega)
    refine jE<|jB<|jH<|jB<|kx [(10,(vl 107 1 jC (ofNat ((u.getD i 0)+1000000000*val r)))),(12,(jT i))] [] (zM<|zM<|zM<|zE (dA kJ i (0:Nat))<|zE (nX qP)<|zE (kB (r_shifted r (u.getD i 0) hrc.1 (by omega) (by omega)))<|zM<|zZ) ?_
    refine jB<|kd [(13,(gN (((((ofNat ((u.getD i 0)+1000000000*val r)).getD b.length 0)*1000000000)+((ofNat ((u.getD i 0)+1000000000*val r)).getD (b.length-1) 0)) / ((v.getD (b.length-1) 0)+1))))] [] mo (wM<|wM<|wE (kB (aO (ofNat ((u.getD i 0)+1000000000*val r)) b.length (kI _)))<|wE (oMl (((ofNat ((u.getD i 0)+1000000000*val r)).getD b.length 0)*1000000000))<|wM<|wM<|wE (oSb (b.length-1))<|wE (kB (aO (ofNat ((u.getD i 0)+1000000000*val r)) (b.length-1) (by first | assumption | exact kI _ | exact (qB _).1 | exact (qG _).1)))<|wE (xD ((((ofNat ((u.getD i 0)+1000000000*val r)).getD b.length 0)*1000000000)+((ofNat ((u.getD i 0)+1000000000*val r)).getD (b.length-1) 0)))<|wM<|wM<|wE (oSb (b.length-1))<|wE (dA kJ (b.length-1) (0:Nat))<|wE (nX qP)<|wE (mP yU yM (v.getD (b.length-1) 0))<|wE (xD ((v.getD (b.length-1) 0)+1))<|wE (oQu (((((ofNat ((u.getD i 0)+1000000000*val r)).getD b.length 0)*1000000000)+((ofNat ((u.getD i 0)+1000000000*val r)).getD (b.length-1) 0)) / ((v.getD (b.length-1) 0)+1)))<|wM<|wZ) ?_
    refine jB<|kx [(10,(vl 107 1 jC (ofNat (val (ofNat ((u.getD i 0)+1000000000*val r))-val (ofNat (val v*(((((ofNat ((u.getD i 0)+1000000000*val r)).getD b.length 0)*1000000000)+((ofNat ((u.getD i 0)+1000000000*val r)).getD (b.length-1) 0)) / ((v.getD (b.length-1) 0)+1))))))))] [] (zM<|zM<|zM<|zE (kB (r_scaled v (((((ofNat ((u.getD i 0)+1000000000*val r)).getD b.length 0)*1000000000)+((ofNat ((u.getD i 0)+1000000000*val r)).getD (b.length-1) 0)) / ((v.getD (b.length-1) 0)+1)) hvd (by omega) (by omega)))<|zE (kB (r_minus (ofNat ((u.getD i 0)+1000000000*val r)) (ofNat (val v*(((((ofNat ((u.getD i 0)+1000000000*val r)).getD b.length 0)*1000000000)+((ofNat ((u.getD i 0)+1000000000*val r)).getD (b.length-1) 0)) / ((v.getD (b.length-1) 0)+1)))) (kI _) (kI _) (by rw[kE,kE,Nat.mul_comm];exact hg1) (by omega)))<|zM<|zZ) ?_
    refine jB<|jH<|kQ (α:=Nat × List Nat) (fun (G,r2)=>⟨[(0,(vl 107 1 jC u)),(1,(vl 107 1 jC v)),(6,(jT b.length)),(9,(gN (scl b))),(10,(vl 107 1 jC r2)),(11,(.own 0 107 1 ((u.length-b.length)+1))),(12,(jT i)),(13,(gN G))],[(0,some (bm jC q))]⟩) (fun (G,r2)=>gH r2/\val v*G+val r2=(u.getD i 0+1000000000*val r)) (fun (G,r2)=>val r2) ((((ofNat (u.getD i 0+1000000000*val r)).getD b.length 0*1000000000+(ofNat (u.getD i 0+1000000000*val r)).getD (b.length-1) 0) / (v.getD (b.length-1) 0+1)),ofNat (val (ofNat (u.getD i 0+1000000000*val r))-val (ofNat (val v*(((ofNat (u.getD i 0+1000000000*val r)).getD b.length 0*1000000000+(ofNat (u.getD i 0+1000000000*val r)).getD (b.length-1) 0) / (v.getD (b.length-1) 0+1)))))) wk ⟨qB _,by rw[kE,kE,kE];rw[Nat.mul_comm] at hg1;omega⟩ ?_
    rintro ⟨G,r2⟩ ⟨hr2,hr2v⟩
    have hr2l:r2.length<=b.length+1:=by have h9:=xS (show val r2<=(u.getD i 0+1000000000*val r) by omega);rw[<- can_eq hr2] at h9;omega
    refine jB<|jB<|kx [(109,(vb (decide (0<=(vD ((val r2:Nat):Int) ((val v:Nat):Int))))))] [] (zM<|zM<|zE (kB (r_size r2 v hr2 hcv (by omega) (by omega)))<|zE oGe<|zZ) ?_
    refine jF rfl (fun h4=>?_) (fun h4=>?_)
    ·replace h4:=vT h4
     have hge:=lE h4
     have hG:=rquo_lt hr2v hW
     have hr2l:r2.length<=b.length+1:=by have h9:=xS (show val r2<=(u.getD i 0+1000000000*val r) by omega);rw[<- can_eq hr2] at h9;omega
     refine jE<|jH<|jB<|kx [(10,(vl 107 1 jC (ofNat (val r2-val v))))] [] (zM<|zM<|zE (kB (r_minus r2 v hr2.1 hvd (by omega) (by omega)))<|zM<|zZ) ?_
     refine kx [(13,(gN (G+1)))] [] (zM<|zE (xD (G+1))<|zM<|zZ) ?_
     exact ⟨(G+1,ofNat (val r2-val v)),wk,(by have hge:=lE h4;exact ⟨qB _,by rw[kE,Nat.mul_add,Nat.mul_one];omega⟩),(by have hge:=lE h4;dsimp only;rw[kE];omega)⟩
    ·replace h4:=xC h4
     have hG:=rquo_lt hr2v hW
     have hlt:val r2<val v:=by have h9:=cmpI_lt h4;omega
     refine kL<|kx [] [(0,some (bm jC (q.set i G)))] (zM<|zM<|zM<|zE (mP nC gV G)<|zE (yK kJ i)<|zT (eR qP i G)<|zZ) ?_
     refine kx [(12,(vi (((i:Nat):Int)-1)))] [] (zM<|zE (zSb (((i:Nat):Int)-1))<|zM<|zZ) ?_
     exact ⟨(i,r2,q.set i G),wk,⟨hr2,by omega,by simpa using hql,hqd.set _ hG,hlt,rround (by omega) (by rw[hr2v];exact hrs)⟩,(by first|omega|(dsimp only;omega))⟩
   ·replace h3:=xC h3
    obtain rfl:k=0:=by omega
    obtain ⟨e1,e2⟩:=scl_div (a:=a) (b:=b) (q:=q) (u:=r) hdb hb0 (by rw[List.drop_zero,List.drop_zero] at hv;rw[cA,Nat.one_mul,List.drop_zero,<- huv,<- hvv,hv];omega) (by rw[List.drop_zero,<- hvv];exact hr)
    have hrl:r.length<=b.length:=by have h9:=xS (Nat.le_of_lt hr);rwa [<- can_eq hrc,<- can_eq hcv,hvl] at h9
    refine kL<|jB<|kx [(14,(vl 107 1 jC (ofNat (val r / (scl b)))))] [] (zM<|zM<|zE (kB (r_short r (scl b) hrc.1 (by omega) (by omega) (by omega)))<|zM<|zE zJ<|zE zJ<|zM<|zM<|zZ) ?_
    refine jB<|kG (yL (t:=11) (k:=0) (es:=List.map jC q) rfl rfl (vQ _ _ (fun _=>rfl)) (vS _ _ hql) (xP _ _ (fun _=>rfl) hql)) ?_
    refine kx [(4,(vl 107 1 jC (ofNat (val q)))),(5,(vl 107 1 jC (ofNat (val r / (scl b)))))] [] (zM<|zE (kB (nR false q hqd (by omega)))<|zE (oF1 aY xX)<|zM<|zM<|zM<|zZ) ?_
    refine jD ⟨_,(.tmp (d:=(.sl 107 1 (List.map jC (ofNat (val q))))) rfl (.tmp (d:=(.sl 107 1 (List.map jC (ofNat (val r / (scl b)))))) rfl .nil)),?_⟩
    rw[<- e1,<- e2];rfl
theorem r_gcd(x:kW)(y:kW)(hx:x.gs.length<=1099511627776)(hy:y.gs.length<=1099511627776):jS Tryz.prog 97 [(jR x),(jR y)] (jR (kM ((Int.gcd (jX x) (jX y):Nat):Int))):=by
 have hvx:=eD x
 have hvy:=eD y
 refine uW Tryz.func97 ?_
 refine jB<|kx [(2,(.ref 0 0)),(3,(.ref 1 0)),(4,(.ref 2 0))] [(0,some (bx (jR x))),(1,some (bx (jR y))),(2,some (bx (jR (kW.mk false []))))] (zN (vX 0)<|zN (vX 1)<|zN (uJ 2 nM nN)<|zZ) ?_
 refine jB<|kd [(5,(vl 107 1 jC (ofNat (Int.natAbs (jX x))))),(6,(vl 107 1 jC (ofNat (Int.natAbs (jX y)))))] [] mo (wR (kR kD)<|wE (kB (dW x (by omega)))<|wE (oF1 aY xX)<|wR (kR kD)<|wE (kB (dW y (by omega)))<|wE (oF1 aY xX)<|wM<|wM<|wZ) ?_
 refine jB<|jH<|kQ (α:=List Nat × List Nat) (fun (a,b)=>⟨[(4,(.ref 2 0)),(5,(vl 107 1 jC a)),(6,(vl 107 1 jC b))],[(2,some (bx (jR (kW.mk false []))))]⟩) (fun (a,b)=>gH a/\gH b/\a.length<=1099511627776/\b.length<=1099511627776/\Nat.gcd (val a) (val b)=Int.gcd (jX x) (jX y)) (fun (a,b)=>val b) ((ofNat (Int.natAbs (jX x))),(ofNat (Int.natAbs (jX y)))) wk ⟨qB _,qB _,by omega,by omega,by rw[kE,kE];rfl⟩ ?_
 rintro ⟨a,b⟩ ⟨ha,hb,hla,hlb,hg⟩
 refine jB<|jB<|kx [(29,(vb (decide (0<((b.length:Nat):Int))&&(decide (2<((a.length:Nat):Int))||decide (2<((b.length:Nat):Int))))))] [] ?_ ?_
 ·refine zM<|zE (yH kJ)<|zE cI<|zE (oV (vb (decide (0<((b.length:Nat):Int)))) (qA (by kernel_rfl)))<|?_
  rcases hb1:(decide (0<((b.length:Nat):Int))) with _ | _
  ·replace hb1:=xC hb1
   exact zK<|zK<|zK<|zK<|zK<|zK<|zK<|zK<|zE yJ<|zZ
  ·replace hb1:=vT hb1
   refine zM<|zE (yH kJ)<|zE cI<|zE (oV (vb (decide (2<((a.length:Nat):Int)))) (qA (by kernel_rfl)))<|?_
   rcases hb2:(decide (2<((a.length:Nat):Int))) with _ | _
   ·replace hb2:=xC hb2
    exact zM<|zE (yH kJ)<|zE cI<|zE aD<|zE aB<|zZ
   ·replace hb2:=vT hb2
    exact zK<|zK<|zK<|zE nT<|zE nT<|zZ
 refine jF rfl (fun h3=>?_) (fun h3=>?_)
 ·have hbl:0<b.length:=by rw[Bool.and_eq_true,decide_eq_true_eq] at h3;omega
  have hb0:=cE hb hbl
  refine jE<|jH<|jB<|kx [(8,(vl 107 1 jC (ofNat (val a % val b))))] [] (zM<|zM<|zE (kB (r_parts a b ha hb (by omega) (by omega) (by omega)))<|zM<|zE zJ<|zE zJ<|zM<|zM<|zZ) ?_
  refine kx [(5,(vl 107 1 jC b)),(6,(vl 107 1 jC (ofNat (val a % val b))))] [] (zM<|zM<|zM<|zM<|zZ) ?_
  exact ⟨(b,ofNat (val a % val b)),wk,⟨hb,qB _,hlb,Nat.le_trans (len_rem a ha _) hla,by rw[kE,<- hg,Nat.gcd_comm,<- Nat.gcd_rec,Nat.gcd_comm]⟩,(by dsimp only;rw[kE];exact Nat.mod_lt _ hb0)⟩
 ·have hex:=h3
  refine kL<|jB<|jB<|kx [(40,(vb (((b.length:Nat):Int) == 0)))] [] (zM<|zE (yH kJ)<|zE yP<|zZ) ?_
  refine jF (b:=(((b.length:Nat):Int) == 0)) rfl (fun h4=>?_) (fun h4=>?_)
  ·replace h4:=eq_of_beq h4
   have hb1:b=[]:=List.eq_nil_of_length_eq_zero (by omega)
   rw[hb1,val_nil,Nat.gcd_zero_right] at hg
   refine jB<|kx [] [(2,some (bx (jR (xN false (val a)))))] (zM<|zE (kB (nR false a ha.1 (by omega)))<|zT (qM kD)<|zZ) ?_
   refine jD ⟨_,(kS (cs:=(bx (jR (xN false (val a))))) (d:=(jR (xN false (val a)))) rfl rfl kD rfl rfl .nil),?_⟩
   rw[<- hg,mkI_false];rfl
  ·replace h4:=ne_of_beq_false h4
   have hl2:a.length<=2/\b.length<=2:=by simp only[Bool.and_eq_false_iff,Bool.or_eq_false_iff,decide_eq_false_iff_not] at hex;omega
   refine jE<|jB<|kx [(9,(gN (val a))),(10,(gN (val b)))] [] (zM<|zE (kB (r_pair a ha.1 (by omega)))<|zM<|zE (kB (r_pair b hb.1 (by omega)))<|zM<|zM<|zZ) ?_
   refine jB<|jH<|kQ (α:=Nat × Nat) (fun (m,n)=>⟨[(4,(.ref 2 0)),(9,(gN m)),(10,(gN n))],[(2,some (bx (jR (kW.mk false []))))]⟩) (fun (m,n)=>m<1000000000000000000/\n<1000000000000000000/\Nat.gcd m n=Int.gcd (jX x) (jX y)) (fun (m,n)=>n) (val a,val b) wk ⟨val_len2 ha.1 hl2.1,val_len2 hb.1 hl2.2,hg⟩ ?_
   rintro ⟨m,n⟩ ⟨hm,hn,hg2⟩
   refine jB<|jB<|kx [(48,(vb (decide (0<((n:Nat):Int)))))] [] (zM<|zE cI<|zZ) ?_
   refine jF (b:=decide (0<((n:Nat):Int))) rfl (fun h5=>?_) (fun h5=>?_)
   ·replace h5:=vT h5
    refine jE<|jH<|kd [(9,(gN n)),(10,(gN (m % n)))] [] mo (wM<|wM<|wM<|wE (oRe (m % n))<|wM<|wM<|wZ) ?_
    exact ⟨(n,m % n),wk,⟨hn,Nat.lt_of_le_of_lt (Nat.mod_le _ _) hm,by rw[<- hg2,Nat.gcd_comm,<- Nat.gcd_rec,Nat.gcd_comm]⟩,(by dsimp only;exact Nat.mod_lt _ (by omega))⟩
   ·replace h5:=xC h5
    obtain rfl:n=0:=by omega
    rw[Nat.gcd_zero_right] at hg2
    have hmv:val [m % 1000000000,m / 1000000000]=m:=by simp only[val];omega
    refine kL<|jB<|kx [] [(2,some (bx (jR (xN false (val [(m % 1000000000),(m / 1000000000)])))))] (zM<|zE (oRe (m % 1000000000))<|zE (mP nC gV (m % 1000000000))<|zM<|zE (oQu (m / 1000000000))<|zE (mP nC gV (m / 1000000000))<|zE (fF kJ vY yT)<|zE (kB (nR false [(m % 1000000000),(m / 1000000000)] (yS.2 ⟨Nat.mod_lt _ (by decide),yS.2 ⟨by omega,gW⟩⟩) (by simp)))<|zT (qM kD)<|zZ) ?_
    refine jD ⟨_,(kS (cs:=(bx (jR (xN false (val [(m % 1000000000),(m / 1000000000)]))))) (d:=(jR (xN false (val [(m % 1000000000),(m / 1000000000)])))) rfl rfl kD rfl rfl .nil),?_⟩
    rw[<- hg2,hmv,mkI_false];rfl
theorem r_compare(x:kW)(y:kW)(hx:x.gs.length<=274877906944)(hy:y.gs.length<=274877906944):jS Tryz.prog 96 [(jR x),(jR y)] (.val (.int .i64 ((vD (jX x) (jX y))))):=by
 have hv:=gs_sub x y
 refine uW Tryz.func96 ?_
 refine jB<|kx [(2,(.ref 0 0)),(3,(.ref 1 0))] [(0,some (bx (jR x))),(1,some (bx (jR y)))] (zN (vX 0)<|zN (vX 1)<|zM<|zZ) ?_
 refine jB<|kx [(4,(vi (qV (jX (kM (jX x-jX y))))))] [] (zR (kR kD)<|zR (kR kD)<|zE (kB (r_sub x y (by omega) (by omega)))<|zE (kB (r_sign (kM (jX x-jX y)) (by omega)))<|zM<|zZ) ?_
 refine jD ⟨_,(.tmp (d:=(.val (.int .i64 ((qV (jX (kM (jX x-jX y)))))))) rfl .nil),?_⟩
 rw[cS,signI_sub];rfl
theorem r_divide(x:kW)(y:kW)(hx:x.gs.length<=274877906944)(hy:y.gs.length<=274877906944)(hy0:jX y≠0):jS Tryz.prog 113 [(jR x),(jR y)] (.tup [(jR (kM ((jX x).fdiv (jX y)))),(jR (kM ((jX x).fmod (jX y)))),(.val (.int .i64 (0)))]):=by
 have hvx:=eD x
 have hvy:=eD y
 have hmx:=gs_val x
 have hmy:=gs_val y
 have hy1:0<(jX y).natAbs:=by omega
 have hyl:=dV hy1
 have hql:(ofNat (val (ofNat (Int.natAbs (jX x))) / val (ofNat (Int.natAbs (jX y))))).length<=274877906944:=by have:=len_quo (ofNat (Int.natAbs (jX x))) (qB _) (val (ofNat (Int.natAbs (jX y))));omega
 have hqg:(xN (!((kM (jX x)).neg == (kM (jX y)).neg)) (val (ofNat (val (ofNat (Int.natAbs (jX x))) / val (ofNat (Int.natAbs (jX y))))))).gs.length<=274877906944:=by show (ofNat (val (ofNat (val (ofNat (Int.natAbs (jX x))) / val (ofNat (Int.natAbs (jX y))))))).length<=_;rw[kE];exact hql
 have dT:(kM 1).gs.length<=1:=(iok_small (z:=1)).l
 have hqs:=gs_sub (xN (!((kM (jX x)).neg == (kM (jX y)).neg)) (val (ofNat (val (ofNat (Int.natAbs (jX x))) / val (ofNat (Int.natAbs (jX y))))))) (kM 1)
 refine uW Tryz.func113 ?_
 refine jB<|kx [(2,(.ref 0 0)),(3,(.ref 1 0)),(4,(.ref 2 0)),(5,(.ref 3 0))] [(0,some (bx (jR x))),(1,some (bx (jR y))),(2,some (bx (jR (kW.mk false [])))),(3,some (bx (jR (kW.mk false []))))] (zN (vX 0)<|zN (vX 1)<|zN (uJ 2 nM nN)<|zN (uJ 3 nM nN)<|zM<|zZ) ?_
 refine jB<|kd [] [(0,some (bx (jR (kM (jX x))))),(1,some (bx (jR (kM (jX y)))))] mo (wR (kR kD)<|wE (kB (dW x (by omega)))<|wR (kR kD)<|wE (kB (dW y (by omega)))<|wT (qM kD)<|wT (qM kD)<|wZ) ?_
 refine jB<|jB<|kx [(17,(vb ((((ofNat (Int.natAbs (jX y))).length:Nat):Int) == 0)))] [] (zE (kN vK)<|zR (qJ xX)<|zE (yH kJ (L:=(ofNat (Int.natAbs (jX y)))))<|zE yP<|zZ) ?_
 refine jF rfl (fun h1=>?_) (fun h1=>?_)
 ·replace h1:=eq_of_beq h1
  exact absurd h1 (by omega)
 ·replace h1:=ne_of_beq_false h1
  refine jE<|jB<|kx [(7,(vl 107 1 jC (ofNat (val (ofNat (Int.natAbs (jX x))) / val (ofNat (Int.natAbs (jX y))))))),(8,(vl 107 1 jC (ofNat (val (ofNat (Int.natAbs (jX x))) % val (ofNat (Int.natAbs (jX y)))))))] [] (zE (kN vK)<|zR (qJ xX)<|zE (kN vK)<|zR (qJ xX)<|zE (kB (r_parts (ofNat (Int.natAbs (jX x))) (ofNat (Int.natAbs (jX y))) (by first | assumption | exact qB _ | exact qG _) (by first | assumption | exact qB _ | exact qG _) (by omega) (by omega) (by omega)))<|zM<|zE zJ<|zE zJ<|zM<|zM<|zZ) ?_
  refine jB<|kx [(9,(.ref 4 0))] [(4,some (bx (jR (xN (!(((kM (jX x)).neg) == ((kM (jX y)).neg))) (val (ofNat (val (ofNat (Int.natAbs (jX x))) / val (ofNat (Int.natAbs (jX y))))))))))] (zE (kN vO)<|zR (qJ fG)<|zE (kN vO)<|zR (qJ fG)<|zE (oNb bo4)<|zM<|zE (kB (nR (!(((kM (jX x)).neg) == ((kM (jX y)).neg))) (ofNat (val (ofNat (Int.natAbs (jX x))) / val (ofNat (Int.natAbs (jX y))))) (kI _) (by omega)))<|zN (uJ 4 nM nN)<|zT (qM kD)<|zZ) ?_
  refine jB<|jB<|kx [(44,(vb (!(((kM (jX x)).neg) == ((kM (jX y)).neg))&&decide (0<(((ofNat (val (ofNat (Int.natAbs (jX x))) % val (ofNat (Int.natAbs (jX y))))).length:Nat):Int)))))] [] ?_ ?_
  ·refine zE (kN vO)<|zR (qJ fG)<|zE (kN vO)<|zR (qJ fG)<|zE (oNb bo4)<|zE (oV (vb (!(((kM (jX x)).neg) == ((kM (jX y)).neg)))) (qA (by kernel_rfl)))<|?_
   rcases hb2:(!(((kM (jX x)).neg) == ((kM (jX y)).neg))) with _ | _
   ·exact zK<|zK<|zK<|zE yJ<|zZ
   ·exact zM<|zE (yH kJ (L:=(ofNat (val (ofNat (Int.natAbs (jX x))) % val (ofNat (Int.natAbs (jX y)))))))<|zE cI<|zE aB<|zZ
  refine jF rfl (fun h3=>?_) (fun h3=>?_)
  ·have hqm:=gs_mul (kM (jX (xN (!((kM (jX x)).neg == (kM (jX y)).neg)) (val (ofNat (val (ofNat (Int.natAbs (jX x))) / val (ofNat (Int.natAbs (jX y)))))))-jX (kM 1))) (kM (jX y))
   have hk:=r_div_other (X:=jX x) (Y:=jX y) hy1 (by rw[Bool.and_eq_true,Bool.not_eq_true',beq_eq_false_iff_ne,decide_eq_true_eq] at h3;exact h3)
   refine kd [] [(4,some (bx (jR (kM (jX (xN (!(((kM (jX x)).neg) == ((kM (jX y)).neg))) (val (ofNat (val (ofNat (Int.natAbs (jX x))) / val (ofNat (Int.natAbs (jX y)))))))-jX (kM 1))))))] mo (wR (kR kD)<|wE (kB (r_of 1 (by omega) (by omega)))<|wE (kB (r_sub (xN (!(((kM (jX x)).neg) == ((kM (jX y)).neg))) (val (ofNat (val (ofNat (Int.natAbs (jX x))) / val (ofNat (Int.natAbs (jX y))))))) (kM 1) (by omega) (by omega)))<|wT (qM kD)<|wZ) ?_
   refine jB<|kd [(6,(jT 0))] [(2,some (bx (jR (kM (jX (xN (!(((kM (jX x)).neg) == ((kM (jX y)).neg))) (val (ofNat (val (ofNat (Int.natAbs (jX x))) / val (ofNat (Int.natAbs (jX y)))))))-jX (kM 1)))))),(3,some (bx (jR (kM (jX (kM (jX x))-jX (kM (jX (kM (jX (xN (!(((kM (jX x)).neg) == ((kM (jX y)).neg))) (val (ofNat (val (ofNat (Int.natAbs (jX x))) / val (ofNat (Int.natAbs (jX y)))))))-jX (kM 1)))*jX (kM (jX y)))))))))] mo (wR (kR kD)<|wR (kR kD)<|wR (kR kD)<|wR (kR kD)<|wE (kB (r_mul (kM (jX (xN (!(((kM (jX x)).neg) == ((kM (jX y)).neg))) (val (ofNat (val (ofNat (Int.natAbs (jX x))) / val (ofNat (Int.natAbs (jX y)))))))-jX (kM 1))) (kM (jX y)) (by omega) (by omega)))<|wE (kB (r_sub (kM (jX x)) (kM (jX (kM (jX (xN (!(((kM (jX x)).neg) == ((kM (jX y)).neg))) (val (ofNat (val (ofNat (Int.natAbs (jX x))) / val (ofNat (Int.natAbs (jX y)))))))-jX (kM 1)))*jX (kM (jX y)))) (by omega) (by omega)))<|wT (qM kD)<|wT (qM kD)<|wM<|wZ) ?_
   refine jD ⟨_,(kS (cs:=(bx (jR (kM (jX (xN (!(((kM (jX x)).neg) == ((kM (jX y)).neg))) (val (ofNat (val (ofNat (Int.natAbs (jX x))) / val (ofNat (Int.natAbs (jX y)))))))-jX (kM 1)))))) (d:=(jR (kM (jX (xN (!(((kM (jX x)).neg) == ((kM (jX y)).neg))) (val (ofNat (val (ofNat (Int.natAbs (jX x))) / val (ofNat (Int.natAbs (jX y)))))))-jX (kM 1))))) rfl rfl kD rfl rfl (kS (cs:=(bx (jR (kM (jX (kM (jX x))-jX (kM (jX (kM (jX (xN (!(((kM (jX x)).neg) == ((kM (jX y)).neg))) (val (ofNat (val (ofNat (Int.natAbs (jX x))) / val (ofNat (Int.natAbs (jX y)))))))-jX (kM 1)))*jX (kM (jX y))))))))) (d:=(jR (kM (jX (kM (jX x))-jX (kM (jX (kM (jX (xN (!(((kM (jX x)).neg) == ((kM (jX y)).neg))) (val (ofNat (val (ofNat (Int.natAbs (jX x))) / val (ofNat (Int.natAbs (jX y)))))))-jX (kM 1)))*jX (kM (jX y)))))))) rfl rfl kD rfl rfl (.tmp (d:=(.val (.int .i64 (0)))) rfl .nil))),?_⟩
   rw[hk,r_rem_eq];rfl
  ·have hqm:=gs_mul (xN (!((kM (jX x)).neg == (kM (jX y)).neg)) (val (ofNat (val (ofNat (Int.natAbs (jX x))) / val (ofNat (Int.natAbs (jX y))))))) (kM (jX y))
   have hk:=r_div_same (X:=jX x) (Y:=jX y) hy1 (by rw[Bool.and_eq_false_iff,Bool.not_eq_false',beq_iff_eq,decide_eq_false_iff_not] at h3;exact h3)
   refine jE<|jB<|kd [(6,(jT 0))] [(2,some (bx (jR (xN (!(((kM (jX x)).neg) == ((kM (jX y)).neg))) (val (ofNat (val (ofNat (Int.natAbs (jX x))) / val (ofNat (Int.natAbs (jX y)))))))))),(3,some (bx (jR (kM (jX (kM (jX x))-jX (kM (jX (xN (!(((kM (jX x)).neg) == ((kM (jX y)).neg))) (val (ofNat (val (ofNat (Int.natAbs (jX x))) / val (ofNat (Int.natAbs (jX y)))))))*jX (kM (jX y)))))))))] mo (wR (kR kD)<|wR (kR kD)<|wR (kR kD)<|wR (kR kD)<|wE (kB (r_mul (xN (!(((kM (jX x)).neg) == ((kM (jX y)).neg))) (val (ofNat (val (ofNat (Int.natAbs (jX x))) / val (ofNat (Int.natAbs (jX y))))))) (kM (jX y)) (by omega) (by omega)))<|wE (kB (r_sub (kM (jX x)) (kM (jX (xN (!(((kM (jX x)).neg) == ((kM (jX y)).neg))) (val (ofNat (val (ofNat (Int.natAbs (jX x))) / val (ofNat (Int.natAbs (jX y)))))))*jX (kM (jX y)))) (by omega) (by omega)))<|wT (qM kD)<|wT (qM kD)<|wM<|wZ) ?_
   refine jD ⟨_,(kS (cs:=(bx (jR (xN (!(((kM (jX x)).neg) == ((kM (jX y)).neg))) (val (ofNat (val (ofNat (Int.natAbs (jX x))) / val (ofNat (Int.natAbs (jX y)))))))))) (d:=(jR (xN (!(((kM (jX x)).neg) == ((kM (jX y)).neg))) (val (ofNat (val (ofNat (Int.natAbs (jX x))) / val (ofNat (Int.natAbs (jX y))))))))) rfl rfl kD rfl rfl (kS (cs:=(bx (jR (kM (jX (kM (jX x))-jX (kM (jX (xN (!(((kM (jX x)).neg) == ((kM (jX y)).neg))) (val (ofNat (val (ofNat (Int.natAbs (jX x))) / val (ofNat (Int.natAbs (jX y)))))))*jX (kM (jX y))))))))) (d:=(jR (kM (jX (kM (jX x))-jX (kM (jX (xN (!(((kM (jX x)).neg) == ((kM (jX y)).neg))) (val (ofNat (val (ofNat (Int.natAbs (jX x))) / val (ofNat (Int.natAbs (jX y)))))))*jX (kM (jX y)))))))) rfl rfl kD rfl rfl (.tmp (d:=(.val (.int .i64 (0)))) rfl .nil))),?_⟩
   rw[hk,r_rem_eq];rfl
end Go.Proofs.YtckccjhflbljgaaGreatDoor
