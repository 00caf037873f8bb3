/- Part 17 of a proof: rules, plain facts, and functions walked. -/
import Derived.Test.YtciingpdmjepgabGreatDoorM16
set_option linter.all false
set_option maxRecDepth 4000
namespace Go.Proofs.YtciingpdmjepgabGreatDoor
open Go.Fid
theorem r_neg(x:kO)(hx:x.gs.length<=35184372087816):jW Tryz.prog 92 [(jM x)] (jM (kD (-jQ x))):=by
 have hvx:=cU x
 refine uW Tryz.func92 ?_
 refine jB<|kx [(1,(.ref 0 0)),(2,(.ref 1 0))] [(0,some (bx (jM x))),(1,some (bx (jM (kO.mk false []))))] (zN (xA 0)<|zN (uT 1 xL xK)<|zZ) ?_
 refine jB<|kx [] [(0,some (bx (jM (kD (jQ x)))))] (zR (kT jX)<|zE (kH (cR x (by omega)))<|zT (qK jX)<|zZ) ?_
 refine jB<|kx [] [(1,some (bx (jM (vC (!((kD (jQ x)).neg)) (val (ofNat (Int.natAbs (jQ x))))))))] (zE (kW uS)<|zR (qR sh4)<|zE eL<|zE (kW uR)<|zR (qR vZ)<|zE (kH (yW (!((kD (jQ x)).neg)) (ofNat (Int.natAbs (jQ x))) (by first | assumption | exact kB _ | exact (kX _).1 | exact (qA _).1) (by omega)))<|zT (qK jX)<|zZ) ?_
 refine jE ⟨_,(kQ (cs:=(bx (jM (vC (!((kD (jQ x)).neg)) (val (ofNat (Int.natAbs (jQ x)))))))) (d:=(jM (vC (!((kD (jQ x)).neg)) (val (ofNat (Int.natAbs (jQ x))))))) rfl rfl jX rfl rfl .nil),?_⟩
 rw[<- rneg_eq];rfl
theorem r_sign(x:kO)(hx:x.gs.length<=35184372087816):jW Tryz.prog 22 [(jM x)] (.val (.int .i64 ((qO (jQ x))))):=by
 have hvx:=cU x
 refine uW Tryz.func22 ?_
 refine jB<|kx [(1,(.ref 0 0))] [(0,some (bx (jM x)))] (zN (xA 0)<|zM<|zZ) ?_
 refine jB<|kx [] [(0,some (bx (jM (kD (jQ x)))))] (zR (kT jX)<|zE (kH (cR x (by omega)))<|zT (qK jX)<|zZ) ?_
 refine jB<|jB<|kx [(8,(vb ((((ofNat (Int.natAbs (jQ x))).length:Nat):Int) == 0)))] [] (zE (kW uR)<|zR (qR vZ)<|zE (zV kC (L:=(ofNat (Int.natAbs (jQ x)))))<|zE nT<|zZ) ?_
 refine jH rfl (fun h1=>?_) (fun h1=>?_)
 ·replace h1:=eq_of_beq h1
  refine jB<|kx [(2,(jS 0))] [] (zM<|zZ) ?_
  refine jE ⟨_,(.tmp (d:=(.val (.int .i64 (0)))) rfl .nil),?_⟩
  rw[rsign_zero h1];rfl
 ·replace h1:=ne_of_beq_false h1
  refine jF<|jB<|jB<|kx [(10,(vb ((kD (jQ x)).neg)))] [] (zE (kW uS)<|zR (qR sh4)<|zZ) ?_
  refine jH (b:=(kD (jQ x)).neg) rfl (fun h2=>?_) (fun h2=>?_)
  ·refine jB<|kx [(2,(vi (-1)))] [] (zM<|zZ) ?_
   refine jE ⟨_,(.tmp (d:=(.val (.int .i64 (-1)))) rfl .nil),?_⟩
   rw[rsign_neg h1 h2];rfl
  ·refine jF<|jB<|kx [(2,(jS 1))] [] (zM<|zZ) ?_
   refine jE ⟨_,(.tmp (d:=(.val (.int .i64 (1)))) rfl .nil),?_⟩
   rw[rsign_pos h1 h2];rfl
theorem r_add(x:kO)(y:kO)(hx:x.gs.length<=35184372087816)(hy:y.gs.length<=35184372087816):jW Tryz.prog 40 [(jM x),(jM y)] (jM (kD (jQ x+jQ y))):=by
 have hvx:=cU x
 have hvy:=cU y
 refine uW Tryz.func40 ?_
 refine jB<|kx [(2,(.ref 0 0)),(3,(.ref 1 0)),(4,(.ref 2 0))] [(0,some (bx (jM x))),(1,some (bx (jM y))),(2,some (bx (jM (kO.mk false []))))] (zN (xA 0)<|zN (xA 1)<|zN (uT 2 xL xK)<|zZ) ?_
 refine jB<|kd [] [(0,some (bx (jM (kD (jQ x))))),(1,some (bx (jM (kD (jQ y)))))] mo (wR (kT jX)<|wE (kH (cR x (by omega)))<|wR (kT jX)<|wE (kH (cR y (by omega)))<|wT (qK jX)<|wT (qK jX)<|wZ) ?_
 refine jB<|jB<|kx [(13,(vb (((kD (jQ x)).neg) == ((kD (jQ y)).neg))))] [] (zE (kW uS)<|zR (qR sh4)<|zE (kW uS)<|zR (qR sh4)<|zE (oEb bo4)<|zZ) ?_
 refine jH rfl (fun h1=>?_) (fun h1=>?_)
 ·replace h1:=eq_of_beq h1
  refine jB<|kd [] [(2,some (bx (jM (vC ((kD (jQ x)).neg) (val (ofNat (val (ofNat (Int.natAbs (jQ x)))+val (ofNat (Int.natAbs (jQ y))))))))))] mo (wE (kW uS)<|wR (qR sh4)<|wE (kW uR)<|wR (qR vZ)<|wE (kW uR)<|wR (qR vZ)<|wE (kH (r_plus (ofNat (Int.natAbs (jQ x))) (ofNat (Int.natAbs (jQ y))) (by first | assumption | exact kB _ | exact (kX _).1 | exact (qA _).1) (by first | assumption | exact kB _ | exact (kX _).1 | exact (qA _).1) (by omega) (by omega)))<|wE (kH (yW ((kD (jQ x)).neg) (ofNat (val (ofNat (Int.natAbs (jQ x)))+val (ofNat (Int.natAbs (jQ y))))) (by first | assumption | exact kB _ | exact (kX _).1 | exact (qA _).1) (by first | omega | exact Nat.le_trans (add_len (kB _) (kB _)) (by omega) | exact Nat.le_trans (sub_len (kB _)) (by omega))))<|wT (qK jX)<|wZ) ?_
  refine jE ⟨_,(kQ (cs:=(bx (jM (vC ((kD (jQ x)).neg) (val (ofNat (val (ofNat (Int.natAbs (jQ x)))+val (ofNat (Int.natAbs (jQ y)))))))))) (d:=(jM (vC ((kD (jQ x)).neg) (val (ofNat (val (ofNat (Int.natAbs (jQ x)))+val (ofNat (Int.natAbs (jQ y))))))))) rfl rfl jX rfl rfl .nil),?_⟩
  rw[<- rsum_same h1];rfl
 ·replace h1:=ne_of_beq_false h1
  refine jF<|jB<|jB<|kx [(27,(vb (decide (0<=(uI ((val (ofNat (Int.natAbs (jQ x))):Nat):Int) ((val (ofNat (Int.natAbs (jQ y))):Nat):Int))))))] [] (zE (kW uR)<|zR (qR vZ)<|zE (kW uR)<|zR (qR vZ)<|zE (kH (r_size (ofNat (Int.natAbs (jQ x))) (ofNat (Int.natAbs (jQ y))) (by first | assumption | exact kX _ | exact qA _) (by first | assumption | exact kX _ | exact qA _) (by omega) (by omega)))<|zE oGe<|zZ) ?_
  refine jH rfl (fun h2=>?_) (fun h2=>?_)
  ·replace h2:=xF h2
   refine jB<|kd [] [(2,some (bx (jM (vC ((kD (jQ x)).neg) (val (ofNat (val (ofNat (Int.natAbs (jQ x)))-val (ofNat (Int.natAbs (jQ y))))))))))] mo (wE (kW uS)<|wR (qR sh4)<|wE (kW uR)<|wR (qR vZ)<|wE (kW uR)<|wR (qR vZ)<|wE (kH (r_minus (ofNat (Int.natAbs (jQ x))) (ofNat (Int.natAbs (jQ y))) (by first | assumption | exact kB _ | exact (kX _).1 | exact (qA _).1) (by first | assumption | exact kB _ | exact (kX _).1 | exact (qA _).1) (by have:=bF h2;omega) (by omega)))<|wE (kH (yW ((kD (jQ x)).neg) (ofNat (val (ofNat (Int.natAbs (jQ x)))-val (ofNat (Int.natAbs (jQ y))))) (by first | assumption | exact kB _ | exact (kX _).1 | exact (qA _).1) (by first | omega | exact Nat.le_trans (add_len (kB _) (kB _)) (by omega) | exact Nat.le_trans (sub_len (kB _)) (by omega))))<|wT (qK jX)<|wZ) ?_
   refine jE ⟨_,(kQ (cs:=(bx (jM (vC ((kD (jQ x)).neg) (val (ofNat (val (ofNat (Int.natAbs (jQ x)))-val (ofNat (Int.natAbs (jQ y)))))))))) (d:=(jM (vC ((kD (jQ x)).neg) (val (ofNat (val (ofNat (Int.natAbs (jQ x)))-val (ofNat (Int.natAbs (jQ y))))))))) rfl rfl jX rfl rfl .nil),?_⟩
   rw[<- rsum_first h1 (by have:=bF h2;omega)];rfl
  ·replace h2:=xH h2
   refine jF<|jB<|kd [] [(2,some (bx (jM (vC ((kD (jQ y)).neg) (val (ofNat (val (ofNat (Int.natAbs (jQ y)))-val (ofNat (Int.natAbs (jQ x))))))))))] mo (wE (kW uS)<|wR (qR sh4)<|wE (kW uR)<|wR (qR vZ)<|wE (kW uR)<|wR (qR vZ)<|wE (kH (r_minus (ofNat (Int.natAbs (jQ y))) (ofNat (Int.natAbs (jQ x))) (by first | assumption | exact kB _ | exact (kX _).1 | exact (qA _).1) (by first | assumption | exact kB _ | exact (kX _).1 | exact (qA _).1) (by have:=cmpI_lt h2;omega) (by omega)))<|wE (kH (yW ((kD (jQ y)).neg) (ofNat (val (ofNat (Int.natAbs (jQ y)))-val (ofNat (Int.natAbs (jQ x))))) (by first | assumption | exact kB _ | exact (kX _).1 | exact (qA _).1) (by first | omega | exact Nat.le_trans (add_len (kB _) (kB _)) (by omega) | exact Nat.le_trans (sub_len (kB _)) (by omega))))<|wT (qK jX)<|wZ) ?_
   refine jE ⟨_,(kQ (cs:=(bx (jM (vC ((kD (jQ y)).neg) (val (ofNat (val (ofNat (Int.natAbs (jQ y)))-val (ofNat (Int.natAbs (jQ x)))))))))) (d:=(jM (vC ((kD (jQ y)).neg) (val (ofNat (val (ofNat (Int.natAbs (jQ y)))-val (ofNat (Int.natAbs (jQ x))))))))) rfl rfl jX rfl rfl .nil),?_⟩
   rw[<- rsum_second h1 (by have:=cmpI_lt h2;omega)];rfl
theorem r_sub(x:kO)(y:kO)(hx:x.gs.length<=35184372087816)(hy:y.gs.length<=35184372087816):jW Tryz.prog 53 [(jM x),(jM y)] (jM (kD (jQ x-jQ y))):=by
 have hv:=gs_neg y
 refine uW Tryz.func53 ?_
 refine jB<|kx [(2,(.ref 0 0)),(3,(.ref 1 0)),(4,(.ref 2 0))] [(0,some (bx (jM x))),(1,some (bx (jM y))),(2,some (bx (jM (kO.mk false []))))] (zN (xA 0)<|zN (xA 1)<|zN (uT 2 xL xK)<|zZ) ?_
 refine jB<|kd [] [(2,some (bx (jM (kD (jQ x+jQ (kD (-jQ y)))))))] mo (wR (kT jX)<|wR (kT jX)<|wE (kH (r_neg y (by omega)))<|wE (kH (r_add x (kD (-jQ y)) (by omega) (by omega)))<|wT (qK jX)<|wZ) ?_
 refine jE ⟨_,(kQ (cs:=(bx (jM (kD (jQ x+jQ (kD (-jQ y))))))) (d:=(jM (kD (jQ x+jQ (kD (-jQ y)))))) rfl rfl jX rfl rfl .nil),?_⟩
 rw[mH,<- Int.sub_eq_add_neg];rfl
theorem r_mul(x:kO)(y:kO)(hx:x.gs.length<=1099511627776)(hy:y.gs.length<=1099511627776):jW Tryz.prog 41 [(jM x),(jM y)] (jM (kD (jQ x*jQ y))):=by
 have hvx:=cU x
 have hvy:=cU y
 have hda:=kB (Int.natAbs (jQ x))
 have hdb:=kB (Int.natAbs (jQ y))
 refine uW Tryz.func41 ?_
 refine jB<|kx [(2,(.ref 0 0)),(3,(.ref 1 0)),(4,(.ref 2 0))] [(0,some (bx (jM x))),(1,some (bx (jM y))),(2,some (bx (jM (kO.mk false []))))] (zN (xA 0)<|zN (xA 1)<|zN (uT 2 xL xK)<|zZ) ?_
 refine jB<|kd [] [(0,some (bx (jM (kD (jQ x))))),(1,some (bx (jM (kD (jQ y)))))] mo (wR (kT jX)<|wE (kH (cR x (by omega)))<|wR (kT jX)<|wE (kH (cR y (by omega)))<|wT (qK jX)<|wT (qK jX)<|wZ) ?_
 refine jB<|kx [(5,(.own 3 74 1 ((ofNat (Int.natAbs (jQ x))).length+(ofNat (Int.natAbs (jQ y))).length)))] [(3,some (bm jC (List.replicate ((ofNat (Int.natAbs (jQ x))).length+(ofNat (Int.natAbs (jQ y))).length) 0)))] (zE (kW uR)<|zR (qR vZ)<|zE (zV kC (L:=(ofNat (Int.natAbs (jQ x)))))<|zE (kW uR)<|zR (qR vZ)<|zE (zV kC (L:=(ofNat (Int.natAbs (jQ y)))))<|zE (vD ((ofNat (Int.natAbs (jQ x))).length+(ofNat (Int.natAbs (jQ y))).length))<|zN (oMk 3 jC (0:Nat) ((ofNat (Int.natAbs (jQ x))).length+(ofNat (Int.natAbs (jQ y))).length) ((ofNat (Int.natAbs (jQ x))).length+(ofNat (Int.natAbs (jQ y))).length) kC xW hM dT)<|zM<|zZ) ?_
 refine jB<|jB<|kx [(6,(jS 0))] [] (zM<|zZ) ?_
 refine jG<|kU (α:=Nat × List Nat) (fun (i,out)=>⟨[(2,(.ref 0 0)),(3,(.ref 1 0)),(4,(.ref 2 0)),(5,(.own 3 74 1 ((ofNat (Int.natAbs (jQ x))).length+(ofNat (Int.natAbs (jQ y))).length))),(6,(jS i))],[(0,some (bx (jM (kD (jQ x))))),(1,some (bx (jM (kD (jQ y))))),(2,some (bx (jM (kO.mk false [])))),(3,some (bm jC out))]⟩) (fun (i,out)=>out.length=(ofNat (Int.natAbs (jQ x))).length+(ofNat (Int.natAbs (jQ y))).length/\Dig out/\i<=(ofNat (Int.natAbs (jQ x))).length/\(∀ k,i+(ofNat (Int.natAbs (jQ y))).length<=k->out.getD k 0=0)/\val out=val ((ofNat (Int.natAbs (jQ x))).take i)*val (ofNat (Int.natAbs (jQ y)))) (fun (i,out)=>(ofNat (Int.natAbs (jQ x))).length-i) (0,List.replicate ((ofNat (Int.natAbs (jQ x))).length+(ofNat (Int.natAbs (jQ y))).length) 0) wk ⟨by simp,vY _,Nat.zero_le _,fun k _=>eG _ k,by simp [val,cT]⟩ ?_
 rintro ⟨i,out⟩ ⟨qL,hdo,hi,hz,hv⟩
 have hai:=hda.getD i
 refine jB<|jB<|kx [(26,(vb (decide (((i:Nat):Int)<(((ofNat (Int.natAbs (jQ x))).length:Nat):Int)))))] [] (zM<|zE (kW uR)<|zR (qR vZ)<|zE (zV kC (L:=(ofNat (Int.natAbs (jQ x)))))<|zE xO<|zZ) ?_
 refine jH rfl (fun h1=>?_) (fun h1=>?_)
 ·replace h1:=xF h1
  refine jF<|jB<|jG<|jB<|kx [(7,(zP 0))] [] (zM<|zZ) ?_
  refine jB<|jB<|kx [(8,(jS 0))] [] (zM<|zZ) ?_
  refine jG<|kU (α:=Nat × List Nat × Nat) (fun (j,o2,c)=>⟨[(2,(.ref 0 0)),(3,(.ref 1 0)),(4,(.ref 2 0)),(5,(.own 3 74 1 ((ofNat (Int.natAbs (jQ x))).length+(ofNat (Int.natAbs (jQ y))).length))),(6,(jS i)),(7,(zP c)),(8,(jS j))],[(0,some (bx (jM (kD (jQ x))))),(1,some (bx (jM (kD (jQ y))))),(2,some (bx (jM (kO.mk false [])))),(3,some (bm jC o2))]⟩) (fun (j,o2,c)=>o2.length=(ofNat (Int.natAbs (jQ x))).length+(ofNat (Int.natAbs (jQ y))).length/\Dig o2/\j<=(ofNat (Int.natAbs (jQ y))).length/\c<1000000000/\(∀ k,i+(ofNat (Int.natAbs (jQ y))).length<=k->o2.getD k 0=0)/\val o2+pw (i+j)*c=val ((ofNat (Int.natAbs (jQ x))).take i)*val (ofNat (Int.natAbs (jQ y)))+pw i*((ofNat (Int.natAbs (jQ x))).getD i 0*val ((ofNat (Int.natAbs (jQ y))).take j))) (fun (j,o2,c)=>(ofNat (Int.natAbs (jQ y))).length-j) (0,out,0) wk ⟨qL,hdo,Nat.zero_le _,by decide,hz,by simp [val,hv]⟩ ?_
  rintro ⟨j,o2,c⟩ ⟨hlen2,hdo2,hj,hc,hz2,hv2⟩
  have hbj:=hdb.getD j
  have hoj:=hdo2.getD (i+j)
  have hpq:(ofNat (Int.natAbs (jQ x))).getD i 0*(ofNat (Int.natAbs (jQ y))).getD j 0<=999999999*999999999:=Nat.mul_le_mul (by omega) (by omega)
  refine jB<|jB<|kx [(33,(vb (decide (((j:Nat):Int)<(((ofNat (Int.natAbs (jQ y))).length:Nat):Int)))))] [] (zM<|zE (kW uR)<|zR (qR vZ)<|zE (zV kC (L:=(ofNat (Int.natAbs (jQ y)))))<|zE xO<|zZ) ?_
  refine jH rfl (fun h2=>?_) (fun h2=>?_)
  ·replace h2:=xF h2
   refine jF<|jB<|jG<|jB<|kd [(9,(zP (((o2.getD (i+j) 0)+(((ofNat (Int.natAbs (jQ x))).getD i 0)*((ofNat (Int.natAbs (jQ y))).getD j 0)))+c)))] [] mo (wM<|wM<|wM<|wE (vD (i+j))<|wE (aJ kC (i+j))<|wR (oLp uK (i+j) (0:Nat))<|wE (hC gZ gY (o2.getD (i+j) 0))<|wE (kW uR)<|wR (qR vZ)<|wM<|wE (dS kC i (0:Nat) (L:=(ofNat (Int.natAbs (jQ x)))))<|wE (gJ uK)<|wE (hC gZ gY ((ofNat (Int.natAbs (jQ x))).getD i 0))<|wE (kW uR)<|wR (qR vZ)<|wM<|wE (dS kC j (0:Nat) (L:=(ofNat (Int.natAbs (jQ y)))))<|wE (gJ uK)<|wE (hC gZ gY ((ofNat (Int.natAbs (jQ y))).getD j 0))<|wE (oMl (((ofNat (Int.natAbs (jQ x))).getD i 0)*((ofNat (Int.natAbs (jQ y))).getD j 0)))<|wE (vD ((o2.getD (i+j) 0)+(((ofNat (Int.natAbs (jQ x))).getD i 0)*((ofNat (Int.natAbs (jQ y))).getD j 0))))<|wM<|wE (vD (((o2.getD (i+j) 0)+(((ofNat (Int.natAbs (jQ x))).getD i 0)*((ofNat (Int.natAbs (jQ y))).getD j 0)))+c))<|wM<|wZ) ?_
   refine jB<|kx [] [(3,some (bm jC (o2.set (i+j) ((((o2.getD (i+j) 0)+(((ofNat (Int.natAbs (jQ x))).getD i 0)*((ofNat (Int.natAbs (jQ y))).getD j 0)))+c) % 1000000000))))] (zM<|zM<|zM<|zE (vD (i+j))<|zM<|zE (oRe ((((o2.getD (i+j) 0)+(((ofNat (Int.natAbs (jQ x))).getD i 0)*((ofNat (Int.natAbs (jQ y))).getD j 0)))+c) % 1000000000))<|zE (hC cY cA ((((o2.getD (i+j) 0)+(((ofNat (Int.natAbs (jQ x))).getD i 0)*((ofNat (Int.natAbs (jQ y))).getD j 0)))+c) % 1000000000))<|zE (aJ kC (i+j))<|zT (oSp uK (i+j) ((((o2.getD (i+j) 0)+(((ofNat (Int.natAbs (jQ x))).getD i 0)*((ofNat (Int.natAbs (jQ y))).getD j 0)))+c) % 1000000000))<|zZ) ?_
   refine kx [(7,(zP ((((o2.getD (i+j) 0)+(((ofNat (Int.natAbs (jQ x))).getD i 0)*((ofNat (Int.natAbs (jQ y))).getD j 0)))+c) / 1000000000)))] [] (zM<|zE (oQu ((((o2.getD (i+j) 0)+(((ofNat (Int.natAbs (jQ x))).getD i 0)*((ofNat (Int.natAbs (jQ y))).getD j 0)))+c) / 1000000000))<|zM<|zZ) ?_
   refine kx [(8,(jS (j+1)))] [] (zM<|zE (vD (j+1))<|zM<|zZ) ?_
   exact ⟨(j+1,o2.set (i+j) ((o2.getD (i+j) 0+(ofNat (Int.natAbs (jQ x))).getD i 0*(ofNat (Int.natAbs (jQ y))).getD j 0+c) % 1000000000),(o2.getD (i+j) 0+(ofNat (Int.natAbs (jQ x))).getD i 0*(ofNat (Int.natAbs (jQ y))).getD j 0+c) / 1000000000),wk,(by obtain ⟨q1,q2⟩:=times_step (by omega) hdo2 hv2 rfl (val_take_succ _ j);exact ⟨by simpa using hlen2,q1,by omega,by omega,zero_set (by omega) hz2,q2⟩),(by first|omega|(dsimp only;omega))⟩
  ·replace h2:=xH h2
   have hje:j=(ofNat (Int.natAbs (jQ y))).length:=by omega
   rw[hje] at hv2
   refine kK<|kx [] [(3,some (bm jC (o2.set (i+(ofNat (Int.natAbs (jQ y))).length) c)))] (zM<|zM<|zE (kW uR)<|zR (qR vZ)<|zE (zV kC (L:=(ofNat (Int.natAbs (jQ y)))))<|zE (vD (i+(ofNat (Int.natAbs (jQ y))).length))<|zM<|zE (hC cY cA c)<|zE (aJ kC (i+(ofNat (Int.natAbs (jQ y))).length))<|zT (oSp uK (i+(ofNat (Int.natAbs (jQ y))).length) c)<|zZ) ?_
   refine kx [(6,(jS (i+1)))] [] (zM<|zE (vD (i+1))<|zM<|zZ) ?_
   exact ⟨(i+1,o2.set (i+(ofNat (Int.natAbs (jQ y))).length) c),wk,(by obtain ⟨q1,q2,q3,q4⟩:=times_row hdo2 (by omega) hlen2 hz2 hc hv2;exact ⟨q1,q2,by omega,q3,q4⟩),(by first|omega|(dsimp only;omega))⟩
 ·replace h1:=xH h1
  have hie:i=(ofNat (Int.natAbs (jQ x))).length:=by omega
  rw[hie,List.take_length] at hv
  refine kK<|jB<|kM (vS (t:=5) (k:=3) (es:=List.map jC out) rfl rfl (uM _ _ (fun _=>rfl)) (uD _ _ qL) (vE _ _ (fun _=>rfl) qL)) ?_
  refine kx [] [(2,some (bx (jM (vC (!(((kD (jQ x)).neg) == ((kD (jQ y)).neg))) (val out)))))] (zE (kW uS)<|zR (qR sh4)<|zE (kW uS)<|zR (qR sh4)<|zE (oNb bo4)<|zM<|zE (kH (yW (!(((kD (jQ x)).neg) == ((kD (jQ y)).neg))) out hdo (by omega)))<|zT (qK jX)<|zZ) ?_
  refine jE ⟨_,(kQ (cs:=(bx (jM (vC (!(((kD (jQ x)).neg) == ((kD (jQ y)).neg))) (val out))))) (d:=(jM (vC (!(((kD (jQ x)).neg) == ((kD (jQ y)).neg))) (val out)))) rfl rfl jX rfl rfl .nil),?_⟩
  rw[hv,rmul_eq];rfl
theorem r_short(a:List Nat)(d:Nat)(hda:Dig a)(hd0:0<d)(hd1:d<=1000000000)(hla:a.length<=35184372088832):jW Tryz.prog 107 [(.sl 74 1 (List.map jC a)),(.val (.int .u64 (((d:Nat):Int))))] (.tup [(.sl 74 1 (List.map jC (ofNat (val a / d)))),(.val (.int .u64 ((((val a % d):Nat):Int))))]):=by
 refine uW Tryz.func107 ?_
 refine jB<|kx [] [] (zE (oNl 74 1)<|zM<|zZ) ?_
 refine jB<|kx [(6,(.own 0 74 1 a.length))] [(0,some (bm jC (List.replicate a.length 0)))] (zM<|zE (zV kC)<|zN (oMk 0 jC (0:Nat) a.length a.length kC xW hM dT)<|zM<|zZ) ?_
 refine jB<|kx [(7,(zP 0))] [] (zM<|zZ) ?_
 refine jB<|jB<|kx [(8,(vi (((a.length:Nat):Int)-1)))] [] (zM<|zE (zV kC)<|zE (zSb (((a.length:Nat):Int)-1))<|zM<|zZ) ?_
 refine jG<|kU (α:=Nat × List Nat × Nat) (fun (k,q,vH)=>⟨[(0,(vl 74 1 jC a)),(1,(zP d)),(6,(.own 0 74 1 a.length)),(7,(zP vH)),(8,(vi (((k:Nat):Int)-1)))],[(0,some (bm jC q))]⟩) (fun (k,q,vH)=>k<=a.length/\q.length=a.length/\Dig q/\vH<d/\val (a.drop k)=val (q.drop k)*d+vH) (fun (k,q,vH)=>k) (a.length,List.replicate a.length 0,0) wk ⟨Nat.le_refl _,by simp,vY _,hd0,by simp [val]⟩ ?_
 rintro ⟨k,q,vH⟩ ⟨hk,qL,hdq,hr,hv⟩
 refine jB<|jB<|kx [(17,(vb (decide (0<=(((k:Nat):Int)-1)))))] [] (zM<|zE oGe<|zZ) ?_
 refine jH (b:=decide (0<=(((k:Nat):Int)-1))) rfl (fun h1=>?_) (fun h1=>?_)
 ·replace h1:=xF h1
  obtain ⟨i,rfl⟩:∃ i,k=i+1:=⟨k-1,by omega⟩
  rw[show (((i+1:Nat):Int)-1)=((i:Nat):Int) from by omega]
  have hg:=hda.getD i
  obtain ⟨hb1,hb2⟩:=short_bound hr hd1 hg
  refine jF<|jB<|jG<|jB<|kx [(8,(jS i)),(9,(zP ((vH*1000000000)+(a.getD i 0))))] [] (zM<|zE (oMl (vH*1000000000))<|zM<|zM<|zE (dS kC i (0:Nat))<|zE (gJ uK)<|zE (hC gZ gY (a.getD i 0))<|zE (vD ((vH*1000000000)+(a.getD i 0)))<|zM<|zZ) ?_
  refine jB<|kx [] [(0,some (bm jC (q.set i (((vH*1000000000)+(a.getD i 0)) / d))))] (zM<|zM<|zM<|zM<|zE (oQu (((vH*1000000000)+(a.getD i 0)) / d))<|zE (hC cY cA (((vH*1000000000)+(a.getD i 0)) / d))<|zE (aJ kC i)<|zT (oSp uK i (((vH*1000000000)+(a.getD i 0)) / d))<|zZ) ?_
  refine kx [(7,(zP (((vH*1000000000)+(a.getD i 0)) % d)))] [] (zM<|zM<|zE (oRe (((vH*1000000000)+(a.getD i 0)) % d))<|zM<|zZ) ?_
  refine kx [(8,(vi (((i:Nat):Int)-1)))] [] (zM<|zE (zSb (((i:Nat):Int)-1))<|zM<|zZ) ?_
  exact ⟨(i,q.set i ((vH*1000000000+a.getD i 0) / d),(vH*1000000000+a.getD i 0) % d),wk,⟨by omega,by simpa using qL,hdq.set _ hb2,Nat.mod_lt _ hd0,rshort_step (by omega) hv rfl⟩,(by first|omega|(dsimp only;omega))⟩
 ·replace h1:=xH h1
  obtain rfl:k=0:=by omega
  obtain ⟨e1,e2⟩:=short_end (a:=a) (q:=q) (by rw[Nat.sub_self];exact hv) hr
  refine kK<|jB<|kM (vS (t:=6) (k:=0) (es:=List.map jC q) rfl rfl (uM _ _ (fun _=>rfl)) (uD _ _ qL) (vE _ _ (fun _=>rfl) qL)) ?_
  refine kx [(4,(vl 74 1 jC (ofNat (val q)))),(5,(zP vH))] [] (zM<|zE (kH (yW false q (by first | assumption | exact kB _ | exact (kX _).1 | exact (qA _).1) (by omega)))<|zE (oF1 fE vZ)<|zM<|zM<|zM<|zZ) ?_
  refine jE ⟨_,(.tmp (d:=(.sl 74 1 (List.map jC (ofNat (val q))))) rfl (.tmp (d:=(.val (.int .u64 (((vH:Nat):Int))))) rfl .nil)),?_⟩
  rw[<- e1,<- e2];rfl
theorem r_pair(l:List Nat)(hd:Dig l)(h2:l.length<=2):jW Tryz.prog 56 [(.sl 74 1 (List.map jC l))] (.val (.int .u64 ((((val l):Nat):Int)))):=by
 have h0:=hd.getD 0
 have h1:=hd.getD 1
 refine uW Tryz.func56 ?_
 refine jB<|kx [] [] (zM<|zZ) ?_
 refine jB<|kx [(2,(zP (((l.getD 1 0)*1000000000)+(l.getD 0 0))))] [] (zM<|zE (kH (eS l 1 (by first | assumption | exact kB _ | exact (kX _).1 | exact (qA _).1)))<|zE (oMl ((l.getD 1 0)*1000000000))<|zM<|zE (kH (eS l 0 (by first | assumption | exact kB _ | exact (kX _).1 | exact (qA _).1)))<|zE (vD (((l.getD 1 0)*1000000000)+(l.getD 0 0)))<|zM<|zZ) ?_
 refine jE ⟨_,(.tmp (d:=(.val (.int .u64 ((((((l.getD 1 0)*1000000000)+(l.getD 0 0)):Nat):Int))))) rfl .nil),?_⟩
 rw[val_pair h2];rfl
theorem r_parts(a b:List Nat)(hda:zJ a)(hdb:zJ b)(hb0:0<b.length)(hla:a.length<=35184372087816)(hlb:b.length<=35184372087816):jW Tryz.prog 54 [(.sl 74 1 (List.map jC a)),(.sl 74 1 (List.map jC b))] (.tup [(.sl 74 1 (List.map jC (ofNat (val a / val b)))),(.sl 74 1 (List.map jC (ofNat (val a % val b))))]):=by
 have hsc:=aC hdb hb0
 have htp:=bN hdb hb0
 have hbp:=nS hdb hb0
 refine uW Tryz.func54 ?_
 refine jB<|kx [] [] (zE (oNl 74 1)<|zE (oNl 74 1)<|zZ) ?_
 refine jB<|kx [(6,(jS b.length))] [] (zM<|zE (zV kC)<|zM<|zZ) ?_
 refine jB<|jB<|kx [(19,(vb (((b.length:Nat):Int) == 1)))] [] (zM<|zE nT<|zZ) ?_
 refine jH (b:=(((b.length:Nat):Int) == 1)) rfl (fun h1=>?_) (fun h1=>?_)
 ·replace h1:=eq_of_beq h1
  have hg0:=hdb.1.getD 0
  have hv1:=val_len1 (b:=b) (by omega)
  have hb00:0<b.getD 0 0:=by omega
  have hrl:val a % b.getD 0 0<1000000000:=Nat.lt_trans (Nat.mod_lt _ hb00) (by omega)
  refine jB<|kx [(7,(vl 74 1 jC (ofNat (val a / (b.getD 0 0))))),(8,(zP (val a % (b.getD 0 0))))] [] (zM<|zM<|zE (dS kC 0 (0:Nat))<|zE (gJ uK)<|zE (hC gZ gY (b.getD 0 0))<|zE (kH (r_short a (b.getD 0 0) hda.1 (by omega) (by omega) (by omega)))<|zM<|zE xX<|zE xX<|zM<|zM<|zZ) ?_
  refine jB<|kx [(4,(vl 74 1 jC (ofNat (val a / (b.getD 0 0))))),(5,(vl 74 1 jC (ofNat (val [(val a % (b.getD 0 0))]))))] [] (zM<|zM<|zE (hC cY cA (val a % (b.getD 0 0)))<|zE (dM kC xW hM)<|zE (kH (yW false [(val a % (b.getD 0 0))] (xS.2 ⟨by omega,yA⟩) (by simp)))<|zE (oF1 fE vZ)<|zM<|zM<|zZ) ?_
  refine jE ⟨_,(.tmp (d:=(.sl 74 1 (List.map jC (ofNat (val a / (b.getD 0 0)))))) rfl (.tmp (d:=(.sl 74 1 (List.map jC (ofNat (val [(val a % (b.getD 0 0))]))))) rfl .nil)),?_⟩
  rw[hv1,mX];rfl
 ·replace h1:=ne_of_beq_false h1
  refine jF<|jB<|jB<|kx [(38,(vb (decide ((uI ((val a:Nat):Int) ((val b:Nat):Int))<0))))] [] (zM<|zM<|zE (kH (r_size a b (by first | assumption | exact kX _ | exact qA _) (by first | assumption | exact kX _ | exact qA _) (by omega) (by omega)))<|zE xO<|zZ) ?_
  refine jH rfl (fun h2=>?_) (fun h2=>?_)
  ·replace h2:=xF h2
   refine jB<|kx [(4,(vl 74 1 jC [])),(5,(vl 74 1 jC a))] [] (zE (dM kC xW hM)<|zM<|zM<|zM<|zZ) ?_
   refine jE ⟨_,(.tmp (d:=(.sl 74 1 (List.map jC []))) rfl (.tmp (d:=(.sl 74 1 (List.map jC a))) rfl .nil)),?_⟩
   have hlt:=cmpI_neg h2
   rw[Nat.div_eq_of_lt hlt,Nat.mod_eq_of_lt hlt,qS,<- can_eq hda];rfl
  ·replace h2:=xH h2
   obtain ⟨u,hue⟩:∃ u,u=ofNat (val a*cB b):=⟨_,rfl⟩
   obtain ⟨v,hve⟩:∃ v,v=ofNat (val b*cB b):=⟨_,rfl⟩
   have hu:Dig u:=by rw[hue];exact kB _
   have hcv:zJ v:=by rw[hve];exact kX _
   have hvd:=hcv.1
   have hvl:v.length=b.length:=by rw[hve];exact scl_len hdb hb0
   have hvv:val v=val b*cB b:=by rw[hve];exact jZ _
   have huv:val u=val a*cB b:=by rw[hue];exact jZ _
   have hab:=len_of_le hda hdb (cmpI_nn h2)
   have hul:a.length<=u.length/\u.length<=a.length+1:=by rw[hue];exact scl_lenA hda hdb hb0
   have hvp:=nS hcv (by omega)
   have hpv:pw (b.length-1)<=val v:=by have h1:=val_top hvd (by omega);have h3:=bN hcv (by omega);rw[hvl] at h1 h3;have h2:=Nat.mul_le_mul_right (pw (b.length-1)) h3.1;omega
   refine jF<|jB<|kx [(9,(zP (cB b)))] [] (zM<|zM<|zE (oSb (b.length-1))<|zE (dS kC (b.length-1) (0:Nat))<|zE (gJ uK)<|zE (hC gZ gY (b.getD (b.length-1) 0))<|zE (vD ((b.getD (b.length-1) 0)+1))<|zE (oQu (cB b) (hr:=by exact (quo_u64 1000000000 (b.getD (b.length-1) 0+1))))<|zM<|zZ) ?_
   refine jB<|kx [(0,(vl 74 1 jC u)),(1,(vl 74 1 jC v))] [] (zM<|zM<|zE (kH (hue▸r_scaled a (cB b) hda.1 (by omega) (by omega)))<|zM<|zM<|zE (kH (hve▸r_scaled b (cB b) hdb.1 (by omega) (by omega)))<|zM<|zM<|zZ) ?_
   refine jB<|kx [(10,(vl 74 1 jC (ofNat (val (List.drop ((u.length-b.length)+1) u)))))] [] (zM<|zM<|zE (zV kC)<|zM<|zE (oSb (u.length-b.length))<|zE (vD ((u.length-b.length)+1))<|zE (e_slc (l:=((u.length-b.length)+1)) (h:=(List.map jC u).length) (kl:=.i64) (kh:=.i64) (es':=List.map jC (List.drop ((u.length-b.length)+1) u)) (by exact rfl) kC (by exact rfl) (by exact rfl) (by exact rfl) (by simp only[List.length_map];omega) (Nat.le_refl _) (by rw[List.take_length,List.map_drop]))<|zE (kH (yW false (List.drop ((u.length-b.length)+1) u) (hu.drop _) (by rw[List.length_drop];omega)))<|zE (oF1 fE vZ)<|zM<|zZ) ?_
   refine jB<|kx [(11,(.own 0 74 1 ((u.length-b.length)+1)))] [(0,some (bm jC (List.replicate ((u.length-b.length)+1) 0)))] (zM<|zE (zV kC)<|zM<|zE (oSb (u.length-b.length))<|zE (vD ((u.length-b.length)+1))<|zN (oMk 0 jC (0:Nat) ((u.length-b.length)+1) ((u.length-b.length)+1) kC xW hM dT)<|zM<|zZ) ?_
   refine jB<|jB<|kx [(12,(vi ((((u.length-b.length)+1:Nat):Int)-1)))] [] (zM<|zE (zV kC)<|zM<|zE (zSb ((((u.length-b.length)+1:Nat):Int)-1))<|zM<|zZ) ?_
   refine jG<|kU (α:=Nat × List Nat × List Nat) (fun (k,r,q)=>⟨[(0,(vl 74 1 jC u)),(1,(vl 74 1 jC v)),(6,(jS b.length)),(9,(zP (cB b))),(10,(vl 74 1 jC r)),(11,(.own 0 74 1 ((u.length-b.length)+1))),(12,(vi (((k:Nat):Int)-1)))],[(0,some (bm jC q))]⟩) (fun (k,r,q)=>zJ r/\k<=((u.length-b.length)+1)/\q.length=((u.length-b.length)+1)/\Dig q/\val r<val v/\val (u.drop k)=val v*val (q.drop k)+val r) (fun (k,r,q)=>k) (((u.length-b.length)+1),ofNat (val (List.drop ((u.length-b.length)+1) u)),List.replicate ((u.length-b.length)+1) 0) wk ⟨kX _,Nat.le_refl _,by simp,vY _,by rw[jZ];have h7:=uV (hu.drop ((u.length-b.length)+1));rw[List.length_drop,show u.length-((u.length-b.length)+1)=b.length-1 by omega] at h7;omega,by rw[jZ];simp [val]⟩ ?_
   rintro ⟨k,r,q⟩ ⟨hrc,hk,hql,hqd,hr,hv⟩
   refine jB<|jB<|kx [(75,(vb (decide (0<=(((k:Nat):Int)-1)))))] [] (zM<|zE oGe<|zZ) ?_
   refine jH (b:=decide (0<=(((k:Nat):Int)-1))) rfl (fun h3=>?_) (fun h3=>?_)
   ·replace h3:=xF h3
    obtain ⟨i,rfl⟩:∃ i,k=i+1:=⟨k-1,by omega⟩
    rw[show (((i+1:Nat):Int)-1)=((i:Nat):Int) from by omega]
    have hgu:=hu.getD i
    have hW:(u.getD i 0+1000000000*val r)<1000000000*val v:=by omega
    have hrs:=rshift_val u hv
    obtain ⟨hg1,hg2⟩:=rguess hvd hvl hb0 hW
    have hgv:=hvd.getD (b.length-1)
    have hgw1:=(kB (u.getD i 0+1000000000*val r)).getD b.length
    have hgw2:=(kB (u.getD i 0+1000000000*val r)).getD (b.length-1)
    have hrl:r.length<=b.length:=by have h9:=vK (Nat.le_of_lt hr);rwa [<- can_eq hrc,<- can_eq hcv,hvl] at h9
    have hwl:(ofNat (u.getD i 0+1000000000*val r)).length<=b.length+1:=qJ (by rw[qZ];have:=uV hvd;rw[hvl] at this;omega)
    refine jF<|jB<|jG<|jB<|kx [(10,(vl 74 1 jC (ofNat ((u.getD i 0)+1000000000*val r)))),(12,(jS i))] [] (zM<|zM<|zM<|zE (dS kC i (0:Nat))<|zE (gJ uK)<|zE (kH (r_shifted r (u.getD i 0) hrc.1 (by omega) (by omega)))<|zM<|zZ) ?_
    refine jB<|kd [(13,(zP (((((ofNat ((u.getD i 0)+1000000000*val r)).getD b.length 0)*1000000000)+((ofNat ((u.getD i 0)+1000000000*val r)).getD (b.length-1) 0)) / ((v.getD (b.length-1) 0)+1))))] [] mo (wM<|wM<|wE (kH (eS (ofNat ((u.getD i 0)+1000000000*val r)) b.length (kB _)))<|wE (oMl (((ofNat ((u.getD i 0)+1000000000*val r)).getD b.length 0)*1000000000))<|wM<|wM<|wE (oSb (b.length-1))<|wE (kH (eS (ofNat ((u.getD i 0)+1000000000*val r)) (b.length-1) (by first | assumption | exact kB _ | exact (kX _).1 | exact (qA _).1)))<|wE (vD ((((ofNat ((u.getD i 0)+1000000000*val r)).getD b.length 0)*1000000000)+((ofNat ((u.getD i 0)+1000000000*val r)).getD (b.length-1) 0)))<|wM<|wM<|wE (oSb (b.length-1))<|wE (dS kC (b.length-1) (0:Nat))<|wE (gJ uK)<|wE (hC gZ gY (v.getD (b.length-1) 0))<|wE (vD ((v.getD (b.length-1) 0)+1))<|wE (oQu (((((ofNat ((u.getD i 0)+1000000000*val r)).getD b.length 0)*1000000000)+((ofNat ((u.getD i 0)+1000000000*val r)).getD (b.length-1) 0)) / ((v.getD (b.length-1) 0)+1)))<|wM<|wZ) ?_
    refine jB<|kx [(10,(vl 74 1 jC (ofNat (val (ofNat ((u.getD i 0)+1000000000*val r))-val (ofNat (val v*(((((ofNat ((u.getD i 0)+1000000000*val r)).getD b.length 0)*1000000000)+((ofNat ((u.getD i 0)+1000000000*val r)).getD (b.length-1) 0)) / ((v.getD (b.length-1) 0)+1))))))))] [] (zM<|zM<|zM<|zE (kH (r_scaled v (((((ofNat ((u.getD i 0)+1000000000*val r)).getD b.length 0)*1000000000)+((ofNat ((u.getD i 0)+1000000000*val r)).getD (b.length-1) 0)) / ((v.getD (b.length-1) 0)+1)) hvd (by omega) (by omega)))<|zE (kH (r_minus (ofNat ((u.getD i 0)+1000000000*val r)) (ofNat (val v*(((((ofNat ((u.getD i 0)+1000000000*val r)).getD b.length 0)*1000000000)+((ofNat ((u.getD i 0)+1000000000*val r)).getD (b.length-1) 0)) / ((v.getD (b.length-1) 0)+1)))) (kB _) (kB _) (by rw[jZ,jZ,Nat.mul_comm];exact hg1) (by omega)))<|zM<|zZ) ?_
    refine jB<|jG<|kU (α:=Nat × List Nat) (fun (G,r2)=>⟨[(0,(vl 74 1 jC u)),(1,(vl 74 1 jC v)),(6,(jS b.length)),(9,(zP (cB b))),(10,(vl 74 1 jC r2)),(11,(.own 0 74 1 ((u.length-b.length)+1))),(12,(jS i)),(13,(zP G))],[(0,some (bm jC q))]⟩) (fun (G,r2)=>zJ r2/\val v*G+val r2=(u.getD i 0+1000000000*val r)) (fun (G,r2)=>val r2) ((((ofNat (u.getD i 0+1000000000*val r)).getD b.length 0*1000000000+(ofNat (u.getD i 0+1000000000*val r)).getD (b.length-1) 0) / (v.getD (b.length-1) 0+1)),ofNat (val (ofNat (u.getD i 0+1000000000*val r))-val (ofNat (val v*(((ofNat (u.getD i 0+1000000000*val r)).getD b.length 0*1000000000+(ofNat (u.getD i 0+1000000000*val r)).getD (b.length-1) 0) / (v.getD (b.length-1) 0+1)))))) wk ⟨kX _,by rw[jZ,jZ,jZ];rw[Nat.mul_comm] at hg1;omega⟩ ?_
    rintro ⟨G,r2⟩ ⟨hr2,hr2v⟩
    have hr2l:r2.length<=b.length+1:=by have h9:=vK (show val r2<=(u.getD i 0+1000000000*val r) by omega);rw[<- can_eq hr2] at h9;omega
    refine jB<|jB<|kx [(109,(vb (decide (0<=(uI ((val r2:Nat):Int) ((val v:Nat):Int))))))] [] (zM<|zM<|zE (kH (r_size r2 v hr2 hcv (by omega) (by omega)))<|zE oGe<|zZ) ?_
    refine jH rfl (fun h4=>?_) (fun h4=>?_)
    ·replace h4:=xF h4
     have hge:=bF h4
     have hG:=rquo_lt hr2v hW
     have hr2l:r2.length<=b.length+1:=by have h9:=vK (show val r2<=(u.getD i 0+1000000000*val r) by omega);rw[<- can_eq hr2] at h9;omega
     refine jF<|jG<|jB<|kx [(10,(vl 74 1 jC (ofNat (val r2-val v))))] [] (zM<|zM<|zE (kH (r_minus r2 v hr2.1 hvd (by omega) (by omega)))<|zM<|zZ) ?_
     refine kx [(13,(zP (G+1)))] [] (zM<|zE (vD (G+1))<|zM<|zZ) ?_
     exact ⟨(G+1,ofNat (val r2-val v)),wk,(by have hge:=bF h4;exact ⟨kX _,by rw[jZ,Nat.mul_add,Nat.mul_one];omega⟩),(by have hge:=bF h4;dsimp only;rw[jZ];omega)⟩
    ·replace h4:=xH h4
     have hG:=rquo_lt hr2v hW
     have hlt:val r2<val v:=by have h9:=cmpI_lt h4;omega
     refine kK<|kx [] [(0,some (bm jC (q.set i G)))] (zM<|zM<|zM<|zE (hC cY cA G)<|zE (aJ kC i)<|zT (oSp uK i G)<|zZ) ?_
     refine kx [(12,(vi (((i:Nat):Int)-1)))] [] (zM<|zE (zSb (((i:Nat):Int)-1))<|zM<|zZ) ?_
     exact ⟨(i,r2,q.set i G),wk,⟨hr2,by omega,by simpa using hql,hqd.set _ hG,hlt,rround (by omega) (by rw[hr2v];exact hrs)⟩,(by first|omega|(dsimp only;omega))⟩
   ·replace h3:=xH h3
    obtain rfl:k=0:=by omega
    obtain ⟨e1,e2⟩:=scl_div (a:=a) (b:=b) (q:=q) (u:=r) hdb hb0 (by rw[List.drop_zero,List.drop_zero] at hv;rw[nE,Nat.one_mul,List.drop_zero,<- huv,<- hvv,hv];omega) (by rw[List.drop_zero,<- hvv];exact hr)
    have hrl:r.length<=b.length:=by have h9:=vK (Nat.le_of_lt hr);rwa [<- can_eq hrc,<- can_eq hcv,hvl] at h9
    refine kK<|jB<|kx [(14,(vl 74 1 jC (ofNat (val r / (cB b)))))] [] (zM<|zM<|zE (kH (r_short r (cB b) hrc.1 (by omega) (by omega) (by omega)))<|zM<|zE xX<|zE xX<|zM<|zM<|zZ) ?_
    refine jB<|kM (vS (t:=11) (k:=0) (es:=List.map jC q) rfl rfl (uM _ _ (fun _=>rfl)) (uD _ _ hql) (vE _ _ (fun _=>rfl) hql)) ?_
    refine kx [(4,(vl 74 1 jC (ofNat (val q)))),(5,(vl 74 1 jC (ofNat (val r / (cB b)))))] [] (zM<|zE (kH (yW false q hqd (by omega)))<|zE (oF1 fE vZ)<|zM<|zM<|zM<|zZ) ?_
    refine jE ⟨_,(.tmp (d:=(.sl 74 1 (List.map jC (ofNat (val q))))) rfl (.tmp (d:=(.sl 74 1 (List.map jC (ofNat (val r / (cB b)))))) rfl .nil)),?_⟩
    rw[<- e1,<- e2];rfl
theorem r_gcd(x:kO)(y:kO)(hx:x.gs.length<=35184372087816)(hy:y.gs.length<=35184372087816):jW Tryz.prog 24 [(jM x),(jM y)] (jM (kD ((Int.gcd (jQ x) (jQ y):Nat):Int))):=by
 have hvx:=cU x
 have hvy:=cU y
 refine uW Tryz.func24 ?_
 refine jB<|kx [(2,(.ref 0 0)),(3,(.ref 1 0)),(4,(.ref 2 0))] [(0,some (bx (jM x))),(1,some (bx (jM y))),(2,some (bx (jM (kO.mk false []))))] (zN (xA 0)<|zN (xA 1)<|zN (uT 2 xL xK)<|zZ) ?_
 refine jB<|kd [(5,(vl 74 1 jC (ofNat (Int.natAbs (jQ x))))),(6,(vl 74 1 jC (ofNat (Int.natAbs (jQ y)))))] [] mo (wR (kT jX)<|wE (kH (cR x (by omega)))<|wE (oF1 fE vZ)<|wR (kT jX)<|wE (kH (cR y (by omega)))<|wE (oF1 fE vZ)<|wM<|wM<|wZ) ?_
 refine jB<|jG<|kU (α:=List Nat × List Nat) (fun (a,b)=>⟨[(4,(.ref 2 0)),(5,(vl 74 1 jC a)),(6,(vl 74 1 jC b))],[(2,some (bx (jM (kO.mk false []))))]⟩) (fun (a,b)=>zJ a/\zJ b/\a.length<=35184372087816/\b.length<=35184372087816/\Nat.gcd (val a) (val b)=Int.gcd (jQ x) (jQ y)) (fun (a,b)=>val b) ((ofNat (Int.natAbs (jQ x))),(ofNat (Int.natAbs (jQ y)))) wk ⟨kX _,kX _,by omega,by omega,by rw[jZ,jZ];rfl⟩ ?_
 rintro ⟨a,b⟩ ⟨ha,hb,hla,hlb,hg⟩
 refine jB<|jB<|kx [(29,(vb (decide (0<((b.length:Nat):Int))&&(decide (2<((a.length:Nat):Int))||decide (2<((b.length:Nat):Int))))))] [] ?_ ?_
 ·refine zM<|zE (zV kC)<|zE mB<|zE (oV (vb (decide (0<((b.length:Nat):Int)))) (qF (by kernel_rfl)))<|?_
  rcases hb1:(decide (0<((b.length:Nat):Int))) with _ | _
  ·replace hb1:=xH hb1
   exact zK<|zK<|zK<|zK<|zK<|zK<|zK<|zK<|zE gK<|zZ
  ·replace hb1:=xF hb1
   refine zM<|zE (zV kC)<|zE mB<|zE (oV (vb (decide (2<((a.length:Nat):Int)))) (qF (by kernel_rfl)))<|?_
   rcases hb2:(decide (2<((a.length:Nat):Int))) with _ | _
   ·replace hb2:=xH hb2
    exact zM<|zE (zV kC)<|zE mB<|zE aG<|zE oPa<|zZ
   ·replace hb2:=xF hb2
    exact zK<|zK<|zK<|zE yT<|zE yT<|zZ
 refine jH rfl (fun h3=>?_) (fun h3=>?_)
 ·have hbl:0<b.length:=by rw[Bool.and_eq_true,decide_eq_true_eq] at h3;omega
  have hb0:=nS hb hbl
  refine jF<|jG<|jB<|kx [(8,(vl 74 1 jC (ofNat (val a % val b))))] [] (zM<|zM<|zE (kH (r_parts a b ha hb (by omega) (by omega) (by omega)))<|zM<|zE xX<|zE xX<|zM<|zM<|zZ) ?_
  refine kx [(5,(vl 74 1 jC b)),(6,(vl 74 1 jC (ofNat (val a % val b))))] [] (zM<|zM<|zM<|zM<|zZ) ?_
  exact ⟨(b,ofNat (val a % val b)),wk,⟨hb,kX _,hlb,Nat.le_trans (len_rem a ha _) hla,by rw[jZ,<- hg,Nat.gcd_comm,<- Nat.gcd_rec,Nat.gcd_comm]⟩,(by dsimp only;rw[jZ];exact Nat.mod_lt _ hb0)⟩
 ·have hex:=h3
  refine kK<|jB<|jB<|kx [(40,(vb (((b.length:Nat):Int) == 0)))] [] (zM<|zE (zV kC)<|zE nT<|zZ) ?_
  refine jH (b:=(((b.length:Nat):Int) == 0)) rfl (fun h4=>?_) (fun h4=>?_)
  ·replace h4:=eq_of_beq h4
   have hb1:b=[]:=List.eq_nil_of_length_eq_zero (by omega)
   rw[hb1,val_nil,Nat.gcd_zero_right] at hg
   refine jB<|kx [] [(2,some (bx (jM (vC false (val a)))))] (zM<|zE (kH (yW false a ha.1 (by omega)))<|zT (qK jX)<|zZ) ?_
   refine jE ⟨_,(kQ (cs:=(bx (jM (vC false (val a))))) (d:=(jM (vC false (val a)))) rfl rfl jX rfl rfl .nil),?_⟩
   rw[<- hg,mkI_false];rfl
  ·replace h4:=ne_of_beq_false h4
   have hl2:a.length<=2/\b.length<=2:=by simp only[Bool.and_eq_false_iff,Bool.or_eq_false_iff,decide_eq_false_iff_not] at hex;omega
   refine jF<|jB<|kx [(9,(zP (val a))),(10,(zP (val b)))] [] (zM<|zE (kH (r_pair a ha.1 (by omega)))<|zM<|zE (kH (r_pair b hb.1 (by omega)))<|zM<|zM<|zZ) ?_
   refine jB<|jG<|kU (α:=Nat × Nat) (fun (m,n)=>⟨[(4,(.ref 2 0)),(9,(zP m)),(10,(zP n))],[(2,some (bx (jM (kO.mk false []))))]⟩) (fun (m,n)=>m<1000000000000000000/\n<1000000000000000000/\Nat.gcd m n=Int.gcd (jQ x) (jQ y)) (fun (m,n)=>n) (val a,val b) wk ⟨val_len2 ha.1 hl2.1,val_len2 hb.1 hl2.2,hg⟩ ?_
   rintro ⟨m,n⟩ ⟨hm,hn,hg2⟩
   refine jB<|jB<|kx [(48,(vb (decide (0<((n:Nat):Int)))))] [] (zM<|zE mB<|zZ) ?_
   refine jH (b:=decide (0<((n:Nat):Int))) rfl (fun h5=>?_) (fun h5=>?_)
   ·replace h5:=xF h5
    refine jF<|jG<|kd [(9,(zP n)),(10,(zP (m % n)))] [] mo (wM<|wM<|wM<|wE (oRe (m % n))<|wM<|wM<|wZ) ?_
    exact ⟨(n,m % n),wk,⟨hn,Nat.lt_of_le_of_lt (Nat.mod_le _ _) hm,by rw[<- hg2,Nat.gcd_comm,<- Nat.gcd_rec,Nat.gcd_comm]⟩,(by dsimp only;exact Nat.mod_lt _ (by omega))⟩
   ·replace h5:=xH h5
    obtain rfl:n=0:=by omega
    rw[Nat.gcd_zero_right] at hg2
    have hmv:val [m % 1000000000,m / 1000000000]=m:=by simp only[val];omega
    refine kK<|jB<|kx [] [(2,some (bx (jM (vC false (val [(m % 1000000000),(m / 1000000000)])))))] (zM<|zE (oRe (m % 1000000000))<|zE (hC cY cA (m % 1000000000))<|zM<|zE (oQu (m / 1000000000))<|zE (hC cY cA (m / 1000000000))<|zE (dM kC xW hM)<|zE (kH (yW false [(m % 1000000000),(m / 1000000000)] (xS.2 ⟨Nat.mod_lt _ (by decide),xS.2 ⟨by omega,yA⟩⟩) (by simp)))<|zT (qK jX)<|zZ) ?_
    refine jE ⟨_,(kQ (cs:=(bx (jM (vC false (val [(m % 1000000000),(m / 1000000000)]))))) (d:=(jM (vC false (val [(m % 1000000000),(m / 1000000000)])))) rfl rfl jX rfl rfl .nil),?_⟩
    rw[<- hg2,hmv,mkI_false];rfl
theorem r_compare(x:kO)(y:kO)(hx:x.gs.length<=35184372087808)(hy:y.gs.length<=35184372087808):jW Tryz.prog 23 [(jM x),(jM y)] (.val (.int .i64 ((uI (jQ x) (jQ y))))):=by
 have hv:=gs_sub x y
 refine uW Tryz.func23 ?_
 refine jB<|kx [(2,(.ref 0 0)),(3,(.ref 1 0))] [(0,some (bx (jM x))),(1,some (bx (jM y)))] (zN (xA 0)<|zN (xA 1)<|zM<|zZ) ?_
 refine jB<|kx [(4,(vi (qO (jQ (kD (jQ x-jQ y))))))] [] (zR (kT jX)<|zR (kT jX)<|zE (kH (r_sub x y (by omega) (by omega)))<|zE (kH (r_sign (kD (jQ x-jQ y)) (by omega)))<|zM<|zZ) ?_
 refine jE ⟨_,(.tmp (d:=(.val (.int .i64 ((qO (jQ (kD (jQ x-jQ y)))))))) rfl .nil),?_⟩
 rw[mH,signI_sub];rfl
theorem r_divide(x:kO)(y:kO)(hx:x.gs.length<=274877906944)(hy:y.gs.length<=274877906944)(hy0:jQ y≠0):jW Tryz.prog 93 [(jM x),(jM y)] (.tup [(jM (kD ((jQ x).fdiv (jQ y)))),(jM (kD ((jQ x).fmod (jQ y)))),(.val (.int .i64 (0)))]):=by
 have hvx:=cU x
 have hvy:=cU y
 have hmx:=gs_val x
 have hmy:=gs_val y
 have hy1:0<(jQ y).natAbs:=by omega
 have hyl:=cP hy1
 have hql:(ofNat (val (ofNat (Int.natAbs (jQ x))) / val (ofNat (Int.natAbs (jQ y))))).length<=274877906944:=by have:=len_quo (ofNat (Int.natAbs (jQ x))) (kX _) (val (ofNat (Int.natAbs (jQ y))));omega
 have hqg:(vC (!((kD (jQ x)).neg == (kD (jQ y)).neg)) (val (ofNat (val (ofNat (Int.natAbs (jQ x))) / val (ofNat (Int.natAbs (jQ y))))))).gs.length<=274877906944:=by show (ofNat (val (ofNat (val (ofNat (Int.natAbs (jQ x))) / val (ofNat (Int.natAbs (jQ y))))))).length<=_;rw[jZ];exact hql
 have eO:(kD 1).gs.length<=1:=(iok_small (z:=1)).l
 have hqs:=gs_sub (vC (!((kD (jQ x)).neg == (kD (jQ y)).neg)) (val (ofNat (val (ofNat (Int.natAbs (jQ x))) / val (ofNat (Int.natAbs (jQ y))))))) (kD 1)
 refine uW Tryz.func93 ?_
 refine jB<|kx [(2,(.ref 0 0)),(3,(.ref 1 0)),(4,(.ref 2 0)),(5,(.ref 3 0))] [(0,some (bx (jM x))),(1,some (bx (jM y))),(2,some (bx (jM (kO.mk false [])))),(3,some (bx (jM (kO.mk false []))))] (zN (xA 0)<|zN (xA 1)<|zN (uT 2 xL xK)<|zN (uT 3 xL xK)<|zM<|zZ) ?_
 refine jB<|kd [] [(0,some (bx (jM (kD (jQ x))))),(1,some (bx (jM (kD (jQ y)))))] mo (wR (kT jX)<|wE (kH (cR x (by omega)))<|wR (kT jX)<|wE (kH (cR y (by omega)))<|wT (qK jX)<|wT (qK jX)<|wZ) ?_
 refine jB<|jB<|kx [(17,(vb ((((ofNat (Int.natAbs (jQ y))).length:Nat):Int) == 0)))] [] (zE (kW uR)<|zR (qR vZ)<|zE (zV kC (L:=(ofNat (Int.natAbs (jQ y)))))<|zE nT<|zZ) ?_
 refine jH rfl (fun h1=>?_) (fun h1=>?_)
 ·replace h1:=eq_of_beq h1
  exact absurd h1 (by omega)
 ·replace h1:=ne_of_beq_false h1
  refine jF<|jB<|kx [(7,(vl 74 1 jC (ofNat (val (ofNat (Int.natAbs (jQ x))) / val (ofNat (Int.natAbs (jQ y))))))),(8,(vl 74 1 jC (ofNat (val (ofNat (Int.natAbs (jQ x))) % val (ofNat (Int.natAbs (jQ y)))))))] [] (zE (kW uR)<|zR (qR vZ)<|zE (kW uR)<|zR (qR vZ)<|zE (kH (r_parts (ofNat (Int.natAbs (jQ x))) (ofNat (Int.natAbs (jQ y))) (by first | assumption | exact kX _ | exact qA _) (by first | assumption | exact kX _ | exact qA _) (by omega) (by omega) (by omega)))<|zM<|zE xX<|zE xX<|zM<|zM<|zZ) ?_
  refine jB<|kx [(9,(.ref 4 0))] [(4,some (bx (jM (vC (!(((kD (jQ x)).neg) == ((kD (jQ y)).neg))) (val (ofNat (val (ofNat (Int.natAbs (jQ x))) / val (ofNat (Int.natAbs (jQ y))))))))))] (zE (kW uS)<|zR (qR sh4)<|zE (kW uS)<|zR (qR sh4)<|zE (oNb bo4)<|zM<|zE (kH (yW (!(((kD (jQ x)).neg) == ((kD (jQ y)).neg))) (ofNat (val (ofNat (Int.natAbs (jQ x))) / val (ofNat (Int.natAbs (jQ y))))) (kB _) (by omega)))<|zN (uT 4 xL xK)<|zT (qK jX)<|zZ) ?_
  refine jB<|jB<|kx [(44,(vb (!(((kD (jQ x)).neg) == ((kD (jQ y)).neg))&&decide (0<(((ofNat (val (ofNat (Int.natAbs (jQ x))) % val (ofNat (Int.natAbs (jQ y))))).length:Nat):Int)))))] [] ?_ ?_
  ·refine zE (kW uS)<|zR (qR sh4)<|zE (kW uS)<|zR (qR sh4)<|zE (oNb bo4)<|zE (oV (vb (!(((kD (jQ x)).neg) == ((kD (jQ y)).neg)))) (qF (by kernel_rfl)))<|?_
   rcases hb2:(!(((kD (jQ x)).neg) == ((kD (jQ y)).neg))) with _ | _
   ·exact zK<|zK<|zK<|zE gK<|zZ
   ·exact zM<|zE (zV kC (L:=(ofNat (val (ofNat (Int.natAbs (jQ x))) % val (ofNat (Int.natAbs (jQ y)))))))<|zE mB<|zE oPa<|zZ
  refine jH rfl (fun h3=>?_) (fun h3=>?_)
  ·have hqm:=gs_mul (kD (jQ (vC (!((kD (jQ x)).neg == (kD (jQ y)).neg)) (val (ofNat (val (ofNat (Int.natAbs (jQ x))) / val (ofNat (Int.natAbs (jQ y)))))))-jQ (kD 1))) (kD (jQ y))
   have hk:=r_div_other (X:=jQ x) (Y:=jQ y) hy1 (by rw[Bool.and_eq_true,Bool.not_eq_true',beq_eq_false_iff_ne,decide_eq_true_eq] at h3;exact h3)
   refine kd [] [(4,some (bx (jM (kD (jQ (vC (!(((kD (jQ x)).neg) == ((kD (jQ y)).neg))) (val (ofNat (val (ofNat (Int.natAbs (jQ x))) / val (ofNat (Int.natAbs (jQ y)))))))-jQ (kD 1))))))] mo (wR (kT jX)<|wE (kH (r_of 1 (by omega) (by omega)))<|wE (kH (r_sub (vC (!(((kD (jQ x)).neg) == ((kD (jQ y)).neg))) (val (ofNat (val (ofNat (Int.natAbs (jQ x))) / val (ofNat (Int.natAbs (jQ y))))))) (kD 1) (by omega) (by omega)))<|wT (qK jX)<|wZ) ?_
   refine jB<|kd [(6,(jS 0))] [(2,some (bx (jM (kD (jQ (vC (!(((kD (jQ x)).neg) == ((kD (jQ y)).neg))) (val (ofNat (val (ofNat (Int.natAbs (jQ x))) / val (ofNat (Int.natAbs (jQ y)))))))-jQ (kD 1)))))),(3,some (bx (jM (kD (jQ (kD (jQ x))-jQ (kD (jQ (kD (jQ (vC (!(((kD (jQ x)).neg) == ((kD (jQ y)).neg))) (val (ofNat (val (ofNat (Int.natAbs (jQ x))) / val (ofNat (Int.natAbs (jQ y)))))))-jQ (kD 1)))*jQ (kD (jQ y)))))))))] mo (wR (kT jX)<|wR (kT jX)<|wR (kT jX)<|wR (kT jX)<|wE (kH (r_mul (kD (jQ (vC (!(((kD (jQ x)).neg) == ((kD (jQ y)).neg))) (val (ofNat (val (ofNat (Int.natAbs (jQ x))) / val (ofNat (Int.natAbs (jQ y)))))))-jQ (kD 1))) (kD (jQ y)) (by omega) (by omega)))<|wE (kH (r_sub (kD (jQ x)) (kD (jQ (kD (jQ (vC (!(((kD (jQ x)).neg) == ((kD (jQ y)).neg))) (val (ofNat (val (ofNat (Int.natAbs (jQ x))) / val (ofNat (Int.natAbs (jQ y)))))))-jQ (kD 1)))*jQ (kD (jQ y)))) (by omega) (by omega)))<|wT (qK jX)<|wT (qK jX)<|wM<|wZ) ?_
   refine jE ⟨_,(kQ (cs:=(bx (jM (kD (jQ (vC (!(((kD (jQ x)).neg) == ((kD (jQ y)).neg))) (val (ofNat (val (ofNat (Int.natAbs (jQ x))) / val (ofNat (Int.natAbs (jQ y)))))))-jQ (kD 1)))))) (d:=(jM (kD (jQ (vC (!(((kD (jQ x)).neg) == ((kD (jQ y)).neg))) (val (ofNat (val (ofNat (Int.natAbs (jQ x))) / val (ofNat (Int.natAbs (jQ y)))))))-jQ (kD 1))))) rfl rfl jX rfl rfl (kQ (cs:=(bx (jM (kD (jQ (kD (jQ x))-jQ (kD (jQ (kD (jQ (vC (!(((kD (jQ x)).neg) == ((kD (jQ y)).neg))) (val (ofNat (val (ofNat (Int.natAbs (jQ x))) / val (ofNat (Int.natAbs (jQ y)))))))-jQ (kD 1)))*jQ (kD (jQ y))))))))) (d:=(jM (kD (jQ (kD (jQ x))-jQ (kD (jQ (kD (jQ (vC (!(((kD (jQ x)).neg) == ((kD (jQ y)).neg))) (val (ofNat (val (ofNat (Int.natAbs (jQ x))) / val (ofNat (Int.natAbs (jQ y)))))))-jQ (kD 1)))*jQ (kD (jQ y)))))))) rfl rfl jX rfl rfl (.tmp (d:=(.val (.int .i64 (0)))) rfl .nil))),?_⟩
   rw[hk,r_rem_eq];rfl
  ·have hqm:=gs_mul (vC (!((kD (jQ x)).neg == (kD (jQ y)).neg)) (val (ofNat (val (ofNat (Int.natAbs (jQ x))) / val (ofNat (Int.natAbs (jQ y))))))) (kD (jQ y))
   have hk:=r_div_same (X:=jQ x) (Y:=jQ y) hy1 (by rw[Bool.and_eq_false_iff,Bool.not_eq_false',beq_iff_eq,decide_eq_false_iff_not] at h3;exact h3)
   refine jF<|jB<|kd [(6,(jS 0))] [(2,some (bx (jM (vC (!(((kD (jQ x)).neg) == ((kD (jQ y)).neg))) (val (ofNat (val (ofNat (Int.natAbs (jQ x))) / val (ofNat (Int.natAbs (jQ y)))))))))),(3,some (bx (jM (kD (jQ (kD (jQ x))-jQ (kD (jQ (vC (!(((kD (jQ x)).neg) == ((kD (jQ y)).neg))) (val (ofNat (val (ofNat (Int.natAbs (jQ x))) / val (ofNat (Int.natAbs (jQ y)))))))*jQ (kD (jQ y)))))))))] mo (wR (kT jX)<|wR (kT jX)<|wR (kT jX)<|wR (kT jX)<|wE (kH (r_mul (vC (!(((kD (jQ x)).neg) == ((kD (jQ y)).neg))) (val (ofNat (val (ofNat (Int.natAbs (jQ x))) / val (ofNat (Int.natAbs (jQ y))))))) (kD (jQ y)) (by omega) (by omega)))<|wE (kH (r_sub (kD (jQ x)) (kD (jQ (vC (!(((kD (jQ x)).neg) == ((kD (jQ y)).neg))) (val (ofNat (val (ofNat (Int.natAbs (jQ x))) / val (ofNat (Int.natAbs (jQ y)))))))*jQ (kD (jQ y)))) (by omega) (by omega)))<|wT (qK jX)<|wT (qK jX)<|wM<|wZ) ?_
   refine jE ⟨_,(kQ (cs:=(bx (jM (vC (!(((kD (jQ x)).neg) == ((kD (jQ y)).neg))) (val (ofNat (val (ofNat (Int.natAbs (jQ x))) / val (ofNat (Int.natAbs (jQ y)))))))))) (d:=(jM (vC (!(((kD (jQ x)).neg) == ((kD (jQ y)).neg))) (val (ofNat (val (ofNat (Int.natAbs (jQ x))) / val (ofNat (Int.natAbs (jQ y))))))))) rfl rfl jX rfl rfl (kQ (cs:=(bx (jM (kD (jQ (kD (jQ x))-jQ (kD (jQ (vC (!(((kD (jQ x)).neg) == ((kD (jQ y)).neg))) (val (ofNat (val (ofNat (Int.natAbs (jQ x))) / val (ofNat (Int.natAbs (jQ y)))))))*jQ (kD (jQ y))))))))) (d:=(jM (kD (jQ (kD (jQ x))-jQ (kD (jQ (vC (!(((kD (jQ x)).neg) == ((kD (jQ y)).neg))) (val (ofNat (val (ofNat (Int.natAbs (jQ x))) / val (ofNat (Int.natAbs (jQ y)))))))*jQ (kD (jQ y)))))))) rfl rfl jX rfl rfl (.tmp (d:=(.val (.int .i64 (0)))) rfl .nil))),?_⟩
   rw[hk,r_rem_eq];rfl
end Go.Proofs.YtciingpdmjepgabGreatDoor
