/- Part 24 of a proof: rules, plain facts, and functions walked. -/
import Derived.Test.YtckccjhflbljgaaGreatDoorM23
set_option linter.all false
set_option maxRecDepth 4000
namespace Go.Proofs.YtckccjhflbljgaaGreatDoor
open Go.Fid
theorem r_neg(x:kO)(hx:x.gs.length<=1099511627776):jS Tryz.prog 93 [(jO x)] (jO (kD (-jR x))):=by
 have hvx:=cG x
 refine vA Tryz.func93 ?_
 refine jB<|kx [(1,(.ref 0 0)),(2,(.ref 1 0))] [(0,some (bx (jO x))),(1,some (bx (jO (kO.mk false []))))] (zN (xH 0)<|zN (vT 1 gH gJ)<|zZ) ?_
 refine jB<|kx [] [(0,some (bx (jO (kD (jR x)))))] (zR (kV jX)<|zE (kF (cC x (by omega)))<|zT (qU jX)<|zZ) ?_
 refine jB<|kx [] [(1,some (bx (jO (vL (!((kD (jR x)).neg)) (val (ofNat (Int.natAbs (jR x))))))))] (zE (kL uT)<|zR (qK eK)<|zE oNt<|zE (kL uX)<|zR (qK xN)<|zE (kF (gO (!((kD (jR x)).neg)) (ofNat (Int.natAbs (jR x))) (by first | assumption | exact jZ _ | exact (kZ _).1 | exact (qD _).1) (by omega)))<|zT (qU jX)<|zZ) ?_
 refine jE ⟨_,(kS (cs:=(bx (jO (vL (!((kD (jR x)).neg)) (val (ofNat (Int.natAbs (jR x)))))))) (d:=(jO (vL (!((kD (jR x)).neg)) (val (ofNat (Int.natAbs (jR x))))))) rfl rfl jX rfl rfl .nil),?_⟩
 rw[<- rneg_eq];rfl
theorem r_sign(x:kO)(hx:x.gs.length<=1099511627776):jS Tryz.prog 95 [(jO x)] (.val (.int .i64 ((qO (jR x))))):=by
 have hvx:=cG x
 refine vA Tryz.func95 ?_
 refine jB<|kx [(1,(.ref 0 0))] [(0,some (bx (jO x)))] (zN (xH 0)<|zM<|zZ) ?_
 refine jB<|kx [] [(0,some (bx (jO (kD (jR x)))))] (zR (kV jX)<|zE (kF (cC x (by omega)))<|zT (qU jX)<|zZ) ?_
 refine jB<|jB<|kx [(8,(vb ((((ofNat (Int.natAbs (jR x))).length:Nat):Int) == 0)))] [] (zE (kL uX)<|zR (qK xN)<|zE (yD kB (L:=(ofNat (Int.natAbs (jR x)))))<|zE yA<|zZ) ?_
 refine jF rfl (fun h1=>?_) (fun h1=>?_)
 ·replace h1:=eq_of_beq h1
  refine jB<|kx [(2,(kJ 0))] [] (zM<|zZ) ?_
  refine jE ⟨_,(.tmp (d:=(.val (.int .i64 (0)))) rfl .nil),?_⟩
  rw[rsign_zero h1];rfl
 ·replace h1:=ne_of_beq_false h1
  refine jH<|jB<|jB<|kx [(10,(vb ((kD (jR x)).neg)))] [] (zE (kL uT)<|zR (qK eK)<|zZ) ?_
  refine jF (b:=(kD (jR x)).neg) rfl (fun h2=>?_) (fun h2=>?_)
  ·refine jB<|kx [(2,(vi (-1)))] [] (zM<|zZ) ?_
   refine jE ⟨_,(.tmp (d:=(.val (.int .i64 (-1)))) rfl .nil),?_⟩
   rw[rsign_neg h1 h2];rfl
  ·refine jH<|jB<|kx [(2,(kJ 1))] [] (zM<|zZ) ?_
   refine jE ⟨_,(.tmp (d:=(.val (.int .i64 (1)))) rfl .nil),?_⟩
   rw[rsign_pos h1 h2];rfl
theorem r_add(x:kO)(y:kO)(hx:x.gs.length<=1099511627776)(hy:y.gs.length<=1099511627776):jS Tryz.prog 71 [(jO x),(jO y)] (jO (kD (jR x+jR y))):=by
 have hvx:=cG x
 have hvy:=cG y
 refine vA Tryz.func71 ?_
 refine jB<|kx [(2,(.ref 0 0)),(3,(.ref 1 0)),(4,(.ref 2 0))] [(0,some (bx (jO x))),(1,some (bx (jO y))),(2,some (bx (jO (kO.mk false []))))] (zN (xH 0)<|zN (xH 1)<|zN (vT 2 gH gJ)<|zZ) ?_
 refine jB<|kd [] [(0,some (bx (jO (kD (jR x))))),(1,some (bx (jO (kD (jR y)))))] mo (wR (kV jX)<|wE (kF (cC x (by omega)))<|wR (kV jX)<|wE (kF (cC y (by omega)))<|wT (qU jX)<|wT (qU jX)<|wZ) ?_
 refine jB<|jB<|kx [(13,(vb (((kD (jR x)).neg) == ((kD (jR y)).neg))))] [] (zE (kL uT)<|zR (qK eK)<|zE (kL uT)<|zR (qK eK)<|zE (oEb bo4)<|zZ) ?_
 refine jF rfl (fun h1=>?_) (fun h1=>?_)
 ·replace h1:=eq_of_beq h1
  refine jB<|kd [] [(2,some (bx (jO (vL ((kD (jR x)).neg) (val (ofNat (val (ofNat (Int.natAbs (jR x)))+val (ofNat (Int.natAbs (jR y))))))))))] mo (wE (kL uT)<|wR (qK eK)<|wE (kL uX)<|wR (qK xN)<|wE (kL uX)<|wR (qK xN)<|wE (kF (r_plus (ofNat (Int.natAbs (jR x))) (ofNat (Int.natAbs (jR y))) (by first | assumption | exact jZ _ | exact (kZ _).1 | exact (qD _).1) (by first | assumption | exact jZ _ | exact (kZ _).1 | exact (qD _).1) (by omega) (by omega)))<|wE (kF (gO ((kD (jR x)).neg) (ofNat (val (ofNat (Int.natAbs (jR x)))+val (ofNat (Int.natAbs (jR y))))) (by first | assumption | exact jZ _ | exact (kZ _).1 | exact (qD _).1) (by first | omega | exact Nat.le_trans (add_len (jZ _) (jZ _)) (by omega) | exact Nat.le_trans (sub_len (jZ _)) (by omega))))<|wT (qU jX)<|wZ) ?_
  refine jE ⟨_,(kS (cs:=(bx (jO (vL ((kD (jR x)).neg) (val (ofNat (val (ofNat (Int.natAbs (jR x)))+val (ofNat (Int.natAbs (jR y)))))))))) (d:=(jO (vL ((kD (jR x)).neg) (val (ofNat (val (ofNat (Int.natAbs (jR x)))+val (ofNat (Int.natAbs (jR y))))))))) rfl rfl jX rfl rfl .nil),?_⟩
  rw[<- rsum_same h1];rfl
 ·replace h1:=ne_of_beq_false h1
  refine jH<|jB<|jB<|kx [(27,(vb (decide (0<=(uN ((val (ofNat (Int.natAbs (jR x))):Nat):Int) ((val (ofNat (Int.natAbs (jR y))):Nat):Int))))))] [] (zE (kL uX)<|zR (qK xN)<|zE (kL uX)<|zR (qK xN)<|zE (kF (r_size (ofNat (Int.natAbs (jR x))) (ofNat (Int.natAbs (jR y))) (by first | assumption | exact kZ _ | exact qD _) (by first | assumption | exact kZ _ | exact qD _) (by omega) (by omega)))<|zE oGe<|zZ) ?_
  refine jF rfl (fun h2=>?_) (fun h2=>?_)
  ·replace h2:=vW h2
   refine jB<|kd [] [(2,some (bx (jO (vL ((kD (jR x)).neg) (val (ofNat (val (ofNat (Int.natAbs (jR x)))-val (ofNat (Int.natAbs (jR y))))))))))] mo (wE (kL uT)<|wR (qK eK)<|wE (kL uX)<|wR (qK xN)<|wE (kL uX)<|wR (qK xN)<|wE (kF (r_minus (ofNat (Int.natAbs (jR x))) (ofNat (Int.natAbs (jR y))) (by first | assumption | exact jZ _ | exact (kZ _).1 | exact (qD _).1) (by first | assumption | exact jZ _ | exact (kZ _).1 | exact (qD _).1) (by have:=aF h2;omega) (by omega)))<|wE (kF (gO ((kD (jR x)).neg) (ofNat (val (ofNat (Int.natAbs (jR x)))-val (ofNat (Int.natAbs (jR y))))) (by first | assumption | exact jZ _ | exact (kZ _).1 | exact (qD _).1) (by first | omega | exact Nat.le_trans (add_len (jZ _) (jZ _)) (by omega) | exact Nat.le_trans (sub_len (jZ _)) (by omega))))<|wT (qU jX)<|wZ) ?_
   refine jE ⟨_,(kS (cs:=(bx (jO (vL ((kD (jR x)).neg) (val (ofNat (val (ofNat (Int.natAbs (jR x)))-val (ofNat (Int.natAbs (jR y)))))))))) (d:=(jO (vL ((kD (jR x)).neg) (val (ofNat (val (ofNat (Int.natAbs (jR x)))-val (ofNat (Int.natAbs (jR y))))))))) rfl rfl jX rfl rfl .nil),?_⟩
   rw[<- rsum_first h1 (by have:=aF h2;omega)];rfl
  ·replace h2:=xJ h2
   refine jH<|jB<|kd [] [(2,some (bx (jO (vL ((kD (jR y)).neg) (val (ofNat (val (ofNat (Int.natAbs (jR y)))-val (ofNat (Int.natAbs (jR x))))))))))] mo (wE (kL uT)<|wR (qK eK)<|wE (kL uX)<|wR (qK xN)<|wE (kL uX)<|wR (qK xN)<|wE (kF (r_minus (ofNat (Int.natAbs (jR y))) (ofNat (Int.natAbs (jR x))) (by first | assumption | exact jZ _ | exact (kZ _).1 | exact (qD _).1) (by first | assumption | exact jZ _ | exact (kZ _).1 | exact (qD _).1) (by have:=cmpI_lt h2;omega) (by omega)))<|wE (kF (gO ((kD (jR y)).neg) (ofNat (val (ofNat (Int.natAbs (jR y)))-val (ofNat (Int.natAbs (jR x))))) (by first | assumption | exact jZ _ | exact (kZ _).1 | exact (qD _).1) (by first | omega | exact Nat.le_trans (add_len (jZ _) (jZ _)) (by omega) | exact Nat.le_trans (sub_len (jZ _)) (by omega))))<|wT (qU jX)<|wZ) ?_
   refine jE ⟨_,(kS (cs:=(bx (jO (vL ((kD (jR y)).neg) (val (ofNat (val (ofNat (Int.natAbs (jR y)))-val (ofNat (Int.natAbs (jR x)))))))))) (d:=(jO (vL ((kD (jR y)).neg) (val (ofNat (val (ofNat (Int.natAbs (jR y)))-val (ofNat (Int.natAbs (jR x))))))))) rfl rfl jX rfl rfl .nil),?_⟩
   rw[<- rsum_second h1 (by have:=cmpI_lt h2;omega)];rfl
theorem r_sub(x:kO)(y:kO)(hx:x.gs.length<=1099511627776)(hy:y.gs.length<=1099511627776):jS Tryz.prog 163 [(jO x),(jO y)] (jO (kD (jR x-jR y))):=by
 have hv:=gs_neg y
 refine vA Tryz.func163 ?_
 refine jB<|kx [(2,(.ref 0 0)),(3,(.ref 1 0)),(4,(.ref 2 0))] [(0,some (bx (jO x))),(1,some (bx (jO y))),(2,some (bx (jO (kO.mk false []))))] (zN (xH 0)<|zN (xH 1)<|zN (vT 2 gH gJ)<|zZ) ?_
 refine jB<|kd [] [(2,some (bx (jO (kD (jR x+jR (kD (-jR y)))))))] mo (wR (kV jX)<|wR (kV jX)<|wE (kF (r_neg y (by omega)))<|wE (kF (r_add x (kD (-jR y)) (by omega) (by omega)))<|wT (qU jX)<|wZ) ?_
 refine jE ⟨_,(kS (cs:=(bx (jO (kD (jR x+jR (kD (-jR y))))))) (d:=(jO (kD (jR x+jR (kD (-jR y)))))) rfl rfl jX rfl rfl .nil),?_⟩
 rw[mE,<- Int.sub_eq_add_neg];rfl
theorem r_mul(x:kO)(y:kO)(hx:x.gs.length<=1099511627776)(hy:y.gs.length<=1099511627776):jS Tryz.prog 72 [(jO x),(jO y)] (jO (kD (jR x*jR y))):=by
 have hvx:=cG x
 have hvy:=cG y
 have hda:=jZ (Int.natAbs (jR x))
 have hdb:=jZ (Int.natAbs (jR y))
 refine vA Tryz.func72 ?_
 refine jB<|kx [(2,(.ref 0 0)),(3,(.ref 1 0)),(4,(.ref 2 0))] [(0,some (bx (jO x))),(1,some (bx (jO y))),(2,some (bx (jO (kO.mk false []))))] (zN (xH 0)<|zN (xH 1)<|zN (vT 2 gH gJ)<|zZ) ?_
 refine jB<|kd [] [(0,some (bx (jO (kD (jR x))))),(1,some (bx (jO (kD (jR y)))))] mo (wR (kV jX)<|wE (kF (cC x (by omega)))<|wR (kV jX)<|wE (kF (cC y (by omega)))<|wT (qU jX)<|wT (qU jX)<|wZ) ?_
 refine jB<|kx [(5,(.own 3 107 1 ((ofNat (Int.natAbs (jR x))).length+(ofNat (Int.natAbs (jR y))).length)))] [(3,some (bm jD (List.replicate ((ofNat (Int.natAbs (jR x))).length+(ofNat (Int.natAbs (jR y))).length) 0)))] (zE (kL uX)<|zR (qK xN)<|zE (yD kB (L:=(ofNat (Int.natAbs (jR x)))))<|zE (kL uX)<|zR (qK xN)<|zE (yD kB (L:=(ofNat (Int.natAbs (jR y)))))<|zE (xO ((ofNat (Int.natAbs (jR x))).length+(ofNat (Int.natAbs (jR y))).length))<|zN (oMk 3 jD (0:Nat) ((ofNat (Int.natAbs (jR x))).length+(ofNat (Int.natAbs (jR y))).length) ((ofNat (Int.natAbs (jR x))).length+(ofNat (Int.natAbs (jR y))).length) kB uY zL gS)<|zM<|zZ) ?_
 refine jB<|jB<|kx [(6,(kJ 0))] [] (zM<|zZ) ?_
 refine jL<|kW (α:=Nat × List Nat) (fun (i,out)=>⟨[(2,(.ref 0 0)),(3,(.ref 1 0)),(4,(.ref 2 0)),(5,(.own 3 107 1 ((ofNat (Int.natAbs (jR x))).length+(ofNat (Int.natAbs (jR y))).length))),(6,(kJ i))],[(0,some (bx (jO (kD (jR x))))),(1,some (bx (jO (kD (jR y))))),(2,some (bx (jO (kO.mk false [])))),(3,some (bm jD out))]⟩) (fun (i,out)=>out.length=(ofNat (Int.natAbs (jR x))).length+(ofNat (Int.natAbs (jR y))).length/\Dig out/\i<=(ofNat (Int.natAbs (jR x))).length/\(∀ k,i+(ofNat (Int.natAbs (jR y))).length<=k->out.getD k 0=0)/\val out=val ((ofNat (Int.natAbs (jR x))).take i)*val (ofNat (Int.natAbs (jR y)))) (fun (i,out)=>(ofNat (Int.natAbs (jR x))).length-i) (0,List.replicate ((ofNat (Int.natAbs (jR x))).length+(ofNat (Int.natAbs (jR y))).length) 0) wk ⟨by simp,xK _,Nat.zero_le _,fun k _=>dW _ k,by simp [val,cA]⟩ ?_
 rintro ⟨i,out⟩ ⟨qG,hdo,hi,hz,hv⟩
 have hai:=hda.getD i
 refine jB<|jB<|kx [(26,(vb (decide (((i:Nat):Int)<(((ofNat (Int.natAbs (jR x))).length:Nat):Int)))))] [] (zM<|zE (kL uX)<|zR (qK xN)<|zE (yD kB (L:=(ofNat (Int.natAbs (jR x)))))<|zE nD<|zZ) ?_
 refine jF rfl (fun h1=>?_) (fun h1=>?_)
 ·replace h1:=vW h1
  refine jH<|jB<|jL<|jB<|kx [(7,(yI 0))] [] (zM<|zZ) ?_
  refine jB<|jB<|kx [(8,(kJ 0))] [] (zM<|zZ) ?_
  refine jL<|kW (α:=Nat × List Nat × Nat) (fun (j,o2,c)=>⟨[(2,(.ref 0 0)),(3,(.ref 1 0)),(4,(.ref 2 0)),(5,(.own 3 107 1 ((ofNat (Int.natAbs (jR x))).length+(ofNat (Int.natAbs (jR y))).length))),(6,(kJ i)),(7,(yI c)),(8,(kJ j))],[(0,some (bx (jO (kD (jR x))))),(1,some (bx (jO (kD (jR y))))),(2,some (bx (jO (kO.mk false [])))),(3,some (bm jD o2))]⟩) (fun (j,o2,c)=>o2.length=(ofNat (Int.natAbs (jR x))).length+(ofNat (Int.natAbs (jR y))).length/\Dig o2/\j<=(ofNat (Int.natAbs (jR y))).length/\c<1000000000/\(∀ k,i+(ofNat (Int.natAbs (jR y))).length<=k->o2.getD k 0=0)/\val o2+pw (i+j)*c=val ((ofNat (Int.natAbs (jR x))).take i)*val (ofNat (Int.natAbs (jR y)))+pw i*((ofNat (Int.natAbs (jR x))).getD i 0*val ((ofNat (Int.natAbs (jR y))).take j))) (fun (j,o2,c)=>(ofNat (Int.natAbs (jR y))).length-j) (0,out,0) wk ⟨qG,hdo,Nat.zero_le _,by decide,hz,by simp [val,hv]⟩ ?_
  rintro ⟨j,o2,c⟩ ⟨hlen2,hdo2,hj,hc,hz2,hv2⟩
  have hbj:=hdb.getD j
  have hoj:=hdo2.getD (i+j)
  have hpq:(ofNat (Int.natAbs (jR x))).getD i 0*(ofNat (Int.natAbs (jR y))).getD j 0<=999999999*999999999:=Nat.mul_le_mul (by omega) (by omega)
  refine jB<|jB<|kx [(33,(vb (decide (((j:Nat):Int)<(((ofNat (Int.natAbs (jR y))).length:Nat):Int)))))] [] (zM<|zE (kL uX)<|zR (qK xN)<|zE (yD kB (L:=(ofNat (Int.natAbs (jR y)))))<|zE nD<|zZ) ?_
  refine jF rfl (fun h2=>?_) (fun h2=>?_)
  ·replace h2:=vW h2
   refine jH<|jB<|jL<|jB<|kd [(9,(yI (((o2.getD (i+j) 0)+(((ofNat (Int.natAbs (jR x))).getD i 0)*((ofNat (Int.natAbs (jR y))).getD j 0)))+c)))] [] mo (wM<|wM<|wM<|wE (xO (i+j))<|wE (xS kB (i+j))<|wR (cV qI (i+j) (0:Nat))<|wE (nP zU xX (o2.getD (i+j) 0))<|wE (kL uX)<|wR (qK xN)<|wM<|wE (cR kB i (0:Nat) (L:=(ofNat (Int.natAbs (jR x)))))<|wE (nF qI)<|wE (nP zU xX ((ofNat (Int.natAbs (jR x))).getD i 0))<|wE (kL uX)<|wR (qK xN)<|wM<|wE (cR kB j (0:Nat) (L:=(ofNat (Int.natAbs (jR y)))))<|wE (nF qI)<|wE (nP zU xX ((ofNat (Int.natAbs (jR y))).getD j 0))<|wE (oMl (((ofNat (Int.natAbs (jR x))).getD i 0)*((ofNat (Int.natAbs (jR y))).getD j 0)))<|wE (xO ((o2.getD (i+j) 0)+(((ofNat (Int.natAbs (jR x))).getD i 0)*((ofNat (Int.natAbs (jR y))).getD j 0))))<|wM<|wE (xO (((o2.getD (i+j) 0)+(((ofNat (Int.natAbs (jR x))).getD i 0)*((ofNat (Int.natAbs (jR y))).getD j 0)))+c))<|wM<|wZ) ?_
   refine jB<|kx [] [(3,some (bm jD (o2.set (i+j) ((((o2.getD (i+j) 0)+(((ofNat (Int.natAbs (jR x))).getD i 0)*((ofNat (Int.natAbs (jR y))).getD j 0)))+c) % 1000000000))))] (zM<|zM<|zM<|zE (xO (i+j))<|zM<|zE (oRe ((((o2.getD (i+j) 0)+(((ofNat (Int.natAbs (jR x))).getD i 0)*((ofNat (Int.natAbs (jR y))).getD j 0)))+c) % 1000000000))<|zE (nP gB yN ((((o2.getD (i+j) 0)+(((ofNat (Int.natAbs (jR x))).getD i 0)*((ofNat (Int.natAbs (jR y))).getD j 0)))+c) % 1000000000))<|zE (xS kB (i+j))<|zT (cU qI (i+j) ((((o2.getD (i+j) 0)+(((ofNat (Int.natAbs (jR x))).getD i 0)*((ofNat (Int.natAbs (jR y))).getD j 0)))+c) % 1000000000))<|zZ) ?_
   refine kx [(7,(yI ((((o2.getD (i+j) 0)+(((ofNat (Int.natAbs (jR x))).getD i 0)*((ofNat (Int.natAbs (jR y))).getD j 0)))+c) / 1000000000)))] [] (zM<|zE (oQu ((((o2.getD (i+j) 0)+(((ofNat (Int.natAbs (jR x))).getD i 0)*((ofNat (Int.natAbs (jR y))).getD j 0)))+c) / 1000000000))<|zM<|zZ) ?_
   refine kx [(8,(kJ (j+1)))] [] (zM<|zE (xO (j+1))<|zM<|zZ) ?_
   exact ⟨(j+1,o2.set (i+j) ((o2.getD (i+j) 0+(ofNat (Int.natAbs (jR x))).getD i 0*(ofNat (Int.natAbs (jR y))).getD j 0+c) % 1000000000),(o2.getD (i+j) 0+(ofNat (Int.natAbs (jR x))).getD i 0*(ofNat (Int.natAbs (jR y))).getD j 0+c) / 1000000000),wk,(by obtain ⟨q1,q2⟩:=times_step (by omega) hdo2 hv2 rfl (val_take_succ _ j);exact ⟨by simpa using hlen2,q1,by omega,by omega,zero_set (by omega) hz2,q2⟩),(by first|omega|(dsimp only;omega))⟩
  ·replace h2:=xJ h2
   have hje:j=(ofNat (Int.natAbs (jR y))).length:=by omega
   rw[hje] at hv2
   refine kQ<|kx [] [(3,some (bm jD (o2.set (i+(ofNat (Int.natAbs (jR y))).length) c)))] (zM<|zM<|zE (kL uX)<|zR (qK xN)<|zE (yD kB (L:=(ofNat (Int.natAbs (jR y)))))<|zE (xO (i+(ofNat (Int.natAbs (jR y))).length))<|zM<|zE (nP gB yN c)<|zE (xS kB (i+(ofNat (Int.natAbs (jR y))).length))<|zT (cU qI (i+(ofNat (Int.natAbs (jR y))).length) c)<|zZ) ?_
   refine kx [(6,(kJ (i+1)))] [] (zM<|zE (xO (i+1))<|zM<|zZ) ?_
   exact ⟨(i+1,o2.set (i+(ofNat (Int.natAbs (jR y))).length) c),wk,(by obtain ⟨q1,q2,q3,q4⟩:=times_row hdo2 (by omega) hlen2 hz2 hc hv2;exact ⟨q1,q2,by omega,q3,q4⟩),(by first|omega|(dsimp only;omega))⟩
 ·replace h1:=xJ h1
  have hie:i=(ofNat (Int.natAbs (jR x))).length:=by omega
  rw[hie,List.take_length] at hv
  refine kQ<|jB<|qH (zY (t:=5) (k:=3) (es:=List.map jD out) rfl rfl (vD _ _ (fun _=>rfl)) (vY _ _ qG) (xB _ _ (fun _=>rfl) qG)) ?_
  refine kx [] [(2,some (bx (jO (vL (!(((kD (jR x)).neg) == ((kD (jR y)).neg))) (val out)))))] (zE (kL uT)<|zR (qK eK)<|zE (kL uT)<|zR (qK eK)<|zE (oNb bo4)<|zM<|zE (kF (gO (!(((kD (jR x)).neg) == ((kD (jR y)).neg))) out hdo (by omega)))<|zT (qU jX)<|zZ) ?_
  refine jE ⟨_,(kS (cs:=(bx (jO (vL (!(((kD (jR x)).neg) == ((kD (jR y)).neg))) (val out))))) (d:=(jO (vL (!(((kD (jR x)).neg) == ((kD (jR y)).neg))) (val out)))) rfl rfl jX rfl rfl .nil),?_⟩
  rw[hv,rmul_eq];rfl
theorem r_short(a:List Nat)(d:Nat)(hda:Dig a)(hd0:0<d)(hd1:d<=1000000000)(hla:a.length<=17592186044416):jS Tryz.prog 185 [(.sl 107 1 (List.map jD a)),(.val (.int .u64 (((d:Nat):Int))))] (.tup [(.sl 107 1 (List.map jD (ofNat (val a / d)))),(.val (.int .u64 ((((val a % d):Nat):Int))))]):=by
 refine vA Tryz.func185 ?_
 refine jB<|kx [] [] (zE (eY 107 1)<|zM<|zZ) ?_
 refine jB<|kx [(6,(.own 0 107 1 a.length))] [(0,some (bm jD (List.replicate a.length 0)))] (zM<|zE (yD kB)<|zN (oMk 0 jD (0:Nat) a.length a.length kB uY zL gS)<|zM<|zZ) ?_
 refine jB<|kx [(7,(yI 0))] [] (zM<|zZ) ?_
 refine jB<|jB<|kx [(8,(vi (((a.length:Nat):Int)-1)))] [] (zM<|zE (yD kB)<|zE (zSb (((a.length:Nat):Int)-1))<|zM<|zZ) ?_
 refine jL<|kW (α:=Nat × List Nat × Nat) (fun (k,q,vK)=>⟨[(0,(vl 107 1 jD a)),(1,(yI d)),(6,(.own 0 107 1 a.length)),(7,(yI vK)),(8,(vi (((k:Nat):Int)-1)))],[(0,some (bm jD q))]⟩) (fun (k,q,vK)=>k<=a.length/\q.length=a.length/\Dig q/\vK<d/\val (a.drop k)=val (q.drop k)*d+vK) (fun (k,q,vK)=>k) (a.length,List.replicate a.length 0,0) wk ⟨Nat.le_refl _,by simp,xK _,hd0,by simp [val]⟩ ?_
 rintro ⟨k,q,vK⟩ ⟨hk,qG,hdq,hr,hv⟩
 refine jB<|jB<|kx [(17,(vb (decide (0<=(((k:Nat):Int)-1)))))] [] (zM<|zE oGe<|zZ) ?_
 refine jF (b:=decide (0<=(((k:Nat):Int)-1))) rfl (fun h1=>?_) (fun h1=>?_)
 ·replace h1:=vW h1
  obtain ⟨i,rfl⟩:∃ i,k=i+1:=⟨k-1,by omega⟩
  rw[show (((i+1:Nat):Int)-1)=((i:Nat):Int) from by omega]
  have hg:=hda.getD i
  obtain ⟨hb1,hb2⟩:=short_bound hr hd1 hg
  refine jH<|jB<|jL<|jB<|kx [(8,(kJ i)),(9,(yI ((vK*1000000000)+(a.getD i 0))))] [] (zM<|zE (oMl (vK*1000000000))<|zM<|zM<|zE (cR kB i (0:Nat))<|zE (nF qI)<|zE (nP zU xX (a.getD i 0))<|zE (xO ((vK*1000000000)+(a.getD i 0)))<|zM<|zZ) ?_
  refine jB<|kx [] [(0,some (bm jD (q.set i (((vK*1000000000)+(a.getD i 0)) / d))))] (zM<|zM<|zM<|zM<|zE (oQu (((vK*1000000000)+(a.getD i 0)) / d))<|zE (nP gB yN (((vK*1000000000)+(a.getD i 0)) / d))<|zE (xS kB i)<|zT (cU qI i (((vK*1000000000)+(a.getD i 0)) / d))<|zZ) ?_
  refine kx [(7,(yI (((vK*1000000000)+(a.getD i 0)) % d)))] [] (zM<|zM<|zE (oRe (((vK*1000000000)+(a.getD i 0)) % d))<|zM<|zZ) ?_
  refine kx [(8,(vi (((i:Nat):Int)-1)))] [] (zM<|zE (zSb (((i:Nat):Int)-1))<|zM<|zZ) ?_
  exact ⟨(i,q.set i ((vK*1000000000+a.getD i 0) / d),(vK*1000000000+a.getD i 0) % d),wk,⟨by omega,by simpa using qG,hdq.set _ hb2,Nat.mod_lt _ hd0,rshort_step (by omega) hv rfl⟩,(by first|omega|(dsimp only;omega))⟩
 ·replace h1:=xJ h1
  obtain rfl:k=0:=by omega
  obtain ⟨e1,e2⟩:=short_end (a:=a) (q:=q) (by rw[Nat.sub_self];exact hv) hr
  refine kQ<|jB<|qH (zY (t:=6) (k:=0) (es:=List.map jD q) rfl rfl (vD _ _ (fun _=>rfl)) (vY _ _ qG) (xB _ _ (fun _=>rfl) qG)) ?_
  refine kx [(4,(vl 107 1 jD (ofNat (val q)))),(5,(yI vK))] [] (zM<|zE (kF (gO false q (by first | assumption | exact jZ _ | exact (kZ _).1 | exact (qD _).1) (by omega)))<|zE (oF1 eX xN)<|zM<|zM<|zM<|zZ) ?_
  refine jE ⟨_,(.tmp (d:=(.sl 107 1 (List.map jD (ofNat (val q))))) rfl (.tmp (d:=(.val (.int .u64 (((vK:Nat):Int))))) rfl .nil)),?_⟩
  rw[<- e1,<- e2];rfl
theorem r_pair(l:List Nat)(hd:Dig l)(h2:l.length<=2):jS Tryz.prog 165 [(.sl 107 1 (List.map jD l))] (.val (.int .u64 ((((val l):Nat):Int)))):=by
 have h0:=hd.getD 0
 have h1:=hd.getD 1
 refine vA Tryz.func165 ?_
 refine jB<|kx [] [] (zM<|zZ) ?_
 refine jB<|kx [(2,(yI (((l.getD 1 0)*1000000000)+(l.getD 0 0))))] [] (zM<|zE (kF (eL l 1 (by first | assumption | exact jZ _ | exact (kZ _).1 | exact (qD _).1)))<|zE (oMl ((l.getD 1 0)*1000000000))<|zM<|zE (kF (eL l 0 (by first | assumption | exact jZ _ | exact (kZ _).1 | exact (qD _).1)))<|zE (xO (((l.getD 1 0)*1000000000)+(l.getD 0 0)))<|zM<|zZ) ?_
 refine jE ⟨_,(.tmp (d:=(.val (.int .u64 ((((((l.getD 1 0)*1000000000)+(l.getD 0 0)):Nat):Int))))) rfl .nil),?_⟩
 rw[val_pair h2];rfl
theorem r_parts(a b:List Nat)(hda:yF a)(hdb:yF b)(hb0:0<b.length)(hla:a.length<=1099511627776)(hlb:b.length<=1099511627776):jS Tryz.prog 164 [(.sl 107 1 (List.map jD a)),(.sl 107 1 (List.map jD b))] (.tup [(.sl 107 1 (List.map jD (ofNat (val a / val b)))),(.sl 107 1 (List.map jD (ofNat (val a % val b))))]):=by
 have hsc:=fH hdb hb0
 have htp:=aR hdb hb0
 have hbp:=nU hdb hb0
 refine vA Tryz.func164 ?_
 refine jB<|kx [] [] (zE (eY 107 1)<|zE (eY 107 1)<|zZ) ?_
 refine jB<|kx [(6,(kJ b.length))] [] (zM<|zE (yD kB)<|zM<|zZ) ?_
 refine jB<|jB<|kx [(19,(vb (((b.length:Nat):Int) == 1)))] [] (zM<|zE yA<|zZ) ?_
 refine jF (b:=(((b.length:Nat):Int) == 1)) rfl (fun h1=>?_) (fun h1=>?_)
 ·replace h1:=eq_of_beq h1
  have hg0:=hdb.1.getD 0
  have hv1:=val_len1 (b:=b) (by omega)
  have hb00:0<b.getD 0 0:=by omega
  have hrl:val a % b.getD 0 0<1000000000:=Nat.lt_trans (Nat.mod_lt _ hb00) (by omega)
  refine jB<|kx [(7,(vl 107 1 jD (ofNat (val a / (b.getD 0 0))))),(8,(yI (val a % (b.getD 0 0))))] [] (zM<|zM<|zE (cR kB 0 (0:Nat))<|zE (nF qI)<|zE (nP zU xX (b.getD 0 0))<|zE (kF (r_short a (b.getD 0 0) hda.1 (by omega) (by omega) (by omega)))<|zM<|zE yM<|zE yM<|zM<|zM<|zZ) ?_
  refine jB<|kx [(4,(vl 107 1 jD (ofNat (val a / (b.getD 0 0))))),(5,(vl 107 1 jD (ofNat (val [(val a % (b.getD 0 0))]))))] [] (zM<|zM<|zE (nP gB yN (val a % (b.getD 0 0)))<|zE (oBs kB uY zL)<|zE (kF (gO false [(val a % (b.getD 0 0))] (zD.2 ⟨by omega,yR⟩) (by simp)))<|zE (oF1 eX xN)<|zM<|zM<|zZ) ?_
  refine jE ⟨_,(.tmp (d:=(.sl 107 1 (List.map jD (ofNat (val a / (b.getD 0 0)))))) rfl (.tmp (d:=(.sl 107 1 (List.map jD (ofNat (val [(val a % (b.getD 0 0))]))))) rfl .nil)),?_⟩
  rw[hv1,mF];rfl
 ·replace h1:=ne_of_beq_false h1
  refine jH<|jB<|jB<|kx [(38,(vb (decide ((uN ((val a:Nat):Int) ((val b:Nat):Int))<0))))] [] (zM<|zM<|zE (kF (r_size a b (by first | assumption | exact kZ _ | exact qD _) (by first | assumption | exact kZ _ | exact qD _) (by omega) (by omega)))<|zE nD<|zZ) ?_
  refine jF rfl (fun h2=>?_) (fun h2=>?_)
  ·replace h2:=vW h2
   refine jB<|kx [(4,(vl 107 1 jD [])),(5,(vl 107 1 jD a))] [] (zE (oBs kB uY zL)<|zM<|zM<|zM<|zZ) ?_
   refine jE ⟨_,(.tmp (d:=(.sl 107 1 (List.map jD []))) rfl (.tmp (d:=(.sl 107 1 (List.map jD a))) rfl .nil)),?_⟩
   have hlt:=cmpI_neg h2
   rw[Nat.div_eq_of_lt hlt,Nat.mod_eq_of_lt hlt,qQ,<- can_eq hda];rfl
  ·replace h2:=xJ h2
   obtain ⟨u,hue⟩:∃ u,u=ofNat (val a*mO b):=⟨_,rfl⟩
   obtain ⟨v,hve⟩:∃ v,v=ofNat (val b*mO b):=⟨_,rfl⟩
   have hu:Dig u:=by rw[hue];exact jZ _
   have hcv:yF v:=by rw[hve];exact kZ _
   have hvd:=hcv.1
   have hvl:v.length=b.length:=by rw[hve];exact scl_len hdb hb0
   have hvv:val v=val b*mO b:=by rw[hve];exact jY _
   have huv:val u=val a*mO b:=by rw[hue];exact jY _
   have hab:=len_of_le hda hdb (cmpI_nn h2)
   have hul:a.length<=u.length/\u.length<=a.length+1:=by rw[hue];exact scl_lenA hda hdb hb0
   have hvp:=nU hcv (by omega)
   have hpv:pw (b.length-1)<=val v:=by have h1:=val_top hvd (by omega);have h3:=aR hcv (by omega);rw[hvl] at h1 h3;have h2:=Nat.mul_le_mul_right (pw (b.length-1)) h3.1;omega
   refine jH<|jB<|kx [(9,(yI (mO b)))] [] (zM<|zM<|zE (oSb (b.length-1))<|zE (cR kB (b.length-1) (0:Nat))<|zE (nF qI)<|zE (nP zU xX (b.getD (b.length-1) 0))<|zE (xO ((b.getD (b.length-1) 0)+1))<|zE (oQu (mO b) (hr:=by exact (quo_u64 1000000000 (b.getD (b.length-1) 0+1))))<|zM<|zZ) ?_
   refine jB<|kx [(0,(vl 107 1 jD u)),(1,(vl 107 1 jD v))] [] (zM<|zM<|zE (kF (hue▸r_scaled a (mO b) hda.1 (by omega) (by omega)))<|zM<|zM<|zE (kF (hve▸r_scaled b (mO b) hdb.1 (by omega) (by omega)))<|zM<|zM<|zZ) ?_
   refine jB<|kx [(10,(vl 107 1 jD (ofNat (val (List.drop ((u.length-b.length)+1) u)))))] [] (zM<|zM<|zE (yD kB)<|zM<|zE (oSb (u.length-b.length))<|zE (xO ((u.length-b.length)+1))<|zE (e_slc (l:=((u.length-b.length)+1)) (h:=(List.map jD u).length) (kl:=.i64) (kh:=.i64) (es':=List.map jD (List.drop ((u.length-b.length)+1) u)) (by exact rfl) kB (by exact rfl) (by exact rfl) (by exact rfl) (by simp only[List.length_map];omega) (Nat.le_refl _) (by rw[List.take_length,List.map_drop]))<|zE (kF (gO false (List.drop ((u.length-b.length)+1) u) (hu.drop _) (by rw[List.length_drop];omega)))<|zE (oF1 eX xN)<|zM<|zZ) ?_
   refine jB<|kx [(11,(.own 0 107 1 ((u.length-b.length)+1)))] [(0,some (bm jD (List.replicate ((u.length-b.length)+1) 0)))] (zM<|zE (yD kB)<|zM<|zE (oSb (u.length-b.length))<|zE (xO ((u.length-b.length)+1))<|zN (oMk 0 jD (0:Nat) ((u.length-b.length)+1) ((u.length-b.length)+1) kB uY zL gS)<|zM<|zZ) ?_
   refine jB<|jB<|kx [(12,(vi ((((u.length-b.length)+1:Nat):Int)-1)))] [] (zM<|zE (yD kB)<|zM<|zE (zSb ((((u.length-b.length)+1:Nat):Int)-1))<|zM<|zZ) ?_
   refine jL<|kW (α:=Nat × List Nat × List Nat) (fun (k,r,q)=>⟨[(0,(vl 107 1 jD u)),(1,(vl 107 1 jD v)),(6,(kJ b.length)),(9,(yI (mO b))),(10,(vl 107 1 jD r)),(11,(.own 0 107 1 ((u.length-b.length)+1))),(12,(vi (((k:Nat):Int)-1)))],[(0,some (bm jD q))]⟩) (fun (k,r,q)=>yF r/\k<=((u.length-b.length)+1)/\q.length=((u.length-b.length)+1)/\Dig q/\val r<val v/\val (u.drop k)=val v*val (q.drop k)+val r) (fun (k,r,q)=>k) (((u.length-b.length)+1),ofNat (val (List.drop ((u.length-b.length)+1) u)),List.replicate ((u.length-b.length)+1) 0) wk ⟨kZ _,Nat.le_refl _,by simp,xK _,by rw[jY];have h7:=uZ (hu.drop ((u.length-b.length)+1));rw[List.length_drop,show u.length-((u.length-b.length)+1)=b.length-1 by omega] at h7;omega,by rw[jY];simp [val]⟩ ?_
   rintro ⟨k,r,q⟩ ⟨hrc,hk,hql,hqd,hr,hv⟩
   refine jB<|jB<|kx [(75,(vb (decide (0<=(((k:Nat):Int)-1)))))] [] (zM<|zE oGe<|zZ) ?_
   refine jF (b:=decide (0<=(((k:Nat):Int)-1))) rfl (fun h3=>?_) (fun h3=>?_)
   ·replace h3:=vW h3
    obtain ⟨i,rfl⟩:∃ i,k=i+1:=⟨k-1,by omega⟩
    rw[show (((i+1:Nat):Int)-1)=((i:Nat):Int) from by omega]
    have hgu:=hu.getD i
    have hW:(u.getD i 0+1000000000*val r)<1000000000*val v:=by omega
    have hrs:=rshift_val u hv
    obtain ⟨hg1,hg2⟩:=rguess hvd hvl hb0 hW
    have hgv:=hvd.getD (b.length-1)
    have hgw1:=(jZ (u.getD i 0+1000000000*val r)).getD b.length
    have hgw2:=(jZ (u.getD i 0+1000000000*val r)).getD (b.length-1)
    have hrl:r.length<=b.length:=by have h9:=vN (Nat.le_of_lt hr);rwa [<- can_eq hrc,<- can_eq hcv,hvl] at h9
    have hwl:(ofNat (u.getD i 0+1000000000*val r)).length<=b.length+1:=qR (by rw[uJ];have:=uZ hvd;rw[hvl] at this;omega)
    refine jH<|jB<|jL<|jB<|kx [(10,(vl 107 1 jD (ofNat ((u.getD i 0)+1000000000*val r)))),(12,(kJ i))] [] (zM<|zM<|zM<|zE (cR kB i (0:Nat))<|zE (nF qI)<|zE (kF (r_shifted r (u.getD i 0) hrc.1 (by omega) (by omega)))<|zM<|zZ) ?_
    refine jB<|kd [(13,(yI (((((ofNat ((u.getD i 0)+1000000000*val r)).getD b.length 0)*1000000000)+((ofNat ((u.getD i 0)+1000000000*val r)).getD (b.length-1) 0)) / ((v.getD (b.length-1) 0)+1))))] [] mo (wM<|wM<|wE (kF (eL (ofNat ((u.getD i 0)+1000000000*val r)) b.length (jZ _)))<|wE (oMl (((ofNat ((u.getD i 0)+1000000000*val r)).getD b.length 0)*1000000000))<|wM<|wM<|wE (oSb (b.length-1))<|wE (kF (eL (ofNat ((u.getD i 0)+1000000000*val r)) (b.length-1) (by first | assumption | exact jZ _ | exact (kZ _).1 | exact (qD _).1)))<|wE (xO ((((ofNat ((u.getD i 0)+1000000000*val r)).getD b.length 0)*1000000000)+((ofNat ((u.getD i 0)+1000000000*val r)).getD (b.length-1) 0)))<|wM<|wM<|wE (oSb (b.length-1))<|wE (cR kB (b.length-1) (0:Nat))<|wE (nF qI)<|wE (nP zU xX (v.getD (b.length-1) 0))<|wE (xO ((v.getD (b.length-1) 0)+1))<|wE (oQu (((((ofNat ((u.getD i 0)+1000000000*val r)).getD b.length 0)*1000000000)+((ofNat ((u.getD i 0)+1000000000*val r)).getD (b.length-1) 0)) / ((v.getD (b.length-1) 0)+1)))<|wM<|wZ) ?_
    refine jB<|kx [(10,(vl 107 1 jD (ofNat (val (ofNat ((u.getD i 0)+1000000000*val r))-val (ofNat (val v*(((((ofNat ((u.getD i 0)+1000000000*val r)).getD b.length 0)*1000000000)+((ofNat ((u.getD i 0)+1000000000*val r)).getD (b.length-1) 0)) / ((v.getD (b.length-1) 0)+1))))))))] [] (zM<|zM<|zM<|zE (kF (r_scaled v (((((ofNat ((u.getD i 0)+1000000000*val r)).getD b.length 0)*1000000000)+((ofNat ((u.getD i 0)+1000000000*val r)).getD (b.length-1) 0)) / ((v.getD (b.length-1) 0)+1)) hvd (by omega) (by omega)))<|zE (kF (r_minus (ofNat ((u.getD i 0)+1000000000*val r)) (ofNat (val v*(((((ofNat ((u.getD i 0)+1000000000*val r)).getD b.length 0)*1000000000)+((ofNat ((u.getD i 0)+1000000000*val r)).getD (b.length-1) 0)) / ((v.getD (b.length-1) 0)+1)))) (jZ _) (jZ _) (by rw[jY,jY,Nat.mul_comm];exact hg1) (by omega)))<|zM<|zZ) ?_
    refine jB<|jL<|kW (α:=Nat × List Nat) (fun (G,r2)=>⟨[(0,(vl 107 1 jD u)),(1,(vl 107 1 jD v)),(6,(kJ b.length)),(9,(yI (mO b))),(10,(vl 107 1 jD r2)),(11,(.own 0 107 1 ((u.length-b.length)+1))),(12,(kJ i)),(13,(yI G))],[(0,some (bm jD q))]⟩) (fun (G,r2)=>yF r2/\val v*G+val r2=(u.getD i 0+1000000000*val r)) (fun (G,r2)=>val r2) ((((ofNat (u.getD i 0+1000000000*val r)).getD b.length 0*1000000000+(ofNat (u.getD i 0+1000000000*val r)).getD (b.length-1) 0) / (v.getD (b.length-1) 0+1)),ofNat (val (ofNat (u.getD i 0+1000000000*val r))-val (ofNat (val v*(((ofNat (u.getD i 0+1000000000*val r)).getD b.length 0*1000000000+(ofNat (u.getD i 0+1000000000*val r)).getD (b.length-1) 0) / (v.getD (b.length-1) 0+1)))))) wk ⟨kZ _,by rw[jY,jY,jY];rw[Nat.mul_comm] at hg1;omega⟩ ?_
    rintro ⟨G,r2⟩ ⟨hr2,hr2v⟩
    have hr2l:r2.length<=b.length+1:=by have h9:=vN (show val r2<=(u.getD i 0+1000000000*val r) by omega);rw[<- can_eq hr2] at h9;omega
    refine jB<|jB<|kx [(109,(vb (decide (0<=(uN ((val r2:Nat):Int) ((val v:Nat):Int))))))] [] (zM<|zM<|zE (kF (r_size r2 v hr2 hcv (by omega) (by omega)))<|zE oGe<|zZ) ?_
    refine jF rfl (fun h4=>?_) (fun h4=>?_)
    ·replace h4:=vW h4
     have hge:=aF h4
     have hG:=rquo_lt hr2v hW
     have hr2l:r2.length<=b.length+1:=by have h9:=vN (show val r2<=(u.getD i 0+1000000000*val r) by omega);rw[<- can_eq hr2] at h9;omega
     refine jH<|jL<|jB<|kx [(10,(vl 107 1 jD (ofNat (val r2-val v))))] [] (zM<|zM<|zE (kF (r_minus r2 v hr2.1 hvd (by omega) (by omega)))<|zM<|zZ) ?_
     refine kx [(13,(yI (G+1)))] [] (zM<|zE (xO (G+1))<|zM<|zZ) ?_
     exact ⟨(G+1,ofNat (val r2-val v)),wk,(by have hge:=aF h4;exact ⟨kZ _,by rw[jY,Nat.mul_add,Nat.mul_one];omega⟩),(by have hge:=aF h4;dsimp only;rw[jY];omega)⟩
    ·replace h4:=xJ h4
     have hG:=rquo_lt hr2v hW
     have hlt:val r2<val v:=by have h9:=cmpI_lt h4;omega
     refine kQ<|kx [] [(0,some (bm jD (q.set i G)))] (zM<|zM<|zM<|zE (nP gB yN G)<|zE (xS kB i)<|zT (cU qI i G)<|zZ) ?_
     refine kx [(12,(vi (((i:Nat):Int)-1)))] [] (zM<|zE (zSb (((i:Nat):Int)-1))<|zM<|zZ) ?_
     exact ⟨(i,r2,q.set i G),wk,⟨hr2,by omega,by simpa using hql,hqd.set _ hG,hlt,rround (by omega) (by rw[hr2v];exact hrs)⟩,(by first|omega|(dsimp only;omega))⟩
   ·replace h3:=xJ h3
    obtain rfl:k=0:=by omega
    obtain ⟨e1,e2⟩:=scl_div (a:=a) (b:=b) (q:=q) (u:=r) hdb hb0 (by rw[List.drop_zero,List.drop_zero] at hv;rw[nO,Nat.one_mul,List.drop_zero,<- huv,<- hvv,hv];omega) (by rw[List.drop_zero,<- hvv];exact hr)
    have hrl:r.length<=b.length:=by have h9:=vN (Nat.le_of_lt hr);rwa [<- can_eq hrc,<- can_eq hcv,hvl] at h9
    refine kQ<|jB<|kx [(14,(vl 107 1 jD (ofNat (val r / (mO b)))))] [] (zM<|zM<|zE (kF (r_short r (mO b) hrc.1 (by omega) (by omega) (by omega)))<|zM<|zE yM<|zE yM<|zM<|zM<|zZ) ?_
    refine jB<|qH (zY (t:=11) (k:=0) (es:=List.map jD q) rfl rfl (vD _ _ (fun _=>rfl)) (vY _ _ hql) (xB _ _ (fun _=>rfl) hql)) ?_
    refine kx [(4,(vl 107 1 jD (ofNat (val q)))),(5,(vl 107 1 jD (ofNat (val r / (mO b)))))] [] (zM<|zE (kF (gO false q hqd (by omega)))<|zE (oF1 eX xN)<|zM<|zM<|zM<|zZ) ?_
    refine jE ⟨_,(.tmp (d:=(.sl 107 1 (List.map jD (ofNat (val q))))) rfl (.tmp (d:=(.sl 107 1 (List.map jD (ofNat (val r / (mO b)))))) rfl .nil)),?_⟩
    rw[<- e1,<- e2];rfl
theorem r_gcd(x:kO)(y:kO)(hx:x.gs.length<=1099511627776)(hy:y.gs.length<=1099511627776):jS Tryz.prog 97 [(jO x),(jO y)] (jO (kD ((Int.gcd (jR x) (jR y):Nat):Int))):=by
 have hvx:=cG x
 have hvy:=cG y
 refine vA Tryz.func97 ?_
 refine jB<|kx [(2,(.ref 0 0)),(3,(.ref 1 0)),(4,(.ref 2 0))] [(0,some (bx (jO x))),(1,some (bx (jO y))),(2,some (bx (jO (kO.mk false []))))] (zN (xH 0)<|zN (xH 1)<|zN (vT 2 gH gJ)<|zZ) ?_
 refine jB<|kd [(5,(vl 107 1 jD (ofNat (Int.natAbs (jR x))))),(6,(vl 107 1 jD (ofNat (Int.natAbs (jR y)))))] [] mo (wR (kV jX)<|wE (kF (cC x (by omega)))<|wE (oF1 eX xN)<|wR (kV jX)<|wE (kF (cC y (by omega)))<|wE (oF1 eX xN)<|wM<|wM<|wZ) ?_
 refine jB<|jL<|kW (α:=List Nat × List Nat) (fun (a,b)=>⟨[(4,(.ref 2 0)),(5,(vl 107 1 jD a)),(6,(vl 107 1 jD b))],[(2,some (bx (jO (kO.mk false []))))]⟩) (fun (a,b)=>yF a/\yF b/\a.length<=1099511627776/\b.length<=1099511627776/\Nat.gcd (val a) (val b)=Int.gcd (jR x) (jR y)) (fun (a,b)=>val b) ((ofNat (Int.natAbs (jR x))),(ofNat (Int.natAbs (jR y)))) wk ⟨kZ _,kZ _,by omega,by omega,by rw[jY,jY];rfl⟩ ?_
 rintro ⟨a,b⟩ ⟨ha,hb,hla,hlb,hg⟩
 refine jB<|jB<|kx [(29,(vb (decide (0<((b.length:Nat):Int))&&(decide (2<((a.length:Nat):Int))||decide (2<((b.length:Nat):Int))))))] [] ?_ ?_
 ·refine zM<|zE (yD kB)<|zE eA<|zE (oV (vb (decide (0<((b.length:Nat):Int)))) (qE (by kernel_rfl)))<|?_
  rcases hb1:(decide (0<((b.length:Nat):Int))) with _ | _
  ·replace hb1:=xJ hb1
   exact zK<|zK<|zK<|zK<|zK<|zK<|zK<|zK<|zE gG<|zZ
  ·replace hb1:=vW hb1
   refine zM<|zE (yD kB)<|zE eA<|zE (oV (vb (decide (2<((a.length:Nat):Int)))) (qE (by kernel_rfl)))<|?_
   rcases hb2:(decide (2<((a.length:Nat):Int))) with _ | _
   ·replace hb2:=xJ hb2
    exact zM<|zE (yD kB)<|zE eA<|zE fW<|zE dZ<|zZ
   ·replace hb2:=vW hb2
    exact zK<|zK<|zK<|zE nT<|zE nT<|zZ
 refine jF rfl (fun h3=>?_) (fun h3=>?_)
 ·have hbl:0<b.length:=by rw[Bool.and_eq_true,decide_eq_true_eq] at h3;omega
  have hb0:=nU hb hbl
  refine jH<|jL<|jB<|kx [(8,(vl 107 1 jD (ofNat (val a % val b))))] [] (zM<|zM<|zE (kF (r_parts a b ha hb (by omega) (by omega) (by omega)))<|zM<|zE yM<|zE yM<|zM<|zM<|zZ) ?_
  refine kx [(5,(vl 107 1 jD b)),(6,(vl 107 1 jD (ofNat (val a % val b))))] [] (zM<|zM<|zM<|zM<|zZ) ?_
  exact ⟨(b,ofNat (val a % val b)),wk,⟨hb,kZ _,hlb,Nat.le_trans (len_rem a ha _) hla,by rw[jY,<- hg,Nat.gcd_comm,<- Nat.gcd_rec,Nat.gcd_comm]⟩,(by dsimp only;rw[jY];exact Nat.mod_lt _ hb0)⟩
 ·have hex:=h3
  refine kQ<|jB<|jB<|kx [(40,(vb (((b.length:Nat):Int) == 0)))] [] (zM<|zE (yD kB)<|zE yA<|zZ) ?_
  refine jF (b:=(((b.length:Nat):Int) == 0)) rfl (fun h4=>?_) (fun h4=>?_)
  ·replace h4:=eq_of_beq h4
   have hb1:b=[]:=List.eq_nil_of_length_eq_zero (by omega)
   rw[hb1,val_nil,Nat.gcd_zero_right] at hg
   refine jB<|kx [] [(2,some (bx (jO (vL false (val a)))))] (zM<|zE (kF (gO false a ha.1 (by omega)))<|zT (qU jX)<|zZ) ?_
   refine jE ⟨_,(kS (cs:=(bx (jO (vL false (val a))))) (d:=(jO (vL false (val a)))) rfl rfl jX rfl rfl .nil),?_⟩
   rw[<- hg,mkI_false];rfl
  ·replace h4:=ne_of_beq_false h4
   have hl2:a.length<=2/\b.length<=2:=by simp only[Bool.and_eq_false_iff,Bool.or_eq_false_iff,decide_eq_false_iff_not] at hex;omega
   refine jH<|jB<|kx [(9,(yI (val a))),(10,(yI (val b)))] [] (zM<|zE (kF (r_pair a ha.1 (by omega)))<|zM<|zE (kF (r_pair b hb.1 (by omega)))<|zM<|zM<|zZ) ?_
   refine jB<|jL<|kW (α:=Nat × Nat) (fun (m,n)=>⟨[(4,(.ref 2 0)),(9,(yI m)),(10,(yI n))],[(2,some (bx (jO (kO.mk false []))))]⟩) (fun (m,n)=>m<1000000000000000000/\n<1000000000000000000/\Nat.gcd m n=Int.gcd (jR x) (jR y)) (fun (m,n)=>n) (val a,val b) wk ⟨val_len2 ha.1 hl2.1,val_len2 hb.1 hl2.2,hg⟩ ?_
   rintro ⟨m,n⟩ ⟨hm,hn,hg2⟩
   refine jB<|jB<|kx [(48,(vb (decide (0<((n:Nat):Int)))))] [] (zM<|zE eA<|zZ) ?_
   refine jF (b:=decide (0<((n:Nat):Int))) rfl (fun h5=>?_) (fun h5=>?_)
   ·replace h5:=vW h5
    refine jH<|jL<|kd [(9,(yI n)),(10,(yI (m % n)))] [] mo (wM<|wM<|wM<|wE (oRe (m % n))<|wM<|wM<|wZ) ?_
    exact ⟨(n,m % n),wk,⟨hn,Nat.lt_of_le_of_lt (Nat.mod_le _ _) hm,by rw[<- hg2,Nat.gcd_comm,<- Nat.gcd_rec,Nat.gcd_comm]⟩,(by dsimp only;exact Nat.mod_lt _ (by omega))⟩
   ·replace h5:=xJ h5
    obtain rfl:n=0:=by omega
    rw[Nat.gcd_zero_right] at hg2
    have hmv:val [m % 1000000000,m / 1000000000]=m:=by simp only[val];omega
    refine kQ<|jB<|kx [] [(2,some (bx (jO (vL false (val [(m % 1000000000),(m / 1000000000)])))))] (zM<|zE (oRe (m % 1000000000))<|zE (nP gB yN (m % 1000000000))<|zM<|zE (oQu (m / 1000000000))<|zE (nP gB yN (m / 1000000000))<|zE (oBs kB uY zL)<|zE (kF (gO false [(m % 1000000000),(m / 1000000000)] (zD.2 ⟨Nat.mod_lt _ (by decide),zD.2 ⟨by omega,yR⟩⟩) (by simp)))<|zT (qU jX)<|zZ) ?_
    refine jE ⟨_,(kS (cs:=(bx (jO (vL false (val [(m % 1000000000),(m / 1000000000)]))))) (d:=(jO (vL false (val [(m % 1000000000),(m / 1000000000)])))) rfl rfl jX rfl rfl .nil),?_⟩
    rw[<- hg2,hmv,mkI_false];rfl
theorem r_compare(x:kO)(y:kO)(hx:x.gs.length<=274877906944)(hy:y.gs.length<=274877906944):jS Tryz.prog 96 [(jO x),(jO y)] (.val (.int .i64 ((uN (jR x) (jR y))))):=by
 have hv:=gs_sub x y
 refine vA Tryz.func96 ?_
 refine jB<|kx [(2,(.ref 0 0)),(3,(.ref 1 0))] [(0,some (bx (jO x))),(1,some (bx (jO y)))] (zN (xH 0)<|zN (xH 1)<|zM<|zZ) ?_
 refine jB<|kx [(4,(vi (qO (jR (kD (jR x-jR y))))))] [] (zR (kV jX)<|zR (kV jX)<|zE (kF (r_sub x y (by omega) (by omega)))<|zE (kF (r_sign (kD (jR x-jR y)) (by omega)))<|zM<|zZ) ?_
 refine jE ⟨_,(.tmp (d:=(.val (.int .i64 ((qO (jR (kD (jR x-jR y)))))))) rfl .nil),?_⟩
 rw[mE,signI_sub];rfl
theorem r_divide(x:kO)(y:kO)(hx:x.gs.length<=274877906944)(hy:y.gs.length<=274877906944)(hy0:jR y≠0):jS Tryz.prog 113 [(jO x),(jO y)] (.tup [(jO (kD ((jR x).fdiv (jR y)))),(jO (kD ((jR x).fmod (jR y)))),(.val (.int .i64 (0)))]):=by
 have hvx:=cG x
 have hvy:=cG y
 have hmx:=gs_val x
 have hmy:=gs_val y
 have hy1:0<(jR y).natAbs:=by omega
 have hyl:=cB hy1
 have hql:(ofNat (val (ofNat (Int.natAbs (jR x))) / val (ofNat (Int.natAbs (jR y))))).length<=274877906944:=by have:=len_quo (ofNat (Int.natAbs (jR x))) (kZ _) (val (ofNat (Int.natAbs (jR y))));omega
 have hqg:(vL (!((kD (jR x)).neg == (kD (jR y)).neg)) (val (ofNat (val (ofNat (Int.natAbs (jR x))) / val (ofNat (Int.natAbs (jR y))))))).gs.length<=274877906944:=by show (ofNat (val (ofNat (val (ofNat (Int.natAbs (jR x))) / val (ofNat (Int.natAbs (jR y))))))).length<=_;rw[jY];exact hql
 have mZ:(kD 1).gs.length<=1:=(iok_small (z:=1)).l
 have hqs:=gs_sub (vL (!((kD (jR x)).neg == (kD (jR y)).neg)) (val (ofNat (val (ofNat (Int.natAbs (jR x))) / val (ofNat (Int.natAbs (jR y))))))) (kD 1)
 refine vA Tryz.func113 ?_
 refine jB<|kx [(2,(.ref 0 0)),(3,(.ref 1 0)),(4,(.ref 2 0)),(5,(.ref 3 0))] [(0,some (bx (jO x))),(1,some (bx (jO y))),(2,some (bx (jO (kO.mk false [])))),(3,some (bx (jO (kO.mk false []))))] (zN (xH 0)<|zN (xH 1)<|zN (vT 2 gH gJ)<|zN (vT 3 gH gJ)<|zM<|zZ) ?_
 refine jB<|kd [] [(0,some (bx (jO (kD (jR x))))),(1,some (bx (jO (kD (jR y)))))] mo (wR (kV jX)<|wE (kF (cC x (by omega)))<|wR (kV jX)<|wE (kF (cC y (by omega)))<|wT (qU jX)<|wT (qU jX)<|wZ) ?_
 refine jB<|jB<|kx [(17,(vb ((((ofNat (Int.natAbs (jR y))).length:Nat):Int) == 0)))] [] (zE (kL uX)<|zR (qK xN)<|zE (yD kB (L:=(ofNat (Int.natAbs (jR y)))))<|zE yA<|zZ) ?_
 refine jF rfl (fun h1=>?_) (fun h1=>?_)
 ·replace h1:=eq_of_beq h1
  exact absurd h1 (by omega)
 ·replace h1:=ne_of_beq_false h1
  refine jH<|jB<|kx [(7,(vl 107 1 jD (ofNat (val (ofNat (Int.natAbs (jR x))) / val (ofNat (Int.natAbs (jR y))))))),(8,(vl 107 1 jD (ofNat (val (ofNat (Int.natAbs (jR x))) % val (ofNat (Int.natAbs (jR y)))))))] [] (zE (kL uX)<|zR (qK xN)<|zE (kL uX)<|zR (qK xN)<|zE (kF (r_parts (ofNat (Int.natAbs (jR x))) (ofNat (Int.natAbs (jR y))) (by first | assumption | exact kZ _ | exact qD _) (by first | assumption | exact kZ _ | exact qD _) (by omega) (by omega) (by omega)))<|zM<|zE yM<|zE yM<|zM<|zM<|zZ) ?_
  refine jB<|kx [(9,(.ref 4 0))] [(4,some (bx (jO (vL (!(((kD (jR x)).neg) == ((kD (jR y)).neg))) (val (ofNat (val (ofNat (Int.natAbs (jR x))) / val (ofNat (Int.natAbs (jR y))))))))))] (zE (kL uT)<|zR (qK eK)<|zE (kL uT)<|zR (qK eK)<|zE (oNb bo4)<|zM<|zE (kF (gO (!(((kD (jR x)).neg) == ((kD (jR y)).neg))) (ofNat (val (ofNat (Int.natAbs (jR x))) / val (ofNat (Int.natAbs (jR y))))) (jZ _) (by omega)))<|zN (vT 4 gH gJ)<|zT (qU jX)<|zZ) ?_
  refine jB<|jB<|kx [(44,(vb (!(((kD (jR x)).neg) == ((kD (jR y)).neg))&&decide (0<(((ofNat (val (ofNat (Int.natAbs (jR x))) % val (ofNat (Int.natAbs (jR y))))).length:Nat):Int)))))] [] ?_ ?_
  ·refine zE (kL uT)<|zR (qK eK)<|zE (kL uT)<|zR (qK eK)<|zE (oNb bo4)<|zE (oV (vb (!(((kD (jR x)).neg) == ((kD (jR y)).neg)))) (qE (by kernel_rfl)))<|?_
   rcases hb2:(!(((kD (jR x)).neg) == ((kD (jR y)).neg))) with _ | _
   ·exact zK<|zK<|zK<|zE gG<|zZ
   ·exact zM<|zE (yD kB (L:=(ofNat (val (ofNat (Int.natAbs (jR x))) % val (ofNat (Int.natAbs (jR y)))))))<|zE eA<|zE dZ<|zZ
  refine jF rfl (fun h3=>?_) (fun h3=>?_)
  ·have hqm:=gs_mul (kD (jR (vL (!((kD (jR x)).neg == (kD (jR y)).neg)) (val (ofNat (val (ofNat (Int.natAbs (jR x))) / val (ofNat (Int.natAbs (jR y)))))))-jR (kD 1))) (kD (jR y))
   have hk:=r_div_other (X:=jR x) (Y:=jR y) hy1 (by rw[Bool.and_eq_true,Bool.not_eq_true',beq_eq_false_iff_ne,decide_eq_true_eq] at h3;exact h3)
   refine kd [] [(4,some (bx (jO (kD (jR (vL (!(((kD (jR x)).neg) == ((kD (jR y)).neg))) (val (ofNat (val (ofNat (Int.natAbs (jR x))) / val (ofNat (Int.natAbs (jR y)))))))-jR (kD 1))))))] mo (wR (kV jX)<|wE (kF (r_of 1 (by omega) (by omega)))<|wE (kF (r_sub (vL (!(((kD (jR x)).neg) == ((kD (jR y)).neg))) (val (ofNat (val (ofNat (Int.natAbs (jR x))) / val (ofNat (Int.natAbs (jR y))))))) (kD 1) (by omega) (by omega)))<|wT (qU jX)<|wZ) ?_
   refine jB<|kd [(6,(kJ 0))] [(2,some (bx (jO (kD (jR (vL (!(((kD (jR x)).neg) == ((kD (jR y)).neg))) (val (ofNat (val (ofNat (Int.natAbs (jR x))) / val (ofNat (Int.natAbs (jR y)))))))-jR (kD 1)))))),(3,some (bx (jO (kD (jR (kD (jR x))-jR (kD (jR (kD (jR (vL (!(((kD (jR x)).neg) == ((kD (jR y)).neg))) (val (ofNat (val (ofNat (Int.natAbs (jR x))) / val (ofNat (Int.natAbs (jR y)))))))-jR (kD 1)))*jR (kD (jR y)))))))))] mo (wR (kV jX)<|wR (kV jX)<|wR (kV jX)<|wR (kV jX)<|wE (kF (r_mul (kD (jR (vL (!(((kD (jR x)).neg) == ((kD (jR y)).neg))) (val (ofNat (val (ofNat (Int.natAbs (jR x))) / val (ofNat (Int.natAbs (jR y)))))))-jR (kD 1))) (kD (jR y)) (by omega) (by omega)))<|wE (kF (r_sub (kD (jR x)) (kD (jR (kD (jR (vL (!(((kD (jR x)).neg) == ((kD (jR y)).neg))) (val (ofNat (val (ofNat (Int.natAbs (jR x))) / val (ofNat (Int.natAbs (jR y)))))))-jR (kD 1)))*jR (kD (jR y)))) (by omega) (by omega)))<|wT (qU jX)<|wT (qU jX)<|wM<|wZ) ?_
   refine jE ⟨_,(kS (cs:=(bx (jO (kD (jR (vL (!(((kD (jR x)).neg) == ((kD (jR y)).neg))) (val (ofNat (val (ofNat (Int.natAbs (jR x))) / val (ofNat (Int.natAbs (jR y)))))))-jR (kD 1)))))) (d:=(jO (kD (jR (vL (!(((kD (jR x)).neg) == ((kD (jR y)).neg))) (val (ofNat (val (ofNat (Int.natAbs (jR x))) / val (ofNat (Int.natAbs (jR y)))))))-jR (kD 1))))) rfl rfl jX rfl rfl (kS (cs:=(bx (jO (kD (jR (kD (jR x))-jR (kD (jR (kD (jR (vL (!(((kD (jR x)).neg) == ((kD (jR y)).neg))) (val (ofNat (val (ofNat (Int.natAbs (jR x))) / val (ofNat (Int.natAbs (jR y)))))))-jR (kD 1)))*jR (kD (jR y))))))))) (d:=(jO (kD (jR (kD (jR x))-jR (kD (jR (kD (jR (vL (!(((kD (jR x)).neg) == ((kD (jR y)).neg))) (val (ofNat (val (ofNat (Int.natAbs (jR x))) / val (ofNat (Int.natAbs (jR y)))))))-jR (kD 1)))*jR (kD (jR y)))))))) rfl rfl jX rfl rfl (.tmp (d:=(.val (.int .i64 (0)))) rfl .nil))),?_⟩
   rw[hk,r_rem_eq];rfl
  ·have hqm:=gs_mul (vL (!((kD (jR x)).neg == (kD (jR y)).neg)) (val (ofNat (val (ofNat (Int.natAbs (jR x))) / val (ofNat (Int.natAbs (jR y))))))) (kD (jR y))
   have hk:=r_div_same (X:=jR x) (Y:=jR y) hy1 (by rw[Bool.and_eq_false_iff,Bool.not_eq_false',beq_iff_eq,decide_eq_false_iff_not] at h3;exact h3)
   refine jH<|jB<|kd [(6,(kJ 0))] [(2,some (bx (jO (vL (!(((kD (jR x)).neg) == ((kD (jR y)).neg))) (val (ofNat (val (ofNat (Int.natAbs (jR x))) / val (ofNat (Int.natAbs (jR y)))))))))),(3,some (bx (jO (kD (jR (kD (jR x))-jR (kD (jR (vL (!(((kD (jR x)).neg) == ((kD (jR y)).neg))) (val (ofNat (val (ofNat (Int.natAbs (jR x))) / val (ofNat (Int.natAbs (jR y)))))))*jR (kD (jR y)))))))))] mo (wR (kV jX)<|wR (kV jX)<|wR (kV jX)<|wR (kV jX)<|wE (kF (r_mul (vL (!(((kD (jR x)).neg) == ((kD (jR y)).neg))) (val (ofNat (val (ofNat (Int.natAbs (jR x))) / val (ofNat (Int.natAbs (jR y))))))) (kD (jR y)) (by omega) (by omega)))<|wE (kF (r_sub (kD (jR x)) (kD (jR (vL (!(((kD (jR x)).neg) == ((kD (jR y)).neg))) (val (ofNat (val (ofNat (Int.natAbs (jR x))) / val (ofNat (Int.natAbs (jR y)))))))*jR (kD (jR y)))) (by omega) (by omega)))<|wT (qU jX)<|wT (qU jX)<|wM<|wZ) ?_
   refine jE ⟨_,(kS (cs:=(bx (jO (vL (!(((kD (jR x)).neg) == ((kD (jR y)).neg))) (val (ofNat (val (ofNat (Int.natAbs (jR x))) / val (ofNat (Int.natAbs (jR y)))))))))) (d:=(jO (vL (!(((kD (jR x)).neg) == ((kD (jR y)).neg))) (val (ofNat (val (ofNat (Int.natAbs (jR x))) / val (ofNat (Int.natAbs (jR y))))))))) rfl rfl jX rfl rfl (kS (cs:=(bx (jO (kD (jR (kD (jR x))-jR (kD (jR (vL (!(((kD (jR x)).neg) == ((kD (jR y)).neg))) (val (ofNat (val (ofNat (Int.natAbs (jR x))) / val (ofNat (Int.natAbs (jR y)))))))*jR (kD (jR y))))))))) (d:=(jO (kD (jR (kD (jR x))-jR (kD (jR (vL (!(((kD (jR x)).neg) == ((kD (jR y)).neg))) (val (ofNat (val (ofNat (Int.natAbs (jR x))) / val (ofNat (Int.natAbs (jR y)))))))*jR (kD (jR y)))))))) rfl rfl jX rfl rfl (.tmp (d:=(.val (.int .i64 (0)))) rfl .nil))),?_⟩
   rw[hk,r_rem_eq];rfl
end Go.Proofs.YtckccjhflbljgaaGreatDoor
