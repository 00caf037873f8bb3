/- Part 17 of a proof: rules, plain facts, and functions walked. -/
import Derived.Test.YtnajallgoaiahaaGreatDoorM16
set_option linter.all false
set_option maxRecDepth 4000
namespace Go.Proofs.YtnajallgoaiahaaGreatDoor
open Go.Fid
theorem r_neg(x:qF)(hx:x.gs.length<=1099511627776):jO Tryz.prog 145 [(jX x)] (jX (kN (-kG x))):=by
 have hvx:=eV x
 refine qY Tryz.func145 ?_
 refine jB<|kx [(1,(.ref 0 0)),(2,(.ref 1 0))] [(0,some (bx (jX x))),(1,some (bx (jX (qF.mk false []))))] (zN (uU 0)<|zN (qR 1 gE gF)<|zZ) ?_
 refine jB<|kx [] [(0,some (bx (jX (kN (kG x)))))] (zR (kJ kC)<|zE (jV (eZ x (by omega)))<|zT (qA kC)<|zZ) ?_
 refine jB<|kx [] [(1,some (bx (jX (xT (!((kN (kG x)).neg)) (val (ofNat (Int.natAbs (kG x))))))))] (zE (kV vZ)<|zR (uE iP)<|zE gD<|zE (kV vR)<|zR (uE yD)<|zE (jV (mL (!((kN (kG x)).neg)) (ofNat (Int.natAbs (kG x))) (by first | assumption | exact kP _ | exact (qO _).1 | exact (qV _).1) (by omega)))<|zT (qA kC)<|zZ) ?_
 refine jE ⟨_,(kI (cs:=(bx (jX (xT (!((kN (kG x)).neg)) (val (ofNat (Int.natAbs (kG x)))))))) (d:=(jX (xT (!((kN (kG x)).neg)) (val (ofNat (Int.natAbs (kG x))))))) rfl rfl kC rfl rfl .nil),?_⟩
 rw[<- rneg_eq];rfl
theorem r_sign(x:qF)(hx:x.gs.length<=1099511627776):jO Tryz.prog 83 [(jX x)] (.val (.int .i64 ((uK (kG x))))):=by
 have hvx:=eV x
 refine qY Tryz.func83 ?_
 refine jB<|kx [(1,(.ref 0 0))] [(0,some (bx (jX x)))] (zN (uU 0)<|zM<|zZ) ?_
 refine jB<|kx [] [(0,some (bx (jX (kN (kG x)))))] (zR (kJ kC)<|zE (jV (eZ x (by omega)))<|zT (qA kC)<|zZ) ?_
 refine jB<|jB<|kx [(8,(vb ((((ofNat (Int.natAbs (kG x))).length:Nat):Int) == 0)))] [] (zE (kV vR)<|zR (uE yD)<|zE (vP kO (L:=(ofNat (Int.natAbs (kG x)))))<|zE xR<|zZ) ?_
 refine jG rfl (fun h1=>?_) (fun h1=>?_)
 ·replace h1:=eq_of_beq h1
  refine jB<|kx [(2,(jS 0))] [] (zM<|zZ) ?_
  refine jE ⟨_,(.tmp (d:=(.val (.int .i64 (0)))) rfl .nil),?_⟩
  rw[rsign_zero h1];rfl
 ·replace h1:=ne_of_beq_false h1
  refine jC<|jB<|jB<|kx [(10,(vb ((kN (kG x)).neg)))] [] (zE (kV vZ)<|zR (uE iP)<|zZ) ?_
  refine jG (b:=(kN (kG x)).neg) rfl (fun h2=>?_) (fun h2=>?_)
  ·refine jB<|kx [(2,(vi (-1)))] [] (zM<|zZ) ?_
   refine jE ⟨_,(.tmp (d:=(.val (.int .i64 (-1)))) rfl .nil),?_⟩
   rw[rsign_neg h1 h2];rfl
  ·refine jC<|jB<|kx [(2,(jS 1))] [] (zM<|zZ) ?_
   refine jE ⟨_,(.tmp (d:=(.val (.int .i64 (1)))) rfl .nil),?_⟩
   rw[rsign_pos h1 h2];rfl
theorem r_add(x:qF)(y:qF)(hx:x.gs.length<=1099511627776)(hy:y.gs.length<=1099511627776):jO Tryz.prog 96 [(jX x),(jX y)] (jX (kN (kG x+kG y))):=by
 have hvx:=eV x
 have hvy:=eV y
 refine qY Tryz.func96 ?_
 refine jB<|kx [(2,(.ref 0 0)),(3,(.ref 1 0)),(4,(.ref 2 0))] [(0,some (bx (jX x))),(1,some (bx (jX y))),(2,some (bx (jX (qF.mk false []))))] (zN (uU 0)<|zN (uU 1)<|zN (qR 2 gE gF)<|zZ) ?_
 refine jB<|kd [] [(0,some (bx (jX (kN (kG x))))),(1,some (bx (jX (kN (kG y)))))] mo (wR (kJ kC)<|wE (jV (eZ x (by omega)))<|wR (kJ kC)<|wE (jV (eZ y (by omega)))<|wT (qA kC)<|wT (qA kC)<|wZ) ?_
 refine jB<|jB<|kx [(13,(vb (((kN (kG x)).neg) == ((kN (kG y)).neg))))] [] (zE (kV vZ)<|zR (uE iP)<|zE (kV vZ)<|zR (uE iP)<|zE (oEb bo4)<|zZ) ?_
 refine jG rfl (fun h1=>?_) (fun h1=>?_)
 ·replace h1:=eq_of_beq h1
  refine jB<|kd [] [(2,some (bx (jX (xT ((kN (kG x)).neg) (val (ofNat (val (ofNat (Int.natAbs (kG x)))+val (ofNat (Int.natAbs (kG y))))))))))] mo (wE (kV vZ)<|wR (uE iP)<|wE (kV vR)<|wR (uE yD)<|wE (kV vR)<|wR (uE yD)<|wE (jV (r_plus (ofNat (Int.natAbs (kG x))) (ofNat (Int.natAbs (kG y))) (by first | assumption | exact kP _ | exact (qO _).1 | exact (qV _).1) (by first | assumption | exact kP _ | exact (qO _).1 | exact (qV _).1) (by omega) (by omega)))<|wE (jV (mL ((kN (kG x)).neg) (ofNat (val (ofNat (Int.natAbs (kG x)))+val (ofNat (Int.natAbs (kG y))))) (by first | assumption | exact kP _ | exact (qO _).1 | exact (qV _).1) (by first | omega | exact Nat.le_trans (add_len (kP _) (kP _)) (by omega) | exact Nat.le_trans (sub_len (kP _)) (by omega))))<|wT (qA kC)<|wZ) ?_
  refine jE ⟨_,(kI (cs:=(bx (jX (xT ((kN (kG x)).neg) (val (ofNat (val (ofNat (Int.natAbs (kG x)))+val (ofNat (Int.natAbs (kG y)))))))))) (d:=(jX (xT ((kN (kG x)).neg) (val (ofNat (val (ofNat (Int.natAbs (kG x)))+val (ofNat (Int.natAbs (kG y))))))))) rfl rfl kC rfl rfl .nil),?_⟩
  rw[<- rsum_same h1];rfl
 ·replace h1:=ne_of_beq_false h1
  refine jC<|jB<|jB<|kx [(27,(vb (decide (0<=(vK ((val (ofNat (Int.natAbs (kG x))):Nat):Int) ((val (ofNat (Int.natAbs (kG y))):Nat):Int))))))] [] (zE (kV vR)<|zR (uE yD)<|zE (kV vR)<|zR (uE yD)<|zE (jV (r_size (ofNat (Int.natAbs (kG x))) (ofNat (Int.natAbs (kG y))) (by first | assumption | exact qO _ | exact qV _) (by first | assumption | exact qO _ | exact qV _) (by omega) (by omega)))<|zE oGe<|zZ) ?_
  refine jG rfl (fun h2=>?_) (fun h2=>?_)
  ·replace h2:=uV h2
   refine jB<|kd [] [(2,some (bx (jX (xT ((kN (kG x)).neg) (val (ofNat (val (ofNat (Int.natAbs (kG x)))-val (ofNat (Int.natAbs (kG y))))))))))] mo (wE (kV vZ)<|wR (uE iP)<|wE (kV vR)<|wR (uE yD)<|wE (kV vR)<|wR (uE yD)<|wE (jV (r_minus (ofNat (Int.natAbs (kG x))) (ofNat (Int.natAbs (kG y))) (by first | assumption | exact kP _ | exact (qO _).1 | exact (qV _).1) (by first | assumption | exact kP _ | exact (qO _).1 | exact (qV _).1) (by have:=oB h2;omega) (by omega)))<|wE (jV (mL ((kN (kG x)).neg) (ofNat (val (ofNat (Int.natAbs (kG x)))-val (ofNat (Int.natAbs (kG y))))) (by first | assumption | exact kP _ | exact (qO _).1 | exact (qV _).1) (by first | omega | exact Nat.le_trans (add_len (kP _) (kP _)) (by omega) | exact Nat.le_trans (sub_len (kP _)) (by omega))))<|wT (qA kC)<|wZ) ?_
   refine jE ⟨_,(kI (cs:=(bx (jX (xT ((kN (kG x)).neg) (val (ofNat (val (ofNat (Int.natAbs (kG x)))-val (ofNat (Int.natAbs (kG y)))))))))) (d:=(jX (xT ((kN (kG x)).neg) (val (ofNat (val (ofNat (Int.natAbs (kG x)))-val (ofNat (Int.natAbs (kG y))))))))) rfl rfl kC rfl rfl .nil),?_⟩
   rw[<- rsum_first h1 (by have:=oB h2;omega)];rfl
  ·replace h2:=vB h2
   refine jC<|jB<|kd [] [(2,some (bx (jX (xT ((kN (kG y)).neg) (val (ofNat (val (ofNat (Int.natAbs (kG y)))-val (ofNat (Int.natAbs (kG x))))))))))] mo (wE (kV vZ)<|wR (uE iP)<|wE (kV vR)<|wR (uE yD)<|wE (kV vR)<|wR (uE yD)<|wE (jV (r_minus (ofNat (Int.natAbs (kG y))) (ofNat (Int.natAbs (kG x))) (by first | assumption | exact kP _ | exact (qO _).1 | exact (qV _).1) (by first | assumption | exact kP _ | exact (qO _).1 | exact (qV _).1) (by have:=cmpI_lt h2;omega) (by omega)))<|wE (jV (mL ((kN (kG y)).neg) (ofNat (val (ofNat (Int.natAbs (kG y)))-val (ofNat (Int.natAbs (kG x))))) (by first | assumption | exact kP _ | exact (qO _).1 | exact (qV _).1) (by first | omega | exact Nat.le_trans (add_len (kP _) (kP _)) (by omega) | exact Nat.le_trans (sub_len (kP _)) (by omega))))<|wT (qA kC)<|wZ) ?_
   refine jE ⟨_,(kI (cs:=(bx (jX (xT ((kN (kG y)).neg) (val (ofNat (val (ofNat (Int.natAbs (kG y)))-val (ofNat (Int.natAbs (kG x)))))))))) (d:=(jX (xT ((kN (kG y)).neg) (val (ofNat (val (ofNat (Int.natAbs (kG y)))-val (ofNat (Int.natAbs (kG x))))))))) rfl rfl kC rfl rfl .nil),?_⟩
   rw[<- rsum_second h1 (by have:=cmpI_lt h2;omega)];rfl
theorem r_sub(x:qF)(y:qF)(hx:x.gs.length<=1099511627776)(hy:y.gs.length<=1099511627776):jO Tryz.prog 175 [(jX x),(jX y)] (jX (kN (kG x-kG y))):=by
 have hv:=gs_neg y
 refine qY Tryz.func175 ?_
 refine jB<|kx [(2,(.ref 0 0)),(3,(.ref 1 0)),(4,(.ref 2 0))] [(0,some (bx (jX x))),(1,some (bx (jX y))),(2,some (bx (jX (qF.mk false []))))] (zN (uU 0)<|zN (uU 1)<|zN (qR 2 gE gF)<|zZ) ?_
 refine jB<|kd [] [(2,some (bx (jX (kN (kG x+kG (kN (-kG y)))))))] mo (wR (kJ kC)<|wR (kJ kC)<|wE (jV (r_neg y (by omega)))<|wE (jV (r_add x (kN (-kG y)) (by omega) (by omega)))<|wT (qA kC)<|wZ) ?_
 refine jE ⟨_,(kI (cs:=(bx (jX (kN (kG x+kG (kN (-kG y))))))) (d:=(jX (kN (kG x+kG (kN (-kG y)))))) rfl rfl kC rfl rfl .nil),?_⟩
 rw[dT,<- Int.sub_eq_add_neg];rfl
theorem r_mul(x:qF)(y:qF)(hx:x.gs.length<=1099511627776)(hy:y.gs.length<=1099511627776):jO Tryz.prog 87 [(jX x),(jX y)] (jX (kN (kG x*kG y))):=by
 have hvx:=eV x
 have hvy:=eV y
 have hda:=kP (Int.natAbs (kG x))
 have hdb:=kP (Int.natAbs (kG y))
 refine qY Tryz.func87 ?_
 refine jB<|kx [(2,(.ref 0 0)),(3,(.ref 1 0)),(4,(.ref 2 0))] [(0,some (bx (jX x))),(1,some (bx (jX y))),(2,some (bx (jX (qF.mk false []))))] (zN (uU 0)<|zN (uU 1)<|zN (qR 2 gE gF)<|zZ) ?_
 refine jB<|kd [] [(0,some (bx (jX (kN (kG x))))),(1,some (bx (jX (kN (kG y)))))] mo (wR (kJ kC)<|wE (jV (eZ x (by omega)))<|wR (kJ kC)<|wE (jV (eZ y (by omega)))<|wT (qA kC)<|wT (qA kC)<|wZ) ?_
 refine jB<|kx [(5,(.own 3 140 1 ((ofNat (Int.natAbs (kG x))).length+(ofNat (Int.natAbs (kG y))).length)))] [(3,some (bm jD (List.replicate ((ofNat (Int.natAbs (kG x))).length+(ofNat (Int.natAbs (kG y))).length) 0)))] (zE (kV vR)<|zR (uE yD)<|zE (vP kO (L:=(ofNat (Int.natAbs (kG x)))))<|zE (kV vR)<|zR (uE yD)<|zE (vP kO (L:=(ofNat (Int.natAbs (kG y)))))<|zE (vO ((ofNat (Int.natAbs (kG x))).length+(ofNat (Int.natAbs (kG y))).length))<|zN (oMk 3 jD (0:Nat) ((ofNat (Int.natAbs (kG x))).length+(ofNat (Int.natAbs (kG y))).length) ((ofNat (Int.natAbs (kG x))).length+(ofNat (Int.natAbs (kG y))).length) kO xB yZ mI)<|zM<|zZ) ?_
 refine jB<|jB<|kx [(6,(jS 0))] [] (zM<|zZ) ?_
 refine jH<|kF (α:=Nat × List Nat) (fun (i,out)=>⟨[(2,(.ref 0 0)),(3,(.ref 1 0)),(4,(.ref 2 0)),(5,(.own 3 140 1 ((ofNat (Int.natAbs (kG x))).length+(ofNat (Int.natAbs (kG y))).length))),(6,(jS i))],[(0,some (bx (jX (kN (kG x))))),(1,some (bx (jX (kN (kG y))))),(2,some (bx (jX (qF.mk false [])))),(3,some (bm jD out))]⟩) (fun (i,out)=>out.length=(ofNat (Int.natAbs (kG x))).length+(ofNat (Int.natAbs (kG y))).length/\Dig out/\i<=(ofNat (Int.natAbs (kG x))).length/\(∀ k,i+(ofNat (Int.natAbs (kG y))).length<=k->out.getD k 0=0)/\val out=val ((ofNat (Int.natAbs (kG x))).take i)*val (ofNat (Int.natAbs (kG y)))) (fun (i,out)=>(ofNat (Int.natAbs (kG x))).length-i) (0,List.replicate ((ofNat (Int.natAbs (kG x))).length+(ofNat (Int.natAbs (kG y))).length) 0) wk ⟨by simp,yM _,Nat.zero_le _,fun k _=>aU _ k,by simp [val,eX]⟩ ?_
 rintro ⟨i,out⟩ ⟨uF,hdo,hi,hz,hv⟩
 have hai:=hda.getD i
 refine jB<|jB<|kx [(26,(vb (decide (((i:Nat):Int)<(((ofNat (Int.natAbs (kG x))).length:Nat):Int)))))] [] (zM<|zE (kV vR)<|zR (uE yD)<|zE (vP kO (L:=(ofNat (Int.natAbs (kG x)))))<|zE xK<|zZ) ?_
 refine jG rfl (fun h1=>?_) (fun h1=>?_)
 ·replace h1:=uV h1
  refine jC<|jB<|jH<|jB<|kx [(7,(nK 0))] [] (zM<|zZ) ?_
  refine jB<|jB<|kx [(8,(jS 0))] [] (zM<|zZ) ?_
  refine jH<|kF (α:=Nat × List Nat × Nat) (fun (j,o2,c)=>⟨[(2,(.ref 0 0)),(3,(.ref 1 0)),(4,(.ref 2 0)),(5,(.own 3 140 1 ((ofNat (Int.natAbs (kG x))).length+(ofNat (Int.natAbs (kG y))).length))),(6,(jS i)),(7,(nK c)),(8,(jS j))],[(0,some (bx (jX (kN (kG x))))),(1,some (bx (jX (kN (kG y))))),(2,some (bx (jX (qF.mk false [])))),(3,some (bm jD o2))]⟩) (fun (j,o2,c)=>o2.length=(ofNat (Int.natAbs (kG x))).length+(ofNat (Int.natAbs (kG y))).length/\Dig o2/\j<=(ofNat (Int.natAbs (kG y))).length/\c<1000000000/\(∀ k,i+(ofNat (Int.natAbs (kG y))).length<=k->o2.getD k 0=0)/\val o2+pw (i+j)*c=val ((ofNat (Int.natAbs (kG x))).take i)*val (ofNat (Int.natAbs (kG y)))+pw i*((ofNat (Int.natAbs (kG x))).getD i 0*val ((ofNat (Int.natAbs (kG y))).take j))) (fun (j,o2,c)=>(ofNat (Int.natAbs (kG y))).length-j) (0,out,0) wk ⟨uF,hdo,Nat.zero_le _,by decide,hz,by simp [val,hv]⟩ ?_
  rintro ⟨j,o2,c⟩ ⟨hlen2,hdo2,hj,hc,hz2,hv2⟩
  have hbj:=hdb.getD j
  have hoj:=hdo2.getD (i+j)
  have hpq:(ofNat (Int.natAbs (kG x))).getD i 0*(ofNat (Int.natAbs (kG y))).getD j 0<=999999999*999999999:=Nat.mul_le_mul (by omega) (by omega)
  refine jB<|jB<|kx [(33,(vb (decide (((j:Nat):Int)<(((ofNat (Int.natAbs (kG y))).length:Nat):Int)))))] [] (zM<|zE (kV vR)<|zR (uE yD)<|zE (vP kO (L:=(ofNat (Int.natAbs (kG y)))))<|zE xK<|zZ) ?_
  refine jG rfl (fun h2=>?_) (fun h2=>?_)
  ·replace h2:=uV h2
   refine jC<|jB<|jH<|jB<|kd [(9,(nK (((o2.getD (i+j) 0)+(((ofNat (Int.natAbs (kG x))).getD i 0)*((ofNat (Int.natAbs (kG y))).getD j 0)))+c)))] [] mo (wM<|wM<|wM<|wE (vO (i+j))<|wE (iE kO (i+j))<|wR (oLp uB (i+j) (0:Nat))<|wE (cM gN gL (o2.getD (i+j) 0))<|wE (kV vR)<|wR (uE yD)<|wM<|wE (yE kO i (0:Nat) (L:=(ofNat (Int.natAbs (kG x)))))<|wE (yV uB)<|wE (cM gN gL ((ofNat (Int.natAbs (kG x))).getD i 0))<|wE (kV vR)<|wR (uE yD)<|wM<|wE (yE kO j (0:Nat) (L:=(ofNat (Int.natAbs (kG y)))))<|wE (yV uB)<|wE (cM gN gL ((ofNat (Int.natAbs (kG y))).getD j 0))<|wE (oMl (((ofNat (Int.natAbs (kG x))).getD i 0)*((ofNat (Int.natAbs (kG y))).getD j 0)))<|wE (vO ((o2.getD (i+j) 0)+(((ofNat (Int.natAbs (kG x))).getD i 0)*((ofNat (Int.natAbs (kG y))).getD j 0))))<|wM<|wE (vO (((o2.getD (i+j) 0)+(((ofNat (Int.natAbs (kG x))).getD i 0)*((ofNat (Int.natAbs (kG y))).getD j 0)))+c))<|wM<|wZ) ?_
   refine jB<|kx [] [(3,some (bm jD (o2.set (i+j) ((((o2.getD (i+j) 0)+(((ofNat (Int.natAbs (kG x))).getD i 0)*((ofNat (Int.natAbs (kG y))).getD j 0)))+c) % 1000000000))))] (zM<|zM<|zM<|zE (vO (i+j))<|zM<|zE (oRe ((((o2.getD (i+j) 0)+(((ofNat (Int.natAbs (kG x))).getD i 0)*((ofNat (Int.natAbs (kG y))).getD j 0)))+c) % 1000000000))<|zE (cM mB nO ((((o2.getD (i+j) 0)+(((ofNat (Int.natAbs (kG x))).getD i 0)*((ofNat (Int.natAbs (kG y))).getD j 0)))+c) % 1000000000))<|zE (iE kO (i+j))<|zT (oSp uB (i+j) ((((o2.getD (i+j) 0)+(((ofNat (Int.natAbs (kG x))).getD i 0)*((ofNat (Int.natAbs (kG y))).getD j 0)))+c) % 1000000000))<|zZ) ?_
   refine kx [(7,(nK ((((o2.getD (i+j) 0)+(((ofNat (Int.natAbs (kG x))).getD i 0)*((ofNat (Int.natAbs (kG y))).getD j 0)))+c) / 1000000000)))] [] (zM<|zE (oQu ((((o2.getD (i+j) 0)+(((ofNat (Int.natAbs (kG x))).getD i 0)*((ofNat (Int.natAbs (kG y))).getD j 0)))+c) / 1000000000))<|zM<|zZ) ?_
   refine kx [(8,(jS (j+1)))] [] (zM<|zE (vO (j+1))<|zM<|zZ) ?_
   exact ⟨(j+1,o2.set (i+j) ((o2.getD (i+j) 0+(ofNat (Int.natAbs (kG x))).getD i 0*(ofNat (Int.natAbs (kG y))).getD j 0+c) % 1000000000),(o2.getD (i+j) 0+(ofNat (Int.natAbs (kG x))).getD i 0*(ofNat (Int.natAbs (kG y))).getD j 0+c) / 1000000000),wk,(by obtain ⟨q1,q2⟩:=times_step (by omega) hdo2 hv2 rfl (val_take_succ _ j);exact ⟨by simpa using hlen2,q1,by omega,by omega,zero_set (by omega) hz2,q2⟩),(by first|omega|(dsimp only;omega))⟩
  ·replace h2:=vB h2
   have hje:j=(ofNat (Int.natAbs (kG y))).length:=by omega
   rw[hje] at hv2
   refine kD<|kx [] [(3,some (bm jD (o2.set (i+(ofNat (Int.natAbs (kG y))).length) c)))] (zM<|zM<|zE (kV vR)<|zR (uE yD)<|zE (vP kO (L:=(ofNat (Int.natAbs (kG y)))))<|zE (vO (i+(ofNat (Int.natAbs (kG y))).length))<|zM<|zE (cM mB nO c)<|zE (iE kO (i+(ofNat (Int.natAbs (kG y))).length))<|zT (oSp uB (i+(ofNat (Int.natAbs (kG y))).length) c)<|zZ) ?_
   refine kx [(6,(jS (i+1)))] [] (zM<|zE (vO (i+1))<|zM<|zZ) ?_
   exact ⟨(i+1,o2.set (i+(ofNat (Int.natAbs (kG y))).length) c),wk,(by obtain ⟨q1,q2,q3,q4⟩:=times_row hdo2 (by omega) hlen2 hz2 hc hv2;exact ⟨q1,q2,by omega,q3,q4⟩),(by first|omega|(dsimp only;omega))⟩
 ·replace h1:=vB h1
  have hie:i=(ofNat (Int.natAbs (kG x))).length:=by omega
  rw[hie,List.take_length] at hv
  refine kD<|jB<|kU (xC (t:=5) (k:=3) (es:=List.map jD out) rfl rfl (vD _ _ (fun _=>rfl)) (uW _ _ uF) (xE _ _ (fun _=>rfl) uF)) ?_
  refine kx [] [(2,some (bx (jX (xT (!(((kN (kG x)).neg) == ((kN (kG y)).neg))) (val out)))))] (zE (kV vZ)<|zR (uE iP)<|zE (kV vZ)<|zR (uE iP)<|zE (oNb bo4)<|zM<|zE (jV (mL (!(((kN (kG x)).neg) == ((kN (kG y)).neg))) out hdo (by omega)))<|zT (qA kC)<|zZ) ?_
  refine jE ⟨_,(kI (cs:=(bx (jX (xT (!(((kN (kG x)).neg) == ((kN (kG y)).neg))) (val out))))) (d:=(jX (xT (!(((kN (kG x)).neg) == ((kN (kG y)).neg))) (val out)))) rfl rfl kC rfl rfl .nil),?_⟩
  rw[hv,rmul_eq];rfl
theorem r_short(a:List Nat)(d:Nat)(hda:Dig a)(hd0:0<d)(hd1:d<=1000000000)(hla:a.length<=17592186044416):jO Tryz.prog 240 [(.sl 140 1 (List.map jD a)),(.val (.int .u64 (((d:Nat):Int))))] (.tup [(.sl 140 1 (List.map jD (ofNat (val a / d)))),(.val (.int .u64 ((((val a % d):Nat):Int))))]):=by
 refine qY Tryz.func240 ?_
 refine jB<|kx [] [] (zE (aZ 140 1)<|zM<|zZ) ?_
 refine jB<|kx [(6,(.own 0 140 1 a.length))] [(0,some (bm jD (List.replicate a.length 0)))] (zM<|zE (vP kO)<|zN (oMk 0 jD (0:Nat) a.length a.length kO xB yZ mI)<|zM<|zZ) ?_
 refine jB<|kx [(7,(nK 0))] [] (zM<|zZ) ?_
 refine jB<|jB<|kx [(8,(vi (((a.length:Nat):Int)-1)))] [] (zM<|zE (vP kO)<|zE (zSb (((a.length:Nat):Int)-1))<|zM<|zZ) ?_
 refine jH<|kF (α:=Nat × List Nat × Nat) (fun (k,q,zD)=>⟨[(0,(vl 140 1 jD a)),(1,(nK d)),(6,(.own 0 140 1 a.length)),(7,(nK zD)),(8,(vi (((k:Nat):Int)-1)))],[(0,some (bm jD q))]⟩) (fun (k,q,zD)=>k<=a.length/\q.length=a.length/\Dig q/\zD<d/\val (a.drop k)=val (q.drop k)*d+zD) (fun (k,q,zD)=>k) (a.length,List.replicate a.length 0,0) wk ⟨Nat.le_refl _,by simp,yM _,hd0,by simp [val]⟩ ?_
 rintro ⟨k,q,zD⟩ ⟨hk,uF,hdq,hr,hv⟩
 refine jB<|jB<|kx [(17,(vb (decide (0<=(((k:Nat):Int)-1)))))] [] (zM<|zE oGe<|zZ) ?_
 refine jG (b:=decide (0<=(((k:Nat):Int)-1))) rfl (fun h1=>?_) (fun h1=>?_)
 ·replace h1:=uV h1
  obtain ⟨i,rfl⟩:∃ i,k=i+1:=⟨k-1,by omega⟩
  rw[show (((i+1:Nat):Int)-1)=((i:Nat):Int) from by omega]
  have hg:=hda.getD i
  obtain ⟨hb1,hb2⟩:=short_bound hr hd1 hg
  refine jC<|jB<|jH<|jB<|kx [(8,(jS i)),(9,(nK ((zD*1000000000)+(a.getD i 0))))] [] (zM<|zE (oMl (zD*1000000000))<|zM<|zM<|zE (yE kO i (0:Nat))<|zE (yV uB)<|zE (cM gN gL (a.getD i 0))<|zE (vO ((zD*1000000000)+(a.getD i 0)))<|zM<|zZ) ?_
  refine jB<|kx [] [(0,some (bm jD (q.set i (((zD*1000000000)+(a.getD i 0)) / d))))] (zM<|zM<|zM<|zM<|zE (oQu (((zD*1000000000)+(a.getD i 0)) / d))<|zE (cM mB nO (((zD*1000000000)+(a.getD i 0)) / d))<|zE (iE kO i)<|zT (oSp uB i (((zD*1000000000)+(a.getD i 0)) / d))<|zZ) ?_
  refine kx [(7,(nK (((zD*1000000000)+(a.getD i 0)) % d)))] [] (zM<|zM<|zE (oRe (((zD*1000000000)+(a.getD i 0)) % d))<|zM<|zZ) ?_
  refine kx [(8,(vi (((i:Nat):Int)-1)))] [] (zM<|zE (zSb (((i:Nat):Int)-1))<|zM<|zZ) ?_
  exact ⟨(i,q.set i ((zD*1000000000+a.getD i 0) / d),(zD*1000000000+a.getD i 0) % d),wk,⟨by omega,by simpa using uF,hdq.set _ hb2,Nat.mod_lt _ hd0,rshort_step (by omega) hv rfl⟩,(by first|omega|(dsimp only;omega))⟩
 ·replace h1:=vB h1
  obtain rfl:k=0:=by omega
  obtain ⟨e1,e2⟩:=short_end (a:=a) (q:=q) (by rw[Nat.sub_self];exact hv) hr
  refine kD<|jB<|kU (xC (t:=6) (k:=0) (es:=List.map jD q) rfl rfl (vD _ _ (fun _=>rfl)) (uW _ _ uF) (xE _ _ (fun _=>rfl) uF)) ?_
  refine kx [(4,(vl 140 1 jD (ofNat (val q)))),(5,(nK zD))] [] (zM<|zE (jV (mL false q (by first | assumption | exact kP _ | exact (qO _).1 | exact (qV _).1) (by omega)))<|zE (oF1 iD yD)<|zM<|zM<|zM<|zZ) ?_
  refine jE ⟨_,(.tmp (d:=(.sl 140 1 (List.map jD (ofNat (val q))))) rfl (.tmp (d:=(.val (.int .u64 (((zD:Nat):Int))))) rfl .nil)),?_⟩
  rw[<- e1,<- e2];rfl
theorem r_pair(l:List Nat)(hd:Dig l)(h2:l.length<=2):jO Tryz.prog 177 [(.sl 140 1 (List.map jD l))] (.val (.int .u64 ((((val l):Nat):Int)))):=by
 have h0:=hd.getD 0
 have h1:=hd.getD 1
 refine qY Tryz.func177 ?_
 refine jB<|kx [] [] (zM<|zZ) ?_
 refine jB<|kx [(2,(nK (((l.getD 1 0)*1000000000)+(l.getD 0 0))))] [] (zM<|zE (jV (bW l 1 (by first | assumption | exact kP _ | exact (qO _).1 | exact (qV _).1)))<|zE (oMl ((l.getD 1 0)*1000000000))<|zM<|zE (jV (bW l 0 (by first | assumption | exact kP _ | exact (qO _).1 | exact (qV _).1)))<|zE (vO (((l.getD 1 0)*1000000000)+(l.getD 0 0)))<|zM<|zZ) ?_
 refine jE ⟨_,(.tmp (d:=(.val (.int .u64 ((((((l.getD 1 0)*1000000000)+(l.getD 0 0)):Nat):Int))))) rfl .nil),?_⟩
 rw[val_pair h2];rfl
theorem r_parts(a b:List Nat)(hda:yW a)(hdb:yW b)(hb0:0<b.length)(hla:a.length<=1099511627776)(hlb:b.length<=1099511627776):jO Tryz.prog 176 [(.sl 140 1 (List.map jD a)),(.sl 140 1 (List.map jD b))] (.tup [(.sl 140 1 (List.map jD (ofNat (val a / val b)))),(.sl 140 1 (List.map jD (ofNat (val a % val b))))]):=by
 have hsc:=iX hdb hb0
 have htp:=lQ hdb hb0
 have hbp:=dB hdb hb0
 refine qY Tryz.func176 ?_
 refine jB<|kx [] [] (zE (aZ 140 1)<|zE (aZ 140 1)<|zZ) ?_
 refine jB<|kx [(6,(jS b.length))] [] (zM<|zE (vP kO)<|zM<|zZ) ?_
 refine jB<|jB<|kx [(19,(vb (((b.length:Nat):Int) == 1)))] [] (zM<|zE xR<|zZ) ?_
 refine jG (b:=(((b.length:Nat):Int) == 1)) rfl (fun h1=>?_) (fun h1=>?_)
 ·replace h1:=eq_of_beq h1
  have hg0:=hdb.1.getD 0
  have hv1:=val_len1 (b:=b) (by omega)
  have hb00:0<b.getD 0 0:=by omega
  have hrl:val a % b.getD 0 0<1000000000:=Nat.lt_trans (Nat.mod_lt _ hb00) (by omega)
  refine jB<|kx [(7,(vl 140 1 jD (ofNat (val a / (b.getD 0 0))))),(8,(nK (val a % (b.getD 0 0))))] [] (zM<|zM<|zE (yE kO 0 (0:Nat))<|zE (yV uB)<|zE (cM gN gL (b.getD 0 0))<|zE (jV (r_short a (b.getD 0 0) hda.1 (by omega) (by omega) (by omega)))<|zM<|zE uX<|zE uX<|zM<|zM<|zZ) ?_
  refine jB<|kx [(4,(vl 140 1 jD (ofNat (val a / (b.getD 0 0))))),(5,(vl 140 1 jD (ofNat (val [(val a % (b.getD 0 0))]))))] [] (zM<|zM<|zE (cM mB nO (val a % (b.getD 0 0)))<|zE (eE kO xB yZ)<|zE (jV (mL false [(val a % (b.getD 0 0))] (gX.2 ⟨by omega,nQ⟩) (by simp)))<|zE (oF1 iD yD)<|zM<|zM<|zZ) ?_
  refine jE ⟨_,(.tmp (d:=(.sl 140 1 (List.map jD (ofNat (val a / (b.getD 0 0)))))) rfl (.tmp (d:=(.sl 140 1 (List.map jD (ofNat (val [(val a % (b.getD 0 0))]))))) rfl .nil)),?_⟩
  rw[hv1,dW];rfl
 ·replace h1:=ne_of_beq_false h1
  refine jC<|jB<|jB<|kx [(38,(vb (decide ((vK ((val a:Nat):Int) ((val b:Nat):Int))<0))))] [] (zM<|zM<|zE (jV (r_size a b (by first | assumption | exact qO _ | exact qV _) (by first | assumption | exact qO _ | exact qV _) (by omega) (by omega)))<|zE xK<|zZ) ?_
  refine jG rfl (fun h2=>?_) (fun h2=>?_)
  ·replace h2:=uV h2
   refine jB<|kx [(4,(vl 140 1 jD [])),(5,(vl 140 1 jD a))] [] (zE (eE kO xB yZ)<|zM<|zM<|zM<|zZ) ?_
   refine jE ⟨_,(.tmp (d:=(.sl 140 1 (List.map jD []))) rfl (.tmp (d:=(.sl 140 1 (List.map jD a))) rfl .nil)),?_⟩
   have hlt:=cmpI_neg h2
   rw[Nat.div_eq_of_lt hlt,Nat.mod_eq_of_lt hlt,uS,<- can_eq hda];rfl
  ·replace h2:=vB h2
   obtain ⟨u,hue⟩:∃ u,u=ofNat (val a*eF b):=⟨_,rfl⟩
   obtain ⟨v,hve⟩:∃ v,v=ofNat (val b*eF b):=⟨_,rfl⟩
   have hu:Dig u:=by rw[hue];exact kP _
   have hcv:yW v:=by rw[hve];exact qO _
   have hvd:=hcv.1
   have hvl:v.length=b.length:=by rw[hve];exact scl_len hdb hb0
   have hvv:val v=val b*eF b:=by rw[hve];exact kL _
   have huv:val u=val a*eF b:=by rw[hue];exact kL _
   have hab:=len_of_le hda hdb (cmpI_nn h2)
   have hul:a.length<=u.length/\u.length<=a.length+1:=by rw[hue];exact scl_lenA hda hdb hb0
   have hvp:=dB hcv (by omega)
   have hpv:pw (b.length-1)<=val v:=by have h1:=val_top hvd (by omega);have h3:=lQ hcv (by omega);rw[hvl] at h1 h3;have h2:=Nat.mul_le_mul_right (pw (b.length-1)) h3.1;omega
   refine jC<|jB<|kx [(9,(nK (eF b)))] [] (zM<|zM<|zE (oSb (b.length-1))<|zE (yE kO (b.length-1) (0:Nat))<|zE (yV uB)<|zE (cM gN gL (b.getD (b.length-1) 0))<|zE (vO ((b.getD (b.length-1) 0)+1))<|zE (oQu (eF b) (hr:=by exact (quo_u64 1000000000 (b.getD (b.length-1) 0+1))))<|zM<|zZ) ?_
   refine jB<|kx [(0,(vl 140 1 jD u)),(1,(vl 140 1 jD v))] [] (zM<|zM<|zE (jV (hue▸r_scaled a (eF b) hda.1 (by omega) (by omega)))<|zM<|zM<|zE (jV (hve▸r_scaled b (eF b) hdb.1 (by omega) (by omega)))<|zM<|zM<|zZ) ?_
   refine jB<|kx [(10,(vl 140 1 jD (ofNat (val (List.drop ((u.length-b.length)+1) u)))))] [] (zM<|zM<|zE (vP kO)<|zM<|zE (oSb (u.length-b.length))<|zE (vO ((u.length-b.length)+1))<|zE (e_slc (l:=((u.length-b.length)+1)) (h:=(List.map jD u).length) (kl:=.i64) (kh:=.i64) (es':=List.map jD (List.drop ((u.length-b.length)+1) u)) (by exact rfl) kO (by exact rfl) (by exact rfl) (by exact rfl) (by simp only[List.length_map];omega) (Nat.le_refl _) (by rw[List.take_length,List.map_drop]))<|zE (jV (mL false (List.drop ((u.length-b.length)+1) u) (hu.drop _) (by rw[List.length_drop];omega)))<|zE (oF1 iD yD)<|zM<|zZ) ?_
   refine jB<|kx [(11,(.own 0 140 1 ((u.length-b.length)+1)))] [(0,some (bm jD (List.replicate ((u.length-b.length)+1) 0)))] (zM<|zE (vP kO)<|zM<|zE (oSb (u.length-b.length))<|zE (vO ((u.length-b.length)+1))<|zN (oMk 0 jD (0:Nat) ((u.length-b.length)+1) ((u.length-b.length)+1) kO xB yZ mI)<|zM<|zZ) ?_
   refine jB<|jB<|kx [(12,(vi ((((u.length-b.length)+1:Nat):Int)-1)))] [] (zM<|zE (vP kO)<|zM<|zE (zSb ((((u.length-b.length)+1:Nat):Int)-1))<|zM<|zZ) ?_
   refine jH<|kF (α:=Nat × List Nat × List Nat) (fun (k,r,q)=>⟨[(0,(vl 140 1 jD u)),(1,(vl 140 1 jD v)),(6,(jS b.length)),(9,(nK (eF b))),(10,(vl 140 1 jD r)),(11,(.own 0 140 1 ((u.length-b.length)+1))),(12,(vi (((k:Nat):Int)-1)))],[(0,some (bm jD q))]⟩) (fun (k,r,q)=>yW r/\k<=((u.length-b.length)+1)/\q.length=((u.length-b.length)+1)/\Dig q/\val r<val v/\val (u.drop k)=val v*val (q.drop k)+val r) (fun (k,r,q)=>k) (((u.length-b.length)+1),ofNat (val (List.drop ((u.length-b.length)+1) u)),List.replicate ((u.length-b.length)+1) 0) wk ⟨qO _,Nat.le_refl _,by simp,yM _,by rw[kL];have h7:=xM (hu.drop ((u.length-b.length)+1));rw[List.length_drop,show u.length-((u.length-b.length)+1)=b.length-1 by omega] at h7;omega,by rw[kL];simp [val]⟩ ?_
   rintro ⟨k,r,q⟩ ⟨hrc,hk,hql,hqd,hr,hv⟩
   refine jB<|jB<|kx [(75,(vb (decide (0<=(((k:Nat):Int)-1)))))] [] (zM<|zE oGe<|zZ) ?_
   refine jG (b:=decide (0<=(((k:Nat):Int)-1))) rfl (fun h3=>?_) (fun h3=>?_)
   ·replace h3:=uV h3
    obtain ⟨i,rfl⟩:∃ i,k=i+1:=⟨k-1,by omega⟩
    rw[show (((i+1:Nat):Int)-1)=((i:Nat):Int) from by omega]
    have hgu:=hu.getD i
    have hW:(u.getD i 0+1000000000*val r)<1000000000*val v:=by omega
    have hrs:=rshift_val u hv
    obtain ⟨hg1,hg2⟩:=rguess hvd hvl hb0 hW
    have hgv:=hvd.getD (b.length-1)
    have hgw1:=(kP (u.getD i 0+1000000000*val r)).getD b.length
    have hgw2:=(kP (u.getD i 0+1000000000*val r)).getD (b.length-1)
    have hrl:r.length<=b.length:=by have h9:=vQ (Nat.le_of_lt hr);rwa [<- can_eq hrc,<- can_eq hcv,hvl] at h9
    have hwl:(ofNat (u.getD i 0+1000000000*val r)).length<=b.length+1:=uL (by rw[vE];have:=xM hvd;rw[hvl] at this;omega)
    refine jC<|jB<|jH<|jB<|kx [(10,(vl 140 1 jD (ofNat ((u.getD i 0)+1000000000*val r)))),(12,(jS i))] [] (zM<|zM<|zM<|zE (yE kO i (0:Nat))<|zE (yV uB)<|zE (jV (r_shifted r (u.getD i 0) hrc.1 (by omega) (by omega)))<|zM<|zZ) ?_
    refine jB<|kd [(13,(nK (((((ofNat ((u.getD i 0)+1000000000*val r)).getD b.length 0)*1000000000)+((ofNat ((u.getD i 0)+1000000000*val r)).getD (b.length-1) 0)) / ((v.getD (b.length-1) 0)+1))))] [] mo (wM<|wM<|wE (jV (bW (ofNat ((u.getD i 0)+1000000000*val r)) b.length (kP _)))<|wE (oMl (((ofNat ((u.getD i 0)+1000000000*val r)).getD b.length 0)*1000000000))<|wM<|wM<|wE (oSb (b.length-1))<|wE (jV (bW (ofNat ((u.getD i 0)+1000000000*val r)) (b.length-1) (by first | assumption | exact kP _ | exact (qO _).1 | exact (qV _).1)))<|wE (vO ((((ofNat ((u.getD i 0)+1000000000*val r)).getD b.length 0)*1000000000)+((ofNat ((u.getD i 0)+1000000000*val r)).getD (b.length-1) 0)))<|wM<|wM<|wE (oSb (b.length-1))<|wE (yE kO (b.length-1) (0:Nat))<|wE (yV uB)<|wE (cM gN gL (v.getD (b.length-1) 0))<|wE (vO ((v.getD (b.length-1) 0)+1))<|wE (oQu (((((ofNat ((u.getD i 0)+1000000000*val r)).getD b.length 0)*1000000000)+((ofNat ((u.getD i 0)+1000000000*val r)).getD (b.length-1) 0)) / ((v.getD (b.length-1) 0)+1)))<|wM<|wZ) ?_
    refine jB<|kx [(10,(vl 140 1 jD (ofNat (val (ofNat ((u.getD i 0)+1000000000*val r))-val (ofNat (val v*(((((ofNat ((u.getD i 0)+1000000000*val r)).getD b.length 0)*1000000000)+((ofNat ((u.getD i 0)+1000000000*val r)).getD (b.length-1) 0)) / ((v.getD (b.length-1) 0)+1))))))))] [] (zM<|zM<|zM<|zE (jV (r_scaled v (((((ofNat ((u.getD i 0)+1000000000*val r)).getD b.length 0)*1000000000)+((ofNat ((u.getD i 0)+1000000000*val r)).getD (b.length-1) 0)) / ((v.getD (b.length-1) 0)+1)) hvd (by omega) (by omega)))<|zE (jV (r_minus (ofNat ((u.getD i 0)+1000000000*val r)) (ofNat (val v*(((((ofNat ((u.getD i 0)+1000000000*val r)).getD b.length 0)*1000000000)+((ofNat ((u.getD i 0)+1000000000*val r)).getD (b.length-1) 0)) / ((v.getD (b.length-1) 0)+1)))) (kP _) (kP _) (by rw[kL,kL,Nat.mul_comm];exact hg1) (by omega)))<|zM<|zZ) ?_
    refine jB<|jH<|kF (α:=Nat × List Nat) (fun (G,r2)=>⟨[(0,(vl 140 1 jD u)),(1,(vl 140 1 jD v)),(6,(jS b.length)),(9,(nK (eF b))),(10,(vl 140 1 jD r2)),(11,(.own 0 140 1 ((u.length-b.length)+1))),(12,(jS i)),(13,(nK G))],[(0,some (bm jD q))]⟩) (fun (G,r2)=>yW r2/\val v*G+val r2=(u.getD i 0+1000000000*val r)) (fun (G,r2)=>val r2) ((((ofNat (u.getD i 0+1000000000*val r)).getD b.length 0*1000000000+(ofNat (u.getD i 0+1000000000*val r)).getD (b.length-1) 0) / (v.getD (b.length-1) 0+1)),ofNat (val (ofNat (u.getD i 0+1000000000*val r))-val (ofNat (val v*(((ofNat (u.getD i 0+1000000000*val r)).getD b.length 0*1000000000+(ofNat (u.getD i 0+1000000000*val r)).getD (b.length-1) 0) / (v.getD (b.length-1) 0+1)))))) wk ⟨qO _,by rw[kL,kL,kL];rw[Nat.mul_comm] at hg1;omega⟩ ?_
    rintro ⟨G,r2⟩ ⟨hr2,hr2v⟩
    have hr2l:r2.length<=b.length+1:=by have h9:=vQ (show val r2<=(u.getD i 0+1000000000*val r) by omega);rw[<- can_eq hr2] at h9;omega
    refine jB<|jB<|kx [(109,(vb (decide (0<=(vK ((val r2:Nat):Int) ((val v:Nat):Int))))))] [] (zM<|zM<|zE (jV (r_size r2 v hr2 hcv (by omega) (by omega)))<|zE oGe<|zZ) ?_
    refine jG rfl (fun h4=>?_) (fun h4=>?_)
    ·replace h4:=uV h4
     have hge:=oB h4
     have hG:=rquo_lt hr2v hW
     have hr2l:r2.length<=b.length+1:=by have h9:=vQ (show val r2<=(u.getD i 0+1000000000*val r) by omega);rw[<- can_eq hr2] at h9;omega
     refine jC<|jH<|jB<|kx [(10,(vl 140 1 jD (ofNat (val r2-val v))))] [] (zM<|zM<|zE (jV (r_minus r2 v hr2.1 hvd (by omega) (by omega)))<|zM<|zZ) ?_
     refine kx [(13,(nK (G+1)))] [] (zM<|zE (vO (G+1))<|zM<|zZ) ?_
     exact ⟨(G+1,ofNat (val r2-val v)),wk,(by have hge:=oB h4;exact ⟨qO _,by rw[kL,Nat.mul_add,Nat.mul_one];omega⟩),(by have hge:=oB h4;dsimp only;rw[kL];omega)⟩
    ·replace h4:=vB h4
     have hG:=rquo_lt hr2v hW
     have hlt:val r2<val v:=by have h9:=cmpI_lt h4;omega
     refine kD<|kx [] [(0,some (bm jD (q.set i G)))] (zM<|zM<|zM<|zE (cM mB nO G)<|zE (iE kO i)<|zT (oSp uB i G)<|zZ) ?_
     refine kx [(12,(vi (((i:Nat):Int)-1)))] [] (zM<|zE (zSb (((i:Nat):Int)-1))<|zM<|zZ) ?_
     exact ⟨(i,r2,q.set i G),wk,⟨hr2,by omega,by simpa using hql,hqd.set _ hG,hlt,rround (by omega) (by rw[hr2v];exact hrs)⟩,(by first|omega|(dsimp only;omega))⟩
   ·replace h3:=vB h3
    obtain rfl:k=0:=by omega
    obtain ⟨e1,e2⟩:=scl_div (a:=a) (b:=b) (q:=q) (u:=r) hdb hb0 (by rw[List.drop_zero,List.drop_zero] at hv;rw[cV,Nat.one_mul,List.drop_zero,<- huv,<- hvv,hv];omega) (by rw[List.drop_zero,<- hvv];exact hr)
    have hrl:r.length<=b.length:=by have h9:=vQ (Nat.le_of_lt hr);rwa [<- can_eq hrc,<- can_eq hcv,hvl] at h9
    refine kD<|jB<|kx [(14,(vl 140 1 jD (ofNat (val r / (eF b)))))] [] (zM<|zM<|zE (jV (r_short r (eF b) hrc.1 (by omega) (by omega) (by omega)))<|zM<|zE uX<|zE uX<|zM<|zM<|zZ) ?_
    refine jB<|kU (xC (t:=11) (k:=0) (es:=List.map jD q) rfl rfl (vD _ _ (fun _=>rfl)) (uW _ _ hql) (xE _ _ (fun _=>rfl) hql)) ?_
    refine kx [(4,(vl 140 1 jD (ofNat (val q)))),(5,(vl 140 1 jD (ofNat (val r / (eF b)))))] [] (zM<|zE (jV (mL false q hqd (by omega)))<|zE (oF1 iD yD)<|zM<|zM<|zM<|zZ) ?_
    refine jE ⟨_,(.tmp (d:=(.sl 140 1 (List.map jD (ofNat (val q))))) rfl (.tmp (d:=(.sl 140 1 (List.map jD (ofNat (val r / (eF b)))))) rfl .nil)),?_⟩
    rw[<- e1,<- e2];rfl
theorem r_gcd(x:qF)(y:qF)(hx:x.gs.length<=1099511627776)(hy:y.gs.length<=1099511627776):jO Tryz.prog 118 [(jX x),(jX y)] (jX (kN ((Int.gcd (kG x) (kG y):Nat):Int))):=by
 have hvx:=eV x
 have hvy:=eV y
 refine qY Tryz.func118 ?_
 refine jB<|kx [(2,(.ref 0 0)),(3,(.ref 1 0)),(4,(.ref 2 0))] [(0,some (bx (jX x))),(1,some (bx (jX y))),(2,some (bx (jX (qF.mk false []))))] (zN (uU 0)<|zN (uU 1)<|zN (qR 2 gE gF)<|zZ) ?_
 refine jB<|kd [(5,(vl 140 1 jD (ofNat (Int.natAbs (kG x))))),(6,(vl 140 1 jD (ofNat (Int.natAbs (kG y)))))] [] mo (wR (kJ kC)<|wE (jV (eZ x (by omega)))<|wE (oF1 iD yD)<|wR (kJ kC)<|wE (jV (eZ y (by omega)))<|wE (oF1 iD yD)<|wM<|wM<|wZ) ?_
 refine jB<|jH<|kF (α:=List Nat × List Nat) (fun (a,b)=>⟨[(4,(.ref 2 0)),(5,(vl 140 1 jD a)),(6,(vl 140 1 jD b))],[(2,some (bx (jX (qF.mk false []))))]⟩) (fun (a,b)=>yW a/\yW b/\a.length<=1099511627776/\b.length<=1099511627776/\Nat.gcd (val a) (val b)=Int.gcd (kG x) (kG y)) (fun (a,b)=>val b) ((ofNat (Int.natAbs (kG x))),(ofNat (Int.natAbs (kG y)))) wk ⟨qO _,qO _,by omega,by omega,by rw[kL,kL];rfl⟩ ?_
 rintro ⟨a,b⟩ ⟨ha,hb,hla,hlb,hg⟩
 refine jB<|jB<|kx [(29,(vb (decide (0<((b.length:Nat):Int))&&(decide (2<((a.length:Nat):Int))||decide (2<((b.length:Nat):Int))))))] [] ?_ ?_
 ·refine zM<|zE (vP kO)<|zE hH<|zE (oV (vb (decide (0<((b.length:Nat):Int)))) (qC (by kernel_rfl)))<|?_
  rcases hb1:(decide (0<((b.length:Nat):Int))) with _ | _
  ·replace hb1:=vB hb1
   exact zK<|zK<|zK<|zK<|zK<|zK<|zK<|zK<|zE xQ<|zZ
  ·replace hb1:=uV hb1
   refine zM<|zE (vP kO)<|zE hH<|zE (oV (vb (decide (2<((a.length:Nat):Int)))) (qC (by kernel_rfl)))<|?_
   rcases hb2:(decide (2<((a.length:Nat):Int))) with _ | _
   ·replace hb2:=vB hb2
    exact zM<|zE (vP kO)<|zE hH<|zE dG<|zE fR<|zZ
   ·replace hb2:=uV hb2
    exact zK<|zK<|zK<|zE yR<|zE yR<|zZ
 refine jG rfl (fun h3=>?_) (fun h3=>?_)
 ·have hbl:0<b.length:=by rw[Bool.and_eq_true,decide_eq_true_eq] at h3;omega
  have hb0:=dB hb hbl
  refine jC<|jH<|jB<|kx [(8,(vl 140 1 jD (ofNat (val a % val b))))] [] (zM<|zM<|zE (jV (r_parts a b ha hb (by omega) (by omega) (by omega)))<|zM<|zE uX<|zE uX<|zM<|zM<|zZ) ?_
  refine kx [(5,(vl 140 1 jD b)),(6,(vl 140 1 jD (ofNat (val a % val b))))] [] (zM<|zM<|zM<|zM<|zZ) ?_
  exact ⟨(b,ofNat (val a % val b)),wk,⟨hb,qO _,hlb,Nat.le_trans (len_rem a ha _) hla,by rw[kL,<- hg,Nat.gcd_comm,<- Nat.gcd_rec,Nat.gcd_comm]⟩,(by dsimp only;rw[kL];exact Nat.mod_lt _ hb0)⟩
 ·have hex:=h3
  refine kD<|jB<|jB<|kx [(40,(vb (((b.length:Nat):Int) == 0)))] [] (zM<|zE (vP kO)<|zE xR<|zZ) ?_
  refine jG (b:=(((b.length:Nat):Int) == 0)) rfl (fun h4=>?_) (fun h4=>?_)
  ·replace h4:=eq_of_beq h4
   have hb1:b=[]:=List.eq_nil_of_length_eq_zero (by omega)
   rw[hb1,val_nil,Nat.gcd_zero_right] at hg
   refine jB<|kx [] [(2,some (bx (jX (xT false (val a)))))] (zM<|zE (jV (mL false a ha.1 (by omega)))<|zT (qA kC)<|zZ) ?_
   refine jE ⟨_,(kI (cs:=(bx (jX (xT false (val a))))) (d:=(jX (xT false (val a)))) rfl rfl kC rfl rfl .nil),?_⟩
   rw[<- hg,mkI_false];rfl
  ·replace h4:=ne_of_beq_false h4
   have hl2:a.length<=2/\b.length<=2:=by simp only[Bool.and_eq_false_iff,Bool.or_eq_false_iff,decide_eq_false_iff_not] at hex;omega
   refine jC<|jB<|kx [(9,(nK (val a))),(10,(nK (val b)))] [] (zM<|zE (jV (r_pair a ha.1 (by omega)))<|zM<|zE (jV (r_pair b hb.1 (by omega)))<|zM<|zM<|zZ) ?_
   refine jB<|jH<|kF (α:=Nat × Nat) (fun (m,n)=>⟨[(4,(.ref 2 0)),(9,(nK m)),(10,(nK n))],[(2,some (bx (jX (qF.mk false []))))]⟩) (fun (m,n)=>m<1000000000000000000/\n<1000000000000000000/\Nat.gcd m n=Int.gcd (kG x) (kG y)) (fun (m,n)=>n) (val a,val b) wk ⟨val_len2 ha.1 hl2.1,val_len2 hb.1 hl2.2,hg⟩ ?_
   rintro ⟨m,n⟩ ⟨hm,hn,hg2⟩
   refine jB<|jB<|kx [(48,(vb (decide (0<((n:Nat):Int)))))] [] (zM<|zE hH<|zZ) ?_
   refine jG (b:=decide (0<((n:Nat):Int))) rfl (fun h5=>?_) (fun h5=>?_)
   ·replace h5:=uV h5
    refine jC<|jH<|kd [(9,(nK n)),(10,(nK (m % n)))] [] mo (wM<|wM<|wM<|wE (oRe (m % n))<|wM<|wM<|wZ) ?_
    exact ⟨(n,m % n),wk,⟨hn,Nat.lt_of_le_of_lt (Nat.mod_le _ _) hm,by rw[<- hg2,Nat.gcd_comm,<- Nat.gcd_rec,Nat.gcd_comm]⟩,(by dsimp only;exact Nat.mod_lt _ (by omega))⟩
   ·replace h5:=vB h5
    obtain rfl:n=0:=by omega
    rw[Nat.gcd_zero_right] at hg2
    have hmv:val [m % 1000000000,m / 1000000000]=m:=by simp only[val];omega
    refine kD<|jB<|kx [] [(2,some (bx (jX (xT false (val [(m % 1000000000),(m / 1000000000)])))))] (zM<|zE (oRe (m % 1000000000))<|zE (cM mB nO (m % 1000000000))<|zM<|zE (oQu (m / 1000000000))<|zE (cM mB nO (m / 1000000000))<|zE (eE kO xB yZ)<|zE (jV (mL false [(m % 1000000000),(m / 1000000000)] (gX.2 ⟨Nat.mod_lt _ (by decide),gX.2 ⟨by omega,nQ⟩⟩) (by simp)))<|zT (qA kC)<|zZ) ?_
    refine jE ⟨_,(kI (cs:=(bx (jX (xT false (val [(m % 1000000000),(m / 1000000000)]))))) (d:=(jX (xT false (val [(m % 1000000000),(m / 1000000000)])))) rfl rfl kC rfl rfl .nil),?_⟩
    rw[<- hg2,hmv,mkI_false];rfl
theorem r_compare(x:qF)(y:qF)(hx:x.gs.length<=274877906944)(hy:y.gs.length<=274877906944):jO Tryz.prog 117 [(jX x),(jX y)] (.val (.int .i64 ((vK (kG x) (kG y))))):=by
 have hv:=gs_sub x y
 refine qY Tryz.func117 ?_
 refine jB<|kx [(2,(.ref 0 0)),(3,(.ref 1 0))] [(0,some (bx (jX x))),(1,some (bx (jX y)))] (zN (uU 0)<|zN (uU 1)<|zM<|zZ) ?_
 refine jB<|kx [(4,(vi (uK (kG (kN (kG x-kG y))))))] [] (zR (kJ kC)<|zR (kJ kC)<|zE (jV (r_sub x y (by omega) (by omega)))<|zE (jV (r_sign (kN (kG x-kG y)) (by omega)))<|zM<|zZ) ?_
 refine jE ⟨_,(.tmp (d:=(.val (.int .i64 ((uK (kG (kN (kG x-kG y)))))))) rfl .nil),?_⟩
 rw[dT,signI_sub];rfl
theorem r_divide(x:qF)(y:qF)(hx:x.gs.length<=274877906944)(hy:y.gs.length<=274877906944)(hy0:kG y≠0):jO Tryz.prog 146 [(jX x),(jX y)] (.tup [(jX (kN ((kG x).fdiv (kG y)))),(jX (kN ((kG x).fmod (kG y)))),(.val (.int .i64 (0)))]):=by
 have hvx:=eV x
 have hvy:=eV y
 have hmx:=gs_val x
 have hmy:=gs_val y
 have hy1:0<(kG y).natAbs:=by omega
 have hyl:=fD hy1
 have hql:(ofNat (val (ofNat (Int.natAbs (kG x))) / val (ofNat (Int.natAbs (kG y))))).length<=274877906944:=by have:=len_quo (ofNat (Int.natAbs (kG x))) (qO _) (val (ofNat (Int.natAbs (kG y))));omega
 have hqg:(xT (!((kN (kG x)).neg == (kN (kG y)).neg)) (val (ofNat (val (ofNat (Int.natAbs (kG x))) / val (ofNat (Int.natAbs (kG y))))))).gs.length<=274877906944:=by show (ofNat (val (ofNat (val (ofNat (Int.natAbs (kG x))) / val (ofNat (Int.natAbs (kG y))))))).length<=_;rw[kL];exact hql
 have eR:(kN 1).gs.length<=1:=(lA (z:=1)).l
 have hqs:=gs_sub (xT (!((kN (kG x)).neg == (kN (kG y)).neg)) (val (ofNat (val (ofNat (Int.natAbs (kG x))) / val (ofNat (Int.natAbs (kG y))))))) (kN 1)
 refine qY Tryz.func146 ?_
 refine jB<|kx [(2,(.ref 0 0)),(3,(.ref 1 0)),(4,(.ref 2 0)),(5,(.ref 3 0))] [(0,some (bx (jX x))),(1,some (bx (jX y))),(2,some (bx (jX (qF.mk false [])))),(3,some (bx (jX (qF.mk false []))))] (zN (uU 0)<|zN (uU 1)<|zN (qR 2 gE gF)<|zN (qR 3 gE gF)<|zM<|zZ) ?_
 refine jB<|kd [] [(0,some (bx (jX (kN (kG x))))),(1,some (bx (jX (kN (kG y)))))] mo (wR (kJ kC)<|wE (jV (eZ x (by omega)))<|wR (kJ kC)<|wE (jV (eZ y (by omega)))<|wT (qA kC)<|wT (qA kC)<|wZ) ?_
 refine jB<|jB<|kx [(17,(vb ((((ofNat (Int.natAbs (kG y))).length:Nat):Int) == 0)))] [] (zE (kV vR)<|zR (uE yD)<|zE (vP kO (L:=(ofNat (Int.natAbs (kG y)))))<|zE xR<|zZ) ?_
 refine jG rfl (fun h1=>?_) (fun h1=>?_)
 ·replace h1:=eq_of_beq h1
  exact absurd h1 (by omega)
 ·replace h1:=ne_of_beq_false h1
  refine jC<|jB<|kx [(7,(vl 140 1 jD (ofNat (val (ofNat (Int.natAbs (kG x))) / val (ofNat (Int.natAbs (kG y))))))),(8,(vl 140 1 jD (ofNat (val (ofNat (Int.natAbs (kG x))) % val (ofNat (Int.natAbs (kG y)))))))] [] (zE (kV vR)<|zR (uE yD)<|zE (kV vR)<|zR (uE yD)<|zE (jV (r_parts (ofNat (Int.natAbs (kG x))) (ofNat (Int.natAbs (kG y))) (by first | assumption | exact qO _ | exact qV _) (by first | assumption | exact qO _ | exact qV _) (by omega) (by omega) (by omega)))<|zM<|zE uX<|zE uX<|zM<|zM<|zZ) ?_
  refine jB<|kx [(9,(.ref 4 0))] [(4,some (bx (jX (xT (!(((kN (kG x)).neg) == ((kN (kG y)).neg))) (val (ofNat (val (ofNat (Int.natAbs (kG x))) / val (ofNat (Int.natAbs (kG y))))))))))] (zE (kV vZ)<|zR (uE iP)<|zE (kV vZ)<|zR (uE iP)<|zE (oNb bo4)<|zM<|zE (jV (mL (!(((kN (kG x)).neg) == ((kN (kG y)).neg))) (ofNat (val (ofNat (Int.natAbs (kG x))) / val (ofNat (Int.natAbs (kG y))))) (kP _) (by omega)))<|zN (qR 4 gE gF)<|zT (qA kC)<|zZ) ?_
  refine jB<|jB<|kx [(44,(vb (!(((kN (kG x)).neg) == ((kN (kG y)).neg))&&decide (0<(((ofNat (val (ofNat (Int.natAbs (kG x))) % val (ofNat (Int.natAbs (kG y))))).length:Nat):Int)))))] [] ?_ ?_
  ·refine zE (kV vZ)<|zR (uE iP)<|zE (kV vZ)<|zR (uE iP)<|zE (oNb bo4)<|zE (oV (vb (!(((kN (kG x)).neg) == ((kN (kG y)).neg)))) (qC (by kernel_rfl)))<|?_
   rcases hb2:(!(((kN (kG x)).neg) == ((kN (kG y)).neg))) with _ | _
   ·exact zK<|zK<|zK<|zE xQ<|zZ
   ·exact zM<|zE (vP kO (L:=(ofNat (val (ofNat (Int.natAbs (kG x))) % val (ofNat (Int.natAbs (kG y)))))))<|zE hH<|zE fR<|zZ
  refine jG rfl (fun h3=>?_) (fun h3=>?_)
  ·have hqm:=gs_mul (kN (kG (xT (!((kN (kG x)).neg == (kN (kG y)).neg)) (val (ofNat (val (ofNat (Int.natAbs (kG x))) / val (ofNat (Int.natAbs (kG y)))))))-kG (kN 1))) (kN (kG y))
   have hk:=r_div_other (X:=kG x) (Y:=kG y) hy1 (by rw[Bool.and_eq_true,Bool.not_eq_true',beq_eq_false_iff_ne,decide_eq_true_eq] at h3;exact h3)
   refine kd [] [(4,some (bx (jX (kN (kG (xT (!(((kN (kG x)).neg) == ((kN (kG y)).neg))) (val (ofNat (val (ofNat (Int.natAbs (kG x))) / val (ofNat (Int.natAbs (kG y)))))))-kG (kN 1))))))] mo (wR (kJ kC)<|wE (jV (r_of 1 (by omega) (by omega)))<|wE (jV (r_sub (xT (!(((kN (kG x)).neg) == ((kN (kG y)).neg))) (val (ofNat (val (ofNat (Int.natAbs (kG x))) / val (ofNat (Int.natAbs (kG y))))))) (kN 1) (by omega) (by omega)))<|wT (qA kC)<|wZ) ?_
   refine jB<|kd [(6,(jS 0))] [(2,some (bx (jX (kN (kG (xT (!(((kN (kG x)).neg) == ((kN (kG y)).neg))) (val (ofNat (val (ofNat (Int.natAbs (kG x))) / val (ofNat (Int.natAbs (kG y)))))))-kG (kN 1)))))),(3,some (bx (jX (kN (kG (kN (kG x))-kG (kN (kG (kN (kG (xT (!(((kN (kG x)).neg) == ((kN (kG y)).neg))) (val (ofNat (val (ofNat (Int.natAbs (kG x))) / val (ofNat (Int.natAbs (kG y)))))))-kG (kN 1)))*kG (kN (kG y)))))))))] mo (wR (kJ kC)<|wR (kJ kC)<|wR (kJ kC)<|wR (kJ kC)<|wE (jV (r_mul (kN (kG (xT (!(((kN (kG x)).neg) == ((kN (kG y)).neg))) (val (ofNat (val (ofNat (Int.natAbs (kG x))) / val (ofNat (Int.natAbs (kG y)))))))-kG (kN 1))) (kN (kG y)) (by omega) (by omega)))<|wE (jV (r_sub (kN (kG x)) (kN (kG (kN (kG (xT (!(((kN (kG x)).neg) == ((kN (kG y)).neg))) (val (ofNat (val (ofNat (Int.natAbs (kG x))) / val (ofNat (Int.natAbs (kG y)))))))-kG (kN 1)))*kG (kN (kG y)))) (by omega) (by omega)))<|wT (qA kC)<|wT (qA kC)<|wM<|wZ) ?_
   refine jE ⟨_,(kI (cs:=(bx (jX (kN (kG (xT (!(((kN (kG x)).neg) == ((kN (kG y)).neg))) (val (ofNat (val (ofNat (Int.natAbs (kG x))) / val (ofNat (Int.natAbs (kG y)))))))-kG (kN 1)))))) (d:=(jX (kN (kG (xT (!(((kN (kG x)).neg) == ((kN (kG y)).neg))) (val (ofNat (val (ofNat (Int.natAbs (kG x))) / val (ofNat (Int.natAbs (kG y)))))))-kG (kN 1))))) rfl rfl kC rfl rfl (kI (cs:=(bx (jX (kN (kG (kN (kG x))-kG (kN (kG (kN (kG (xT (!(((kN (kG x)).neg) == ((kN (kG y)).neg))) (val (ofNat (val (ofNat (Int.natAbs (kG x))) / val (ofNat (Int.natAbs (kG y)))))))-kG (kN 1)))*kG (kN (kG y))))))))) (d:=(jX (kN (kG (kN (kG x))-kG (kN (kG (kN (kG (xT (!(((kN (kG x)).neg) == ((kN (kG y)).neg))) (val (ofNat (val (ofNat (Int.natAbs (kG x))) / val (ofNat (Int.natAbs (kG y)))))))-kG (kN 1)))*kG (kN (kG y)))))))) rfl rfl kC rfl rfl (.tmp (d:=(.val (.int .i64 (0)))) rfl .nil))),?_⟩
   rw[hk,r_rem_eq];rfl
  ·have hqm:=gs_mul (xT (!((kN (kG x)).neg == (kN (kG y)).neg)) (val (ofNat (val (ofNat (Int.natAbs (kG x))) / val (ofNat (Int.natAbs (kG y))))))) (kN (kG y))
   have hk:=r_div_same (X:=kG x) (Y:=kG y) hy1 (by rw[Bool.and_eq_false_iff,Bool.not_eq_false',beq_iff_eq,decide_eq_false_iff_not] at h3;exact h3)
   refine jC<|jB<|kd [(6,(jS 0))] [(2,some (bx (jX (xT (!(((kN (kG x)).neg) == ((kN (kG y)).neg))) (val (ofNat (val (ofNat (Int.natAbs (kG x))) / val (ofNat (Int.natAbs (kG y)))))))))),(3,some (bx (jX (kN (kG (kN (kG x))-kG (kN (kG (xT (!(((kN (kG x)).neg) == ((kN (kG y)).neg))) (val (ofNat (val (ofNat (Int.natAbs (kG x))) / val (ofNat (Int.natAbs (kG y)))))))*kG (kN (kG y)))))))))] mo (wR (kJ kC)<|wR (kJ kC)<|wR (kJ kC)<|wR (kJ kC)<|wE (jV (r_mul (xT (!(((kN (kG x)).neg) == ((kN (kG y)).neg))) (val (ofNat (val (ofNat (Int.natAbs (kG x))) / val (ofNat (Int.natAbs (kG y))))))) (kN (kG y)) (by omega) (by omega)))<|wE (jV (r_sub (kN (kG x)) (kN (kG (xT (!(((kN (kG x)).neg) == ((kN (kG y)).neg))) (val (ofNat (val (ofNat (Int.natAbs (kG x))) / val (ofNat (Int.natAbs (kG y)))))))*kG (kN (kG y)))) (by omega) (by omega)))<|wT (qA kC)<|wT (qA kC)<|wM<|wZ) ?_
   refine jE ⟨_,(kI (cs:=(bx (jX (xT (!(((kN (kG x)).neg) == ((kN (kG y)).neg))) (val (ofNat (val (ofNat (Int.natAbs (kG x))) / val (ofNat (Int.natAbs (kG y)))))))))) (d:=(jX (xT (!(((kN (kG x)).neg) == ((kN (kG y)).neg))) (val (ofNat (val (ofNat (Int.natAbs (kG x))) / val (ofNat (Int.natAbs (kG y))))))))) rfl rfl kC rfl rfl (kI (cs:=(bx (jX (kN (kG (kN (kG x))-kG (kN (kG (xT (!(((kN (kG x)).neg) == ((kN (kG y)).neg))) (val (ofNat (val (ofNat (Int.natAbs (kG x))) / val (ofNat (Int.natAbs (kG y)))))))*kG (kN (kG y))))))))) (d:=(jX (kN (kG (kN (kG x))-kG (kN (kG (xT (!(((kN (kG x)).neg) == ((kN (kG y)).neg))) (val (ofNat (val (ofNat (Int.natAbs (kG x))) / val (ofNat (Int.natAbs (kG y)))))))*kG (kN (kG y)))))))) rfl rfl kC rfl rfl (.tmp (d:=(.val (.int .i64 (0)))) rfl .nil))),?_⟩
   rw[hk,r_rem_eq];rfl
end Go.Proofs.YtnajallgoaiahaaGreatDoor
