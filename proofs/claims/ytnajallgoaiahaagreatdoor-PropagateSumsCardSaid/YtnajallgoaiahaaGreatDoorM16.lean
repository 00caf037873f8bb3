/- Part 16 of a proof: rules, plain facts, and functions walked. -/
import Derived.Test.YtnajallgoaiahaaGreatDoorM15
set_option linter.all false
set_option maxRecDepth 4000
namespace Go.Proofs.YtnajallgoaiahaaGreatDoor
open Go.Fid
theorem cb83:callB Tryz.prog 83=true:=by kernel_rfl
theorem cb87:callB Tryz.prog 87=true:=by kernel_rfl
theorem cb96:callB Tryz.prog 96=true:=by kernel_rfl
theorem cb145:callB Tryz.prog 145=true:=by kernel_rfl
theorem cb175:callB Tryz.prog 175=true:=by kernel_rfl
theorem cb176:callB Tryz.prog 176=true:=by kernel_rfl
theorem cb177:callB Tryz.prog 177=true:=by kernel_rfl
theorem cb240:callB Tryz.prog 240=true:=by kernel_rfl
theorem r_neg(x:kU)(hx:x.gs.length≤1099511627776):jQ Tryz.prog 145 [(jN x)] (jN (kD (-jX x))):=by
 have hvx:=dV x
 refine jG Tryz.func145 rfl cb145 rfl ?_
 show qK _ _ _ _ ⟨[(0,(.d (jN x)))],[]⟩
 refine jB<|kx [(1,(.ref 0 0)),(2,(.ref 1 0))] [(0,some (bx (jN x))),(1,some (bx (jN (kU.mk false []))))] (zN (vN 0)<|zN (uB 1 yH yF)<|zZ) ?_
 refine jB<|kx [] [(0,some (bx (jN (kD (jX x)))))] (zR (kO jY)<|zE (jZ (dX x (by omega)))<|zT (qD jY)<|zZ) ?_
 refine jB<|kx [] [(1,some (bx (jN (xB (!((kD (jX x)).neg)) (val (ofNat (Int.natAbs (jX x))))))))] (zE (kZ vD)<|zR (qS aP)<|zE nF<|zE (kZ vL)<|zR (qS xZ)<|zE (jZ (nT (!((kD (jX x)).neg)) (ofNat (Int.natAbs (jX x))) (by first | assumption | exact kG _ | exact (qB _).1 | exact (qI _).1) (by omega)))<|zT (qD jY)<|zZ) ?_
 refine jE ⟨_,(kP (cs:=(bx (jN (xB (!((kD (jX x)).neg)) (val (ofNat (Int.natAbs (jX x)))))))) (d:=(jN (xB (!((kD (jX x)).neg)) (val (ofNat (Int.natAbs (jX x))))))) rfl rfl jY rfl rfl .nil),?_⟩
 rw[← rneg_eq];rfl
theorem r_sign(x:kU)(hx:x.gs.length≤1099511627776):jQ Tryz.prog 83 [(jN x)] (.val (.int .i64 ((qY (jX x))))):=by
 have hvx:=dV x
 refine jG Tryz.func83 rfl cb83 rfl ?_
 show qK _ _ _ _ ⟨[(0,(.d (jN x)))],[]⟩
 refine jB<|kx [(1,(.ref 0 0))] [(0,some (bx (jN x)))] (zN (vN 0)<|zM<|zZ) ?_
 refine jB<|kx [] [(0,some (bx (jN (kD (jX x)))))] (zR (kO jY)<|zE (jZ (dX x (by omega)))<|zT (qD jY)<|zZ) ?_
 refine jB<|jB<|kx [(8,(vb ((((ofNat (Int.natAbs (jX x))).length:Nat):Int) == 0)))] [] (zE (kZ vL)<|zR (qS xZ)<|zE (vC kH (L:=(ofNat (Int.natAbs (jX x)))))<|zE yQ<|zZ) ?_
 refine jF rfl (fun h1=>?_) (fun h1=>?_)
 ·replace h1:=eq_of_beq h1
  refine jB<|kx [(2,(jV 0))] [] (zM<|zZ) ?_
  refine jE ⟨_,(.tmp (d:=(.val (.int .i64 (0)))) rfl .nil),?_⟩
  rw[rsign_zero h1];rfl
 ·replace h1:=ne_of_beq_false h1
  refine jD<|jB<|jB<|kx [(10,(vb ((kD (jX x)).neg)))] [] (zE (kZ vD)<|zR (qS aP)<|zZ) ?_
  refine jF (b:=(kD (jX x)).neg) rfl (fun h2=>?_) (fun h2=>?_)
  ·refine jB<|kx [(2,(vi (-1)))] [] (zM<|zZ) ?_
   refine jE ⟨_,(.tmp (d:=(.val (.int .i64 (-1)))) rfl .nil),?_⟩
   rw[rsign_neg h1 h2];rfl
  ·refine jD<|jB<|kx [(2,(jV 1))] [] (zM<|zZ) ?_
   refine jE ⟨_,(.tmp (d:=(.val (.int .i64 (1)))) rfl .nil),?_⟩
   rw[rsign_pos h1 h2];rfl
theorem r_add(x:kU)(y:kU)(hx:x.gs.length≤1099511627776)(hy:y.gs.length≤1099511627776):jQ Tryz.prog 96 [(jN x),(jN y)] (jN (kD (jX x+jX y))):=by
 have hvx:=dV x
 have hvy:=dV y
 refine jG Tryz.func96 rfl cb96 rfl ?_
 show qK _ _ _ _ ⟨[(0,(.d (jN x))),(1,(.d (jN y)))],[]⟩
 refine jB<|kx [(2,(.ref 0 0)),(3,(.ref 1 0)),(4,(.ref 2 0))] [(0,some (bx (jN x))),(1,some (bx (jN y))),(2,some (bx (jN (kU.mk false []))))] (zN (vN 0)<|zN (vN 1)<|zN (uB 2 yH yF)<|zZ) ?_
 refine jB<|kd [] [(0,some (bx (jN (kD (jX x))))),(1,some (bx (jN (kD (jX y)))))] mo (wR (kO jY)<|wE (jZ (dX x (by omega)))<|wR (kO jY)<|wE (jZ (dX y (by omega)))<|wT (qD jY)<|wT (qD jY)<|wZ) ?_
 refine jB<|jB<|kx [(13,(vb (((kD (jX x)).neg) == ((kD (jX y)).neg))))] [] (zE (kZ vD)<|zR (qS aP)<|zE (kZ vD)<|zR (qS aP)<|zE (oEb bo4)<|zZ) ?_
 refine jF rfl (fun h1=>?_) (fun h1=>?_)
 ·replace h1:=eq_of_beq h1
  refine jB<|kd [] [(2,some (bx (jN (xB ((kD (jX x)).neg) (val (ofNat (val (ofNat (Int.natAbs (jX x)))+val (ofNat (Int.natAbs (jX y))))))))))] mo (wE (kZ vD)<|wR (qS aP)<|wE (kZ vL)<|wR (qS xZ)<|wE (kZ vL)<|wR (qS xZ)<|wE (jZ (r_plus (ofNat (Int.natAbs (jX x))) (ofNat (Int.natAbs (jX y))) (by first | assumption | exact kG _ | exact (qB _).1 | exact (qI _).1) (by first | assumption | exact kG _ | exact (qB _).1 | exact (qI _).1) (by omega) (by omega)))<|wE (jZ (nT ((kD (jX x)).neg) (ofNat (val (ofNat (Int.natAbs (jX x)))+val (ofNat (Int.natAbs (jX y))))) (by first | assumption | exact kG _ | exact (qB _).1 | exact (qI _).1) (by first | omega | exact Nat.le_trans (add_len (kG _) (kG _)) (by omega) | exact Nat.le_trans (sub_len (kG _)) (by omega))))<|wT (qD jY)<|wZ) ?_
  refine jE ⟨_,(kP (cs:=(bx (jN (xB ((kD (jX x)).neg) (val (ofNat (val (ofNat (Int.natAbs (jX x)))+val (ofNat (Int.natAbs (jX y)))))))))) (d:=(jN (xB ((kD (jX x)).neg) (val (ofNat (val (ofNat (Int.natAbs (jX x)))+val (ofNat (Int.natAbs (jX y))))))))) rfl rfl jY rfl rfl .nil),?_⟩
  rw[← rsum_same h1];rfl
 ·replace h1:=ne_of_beq_false h1
  refine jD<|jB<|jB<|kx [(27,(vb (decide (0≤(uP ((val (ofNat (Int.natAbs (jX x))):Nat):Int) ((val (ofNat (Int.natAbs (jX y))):Nat):Int))))))] [] (zE (kZ vL)<|zR (qS xZ)<|zE (kZ vL)<|zR (qS xZ)<|zE (jZ (r_size (ofNat (Int.natAbs (jX x))) (ofNat (Int.natAbs (jX y))) (by first | assumption | exact qB _ | exact qI _) (by first | assumption | exact qB _ | exact qI _) (by omega) (by omega)))<|zE oGe<|zZ) ?_
  refine jF rfl (fun h2=>?_) (fun h2=>?_)
  ·replace h2:=vI h2
   refine jB<|kd [] [(2,some (bx (jN (xB ((kD (jX x)).neg) (val (ofNat (val (ofNat (Int.natAbs (jX x)))-val (ofNat (Int.natAbs (jX y))))))))))] mo (wE (kZ vD)<|wR (qS aP)<|wE (kZ vL)<|wR (qS xZ)<|wE (kZ vL)<|wR (qS xZ)<|wE (jZ (r_minus (ofNat (Int.natAbs (jX x))) (ofNat (Int.natAbs (jX y))) (by first | assumption | exact kG _ | exact (qB _).1 | exact (qI _).1) (by first | assumption | exact kG _ | exact (qB _).1 | exact (qI _).1) (by have:=bX h2;omega) (by omega)))<|wE (jZ (nT ((kD (jX x)).neg) (ofNat (val (ofNat (Int.natAbs (jX x)))-val (ofNat (Int.natAbs (jX y))))) (by first | assumption | exact kG _ | exact (qB _).1 | exact (qI _).1) (by first | omega | exact Nat.le_trans (add_len (kG _) (kG _)) (by omega) | exact Nat.le_trans (sub_len (kG _)) (by omega))))<|wT (qD jY)<|wZ) ?_
   refine jE ⟨_,(kP (cs:=(bx (jN (xB ((kD (jX x)).neg) (val (ofNat (val (ofNat (Int.natAbs (jX x)))-val (ofNat (Int.natAbs (jX y)))))))))) (d:=(jN (xB ((kD (jX x)).neg) (val (ofNat (val (ofNat (Int.natAbs (jX x)))-val (ofNat (Int.natAbs (jX y))))))))) rfl rfl jY rfl rfl .nil),?_⟩
   rw[← rsum_first h1 (by have:=bX h2;omega)];rfl
  ·replace h2:=vM h2
   refine jD<|jB<|kd [] [(2,some (bx (jN (xB ((kD (jX y)).neg) (val (ofNat (val (ofNat (Int.natAbs (jX y)))-val (ofNat (Int.natAbs (jX x))))))))))] mo (wE (kZ vD)<|wR (qS aP)<|wE (kZ vL)<|wR (qS xZ)<|wE (kZ vL)<|wR (qS xZ)<|wE (jZ (r_minus (ofNat (Int.natAbs (jX y))) (ofNat (Int.natAbs (jX x))) (by first | assumption | exact kG _ | exact (qB _).1 | exact (qI _).1) (by first | assumption | exact kG _ | exact (qB _).1 | exact (qI _).1) (by have:=cmpI_lt h2;omega) (by omega)))<|wE (jZ (nT ((kD (jX y)).neg) (ofNat (val (ofNat (Int.natAbs (jX y)))-val (ofNat (Int.natAbs (jX x))))) (by first | assumption | exact kG _ | exact (qB _).1 | exact (qI _).1) (by first | omega | exact Nat.le_trans (add_len (kG _) (kG _)) (by omega) | exact Nat.le_trans (sub_len (kG _)) (by omega))))<|wT (qD jY)<|wZ) ?_
   refine jE ⟨_,(kP (cs:=(bx (jN (xB ((kD (jX y)).neg) (val (ofNat (val (ofNat (Int.natAbs (jX y)))-val (ofNat (Int.natAbs (jX x)))))))))) (d:=(jN (xB ((kD (jX y)).neg) (val (ofNat (val (ofNat (Int.natAbs (jX y)))-val (ofNat (Int.natAbs (jX x))))))))) rfl rfl jY rfl rfl .nil),?_⟩
   rw[← rsum_second h1 (by have:=cmpI_lt h2;omega)];rfl
theorem r_sub(x:kU)(y:kU)(hx:x.gs.length≤1099511627776)(hy:y.gs.length≤1099511627776):jQ Tryz.prog 175 [(jN x),(jN y)] (jN (kD (jX x-jX y))):=by
 have hv:=gs_neg y
 refine jG Tryz.func175 rfl cb175 rfl ?_
 show qK _ _ _ _ ⟨[(0,(.d (jN x))),(1,(.d (jN y)))],[]⟩
 refine jB<|kx [(2,(.ref 0 0)),(3,(.ref 1 0)),(4,(.ref 2 0))] [(0,some (bx (jN x))),(1,some (bx (jN y))),(2,some (bx (jN (kU.mk false []))))] (zN (vN 0)<|zN (vN 1)<|zN (uB 2 yH yF)<|zZ) ?_
 refine jB<|kd [] [(2,some (bx (jN (kD (jX x+jX (kD (-jX y)))))))] mo (wR (kO jY)<|wR (kO jY)<|wE (jZ (r_neg y (by omega)))<|wE (jZ (r_add x (kD (-jX y)) (by omega) (by omega)))<|wT (qD jY)<|wZ) ?_
 refine jE ⟨_,(kP (cs:=(bx (jN (kD (jX x+jX (kD (-jX y))))))) (d:=(jN (kD (jX x+jX (kD (-jX y)))))) rfl rfl jY rfl rfl .nil),?_⟩
 rw[cW,← Int.sub_eq_add_neg];rfl
theorem r_mul(x:kU)(y:kU)(hx:x.gs.length≤1099511627776)(hy:y.gs.length≤1099511627776):jQ Tryz.prog 87 [(jN x),(jN y)] (jN (kD (jX x*jX y))):=by
 have hvx:=dV x
 have hvy:=dV y
 have hda:=kG (Int.natAbs (jX x))
 have hdb:=kG (Int.natAbs (jX y))
 refine jG Tryz.func87 rfl cb87 rfl ?_
 show qK _ _ _ _ ⟨[(0,(.d (jN x))),(1,(.d (jN y)))],[]⟩
 refine jB<|kx [(2,(.ref 0 0)),(3,(.ref 1 0)),(4,(.ref 2 0))] [(0,some (bx (jN x))),(1,some (bx (jN y))),(2,some (bx (jN (kU.mk false []))))] (zN (vN 0)<|zN (vN 1)<|zN (uB 2 yH yF)<|zZ) ?_
 refine jB<|kd [] [(0,some (bx (jN (kD (jX x))))),(1,some (bx (jN (kD (jX y)))))] mo (wR (kO jY)<|wE (jZ (dX x (by omega)))<|wR (kO jY)<|wE (jZ (dX y (by omega)))<|wT (qD jY)<|wT (qD jY)<|wZ) ?_
 refine jB<|kx [(5,(.own 3 140 1 ((ofNat (Int.natAbs (jX x))).length+(ofNat (Int.natAbs (jX y))).length)))] [(3,some (bm jC (List.replicate ((ofNat (Int.natAbs (jX x))).length+(ofNat (Int.natAbs (jX y))).length) 0)))] (zE (kZ vL)<|zR (qS xZ)<|zE (vC kH (L:=(ofNat (Int.natAbs (jX x)))))<|zE (kZ vL)<|zR (qS xZ)<|zE (vC kH (L:=(ofNat (Int.natAbs (jX y)))))<|zE (vY ((ofNat (Int.natAbs (jX x))).length+(ofNat (Int.natAbs (jX y))).length))<|zN (oMk 3 jC (0:Nat) ((ofNat (Int.natAbs (jX x))).length+(ofNat (Int.natAbs (jX y))).length) ((ofNat (Int.natAbs (jX x))).length+(ofNat (Int.natAbs (jX y))).length) kH vG yB nL)<|zM<|zZ) ?_
 refine jB<|jB<|kx [(6,(jV 0))] [] (zM<|zZ) ?_
 refine jH<|kL (α:=Nat × List Nat) (fun (i,out)=>⟨[(2,(.ref 0 0)),(3,(.ref 1 0)),(4,(.ref 2 0)),(5,(.own 3 140 1 ((ofNat (Int.natAbs (jX x))).length+(ofNat (Int.natAbs (jX y))).length))),(6,(jV i))],[(0,some (bx (jN (kD (jX x))))),(1,some (bx (jN (kD (jX y))))),(2,some (bx (jN (kU.mk false [])))),(3,some (bm jC out))]⟩) (fun (i,out)=>out.length=(ofNat (Int.natAbs (jX x))).length+(ofNat (Int.natAbs (jX y))).length∧Dig out∧i≤(ofNat (Int.natAbs (jX x))).length∧(∀ k,i+(ofNat (Int.natAbs (jX y))).length≤k→out.getD k 0=0)∧val out=val ((ofNat (Int.natAbs (jX x))).take i)*val (ofNat (Int.natAbs (jX y)))) (fun (i,out)=>(ofNat (Int.natAbs (jX x))).length-i) (0,List.replicate ((ofNat (Int.natAbs (jX x))).length+(ofNat (Int.natAbs (jX y))).length) 0) wk ⟨by simp,zD _,Nat.zero_le _,fun k _=>eY _ k,by simp [val,dY]⟩ ?_
 rintro ⟨i,out⟩ ⟨qU,hdo,hi,hz,hv⟩
 have hai:=hda.getD i
 refine jB<|jB<|kx [(26,(vb (decide (((i:Nat):Int)<(((ofNat (Int.natAbs (jX x))).length:Nat):Int)))))] [] (zM<|zE (kZ vL)<|zR (qS xZ)<|zE (vC kH (L:=(ofNat (Int.natAbs (jX x)))))<|zE xT<|zZ) ?_
 refine jF rfl (fun h1=>?_) (fun h1=>?_)
 ·replace h1:=vI h1
  refine jD<|jB<|jH<|jB<|kx [(7,(gC 0))] [] (zM<|zZ) ?_
  refine jB<|jB<|kx [(8,(jV 0))] [] (zM<|zZ) ?_
  refine jH<|kL (α:=Nat × List Nat × Nat) (fun (j,o2,c)=>⟨[(2,(.ref 0 0)),(3,(.ref 1 0)),(4,(.ref 2 0)),(5,(.own 3 140 1 ((ofNat (Int.natAbs (jX x))).length+(ofNat (Int.natAbs (jX y))).length))),(6,(jV i)),(7,(gC c)),(8,(jV j))],[(0,some (bx (jN (kD (jX x))))),(1,some (bx (jN (kD (jX y))))),(2,some (bx (jN (kU.mk false [])))),(3,some (bm jC o2))]⟩) (fun (j,o2,c)=>o2.length=(ofNat (Int.natAbs (jX x))).length+(ofNat (Int.natAbs (jX y))).length∧Dig o2∧j≤(ofNat (Int.natAbs (jX y))).length∧c<1000000000∧(∀ k,i+(ofNat (Int.natAbs (jX y))).length≤k→o2.getD k 0=0)∧val o2+pw (i+j)*c=val ((ofNat (Int.natAbs (jX x))).take i)*val (ofNat (Int.natAbs (jX y)))+pw i*((ofNat (Int.natAbs (jX x))).getD i 0*val ((ofNat (Int.natAbs (jX y))).take j))) (fun (j,o2,c)=>(ofNat (Int.natAbs (jX y))).length-j) (0,out,0) wk ⟨qU,hdo,Nat.zero_le _,by decide,hz,by simp [val,hv]⟩ ?_
  rintro ⟨j,o2,c⟩ ⟨hlen2,hdo2,hj,hc,hz2,hv2⟩
  have hbj:=hdb.getD j
  have hoj:=hdo2.getD (i+j)
  have hpq:(ofNat (Int.natAbs (jX x))).getD i 0*(ofNat (Int.natAbs (jX y))).getD j 0≤999999999*999999999:=Nat.mul_le_mul (by omega) (by omega)
  refine jB<|jB<|kx [(33,(vb (decide (((j:Nat):Int)<(((ofNat (Int.natAbs (jX y))).length:Nat):Int)))))] [] (zM<|zE (kZ vL)<|zR (qS xZ)<|zE (vC kH (L:=(ofNat (Int.natAbs (jX y)))))<|zE xT<|zZ) ?_
  refine jF rfl (fun h2=>?_) (fun h2=>?_)
  ·replace h2:=vI h2
   refine jD<|jB<|jH<|jB<|kd [(9,(gC (((o2.getD (i+j) 0)+(((ofNat (Int.natAbs (jX x))).getD i 0)*((ofNat (Int.natAbs (jX y))).getD j 0)))+c)))] [] mo (wM<|wM<|wM<|wE (vY (i+j))<|wE (aM kH (i+j))<|wR (oLp qP (i+j) (0:Nat))<|wE (mU yM yN (o2.getD (i+j) 0))<|wE (kZ vL)<|wR (qS xZ)<|wM<|wE (yL kH i (0:Nat) (L:=(ofNat (Int.natAbs (jX x)))))<|wE (yR qP)<|wE (mU yM yN ((ofNat (Int.natAbs (jX x))).getD i 0))<|wE (kZ vL)<|wR (qS xZ)<|wM<|wE (yL kH j (0:Nat) (L:=(ofNat (Int.natAbs (jX y)))))<|wE (yR qP)<|wE (mU yM yN ((ofNat (Int.natAbs (jX y))).getD j 0))<|wE (oMl (((ofNat (Int.natAbs (jX x))).getD i 0)*((ofNat (Int.natAbs (jX y))).getD j 0)))<|wE (vY ((o2.getD (i+j) 0)+(((ofNat (Int.natAbs (jX x))).getD i 0)*((ofNat (Int.natAbs (jX y))).getD j 0))))<|wM<|wE (vY (((o2.getD (i+j) 0)+(((ofNat (Int.natAbs (jX x))).getD i 0)*((ofNat (Int.natAbs (jX y))).getD j 0)))+c))<|wM<|wZ) ?_
   refine jB<|kx [] [(3,some (bm jC (o2.set (i+j) ((((o2.getD (i+j) 0)+(((ofNat (Int.natAbs (jX x))).getD i 0)*((ofNat (Int.natAbs (jX y))).getD j 0)))+c) % 1000000000))))] (zM<|zM<|zM<|zE (vY (i+j))<|zM<|zE (oRe ((((o2.getD (i+j) 0)+(((ofNat (Int.natAbs (jX x))).getD i 0)*((ofNat (Int.natAbs (jX y))).getD j 0)))+c) % 1000000000))<|zE (mU hZ gR ((((o2.getD (i+j) 0)+(((ofNat (Int.natAbs (jX x))).getD i 0)*((ofNat (Int.natAbs (jX y))).getD j 0)))+c) % 1000000000))<|zE (aM kH (i+j))<|zT (oSp qP (i+j) ((((o2.getD (i+j) 0)+(((ofNat (Int.natAbs (jX x))).getD i 0)*((ofNat (Int.natAbs (jX y))).getD j 0)))+c) % 1000000000))<|zZ) ?_
   refine kx [(7,(gC ((((o2.getD (i+j) 0)+(((ofNat (Int.natAbs (jX x))).getD i 0)*((ofNat (Int.natAbs (jX y))).getD j 0)))+c) / 1000000000)))] [] (zM<|zE (oQu ((((o2.getD (i+j) 0)+(((ofNat (Int.natAbs (jX x))).getD i 0)*((ofNat (Int.natAbs (jX y))).getD j 0)))+c) / 1000000000))<|zM<|zZ) ?_
   refine kx [(8,(jV (j+1)))] [] (zM<|zE (vY (j+1))<|zM<|zZ) ?_
   exact ⟨(j+1,o2.set (i+j) ((o2.getD (i+j) 0+(ofNat (Int.natAbs (jX x))).getD i 0*(ofNat (Int.natAbs (jX y))).getD j 0+c) % 1000000000),(o2.getD (i+j) 0+(ofNat (Int.natAbs (jX x))).getD i 0*(ofNat (Int.natAbs (jX y))).getD j 0+c) / 1000000000),wk,(by obtain ⟨q1,q2⟩:=times_step (by omega) hdo2 hv2 rfl (val_take_succ _ j);exact ⟨by simpa using hlen2,q1,by omega,by omega,zero_set (by omega) hz2,q2⟩),(by first|omega|(dsimp only;omega))⟩
  ·replace h2:=vM h2
   have hje:j=(ofNat (Int.natAbs (jX y))).length:=by omega
   rw[hje] at hv2
   refine kJ<|kx [] [(3,some (bm jC (o2.set (i+(ofNat (Int.natAbs (jX y))).length) c)))] (zM<|zM<|zE (kZ vL)<|zR (qS xZ)<|zE (vC kH (L:=(ofNat (Int.natAbs (jX y)))))<|zE (vY (i+(ofNat (Int.natAbs (jX y))).length))<|zM<|zE (mU hZ gR c)<|zE (aM kH (i+(ofNat (Int.natAbs (jX y))).length))<|zT (oSp qP (i+(ofNat (Int.natAbs (jX y))).length) c)<|zZ) ?_
   refine kx [(6,(jV (i+1)))] [] (zM<|zE (vY (i+1))<|zM<|zZ) ?_
   exact ⟨(i+1,o2.set (i+(ofNat (Int.natAbs (jX y))).length) c),wk,(by obtain ⟨q1,q2,q3,q4⟩:=times_row hdo2 (by omega) hlen2 hz2 hc hv2;exact ⟨q1,q2,by omega,q3,q4⟩),(by first|omega|(dsimp only;omega))⟩
 ·replace h1:=vM h1
  have hie:i=(ofNat (Int.natAbs (jX x))).length:=by omega
  rw[hie,List.take_length] at hv
  refine kJ<|jB<|kW (vX (t:=5) (k:=3) (es:=List.map jC out) rfl rfl (uS _ _ (fun _=>rfl)) (uT _ _ qU) (vS _ _ (fun _=>rfl) qU)) ?_
  refine kx [] [(2,some (bx (jN (xB (!(((kD (jX x)).neg) == ((kD (jX y)).neg))) (val out)))))] (zE (kZ vD)<|zR (qS aP)<|zE (kZ vD)<|zR (qS aP)<|zE (oNb bo4)<|zM<|zE (jZ (nT (!(((kD (jX x)).neg) == ((kD (jX y)).neg))) out hdo (by omega)))<|zT (qD jY)<|zZ) ?_
  refine jE ⟨_,(kP (cs:=(bx (jN (xB (!(((kD (jX x)).neg) == ((kD (jX y)).neg))) (val out))))) (d:=(jN (xB (!(((kD (jX x)).neg) == ((kD (jX y)).neg))) (val out)))) rfl rfl jY rfl rfl .nil),?_⟩
  rw[hv,rmul_eq];rfl
theorem r_short(a:List Nat)(d:Nat)(hda:Dig a)(hd0:0<d)(hd1:d≤1000000000)(hla:a.length≤17592186044416):jQ Tryz.prog 240 [(.sl 140 1 (List.map jC a)),(.val (.int .u64 (((d:Nat):Int))))] (.tup [(.sl 140 1 (List.map jC (ofNat (val a / d)))),(.val (.int .u64 ((((val a % d):Nat):Int))))]):=by
 refine jG Tryz.func240 rfl cb240 rfl ?_
 show qK _ _ _ _ ⟨[(0,(vl 140 1 jC a)),(1,(gC d))],[]⟩
 refine jB<|kx [] [] (zE (dZ 140 1)<|zM<|zZ) ?_
 refine jB<|kx [(6,(.own 0 140 1 a.length))] [(0,some (bm jC (List.replicate a.length 0)))] (zM<|zE (vC kH)<|zN (oMk 0 jC (0:Nat) a.length a.length kH vG yB nL)<|zM<|zZ) ?_
 refine jB<|kx [(7,(gC 0))] [] (zM<|zZ) ?_
 refine jB<|jB<|kx [(8,(vi (((a.length:Nat):Int)-1)))] [] (zM<|zE (vC kH)<|zE (zSb (((a.length:Nat):Int)-1))<|zM<|zZ) ?_
 refine jH<|kL (α:=Nat × List Nat × Nat) (fun (k,q,xJ)=>⟨[(0,(vl 140 1 jC a)),(1,(gC d)),(6,(.own 0 140 1 a.length)),(7,(gC xJ)),(8,(vi (((k:Nat):Int)-1)))],[(0,some (bm jC q))]⟩) (fun (k,q,xJ)=>k≤a.length∧q.length=a.length∧Dig q∧xJ<d∧val (a.drop k)=val (q.drop k)*d+xJ) (fun (k,q,xJ)=>k) (a.length,List.replicate a.length 0,0) wk ⟨Nat.le_refl _,by simp,zD _,hd0,by simp [val]⟩ ?_
 rintro ⟨k,q,xJ⟩ ⟨hk,qU,hdq,hr,hv⟩
 refine jB<|jB<|kx [(17,(vb (decide (0≤(((k:Nat):Int)-1)))))] [] (zM<|zE oGe<|zZ) ?_
 refine jF (b:=decide (0≤(((k:Nat):Int)-1))) rfl (fun h1=>?_) (fun h1=>?_)
 ·replace h1:=vI h1
  obtain ⟨i,rfl⟩:∃ i,k=i+1:=⟨k-1,by omega⟩
  rw[show (((i+1:Nat):Int)-1)=((i:Nat):Int) from by omega]
  have hg:=hda.getD i
  obtain ⟨hb1,hb2⟩:=short_bound hr hd1 hg
  refine jD<|jB<|jH<|jB<|kx [(8,(jV i)),(9,(gC ((xJ*1000000000)+(a.getD i 0))))] [] (zM<|zE (oMl (xJ*1000000000))<|zM<|zM<|zE (yL kH i (0:Nat))<|zE (yR qP)<|zE (mU yM yN (a.getD i 0))<|zE (vY ((xJ*1000000000)+(a.getD i 0)))<|zM<|zZ) ?_
  refine jB<|kx [] [(0,some (bm jC (q.set i (((xJ*1000000000)+(a.getD i 0)) / d))))] (zM<|zM<|zM<|zM<|zE (oQu (((xJ*1000000000)+(a.getD i 0)) / d))<|zE (mU hZ gR (((xJ*1000000000)+(a.getD i 0)) / d))<|zE (aM kH i)<|zT (oSp qP i (((xJ*1000000000)+(a.getD i 0)) / d))<|zZ) ?_
  refine kx [(7,(gC (((xJ*1000000000)+(a.getD i 0)) % d)))] [] (zM<|zM<|zE (oRe (((xJ*1000000000)+(a.getD i 0)) % d))<|zM<|zZ) ?_
  refine kx [(8,(vi (((i:Nat):Int)-1)))] [] (zM<|zE (zSb (((i:Nat):Int)-1))<|zM<|zZ) ?_
  exact ⟨(i,q.set i ((xJ*1000000000+a.getD i 0) / d),(xJ*1000000000+a.getD i 0) % d),wk,⟨by omega,by simpa using qU,hdq.set _ hb2,Nat.mod_lt _ hd0,rshort_step (by omega) hv rfl⟩,(by first|omega|(dsimp only;omega))⟩
 ·replace h1:=vM h1
  obtain rfl:k=0:=by omega
  obtain ⟨e1,e2⟩:=short_end (a:=a) (q:=q) (by rw[Nat.sub_self];exact hv) hr
  refine kJ<|jB<|kW (vX (t:=6) (k:=0) (es:=List.map jC q) rfl rfl (uS _ _ (fun _=>rfl)) (uT _ _ qU) (vS _ _ (fun _=>rfl) qU)) ?_
  refine kx [(4,(vl 140 1 jC (ofNat (val q)))),(5,(gC xJ))] [] (zM<|zE (jZ (nT false q (by first | assumption | exact kG _ | exact (qB _).1 | exact (qI _).1) (by omega)))<|zE (oF1 aI xZ)<|zM<|zM<|zM<|zZ) ?_
  refine jE ⟨_,(.tmp (d:=(.sl 140 1 (List.map jC (ofNat (val q))))) rfl (.tmp (d:=(.val (.int .u64 (((xJ:Nat):Int))))) rfl .nil)),?_⟩
  rw[← e1,← e2];rfl
theorem r_pair(l:List Nat)(hd:Dig l)(h2:l.length≤2):jQ Tryz.prog 177 [(.sl 140 1 (List.map jC l))] (.val (.int .u64 ((((val l):Nat):Int)))):=by
 have h0:=hd.getD 0
 have h1:=hd.getD 1
 refine jG Tryz.func177 rfl cb177 rfl ?_
 show qK _ _ _ _ ⟨[(0,(vl 140 1 jC l))],[]⟩
 refine jB<|kx [] [] (zM<|zZ) ?_
 refine jB<|kx [(2,(gC (((l.getD 1 0)*1000000000)+(l.getD 0 0))))] [] (zM<|zE (jZ (fT l 1 (by first | assumption | exact kG _ | exact (qB _).1 | exact (qI _).1)))<|zE (oMl ((l.getD 1 0)*1000000000))<|zM<|zE (jZ (fT l 0 (by first | assumption | exact kG _ | exact (qB _).1 | exact (qI _).1)))<|zE (vY (((l.getD 1 0)*1000000000)+(l.getD 0 0)))<|zM<|zZ) ?_
 refine jE ⟨_,(.tmp (d:=(.val (.int .u64 ((((((l.getD 1 0)*1000000000)+(l.getD 0 0)):Nat):Int))))) rfl .nil),?_⟩
 rw[val_pair h2];rfl
theorem r_parts(a b:List Nat)(hda:zW a)(hdb:zW b)(hb0:0<b.length)(hla:a.length≤1099511627776)(hlb:b.length≤1099511627776):jQ Tryz.prog 176 [(.sl 140 1 (List.map jC a)),(.sl 140 1 (List.map jC b))] (.tup [(.sl 140 1 (List.map jC (ofNat (val a / val b)))),(.sl 140 1 (List.map jC (ofNat (val a % val b))))]):=by
 have hsc:=bA hdb hb0
 have htp:=bR hdb hb0
 have hbp:=cH hdb hb0
 refine jG Tryz.func176 rfl cb176 rfl ?_
 show qK _ _ _ _ ⟨[(0,(vl 140 1 jC a)),(1,(vl 140 1 jC b))],[]⟩
 refine jB<|kx [] [] (zE (dZ 140 1)<|zE (dZ 140 1)<|zZ) ?_
 refine jB<|kx [(6,(jV b.length))] [] (zM<|zE (vC kH)<|zM<|zZ) ?_
 refine jB<|jB<|kx [(19,(vb (((b.length:Nat):Int) == 1)))] [] (zM<|zE yQ<|zZ) ?_
 refine jF (b:=(((b.length:Nat):Int) == 1)) rfl (fun h1=>?_) (fun h1=>?_)
 ·replace h1:=eq_of_beq h1
  have hg0:=hdb.1.getD 0
  have hv1:=val_len1 (b:=b) (by omega)
  have hb00:0<b.getD 0 0:=by omega
  have hrl:val a % b.getD 0 0<1000000000:=Nat.lt_trans (Nat.mod_lt _ hb00) (by omega)
  refine jB<|kx [(7,(vl 140 1 jC (ofNat (val a / (b.getD 0 0))))),(8,(gC (val a % (b.getD 0 0))))] [] (zM<|zM<|zE (yL kH 0 (0:Nat))<|zE (yR qP)<|zE (mU yM yN (b.getD 0 0))<|zE (jZ (r_short a (b.getD 0 0) hda.1 (by omega) (by omega) (by omega)))<|zM<|zE vT<|zE vT<|zM<|zM<|zZ) ?_
  refine jB<|kx [(4,(vl 140 1 jC (ofNat (val a / (b.getD 0 0))))),(5,(vl 140 1 jC (ofNat (val [(val a % (b.getD 0 0))]))))] [] (zM<|zM<|zE (mU hZ gR (val a % (b.getD 0 0)))<|zE (dG kH vG yB)<|zE (jZ (nT false [(val a % (b.getD 0 0))] (yS.2 ⟨by omega,gS⟩) (by simp)))<|zE (oF1 aI xZ)<|zM<|zM<|zZ) ?_
  refine jE ⟨_,(.tmp (d:=(.sl 140 1 (List.map jC (ofNat (val a / (b.getD 0 0)))))) rfl (.tmp (d:=(.sl 140 1 (List.map jC (ofNat (val [(val a % (b.getD 0 0))]))))) rfl .nil)),?_⟩
  rw[hv1,cS];rfl
 ·replace h1:=ne_of_beq_false h1
  refine jD<|jB<|jB<|kx [(38,(vb (decide ((uP ((val a:Nat):Int) ((val b:Nat):Int))<0))))] [] (zM<|zM<|zE (jZ (r_size a b (by first | assumption | exact qB _ | exact qI _) (by first | assumption | exact qB _ | exact qI _) (by omega) (by omega)))<|zE xT<|zZ) ?_
  refine jF rfl (fun h2=>?_) (fun h2=>?_)
  ·replace h2:=vI h2
   refine jB<|kx [(4,(vl 140 1 jC [])),(5,(vl 140 1 jC a))] [] (zE (dG kH vG yB)<|zM<|zM<|zM<|zZ) ?_
   refine jE ⟨_,(.tmp (d:=(.sl 140 1 (List.map jC []))) rfl (.tmp (d:=(.sl 140 1 (List.map jC a))) rfl .nil)),?_⟩
   have hlt:=cmpI_neg h2
   rw[Nat.div_eq_of_lt hlt,Nat.mod_eq_of_lt hlt,uA,← can_eq hda];rfl
  ·replace h2:=vM h2
   obtain ⟨u,hue⟩:∃ u,u=ofNat (val a*dD b):=⟨_,rfl⟩
   obtain ⟨v,hve⟩:∃ v,v=ofNat (val b*dD b):=⟨_,rfl⟩
   have hu:Dig u:=by rw[hue];exact kG _
   have hcv:zW v:=by rw[hve];exact qB _
   have hvd:=hcv.1
   have hvl:v.length=b.length:=by rw[hve];exact scl_len hdb hb0
   have hvv:val v=val b*dD b:=by rw[hve];exact kA _
   have huv:val u=val a*dD b:=by rw[hue];exact kA _
   have hab:=len_of_le hda hdb (cmpI_nn h2)
   have hul:a.length≤u.length∧u.length≤a.length+1:=by rw[hue];exact scl_lenA hda hdb hb0
   have hvp:=cH hcv (by omega)
   have hpv:pw (b.length-1)≤val v:=by have h1:=val_top hvd (by omega);have h3:=bR hcv (by omega);rw[hvl] at h1 h3;have h2:=Nat.mul_le_mul_right (pw (b.length-1)) h3.1;omega
   refine jD<|jB<|kx [(9,(gC (dD b)))] [] (zM<|zM<|zE (oSb (b.length-1))<|zE (yL kH (b.length-1) (0:Nat))<|zE (yR qP)<|zE (mU yM yN (b.getD (b.length-1) 0))<|zE (vY ((b.getD (b.length-1) 0)+1))<|zE (oQu (dD b) (hr:=by exact (quo_u64 1000000000 (b.getD (b.length-1) 0+1) (by decide))))<|zM<|zZ) ?_
   refine jB<|kx [(0,(vl 140 1 jC u)),(1,(vl 140 1 jC v))] [] (zM<|zM<|zE (jZ (hue▸r_scaled a (dD b) hda.1 (by omega) (by omega)))<|zM<|zM<|zE (jZ (hve▸r_scaled b (dD b) hdb.1 (by omega) (by omega)))<|zM<|zM<|zZ) ?_
   refine jB<|kx [(10,(vl 140 1 jC (ofNat (val (List.drop ((u.length-b.length)+1) u)))))] [] (zM<|zM<|zE (vC kH)<|zM<|zE (oSb (u.length-b.length))<|zE (vY ((u.length-b.length)+1))<|zE (e_slc (l:=((u.length-b.length)+1)) (h:=(List.map jC u).length) (kl:=.i64) (kh:=.i64) (es':=List.map jC (List.drop ((u.length-b.length)+1) u)) (by exact rfl) kH (by exact rfl) (by exact rfl) (by exact rfl) (by simp only[List.length_map];omega) (Nat.le_refl _) (by rw[List.take_length,List.map_drop]))<|zE (jZ (nT false (List.drop ((u.length-b.length)+1) u) (hu.drop _) (by rw[List.length_drop];omega)))<|zE (oF1 aI xZ)<|zM<|zZ) ?_
   refine jB<|kx [(11,(.own 0 140 1 ((u.length-b.length)+1)))] [(0,some (bm jC (List.replicate ((u.length-b.length)+1) 0)))] (zM<|zE (vC kH)<|zM<|zE (oSb (u.length-b.length))<|zE (vY ((u.length-b.length)+1))<|zN (oMk 0 jC (0:Nat) ((u.length-b.length)+1) ((u.length-b.length)+1) kH vG yB nL)<|zM<|zZ) ?_
   refine jB<|jB<|kx [(12,(vi ((((u.length-b.length)+1:Nat):Int)-1)))] [] (zM<|zE (vC kH)<|zM<|zE (zSb ((((u.length-b.length)+1:Nat):Int)-1))<|zM<|zZ) ?_
   refine jH<|kL (α:=Nat × List Nat × List Nat) (fun (k,r,q)=>⟨[(0,(vl 140 1 jC u)),(1,(vl 140 1 jC v)),(6,(jV b.length)),(9,(gC (dD b))),(10,(vl 140 1 jC r)),(11,(.own 0 140 1 ((u.length-b.length)+1))),(12,(vi (((k:Nat):Int)-1)))],[(0,some (bm jC q))]⟩) (fun (k,r,q)=>zW r∧k≤((u.length-b.length)+1)∧q.length=((u.length-b.length)+1)∧Dig q∧val r<val v∧val (u.drop k)=val v*val (q.drop k)+val r) (fun (k,r,q)=>k) (((u.length-b.length)+1),ofNat (val (List.drop ((u.length-b.length)+1) u)),List.replicate ((u.length-b.length)+1) 0) wk ⟨qB _,Nat.le_refl _,by simp,zD _,by rw[kA];have h7:=vQ (hu.drop ((u.length-b.length)+1));rw[List.length_drop,show u.length-((u.length-b.length)+1)=b.length-1 by omega] at h7;omega,by rw[kA];simp [val]⟩ ?_
   rintro ⟨k,r,q⟩ ⟨hrc,hk,hql,hqd,hr,hv⟩
   refine jB<|jB<|kx [(75,(vb (decide (0≤(((k:Nat):Int)-1)))))] [] (zM<|zE oGe<|zZ) ?_
   refine jF (b:=decide (0≤(((k:Nat):Int)-1))) rfl (fun h3=>?_) (fun h3=>?_)
   ·replace h3:=vI h3
    obtain ⟨i,rfl⟩:∃ i,k=i+1:=⟨k-1,by omega⟩
    rw[show (((i+1:Nat):Int)-1)=((i:Nat):Int) from by omega]
    have hgu:=hu.getD i
    have hW:(u.getD i 0+1000000000*val r)<1000000000*val v:=by omega
    have hrs:=rshift_val u hv
    obtain ⟨hg1,hg2⟩:=rguess hvd hvl hb0 hW
    have hgv:=hvd.getD (b.length-1)
    have hgw1:=(kG (u.getD i 0+1000000000*val r)).getD b.length
    have hgw2:=(kG (u.getD i 0+1000000000*val r)).getD (b.length-1)
    have hrl:r.length≤b.length:=by have h9:=uX (Nat.le_of_lt hr);rwa [← can_eq hrc,← can_eq hcv,hvl] at h9
    have hwl:(ofNat (u.getD i 0+1000000000*val r)).length≤b.length+1:=qV (by rw[uJ];have:=vQ hvd;rw[hvl] at this;omega)
    refine jD<|jB<|jH<|jB<|kx [(10,(vl 140 1 jC (ofNat ((u.getD i 0)+1000000000*val r)))),(12,(jV i))] [] (zM<|zM<|zM<|zE (yL kH i (0:Nat))<|zE (yR qP)<|zE (jZ (r_shifted r (u.getD i 0) hrc.1 (by omega) (by omega)))<|zM<|zZ) ?_
    refine jB<|kd [(13,(gC (((((ofNat ((u.getD i 0)+1000000000*val r)).getD b.length 0)*1000000000)+((ofNat ((u.getD i 0)+1000000000*val r)).getD (b.length-1) 0)) / ((v.getD (b.length-1) 0)+1))))] [] mo (wM<|wM<|wE (jZ (fT (ofNat ((u.getD i 0)+1000000000*val r)) b.length (kG _)))<|wE (oMl (((ofNat ((u.getD i 0)+1000000000*val r)).getD b.length 0)*1000000000))<|wM<|wM<|wE (oSb (b.length-1))<|wE (jZ (fT (ofNat ((u.getD i 0)+1000000000*val r)) (b.length-1) (by first | assumption | exact kG _ | exact (qB _).1 | exact (qI _).1)))<|wE (vY ((((ofNat ((u.getD i 0)+1000000000*val r)).getD b.length 0)*1000000000)+((ofNat ((u.getD i 0)+1000000000*val r)).getD (b.length-1) 0)))<|wM<|wM<|wE (oSb (b.length-1))<|wE (yL kH (b.length-1) (0:Nat))<|wE (yR qP)<|wE (mU yM yN (v.getD (b.length-1) 0))<|wE (vY ((v.getD (b.length-1) 0)+1))<|wE (oQu (((((ofNat ((u.getD i 0)+1000000000*val r)).getD b.length 0)*1000000000)+((ofNat ((u.getD i 0)+1000000000*val r)).getD (b.length-1) 0)) / ((v.getD (b.length-1) 0)+1)))<|wM<|wZ) ?_
    refine jB<|kx [(10,(vl 140 1 jC (ofNat (val (ofNat ((u.getD i 0)+1000000000*val r))-val (ofNat (val v*(((((ofNat ((u.getD i 0)+1000000000*val r)).getD b.length 0)*1000000000)+((ofNat ((u.getD i 0)+1000000000*val r)).getD (b.length-1) 0)) / ((v.getD (b.length-1) 0)+1))))))))] [] (zM<|zM<|zM<|zE (jZ (r_scaled v (((((ofNat ((u.getD i 0)+1000000000*val r)).getD b.length 0)*1000000000)+((ofNat ((u.getD i 0)+1000000000*val r)).getD (b.length-1) 0)) / ((v.getD (b.length-1) 0)+1)) hvd (by omega) (by omega)))<|zE (jZ (r_minus (ofNat ((u.getD i 0)+1000000000*val r)) (ofNat (val v*(((((ofNat ((u.getD i 0)+1000000000*val r)).getD b.length 0)*1000000000)+((ofNat ((u.getD i 0)+1000000000*val r)).getD (b.length-1) 0)) / ((v.getD (b.length-1) 0)+1)))) (kG _) (kG _) (by rw[kA,kA,Nat.mul_comm];exact hg1) (by omega)))<|zM<|zZ) ?_
    refine jB<|jH<|kL (α:=Nat × List Nat) (fun (G,r2)=>⟨[(0,(vl 140 1 jC u)),(1,(vl 140 1 jC v)),(6,(jV b.length)),(9,(gC (dD b))),(10,(vl 140 1 jC r2)),(11,(.own 0 140 1 ((u.length-b.length)+1))),(12,(jV i)),(13,(gC G))],[(0,some (bm jC q))]⟩) (fun (G,r2)=>zW r2∧val v*G+val r2=(u.getD i 0+1000000000*val r)) (fun (G,r2)=>val r2) ((((ofNat (u.getD i 0+1000000000*val r)).getD b.length 0*1000000000+(ofNat (u.getD i 0+1000000000*val r)).getD (b.length-1) 0) / (v.getD (b.length-1) 0+1)),ofNat (val (ofNat (u.getD i 0+1000000000*val r))-val (ofNat (val v*(((ofNat (u.getD i 0+1000000000*val r)).getD b.length 0*1000000000+(ofNat (u.getD i 0+1000000000*val r)).getD (b.length-1) 0) / (v.getD (b.length-1) 0+1)))))) wk ⟨qB _,by rw[kA,kA,kA];rw[Nat.mul_comm] at hg1;omega⟩ ?_
    rintro ⟨G,r2⟩ ⟨hr2,hr2v⟩
    have hr2l:r2.length≤b.length+1:=by have h9:=uX (show val r2≤(u.getD i 0+1000000000*val r) by omega);rw[← can_eq hr2] at h9;omega
    refine jB<|jB<|kx [(109,(vb (decide (0≤(uP ((val r2:Nat):Int) ((val v:Nat):Int))))))] [] (zM<|zM<|zE (jZ (r_size r2 v hr2 hcv (by omega) (by omega)))<|zE oGe<|zZ) ?_
    refine jF rfl (fun h4=>?_) (fun h4=>?_)
    ·replace h4:=vI h4
     have hge:=bX h4
     have hG:=rquo_lt hr2v hW
     have hr2l:r2.length≤b.length+1:=by have h9:=uX (show val r2≤(u.getD i 0+1000000000*val r) by omega);rw[← can_eq hr2] at h9;omega
     refine jD<|jH<|jB<|kx [(10,(vl 140 1 jC (ofNat (val r2-val v))))] [] (zM<|zM<|zE (jZ (r_minus r2 v hr2.1 hvd (by omega) (by omega)))<|zM<|zZ) ?_
     refine kx [(13,(gC (G+1)))] [] (zM<|zE (vY (G+1))<|zM<|zZ) ?_
     exact ⟨(G+1,ofNat (val r2-val v)),wk,(by have hge:=bX h4;exact ⟨qB _,by rw[kA,Nat.mul_add,Nat.mul_one];omega⟩),(by have hge:=bX h4;dsimp only;rw[kA];omega)⟩
    ·replace h4:=vM h4
     have hG:=rquo_lt hr2v hW
     have hlt:val r2<val v:=by have h9:=cmpI_lt h4;omega
     refine kJ<|kx [] [(0,some (bm jC (q.set i G)))] (zM<|zM<|zM<|zE (mU hZ gR G)<|zE (aM kH i)<|zT (oSp qP i G)<|zZ) ?_
     refine kx [(12,(vi (((i:Nat):Int)-1)))] [] (zM<|zE (zSb (((i:Nat):Int)-1))<|zM<|zZ) ?_
     exact ⟨(i,r2,q.set i G),wk,⟨hr2,by omega,by simpa using hql,hqd.set _ hG,hlt,rround (by omega) (by rw[hr2v];exact hrs)⟩,(by first|omega|(dsimp only;omega))⟩
   ·replace h3:=vM h3
    obtain rfl:k=0:=by omega
    obtain ⟨e1,e2⟩:=scl_div (a:=a) (b:=b) (q:=q) (u:=r) hdb hb0 (by rw[List.drop_zero,List.drop_zero] at hv;rw[mY,Nat.one_mul,List.drop_zero,← huv,← hvv,hv];omega) (by rw[List.drop_zero,← hvv];exact hr)
    have hrl:r.length≤b.length:=by have h9:=uX (Nat.le_of_lt hr);rwa [← can_eq hrc,← can_eq hcv,hvl] at h9
    refine kJ<|jB<|kx [(14,(vl 140 1 jC (ofNat (val r / (dD b)))))] [] (zM<|zM<|zE (jZ (r_short r (dD b) hrc.1 (by omega) (by omega) (by omega)))<|zM<|zE vT<|zE vT<|zM<|zM<|zZ) ?_
    refine jB<|kW (vX (t:=11) (k:=0) (es:=List.map jC q) rfl rfl (uS _ _ (fun _=>rfl)) (uT _ _ hql) (vS _ _ (fun _=>rfl) hql)) ?_
    refine kx [(4,(vl 140 1 jC (ofNat (val q)))),(5,(vl 140 1 jC (ofNat (val r / (dD b)))))] [] (zM<|zE (jZ (nT false q hqd (by omega)))<|zE (oF1 aI xZ)<|zM<|zM<|zM<|zZ) ?_
    refine jE ⟨_,(.tmp (d:=(.sl 140 1 (List.map jC (ofNat (val q))))) rfl (.tmp (d:=(.sl 140 1 (List.map jC (ofNat (val r / (dD b)))))) rfl .nil)),?_⟩
    rw[← e1,← e2];rfl
theorem cb117:callB Tryz.prog 117=true:=by kernel_rfl
theorem cb118:callB Tryz.prog 118=true:=by kernel_rfl
theorem cb146:callB Tryz.prog 146=true:=by kernel_rfl
theorem r_gcd(x:kU)(y:kU)(hx:x.gs.length≤1099511627776)(hy:y.gs.length≤1099511627776):jQ Tryz.prog 118 [(jN x),(jN y)] (jN (kD ((Int.gcd (jX x) (jX y):Nat):Int))):=by
 have hvx:=dV x
 have hvy:=dV y
 refine jG Tryz.func118 rfl cb118 rfl ?_
 show qK _ _ _ _ ⟨[(0,(.d (jN x))),(1,(.d (jN y)))],[]⟩
 refine jB<|kx [(2,(.ref 0 0)),(3,(.ref 1 0)),(4,(.ref 2 0))] [(0,some (bx (jN x))),(1,some (bx (jN y))),(2,some (bx (jN (kU.mk false []))))] (zN (vN 0)<|zN (vN 1)<|zN (uB 2 yH yF)<|zZ) ?_
 refine jB<|kd [(5,(vl 140 1 jC (ofNat (Int.natAbs (jX x))))),(6,(vl 140 1 jC (ofNat (Int.natAbs (jX y)))))] [] mo (wR (kO jY)<|wE (jZ (dX x (by omega)))<|wE (oF1 aI xZ)<|wR (kO jY)<|wE (jZ (dX y (by omega)))<|wE (oF1 aI xZ)<|wM<|wM<|wZ) ?_
 refine jB<|jH<|kL (α:=List Nat × List Nat) (fun (a,b)=>⟨[(4,(.ref 2 0)),(5,(vl 140 1 jC a)),(6,(vl 140 1 jC b))],[(2,some (bx (jN (kU.mk false []))))]⟩) (fun (a,b)=>zW a∧zW b∧a.length≤1099511627776∧b.length≤1099511627776∧Nat.gcd (val a) (val b)=Int.gcd (jX x) (jX y)) (fun (a,b)=>val b) ((ofNat (Int.natAbs (jX x))),(ofNat (Int.natAbs (jX y)))) wk ⟨qB _,qB _,by omega,by omega,by rw[kA,kA];rfl⟩ ?_
 rintro ⟨a,b⟩ ⟨ha,hb,hla,hlb,hg⟩
 refine jB<|jB<|kx [(29,(vb (decide (0<((b.length:Nat):Int))&&(decide (2<((a.length:Nat):Int))||decide (2<((b.length:Nat):Int))))))] [] ?_ ?_
 ·refine zM<|zE (vC kH)<|zE mT<|zE (oV (vb (decide (0<((b.length:Nat):Int)))) (kV (by kernel_rfl)))<|?_
  rcases hb1:(decide (0<((b.length:Nat):Int))) with _ | _
  ·replace hb1:=vM hb1
   exact zK<|zK<|zK<|zK<|zK<|zK<|zK<|zK<|zE zG<|zZ
  ·replace hb1:=vI hb1
   refine zM<|zE (vC kH)<|zE mT<|zE (oV (vb (decide (2<((a.length:Nat):Int)))) (kV (by kernel_rfl)))<|?_
   rcases hb2:(decide (2<((a.length:Nat):Int))) with _ | _
   ·replace hb2:=vM hb2
    exact zM<|zE (vC kH)<|zE mT<|zE cL<|zE fM<|zZ
   ·replace hb2:=vI hb2
    exact zK<|zK<|zK<|zE xS<|zE xS<|zZ
 refine jF rfl (fun h3=>?_) (fun h3=>?_)
 ·have hbl:0<b.length:=by rw[Bool.and_eq_true,decide_eq_true_eq] at h3;omega
  have hb0:=cH hb hbl
  refine jD<|jH<|jB<|kx [(8,(vl 140 1 jC (ofNat (val a % val b))))] [] (zM<|zM<|zE (jZ (r_parts a b ha hb (by omega) (by omega) (by omega)))<|zM<|zE vT<|zE vT<|zM<|zM<|zZ) ?_
  refine kx [(5,(vl 140 1 jC b)),(6,(vl 140 1 jC (ofNat (val a % val b))))] [] (zM<|zM<|zM<|zM<|zZ) ?_
  exact ⟨(b,ofNat (val a % val b)),wk,⟨hb,qB _,hlb,Nat.le_trans (len_rem a ha _) hla,by rw[kA,← hg,Nat.gcd_comm,← Nat.gcd_rec,Nat.gcd_comm]⟩,(by dsimp only;rw[kA];exact Nat.mod_lt _ hb0)⟩
 ·have hex:=h3
  refine kJ<|jB<|jB<|kx [(40,(vb (((b.length:Nat):Int) == 0)))] [] (zM<|zE (vC kH)<|zE yQ<|zZ) ?_
  refine jF (b:=(((b.length:Nat):Int) == 0)) rfl (fun h4=>?_) (fun h4=>?_)
  ·replace h4:=eq_of_beq h4
   have hb1:b=[]:=List.eq_nil_of_length_eq_zero (by omega)
   rw[hb1,val_nil,Nat.gcd_zero_right] at hg
   refine jB<|kx [] [(2,some (bx (jN (xB false (val a)))))] (zM<|zE (jZ (nT false a ha.1 (by omega)))<|zT (qD jY)<|zZ) ?_
   refine jE ⟨_,(kP (cs:=(bx (jN (xB false (val a))))) (d:=(jN (xB false (val a)))) rfl rfl jY rfl rfl .nil),?_⟩
   rw[← hg,mkI_false];rfl
  ·replace h4:=ne_of_beq_false h4
   have hl2:a.length≤2∧b.length≤2:=by simp only[Bool.and_eq_false_iff,Bool.or_eq_false_iff,decide_eq_false_iff_not] at hex;omega
   refine jD<|jB<|kx [(9,(gC (val a))),(10,(gC (val b)))] [] (zM<|zE (jZ (r_pair a ha.1 (by omega)))<|zM<|zE (jZ (r_pair b hb.1 (by omega)))<|zM<|zM<|zZ) ?_
   refine jB<|jH<|kL (α:=Nat × Nat) (fun (m,n)=>⟨[(4,(.ref 2 0)),(9,(gC m)),(10,(gC n))],[(2,some (bx (jN (kU.mk false []))))]⟩) (fun (m,n)=>m<1000000000000000000∧n<1000000000000000000∧Nat.gcd m n=Int.gcd (jX x) (jX y)) (fun (m,n)=>n) (val a,val b) wk ⟨val_len2 ha.1 hl2.1,val_len2 hb.1 hl2.2,hg⟩ ?_
   rintro ⟨m,n⟩ ⟨hm,hn,hg2⟩
   refine jB<|jB<|kx [(48,(vb (decide (0<((n:Nat):Int)))))] [] (zM<|zE mT<|zZ) ?_
   refine jF (b:=decide (0<((n:Nat):Int))) rfl (fun h5=>?_) (fun h5=>?_)
   ·replace h5:=vI h5
    refine jD<|jH<|kd [(9,(gC n)),(10,(gC (m % n)))] [] mo (wM<|wM<|wM<|wE (oRe (m % n))<|wM<|wM<|wZ) ?_
    exact ⟨(n,m % n),wk,⟨hn,Nat.lt_of_le_of_lt (Nat.mod_le _ _) hm,by rw[← hg2,Nat.gcd_comm,← Nat.gcd_rec,Nat.gcd_comm]⟩,(by dsimp only;exact Nat.mod_lt _ (by omega))⟩
   ·replace h5:=vM h5
    obtain rfl:n=0:=by omega
    rw[Nat.gcd_zero_right] at hg2
    have hmv:val [m % 1000000000,m / 1000000000]=m:=by simp only[val];omega
    refine kJ<|jB<|kx [] [(2,some (bx (jN (xB false (val [(m % 1000000000),(m / 1000000000)])))))] (zM<|zE (oRe (m % 1000000000))<|zE (mU hZ gR (m % 1000000000))<|zM<|zE (oQu (m / 1000000000))<|zE (mU hZ gR (m / 1000000000))<|zE (dG kH vG yB)<|zE (jZ (nT false [(m % 1000000000),(m / 1000000000)] (yS.2 ⟨Nat.mod_lt _ (by decide),yS.2 ⟨by omega,gS⟩⟩) (by simp)))<|zT (qD jY)<|zZ) ?_
    refine jE ⟨_,(kP (cs:=(bx (jN (xB false (val [(m % 1000000000),(m / 1000000000)]))))) (d:=(jN (xB false (val [(m % 1000000000),(m / 1000000000)])))) rfl rfl jY rfl rfl .nil),?_⟩
    rw[← hg2,hmv,mkI_false];rfl
theorem r_compare(x:kU)(y:kU)(hx:x.gs.length≤274877906944)(hy:y.gs.length≤274877906944):jQ Tryz.prog 117 [(jN x),(jN y)] (.val (.int .i64 ((uP (jX x) (jX y))))):=by
 have hv:=gs_sub x y
 refine jG Tryz.func117 rfl cb117 rfl ?_
 show qK _ _ _ _ ⟨[(0,(.d (jN x))),(1,(.d (jN y)))],[]⟩
 refine jB<|kx [(2,(.ref 0 0)),(3,(.ref 1 0))] [(0,some (bx (jN x))),(1,some (bx (jN y)))] (zN (vN 0)<|zN (vN 1)<|zM<|zZ) ?_
 refine jB<|kx [(4,(vi (qY (jX (kD (jX x-jX y))))))] [] (zR (kO jY)<|zR (kO jY)<|zE (jZ (r_sub x y (by omega) (by omega)))<|zE (jZ (r_sign (kD (jX x-jX y)) (by omega)))<|zM<|zZ) ?_
 refine jE ⟨_,(.tmp (d:=(.val (.int .i64 ((qY (jX (kD (jX x-jX y)))))))) rfl .nil),?_⟩
 rw[cW,signI_sub];rfl
theorem r_divide(x:kU)(y:kU)(hx:x.gs.length≤274877906944)(hy:y.gs.length≤274877906944)(hy0:jX y≠0):jQ Tryz.prog 146 [(jN x),(jN y)] (.tup [(jN (kD ((jX x).fdiv (jX y)))),(jN (kD ((jX x).fmod (jX y)))),(.val (.int .i64 (0)))]):=by
 have hvx:=dV x
 have hvy:=dV y
 have hmx:=gs_val x
 have hmy:=gs_val y
 have hy1:0<(jX y).natAbs:=by omega
 have hyl:=dU hy1
 have hql:(ofNat (val (ofNat (Int.natAbs (jX x))) / val (ofNat (Int.natAbs (jX y))))).length≤274877906944:=by have:=len_quo (ofNat (Int.natAbs (jX x))) (qB _) (val (ofNat (Int.natAbs (jX y))));omega
 have hqg:(xB (!((kD (jX x)).neg == (kD (jX y)).neg)) (val (ofNat (val (ofNat (Int.natAbs (jX x))) / val (ofNat (Int.natAbs (jX y))))))).gs.length≤274877906944:=by show (ofNat (val (ofNat (val (ofNat (Int.natAbs (jX x))) / val (ofNat (Int.natAbs (jX y))))))).length≤_;rw[kA];exact hql
 have fQ:(kD 1).gs.length≤1:=(aY (z:=1) (by decide)).l
 have hqs:=gs_sub (xB (!((kD (jX x)).neg == (kD (jX y)).neg)) (val (ofNat (val (ofNat (Int.natAbs (jX x))) / val (ofNat (Int.natAbs (jX y))))))) (kD 1)
 refine jG Tryz.func146 rfl cb146 rfl ?_
 show qK _ _ _ _ ⟨[(0,(.d (jN x))),(1,(.d (jN y)))],[]⟩
 refine jB<|kx [(2,(.ref 0 0)),(3,(.ref 1 0)),(4,(.ref 2 0)),(5,(.ref 3 0))] [(0,some (bx (jN x))),(1,some (bx (jN y))),(2,some (bx (jN (kU.mk false [])))),(3,some (bx (jN (kU.mk false []))))] (zN (vN 0)<|zN (vN 1)<|zN (uB 2 yH yF)<|zN (uB 3 yH yF)<|zM<|zZ) ?_
 refine jB<|kd [] [(0,some (bx (jN (kD (jX x))))),(1,some (bx (jN (kD (jX y)))))] mo (wR (kO jY)<|wE (jZ (dX x (by omega)))<|wR (kO jY)<|wE (jZ (dX y (by omega)))<|wT (qD jY)<|wT (qD jY)<|wZ) ?_
 refine jB<|jB<|kx [(17,(vb ((((ofNat (Int.natAbs (jX y))).length:Nat):Int) == 0)))] [] (zE (kZ vL)<|zR (qS xZ)<|zE (vC kH (L:=(ofNat (Int.natAbs (jX y)))))<|zE yQ<|zZ) ?_
 refine jF rfl (fun h1=>?_) (fun h1=>?_)
 ·replace h1:=eq_of_beq h1
  exact absurd h1 (by omega)
 ·replace h1:=ne_of_beq_false h1
  refine jD<|jB<|kx [(7,(vl 140 1 jC (ofNat (val (ofNat (Int.natAbs (jX x))) / val (ofNat (Int.natAbs (jX y))))))),(8,(vl 140 1 jC (ofNat (val (ofNat (Int.natAbs (jX x))) % val (ofNat (Int.natAbs (jX y)))))))] [] (zE (kZ vL)<|zR (qS xZ)<|zE (kZ vL)<|zR (qS xZ)<|zE (jZ (r_parts (ofNat (Int.natAbs (jX x))) (ofNat (Int.natAbs (jX y))) (by first | assumption | exact qB _ | exact qI _) (by first | assumption | exact qB _ | exact qI _) (by omega) (by omega) (by omega)))<|zM<|zE vT<|zE vT<|zM<|zM<|zZ) ?_
  refine jB<|kx [(9,(.ref 4 0))] [(4,some (bx (jN (xB (!(((kD (jX x)).neg) == ((kD (jX y)).neg))) (val (ofNat (val (ofNat (Int.natAbs (jX x))) / val (ofNat (Int.natAbs (jX y))))))))))] (zE (kZ vD)<|zR (qS aP)<|zE (kZ vD)<|zR (qS aP)<|zE (oNb bo4)<|zM<|zE (jZ (nT (!(((kD (jX x)).neg) == ((kD (jX y)).neg))) (ofNat (val (ofNat (Int.natAbs (jX x))) / val (ofNat (Int.natAbs (jX y))))) (kG _) (by omega)))<|zN (uB 4 yH yF)<|zT (qD jY)<|zZ) ?_
  refine jB<|jB<|kx [(44,(vb (!(((kD (jX x)).neg) == ((kD (jX y)).neg))&&decide (0<(((ofNat (val (ofNat (Int.natAbs (jX x))) % val (ofNat (Int.natAbs (jX y))))).length:Nat):Int)))))] [] ?_ ?_
  ·refine zE (kZ vD)<|zR (qS aP)<|zE (kZ vD)<|zR (qS aP)<|zE (oNb bo4)<|zE (oV (vb (!(((kD (jX x)).neg) == ((kD (jX y)).neg)))) (kV (by kernel_rfl)))<|?_
   rcases hb2:(!(((kD (jX x)).neg) == ((kD (jX y)).neg))) with _ | _
   ·exact zK<|zK<|zK<|zE zG<|zZ
   ·exact zM<|zE (vC kH (L:=(ofNat (val (ofNat (Int.natAbs (jX x))) % val (ofNat (Int.natAbs (jX y)))))))<|zE mT<|zE fM<|zZ
  refine jF rfl (fun h3=>?_) (fun h3=>?_)
  ·have hqm:=gs_mul (kD (jX (xB (!((kD (jX x)).neg == (kD (jX y)).neg)) (val (ofNat (val (ofNat (Int.natAbs (jX x))) / val (ofNat (Int.natAbs (jX y)))))))-jX (kD 1))) (kD (jX y))
   have hk:=r_div_other (X:=jX x) (Y:=jX y) hy1 (by rw[Bool.and_eq_true,Bool.not_eq_true',beq_eq_false_iff_ne,decide_eq_true_eq] at h3;exact h3)
   refine kd [] [(4,some (bx (jN (kD (jX (xB (!(((kD (jX x)).neg) == ((kD (jX y)).neg))) (val (ofNat (val (ofNat (Int.natAbs (jX x))) / val (ofNat (Int.natAbs (jX y)))))))-jX (kD 1))))))] mo (wR (kO jY)<|wE (jZ (r_of 1 (by omega) (by omega)))<|wE (jZ (r_sub (xB (!(((kD (jX x)).neg) == ((kD (jX y)).neg))) (val (ofNat (val (ofNat (Int.natAbs (jX x))) / val (ofNat (Int.natAbs (jX y))))))) (kD 1) (by omega) (by omega)))<|wT (qD jY)<|wZ) ?_
   refine jB<|kd [(6,(jV 0))] [(2,some (bx (jN (kD (jX (xB (!(((kD (jX x)).neg) == ((kD (jX y)).neg))) (val (ofNat (val (ofNat (Int.natAbs (jX x))) / val (ofNat (Int.natAbs (jX y)))))))-jX (kD 1)))))),(3,some (bx (jN (kD (jX (kD (jX x))-jX (kD (jX (kD (jX (xB (!(((kD (jX x)).neg) == ((kD (jX y)).neg))) (val (ofNat (val (ofNat (Int.natAbs (jX x))) / val (ofNat (Int.natAbs (jX y)))))))-jX (kD 1)))*jX (kD (jX y)))))))))] mo (wR (kO jY)<|wR (kO jY)<|wR (kO jY)<|wR (kO jY)<|wE (jZ (r_mul (kD (jX (xB (!(((kD (jX x)).neg) == ((kD (jX y)).neg))) (val (ofNat (val (ofNat (Int.natAbs (jX x))) / val (ofNat (Int.natAbs (jX y)))))))-jX (kD 1))) (kD (jX y)) (by omega) (by omega)))<|wE (jZ (r_sub (kD (jX x)) (kD (jX (kD (jX (xB (!(((kD (jX x)).neg) == ((kD (jX y)).neg))) (val (ofNat (val (ofNat (Int.natAbs (jX x))) / val (ofNat (Int.natAbs (jX y)))))))-jX (kD 1)))*jX (kD (jX y)))) (by omega) (by omega)))<|wT (qD jY)<|wT (qD jY)<|wM<|wZ) ?_
   refine jE ⟨_,(kP (cs:=(bx (jN (kD (jX (xB (!(((kD (jX x)).neg) == ((kD (jX y)).neg))) (val (ofNat (val (ofNat (Int.natAbs (jX x))) / val (ofNat (Int.natAbs (jX y)))))))-jX (kD 1)))))) (d:=(jN (kD (jX (xB (!(((kD (jX x)).neg) == ((kD (jX y)).neg))) (val (ofNat (val (ofNat (Int.natAbs (jX x))) / val (ofNat (Int.natAbs (jX y)))))))-jX (kD 1))))) rfl rfl jY rfl rfl (kP (cs:=(bx (jN (kD (jX (kD (jX x))-jX (kD (jX (kD (jX (xB (!(((kD (jX x)).neg) == ((kD (jX y)).neg))) (val (ofNat (val (ofNat (Int.natAbs (jX x))) / val (ofNat (Int.natAbs (jX y)))))))-jX (kD 1)))*jX (kD (jX y))))))))) (d:=(jN (kD (jX (kD (jX x))-jX (kD (jX (kD (jX (xB (!(((kD (jX x)).neg) == ((kD (jX y)).neg))) (val (ofNat (val (ofNat (Int.natAbs (jX x))) / val (ofNat (Int.natAbs (jX y)))))))-jX (kD 1)))*jX (kD (jX y)))))))) rfl rfl jY rfl rfl (.tmp (d:=(.val (.int .i64 (0)))) rfl .nil))),?_⟩
   rw[hk,r_rem_eq];rfl
  ·have hqm:=gs_mul (xB (!((kD (jX x)).neg == (kD (jX y)).neg)) (val (ofNat (val (ofNat (Int.natAbs (jX x))) / val (ofNat (Int.natAbs (jX y))))))) (kD (jX y))
   have hk:=r_div_same (X:=jX x) (Y:=jX y) hy1 (by rw[Bool.and_eq_false_iff,Bool.not_eq_false',beq_iff_eq,decide_eq_false_iff_not] at h3;exact h3)
   refine jD<|jB<|kd [(6,(jV 0))] [(2,some (bx (jN (xB (!(((kD (jX x)).neg) == ((kD (jX y)).neg))) (val (ofNat (val (ofNat (Int.natAbs (jX x))) / val (ofNat (Int.natAbs (jX y)))))))))),(3,some (bx (jN (kD (jX (kD (jX x))-jX (kD (jX (xB (!(((kD (jX x)).neg) == ((kD (jX y)).neg))) (val (ofNat (val (ofNat (Int.natAbs (jX x))) / val (ofNat (Int.natAbs (jX y)))))))*jX (kD (jX y)))))))))] mo (wR (kO jY)<|wR (kO jY)<|wR (kO jY)<|wR (kO jY)<|wE (jZ (r_mul (xB (!(((kD (jX x)).neg) == ((kD (jX y)).neg))) (val (ofNat (val (ofNat (Int.natAbs (jX x))) / val (ofNat (Int.natAbs (jX y))))))) (kD (jX y)) (by omega) (by omega)))<|wE (jZ (r_sub (kD (jX x)) (kD (jX (xB (!(((kD (jX x)).neg) == ((kD (jX y)).neg))) (val (ofNat (val (ofNat (Int.natAbs (jX x))) / val (ofNat (Int.natAbs (jX y)))))))*jX (kD (jX y)))) (by omega) (by omega)))<|wT (qD jY)<|wT (qD jY)<|wM<|wZ) ?_
   refine jE ⟨_,(kP (cs:=(bx (jN (xB (!(((kD (jX x)).neg) == ((kD (jX y)).neg))) (val (ofNat (val (ofNat (Int.natAbs (jX x))) / val (ofNat (Int.natAbs (jX y)))))))))) (d:=(jN (xB (!(((kD (jX x)).neg) == ((kD (jX y)).neg))) (val (ofNat (val (ofNat (Int.natAbs (jX x))) / val (ofNat (Int.natAbs (jX y))))))))) rfl rfl jY rfl rfl (kP (cs:=(bx (jN (kD (jX (kD (jX x))-jX (kD (jX (xB (!(((kD (jX x)).neg) == ((kD (jX y)).neg))) (val (ofNat (val (ofNat (Int.natAbs (jX x))) / val (ofNat (Int.natAbs (jX y)))))))*jX (kD (jX y))))))))) (d:=(jN (kD (jX (kD (jX x))-jX (kD (jX (xB (!(((kD (jX x)).neg) == ((kD (jX y)).neg))) (val (ofNat (val (ofNat (Int.natAbs (jX x))) / val (ofNat (Int.natAbs (jX y)))))))*jX (kD (jX y)))))))) rfl rfl jY rfl rfl (.tmp (d:=(.val (.int .i64 (0)))) rfl .nil))),?_⟩
   rw[hk,r_rem_eq];rfl
end Go.Proofs.YtnajallgoaiahaaGreatDoor
