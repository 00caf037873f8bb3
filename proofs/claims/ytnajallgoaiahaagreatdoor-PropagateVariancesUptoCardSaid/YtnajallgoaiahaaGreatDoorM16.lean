/- Part 16 of a proof: rules, plain facts, and functions walked. -/
import Derived.Test.YtnajallgoaiahaaGreatDoorM15
set_option linter.all false
set_option maxRecDepth 4000
namespace Go.Proofs.YtnajallgoaiahaaGreatDoor
open Go.Fid
theorem cb83:callB Tryz.prog 83=true:=by kernel_rfl
theorem cb87:callB Tryz.prog 87=true:=by kernel_rfl
theorem cb96:callB Tryz.prog 96=true:=by kernel_rfl
theorem cb145:callB Tryz.prog 145=true:=by kernel_rfl
theorem cb175:callB Tryz.prog 175=true:=by kernel_rfl
theorem cb176:callB Tryz.prog 176=true:=by kernel_rfl
theorem cb177:callB Tryz.prog 177=true:=by kernel_rfl
theorem cb240:callB Tryz.prog 240=true:=by kernel_rfl
theorem r_neg(x:qB)(hx:x.gs.length≤1099511627776):jR Tryz.prog 145 [(jT x)] (jT (kN (-kG x))):=by
 have hvx:=eN x
 refine jJ Tryz.func145 rfl cb145 rfl ?_
 show qG _ _ _ _ ⟨[(0,(.d (jT x)))],[]⟩
 refine jB<|kx [(1,(.ref 0 0)),(2,(.ref 1 0))] [(0,some (bx (jT x))),(1,some (bx (jT (qB.mk false []))))] (zN (vA 0)<|zN (qV 1 gD gB)<|zZ) ?_
 refine jB<|kx [] [(0,some (bx (jT (kN (kG x)))))] (zR (kK kF)<|zE (jY (eQ x (by omega)))<|zT (qA kF)<|zZ) ?_
 refine jB<|kx [] [(1,some (bx (jT (xQ (!((kN (kG x)).neg)) (val (ofNat (Int.natAbs (kG x))))))))] (zE (kY vL)<|zR (uM aX)<|zE mD<|zE (kY vS)<|zR (uM yB)<|zE (jY (mF (!((kN (kG x)).neg)) (ofNat (Int.natAbs (kG x))) (by first | assumption | exact kP _ | exact (qK _).1 | exact (qQ _).1) (by omega)))<|zT (qA kF)<|zZ) ?_
 refine jE ⟨_,(kH (cs:=(bx (jT (xQ (!((kN (kG x)).neg)) (val (ofNat (Int.natAbs (kG x)))))))) (d:=(jT (xQ (!((kN (kG x)).neg)) (val (ofNat (Int.natAbs (kG x))))))) rfl rfl kF rfl rfl .nil),?_⟩
 rw[← rneg_eq];rfl
theorem r_sign(x:qB)(hx:x.gs.length≤1099511627776):jR Tryz.prog 83 [(jT x)] (.val (.int .i64 ((uG (kG x))))):=by
 have hvx:=eN x
 refine jJ Tryz.func83 rfl cb83 rfl ?_
 show qG _ _ _ _ ⟨[(0,(.d (jT x)))],[]⟩
 refine jB<|kx [(1,(.ref 0 0))] [(0,some (bx (jT x)))] (zN (vA 0)<|zM<|zZ) ?_
 refine jB<|kx [] [(0,some (bx (jT (kN (kG x)))))] (zR (kK kF)<|zE (jY (eQ x (by omega)))<|zT (qA kF)<|zZ) ?_
 refine jB<|jB<|kx [(8,(vb ((((ofNat (Int.natAbs (kG x))).length:Nat):Int) == 0)))] [] (zE (kY vS)<|zR (uM yB)<|zE (uW kO (L:=(ofNat (Int.natAbs (kG x)))))<|zE xR<|zZ) ?_
 refine jG rfl (fun h1=>?_) (fun h1=>?_)
 ·replace h1:=eq_of_beq h1
  refine jB<|kx [(2,(jP 0))] [] (zM<|zZ) ?_
  refine jE ⟨_,(.tmp (d:=(.val (.int .i64 (0)))) rfl .nil),?_⟩
  rw[rsign_zero h1];rfl
 ·replace h1:=ne_of_beq_false h1
  refine jD<|jB<|jB<|kx [(10,(vb ((kN (kG x)).neg)))] [] (zE (kY vL)<|zR (uM aX)<|zZ) ?_
  refine jG (b:=(kN (kG x)).neg) rfl (fun h2=>?_) (fun h2=>?_)
  ·refine jB<|kx [(2,(vi (-1)))] [] (zM<|zZ) ?_
   refine jE ⟨_,(.tmp (d:=(.val (.int .i64 (-1)))) rfl .nil),?_⟩
   rw[rsign_neg h1 h2];rfl
  ·refine jD<|jB<|kx [(2,(jP 1))] [] (zM<|zZ) ?_
   refine jE ⟨_,(.tmp (d:=(.val (.int .i64 (1)))) rfl .nil),?_⟩
   rw[rsign_pos h1 h2];rfl
theorem r_add(x:qB)(y:qB)(hx:x.gs.length≤1099511627776)(hy:y.gs.length≤1099511627776):jR Tryz.prog 96 [(jT x),(jT y)] (jT (kN (kG x+kG y))):=by
 have hvx:=eN x
 have hvy:=eN y
 refine jJ Tryz.func96 rfl cb96 rfl ?_
 show qG _ _ _ _ ⟨[(0,(.d (jT x))),(1,(.d (jT y)))],[]⟩
 refine jB<|kx [(2,(.ref 0 0)),(3,(.ref 1 0)),(4,(.ref 2 0))] [(0,some (bx (jT x))),(1,some (bx (jT y))),(2,some (bx (jT (qB.mk false []))))] (zN (vA 0)<|zN (vA 1)<|zN (qV 2 gD gB)<|zZ) ?_
 refine jB<|kd [] [(0,some (bx (jT (kN (kG x))))),(1,some (bx (jT (kN (kG y)))))] mo (wR (kK kF)<|wE (jY (eQ x (by omega)))<|wR (kK kF)<|wE (jY (eQ y (by omega)))<|wT (qA kF)<|wT (qA kF)<|wZ) ?_
 refine jB<|jB<|kx [(13,(vb (((kN (kG x)).neg) == ((kN (kG y)).neg))))] [] (zE (kY vL)<|zR (uM aX)<|zE (kY vL)<|zR (uM aX)<|zE (oEb bo4)<|zZ) ?_
 refine jG rfl (fun h1=>?_) (fun h1=>?_)
 ·replace h1:=eq_of_beq h1
  refine jB<|kd [] [(2,some (bx (jT (xQ ((kN (kG x)).neg) (val (ofNat (val (ofNat (Int.natAbs (kG x)))+val (ofNat (Int.natAbs (kG y))))))))))] mo (wE (kY vL)<|wR (uM aX)<|wE (kY vS)<|wR (uM yB)<|wE (kY vS)<|wR (uM yB)<|wE (jY (r_plus (ofNat (Int.natAbs (kG x))) (ofNat (Int.natAbs (kG y))) (by first | assumption | exact kP _ | exact (qK _).1 | exact (qQ _).1) (by first | assumption | exact kP _ | exact (qK _).1 | exact (qQ _).1) (by omega) (by omega)))<|wE (jY (mF ((kN (kG x)).neg) (ofNat (val (ofNat (Int.natAbs (kG x)))+val (ofNat (Int.natAbs (kG y))))) (by first | assumption | exact kP _ | exact (qK _).1 | exact (qQ _).1) (by first | omega | exact Nat.le_trans (add_len (kP _) (kP _)) (by omega) | exact Nat.le_trans (sub_len (kP _)) (by omega))))<|wT (qA kF)<|wZ) ?_
  refine jE ⟨_,(kH (cs:=(bx (jT (xQ ((kN (kG x)).neg) (val (ofNat (val (ofNat (Int.natAbs (kG x)))+val (ofNat (Int.natAbs (kG y)))))))))) (d:=(jT (xQ ((kN (kG x)).neg) (val (ofNat (val (ofNat (Int.natAbs (kG x)))+val (ofNat (Int.natAbs (kG y))))))))) rfl rfl kF rfl rfl .nil),?_⟩
  rw[← rsum_same h1];rfl
 ·replace h1:=ne_of_beq_false h1
  refine jD<|jB<|jB<|kx [(27,(vb (decide (0≤(vF ((val (ofNat (Int.natAbs (kG x))):Nat):Int) ((val (ofNat (Int.natAbs (kG y))):Nat):Int))))))] [] (zE (kY vS)<|zR (uM yB)<|zE (kY vS)<|zR (uM yB)<|zE (jY (r_size (ofNat (Int.natAbs (kG x))) (ofNat (Int.natAbs (kG y))) (by first | assumption | exact qK _ | exact qQ _) (by first | assumption | exact qK _ | exact qQ _) (by omega) (by omega)))<|zE oGe<|zZ) ?_
  refine jG rfl (fun h2=>?_) (fun h2=>?_)
  ·replace h2:=uP h2
   refine jB<|kd [] [(2,some (bx (jT (xQ ((kN (kG x)).neg) (val (ofNat (val (ofNat (Int.natAbs (kG x)))-val (ofNat (Int.natAbs (kG y))))))))))] mo (wE (kY vL)<|wR (uM aX)<|wE (kY vS)<|wR (uM yB)<|wE (kY vS)<|wR (uM yB)<|wE (jY (r_minus (ofNat (Int.natAbs (kG x))) (ofNat (Int.natAbs (kG y))) (by first | assumption | exact kP _ | exact (qK _).1 | exact (qQ _).1) (by first | assumption | exact kP _ | exact (qK _).1 | exact (qQ _).1) (by have:=iU h2;omega) (by omega)))<|wE (jY (mF ((kN (kG x)).neg) (ofNat (val (ofNat (Int.natAbs (kG x)))-val (ofNat (Int.natAbs (kG y))))) (by first | assumption | exact kP _ | exact (qK _).1 | exact (qQ _).1) (by first | omega | exact Nat.le_trans (add_len (kP _) (kP _)) (by omega) | exact Nat.le_trans (sub_len (kP _)) (by omega))))<|wT (qA kF)<|wZ) ?_
   refine jE ⟨_,(kH (cs:=(bx (jT (xQ ((kN (kG x)).neg) (val (ofNat (val (ofNat (Int.natAbs (kG x)))-val (ofNat (Int.natAbs (kG y)))))))))) (d:=(jT (xQ ((kN (kG x)).neg) (val (ofNat (val (ofNat (Int.natAbs (kG x)))-val (ofNat (Int.natAbs (kG y))))))))) rfl rfl kF rfl rfl .nil),?_⟩
   rw[← rsum_first h1 (by have:=iU h2;omega)];rfl
  ·replace h2:=uR h2
   refine jD<|jB<|kd [] [(2,some (bx (jT (xQ ((kN (kG y)).neg) (val (ofNat (val (ofNat (Int.natAbs (kG y)))-val (ofNat (Int.natAbs (kG x))))))))))] mo (wE (kY vL)<|wR (uM aX)<|wE (kY vS)<|wR (uM yB)<|wE (kY vS)<|wR (uM yB)<|wE (jY (r_minus (ofNat (Int.natAbs (kG y))) (ofNat (Int.natAbs (kG x))) (by first | assumption | exact kP _ | exact (qK _).1 | exact (qQ _).1) (by first | assumption | exact kP _ | exact (qK _).1 | exact (qQ _).1) (by have:=cmpI_lt h2;omega) (by omega)))<|wE (jY (mF ((kN (kG y)).neg) (ofNat (val (ofNat (Int.natAbs (kG y)))-val (ofNat (Int.natAbs (kG x))))) (by first | assumption | exact kP _ | exact (qK _).1 | exact (qQ _).1) (by first | omega | exact Nat.le_trans (add_len (kP _) (kP _)) (by omega) | exact Nat.le_trans (sub_len (kP _)) (by omega))))<|wT (qA kF)<|wZ) ?_
   refine jE ⟨_,(kH (cs:=(bx (jT (xQ ((kN (kG y)).neg) (val (ofNat (val (ofNat (Int.natAbs (kG y)))-val (ofNat (Int.natAbs (kG x)))))))))) (d:=(jT (xQ ((kN (kG y)).neg) (val (ofNat (val (ofNat (Int.natAbs (kG y)))-val (ofNat (Int.natAbs (kG x))))))))) rfl rfl kF rfl rfl .nil),?_⟩
   rw[← rsum_second h1 (by have:=cmpI_lt h2;omega)];rfl
theorem r_sub(x:qB)(y:qB)(hx:x.gs.length≤1099511627776)(hy:y.gs.length≤1099511627776):jR Tryz.prog 175 [(jT x),(jT y)] (jT (kN (kG x-kG y))):=by
 have hv:=gs_neg y
 refine jJ Tryz.func175 rfl cb175 rfl ?_
 show qG _ _ _ _ ⟨[(0,(.d (jT x))),(1,(.d (jT y)))],[]⟩
 refine jB<|kx [(2,(.ref 0 0)),(3,(.ref 1 0)),(4,(.ref 2 0))] [(0,some (bx (jT x))),(1,some (bx (jT y))),(2,some (bx (jT (qB.mk false []))))] (zN (vA 0)<|zN (vA 1)<|zN (qV 2 gD gB)<|zZ) ?_
 refine jB<|kd [] [(2,some (bx (jT (kN (kG x+kG (kN (-kG y)))))))] mo (wR (kK kF)<|wR (kK kF)<|wE (jY (r_neg y (by omega)))<|wE (jY (r_add x (kN (-kG y)) (by omega) (by omega)))<|wT (qA kF)<|wZ) ?_
 refine jE ⟨_,(kH (cs:=(bx (jT (kN (kG x+kG (kN (-kG y))))))) (d:=(jT (kN (kG x+kG (kN (-kG y)))))) rfl rfl kF rfl rfl .nil),?_⟩
 rw[dX,← Int.sub_eq_add_neg];rfl
theorem r_mul(x:qB)(y:qB)(hx:x.gs.length≤1099511627776)(hy:y.gs.length≤1099511627776):jR Tryz.prog 87 [(jT x),(jT y)] (jT (kN (kG x*kG y))):=by
 have hvx:=eN x
 have hvy:=eN y
 have hda:=kP (Int.natAbs (kG x))
 have hdb:=kP (Int.natAbs (kG y))
 refine jJ Tryz.func87 rfl cb87 rfl ?_
 show qG _ _ _ _ ⟨[(0,(.d (jT x))),(1,(.d (jT y)))],[]⟩
 refine jB<|kx [(2,(.ref 0 0)),(3,(.ref 1 0)),(4,(.ref 2 0))] [(0,some (bx (jT x))),(1,some (bx (jT y))),(2,some (bx (jT (qB.mk false []))))] (zN (vA 0)<|zN (vA 1)<|zN (qV 2 gD gB)<|zZ) ?_
 refine jB<|kd [] [(0,some (bx (jT (kN (kG x))))),(1,some (bx (jT (kN (kG y)))))] mo (wR (kK kF)<|wE (jY (eQ x (by omega)))<|wR (kK kF)<|wE (jY (eQ y (by omega)))<|wT (qA kF)<|wT (qA kF)<|wZ) ?_
 refine jB<|kx [(5,(.own 3 140 1 ((ofNat (Int.natAbs (kG x))).length+(ofNat (Int.natAbs (kG y))).length)))] [(3,some (bm jC (List.replicate ((ofNat (Int.natAbs (kG x))).length+(ofNat (Int.natAbs (kG y))).length) 0)))] (zE (kY vS)<|zR (uM yB)<|zE (uW kO (L:=(ofNat (Int.natAbs (kG x)))))<|zE (kY vS)<|zR (uM yB)<|zE (uW kO (L:=(ofNat (Int.natAbs (kG y)))))<|zE (vC ((ofNat (Int.natAbs (kG x))).length+(ofNat (Int.natAbs (kG y))).length))<|zN (oMk 3 jC (0:Nat) ((ofNat (Int.natAbs (kG x))).length+(ofNat (Int.natAbs (kG y))).length) ((ofNat (Int.natAbs (kG x))).length+(ofNat (Int.natAbs (kG y))).length) kO xC yU mB)<|zM<|zZ) ?_
 refine jB<|jB<|kx [(6,(jP 0))] [] (zM<|zZ) ?_
 refine jH<|kA (α:=Nat × List Nat) (fun (i,out)=>⟨[(2,(.ref 0 0)),(3,(.ref 1 0)),(4,(.ref 2 0)),(5,(.own 3 140 1 ((ofNat (Int.natAbs (kG x))).length+(ofNat (Int.natAbs (kG y))).length))),(6,(jP i))],[(0,some (bx (jT (kN (kG x))))),(1,some (bx (jT (kN (kG y))))),(2,some (bx (jT (qB.mk false [])))),(3,some (bm jC out))]⟩) (fun (i,out)=>out.length=(ofNat (Int.natAbs (kG x))).length+(ofNat (Int.natAbs (kG y))).length∧Dig out∧i≤(ofNat (Int.natAbs (kG x))).length∧(∀ k,i+(ofNat (Int.natAbs (kG y))).length≤k→out.getD k 0=0)∧val out=val ((ofNat (Int.natAbs (kG x))).take i)*val (ofNat (Int.natAbs (kG y)))) (fun (i,out)=>(ofNat (Int.natAbs (kG x))).length-i) (0,List.replicate ((ofNat (Int.natAbs (kG x))).length+(ofNat (Int.natAbs (kG y))).length) 0) wk ⟨by simp,yI _,Nat.zero_le _,fun k _=>fT _ k,by simp [val,eL]⟩ ?_
 rintro ⟨i,out⟩ ⟨uA,hdo,hi,hz,hv⟩
 have hai:=hda.getD i
 refine jB<|jB<|kx [(26,(vb (decide (((i:Nat):Int)<(((ofNat (Int.natAbs (kG x))).length:Nat):Int)))))] [] (zM<|zE (kY vS)<|zR (uM yB)<|zE (uW kO (L:=(ofNat (Int.natAbs (kG x)))))<|zE xK<|zZ) ?_
 refine jG rfl (fun h1=>?_) (fun h1=>?_)
 ·replace h1:=uP h1
  refine jD<|jB<|jH<|jB<|kx [(7,(gU 0))] [] (zM<|zZ) ?_
  refine jB<|jB<|kx [(8,(jP 0))] [] (zM<|zZ) ?_
  refine jH<|kA (α:=Nat × List Nat × Nat) (fun (j,o2,c)=>⟨[(2,(.ref 0 0)),(3,(.ref 1 0)),(4,(.ref 2 0)),(5,(.own 3 140 1 ((ofNat (Int.natAbs (kG x))).length+(ofNat (Int.natAbs (kG y))).length))),(6,(jP i)),(7,(gU c)),(8,(jP j))],[(0,some (bx (jT (kN (kG x))))),(1,some (bx (jT (kN (kG y))))),(2,some (bx (jT (qB.mk false [])))),(3,some (bm jC o2))]⟩) (fun (j,o2,c)=>o2.length=(ofNat (Int.natAbs (kG x))).length+(ofNat (Int.natAbs (kG y))).length∧Dig o2∧j≤(ofNat (Int.natAbs (kG y))).length∧c<1000000000∧(∀ k,i+(ofNat (Int.natAbs (kG y))).length≤k→o2.getD k 0=0)∧val o2+pw (i+j)*c=val ((ofNat (Int.natAbs (kG x))).take i)*val (ofNat (Int.natAbs (kG y)))+pw i*((ofNat (Int.natAbs (kG x))).getD i 0*val ((ofNat (Int.natAbs (kG y))).take j))) (fun (j,o2,c)=>(ofNat (Int.natAbs (kG y))).length-j) (0,out,0) wk ⟨uA,hdo,Nat.zero_le _,by decide,hz,by simp [val,hv]⟩ ?_
  rintro ⟨j,o2,c⟩ ⟨hlen2,hdo2,hj,hc,hz2,hv2⟩
  have hbj:=hdb.getD j
  have hoj:=hdo2.getD (i+j)
  have hpq:(ofNat (Int.natAbs (kG x))).getD i 0*(ofNat (Int.natAbs (kG y))).getD j 0≤999999999*999999999:=Nat.mul_le_mul (by omega) (by omega)
  refine jB<|jB<|kx [(33,(vb (decide (((j:Nat):Int)<(((ofNat (Int.natAbs (kG y))).length:Nat):Int)))))] [] (zM<|zE (kY vS)<|zR (uM yB)<|zE (uW kO (L:=(ofNat (Int.natAbs (kG y)))))<|zE xK<|zZ) ?_
  refine jG rfl (fun h2=>?_) (fun h2=>?_)
  ·replace h2:=uP h2
   refine jD<|jB<|jH<|jB<|kd [(9,(gU (((o2.getD (i+j) 0)+(((ofNat (Int.natAbs (kG x))).getD i 0)*((ofNat (Int.natAbs (kG y))).getD j 0)))+c)))] [] mo (wM<|wM<|wM<|wE (vC (i+j))<|wE (aY kO (i+j))<|wR (oLp qX (i+j) (0:Nat))<|wE (cI gI gG (o2.getD (i+j) 0))<|wE (kY vS)<|wR (uM yB)<|wM<|wE (xX kO i (0:Nat) (L:=(ofNat (Int.natAbs (kG x)))))<|wE (xZ qX)<|wE (cI gI gG ((ofNat (Int.natAbs (kG x))).getD i 0))<|wE (kY vS)<|wR (uM yB)<|wM<|wE (xX kO j (0:Nat) (L:=(ofNat (Int.natAbs (kG y)))))<|wE (xZ qX)<|wE (cI gI gG ((ofNat (Int.natAbs (kG y))).getD j 0))<|wE (oMl (((ofNat (Int.natAbs (kG x))).getD i 0)*((ofNat (Int.natAbs (kG y))).getD j 0)))<|wE (vC ((o2.getD (i+j) 0)+(((ofNat (Int.natAbs (kG x))).getD i 0)*((ofNat (Int.natAbs (kG y))).getD j 0))))<|wM<|wE (vC (((o2.getD (i+j) 0)+(((ofNat (Int.natAbs (kG x))).getD i 0)*((ofNat (Int.natAbs (kG y))).getD j 0)))+c))<|wM<|wZ) ?_
   refine jB<|kx [] [(3,some (bm jC (o2.set (i+j) ((((o2.getD (i+j) 0)+(((ofNat (Int.natAbs (kG x))).getD i 0)*((ofNat (Int.natAbs (kG y))).getD j 0)))+c) % 1000000000))))] (zM<|zM<|zM<|zE (vC (i+j))<|zM<|zE (oRe ((((o2.getD (i+j) 0)+(((ofNat (Int.natAbs (kG x))).getD i 0)*((ofNat (Int.natAbs (kG y))).getD j 0)))+c) % 1000000000))<|zE (cI nR nE ((((o2.getD (i+j) 0)+(((ofNat (Int.natAbs (kG x))).getD i 0)*((ofNat (Int.natAbs (kG y))).getD j 0)))+c) % 1000000000))<|zE (aY kO (i+j))<|zT (oSp qX (i+j) ((((o2.getD (i+j) 0)+(((ofNat (Int.natAbs (kG x))).getD i 0)*((ofNat (Int.natAbs (kG y))).getD j 0)))+c) % 1000000000))<|zZ) ?_
   refine kx [(7,(gU ((((o2.getD (i+j) 0)+(((ofNat (Int.natAbs (kG x))).getD i 0)*((ofNat (Int.natAbs (kG y))).getD j 0)))+c) / 1000000000)))] [] (zM<|zE (oQu ((((o2.getD (i+j) 0)+(((ofNat (Int.natAbs (kG x))).getD i 0)*((ofNat (Int.natAbs (kG y))).getD j 0)))+c) / 1000000000))<|zM<|zZ) ?_
   refine kx [(8,(jP (j+1)))] [] (zM<|zE (vC (j+1))<|zM<|zZ) ?_
   exact ⟨(j+1,o2.set (i+j) ((o2.getD (i+j) 0+(ofNat (Int.natAbs (kG x))).getD i 0*(ofNat (Int.natAbs (kG y))).getD j 0+c) % 1000000000),(o2.getD (i+j) 0+(ofNat (Int.natAbs (kG x))).getD i 0*(ofNat (Int.natAbs (kG y))).getD j 0+c) / 1000000000),wk,(by obtain ⟨q1,q2⟩:=times_step (by omega) hdo2 hv2 rfl (val_take_succ _ j);exact ⟨by simpa using hlen2,q1,by omega,by omega,zero_set (by omega) hz2,q2⟩),(by first|omega|(dsimp only;omega))⟩
  ·replace h2:=uR h2
   have hje:j=(ofNat (Int.natAbs (kG y))).length:=by omega
   rw[hje] at hv2
   refine kB<|kx [] [(3,some (bm jC (o2.set (i+(ofNat (Int.natAbs (kG y))).length) c)))] (zM<|zM<|zE (kY vS)<|zR (uM yB)<|zE (uW kO (L:=(ofNat (Int.natAbs (kG y)))))<|zE (vC (i+(ofNat (Int.natAbs (kG y))).length))<|zM<|zE (cI nR nE c)<|zE (aY kO (i+(ofNat (Int.natAbs (kG y))).length))<|zT (oSp qX (i+(ofNat (Int.natAbs (kG y))).length) c)<|zZ) ?_
   refine kx [(6,(jP (i+1)))] [] (zM<|zE (vC (i+1))<|zM<|zZ) ?_
   exact ⟨(i+1,o2.set (i+(ofNat (Int.natAbs (kG y))).length) c),wk,(by obtain ⟨q1,q2,q3,q4⟩:=times_row hdo2 (by omega) hlen2 hz2 hc hv2;exact ⟨q1,q2,by omega,q3,q4⟩),(by first|omega|(dsimp only;omega))⟩
 ·replace h1:=uR h1
  have hie:i=(ofNat (Int.natAbs (kG x))).length:=by omega
  rw[hie,List.take_length] at hv
  refine kB<|jB<|kS (vD (t:=5) (k:=3) (es:=List.map jC out) rfl rfl (uQ _ _ (fun _=>rfl)) (uJ _ _ uA) (vQ _ _ (fun _=>rfl) uA)) ?_
  refine kx [] [(2,some (bx (jT (xQ (!(((kN (kG x)).neg) == ((kN (kG y)).neg))) (val out)))))] (zE (kY vL)<|zR (uM aX)<|zE (kY vL)<|zR (uM aX)<|zE (oNb bo4)<|zM<|zE (jY (mF (!(((kN (kG x)).neg) == ((kN (kG y)).neg))) out hdo (by omega)))<|zT (qA kF)<|zZ) ?_
  refine jE ⟨_,(kH (cs:=(bx (jT (xQ (!(((kN (kG x)).neg) == ((kN (kG y)).neg))) (val out))))) (d:=(jT (xQ (!(((kN (kG x)).neg) == ((kN (kG y)).neg))) (val out)))) rfl rfl kF rfl rfl .nil),?_⟩
  rw[hv,rmul_eq];rfl
theorem r_short(a:List Nat)(d:Nat)(hda:Dig a)(hd0:0<d)(hd1:d≤1000000000)(hla:a.length≤17592186044416):jR Tryz.prog 240 [(.sl 140 1 (List.map jC a)),(.val (.int .u64 (((d:Nat):Int))))] (.tup [(.sl 140 1 (List.map jC (ofNat (val a / d)))),(.val (.int .u64 ((((val a % d):Nat):Int))))]):=by
 refine jJ Tryz.func240 rfl cb240 rfl ?_
 show qG _ _ _ _ ⟨[(0,(vl 140 1 jC a)),(1,(gU d))],[]⟩
 refine jB<|kx [] [] (zE (dD 140 1)<|zM<|zZ) ?_
 refine jB<|kx [(6,(.own 0 140 1 a.length))] [(0,some (bm jC (List.replicate a.length 0)))] (zM<|zE (uW kO)<|zN (oMk 0 jC (0:Nat) a.length a.length kO xC yU mB)<|zM<|zZ) ?_
 refine jB<|kx [(7,(gU 0))] [] (zM<|zZ) ?_
 refine jB<|jB<|kx [(8,(vi (((a.length:Nat):Int)-1)))] [] (zM<|zE (uW kO)<|zE (zSb (((a.length:Nat):Int)-1))<|zM<|zZ) ?_
 refine jH<|kA (α:=Nat × List Nat × Nat) (fun (k,q,zP)=>⟨[(0,(vl 140 1 jC a)),(1,(gU d)),(6,(.own 0 140 1 a.length)),(7,(gU zP)),(8,(vi (((k:Nat):Int)-1)))],[(0,some (bm jC q))]⟩) (fun (k,q,zP)=>k≤a.length∧q.length=a.length∧Dig q∧zP<d∧val (a.drop k)=val (q.drop k)*d+zP) (fun (k,q,zP)=>k) (a.length,List.replicate a.length 0,0) wk ⟨Nat.le_refl _,by simp,yI _,hd0,by simp [val]⟩ ?_
 rintro ⟨k,q,zP⟩ ⟨hk,uA,hdq,hr,hv⟩
 refine jB<|jB<|kx [(17,(vb (decide (0≤(((k:Nat):Int)-1)))))] [] (zM<|zE oGe<|zZ) ?_
 refine jG (b:=decide (0≤(((k:Nat):Int)-1))) rfl (fun h1=>?_) (fun h1=>?_)
 ·replace h1:=uP h1
  obtain ⟨i,rfl⟩:∃ i,k=i+1:=⟨k-1,by omega⟩
  rw[show (((i+1:Nat):Int)-1)=((i:Nat):Int) from by omega]
  have hg:=hda.getD i
  obtain ⟨hb1,hb2⟩:=short_bound hr hd1 hg
  refine jD<|jB<|jH<|jB<|kx [(8,(jP i)),(9,(gU ((zP*1000000000)+(a.getD i 0))))] [] (zM<|zE (oMl (zP*1000000000))<|zM<|zM<|zE (xX kO i (0:Nat))<|zE (xZ qX)<|zE (cI gI gG (a.getD i 0))<|zE (vC ((zP*1000000000)+(a.getD i 0)))<|zM<|zZ) ?_
  refine jB<|kx [] [(0,some (bm jC (q.set i (((zP*1000000000)+(a.getD i 0)) / d))))] (zM<|zM<|zM<|zM<|zE (oQu (((zP*1000000000)+(a.getD i 0)) / d))<|zE (cI nR nE (((zP*1000000000)+(a.getD i 0)) / d))<|zE (aY kO i)<|zT (oSp qX i (((zP*1000000000)+(a.getD i 0)) / d))<|zZ) ?_
  refine kx [(7,(gU (((zP*1000000000)+(a.getD i 0)) % d)))] [] (zM<|zM<|zE (oRe (((zP*1000000000)+(a.getD i 0)) % d))<|zM<|zZ) ?_
  refine kx [(8,(vi (((i:Nat):Int)-1)))] [] (zM<|zE (zSb (((i:Nat):Int)-1))<|zM<|zZ) ?_
  exact ⟨(i,q.set i ((zP*1000000000+a.getD i 0) / d),(zP*1000000000+a.getD i 0) % d),wk,⟨by omega,by simpa using uA,hdq.set _ hb2,Nat.mod_lt _ hd0,rshort_step (by omega) hv rfl⟩,(by first|omega|(dsimp only;omega))⟩
 ·replace h1:=uR h1
  obtain rfl:k=0:=by omega
  obtain ⟨e1,e2⟩:=short_end (a:=a) (q:=q) (by rw[Nat.sub_self];exact hv) hr
  refine kB<|jB<|kS (vD (t:=6) (k:=0) (es:=List.map jC q) rfl rfl (uQ _ _ (fun _=>rfl)) (uJ _ _ uA) (vQ _ _ (fun _=>rfl) uA)) ?_
  refine kx [(4,(vl 140 1 jC (ofNat (val q)))),(5,(gU zP))] [] (zM<|zE (jY (mF false q (by first | assumption | exact kP _ | exact (qK _).1 | exact (qQ _).1) (by omega)))<|zE (oF1 bD yB)<|zM<|zM<|zM<|zZ) ?_
  refine jE ⟨_,(.tmp (d:=(.sl 140 1 (List.map jC (ofNat (val q))))) rfl (.tmp (d:=(.val (.int .u64 (((zP:Nat):Int))))) rfl .nil)),?_⟩
  rw[← e1,← e2];rfl
theorem r_pair(l:List Nat)(hd:Dig l)(h2:l.length≤2):jR Tryz.prog 177 [(.sl 140 1 (List.map jC l))] (.val (.int .u64 ((((val l):Nat):Int)))):=by
 have h0:=hd.getD 0
 have h1:=hd.getD 1
 refine jJ Tryz.func177 rfl cb177 rfl ?_
 show qG _ _ _ _ ⟨[(0,(vl 140 1 jC l))],[]⟩
 refine jB<|kx [] [] (zM<|zZ) ?_
 refine jB<|kx [(2,(gU (((l.getD 1 0)*1000000000)+(l.getD 0 0))))] [] (zM<|zE (jY (aU l 1 (by first | assumption | exact kP _ | exact (qK _).1 | exact (qQ _).1)))<|zE (oMl ((l.getD 1 0)*1000000000))<|zM<|zE (jY (aU l 0 (by first | assumption | exact kP _ | exact (qK _).1 | exact (qQ _).1)))<|zE (vC (((l.getD 1 0)*1000000000)+(l.getD 0 0)))<|zM<|zZ) ?_
 refine jE ⟨_,(.tmp (d:=(.val (.int .u64 ((((((l.getD 1 0)*1000000000)+(l.getD 0 0)):Nat):Int))))) rfl .nil),?_⟩
 rw[val_pair h2];rfl
theorem r_parts(a b:List Nat)(hda:yQ a)(hdb:yQ b)(hb0:0<b.length)(hla:a.length≤1099511627776)(hlb:b.length≤1099511627776):jR Tryz.prog 176 [(.sl 140 1 (List.map jC a)),(.sl 140 1 (List.map jC b))] (.tup [(.sl 140 1 (List.map jC (ofNat (val a / val b)))),(.sl 140 1 (List.map jC (ofNat (val a % val b))))]):=by
 have hsc:=bS hdb hb0
 have htp:=iZ hdb hb0
 have hbp:=cW hdb hb0
 refine jJ Tryz.func176 rfl cb176 rfl ?_
 show qG _ _ _ _ ⟨[(0,(vl 140 1 jC a)),(1,(vl 140 1 jC b))],[]⟩
 refine jB<|kx [] [] (zE (dD 140 1)<|zE (dD 140 1)<|zZ) ?_
 refine jB<|kx [(6,(jP b.length))] [] (zM<|zE (uW kO)<|zM<|zZ) ?_
 refine jB<|jB<|kx [(19,(vb (((b.length:Nat):Int) == 1)))] [] (zM<|zE xR<|zZ) ?_
 refine jG (b:=(((b.length:Nat):Int) == 1)) rfl (fun h1=>?_) (fun h1=>?_)
 ·replace h1:=eq_of_beq h1
  have hg0:=hdb.1.getD 0
  have hv1:=val_len1 (b:=b) (by omega)
  have hb00:0<b.getD 0 0:=by omega
  have hrl:val a % b.getD 0 0<1000000000:=Nat.lt_trans (Nat.mod_lt _ hb00) (by omega)
  refine jB<|kx [(7,(vl 140 1 jC (ofNat (val a / (b.getD 0 0))))),(8,(gU (val a % (b.getD 0 0))))] [] (zM<|zM<|zE (xX kO 0 (0:Nat))<|zE (xZ qX)<|zE (cI gI gG (b.getD 0 0))<|zE (jY (r_short a (b.getD 0 0) hda.1 (by omega) (by omega) (by omega)))<|zM<|zE uT<|zE uT<|zM<|zM<|zZ) ?_
  refine jB<|kx [(4,(vl 140 1 jC (ofNat (val a / (b.getD 0 0))))),(5,(vl 140 1 jC (ofNat (val [(val a % (b.getD 0 0))]))))] [] (zM<|zM<|zE (cI nR nE (val a % (b.getD 0 0)))<|zE (cN kO xC yU)<|zE (jY (mF false [(val a % (b.getD 0 0))] (gL.2 ⟨by omega,nH⟩) (by simp)))<|zE (oF1 bD yB)<|zM<|zM<|zZ) ?_
  refine jE ⟨_,(.tmp (d:=(.sl 140 1 (List.map jC (ofNat (val a / (b.getD 0 0)))))) rfl (.tmp (d:=(.sl 140 1 (List.map jC (ofNat (val [(val a % (b.getD 0 0))]))))) rfl .nil)),?_⟩
  rw[hv1,dS];rfl
 ·replace h1:=ne_of_beq_false h1
  refine jD<|jB<|jB<|kx [(38,(vb (decide ((vF ((val a:Nat):Int) ((val b:Nat):Int))<0))))] [] (zM<|zM<|zE (jY (r_size a b (by first | assumption | exact qK _ | exact qQ _) (by first | assumption | exact qK _ | exact qQ _) (by omega) (by omega)))<|zE xK<|zZ) ?_
  refine jG rfl (fun h2=>?_) (fun h2=>?_)
  ·replace h2:=uP h2
   refine jB<|kx [(4,(vl 140 1 jC [])),(5,(vl 140 1 jC a))] [] (zE (cN kO xC yU)<|zM<|zM<|zM<|zZ) ?_
   refine jE ⟨_,(.tmp (d:=(.sl 140 1 (List.map jC []))) rfl (.tmp (d:=(.sl 140 1 (List.map jC a))) rfl .nil)),?_⟩
   have hlt:=cmpI_neg h2
   rw[Nat.div_eq_of_lt hlt,Nat.mod_eq_of_lt hlt,uN,← can_eq hda];rfl
  ·replace h2:=uR h2
   obtain ⟨u,hue⟩:∃ u,u=ofNat (val a*eB b):=⟨_,rfl⟩
   obtain ⟨v,hve⟩:∃ v,v=ofNat (val b*eB b):=⟨_,rfl⟩
   have hu:Dig u:=by rw[hue];exact kP _
   have hcv:yQ v:=by rw[hve];exact qK _
   have hvd:=hcv.1
   have hvl:v.length=b.length:=by rw[hve];exact scl_len hdb hb0
   have hvv:val v=val b*eB b:=by rw[hve];exact kI _
   have huv:val u=val a*eB b:=by rw[hue];exact kI _
   have hab:=len_of_le hda hdb (cmpI_nn h2)
   have hul:a.length≤u.length∧u.length≤a.length+1:=by rw[hue];exact scl_lenA hda hdb hb0
   have hvp:=cW hcv (by omega)
   have hpv:pw (b.length-1)≤val v:=by have h1:=val_top hvd (by omega);have h3:=iZ hcv (by omega);rw[hvl] at h1 h3;have h2:=Nat.mul_le_mul_right (pw (b.length-1)) h3.1;omega
   refine jD<|jB<|kx [(9,(gU (eB b)))] [] (zM<|zM<|zE (oSb (b.length-1))<|zE (xX kO (b.length-1) (0:Nat))<|zE (xZ qX)<|zE (cI gI gG (b.getD (b.length-1) 0))<|zE (vC ((b.getD (b.length-1) 0)+1))<|zE (oQu (eB b) (hr:=by exact (quo_u64 1000000000 (b.getD (b.length-1) 0+1) (by decide))))<|zM<|zZ) ?_
   refine jB<|kx [(0,(vl 140 1 jC u)),(1,(vl 140 1 jC v))] [] (zM<|zM<|zE (jY (hue▸r_scaled a (eB b) hda.1 (by omega) (by omega)))<|zM<|zM<|zE (jY (hve▸r_scaled b (eB b) hdb.1 (by omega) (by omega)))<|zM<|zM<|zZ) ?_
   refine jB<|kx [(10,(vl 140 1 jC (ofNat (val (List.drop ((u.length-b.length)+1) u)))))] [] (zM<|zM<|zE (uW kO)<|zM<|zE (oSb (u.length-b.length))<|zE (vC ((u.length-b.length)+1))<|zE (e_slc (l:=((u.length-b.length)+1)) (h:=(List.map jC u).length) (kl:=.i64) (kh:=.i64) (es':=List.map jC (List.drop ((u.length-b.length)+1) u)) (by exact rfl) kO (by exact rfl) (by exact rfl) (by exact rfl) (by simp only[List.length_map];omega) (Nat.le_refl _) (by rw[List.take_length,List.map_drop]))<|zE (jY (mF false (List.drop ((u.length-b.length)+1) u) (hu.drop _) (by rw[List.length_drop];omega)))<|zE (oF1 bD yB)<|zM<|zZ) ?_
   refine jB<|kx [(11,(.own 0 140 1 ((u.length-b.length)+1)))] [(0,some (bm jC (List.replicate ((u.length-b.length)+1) 0)))] (zM<|zE (uW kO)<|zM<|zE (oSb (u.length-b.length))<|zE (vC ((u.length-b.length)+1))<|zN (oMk 0 jC (0:Nat) ((u.length-b.length)+1) ((u.length-b.length)+1) kO xC yU mB)<|zM<|zZ) ?_
   refine jB<|jB<|kx [(12,(vi ((((u.length-b.length)+1:Nat):Int)-1)))] [] (zM<|zE (uW kO)<|zM<|zE (zSb ((((u.length-b.length)+1:Nat):Int)-1))<|zM<|zZ) ?_
   refine jH<|kA (α:=Nat × List Nat × List Nat) (fun (k,r,q)=>⟨[(0,(vl 140 1 jC u)),(1,(vl 140 1 jC v)),(6,(jP b.length)),(9,(gU (eB b))),(10,(vl 140 1 jC r)),(11,(.own 0 140 1 ((u.length-b.length)+1))),(12,(vi (((k:Nat):Int)-1)))],[(0,some (bm jC q))]⟩) (fun (k,r,q)=>yQ r∧k≤((u.length-b.length)+1)∧q.length=((u.length-b.length)+1)∧Dig q∧val r<val v∧val (u.drop k)=val v*val (q.drop k)+val r) (fun (k,r,q)=>k) (((u.length-b.length)+1),ofNat (val (List.drop ((u.length-b.length)+1) u)),List.replicate ((u.length-b.length)+1) 0) wk ⟨qK _,Nat.le_refl _,by simp,yI _,by rw[kI];have h7:=xN (hu.drop ((u.length-b.length)+1));rw[List.length_drop,show u.length-((u.length-b.length)+1)=b.length-1 by omega] at h7;omega,by rw[kI];simp [val]⟩ ?_
   rintro ⟨k,r,q⟩ ⟨hrc,hk,hql,hqd,hr,hv⟩
   refine jB<|jB<|kx [(75,(vb (decide (0≤(((k:Nat):Int)-1)))))] [] (zM<|zE oGe<|zZ) ?_
   refine jG (b:=decide (0≤(((k:Nat):Int)-1))) rfl (fun h3=>?_) (fun h3=>?_)
   ·replace h3:=uP h3
    obtain ⟨i,rfl⟩:∃ i,k=i+1:=⟨k-1,by omega⟩
    rw[show (((i+1:Nat):Int)-1)=((i:Nat):Int) from by omega]
    have hgu:=hu.getD i
    have hW:(u.getD i 0+1000000000*val r)<1000000000*val v:=by omega
    have hrs:=rshift_val u hv
    obtain ⟨hg1,hg2⟩:=rguess hvd hvl hb0 hW
    have hgv:=hvd.getD (b.length-1)
    have hgw1:=(kP (u.getD i 0+1000000000*val r)).getD b.length
    have hgw2:=(kP (u.getD i 0+1000000000*val r)).getD (b.length-1)
    have hrl:r.length≤b.length:=by have h9:=vO (Nat.le_of_lt hr);rwa [← can_eq hrc,← can_eq hcv,hvl] at h9
    have hwl:(ofNat (u.getD i 0+1000000000*val r)).length≤b.length+1:=uH (by rw[uX];have:=xN hvd;rw[hvl] at this;omega)
    refine jD<|jB<|jH<|jB<|kx [(10,(vl 140 1 jC (ofNat ((u.getD i 0)+1000000000*val r)))),(12,(jP i))] [] (zM<|zM<|zM<|zE (xX kO i (0:Nat))<|zE (xZ qX)<|zE (jY (r_shifted r (u.getD i 0) hrc.1 (by omega) (by omega)))<|zM<|zZ) ?_
    refine jB<|kd [(13,(gU (((((ofNat ((u.getD i 0)+1000000000*val r)).getD b.length 0)*1000000000)+((ofNat ((u.getD i 0)+1000000000*val r)).getD (b.length-1) 0)) / ((v.getD (b.length-1) 0)+1))))] [] mo (wM<|wM<|wE (jY (aU (ofNat ((u.getD i 0)+1000000000*val r)) b.length (kP _)))<|wE (oMl (((ofNat ((u.getD i 0)+1000000000*val r)).getD b.length 0)*1000000000))<|wM<|wM<|wE (oSb (b.length-1))<|wE (jY (aU (ofNat ((u.getD i 0)+1000000000*val r)) (b.length-1) (by first | assumption | exact kP _ | exact (qK _).1 | exact (qQ _).1)))<|wE (vC ((((ofNat ((u.getD i 0)+1000000000*val r)).getD b.length 0)*1000000000)+((ofNat ((u.getD i 0)+1000000000*val r)).getD (b.length-1) 0)))<|wM<|wM<|wE (oSb (b.length-1))<|wE (xX kO (b.length-1) (0:Nat))<|wE (xZ qX)<|wE (cI gI gG (v.getD (b.length-1) 0))<|wE (vC ((v.getD (b.length-1) 0)+1))<|wE (oQu (((((ofNat ((u.getD i 0)+1000000000*val r)).getD b.length 0)*1000000000)+((ofNat ((u.getD i 0)+1000000000*val r)).getD (b.length-1) 0)) / ((v.getD (b.length-1) 0)+1)))<|wM<|wZ) ?_
    refine jB<|kx [(10,(vl 140 1 jC (ofNat (val (ofNat ((u.getD i 0)+1000000000*val r))-val (ofNat (val v*(((((ofNat ((u.getD i 0)+1000000000*val r)).getD b.length 0)*1000000000)+((ofNat ((u.getD i 0)+1000000000*val r)).getD (b.length-1) 0)) / ((v.getD (b.length-1) 0)+1))))))))] [] (zM<|zM<|zM<|zE (jY (r_scaled v (((((ofNat ((u.getD i 0)+1000000000*val r)).getD b.length 0)*1000000000)+((ofNat ((u.getD i 0)+1000000000*val r)).getD (b.length-1) 0)) / ((v.getD (b.length-1) 0)+1)) hvd (by omega) (by omega)))<|zE (jY (r_minus (ofNat ((u.getD i 0)+1000000000*val r)) (ofNat (val v*(((((ofNat ((u.getD i 0)+1000000000*val r)).getD b.length 0)*1000000000)+((ofNat ((u.getD i 0)+1000000000*val r)).getD (b.length-1) 0)) / ((v.getD (b.length-1) 0)+1)))) (kP _) (kP _) (by rw[kI,kI,Nat.mul_comm];exact hg1) (by omega)))<|zM<|zZ) ?_
    refine jB<|jH<|kA (α:=Nat × List Nat) (fun (G,r2)=>⟨[(0,(vl 140 1 jC u)),(1,(vl 140 1 jC v)),(6,(jP b.length)),(9,(gU (eB b))),(10,(vl 140 1 jC r2)),(11,(.own 0 140 1 ((u.length-b.length)+1))),(12,(jP i)),(13,(gU G))],[(0,some (bm jC q))]⟩) (fun (G,r2)=>yQ r2∧val v*G+val r2=(u.getD i 0+1000000000*val r)) (fun (G,r2)=>val r2) ((((ofNat (u.getD i 0+1000000000*val r)).getD b.length 0*1000000000+(ofNat (u.getD i 0+1000000000*val r)).getD (b.length-1) 0) / (v.getD (b.length-1) 0+1)),ofNat (val (ofNat (u.getD i 0+1000000000*val r))-val (ofNat (val v*(((ofNat (u.getD i 0+1000000000*val r)).getD b.length 0*1000000000+(ofNat (u.getD i 0+1000000000*val r)).getD (b.length-1) 0) / (v.getD (b.length-1) 0+1)))))) wk ⟨qK _,by rw[kI,kI,kI];rw[Nat.mul_comm] at hg1;omega⟩ ?_
    rintro ⟨G,r2⟩ ⟨hr2,hr2v⟩
    have hr2l:r2.length≤b.length+1:=by have h9:=vO (show val r2≤(u.getD i 0+1000000000*val r) by omega);rw[← can_eq hr2] at h9;omega
    refine jB<|jB<|kx [(109,(vb (decide (0≤(vF ((val r2:Nat):Int) ((val v:Nat):Int))))))] [] (zM<|zM<|zE (jY (r_size r2 v hr2 hcv (by omega) (by omega)))<|zE oGe<|zZ) ?_
    refine jG rfl (fun h4=>?_) (fun h4=>?_)
    ·replace h4:=uP h4
     have hge:=iU h4
     have hG:=rquo_lt hr2v hW
     have hr2l:r2.length≤b.length+1:=by have h9:=vO (show val r2≤(u.getD i 0+1000000000*val r) by omega);rw[← can_eq hr2] at h9;omega
     refine jD<|jH<|jB<|kx [(10,(vl 140 1 jC (ofNat (val r2-val v))))] [] (zM<|zM<|zE (jY (r_minus r2 v hr2.1 hvd (by omega) (by omega)))<|zM<|zZ) ?_
     refine kx [(13,(gU (G+1)))] [] (zM<|zE (vC (G+1))<|zM<|zZ) ?_
     exact ⟨(G+1,ofNat (val r2-val v)),wk,(by have hge:=iU h4;exact ⟨qK _,by rw[kI,Nat.mul_add,Nat.mul_one];omega⟩),(by have hge:=iU h4;dsimp only;rw[kI];omega)⟩
    ·replace h4:=uR h4
     have hG:=rquo_lt hr2v hW
     have hlt:val r2<val v:=by have h9:=cmpI_lt h4;omega
     refine kB<|kx [] [(0,some (bm jC (q.set i G)))] (zM<|zM<|zM<|zE (cI nR nE G)<|zE (aY kO i)<|zT (oSp qX i G)<|zZ) ?_
     refine kx [(12,(vi (((i:Nat):Int)-1)))] [] (zM<|zE (zSb (((i:Nat):Int)-1))<|zM<|zZ) ?_
     exact ⟨(i,r2,q.set i G),wk,⟨hr2,by omega,by simpa using hql,hqd.set _ hG,hlt,rround (by omega) (by rw[hr2v];exact hrs)⟩,(by first|omega|(dsimp only;omega))⟩
   ·replace h3:=uR h3
    obtain rfl:k=0:=by omega
    obtain ⟨e1,e2⟩:=scl_div (a:=a) (b:=b) (q:=q) (u:=r) hdb hb0 (by rw[List.drop_zero,List.drop_zero] at hv;rw[cO,Nat.one_mul,List.drop_zero,← huv,← hvv,hv];omega) (by rw[List.drop_zero,← hvv];exact hr)
    have hrl:r.length≤b.length:=by have h9:=vO (Nat.le_of_lt hr);rwa [← can_eq hrc,← can_eq hcv,hvl] at h9
    refine kB<|jB<|kx [(14,(vl 140 1 jC (ofNat (val r / (eB b)))))] [] (zM<|zM<|zE (jY (r_short r (eB b) hrc.1 (by omega) (by omega) (by omega)))<|zM<|zE uT<|zE uT<|zM<|zM<|zZ) ?_
    refine jB<|kS (vD (t:=11) (k:=0) (es:=List.map jC q) rfl rfl (uQ _ _ (fun _=>rfl)) (uJ _ _ hql) (vQ _ _ (fun _=>rfl) hql)) ?_
    refine kx [(4,(vl 140 1 jC (ofNat (val q)))),(5,(vl 140 1 jC (ofNat (val r / (eB b)))))] [] (zM<|zE (jY (mF false q hqd (by omega)))<|zE (oF1 bD yB)<|zM<|zM<|zM<|zZ) ?_
    refine jE ⟨_,(.tmp (d:=(.sl 140 1 (List.map jC (ofNat (val q))))) rfl (.tmp (d:=(.sl 140 1 (List.map jC (ofNat (val r / (eB b)))))) rfl .nil)),?_⟩
    rw[← e1,← e2];rfl
theorem cb117:callB Tryz.prog 117=true:=by kernel_rfl
theorem cb118:callB Tryz.prog 118=true:=by kernel_rfl
theorem cb146:callB Tryz.prog 146=true:=by kernel_rfl
theorem r_gcd(x:qB)(y:qB)(hx:x.gs.length≤1099511627776)(hy:y.gs.length≤1099511627776):jR Tryz.prog 118 [(jT x),(jT y)] (jT (kN ((Int.gcd (kG x) (kG y):Nat):Int))):=by
 have hvx:=eN x
 have hvy:=eN y
 refine jJ Tryz.func118 rfl cb118 rfl ?_
 show qG _ _ _ _ ⟨[(0,(.d (jT x))),(1,(.d (jT y)))],[]⟩
 refine jB<|kx [(2,(.ref 0 0)),(3,(.ref 1 0)),(4,(.ref 2 0))] [(0,some (bx (jT x))),(1,some (bx (jT y))),(2,some (bx (jT (qB.mk false []))))] (zN (vA 0)<|zN (vA 1)<|zN (qV 2 gD gB)<|zZ) ?_
 refine jB<|kd [(5,(vl 140 1 jC (ofNat (Int.natAbs (kG x))))),(6,(vl 140 1 jC (ofNat (Int.natAbs (kG y)))))] [] mo (wR (kK kF)<|wE (jY (eQ x (by omega)))<|wE (oF1 bD yB)<|wR (kK kF)<|wE (jY (eQ y (by omega)))<|wE (oF1 bD yB)<|wM<|wM<|wZ) ?_
 refine jB<|jH<|kA (α:=List Nat × List Nat) (fun (a,b)=>⟨[(4,(.ref 2 0)),(5,(vl 140 1 jC a)),(6,(vl 140 1 jC b))],[(2,some (bx (jT (qB.mk false []))))]⟩) (fun (a,b)=>yQ a∧yQ b∧a.length≤1099511627776∧b.length≤1099511627776∧Nat.gcd (val a) (val b)=Int.gcd (kG x) (kG y)) (fun (a,b)=>val b) ((ofNat (Int.natAbs (kG x))),(ofNat (Int.natAbs (kG y)))) wk ⟨qK _,qK _,by omega,by omega,by rw[kI,kI];rfl⟩ ?_
 rintro ⟨a,b⟩ ⟨ha,hb,hla,hlb,hg⟩
 refine jB<|jB<|kx [(29,(vb (decide (0<((b.length:Nat):Int))&&(decide (2<((a.length:Nat):Int))||decide (2<((b.length:Nat):Int))))))] [] ?_ ?_
 ·refine zM<|zE (uW kO)<|zE mL<|zE (oV (vb (decide (0<((b.length:Nat):Int)))) (qC (by kernel_rfl)))<|?_
  rcases hb1:(decide (0<((b.length:Nat):Int))) with _ | _
  ·replace hb1:=uR hb1
   exact zK<|zK<|zK<|zK<|zK<|zK<|zK<|zK<|zE yP<|zZ
  ·replace hb1:=uP hb1
   refine zM<|zE (uW kO)<|zE mL<|zE (oV (vb (decide (2<((a.length:Nat):Int)))) (qC (by kernel_rfl)))<|?_
   rcases hb2:(decide (2<((a.length:Nat):Int))) with _ | _
   ·replace hb2:=uR hb2
    exact zM<|zE (uW kO)<|zE mL<|zE eP<|zE fA<|zZ
   ·replace hb2:=uP hb2
    exact zK<|zK<|zK<|zE gR<|zE gR<|zZ
 refine jG rfl (fun h3=>?_) (fun h3=>?_)
 ·have hbl:0<b.length:=by rw[Bool.and_eq_true,decide_eq_true_eq] at h3;omega
  have hb0:=cW hb hbl
  refine jD<|jH<|jB<|kx [(8,(vl 140 1 jC (ofNat (val a % val b))))] [] (zM<|zM<|zE (jY (r_parts a b ha hb (by omega) (by omega) (by omega)))<|zM<|zE uT<|zE uT<|zM<|zM<|zZ) ?_
  refine kx [(5,(vl 140 1 jC b)),(6,(vl 140 1 jC (ofNat (val a % val b))))] [] (zM<|zM<|zM<|zM<|zZ) ?_
  exact ⟨(b,ofNat (val a % val b)),wk,⟨hb,qK _,hlb,Nat.le_trans (len_rem a ha _) hla,by rw[kI,← hg,Nat.gcd_comm,← Nat.gcd_rec,Nat.gcd_comm]⟩,(by dsimp only;rw[kI];exact Nat.mod_lt _ hb0)⟩
 ·have hex:=h3
  refine kB<|jB<|jB<|kx [(40,(vb (((b.length:Nat):Int) == 0)))] [] (zM<|zE (uW kO)<|zE xR<|zZ) ?_
  refine jG (b:=(((b.length:Nat):Int) == 0)) rfl (fun h4=>?_) (fun h4=>?_)
  ·replace h4:=eq_of_beq h4
   have hb1:b=[]:=List.eq_nil_of_length_eq_zero (by omega)
   rw[hb1,val_nil,Nat.gcd_zero_right] at hg
   refine jB<|kx [] [(2,some (bx (jT (xQ false (val a)))))] (zM<|zE (jY (mF false a ha.1 (by omega)))<|zT (qA kF)<|zZ) ?_
   refine jE ⟨_,(kH (cs:=(bx (jT (xQ false (val a))))) (d:=(jT (xQ false (val a)))) rfl rfl kF rfl rfl .nil),?_⟩
   rw[← hg,mkI_false];rfl
  ·replace h4:=ne_of_beq_false h4
   have hl2:a.length≤2∧b.length≤2:=by simp only[Bool.and_eq_false_iff,Bool.or_eq_false_iff,decide_eq_false_iff_not] at hex;omega
   refine jD<|jB<|kx [(9,(gU (val a))),(10,(gU (val b)))] [] (zM<|zE (jY (r_pair a ha.1 (by omega)))<|zM<|zE (jY (r_pair b hb.1 (by omega)))<|zM<|zM<|zZ) ?_
   refine jB<|jH<|kA (α:=Nat × Nat) (fun (m,n)=>⟨[(4,(.ref 2 0)),(9,(gU m)),(10,(gU n))],[(2,some (bx (jT (qB.mk false []))))]⟩) (fun (m,n)=>m<1000000000000000000∧n<1000000000000000000∧Nat.gcd m n=Int.gcd (kG x) (kG y)) (fun (m,n)=>n) (val a,val b) wk ⟨val_len2 ha.1 hl2.1,val_len2 hb.1 hl2.2,hg⟩ ?_
   rintro ⟨m,n⟩ ⟨hm,hn,hg2⟩
   refine jB<|jB<|kx [(48,(vb (decide (0<((n:Nat):Int)))))] [] (zM<|zE mL<|zZ) ?_
   refine jG (b:=decide (0<((n:Nat):Int))) rfl (fun h5=>?_) (fun h5=>?_)
   ·replace h5:=uP h5
    refine jD<|jH<|kd [(9,(gU n)),(10,(gU (m % n)))] [] mo (wM<|wM<|wM<|wE (oRe (m % n))<|wM<|wM<|wZ) ?_
    exact ⟨(n,m % n),wk,⟨hn,Nat.lt_of_le_of_lt (Nat.mod_le _ _) hm,by rw[← hg2,Nat.gcd_comm,← Nat.gcd_rec,Nat.gcd_comm]⟩,(by dsimp only;exact Nat.mod_lt _ (by omega))⟩
   ·replace h5:=uR h5
    obtain rfl:n=0:=by omega
    rw[Nat.gcd_zero_right] at hg2
    have hmv:val [m % 1000000000,m / 1000000000]=m:=by simp only[val];omega
    refine kB<|jB<|kx [] [(2,some (bx (jT (xQ false (val [(m % 1000000000),(m / 1000000000)])))))] (zM<|zE (oRe (m % 1000000000))<|zE (cI nR nE (m % 1000000000))<|zM<|zE (oQu (m / 1000000000))<|zE (cI nR nE (m / 1000000000))<|zE (cN kO xC yU)<|zE (jY (mF false [(m % 1000000000),(m / 1000000000)] (gL.2 ⟨Nat.mod_lt _ (by decide),gL.2 ⟨by omega,nH⟩⟩) (by simp)))<|zT (qA kF)<|zZ) ?_
    refine jE ⟨_,(kH (cs:=(bx (jT (xQ false (val [(m % 1000000000),(m / 1000000000)]))))) (d:=(jT (xQ false (val [(m % 1000000000),(m / 1000000000)])))) rfl rfl kF rfl rfl .nil),?_⟩
    rw[← hg2,hmv,mkI_false];rfl
theorem r_compare(x:qB)(y:qB)(hx:x.gs.length≤274877906944)(hy:y.gs.length≤274877906944):jR Tryz.prog 117 [(jT x),(jT y)] (.val (.int .i64 ((vF (kG x) (kG y))))):=by
 have hv:=gs_sub x y
 refine jJ Tryz.func117 rfl cb117 rfl ?_
 show qG _ _ _ _ ⟨[(0,(.d (jT x))),(1,(.d (jT y)))],[]⟩
 refine jB<|kx [(2,(.ref 0 0)),(3,(.ref 1 0))] [(0,some (bx (jT x))),(1,some (bx (jT y)))] (zN (vA 0)<|zN (vA 1)<|zM<|zZ) ?_
 refine jB<|kx [(4,(vi (uG (kG (kN (kG x-kG y))))))] [] (zR (kK kF)<|zR (kK kF)<|zE (jY (r_sub x y (by omega) (by omega)))<|zE (jY (r_sign (kN (kG x-kG y)) (by omega)))<|zM<|zZ) ?_
 refine jE ⟨_,(.tmp (d:=(.val (.int .i64 ((uG (kG (kN (kG x-kG y)))))))) rfl .nil),?_⟩
 rw[dX,signI_sub];rfl
theorem r_divide(x:qB)(y:qB)(hx:x.gs.length≤274877906944)(hy:y.gs.length≤274877906944)(hy0:kG y≠0):jR Tryz.prog 146 [(jT x),(jT y)] (.tup [(jT (kN ((kG x).fdiv (kG y)))),(jT (kN ((kG x).fmod (kG y)))),(.val (.int .i64 (0)))]):=by
 have hvx:=eN x
 have hvy:=eN y
 have hmx:=gs_val x
 have hmy:=gs_val y
 have hy1:0<(kG y).natAbs:=by omega
 have hyl:=eK hy1
 have hql:(ofNat (val (ofNat (Int.natAbs (kG x))) / val (ofNat (Int.natAbs (kG y))))).length≤274877906944:=by have:=len_quo (ofNat (Int.natAbs (kG x))) (qK _) (val (ofNat (Int.natAbs (kG y))));omega
 have hqg:(xQ (!((kN (kG x)).neg == (kN (kG y)).neg)) (val (ofNat (val (ofNat (Int.natAbs (kG x))) / val (ofNat (Int.natAbs (kG y))))))).gs.length≤274877906944:=by show (ofNat (val (ofNat (val (ofNat (Int.natAbs (kG x))) / val (ofNat (Int.natAbs (kG y))))))).length≤_;rw[kI];exact hql
 have dB:(kN 1).gs.length≤1:=(bU (z:=1) (by decide)).l
 have hqs:=gs_sub (xQ (!((kN (kG x)).neg == (kN (kG y)).neg)) (val (ofNat (val (ofNat (Int.natAbs (kG x))) / val (ofNat (Int.natAbs (kG y))))))) (kN 1)
 refine jJ Tryz.func146 rfl cb146 rfl ?_
 show qG _ _ _ _ ⟨[(0,(.d (jT x))),(1,(.d (jT y)))],[]⟩
 refine jB<|kx [(2,(.ref 0 0)),(3,(.ref 1 0)),(4,(.ref 2 0)),(5,(.ref 3 0))] [(0,some (bx (jT x))),(1,some (bx (jT y))),(2,some (bx (jT (qB.mk false [])))),(3,some (bx (jT (qB.mk false []))))] (zN (vA 0)<|zN (vA 1)<|zN (qV 2 gD gB)<|zN (qV 3 gD gB)<|zM<|zZ) ?_
 refine jB<|kd [] [(0,some (bx (jT (kN (kG x))))),(1,some (bx (jT (kN (kG y)))))] mo (wR (kK kF)<|wE (jY (eQ x (by omega)))<|wR (kK kF)<|wE (jY (eQ y (by omega)))<|wT (qA kF)<|wT (qA kF)<|wZ) ?_
 refine jB<|jB<|kx [(17,(vb ((((ofNat (Int.natAbs (kG y))).length:Nat):Int) == 0)))] [] (zE (kY vS)<|zR (uM yB)<|zE (uW kO (L:=(ofNat (Int.natAbs (kG y)))))<|zE xR<|zZ) ?_
 refine jG rfl (fun h1=>?_) (fun h1=>?_)
 ·replace h1:=eq_of_beq h1
  exact absurd h1 (by omega)
 ·replace h1:=ne_of_beq_false h1
  refine jD<|jB<|kx [(7,(vl 140 1 jC (ofNat (val (ofNat (Int.natAbs (kG x))) / val (ofNat (Int.natAbs (kG y))))))),(8,(vl 140 1 jC (ofNat (val (ofNat (Int.natAbs (kG x))) % val (ofNat (Int.natAbs (kG y)))))))] [] (zE (kY vS)<|zR (uM yB)<|zE (kY vS)<|zR (uM yB)<|zE (jY (r_parts (ofNat (Int.natAbs (kG x))) (ofNat (Int.natAbs (kG y))) (by first | assumption | exact qK _ | exact qQ _) (by first | assumption | exact qK _ | exact qQ _) (by omega) (by omega) (by omega)))<|zM<|zE uT<|zE uT<|zM<|zM<|zZ) ?_
  refine jB<|kx [(9,(.ref 4 0))] [(4,some (bx (jT (xQ (!(((kN (kG x)).neg) == ((kN (kG y)).neg))) (val (ofNat (val (ofNat (Int.natAbs (kG x))) / val (ofNat (Int.natAbs (kG y))))))))))] (zE (kY vL)<|zR (uM aX)<|zE (kY vL)<|zR (uM aX)<|zE (oNb bo4)<|zM<|zE (jY (mF (!(((kN (kG x)).neg) == ((kN (kG y)).neg))) (ofNat (val (ofNat (Int.natAbs (kG x))) / val (ofNat (Int.natAbs (kG y))))) (kP _) (by omega)))<|zN (qV 4 gD gB)<|zT (qA kF)<|zZ) ?_
  refine jB<|jB<|kx [(44,(vb (!(((kN (kG x)).neg) == ((kN (kG y)).neg))&&decide (0<(((ofNat (val (ofNat (Int.natAbs (kG x))) % val (ofNat (Int.natAbs (kG y))))).length:Nat):Int)))))] [] ?_ ?_
  ·refine zE (kY vL)<|zR (uM aX)<|zE (kY vL)<|zR (uM aX)<|zE (oNb bo4)<|zE (oV (vb (!(((kN (kG x)).neg) == ((kN (kG y)).neg)))) (qC (by kernel_rfl)))<|?_
   rcases hb2:(!(((kN (kG x)).neg) == ((kN (kG y)).neg))) with _ | _
   ·exact zK<|zK<|zK<|zE yP<|zZ
   ·exact zM<|zE (uW kO (L:=(ofNat (val (ofNat (Int.natAbs (kG x))) % val (ofNat (Int.natAbs (kG y)))))))<|zE mL<|zE fA<|zZ
  refine jG rfl (fun h3=>?_) (fun h3=>?_)
  ·have hqm:=gs_mul (kN (kG (xQ (!((kN (kG x)).neg == (kN (kG y)).neg)) (val (ofNat (val (ofNat (Int.natAbs (kG x))) / val (ofNat (Int.natAbs (kG y)))))))-kG (kN 1))) (kN (kG y))
   have hk:=r_div_other (X:=kG x) (Y:=kG y) hy1 (by rw[Bool.and_eq_true,Bool.not_eq_true',beq_eq_false_iff_ne,decide_eq_true_eq] at h3;exact h3)
   refine kd [] [(4,some (bx (jT (kN (kG (xQ (!(((kN (kG x)).neg) == ((kN (kG y)).neg))) (val (ofNat (val (ofNat (Int.natAbs (kG x))) / val (ofNat (Int.natAbs (kG y)))))))-kG (kN 1))))))] mo (wR (kK kF)<|wE (jY (r_of 1 (by omega) (by omega)))<|wE (jY (r_sub (xQ (!(((kN (kG x)).neg) == ((kN (kG y)).neg))) (val (ofNat (val (ofNat (Int.natAbs (kG x))) / val (ofNat (Int.natAbs (kG y))))))) (kN 1) (by omega) (by omega)))<|wT (qA kF)<|wZ) ?_
   refine jB<|kd [(6,(jP 0))] [(2,some (bx (jT (kN (kG (xQ (!(((kN (kG x)).neg) == ((kN (kG y)).neg))) (val (ofNat (val (ofNat (Int.natAbs (kG x))) / val (ofNat (Int.natAbs (kG y)))))))-kG (kN 1)))))),(3,some (bx (jT (kN (kG (kN (kG x))-kG (kN (kG (kN (kG (xQ (!(((kN (kG x)).neg) == ((kN (kG y)).neg))) (val (ofNat (val (ofNat (Int.natAbs (kG x))) / val (ofNat (Int.natAbs (kG y)))))))-kG (kN 1)))*kG (kN (kG y)))))))))] mo (wR (kK kF)<|wR (kK kF)<|wR (kK kF)<|wR (kK kF)<|wE (jY (r_mul (kN (kG (xQ (!(((kN (kG x)).neg) == ((kN (kG y)).neg))) (val (ofNat (val (ofNat (Int.natAbs (kG x))) / val (ofNat (Int.natAbs (kG y)))))))-kG (kN 1))) (kN (kG y)) (by omega) (by omega)))<|wE (jY (r_sub (kN (kG x)) (kN (kG (kN (kG (xQ (!(((kN (kG x)).neg) == ((kN (kG y)).neg))) (val (ofNat (val (ofNat (Int.natAbs (kG x))) / val (ofNat (Int.natAbs (kG y)))))))-kG (kN 1)))*kG (kN (kG y)))) (by omega) (by omega)))<|wT (qA kF)<|wT (qA kF)<|wM<|wZ) ?_
   refine jE ⟨_,(kH (cs:=(bx (jT (kN (kG (xQ (!(((kN (kG x)).neg) == ((kN (kG y)).neg))) (val (ofNat (val (ofNat (Int.natAbs (kG x))) / val (ofNat (Int.natAbs (kG y)))))))-kG (kN 1)))))) (d:=(jT (kN (kG (xQ (!(((kN (kG x)).neg) == ((kN (kG y)).neg))) (val (ofNat (val (ofNat (Int.natAbs (kG x))) / val (ofNat (Int.natAbs (kG y)))))))-kG (kN 1))))) rfl rfl kF rfl rfl (kH (cs:=(bx (jT (kN (kG (kN (kG x))-kG (kN (kG (kN (kG (xQ (!(((kN (kG x)).neg) == ((kN (kG y)).neg))) (val (ofNat (val (ofNat (Int.natAbs (kG x))) / val (ofNat (Int.natAbs (kG y)))))))-kG (kN 1)))*kG (kN (kG y))))))))) (d:=(jT (kN (kG (kN (kG x))-kG (kN (kG (kN (kG (xQ (!(((kN (kG x)).neg) == ((kN (kG y)).neg))) (val (ofNat (val (ofNat (Int.natAbs (kG x))) / val (ofNat (Int.natAbs (kG y)))))))-kG (kN 1)))*kG (kN (kG y)))))))) rfl rfl kF rfl rfl (.tmp (d:=(.val (.int .i64 (0)))) rfl .nil))),?_⟩
   rw[hk,r_rem_eq];rfl
  ·have hqm:=gs_mul (xQ (!((kN (kG x)).neg == (kN (kG y)).neg)) (val (ofNat (val (ofNat (Int.natAbs (kG x))) / val (ofNat (Int.natAbs (kG y))))))) (kN (kG y))
   have hk:=r_div_same (X:=kG x) (Y:=kG y) hy1 (by rw[Bool.and_eq_false_iff,Bool.not_eq_false',beq_iff_eq,decide_eq_false_iff_not] at h3;exact h3)
   refine jD<|jB<|kd [(6,(jP 0))] [(2,some (bx (jT (xQ (!(((kN (kG x)).neg) == ((kN (kG y)).neg))) (val (ofNat (val (ofNat (Int.natAbs (kG x))) / val (ofNat (Int.natAbs (kG y)))))))))),(3,some (bx (jT (kN (kG (kN (kG x))-kG (kN (kG (xQ (!(((kN (kG x)).neg) == ((kN (kG y)).neg))) (val (ofNat (val (ofNat (Int.natAbs (kG x))) / val (ofNat (Int.natAbs (kG y)))))))*kG (kN (kG y)))))))))] mo (wR (kK kF)<|wR (kK kF)<|wR (kK kF)<|wR (kK kF)<|wE (jY (r_mul (xQ (!(((kN (kG x)).neg) == ((kN (kG y)).neg))) (val (ofNat (val (ofNat (Int.natAbs (kG x))) / val (ofNat (Int.natAbs (kG y))))))) (kN (kG y)) (by omega) (by omega)))<|wE (jY (r_sub (kN (kG x)) (kN (kG (xQ (!(((kN (kG x)).neg) == ((kN (kG y)).neg))) (val (ofNat (val (ofNat (Int.natAbs (kG x))) / val (ofNat (Int.natAbs (kG y)))))))*kG (kN (kG y)))) (by omega) (by omega)))<|wT (qA kF)<|wT (qA kF)<|wM<|wZ) ?_
   refine jE ⟨_,(kH (cs:=(bx (jT (xQ (!(((kN (kG x)).neg) == ((kN (kG y)).neg))) (val (ofNat (val (ofNat (Int.natAbs (kG x))) / val (ofNat (Int.natAbs (kG y)))))))))) (d:=(jT (xQ (!(((kN (kG x)).neg) == ((kN (kG y)).neg))) (val (ofNat (val (ofNat (Int.natAbs (kG x))) / val (ofNat (Int.natAbs (kG y))))))))) rfl rfl kF rfl rfl (kH (cs:=(bx (jT (kN (kG (kN (kG x))-kG (kN (kG (xQ (!(((kN (kG x)).neg) == ((kN (kG y)).neg))) (val (ofNat (val (ofNat (Int.natAbs (kG x))) / val (ofNat (Int.natAbs (kG y)))))))*kG (kN (kG y))))))))) (d:=(jT (kN (kG (kN (kG x))-kG (kN (kG (xQ (!(((kN (kG x)).neg) == ((kN (kG y)).neg))) (val (ofNat (val (ofNat (Int.natAbs (kG x))) / val (ofNat (Int.natAbs (kG y)))))))*kG (kN (kG y)))))))) rfl rfl kF rfl rfl (.tmp (d:=(.val (.int .i64 (0)))) rfl .nil))),?_⟩
   rw[hk,r_rem_eq];rfl
end Go.Proofs.YtnajallgoaiahaaGreatDoor
