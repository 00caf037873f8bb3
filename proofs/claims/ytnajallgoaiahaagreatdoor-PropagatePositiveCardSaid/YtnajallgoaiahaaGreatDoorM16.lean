/- Part 16 of a proof: rules, plain facts, and functions walked. -/
import Derived.Test.YtnajallgoaiahaaGreatDoorM15
set_option linter.all false
set_option maxRecDepth 4000
namespace Go.Proofs.YtnajallgoaiahaaGreatDoor
open Go.Fid
theorem cb83:callB Tryz.prog 83=true:=by kernel_rfl
theorem cb87:callB Tryz.prog 87=true:=by kernel_rfl
theorem cb96:callB Tryz.prog 96=true:=by kernel_rfl
theorem cb145:callB Tryz.prog 145=true:=by kernel_rfl
theorem cb175:callB Tryz.prog 175=true:=by kernel_rfl
theorem cb176:callB Tryz.prog 176=true:=by kernel_rfl
theorem cb177:callB Tryz.prog 177=true:=by kernel_rfl
theorem cb240:callB Tryz.prog 240=true:=by kernel_rfl
theorem r_neg(x:kU)(hx:x.gs.length≤1099511627776):jP Tryz.prog 145 [(jO x)] (jO (kH (-kA x))):=by
 have hvx:=eA x
 refine jI Tryz.func145 rfl cb145 rfl ?_
 show qJ _ _ _ _ ⟨[(0,(.d (jO x)))],[]⟩
 refine jB<|kx [(1,(.ref 0 0)),(2,(.ref 1 0))] [(0,some (bx (jO x))),(1,some (bx (jO (kU.mk false []))))] (zN (vW 0)<|zN (uF 1 yN yL)<|zZ) ?_
 refine jB<|kx [] [(0,some (bx (jO (kH (kA x)))))] (zR (kM jY)<|zE (jX (eF x (by omega)))<|zT (qK jY)<|zZ) ?_
 refine jB<|kx [] [(1,some (bx (jO (xH (!((kH (kA x)).neg)) (val (ofNat (Int.natAbs (kA x))))))))] (zE (qE vL)<|zR (uN aU)<|zE nY<|zE (qE vS)<|zR (uN xZ)<|zE (jX (nX (!((kH (kA x)).neg)) (ofNat (Int.natAbs (kA x))) (by first | assumption | exact kJ _ | exact (qF _).1 | exact (qN _).1) (by omega)))<|zT (qK jY)<|zZ) ?_
 refine jE ⟨_,(kN (cs:=(bx (jO (xH (!((kH (kA x)).neg)) (val (ofNat (Int.natAbs (kA x)))))))) (d:=(jO (xH (!((kH (kA x)).neg)) (val (ofNat (Int.natAbs (kA x))))))) rfl rfl jY rfl rfl .nil),?_⟩
 rw[← rneg_eq];rfl
theorem r_sign(x:kU)(hx:x.gs.length≤1099511627776):jP Tryz.prog 83 [(jO x)] (.val (.int .i64 ((qZ (kA x))))):=by
 have hvx:=eA x
 refine jI Tryz.func83 rfl cb83 rfl ?_
 show qJ _ _ _ _ ⟨[(0,(.d (jO x)))],[]⟩
 refine jB<|kx [(1,(.ref 0 0))] [(0,some (bx (jO x)))] (zN (vW 0)<|zM<|zZ) ?_
 refine jB<|kx [] [(0,some (bx (jO (kH (kA x)))))] (zR (kM jY)<|zE (jX (eF x (by omega)))<|zT (qK jY)<|zZ) ?_
 refine jB<|jB<|kx [(8,(vb ((((ofNat (Int.natAbs (kA x))).length:Nat):Int) == 0)))] [] (zE (qE vS)<|zR (uN xZ)<|zE (uE kK (L:=(ofNat (Int.natAbs (kA x)))))<|zE gD<|zZ) ?_
 refine jF rfl (fun h1=>?_) (fun h1=>?_)
 ·replace h1:=eq_of_beq h1
  refine jB<|kx [(2,(jR 0))] [] (zM<|zZ) ?_
  refine jE ⟨_,(.tmp (d:=(.val (.int .i64 (0)))) rfl .nil),?_⟩
  rw[rsign_zero h1];rfl
 ·replace h1:=ne_of_beq_false h1
  refine jD<|jB<|jB<|kx [(10,(vb ((kH (kA x)).neg)))] [] (zE (qE vL)<|zR (uN aU)<|zZ) ?_
  refine jF (b:=(kH (kA x)).neg) rfl (fun h2=>?_) (fun h2=>?_)
  ·refine jB<|kx [(2,(vi (-1)))] [] (zM<|zZ) ?_
   refine jE ⟨_,(.tmp (d:=(.val (.int .i64 (-1)))) rfl .nil),?_⟩
   rw[rsign_neg h1 h2];rfl
  ·refine jD<|jB<|kx [(2,(jR 1))] [] (zM<|zZ) ?_
   refine jE ⟨_,(.tmp (d:=(.val (.int .i64 (1)))) rfl .nil),?_⟩
   rw[rsign_pos h1 h2];rfl
theorem r_add(x:kU)(y:kU)(hx:x.gs.length≤1099511627776)(hy:y.gs.length≤1099511627776):jP Tryz.prog 96 [(jO x),(jO y)] (jO (kH (kA x+kA y))):=by
 have hvx:=eA x
 have hvy:=eA y
 refine jI Tryz.func96 rfl cb96 rfl ?_
 show qJ _ _ _ _ ⟨[(0,(.d (jO x))),(1,(.d (jO y)))],[]⟩
 refine jB<|kx [(2,(.ref 0 0)),(3,(.ref 1 0)),(4,(.ref 2 0))] [(0,some (bx (jO x))),(1,some (bx (jO y))),(2,some (bx (jO (kU.mk false []))))] (zN (vW 0)<|zN (vW 1)<|zN (uF 2 yN yL)<|zZ) ?_
 refine jB<|kd [] [(0,some (bx (jO (kH (kA x))))),(1,some (bx (jO (kH (kA y)))))] mo (wR (kM jY)<|wE (jX (eF x (by omega)))<|wR (kM jY)<|wE (jX (eF y (by omega)))<|wT (qK jY)<|wT (qK jY)<|wZ) ?_
 refine jB<|jB<|kx [(13,(vb (((kH (kA x)).neg) == ((kH (kA y)).neg))))] [] (zE (qE vL)<|zR (uN aU)<|zE (qE vL)<|zR (uN aU)<|zE (oEb bo4)<|zZ) ?_
 refine jF rfl (fun h1=>?_) (fun h1=>?_)
 ·replace h1:=eq_of_beq h1
  refine jB<|kd [] [(2,some (bx (jO (xH ((kH (kA x)).neg) (val (ofNat (val (ofNat (Int.natAbs (kA x)))+val (ofNat (Int.natAbs (kA y))))))))))] mo (wE (qE vL)<|wR (uN aU)<|wE (qE vS)<|wR (uN xZ)<|wE (qE vS)<|wR (uN xZ)<|wE (jX (r_plus (ofNat (Int.natAbs (kA x))) (ofNat (Int.natAbs (kA y))) (by first | assumption | exact kJ _ | exact (qF _).1 | exact (qN _).1) (by first | assumption | exact kJ _ | exact (qF _).1 | exact (qN _).1) (by omega) (by omega)))<|wE (jX (nX ((kH (kA x)).neg) (ofNat (val (ofNat (Int.natAbs (kA x)))+val (ofNat (Int.natAbs (kA y))))) (by first | assumption | exact kJ _ | exact (qF _).1 | exact (qN _).1) (by first | omega | exact Nat.le_trans (add_len (kJ _) (kJ _)) (by omega) | exact Nat.le_trans (sub_len (kJ _)) (by omega))))<|wT (qK jY)<|wZ) ?_
  refine jE ⟨_,(kN (cs:=(bx (jO (xH ((kH (kA x)).neg) (val (ofNat (val (ofNat (Int.natAbs (kA x)))+val (ofNat (Int.natAbs (kA y)))))))))) (d:=(jO (xH ((kH (kA x)).neg) (val (ofNat (val (ofNat (Int.natAbs (kA x)))+val (ofNat (Int.natAbs (kA y))))))))) rfl rfl jY rfl rfl .nil),?_⟩
  rw[← rsum_same h1];rfl
 ·replace h1:=ne_of_beq_false h1
  refine jD<|jB<|jB<|kx [(27,(vb (decide (0≤(vB ((val (ofNat (Int.natAbs (kA x))):Nat):Int) ((val (ofNat (Int.natAbs (kA y))):Nat):Int))))))] [] (zE (qE vS)<|zR (uN xZ)<|zE (qE vS)<|zR (uN xZ)<|zE (jX (r_size (ofNat (Int.natAbs (kA x))) (ofNat (Int.natAbs (kA y))) (by first | assumption | exact qF _ | exact qN _) (by first | assumption | exact qF _ | exact qN _) (by omega) (by omega)))<|zE oGe<|zZ) ?_
  refine jF rfl (fun h2=>?_) (fun h2=>?_)
  ·replace h2:=uW h2
   refine jB<|kd [] [(2,some (bx (jO (xH ((kH (kA x)).neg) (val (ofNat (val (ofNat (Int.natAbs (kA x)))-val (ofNat (Int.natAbs (kA y))))))))))] mo (wE (qE vL)<|wR (uN aU)<|wE (qE vS)<|wR (uN xZ)<|wE (qE vS)<|wR (uN xZ)<|wE (jX (r_minus (ofNat (Int.natAbs (kA x))) (ofNat (Int.natAbs (kA y))) (by first | assumption | exact kJ _ | exact (qF _).1 | exact (qN _).1) (by first | assumption | exact kJ _ | exact (qF _).1 | exact (qN _).1) (by have:=iF h2;omega) (by omega)))<|wE (jX (nX ((kH (kA x)).neg) (ofNat (val (ofNat (Int.natAbs (kA x)))-val (ofNat (Int.natAbs (kA y))))) (by first | assumption | exact kJ _ | exact (qF _).1 | exact (qN _).1) (by first | omega | exact Nat.le_trans (add_len (kJ _) (kJ _)) (by omega) | exact Nat.le_trans (sub_len (kJ _)) (by omega))))<|wT (qK jY)<|wZ) ?_
   refine jE ⟨_,(kN (cs:=(bx (jO (xH ((kH (kA x)).neg) (val (ofNat (val (ofNat (Int.natAbs (kA x)))-val (ofNat (Int.natAbs (kA y)))))))))) (d:=(jO (xH ((kH (kA x)).neg) (val (ofNat (val (ofNat (Int.natAbs (kA x)))-val (ofNat (Int.natAbs (kA y))))))))) rfl rfl jY rfl rfl .nil),?_⟩
   rw[← rsum_first h1 (by have:=iF h2;omega)];rfl
  ·replace h2:=uX h2
   refine jD<|jB<|kd [] [(2,some (bx (jO (xH ((kH (kA y)).neg) (val (ofNat (val (ofNat (Int.natAbs (kA y)))-val (ofNat (Int.natAbs (kA x))))))))))] mo (wE (qE vL)<|wR (uN aU)<|wE (qE vS)<|wR (uN xZ)<|wE (qE vS)<|wR (uN xZ)<|wE (jX (r_minus (ofNat (Int.natAbs (kA y))) (ofNat (Int.natAbs (kA x))) (by first | assumption | exact kJ _ | exact (qF _).1 | exact (qN _).1) (by first | assumption | exact kJ _ | exact (qF _).1 | exact (qN _).1) (by have:=cmpI_lt h2;omega) (by omega)))<|wE (jX (nX ((kH (kA y)).neg) (ofNat (val (ofNat (Int.natAbs (kA y)))-val (ofNat (Int.natAbs (kA x))))) (by first | assumption | exact kJ _ | exact (qF _).1 | exact (qN _).1) (by first | omega | exact Nat.le_trans (add_len (kJ _) (kJ _)) (by omega) | exact Nat.le_trans (sub_len (kJ _)) (by omega))))<|wT (qK jY)<|wZ) ?_
   refine jE ⟨_,(kN (cs:=(bx (jO (xH ((kH (kA y)).neg) (val (ofNat (val (ofNat (Int.natAbs (kA y)))-val (ofNat (Int.natAbs (kA x)))))))))) (d:=(jO (xH ((kH (kA y)).neg) (val (ofNat (val (ofNat (Int.natAbs (kA y)))-val (ofNat (Int.natAbs (kA x))))))))) rfl rfl jY rfl rfl .nil),?_⟩
   rw[← rsum_second h1 (by have:=cmpI_lt h2;omega)];rfl
theorem r_sub(x:kU)(y:kU)(hx:x.gs.length≤1099511627776)(hy:y.gs.length≤1099511627776):jP Tryz.prog 175 [(jO x),(jO y)] (jO (kH (kA x-kA y))):=by
 have hv:=gs_neg y
 refine jI Tryz.func175 rfl cb175 rfl ?_
 show qJ _ _ _ _ ⟨[(0,(.d (jO x))),(1,(.d (jO y)))],[]⟩
 refine jB<|kx [(2,(.ref 0 0)),(3,(.ref 1 0)),(4,(.ref 2 0))] [(0,some (bx (jO x))),(1,some (bx (jO y))),(2,some (bx (jO (kU.mk false []))))] (zN (vW 0)<|zN (vW 1)<|zN (uF 2 yN yL)<|zZ) ?_
 refine jB<|kd [] [(2,some (bx (jO (kH (kA x+kA (kH (-kA y)))))))] mo (wR (kM jY)<|wR (kM jY)<|wE (jX (r_neg y (by omega)))<|wE (jX (r_add x (kH (-kA y)) (by omega) (by omega)))<|wT (qK jY)<|wZ) ?_
 refine jE ⟨_,(kN (cs:=(bx (jO (kH (kA x+kA (kH (-kA y))))))) (d:=(jO (kH (kA x+kA (kH (-kA y)))))) rfl rfl jY rfl rfl .nil),?_⟩
 rw[cV,← Int.sub_eq_add_neg];rfl
theorem r_mul(x:kU)(y:kU)(hx:x.gs.length≤1099511627776)(hy:y.gs.length≤1099511627776):jP Tryz.prog 87 [(jO x),(jO y)] (jO (kH (kA x*kA y))):=by
 have hvx:=eA x
 have hvy:=eA y
 have hda:=kJ (Int.natAbs (kA x))
 have hdb:=kJ (Int.natAbs (kA y))
 refine jI Tryz.func87 rfl cb87 rfl ?_
 show qJ _ _ _ _ ⟨[(0,(.d (jO x))),(1,(.d (jO y)))],[]⟩
 refine jB<|kx [(2,(.ref 0 0)),(3,(.ref 1 0)),(4,(.ref 2 0))] [(0,some (bx (jO x))),(1,some (bx (jO y))),(2,some (bx (jO (kU.mk false []))))] (zN (vW 0)<|zN (vW 1)<|zN (uF 2 yN yL)<|zZ) ?_
 refine jB<|kd [] [(0,some (bx (jO (kH (kA x))))),(1,some (bx (jO (kH (kA y)))))] mo (wR (kM jY)<|wE (jX (eF x (by omega)))<|wR (kM jY)<|wE (jX (eF y (by omega)))<|wT (qK jY)<|wT (qK jY)<|wZ) ?_
 refine jB<|kx [(5,(.own 3 140 1 ((ofNat (Int.natAbs (kA x))).length+(ofNat (Int.natAbs (kA y))).length)))] [(3,some (bm jC (List.replicate ((ofNat (Int.natAbs (kA x))).length+(ofNat (Int.natAbs (kA y))).length) 0)))] (zE (qE vS)<|zR (uN xZ)<|zE (uE kK (L:=(ofNat (Int.natAbs (kA x)))))<|zE (qE vS)<|zR (uN xZ)<|zE (uE kK (L:=(ofNat (Int.natAbs (kA y)))))<|zE (vT ((ofNat (Int.natAbs (kA x))).length+(ofNat (Int.natAbs (kA y))).length))<|zN (oMk 3 jC (0:Nat) ((ofNat (Int.natAbs (kA x))).length+(ofNat (Int.natAbs (kA y))).length) ((ofNat (Int.natAbs (kA x))).length+(ofNat (Int.natAbs (kA y))).length) kK vP yJ nS)<|zM<|zZ) ?_
 refine jB<|jB<|kx [(6,(jR 0))] [] (zM<|zZ) ?_
 refine jH<|kB (α:=Nat × List Nat) (fun (i,out)=>⟨[(2,(.ref 0 0)),(3,(.ref 1 0)),(4,(.ref 2 0)),(5,(.own 3 140 1 ((ofNat (Int.natAbs (kA x))).length+(ofNat (Int.natAbs (kA y))).length))),(6,(jR i))],[(0,some (bx (jO (kH (kA x))))),(1,some (bx (jO (kH (kA y))))),(2,some (bx (jO (kU.mk false [])))),(3,some (bm jC out))]⟩) (fun (i,out)=>out.length=(ofNat (Int.natAbs (kA x))).length+(ofNat (Int.natAbs (kA y))).length∧Dig out∧i≤(ofNat (Int.natAbs (kA x))).length∧(∀ k,i+(ofNat (Int.natAbs (kA y))).length≤k→out.getD k 0=0)∧val out=val ((ofNat (Int.natAbs (kA x))).take i)*val (ofNat (Int.natAbs (kA y)))) (fun (i,out)=>(ofNat (Int.natAbs (kA x))).length-i) (0,List.replicate ((ofNat (Int.natAbs (kA x))).length+(ofNat (Int.natAbs (kA y))).length) 0) wk ⟨by simp,zW _,Nat.zero_le _,fun k _=>fA _ k,by simp [val,dZ]⟩ ?_
 rintro ⟨i,out⟩ ⟨qV,hdo,hi,hz,hv⟩
 have hai:=hda.getD i
 refine jB<|jB<|kx [(26,(vb (decide (((i:Nat):Int)<(((ofNat (Int.natAbs (kA x))).length:Nat):Int)))))] [] (zM<|zE (qE vS)<|zR (uN xZ)<|zE (uE kK (L:=(ofNat (Int.natAbs (kA x)))))<|zE xG<|zZ) ?_
 refine jF rfl (fun h1=>?_) (fun h1=>?_)
 ·replace h1:=uW h1
  refine jD<|jB<|jH<|jB<|kx [(7,(gE 0))] [] (zM<|zZ) ?_
  refine jB<|jB<|kx [(8,(jR 0))] [] (zM<|zZ) ?_
  refine jH<|kB (α:=Nat × List Nat × Nat) (fun (j,o2,c)=>⟨[(2,(.ref 0 0)),(3,(.ref 1 0)),(4,(.ref 2 0)),(5,(.own 3 140 1 ((ofNat (Int.natAbs (kA x))).length+(ofNat (Int.natAbs (kA y))).length))),(6,(jR i)),(7,(gE c)),(8,(jR j))],[(0,some (bx (jO (kH (kA x))))),(1,some (bx (jO (kH (kA y))))),(2,some (bx (jO (kU.mk false [])))),(3,some (bm jC o2))]⟩) (fun (j,o2,c)=>o2.length=(ofNat (Int.natAbs (kA x))).length+(ofNat (Int.natAbs (kA y))).length∧Dig o2∧j≤(ofNat (Int.natAbs (kA y))).length∧c<1000000000∧(∀ k,i+(ofNat (Int.natAbs (kA y))).length≤k→o2.getD k 0=0)∧val o2+pw (i+j)*c=val ((ofNat (Int.natAbs (kA x))).take i)*val (ofNat (Int.natAbs (kA y)))+pw i*((ofNat (Int.natAbs (kA x))).getD i 0*val ((ofNat (Int.natAbs (kA y))).take j))) (fun (j,o2,c)=>(ofNat (Int.natAbs (kA y))).length-j) (0,out,0) wk ⟨qV,hdo,Nat.zero_le _,by decide,hz,by simp [val,hv]⟩ ?_
  rintro ⟨j,o2,c⟩ ⟨hlen2,hdo2,hj,hc,hz2,hv2⟩
  have hbj:=hdb.getD j
  have hoj:=hdo2.getD (i+j)
  have hpq:(ofNat (Int.natAbs (kA x))).getD i 0*(ofNat (Int.natAbs (kA y))).getD j 0≤999999999*999999999:=Nat.mul_le_mul (by omega) (by omega)
  refine jB<|jB<|kx [(33,(vb (decide (((j:Nat):Int)<(((ofNat (Int.natAbs (kA y))).length:Nat):Int)))))] [] (zM<|zE (qE vS)<|zR (uN xZ)<|zE (uE kK (L:=(ofNat (Int.natAbs (kA y)))))<|zE xG<|zZ) ?_
  refine jF rfl (fun h2=>?_) (fun h2=>?_)
  ·replace h2:=uW h2
   refine jD<|jB<|jH<|jB<|kd [(9,(gE (((o2.getD (i+j) 0)+(((ofNat (Int.natAbs (kA x))).getD i 0)*((ofNat (Int.natAbs (kA y))).getD j 0)))+c)))] [] mo (wM<|wM<|wM<|wE (vT (i+j))<|wE (fV kK (i+j))<|wR (oLp qR (i+j) (0:Nat))<|wE (cA yT yR (o2.getD (i+j) 0))<|wE (qE vS)<|wR (uN xZ)<|wM<|wE (xJ kK i (0:Nat) (L:=(ofNat (Int.natAbs (kA x)))))<|wE (xO qR)<|wE (cA yT yR ((ofNat (Int.natAbs (kA x))).getD i 0))<|wE (qE vS)<|wR (uN xZ)<|wM<|wE (xJ kK j (0:Nat) (L:=(ofNat (Int.natAbs (kA y)))))<|wE (xO qR)<|wE (cA yT yR ((ofNat (Int.natAbs (kA y))).getD j 0))<|wE (oMl (((ofNat (Int.natAbs (kA x))).getD i 0)*((ofNat (Int.natAbs (kA y))).getD j 0)))<|wE (vT ((o2.getD (i+j) 0)+(((ofNat (Int.natAbs (kA x))).getD i 0)*((ofNat (Int.natAbs (kA y))).getD j 0))))<|wM<|wE (vT (((o2.getD (i+j) 0)+(((ofNat (Int.natAbs (kA x))).getD i 0)*((ofNat (Int.natAbs (kA y))).getD j 0)))+c))<|wM<|wZ) ?_
   refine jB<|kx [] [(3,some (bm jC (o2.set (i+j) ((((o2.getD (i+j) 0)+(((ofNat (Int.natAbs (kA x))).getD i 0)*((ofNat (Int.natAbs (kA y))).getD j 0)))+c) % 1000000000))))] (zM<|zM<|zM<|zE (vT (i+j))<|zM<|zE (oRe ((((o2.getD (i+j) 0)+(((ofNat (Int.natAbs (kA x))).getD i 0)*((ofNat (Int.natAbs (kA y))).getD j 0)))+c) % 1000000000))<|zE (cA nE gU ((((o2.getD (i+j) 0)+(((ofNat (Int.natAbs (kA x))).getD i 0)*((ofNat (Int.natAbs (kA y))).getD j 0)))+c) % 1000000000))<|zE (fV kK (i+j))<|zT (oSp qR (i+j) ((((o2.getD (i+j) 0)+(((ofNat (Int.natAbs (kA x))).getD i 0)*((ofNat (Int.natAbs (kA y))).getD j 0)))+c) % 1000000000))<|zZ) ?_
   refine kx [(7,(gE ((((o2.getD (i+j) 0)+(((ofNat (Int.natAbs (kA x))).getD i 0)*((ofNat (Int.natAbs (kA y))).getD j 0)))+c) / 1000000000)))] [] (zM<|zE (oQu ((((o2.getD (i+j) 0)+(((ofNat (Int.natAbs (kA x))).getD i 0)*((ofNat (Int.natAbs (kA y))).getD j 0)))+c) / 1000000000))<|zM<|zZ) ?_
   refine kx [(8,(jR (j+1)))] [] (zM<|zE (vT (j+1))<|zM<|zZ) ?_
   exact ⟨(j+1,o2.set (i+j) ((o2.getD (i+j) 0+(ofNat (Int.natAbs (kA x))).getD i 0*(ofNat (Int.natAbs (kA y))).getD j 0+c) % 1000000000),(o2.getD (i+j) 0+(ofNat (Int.natAbs (kA x))).getD i 0*(ofNat (Int.natAbs (kA y))).getD j 0+c) / 1000000000),wk,(by obtain ⟨q1,q2⟩:=times_step (by omega) hdo2 hv2 rfl (val_take_succ _ j);exact ⟨by simpa using hlen2,q1,by omega,by omega,zero_set (by omega) hz2,q2⟩),(by first|omega|(dsimp only;omega))⟩
  ·replace h2:=uX h2
   have hje:j=(ofNat (Int.natAbs (kA y))).length:=by omega
   rw[hje] at hv2
   refine kC<|kx [] [(3,some (bm jC (o2.set (i+(ofNat (Int.natAbs (kA y))).length) c)))] (zM<|zM<|zE (qE vS)<|zR (uN xZ)<|zE (uE kK (L:=(ofNat (Int.natAbs (kA y)))))<|zE (vT (i+(ofNat (Int.natAbs (kA y))).length))<|zM<|zE (cA nE gU c)<|zE (fV kK (i+(ofNat (Int.natAbs (kA y))).length))<|zT (oSp qR (i+(ofNat (Int.natAbs (kA y))).length) c)<|zZ) ?_
   refine kx [(6,(jR (i+1)))] [] (zM<|zE (vT (i+1))<|zM<|zZ) ?_
   exact ⟨(i+1,o2.set (i+(ofNat (Int.natAbs (kA y))).length) c),wk,(by obtain ⟨q1,q2,q3,q4⟩:=times_row hdo2 (by omega) hlen2 hz2 hc hv2;exact ⟨q1,q2,by omega,q3,q4⟩),(by first|omega|(dsimp only;omega))⟩
 ·replace h1:=uX h1
  have hie:i=(ofNat (Int.natAbs (kA x))).length:=by omega
  rw[hie,List.take_length] at hv
  refine kC<|jB<|kV (vN (t:=5) (k:=3) (es:=List.map jC out) rfl rfl (uI _ _ (fun _=>rfl)) (uT _ _ qV) (vH _ _ (fun _=>rfl) qV)) ?_
  refine kx [] [(2,some (bx (jO (xH (!(((kH (kA x)).neg) == ((kH (kA y)).neg))) (val out)))))] (zE (qE vL)<|zR (uN aU)<|zE (qE vL)<|zR (uN aU)<|zE (oNb bo4)<|zM<|zE (jX (nX (!(((kH (kA x)).neg) == ((kH (kA y)).neg))) out hdo (by omega)))<|zT (qK jY)<|zZ) ?_
  refine jE ⟨_,(kN (cs:=(bx (jO (xH (!(((kH (kA x)).neg) == ((kH (kA y)).neg))) (val out))))) (d:=(jO (xH (!(((kH (kA x)).neg) == ((kH (kA y)).neg))) (val out)))) rfl rfl jY rfl rfl .nil),?_⟩
  rw[hv,rmul_eq];rfl
theorem r_short(a:List Nat)(d:Nat)(hda:Dig a)(hd0:0<d)(hd1:d≤1000000000)(hla:a.length≤17592186044416):jP Tryz.prog 240 [(.sl 140 1 (List.map jC a)),(.val (.int .u64 (((d:Nat):Int))))] (.tup [(.sl 140 1 (List.map jC (ofNat (val a / d)))),(.val (.int .u64 ((((val a % d):Nat):Int))))]):=by
 refine jI Tryz.func240 rfl cb240 rfl ?_
 show qJ _ _ _ _ ⟨[(0,(vl 140 1 jC a)),(1,(gE d))],[]⟩
 refine jB<|kx [] [] (zE (cT 140 1)<|zM<|zZ) ?_
 refine jB<|kx [(6,(.own 0 140 1 a.length))] [(0,some (bm jC (List.replicate a.length 0)))] (zM<|zE (uE kK)<|zN (oMk 0 jC (0:Nat) a.length a.length kK vP yJ nS)<|zM<|zZ) ?_
 refine jB<|kx [(7,(gE 0))] [] (zM<|zZ) ?_
 refine jB<|jB<|kx [(8,(vi (((a.length:Nat):Int)-1)))] [] (zM<|zE (uE kK)<|zE (zSb (((a.length:Nat):Int)-1))<|zM<|zZ) ?_
 refine jH<|kB (α:=Nat × List Nat × Nat) (fun (k,q,xM)=>⟨[(0,(vl 140 1 jC a)),(1,(gE d)),(6,(.own 0 140 1 a.length)),(7,(gE xM)),(8,(vi (((k:Nat):Int)-1)))],[(0,some (bm jC q))]⟩) (fun (k,q,xM)=>k≤a.length∧q.length=a.length∧Dig q∧xM<d∧val (a.drop k)=val (q.drop k)*d+xM) (fun (k,q,xM)=>k) (a.length,List.replicate a.length 0,0) wk ⟨Nat.le_refl _,by simp,zW _,hd0,by simp [val]⟩ ?_
 rintro ⟨k,q,xM⟩ ⟨hk,qV,hdq,hr,hv⟩
 refine jB<|jB<|kx [(17,(vb (decide (0≤(((k:Nat):Int)-1)))))] [] (zM<|zE oGe<|zZ) ?_
 refine jF (b:=decide (0≤(((k:Nat):Int)-1))) rfl (fun h1=>?_) (fun h1=>?_)
 ·replace h1:=uW h1
  obtain ⟨i,rfl⟩:∃ i,k=i+1:=⟨k-1,by omega⟩
  rw[show (((i+1:Nat):Int)-1)=((i:Nat):Int) from by omega]
  have hg:=hda.getD i
  obtain ⟨hb1,hb2⟩:=short_bound hr hd1 hg
  refine jD<|jB<|jH<|jB<|kx [(8,(jR i)),(9,(gE ((xM*1000000000)+(a.getD i 0))))] [] (zM<|zE (oMl (xM*1000000000))<|zM<|zM<|zE (xJ kK i (0:Nat))<|zE (xO qR)<|zE (cA yT yR (a.getD i 0))<|zE (vT ((xM*1000000000)+(a.getD i 0)))<|zM<|zZ) ?_
  refine jB<|kx [] [(0,some (bm jC (q.set i (((xM*1000000000)+(a.getD i 0)) / d))))] (zM<|zM<|zM<|zM<|zE (oQu (((xM*1000000000)+(a.getD i 0)) / d))<|zE (cA nE gU (((xM*1000000000)+(a.getD i 0)) / d))<|zE (fV kK i)<|zT (oSp qR i (((xM*1000000000)+(a.getD i 0)) / d))<|zZ) ?_
  refine kx [(7,(gE (((xM*1000000000)+(a.getD i 0)) % d)))] [] (zM<|zM<|zE (oRe (((xM*1000000000)+(a.getD i 0)) % d))<|zM<|zZ) ?_
  refine kx [(8,(vi (((i:Nat):Int)-1)))] [] (zM<|zE (zSb (((i:Nat):Int)-1))<|zM<|zZ) ?_
  exact ⟨(i,q.set i ((xM*1000000000+a.getD i 0) / d),(xM*1000000000+a.getD i 0) % d),wk,⟨by omega,by simpa using qV,hdq.set _ hb2,Nat.mod_lt _ hd0,rshort_step (by omega) hv rfl⟩,(by first|omega|(dsimp only;omega))⟩
 ·replace h1:=uX h1
  obtain rfl:k=0:=by omega
  obtain ⟨e1,e2⟩:=short_end (a:=a) (q:=q) (by rw[Nat.sub_self];exact hv) hr
  refine kC<|jB<|kV (vN (t:=6) (k:=0) (es:=List.map jC q) rfl rfl (uI _ _ (fun _=>rfl)) (uT _ _ qV) (vH _ _ (fun _=>rfl) qV)) ?_
  refine kx [(4,(vl 140 1 jC (ofNat (val q)))),(5,(gE xM))] [] (zM<|zE (jX (nX false q (by first | assumption | exact kJ _ | exact (qF _).1 | exact (qN _).1) (by omega)))<|zE (oF1 aM xZ)<|zM<|zM<|zM<|zZ) ?_
  refine jE ⟨_,(.tmp (d:=(.sl 140 1 (List.map jC (ofNat (val q))))) rfl (.tmp (d:=(.val (.int .u64 (((xM:Nat):Int))))) rfl .nil)),?_⟩
  rw[← e1,← e2];rfl
theorem r_pair(l:List Nat)(hd:Dig l)(h2:l.length≤2):jP Tryz.prog 177 [(.sl 140 1 (List.map jC l))] (.val (.int .u64 ((((val l):Nat):Int)))):=by
 have h0:=hd.getD 0
 have h1:=hd.getD 1
 refine jI Tryz.func177 rfl cb177 rfl ?_
 show qJ _ _ _ _ ⟨[(0,(vl 140 1 jC l))],[]⟩
 refine jB<|kx [] [] (zM<|zZ) ?_
 refine jB<|kx [(2,(gE (((l.getD 1 0)*1000000000)+(l.getD 0 0))))] [] (zM<|zE (jX (aC l 1 (by first | assumption | exact kJ _ | exact (qF _).1 | exact (qN _).1)))<|zE (oMl ((l.getD 1 0)*1000000000))<|zM<|zE (jX (aC l 0 (by first | assumption | exact kJ _ | exact (qF _).1 | exact (qN _).1)))<|zE (vT (((l.getD 1 0)*1000000000)+(l.getD 0 0)))<|zM<|zZ) ?_
 refine jE ⟨_,(.tmp (d:=(.val (.int .u64 ((((((l.getD 1 0)*1000000000)+(l.getD 0 0)):Nat):Int))))) rfl .nil),?_⟩
 rw[val_pair h2];rfl
theorem r_parts(a b:List Nat)(hda:yG a)(hdb:yG b)(hb0:0<b.length)(hla:a.length≤1099511627776)(hlb:b.length≤1099511627776):jP Tryz.prog 176 [(.sl 140 1 (List.map jC a)),(.sl 140 1 (List.map jC b))] (.tup [(.sl 140 1 (List.map jC (ofNat (val a / val b)))),(.sl 140 1 (List.map jC (ofNat (val a % val b))))]):=by
 have hsc:=aS hdb hb0
 have htp:=iM hdb hb0
 have hbp:=cP hdb hb0
 refine jI Tryz.func176 rfl cb176 rfl ?_
 show qJ _ _ _ _ ⟨[(0,(vl 140 1 jC a)),(1,(vl 140 1 jC b))],[]⟩
 refine jB<|kx [] [] (zE (cT 140 1)<|zE (cT 140 1)<|zZ) ?_
 refine jB<|kx [(6,(jR b.length))] [] (zM<|zE (uE kK)<|zM<|zZ) ?_
 refine jB<|jB<|kx [(19,(vb (((b.length:Nat):Int) == 1)))] [] (zM<|zE gD<|zZ) ?_
 refine jF (b:=(((b.length:Nat):Int) == 1)) rfl (fun h1=>?_) (fun h1=>?_)
 ·replace h1:=eq_of_beq h1
  have hg0:=hdb.1.getD 0
  have hv1:=val_len1 (b:=b) (by omega)
  have hb00:0<b.getD 0 0:=by omega
  have hrl:val a % b.getD 0 0<1000000000:=Nat.lt_trans (Nat.mod_lt _ hb00) (by omega)
  refine jB<|kx [(7,(vl 140 1 jC (ofNat (val a / (b.getD 0 0))))),(8,(gE (val a % (b.getD 0 0))))] [] (zM<|zM<|zE (xJ kK 0 (0:Nat))<|zE (xO qR)<|zE (cA yT yR (b.getD 0 0))<|zE (jX (r_short a (b.getD 0 0) hda.1 (by omega) (by omega) (by omega)))<|zM<|zE xD<|zE xD<|zM<|zM<|zZ) ?_
  refine jB<|kx [(4,(vl 140 1 jC (ofNat (val a / (b.getD 0 0))))),(5,(vl 140 1 jC (ofNat (val [(val a % (b.getD 0 0))]))))] [] (zM<|zM<|zE (cA nE gU (val a % (b.getD 0 0)))<|zE (eC kK vP yJ)<|zE (jX (nX false [(val a % (b.getD 0 0))] (yV.2 ⟨by omega,gW⟩) (by simp)))<|zE (oF1 aM xZ)<|zM<|zM<|zZ) ?_
  refine jE ⟨_,(.tmp (d:=(.sl 140 1 (List.map jC (ofNat (val a / (b.getD 0 0)))))) rfl (.tmp (d:=(.sl 140 1 (List.map jC (ofNat (val [(val a % (b.getD 0 0))]))))) rfl .nil)),?_⟩
  rw[hv1,cX];rfl
 ·replace h1:=ne_of_beq_false h1
  refine jD<|jB<|jB<|kx [(38,(vb (decide ((vB ((val a:Nat):Int) ((val b:Nat):Int))<0))))] [] (zM<|zM<|zE (jX (r_size a b (by first | assumption | exact qF _ | exact qN _) (by first | assumption | exact qF _ | exact qN _) (by omega) (by omega)))<|zE xG<|zZ) ?_
  refine jF rfl (fun h2=>?_) (fun h2=>?_)
  ·replace h2:=uW h2
   refine jB<|kx [(4,(vl 140 1 jC [])),(5,(vl 140 1 jC a))] [] (zE (eC kK vP yJ)<|zM<|zM<|zM<|zZ) ?_
   refine jE ⟨_,(.tmp (d:=(.sl 140 1 (List.map jC []))) rfl (.tmp (d:=(.sl 140 1 (List.map jC a))) rfl .nil)),?_⟩
   have hlt:=cmpI_neg h2
   rw[Nat.div_eq_of_lt hlt,Nat.mod_eq_of_lt hlt,uD,← can_eq hda];rfl
  ·replace h2:=uX h2
   obtain ⟨u,hue⟩:∃ u,u=ofNat (val a*dK b):=⟨_,rfl⟩
   obtain ⟨v,hve⟩:∃ v,v=ofNat (val b*dK b):=⟨_,rfl⟩
   have hu:Dig u:=by rw[hue];exact kJ _
   have hcv:yG v:=by rw[hve];exact qF _
   have hvd:=hcv.1
   have hvl:v.length=b.length:=by rw[hve];exact scl_len hdb hb0
   have hvv:val v=val b*dK b:=by rw[hve];exact kD _
   have huv:val u=val a*dK b:=by rw[hue];exact kD _
   have hab:=len_of_le hda hdb (cmpI_nn h2)
   have hul:a.length≤u.length∧u.length≤a.length+1:=by rw[hue];exact scl_lenA hda hdb hb0
   have hvp:=cP hcv (by omega)
   have hpv:pw (b.length-1)≤val v:=by have h1:=val_top hvd (by omega);have h3:=iM hcv (by omega);rw[hvl] at h1 h3;have h2:=Nat.mul_le_mul_right (pw (b.length-1)) h3.1;omega
   refine jD<|jB<|kx [(9,(gE (dK b)))] [] (zM<|zM<|zE (oSb (b.length-1))<|zE (xJ kK (b.length-1) (0:Nat))<|zE (xO qR)<|zE (cA yT yR (b.getD (b.length-1) 0))<|zE (vT ((b.getD (b.length-1) 0)+1))<|zE (oQu (dK b) (hr:=by exact (quo_u64 1000000000 (b.getD (b.length-1) 0+1) (by decide))))<|zM<|zZ) ?_
   refine jB<|kx [(0,(vl 140 1 jC u)),(1,(vl 140 1 jC v))] [] (zM<|zM<|zE (jX (hue▸r_scaled a (dK b) hda.1 (by omega) (by omega)))<|zM<|zM<|zE (jX (hve▸r_scaled b (dK b) hdb.1 (by omega) (by omega)))<|zM<|zM<|zZ) ?_
   refine jB<|kx [(10,(vl 140 1 jC (ofNat (val (List.drop ((u.length-b.length)+1) u)))))] [] (zM<|zM<|zE (uE kK)<|zM<|zE (oSb (u.length-b.length))<|zE (vT ((u.length-b.length)+1))<|zE (e_slc (l:=((u.length-b.length)+1)) (h:=(List.map jC u).length) (kl:=.i64) (kh:=.i64) (es':=List.map jC (List.drop ((u.length-b.length)+1) u)) (by exact rfl) kK (by exact rfl) (by exact rfl) (by exact rfl) (by simp only[List.length_map];omega) (Nat.le_refl _) (by rw[List.take_length,List.map_drop]))<|zE (jX (nX false (List.drop ((u.length-b.length)+1) u) (hu.drop _) (by rw[List.length_drop];omega)))<|zE (oF1 aM xZ)<|zM<|zZ) ?_
   refine jB<|kx [(11,(.own 0 140 1 ((u.length-b.length)+1)))] [(0,some (bm jC (List.replicate ((u.length-b.length)+1) 0)))] (zM<|zE (uE kK)<|zM<|zE (oSb (u.length-b.length))<|zE (vT ((u.length-b.length)+1))<|zN (oMk 0 jC (0:Nat) ((u.length-b.length)+1) ((u.length-b.length)+1) kK vP yJ nS)<|zM<|zZ) ?_
   refine jB<|jB<|kx [(12,(vi ((((u.length-b.length)+1:Nat):Int)-1)))] [] (zM<|zE (uE kK)<|zM<|zE (zSb ((((u.length-b.length)+1:Nat):Int)-1))<|zM<|zZ) ?_
   refine jH<|kB (α:=Nat × List Nat × List Nat) (fun (k,r,q)=>⟨[(0,(vl 140 1 jC u)),(1,(vl 140 1 jC v)),(6,(jR b.length)),(9,(gE (dK b))),(10,(vl 140 1 jC r)),(11,(.own 0 140 1 ((u.length-b.length)+1))),(12,(vi (((k:Nat):Int)-1)))],[(0,some (bm jC q))]⟩) (fun (k,r,q)=>yG r∧k≤((u.length-b.length)+1)∧q.length=((u.length-b.length)+1)∧Dig q∧val r<val v∧val (u.drop k)=val v*val (q.drop k)+val r) (fun (k,r,q)=>k) (((u.length-b.length)+1),ofNat (val (List.drop ((u.length-b.length)+1) u)),List.replicate ((u.length-b.length)+1) 0) wk ⟨qF _,Nat.le_refl _,by simp,zW _,by rw[kD];have h7:=vX (hu.drop ((u.length-b.length)+1));rw[List.length_drop,show u.length-((u.length-b.length)+1)=b.length-1 by omega] at h7;omega,by rw[kD];simp [val]⟩ ?_
   rintro ⟨k,r,q⟩ ⟨hrc,hk,hql,hqd,hr,hv⟩
   refine jB<|jB<|kx [(75,(vb (decide (0≤(((k:Nat):Int)-1)))))] [] (zM<|zE oGe<|zZ) ?_
   refine jF (b:=decide (0≤(((k:Nat):Int)-1))) rfl (fun h3=>?_) (fun h3=>?_)
   ·replace h3:=uW h3
    obtain ⟨i,rfl⟩:∃ i,k=i+1:=⟨k-1,by omega⟩
    rw[show (((i+1:Nat):Int)-1)=((i:Nat):Int) from by omega]
    have hgu:=hu.getD i
    have hW:(u.getD i 0+1000000000*val r)<1000000000*val v:=by omega
    have hrs:=rshift_val u hv
    obtain ⟨hg1,hg2⟩:=rguess hvd hvl hb0 hW
    have hgv:=hvd.getD (b.length-1)
    have hgw1:=(kJ (u.getD i 0+1000000000*val r)).getD b.length
    have hgw2:=(kJ (u.getD i 0+1000000000*val r)).getD (b.length-1)
    have hrl:r.length≤b.length:=by have h9:=vG (Nat.le_of_lt hr);rwa [← can_eq hrc,← can_eq hcv,hvl] at h9
    have hwl:(ofNat (u.getD i 0+1000000000*val r)).length≤b.length+1:=qX (by rw[uS];have:=vX hvd;rw[hvl] at this;omega)
    refine jD<|jB<|jH<|jB<|kx [(10,(vl 140 1 jC (ofNat ((u.getD i 0)+1000000000*val r)))),(12,(jR i))] [] (zM<|zM<|zM<|zE (xJ kK i (0:Nat))<|zE (xO qR)<|zE (jX (r_shifted r (u.getD i 0) hrc.1 (by omega) (by omega)))<|zM<|zZ) ?_
    refine jB<|kd [(13,(gE (((((ofNat ((u.getD i 0)+1000000000*val r)).getD b.length 0)*1000000000)+((ofNat ((u.getD i 0)+1000000000*val r)).getD (b.length-1) 0)) / ((v.getD (b.length-1) 0)+1))))] [] mo (wM<|wM<|wE (jX (aC (ofNat ((u.getD i 0)+1000000000*val r)) b.length (kJ _)))<|wE (oMl (((ofNat ((u.getD i 0)+1000000000*val r)).getD b.length 0)*1000000000))<|wM<|wM<|wE (oSb (b.length-1))<|wE (jX (aC (ofNat ((u.getD i 0)+1000000000*val r)) (b.length-1) (by first | assumption | exact kJ _ | exact (qF _).1 | exact (qN _).1)))<|wE (vT ((((ofNat ((u.getD i 0)+1000000000*val r)).getD b.length 0)*1000000000)+((ofNat ((u.getD i 0)+1000000000*val r)).getD (b.length-1) 0)))<|wM<|wM<|wE (oSb (b.length-1))<|wE (xJ kK (b.length-1) (0:Nat))<|wE (xO qR)<|wE (cA yT yR (v.getD (b.length-1) 0))<|wE (vT ((v.getD (b.length-1) 0)+1))<|wE (oQu (((((ofNat ((u.getD i 0)+1000000000*val r)).getD b.length 0)*1000000000)+((ofNat ((u.getD i 0)+1000000000*val r)).getD (b.length-1) 0)) / ((v.getD (b.length-1) 0)+1)))<|wM<|wZ) ?_
    refine jB<|kx [(10,(vl 140 1 jC (ofNat (val (ofNat ((u.getD i 0)+1000000000*val r))-val (ofNat (val v*(((((ofNat ((u.getD i 0)+1000000000*val r)).getD b.length 0)*1000000000)+((ofNat ((u.getD i 0)+1000000000*val r)).getD (b.length-1) 0)) / ((v.getD (b.length-1) 0)+1))))))))] [] (zM<|zM<|zM<|zE (jX (r_scaled v (((((ofNat ((u.getD i 0)+1000000000*val r)).getD b.length 0)*1000000000)+((ofNat ((u.getD i 0)+1000000000*val r)).getD (b.length-1) 0)) / ((v.getD (b.length-1) 0)+1)) hvd (by omega) (by omega)))<|zE (jX (r_minus (ofNat ((u.getD i 0)+1000000000*val r)) (ofNat (val v*(((((ofNat ((u.getD i 0)+1000000000*val r)).getD b.length 0)*1000000000)+((ofNat ((u.getD i 0)+1000000000*val r)).getD (b.length-1) 0)) / ((v.getD (b.length-1) 0)+1)))) (kJ _) (kJ _) (by rw[kD,kD,Nat.mul_comm];exact hg1) (by omega)))<|zM<|zZ) ?_
    refine jB<|jH<|kB (α:=Nat × List Nat) (fun (G,r2)=>⟨[(0,(vl 140 1 jC u)),(1,(vl 140 1 jC v)),(6,(jR b.length)),(9,(gE (dK b))),(10,(vl 140 1 jC r2)),(11,(.own 0 140 1 ((u.length-b.length)+1))),(12,(jR i)),(13,(gE G))],[(0,some (bm jC q))]⟩) (fun (G,r2)=>yG r2∧val v*G+val r2=(u.getD i 0+1000000000*val r)) (fun (G,r2)=>val r2) ((((ofNat (u.getD i 0+1000000000*val r)).getD b.length 0*1000000000+(ofNat (u.getD i 0+1000000000*val r)).getD (b.length-1) 0) / (v.getD (b.length-1) 0+1)),ofNat (val (ofNat (u.getD i 0+1000000000*val r))-val (ofNat (val v*(((ofNat (u.getD i 0+1000000000*val r)).getD b.length 0*1000000000+(ofNat (u.getD i 0+1000000000*val r)).getD (b.length-1) 0) / (v.getD (b.length-1) 0+1)))))) wk ⟨qF _,by rw[kD,kD,kD];rw[Nat.mul_comm] at hg1;omega⟩ ?_
    rintro ⟨G,r2⟩ ⟨hr2,hr2v⟩
    have hr2l:r2.length≤b.length+1:=by have h9:=vG (show val r2≤(u.getD i 0+1000000000*val r) by omega);rw[← can_eq hr2] at h9;omega
    refine jB<|jB<|kx [(109,(vb (decide (0≤(vB ((val r2:Nat):Int) ((val v:Nat):Int))))))] [] (zM<|zM<|zE (jX (r_size r2 v hr2 hcv (by omega) (by omega)))<|zE oGe<|zZ) ?_
    refine jF rfl (fun h4=>?_) (fun h4=>?_)
    ·replace h4:=uW h4
     have hge:=iF h4
     have hG:=rquo_lt hr2v hW
     have hr2l:r2.length≤b.length+1:=by have h9:=vG (show val r2≤(u.getD i 0+1000000000*val r) by omega);rw[← can_eq hr2] at h9;omega
     refine jD<|jH<|jB<|kx [(10,(vl 140 1 jC (ofNat (val r2-val v))))] [] (zM<|zM<|zE (jX (r_minus r2 v hr2.1 hvd (by omega) (by omega)))<|zM<|zZ) ?_
     refine kx [(13,(gE (G+1)))] [] (zM<|zE (vT (G+1))<|zM<|zZ) ?_
     exact ⟨(G+1,ofNat (val r2-val v)),wk,(by have hge:=iF h4;exact ⟨qF _,by rw[kD,Nat.mul_add,Nat.mul_one];omega⟩),(by have hge:=iF h4;dsimp only;rw[kD];omega)⟩
    ·replace h4:=uX h4
     have hG:=rquo_lt hr2v hW
     have hlt:val r2<val v:=by have h9:=cmpI_lt h4;omega
     refine kC<|kx [] [(0,some (bm jC (q.set i G)))] (zM<|zM<|zM<|zE (cA nE gU G)<|zE (fV kK i)<|zT (oSp qR i G)<|zZ) ?_
     refine kx [(12,(vi (((i:Nat):Int)-1)))] [] (zM<|zE (zSb (((i:Nat):Int)-1))<|zM<|zZ) ?_
     exact ⟨(i,r2,q.set i G),wk,⟨hr2,by omega,by simpa using hql,hqd.set _ hG,hlt,rround (by omega) (by rw[hr2v];exact hrs)⟩,(by first|omega|(dsimp only;omega))⟩
   ·replace h3:=uX h3
    obtain rfl:k=0:=by omega
    obtain ⟨e1,e2⟩:=scl_div (a:=a) (b:=b) (q:=q) (u:=r) hdb hb0 (by rw[List.drop_zero,List.drop_zero] at hv;rw[cJ,Nat.one_mul,List.drop_zero,← huv,← hvv,hv];omega) (by rw[List.drop_zero,← hvv];exact hr)
    have hrl:r.length≤b.length:=by have h9:=vG (Nat.le_of_lt hr);rwa [← can_eq hrc,← can_eq hcv,hvl] at h9
    refine kC<|jB<|kx [(14,(vl 140 1 jC (ofNat (val r / (dK b)))))] [] (zM<|zM<|zE (jX (r_short r (dK b) hrc.1 (by omega) (by omega) (by omega)))<|zM<|zE xD<|zE xD<|zM<|zM<|zZ) ?_
    refine jB<|kV (vN (t:=11) (k:=0) (es:=List.map jC q) rfl rfl (uI _ _ (fun _=>rfl)) (uT _ _ hql) (vH _ _ (fun _=>rfl) hql)) ?_
    refine kx [(4,(vl 140 1 jC (ofNat (val q)))),(5,(vl 140 1 jC (ofNat (val r / (dK b)))))] [] (zM<|zE (jX (nX false q hqd (by omega)))<|zE (oF1 aM xZ)<|zM<|zM<|zM<|zZ) ?_
    refine jE ⟨_,(.tmp (d:=(.sl 140 1 (List.map jC (ofNat (val q))))) rfl (.tmp (d:=(.sl 140 1 (List.map jC (ofNat (val r / (dK b)))))) rfl .nil)),?_⟩
    rw[← e1,← e2];rfl
theorem cb117:callB Tryz.prog 117=true:=by kernel_rfl
theorem cb118:callB Tryz.prog 118=true:=by kernel_rfl
theorem cb146:callB Tryz.prog 146=true:=by kernel_rfl
theorem r_gcd(x:kU)(y:kU)(hx:x.gs.length≤1099511627776)(hy:y.gs.length≤1099511627776):jP Tryz.prog 118 [(jO x),(jO y)] (jO (kH ((Int.gcd (kA x) (kA y):Nat):Int))):=by
 have hvx:=eA x
 have hvy:=eA y
 refine jI Tryz.func118 rfl cb118 rfl ?_
 show qJ _ _ _ _ ⟨[(0,(.d (jO x))),(1,(.d (jO y)))],[]⟩
 refine jB<|kx [(2,(.ref 0 0)),(3,(.ref 1 0)),(4,(.ref 2 0))] [(0,some (bx (jO x))),(1,some (bx (jO y))),(2,some (bx (jO (kU.mk false []))))] (zN (vW 0)<|zN (vW 1)<|zN (uF 2 yN yL)<|zZ) ?_
 refine jB<|kd [(5,(vl 140 1 jC (ofNat (Int.natAbs (kA x))))),(6,(vl 140 1 jC (ofNat (Int.natAbs (kA y)))))] [] mo (wR (kM jY)<|wE (jX (eF x (by omega)))<|wE (oF1 aM xZ)<|wR (kM jY)<|wE (jX (eF y (by omega)))<|wE (oF1 aM xZ)<|wM<|wM<|wZ) ?_
 refine jB<|jH<|kB (α:=List Nat × List Nat) (fun (a,b)=>⟨[(4,(.ref 2 0)),(5,(vl 140 1 jC a)),(6,(vl 140 1 jC b))],[(2,some (bx (jO (kU.mk false []))))]⟩) (fun (a,b)=>yG a∧yG b∧a.length≤1099511627776∧b.length≤1099511627776∧Nat.gcd (val a) (val b)=Int.gcd (kA x) (kA y)) (fun (a,b)=>val b) ((ofNat (Int.natAbs (kA x))),(ofNat (Int.natAbs (kA y)))) wk ⟨qF _,qF _,by omega,by omega,by rw[kD,kD];rfl⟩ ?_
 rintro ⟨a,b⟩ ⟨ha,hb,hla,hlb,hg⟩
 refine jB<|jB<|kx [(29,(vb (decide (0<((b.length:Nat):Int))&&(decide (2<((a.length:Nat):Int))||decide (2<((b.length:Nat):Int))))))] [] ?_ ?_
 ·refine zM<|zE (uE kK)<|zE mA<|zE (oV (vb (decide (0<((b.length:Nat):Int)))) (kR (by kernel_rfl)))<|?_
  rcases hb1:(decide (0<((b.length:Nat):Int))) with _ | _
  ·replace hb1:=uX hb1
   exact zK<|zK<|zK<|zK<|zK<|zK<|zK<|zK<|zE xN<|zZ
  ·replace hb1:=uW hb1
   refine zM<|zE (uE kK)<|zE mA<|zE (oV (vb (decide (2<((a.length:Nat):Int)))) (kR (by kernel_rfl)))<|?_
   rcases hb2:(decide (2<((a.length:Nat):Int))) with _ | _
   ·replace hb2:=uX hb2
    exact zM<|zE (uE kK)<|zE mA<|zE cG<|zE fM<|zZ
   ·replace hb2:=uW hb2
    exact zK<|zK<|zK<|zE xA<|zE xA<|zZ
 refine jF rfl (fun h3=>?_) (fun h3=>?_)
 ·have hbl:0<b.length:=by rw[Bool.and_eq_true,decide_eq_true_eq] at h3;omega
  have hb0:=cP hb hbl
  refine jD<|jH<|jB<|kx [(8,(vl 140 1 jC (ofNat (val a % val b))))] [] (zM<|zM<|zE (jX (r_parts a b ha hb (by omega) (by omega) (by omega)))<|zM<|zE xD<|zE xD<|zM<|zM<|zZ) ?_
  refine kx [(5,(vl 140 1 jC b)),(6,(vl 140 1 jC (ofNat (val a % val b))))] [] (zM<|zM<|zM<|zM<|zZ) ?_
  exact ⟨(b,ofNat (val a % val b)),wk,⟨hb,qF _,hlb,Nat.le_trans (len_rem a ha _) hla,by rw[kD,← hg,Nat.gcd_comm,← Nat.gcd_rec,Nat.gcd_comm]⟩,(by dsimp only;rw[kD];exact Nat.mod_lt _ hb0)⟩
 ·have hex:=h3
  refine kC<|jB<|jB<|kx [(40,(vb (((b.length:Nat):Int) == 0)))] [] (zM<|zE (uE kK)<|zE gD<|zZ) ?_
  refine jF (b:=(((b.length:Nat):Int) == 0)) rfl (fun h4=>?_) (fun h4=>?_)
  ·replace h4:=eq_of_beq h4
   have hb1:b=[]:=List.eq_nil_of_length_eq_zero (by omega)
   rw[hb1,val_nil,Nat.gcd_zero_right] at hg
   refine jB<|kx [] [(2,some (bx (jO (xH false (val a)))))] (zM<|zE (jX (nX false a ha.1 (by omega)))<|zT (qK jY)<|zZ) ?_
   refine jE ⟨_,(kN (cs:=(bx (jO (xH false (val a))))) (d:=(jO (xH false (val a)))) rfl rfl jY rfl rfl .nil),?_⟩
   rw[← hg,mkI_false];rfl
  ·replace h4:=ne_of_beq_false h4
   have hl2:a.length≤2∧b.length≤2:=by simp only[Bool.and_eq_false_iff,Bool.or_eq_false_iff,decide_eq_false_iff_not] at hex;omega
   refine jD<|jB<|kx [(9,(gE (val a))),(10,(gE (val b)))] [] (zM<|zE (jX (r_pair a ha.1 (by omega)))<|zM<|zE (jX (r_pair b hb.1 (by omega)))<|zM<|zM<|zZ) ?_
   refine jB<|jH<|kB (α:=Nat × Nat) (fun (m,n)=>⟨[(4,(.ref 2 0)),(9,(gE m)),(10,(gE n))],[(2,some (bx (jO (kU.mk false []))))]⟩) (fun (m,n)=>m<1000000000000000000∧n<1000000000000000000∧Nat.gcd m n=Int.gcd (kA x) (kA y)) (fun (m,n)=>n) (val a,val b) wk ⟨val_len2 ha.1 hl2.1,val_len2 hb.1 hl2.2,hg⟩ ?_
   rintro ⟨m,n⟩ ⟨hm,hn,hg2⟩
   refine jB<|jB<|kx [(48,(vb (decide (0<((n:Nat):Int)))))] [] (zM<|zE mA<|zZ) ?_
   refine jF (b:=decide (0<((n:Nat):Int))) rfl (fun h5=>?_) (fun h5=>?_)
   ·replace h5:=uW h5
    refine jD<|jH<|kd [(9,(gE n)),(10,(gE (m % n)))] [] mo (wM<|wM<|wM<|wE (oRe (m % n))<|wM<|wM<|wZ) ?_
    exact ⟨(n,m % n),wk,⟨hn,Nat.lt_of_le_of_lt (Nat.mod_le _ _) hm,by rw[← hg2,Nat.gcd_comm,← Nat.gcd_rec,Nat.gcd_comm]⟩,(by dsimp only;exact Nat.mod_lt _ (by omega))⟩
   ·replace h5:=uX h5
    obtain rfl:n=0:=by omega
    rw[Nat.gcd_zero_right] at hg2
    have hmv:val [m % 1000000000,m / 1000000000]=m:=by simp only[val];omega
    refine kC<|jB<|kx [] [(2,some (bx (jO (xH false (val [(m % 1000000000),(m / 1000000000)])))))] (zM<|zE (oRe (m % 1000000000))<|zE (cA nE gU (m % 1000000000))<|zM<|zE (oQu (m / 1000000000))<|zE (cA nE gU (m / 1000000000))<|zE (eC kK vP yJ)<|zE (jX (nX false [(m % 1000000000),(m / 1000000000)] (yV.2 ⟨Nat.mod_lt _ (by decide),yV.2 ⟨by omega,gW⟩⟩) (by simp)))<|zT (qK jY)<|zZ) ?_
    refine jE ⟨_,(kN (cs:=(bx (jO (xH false (val [(m % 1000000000),(m / 1000000000)]))))) (d:=(jO (xH false (val [(m % 1000000000),(m / 1000000000)])))) rfl rfl jY rfl rfl .nil),?_⟩
    rw[← hg2,hmv,mkI_false];rfl
theorem r_compare(x:kU)(y:kU)(hx:x.gs.length≤274877906944)(hy:y.gs.length≤274877906944):jP Tryz.prog 117 [(jO x),(jO y)] (.val (.int .i64 ((vB (kA x) (kA y))))):=by
 have hv:=gs_sub x y
 refine jI Tryz.func117 rfl cb117 rfl ?_
 show qJ _ _ _ _ ⟨[(0,(.d (jO x))),(1,(.d (jO y)))],[]⟩
 refine jB<|kx [(2,(.ref 0 0)),(3,(.ref 1 0))] [(0,some (bx (jO x))),(1,some (bx (jO y)))] (zN (vW 0)<|zN (vW 1)<|zM<|zZ) ?_
 refine jB<|kx [(4,(vi (qZ (kA (kH (kA x-kA y))))))] [] (zR (kM jY)<|zR (kM jY)<|zE (jX (r_sub x y (by omega) (by omega)))<|zE (jX (r_sign (kH (kA x-kA y)) (by omega)))<|zM<|zZ) ?_
 refine jE ⟨_,(.tmp (d:=(.val (.int .i64 ((qZ (kA (kH (kA x-kA y)))))))) rfl .nil),?_⟩
 rw[cV,signI_sub];rfl
theorem r_divide(x:kU)(y:kU)(hx:x.gs.length≤274877906944)(hy:y.gs.length≤274877906944)(hy0:kA y≠0):jP Tryz.prog 146 [(jO x),(jO y)] (.tup [(jO (kH ((kA x).fdiv (kA y)))),(jO (kH ((kA x).fmod (kA y)))),(.val (.int .i64 (0)))]):=by
 have hvx:=eA x
 have hvy:=eA y
 have hmx:=gs_val x
 have hmy:=gs_val y
 have hy1:0<(kA y).natAbs:=by omega
 have hyl:=eE hy1
 have hql:(ofNat (val (ofNat (Int.natAbs (kA x))) / val (ofNat (Int.natAbs (kA y))))).length≤274877906944:=by have:=len_quo (ofNat (Int.natAbs (kA x))) (qF _) (val (ofNat (Int.natAbs (kA y))));omega
 have hqg:(xH (!((kH (kA x)).neg == (kH (kA y)).neg)) (val (ofNat (val (ofNat (Int.natAbs (kA x))) / val (ofNat (Int.natAbs (kA y))))))).gs.length≤274877906944:=by show (ofNat (val (ofNat (val (ofNat (Int.natAbs (kA x))) / val (ofNat (Int.natAbs (kA y))))))).length≤_;rw[kD];exact hql
 have dX:(kH 1).gs.length≤1:=(bJ (z:=1) (by decide)).l
 have hqs:=gs_sub (xH (!((kH (kA x)).neg == (kH (kA y)).neg)) (val (ofNat (val (ofNat (Int.natAbs (kA x))) / val (ofNat (Int.natAbs (kA y))))))) (kH 1)
 refine jI Tryz.func146 rfl cb146 rfl ?_
 show qJ _ _ _ _ ⟨[(0,(.d (jO x))),(1,(.d (jO y)))],[]⟩
 refine jB<|kx [(2,(.ref 0 0)),(3,(.ref 1 0)),(4,(.ref 2 0)),(5,(.ref 3 0))] [(0,some (bx (jO x))),(1,some (bx (jO y))),(2,some (bx (jO (kU.mk false [])))),(3,some (bx (jO (kU.mk false []))))] (zN (vW 0)<|zN (vW 1)<|zN (uF 2 yN yL)<|zN (uF 3 yN yL)<|zM<|zZ) ?_
 refine jB<|kd [] [(0,some (bx (jO (kH (kA x))))),(1,some (bx (jO (kH (kA y)))))] mo (wR (kM jY)<|wE (jX (eF x (by omega)))<|wR (kM jY)<|wE (jX (eF y (by omega)))<|wT (qK jY)<|wT (qK jY)<|wZ) ?_
 refine jB<|jB<|kx [(17,(vb ((((ofNat (Int.natAbs (kA y))).length:Nat):Int) == 0)))] [] (zE (qE vS)<|zR (uN xZ)<|zE (uE kK (L:=(ofNat (Int.natAbs (kA y)))))<|zE gD<|zZ) ?_
 refine jF rfl (fun h1=>?_) (fun h1=>?_)
 ·replace h1:=eq_of_beq h1
  exact absurd h1 (by omega)
 ·replace h1:=ne_of_beq_false h1
  refine jD<|jB<|kx [(7,(vl 140 1 jC (ofNat (val (ofNat (Int.natAbs (kA x))) / val (ofNat (Int.natAbs (kA y))))))),(8,(vl 140 1 jC (ofNat (val (ofNat (Int.natAbs (kA x))) % val (ofNat (Int.natAbs (kA y)))))))] [] (zE (qE vS)<|zR (uN xZ)<|zE (qE vS)<|zR (uN xZ)<|zE (jX (r_parts (ofNat (Int.natAbs (kA x))) (ofNat (Int.natAbs (kA y))) (by first | assumption | exact qF _ | exact qN _) (by first | assumption | exact qF _ | exact qN _) (by omega) (by omega) (by omega)))<|zM<|zE xD<|zE xD<|zM<|zM<|zZ) ?_
  refine jB<|kx [(9,(.ref 4 0))] [(4,some (bx (jO (xH (!(((kH (kA x)).neg) == ((kH (kA y)).neg))) (val (ofNat (val (ofNat (Int.natAbs (kA x))) / val (ofNat (Int.natAbs (kA y))))))))))] (zE (qE vL)<|zR (uN aU)<|zE (qE vL)<|zR (uN aU)<|zE (oNb bo4)<|zM<|zE (jX (nX (!(((kH (kA x)).neg) == ((kH (kA y)).neg))) (ofNat (val (ofNat (Int.natAbs (kA x))) / val (ofNat (Int.natAbs (kA y))))) (kJ _) (by omega)))<|zN (uF 4 yN yL)<|zT (qK jY)<|zZ) ?_
  refine jB<|jB<|kx [(44,(vb (!(((kH (kA x)).neg) == ((kH (kA y)).neg))&&decide (0<(((ofNat (val (ofNat (Int.natAbs (kA x))) % val (ofNat (Int.natAbs (kA y))))).length:Nat):Int)))))] [] ?_ ?_
  ·refine zE (qE vL)<|zR (uN aU)<|zE (qE vL)<|zR (uN aU)<|zE (oNb bo4)<|zE (oV (vb (!(((kH (kA x)).neg) == ((kH (kA y)).neg)))) (kR (by kernel_rfl)))<|?_
   rcases hb2:(!(((kH (kA x)).neg) == ((kH (kA y)).neg))) with _ | _
   ·exact zK<|zK<|zK<|zE xN<|zZ
   ·exact zM<|zE (uE kK (L:=(ofNat (val (ofNat (Int.natAbs (kA x))) % val (ofNat (Int.natAbs (kA y)))))))<|zE mA<|zE fM<|zZ
  refine jF rfl (fun h3=>?_) (fun h3=>?_)
  ·have hqm:=gs_mul (kH (kA (xH (!((kH (kA x)).neg == (kH (kA y)).neg)) (val (ofNat (val (ofNat (Int.natAbs (kA x))) / val (ofNat (Int.natAbs (kA y)))))))-kA (kH 1))) (kH (kA y))
   have hk:=r_div_other (X:=kA x) (Y:=kA y) hy1 (by rw[Bool.and_eq_true,Bool.not_eq_true',beq_eq_false_iff_ne,decide_eq_true_eq] at h3;exact h3)
   refine kd [] [(4,some (bx (jO (kH (kA (xH (!(((kH (kA x)).neg) == ((kH (kA y)).neg))) (val (ofNat (val (ofNat (Int.natAbs (kA x))) / val (ofNat (Int.natAbs (kA y)))))))-kA (kH 1))))))] mo (wR (kM jY)<|wE (jX (r_of 1 (by omega) (by omega)))<|wE (jX (r_sub (xH (!(((kH (kA x)).neg) == ((kH (kA y)).neg))) (val (ofNat (val (ofNat (Int.natAbs (kA x))) / val (ofNat (Int.natAbs (kA y))))))) (kH 1) (by omega) (by omega)))<|wT (qK jY)<|wZ) ?_
   refine jB<|kd [(6,(jR 0))] [(2,some (bx (jO (kH (kA (xH (!(((kH (kA x)).neg) == ((kH (kA y)).neg))) (val (ofNat (val (ofNat (Int.natAbs (kA x))) / val (ofNat (Int.natAbs (kA y)))))))-kA (kH 1)))))),(3,some (bx (jO (kH (kA (kH (kA x))-kA (kH (kA (kH (kA (xH (!(((kH (kA x)).neg) == ((kH (kA y)).neg))) (val (ofNat (val (ofNat (Int.natAbs (kA x))) / val (ofNat (Int.natAbs (kA y)))))))-kA (kH 1)))*kA (kH (kA y)))))))))] mo (wR (kM jY)<|wR (kM jY)<|wR (kM jY)<|wR (kM jY)<|wE (jX (r_mul (kH (kA (xH (!(((kH (kA x)).neg) == ((kH (kA y)).neg))) (val (ofNat (val (ofNat (Int.natAbs (kA x))) / val (ofNat (Int.natAbs (kA y)))))))-kA (kH 1))) (kH (kA y)) (by omega) (by omega)))<|wE (jX (r_sub (kH (kA x)) (kH (kA (kH (kA (xH (!(((kH (kA x)).neg) == ((kH (kA y)).neg))) (val (ofNat (val (ofNat (Int.natAbs (kA x))) / val (ofNat (Int.natAbs (kA y)))))))-kA (kH 1)))*kA (kH (kA y)))) (by omega) (by omega)))<|wT (qK jY)<|wT (qK jY)<|wM<|wZ) ?_
   refine jE ⟨_,(kN (cs:=(bx (jO (kH (kA (xH (!(((kH (kA x)).neg) == ((kH (kA y)).neg))) (val (ofNat (val (ofNat (Int.natAbs (kA x))) / val (ofNat (Int.natAbs (kA y)))))))-kA (kH 1)))))) (d:=(jO (kH (kA (xH (!(((kH (kA x)).neg) == ((kH (kA y)).neg))) (val (ofNat (val (ofNat (Int.natAbs (kA x))) / val (ofNat (Int.natAbs (kA y)))))))-kA (kH 1))))) rfl rfl jY rfl rfl (kN (cs:=(bx (jO (kH (kA (kH (kA x))-kA (kH (kA (kH (kA (xH (!(((kH (kA x)).neg) == ((kH (kA y)).neg))) (val (ofNat (val (ofNat (Int.natAbs (kA x))) / val (ofNat (Int.natAbs (kA y)))))))-kA (kH 1)))*kA (kH (kA y))))))))) (d:=(jO (kH (kA (kH (kA x))-kA (kH (kA (kH (kA (xH (!(((kH (kA x)).neg) == ((kH (kA y)).neg))) (val (ofNat (val (ofNat (Int.natAbs (kA x))) / val (ofNat (Int.natAbs (kA y)))))))-kA (kH 1)))*kA (kH (kA y)))))))) rfl rfl jY rfl rfl (.tmp (d:=(.val (.int .i64 (0)))) rfl .nil))),?_⟩
   rw[hk,r_rem_eq];rfl
  ·have hqm:=gs_mul (xH (!((kH (kA x)).neg == (kH (kA y)).neg)) (val (ofNat (val (ofNat (Int.natAbs (kA x))) / val (ofNat (Int.natAbs (kA y))))))) (kH (kA y))
   have hk:=r_div_same (X:=kA x) (Y:=kA y) hy1 (by rw[Bool.and_eq_false_iff,Bool.not_eq_false',beq_iff_eq,decide_eq_false_iff_not] at h3;exact h3)
   refine jD<|jB<|kd [(6,(jR 0))] [(2,some (bx (jO (xH (!(((kH (kA x)).neg) == ((kH (kA y)).neg))) (val (ofNat (val (ofNat (Int.natAbs (kA x))) / val (ofNat (Int.natAbs (kA y)))))))))),(3,some (bx (jO (kH (kA (kH (kA x))-kA (kH (kA (xH (!(((kH (kA x)).neg) == ((kH (kA y)).neg))) (val (ofNat (val (ofNat (Int.natAbs (kA x))) / val (ofNat (Int.natAbs (kA y)))))))*kA (kH (kA y)))))))))] mo (wR (kM jY)<|wR (kM jY)<|wR (kM jY)<|wR (kM jY)<|wE (jX (r_mul (xH (!(((kH (kA x)).neg) == ((kH (kA y)).neg))) (val (ofNat (val (ofNat (Int.natAbs (kA x))) / val (ofNat (Int.natAbs (kA y))))))) (kH (kA y)) (by omega) (by omega)))<|wE (jX (r_sub (kH (kA x)) (kH (kA (xH (!(((kH (kA x)).neg) == ((kH (kA y)).neg))) (val (ofNat (val (ofNat (Int.natAbs (kA x))) / val (ofNat (Int.natAbs (kA y)))))))*kA (kH (kA y)))) (by omega) (by omega)))<|wT (qK jY)<|wT (qK jY)<|wM<|wZ) ?_
   refine jE ⟨_,(kN (cs:=(bx (jO (xH (!(((kH (kA x)).neg) == ((kH (kA y)).neg))) (val (ofNat (val (ofNat (Int.natAbs (kA x))) / val (ofNat (Int.natAbs (kA y)))))))))) (d:=(jO (xH (!(((kH (kA x)).neg) == ((kH (kA y)).neg))) (val (ofNat (val (ofNat (Int.natAbs (kA x))) / val (ofNat (Int.natAbs (kA y))))))))) rfl rfl jY rfl rfl (kN (cs:=(bx (jO (kH (kA (kH (kA x))-kA (kH (kA (xH (!(((kH (kA x)).neg) == ((kH (kA y)).neg))) (val (ofNat (val (ofNat (Int.natAbs (kA x))) / val (ofNat (Int.natAbs (kA y)))))))*kA (kH (kA y))))))))) (d:=(jO (kH (kA (kH (kA x))-kA (kH (kA (xH (!(((kH (kA x)).neg) == ((kH (kA y)).neg))) (val (ofNat (val (ofNat (Int.natAbs (kA x))) / val (ofNat (Int.natAbs (kA y)))))))*kA (kH (kA y)))))))) rfl rfl jY rfl rfl (.tmp (d:=(.val (.int .i64 (0)))) rfl .nil))),?_⟩
   rw[hk,r_rem_eq];rfl
end Go.Proofs.YtnajallgoaiahaaGreatDoor
