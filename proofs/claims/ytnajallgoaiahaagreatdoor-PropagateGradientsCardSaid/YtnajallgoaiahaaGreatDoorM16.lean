/- Part 16 of a proof: rules, plain facts, and functions walked. -/
import Derived.Test.YtnajallgoaiahaaGreatDoorM15
set_option linter.unusedVariables false
set_option linter.unusedSimpArgs false
set_option maxRecDepth 4000
namespace Go.Proofs.YtnajallgoaiahaaGreatDoor
open Go.Fid
theorem cb83:callB Tryz.prog 83=true:=by kernel_rfl
theorem cb87:callB Tryz.prog 87=true:=by kernel_rfl
theorem cb96:callB Tryz.prog 96=true:=by kernel_rfl
theorem cb145:callB Tryz.prog 145=true:=by kernel_rfl
theorem cb175:callB Tryz.prog 175=true:=by kernel_rfl
theorem cb176:callB Tryz.prog 176=true:=by kernel_rfl
theorem cb177:callB Tryz.prog 177=true:=by kernel_rfl
theorem cb240:callB Tryz.prog 240=true:=by kernel_rfl
theorem r_neg(x:qG)(hx:x.gs.length≤1099511627776):jS Tryz.prog 145 [(jT x)] (jT (kS (-kH x))):=by
 have hvx:=eD x
 refine jJ Tryz.func145 rfl cb145 rfl ?_
 show qM _ _ _ _ ⟨[(0,(.d (jT x)))],[]⟩
 refine jB<|kx [(1,(.ref 0 0)),(2,(.ref 1 0))] [(0,some (bx (jT x))),(1,some (bx (jT (qG.mk false []))))] (zN (uY 0)<|zN (qW 1 gC gA)<|zZ) ?_
 refine jB<|kx [] [(0,some (bx (jT (kS (kH x)))))] (zR (kP kD)<|zE (kA (eI x (by omega)))<|zT (qF kD)<|zZ) ?_
 refine jB<|kx [] [(1,some (bx (jT (xX (!((kS (kH x)).neg)) (val (ofNat (Int.natAbs (kH x))))))))] (zE (qA xG)<|zR (qX bJ)<|zE mT<|zE (qA xN)<|zR (qX yH)<|zE (kA (mG (!((kS (kH x)).neg)) (ofNat (Int.natAbs (kH x))) (by first | assumption | exact kU _ | exact (qO _).1 | exact (uB _).1) (by omega)))<|zT (qF kD)<|zZ) ?_
 refine jG ⟨_,(kJ (cs:=(bx (jT (xX (!((kS (kH x)).neg)) (val (ofNat (Int.natAbs (kH x)))))))) (d:=(jT (xX (!((kS (kH x)).neg)) (val (ofNat (Int.natAbs (kH x))))))) rfl rfl kD rfl rfl .nil),?_⟩
 rw[← rneg_eq];rfl
theorem r_sign(x:qG)(hx:x.gs.length≤1099511627776):jS Tryz.prog 83 [(jT x)] (.val (.int .i64 ((uL (kH x))))):=by
 have hvx:=eD x
 refine jJ Tryz.func83 rfl cb83 rfl ?_
 show qM _ _ _ _ ⟨[(0,(.d (jT x)))],[]⟩
 refine jB<|kx [(1,(.ref 0 0))] [(0,some (bx (jT x)))] (zN (uY 0)<|zM<|zZ) ?_
 refine jB<|kx [] [(0,some (bx (jT (kS (kH x)))))] (zR (kP kD)<|zE (kA (eI x (by omega)))<|zT (qF kD)<|zZ) ?_
 refine jB<|jB<|kx [(8,(vb ((((ofNat (Int.natAbs (kH x))).length:Nat):Int) == 0)))] [] (zE (qA xN)<|zR (qX yH)<|zE (zD kV (L:=(ofNat (Int.natAbs (kH x)))))<|zE xR<|zZ) ?_
 refine jH rfl (fun h1=>?_) (fun h1=>?_)
 ·replace h1:=eq_of_beq h1
  refine jB<|kx [(2,(jK 0))] [] (zM<|zZ) ?_
  refine jG ⟨_,(.tmp (d:=(.val (.int .i64 (0)))) rfl .nil),?_⟩
  rw[rsign_zero h1];rfl
 ·replace h1:=ne_of_beq_false h1
  refine jF<|jB<|jB<|kx [(10,(vb ((kS (kH x)).neg)))] [] (zE (qA xG)<|zR (qX bJ)<|zZ) ?_
  refine jH (b:=(kS (kH x)).neg) rfl (fun h2=>?_) (fun h2=>?_)
  ·refine jB<|kx [(2,(vi (-1)))] [] (zM<|zZ) ?_
   refine jG ⟨_,(.tmp (d:=(.val (.int .i64 (-1)))) rfl .nil),?_⟩
   rw[rsign_neg h1 h2];rfl
  ·refine jF<|jB<|kx [(2,(jK 1))] [] (zM<|zZ) ?_
   refine jG ⟨_,(.tmp (d:=(.val (.int .i64 (1)))) rfl .nil),?_⟩
   rw[rsign_pos h1 h2];rfl
theorem r_add(x:qG)(y:qG)(hx:x.gs.length≤1099511627776)(hy:y.gs.length≤1099511627776):jS Tryz.prog 96 [(jT x),(jT y)] (jT (kS (kH x+kH y))):=by
 have hvx:=eD x
 have hvy:=eD y
 refine jJ Tryz.func96 rfl cb96 rfl ?_
 show qM _ _ _ _ ⟨[(0,(.d (jT x))),(1,(.d (jT y)))],[]⟩
 refine jB<|kx [(2,(.ref 0 0)),(3,(.ref 1 0)),(4,(.ref 2 0))] [(0,some (bx (jT x))),(1,some (bx (jT y))),(2,some (bx (jT (qG.mk false []))))] (zN (uY 0)<|zN (uY 1)<|zN (qW 2 gC gA)<|zZ) ?_
 refine jB<|kd [] [(0,some (bx (jT (kS (kH x))))),(1,some (bx (jT (kS (kH y)))))] mo (wR (kP kD)<|wE (kA (eI x (by omega)))<|wR (kP kD)<|wE (kA (eI y (by omega)))<|wT (qF kD)<|wT (qF kD)<|wZ) ?_
 refine jB<|jB<|kx [(13,(vb (((kS (kH x)).neg) == ((kS (kH y)).neg))))] [] (zE (qA xG)<|zR (qX bJ)<|zE (qA xG)<|zR (qX bJ)<|zE (oEb bo4)<|zZ) ?_
 refine jH rfl (fun h1=>?_) (fun h1=>?_)
 ·replace h1:=eq_of_beq h1
  refine jB<|kd [] [(2,some (bx (jT (xX ((kS (kH x)).neg) (val (ofNat (val (ofNat (Int.natAbs (kH x)))+val (ofNat (Int.natAbs (kH y))))))))))] mo (wE (qA xG)<|wR (qX bJ)<|wE (qA xN)<|wR (qX yH)<|wE (qA xN)<|wR (qX yH)<|wE (kA (r_plus (ofNat (Int.natAbs (kH x))) (ofNat (Int.natAbs (kH y))) (by first | assumption | exact kU _ | exact (qO _).1 | exact (uB _).1) (by first | assumption | exact kU _ | exact (qO _).1 | exact (uB _).1) (by omega) (by omega)))<|wE (kA (mG ((kS (kH x)).neg) (ofNat (val (ofNat (Int.natAbs (kH x)))+val (ofNat (Int.natAbs (kH y))))) (by first | assumption | exact kU _ | exact (qO _).1 | exact (uB _).1) (by first | omega | exact Nat.le_trans (add_len (kU _) (kU _)) (by omega) | exact Nat.le_trans (sub_len (kU _)) (by omega))))<|wT (qF kD)<|wZ) ?_
  refine jG ⟨_,(kJ (cs:=(bx (jT (xX ((kS (kH x)).neg) (val (ofNat (val (ofNat (Int.natAbs (kH x)))+val (ofNat (Int.natAbs (kH y)))))))))) (d:=(jT (xX ((kS (kH x)).neg) (val (ofNat (val (ofNat (Int.natAbs (kH x)))+val (ofNat (Int.natAbs (kH y))))))))) rfl rfl kD rfl rfl .nil),?_⟩
  rw[← rsum_same h1];rfl
 ·replace h1:=ne_of_beq_false h1
  refine jF<|jB<|jB<|kx [(27,(vb (decide (0≤(vN ((val (ofNat (Int.natAbs (kH x))):Nat):Int) ((val (ofNat (Int.natAbs (kH y))):Nat):Int))))))] [] (zE (qA xN)<|zR (qX yH)<|zE (qA xN)<|zR (qX yH)<|zE (kA (r_size (ofNat (Int.natAbs (kH x))) (ofNat (Int.natAbs (kH y))) (by first | assumption | exact qO _ | exact uB _) (by first | assumption | exact qO _ | exact uB _) (by omega) (by omega)))<|zE oGe<|zZ) ?_
  refine jH rfl (fun h2=>?_) (fun h2=>?_)
  ·replace h2:=vJ h2
   refine jB<|kd [] [(2,some (bx (jT (xX ((kS (kH x)).neg) (val (ofNat (val (ofNat (Int.natAbs (kH x)))-val (ofNat (Int.natAbs (kH y))))))))))] mo (wE (qA xG)<|wR (qX bJ)<|wE (qA xN)<|wR (qX yH)<|wE (qA xN)<|wR (qX yH)<|wE (kA (r_minus (ofNat (Int.natAbs (kH x))) (ofNat (Int.natAbs (kH y))) (by first | assumption | exact kU _ | exact (qO _).1 | exact (uB _).1) (by first | assumption | exact kU _ | exact (qO _).1 | exact (uB _).1) (by have:=iJ h2;omega) (by omega)))<|wE (kA (mG ((kS (kH x)).neg) (ofNat (val (ofNat (Int.natAbs (kH x)))-val (ofNat (Int.natAbs (kH y))))) (by first | assumption | exact kU _ | exact (qO _).1 | exact (uB _).1) (by first | omega | exact Nat.le_trans (add_len (kU _) (kU _)) (by omega) | exact Nat.le_trans (sub_len (kU _)) (by omega))))<|wT (qF kD)<|wZ) ?_
   refine jG ⟨_,(kJ (cs:=(bx (jT (xX ((kS (kH x)).neg) (val (ofNat (val (ofNat (Int.natAbs (kH x)))-val (ofNat (Int.natAbs (kH y)))))))))) (d:=(jT (xX ((kS (kH x)).neg) (val (ofNat (val (ofNat (Int.natAbs (kH x)))-val (ofNat (Int.natAbs (kH y))))))))) rfl rfl kD rfl rfl .nil),?_⟩
   rw[← rsum_first h1 (by have:=iJ h2;omega)];rfl
  ·replace h2:=vM h2
   refine jF<|jB<|kd [] [(2,some (bx (jT (xX ((kS (kH y)).neg) (val (ofNat (val (ofNat (Int.natAbs (kH y)))-val (ofNat (Int.natAbs (kH x))))))))))] mo (wE (qA xG)<|wR (qX bJ)<|wE (qA xN)<|wR (qX yH)<|wE (qA xN)<|wR (qX yH)<|wE (kA (r_minus (ofNat (Int.natAbs (kH y))) (ofNat (Int.natAbs (kH x))) (by first | assumption | exact kU _ | exact (qO _).1 | exact (uB _).1) (by first | assumption | exact kU _ | exact (qO _).1 | exact (uB _).1) (by have:=cmpI_lt h2;omega) (by omega)))<|wE (kA (mG ((kS (kH y)).neg) (ofNat (val (ofNat (Int.natAbs (kH y)))-val (ofNat (Int.natAbs (kH x))))) (by first | assumption | exact kU _ | exact (qO _).1 | exact (uB _).1) (by first | omega | exact Nat.le_trans (add_len (kU _) (kU _)) (by omega) | exact Nat.le_trans (sub_len (kU _)) (by omega))))<|wT (qF kD)<|wZ) ?_
   refine jG ⟨_,(kJ (cs:=(bx (jT (xX ((kS (kH y)).neg) (val (ofNat (val (ofNat (Int.natAbs (kH y)))-val (ofNat (Int.natAbs (kH x)))))))))) (d:=(jT (xX ((kS (kH y)).neg) (val (ofNat (val (ofNat (Int.natAbs (kH y)))-val (ofNat (Int.natAbs (kH x))))))))) rfl rfl kD rfl rfl .nil),?_⟩
   rw[← rsum_second h1 (by have:=cmpI_lt h2;omega)];rfl
theorem r_sub(x:qG)(y:qG)(hx:x.gs.length≤1099511627776)(hy:y.gs.length≤1099511627776):jS Tryz.prog 175 [(jT x),(jT y)] (jT (kS (kH x-kH y))):=by
 have hv:=gs_neg y
 refine jJ Tryz.func175 rfl cb175 rfl ?_
 show qM _ _ _ _ ⟨[(0,(.d (jT x))),(1,(.d (jT y)))],[]⟩
 refine jB<|kx [(2,(.ref 0 0)),(3,(.ref 1 0)),(4,(.ref 2 0))] [(0,some (bx (jT x))),(1,some (bx (jT y))),(2,some (bx (jT (qG.mk false []))))] (zN (uY 0)<|zN (uY 1)<|zN (qW 2 gC gA)<|zZ) ?_
 refine jB<|kd [] [(2,some (bx (jT (kS (kH x+kH (kS (-kH y)))))))] mo (wR (kP kD)<|wR (kP kD)<|wE (kA (r_neg y (by omega)))<|wE (kA (r_add x (kS (-kH y)) (by omega) (by omega)))<|wT (qF kD)<|wZ) ?_
 refine jG ⟨_,(kJ (cs:=(bx (jT (kS (kH x+kH (kS (-kH y))))))) (d:=(jT (kS (kH x+kH (kS (-kH y)))))) rfl rfl kD rfl rfl .nil),?_⟩
 rw[cT,← Int.sub_eq_add_neg];rfl
theorem r_mul(x:qG)(y:qG)(hx:x.gs.length≤1099511627776)(hy:y.gs.length≤1099511627776):jS Tryz.prog 87 [(jT x),(jT y)] (jT (kS (kH x*kH y))):=by
 have hvx:=eD x
 have hvy:=eD y
 have hda:=kU (Int.natAbs (kH x))
 have hdb:=kU (Int.natAbs (kH y))
 refine jJ Tryz.func87 rfl cb87 rfl ?_
 show qM _ _ _ _ ⟨[(0,(.d (jT x))),(1,(.d (jT y)))],[]⟩
 refine jB<|kx [(2,(.ref 0 0)),(3,(.ref 1 0)),(4,(.ref 2 0))] [(0,some (bx (jT x))),(1,some (bx (jT y))),(2,some (bx (jT (qG.mk false []))))] (zN (uY 0)<|zN (uY 1)<|zN (qW 2 gC gA)<|zZ) ?_
 refine jB<|kd [] [(0,some (bx (jT (kS (kH x))))),(1,some (bx (jT (kS (kH y)))))] mo (wR (kP kD)<|wE (kA (eI x (by omega)))<|wR (kP kD)<|wE (kA (eI y (by omega)))<|wT (qF kD)<|wT (qF kD)<|wZ) ?_
 refine jB<|kx [(5,(.own 3 140 1 ((ofNat (Int.natAbs (kH x))).length+(ofNat (Int.natAbs (kH y))).length)))] [(3,some (bm jE (List.replicate ((ofNat (Int.natAbs (kH x))).length+(ofNat (Int.natAbs (kH y))).length) 0)))] (zE (qA xN)<|zR (qX yH)<|zE (zD kV (L:=(ofNat (Int.natAbs (kH x)))))<|zE (qA xN)<|zR (qX yH)<|zE (zD kV (L:=(ofNat (Int.natAbs (kH y)))))<|zE (xE ((ofNat (Int.natAbs (kH x))).length+(ofNat (Int.natAbs (kH y))).length))<|zN (oMk 3 jE (0:Nat) ((ofNat (Int.natAbs (kH x))).length+(ofNat (Int.natAbs (kH y))).length) ((ofNat (Int.natAbs (kH x))).length+(ofNat (Int.natAbs (kH y))).length) kV xH yT nZ)<|zM<|zZ) ?_
 refine jB<|jB<|kx [(6,(jK 0))] [] (zM<|zZ) ?_
 refine jI<|kM (α:=Nat × List Nat) (fun (i,out)=>⟨[(2,(.ref 0 0)),(3,(.ref 1 0)),(4,(.ref 2 0)),(5,(.own 3 140 1 ((ofNat (Int.natAbs (kH x))).length+(ofNat (Int.natAbs (kH y))).length))),(6,(jK i))],[(0,some (bx (jT (kS (kH x))))),(1,some (bx (jT (kS (kH y))))),(2,some (bx (jT (qG.mk false [])))),(3,some (bm jE out))]⟩) (fun (i,out)=>out.length=(ofNat (Int.natAbs (kH x))).length+(ofNat (Int.natAbs (kH y))).length∧Dig out∧i≤(ofNat (Int.natAbs (kH x))).length∧(∀ k,i+(ofNat (Int.natAbs (kH y))).length≤k→out.getD k 0=0)∧val out=val ((ofNat (Int.natAbs (kH x))).take i)*val (ofNat (Int.natAbs (kH y)))) (fun (i,out)=>(ofNat (Int.natAbs (kH x))).length-i) (0,List.replicate ((ofNat (Int.natAbs (kH x))).length+(ofNat (Int.natAbs (kH y))).length) 0) wk ⟨by simp,yL _,Nat.zero_le _,fun k _=>fH _ k,by simp [val,eE]⟩ ?_
 rintro ⟨i,out⟩ ⟨uO,hdo,hi,hz,hv⟩
 have hai:=hda.getD i
 refine jB<|jB<|kx [(26,(vb (decide (((i:Nat):Int)<(((ofNat (Int.natAbs (kH x))).length:Nat):Int)))))] [] (zM<|zE (qA xN)<|zR (qX yH)<|zE (zD kV (L:=(ofNat (Int.natAbs (kH x)))))<|zE xY<|zZ) ?_
 refine jH rfl (fun h1=>?_) (fun h1=>?_)
 ·replace h1:=vJ h1
  refine jF<|jB<|jI<|jB<|kx [(7,(gW 0))] [] (zM<|zZ) ?_
  refine jB<|jB<|kx [(8,(jK 0))] [] (zM<|zZ) ?_
  refine jI<|kM (α:=Nat × List Nat × Nat) (fun (j,o2,c)=>⟨[(2,(.ref 0 0)),(3,(.ref 1 0)),(4,(.ref 2 0)),(5,(.own 3 140 1 ((ofNat (Int.natAbs (kH x))).length+(ofNat (Int.natAbs (kH y))).length))),(6,(jK i)),(7,(gW c)),(8,(jK j))],[(0,some (bx (jT (kS (kH x))))),(1,some (bx (jT (kS (kH y))))),(2,some (bx (jT (qG.mk false [])))),(3,some (bm jE o2))]⟩) (fun (j,o2,c)=>o2.length=(ofNat (Int.natAbs (kH x))).length+(ofNat (Int.natAbs (kH y))).length∧Dig o2∧j≤(ofNat (Int.natAbs (kH y))).length∧c<1000000000∧(∀ k,i+(ofNat (Int.natAbs (kH y))).length≤k→o2.getD k 0=0)∧val o2+pw (i+j)*c=val ((ofNat (Int.natAbs (kH x))).take i)*val (ofNat (Int.natAbs (kH y)))+pw i*((ofNat (Int.natAbs (kH x))).getD i 0*val ((ofNat (Int.natAbs (kH y))).take j))) (fun (j,o2,c)=>(ofNat (Int.natAbs (kH y))).length-j) (0,out,0) wk ⟨uO,hdo,Nat.zero_le _,by decide,hz,by simp [val,hv]⟩ ?_
  rintro ⟨j,o2,c⟩ ⟨hlen2,hdo2,hj,hc,hz2,hv2⟩
  have hbj:=hdb.getD j
  have hoj:=hdo2.getD (i+j)
  have hpq:(ofNat (Int.natAbs (kH x))).getD i 0*(ofNat (Int.natAbs (kH y))).getD j 0≤999999999*999999999:=Nat.mul_le_mul (by omega) (by omega)
  refine jB<|jB<|kx [(33,(vb (decide (((j:Nat):Int)<(((ofNat (Int.natAbs (kH y))).length:Nat):Int)))))] [] (zM<|zE (qA xN)<|zR (qX yH)<|zE (zD kV (L:=(ofNat (Int.natAbs (kH y)))))<|zE xY<|zZ) ?_
  refine jH rfl (fun h2=>?_) (fun h2=>?_)
  ·replace h2:=vJ h2
   refine jF<|jB<|jI<|jB<|kd [(9,(gW (((o2.getD (i+j) 0)+(((ofNat (Int.natAbs (kH x))).getD i 0)*((ofNat (Int.natAbs (kH y))).getD j 0)))+c)))] [] mo (wM<|wM<|wM<|wE (xE (i+j))<|wE (fV kV (i+j))<|wR (oLp uG (i+j) (0:Nat))<|wE (cA gH gF (o2.getD (i+j) 0))<|wE (qA xN)<|wR (qX yH)<|wM<|wE (nE kV i (0:Nat) (L:=(ofNat (Int.natAbs (kH x)))))<|wE (nC uG)<|wE (cA gH gF ((ofNat (Int.natAbs (kH x))).getD i 0))<|wE (qA xN)<|wR (qX yH)<|wM<|wE (nE kV j (0:Nat) (L:=(ofNat (Int.natAbs (kH y)))))<|wE (nC uG)<|wE (cA gH gF ((ofNat (Int.natAbs (kH y))).getD j 0))<|wE (oMl (((ofNat (Int.natAbs (kH x))).getD i 0)*((ofNat (Int.natAbs (kH y))).getD j 0)))<|wE (xE ((o2.getD (i+j) 0)+(((ofNat (Int.natAbs (kH x))).getD i 0)*((ofNat (Int.natAbs (kH y))).getD j 0))))<|wM<|wE (xE (((o2.getD (i+j) 0)+(((ofNat (Int.natAbs (kH x))).getD i 0)*((ofNat (Int.natAbs (kH y))).getD j 0)))+c))<|wM<|wZ) ?_
   refine jB<|kx [] [(3,some (bm jE (o2.set (i+j) ((((o2.getD (i+j) 0)+(((ofNat (Int.natAbs (kH x))).getD i 0)*((ofNat (Int.natAbs (kH y))).getD j 0)))+c) % 1000000000))))] (zM<|zM<|zM<|zE (xE (i+j))<|zM<|zE (oRe ((((o2.getD (i+j) 0)+(((ofNat (Int.natAbs (kH x))).getD i 0)*((ofNat (Int.natAbs (kH y))).getD j 0)))+c) % 1000000000))<|zE (cA nT nD ((((o2.getD (i+j) 0)+(((ofNat (Int.natAbs (kH x))).getD i 0)*((ofNat (Int.natAbs (kH y))).getD j 0)))+c) % 1000000000))<|zE (fV kV (i+j))<|zT (oSp uG (i+j) ((((o2.getD (i+j) 0)+(((ofNat (Int.natAbs (kH x))).getD i 0)*((ofNat (Int.natAbs (kH y))).getD j 0)))+c) % 1000000000))<|zZ) ?_
   refine kx [(7,(gW ((((o2.getD (i+j) 0)+(((ofNat (Int.natAbs (kH x))).getD i 0)*((ofNat (Int.natAbs (kH y))).getD j 0)))+c) / 1000000000)))] [] (zM<|zE (oQu ((((o2.getD (i+j) 0)+(((ofNat (Int.natAbs (kH x))).getD i 0)*((ofNat (Int.natAbs (kH y))).getD j 0)))+c) / 1000000000))<|zM<|zZ) ?_
   refine kx [(8,(jK (j+1)))] [] (zM<|zE (xE (j+1))<|zM<|zZ) ?_
   exact ⟨(j+1,o2.set (i+j) ((o2.getD (i+j) 0+(ofNat (Int.natAbs (kH x))).getD i 0*(ofNat (Int.natAbs (kH y))).getD j 0+c) % 1000000000),(o2.getD (i+j) 0+(ofNat (Int.natAbs (kH x))).getD i 0*(ofNat (Int.natAbs (kH y))).getD j 0+c) / 1000000000),wk,(by obtain ⟨q1,q2⟩:=times_step (by omega) hdo2 hv2 rfl (val_take_succ _ j);exact ⟨by simpa using hlen2,q1,by omega,by omega,zero_set (by omega) hz2,q2⟩),(by first|omega|(dsimp only;omega))⟩
  ·replace h2:=vM h2
   have hje:j=(ofNat (Int.natAbs (kH y))).length:=by omega
   rw[hje] at hv2
   refine kL<|kx [] [(3,some (bm jE (o2.set (i+(ofNat (Int.natAbs (kH y))).length) c)))] (zM<|zM<|zE (qA xN)<|zR (qX yH)<|zE (zD kV (L:=(ofNat (Int.natAbs (kH y)))))<|zE (xE (i+(ofNat (Int.natAbs (kH y))).length))<|zM<|zE (cA nT nD c)<|zE (fV kV (i+(ofNat (Int.natAbs (kH y))).length))<|zT (oSp uG (i+(ofNat (Int.natAbs (kH y))).length) c)<|zZ) ?_
   refine kx [(6,(jK (i+1)))] [] (zM<|zE (xE (i+1))<|zM<|zZ) ?_
   exact ⟨(i+1,o2.set (i+(ofNat (Int.natAbs (kH y))).length) c),wk,(by obtain ⟨q1,q2,q3,q4⟩:=times_row hdo2 (by omega) hlen2 hz2 hc hv2;exact ⟨q1,q2,by omega,q3,q4⟩),(by first|omega|(dsimp only;omega))⟩
 ·replace h1:=vM h1
  have hie:i=(ofNat (Int.natAbs (kH x))).length:=by omega
  rw[hie,List.take_length] at hv
  refine kL<|jB<|jV (xA (t:=5) (k:=3) (es:=List.map jE out) rfl rfl (uI _ _ (fun _=>rfl)) (qY _ _ uO) (uU _ _ (fun _=>rfl) uO)) ?_
  refine kx [] [(2,some (bx (jT (xX (!(((kS (kH x)).neg) == ((kS (kH y)).neg))) (val out)))))] (zE (qA xG)<|zR (qX bJ)<|zE (qA xG)<|zR (qX bJ)<|zE (oNb bo4)<|zM<|zE (kA (mG (!(((kS (kH x)).neg) == ((kS (kH y)).neg))) out hdo (by omega)))<|zT (qF kD)<|zZ) ?_
  refine jG ⟨_,(kJ (cs:=(bx (jT (xX (!(((kS (kH x)).neg) == ((kS (kH y)).neg))) (val out))))) (d:=(jT (xX (!(((kS (kH x)).neg) == ((kS (kH y)).neg))) (val out)))) rfl rfl kD rfl rfl .nil),?_⟩
  rw[hv,rmul_eq];rfl
theorem r_short(a:List Nat)(d:Nat)(hda:Dig a)(hd0:0<d)(hd1:d≤1000000000)(hla:a.length≤17592186044416):jS Tryz.prog 240 [(.sl 140 1 (List.map jE a)),(.val (.int .u64 (((d:Nat):Int))))] (.tup [(.sl 140 1 (List.map jE (ofNat (val a / d)))),(.val (.int .u64 ((((val a % d):Nat):Int))))]):=by
 refine jJ Tryz.func240 rfl cb240 rfl ?_
 show qM _ _ _ _ ⟨[(0,(vl 140 1 jE a)),(1,(gW d))],[]⟩
 refine jB<|kx [] [] (zE (cP 140 1)<|zM<|zZ) ?_
 refine jB<|kx [(6,(.own 0 140 1 a.length))] [(0,some (bm jE (List.replicate a.length 0)))] (zM<|zE (zD kV)<|zN (oMk 0 jE (0:Nat) a.length a.length kV xH yT nZ)<|zM<|zZ) ?_
 refine jB<|kx [(7,(gW 0))] [] (zM<|zZ) ?_
 refine jB<|jB<|kx [(8,(vi (((a.length:Nat):Int)-1)))] [] (zM<|zE (zD kV)<|zE (zSb (((a.length:Nat):Int)-1))<|zM<|zZ) ?_
 refine jI<|kM (α:=Nat × List Nat × Nat) (fun (k,q,zP)=>⟨[(0,(vl 140 1 jE a)),(1,(gW d)),(6,(.own 0 140 1 a.length)),(7,(gW zP)),(8,(vi (((k:Nat):Int)-1)))],[(0,some (bm jE q))]⟩) (fun (k,q,zP)=>k≤a.length∧q.length=a.length∧Dig q∧zP<d∧val (a.drop k)=val (q.drop k)*d+zP) (fun (k,q,zP)=>k) (a.length,List.replicate a.length 0,0) wk ⟨Nat.le_refl _,by simp,yL _,hd0,by simp [val]⟩ ?_
 rintro ⟨k,q,zP⟩ ⟨hk,uO,hdq,hr,hv⟩
 refine jB<|jB<|kx [(17,(vb (decide (0≤(((k:Nat):Int)-1)))))] [] (zM<|zE oGe<|zZ) ?_
 refine jH (b:=decide (0≤(((k:Nat):Int)-1))) rfl (fun h1=>?_) (fun h1=>?_)
 ·replace h1:=vJ h1
  obtain ⟨i,rfl⟩:∃ i,k=i+1:=⟨k-1,by omega⟩
  rw[show (((i+1:Nat):Int)-1)=((i:Nat):Int) from by omega]
  have hg:=hda.getD i
  obtain ⟨hb1,hb2⟩:=short_bound hr hd1 hg
  refine jF<|jB<|jI<|jB<|kx [(8,(jK i)),(9,(gW ((zP*1000000000)+(a.getD i 0))))] [] (zM<|zE (oMl (zP*1000000000))<|zM<|zM<|zE (nE kV i (0:Nat))<|zE (nC uG)<|zE (cA gH gF (a.getD i 0))<|zE (xE ((zP*1000000000)+(a.getD i 0)))<|zM<|zZ) ?_
  refine jB<|kx [] [(0,some (bm jE (q.set i (((zP*1000000000)+(a.getD i 0)) / d))))] (zM<|zM<|zM<|zM<|zE (oQu (((zP*1000000000)+(a.getD i 0)) / d))<|zE (cA nT nD (((zP*1000000000)+(a.getD i 0)) / d))<|zE (fV kV i)<|zT (oSp uG i (((zP*1000000000)+(a.getD i 0)) / d))<|zZ) ?_
  refine kx [(7,(gW (((zP*1000000000)+(a.getD i 0)) % d)))] [] (zM<|zM<|zE (oRe (((zP*1000000000)+(a.getD i 0)) % d))<|zM<|zZ) ?_
  refine kx [(8,(vi (((i:Nat):Int)-1)))] [] (zM<|zE (zSb (((i:Nat):Int)-1))<|zM<|zZ) ?_
  exact ⟨(i,q.set i ((zP*1000000000+a.getD i 0) / d),(zP*1000000000+a.getD i 0) % d),wk,⟨by omega,by simpa using uO,hdq.set _ hb2,Nat.mod_lt _ hd0,rshort_step (by omega) hv rfl⟩,(by first|omega|(dsimp only;omega))⟩
 ·replace h1:=vM h1
  obtain rfl:k=0:=by omega
  obtain ⟨e1,e2⟩:=short_end (a:=a) (q:=q) (by rw[Nat.sub_self];exact hv) hr
  refine kL<|jB<|jV (xA (t:=6) (k:=0) (es:=List.map jE q) rfl rfl (uI _ _ (fun _=>rfl)) (qY _ _ uO) (uU _ _ (fun _=>rfl) uO)) ?_
  refine kx [(4,(vl 140 1 jE (ofNat (val q)))),(5,(gW zP))] [] (zM<|zE (kA (mG false q (by first | assumption | exact kU _ | exact (qO _).1 | exact (uB _).1) (by omega)))<|zE (oF1 aV yH)<|zM<|zM<|zM<|zZ) ?_
  refine jG ⟨_,(.tmp (d:=(.sl 140 1 (List.map jE (ofNat (val q))))) rfl (.tmp (d:=(.val (.int .u64 (((zP:Nat):Int))))) rfl .nil)),?_⟩
  rw[← e1,← e2];rfl
theorem r_pair(l:List Nat)(hd:Dig l)(h2:l.length≤2):jS Tryz.prog 177 [(.sl 140 1 (List.map jE l))] (.val (.int .u64 ((((val l):Nat):Int)))):=by
 have h0:=hd.getD 0
 have h1:=hd.getD 1
 refine jJ Tryz.func177 rfl cb177 rfl ?_
 show qM _ _ _ _ ⟨[(0,(vl 140 1 jE l))],[]⟩
 refine jB<|kx [] [] (zM<|zZ) ?_
 refine jB<|kx [(2,(gW (((l.getD 1 0)*1000000000)+(l.getD 0 0))))] [] (zM<|zE (kA (aB l 1 (by first | assumption | exact kU _ | exact (qO _).1 | exact (uB _).1)))<|zE (oMl ((l.getD 1 0)*1000000000))<|zM<|zE (kA (aB l 0 (by first | assumption | exact kU _ | exact (qO _).1 | exact (uB _).1)))<|zE (xE (((l.getD 1 0)*1000000000)+(l.getD 0 0)))<|zM<|zZ) ?_
 refine jG ⟨_,(.tmp (d:=(.val (.int .u64 ((((((l.getD 1 0)*1000000000)+(l.getD 0 0)):Nat):Int))))) rfl .nil),?_⟩
 rw[val_pair h2];rfl
theorem r_parts(a b:List Nat)(hda:yO a)(hdb:yO b)(hb0:0<b.length)(hla:a.length≤1099511627776)(hlb:b.length≤1099511627776):jS Tryz.prog 176 [(.sl 140 1 (List.map jE a)),(.sl 140 1 (List.map jE b))] (.tup [(.sl 140 1 (List.map jE (ofNat (val a / val b)))),(.sl 140 1 (List.map jE (ofNat (val a % val b))))]):=by
 have hsc:=bE hdb hb0
 have htp:=bP hdb hb0
 have hbp:=cN hdb hb0
 refine jJ Tryz.func176 rfl cb176 rfl ?_
 show qM _ _ _ _ ⟨[(0,(vl 140 1 jE a)),(1,(vl 140 1 jE b))],[]⟩
 refine jB<|kx [] [] (zE (cP 140 1)<|zE (cP 140 1)<|zZ) ?_
 refine jB<|kx [(6,(jK b.length))] [] (zM<|zE (zD kV)<|zM<|zZ) ?_
 refine jB<|jB<|kx [(19,(vb (((b.length:Nat):Int) == 1)))] [] (zM<|zE xR<|zZ) ?_
 refine jH (b:=(((b.length:Nat):Int) == 1)) rfl (fun h1=>?_) (fun h1=>?_)
 ·replace h1:=eq_of_beq h1
  have hg0:=hdb.1.getD 0
  have hv1:=val_len1 (b:=b) (by omega)
  have hb00:0<b.getD 0 0:=by omega
  have hrl:val a % b.getD 0 0<1000000000:=Nat.lt_trans (Nat.mod_lt _ hb00) (by omega)
  refine jB<|kx [(7,(vl 140 1 jE (ofNat (val a / (b.getD 0 0))))),(8,(gW (val a % (b.getD 0 0))))] [] (zM<|zM<|zE (nE kV 0 (0:Nat))<|zE (nC uG)<|zE (cA gH gF (b.getD 0 0))<|zE (kA (r_short a (b.getD 0 0) hda.1 (by omega) (by omega) (by omega)))<|zM<|zE vI<|zE vI<|zM<|zM<|zZ) ?_
  refine jB<|kx [(4,(vl 140 1 jE (ofNat (val a / (b.getD 0 0))))),(5,(vl 140 1 jE (ofNat (val [(val a % (b.getD 0 0))]))))] [] (zM<|zM<|zE (cA nT nD (val a % (b.getD 0 0)))<|zE (mC kV xH yT)<|zE (kA (mG false [(val a % (b.getD 0 0))] (gL.2 ⟨by omega,nI⟩) (by simp)))<|zE (oF1 aV yH)<|zM<|zM<|zZ) ?_
  refine jG ⟨_,(.tmp (d:=(.sl 140 1 (List.map jE (ofNat (val a / (b.getD 0 0)))))) rfl (.tmp (d:=(.sl 140 1 (List.map jE (ofNat (val [(val a % (b.getD 0 0))]))))) rfl .nil)),?_⟩
  rw[hv1,dL];rfl
 ·replace h1:=ne_of_beq_false h1
  refine jF<|jB<|jB<|kx [(38,(vb (decide ((vN ((val a:Nat):Int) ((val b:Nat):Int))<0))))] [] (zM<|zM<|zE (kA (r_size a b (by first | assumption | exact qO _ | exact uB _) (by first | assumption | exact qO _ | exact uB _) (by omega) (by omega)))<|zE xY<|zZ) ?_
  refine jH rfl (fun h2=>?_) (fun h2=>?_)
  ·replace h2:=vJ h2
   refine jB<|kx [(4,(vl 140 1 jE [])),(5,(vl 140 1 jE a))] [] (zE (mC kV xH yT)<|zM<|zM<|zM<|zZ) ?_
   refine jG ⟨_,(.tmp (d:=(.sl 140 1 (List.map jE []))) rfl (.tmp (d:=(.sl 140 1 (List.map jE a))) rfl .nil)),?_⟩
   have hlt:=cmpI_neg h2
   rw[Nat.div_eq_of_lt hlt,Nat.mod_eq_of_lt hlt,uS,← can_eq hda];rfl
  ·replace h2:=vM h2
   obtain ⟨u,hue⟩:∃ u,u=ofNat (val a*dR b):=⟨_,rfl⟩
   obtain ⟨v,hve⟩:∃ v,v=ofNat (val b*dR b):=⟨_,rfl⟩
   have hu:Dig u:=by rw[hue];exact kU _
   have hcv:yO v:=by rw[hve];exact qO _
   have hvd:=hcv.1
   have hvl:v.length=b.length:=by rw[hve];exact scl_len hdb hb0
   have hvv:val v=val b*dR b:=by rw[hve];exact kK _
   have huv:val u=val a*dR b:=by rw[hue];exact kK _
   have hab:=len_of_le hda hdb (cmpI_nn h2)
   have hul:a.length≤u.length∧u.length≤a.length+1:=by rw[hue];exact scl_lenA hda hdb hb0
   have hvp:=cN hcv (by omega)
   have hpv:pw (b.length-1)≤val v:=by have h1:=val_top hvd (by omega);have h3:=bP hcv (by omega);rw[hvl] at h1 h3;have h2:=Nat.mul_le_mul_right (pw (b.length-1)) h3.1;omega
   refine jF<|jB<|kx [(9,(gW (dR b)))] [] (zM<|zM<|zE (oSb (b.length-1))<|zE (nE kV (b.length-1) (0:Nat))<|zE (nC uG)<|zE (cA gH gF (b.getD (b.length-1) 0))<|zE (xE ((b.getD (b.length-1) 0)+1))<|zE (oQu (dR b) (hr:=by exact (quo_u64 1000000000 (b.getD (b.length-1) 0+1) (by decide))))<|zM<|zZ) ?_
   refine jB<|kx [(0,(vl 140 1 jE u)),(1,(vl 140 1 jE v))] [] (zM<|zM<|zE (kA (hue▸r_scaled a (dR b) hda.1 (by omega) (by omega)))<|zM<|zM<|zE (kA (hve▸r_scaled b (dR b) hdb.1 (by omega) (by omega)))<|zM<|zM<|zZ) ?_
   refine jB<|kx [(10,(vl 140 1 jE (ofNat (val (List.drop ((u.length-b.length)+1) u)))))] [] (zM<|zM<|zE (zD kV)<|zM<|zE (oSb (u.length-b.length))<|zE (xE ((u.length-b.length)+1))<|zE (e_slc (l:=((u.length-b.length)+1)) (h:=(List.map jE u).length) (kl:=.i64) (kh:=.i64) (es':=List.map jE (List.drop ((u.length-b.length)+1) u)) (by exact rfl) kV (by exact rfl) (by exact rfl) (by exact rfl) (by simp only[List.length_map];omega) (Nat.le_refl _) (by rw[List.take_length,List.map_drop]))<|zE (kA (mG false (List.drop ((u.length-b.length)+1) u) (hu.drop _) (by rw[List.length_drop];omega)))<|zE (oF1 aV yH)<|zM<|zZ) ?_
   refine jB<|kx [(11,(.own 0 140 1 ((u.length-b.length)+1)))] [(0,some (bm jE (List.replicate ((u.length-b.length)+1) 0)))] (zM<|zE (zD kV)<|zM<|zE (oSb (u.length-b.length))<|zE (xE ((u.length-b.length)+1))<|zN (oMk 0 jE (0:Nat) ((u.length-b.length)+1) ((u.length-b.length)+1) kV xH yT nZ)<|zM<|zZ) ?_
   refine jB<|jB<|kx [(12,(vi ((((u.length-b.length)+1:Nat):Int)-1)))] [] (zM<|zE (zD kV)<|zM<|zE (zSb ((((u.length-b.length)+1:Nat):Int)-1))<|zM<|zZ) ?_
   refine jI<|kM (α:=Nat × List Nat × List Nat) (fun (k,r,q)=>⟨[(0,(vl 140 1 jE u)),(1,(vl 140 1 jE v)),(6,(jK b.length)),(9,(gW (dR b))),(10,(vl 140 1 jE r)),(11,(.own 0 140 1 ((u.length-b.length)+1))),(12,(vi (((k:Nat):Int)-1)))],[(0,some (bm jE q))]⟩) (fun (k,r,q)=>yO r∧k≤((u.length-b.length)+1)∧q.length=((u.length-b.length)+1)∧Dig q∧val r<val v∧val (u.drop k)=val v*val (q.drop k)+val r) (fun (k,r,q)=>k) (((u.length-b.length)+1),ofNat (val (List.drop ((u.length-b.length)+1) u)),List.replicate ((u.length-b.length)+1) 0) wk ⟨qO _,Nat.le_refl _,by simp,yL _,by rw[kK];have h7:=xT (hu.drop ((u.length-b.length)+1));rw[List.length_drop,show u.length-((u.length-b.length)+1)=b.length-1 by omega] at h7;omega,by rw[kK];simp [val]⟩ ?_
   rintro ⟨k,r,q⟩ ⟨hrc,hk,hql,hqd,hr,hv⟩
   refine jB<|jB<|kx [(75,(vb (decide (0≤(((k:Nat):Int)-1)))))] [] (zM<|zE oGe<|zZ) ?_
   refine jH (b:=decide (0≤(((k:Nat):Int)-1))) rfl (fun h3=>?_) (fun h3=>?_)
   ·replace h3:=vJ h3
    obtain ⟨i,rfl⟩:∃ i,k=i+1:=⟨k-1,by omega⟩
    rw[show (((i+1:Nat):Int)-1)=((i:Nat):Int) from by omega]
    have hgu:=hu.getD i
    have hW:(u.getD i 0+1000000000*val r)<1000000000*val v:=by omega
    have hrs:=rshift_val u hv
    obtain ⟨hg1,hg2⟩:=rguess hvd hvl hb0 hW
    have hgv:=hvd.getD (b.length-1)
    have hgw1:=(kU (u.getD i 0+1000000000*val r)).getD b.length
    have hgw2:=(kU (u.getD i 0+1000000000*val r)).getD (b.length-1)
    have hrl:r.length≤b.length:=by have h9:=vZ (Nat.le_of_lt hr);rwa [← can_eq hrc,← can_eq hcv,hvl] at h9
    have hwl:(ofNat (u.getD i 0+1000000000*val r)).length≤b.length+1:=uM (by rw[vF];have:=xT hvd;rw[hvl] at this;omega)
    refine jF<|jB<|jI<|jB<|kx [(10,(vl 140 1 jE (ofNat ((u.getD i 0)+1000000000*val r)))),(12,(jK i))] [] (zM<|zM<|zM<|zE (nE kV i (0:Nat))<|zE (nC uG)<|zE (kA (r_shifted r (u.getD i 0) hrc.1 (by omega) (by omega)))<|zM<|zZ) ?_
    refine jB<|kd [(13,(gW (((((ofNat ((u.getD i 0)+1000000000*val r)).getD b.length 0)*1000000000)+((ofNat ((u.getD i 0)+1000000000*val r)).getD (b.length-1) 0)) / ((v.getD (b.length-1) 0)+1))))] [] mo (wM<|wM<|wE (kA (aB (ofNat ((u.getD i 0)+1000000000*val r)) b.length (kU _)))<|wE (oMl (((ofNat ((u.getD i 0)+1000000000*val r)).getD b.length 0)*1000000000))<|wM<|wM<|wE (oSb (b.length-1))<|wE (kA (aB (ofNat ((u.getD i 0)+1000000000*val r)) (b.length-1) (by first | assumption | exact kU _ | exact (qO _).1 | exact (uB _).1)))<|wE (xE ((((ofNat ((u.getD i 0)+1000000000*val r)).getD b.length 0)*1000000000)+((ofNat ((u.getD i 0)+1000000000*val r)).getD (b.length-1) 0)))<|wM<|wM<|wE (oSb (b.length-1))<|wE (nE kV (b.length-1) (0:Nat))<|wE (nC uG)<|wE (cA gH gF (v.getD (b.length-1) 0))<|wE (xE ((v.getD (b.length-1) 0)+1))<|wE (oQu (((((ofNat ((u.getD i 0)+1000000000*val r)).getD b.length 0)*1000000000)+((ofNat ((u.getD i 0)+1000000000*val r)).getD (b.length-1) 0)) / ((v.getD (b.length-1) 0)+1)))<|wM<|wZ) ?_
    refine jB<|kx [(10,(vl 140 1 jE (ofNat (val (ofNat ((u.getD i 0)+1000000000*val r))-val (ofNat (val v*(((((ofNat ((u.getD i 0)+1000000000*val r)).getD b.length 0)*1000000000)+((ofNat ((u.getD i 0)+1000000000*val r)).getD (b.length-1) 0)) / ((v.getD (b.length-1) 0)+1))))))))] [] (zM<|zM<|zM<|zE (kA (r_scaled v (((((ofNat ((u.getD i 0)+1000000000*val r)).getD b.length 0)*1000000000)+((ofNat ((u.getD i 0)+1000000000*val r)).getD (b.length-1) 0)) / ((v.getD (b.length-1) 0)+1)) hvd (by omega) (by omega)))<|zE (kA (r_minus (ofNat ((u.getD i 0)+1000000000*val r)) (ofNat (val v*(((((ofNat ((u.getD i 0)+1000000000*val r)).getD b.length 0)*1000000000)+((ofNat ((u.getD i 0)+1000000000*val r)).getD (b.length-1) 0)) / ((v.getD (b.length-1) 0)+1)))) (kU _) (kU _) (by rw[kK,kK,Nat.mul_comm];exact hg1) (by omega)))<|zM<|zZ) ?_
    refine jB<|jI<|kM (α:=Nat × List Nat) (fun (G,r2)=>⟨[(0,(vl 140 1 jE u)),(1,(vl 140 1 jE v)),(6,(jK b.length)),(9,(gW (dR b))),(10,(vl 140 1 jE r2)),(11,(.own 0 140 1 ((u.length-b.length)+1))),(12,(jK i)),(13,(gW G))],[(0,some (bm jE q))]⟩) (fun (G,r2)=>yO r2∧val v*G+val r2=(u.getD i 0+1000000000*val r)) (fun (G,r2)=>val r2) ((((ofNat (u.getD i 0+1000000000*val r)).getD b.length 0*1000000000+(ofNat (u.getD i 0+1000000000*val r)).getD (b.length-1) 0) / (v.getD (b.length-1) 0+1)),ofNat (val (ofNat (u.getD i 0+1000000000*val r))-val (ofNat (val v*(((ofNat (u.getD i 0+1000000000*val r)).getD b.length 0*1000000000+(ofNat (u.getD i 0+1000000000*val r)).getD (b.length-1) 0) / (v.getD (b.length-1) 0+1)))))) wk ⟨qO _,by rw[kK,kK,kK];rw[Nat.mul_comm] at hg1;omega⟩ ?_
    rintro ⟨G,r2⟩ ⟨hr2,hr2v⟩
    have hr2l:r2.length≤b.length+1:=by have h9:=vZ (show val r2≤(u.getD i 0+1000000000*val r) by omega);rw[← can_eq hr2] at h9;omega
    refine jB<|jB<|kx [(109,(vb (decide (0≤(vN ((val r2:Nat):Int) ((val v:Nat):Int))))))] [] (zM<|zM<|zE (kA (r_size r2 v hr2 hcv (by omega) (by omega)))<|zE oGe<|zZ) ?_
    refine jH rfl (fun h4=>?_) (fun h4=>?_)
    ·replace h4:=vJ h4
     have hge:=iJ h4
     have hG:=rquo_lt hr2v hW
     have hr2l:r2.length≤b.length+1:=by have h9:=vZ (show val r2≤(u.getD i 0+1000000000*val r) by omega);rw[← can_eq hr2] at h9;omega
     refine jF<|jI<|jB<|kx [(10,(vl 140 1 jE (ofNat (val r2-val v))))] [] (zM<|zM<|zE (kA (r_minus r2 v hr2.1 hvd (by omega) (by omega)))<|zM<|zZ) ?_
     refine kx [(13,(gW (G+1)))] [] (zM<|zE (xE (G+1))<|zM<|zZ) ?_
     exact ⟨(G+1,ofNat (val r2-val v)),wk,(by have hge:=iJ h4;exact ⟨qO _,by rw[kK,Nat.mul_add,Nat.mul_one];omega⟩),(by have hge:=iJ h4;dsimp only;rw[kK];omega)⟩
    ·replace h4:=vM h4
     have hG:=rquo_lt hr2v hW
     have hlt:val r2<val v:=by have h9:=cmpI_lt h4;omega
     refine kL<|kx [] [(0,some (bm jE (q.set i G)))] (zM<|zM<|zM<|zE (cA nT nD G)<|zE (fV kV i)<|zT (oSp uG i G)<|zZ) ?_
     refine kx [(12,(vi (((i:Nat):Int)-1)))] [] (zM<|zE (zSb (((i:Nat):Int)-1))<|zM<|zZ) ?_
     exact ⟨(i,r2,q.set i G),wk,⟨hr2,by omega,by simpa using hql,hqd.set _ hG,hlt,rround (by omega) (by rw[hr2v];exact hrs)⟩,(by first|omega|(dsimp only;omega))⟩
   ·replace h3:=vM h3
    obtain rfl:k=0:=by omega
    obtain ⟨e1,e2⟩:=scl_div (a:=a) (b:=b) (q:=q) (u:=r) hdb hb0 (by rw[List.drop_zero,List.drop_zero] at hv;rw[cG,Nat.one_mul,List.drop_zero,← huv,← hvv,hv];omega) (by rw[List.drop_zero,← hvv];exact hr)
    have hrl:r.length≤b.length:=by have h9:=vZ (Nat.le_of_lt hr);rwa [← can_eq hrc,← can_eq hcv,hvl] at h9
    refine kL<|jB<|kx [(14,(vl 140 1 jE (ofNat (val r / (dR b)))))] [] (zM<|zM<|zE (kA (r_short r (dR b) hrc.1 (by omega) (by omega) (by omega)))<|zM<|zE vI<|zE vI<|zM<|zM<|zZ) ?_
    refine jB<|jV (xA (t:=11) (k:=0) (es:=List.map jE q) rfl rfl (uI _ _ (fun _=>rfl)) (qY _ _ hql) (uU _ _ (fun _=>rfl) hql)) ?_
    refine kx [(4,(vl 140 1 jE (ofNat (val q)))),(5,(vl 140 1 jE (ofNat (val r / (dR b)))))] [] (zM<|zE (kA (mG false q hqd (by omega)))<|zE (oF1 aV yH)<|zM<|zM<|zM<|zZ) ?_
    refine jG ⟨_,(.tmp (d:=(.sl 140 1 (List.map jE (ofNat (val q))))) rfl (.tmp (d:=(.sl 140 1 (List.map jE (ofNat (val r / (dR b)))))) rfl .nil)),?_⟩
    rw[← e1,← e2];rfl
theorem cb117:callB Tryz.prog 117=true:=by kernel_rfl
theorem cb118:callB Tryz.prog 118=true:=by kernel_rfl
theorem cb146:callB Tryz.prog 146=true:=by kernel_rfl
theorem r_gcd(x:qG)(y:qG)(hx:x.gs.length≤1099511627776)(hy:y.gs.length≤1099511627776):jS Tryz.prog 118 [(jT x),(jT y)] (jT (kS ((Int.gcd (kH x) (kH y):Nat):Int))):=by
 have hvx:=eD x
 have hvy:=eD y
 refine jJ Tryz.func118 rfl cb118 rfl ?_
 show qM _ _ _ _ ⟨[(0,(.d (jT x))),(1,(.d (jT y)))],[]⟩
 refine jB<|kx [(2,(.ref 0 0)),(3,(.ref 1 0)),(4,(.ref 2 0))] [(0,some (bx (jT x))),(1,some (bx (jT y))),(2,some (bx (jT (qG.mk false []))))] (zN (uY 0)<|zN (uY 1)<|zN (qW 2 gC gA)<|zZ) ?_
 refine jB<|kd [(5,(vl 140 1 jE (ofNat (Int.natAbs (kH x))))),(6,(vl 140 1 jE (ofNat (Int.natAbs (kH y)))))] [] mo (wR (kP kD)<|wE (kA (eI x (by omega)))<|wE (oF1 aV yH)<|wR (kP kD)<|wE (kA (eI y (by omega)))<|wE (oF1 aV yH)<|wM<|wM<|wZ) ?_
 refine jB<|jI<|kM (α:=List Nat × List Nat) (fun (a,b)=>⟨[(4,(.ref 2 0)),(5,(vl 140 1 jE a)),(6,(vl 140 1 jE b))],[(2,some (bx (jT (qG.mk false []))))]⟩) (fun (a,b)=>yO a∧yO b∧a.length≤1099511627776∧b.length≤1099511627776∧Nat.gcd (val a) (val b)=Int.gcd (kH x) (kH y)) (fun (a,b)=>val b) ((ofNat (Int.natAbs (kH x))),(ofNat (Int.natAbs (kH y)))) wk ⟨qO _,qO _,by omega,by omega,by rw[kK,kK];rfl⟩ ?_
 rintro ⟨a,b⟩ ⟨ha,hb,hla,hlb,hg⟩
 refine jB<|jB<|kx [(29,(vb (decide (0<((b.length:Nat):Int))&&(decide (2<((a.length:Nat):Int))||decide (2<((b.length:Nat):Int))))))] [] ?_ ?_
 ·refine zM<|zE (zD kV)<|zE gD<|zE (oV (vb (decide (0<((b.length:Nat):Int)))) (qQ (by kernel_rfl)))<|?_
  rcases hb1:(decide (0<((b.length:Nat):Int))) with _ | _
  ·replace hb1:=vM hb1
   exact zK<|zK<|zK<|zK<|zK<|zK<|zK<|zK<|zE gE<|zZ
  ·replace hb1:=vJ hb1
   refine zM<|zE (zD kV)<|zE gD<|zE (oV (vb (decide (2<((a.length:Nat):Int)))) (qQ (by kernel_rfl)))<|?_
   rcases hb2:(decide (2<((a.length:Nat):Int))) with _ | _
   ·replace hb2:=vM hb2
    exact zM<|zE (zD kV)<|zE gD<|zE fU<|zE fA<|zZ
   ·replace hb2:=vJ hb2
    exact zK<|zK<|zK<|zE nY<|zE nY<|zZ
 refine jH rfl (fun h3=>?_) (fun h3=>?_)
 ·have hbl:0<b.length:=by rw[Bool.and_eq_true,decide_eq_true_eq] at h3;omega
  have hb0:=cN hb hbl
  refine jF<|jI<|jB<|kx [(8,(vl 140 1 jE (ofNat (val a % val b))))] [] (zM<|zM<|zE (kA (r_parts a b ha hb (by omega) (by omega) (by omega)))<|zM<|zE vI<|zE vI<|zM<|zM<|zZ) ?_
  refine kx [(5,(vl 140 1 jE b)),(6,(vl 140 1 jE (ofNat (val a % val b))))] [] (zM<|zM<|zM<|zM<|zZ) ?_
  exact ⟨(b,ofNat (val a % val b)),wk,⟨hb,qO _,hlb,Nat.le_trans (len_rem a ha _) hla,by rw[kK,← hg,Nat.gcd_comm,← Nat.gcd_rec,Nat.gcd_comm]⟩,(by dsimp only;rw[kK];exact Nat.mod_lt _ hb0)⟩
 ·have hex:=h3
  refine kL<|jB<|jB<|kx [(40,(vb (((b.length:Nat):Int) == 0)))] [] (zM<|zE (zD kV)<|zE xR<|zZ) ?_
  refine jH (b:=(((b.length:Nat):Int) == 0)) rfl (fun h4=>?_) (fun h4=>?_)
  ·replace h4:=eq_of_beq h4
   have hb1:b=[]:=List.eq_nil_of_length_eq_zero (by omega)
   rw[hb1,val_nil,Nat.gcd_zero_right] at hg
   refine jB<|kx [] [(2,some (bx (jT (xX false (val a)))))] (zM<|zE (kA (mG false a ha.1 (by omega)))<|zT (qF kD)<|zZ) ?_
   refine jG ⟨_,(kJ (cs:=(bx (jT (xX false (val a))))) (d:=(jT (xX false (val a)))) rfl rfl kD rfl rfl .nil),?_⟩
   rw[← hg,mkI_false];rfl
  ·replace h4:=ne_of_beq_false h4
   have hl2:a.length≤2∧b.length≤2:=by simp only[Bool.and_eq_false_iff,Bool.or_eq_false_iff,decide_eq_false_iff_not] at hex;omega
   refine jF<|jB<|kx [(9,(gW (val a))),(10,(gW (val b)))] [] (zM<|zE (kA (r_pair a ha.1 (by omega)))<|zM<|zE (kA (r_pair b hb.1 (by omega)))<|zM<|zM<|zZ) ?_
   refine jB<|jI<|kM (α:=Nat × Nat) (fun (m,n)=>⟨[(4,(.ref 2 0)),(9,(gW m)),(10,(gW n))],[(2,some (bx (jT (qG.mk false []))))]⟩) (fun (m,n)=>m<1000000000000000000∧n<1000000000000000000∧Nat.gcd m n=Int.gcd (kH x) (kH y)) (fun (m,n)=>n) (val a,val b) wk ⟨val_len2 ha.1 hl2.1,val_len2 hb.1 hl2.2,hg⟩ ?_
   rintro ⟨m,n⟩ ⟨hm,hn,hg2⟩
   refine jB<|jB<|kx [(48,(vb (decide (0<((n:Nat):Int)))))] [] (zM<|zE gD<|zZ) ?_
   refine jH (b:=decide (0<((n:Nat):Int))) rfl (fun h5=>?_) (fun h5=>?_)
   ·replace h5:=vJ h5
    refine jF<|jI<|kd [(9,(gW n)),(10,(gW (m % n)))] [] mo (wM<|wM<|wM<|wE (oRe (m % n))<|wM<|wM<|wZ) ?_
    exact ⟨(n,m % n),wk,⟨hn,Nat.lt_of_le_of_lt (Nat.mod_le _ _) hm,by rw[← hg2,Nat.gcd_comm,← Nat.gcd_rec,Nat.gcd_comm]⟩,(by dsimp only;exact Nat.mod_lt _ (by omega))⟩
   ·replace h5:=vM h5
    obtain rfl:n=0:=by omega
    rw[Nat.gcd_zero_right] at hg2
    have hmv:val [m % 1000000000,m / 1000000000]=m:=by simp only[val];omega
    refine kL<|jB<|kx [] [(2,some (bx (jT (xX false (val [(m % 1000000000),(m / 1000000000)])))))] (zM<|zE (oRe (m % 1000000000))<|zE (cA nT nD (m % 1000000000))<|zM<|zE (oQu (m / 1000000000))<|zE (cA nT nD (m / 1000000000))<|zE (mC kV xH yT)<|zE (kA (mG false [(m % 1000000000),(m / 1000000000)] (gL.2 ⟨Nat.mod_lt _ (by decide),gL.2 ⟨by omega,nI⟩⟩) (by simp)))<|zT (qF kD)<|zZ) ?_
    refine jG ⟨_,(kJ (cs:=(bx (jT (xX false (val [(m % 1000000000),(m / 1000000000)]))))) (d:=(jT (xX false (val [(m % 1000000000),(m / 1000000000)])))) rfl rfl kD rfl rfl .nil),?_⟩
    rw[← hg2,hmv,mkI_false];rfl
theorem r_compare(x:qG)(y:qG)(hx:x.gs.length≤274877906944)(hy:y.gs.length≤274877906944):jS Tryz.prog 117 [(jT x),(jT y)] (.val (.int .i64 ((vN (kH x) (kH y))))):=by
 have hv:=gs_sub x y
 refine jJ Tryz.func117 rfl cb117 rfl ?_
 show qM _ _ _ _ ⟨[(0,(.d (jT x))),(1,(.d (jT y)))],[]⟩
 refine jB<|kx [(2,(.ref 0 0)),(3,(.ref 1 0))] [(0,some (bx (jT x))),(1,some (bx (jT y)))] (zN (uY 0)<|zN (uY 1)<|zM<|zZ) ?_
 refine jB<|kx [(4,(vi (uL (kH (kS (kH x-kH y))))))] [] (zR (kP kD)<|zR (kP kD)<|zE (kA (r_sub x y (by omega) (by omega)))<|zE (kA (r_sign (kS (kH x-kH y)) (by omega)))<|zM<|zZ) ?_
 refine jG ⟨_,(.tmp (d:=(.val (.int .i64 ((uL (kH (kS (kH x-kH y)))))))) rfl .nil),?_⟩
 rw[cT,signI_sub];rfl
theorem r_divide(x:qG)(y:qG)(hx:x.gs.length≤274877906944)(hy:y.gs.length≤274877906944)(hy0:kH y≠0):jS Tryz.prog 146 [(jT x),(jT y)] (.tup [(jT (kS ((kH x).fdiv (kH y)))),(jT (kS ((kH x).fmod (kH y)))),(.val (.int .i64 (0)))]):=by
 have hvx:=eD x
 have hvy:=eD y
 have hmx:=gs_val x
 have hmy:=gs_val y
 have hy1:0<(kH y).natAbs:=by omega
 have hyl:=eC hy1
 have hql:(ofNat (val (ofNat (Int.natAbs (kH x))) / val (ofNat (Int.natAbs (kH y))))).length≤274877906944:=by have:=len_quo (ofNat (Int.natAbs (kH x))) (qO _) (val (ofNat (Int.natAbs (kH y))));omega
 have hqg:(xX (!((kS (kH x)).neg == (kS (kH y)).neg)) (val (ofNat (val (ofNat (Int.natAbs (kH x))) / val (ofNat (Int.natAbs (kH y))))))).gs.length≤274877906944:=by show (ofNat (val (ofNat (val (ofNat (Int.natAbs (kH x))) / val (ofNat (Int.natAbs (kH y))))))).length≤_;rw[kK];exact hql
 have fY:(kS 1).gs.length≤1:=(bI (z:=1) (by decide)).l
 have hqs:=gs_sub (xX (!((kS (kH x)).neg == (kS (kH y)).neg)) (val (ofNat (val (ofNat (Int.natAbs (kH x))) / val (ofNat (Int.natAbs (kH y))))))) (kS 1)
 refine jJ Tryz.func146 rfl cb146 rfl ?_
 show qM _ _ _ _ ⟨[(0,(.d (jT x))),(1,(.d (jT y)))],[]⟩
 refine jB<|kx [(2,(.ref 0 0)),(3,(.ref 1 0)),(4,(.ref 2 0)),(5,(.ref 3 0))] [(0,some (bx (jT x))),(1,some (bx (jT y))),(2,some (bx (jT (qG.mk false [])))),(3,some (bx (jT (qG.mk false []))))] (zN (uY 0)<|zN (uY 1)<|zN (qW 2 gC gA)<|zN (qW 3 gC gA)<|zM<|zZ) ?_
 refine jB<|kd [] [(0,some (bx (jT (kS (kH x))))),(1,some (bx (jT (kS (kH y)))))] mo (wR (kP kD)<|wE (kA (eI x (by omega)))<|wR (kP kD)<|wE (kA (eI y (by omega)))<|wT (qF kD)<|wT (qF kD)<|wZ) ?_
 refine jB<|jB<|kx [(17,(vb ((((ofNat (Int.natAbs (kH y))).length:Nat):Int) == 0)))] [] (zE (qA xN)<|zR (qX yH)<|zE (zD kV (L:=(ofNat (Int.natAbs (kH y)))))<|zE xR<|zZ) ?_
 refine jH rfl (fun h1=>?_) (fun h1=>?_)
 ·replace h1:=eq_of_beq h1
  exact absurd h1 (by omega)
 ·replace h1:=ne_of_beq_false h1
  refine jF<|jB<|kx [(7,(vl 140 1 jE (ofNat (val (ofNat (Int.natAbs (kH x))) / val (ofNat (Int.natAbs (kH y))))))),(8,(vl 140 1 jE (ofNat (val (ofNat (Int.natAbs (kH x))) % val (ofNat (Int.natAbs (kH y)))))))] [] (zE (qA xN)<|zR (qX yH)<|zE (qA xN)<|zR (qX yH)<|zE (kA (r_parts (ofNat (Int.natAbs (kH x))) (ofNat (Int.natAbs (kH y))) (by first | assumption | exact qO _ | exact uB _) (by first | assumption | exact qO _ | exact uB _) (by omega) (by omega) (by omega)))<|zM<|zE vI<|zE vI<|zM<|zM<|zZ) ?_
  refine jB<|kx [(9,(.ref 4 0))] [(4,some (bx (jT (xX (!(((kS (kH x)).neg) == ((kS (kH y)).neg))) (val (ofNat (val (ofNat (Int.natAbs (kH x))) / val (ofNat (Int.natAbs (kH y))))))))))] (zE (qA xG)<|zR (qX bJ)<|zE (qA xG)<|zR (qX bJ)<|zE (oNb bo4)<|zM<|zE (kA (mG (!(((kS (kH x)).neg) == ((kS (kH y)).neg))) (ofNat (val (ofNat (Int.natAbs (kH x))) / val (ofNat (Int.natAbs (kH y))))) (kU _) (by omega)))<|zN (qW 4 gC gA)<|zT (qF kD)<|zZ) ?_
  refine jB<|jB<|kx [(44,(vb (!(((kS (kH x)).neg) == ((kS (kH y)).neg))&&decide (0<(((ofNat (val (ofNat (Int.natAbs (kH x))) % val (ofNat (Int.natAbs (kH y))))).length:Nat):Int)))))] [] ?_ ?_
  ·refine zE (qA xG)<|zR (qX bJ)<|zE (qA xG)<|zR (qX bJ)<|zE (oNb bo4)<|zE (oV (vb (!(((kS (kH x)).neg) == ((kS (kH y)).neg)))) (qQ (by kernel_rfl)))<|?_
   rcases hb2:(!(((kS (kH x)).neg) == ((kS (kH y)).neg))) with _ | _
   ·exact zK<|zK<|zK<|zE gE<|zZ
   ·exact zM<|zE (zD kV (L:=(ofNat (val (ofNat (Int.natAbs (kH x))) % val (ofNat (Int.natAbs (kH y)))))))<|zE gD<|zE fA<|zZ
  refine jH rfl (fun h3=>?_) (fun h3=>?_)
  ·have hqm:=gs_mul (kS (kH (xX (!((kS (kH x)).neg == (kS (kH y)).neg)) (val (ofNat (val (ofNat (Int.natAbs (kH x))) / val (ofNat (Int.natAbs (kH y)))))))-kH (kS 1))) (kS (kH y))
   have hk:=r_div_other (X:=kH x) (Y:=kH y) hy1 (by rw[Bool.and_eq_true,Bool.not_eq_true',beq_eq_false_iff_ne,decide_eq_true_eq] at h3;exact h3)
   refine kd [] [(4,some (bx (jT (kS (kH (xX (!(((kS (kH x)).neg) == ((kS (kH y)).neg))) (val (ofNat (val (ofNat (Int.natAbs (kH x))) / val (ofNat (Int.natAbs (kH y)))))))-kH (kS 1))))))] mo (wR (kP kD)<|wE (kA (r_of 1 (by omega) (by omega)))<|wE (kA (r_sub (xX (!(((kS (kH x)).neg) == ((kS (kH y)).neg))) (val (ofNat (val (ofNat (Int.natAbs (kH x))) / val (ofNat (Int.natAbs (kH y))))))) (kS 1) (by omega) (by omega)))<|wT (qF kD)<|wZ) ?_
   refine jB<|kd [(6,(jK 0))] [(2,some (bx (jT (kS (kH (xX (!(((kS (kH x)).neg) == ((kS (kH y)).neg))) (val (ofNat (val (ofNat (Int.natAbs (kH x))) / val (ofNat (Int.natAbs (kH y)))))))-kH (kS 1)))))),(3,some (bx (jT (kS (kH (kS (kH x))-kH (kS (kH (kS (kH (xX (!(((kS (kH x)).neg) == ((kS (kH y)).neg))) (val (ofNat (val (ofNat (Int.natAbs (kH x))) / val (ofNat (Int.natAbs (kH y)))))))-kH (kS 1)))*kH (kS (kH y)))))))))] mo (wR (kP kD)<|wR (kP kD)<|wR (kP kD)<|wR (kP kD)<|wE (kA (r_mul (kS (kH (xX (!(((kS (kH x)).neg) == ((kS (kH y)).neg))) (val (ofNat (val (ofNat (Int.natAbs (kH x))) / val (ofNat (Int.natAbs (kH y)))))))-kH (kS 1))) (kS (kH y)) (by omega) (by omega)))<|wE (kA (r_sub (kS (kH x)) (kS (kH (kS (kH (xX (!(((kS (kH x)).neg) == ((kS (kH y)).neg))) (val (ofNat (val (ofNat (Int.natAbs (kH x))) / val (ofNat (Int.natAbs (kH y)))))))-kH (kS 1)))*kH (kS (kH y)))) (by omega) (by omega)))<|wT (qF kD)<|wT (qF kD)<|wM<|wZ) ?_
   refine jG ⟨_,(kJ (cs:=(bx (jT (kS (kH (xX (!(((kS (kH x)).neg) == ((kS (kH y)).neg))) (val (ofNat (val (ofNat (Int.natAbs (kH x))) / val (ofNat (Int.natAbs (kH y)))))))-kH (kS 1)))))) (d:=(jT (kS (kH (xX (!(((kS (kH x)).neg) == ((kS (kH y)).neg))) (val (ofNat (val (ofNat (Int.natAbs (kH x))) / val (ofNat (Int.natAbs (kH y)))))))-kH (kS 1))))) rfl rfl kD rfl rfl (kJ (cs:=(bx (jT (kS (kH (kS (kH x))-kH (kS (kH (kS (kH (xX (!(((kS (kH x)).neg) == ((kS (kH y)).neg))) (val (ofNat (val (ofNat (Int.natAbs (kH x))) / val (ofNat (Int.natAbs (kH y)))))))-kH (kS 1)))*kH (kS (kH y))))))))) (d:=(jT (kS (kH (kS (kH x))-kH (kS (kH (kS (kH (xX (!(((kS (kH x)).neg) == ((kS (kH y)).neg))) (val (ofNat (val (ofNat (Int.natAbs (kH x))) / val (ofNat (Int.natAbs (kH y)))))))-kH (kS 1)))*kH (kS (kH y)))))))) rfl rfl kD rfl rfl (.tmp (d:=(.val (.int .i64 (0)))) rfl .nil))),?_⟩
   rw[hk,r_rem_eq];rfl
  ·have hqm:=gs_mul (xX (!((kS (kH x)).neg == (kS (kH y)).neg)) (val (ofNat (val (ofNat (Int.natAbs (kH x))) / val (ofNat (Int.natAbs (kH y))))))) (kS (kH y))
   have hk:=r_div_same (X:=kH x) (Y:=kH y) hy1 (by rw[Bool.and_eq_false_iff,Bool.not_eq_false',beq_iff_eq,decide_eq_false_iff_not] at h3;exact h3)
   refine jF<|jB<|kd [(6,(jK 0))] [(2,some (bx (jT (xX (!(((kS (kH x)).neg) == ((kS (kH y)).neg))) (val (ofNat (val (ofNat (Int.natAbs (kH x))) / val (ofNat (Int.natAbs (kH y)))))))))),(3,some (bx (jT (kS (kH (kS (kH x))-kH (kS (kH (xX (!(((kS (kH x)).neg) == ((kS (kH y)).neg))) (val (ofNat (val (ofNat (Int.natAbs (kH x))) / val (ofNat (Int.natAbs (kH y)))))))*kH (kS (kH y)))))))))] mo (wR (kP kD)<|wR (kP kD)<|wR (kP kD)<|wR (kP kD)<|wE (kA (r_mul (xX (!(((kS (kH x)).neg) == ((kS (kH y)).neg))) (val (ofNat (val (ofNat (Int.natAbs (kH x))) / val (ofNat (Int.natAbs (kH y))))))) (kS (kH y)) (by omega) (by omega)))<|wE (kA (r_sub (kS (kH x)) (kS (kH (xX (!(((kS (kH x)).neg) == ((kS (kH y)).neg))) (val (ofNat (val (ofNat (Int.natAbs (kH x))) / val (ofNat (Int.natAbs (kH y)))))))*kH (kS (kH y)))) (by omega) (by omega)))<|wT (qF kD)<|wT (qF kD)<|wM<|wZ) ?_
   refine jG ⟨_,(kJ (cs:=(bx (jT (xX (!(((kS (kH x)).neg) == ((kS (kH y)).neg))) (val (ofNat (val (ofNat (Int.natAbs (kH x))) / val (ofNat (Int.natAbs (kH y)))))))))) (d:=(jT (xX (!(((kS (kH x)).neg) == ((kS (kH y)).neg))) (val (ofNat (val (ofNat (Int.natAbs (kH x))) / val (ofNat (Int.natAbs (kH y))))))))) rfl rfl kD rfl rfl (kJ (cs:=(bx (jT (kS (kH (kS (kH x))-kH (kS (kH (xX (!(((kS (kH x)).neg) == ((kS (kH y)).neg))) (val (ofNat (val (ofNat (Int.natAbs (kH x))) / val (ofNat (Int.natAbs (kH y)))))))*kH (kS (kH y))))))))) (d:=(jT (kS (kH (kS (kH x))-kH (kS (kH (xX (!(((kS (kH x)).neg) == ((kS (kH y)).neg))) (val (ofNat (val (ofNat (Int.natAbs (kH x))) / val (ofNat (Int.natAbs (kH y)))))))*kH (kS (kH y)))))))) rfl rfl kD rfl rfl (.tmp (d:=(.val (.int .i64 (0)))) rfl .nil))),?_⟩
   rw[hk,r_rem_eq];rfl
end Go.Proofs.YtnajallgoaiahaaGreatDoor
