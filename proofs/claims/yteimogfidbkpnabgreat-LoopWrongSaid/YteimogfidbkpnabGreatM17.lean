/- Part 17 of a proof: rules, plain facts, and functions walked. -/
import Derived.Test.YteimogfidbkpnabGreatM16
set_option linter.all false
set_option maxRecDepth 4000
namespace Go.Proofs.YteimogfidbkpnabGreat
open Go.Fid
theorem cb61:callB Tryz.prog 61=true:=by kernel_rfl
theorem cb86:callB Tryz.prog 86=true:=by kernel_rfl
theorem cb102:callB Tryz.prog 102=true:=by kernel_rfl
theorem cb103:callB Tryz.prog 103=true:=by kernel_rfl
theorem cb104:callB Tryz.prog 104=true:=by kernel_rfl
theorem cb105:callB Tryz.prog 105=true:=by kernel_rfl
theorem cb114:callB Tryz.prog 114=true:=by kernel_rfl
theorem cb120:callB Tryz.prog 120=true:=by kernel_rfl
theorem r_neg(x:kJ)(hx:x.gs.length≤1099511627776):kB Tryz.prog 86 [(jJ x)] (jJ (jQ (-jS x))):=by
 have hvx:=mO x
 refine jK Tryz.func86 rfl cb86 rfl ?_
 show qU _ _ _ _ ⟨[(0,(.d (jJ x)))],[]⟩
 refine jA<|kx [(1,(.ref 0 0)),(2,(.ref 1 0))] [(0,some (bx (jJ x))),(1,some (bx (jJ (kJ.mk false []))))] (zN (yC 0)<|zN (uQ 1 uH uI)<|zZ) ?_
 refine jA<|kx [] [(0,some (bx (jJ (jQ (jS x)))))] (zR (kY jL)<|zE (kE (nJ x (by omega)))<|zT (qA jL)<|zZ) ?_
 refine jA<|kx [] [(1,some (bx (jJ (vE (!((jQ (jS x)).neg)) (val (ofNat (Int.natAbs (jS x))))))))] (zE (kV uT)<|zR (kP dJ)<|zE oNt<|zE (kV uX)<|zR (kP xB)<|zE (kE (yP (!((jQ (jS x)).neg)) (ofNat (Int.natAbs (jS x))) (by first | assumption | exact kA _ | exact (kM _).1 | exact (kO _).1) (by omega)))<|zT (qA jL)<|zZ) ?_
 refine jI ⟨_,(kQ (cs:=(bx (jJ (vE (!((jQ (jS x)).neg)) (val (ofNat (Int.natAbs (jS x)))))))) (d:=(jJ (vE (!((jQ (jS x)).neg)) (val (ofNat (Int.natAbs (jS x))))))) rfl rfl jL rfl rfl .nil),?_⟩
 rw[← rneg_eq];rfl
theorem r_sign(x:kJ)(hx:x.gs.length≤1099511627776):kB Tryz.prog 61 [(jJ x)] (.val (.int .i64 ((kG (jS x))))):=by
 have hvx:=mO x
 refine jK Tryz.func61 rfl cb61 rfl ?_
 show qU _ _ _ _ ⟨[(0,(.d (jJ x)))],[]⟩
 refine jA<|kx [(1,(.ref 0 0))] [(0,some (bx (jJ x)))] (zN (yC 0)<|zM<|zZ) ?_
 refine jA<|kx [] [(0,some (bx (jJ (jQ (jS x)))))] (zR (kY jL)<|zE (kE (nJ x (by omega)))<|zT (qA jL)<|zZ) ?_
 refine jA<|jA<|kx [(8,(vb ((((ofNat (Int.natAbs (jS x))).length:Nat):Int) == 0)))] [] (zE (kV uX)<|zR (kP xB)<|zE (xD kC (L:=(ofNat (Int.natAbs (jS x)))))<|zE gX<|zZ) ?_
 refine jG rfl (fun h1=>?_) (fun h1=>?_)
 ·replace h1:=eq_of_beq h1
  refine jA<|kx [(2,(jT 0))] [] (zM<|zZ) ?_
  refine jI ⟨_,(.tmp (d:=(.val (.int .i64 (0)))) rfl .nil),?_⟩
  rw[rsign_zero h1];rfl
 ·replace h1:=ne_of_beq_false h1
  refine jE<|jA<|jA<|kx [(10,(vb ((jQ (jS x)).neg)))] [] (zE (kV uT)<|zR (kP dJ)<|zZ) ?_
  refine jG (b:=(jQ (jS x)).neg) rfl (fun h2=>?_) (fun h2=>?_)
  ·refine jA<|kx [(2,(vi (-1)))] [] (zM<|zZ) ?_
   refine jI ⟨_,(.tmp (d:=(.val (.int .i64 (-1)))) rfl .nil),?_⟩
   rw[rsign_neg h1 h2];rfl
  ·refine jE<|jA<|kx [(2,(jT 1))] [] (zM<|zZ) ?_
   refine jI ⟨_,(.tmp (d:=(.val (.int .i64 (1)))) rfl .nil),?_⟩
   rw[rsign_pos h1 h2];rfl
theorem r_add(x:kJ)(y:kJ)(hx:x.gs.length≤1099511627776)(hy:y.gs.length≤1099511627776):kB Tryz.prog 120 [(jJ x),(jJ y)] (jJ (jQ (jS x+jS y))):=by
 have hvx:=mO x
 have hvy:=mO y
 refine jK Tryz.func120 rfl cb120 rfl ?_
 show qU _ _ _ _ ⟨[(0,(.d (jJ x))),(1,(.d (jJ y)))],[]⟩
 refine jA<|kx [(2,(.ref 0 0)),(3,(.ref 1 0)),(4,(.ref 2 0))] [(0,some (bx (jJ x))),(1,some (bx (jJ y))),(2,some (bx (jJ (kJ.mk false []))))] (zN (yC 0)<|zN (yC 1)<|zN (uQ 2 uH uI)<|zZ) ?_
 refine jA<|kd [] [(0,some (bx (jJ (jQ (jS x))))),(1,some (bx (jJ (jQ (jS y)))))] mo (wR (kY jL)<|wE (kE (nJ x (by omega)))<|wR (kY jL)<|wE (kE (nJ y (by omega)))<|wT (qA jL)<|wT (qA jL)<|wZ) ?_
 refine jA<|jA<|kx [(13,(vb (((jQ (jS x)).neg) == ((jQ (jS y)).neg))))] [] (zE (kV uT)<|zR (kP dJ)<|zE (kV uT)<|zR (kP dJ)<|zE (oEb bo4)<|zZ) ?_
 refine jG rfl (fun h1=>?_) (fun h1=>?_)
 ·replace h1:=eq_of_beq h1
  refine jA<|kd [] [(2,some (bx (jJ (vE ((jQ (jS x)).neg) (val (ofNat (val (ofNat (Int.natAbs (jS x)))+val (ofNat (Int.natAbs (jS y))))))))))] mo (wE (kV uT)<|wR (kP dJ)<|wE (kV uX)<|wR (kP xB)<|wE (kV uX)<|wR (kP xB)<|wE (kE (r_plus (ofNat (Int.natAbs (jS x))) (ofNat (Int.natAbs (jS y))) (by first | assumption | exact kA _ | exact (kM _).1 | exact (kO _).1) (by first | assumption | exact kA _ | exact (kM _).1 | exact (kO _).1) (by omega) (by omega)))<|wE (kE (yP ((jQ (jS x)).neg) (ofNat (val (ofNat (Int.natAbs (jS x)))+val (ofNat (Int.natAbs (jS y))))) (by first | assumption | exact kA _ | exact (kM _).1 | exact (kO _).1) (by first | omega | exact Nat.le_trans (add_len (kA _) (kA _)) (by omega) | exact Nat.le_trans (sub_len (kA _)) (by omega))))<|wT (qA jL)<|wZ) ?_
  refine jI ⟨_,(kQ (cs:=(bx (jJ (vE ((jQ (jS x)).neg) (val (ofNat (val (ofNat (Int.natAbs (jS x)))+val (ofNat (Int.natAbs (jS y)))))))))) (d:=(jJ (vE ((jQ (jS x)).neg) (val (ofNat (val (ofNat (Int.natAbs (jS x)))+val (ofNat (Int.natAbs (jS y))))))))) rfl rfl jL rfl rfl .nil),?_⟩
  rw[← rsum_same h1];rfl
 ·replace h1:=ne_of_beq_false h1
  refine jE<|jA<|jA<|kx [(27,(vb (decide (0≤(qY ((val (ofNat (Int.natAbs (jS x))):Nat):Int) ((val (ofNat (Int.natAbs (jS y))):Nat):Int))))))] [] (zE (kV uX)<|zR (kP xB)<|zE (kV uX)<|zR (kP xB)<|zE (kE (r_size (ofNat (Int.natAbs (jS x))) (ofNat (Int.natAbs (jS y))) (by first | assumption | exact kM _ | exact kO _) (by first | assumption | exact kM _ | exact kO _) (by omega) (by omega)))<|zE oGe<|zZ) ?_
  refine jG rfl (fun h2=>?_) (fun h2=>?_)
  ·replace h2:=uW h2
   refine jA<|kd [] [(2,some (bx (jJ (vE ((jQ (jS x)).neg) (val (ofNat (val (ofNat (Int.natAbs (jS x)))-val (ofNat (Int.natAbs (jS y))))))))))] mo (wE (kV uT)<|wR (kP dJ)<|wE (kV uX)<|wR (kP xB)<|wE (kV uX)<|wR (kP xB)<|wE (kE (r_minus (ofNat (Int.natAbs (jS x))) (ofNat (Int.natAbs (jS y))) (by first | assumption | exact kA _ | exact (kM _).1 | exact (kO _).1) (by first | assumption | exact kA _ | exact (kM _).1 | exact (kO _).1) (by have:=eA h2;omega) (by omega)))<|wE (kE (yP ((jQ (jS x)).neg) (ofNat (val (ofNat (Int.natAbs (jS x)))-val (ofNat (Int.natAbs (jS y))))) (by first | assumption | exact kA _ | exact (kM _).1 | exact (kO _).1) (by first | omega | exact Nat.le_trans (add_len (kA _) (kA _)) (by omega) | exact Nat.le_trans (sub_len (kA _)) (by omega))))<|wT (qA jL)<|wZ) ?_
   refine jI ⟨_,(kQ (cs:=(bx (jJ (vE ((jQ (jS x)).neg) (val (ofNat (val (ofNat (Int.natAbs (jS x)))-val (ofNat (Int.natAbs (jS y)))))))))) (d:=(jJ (vE ((jQ (jS x)).neg) (val (ofNat (val (ofNat (Int.natAbs (jS x)))-val (ofNat (Int.natAbs (jS y))))))))) rfl rfl jL rfl rfl .nil),?_⟩
   rw[← rsum_first h1 (by have:=eA h2;omega)];rfl
  ·replace h2:=uY h2
   refine jE<|jA<|kd [] [(2,some (bx (jJ (vE ((jQ (jS y)).neg) (val (ofNat (val (ofNat (Int.natAbs (jS y)))-val (ofNat (Int.natAbs (jS x))))))))))] mo (wE (kV uT)<|wR (kP dJ)<|wE (kV uX)<|wR (kP xB)<|wE (kV uX)<|wR (kP xB)<|wE (kE (r_minus (ofNat (Int.natAbs (jS y))) (ofNat (Int.natAbs (jS x))) (by first | assumption | exact kA _ | exact (kM _).1 | exact (kO _).1) (by first | assumption | exact kA _ | exact (kM _).1 | exact (kO _).1) (by have:=cmpI_lt h2;omega) (by omega)))<|wE (kE (yP ((jQ (jS y)).neg) (ofNat (val (ofNat (Int.natAbs (jS y)))-val (ofNat (Int.natAbs (jS x))))) (by first | assumption | exact kA _ | exact (kM _).1 | exact (kO _).1) (by first | omega | exact Nat.le_trans (add_len (kA _) (kA _)) (by omega) | exact Nat.le_trans (sub_len (kA _)) (by omega))))<|wT (qA jL)<|wZ) ?_
   refine jI ⟨_,(kQ (cs:=(bx (jJ (vE ((jQ (jS y)).neg) (val (ofNat (val (ofNat (Int.natAbs (jS y)))-val (ofNat (Int.natAbs (jS x)))))))))) (d:=(jJ (vE ((jQ (jS y)).neg) (val (ofNat (val (ofNat (Int.natAbs (jS y)))-val (ofNat (Int.natAbs (jS x))))))))) rfl rfl jL rfl rfl .nil),?_⟩
   rw[← rsum_second h1 (by have:=cmpI_lt h2;omega)];rfl
theorem r_sub(x:kJ)(y:kJ)(hx:x.gs.length≤1099511627776)(hy:y.gs.length≤1099511627776):kB Tryz.prog 104 [(jJ x),(jJ y)] (jJ (jQ (jS x-jS y))):=by
 have hv:=gs_neg y
 refine jK Tryz.func104 rfl cb104 rfl ?_
 show qU _ _ _ _ ⟨[(0,(.d (jJ x))),(1,(.d (jJ y)))],[]⟩
 refine jA<|kx [(2,(.ref 0 0)),(3,(.ref 1 0)),(4,(.ref 2 0))] [(0,some (bx (jJ x))),(1,some (bx (jJ y))),(2,some (bx (jJ (kJ.mk false []))))] (zN (yC 0)<|zN (yC 1)<|zN (uQ 2 uH uI)<|zZ) ?_
 refine jA<|kd [] [(2,some (bx (jJ (jQ (jS x+jS (jQ (-jS y)))))))] mo (wR (kY jL)<|wR (kY jL)<|wE (kE (r_neg y (by omega)))<|wE (kE (r_add x (jQ (-jS y)) (by omega) (by omega)))<|wT (qA jL)<|wZ) ?_
 refine jI ⟨_,(kQ (cs:=(bx (jJ (jQ (jS x+jS (jQ (-jS y))))))) (d:=(jJ (jQ (jS x+jS (jQ (-jS y)))))) rfl rfl jL rfl rfl .nil),?_⟩
 rw[gY,← Int.sub_eq_add_neg];rfl
theorem r_mul(x:kJ)(y:kJ)(hx:x.gs.length≤1099511627776)(hy:y.gs.length≤1099511627776):kB Tryz.prog 105 [(jJ x),(jJ y)] (jJ (jQ (jS x*jS y))):=by
 have hvx:=mO x
 have hvy:=mO y
 have hda:=kA (Int.natAbs (jS x))
 have hdb:=kA (Int.natAbs (jS y))
 refine jK Tryz.func105 rfl cb105 rfl ?_
 show qU _ _ _ _ ⟨[(0,(.d (jJ x))),(1,(.d (jJ y)))],[]⟩
 refine jA<|kx [(2,(.ref 0 0)),(3,(.ref 1 0)),(4,(.ref 2 0))] [(0,some (bx (jJ x))),(1,some (bx (jJ y))),(2,some (bx (jJ (kJ.mk false []))))] (zN (yC 0)<|zN (yC 1)<|zN (uQ 2 uH uI)<|zZ) ?_
 refine jA<|kd [] [(0,some (bx (jJ (jQ (jS x))))),(1,some (bx (jJ (jQ (jS y)))))] mo (wR (kY jL)<|wE (kE (nJ x (by omega)))<|wR (kY jL)<|wE (kE (nJ y (by omega)))<|wT (qA jL)<|wT (qA jL)<|wZ) ?_
 refine jA<|kx [(5,(.own 3 103 1 ((ofNat (Int.natAbs (jS x))).length+(ofNat (Int.natAbs (jS y))).length)))] [(3,some (bm jD (List.replicate ((ofNat (Int.natAbs (jS x))).length+(ofNat (Int.natAbs (jS y))).length) 0)))] (zE (kV uX)<|zR (kP xB)<|zE (xD kC (L:=(ofNat (Int.natAbs (jS x)))))<|zE (kV uX)<|zR (kP xB)<|zE (xD kC (L:=(ofNat (Int.natAbs (jS y)))))<|zE (qS ((ofNat (Int.natAbs (jS x))).length+(ofNat (Int.natAbs (jS y))).length))<|zN (oMk 3 jD (0:Nat) ((ofNat (Int.natAbs (jS x))).length+(ofNat (Int.natAbs (jS y))).length) ((ofNat (Int.natAbs (jS x))).length+(ofNat (Int.natAbs (jS y))).length) kC uO xQ yX)<|zM<|zZ) ?_
 refine jA<|jA<|kx [(6,(jT 0))] [] (zM<|zZ) ?_
 refine jH<|kI (α:=Nat × List Nat) (fun (i,out)=>⟨[(2,(.ref 0 0)),(3,(.ref 1 0)),(4,(.ref 2 0)),(5,(.own 3 103 1 ((ofNat (Int.natAbs (jS x))).length+(ofNat (Int.natAbs (jS y))).length))),(6,(jT i))],[(0,some (bx (jJ (jQ (jS x))))),(1,some (bx (jJ (jQ (jS y))))),(2,some (bx (jJ (kJ.mk false [])))),(3,some (bm jD out))]⟩) (fun (i,out)=>out.length=(ofNat (Int.natAbs (jS x))).length+(ofNat (Int.natAbs (jS y))).length∧Dig out∧i≤(ofNat (Int.natAbs (jS x))).length∧(∀ k,i+(ofNat (Int.natAbs (jS y))).length≤k→out.getD k 0=0)∧val out=val ((ofNat (Int.natAbs (jS x))).take i)*val (ofNat (Int.natAbs (jS y)))) (fun (i,out)=>(ofNat (Int.natAbs (jS x))).length-i) (0,List.replicate ((ofNat (Int.natAbs (jS x))).length+(ofNat (Int.natAbs (jS y))).length) 0) wk ⟨by simp,vU _,Nat.zero_le _,fun k _=>dG _ k,by simp [val,mP]⟩ ?_
 rintro ⟨i,out⟩ ⟨qP,hdo,hi,hz,hv⟩
 have hai:=hda.getD i
 refine jA<|jA<|kx [(26,(vb (decide (((i:Nat):Int)<(((ofNat (Int.natAbs (jS x))).length:Nat):Int)))))] [] (zM<|zE (kV uX)<|zR (kP xB)<|zE (xD kC (L:=(ofNat (Int.natAbs (jS x)))))<|zE uM<|zZ) ?_
 refine jG rfl (fun h1=>?_) (fun h1=>?_)
 ·replace h1:=uW h1
  refine jE<|jA<|jH<|jA<|kx [(7,(xT 0))] [] (zM<|zZ) ?_
  refine jA<|jA<|kx [(8,(jT 0))] [] (zM<|zZ) ?_
  refine jH<|kI (α:=Nat × List Nat × Nat) (fun (j,o2,c)=>⟨[(2,(.ref 0 0)),(3,(.ref 1 0)),(4,(.ref 2 0)),(5,(.own 3 103 1 ((ofNat (Int.natAbs (jS x))).length+(ofNat (Int.natAbs (jS y))).length))),(6,(jT i)),(7,(xT c)),(8,(jT j))],[(0,some (bx (jJ (jQ (jS x))))),(1,some (bx (jJ (jQ (jS y))))),(2,some (bx (jJ (kJ.mk false [])))),(3,some (bm jD o2))]⟩) (fun (j,o2,c)=>o2.length=(ofNat (Int.natAbs (jS x))).length+(ofNat (Int.natAbs (jS y))).length∧Dig o2∧j≤(ofNat (Int.natAbs (jS y))).length∧c<1000000000∧(∀ k,i+(ofNat (Int.natAbs (jS y))).length≤k→o2.getD k 0=0)∧val o2+pw (i+j)*c=val ((ofNat (Int.natAbs (jS x))).take i)*val (ofNat (Int.natAbs (jS y)))+pw i*((ofNat (Int.natAbs (jS x))).getD i 0*val ((ofNat (Int.natAbs (jS y))).take j))) (fun (j,o2,c)=>(ofNat (Int.natAbs (jS y))).length-j) (0,out,0) wk ⟨qP,hdo,Nat.zero_le _,by decide,hz,by simp [val,hv]⟩ ?_
  rintro ⟨j,o2,c⟩ ⟨hlen2,hdo2,hj,hc,hz2,hv2⟩
  have hbj:=hdb.getD j
  have hoj:=hdo2.getD (i+j)
  have hpq:(ofNat (Int.natAbs (jS x))).getD i 0*(ofNat (Int.natAbs (jS y))).getD j 0≤999999999*999999999:=Nat.mul_le_mul (by omega) (by omega)
  refine jA<|jA<|kx [(33,(vb (decide (((j:Nat):Int)<(((ofNat (Int.natAbs (jS y))).length:Nat):Int)))))] [] (zM<|zE (kV uX)<|zR (kP xB)<|zE (xD kC (L:=(ofNat (Int.natAbs (jS y)))))<|zE uM<|zZ) ?_
  refine jG rfl (fun h2=>?_) (fun h2=>?_)
  ·replace h2:=uW h2
   refine jE<|jA<|jH<|jA<|kd [(9,(xT (((o2.getD (i+j) 0)+(((ofNat (Int.natAbs (jS x))).getD i 0)*((ofNat (Int.natAbs (jS y))).getD j 0)))+c)))] [] mo (wM<|wM<|wM<|wE (qS (i+j))<|wE (eR kC (i+j))<|wR (oLp qD (i+j) (0:Nat))<|wE (yR vW vY (o2.getD (i+j) 0))<|wE (kV uX)<|wR (kP xB)<|wM<|wE (gV kC i (0:Nat) (L:=(ofNat (Int.natAbs (jS x)))))<|wE (nG qD)<|wE (yR vW vY ((ofNat (Int.natAbs (jS x))).getD i 0))<|wE (kV uX)<|wR (kP xB)<|wM<|wE (gV kC j (0:Nat) (L:=(ofNat (Int.natAbs (jS y)))))<|wE (nG qD)<|wE (yR vW vY ((ofNat (Int.natAbs (jS y))).getD j 0))<|wE (oMl (((ofNat (Int.natAbs (jS x))).getD i 0)*((ofNat (Int.natAbs (jS y))).getD j 0)))<|wE (qS ((o2.getD (i+j) 0)+(((ofNat (Int.natAbs (jS x))).getD i 0)*((ofNat (Int.natAbs (jS y))).getD j 0))))<|wM<|wE (qS (((o2.getD (i+j) 0)+(((ofNat (Int.natAbs (jS x))).getD i 0)*((ofNat (Int.natAbs (jS y))).getD j 0)))+c))<|wM<|wZ) ?_
   refine jA<|kx [] [(3,some (bm jD (o2.set (i+j) ((((o2.getD (i+j) 0)+(((ofNat (Int.natAbs (jS x))).getD i 0)*((ofNat (Int.natAbs (jS y))).getD j 0)))+c) % 1000000000))))] (zM<|zM<|zM<|zE (qS (i+j))<|zM<|zE (oRe ((((o2.getD (i+j) 0)+(((ofNat (Int.natAbs (jS x))).getD i 0)*((ofNat (Int.natAbs (jS y))).getD j 0)))+c) % 1000000000))<|zE (yR zG zI ((((o2.getD (i+j) 0)+(((ofNat (Int.natAbs (jS x))).getD i 0)*((ofNat (Int.natAbs (jS y))).getD j 0)))+c) % 1000000000))<|zE (eR kC (i+j))<|zT (oSp qD (i+j) ((((o2.getD (i+j) 0)+(((ofNat (Int.natAbs (jS x))).getD i 0)*((ofNat (Int.natAbs (jS y))).getD j 0)))+c) % 1000000000))<|zZ) ?_
   refine kx [(7,(xT ((((o2.getD (i+j) 0)+(((ofNat (Int.natAbs (jS x))).getD i 0)*((ofNat (Int.natAbs (jS y))).getD j 0)))+c) / 1000000000)))] [] (zM<|zE (oQu ((((o2.getD (i+j) 0)+(((ofNat (Int.natAbs (jS x))).getD i 0)*((ofNat (Int.natAbs (jS y))).getD j 0)))+c) / 1000000000))<|zM<|zZ) ?_
   refine kx [(8,(jT (j+1)))] [] (zM<|zE (qS (j+1))<|zM<|zZ) ?_
   exact ⟨(j+1,o2.set (i+j) ((o2.getD (i+j) 0+(ofNat (Int.natAbs (jS x))).getD i 0*(ofNat (Int.natAbs (jS y))).getD j 0+c) % 1000000000),(o2.getD (i+j) 0+(ofNat (Int.natAbs (jS x))).getD i 0*(ofNat (Int.natAbs (jS y))).getD j 0+c) / 1000000000),wk,(by obtain ⟨q1,q2⟩:=times_step (by omega) hdo2 hv2 rfl (val_take_succ _ j);exact ⟨by simpa using hlen2,q1,by omega,by omega,zero_set (by omega) hz2,q2⟩),(by first|omega|(dsimp only;omega))⟩
  ·replace h2:=uY h2
   have hje:j=(ofNat (Int.natAbs (jS y))).length:=by omega
   rw[hje] at hv2
   refine jW<|kx [] [(3,some (bm jD (o2.set (i+(ofNat (Int.natAbs (jS y))).length) c)))] (zM<|zM<|zE (kV uX)<|zR (kP xB)<|zE (xD kC (L:=(ofNat (Int.natAbs (jS y)))))<|zE (qS (i+(ofNat (Int.natAbs (jS y))).length))<|zM<|zE (yR zG zI c)<|zE (eR kC (i+(ofNat (Int.natAbs (jS y))).length))<|zT (oSp qD (i+(ofNat (Int.natAbs (jS y))).length) c)<|zZ) ?_
   refine kx [(6,(jT (i+1)))] [] (zM<|zE (qS (i+1))<|zM<|zZ) ?_
   exact ⟨(i+1,o2.set (i+(ofNat (Int.natAbs (jS y))).length) c),wk,(by obtain ⟨q1,q2,q3,q4⟩:=times_row hdo2 (by omega) hlen2 hz2 hc hv2;exact ⟨q1,q2,by omega,q3,q4⟩),(by first|omega|(dsimp only;omega))⟩
 ·replace h1:=uY h1
  have hie:i=(ofNat (Int.natAbs (jS x))).length:=by omega
  rw[hie,List.take_length] at hv
  refine jW<|jA<|kX (vV (t:=5) (k:=3) (es:=List.map jD out) rfl rfl (uU _ _ (fun _=>rfl)) (vG _ _ qP) (vS _ _ (fun _=>rfl) qP)) ?_
  refine kx [] [(2,some (bx (jJ (vE (!(((jQ (jS x)).neg) == ((jQ (jS y)).neg))) (val out)))))] (zE (kV uT)<|zR (kP dJ)<|zE (kV uT)<|zR (kP dJ)<|zE (oNb bo4)<|zM<|zE (kE (yP (!(((jQ (jS x)).neg) == ((jQ (jS y)).neg))) out hdo (by omega)))<|zT (qA jL)<|zZ) ?_
  refine jI ⟨_,(kQ (cs:=(bx (jJ (vE (!(((jQ (jS x)).neg) == ((jQ (jS y)).neg))) (val out))))) (d:=(jJ (vE (!(((jQ (jS x)).neg) == ((jQ (jS y)).neg))) (val out)))) rfl rfl jL rfl rfl .nil),?_⟩
  rw[hv,rmul_eq];rfl
theorem r_short(a:List Nat)(d:Nat)(hda:Dig a)(hd0:0<d)(hd1:d≤1000000000)(hla:a.length≤17592186044416):kB Tryz.prog 114 [(.sl 103 1 (List.map jD a)),(.val (.int .u64 (((d:Nat):Int))))] (.tup [(.sl 103 1 (List.map jD (ofNat (val a / d)))),(.val (.int .u64 ((((val a % d):Nat):Int))))]):=by
 refine jK Tryz.func114 rfl cb114 rfl ?_
 show qU _ _ _ _ ⟨[(0,(vl 103 1 jD a)),(1,(xT d))],[]⟩
 refine jA<|kx [] [] (zE (oNl 103 1)<|zM<|zZ) ?_
 refine jA<|kx [(6,(.own 0 103 1 a.length))] [(0,some (bm jD (List.replicate a.length 0)))] (zM<|zE (xD kC)<|zN (oMk 0 jD (0:Nat) a.length a.length kC uO xQ yX)<|zM<|zZ) ?_
 refine jA<|kx [(7,(xT 0))] [] (zM<|zZ) ?_
 refine jA<|jA<|kx [(8,(vi (((a.length:Nat):Int)-1)))] [] (zM<|zE (xD kC)<|zE (zSb (((a.length:Nat):Int)-1))<|zM<|zZ) ?_
 refine jH<|kI (α:=Nat × List Nat × Nat) (fun (k,q,vC)=>⟨[(0,(vl 103 1 jD a)),(1,(xT d)),(6,(.own 0 103 1 a.length)),(7,(xT vC)),(8,(vi (((k:Nat):Int)-1)))],[(0,some (bm jD q))]⟩) (fun (k,q,vC)=>k≤a.length∧q.length=a.length∧Dig q∧vC<d∧val (a.drop k)=val (q.drop k)*d+vC) (fun (k,q,vC)=>k) (a.length,List.replicate a.length 0,0) wk ⟨Nat.le_refl _,by simp,vU _,hd0,by simp [val]⟩ ?_
 rintro ⟨k,q,vC⟩ ⟨hk,qP,hdq,hr,hv⟩
 refine jA<|jA<|kx [(17,(vb (decide (0≤(((k:Nat):Int)-1)))))] [] (zM<|zE oGe<|zZ) ?_
 refine jG (b:=decide (0≤(((k:Nat):Int)-1))) rfl (fun h1=>?_) (fun h1=>?_)
 ·replace h1:=uW h1
  obtain ⟨i,rfl⟩:∃ i,k=i+1:=⟨k-1,by omega⟩
  rw[show (((i+1:Nat):Int)-1)=((i:Nat):Int) from by omega]
  have hg:=hda.getD i
  obtain ⟨hb1,hb2⟩:=short_bound hr hd1 hg
  refine jE<|jA<|jH<|jA<|kx [(8,(jT i)),(9,(xT ((vC*1000000000)+(a.getD i 0))))] [] (zM<|zE (oMl (vC*1000000000))<|zM<|zM<|zE (gV kC i (0:Nat))<|zE (nG qD)<|zE (yR vW vY (a.getD i 0))<|zE (qS ((vC*1000000000)+(a.getD i 0)))<|zM<|zZ) ?_
  refine jA<|kx [] [(0,some (bm jD (q.set i (((vC*1000000000)+(a.getD i 0)) / d))))] (zM<|zM<|zM<|zM<|zE (oQu (((vC*1000000000)+(a.getD i 0)) / d))<|zE (yR zG zI (((vC*1000000000)+(a.getD i 0)) / d))<|zE (eR kC i)<|zT (oSp qD i (((vC*1000000000)+(a.getD i 0)) / d))<|zZ) ?_
  refine kx [(7,(xT (((vC*1000000000)+(a.getD i 0)) % d)))] [] (zM<|zM<|zE (oRe (((vC*1000000000)+(a.getD i 0)) % d))<|zM<|zZ) ?_
  refine kx [(8,(vi (((i:Nat):Int)-1)))] [] (zM<|zE (zSb (((i:Nat):Int)-1))<|zM<|zZ) ?_
  exact ⟨(i,q.set i ((vC*1000000000+a.getD i 0) / d),(vC*1000000000+a.getD i 0) % d),wk,⟨by omega,by simpa using qP,hdq.set _ hb2,Nat.mod_lt _ hd0,rshort_step (by omega) hv rfl⟩,(by first|omega|(dsimp only;omega))⟩
 ·replace h1:=uY h1
  obtain rfl:k=0:=by omega
  obtain ⟨e1,e2⟩:=short_end (a:=a) (q:=q) (by rw[Nat.sub_self];exact hv) hr
  refine jW<|jA<|kX (vV (t:=6) (k:=0) (es:=List.map jD q) rfl rfl (uU _ _ (fun _=>rfl)) (vG _ _ qP) (vS _ _ (fun _=>rfl) qP)) ?_
  refine kx [(4,(vl 103 1 jD (ofNat (val q)))),(5,(xT vC))] [] (zM<|zE (kE (yP false q (by first | assumption | exact kA _ | exact (kM _).1 | exact (kO _).1) (by omega)))<|zE (oF1 eN xB)<|zM<|zM<|zM<|zZ) ?_
  refine jI ⟨_,(.tmp (d:=(.sl 103 1 (List.map jD (ofNat (val q))))) rfl (.tmp (d:=(.val (.int .u64 (((vC:Nat):Int))))) rfl .nil)),?_⟩
  rw[← e1,← e2];rfl
theorem r_pair(l:List Nat)(hd:Dig l)(h2:l.length≤2):kB Tryz.prog 103 [(.sl 103 1 (List.map jD l))] (.val (.int .u64 ((((val l):Nat):Int)))):=by
 have h0:=hd.getD 0
 have h1:=hd.getD 1
 refine jK Tryz.func103 rfl cb103 rfl ?_
 show qU _ _ _ _ ⟨[(0,(vl 103 1 jD l))],[]⟩
 refine jA<|kx [] [] (zM<|zZ) ?_
 refine jA<|kx [(2,(xT (((l.getD 1 0)*1000000000)+(l.getD 0 0))))] [] (zM<|zE (kE (dV l 1 (by first | assumption | exact kA _ | exact (kM _).1 | exact (kO _).1)))<|zE (oMl ((l.getD 1 0)*1000000000))<|zM<|zE (kE (dV l 0 (by first | assumption | exact kA _ | exact (kM _).1 | exact (kO _).1)))<|zE (qS (((l.getD 1 0)*1000000000)+(l.getD 0 0)))<|zM<|zZ) ?_
 refine jI ⟨_,(.tmp (d:=(.val (.int .u64 ((((((l.getD 1 0)*1000000000)+(l.getD 0 0)):Nat):Int))))) rfl .nil),?_⟩
 rw[val_pair h2];rfl
theorem r_parts(a b:List Nat)(hda:xZ a)(hdb:xZ b)(hb0:0<b.length)(hla:a.length≤1099511627776)(hlb:b.length≤1099511627776):kB Tryz.prog 102 [(.sl 103 1 (List.map jD a)),(.sl 103 1 (List.map jD b))] (.tup [(.sl 103 1 (List.map jD (ofNat (val a / val b)))),(.sl 103 1 (List.map jD (ofNat (val a % val b))))]):=by
 have hsc:=fH hdb hb0
 have htp:=aB hdb hb0
 have hbp:=nC hdb hb0
 refine jK Tryz.func102 rfl cb102 rfl ?_
 show qU _ _ _ _ ⟨[(0,(vl 103 1 jD a)),(1,(vl 103 1 jD b))],[]⟩
 refine jA<|kx [] [] (zE (oNl 103 1)<|zE (oNl 103 1)<|zZ) ?_
 refine jA<|kx [(6,(jT b.length))] [] (zM<|zE (xD kC)<|zM<|zZ) ?_
 refine jA<|jA<|kx [(19,(vb (((b.length:Nat):Int) == 1)))] [] (zM<|zE gX<|zZ) ?_
 refine jG (b:=(((b.length:Nat):Int) == 1)) rfl (fun h1=>?_) (fun h1=>?_)
 ·replace h1:=eq_of_beq h1
  have hg0:=hdb.1.getD 0
  have hv1:=val_len1 (b:=b) (by omega)
  have hb00:0<b.getD 0 0:=by omega
  have hrl:val a % b.getD 0 0<1000000000:=Nat.lt_trans (Nat.mod_lt _ hb00) (by omega)
  refine jA<|kx [(7,(vl 103 1 jD (ofNat (val a / (b.getD 0 0))))),(8,(xT (val a % (b.getD 0 0))))] [] (zM<|zM<|zE (gV kC 0 (0:Nat))<|zE (nG qD)<|zE (yR vW vY (b.getD 0 0))<|zE (kE (r_short a (b.getD 0 0) hda.1 (by omega) (by omega) (by omega)))<|zM<|zE qQ<|zE qQ<|zM<|zM<|zZ) ?_
  refine jA<|kx [(4,(vl 103 1 jD (ofNat (val a / (b.getD 0 0))))),(5,(vl 103 1 jD (ofNat (val [(val a % (b.getD 0 0))]))))] [] (zM<|zM<|zE (yR zG zI (val a % (b.getD 0 0)))<|zE (oBs kC uO xQ)<|zE (kE (yP false [(val a % (b.getD 0 0))] (xP.2 ⟨by omega,zP⟩) (by simp)))<|zE (oF1 eN xB)<|zM<|zM<|zZ) ?_
  refine jI ⟨_,(.tmp (d:=(.sl 103 1 (List.map jD (ofNat (val a / (b.getD 0 0)))))) rfl (.tmp (d:=(.sl 103 1 (List.map jD (ofNat (val [(val a % (b.getD 0 0))]))))) rfl .nil)),?_⟩
  rw[hv1,nH];rfl
 ·replace h1:=ne_of_beq_false h1
  refine jE<|jA<|jA<|kx [(38,(vb (decide ((qY ((val a:Nat):Int) ((val b:Nat):Int))<0))))] [] (zM<|zM<|zE (kE (r_size a b (by first | assumption | exact kM _ | exact kO _) (by first | assumption | exact kM _ | exact kO _) (by omega) (by omega)))<|zE uM<|zZ) ?_
  refine jG rfl (fun h2=>?_) (fun h2=>?_)
  ·replace h2:=uW h2
   refine jA<|kx [(4,(vl 103 1 jD [])),(5,(vl 103 1 jD a))] [] (zE (oBs kC uO xQ)<|zM<|zM<|zM<|zZ) ?_
   refine jI ⟨_,(.tmp (d:=(.sl 103 1 (List.map jD []))) rfl (.tmp (d:=(.sl 103 1 (List.map jD a))) rfl .nil)),?_⟩
   have hlt:=cmpI_neg h2
   rw[Nat.div_eq_of_lt hlt,Nat.mod_eq_of_lt hlt,uA,← can_eq hda];rfl
  ·replace h2:=uY h2
   obtain ⟨u,hue⟩:∃ u,u=ofNat (val a*nT b):=⟨_,rfl⟩
   obtain ⟨v,hve⟩:∃ v,v=ofNat (val b*nT b):=⟨_,rfl⟩
   have hu:Dig u:=by rw[hue];exact kA _
   have hcv:xZ v:=by rw[hve];exact kM _
   have hvd:=hcv.1
   have hvl:v.length=b.length:=by rw[hve];exact scl_len hdb hb0
   have hvv:val v=val b*nT b:=by rw[hve];exact jX _
   have huv:val u=val a*nT b:=by rw[hue];exact jX _
   have hab:=len_of_le hda hdb (cmpI_nn h2)
   have hul:a.length≤u.length∧u.length≤a.length+1:=by rw[hue];exact scl_lenA hda hdb hb0
   have hvp:=nC hcv (by omega)
   have hpv:pw (b.length-1)≤val v:=by have h1:=val_top hvd (by omega);have h3:=aB hcv (by omega);rw[hvl] at h1 h3;have h2:=Nat.mul_le_mul_right (pw (b.length-1)) h3.1;omega
   refine jE<|jA<|kx [(9,(xT (nT b)))] [] (zM<|zM<|zE (oSb (b.length-1))<|zE (gV kC (b.length-1) (0:Nat))<|zE (nG qD)<|zE (yR vW vY (b.getD (b.length-1) 0))<|zE (qS ((b.getD (b.length-1) 0)+1))<|zE (oQu (nT b) (hr:=by exact (quo_u64 1000000000 (b.getD (b.length-1) 0+1) (by decide))))<|zM<|zZ) ?_
   refine jA<|kx [(0,(vl 103 1 jD u)),(1,(vl 103 1 jD v))] [] (zM<|zM<|zE (kE (hue▸r_scaled a (nT b) hda.1 (by omega) (by omega)))<|zM<|zM<|zE (kE (hve▸r_scaled b (nT b) hdb.1 (by omega) (by omega)))<|zM<|zM<|zZ) ?_
   refine jA<|kx [(10,(vl 103 1 jD (ofNat (val (List.drop ((u.length-b.length)+1) u)))))] [] (zM<|zM<|zE (xD kC)<|zM<|zE (oSb (u.length-b.length))<|zE (qS ((u.length-b.length)+1))<|zE (e_slc (l:=((u.length-b.length)+1)) (h:=(List.map jD u).length) (kl:=.i64) (kh:=.i64) (es':=List.map jD (List.drop ((u.length-b.length)+1) u)) (by exact rfl) kC (by exact rfl) (by exact rfl) (by exact rfl) (by simp only[List.length_map];omega) (Nat.le_refl _) (by rw[List.take_length,List.map_drop]))<|zE (kE (yP false (List.drop ((u.length-b.length)+1) u) (hu.drop _) (by rw[List.length_drop];omega)))<|zE (oF1 eN xB)<|zM<|zZ) ?_
   refine jA<|kx [(11,(.own 0 103 1 ((u.length-b.length)+1)))] [(0,some (bm jD (List.replicate ((u.length-b.length)+1) 0)))] (zM<|zE (xD kC)<|zM<|zE (oSb (u.length-b.length))<|zE (qS ((u.length-b.length)+1))<|zN (oMk 0 jD (0:Nat) ((u.length-b.length)+1) ((u.length-b.length)+1) kC uO xQ yX)<|zM<|zZ) ?_
   refine jA<|jA<|kx [(12,(vi ((((u.length-b.length)+1:Nat):Int)-1)))] [] (zM<|zE (xD kC)<|zM<|zE (zSb ((((u.length-b.length)+1:Nat):Int)-1))<|zM<|zZ) ?_
   refine jH<|kI (α:=Nat × List Nat × List Nat) (fun (k,r,q)=>⟨[(0,(vl 103 1 jD u)),(1,(vl 103 1 jD v)),(6,(jT b.length)),(9,(xT (nT b))),(10,(vl 103 1 jD r)),(11,(.own 0 103 1 ((u.length-b.length)+1))),(12,(vi (((k:Nat):Int)-1)))],[(0,some (bm jD q))]⟩) (fun (k,r,q)=>xZ r∧k≤((u.length-b.length)+1)∧q.length=((u.length-b.length)+1)∧Dig q∧val r<val v∧val (u.drop k)=val v*val (q.drop k)+val r) (fun (k,r,q)=>k) (((u.length-b.length)+1),ofNat (val (List.drop ((u.length-b.length)+1) u)),List.replicate ((u.length-b.length)+1) 0) wk ⟨kM _,Nat.le_refl _,by simp,vU _,by rw[jX];have h7:=uS (hu.drop ((u.length-b.length)+1));rw[List.length_drop,show u.length-((u.length-b.length)+1)=b.length-1 by omega] at h7;omega,by rw[jX];simp [val]⟩ ?_
   rintro ⟨k,r,q⟩ ⟨hrc,hk,hql,hqd,hr,hv⟩
   refine jA<|jA<|kx [(75,(vb (decide (0≤(((k:Nat):Int)-1)))))] [] (zM<|zE oGe<|zZ) ?_
   refine jG (b:=decide (0≤(((k:Nat):Int)-1))) rfl (fun h3=>?_) (fun h3=>?_)
   ·replace h3:=uW h3
    obtain ⟨i,rfl⟩:∃ i,k=i+1:=⟨k-1,by omega⟩
    rw[show (((i+1:Nat):Int)-1)=((i:Nat):Int) from by omega]
    have hgu:=hu.getD i
    have hW:(u.getD i 0+1000000000*val r)<1000000000*val v:=by omega
    have hrs:=rshift_val u hv
    obtain ⟨hg1,hg2⟩:=rguess hvd hvl hb0 hW
    have hgv:=hvd.getD (b.length-1)
    have hgw1:=(kA (u.getD i 0+1000000000*val r)).getD b.length
    have hgw2:=(kA (u.getD i 0+1000000000*val r)).getD (b.length-1)
    have hrl:r.length≤b.length:=by have h9:=vJ (Nat.le_of_lt hr);rwa [← can_eq hrc,← can_eq hcv,hvl] at h9
    have hwl:(ofNat (u.getD i 0+1000000000*val r)).length≤b.length+1:=qH (by rw[uB];have:=uS hvd;rw[hvl] at this;omega)
    refine jE<|jA<|jH<|jA<|kx [(10,(vl 103 1 jD (ofNat ((u.getD i 0)+1000000000*val r)))),(12,(jT i))] [] (zM<|zM<|zM<|zE (gV kC i (0:Nat))<|zE (nG qD)<|zE (kE (r_shifted r (u.getD i 0) hrc.1 (by omega) (by omega)))<|zM<|zZ) ?_
    refine jA<|kd [(13,(xT (((((ofNat ((u.getD i 0)+1000000000*val r)).getD b.length 0)*1000000000)+((ofNat ((u.getD i 0)+1000000000*val r)).getD (b.length-1) 0)) / ((v.getD (b.length-1) 0)+1))))] [] mo (wM<|wM<|wE (kE (dV (ofNat ((u.getD i 0)+1000000000*val r)) b.length (kA _)))<|wE (oMl (((ofNat ((u.getD i 0)+1000000000*val r)).getD b.length 0)*1000000000))<|wM<|wM<|wE (oSb (b.length-1))<|wE (kE (dV (ofNat ((u.getD i 0)+1000000000*val r)) (b.length-1) (by first | assumption | exact kA _ | exact (kM _).1 | exact (kO _).1)))<|wE (qS ((((ofNat ((u.getD i 0)+1000000000*val r)).getD b.length 0)*1000000000)+((ofNat ((u.getD i 0)+1000000000*val r)).getD (b.length-1) 0)))<|wM<|wM<|wE (oSb (b.length-1))<|wE (gV kC (b.length-1) (0:Nat))<|wE (nG qD)<|wE (yR vW vY (v.getD (b.length-1) 0))<|wE (qS ((v.getD (b.length-1) 0)+1))<|wE (oQu (((((ofNat ((u.getD i 0)+1000000000*val r)).getD b.length 0)*1000000000)+((ofNat ((u.getD i 0)+1000000000*val r)).getD (b.length-1) 0)) / ((v.getD (b.length-1) 0)+1)))<|wM<|wZ) ?_
    refine jA<|kx [(10,(vl 103 1 jD (ofNat (val (ofNat ((u.getD i 0)+1000000000*val r))-val (ofNat (val v*(((((ofNat ((u.getD i 0)+1000000000*val r)).getD b.length 0)*1000000000)+((ofNat ((u.getD i 0)+1000000000*val r)).getD (b.length-1) 0)) / ((v.getD (b.length-1) 0)+1))))))))] [] (zM<|zM<|zM<|zE (kE (r_scaled v (((((ofNat ((u.getD i 0)+1000000000*val r)).getD b.length 0)*1000000000)+((ofNat ((u.getD i 0)+1000000000*val r)).getD (b.length-1) 0)) / ((v.getD (b.length-1) 0)+1)) hvd (by omega) (by omega)))<|zE (kE (r_minus (ofNat ((u.getD i 0)+1000000000*val r)) (ofNat (val v*(((((ofNat ((u.getD i 0)+1000000000*val r)).getD b.length 0)*1000000000)+((ofNat ((u.getD i 0)+1000000000*val r)).getD (b.length-1) 0)) / ((v.getD (b.length-1) 0)+1)))) (kA _) (kA _) (by rw[jX,jX,Nat.mul_comm];exact hg1) (by omega)))<|zM<|zZ) ?_
    refine jA<|jH<|kI (α:=Nat × List Nat) (fun (G,r2)=>⟨[(0,(vl 103 1 jD u)),(1,(vl 103 1 jD v)),(6,(jT b.length)),(9,(xT (nT b))),(10,(vl 103 1 jD r2)),(11,(.own 0 103 1 ((u.length-b.length)+1))),(12,(jT i)),(13,(xT G))],[(0,some (bm jD q))]⟩) (fun (G,r2)=>xZ r2∧val v*G+val r2=(u.getD i 0+1000000000*val r)) (fun (G,r2)=>val r2) ((((ofNat (u.getD i 0+1000000000*val r)).getD b.length 0*1000000000+(ofNat (u.getD i 0+1000000000*val r)).getD (b.length-1) 0) / (v.getD (b.length-1) 0+1)),ofNat (val (ofNat (u.getD i 0+1000000000*val r))-val (ofNat (val v*(((ofNat (u.getD i 0+1000000000*val r)).getD b.length 0*1000000000+(ofNat (u.getD i 0+1000000000*val r)).getD (b.length-1) 0) / (v.getD (b.length-1) 0+1)))))) wk ⟨kM _,by rw[jX,jX,jX];rw[Nat.mul_comm] at hg1;omega⟩ ?_
    rintro ⟨G,r2⟩ ⟨hr2,hr2v⟩
    have hr2l:r2.length≤b.length+1:=by have h9:=vJ (show val r2≤(u.getD i 0+1000000000*val r) by omega);rw[← can_eq hr2] at h9;omega
    refine jA<|jA<|kx [(109,(vb (decide (0≤(qY ((val r2:Nat):Int) ((val v:Nat):Int))))))] [] (zM<|zM<|zE (kE (r_size r2 v hr2 hcv (by omega) (by omega)))<|zE oGe<|zZ) ?_
    refine jG rfl (fun h4=>?_) (fun h4=>?_)
    ·replace h4:=uW h4
     have hge:=eA h4
     have hG:=rquo_lt hr2v hW
     have hr2l:r2.length≤b.length+1:=by have h9:=vJ (show val r2≤(u.getD i 0+1000000000*val r) by omega);rw[← can_eq hr2] at h9;omega
     refine jE<|jH<|jA<|kx [(10,(vl 103 1 jD (ofNat (val r2-val v))))] [] (zM<|zM<|zE (kE (r_minus r2 v hr2.1 hvd (by omega) (by omega)))<|zM<|zZ) ?_
     refine kx [(13,(xT (G+1)))] [] (zM<|zE (qS (G+1))<|zM<|zZ) ?_
     exact ⟨(G+1,ofNat (val r2-val v)),wk,(by have hge:=eA h4;exact ⟨kM _,by rw[jX,Nat.mul_add,Nat.mul_one];omega⟩),(by have hge:=eA h4;dsimp only;rw[jX];omega)⟩
    ·replace h4:=uY h4
     have hG:=rquo_lt hr2v hW
     have hlt:val r2<val v:=by have h9:=cmpI_lt h4;omega
     refine jW<|kx [] [(0,some (bm jD (q.set i G)))] (zM<|zM<|zM<|zE (yR zG zI G)<|zE (eR kC i)<|zT (oSp qD i G)<|zZ) ?_
     refine kx [(12,(vi (((i:Nat):Int)-1)))] [] (zM<|zE (zSb (((i:Nat):Int)-1))<|zM<|zZ) ?_
     exact ⟨(i,r2,q.set i G),wk,⟨hr2,by omega,by simpa using hql,hqd.set _ hG,hlt,rround (by omega) (by rw[hr2v];exact hrs)⟩,(by first|omega|(dsimp only;omega))⟩
   ·replace h3:=uY h3
    obtain rfl:k=0:=by omega
    obtain ⟨e1,e2⟩:=scl_div (a:=a) (b:=b) (q:=q) (u:=r) hdb hb0 (by rw[List.drop_zero,List.drop_zero] at hv;rw[gW,Nat.one_mul,List.drop_zero,← huv,← hvv,hv];omega) (by rw[List.drop_zero,← hvv];exact hr)
    have hrl:r.length≤b.length:=by have h9:=vJ (Nat.le_of_lt hr);rwa [← can_eq hrc,← can_eq hcv,hvl] at h9
    refine jW<|jA<|kx [(14,(vl 103 1 jD (ofNat (val r / (nT b)))))] [] (zM<|zM<|zE (kE (r_short r (nT b) hrc.1 (by omega) (by omega) (by omega)))<|zM<|zE qQ<|zE qQ<|zM<|zM<|zZ) ?_
    refine jA<|kX (vV (t:=11) (k:=0) (es:=List.map jD q) rfl rfl (uU _ _ (fun _=>rfl)) (vG _ _ hql) (vS _ _ (fun _=>rfl) hql)) ?_
    refine kx [(4,(vl 103 1 jD (ofNat (val q)))),(5,(vl 103 1 jD (ofNat (val r / (nT b)))))] [] (zM<|zE (kE (yP false q hqd (by omega)))<|zE (oF1 eN xB)<|zM<|zM<|zM<|zZ) ?_
    refine jI ⟨_,(.tmp (d:=(.sl 103 1 (List.map jD (ofNat (val q))))) rfl (.tmp (d:=(.sl 103 1 (List.map jD (ofNat (val r / (nT b)))))) rfl .nil)),?_⟩
    rw[← e1,← e2];rfl
theorem cb85:callB Tryz.prog 85=true:=by kernel_rfl
theorem cb87:callB Tryz.prog 87=true:=by kernel_rfl
theorem cb106:callB Tryz.prog 106=true:=by kernel_rfl
theorem r_gcd(x:kJ)(y:kJ)(hx:x.gs.length≤1099511627776)(hy:y.gs.length≤1099511627776):kB Tryz.prog 85 [(jJ x),(jJ y)] (jJ (jQ ((Int.gcd (jS x) (jS y):Nat):Int))):=by
 have hvx:=mO x
 have hvy:=mO y
 refine jK Tryz.func85 rfl cb85 rfl ?_
 show qU _ _ _ _ ⟨[(0,(.d (jJ x))),(1,(.d (jJ y)))],[]⟩
 refine jA<|kx [(2,(.ref 0 0)),(3,(.ref 1 0)),(4,(.ref 2 0))] [(0,some (bx (jJ x))),(1,some (bx (jJ y))),(2,some (bx (jJ (kJ.mk false []))))] (zN (yC 0)<|zN (yC 1)<|zN (uQ 2 uH uI)<|zZ) ?_
 refine jA<|kd [(5,(vl 103 1 jD (ofNat (Int.natAbs (jS x))))),(6,(vl 103 1 jD (ofNat (Int.natAbs (jS y)))))] [] mo (wR (kY jL)<|wE (kE (nJ x (by omega)))<|wE (oF1 eN xB)<|wR (kY jL)<|wE (kE (nJ y (by omega)))<|wE (oF1 eN xB)<|wM<|wM<|wZ) ?_
 refine jA<|jH<|kI (α:=List Nat × List Nat) (fun (a,b)=>⟨[(4,(.ref 2 0)),(5,(vl 103 1 jD a)),(6,(vl 103 1 jD b))],[(2,some (bx (jJ (kJ.mk false []))))]⟩) (fun (a,b)=>xZ a∧xZ b∧a.length≤1099511627776∧b.length≤1099511627776∧Nat.gcd (val a) (val b)=Int.gcd (jS x) (jS y)) (fun (a,b)=>val b) ((ofNat (Int.natAbs (jS x))),(ofNat (Int.natAbs (jS y)))) wk ⟨kM _,kM _,by omega,by omega,by rw[jX,jX];rfl⟩ ?_
 rintro ⟨a,b⟩ ⟨ha,hb,hla,hlb,hg⟩
 refine jA<|jA<|kx [(29,(vb (decide (0<((b.length:Nat):Int))&&(decide (2<((a.length:Nat):Int))||decide (2<((b.length:Nat):Int))))))] [] ?_ ?_
 ·refine zM<|zE (xD kC)<|zE cK<|zE (oV (vb (decide (0<((b.length:Nat):Int)))) (kZ (by kernel_rfl)))<|?_
  rcases hb1:(decide (0<((b.length:Nat):Int))) with _ | _
  ·replace hb1:=uY hb1
   exact zK<|zK<|zK<|zK<|zK<|zK<|zK<|zK<|zE oPf<|zZ
  ·replace hb1:=uW hb1
   refine zM<|zE (xD kC)<|zE cK<|zE (oV (vb (decide (2<((a.length:Nat):Int)))) (kZ (by kernel_rfl)))<|?_
   rcases hb2:(decide (2<((a.length:Nat):Int))) with _ | _
   ·replace hb2:=uY hb2
    exact zM<|zE (xD kC)<|zE cK<|zE cF<|zE oPa<|zZ
   ·replace hb2:=uW hb2
    exact zK<|zK<|zK<|zE xC<|zE xC<|zZ
 refine jG rfl (fun h3=>?_) (fun h3=>?_)
 ·have hbl:0<b.length:=by rw[Bool.and_eq_true,decide_eq_true_eq] at h3;omega
  have hb0:=nC hb hbl
  refine jE<|jH<|jA<|kx [(8,(vl 103 1 jD (ofNat (val a % val b))))] [] (zM<|zM<|zE (kE (r_parts a b ha hb (by omega) (by omega) (by omega)))<|zM<|zE qQ<|zE qQ<|zM<|zM<|zZ) ?_
  refine kx [(5,(vl 103 1 jD b)),(6,(vl 103 1 jD (ofNat (val a % val b))))] [] (zM<|zM<|zM<|zM<|zZ) ?_
  exact ⟨(b,ofNat (val a % val b)),wk,⟨hb,kM _,hlb,Nat.le_trans (len_rem a ha _) hla,by rw[jX,← hg,Nat.gcd_comm,← Nat.gcd_rec,Nat.gcd_comm]⟩,(by dsimp only;rw[jX];exact Nat.mod_lt _ hb0)⟩
 ·have hex:=h3
  refine jW<|jA<|jA<|kx [(40,(vb (((b.length:Nat):Int) == 0)))] [] (zM<|zE (xD kC)<|zE gX<|zZ) ?_
  refine jG (b:=(((b.length:Nat):Int) == 0)) rfl (fun h4=>?_) (fun h4=>?_)
  ·replace h4:=eq_of_beq h4
   have hb1:b=[]:=List.eq_nil_of_length_eq_zero (by omega)
   rw[hb1,val_nil,Nat.gcd_zero_right] at hg
   refine jA<|kx [] [(2,some (bx (jJ (vE false (val a)))))] (zM<|zE (kE (yP false a ha.1 (by omega)))<|zT (qA jL)<|zZ) ?_
   refine jI ⟨_,(kQ (cs:=(bx (jJ (vE false (val a))))) (d:=(jJ (vE false (val a)))) rfl rfl jL rfl rfl .nil),?_⟩
   rw[← hg,mkI_false];rfl
  ·replace h4:=ne_of_beq_false h4
   have hl2:a.length≤2∧b.length≤2:=by simp only[Bool.and_eq_false_iff,Bool.or_eq_false_iff,decide_eq_false_iff_not] at hex;omega
   refine jE<|jA<|kx [(9,(xT (val a))),(10,(xT (val b)))] [] (zM<|zE (kE (r_pair a ha.1 (by omega)))<|zM<|zE (kE (r_pair b hb.1 (by omega)))<|zM<|zM<|zZ) ?_
   refine jA<|jH<|kI (α:=Nat × Nat) (fun (m,n)=>⟨[(4,(.ref 2 0)),(9,(xT m)),(10,(xT n))],[(2,some (bx (jJ (kJ.mk false []))))]⟩) (fun (m,n)=>m<1000000000000000000∧n<1000000000000000000∧Nat.gcd m n=Int.gcd (jS x) (jS y)) (fun (m,n)=>n) (val a,val b) wk ⟨val_len2 ha.1 hl2.1,val_len2 hb.1 hl2.2,hg⟩ ?_
   rintro ⟨m,n⟩ ⟨hm,hn,hg2⟩
   refine jA<|jA<|kx [(48,(vb (decide (0<((n:Nat):Int)))))] [] (zM<|zE cK<|zZ) ?_
   refine jG (b:=decide (0<((n:Nat):Int))) rfl (fun h5=>?_) (fun h5=>?_)
   ·replace h5:=uW h5
    refine jE<|jH<|kd [(9,(xT n)),(10,(xT (m % n)))] [] mo (wM<|wM<|wM<|wE (oRe (m % n))<|wM<|wM<|wZ) ?_
    exact ⟨(n,m % n),wk,⟨hn,Nat.lt_of_le_of_lt (Nat.mod_le _ _) hm,by rw[← hg2,Nat.gcd_comm,← Nat.gcd_rec,Nat.gcd_comm]⟩,(by dsimp only;exact Nat.mod_lt _ (by omega))⟩
   ·replace h5:=uY h5
    obtain rfl:n=0:=by omega
    rw[Nat.gcd_zero_right] at hg2
    have hmv:val [m % 1000000000,m / 1000000000]=m:=by simp only[val];omega
    refine jW<|jA<|kx [] [(2,some (bx (jJ (vE false (val [(m % 1000000000),(m / 1000000000)])))))] (zM<|zE (oRe (m % 1000000000))<|zE (yR zG zI (m % 1000000000))<|zM<|zE (oQu (m / 1000000000))<|zE (yR zG zI (m / 1000000000))<|zE (oBs kC uO xQ)<|zE (kE (yP false [(m % 1000000000),(m / 1000000000)] (xP.2 ⟨Nat.mod_lt _ (by decide),xP.2 ⟨by omega,zP⟩⟩) (by simp)))<|zT (qA jL)<|zZ) ?_
    refine jI ⟨_,(kQ (cs:=(bx (jJ (vE false (val [(m % 1000000000),(m / 1000000000)]))))) (d:=(jJ (vE false (val [(m % 1000000000),(m / 1000000000)])))) rfl rfl jL rfl rfl .nil),?_⟩
    rw[← hg2,hmv,mkI_false];rfl
theorem r_compare(x:kJ)(y:kJ)(hx:x.gs.length≤274877906944)(hy:y.gs.length≤274877906944):kB Tryz.prog 106 [(jJ x),(jJ y)] (.val (.int .i64 ((qY (jS x) (jS y))))):=by
 have hv:=gs_sub x y
 refine jK Tryz.func106 rfl cb106 rfl ?_
 show qU _ _ _ _ ⟨[(0,(.d (jJ x))),(1,(.d (jJ y)))],[]⟩
 refine jA<|kx [(2,(.ref 0 0)),(3,(.ref 1 0))] [(0,some (bx (jJ x))),(1,some (bx (jJ y)))] (zN (yC 0)<|zN (yC 1)<|zM<|zZ) ?_
 refine jA<|kx [(4,(vi (kG (jS (jQ (jS x-jS y))))))] [] (zR (kY jL)<|zR (kY jL)<|zE (kE (r_sub x y (by omega) (by omega)))<|zE (kE (r_sign (jQ (jS x-jS y)) (by omega)))<|zM<|zZ) ?_
 refine jI ⟨_,(.tmp (d:=(.val (.int .i64 ((kG (jS (jQ (jS x-jS y)))))))) rfl .nil),?_⟩
 rw[gY,signI_sub];rfl
theorem r_divide(x:kJ)(y:kJ)(hx:x.gs.length≤274877906944)(hy:y.gs.length≤274877906944)(hy0:jS y≠0):kB Tryz.prog 87 [(jJ x),(jJ y)] (.tup [(jJ (jQ ((jS x).fdiv (jS y)))),(jJ (jQ ((jS x).fmod (jS y)))),(.val (.int .i64 (0)))]):=by
 have hvx:=mO x
 have hvy:=mO y
 have hmx:=gs_val x
 have hmy:=gs_val y
 have hy1:0<(jS y).natAbs:=by omega
 have hyl:=gQ hy1
 have hql:(ofNat (val (ofNat (Int.natAbs (jS x))) / val (ofNat (Int.natAbs (jS y))))).length≤274877906944:=by have:=len_quo (ofNat (Int.natAbs (jS x))) (kM _) (val (ofNat (Int.natAbs (jS y))));omega
 have hqg:(vE (!((jQ (jS x)).neg == (jQ (jS y)).neg)) (val (ofNat (val (ofNat (Int.natAbs (jS x))) / val (ofNat (Int.natAbs (jS y))))))).gs.length≤274877906944:=by show (ofNat (val (ofNat (val (ofNat (Int.natAbs (jS x))) / val (ofNat (Int.natAbs (jS y))))))).length≤_;rw[jX];exact hql
 have fN:(jQ 1).gs.length≤1:=(mG (z:=1) (by decide)).l
 have hqs:=gs_sub (vE (!((jQ (jS x)).neg == (jQ (jS y)).neg)) (val (ofNat (val (ofNat (Int.natAbs (jS x))) / val (ofNat (Int.natAbs (jS y))))))) (jQ 1)
 refine jK Tryz.func87 rfl cb87 rfl ?_
 show qU _ _ _ _ ⟨[(0,(.d (jJ x))),(1,(.d (jJ y)))],[]⟩
 refine jA<|kx [(2,(.ref 0 0)),(3,(.ref 1 0)),(4,(.ref 2 0)),(5,(.ref 3 0))] [(0,some (bx (jJ x))),(1,some (bx (jJ y))),(2,some (bx (jJ (kJ.mk false [])))),(3,some (bx (jJ (kJ.mk false []))))] (zN (yC 0)<|zN (yC 1)<|zN (uQ 2 uH uI)<|zN (uQ 3 uH uI)<|zM<|zZ) ?_
 refine jA<|kd [] [(0,some (bx (jJ (jQ (jS x))))),(1,some (bx (jJ (jQ (jS y)))))] mo (wR (kY jL)<|wE (kE (nJ x (by omega)))<|wR (kY jL)<|wE (kE (nJ y (by omega)))<|wT (qA jL)<|wT (qA jL)<|wZ) ?_
 refine jA<|jA<|kx [(17,(vb ((((ofNat (Int.natAbs (jS y))).length:Nat):Int) == 0)))] [] (zE (kV uX)<|zR (kP xB)<|zE (xD kC (L:=(ofNat (Int.natAbs (jS y)))))<|zE gX<|zZ) ?_
 refine jG rfl (fun h1=>?_) (fun h1=>?_)
 ·replace h1:=eq_of_beq h1
  exact absurd h1 (by omega)
 ·replace h1:=ne_of_beq_false h1
  refine jE<|jA<|kx [(7,(vl 103 1 jD (ofNat (val (ofNat (Int.natAbs (jS x))) / val (ofNat (Int.natAbs (jS y))))))),(8,(vl 103 1 jD (ofNat (val (ofNat (Int.natAbs (jS x))) % val (ofNat (Int.natAbs (jS y)))))))] [] (zE (kV uX)<|zR (kP xB)<|zE (kV uX)<|zR (kP xB)<|zE (kE (r_parts (ofNat (Int.natAbs (jS x))) (ofNat (Int.natAbs (jS y))) (by first | assumption | exact kM _ | exact kO _) (by first | assumption | exact kM _ | exact kO _) (by omega) (by omega) (by omega)))<|zM<|zE qQ<|zE qQ<|zM<|zM<|zZ) ?_
  refine jA<|kx [(9,(.ref 4 0))] [(4,some (bx (jJ (vE (!(((jQ (jS x)).neg) == ((jQ (jS y)).neg))) (val (ofNat (val (ofNat (Int.natAbs (jS x))) / val (ofNat (Int.natAbs (jS y))))))))))] (zE (kV uT)<|zR (kP dJ)<|zE (kV uT)<|zR (kP dJ)<|zE (oNb bo4)<|zM<|zE (kE (yP (!(((jQ (jS x)).neg) == ((jQ (jS y)).neg))) (ofNat (val (ofNat (Int.natAbs (jS x))) / val (ofNat (Int.natAbs (jS y))))) (kA _) (by omega)))<|zN (uQ 4 uH uI)<|zT (qA jL)<|zZ) ?_
  refine jA<|jA<|kx [(44,(vb (!(((jQ (jS x)).neg) == ((jQ (jS y)).neg))&&decide (0<(((ofNat (val (ofNat (Int.natAbs (jS x))) % val (ofNat (Int.natAbs (jS y))))).length:Nat):Int)))))] [] ?_ ?_
  ·refine zE (kV uT)<|zR (kP dJ)<|zE (kV uT)<|zR (kP dJ)<|zE (oNb bo4)<|zE (oV (vb (!(((jQ (jS x)).neg) == ((jQ (jS y)).neg)))) (kZ (by kernel_rfl)))<|?_
   rcases hb2:(!(((jQ (jS x)).neg) == ((jQ (jS y)).neg))) with _ | _
   ·exact zK<|zK<|zK<|zE oPf<|zZ
   ·exact zM<|zE (xD kC (L:=(ofNat (val (ofNat (Int.natAbs (jS x))) % val (ofNat (Int.natAbs (jS y)))))))<|zE cK<|zE oPa<|zZ
  refine jG rfl (fun h3=>?_) (fun h3=>?_)
  ·have hqm:=gs_mul (jQ (jS (vE (!((jQ (jS x)).neg == (jQ (jS y)).neg)) (val (ofNat (val (ofNat (Int.natAbs (jS x))) / val (ofNat (Int.natAbs (jS y)))))))-jS (jQ 1))) (jQ (jS y))
   have hk:=r_div_other (X:=jS x) (Y:=jS y) hy1 (by rw[Bool.and_eq_true,Bool.not_eq_true',beq_eq_false_iff_ne,decide_eq_true_eq] at h3;exact h3)
   refine kd [] [(4,some (bx (jJ (jQ (jS (vE (!(((jQ (jS x)).neg) == ((jQ (jS y)).neg))) (val (ofNat (val (ofNat (Int.natAbs (jS x))) / val (ofNat (Int.natAbs (jS y)))))))-jS (jQ 1))))))] mo (wR (kY jL)<|wE (kE (r_of 1 (by omega) (by omega)))<|wE (kE (r_sub (vE (!(((jQ (jS x)).neg) == ((jQ (jS y)).neg))) (val (ofNat (val (ofNat (Int.natAbs (jS x))) / val (ofNat (Int.natAbs (jS y))))))) (jQ 1) (by omega) (by omega)))<|wT (qA jL)<|wZ) ?_
   refine jA<|kd [(6,(jT 0))] [(2,some (bx (jJ (jQ (jS (vE (!(((jQ (jS x)).neg) == ((jQ (jS y)).neg))) (val (ofNat (val (ofNat (Int.natAbs (jS x))) / val (ofNat (Int.natAbs (jS y)))))))-jS (jQ 1)))))),(3,some (bx (jJ (jQ (jS (jQ (jS x))-jS (jQ (jS (jQ (jS (vE (!(((jQ (jS x)).neg) == ((jQ (jS y)).neg))) (val (ofNat (val (ofNat (Int.natAbs (jS x))) / val (ofNat (Int.natAbs (jS y)))))))-jS (jQ 1)))*jS (jQ (jS y)))))))))] mo (wR (kY jL)<|wR (kY jL)<|wR (kY jL)<|wR (kY jL)<|wE (kE (r_mul (jQ (jS (vE (!(((jQ (jS x)).neg) == ((jQ (jS y)).neg))) (val (ofNat (val (ofNat (Int.natAbs (jS x))) / val (ofNat (Int.natAbs (jS y)))))))-jS (jQ 1))) (jQ (jS y)) (by omega) (by omega)))<|wE (kE (r_sub (jQ (jS x)) (jQ (jS (jQ (jS (vE (!(((jQ (jS x)).neg) == ((jQ (jS y)).neg))) (val (ofNat (val (ofNat (Int.natAbs (jS x))) / val (ofNat (Int.natAbs (jS y)))))))-jS (jQ 1)))*jS (jQ (jS y)))) (by omega) (by omega)))<|wT (qA jL)<|wT (qA jL)<|wM<|wZ) ?_
   refine jI ⟨_,(kQ (cs:=(bx (jJ (jQ (jS (vE (!(((jQ (jS x)).neg) == ((jQ (jS y)).neg))) (val (ofNat (val (ofNat (Int.natAbs (jS x))) / val (ofNat (Int.natAbs (jS y)))))))-jS (jQ 1)))))) (d:=(jJ (jQ (jS (vE (!(((jQ (jS x)).neg) == ((jQ (jS y)).neg))) (val (ofNat (val (ofNat (Int.natAbs (jS x))) / val (ofNat (Int.natAbs (jS y)))))))-jS (jQ 1))))) rfl rfl jL rfl rfl (kQ (cs:=(bx (jJ (jQ (jS (jQ (jS x))-jS (jQ (jS (jQ (jS (vE (!(((jQ (jS x)).neg) == ((jQ (jS y)).neg))) (val (ofNat (val (ofNat (Int.natAbs (jS x))) / val (ofNat (Int.natAbs (jS y)))))))-jS (jQ 1)))*jS (jQ (jS y))))))))) (d:=(jJ (jQ (jS (jQ (jS x))-jS (jQ (jS (jQ (jS (vE (!(((jQ (jS x)).neg) == ((jQ (jS y)).neg))) (val (ofNat (val (ofNat (Int.natAbs (jS x))) / val (ofNat (Int.natAbs (jS y)))))))-jS (jQ 1)))*jS (jQ (jS y)))))))) rfl rfl jL rfl rfl (.tmp (d:=(.val (.int .i64 (0)))) rfl .nil))),?_⟩
   rw[hk,r_rem_eq];rfl
  ·have hqm:=gs_mul (vE (!((jQ (jS x)).neg == (jQ (jS y)).neg)) (val (ofNat (val (ofNat (Int.natAbs (jS x))) / val (ofNat (Int.natAbs (jS y))))))) (jQ (jS y))
   have hk:=r_div_same (X:=jS x) (Y:=jS y) hy1 (by rw[Bool.and_eq_false_iff,Bool.not_eq_false',beq_iff_eq,decide_eq_false_iff_not] at h3;exact h3)
   refine jE<|jA<|kd [(6,(jT 0))] [(2,some (bx (jJ (vE (!(((jQ (jS x)).neg) == ((jQ (jS y)).neg))) (val (ofNat (val (ofNat (Int.natAbs (jS x))) / val (ofNat (Int.natAbs (jS y)))))))))),(3,some (bx (jJ (jQ (jS (jQ (jS x))-jS (jQ (jS (vE (!(((jQ (jS x)).neg) == ((jQ (jS y)).neg))) (val (ofNat (val (ofNat (Int.natAbs (jS x))) / val (ofNat (Int.natAbs (jS y)))))))*jS (jQ (jS y)))))))))] mo (wR (kY jL)<|wR (kY jL)<|wR (kY jL)<|wR (kY jL)<|wE (kE (r_mul (vE (!(((jQ (jS x)).neg) == ((jQ (jS y)).neg))) (val (ofNat (val (ofNat (Int.natAbs (jS x))) / val (ofNat (Int.natAbs (jS y))))))) (jQ (jS y)) (by omega) (by omega)))<|wE (kE (r_sub (jQ (jS x)) (jQ (jS (vE (!(((jQ (jS x)).neg) == ((jQ (jS y)).neg))) (val (ofNat (val (ofNat (Int.natAbs (jS x))) / val (ofNat (Int.natAbs (jS y)))))))*jS (jQ (jS y)))) (by omega) (by omega)))<|wT (qA jL)<|wT (qA jL)<|wM<|wZ) ?_
   refine jI ⟨_,(kQ (cs:=(bx (jJ (vE (!(((jQ (jS x)).neg) == ((jQ (jS y)).neg))) (val (ofNat (val (ofNat (Int.natAbs (jS x))) / val (ofNat (Int.natAbs (jS y)))))))))) (d:=(jJ (vE (!(((jQ (jS x)).neg) == ((jQ (jS y)).neg))) (val (ofNat (val (ofNat (Int.natAbs (jS x))) / val (ofNat (Int.natAbs (jS y))))))))) rfl rfl jL rfl rfl (kQ (cs:=(bx (jJ (jQ (jS (jQ (jS x))-jS (jQ (jS (vE (!(((jQ (jS x)).neg) == ((jQ (jS y)).neg))) (val (ofNat (val (ofNat (Int.natAbs (jS x))) / val (ofNat (Int.natAbs (jS y)))))))*jS (jQ (jS y))))))))) (d:=(jJ (jQ (jS (jQ (jS x))-jS (jQ (jS (vE (!(((jQ (jS x)).neg) == ((jQ (jS y)).neg))) (val (ofNat (val (ofNat (Int.natAbs (jS x))) / val (ofNat (Int.natAbs (jS y)))))))*jS (jQ (jS y)))))))) rfl rfl jL rfl rfl (.tmp (d:=(.val (.int .i64 (0)))) rfl .nil))),?_⟩
   rw[hk,r_rem_eq];rfl
end Go.Proofs.YteimogfidbkpnabGreat
