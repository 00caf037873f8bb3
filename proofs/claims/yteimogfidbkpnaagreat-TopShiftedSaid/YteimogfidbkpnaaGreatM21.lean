/- Part 21 of a proof: rules, plain facts, and functions walked. -/
import Derived.Test.YteimogfidbkpnaaGreatM20
set_option linter.all false
set_option maxRecDepth 4000
namespace Go.Proofs.YteimogfidbkpnaaGreat
open Go.Fid
theorem cb52:callB Tryz.prog 52=true:=by kernel_rfl
theorem cb89:callB Tryz.prog 89=true:=by kernel_rfl
theorem cb90:callB Tryz.prog 90=true:=by kernel_rfl
theorem cb91:callB Tryz.prog 91=true:=by kernel_rfl
theorem cb104:callB Tryz.prog 104=true:=by kernel_rfl
theorem cb114:callB Tryz.prog 114=true:=by kernel_rfl
theorem cb115:callB Tryz.prog 115=true:=by kernel_rfl
theorem cb121:callB Tryz.prog 121=true:=by kernel_rfl
theorem r_neg(x:kM)(hx:x.gs.length≤1099511627776):jR Tryz.prog 104 [(jJ x)] (jJ (jZ (-jO x))):=by
 have hvx:=mE x
 refine jH Tryz.func104 rfl cb104 rfl ?_
 show qS _ _ _ _ ⟨[(0,(.d (jJ x)))],[]⟩
 refine jA<|kx [(1,(.ref 0 0)),(2,(.ref 1 0))] [(0,some (bx (jJ x))),(1,some (bx (jJ (kM.mk false []))))] (zN (vL 0)<|zN (uX 1 yI yL)<|zZ) ?_
 refine jA<|kx [] [(0,some (bx (jJ (jZ (jO x)))))] (zR (kI jS)<|zE (jX (mI x (by omega)))<|zT (qF jS)<|zZ) ?_
 refine jA<|kx [] [(1,some (bx (jJ (vO (!((jZ (jO x)).neg)) (val (ofNat (Int.natAbs (jO x))))))))] (zE (kJ vN)<|zR (kX sh4)<|zE oNt<|zE (kJ xC)<|zR (kX xX)<|zE (jX (gA (!((jZ (jO x)).neg)) (ofNat (Int.natAbs (jO x))) (by first | assumption | exact jY _ | exact (kU _).1 | exact (kW _).1) (by omega)))<|zT (qF jS)<|zZ) ?_
 refine jE ⟨_,(kV (cs:=(bx (jJ (vO (!((jZ (jO x)).neg)) (val (ofNat (Int.natAbs (jO x)))))))) (d:=(jJ (vO (!((jZ (jO x)).neg)) (val (ofNat (Int.natAbs (jO x))))))) rfl rfl jS rfl rfl .nil),?_⟩
 rw[← rneg_eq];rfl
theorem r_sign(x:kM)(hx:x.gs.length≤1099511627776):jR Tryz.prog 52 [(jJ x)] (.val (.int .i64 ((qQ (jO x))))):=by
 have hvx:=mE x
 refine jH Tryz.func52 rfl cb52 rfl ?_
 show qS _ _ _ _ ⟨[(0,(.d (jJ x)))],[]⟩
 refine jA<|kx [(1,(.ref 0 0))] [(0,some (bx (jJ x)))] (zN (vL 0)<|zM<|zZ) ?_
 refine jA<|kx [] [(0,some (bx (jJ (jZ (jO x)))))] (zR (kI jS)<|zE (jX (mI x (by omega)))<|zT (qF jS)<|zZ) ?_
 refine jA<|jA<|kx [(8,(vb ((((ofNat (Int.natAbs (jO x))).length:Nat):Int) == 0)))] [] (zE (kJ xC)<|zR (kX xX)<|zE (yU kC (L:=(ofNat (Int.natAbs (jO x)))))<|zE oEq<|zZ) ?_
 refine jG rfl (fun h1=>?_) (fun h1=>?_)
 ·replace h1:=eq_of_beq h1
  refine jA<|kx [(2,(jL 0))] [] (zM<|zZ) ?_
  refine jE ⟨_,(.tmp (d:=(.val (.int .i64 (0)))) rfl .nil),?_⟩
  rw[rsign_zero h1];rfl
 ·replace h1:=ne_of_beq_false h1
  refine jC<|jA<|jA<|kx [(10,(vb ((jZ (jO x)).neg)))] [] (zE (kJ vN)<|zR (kX sh4)<|zZ) ?_
  refine jG (b:=(jZ (jO x)).neg) rfl (fun h2=>?_) (fun h2=>?_)
  ·refine jA<|kx [(2,(vi (-1)))] [] (zM<|zZ) ?_
   refine jE ⟨_,(.tmp (d:=(.val (.int .i64 (-1)))) rfl .nil),?_⟩
   rw[rsign_neg h1 h2];rfl
  ·refine jC<|jA<|kx [(2,(jL 1))] [] (zM<|zZ) ?_
   refine jE ⟨_,(.tmp (d:=(.val (.int .i64 (1)))) rfl .nil),?_⟩
   rw[rsign_pos h1 h2];rfl
theorem r_add(x:kM)(y:kM)(hx:x.gs.length≤1099511627776)(hy:y.gs.length≤1099511627776):jR Tryz.prog 114 [(jJ x),(jJ y)] (jJ (jZ (jO x+jO y))):=by
 have hvx:=mE x
 have hvy:=mE y
 refine jH Tryz.func114 rfl cb114 rfl ?_
 show qS _ _ _ _ ⟨[(0,(.d (jJ x))),(1,(.d (jJ y)))],[]⟩
 refine jA<|kx [(2,(.ref 0 0)),(3,(.ref 1 0)),(4,(.ref 2 0))] [(0,some (bx (jJ x))),(1,some (bx (jJ y))),(2,some (bx (jJ (kM.mk false []))))] (zN (vL 0)<|zN (vL 1)<|zN (uX 2 yI yL)<|zZ) ?_
 refine jA<|kd [] [(0,some (bx (jJ (jZ (jO x))))),(1,some (bx (jJ (jZ (jO y)))))] mo (wR (kI jS)<|wE (jX (mI x (by omega)))<|wR (kI jS)<|wE (jX (mI y (by omega)))<|wT (qF jS)<|wT (qF jS)<|wZ) ?_
 refine jA<|jA<|kx [(13,(vb (((jZ (jO x)).neg) == ((jZ (jO y)).neg))))] [] (zE (kJ vN)<|zR (kX sh4)<|zE (kJ vN)<|zR (kX sh4)<|zE (oEb bo4)<|zZ) ?_
 refine jG rfl (fun h1=>?_) (fun h1=>?_)
 ·replace h1:=eq_of_beq h1
  refine jA<|kd [] [(2,some (bx (jJ (vO ((jZ (jO x)).neg) (val (ofNat (val (ofNat (Int.natAbs (jO x)))+val (ofNat (Int.natAbs (jO y))))))))))] mo (wE (kJ vN)<|wR (kX sh4)<|wE (kJ xC)<|wR (kX xX)<|wE (kJ xC)<|wR (kX xX)<|wE (jX (r_plus (ofNat (Int.natAbs (jO x))) (ofNat (Int.natAbs (jO y))) (by first | assumption | exact jY _ | exact (kU _).1 | exact (kW _).1) (by first | assumption | exact jY _ | exact (kU _).1 | exact (kW _).1) (by omega) (by omega)))<|wE (jX (gA ((jZ (jO x)).neg) (ofNat (val (ofNat (Int.natAbs (jO x)))+val (ofNat (Int.natAbs (jO y))))) (by first | assumption | exact jY _ | exact (kU _).1 | exact (kW _).1) (by first | omega | exact Nat.le_trans (add_len (jY _) (jY _)) (by omega) | exact Nat.le_trans (sub_len (jY _)) (by omega))))<|wT (qF jS)<|wZ) ?_
  refine jE ⟨_,(kV (cs:=(bx (jJ (vO ((jZ (jO x)).neg) (val (ofNat (val (ofNat (Int.natAbs (jO x)))+val (ofNat (Int.natAbs (jO y)))))))))) (d:=(jJ (vO ((jZ (jO x)).neg) (val (ofNat (val (ofNat (Int.natAbs (jO x)))+val (ofNat (Int.natAbs (jO y))))))))) rfl rfl jS rfl rfl .nil),?_⟩
  rw[← rsum_same h1];rfl
 ·replace h1:=ne_of_beq_false h1
  refine jC<|jA<|jA<|kx [(27,(vb (decide (0≤(uP ((val (ofNat (Int.natAbs (jO x))):Nat):Int) ((val (ofNat (Int.natAbs (jO y))):Nat):Int))))))] [] (zE (kJ xC)<|zR (kX xX)<|zE (kJ xC)<|zR (kX xX)<|zE (jX (r_size (ofNat (Int.natAbs (jO x))) (ofNat (Int.natAbs (jO y))) (by first | assumption | exact kU _ | exact kW _) (by first | assumption | exact kU _ | exact kW _) (by omega) (by omega)))<|zE oGe<|zZ) ?_
  refine jG rfl (fun h2=>?_) (fun h2=>?_)
  ·replace h2:=vM h2
   refine jA<|kd [] [(2,some (bx (jJ (vO ((jZ (jO x)).neg) (val (ofNat (val (ofNat (Int.natAbs (jO x)))-val (ofNat (Int.natAbs (jO y))))))))))] mo (wE (kJ vN)<|wR (kX sh4)<|wE (kJ xC)<|wR (kX xX)<|wE (kJ xC)<|wR (kX xX)<|wE (jX (r_minus (ofNat (Int.natAbs (jO x))) (ofNat (Int.natAbs (jO y))) (by first | assumption | exact jY _ | exact (kU _).1 | exact (kW _).1) (by first | assumption | exact jY _ | exact (kU _).1 | exact (kW _).1) (by have:=fM h2;omega) (by omega)))<|wE (jX (gA ((jZ (jO x)).neg) (ofNat (val (ofNat (Int.natAbs (jO x)))-val (ofNat (Int.natAbs (jO y))))) (by first | assumption | exact jY _ | exact (kU _).1 | exact (kW _).1) (by first | omega | exact Nat.le_trans (add_len (jY _) (jY _)) (by omega) | exact Nat.le_trans (sub_len (jY _)) (by omega))))<|wT (qF jS)<|wZ) ?_
   refine jE ⟨_,(kV (cs:=(bx (jJ (vO ((jZ (jO x)).neg) (val (ofNat (val (ofNat (Int.natAbs (jO x)))-val (ofNat (Int.natAbs (jO y)))))))))) (d:=(jJ (vO ((jZ (jO x)).neg) (val (ofNat (val (ofNat (Int.natAbs (jO x)))-val (ofNat (Int.natAbs (jO y))))))))) rfl rfl jS rfl rfl .nil),?_⟩
   rw[← rsum_first h1 (by have:=fM h2;omega)];rfl
  ·replace h2:=vK h2
   refine jC<|jA<|kd [] [(2,some (bx (jJ (vO ((jZ (jO y)).neg) (val (ofNat (val (ofNat (Int.natAbs (jO y)))-val (ofNat (Int.natAbs (jO x))))))))))] mo (wE (kJ vN)<|wR (kX sh4)<|wE (kJ xC)<|wR (kX xX)<|wE (kJ xC)<|wR (kX xX)<|wE (jX (r_minus (ofNat (Int.natAbs (jO y))) (ofNat (Int.natAbs (jO x))) (by first | assumption | exact jY _ | exact (kU _).1 | exact (kW _).1) (by first | assumption | exact jY _ | exact (kU _).1 | exact (kW _).1) (by have:=cmpI_lt h2;omega) (by omega)))<|wE (jX (gA ((jZ (jO y)).neg) (ofNat (val (ofNat (Int.natAbs (jO y)))-val (ofNat (Int.natAbs (jO x))))) (by first | assumption | exact jY _ | exact (kU _).1 | exact (kW _).1) (by first | omega | exact Nat.le_trans (add_len (jY _) (jY _)) (by omega) | exact Nat.le_trans (sub_len (jY _)) (by omega))))<|wT (qF jS)<|wZ) ?_
   refine jE ⟨_,(kV (cs:=(bx (jJ (vO ((jZ (jO y)).neg) (val (ofNat (val (ofNat (Int.natAbs (jO y)))-val (ofNat (Int.natAbs (jO x)))))))))) (d:=(jJ (vO ((jZ (jO y)).neg) (val (ofNat (val (ofNat (Int.natAbs (jO y)))-val (ofNat (Int.natAbs (jO x))))))))) rfl rfl jS rfl rfl .nil),?_⟩
   rw[← rsum_second h1 (by have:=cmpI_lt h2;omega)];rfl
theorem r_sub(x:kM)(y:kM)(hx:x.gs.length≤1099511627776)(hy:y.gs.length≤1099511627776):jR Tryz.prog 89 [(jJ x),(jJ y)] (jJ (jZ (jO x-jO y))):=by
 have hv:=gs_neg y
 refine jH Tryz.func89 rfl cb89 rfl ?_
 show qS _ _ _ _ ⟨[(0,(.d (jJ x))),(1,(.d (jJ y)))],[]⟩
 refine jA<|kx [(2,(.ref 0 0)),(3,(.ref 1 0)),(4,(.ref 2 0))] [(0,some (bx (jJ x))),(1,some (bx (jJ y))),(2,some (bx (jJ (kM.mk false []))))] (zN (vL 0)<|zN (vL 1)<|zN (uX 2 yI yL)<|zZ) ?_
 refine jA<|kd [] [(2,some (bx (jJ (jZ (jO x+jO (jZ (-jO y)))))))] mo (wR (kI jS)<|wR (kI jS)<|wE (jX (r_neg y (by omega)))<|wE (jX (r_add x (jZ (-jO y)) (by omega) (by omega)))<|wT (qF jS)<|wZ) ?_
 refine jE ⟨_,(kV (cs:=(bx (jJ (jZ (jO x+jO (jZ (-jO y))))))) (d:=(jJ (jZ (jO x+jO (jZ (-jO y)))))) rfl rfl jS rfl rfl .nil),?_⟩
 rw[nP,← Int.sub_eq_add_neg];rfl
theorem r_mul(x:kM)(y:kM)(hx:x.gs.length≤1099511627776)(hy:y.gs.length≤1099511627776):jR Tryz.prog 121 [(jJ x),(jJ y)] (jJ (jZ (jO x*jO y))):=by
 have hvx:=mE x
 have hvy:=mE y
 have hda:=jY (Int.natAbs (jO x))
 have hdb:=jY (Int.natAbs (jO y))
 refine jH Tryz.func121 rfl cb121 rfl ?_
 show qS _ _ _ _ ⟨[(0,(.d (jJ x))),(1,(.d (jJ y)))],[]⟩
 refine jA<|kx [(2,(.ref 0 0)),(3,(.ref 1 0)),(4,(.ref 2 0))] [(0,some (bx (jJ x))),(1,some (bx (jJ y))),(2,some (bx (jJ (kM.mk false []))))] (zN (vL 0)<|zN (vL 1)<|zN (uX 2 yI yL)<|zZ) ?_
 refine jA<|kd [] [(0,some (bx (jJ (jZ (jO x))))),(1,some (bx (jJ (jZ (jO y)))))] mo (wR (kI jS)<|wE (jX (mI x (by omega)))<|wR (kI jS)<|wE (jX (mI y (by omega)))<|wT (qF jS)<|wT (qF jS)<|wZ) ?_
 refine jA<|kx [(5,(.own 3 121 1 ((ofNat (Int.natAbs (jO x))).length+(ofNat (Int.natAbs (jO y))).length)))] [(3,some (bm jB (List.replicate ((ofNat (Int.natAbs (jO x))).length+(ofNat (Int.natAbs (jO y))).length) 0)))] (zE (kJ xC)<|zR (kX xX)<|zE (yU kC (L:=(ofNat (Int.natAbs (jO x)))))<|zE (kJ xC)<|zR (kX xX)<|zE (yU kC (L:=(ofNat (Int.natAbs (jO y)))))<|zE (qP ((ofNat (Int.natAbs (jO x))).length+(ofNat (Int.natAbs (jO y))).length))<|zN (oMk 3 jB (0:Nat) ((ofNat (Int.natAbs (jO x))).length+(ofNat (Int.natAbs (jO y))).length) ((ofNat (Int.natAbs (jO x))).length+(ofNat (Int.natAbs (jO y))).length) kC vC xV gH)<|zM<|zZ) ?_
 refine jA<|jA<|kx [(6,(jL 0))] [] (zM<|zZ) ?_
 refine jD<|kP (α:=Nat × List Nat) (fun (i,out)=>⟨[(2,(.ref 0 0)),(3,(.ref 1 0)),(4,(.ref 2 0)),(5,(.own 3 121 1 ((ofNat (Int.natAbs (jO x))).length+(ofNat (Int.natAbs (jO y))).length))),(6,(jL i))],[(0,some (bx (jJ (jZ (jO x))))),(1,some (bx (jJ (jZ (jO y))))),(2,some (bx (jJ (kM.mk false [])))),(3,some (bm jB out))]⟩) (fun (i,out)=>out.length=(ofNat (Int.natAbs (jO x))).length+(ofNat (Int.natAbs (jO y))).length∧Dig out∧i≤(ofNat (Int.natAbs (jO x))).length∧(∀ k,i+(ofNat (Int.natAbs (jO y))).length≤k→out.getD k 0=0)∧val out=val ((ofNat (Int.natAbs (jO x))).take i)*val (ofNat (Int.natAbs (jO y)))) (fun (i,out)=>(ofNat (Int.natAbs (jO x))).length-i) (0,List.replicate ((ofNat (Int.natAbs (jO x))).length+(ofNat (Int.natAbs (jO y))).length) 0) wk ⟨by simp,xH _,Nat.zero_le _,fun k _=>cK _ k,by simp [val,mH]⟩ ?_
 rintro ⟨i,out⟩ ⟨uB,hdo,hi,hz,hv⟩
 have hai:=hda.getD i
 refine jA<|jA<|kx [(26,(vb (decide (((i:Nat):Int)<(((ofNat (Int.natAbs (jO x))).length:Nat):Int)))))] [] (zM<|zE (kJ xC)<|zR (kX xX)<|zE (yU kC (L:=(ofNat (Int.natAbs (jO x)))))<|zE uE<|zZ) ?_
 refine jG rfl (fun h1=>?_) (fun h1=>?_)
 ·replace h1:=vM h1
  refine jC<|jA<|jD<|jA<|kx [(7,(zG 0))] [] (zM<|zZ) ?_
  refine jA<|jA<|kx [(8,(jL 0))] [] (zM<|zZ) ?_
  refine jD<|kP (α:=Nat × List Nat × Nat) (fun (j,o2,c)=>⟨[(2,(.ref 0 0)),(3,(.ref 1 0)),(4,(.ref 2 0)),(5,(.own 3 121 1 ((ofNat (Int.natAbs (jO x))).length+(ofNat (Int.natAbs (jO y))).length))),(6,(jL i)),(7,(zG c)),(8,(jL j))],[(0,some (bx (jJ (jZ (jO x))))),(1,some (bx (jJ (jZ (jO y))))),(2,some (bx (jJ (kM.mk false [])))),(3,some (bm jB o2))]⟩) (fun (j,o2,c)=>o2.length=(ofNat (Int.natAbs (jO x))).length+(ofNat (Int.natAbs (jO y))).length∧Dig o2∧j≤(ofNat (Int.natAbs (jO y))).length∧c<1000000000∧(∀ k,i+(ofNat (Int.natAbs (jO y))).length≤k→o2.getD k 0=0)∧val o2+pw (i+j)*c=val ((ofNat (Int.natAbs (jO x))).take i)*val (ofNat (Int.natAbs (jO y)))+pw i*((ofNat (Int.natAbs (jO x))).getD i 0*val ((ofNat (Int.natAbs (jO y))).take j))) (fun (j,o2,c)=>(ofNat (Int.natAbs (jO y))).length-j) (0,out,0) wk ⟨uB,hdo,Nat.zero_le _,by decide,hz,by simp [val,hv]⟩ ?_
  rintro ⟨j,o2,c⟩ ⟨hlen2,hdo2,hj,hc,hz2,hv2⟩
  have hbj:=hdb.getD j
  have hoj:=hdo2.getD (i+j)
  have hpq:(ofNat (Int.natAbs (jO x))).getD i 0*(ofNat (Int.natAbs (jO y))).getD j 0≤999999999*999999999:=Nat.mul_le_mul (by omega) (by omega)
  refine jA<|jA<|kx [(33,(vb (decide (((j:Nat):Int)<(((ofNat (Int.natAbs (jO y))).length:Nat):Int)))))] [] (zM<|zE (kJ xC)<|zR (kX xX)<|zE (yU kC (L:=(ofNat (Int.natAbs (jO y)))))<|zE uE<|zZ) ?_
  refine jG rfl (fun h2=>?_) (fun h2=>?_)
  ·replace h2:=vM h2
   refine jC<|jA<|jD<|jA<|kd [(9,(zG (((o2.getD (i+j) 0)+(((ofNat (Int.natAbs (jO x))).getD i 0)*((ofNat (Int.natAbs (jO y))).getD j 0)))+c)))] [] mo (wM<|wM<|wM<|wE (qP (i+j))<|wE (cH kC (i+j))<|wR (oLp qJ (i+j) (0:Nat))<|wE (gM xU xR (o2.getD (i+j) 0))<|wE (kJ xC)<|wR (kX xX)<|wM<|wE (nG kC i (0:Nat) (L:=(ofNat (Int.natAbs (jO x)))))<|wE (xE qJ)<|wE (gM xU xR ((ofNat (Int.natAbs (jO x))).getD i 0))<|wE (kJ xC)<|wR (kX xX)<|wM<|wE (nG kC j (0:Nat) (L:=(ofNat (Int.natAbs (jO y)))))<|wE (xE qJ)<|wE (gM xU xR ((ofNat (Int.natAbs (jO y))).getD j 0))<|wE (oMl (((ofNat (Int.natAbs (jO x))).getD i 0)*((ofNat (Int.natAbs (jO y))).getD j 0)))<|wE (qP ((o2.getD (i+j) 0)+(((ofNat (Int.natAbs (jO x))).getD i 0)*((ofNat (Int.natAbs (jO y))).getD j 0))))<|wM<|wE (qP (((o2.getD (i+j) 0)+(((ofNat (Int.natAbs (jO x))).getD i 0)*((ofNat (Int.natAbs (jO y))).getD j 0)))+c))<|wM<|wZ) ?_
   refine jA<|kx [] [(3,some (bm jB (o2.set (i+j) ((((o2.getD (i+j) 0)+(((ofNat (Int.natAbs (jO x))).getD i 0)*((ofNat (Int.natAbs (jO y))).getD j 0)))+c) % 1000000000))))] (zM<|zM<|zM<|zE (qP (i+j))<|zM<|zE (oRe ((((o2.getD (i+j) 0)+(((ofNat (Int.natAbs (jO x))).getD i 0)*((ofNat (Int.natAbs (jO y))).getD j 0)))+c) % 1000000000))<|zE (gM yN yE ((((o2.getD (i+j) 0)+(((ofNat (Int.natAbs (jO x))).getD i 0)*((ofNat (Int.natAbs (jO y))).getD j 0)))+c) % 1000000000))<|zE (cH kC (i+j))<|zT (oSp qJ (i+j) ((((o2.getD (i+j) 0)+(((ofNat (Int.natAbs (jO x))).getD i 0)*((ofNat (Int.natAbs (jO y))).getD j 0)))+c) % 1000000000))<|zZ) ?_
   refine kx [(7,(zG ((((o2.getD (i+j) 0)+(((ofNat (Int.natAbs (jO x))).getD i 0)*((ofNat (Int.natAbs (jO y))).getD j 0)))+c) / 1000000000)))] [] (zM<|zE (oQu ((((o2.getD (i+j) 0)+(((ofNat (Int.natAbs (jO x))).getD i 0)*((ofNat (Int.natAbs (jO y))).getD j 0)))+c) / 1000000000))<|zM<|zZ) ?_
   refine kx [(8,(jL (j+1)))] [] (zM<|zE (qP (j+1))<|zM<|zZ) ?_
   exact ⟨(j+1,o2.set (i+j) ((o2.getD (i+j) 0+(ofNat (Int.natAbs (jO x))).getD i 0*(ofNat (Int.natAbs (jO y))).getD j 0+c) % 1000000000),(o2.getD (i+j) 0+(ofNat (Int.natAbs (jO x))).getD i 0*(ofNat (Int.natAbs (jO y))).getD j 0+c) / 1000000000),wk,(by obtain ⟨q1,q2⟩:=times_step (by omega) hdo2 hv2 rfl (val_take_succ _ j);exact ⟨by simpa using hlen2,q1,by omega,by omega,zero_set (by omega) hz2,q2⟩),(by first|omega|(dsimp only;omega))⟩
  ·replace h2:=vK h2
   have hje:j=(ofNat (Int.natAbs (jO y))).length:=by omega
   rw[hje] at hv2
   refine jV<|kx [] [(3,some (bm jB (o2.set (i+(ofNat (Int.natAbs (jO y))).length) c)))] (zM<|zM<|zE (kJ xC)<|zR (kX xX)<|zE (yU kC (L:=(ofNat (Int.natAbs (jO y)))))<|zE (qP (i+(ofNat (Int.natAbs (jO y))).length))<|zM<|zE (gM yN yE c)<|zE (cH kC (i+(ofNat (Int.natAbs (jO y))).length))<|zT (oSp qJ (i+(ofNat (Int.natAbs (jO y))).length) c)<|zZ) ?_
   refine kx [(6,(jL (i+1)))] [] (zM<|zE (qP (i+1))<|zM<|zZ) ?_
   exact ⟨(i+1,o2.set (i+(ofNat (Int.natAbs (jO y))).length) c),wk,(by obtain ⟨q1,q2,q3,q4⟩:=times_row hdo2 (by omega) hlen2 hz2 hc hv2;exact ⟨q1,q2,by omega,q3,q4⟩),(by first|omega|(dsimp only;omega))⟩
 ·replace h1:=vK h1
  have hie:i=(ofNat (Int.natAbs (jO x))).length:=by omega
  rw[hie,List.take_length] at hv
  refine jV<|jA<|kE (vP (t:=5) (k:=3) (es:=List.map jB out) rfl rfl (qZ _ _ (fun _=>rfl)) (uR _ _ uB) (uS _ _ (fun _=>rfl) uB)) ?_
  refine kx [] [(2,some (bx (jJ (vO (!(((jZ (jO x)).neg) == ((jZ (jO y)).neg))) (val out)))))] (zE (kJ vN)<|zR (kX sh4)<|zE (kJ vN)<|zR (kX sh4)<|zE (oNb bo4)<|zM<|zE (jX (gA (!(((jZ (jO x)).neg) == ((jZ (jO y)).neg))) out hdo (by omega)))<|zT (qF jS)<|zZ) ?_
  refine jE ⟨_,(kV (cs:=(bx (jJ (vO (!(((jZ (jO x)).neg) == ((jZ (jO y)).neg))) (val out))))) (d:=(jJ (vO (!(((jZ (jO x)).neg) == ((jZ (jO y)).neg))) (val out)))) rfl rfl jS rfl rfl .nil),?_⟩
  rw[hv,rmul_eq];rfl
theorem r_short(a:List Nat)(d:Nat)(hda:Dig a)(hd0:0<d)(hd1:d≤1000000000)(hla:a.length≤17592186044416):jR Tryz.prog 115 [(.sl 121 1 (List.map jB a)),(.val (.int .u64 (((d:Nat):Int))))] (.tup [(.sl 121 1 (List.map jB (ofNat (val a / d)))),(.val (.int .u64 ((((val a % d):Nat):Int))))]):=by
 refine jH Tryz.func115 rfl cb115 rfl ?_
 show qS _ _ _ _ ⟨[(0,(vl 121 1 jB a)),(1,(zG d))],[]⟩
 refine jA<|kx [] [] (zE (oNl 121 1)<|zM<|zZ) ?_
 refine jA<|kx [(6,(.own 0 121 1 a.length))] [(0,some (bm jB (List.replicate a.length 0)))] (zM<|zE (yU kC)<|zN (oMk 0 jB (0:Nat) a.length a.length kC vC xV gH)<|zM<|zZ) ?_
 refine jA<|kx [(7,(zG 0))] [] (zM<|zZ) ?_
 refine jA<|jA<|kx [(8,(vi (((a.length:Nat):Int)-1)))] [] (zM<|zE (yU kC)<|zE (cN (((a.length:Nat):Int)-1))<|zM<|zZ) ?_
 refine jD<|kP (α:=Nat × List Nat × Nat) (fun (k,q,vT)=>⟨[(0,(vl 121 1 jB a)),(1,(zG d)),(6,(.own 0 121 1 a.length)),(7,(zG vT)),(8,(vi (((k:Nat):Int)-1)))],[(0,some (bm jB q))]⟩) (fun (k,q,vT)=>k≤a.length∧q.length=a.length∧Dig q∧vT<d∧val (a.drop k)=val (q.drop k)*d+vT) (fun (k,q,vT)=>k) (a.length,List.replicate a.length 0,0) wk ⟨Nat.le_refl _,by simp,xH _,hd0,by simp [val]⟩ ?_
 rintro ⟨k,q,vT⟩ ⟨hk,uB,hdq,hr,hv⟩
 refine jA<|jA<|kx [(17,(vb (decide (0≤(((k:Nat):Int)-1)))))] [] (zM<|zE oGe<|zZ) ?_
 refine jG (b:=decide (0≤(((k:Nat):Int)-1))) rfl (fun h1=>?_) (fun h1=>?_)
 ·replace h1:=vM h1
  obtain ⟨i,rfl⟩:∃ i,k=i+1:=⟨k-1,by omega⟩
  rw[show (((i+1:Nat):Int)-1)=((i:Nat):Int) from by omega]
  have hg:=hda.getD i
  obtain ⟨hb1,hb2⟩:=short_bound hr hd1 hg
  refine jC<|jA<|jD<|jA<|kx [(8,(jL i)),(9,(zG ((vT*1000000000)+(a.getD i 0))))] [] (zM<|zE (oMl (vT*1000000000))<|zM<|zM<|zE (nG kC i (0:Nat))<|zE (xE qJ)<|zE (gM xU xR (a.getD i 0))<|zE (qP ((vT*1000000000)+(a.getD i 0)))<|zM<|zZ) ?_
  refine jA<|kx [] [(0,some (bm jB (q.set i (((vT*1000000000)+(a.getD i 0)) / d))))] (zM<|zM<|zM<|zM<|zE (oQu (((vT*1000000000)+(a.getD i 0)) / d))<|zE (gM yN yE (((vT*1000000000)+(a.getD i 0)) / d))<|zE (cH kC i)<|zT (oSp qJ i (((vT*1000000000)+(a.getD i 0)) / d))<|zZ) ?_
  refine kx [(7,(zG (((vT*1000000000)+(a.getD i 0)) % d)))] [] (zM<|zM<|zE (oRe (((vT*1000000000)+(a.getD i 0)) % d))<|zM<|zZ) ?_
  refine kx [(8,(vi (((i:Nat):Int)-1)))] [] (zM<|zE (cN (((i:Nat):Int)-1))<|zM<|zZ) ?_
  exact ⟨(i,q.set i ((vT*1000000000+a.getD i 0) / d),(vT*1000000000+a.getD i 0) % d),wk,⟨by omega,by simpa using uB,hdq.set _ hb2,Nat.mod_lt _ hd0,rshort_step (by omega) hv rfl⟩,(by first|omega|(dsimp only;omega))⟩
 ·replace h1:=vK h1
  obtain rfl:k=0:=by omega
  obtain ⟨e1,e2⟩:=short_end (a:=a) (q:=q) (by rw[Nat.sub_self];exact hv) hr
  refine jV<|jA<|kE (vP (t:=6) (k:=0) (es:=List.map jB q) rfl rfl (qZ _ _ (fun _=>rfl)) (uR _ _ uB) (uS _ _ (fun _=>rfl) uB)) ?_
  refine kx [(4,(vl 121 1 jB (ofNat (val q)))),(5,(zG vT))] [] (zM<|zE (jX (gA false q (by first | assumption | exact jY _ | exact (kU _).1 | exact (kW _).1) (by omega)))<|zE (oF1 dR xX)<|zM<|zM<|zM<|zZ) ?_
  refine jE ⟨_,(.tmp (d:=(.sl 121 1 (List.map jB (ofNat (val q))))) rfl (.tmp (d:=(.val (.int .u64 (((vT:Nat):Int))))) rfl .nil)),?_⟩
  rw[← e1,← e2];rfl
theorem r_pair(l:List Nat)(hd:Dig l)(h2:l.length≤2):jR Tryz.prog 91 [(.sl 121 1 (List.map jB l))] (.val (.int .u64 ((((val l):Nat):Int)))):=by
 have h0:=hd.getD 0
 have h1:=hd.getD 1
 refine jH Tryz.func91 rfl cb91 rfl ?_
 show qS _ _ _ _ ⟨[(0,(vl 121 1 jB l))],[]⟩
 refine jA<|kx [] [] (zM<|zZ) ?_
 refine jA<|kx [(2,(zG (((l.getD 1 0)*1000000000)+(l.getD 0 0))))] [] (zM<|zE (jX (cZ l 1 (by first | assumption | exact jY _ | exact (kU _).1 | exact (kW _).1)))<|zE (oMl ((l.getD 1 0)*1000000000))<|zM<|zE (jX (cZ l 0 (by first | assumption | exact jY _ | exact (kU _).1 | exact (kW _).1)))<|zE (qP (((l.getD 1 0)*1000000000)+(l.getD 0 0)))<|zM<|zZ) ?_
 refine jE ⟨_,(.tmp (d:=(.val (.int .u64 ((((((l.getD 1 0)*1000000000)+(l.getD 0 0)):Nat):Int))))) rfl .nil),?_⟩
 rw[val_pair h2];rfl
theorem r_parts(a b:List Nat)(hda:yB a)(hdb:yB b)(hb0:0<b.length)(hla:a.length≤1099511627776)(hlb:b.length≤1099511627776):jR Tryz.prog 90 [(.sl 121 1 (List.map jB a)),(.sl 121 1 (List.map jB b))] (.tup [(.sl 121 1 (List.map jB (ofNat (val a / val b)))),(.sl 121 1 (List.map jB (ofNat (val a % val b))))]):=by
 have hsc:=eO hdb hb0
 have htp:=eS hdb hb0
 have hbp:=nF hdb hb0
 refine jH Tryz.func90 rfl cb90 rfl ?_
 show qS _ _ _ _ ⟨[(0,(vl 121 1 jB a)),(1,(vl 121 1 jB b))],[]⟩
 refine jA<|kx [] [] (zE (oNl 121 1)<|zE (oNl 121 1)<|zZ) ?_
 refine jA<|kx [(6,(jL b.length))] [] (zM<|zE (yU kC)<|zM<|zZ) ?_
 refine jA<|jA<|kx [(19,(vb (((b.length:Nat):Int) == 1)))] [] (zM<|zE oEq<|zZ) ?_
 refine jG (b:=(((b.length:Nat):Int) == 1)) rfl (fun h1=>?_) (fun h1=>?_)
 ·replace h1:=eq_of_beq h1
  have hg0:=hdb.1.getD 0
  have hv1:=val_len1 (b:=b) (by omega)
  have hb00:0<b.getD 0 0:=by omega
  have hrl:val a % b.getD 0 0<1000000000:=Nat.lt_trans (Nat.mod_lt _ hb00) (by omega)
  refine jA<|kx [(7,(vl 121 1 jB (ofNat (val a / (b.getD 0 0))))),(8,(zG (val a % (b.getD 0 0))))] [] (zM<|zM<|zE (nG kC 0 (0:Nat))<|zE (xE qJ)<|zE (gM xU xR (b.getD 0 0))<|zE (jX (r_short a (b.getD 0 0) hda.1 (by omega) (by omega) (by omega)))<|zM<|zE vQ<|zE vQ<|zM<|zM<|zZ) ?_
  refine jA<|kx [(4,(vl 121 1 jB (ofNat (val a / (b.getD 0 0))))),(5,(vl 121 1 jB (ofNat (val [(val a % (b.getD 0 0))]))))] [] (zM<|zM<|zE (gM yN yE (val a % (b.getD 0 0)))<|zE (oBs kC vC xV)<|zE (jX (gA false [(val a % (b.getD 0 0))] (xW.2 ⟨by omega,yG⟩) (by simp)))<|zE (oF1 dR xX)<|zM<|zM<|zZ) ?_
  refine jE ⟨_,(.tmp (d:=(.sl 121 1 (List.map jB (ofNat (val a / (b.getD 0 0)))))) rfl (.tmp (d:=(.sl 121 1 (List.map jB (ofNat (val [(val a % (b.getD 0 0))]))))) rfl .nil)),?_⟩
  rw[hv1,nO];rfl
 ·replace h1:=ne_of_beq_false h1
  refine jC<|jA<|jA<|kx [(38,(vb (decide ((uP ((val a:Nat):Int) ((val b:Nat):Int))<0))))] [] (zM<|zM<|zE (jX (r_size a b (by first | assumption | exact kU _ | exact kW _) (by first | assumption | exact kU _ | exact kW _) (by omega) (by omega)))<|zE uE<|zZ) ?_
  refine jG rfl (fun h2=>?_) (fun h2=>?_)
  ·replace h2:=vM h2
   refine jA<|kx [(4,(vl 121 1 jB [])),(5,(vl 121 1 jB a))] [] (zE (oBs kC vC xV)<|zM<|zM<|zM<|zZ) ?_
   refine jE ⟨_,(.tmp (d:=(.sl 121 1 (List.map jB []))) rfl (.tmp (d:=(.sl 121 1 (List.map jB a))) rfl .nil)),?_⟩
   have hlt:=cmpI_neg h2
   rw[Nat.div_eq_of_lt hlt,Nat.mod_eq_of_lt hlt,uJ,← can_eq hda];rfl
  ·replace h2:=vK h2
   obtain ⟨u,hue⟩:∃ u,u=ofNat (val a*nQ b):=⟨_,rfl⟩
   obtain ⟨v,hve⟩:∃ v,v=ofNat (val b*nQ b):=⟨_,rfl⟩
   have hu:Dig u:=by rw[hue];exact jY _
   have hcv:yB v:=by rw[hve];exact kU _
   have hvd:=hcv.1
   have hvl:v.length=b.length:=by rw[hve];exact scl_len hdb hb0
   have hvv:val v=val b*nQ b:=by rw[hve];exact jU _
   have huv:val u=val a*nQ b:=by rw[hue];exact jU _
   have hab:=len_of_le hda hdb (cmpI_nn h2)
   have hul:a.length≤u.length∧u.length≤a.length+1:=by rw[hue];exact scl_lenA hda hdb hb0
   have hvp:=nF hcv (by omega)
   have hpv:pw (b.length-1)≤val v:=by have h1:=val_top hvd (by omega);have h3:=eS hcv (by omega);rw[hvl] at h1 h3;have h2:=Nat.mul_le_mul_right (pw (b.length-1)) h3.1;omega
   refine jC<|jA<|kx [(9,(zG (nQ b)))] [] (zM<|zM<|zE (cO (b.length-1))<|zE (nG kC (b.length-1) (0:Nat))<|zE (xE qJ)<|zE (gM xU xR (b.getD (b.length-1) 0))<|zE (qP ((b.getD (b.length-1) 0)+1))<|zE (oQu (nQ b) (hr:=by exact (quo_u64 1000000000 (b.getD (b.length-1) 0+1) (by decide))))<|zM<|zZ) ?_
   refine jA<|kx [(0,(vl 121 1 jB u)),(1,(vl 121 1 jB v))] [] (zM<|zM<|zE (jX (hue▸r_scaled a (nQ b) hda.1 (by omega) (by omega)))<|zM<|zM<|zE (jX (hve▸r_scaled b (nQ b) hdb.1 (by omega) (by omega)))<|zM<|zM<|zZ) ?_
   refine jA<|kx [(10,(vl 121 1 jB (ofNat (val (List.drop ((u.length-b.length)+1) u)))))] [] (zM<|zM<|zE (yU kC)<|zM<|zE (cO (u.length-b.length))<|zE (qP ((u.length-b.length)+1))<|zE (e_slc (l:=((u.length-b.length)+1)) (h:=(List.map jB u).length) (kl:=.i64) (kh:=.i64) (es':=List.map jB (List.drop ((u.length-b.length)+1) u)) (by exact rfl) kC (by exact rfl) (by exact rfl) (by exact rfl) (by simp only[List.length_map];omega) (Nat.le_refl _) (by rw[List.take_length,List.map_drop]))<|zE (jX (gA false (List.drop ((u.length-b.length)+1) u) (hu.drop _) (by rw[List.length_drop];omega)))<|zE (oF1 dR xX)<|zM<|zZ) ?_
   refine jA<|kx [(11,(.own 0 121 1 ((u.length-b.length)+1)))] [(0,some (bm jB (List.replicate ((u.length-b.length)+1) 0)))] (zM<|zE (yU kC)<|zM<|zE (cO (u.length-b.length))<|zE (qP ((u.length-b.length)+1))<|zN (oMk 0 jB (0:Nat) ((u.length-b.length)+1) ((u.length-b.length)+1) kC vC xV gH)<|zM<|zZ) ?_
   refine jA<|jA<|kx [(12,(vi ((((u.length-b.length)+1:Nat):Int)-1)))] [] (zM<|zE (yU kC)<|zM<|zE (cN ((((u.length-b.length)+1:Nat):Int)-1))<|zM<|zZ) ?_
   refine jD<|kP (α:=Nat × List Nat × List Nat) (fun (k,r,q)=>⟨[(0,(vl 121 1 jB u)),(1,(vl 121 1 jB v)),(6,(jL b.length)),(9,(zG (nQ b))),(10,(vl 121 1 jB r)),(11,(.own 0 121 1 ((u.length-b.length)+1))),(12,(vi (((k:Nat):Int)-1)))],[(0,some (bm jB q))]⟩) (fun (k,r,q)=>yB r∧k≤((u.length-b.length)+1)∧q.length=((u.length-b.length)+1)∧Dig q∧val r<val v∧val (u.drop k)=val v*val (q.drop k)+val r) (fun (k,r,q)=>k) (((u.length-b.length)+1),ofNat (val (List.drop ((u.length-b.length)+1) u)),List.replicate ((u.length-b.length)+1) 0) wk ⟨kU _,Nat.le_refl _,by simp,xH _,by rw[jU];have h7:=vF (hu.drop ((u.length-b.length)+1));rw[List.length_drop,show u.length-((u.length-b.length)+1)=b.length-1 by omega] at h7;omega,by rw[jU];simp [val]⟩ ?_
   rintro ⟨k,r,q⟩ ⟨hrc,hk,hql,hqd,hr,hv⟩
   refine jA<|jA<|kx [(75,(vb (decide (0≤(((k:Nat):Int)-1)))))] [] (zM<|zE oGe<|zZ) ?_
   refine jG (b:=decide (0≤(((k:Nat):Int)-1))) rfl (fun h3=>?_) (fun h3=>?_)
   ·replace h3:=vM h3
    obtain ⟨i,rfl⟩:∃ i,k=i+1:=⟨k-1,by omega⟩
    rw[show (((i+1:Nat):Int)-1)=((i:Nat):Int) from by omega]
    have hgu:=hu.getD i
    have hW:(u.getD i 0+1000000000*val r)<1000000000*val v:=by omega
    have hrs:=rshift_val u hv
    obtain ⟨hg1,hg2⟩:=rguess hvd hvl hb0 hW
    have hgv:=hvd.getD (b.length-1)
    have hgw1:=(jY (u.getD i 0+1000000000*val r)).getD b.length
    have hgw2:=(jY (u.getD i 0+1000000000*val r)).getD (b.length-1)
    have hrl:r.length≤b.length:=by have h9:=vW (Nat.le_of_lt hr);rwa [← can_eq hrc,← can_eq hcv,hvl] at h9
    have hwl:(ofNat (u.getD i 0+1000000000*val r)).length≤b.length+1:=qU (by rw[uO];have:=vF hvd;rw[hvl] at this;omega)
    refine jC<|jA<|jD<|jA<|kx [(10,(vl 121 1 jB (ofNat ((u.getD i 0)+1000000000*val r)))),(12,(jL i))] [] (zM<|zM<|zM<|zE (nG kC i (0:Nat))<|zE (xE qJ)<|zE (jX (r_shifted r (u.getD i 0) hrc.1 (by omega) (by omega)))<|zM<|zZ) ?_
    refine jA<|kd [(13,(zG (((((ofNat ((u.getD i 0)+1000000000*val r)).getD b.length 0)*1000000000)+((ofNat ((u.getD i 0)+1000000000*val r)).getD (b.length-1) 0)) / ((v.getD (b.length-1) 0)+1))))] [] mo (wM<|wM<|wE (jX (cZ (ofNat ((u.getD i 0)+1000000000*val r)) b.length (jY _)))<|wE (oMl (((ofNat ((u.getD i 0)+1000000000*val r)).getD b.length 0)*1000000000))<|wM<|wM<|wE (cO (b.length-1))<|wE (jX (cZ (ofNat ((u.getD i 0)+1000000000*val r)) (b.length-1) (by first | assumption | exact jY _ | exact (kU _).1 | exact (kW _).1)))<|wE (qP ((((ofNat ((u.getD i 0)+1000000000*val r)).getD b.length 0)*1000000000)+((ofNat ((u.getD i 0)+1000000000*val r)).getD (b.length-1) 0)))<|wM<|wM<|wE (cO (b.length-1))<|wE (nG kC (b.length-1) (0:Nat))<|wE (xE qJ)<|wE (gM xU xR (v.getD (b.length-1) 0))<|wE (qP ((v.getD (b.length-1) 0)+1))<|wE (oQu (((((ofNat ((u.getD i 0)+1000000000*val r)).getD b.length 0)*1000000000)+((ofNat ((u.getD i 0)+1000000000*val r)).getD (b.length-1) 0)) / ((v.getD (b.length-1) 0)+1)))<|wM<|wZ) ?_
    refine jA<|kx [(10,(vl 121 1 jB (ofNat (val (ofNat ((u.getD i 0)+1000000000*val r))-val (ofNat (val v*(((((ofNat ((u.getD i 0)+1000000000*val r)).getD b.length 0)*1000000000)+((ofNat ((u.getD i 0)+1000000000*val r)).getD (b.length-1) 0)) / ((v.getD (b.length-1) 0)+1))))))))] [] (zM<|zM<|zM<|zE (jX (r_scaled v (((((ofNat ((u.getD i 0)+1000000000*val r)).getD b.length 0)*1000000000)+((ofNat ((u.getD i 0)+1000000000*val r)).getD (b.length-1) 0)) / ((v.getD (b.length-1) 0)+1)) hvd (by omega) (by omega)))<|zE (jX (r_minus (ofNat ((u.getD i 0)+1000000000*val r)) (ofNat (val v*(((((ofNat ((u.getD i 0)+1000000000*val r)).getD b.length 0)*1000000000)+((ofNat ((u.getD i 0)+1000000000*val r)).getD (b.length-1) 0)) / ((v.getD (b.length-1) 0)+1)))) (jY _) (jY _) (by rw[jU,jU,Nat.mul_comm];exact hg1) (by omega)))<|zM<|zZ) ?_
    refine jA<|jD<|kP (α:=Nat × List Nat) (fun (G,r2)=>⟨[(0,(vl 121 1 jB u)),(1,(vl 121 1 jB v)),(6,(jL b.length)),(9,(zG (nQ b))),(10,(vl 121 1 jB r2)),(11,(.own 0 121 1 ((u.length-b.length)+1))),(12,(jL i)),(13,(zG G))],[(0,some (bm jB q))]⟩) (fun (G,r2)=>yB r2∧val v*G+val r2=(u.getD i 0+1000000000*val r)) (fun (G,r2)=>val r2) ((((ofNat (u.getD i 0+1000000000*val r)).getD b.length 0*1000000000+(ofNat (u.getD i 0+1000000000*val r)).getD (b.length-1) 0) / (v.getD (b.length-1) 0+1)),ofNat (val (ofNat (u.getD i 0+1000000000*val r))-val (ofNat (val v*(((ofNat (u.getD i 0+1000000000*val r)).getD b.length 0*1000000000+(ofNat (u.getD i 0+1000000000*val r)).getD (b.length-1) 0) / (v.getD (b.length-1) 0+1)))))) wk ⟨kU _,by rw[jU,jU,jU];rw[Nat.mul_comm] at hg1;omega⟩ ?_
    rintro ⟨G,r2⟩ ⟨hr2,hr2v⟩
    have hr2l:r2.length≤b.length+1:=by have h9:=vW (show val r2≤(u.getD i 0+1000000000*val r) by omega);rw[← can_eq hr2] at h9;omega
    refine jA<|jA<|kx [(109,(vb (decide (0≤(uP ((val r2:Nat):Int) ((val v:Nat):Int))))))] [] (zM<|zM<|zE (jX (r_size r2 v hr2 hcv (by omega) (by omega)))<|zE oGe<|zZ) ?_
    refine jG rfl (fun h4=>?_) (fun h4=>?_)
    ·replace h4:=vM h4
     have hge:=fM h4
     have hG:=rquo_lt hr2v hW
     have hr2l:r2.length≤b.length+1:=by have h9:=vW (show val r2≤(u.getD i 0+1000000000*val r) by omega);rw[← can_eq hr2] at h9;omega
     refine jC<|jD<|jA<|kx [(10,(vl 121 1 jB (ofNat (val r2-val v))))] [] (zM<|zM<|zE (jX (r_minus r2 v hr2.1 hvd (by omega) (by omega)))<|zM<|zZ) ?_
     refine kx [(13,(zG (G+1)))] [] (zM<|zE (qP (G+1))<|zM<|zZ) ?_
     exact ⟨(G+1,ofNat (val r2-val v)),wk,(by have hge:=fM h4;exact ⟨kU _,by rw[jU,Nat.mul_add,Nat.mul_one];omega⟩),(by have hge:=fM h4;dsimp only;rw[jU];omega)⟩
    ·replace h4:=vK h4
     have hG:=rquo_lt hr2v hW
     have hlt:val r2<val v:=by have h9:=cmpI_lt h4;omega
     refine jV<|kx [] [(0,some (bm jB (q.set i G)))] (zM<|zM<|zM<|zE (gM yN yE G)<|zE (cH kC i)<|zT (oSp qJ i G)<|zZ) ?_
     refine kx [(12,(vi (((i:Nat):Int)-1)))] [] (zM<|zE (cN (((i:Nat):Int)-1))<|zM<|zZ) ?_
     exact ⟨(i,r2,q.set i G),wk,⟨hr2,by omega,by simpa using hql,hqd.set _ hG,hlt,rround (by omega) (by rw[hr2v];exact hrs)⟩,(by first|omega|(dsimp only;omega))⟩
   ·replace h3:=vK h3
    obtain rfl:k=0:=by omega
    obtain ⟨e1,e2⟩:=scl_div (a:=a) (b:=b) (q:=q) (u:=r) hdb hb0 (by rw[List.drop_zero,List.drop_zero] at hv;rw[hN,Nat.one_mul,List.drop_zero,← huv,← hvv,hv];omega) (by rw[List.drop_zero,← hvv];exact hr)
    have hrl:r.length≤b.length:=by have h9:=vW (Nat.le_of_lt hr);rwa [← can_eq hrc,← can_eq hcv,hvl] at h9
    refine jV<|jA<|kx [(14,(vl 121 1 jB (ofNat (val r / (nQ b)))))] [] (zM<|zM<|zE (jX (r_short r (nQ b) hrc.1 (by omega) (by omega) (by omega)))<|zM<|zE vQ<|zE vQ<|zM<|zM<|zZ) ?_
    refine jA<|kE (vP (t:=11) (k:=0) (es:=List.map jB q) rfl rfl (qZ _ _ (fun _=>rfl)) (uR _ _ hql) (uS _ _ (fun _=>rfl) hql)) ?_
    refine kx [(4,(vl 121 1 jB (ofNat (val q)))),(5,(vl 121 1 jB (ofNat (val r / (nQ b)))))] [] (zM<|zE (jX (gA false q hqd (by omega)))<|zE (oF1 dR xX)<|zM<|zM<|zM<|zZ) ?_
    refine jE ⟨_,(.tmp (d:=(.sl 121 1 (List.map jB (ofNat (val q))))) rfl (.tmp (d:=(.sl 121 1 (List.map jB (ofNat (val r / (nQ b)))))) rfl .nil)),?_⟩
    rw[← e1,← e2];rfl
theorem cb53:callB Tryz.prog 53=true:=by kernel_rfl
theorem cb54:callB Tryz.prog 54=true:=by kernel_rfl
theorem cb105:callB Tryz.prog 105=true:=by kernel_rfl
theorem r_gcd(x:kM)(y:kM)(hx:x.gs.length≤1099511627776)(hy:y.gs.length≤1099511627776):jR Tryz.prog 54 [(jJ x),(jJ y)] (jJ (jZ ((Int.gcd (jO x) (jO y):Nat):Int))):=by
 have hvx:=mE x
 have hvy:=mE y
 refine jH Tryz.func54 rfl cb54 rfl ?_
 show qS _ _ _ _ ⟨[(0,(.d (jJ x))),(1,(.d (jJ y)))],[]⟩
 refine jA<|kx [(2,(.ref 0 0)),(3,(.ref 1 0)),(4,(.ref 2 0))] [(0,some (bx (jJ x))),(1,some (bx (jJ y))),(2,some (bx (jJ (kM.mk false []))))] (zN (vL 0)<|zN (vL 1)<|zN (uX 2 yI yL)<|zZ) ?_
 refine jA<|kd [(5,(vl 121 1 jB (ofNat (Int.natAbs (jO x))))),(6,(vl 121 1 jB (ofNat (Int.natAbs (jO y)))))] [] mo (wR (kI jS)<|wE (jX (mI x (by omega)))<|wE (oF1 dR xX)<|wR (kI jS)<|wE (jX (mI y (by omega)))<|wE (oF1 dR xX)<|wM<|wM<|wZ) ?_
 refine jA<|jD<|kP (α:=List Nat × List Nat) (fun (a,b)=>⟨[(4,(.ref 2 0)),(5,(vl 121 1 jB a)),(6,(vl 121 1 jB b))],[(2,some (bx (jJ (kM.mk false []))))]⟩) (fun (a,b)=>yB a∧yB b∧a.length≤1099511627776∧b.length≤1099511627776∧Nat.gcd (val a) (val b)=Int.gcd (jO x) (jO y)) (fun (a,b)=>val b) ((ofNat (Int.natAbs (jO x))),(ofNat (Int.natAbs (jO y)))) wk ⟨kU _,kU _,by omega,by omega,by rw[jU,jU];rfl⟩ ?_
 rintro ⟨a,b⟩ ⟨ha,hb,hla,hlb,hg⟩
 refine jA<|jA<|kx [(29,(vb (decide (0<((b.length:Nat):Int))&&(decide (2<((a.length:Nat):Int))||decide (2<((b.length:Nat):Int))))))] [] ?_ ?_
 ·refine zM<|zE (yU kC)<|zE gF<|zE (oV (vb (decide (0<((b.length:Nat):Int)))) (kT (by kernel_rfl)))<|?_
  rcases hb1:(decide (0<((b.length:Nat):Int))) with _ | _
  ·replace hb1:=vK hb1
   exact zK<|zK<|zK<|zK<|zK<|zK<|zK<|zK<|zE cB<|zZ
  ·replace hb1:=vM hb1
   refine zM<|zE (yU kC)<|zE gF<|zE (oV (vb (decide (2<((a.length:Nat):Int)))) (kT (by kernel_rfl)))<|?_
   rcases hb2:(decide (2<((a.length:Nat):Int))) with _ | _
   ·replace hb2:=vK hb2
    exact zM<|zE (yU kC)<|zE gF<|zE nS<|zE oPa<|zZ
   ·replace hb2:=vM hb2
    exact zK<|zK<|zK<|zE xB<|zE xB<|zZ
 refine jG rfl (fun h3=>?_) (fun h3=>?_)
 ·have hbl:0<b.length:=by rw[Bool.and_eq_true,decide_eq_true_eq] at h3;omega
  have hb0:=nF hb hbl
  refine jC<|jD<|jA<|kx [(8,(vl 121 1 jB (ofNat (val a % val b))))] [] (zM<|zM<|zE (jX (r_parts a b ha hb (by omega) (by omega) (by omega)))<|zM<|zE vQ<|zE vQ<|zM<|zM<|zZ) ?_
  refine kx [(5,(vl 121 1 jB b)),(6,(vl 121 1 jB (ofNat (val a % val b))))] [] (zM<|zM<|zM<|zM<|zZ) ?_
  exact ⟨(b,ofNat (val a % val b)),wk,⟨hb,kU _,hlb,Nat.le_trans (len_rem a ha _) hla,by rw[jU,← hg,Nat.gcd_comm,← Nat.gcd_rec,Nat.gcd_comm]⟩,(by dsimp only;rw[jU];exact Nat.mod_lt _ hb0)⟩
 ·have hex:=h3
  refine jV<|jA<|jA<|kx [(40,(vb (((b.length:Nat):Int) == 0)))] [] (zM<|zE (yU kC)<|zE oEq<|zZ) ?_
  refine jG (b:=(((b.length:Nat):Int) == 0)) rfl (fun h4=>?_) (fun h4=>?_)
  ·replace h4:=eq_of_beq h4
   have hb1:b=[]:=List.eq_nil_of_length_eq_zero (by omega)
   rw[hb1,val_nil,Nat.gcd_zero_right] at hg
   refine jA<|kx [] [(2,some (bx (jJ (vO false (val a)))))] (zM<|zE (jX (gA false a ha.1 (by omega)))<|zT (qF jS)<|zZ) ?_
   refine jE ⟨_,(kV (cs:=(bx (jJ (vO false (val a))))) (d:=(jJ (vO false (val a)))) rfl rfl jS rfl rfl .nil),?_⟩
   rw[← hg,eC];rfl
  ·replace h4:=ne_of_beq_false h4
   have hl2:a.length≤2∧b.length≤2:=by simp only[Bool.and_eq_false_iff,Bool.or_eq_false_iff,decide_eq_false_iff_not] at hex;omega
   refine jC<|jA<|kx [(9,(zG (val a))),(10,(zG (val b)))] [] (zM<|zE (jX (r_pair a ha.1 (by omega)))<|zM<|zE (jX (r_pair b hb.1 (by omega)))<|zM<|zM<|zZ) ?_
   refine jA<|jD<|kP (α:=Nat × Nat) (fun (m,n)=>⟨[(4,(.ref 2 0)),(9,(zG m)),(10,(zG n))],[(2,some (bx (jJ (kM.mk false []))))]⟩) (fun (m,n)=>m<1000000000000000000∧n<1000000000000000000∧Nat.gcd m n=Int.gcd (jO x) (jO y)) (fun (m,n)=>n) (val a,val b) wk ⟨val_len2 ha.1 hl2.1,val_len2 hb.1 hl2.2,hg⟩ ?_
   rintro ⟨m,n⟩ ⟨hm,hn,hg2⟩
   refine jA<|jA<|kx [(48,(vb (decide (0<((n:Nat):Int)))))] [] (zM<|zE gF<|zZ) ?_
   refine jG (b:=decide (0<((n:Nat):Int))) rfl (fun h5=>?_) (fun h5=>?_)
   ·replace h5:=vM h5
    refine jC<|jD<|kd [(9,(zG n)),(10,(zG (m % n)))] [] mo (wM<|wM<|wM<|wE (oRe (m % n))<|wM<|wM<|wZ) ?_
    exact ⟨(n,m % n),wk,⟨hn,Nat.lt_of_le_of_lt (Nat.mod_le _ _) hm,by rw[← hg2,Nat.gcd_comm,← Nat.gcd_rec,Nat.gcd_comm]⟩,(by dsimp only;exact Nat.mod_lt _ (by omega))⟩
   ·replace h5:=vK h5
    obtain rfl:n=0:=by omega
    rw[Nat.gcd_zero_right] at hg2
    have hmv:val [m % 1000000000,m / 1000000000]=m:=by simp only[val];omega
    refine jV<|jA<|kx [] [(2,some (bx (jJ (vO false (val [(m % 1000000000),(m / 1000000000)])))))] (zM<|zE (oRe (m % 1000000000))<|zE (gM yN yE (m % 1000000000))<|zM<|zE (oQu (m / 1000000000))<|zE (gM yN yE (m / 1000000000))<|zE (oBs kC vC xV)<|zE (jX (gA false [(m % 1000000000),(m / 1000000000)] (xW.2 ⟨Nat.mod_lt _ (by decide),xW.2 ⟨by omega,yG⟩⟩) (by simp)))<|zT (qF jS)<|zZ) ?_
    refine jE ⟨_,(kV (cs:=(bx (jJ (vO false (val [(m % 1000000000),(m / 1000000000)]))))) (d:=(jJ (vO false (val [(m % 1000000000),(m / 1000000000)])))) rfl rfl jS rfl rfl .nil),?_⟩
    rw[← hg2,hmv,eC];rfl
theorem r_compare(x:kM)(y:kM)(hx:x.gs.length≤274877906944)(hy:y.gs.length≤274877906944):jR Tryz.prog 53 [(jJ x),(jJ y)] (.val (.int .i64 ((uP (jO x) (jO y))))):=by
 have hv:=gs_sub x y
 refine jH Tryz.func53 rfl cb53 rfl ?_
 show qS _ _ _ _ ⟨[(0,(.d (jJ x))),(1,(.d (jJ y)))],[]⟩
 refine jA<|kx [(2,(.ref 0 0)),(3,(.ref 1 0))] [(0,some (bx (jJ x))),(1,some (bx (jJ y)))] (zN (vL 0)<|zN (vL 1)<|zM<|zZ) ?_
 refine jA<|kx [(4,(vi (qQ (jO (jZ (jO x-jO y))))))] [] (zR (kI jS)<|zR (kI jS)<|zE (jX (r_sub x y (by omega) (by omega)))<|zE (jX (r_sign (jZ (jO x-jO y)) (by omega)))<|zM<|zZ) ?_
 refine jE ⟨_,(.tmp (d:=(.val (.int .i64 ((qQ (jO (jZ (jO x-jO y)))))))) rfl .nil),?_⟩
 rw[nP,signI_sub];rfl
theorem r_divide(x:kM)(y:kM)(hx:x.gs.length≤274877906944)(hy:y.gs.length≤274877906944)(hy0:jO y≠0):jR Tryz.prog 105 [(jJ x),(jJ y)] (.tup [(jJ (jZ ((jO x).fdiv (jO y)))),(jJ (jZ ((jO x).fmod (jO y)))),(.val (.int .i64 (0)))]):=by
 have hvx:=mE x
 have hvy:=mE y
 have hmx:=gs_val x
 have hmy:=gs_val y
 have hy1:0<(jO y).natAbs:=by omega
 have hyl:=mD hy1
 have hql:(ofNat (val (ofNat (Int.natAbs (jO x))) / val (ofNat (Int.natAbs (jO y))))).length≤274877906944:=by have:=len_quo (ofNat (Int.natAbs (jO x))) (kU _) (val (ofNat (Int.natAbs (jO y))));omega
 have hqg:(vO (!((jZ (jO x)).neg == (jZ (jO y)).neg)) (val (ofNat (val (ofNat (Int.natAbs (jO x))) / val (ofNat (Int.natAbs (jO y))))))).gs.length≤274877906944:=by show (ofNat (val (ofNat (val (ofNat (Int.natAbs (jO x))) / val (ofNat (Int.natAbs (jO y))))))).length≤_;rw[jU];exact hql
 have dV:(jZ 1).gs.length≤1:=(eK (z:=1) (by decide)).l
 have hqs:=gs_sub (vO (!((jZ (jO x)).neg == (jZ (jO y)).neg)) (val (ofNat (val (ofNat (Int.natAbs (jO x))) / val (ofNat (Int.natAbs (jO y))))))) (jZ 1)
 refine jH Tryz.func105 rfl cb105 rfl ?_
 show qS _ _ _ _ ⟨[(0,(.d (jJ x))),(1,(.d (jJ y)))],[]⟩
 refine jA<|kx [(2,(.ref 0 0)),(3,(.ref 1 0)),(4,(.ref 2 0)),(5,(.ref 3 0))] [(0,some (bx (jJ x))),(1,some (bx (jJ y))),(2,some (bx (jJ (kM.mk false [])))),(3,some (bx (jJ (kM.mk false []))))] (zN (vL 0)<|zN (vL 1)<|zN (uX 2 yI yL)<|zN (uX 3 yI yL)<|zM<|zZ) ?_
 refine jA<|kd [] [(0,some (bx (jJ (jZ (jO x))))),(1,some (bx (jJ (jZ (jO y)))))] mo (wR (kI jS)<|wE (jX (mI x (by omega)))<|wR (kI jS)<|wE (jX (mI y (by omega)))<|wT (qF jS)<|wT (qF jS)<|wZ) ?_
 refine jA<|jA<|kx [(17,(vb ((((ofNat (Int.natAbs (jO y))).length:Nat):Int) == 0)))] [] (zE (kJ xC)<|zR (kX xX)<|zE (yU kC (L:=(ofNat (Int.natAbs (jO y)))))<|zE oEq<|zZ) ?_
 refine jG rfl (fun h1=>?_) (fun h1=>?_)
 ·replace h1:=eq_of_beq h1
  exact absurd h1 (by omega)
 ·replace h1:=ne_of_beq_false h1
  refine jC<|jA<|kx [(7,(vl 121 1 jB (ofNat (val (ofNat (Int.natAbs (jO x))) / val (ofNat (Int.natAbs (jO y))))))),(8,(vl 121 1 jB (ofNat (val (ofNat (Int.natAbs (jO x))) % val (ofNat (Int.natAbs (jO y)))))))] [] (zE (kJ xC)<|zR (kX xX)<|zE (kJ xC)<|zR (kX xX)<|zE (jX (r_parts (ofNat (Int.natAbs (jO x))) (ofNat (Int.natAbs (jO y))) (by first | assumption | exact kU _ | exact kW _) (by first | assumption | exact kU _ | exact kW _) (by omega) (by omega) (by omega)))<|zM<|zE vQ<|zE vQ<|zM<|zM<|zZ) ?_
  refine jA<|kx [(9,(.ref 4 0))] [(4,some (bx (jJ (vO (!(((jZ (jO x)).neg) == ((jZ (jO y)).neg))) (val (ofNat (val (ofNat (Int.natAbs (jO x))) / val (ofNat (Int.natAbs (jO y))))))))))] (zE (kJ vN)<|zR (kX sh4)<|zE (kJ vN)<|zR (kX sh4)<|zE (oNb bo4)<|zM<|zE (jX (gA (!(((jZ (jO x)).neg) == ((jZ (jO y)).neg))) (ofNat (val (ofNat (Int.natAbs (jO x))) / val (ofNat (Int.natAbs (jO y))))) (jY _) (by omega)))<|zN (uX 4 yI yL)<|zT (qF jS)<|zZ) ?_
  refine jA<|jA<|kx [(44,(vb (!(((jZ (jO x)).neg) == ((jZ (jO y)).neg))&&decide (0<(((ofNat (val (ofNat (Int.natAbs (jO x))) % val (ofNat (Int.natAbs (jO y))))).length:Nat):Int)))))] [] ?_ ?_
  ·refine zE (kJ vN)<|zR (kX sh4)<|zE (kJ vN)<|zR (kX sh4)<|zE (oNb bo4)<|zE (oV (vb (!(((jZ (jO x)).neg) == ((jZ (jO y)).neg)))) (kT (by kernel_rfl)))<|?_
   rcases hb2:(!(((jZ (jO x)).neg) == ((jZ (jO y)).neg))) with _ | _
   ·exact zK<|zK<|zK<|zE cB<|zZ
   ·exact zM<|zE (yU kC (L:=(ofNat (val (ofNat (Int.natAbs (jO x))) % val (ofNat (Int.natAbs (jO y)))))))<|zE gF<|zE oPa<|zZ
  refine jG rfl (fun h3=>?_) (fun h3=>?_)
  ·have hqm:=gs_mul (jZ (jO (vO (!((jZ (jO x)).neg == (jZ (jO y)).neg)) (val (ofNat (val (ofNat (Int.natAbs (jO x))) / val (ofNat (Int.natAbs (jO y)))))))-jO (jZ 1))) (jZ (jO y))
   have hk:=r_div_other (X:=jO x) (Y:=jO y) hy1 (by rw[Bool.and_eq_true,Bool.not_eq_true',beq_eq_false_iff_ne,decide_eq_true_eq] at h3;exact h3)
   refine kd [] [(4,some (bx (jJ (jZ (jO (vO (!(((jZ (jO x)).neg) == ((jZ (jO y)).neg))) (val (ofNat (val (ofNat (Int.natAbs (jO x))) / val (ofNat (Int.natAbs (jO y)))))))-jO (jZ 1))))))] mo (wR (kI jS)<|wE (jX (r_of 1 (by omega) (by omega)))<|wE (jX (r_sub (vO (!(((jZ (jO x)).neg) == ((jZ (jO y)).neg))) (val (ofNat (val (ofNat (Int.natAbs (jO x))) / val (ofNat (Int.natAbs (jO y))))))) (jZ 1) (by omega) (by omega)))<|wT (qF jS)<|wZ) ?_
   refine jA<|kd [(6,(jL 0))] [(2,some (bx (jJ (jZ (jO (vO (!(((jZ (jO x)).neg) == ((jZ (jO y)).neg))) (val (ofNat (val (ofNat (Int.natAbs (jO x))) / val (ofNat (Int.natAbs (jO y)))))))-jO (jZ 1)))))),(3,some (bx (jJ (jZ (jO (jZ (jO x))-jO (jZ (jO (jZ (jO (vO (!(((jZ (jO x)).neg) == ((jZ (jO y)).neg))) (val (ofNat (val (ofNat (Int.natAbs (jO x))) / val (ofNat (Int.natAbs (jO y)))))))-jO (jZ 1)))*jO (jZ (jO y)))))))))] mo (wR (kI jS)<|wR (kI jS)<|wR (kI jS)<|wR (kI jS)<|wE (jX (r_mul (jZ (jO (vO (!(((jZ (jO x)).neg) == ((jZ (jO y)).neg))) (val (ofNat (val (ofNat (Int.natAbs (jO x))) / val (ofNat (Int.natAbs (jO y)))))))-jO (jZ 1))) (jZ (jO y)) (by omega) (by omega)))<|wE (jX (r_sub (jZ (jO x)) (jZ (jO (jZ (jO (vO (!(((jZ (jO x)).neg) == ((jZ (jO y)).neg))) (val (ofNat (val (ofNat (Int.natAbs (jO x))) / val (ofNat (Int.natAbs (jO y)))))))-jO (jZ 1)))*jO (jZ (jO y)))) (by omega) (by omega)))<|wT (qF jS)<|wT (qF jS)<|wM<|wZ) ?_
   refine jE ⟨_,(kV (cs:=(bx (jJ (jZ (jO (vO (!(((jZ (jO x)).neg) == ((jZ (jO y)).neg))) (val (ofNat (val (ofNat (Int.natAbs (jO x))) / val (ofNat (Int.natAbs (jO y)))))))-jO (jZ 1)))))) (d:=(jJ (jZ (jO (vO (!(((jZ (jO x)).neg) == ((jZ (jO y)).neg))) (val (ofNat (val (ofNat (Int.natAbs (jO x))) / val (ofNat (Int.natAbs (jO y)))))))-jO (jZ 1))))) rfl rfl jS rfl rfl (kV (cs:=(bx (jJ (jZ (jO (jZ (jO x))-jO (jZ (jO (jZ (jO (vO (!(((jZ (jO x)).neg) == ((jZ (jO y)).neg))) (val (ofNat (val (ofNat (Int.natAbs (jO x))) / val (ofNat (Int.natAbs (jO y)))))))-jO (jZ 1)))*jO (jZ (jO y))))))))) (d:=(jJ (jZ (jO (jZ (jO x))-jO (jZ (jO (jZ (jO (vO (!(((jZ (jO x)).neg) == ((jZ (jO y)).neg))) (val (ofNat (val (ofNat (Int.natAbs (jO x))) / val (ofNat (Int.natAbs (jO y)))))))-jO (jZ 1)))*jO (jZ (jO y)))))))) rfl rfl jS rfl rfl (.tmp (d:=(.val (.int .i64 (0)))) rfl .nil))),?_⟩
   rw[hk,r_rem_eq];rfl
  ·have hqm:=gs_mul (vO (!((jZ (jO x)).neg == (jZ (jO y)).neg)) (val (ofNat (val (ofNat (Int.natAbs (jO x))) / val (ofNat (Int.natAbs (jO y))))))) (jZ (jO y))
   have hk:=r_div_same (X:=jO x) (Y:=jO y) hy1 (by rw[Bool.and_eq_false_iff,Bool.not_eq_false',beq_iff_eq,decide_eq_false_iff_not] at h3;exact h3)
   refine jC<|jA<|kd [(6,(jL 0))] [(2,some (bx (jJ (vO (!(((jZ (jO x)).neg) == ((jZ (jO y)).neg))) (val (ofNat (val (ofNat (Int.natAbs (jO x))) / val (ofNat (Int.natAbs (jO y)))))))))),(3,some (bx (jJ (jZ (jO (jZ (jO x))-jO (jZ (jO (vO (!(((jZ (jO x)).neg) == ((jZ (jO y)).neg))) (val (ofNat (val (ofNat (Int.natAbs (jO x))) / val (ofNat (Int.natAbs (jO y)))))))*jO (jZ (jO y)))))))))] mo (wR (kI jS)<|wR (kI jS)<|wR (kI jS)<|wR (kI jS)<|wE (jX (r_mul (vO (!(((jZ (jO x)).neg) == ((jZ (jO y)).neg))) (val (ofNat (val (ofNat (Int.natAbs (jO x))) / val (ofNat (Int.natAbs (jO y))))))) (jZ (jO y)) (by omega) (by omega)))<|wE (jX (r_sub (jZ (jO x)) (jZ (jO (vO (!(((jZ (jO x)).neg) == ((jZ (jO y)).neg))) (val (ofNat (val (ofNat (Int.natAbs (jO x))) / val (ofNat (Int.natAbs (jO y)))))))*jO (jZ (jO y)))) (by omega) (by omega)))<|wT (qF jS)<|wT (qF jS)<|wM<|wZ) ?_
   refine jE ⟨_,(kV (cs:=(bx (jJ (vO (!(((jZ (jO x)).neg) == ((jZ (jO y)).neg))) (val (ofNat (val (ofNat (Int.natAbs (jO x))) / val (ofNat (Int.natAbs (jO y)))))))))) (d:=(jJ (vO (!(((jZ (jO x)).neg) == ((jZ (jO y)).neg))) (val (ofNat (val (ofNat (Int.natAbs (jO x))) / val (ofNat (Int.natAbs (jO y))))))))) rfl rfl jS rfl rfl (kV (cs:=(bx (jJ (jZ (jO (jZ (jO x))-jO (jZ (jO (vO (!(((jZ (jO x)).neg) == ((jZ (jO y)).neg))) (val (ofNat (val (ofNat (Int.natAbs (jO x))) / val (ofNat (Int.natAbs (jO y)))))))*jO (jZ (jO y))))))))) (d:=(jJ (jZ (jO (jZ (jO x))-jO (jZ (jO (vO (!(((jZ (jO x)).neg) == ((jZ (jO y)).neg))) (val (ofNat (val (ofNat (Int.natAbs (jO x))) / val (ofNat (Int.natAbs (jO y)))))))*jO (jZ (jO y)))))))) rfl rfl jS rfl rfl (.tmp (d:=(.val (.int .i64 (0)))) rfl .nil))),?_⟩
   rw[hk,r_rem_eq];rfl
end Go.Proofs.YteimogfidbkpnaaGreat
