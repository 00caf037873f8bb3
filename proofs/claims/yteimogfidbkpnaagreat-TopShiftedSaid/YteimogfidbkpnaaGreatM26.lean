/- Part 26 of a proof: rules, plain facts, and functions walked. -/
import Derived.Test.YteimogfidbkpnaaGreatM25
set_option linter.all false
set_option maxRecDepth 4000
namespace Go.Proofs.YteimogfidbkpnaaGreat
open Go.Fid
theorem ar159:dM Tryz.prog 159=some (3,3,1):=by kernel_rfl
theorem ar160:dM Tryz.prog 160=some (3,159,3):=by kernel_rfl
theorem by38:xK Tryz.prog 38=some 64:=by kernel_rfl
theorem by118:xK Tryz.prog 118=some 24:=by kernel_rfl
theorem cb31:callB Tryz.prog 31=true:=by kernel_rfl
theorem cb96:callB Tryz.prog 96=true:=by kernel_rfl
theorem cE:uW Tryz.prog 138=some (118,1):=by kernel_rfl
theorem sh159:kZ Tryz.prog 159=some (true,3):=by kernel_rfl
theorem sh160:kZ Tryz.prog 160=some (true,9):=by kernel_rfl
theorem ze118:uL Tryz.prog 118=some [.slice none 0 0]:=by kernel_rfl
theorem ze159:uL Tryz.prog 159=some [.int .i64 0,.int .i64 0,.int .i64 0]:=by kernel_rfl
theorem ze160:uL Tryz.prog 160=some [.int .i64 0,.int .i64 0,.int .i64 0,.int .i64 0,.int .i64 0,.int .i64 0,.int .i64 0,.int .i64 0,.int .i64 0]:=by kernel_rfl
theorem zo118:gD [.slice none 0 0] [.sl 38 4 []]:=by simp [gD,Value.oneCell']
theorem zo159:gD [.int .i64 0,.int .i64 0,.int .i64 0] [.val (.int .i64 0),.val (.int .i64 0),.val (.int .i64 0)]:=by simp [gD,Value.oneCell']
theorem zo160:gD [.int .i64 0,.int .i64 0,.int .i64 0,.int .i64 0,.int .i64 0,.int .i64 0,.int .i64 0,.int .i64 0,.int .i64 0] [.val (.int .i64 0),.val (.int .i64 0),.val (.int .i64 0),.val (.int .i64 0),.val (.int .i64 0),.val (.int .i64 0),.val (.int .i64 0),.val (.int .i64 0),.val (.int .i64 0)]:=by simp [gD,Value.oneCell']
theorem q_of(n:Int)(hnl:-9223372036854775808≤n)(hnh:n≤9223372036854775807)(d:Int)(hdl:-9223372036854775808≤d)(hdh:d≤9223372036854775807)(hd:d≠0):jR Tryz.prog 31 [(.val (.int .i64 (n))),(.val (.int .i64 (d)))] (.tup [(jI (jF (Rat.divInt n d))),(.val (.int .i64 (0)))]):=by
 refine jH Tryz.func31 rfl cb31 rfl ?_
 show qS _ _ _ _ ⟨[(0,(vi n)),(1,(vi d))],[]⟩
 refine jA<|kx [(4,(.ref 0 0))] [(0,some (bx (jI nT)))] (zN (uX 0 qW uI)<|zM<|zZ) ?_
 refine jA<|kx [(5,(vi 0))] [(0,some (bx (jI (jF (Rat.divInt n d)))))] (zM<|zE (jX (t_of n (by omega) (by omega)))<|zM<|zE (jX (t_of d (by omega) (by omega)))<|zE (jX (f_newO (jZ n) n (nD (iok_int (z:=n) (by omega) (by omega)) (by decide)) (jZ d) d (nD (iok_int (z:=d) (by omega) (by omega)) (by decide)) hd))<|zE vQ<|zE vQ<|zT (qF jP)<|zM<|zZ) ?_
 refine jE ⟨_,(kV (cs:=(bx (jI (jF (Rat.divInt n d))))) (d:=(jI (jF (Rat.divInt n d)))) rfl rfl jP rfl rfl (.tmp (d:=(.val (.int .i64 (0)))) rfl .nil)),?_⟩
 rfl
theorem qs_of(n:Int)(hnl:-9223372036854775808≤n)(hnh:n≤9223372036854775807)(d:Int)(hdl:-9223372036854775808≤d)(hdh:d≤9223372036854775807)(hd:d≠0):jR Tryz.prog 13 [(.val (.int .i64 (n))),(.val (.int .i64 (d)))] (.tup [(jI (jF (Rat.divInt n d))),(.val (.int .i64 (0)))]):=by
 refine jH Tryz.func13 rfl cb13 rfl ?_
 show qS _ _ _ _ ⟨[(0,(vi n)),(1,(vi d))],[]⟩
 refine jA<|kx [(4,(.ref 0 0))] [(0,some (bx (jI nT)))] (zN (uX 0 qW uI)<|zM<|zZ) ?_
 refine jA<|kx [(5,(vi 0))] [(0,some (bx (jI (jF (Rat.divInt n d)))))] (zM<|zE (jX (g_whole1 n (by omega) (by omega)))<|zM<|zE (jX (g_whole1 d (by omega) (by omega)))<|zE (jX (g_newO (jZ n) n (nD (iok_int (z:=n) (by omega) (by omega)) (by decide)) (jZ d) d (nD (iok_int (z:=d) (by omega) (by omega)) (by decide)) hd))<|zE vQ<|zE vQ<|zT (qF jP)<|zM<|zZ) ?_
 refine jE ⟨_,(kV (cs:=(bx (jI (jF (Rat.divInt n d))))) (d:=(jI (jF (Rat.divInt n d)))) rfl rfl jP rfl rfl (.tmp (d:=(.val (.int .i64 (0)))) rfl .nil)),?_⟩
 rfl
theorem q_rmat(a b c d:Int)(ha:-1048576≤a∧a≤1048576)(hb:-1048576≤b∧b≤1048576)(hc:-1048576≤c∧c≤1048576)(hd:-1048576≤d∧d≤1048576)(hq:mN a b c d=0)(hn0:nq a b c d≠0):jR Tryz.prog 96 [(vY (kK.mk a b c d))] (.tup [(.sl 118 1 (List.map uQ [[(jF (Q00 a b c d)),(jF (Q01 a b c d)),(jF (Q02 a b c d))],[(jF (Q10 a b c d)),(jF (Q11 a b c d)),(jF (Q12 a b c d))],[(jF (Q20 a b c d)),(jF (Q21 a b c d)),(jF (Q22 a b c d))]])),(.val (.int .i64 (0)))]):=by
 have saa:=xA ha ha
 have sab:=xA ha hb
 have sac:=xA ha hc
 have sad:=xA ha hd
 have sbb:=xA hb hb
 have sbc:=xA hb hc
 have sbd:=xA hb hd
 have scc:=xA hc hc
 have scd:=xA hc hd
 have sdd:=xA hd hd
 have hnq:=nq_b ha hb hc hd
 let y13:=(jF (Rat.divInt (2*((c*d)+(a*b))) (nq a b c d)))
 let y12:=(jF (Rat.divInt (2*((b*d)-(a*c))) (nq a b c d)))
 let y11:=(jF (Rat.divInt (2*((c*d)-(a*b))) (nq a b c d)))
 let y10:=(jF (Rat.divInt (2*((b*c)+(a*d))) (nq a b c d)))
 let y9:=(jF (Rat.divInt (2*((b*d)+(a*c))) (nq a b c d)))
 let y8:=(jF (Rat.divInt (2*((b*c)-(a*d))) (nq a b c d)))
 let y7:=(jF (Rat.divInt ((((a*a)-(b*b))-(c*c))+(d*d)) (nq a b c d)))
 let y6:=(jF (Rat.divInt ((((a*a)-(b*b))+(c*c))-(d*d)) (nq a b c d)))
 let y5:=(jF (Rat.divInt ((((a*a)+(b*b))-(c*c))-(d*d)) (nq a b c d)))
 let y4:=(encA159 (A3.mk (((2:Nat):Int)*((b*d)-(a*c))) (((2:Nat):Int)*((c*d)+(a*b))) ((((a*a)-(b*b))-(c*c))+(d*d))))
 let y3:=(encA159 (A3.mk (((2:Nat):Int)*((b*c)+(a*d))) ((((a*a)-(b*b))+(c*c))-(d*d)) (((2:Nat):Int)*((c*d)-(a*b)))))
 let y2:=(encA159 (A3.mk ((((a*a)+(b*b))-(c*c))-(d*d)) (((2:Nat):Int)*((b*c)-(a*d))) (((2:Nat):Int)*((b*d)+(a*c)))))
 let y1:=(encA160 (A3.mk (A3.mk ((((a*a)+(b*b))-(c*c))-(d*d)) (((2:Nat):Int)*((b*c)-(a*d))) (((2:Nat):Int)*((b*d)+(a*c)))) (A3.mk (((2:Nat):Int)*((b*c)+(a*d))) ((((a*a)-(b*b))+(c*c))-(d*d)) (((2:Nat):Int)*((c*d)-(a*b)))) (A3.mk (((2:Nat):Int)*((b*d)-(a*c))) (((2:Nat):Int)*((c*d)+(a*b))) ((((a*a)-(b*b))-(c*c))+(d*d)))))
 refine jH Tryz.func96 rfl cb96 rfl ?_
 show qS _ _ _ _ ⟨[(0,(.d (vY (kK.mk a b c d))))],[]⟩
 refine jA<|kx [(1,(.ref 0 0))] [(0,some (bx (vY (kK.mk a b c d))))] (zN (vL 0)<|zE (oNl 118 1)<|zM<|zZ) ?_
 refine jA<|jA<|kx [(4,(jL (mN a b c d)))] [] (zR (kI fG)<|zE (jX (q_chk a b c d))<|zM<|zZ) ?_
 refine jA<|kx [(21,(vb false))] [] (zM<|zE (vG false oNe (by exact bne_eq_false_iff_eq.2 (by rw[show (mN a b c d)=0 from hq]<;>rfl)))<|zZ) ?_
 refine kY ?_
 refine jC<|jA<|kd [(5,(vi a)),(6,(vi b)),(7,(vi c)),(8,(vi d))] [] mo (wE (kJ fo51_0)<|wR (kX qC)<|wE (kJ fo51_1)<|wR (kX qC)<|wE (kJ fo51_2)<|wR (kX qC)<|wE (kJ fo51_3)<|wR (kX qC)<|wM<|wM<|wM<|wM<|wZ) ?_
 refine jA<|kx [(9,(.ref 1 0))] [(1,some (bx y1))] (zM<|zM<|zE (nU (a*a) (hr:=by exact (qV rfl (by simp only[xZ];omega) (by simp only[zD];omega))))<|zM<|zM<|zE (nU (b*b) (hr:=by exact (qV rfl (by simp only[xZ];omega) (by simp only[zD];omega))))<|zE (zAd ((a*a)+(b*b)) (hr:=by exact (qV rfl (by simp only[xZ];omega) (by simp only[zD];omega))))<|zM<|zM<|zE (nU (c*c) (hr:=by exact (qV rfl (by simp only[xZ];omega) (by simp only[zD];omega))))<|zE (cN (((a*a)+(b*b))-(c*c)) (hr:=by exact (qV rfl (by simp only[xZ];omega) (by simp only[zD];omega))))<|zM<|zM<|zE (nU (d*d) (hr:=by exact (qV rfl (by simp only[xZ];omega) (by simp only[zD];omega))))<|zE (cN ((((a*a)+(b*b))-(c*c))-(d*d)) (hr:=by exact (qV rfl (by simp only[xZ];omega) (by simp only[zD];omega))))<|zM<|zM<|zE (nU (b*c) (hr:=by exact (qV rfl (by simp only[xZ];omega) (by simp only[zD];omega))))<|zM<|zM<|zE (nU (a*d) (hr:=by exact (qV rfl (by simp only[xZ];omega) (by simp only[zD];omega))))<|zE (cN ((b*c)-(a*d)) (hr:=by exact (qV rfl (by simp only[xZ];omega) (by simp only[zD];omega))))<|zE (nU (((2:Nat):Int)*((b*c)-(a*d))) (hr:=by exact (qV rfl (by simp only[xZ];omega) (by simp only[zD];omega))))<|zM<|zM<|zE (nU (b*d) (hr:=by exact (qV rfl (by simp only[xZ];omega) (by simp only[zD];omega))))<|zM<|zM<|zE (nU (a*c) (hr:=by exact (qV rfl (by simp only[xZ];omega) (by simp only[zD];omega))))<|zE (zAd ((b*d)+(a*c)) (hr:=by exact (qV rfl (by simp only[xZ];omega) (by simp only[zD];omega))))<|zE (nU (((2:Nat):Int)*((b*d)+(a*c))) (hr:=by exact (qV rfl (by simp only[xZ];omega) (by simp only[zD];omega))))<|zE (oBf ar159 ze159 zo159)<|zM<|zM<|zE (nU (b*c) (hr:=by exact (qV rfl (by simp only[xZ];omega) (by simp only[zD];omega))))<|zM<|zM<|zE (nU (a*d) (hr:=by exact (qV rfl (by simp only[xZ];omega) (by simp only[zD];omega))))<|zE (zAd ((b*c)+(a*d)) (hr:=by exact (qV rfl (by simp only[xZ];omega) (by simp only[zD];omega))))<|zE (nU (((2:Nat):Int)*((b*c)+(a*d))) (hr:=by exact (qV rfl (by simp only[xZ];omega) (by simp only[zD];omega))))<|zM<|zM<|zE (nU (a*a) (hr:=by exact (qV rfl (by simp only[xZ];omega) (by simp only[zD];omega))))<|zM<|zM<|zE (nU (b*b) (hr:=by exact (qV rfl (by simp only[xZ];omega) (by simp only[zD];omega))))<|zE (cN ((a*a)-(b*b)) (hr:=by exact (qV rfl (by simp only[xZ];omega) (by simp only[zD];omega))))<|zM<|zM<|zE (nU (c*c) (hr:=by exact (qV rfl (by simp only[xZ];omega) (by simp only[zD];omega))))<|zE (zAd (((a*a)-(b*b))+(c*c)) (hr:=by exact (qV rfl (by simp only[xZ];omega) (by simp only[zD];omega))))<|zM<|zM<|zE (nU (d*d) (hr:=by exact (qV rfl (by simp only[xZ];omega) (by simp only[zD];omega))))<|zE (cN ((((a*a)-(b*b))+(c*c))-(d*d)) (hr:=by exact (qV rfl (by simp only[xZ];omega) (by simp only[zD];omega))))<|zM<|zM<|zE (nU (c*d) (hr:=by exact (qV rfl (by simp only[xZ];omega) (by simp only[zD];omega))))<|zM<|zM<|zE (nU (a*b) (hr:=by exact (qV rfl (by simp only[xZ];omega) (by simp only[zD];omega))))<|zE (cN ((c*d)-(a*b)) (hr:=by exact (qV rfl (by simp only[xZ];omega) (by simp only[zD];omega))))<|zE (nU (((2:Nat):Int)*((c*d)-(a*b))) (hr:=by exact (qV rfl (by simp only[xZ];omega) (by simp only[zD];omega))))<|zE (oBf ar159 ze159 zo159)<|zM<|zM<|zE (nU (b*d) (hr:=by exact (qV rfl (by simp only[xZ];omega) (by simp only[zD];omega))))<|zM<|zM<|zE (nU (a*c) (hr:=by exact (qV rfl (by simp only[xZ];omega) (by simp only[zD];omega))))<|zE (cN ((b*d)-(a*c)) (hr:=by exact (qV rfl (by simp only[xZ];omega) (by simp only[zD];omega))))<|zE (nU (((2:Nat):Int)*((b*d)-(a*c))) (hr:=by exact (qV rfl (by simp only[xZ];omega) (by simp only[zD];omega))))<|zM<|zM<|zE (nU (c*d) (hr:=by exact (qV rfl (by simp only[xZ];omega) (by simp only[zD];omega))))<|zM<|zM<|zE (nU (a*b) (hr:=by exact (qV rfl (by simp only[xZ];omega) (by simp only[zD];omega))))<|zE (zAd ((c*d)+(a*b)) (hr:=by exact (qV rfl (by simp only[xZ];omega) (by simp only[zD];omega))))<|zE (nU (((2:Nat):Int)*((c*d)+(a*b))) (hr:=by exact (qV rfl (by simp only[xZ];omega) (by simp only[zD];omega))))<|zM<|zM<|zE (nU (a*a) (hr:=by exact (qV rfl (by simp only[xZ];omega) (by simp only[zD];omega))))<|zM<|zM<|zE (nU (b*b) (hr:=by exact (qV rfl (by simp only[xZ];omega) (by simp only[zD];omega))))<|zE (cN ((a*a)-(b*b)) (hr:=by exact (qV rfl (by simp only[xZ];omega) (by simp only[zD];omega))))<|zM<|zM<|zE (nU (c*c) (hr:=by exact (qV rfl (by simp only[xZ];omega) (by simp only[zD];omega))))<|zE (cN (((a*a)-(b*b))-(c*c)) (hr:=by exact (qV rfl (by simp only[xZ];omega) (by simp only[zD];omega))))<|zM<|zM<|zE (nU (d*d) (hr:=by exact (qV rfl (by simp only[xZ];omega) (by simp only[zD];omega))))<|zE (zAd ((((a*a)-(b*b))-(c*c))+(d*d)) (hr:=by exact (qV rfl (by simp only[xZ];omega) (by simp only[zD];omega))))<|zE (oBf ar159 ze159 zo159)<|zE (oBf ar160 ze160 zo160)<|zN (uX 1 ze160 zo160)<|zT (qF sh160)<|zZ) ?_
 refine jA<|kx [(10,(.own 2 118 1 0))] [(2,some (bm uQ []))] (zO 2 118 1<|zZ) ?_
 refine jA<|jA<|kx [(128,(.d y1)),(129,(jL 0))] [] (zR (kI sh160)<|zM<|zZ) ?_
 refine jD<|uD 20 ?_
 refine uU<|jA<|kx [(130,(vb true))] [] (zE (vG true uE)<|zZ) ?_
 refine jA<|qB ?_
 refine jC<|jA<|jD<|jA<|kx [(12,(.ref 3 0))] [(3,some (bx y2))] (zE (oXa ar160 sh159 (fun h=>by cases h) 0)<|zH (uX 3 ze159 zo159)<|zT (qF sh159)<|zZ) ?_
 refine jA<|kx [(13,(.own 4 38 4 0))] [(4,some (mV jI []))] (zO 4 38 4<|zZ) ?_
 refine jA<|jA<|kx [(132,(.d y2)),(133,(jL 0))] [] (zR (kI sh159)<|zM<|zZ) ?_
 refine jD<|uD 20 ?_
 refine uU<|jA<|kx [(134,(vb true))] [] (zE (vG true uE)<|zZ) ?_
 refine jA<|qB ?_
 refine jC<|jA<|jD<|jA<|kx [(15,(vi ((((a*a)+(b*b))-(c*c))-(d*d))))] [] (zE (oXa ar159 qC (fun _=>rfl) 0)<|zM<|zZ) ?_
 refine jA ?_
 have bn1:QL (Rat.divInt ((((a*a)+(b*b))-(c*c))-(d*d)) (nq a b c d)) 3:=(qN (n:=3) (jM (by omega) (by omega)) (jM (by omega) (by omega)) (by decide))
 refine kx [(16,(.ref 5 0))] [(5,some (bx (jI y5)))] (zM<|zR (kI fG)<|zE (jX (mU a b c d (by omega) (by omega) (by omega) (by omega)))<|zE (jX (q_of ((((a*a)+(b*b))-(c*c))-(d*d)) (by omega) (by omega) (nq a b c d) (by omega) (by omega) hn0))<|zM<|zE vQ<|zE vQ<|zH (uX 5 qW uI)<|zT (qF jP)<|zM<|zZ) ?_
 refine kE (wk (l:=[(1,(.ref 0 0)),(10,(.own 2 118 1 0)),(13,(.own 4 38 4 0)),(16,(.ref 5 0)),(128,(.d y1)),(129,(jL 0)),(132,(.d y2)),(133,(jL 0))]) (b:=[(0,some (bx (vY (kK.mk a b c d)))),(2,some (bm uQ [])),(4,some (mV jI [])),(5,some (bx (jI y5)))])) ?_
 refine kf [(13,(.own 4 38 4 (([]++[y5]).length)))] [(4,some (mV jI ([]++[y5])))] (zM<|zR (kI jP)<|zE (oBs xF qW uI)<|zAS jI [] [y5] rfl xF qW by38 (hbig:=by exact (by simp +zetaDelta [maxLen]<;>omega)) (hbig':=by exact (by simp +zetaDelta<;>omega))<|zM<|zF) ?_
 refine kx [(133,(jL 1))] [] (zE (qP 1 (hr:=by decide))<|zM<|zZ) ?_
 refine kA (kB.refl _) ?_
 refine jA<|kx [(134,(vb true))] [] (zE (vG true uE)<|zZ) ?_
 refine jA<|qB ?_
 refine jC<|jA<|jD<|jA<|kx [(15,(vi (((2:Nat):Int)*((b*c)-(a*d)))))] [] (zE (oXa ar159 qC (fun _=>rfl) 1)<|zM<|zZ) ?_
 refine jA ?_
 have bn2:QL (Rat.divInt (2*((b*c)-(a*d))) (nq a b c d)) 3:=(qN (n:=3) (jM (by omega) (by omega)) (jM (by omega) (by omega)) (by decide))
 refine kx [(16,(.ref 6 0))] [(6,some (bx (jI y8)))] (zM<|zR (kI fG)<|zE (jX (mU a b c d (by omega) (by omega) (by omega) (by omega)))<|zE (jX (q_of (((2:Nat):Int)*((b*c)-(a*d))) (by omega) (by omega) (nq a b c d) (by omega) (by omega) hn0))<|zM<|zE vQ<|zE vQ<|zH (uX 6 qW uI)<|zT (qF jP)<|zM<|zZ) ?_
 refine kf [(13,(.own 4 38 4 ((([]++[y5])++[y8]).length)))] [(4,some (mV jI (([]++[y5])++[y8])))] (zM<|zR (kI jP)<|zE (oBs xF qW uI)<|zAS jI ([]++[y5]) [y8] rfl xF qW by38 (hbig:=by exact (by simp +zetaDelta [maxLen]<;>omega)) (hbig':=by exact (by simp +zetaDelta<;>omega))<|zM<|zF) ?_
 refine kx [(133,(jL 2))] [] (zE (qP 2 (hr:=by decide))<|zM<|zZ) ?_
 refine kA (kB.refl _) ?_
 refine jA<|kx [(134,(vb true))] [] (zE (vG true uE)<|zZ) ?_
 refine jA<|qB ?_
 refine jC<|jA<|jD<|jA<|kx [(15,(vi (((2:Nat):Int)*((b*d)+(a*c)))))] [] (zE (oXa ar159 qC (fun _=>rfl) 2)<|zM<|zZ) ?_
 refine jA ?_
 have bn3:QL (Rat.divInt (2*((b*d)+(a*c))) (nq a b c d)) 3:=(qN (n:=3) (jM (by omega) (by omega)) (jM (by omega) (by omega)) (by decide))
 refine kx [(16,(.ref 7 0))] [(7,some (bx (jI y9)))] (zM<|zR (kI fG)<|zE (jX (mU a b c d (by omega) (by omega) (by omega) (by omega)))<|zE (jX (q_of (((2:Nat):Int)*((b*d)+(a*c))) (by omega) (by omega) (nq a b c d) (by omega) (by omega) hn0))<|zM<|zE vQ<|zE vQ<|zH (uX 7 qW uI)<|zT (qF jP)<|zM<|zZ) ?_
 refine kf [(13,(.own 4 38 4 (((([]++[y5])++[y8])++[y9]).length)))] [(4,some (mV jI ((([]++[y5])++[y8])++[y9])))] (zM<|zR (kI jP)<|zE (oBs xF qW uI)<|zAS jI (([]++[y5])++[y8]) [y9] rfl xF qW by38 (hbig:=by exact (by simp +zetaDelta [maxLen]<;>omega)) (hbig':=by exact (by simp +zetaDelta<;>omega))<|zM<|zF) ?_
 refine kx [(133,(jL 3))] [] (zE (qP 3 (hr:=by decide))<|zM<|zZ) ?_
 refine kA (kB.refl _) ?_
 refine jA<|kx [(134,(vb false))] [] (zE (vG false uE)<|zZ) ?_
 refine jA<|kY ?_
 refine jV<|kE (vP (t:=13) (k:=4) (es:=List.map jI ((([]++[y5])++[y8])++[y9])) rfl rfl (nC _ _ (fun _=>rfl)) (uR _ _ rfl) (dX jI ((([]++[y5])++[y8])++[y9]) (fun _=>rfl) rfl)) ?_
 refine kf [(10,(.own 2 118 1 (([]++[((([]++[y5])++[y8])++[y9])]).length)))] [(2,some (bm uQ ([]++[((([]++[y5])++[y8])++[y9])])))] (zM<|zM<|zE (oBs cE ze118 zo118)<|zA uQ [] [((([]++[y5])++[y8])++[y9])] rfl cE ze118 by118 (hbig:=by exact (by simp +zetaDelta [maxLen]<;>omega)) (hbig':=by exact (by simp +zetaDelta<;>omega))<|zM<|zF) ?_
 refine kE (wk (l:=[(1,(.ref 0 0)),(10,(.own 2 118 1 (([]++[((([]++[y5])++[y8])++[y9])]).length))),(128,(.d y1)),(129,(jL 0))]) (b:=[(0,some (bx (vY (kK.mk a b c d)))),(2,some (bm uQ ([]++[((([]++[y5])++[y8])++[y9])])))])) ?_
 refine kx [(129,(jL 1))] [] (zE (qP 1 (hr:=by decide))<|zM<|zZ) ?_
 refine kA (kB.refl _) ?_
 refine jA<|kx [(130,(vb true))] [] (zE (vG true uE)<|zZ) ?_
 refine jA<|qB ?_
 refine jC<|jA<|jD<|jA<|kx [(12,(.ref 8 0))] [(8,some (bx y3))] (zE (oXa ar160 sh159 (fun h=>by cases h) 1)<|zH (uX 8 ze159 zo159)<|zT (qF sh159)<|zZ) ?_
 refine jA<|kx [(13,(.own 9 38 4 0))] [(9,some (mV jI []))] (zO 9 38 4<|zZ) ?_
 refine jA<|jA<|kx [(132,(.d y3)),(133,(jL 0))] [] (zR (kI sh159)<|zM<|zZ) ?_
 refine jD<|uD 20 ?_
 refine uU<|jA<|kx [(134,(vb true))] [] (zE (vG true uE)<|zZ) ?_
 refine jA<|qB ?_
 refine jC<|jA<|jD<|jA<|kx [(15,(vi (((2:Nat):Int)*((b*c)+(a*d)))))] [] (zE (oXa ar159 qC (fun _=>rfl) 0)<|zM<|zZ) ?_
 refine jA ?_
 have bn4:QL (Rat.divInt (2*((b*c)+(a*d))) (nq a b c d)) 3:=(qN (n:=3) (jM (by omega) (by omega)) (jM (by omega) (by omega)) (by decide))
 refine kx [(16,(.ref 10 0))] [(10,some (bx (jI y10)))] (zM<|zR (kI fG)<|zE (jX (mU a b c d (by omega) (by omega) (by omega) (by omega)))<|zE (jX (q_of (((2:Nat):Int)*((b*c)+(a*d))) (by omega) (by omega) (nq a b c d) (by omega) (by omega) hn0))<|zM<|zE vQ<|zE vQ<|zH (uX 10 qW uI)<|zT (qF jP)<|zM<|zZ) ?_
 refine kf [(13,(.own 9 38 4 (([]++[y10]).length)))] [(9,some (mV jI ([]++[y10])))] (zM<|zR (kI jP)<|zE (oBs xF qW uI)<|zAS jI [] [y10] rfl xF qW by38 (hbig:=by exact (by simp +zetaDelta [maxLen]<;>omega)) (hbig':=by exact (by simp +zetaDelta<;>omega))<|zM<|zF) ?_
 refine kx [(133,(jL 1))] [] (zE (qP 1 (hr:=by decide))<|zM<|zZ) ?_
 refine kA (kB.refl _) ?_
 refine jA<|kx [(134,(vb true))] [] (zE (vG true uE)<|zZ) ?_
 refine jA<|qB ?_
 refine jC<|jA<|jD<|jA<|kx [(15,(vi ((((a*a)-(b*b))+(c*c))-(d*d))))] [] (zE (oXa ar159 qC (fun _=>rfl) 1)<|zM<|zZ) ?_
 refine jA ?_
 have bn5:QL (Rat.divInt ((((a*a)-(b*b))+(c*c))-(d*d)) (nq a b c d)) 3:=(qN (n:=3) (jM (by omega) (by omega)) (jM (by omega) (by omega)) (by decide))
 refine kx [(16,(.ref 11 0))] [(11,some (bx (jI y6)))] (zM<|zR (kI fG)<|zE (jX (mU a b c d (by omega) (by omega) (by omega) (by omega)))<|zE (jX (q_of ((((a*a)-(b*b))+(c*c))-(d*d)) (by omega) (by omega) (nq a b c d) (by omega) (by omega) hn0))<|zM<|zE vQ<|zE vQ<|zH (uX 11 qW uI)<|zT (qF jP)<|zM<|zZ) ?_
 refine kf [(13,(.own 9 38 4 ((([]++[y10])++[y6]).length)))] [(9,some (mV jI (([]++[y10])++[y6])))] (zM<|zR (kI jP)<|zE (oBs xF qW uI)<|zAS jI ([]++[y10]) [y6] rfl xF qW by38 (hbig:=by exact (by simp +zetaDelta [maxLen]<;>omega)) (hbig':=by exact (by simp +zetaDelta<;>omega))<|zM<|zF) ?_
 refine kE (wk (l:=[(1,(.ref 0 0)),(10,(.own 2 118 1 (([]++[((([]++[y5])++[y8])++[y9])]).length))),(13,(.own 9 38 4 ((([]++[y10])++[y6]).length))),(128,(.d y1)),(129,(jL 1)),(132,(.d y3)),(133,(jL 1))]) (b:=[(0,some (bx (vY (kK.mk a b c d)))),(2,some (bm uQ ([]++[((([]++[y5])++[y8])++[y9])]))),(9,some (mV jI (([]++[y10])++[y6])))])) ?_
 refine kx [(133,(jL 2))] [] (zE (qP 2 (hr:=by decide))<|zM<|zZ) ?_
 refine kA (kB.refl _) ?_
 refine jA<|kx [(134,(vb true))] [] (zE (vG true uE)<|zZ) ?_
 refine jA<|qB ?_
 refine jC<|jA<|jD<|jA<|kx [(15,(vi (((2:Nat):Int)*((c*d)-(a*b)))))] [] (zE (oXa ar159 qC (fun _=>rfl) 2)<|zM<|zZ) ?_
 refine jA ?_
 have bn6:QL (Rat.divInt (2*((c*d)-(a*b))) (nq a b c d)) 3:=(qN (n:=3) (jM (by omega) (by omega)) (jM (by omega) (by omega)) (by decide))
 refine kx [(16,(.ref 12 0))] [(12,some (bx (jI y11)))] (zM<|zR (kI fG)<|zE (jX (mU a b c d (by omega) (by omega) (by omega) (by omega)))<|zE (jX (q_of (((2:Nat):Int)*((c*d)-(a*b))) (by omega) (by omega) (nq a b c d) (by omega) (by omega) hn0))<|zM<|zE vQ<|zE vQ<|zH (uX 12 qW uI)<|zT (qF jP)<|zM<|zZ) ?_
 refine kf [(13,(.own 9 38 4 (((([]++[y10])++[y6])++[y11]).length)))] [(9,some (mV jI ((([]++[y10])++[y6])++[y11])))] (zM<|zR (kI jP)<|zE (oBs xF qW uI)<|zAS jI (([]++[y10])++[y6]) [y11] rfl xF qW by38 (hbig:=by exact (by simp +zetaDelta [maxLen]<;>omega)) (hbig':=by exact (by simp +zetaDelta<;>omega))<|zM<|zF) ?_
 refine kx [(133,(jL 3))] [] (zE (qP 3 (hr:=by decide))<|zM<|zZ) ?_
 refine kA (kB.refl _) ?_
 refine jA<|kx [(134,(vb false))] [] (zE (vG false uE)<|zZ) ?_
 refine jA<|kY ?_
 refine jV<|kE (vP (t:=13) (k:=9) (es:=List.map jI ((([]++[y10])++[y6])++[y11])) rfl rfl (nC _ _ (fun _=>rfl)) (uR _ _ rfl) (dX jI ((([]++[y10])++[y6])++[y11]) (fun _=>rfl) rfl)) ?_
 refine kf [(10,(.own 2 118 1 ((([]++[((([]++[y5])++[y8])++[y9])])++[((([]++[y10])++[y6])++[y11])]).length)))] [(2,some (bm uQ (([]++[((([]++[y5])++[y8])++[y9])])++[((([]++[y10])++[y6])++[y11])])))] (zM<|zM<|zE (oBs cE ze118 zo118)<|zA uQ ([]++[((([]++[y5])++[y8])++[y9])]) [((([]++[y10])++[y6])++[y11])] rfl cE ze118 by118 (hbig:=by exact (by simp +zetaDelta [maxLen]<;>omega)) (hbig':=by exact (by simp +zetaDelta<;>omega))<|zM<|zF) ?_
 refine kx [(129,(jL 2))] [] (zE (qP 2 (hr:=by decide))<|zM<|zZ) ?_
 refine kA (kB.refl _) ?_
 refine jA<|kx [(130,(vb true))] [] (zE (vG true uE)<|zZ) ?_
 refine jA<|qB ?_
 refine jC<|jA<|jD<|jA<|kx [(12,(.ref 13 0))] [(13,some (bx y4))] (zE (oXa ar160 sh159 (fun h=>by cases h) 2)<|zH (uX 13 ze159 zo159)<|zT (qF sh159)<|zZ) ?_
 refine jA<|kx [(13,(.own 14 38 4 0))] [(14,some (mV jI []))] (zO 14 38 4<|zZ) ?_
 refine jA<|jA<|kx [(132,(.d y4)),(133,(jL 0))] [] (zR (kI sh159)<|zM<|zZ) ?_
 refine jD<|uD 20 ?_
 refine uU<|jA<|kx [(134,(vb true))] [] (zE (vG true uE)<|zZ) ?_
 refine jA<|qB ?_
 refine jC<|jA<|jD<|jA<|kE (wk (l:=[(1,(.ref 0 0)),(10,(.own 2 118 1 ((([]++[((([]++[y5])++[y8])++[y9])])++[((([]++[y10])++[y6])++[y11])]).length))),(13,(.own 14 38 4 0)),(128,(.d y1)),(129,(jL 2)),(132,(.d y4)),(133,(jL 0)),(134,(vb true))]) (b:=[(0,some (bx (vY (kK.mk a b c d)))),(14,some (mV jI [])),(2,some (bm uQ (([]++[((([]++[y5])++[y8])++[y9])])++[((([]++[y10])++[y6])++[y11])])))])) ?_
 refine kx [(15,(vi (((2:Nat):Int)*((b*d)-(a*c)))))] [] (zE (oXa ar159 qC (fun _=>rfl) 0)<|zM<|zZ) ?_
 refine jA ?_
 have bn7:QL (Rat.divInt (2*((b*d)-(a*c))) (nq a b c d)) 3:=(qN (n:=3) (jM (by omega) (by omega)) (jM (by omega) (by omega)) (by decide))
 refine kx [(16,(.ref 15 0))] [(15,some (bx (jI y12)))] (zM<|zR (kI fG)<|zE (jX (mU a b c d (by omega) (by omega) (by omega) (by omega)))<|zE (jX (q_of (((2:Nat):Int)*((b*d)-(a*c))) (by omega) (by omega) (nq a b c d) (by omega) (by omega) hn0))<|zM<|zE vQ<|zE vQ<|zH (uX 15 qW uI)<|zT (qF jP)<|zM<|zZ) ?_
 refine kf [(13,(.own 14 38 4 (([]++[y12]).length)))] [(14,some (mV jI ([]++[y12])))] (zM<|zR (kI jP)<|zE (oBs xF qW uI)<|zAS jI [] [y12] rfl xF qW by38 (hbig:=by exact (by simp +zetaDelta [maxLen]<;>omega)) (hbig':=by exact (by simp +zetaDelta<;>omega))<|zM<|zF) ?_
 refine kx [(133,(jL 1))] [] (zE (qP 1 (hr:=by decide))<|zM<|zZ) ?_
 refine kA (kB.refl _) ?_
 refine jA<|kx [(134,(vb true))] [] (zE (vG true uE)<|zZ) ?_
 refine jA<|qB ?_
 refine jC<|jA<|jD<|jA<|kx [(15,(vi (((2:Nat):Int)*((c*d)+(a*b)))))] [] (zE (oXa ar159 qC (fun _=>rfl) 1)<|zM<|zZ) ?_
 refine jA ?_
 have bn8:QL (Rat.divInt (2*((c*d)+(a*b))) (nq a b c d)) 3:=(qN (n:=3) (jM (by omega) (by omega)) (jM (by omega) (by omega)) (by decide))
 refine kx [(16,(.ref 16 0))] [(16,some (bx (jI y13)))] (zM<|zR (kI fG)<|zE (jX (mU a b c d (by omega) (by omega) (by omega) (by omega)))<|zE (jX (q_of (((2:Nat):Int)*((c*d)+(a*b))) (by omega) (by omega) (nq a b c d) (by omega) (by omega) hn0))<|zM<|zE vQ<|zE vQ<|zH (uX 16 qW uI)<|zT (qF jP)<|zM<|zZ) ?_
 refine kf [(13,(.own 14 38 4 ((([]++[y12])++[y13]).length)))] [(14,some (mV jI (([]++[y12])++[y13])))] (zM<|zR (kI jP)<|zE (oBs xF qW uI)<|zAS jI ([]++[y12]) [y13] rfl xF qW by38 (hbig:=by exact (by simp +zetaDelta [maxLen]<;>omega)) (hbig':=by exact (by simp +zetaDelta<;>omega))<|zM<|zF) ?_
 refine kx [(133,(jL 2))] [] (zE (qP 2 (hr:=by decide))<|zM<|zZ) ?_
 refine kA (kB.refl _) ?_
 refine jA<|kx [(134,(vb true))] [] (zE (vG true uE)<|zZ) ?_
 refine jA<|qB ?_
 refine jC<|jA<|jD<|jA<|kx [(15,(vi ((((a*a)-(b*b))-(c*c))+(d*d))))] [] (zE (oXa ar159 qC (fun _=>rfl) 2)<|zM<|zZ) ?_
 refine jA ?_
 have bn9:QL (Rat.divInt ((((a*a)-(b*b))-(c*c))+(d*d)) (nq a b c d)) 3:=(qN (n:=3) (jM (by omega) (by omega)) (jM (by omega) (by omega)) (by decide))
 refine kx [(16,(.ref 17 0))] [(17,some (bx (jI y7)))] (zM<|zR (kI fG)<|zE (jX (mU a b c d (by omega) (by omega) (by omega) (by omega)))<|zE (jX (q_of ((((a*a)-(b*b))-(c*c))+(d*d)) (by omega) (by omega) (nq a b c d) (by omega) (by omega) hn0))<|zM<|zE vQ<|zE vQ<|zH (uX 17 qW uI)<|zT (qF jP)<|zM<|zZ) ?_
 refine kf [(13,(.own 14 38 4 (((([]++[y12])++[y13])++[y7]).length)))] [(14,some (mV jI ((([]++[y12])++[y13])++[y7])))] (zM<|zR (kI jP)<|zE (oBs xF qW uI)<|zAS jI (([]++[y12])++[y13]) [y7] rfl xF qW by38 (hbig:=by exact (by simp +zetaDelta [maxLen]<;>omega)) (hbig':=by exact (by simp +zetaDelta<;>omega))<|zM<|zF) ?_
 refine kx [(133,(jL 3))] [] (zE (qP 3 (hr:=by decide))<|zM<|zZ) ?_
 refine kA (kB.refl _) ?_
 refine jA<|kE (wk (l:=[(1,(.ref 0 0)),(10,(.own 2 118 1 ((([]++[((([]++[y5])++[y8])++[y9])])++[((([]++[y10])++[y6])++[y11])]).length))),(13,(.own 14 38 4 (((([]++[y12])++[y13])++[y7]).length))),(128,(.d y1)),(129,(jL 2)),(132,(.d y4)),(133,(jL 3))]) (b:=[(0,some (bx (vY (kK.mk a b c d)))),(14,some (mV jI ((([]++[y12])++[y13])++[y7]))),(2,some (bm uQ (([]++[((([]++[y5])++[y8])++[y9])])++[((([]++[y10])++[y6])++[y11])])))])) ?_
 refine kx [(134,(vb false))] [] (zE (vG false uE)<|zZ) ?_
 refine jA<|kY ?_
 refine jV<|kE (vP (t:=13) (k:=14) (es:=List.map jI ((([]++[y12])++[y13])++[y7])) rfl rfl (nC _ _ (fun _=>rfl)) (uR _ _ rfl) (dX jI ((([]++[y12])++[y13])++[y7]) (fun _=>rfl) rfl)) ?_
 refine kf [(10,(.own 2 118 1 (((([]++[((([]++[y5])++[y8])++[y9])])++[((([]++[y10])++[y6])++[y11])])++[((([]++[y12])++[y13])++[y7])]).length)))] [(2,some (bm uQ ((([]++[((([]++[y5])++[y8])++[y9])])++[((([]++[y10])++[y6])++[y11])])++[((([]++[y12])++[y13])++[y7])])))] (zM<|zM<|zE (oBs cE ze118 zo118)<|zA uQ (([]++[((([]++[y5])++[y8])++[y9])])++[((([]++[y10])++[y6])++[y11])]) [((([]++[y12])++[y13])++[y7])] rfl cE ze118 by118 (hbig:=by exact (by simp +zetaDelta [maxLen]<;>omega)) (hbig':=by exact (by simp +zetaDelta<;>omega))<|zM<|zF) ?_
 refine kx [(129,(jL 3))] [] (zE (qP 3 (hr:=by decide))<|zM<|zZ) ?_
 refine kA (kB.refl _) ?_
 refine jA<|kx [(130,(vb false))] [] (zE (vG false uE)<|zZ) ?_
 refine jA<|kY ?_
 refine jV<|jA<|kE (vP (t:=10) (k:=2) (es:=List.map uQ ((([]++[((([]++[y5])++[y8])++[y9])])++[((([]++[y10])++[y6])++[y11])])++[((([]++[y12])++[y13])++[y7])])) rfl rfl (qZ _ _ (fun _=>rfl)) (uR _ _ rfl) (uS _ _ (fun _=>rfl) rfl)) ?_
 refine kx [(2,(vl 118 1 uQ ((([]++[((([]++[y5])++[y8])++[y9])])++[((([]++[y10])++[y6])++[y11])])++[((([]++[y12])++[y13])++[y7])]))),(3,(jL 0))] [] (zM<|zM<|zM<|zZ) ?_
 refine jE ⟨_,(.tmp (d:=(.sl 118 1 (List.map uQ ((([]++[((([]++[(jF (Rat.divInt ((((a*a)+(b*b))-(c*c))-(d*d)) (nq a b c d)))])++[(jF (Rat.divInt (2*((b*c)-(a*d))) (nq a b c d)))])++[(jF (Rat.divInt (2*((b*d)+(a*c))) (nq a b c d)))])])++[((([]++[(jF (Rat.divInt (2*((b*c)+(a*d))) (nq a b c d)))])++[(jF (Rat.divInt ((((a*a)-(b*b))+(c*c))-(d*d)) (nq a b c d)))])++[(jF (Rat.divInt (2*((c*d)-(a*b))) (nq a b c d)))])])++[((([]++[(jF (Rat.divInt (2*((b*d)-(a*c))) (nq a b c d)))])++[(jF (Rat.divInt (2*((c*d)+(a*b))) (nq a b c d)))])++[(jF (Rat.divInt ((((a*a)-(b*b))-(c*c))+(d*d)) (nq a b c d)))])])))) rfl (.tmp (d:=(.val (.int .i64 (((0:Nat):Int))))) rfl .nil)),?_⟩
 rfl
theorem cb57:callB Tryz.prog 57=true:=by kernel_rfl
theorem cb58:callB Tryz.prog 58=true:=by kernel_rfl
theorem cb63:callB Tryz.prog 63=true:=by kernel_rfl
theorem cb65:callB Tryz.prog 65=true:=by kernel_rfl
theorem vX:uA Tryz.prog 26 0=some 0:=by kernel_rfl
theorem vR:uA Tryz.prog 26 1=some 1:=by kernel_rfl
theorem fo49_0:uA Tryz.prog 49 0=some 0:=by kernel_rfl
theorem fo49_1:uA Tryz.prog 49 1=some 1:=by kernel_rfl
theorem fo49_2:uA Tryz.prog 49 2=some 2:=by kernel_rfl
theorem fo53_0:uA Tryz.prog 53 0=some 0:=by kernel_rfl
theorem fo53_1:uA Tryz.prog 53 1=some 3:=by kernel_rfl
theorem fo53_2:uA Tryz.prog 53 2=some 7:=by kernel_rfl
theorem fo53_3:uA Tryz.prog 53 3=some 8:=by kernel_rfl
theorem sh118:kZ Tryz.prog 118=some (false,1):=by kernel_rfl
theorem q_turn(a b c d:Int)(ha:-1048576≤a∧a≤1048576)(hb:-1048576≤b∧b≤1048576)(hc:-1048576≤c∧c≤1048576)(hd:-1048576≤d∧d≤1048576)(hq:mN a b c d=0):jR Tryz.prog 58 [(vY (kK.mk a b c d))] (vU (A3.mk (A3.mk (jF (R00 a b c d)) (jF (R01 a b c d)) (jF (R02 a b c d))) (A3.mk (jF (R10 a b c d)) (jF (R11 a b c d)) (jF (R12 a b c d))) (A3.mk (jF (R20 a b c d)) (jF (R21 a b c d)) (jF (R22 a b c d))))):=by
 have hn0:=nq_ne hq
 have hnq:=nq_b ha hb hc hd
 let y4:=(A3.mk nT nT nT)
 let y3:=(bx (vU (A3.mk (A3.mk (jF (R00 a b c d)) (jF (R01 a b c d)) (jF (R02 a b c d))) (A3.mk (jF (R10 a b c d)) (jF (R11 a b c d)) (jF (R12 a b c d))) (A3.mk (jF (R20 a b c d)) (jF (R21 a b c d)) (jF (R22 a b c d))))))
 let y2:=(bx (vU (A3.mk (A3.mk (jF (R00 a b c d)) (jF (R01 a b c d)) (jF (R02 a b c d))) (A3.mk (jF (R10 a b c d)) (jF (R11 a b c d)) (jF (R12 a b c d))) y4)))
 let y1:=(bx (vU (A3.mk y4 y4 y4)))
 refine jH Tryz.func58 rfl cb58 rfl ?_
 show qS _ _ _ _ ⟨[(0,(.d (vY (kK.mk a b c d))))],[]⟩
 refine jA<|kx [(1,(.ref 0 0)),(2,(.ref 1 0))] [(0,some (bx (vY (kK.mk a b c d)))),(1,some y1)] (zN (vL 0)<|zN (uX 1 ze80 zo80)<|zZ) ?_
 refine jA ?_
 have bn1:QL (Q00 a b c d) 3:=(kQ00)
 have bn2:QL (Q01 a b c d) 3:=(kQ01)
 have bn3:QL (Q02 a b c d) 3:=(kQ02)
 have bn4:QL (Q10 a b c d) 3:=(kQ10)
 have bn5:QL (Q11 a b c d) 3:=(kQ11)
 have bn6:QL (Q12 a b c d) 3:=(kQ12)
 have bn7:QL (Q20 a b c d) 3:=(kQ20)
 have bn8:QL (Q21 a b c d) 3:=(kQ21)
 have bn9:QL (Q22 a b c d) 3:=(kQ22)
 refine kx [(3,(vl 118 1 uQ [[(jF (Q00 a b c d)),(jF (Q01 a b c d)),(jF (Q02 a b c d))],[(jF (Q10 a b c d)),(jF (Q11 a b c d)),(jF (Q12 a b c d))],[(jF (Q20 a b c d)),(jF (Q21 a b c d)),(jF (Q22 a b c d))]]))] [] (zR (kI fG)<|zE (jX (q_rmat a b c d (by omega) (by omega) (by omega) (by omega) hq hn0))<|zM<|zE vQ<|zE vQ<|zM<|zM<|zZ) ?_
 refine jA ?_
 have bn10:QL (N4 a b c d) 3:=(vS (Eq.symm (show ((nq a b c d:Int):Rat)=N4 a b c d from rfl)) (kN (z:=(nq a b c d)) (jM (by omega) (by omega)) (by decide)))
 refine kx [(5,(.ref 2 0))] [(2,some (bx (jI (jF (N4 a b c d)))))] (zR (kI fG)<|zE (jX (q_norm a b c d (by omega) (by omega) (by omega) (by omega)))<|zE (jX (by have h:=hO (nq a b c d) (by omega) (by omega);rw[(show ((nq a b c d:Int):Rat)=N4 a b c d from rfl)] at h;exact h))<|zN (uX 2 qW uI)<|zT (qF jP)<|zZ) ?_
 refine jA<|kx [(6,(.ref 3 0))] [(3,some y1)] (zN (uX 3 ze80 zo80)<|zZ) ?_
 refine jA<|jA<|kx [(16,(jL 0))] [] (zM<|zZ) ?_
 refine jD<|uD 20 ?_
 refine uU<|jA<|kx [(17,(vb true))] [] (zE (vG true uE)<|zZ) ?_
 refine jA<|qB ?_
 refine jC<|jA<|jD<|jA<|kx [(7,(jL 0))] [] (zM<|zM<|zZ) ?_
 have bn11:QL (R00 a b c d) 6:=(vS (Eq.symm (Q00_n (a:=a) (b:=b) (c:=c) (d:=d) hn0)) (kR (k:=6) bn1 bn10 (by decide)))
 have bn12:QL (R01 a b c d) 6:=(vS (Eq.symm (Q01_n (a:=a) (b:=b) (c:=c) (d:=d) hn0)) (kR (k:=6) bn2 bn10 (by decide)))
 have bn13:QL (R02 a b c d) 6:=(vS (Eq.symm (Q02_n (a:=a) (b:=b) (c:=c) (d:=d) hn0)) (kR (k:=6) bn3 bn10 (by decide)))
 refine kd [] [(3,some (bx (vU (A3.mk (A3.mk (jF (R00 a b c d)) (jF (R01 a b c d)) (jF (R02 a b c d))) y4 y4))))] mo (wM<|wM<|wM<|wE (dP cE 0)<|wE (xE sh118)<|wE (dP xF 0)<|wE (oCa jP)<|wM<|wM<|wE (dP cE 0)<|wE (xE sh118)<|wE (dP xF 1)<|wE (oCa jP)<|wM<|wM<|wE (dP cE 0)<|wE (xE sh118)<|wE (dP xF 2)<|wE (oCa jP)<|wE (oBf vJ ze78 zo78)<|wR (kI jP)<|wE (jX (by have h:=eE (Q00 a b c d) (Q01 a b c d) (Q02 a b c d) (qu bn1) (qu bn2) (qu bn3) (N4 a b c d) (qu bn10);rw[(Q00_n (a:=a) (b:=b) (c:=c) (d:=d) hn0),(Q01_n (a:=a) (b:=b) (c:=c) (d:=d) hn0),(Q02_n (a:=a) (b:=b) (c:=c) (d:=d) hn0)] at h;exact h))<|wE (zW gS 0)<|wT (qF zB)<|wZ) ?_
 refine kx [(16,(jL 1))] [] (zE (qP 1 (hr:=by decide))<|zM<|zZ) ?_
 refine kA (kB.refl _) ?_
 refine jA<|kx [(17,(vb true))] [] (zE (vG true uE)<|zZ) ?_
 refine jA<|qB ?_
 refine jC<|jA<|jD<|jA<|kx [(7,(jL 1))] [] (zM<|zM<|zZ) ?_
 have bn14:QL (R10 a b c d) 6:=(vS (Eq.symm (Q10_n (a:=a) (b:=b) (c:=c) (d:=d) hn0)) (kR (k:=6) bn4 bn10 (by decide)))
 have bn15:QL (R11 a b c d) 6:=(vS (Eq.symm (Q11_n (a:=a) (b:=b) (c:=c) (d:=d) hn0)) (kR (k:=6) bn5 bn10 (by decide)))
 have bn16:QL (R12 a b c d) 6:=(vS (Eq.symm (Q12_n (a:=a) (b:=b) (c:=c) (d:=d) hn0)) (kR (k:=6) bn6 bn10 (by decide)))
 refine kd [] [(3,some y2)] mo (wM<|wM<|wM<|wE (dP cE 1)<|wE (xE sh118)<|wE (dP xF 0)<|wE (oCa jP)<|wM<|wM<|wE (dP cE 1)<|wE (xE sh118)<|wE (dP xF 1)<|wE (oCa jP)<|wM<|wM<|wE (dP cE 1)<|wE (xE sh118)<|wE (dP xF 2)<|wE (oCa jP)<|wE (oBf vJ ze78 zo78)<|wR (kI jP)<|wE (jX (by have h:=eE (Q10 a b c d) (Q11 a b c d) (Q12 a b c d) (qu bn4) (qu bn5) (qu bn6) (N4 a b c d) (qu bn10);rw[(Q10_n (a:=a) (b:=b) (c:=c) (d:=d) hn0),(Q11_n (a:=a) (b:=b) (c:=c) (d:=d) hn0),(Q12_n (a:=a) (b:=b) (c:=c) (d:=d) hn0)] at h;exact h))<|wE (zW gS 1)<|wT (qF zB)<|wZ) ?_
 refine kx [(16,(jL 2))] [] (zE (qP 2 (hr:=by decide))<|zM<|zZ) ?_
 refine kA (kB.refl _) ?_
 refine jA<|kx [(17,(vb true))] [] (zE (vG true uE)<|zZ) ?_
 refine jA<|qB ?_
 refine jC<|jA<|jD<|jA<|kE (wk (l:=[(2,(.ref 1 0)),(3,(vl 118 1 uQ [[(jF (Q00 a b c d)),(jF (Q01 a b c d)),(jF (Q02 a b c d))],[(jF (Q10 a b c d)),(jF (Q11 a b c d)),(jF (Q12 a b c d))],[(jF (Q20 a b c d)),(jF (Q21 a b c d)),(jF (Q22 a b c d))]])),(5,(.ref 2 0)),(6,(.ref 3 0)),(16,(jL 2)),(17,(vb true))]) (b:=[(1,some y1),(2,some (bx (jI (jF (N4 a b c d))))),(3,some y2)])) ?_
 refine kx [(7,(jL 2))] [] (zM<|zM<|zZ) ?_
 have bn17:QL (R20 a b c d) 6:=(vS (Eq.symm (Q20_n (a:=a) (b:=b) (c:=c) (d:=d) hn0)) (kR (k:=6) bn7 bn10 (by decide)))
 have bn18:QL (R21 a b c d) 6:=(vS (Eq.symm (Q21_n (a:=a) (b:=b) (c:=c) (d:=d) hn0)) (kR (k:=6) bn8 bn10 (by decide)))
 have bn19:QL (R22 a b c d) 6:=(vS (Eq.symm (Q22_n (a:=a) (b:=b) (c:=c) (d:=d) hn0)) (kR (k:=6) bn9 bn10 (by decide)))
 refine kd [] [(3,some y3)] mo (wM<|wM<|wM<|wE (dP cE 2)<|wE (xE sh118)<|wE (dP xF 0)<|wE (oCa jP)<|wM<|wM<|wE (dP cE 2)<|wE (xE sh118)<|wE (dP xF 1)<|wE (oCa jP)<|wM<|wM<|wE (dP cE 2)<|wE (xE sh118)<|wE (dP xF 2)<|wE (oCa jP)<|wE (oBf vJ ze78 zo78)<|wR (kI jP)<|wE (jX (by have h:=eE (Q20 a b c d) (Q21 a b c d) (Q22 a b c d) (qu bn7) (qu bn8) (qu bn9) (N4 a b c d) (qu bn10);rw[(Q20_n (a:=a) (b:=b) (c:=c) (d:=d) hn0),(Q21_n (a:=a) (b:=b) (c:=c) (d:=d) hn0),(Q22_n (a:=a) (b:=b) (c:=c) (d:=d) hn0)] at h;exact h))<|wE (zW gS 2)<|wT (qF zB)<|wZ) ?_
 refine kx [(16,(jL 3))] [] (zE (qP 3 (hr:=by decide))<|zM<|zZ) ?_
 refine kA (kB.refl _) ?_
 refine jA<|kx [(17,(vb false))] [] (zE (vG false uE)<|zZ) ?_
 refine jA<|kY ?_
 refine jV<|jA<|kx [] [(1,some y3)] (zR (kI sh80)<|zT (qF sh80)<|zZ) ?_
 refine jE ⟨_,(kV (cs:=(bx (vU (A3.mk (A3.mk (jF (R00 a b c d)) (jF (R01 a b c d)) (jF (R02 a b c d))) (A3.mk (jF (R10 a b c d)) (jF (R11 a b c d)) (jF (R12 a b c d))) (A3.mk (jF (R20 a b c d)) (jF (R21 a b c d)) (jF (R22 a b c d))))))) (d:=(vU (A3.mk (A3.mk (jF (R00 a b c d)) (jF (R01 a b c d)) (jF (R02 a b c d))) (A3.mk (jF (R10 a b c d)) (jF (R11 a b c d)) (jF (R12 a b c d))) (A3.mk (jF (R20 a b c d)) (jF (R21 a b c d)) (jF (R22 a b c d)))))) rfl rfl sh80 rfl rfl .nil),?_⟩
 rfl
theorem q_stn(sx sy sz sa sb sc sd sf su sv:Int):jR Tryz.prog 57 [(encStn (xN.mk (uG.mk sx sy sz) (kK.mk sa sb sc sd) sf (qI.mk su sv)))] (.val (.int .i64 ((((nW sx sy sz su sv sf sa sb sc sd):Nat):Int)))):=by
 refine jH Tryz.func57 rfl cb57 rfl ?_
 show qS _ _ _ _ ⟨[(0,(.d (encStn (xN.mk (uG.mk sx sy sz) (kK.mk sa sb sc sd) sf (qI.mk su sv)))))],[]⟩
 refine jA<|kx [(1,(.ref 0 0))] [(0,some (bx (encStn (xN.mk (uG.mk sx sy sz) (kK.mk sa sb sc sd) sf (qI.mk su sv)))))] (zN (vL 0)<|zM<|zZ) ?_
 refine jA<|jA<|kx [(20,(vl 3 1 jT [sx,sy,sz,su,sv])),(21,(jL 5)),(22,(jL 0))] [] (zE (kJ fo53_0)<|zE (kJ fo49_0)<|zR (kX qC)<|zE (kJ fo53_0)<|zE (kJ fo49_1)<|zR (kX qC)<|zE (kJ fo53_0)<|zE (kJ fo49_2)<|zR (kX qC)<|zE (kJ fo53_3)<|zE (kJ vX)<|zR (kX qC)<|zE (kJ fo53_3)<|zE (kJ vR)<|zR (kX qC)<|zE (oBs vI ze3 zo3)<|zE (oLn vI 5)<|zM<|zZ) ?_
 refine jD<|uD 20 ?_
 refine uU<|jA<|kx [(23,(vb true))] [] (zE (vG true uE)<|zZ) ?_
 refine jA<|qB ?_
 refine jC<|jA<|jD<|jA<|kx [(4,(vi sx))] [] (zE (dP vI 0)<|zE (xE qC)<|zM<|zZ) ?_
 refine jA<|kx [(31,(vb (decide (sx < -1048576)||decide (((1048576:Nat):Int)<sx))))] [] ?_ ?_
 ·refine zM<|zE uE<|zE (oV (vb (decide (sx < -1048576))) (kT (by kernel_rfl)))<|?_
  rcases hb1:(decide (sx < -1048576)) with _ | _
  ·replace hb1:=vK hb1
   exact zM<|zE gF<|zE nS<|zZ
  ·replace hb1:=vM hb1
   exact zK<|zK<|zE xB<|zZ
 refine jG rfl (fun h2=>?_) (fun h2=>?_)
 ·refine jA<|kx [(2,(jL 2))] [] (zM<|zZ) ?_
  refine jE ⟨_,(.tmp (d:=(.val (.int .i64 (((2:Nat):Int))))) rfl .nil),?_⟩
  first | (rw[show nW sx sy sz su sv sf sa sb sc sd=mN sa sb sc sd from stnC_q (by unfold fL;simp_all<;>omega)];rfl) | (rw[show nW sx sy sz su sv sf sa sb sc sd=2 from stnC_r (by unfold fL;simp_all<;>omega)];rfl)
 ·refine jC<|kx [(22,(jL 1))] [] (zE (qP 1 (hr:=by decide))<|zM<|zZ) ?_
  refine kA (kB.refl _) ?_
  refine jA<|kx [(23,(vb true))] [] (zE (vG true uE)<|zZ) ?_
  refine jA<|qB ?_
  refine jC<|jA<|jD<|jA<|kx [(4,(vi sy))] [] (zE (dP vI 1)<|zE (xE qC)<|zM<|zZ) ?_
  refine jA<|kx [(31,(vb (decide (sy < -1048576)||decide (((1048576:Nat):Int)<sy))))] [] ?_ ?_
  ·refine zM<|zE uE<|zE (oV (vb (decide (sy < -1048576))) (kT (by kernel_rfl)))<|?_
   rcases hb3:(decide (sy < -1048576)) with _ | _
   ·replace hb3:=vK hb3
    exact zM<|zE gF<|zE nS<|zZ
   ·replace hb3:=vM hb3
    exact zK<|zK<|zE xB<|zZ
  refine jG rfl (fun h4=>?_) (fun h4=>?_)
  ·refine jA<|kx [(2,(jL 2))] [] (zM<|zZ) ?_
   refine jE ⟨_,(.tmp (d:=(.val (.int .i64 (((2:Nat):Int))))) rfl .nil),?_⟩
   first | (rw[show nW sx sy sz su sv sf sa sb sc sd=mN sa sb sc sd from stnC_q (by unfold fL;simp_all<;>omega)];rfl) | (rw[show nW sx sy sz su sv sf sa sb sc sd=2 from stnC_r (by unfold fL;simp_all<;>omega)];rfl)
  ·refine jC<|kx [(22,(jL 2))] [] (zE (qP 2 (hr:=by decide))<|zM<|zZ) ?_
   refine kA (kB.refl _) ?_
   refine jA<|kx [(23,(vb true))] [] (zE (vG true uE)<|zZ) ?_
   refine jA<|qB ?_
   refine jC<|jA<|jD<|jA<|kx [(4,(vi sz))] [] (zE (dP vI 2)<|zE (xE qC)<|zM<|zZ) ?_
   refine jA<|kx [(31,(vb (decide (sz < -1048576)||decide (((1048576:Nat):Int)<sz))))] [] ?_ ?_
   ·refine zM<|zE uE<|zE (oV (vb (decide (sz < -1048576))) (kT (by kernel_rfl)))<|?_
    rcases hb5:(decide (sz < -1048576)) with _ | _
    ·replace hb5:=vK hb5
     exact zM<|zE gF<|zE nS<|zZ
    ·replace hb5:=vM hb5
     exact zK<|zK<|zE xB<|zZ
   refine jG rfl (fun h6=>?_) (fun h6=>?_)
   ·refine jA<|kx [(2,(jL 2))] [] (zM<|zZ) ?_
    refine jE ⟨_,(.tmp (d:=(.val (.int .i64 (((2:Nat):Int))))) rfl .nil),?_⟩
    first | (rw[show nW sx sy sz su sv sf sa sb sc sd=mN sa sb sc sd from stnC_q (by unfold fL;simp_all<;>omega)];rfl) | (rw[show nW sx sy sz su sv sf sa sb sc sd=2 from stnC_r (by unfold fL;simp_all<;>omega)];rfl)
   ·refine jC<|kx [(22,(jL 3))] [] (zE (qP 3 (hr:=by decide))<|zM<|zZ) ?_
    refine kA (kB.refl _) ?_
    refine jA<|kE (wk (l:=[(1,(.ref 0 0)),(20,(vl 3 1 jT [sx,sy,sz,su,sv])),(21,(jL 5)),(22,(jL 3))]) (b:=[(0,some (bx (encStn (xN.mk (uG.mk sx sy sz) (kK.mk sa sb sc sd) sf (qI.mk su sv)))))])) ?_
    refine kx [(23,(vb true))] [] (zE (vG true uE)<|zZ) ?_
    refine jA<|qB ?_
    refine jC<|jA<|jD<|jA<|kx [(4,(vi su))] [] (zE (dP vI 3)<|zE (xE qC)<|zM<|zZ) ?_
    refine jA<|kx [(31,(vb (decide (su < -1048576)||decide (((1048576:Nat):Int)<su))))] [] ?_ ?_
    ·refine zM<|zE uE<|zE (oV (vb (decide (su < -1048576))) (kT (by kernel_rfl)))<|?_
     rcases hb7:(decide (su < -1048576)) with _ | _
     ·replace hb7:=vK hb7
      exact zM<|zE gF<|zE nS<|zZ
     ·replace hb7:=vM hb7
      exact zK<|zK<|zE xB<|zZ
    refine jG rfl (fun h8=>?_) (fun h8=>?_)
    ·refine jA<|kx [(2,(jL 2))] [] (zM<|zZ) ?_
     refine jE ⟨_,(.tmp (d:=(.val (.int .i64 (((2:Nat):Int))))) rfl .nil),?_⟩
     first | (rw[show nW sx sy sz su sv sf sa sb sc sd=mN sa sb sc sd from stnC_q (by unfold fL;simp_all<;>omega)];rfl) | (rw[show nW sx sy sz su sv sf sa sb sc sd=2 from stnC_r (by unfold fL;simp_all<;>omega)];rfl)
    ·refine jC<|kx [(22,(jL 4))] [] (zE (qP 4 (hr:=by decide))<|zM<|zZ) ?_
     refine kA (kB.refl _) ?_
     refine jA<|kx [(23,(vb true))] [] (zE (vG true uE)<|zZ) ?_
     refine jA<|qB ?_
     refine jC<|jA<|jD<|jA<|kx [(4,(vi sv))] [] (zE (dP vI 4)<|zE (xE qC)<|zM<|zZ) ?_
     refine jA<|kx [(31,(vb (decide (sv < -1048576)||decide (((1048576:Nat):Int)<sv))))] [] ?_ ?_
     ·refine zM<|zE uE<|zE (oV (vb (decide (sv < -1048576))) (kT (by kernel_rfl)))<|?_
      rcases hb9:(decide (sv < -1048576)) with _ | _
      ·replace hb9:=vK hb9
       exact zM<|zE gF<|zE nS<|zZ
      ·replace hb9:=vM hb9
       exact zK<|zK<|zE xB<|zZ
     refine jG rfl (fun h10=>?_) (fun h10=>?_)
     ·refine jA<|kx [(2,(jL 2))] [] (zM<|zZ) ?_
      refine jE ⟨_,(.tmp (d:=(.val (.int .i64 (((2:Nat):Int))))) rfl .nil),?_⟩
      first | (rw[show nW sx sy sz su sv sf sa sb sc sd=mN sa sb sc sd from stnC_q (by unfold fL;simp_all<;>omega)];rfl) | (rw[show nW sx sy sz su sv sf sa sb sc sd=2 from stnC_r (by unfold fL;simp_all<;>omega)];rfl)
     ·refine jC<|kx [(22,(jL 5))] [] (zE (qP 5 (hr:=by decide))<|zM<|zZ) ?_
      refine kA (kB.refl _) ?_
      refine jA<|kx [(23,(vb false))] [] (zE (vG false uE)<|zZ) ?_
      refine jA<|kY ?_
      refine jV<|jA<|jA<|kx [(40,(vb (decide (sf<((1:Nat):Int))||decide (((1048576:Nat):Int)<sf))))] [] ?_ ?_
      ·refine zE (kJ fo53_2)<|zR (kX qC)<|zE uE<|zE (oV (vb (decide (sf<((1:Nat):Int)))) (kT (by kernel_rfl)))<|?_
       rcases hb11:(decide (sf<((1:Nat):Int))) with _ | _
       ·replace hb11:=vK hb11
        exact zE (kJ fo53_2)<|zR (kX qC)<|zE gF<|zE nS<|zZ
       ·replace hb11:=vM hb11
        exact zK<|zK<|zK<|zE xB<|zZ
      refine jG rfl (fun h12=>?_) (fun h12=>?_)
      ·refine jA<|kx [(2,(jL 2))] [] (zM<|zZ) ?_
       refine jE ⟨_,(.tmp (d:=(.val (.int .i64 (((2:Nat):Int))))) rfl .nil),?_⟩
       first | (rw[show nW sx sy sz su sv sf sa sb sc sd=mN sa sb sc sd from stnC_q (by unfold fL;simp_all<;>omega)];rfl) | (rw[show nW sx sy sz su sv sf sa sb sc sd=2 from stnC_r (by unfold fL;simp_all<;>omega)];rfl)
      ·refine jC<|jA<|kx [(2,(jL (mN sa sb sc sd)))] [] (zE (kJ fo53_1)<|zR (kI fG)<|zE (jX (q_chk sa sb sc sd))<|zM<|zZ) ?_
       refine jE ⟨_,(.tmp (d:=(.val (.int .i64 ((((mN sa sb sc sd):Nat):Int))))) rfl .nil),?_⟩
       first | (rw[show nW sx sy sz su sv sf sa sb sc sd=mN sa sb sc sd from stnC_q (by unfold fL;simp_all<;>omega)];rfl) | (rw[show nW sx sy sz su sv sf sa sb sc sd=2 from stnC_r (by unfold fL;simp_all<;>omega)];rfl)
theorem q_red(a0 a1 a2:Rat)(ha0:QL a0 10000000)(ha1:QL a1 10000000)(ha2:QL a2 10000000)(hz:yF a0 a1 a2=false):jR Tryz.prog 63 [(kH (A3.mk (jF a0) (jF a1) (jF a2)))] (kH (A3.mk (jF (a0*(cW a0 a1 a2))) (jF (a1*(cW a0 a1 a2))) (jF (a2*(cW a0 a1 a2))))):=by
 refine jH Tryz.func63 rfl cb63 rfl ?_
 show qS _ _ _ _ ⟨[(0,(.d (kH (A3.mk (jF a0) (jF a1) (jF a2)))))],[]⟩
 refine jA<|kx [(1,(.ref 0 0)),(2,(.ref 1 0))] [(0,some (bx (kH (A3.mk (jF a0) (jF a1) (jF a2))))),(1,some (bx (kH (A3.mk nT nT nT))))] (zN (vL 0)<|zN (uX 1 ze78 zo78)<|zZ) ?_
 refine jA ?_
 have bn1:gU (jZ (((Int.gcd a1.num a2.num:Nat):Int))) (((Int.gcd a1.num a2.num:Nat):Int)) 10000000:=(gL (k:=10000000) (qR ha1) (qR ha2) (by decide))
 have bn2:gU (jZ (((Int.gcd a0.num (((Int.gcd a1.num a2.num:Nat):Int)):Nat):Int))) (((Int.gcd a0.num (((Int.gcd a1.num a2.num:Nat):Int)):Nat):Int)) 10000000:=(gL (k:=10000000) (qR ha0) bn1 (by decide))
 refine kd [(3,(.ref 2 0))] [(2,some (bx (jJ (jZ ((Int.gcd a0.num (((Int.gcd a1.num a2.num:Nat):Int)):Nat):Int)))))] mo (wE (zW vJ 0)<|wE (kJ zJ)<|wR (kI jS)<|wE (zW vJ 1)<|wE (kJ zJ)<|wR (kI jS)<|wE (zW vJ 2)<|wE (kJ zJ)<|wR (kI jS)<|wE (jX (s_gcd (qR ha1) (qR ha2) (by decide) (by decide)))<|wE (jX (s_gcd (qR ha0) bn1 (by decide) (by decide)))<|wN (uX 2 yI yL)<|wT (qF jS)<|wZ) ?_
 refine jA ?_
 have bn3:QL (Rat.divInt 1 (((Int.gcd a0.num (((Int.gcd a1.num a2.num:Nat):Int)):Nat):Int))) 10000000:=(qN (n:=10000000) (Nat.le_trans (gU.ln (eK (z:=1) (by decide))) (by decide)) (Nat.le_trans (gU.ln bn2) (by decide)) (by decide))
 refine kd [(4,(.ref 3 0))] [(3,some (bx (jI (jF (Rat.divInt 1 (((Int.gcd a0.num (((Int.gcd a1.num a2.num:Nat):Int)):Nat):Int)))))))] mo (wE (jX (t_of 1 (by decide) (by decide)))<|wR (kI jS)<|wE (jX (f_newO (jZ 1) 1 (nD (eK (z:=1) (by decide)) (by decide)) (jZ ((Int.gcd a0.num (((Int.gcd a1.num a2.num:Nat):Int)):Nat):Int)) (((Int.gcd a0.num (((Int.gcd a1.num a2.num:Nat):Int)):Nat):Int)) (iu bn2) (gcd3_ne hz)))<|wM<|wE vQ<|wE vQ<|wN (uX 3 qW uI)<|wT (qF jP)<|wM<|wZ) ?_
 refine jA<|kx [] [(1,some (bx (kH (A3.mk (jF (a0*(Rat.divInt 1 (((Int.gcd a0.num (((Int.gcd a1.num a2.num:Nat):Int)):Nat):Int))))) (jF (a1*(Rat.divInt 1 (((Int.gcd a0.num (((Int.gcd a1.num a2.num:Nat):Int)):Nat):Int))))) (jF (a2*(Rat.divInt 1 (((Int.gcd a0.num (((Int.gcd a1.num a2.num:Nat):Int)):Nat):Int)))))))))] (zR (kI zB)<|zR (kI jP)<|zE (jX (eE a0 a1 a2 (qu ha0) (qu ha1) (qu ha2) (Rat.divInt 1 (((Int.gcd a0.num (((Int.gcd a1.num a2.num:Nat):Int)):Nat):Int))) (qu bn3)))<|zT (qF zB)<|zZ) ?_
 refine jE ⟨_,(kV (cs:=(bx (kH (A3.mk (jF (a0*(Rat.divInt 1 (((Int.gcd a0.num (((Int.gcd a1.num a2.num:Nat):Int)):Nat):Int))))) (jF (a1*(Rat.divInt 1 (((Int.gcd a0.num (((Int.gcd a1.num a2.num:Nat):Int)):Nat):Int))))) (jF (a2*(Rat.divInt 1 (((Int.gcd a0.num (((Int.gcd a1.num a2.num:Nat):Int)):Nat):Int))))))))) (d:=(kH (A3.mk (jF (a0*(Rat.divInt 1 (((Int.gcd a0.num (((Int.gcd a1.num a2.num:Nat):Int)):Nat):Int))))) (jF (a1*(Rat.divInt 1 (((Int.gcd a0.num (((Int.gcd a1.num a2.num:Nat):Int)):Nat):Int))))) (jF (a2*(Rat.divInt 1 (((Int.gcd a0.num (((Int.gcd a1.num a2.num:Nat):Int)):Nat):Int)))))))) rfl rfl zB rfl rfl .nil),?_⟩
 rfl
theorem q_isz(a0 a1 a2:Rat)(ha0:QL a0 100000000)(ha1:QL a1 100000000)(ha2:QL a2 100000000):jR Tryz.prog 65 [(kH (A3.mk (jF a0) (jF a1) (jF a2)))] (.val (.bool ((yF a0 a1 a2)))):=by
 refine jH Tryz.func65 rfl cb65 rfl ?_
 show qS _ _ _ _ ⟨[(0,(.d (kH (A3.mk (jF a0) (jF a1) (jF a2)))))],[]⟩
 refine jA<|kx [(1,(.ref 0 0))] [(0,some (bx (kH (A3.mk (jF a0) (jF a1) (jF a2)))))] (zN (vL 0)<|zM<|zZ) ?_
 refine jA<|kx [(2,(vb ((eN (kS a0 a1 a2 a0 a1 a2)) == 0)))] [] (zR (kI zB)<|zR (kI zB)<|zE (jX (q_dot a0 a1 a2 ha0 ha1 ha2 a0 a1 a2 ha0 ha1 ha2))<|zE (jX (f_sign (jF (kS a0 a1 a2 a0 a1 a2)) (kS a0 a1 a2 a0 a1 a2) (kO (kQ (xJ (n:=100000000) (k:=600000002) ha0 ha1 ha2 ha0 ha1 ha2 (by decide))) (by decide))))<|zE oEq<|zM<|zZ) ?_
 refine jE ⟨_,(.tmp (d:=(.val (.bool (((eN (kS a0 a1 a2 a0 a1 a2)) == 0))))) rfl .nil),?_⟩
 rw[← zeroV_dot];rfl
end Go.Proofs.YteimogfidbkpnaaGreat
