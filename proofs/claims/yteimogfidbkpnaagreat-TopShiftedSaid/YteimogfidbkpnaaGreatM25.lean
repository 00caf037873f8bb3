/- Part 25 of a proof: rules, plain facts, and functions walked. -/
import Derived.Test.YteimogfidbkpnaaGreatM22
import Derived.Test.YteimogfidbkpnaaGreatM13
import Derived.Test.YteimogfidbkpnaaGreatM12
import Derived.Test.YteimogfidbkpnaaGreatM14
import Derived.Test.YteimogfidbkpnaaGreatM10
set_option linter.all false
set_option maxRecDepth 4000
namespace Go.Proofs.YteimogfidbkpnaaGreat
open Go.Fid
theorem vJ:dM Tryz.prog 78=some (3,38,4):=by kernel_rfl
theorem gS:dM Tryz.prog 80=some (3,78,12):=by kernel_rfl
theorem cb27:callB Tryz.prog 27=true:=by kernel_rfl
theorem cb29:callB Tryz.prog 29=true:=by kernel_rfl
theorem cb59:callB Tryz.prog 59=true:=by kernel_rfl
theorem cb60:callB Tryz.prog 60=true:=by kernel_rfl
theorem cb61:callB Tryz.prog 61=true:=by kernel_rfl
theorem cb64:callB Tryz.prog 64=true:=by kernel_rfl
theorem cb66:callB Tryz.prog 66=true:=by kernel_rfl
theorem cb71:callB Tryz.prog 71=true:=by kernel_rfl
theorem xF:uW Tryz.prog 118=some (38,4):=by kernel_rfl
theorem zB:kZ Tryz.prog 78=some (true,12):=by kernel_rfl
theorem sh80:kZ Tryz.prog 80=some (true,36):=by kernel_rfl
theorem ze78:uL Tryz.prog 78=some [.bool false,.slice none 0 0,.bool false,.slice none 0 0,.bool false,.slice none 0 0,.bool false,.slice none 0 0,.bool false,.slice none 0 0,.bool false,.slice none 0 0]:=by kernel_rfl
theorem ze80:uL Tryz.prog 80=some [.bool false,.slice none 0 0,.bool false,.slice none 0 0,.bool false,.slice none 0 0,.bool false,.slice none 0 0,.bool false,.slice none 0 0,.bool false,.slice none 0 0,.bool false,.slice none 0 0,.bool false,.slice none 0 0,.bool false,.slice none 0 0,.bool false,.slice none 0 0,.bool false,.slice none 0 0,.bool false,.slice none 0 0,.bool false,.slice none 0 0,.bool false,.slice none 0 0,.bool false,.slice none 0 0,.bool false,.slice none 0 0,.bool false,.slice none 0 0,.bool false,.slice none 0 0]:=by kernel_rfl
theorem zo78:gD [.bool false,.slice none 0 0,.bool false,.slice none 0 0,.bool false,.slice none 0 0,.bool false,.slice none 0 0,.bool false,.slice none 0 0,.bool false,.slice none 0 0] [.val (.bool false),.sl 121 1 [],.val (.bool false),.sl 121 1 [],.val (.bool false),.sl 121 1 [],.val (.bool false),.sl 121 1 [],.val (.bool false),.sl 121 1 [],.val (.bool false),.sl 121 1 []]:=by simp [gD,Value.oneCell']
theorem zo80:gD [.bool false,.slice none 0 0,.bool false,.slice none 0 0,.bool false,.slice none 0 0,.bool false,.slice none 0 0,.bool false,.slice none 0 0,.bool false,.slice none 0 0,.bool false,.slice none 0 0,.bool false,.slice none 0 0,.bool false,.slice none 0 0,.bool false,.slice none 0 0,.bool false,.slice none 0 0,.bool false,.slice none 0 0,.bool false,.slice none 0 0,.bool false,.slice none 0 0,.bool false,.slice none 0 0,.bool false,.slice none 0 0,.bool false,.slice none 0 0,.bool false,.slice none 0 0] [.val (.bool false),.sl 121 1 [],.val (.bool false),.sl 121 1 [],.val (.bool false),.sl 121 1 [],.val (.bool false),.sl 121 1 [],.val (.bool false),.sl 121 1 [],.val (.bool false),.sl 121 1 [],.val (.bool false),.sl 121 1 [],.val (.bool false),.sl 121 1 [],.val (.bool false),.sl 121 1 [],.val (.bool false),.sl 121 1 [],.val (.bool false),.sl 121 1 [],.val (.bool false),.sl 121 1 [],.val (.bool false),.sl 121 1 [],.val (.bool false),.sl 121 1 [],.val (.bool false),.sl 121 1 [],.val (.bool false),.sl 121 1 [],.val (.bool false),.sl 121 1 [],.val (.bool false),.sl 121 1 []]:=by simp [gD,Value.oneCell']
theorem q_dotF(ta:Nat)(a0 a1 a2:Rat)(ha0:QL a0 100000000)(ha1:QL a1 100000000)(ha2:QL a2 100000000)(tb:Nat)(b0 b1 b2:Rat)(hb0:QL b0 100000000)(hb1:QL b1 100000000)(hb2:QL b2 100000000):jR Tryz.prog 71 [(.sl ta 4 (List.map jI [(jF a0),(jF a1),(jF a2)])),(.sl tb 4 (List.map jI [(jF b0),(jF b1),(jF b2)]))] (.tup [(jI (jF (kS a0 a1 a2 b0 b1 b2))),(.val (.int .i64 (0)))]):=by
 refine jH Tryz.func71 rfl cb71 rfl ?_
 show qS _ _ _ _ ⟨[(0,(vl ta 4 jI [(jF a0),(jF a1),(jF a2)])),(1,(vl tb 4 jI [(jF b0),(jF b1),(jF b2)]))],[]⟩
 refine jA<|kx [(4,(.ref 0 0))] [(0,some (bx (jI nT)))] (zN (uX 0 qW uI)<|zM<|zZ) ?_
 refine jA<|jA<|kx [(13,(vb false))] [] (zM<|zE (oLn xF 3)<|zM<|zE (oLn xF 3)<|zE (vG false oNe)<|zZ) ?_
 refine kY ?_
 refine jC<|jA ?_
 have bn1:QL ((0:Int):Rat) 1:=(kN (z:=0) (uM (by decide)) (by decide))
 refine kx [(6,(.ref 1 0))] [(1,some (bx (jI (jF ((0:Int):Rat)))))] (zE (jX (hO 0 (by decide) (by decide)))<|zN (uX 1 qW uI)<|zT (qF jP)<|zZ) ?_
 refine jA<|jA<|kx [(16,(vl ta 4 jI [(jF a0),(jF a1),(jF a2)])),(17,(jL 3)),(18,(jL 0))] [] (zM<|zE (oLn xF 3)<|zM<|zZ) ?_
 refine jD<|uD 20 ?_
 refine uU<|jA<|kx [(19,(vb true))] [] (zE (vG true uE)<|zZ) ?_
 refine jA<|qB ?_
 refine jC<|jA<|jD<|jA<|kx [(7,(jL 0)),(8,(.ref 2 0))] [(2,some (bx (jI (jF a0))))] (zM<|zE (dP xF 0)<|zE (oCa jP)<|zN (uX 2 qW uI)<|zM<|zT (qF jP)<|zZ) ?_
 have bn2:QL (((0:Int):Rat)+(a0*b0)) 200000002:=(fA (k:=200000002) bn1 (kR (k:=200000000) ha0 hb0 (by decide)) (by decide))
 refine kd [] [(1,some (bx (jI (jF (((0:Int):Rat)+(a0*b0))))))] mo (wR (kI jP)<|wR (kI jP)<|wM<|wM<|wE (dP xF 0)<|wE (oCa jP)<|wE (jX (cY (jF a0) (jF b0) a0 b0 (kO (kQ ha0) (by decide)) (kO (kQ hb0) (by decide))))<|wE (jX (f_add (jF ((0:Int):Rat)) (jF (a0*b0)) ((0:Int):Rat) (a0*b0) (kO (kQ bn1) (by decide)) (kO (kQ (kR (k:=200000000) ha0 hb0 (by decide))) (by decide))))<|wT (qF jP)<|wZ) ?_
 refine kx [(18,(jL 1))] [] (zE (qP 1 (hr:=by decide))<|zM<|zZ) ?_
 refine kA (kB.refl _) ?_
 refine jA<|kx [(19,(vb true))] [] (zE (vG true uE)<|zZ) ?_
 refine jA<|qB ?_
 refine jC<|jA<|jD<|jA<|kx [(7,(jL 1)),(8,(.ref 3 0))] [(3,some (bx (jI (jF a1))))] (zM<|zE (dP xF 1)<|zE (oCa jP)<|zN (uX 3 qW uI)<|zM<|zT (qF jP)<|zZ) ?_
 have bn3:QL ((((0:Int):Rat)+(a0*b0))+(a1*b1)) 400000003:=(fA (k:=400000003) bn2 (kR (k:=200000000) ha1 hb1 (by decide)) (by decide))
 refine kd [] [(1,some (bx (jI (jF ((((0:Int):Rat)+(a0*b0))+(a1*b1))))))] mo (wR (kI jP)<|wR (kI jP)<|wM<|wM<|wE (dP xF 1)<|wE (oCa jP)<|wE (jX (cY (jF a1) (jF b1) a1 b1 (kO (kQ ha1) (by decide)) (kO (kQ hb1) (by decide))))<|wE (jX (f_add (jF (((0:Int):Rat)+(a0*b0))) (jF (a1*b1)) (((0:Int):Rat)+(a0*b0)) (a1*b1) (kO (kQ bn2) (by decide)) (kO (kQ (kR (k:=200000000) ha1 hb1 (by decide))) (by decide))))<|wT (qF jP)<|wZ) ?_
 refine kx [(18,(jL 2))] [] (zE (qP 2 (hr:=by decide))<|zM<|zZ) ?_
 refine kA (kB.refl _) ?_
 refine jA<|kx [(19,(vb true))] [] (zE (vG true uE)<|zZ) ?_
 refine jA<|qB ?_
 refine jC<|jA<|jD<|jA<|kx [(7,(jL 2)),(8,(.ref 4 0))] [(4,some (bx (jI (jF a2))))] (zM<|zE (dP xF 2)<|zE (oCa jP)<|zN (uX 4 qW uI)<|zM<|zT (qF jP)<|zZ) ?_
 refine kE (wk (l:=[(1,(vl tb 4 jI [(jF b0),(jF b1),(jF b2)])),(4,(.ref 0 0)),(6,(.ref 1 0)),(7,(jL 2)),(8,(.ref 4 0)),(16,(vl ta 4 jI [(jF a0),(jF a1),(jF a2)])),(17,(jL 3)),(18,(jL 2))]) (b:=[(0,some (bx (jI nT))),(1,some (bx (jI (jF ((((0:Int):Rat)+(a0*b0))+(a1*b1)))))),(4,some (bx (jI (jF a2))))])) ?_
 have bn4:QL (((((0:Int):Rat)+(a0*b0))+(a1*b1))+(a2*b2)) 600000004:=(fA (k:=600000004) bn3 (kR (k:=200000000) ha2 hb2 (by decide)) (by decide))
 refine kd [] [(1,some (bx (jI (jF (((((0:Int):Rat)+(a0*b0))+(a1*b1))+(a2*b2))))))] mo (wR (kI jP)<|wR (kI jP)<|wM<|wM<|wE (dP xF 2)<|wE (oCa jP)<|wE (jX (cY (jF a2) (jF b2) a2 b2 (kO (kQ ha2) (by decide)) (kO (kQ hb2) (by decide))))<|wE (jX (f_add (jF ((((0:Int):Rat)+(a0*b0))+(a1*b1))) (jF (a2*b2)) ((((0:Int):Rat)+(a0*b0))+(a1*b1)) (a2*b2) (kO (kQ bn3) (by decide)) (kO (kQ (kR (k:=200000000) ha2 hb2 (by decide))) (by decide))))<|wT (qF jP)<|wZ) ?_
 refine kx [(18,(jL 3))] [] (zE (qP 3 (hr:=by decide))<|zM<|zZ) ?_
 refine kA (kB.refl _) ?_
 refine jA<|kx [(19,(vb false))] [] (zE (vG false uE)<|zZ) ?_
 refine jA<|kY ?_
 refine jV<|jA<|kx [(5,(jL 0))] [(0,some (bx (jI (jF (((((0:Int):Rat)+(a0*b0))+(a1*b1))+(a2*b2))))))] (zR (kI jP)<|zT (qF jP)<|zM<|zZ) ?_
 refine jE ⟨_,(kV (cs:=(bx (jI (jF (((((0:Int):Rat)+(a0*b0))+(a1*b1))+(a2*b2)))))) (d:=(jI (jF (((((0:Int):Rat)+(a0*b0))+(a1*b1))+(a2*b2))))) rfl rfl jP rfl rfl (.tmp (d:=(.val (.int .i64 (((0:Nat):Int))))) rfl .nil)),?_⟩
 rw[← dot3_eq];rfl
theorem q_whole(x:Int)(hxl:-9223372036854775808≤x)(hxh:x≤9223372036854775807)(y:Int)(hyl:-9223372036854775808≤y)(hyh:y≤9223372036854775807)(z:Int)(hzl:-9223372036854775808≤z)(hzh:z≤9223372036854775807):jR Tryz.prog 27 [(.val (.int .i64 (x))),(.val (.int .i64 (y))),(.val (.int .i64 (z)))] (kH (A3.mk (jF ((x:Int):Rat)) (jF ((y:Int):Rat)) (jF ((z:Int):Rat)))):=by
 refine jH Tryz.func27 rfl cb27 rfl ?_
 show qS _ _ _ _ ⟨[(0,(vi x)),(1,(vi y)),(2,(vi z))],[]⟩
 refine jA<|kx [(6,(.ref 0 0))] [(0,some (bx (kH (A3.mk nT nT nT))))] (zN (uX 0 ze78 zo78)<|zZ) ?_
 refine jA ?_
 have bn1:QL ((x:Int):Rat) 3:=(kN (z:=x) (jM (by omega) (by omega)) (by decide))
 have bn2:QL ((y:Int):Rat) 3:=(kN (z:=y) (jM (by omega) (by omega)) (by decide))
 have bn3:QL ((z:Int):Rat) 3:=(kN (z:=z) (jM (by omega) (by omega)) (by decide))
 refine kx [] [(0,some (bx (kH (A3.mk (jF ((x:Int):Rat)) (jF ((y:Int):Rat)) (jF ((z:Int):Rat))))))] (zM<|zE (jX (hO x (by omega) (by omega)))<|zM<|zE (jX (hO y (by omega) (by omega)))<|zM<|zE (jX (hO z (by omega) (by omega)))<|zE (oBf vJ ze78 zo78)<|zT (qF zB)<|zZ) ?_
 refine jE ⟨_,(kV (cs:=(bx (kH (A3.mk (jF ((x:Int):Rat)) (jF ((y:Int):Rat)) (jF ((z:Int):Rat)))))) (d:=(kH (A3.mk (jF ((x:Int):Rat)) (jF ((y:Int):Rat)) (jF ((z:Int):Rat))))) rfl rfl zB rfl rfl .nil),?_⟩
 rfl
theorem q_dot(a0 a1 a2:Rat)(ha0:QL a0 100000000)(ha1:QL a1 100000000)(ha2:QL a2 100000000)(b0 b1 b2:Rat)(hb0:QL b0 100000000)(hb1:QL b1 100000000)(hb2:QL b2 100000000):jR Tryz.prog 29 [(kH (A3.mk (jF a0) (jF a1) (jF a2))),(kH (A3.mk (jF b0) (jF b1) (jF b2)))] (jI (jF (kS a0 a1 a2 b0 b1 b2))):=by
 refine jH Tryz.func29 rfl cb29 rfl ?_
 show qS _ _ _ _ ⟨[(0,(.d (kH (A3.mk (jF a0) (jF a1) (jF a2))))),(1,(.d (kH (A3.mk (jF b0) (jF b1) (jF b2)))))],[]⟩
 refine jA<|kx [(2,(.ref 0 0)),(3,(.ref 1 0)),(4,(.ref 2 0))] [(0,some (bx (kH (A3.mk (jF a0) (jF a1) (jF a2))))),(1,some (bx (kH (A3.mk (jF b0) (jF b1) (jF b2))))),(2,some (bx (jI nT)))] (zN (vL 0)<|zN (vL 1)<|zN (uX 2 qW uI)<|zZ) ?_
 refine jA ?_
 have bn1:QL (kS a0 a1 a2 b0 b1 b2) 600000002:=(xJ (n:=100000000) (k:=600000002) ha0 ha1 ha2 hb0 hb1 hb2 (by decide))
 refine kd [(5,(.ref 3 0))] [(3,some (bx (jI (jF (kS a0 a1 a2 b0 b1 b2)))))] mo (wE (e_slv (by exact rfl) vJ (by exact rfl) (by kernel_rfl) (by kernel_rfl))<|wE (e_slv (by exact rfl) vJ (by exact rfl) (by kernel_rfl) (by kernel_rfl))<|wC (oCg [(0,(jQ.cells (kH (A3.mk (jF a0) (jF a1) (jF a2))))),(1,(jQ.cells (kH (A3.mk (jF b0) (jF b1) (jF b2)))))] [(.view 0 0 3),(.view 1 0 3)] (q_dotF 1000000 a0 a1 a2 ha0 ha1 ha2 1000000 b0 b1 b2 hb0 hb1 hb2) (.v (es:=List.map jI [(jF a0),(jF a1),(jF a2)]) (.head _) (nC _ _ (fun _=>rfl)) (by kernel_rfl) (by kernel_rfl) (.v (es:=List.map jI [(jF b0),(jF b1),(jF b2)]) (.tail _ (.head _)) (nC _ _ (fun _=>rfl)) (by kernel_rfl) (by kernel_rfl) .nil)) (.tup (gW (avo_encR (by decide) _) (gW (.val _) avo_nil))))<|wM<|wE vQ<|wE vQ<|wN (uX 3 qW uI)<|wT (qF jP)<|wM<|wZ) ?_
 refine jA<|kx [] [(2,some (bx (jI (jF (kS a0 a1 a2 b0 b1 b2)))))] (zR (kI jP)<|zT (qF jP)<|zZ) ?_
 refine jE ⟨_,(kV (cs:=(bx (jI (jF (kS a0 a1 a2 b0 b1 b2))))) (d:=(jI (jF (kS a0 a1 a2 b0 b1 b2)))) rfl rfl jP rfl rfl .nil),?_⟩
 rfl
theorem q_cross(a0 a1 a2:Rat)(ha0:QL a0 100000000)(ha1:QL a1 100000000)(ha2:QL a2 100000000)(b0 b1 b2:Rat)(hb0:QL b0 100000000)(hb1:QL b1 100000000)(hb2:QL b2 100000000):jR Tryz.prog 64 [(kH (A3.mk (jF a0) (jF a1) (jF a2))),(kH (A3.mk (jF b0) (jF b1) (jF b2)))] (kH (A3.mk (jF ((a1*b2)-(a2*b1))) (jF ((a2*b0)-(a0*b2))) (jF ((a0*b1)-(a1*b0))))):=by
 let y2:=nT
 let y1:=(bx (kH (A3.mk y2 y2 y2)))
 refine jH Tryz.func64 rfl cb64 rfl ?_
 show qS _ _ _ _ ⟨[(0,(.d (kH (A3.mk (jF a0) (jF a1) (jF a2))))),(1,(.d (kH (A3.mk (jF b0) (jF b1) (jF b2)))))],[]⟩
 refine jA<|kx [(2,(.ref 0 0)),(3,(.ref 1 0)),(4,(.ref 2 0))] [(0,some (bx (kH (A3.mk (jF a0) (jF a1) (jF a2))))),(1,some (bx (kH (A3.mk (jF b0) (jF b1) (jF b2))))),(2,some y1)] (zN (vL 0)<|zN (vL 1)<|zN (uX 2 ze78 zo78)<|zZ) ?_
 refine jA<|kx [(5,(.ref 3 0))] [(3,some y1)] (zN (uX 3 ze78 zo78)<|zZ) ?_
 refine jA<|jA<|kx [(9,(jL 0))] [] (zM<|zZ) ?_
 refine jD<|uD 20 ?_
 refine uU<|jA<|kx [(10,(vb true))] [] (zE (vG true uE)<|zZ) ?_
 refine jA<|qB ?_
 refine jC<|jA<|jD<|jA<|kx [(6,(jL 0))] [] (zM<|zM<|zZ) ?_
 refine jA<|kx [(7,(jL 1)),(8,(jL 2))] [] (zM<|zE (qP 1 (hr:=by decide))<|zE (oRe 1 (hr:=by decide))<|zM<|zE (qP 2 (hr:=by decide))<|zE (oRe 2 (hr:=by decide))<|zM<|zM<|zZ) ?_
 have bn1:QL ((a1*b2)-(a2*b1)) 400000001:=(dQ (k:=400000001) (kR (k:=200000000) ha1 hb2 (by decide)) (kR (k:=200000000) ha2 hb1 (by decide)) (by decide))
 refine kd [] [(3,some (bx (kH (A3.mk (jF ((a1*b2)-(a2*b1))) y2 y2))))] mo (wM<|wM<|wE (zW vJ 1)<|wR (kI jP)<|wM<|wE (zW vJ 2)<|wR (kI jP)<|wE (jX (cY (jF a1) (jF b2) a1 b2 (kO (kQ ha1) (by decide)) (kO (kQ hb2) (by decide))))<|wM<|wE (zW vJ 2)<|wR (kI jP)<|wM<|wE (zW vJ 1)<|wR (kI jP)<|wE (jX (cY (jF a2) (jF b1) a2 b1 (kO (kQ ha2) (by decide)) (kO (kQ hb1) (by decide))))<|wE (jX (f_sub (jF (a1*b2)) (jF (a2*b1)) (a1*b2) (a2*b1) (kO (kQ (kR (k:=200000000) ha1 hb2 (by decide))) (by decide)) (kO (kQ (kR (k:=200000000) ha2 hb1 (by decide))) (by decide))))<|wE (zW vJ 0)<|wT (qF jP)<|wZ) ?_
 refine kx [(9,(jL 1))] [] (zE (qP 1 (hr:=by decide))<|zM<|zZ) ?_
 refine kA (kB.refl _) ?_
 refine jA<|kx [(10,(vb true))] [] (zE (vG true uE)<|zZ) ?_
 refine jA<|qB ?_
 refine jC<|jA<|jD<|jA<|kx [(6,(jL 1))] [] (zM<|zM<|zZ) ?_
 refine jA<|kx [(7,(jL 2)),(8,(jL 0))] [] (zM<|zE (qP 2 (hr:=by decide))<|zE (oRe 2 (hr:=by decide))<|zM<|zE (qP 3 (hr:=by decide))<|zE (oRe 0 (hr:=by decide))<|zM<|zM<|zZ) ?_
 have bn2:QL ((a2*b0)-(a0*b2)) 400000001:=(dQ (k:=400000001) (kR (k:=200000000) ha2 hb0 (by decide)) (kR (k:=200000000) ha0 hb2 (by decide)) (by decide))
 refine kd [] [(3,some (bx (kH (A3.mk (jF ((a1*b2)-(a2*b1))) (jF ((a2*b0)-(a0*b2))) y2))))] mo (wM<|wM<|wE (zW vJ 2)<|wR (kI jP)<|wM<|wE (zW vJ 0)<|wR (kI jP)<|wE (jX (cY (jF a2) (jF b0) a2 b0 (kO (kQ ha2) (by decide)) (kO (kQ hb0) (by decide))))<|wM<|wE (zW vJ 0)<|wR (kI jP)<|wM<|wE (zW vJ 2)<|wR (kI jP)<|wE (jX (cY (jF a0) (jF b2) a0 b2 (kO (kQ ha0) (by decide)) (kO (kQ hb2) (by decide))))<|wE (jX (f_sub (jF (a2*b0)) (jF (a0*b2)) (a2*b0) (a0*b2) (kO (kQ (kR (k:=200000000) ha2 hb0 (by decide))) (by decide)) (kO (kQ (kR (k:=200000000) ha0 hb2 (by decide))) (by decide))))<|wE (zW vJ 1)<|wT (qF jP)<|wZ) ?_
 refine kx [(9,(jL 2))] [] (zE (qP 2 (hr:=by decide))<|zM<|zZ) ?_
 refine kA (kB.refl _) ?_
 refine jA<|kx [(10,(vb true))] [] (zE (vG true uE)<|zZ) ?_
 refine jA<|qB ?_
 refine jC<|jA<|jD<|jA<|kE (wk (l:=[(2,(.ref 0 0)),(3,(.ref 1 0)),(4,(.ref 2 0)),(5,(.ref 3 0)),(9,(jL 2)),(10,(vb true))]) (b:=[(0,some (bx (kH (A3.mk (jF a0) (jF a1) (jF a2))))),(1,some (bx (kH (A3.mk (jF b0) (jF b1) (jF b2))))),(2,some y1),(3,some (bx (kH (A3.mk (jF ((a1*b2)-(a2*b1))) (jF ((a2*b0)-(a0*b2))) y2))))])) ?_
 refine kx [(6,(jL 2))] [] (zM<|zM<|zZ) ?_
 refine jA<|kx [(7,(jL 0)),(8,(jL 1))] [] (zM<|zE (qP 3 (hr:=by decide))<|zE (oRe 0 (hr:=by decide))<|zM<|zE (qP 4 (hr:=by decide))<|zE (oRe 1 (hr:=by decide))<|zM<|zM<|zZ) ?_
 have bn3:QL ((a0*b1)-(a1*b0)) 400000001:=(dQ (k:=400000001) (kR (k:=200000000) ha0 hb1 (by decide)) (kR (k:=200000000) ha1 hb0 (by decide)) (by decide))
 refine kd [] [(3,some (bx (kH (A3.mk (jF ((a1*b2)-(a2*b1))) (jF ((a2*b0)-(a0*b2))) (jF ((a0*b1)-(a1*b0)))))))] mo (wM<|wM<|wE (zW vJ 0)<|wR (kI jP)<|wM<|wE (zW vJ 1)<|wR (kI jP)<|wE (jX (cY (jF a0) (jF b1) a0 b1 (kO (kQ ha0) (by decide)) (kO (kQ hb1) (by decide))))<|wM<|wE (zW vJ 1)<|wR (kI jP)<|wM<|wE (zW vJ 0)<|wR (kI jP)<|wE (jX (cY (jF a1) (jF b0) a1 b0 (kO (kQ ha1) (by decide)) (kO (kQ hb0) (by decide))))<|wE (jX (f_sub (jF (a0*b1)) (jF (a1*b0)) (a0*b1) (a1*b0) (kO (kQ (kR (k:=200000000) ha0 hb1 (by decide))) (by decide)) (kO (kQ (kR (k:=200000000) ha1 hb0 (by decide))) (by decide))))<|wE (zW vJ 2)<|wT (qF jP)<|wZ) ?_
 refine kx [(9,(jL 3))] [] (zE (qP 3 (hr:=by decide))<|zM<|zZ) ?_
 refine kA (kB.refl _) ?_
 refine jA<|kx [(10,(vb false))] [] (zE (vG false uE)<|zZ) ?_
 refine jA<|kY ?_
 refine jV<|jA<|kx [] [(2,some (bx (kH (A3.mk (jF ((a1*b2)-(a2*b1))) (jF ((a2*b0)-(a0*b2))) (jF ((a0*b1)-(a1*b0)))))))] (zR (kI zB)<|zT (qF zB)<|zZ) ?_
 refine jE ⟨_,(kV (cs:=(bx (kH (A3.mk (jF ((a1*b2)-(a2*b1))) (jF ((a2*b0)-(a0*b2))) (jF ((a0*b1)-(a1*b0))))))) (d:=(kH (A3.mk (jF ((a1*b2)-(a2*b1))) (jF ((a2*b0)-(a0*b2))) (jF ((a0*b1)-(a1*b0)))))) rfl rfl zB rfl rfl .nil),?_⟩
 rfl
theorem eE(a0 a1 a2:Rat)(ha0:QL a0 100000000)(ha1:QL a1 100000000)(ha2:QL a2 100000000)(k:Rat)(hk:QL k 100000000):jR Tryz.prog 61 [(kH (A3.mk (jF a0) (jF a1) (jF a2))),(jI (jF k))] (kH (A3.mk (jF (a0*k)) (jF (a1*k)) (jF (a2*k)))):=by
 let y1:=nT
 refine jH Tryz.func61 rfl cb61 rfl ?_
 show qS _ _ _ _ ⟨[(0,(.d (kH (A3.mk (jF a0) (jF a1) (jF a2))))),(1,(.d (jI (jF k))))],[]⟩
 refine jA<|kx [(2,(.ref 0 0)),(3,(.ref 1 0)),(4,(.ref 2 0))] [(0,some (bx (kH (A3.mk (jF a0) (jF a1) (jF a2))))),(1,some (bx (jI (jF k)))),(2,some (bx (kH (A3.mk y1 y1 y1))))] (zN (vL 0)<|zN (vL 1)<|zN (uX 2 ze78 zo78)<|zZ) ?_
 refine jA<|jA<|kx [(6,(jL 0))] [] (zM<|zZ) ?_
 refine jD<|uD 20 ?_
 refine uU<|jA<|kx [(7,(vb true))] [] (zE (vG true uE)<|zZ) ?_
 refine jA<|qB ?_
 refine jC<|jA<|jD<|jA<|kx [(5,(jL 0))] [] (zM<|zM<|zZ) ?_
 refine kd [] [(0,some (bx (kH (A3.mk (jF (a0*k)) (jF a1) (jF a2)))))] mo (wM<|wM<|wE (zW vJ 0)<|wR (kI jP)<|wR (kI jP)<|wE (jX (cY (jF a0) (jF k) a0 k (kO (kQ ha0) (by decide)) (kO (kQ hk) (by decide))))<|wE (zW vJ 0)<|wT (qF jP)<|wZ) ?_
 refine kx [(6,(jL 1))] [] (zE (qP 1 (hr:=by decide))<|zM<|zZ) ?_
 refine kA (kB.refl _) ?_
 refine jA<|kx [(7,(vb true))] [] (zE (vG true uE)<|zZ) ?_
 refine jA<|qB ?_
 refine jC<|jA<|jD<|jA<|kx [(5,(jL 1))] [] (zM<|zM<|zZ) ?_
 refine kd [] [(0,some (bx (kH (A3.mk (jF (a0*k)) (jF (a1*k)) (jF a2)))))] mo (wM<|wM<|wE (zW vJ 1)<|wR (kI jP)<|wR (kI jP)<|wE (jX (cY (jF a1) (jF k) a1 k (kO (kQ ha1) (by decide)) (kO (kQ hk) (by decide))))<|wE (zW vJ 1)<|wT (qF jP)<|wZ) ?_
 refine kx [(6,(jL 2))] [] (zE (qP 2 (hr:=by decide))<|zM<|zZ) ?_
 refine kA (kB.refl _) ?_
 refine jA<|kx [(7,(vb true))] [] (zE (vG true uE)<|zZ) ?_
 refine jA<|qB ?_
 refine jC<|jA<|jD<|jA<|kx [(5,(jL 2))] [] (zM<|zM<|zZ) ?_
 refine kd [] [(0,some (bx (kH (A3.mk (jF (a0*k)) (jF (a1*k)) (jF (a2*k))))))] mo (wM<|wM<|wE (zW vJ 2)<|wR (kI jP)<|wR (kI jP)<|wE (jX (cY (jF a2) (jF k) a2 k (kO (kQ ha2) (by decide)) (kO (kQ hk) (by decide))))<|wE (zW vJ 2)<|wT (qF jP)<|wZ) ?_
 refine kx [(6,(jL 3))] [] (zE (qP 3 (hr:=by decide))<|zM<|zZ) ?_
 refine kA (kB.refl _) ?_
 refine jA<|kE (wk (l:=[(2,(.ref 0 0)),(3,(.ref 1 0)),(4,(.ref 2 0)),(6,(jL 3))]) (b:=[(0,some (bx (kH (A3.mk (jF (a0*k)) (jF (a1*k)) (jF (a2*k)))))),(1,some (bx (jI (jF k)))),(2,some (bx (kH (A3.mk y1 y1 y1))))])) ?_
 refine kx [(7,(vb false))] [] (zE (vG false uE)<|zZ) ?_
 refine jA<|kY ?_
 refine jV<|jA<|kx [] [(2,some (bx (kH (A3.mk (jF (a0*k)) (jF (a1*k)) (jF (a2*k))))))] (zR (kI zB)<|zT (qF zB)<|zZ) ?_
 refine jE ⟨_,(kV (cs:=(bx (kH (A3.mk (jF (a0*k)) (jF (a1*k)) (jF (a2*k)))))) (d:=(kH (A3.mk (jF (a0*k)) (jF (a1*k)) (jF (a2*k))))) rfl rfl zB rfl rfl .nil),?_⟩
 rfl
theorem q_sum(a0 a1 a2:Rat)(ha0:QL a0 1000000000)(ha1:QL a1 1000000000)(ha2:QL a2 1000000000)(b0 b1 b2:Rat)(hb0:QL b0 1000000000)(hb1:QL b1 1000000000)(hb2:QL b2 1000000000):jR Tryz.prog 60 [(kH (A3.mk (jF a0) (jF a1) (jF a2))),(kH (A3.mk (jF b0) (jF b1) (jF b2)))] (kH (A3.mk (jF (a0+b0)) (jF (a1+b1)) (jF (a2+b2)))):=by
 let y1:=nT
 refine jH Tryz.func60 rfl cb60 rfl ?_
 show qS _ _ _ _ ⟨[(0,(.d (kH (A3.mk (jF a0) (jF a1) (jF a2))))),(1,(.d (kH (A3.mk (jF b0) (jF b1) (jF b2)))))],[]⟩
 refine jA<|kx [(2,(.ref 0 0)),(3,(.ref 1 0)),(4,(.ref 2 0))] [(0,some (bx (kH (A3.mk (jF a0) (jF a1) (jF a2))))),(1,some (bx (kH (A3.mk (jF b0) (jF b1) (jF b2))))),(2,some (bx (kH (A3.mk y1 y1 y1))))] (zN (vL 0)<|zN (vL 1)<|zN (uX 2 ze78 zo78)<|zZ) ?_
 refine jA<|jA<|kx [(6,(jL 0))] [] (zM<|zZ) ?_
 refine jD<|uD 20 ?_
 refine uU<|jA<|kx [(7,(vb true))] [] (zE (vG true uE)<|zZ) ?_
 refine jA<|qB ?_
 refine jC<|jA<|jD<|jA<|kx [(5,(jL 0))] [] (zM<|zM<|zZ) ?_
 refine kd [] [(0,some (bx (kH (A3.mk (jF (a0+b0)) (jF a1) (jF a2)))))] mo (wM<|wM<|wE (zW vJ 0)<|wR (kI jP)<|wM<|wE (zW vJ 0)<|wR (kI jP)<|wE (jX (f_add (jF a0) (jF b0) a0 b0 (kO (kQ ha0) (by decide)) (kO (kQ hb0) (by decide))))<|wE (zW vJ 0)<|wT (qF jP)<|wZ) ?_
 refine kx [(6,(jL 1))] [] (zE (qP 1 (hr:=by decide))<|zM<|zZ) ?_
 refine kA (kB.refl _) ?_
 refine jA<|kx [(7,(vb true))] [] (zE (vG true uE)<|zZ) ?_
 refine jA<|qB ?_
 refine jC<|jA<|jD<|jA<|kx [(5,(jL 1))] [] (zM<|zM<|zZ) ?_
 refine kd [] [(0,some (bx (kH (A3.mk (jF (a0+b0)) (jF (a1+b1)) (jF a2)))))] mo (wM<|wM<|wE (zW vJ 1)<|wR (kI jP)<|wM<|wE (zW vJ 1)<|wR (kI jP)<|wE (jX (f_add (jF a1) (jF b1) a1 b1 (kO (kQ ha1) (by decide)) (kO (kQ hb1) (by decide))))<|wE (zW vJ 1)<|wT (qF jP)<|wZ) ?_
 refine kx [(6,(jL 2))] [] (zE (qP 2 (hr:=by decide))<|zM<|zZ) ?_
 refine kA (kB.refl _) ?_
 refine jA<|kx [(7,(vb true))] [] (zE (vG true uE)<|zZ) ?_
 refine jA<|qB ?_
 refine jC<|jA<|jD<|jA<|kx [(5,(jL 2))] [] (zM<|zM<|zZ) ?_
 refine kd [] [(0,some (bx (kH (A3.mk (jF (a0+b0)) (jF (a1+b1)) (jF (a2+b2))))))] mo (wM<|wM<|wE (zW vJ 2)<|wR (kI jP)<|wM<|wE (zW vJ 2)<|wR (kI jP)<|wE (jX (f_add (jF a2) (jF b2) a2 b2 (kO (kQ ha2) (by decide)) (kO (kQ hb2) (by decide))))<|wE (zW vJ 2)<|wT (qF jP)<|wZ) ?_
 refine kx [(6,(jL 3))] [] (zE (qP 3 (hr:=by decide))<|zM<|zZ) ?_
 refine kA (kB.refl _) ?_
 refine jA<|kE (wk (l:=[(2,(.ref 0 0)),(3,(.ref 1 0)),(4,(.ref 2 0)),(6,(jL 3))]) (b:=[(0,some (bx (kH (A3.mk (jF (a0+b0)) (jF (a1+b1)) (jF (a2+b2)))))),(1,some (bx (kH (A3.mk (jF b0) (jF b1) (jF b2))))),(2,some (bx (kH (A3.mk y1 y1 y1))))])) ?_
 refine kx [(7,(vb false))] [] (zE (vG false uE)<|zZ) ?_
 refine jA<|kY ?_
 refine jV<|jA<|kx [] [(2,some (bx (kH (A3.mk (jF (a0+b0)) (jF (a1+b1)) (jF (a2+b2))))))] (zR (kI zB)<|zT (qF zB)<|zZ) ?_
 refine jE ⟨_,(kV (cs:=(bx (kH (A3.mk (jF (a0+b0)) (jF (a1+b1)) (jF (a2+b2)))))) (d:=(kH (A3.mk (jF (a0+b0)) (jF (a1+b1)) (jF (a2+b2))))) rfl rfl zB rfl rfl .nil),?_⟩
 rfl
theorem q_times(m00 m01 m02 m10 m11 m12 m20 m21 m22:Rat)(hm00:QL m00 100000000)(hm01:QL m01 100000000)(hm02:QL m02 100000000)(hm10:QL m10 100000000)(hm11:QL m11 100000000)(hm12:QL m12 100000000)(hm20:QL m20 100000000)(hm21:QL m21 100000000)(hm22:QL m22 100000000)(v0 v1 v2:Rat)(hv0:QL v0 100000000)(hv1:QL v1 100000000)(hv2:QL v2 100000000):jR Tryz.prog 66 [(vU (A3.mk (A3.mk (jF m00) (jF m01) (jF m02)) (A3.mk (jF m10) (jF m11) (jF m12)) (A3.mk (jF m20) (jF m21) (jF m22)))),(kH (A3.mk (jF v0) (jF v1) (jF v2)))] (kH (A3.mk (jF (kS m00 m01 m02 v0 v1 v2)) (jF (kS m10 m11 m12 v0 v1 v2)) (jF (kS m20 m21 m22 v0 v1 v2)))):=by
 refine jH Tryz.func66 rfl cb66 rfl ?_
 show qS _ _ _ _ ⟨[(0,(.d (vU (A3.mk (A3.mk (jF m00) (jF m01) (jF m02)) (A3.mk (jF m10) (jF m11) (jF m12)) (A3.mk (jF m20) (jF m21) (jF m22)))))),(1,(.d (kH (A3.mk (jF v0) (jF v1) (jF v2)))))],[]⟩
 refine jA<|kx [(2,(.ref 0 0)),(3,(.ref 1 0)),(4,(.ref 2 0))] [(0,some (bx (vU (A3.mk (A3.mk (jF m00) (jF m01) (jF m02)) (A3.mk (jF m10) (jF m11) (jF m12)) (A3.mk (jF m20) (jF m21) (jF m22)))))),(1,some (bx (kH (A3.mk (jF v0) (jF v1) (jF v2))))),(2,some (bx (kH (A3.mk nT nT nT))))] (zN (vL 0)<|zN (vL 1)<|zN (uX 2 ze78 zo78)<|zZ) ?_
 refine jA ?_
 have bn1:QL (kS m00 m01 m02 v0 v1 v2) 600000002:=(xJ (n:=100000000) (k:=600000002) hm00 hm01 hm02 hv0 hv1 hv2 (by decide))
 have bn2:QL (kS m10 m11 m12 v0 v1 v2) 600000002:=(xJ (n:=100000000) (k:=600000002) hm10 hm11 hm12 hv0 hv1 hv2 (by decide))
 have bn3:QL (kS m20 m21 m22 v0 v1 v2) 600000002:=(xJ (n:=100000000) (k:=600000002) hm20 hm21 hm22 hv0 hv1 hv2 (by decide))
 refine kd [] [(2,some (bx (kH (A3.mk (jF (kS m00 m01 m02 v0 v1 v2)) (jF (kS m10 m11 m12 v0 v1 v2)) (jF (kS m20 m21 m22 v0 v1 v2))))))] mo (wE (zW gS 0)<|wR (kI zB)<|wR (kI zB)<|wE (jX (q_dot m00 m01 m02 hm00 hm01 hm02 v0 v1 v2 hv0 hv1 hv2))<|wE (zW gS 1)<|wR (kI zB)<|wR (kI zB)<|wE (jX (q_dot m10 m11 m12 hm10 hm11 hm12 v0 v1 v2 hv0 hv1 hv2))<|wE (zW gS 2)<|wR (kI zB)<|wR (kI zB)<|wE (jX (q_dot m20 m21 m22 hm20 hm21 hm22 v0 v1 v2 hv0 hv1 hv2))<|wE (oBf vJ ze78 zo78)<|wT (qF zB)<|wZ) ?_
 refine jE ⟨_,(kV (cs:=(bx (kH (A3.mk (jF (kS m00 m01 m02 v0 v1 v2)) (jF (kS m10 m11 m12 v0 v1 v2)) (jF (kS m20 m21 m22 v0 v1 v2)))))) (d:=(kH (A3.mk (jF (kS m00 m01 m02 v0 v1 v2)) (jF (kS m10 m11 m12 v0 v1 v2)) (jF (kS m20 m21 m22 v0 v1 v2))))) rfl rfl zB rfl rfl .nil),?_⟩
 rfl
theorem q_transp(m00 m01 m02 m10 m11 m12 m20 m21 m22:Rat)(hm00:QL m00 100000000)(hm01:QL m01 100000000)(hm02:QL m02 100000000)(hm10:QL m10 100000000)(hm11:QL m11 100000000)(hm12:QL m12 100000000)(hm20:QL m20 100000000)(hm21:QL m21 100000000)(hm22:QL m22 100000000):jR Tryz.prog 59 [(vU (A3.mk (A3.mk (jF m00) (jF m01) (jF m02)) (A3.mk (jF m10) (jF m11) (jF m12)) (A3.mk (jF m20) (jF m21) (jF m22))))] (vU (A3.mk (A3.mk (jF m00) (jF m10) (jF m20)) (A3.mk (jF m01) (jF m11) (jF m21)) (A3.mk (jF m02) (jF m12) (jF m22)))):=by
 let y8:=(A3.mk (jF m00) (jF m10) (jF m20))
 let y7:=nT
 let y6:=(bx (vU (A3.mk (A3.mk (jF m00) (jF m01) (jF m02)) (A3.mk (jF m10) (jF m11) (jF m12)) (A3.mk (jF m20) (jF m21) (jF m22)))))
 let y5:=(A3.mk y7 y7 y7)
 let y4:=(bx (vU (A3.mk y8 (A3.mk (jF m01) (jF m11) (jF m21)) y5)))
 let y3:=(bx (vU (A3.mk y8 (A3.mk (jF m01) y7 y7) y5)))
 let y2:=(bx (vU (A3.mk (A3.mk (jF m00) (jF m10) y7) y5 y5)))
 let y1:=(bx (vU (A3.mk y5 y5 y5)))
 refine jH Tryz.func59 rfl cb59 rfl ?_
 show qS _ _ _ _ ⟨[(0,(.d (vU (A3.mk (A3.mk (jF m00) (jF m01) (jF m02)) (A3.mk (jF m10) (jF m11) (jF m12)) (A3.mk (jF m20) (jF m21) (jF m22))))))],[]⟩
 refine jA<|kx [(1,(.ref 0 0)),(2,(.ref 1 0))] [(0,some y6),(1,some y1)] (zN (vL 0)<|zN (uX 1 ze80 zo80)<|zZ) ?_
 refine jA<|kx [(3,(.ref 2 0))] [(2,some y1)] (zN (uX 2 ze80 zo80)<|zZ) ?_
 refine jA<|jA<|kx [(6,(jL 0))] [] (zM<|zZ) ?_
 refine jD<|uD 20 ?_
 refine uU<|jA<|kx [(7,(vb true))] [] (zE (vG true uE)<|zZ) ?_
 refine jA<|qB ?_
 refine jC<|jA<|jD<|jA<|kx [(4,(jL 0))] [] (zM<|zM<|zZ) ?_
 refine jA<|kx [(9,(jL 0))] [] (zM<|zZ) ?_
 refine jD<|uD 20 ?_
 refine uU<|jA<|kx [(10,(vb true))] [] (zE (vG true uE)<|zZ) ?_
 refine jA<|qB ?_
 refine jC<|jA<|jD<|jA<|kx [(5,(jL 0))] [] (zM<|zM<|zZ) ?_
 refine kd [] [(2,some (bx (vU (A3.mk (A3.mk (jF m00) y7 y7) y5 y5))))] mo (wM<|wM<|wM<|wM<|wE (zW gS 0)<|wE (zW vJ 0)<|wR (kI jP)<|wE (zW gS 0)<|wE (zW vJ 0)<|wT (qF jP)<|wZ) ?_
 refine kx [(9,(jL 1))] [] (zE (qP 1 (hr:=by decide))<|zM<|zZ) ?_
 refine kA (kB.refl _) ?_
 refine jA<|kx [(10,(vb true))] [] (zE (vG true uE)<|zZ) ?_
 refine jA<|qB ?_
 refine jC<|jA<|jD<|jA<|kx [(5,(jL 1))] [] (zM<|zM<|zZ) ?_
 refine kd [] [(2,some y2)] mo (wM<|wM<|wM<|wM<|wE (zW gS 1)<|wE (zW vJ 0)<|wR (kI jP)<|wE (zW gS 0)<|wE (zW vJ 1)<|wT (qF jP)<|wZ) ?_
 refine kx [(9,(jL 2))] [] (zE (qP 2 (hr:=by decide))<|zM<|zZ) ?_
 refine kA (kB.refl _) ?_
 refine jA<|kE (wk (l:=[(1,(.ref 0 0)),(2,(.ref 1 0)),(3,(.ref 2 0)),(4,(jL 0)),(6,(jL 0)),(9,(jL 2))]) (b:=[(0,some y6),(1,some y1),(2,some y2)])) ?_
 refine kx [(10,(vb true))] [] (zE (vG true uE)<|zZ) ?_
 refine jA<|qB ?_
 refine jC<|jA<|jD<|jA<|kx [(5,(jL 2))] [] (zM<|zM<|zZ) ?_
 refine kd [] [(2,some (bx (vU (A3.mk y8 y5 y5))))] mo (wM<|wM<|wM<|wM<|wE (zW gS 2)<|wE (zW vJ 0)<|wR (kI jP)<|wE (zW gS 0)<|wE (zW vJ 2)<|wT (qF jP)<|wZ) ?_
 refine kx [(9,(jL 3))] [] (zE (qP 3 (hr:=by decide))<|zM<|zZ) ?_
 refine kA (kB.refl _) ?_
 refine jA<|kx [(10,(vb false))] [] (zE (vG false uE)<|zZ) ?_
 refine jA<|kY ?_
 refine jV<|kx [(6,(jL 1))] [] (zE (qP 1 (hr:=by decide))<|zM<|zZ) ?_
 refine kA (kB.refl _) ?_
 refine jA<|kx [(7,(vb true))] [] (zE (vG true uE)<|zZ) ?_
 refine jA<|qB ?_
 refine jC<|jA<|jD<|jA<|kx [(4,(jL 1))] [] (zM<|zM<|zZ) ?_
 refine jA<|kx [(9,(jL 0))] [] (zM<|zZ) ?_
 refine jD<|uD 20 ?_
 refine uU<|jA<|kx [(10,(vb true))] [] (zE (vG true uE)<|zZ) ?_
 refine jA<|qB ?_
 refine jC<|jA<|jD<|jA<|kx [(5,(jL 0))] [] (zM<|zM<|zZ) ?_
 refine kd [] [(2,some y3)] mo (wM<|wM<|wM<|wM<|wE (zW gS 0)<|wE (zW vJ 1)<|wR (kI jP)<|wE (zW gS 1)<|wE (zW vJ 0)<|wT (qF jP)<|wZ) ?_
 refine kx [(9,(jL 1))] [] (zE (qP 1 (hr:=by decide))<|zM<|zZ) ?_
 refine kA (kB.refl _) ?_
 refine jA<|kx [(10,(vb true))] [] (zE (vG true uE)<|zZ) ?_
 refine jA<|qB ?_
 refine jC<|jA<|jD<|jA<|kE (wk (l:=[(1,(.ref 0 0)),(2,(.ref 1 0)),(3,(.ref 2 0)),(4,(jL 1)),(6,(jL 1)),(9,(jL 1)),(10,(vb true))]) (b:=[(0,some y6),(1,some y1),(2,some y3)])) ?_
 refine kx [(5,(jL 1))] [] (zM<|zM<|zZ) ?_
 refine kd [] [(2,some (bx (vU (A3.mk y8 (A3.mk (jF m01) (jF m11) y7) y5))))] mo (wM<|wM<|wM<|wM<|wE (zW gS 1)<|wE (zW vJ 1)<|wR (kI jP)<|wE (zW gS 1)<|wE (zW vJ 1)<|wT (qF jP)<|wZ) ?_
 refine kx [(9,(jL 2))] [] (zE (qP 2 (hr:=by decide))<|zM<|zZ) ?_
 refine kA (kB.refl _) ?_
 refine jA<|kx [(10,(vb true))] [] (zE (vG true uE)<|zZ) ?_
 refine jA<|qB ?_
 refine jC<|jA<|jD<|jA<|kx [(5,(jL 2))] [] (zM<|zM<|zZ) ?_
 refine kd [] [(2,some y4)] mo (wM<|wM<|wM<|wM<|wE (zW gS 2)<|wE (zW vJ 1)<|wR (kI jP)<|wE (zW gS 1)<|wE (zW vJ 2)<|wT (qF jP)<|wZ) ?_
 refine kx [(9,(jL 3))] [] (zE (qP 3 (hr:=by decide))<|zM<|zZ) ?_
 refine kA (kB.refl _) ?_
 refine jA<|kx [(10,(vb false))] [] (zE (vG false uE)<|zZ) ?_
 refine jA<|kY ?_
 refine jV<|kx [(6,(jL 2))] [] (zE (qP 2 (hr:=by decide))<|zM<|zZ) ?_
 refine kA (kB.refl _) ?_
 refine jA<|kx [(7,(vb true))] [] (zE (vG true uE)<|zZ) ?_
 refine jA<|qB ?_
 refine jC<|jA<|jD<|jA<|kx [(4,(jL 2))] [] (zM<|zM<|zZ) ?_
 refine jA<|kx [(9,(jL 0))] [] (zM<|zZ) ?_
 refine jD<|uD 20 ?_
 refine uU<|jA<|kx [(10,(vb true))] [] (zE (vG true uE)<|zZ) ?_
 refine jA<|qB ?_
 refine jC<|jA<|jD<|jA<|kx [(5,(jL 0))] [] (zM<|zM<|zZ) ?_
 refine kE (wk (l:=[(1,(.ref 0 0)),(2,(.ref 1 0)),(3,(.ref 2 0)),(4,(jL 2)),(5,(jL 0)),(6,(jL 2)),(9,(jL 0))]) (b:=[(0,some y6),(1,some y1),(2,some y4)])) ?_
 refine kd [] [(2,some (bx (vU (A3.mk y8 (A3.mk (jF m01) (jF m11) (jF m21)) (A3.mk (jF m02) y7 y7)))))] mo (wM<|wM<|wM<|wM<|wE (zW gS 0)<|wE (zW vJ 2)<|wR (kI jP)<|wE (zW gS 2)<|wE (zW vJ 0)<|wT (qF jP)<|wZ) ?_
 refine kx [(9,(jL 1))] [] (zE (qP 1 (hr:=by decide))<|zM<|zZ) ?_
 refine kA (kB.refl _) ?_
 refine jA<|kx [(10,(vb true))] [] (zE (vG true uE)<|zZ) ?_
 refine jA<|qB ?_
 refine jC<|jA<|jD<|jA<|kx [(5,(jL 1))] [] (zM<|zM<|zZ) ?_
 refine kd [] [(2,some (bx (vU (A3.mk y8 (A3.mk (jF m01) (jF m11) (jF m21)) (A3.mk (jF m02) (jF m12) y7)))))] mo (wM<|wM<|wM<|wM<|wE (zW gS 1)<|wE (zW vJ 2)<|wR (kI jP)<|wE (zW gS 2)<|wE (zW vJ 1)<|wT (qF jP)<|wZ) ?_
 refine kx [(9,(jL 2))] [] (zE (qP 2 (hr:=by decide))<|zM<|zZ) ?_
 refine kA (kB.refl _) ?_
 refine jA<|kx [(10,(vb true))] [] (zE (vG true uE)<|zZ) ?_
 refine jA<|qB ?_
 refine jC<|jA<|jD<|jA<|kx [(5,(jL 2))] [] (zM<|zM<|zZ) ?_
 refine kd [] [(2,some (bx (vU (A3.mk y8 (A3.mk (jF m01) (jF m11) (jF m21)) (A3.mk (jF m02) (jF m12) (jF m22))))))] mo (wM<|wM<|wM<|wM<|wE (zW gS 2)<|wE (zW vJ 2)<|wR (kI jP)<|wE (zW gS 2)<|wE (zW vJ 2)<|wT (qF jP)<|wZ) ?_
 refine kx [(9,(jL 3))] [] (zE (qP 3 (hr:=by decide))<|zM<|zZ) ?_
 refine kA (kB.refl _) ?_
 refine jA<|kx [(10,(vb false))] [] (zE (vG false uE)<|zZ) ?_
 refine jA<|kY ?_
 refine jV<|kx [(6,(jL 3))] [] (zE (qP 3 (hr:=by decide))<|zM<|zZ) ?_
 refine kA (kB.refl _) ?_
 refine jA<|kx [(7,(vb false))] [] (zE (vG false uE)<|zZ) ?_
 refine jA<|kY ?_
 refine jV<|jA<|kx [] [(1,some (bx (vU (A3.mk y8 (A3.mk (jF m01) (jF m11) (jF m21)) (A3.mk (jF m02) (jF m12) (jF m22))))))] (zR (kI sh80)<|zT (qF sh80)<|zZ) ?_
 refine jE ⟨_,(kV (cs:=(bx (vU (A3.mk (A3.mk (jF m00) (jF m10) (jF m20)) (A3.mk (jF m01) (jF m11) (jF m21)) (A3.mk (jF m02) (jF m12) (jF m22)))))) (d:=(vU (A3.mk (A3.mk (jF m00) (jF m10) (jF m20)) (A3.mk (jF m01) (jF m11) (jF m21)) (A3.mk (jF m02) (jF m12) (jF m22))))) rfl rfl sh80 rfl rfl .nil),?_⟩
 rfl
theorem ar157:dM Tryz.prog 157=some (4,3,1):=by kernel_rfl
theorem cb95:callB Tryz.prog 95=true:=by kernel_rfl
theorem cb122:callB Tryz.prog 122=true:=by kernel_rfl
theorem eqs51:eqsB Tryz.prog 51=some 4:=by kernel_rfl
theorem fo51_0:uA Tryz.prog 51 0=some 0:=by kernel_rfl
theorem fo51_1:uA Tryz.prog 51 1=some 1:=by kernel_rfl
theorem fo51_2:uA Tryz.prog 51 2=some 2:=by kernel_rfl
theorem fo51_3:uA Tryz.prog 51 3=some 3:=by kernel_rfl
theorem pl51:yR Tryz.prog 51=some [(0,1),(1,1),(2,1),(3,1)]:=by kernel_rfl
theorem fG:kZ Tryz.prog 51=some (true,4):=by kernel_rfl
theorem sh157:kZ Tryz.prog 157=some (true,4):=by kernel_rfl
theorem ze51:uL Tryz.prog 51=some [.int .i64 0,.int .i64 0,.int .i64 0,.int .i64 0]:=by kernel_rfl
theorem ze157:uL Tryz.prog 157=some [.int .i64 0,.int .i64 0,.int .i64 0,.int .i64 0]:=by kernel_rfl
theorem zo51:gD [.int .i64 0,.int .i64 0,.int .i64 0,.int .i64 0] [.val (.int .i64 0),.val (.int .i64 0),.val (.int .i64 0),.val (.int .i64 0)]:=by simp [gD,Value.oneCell']
theorem zo157:gD [.int .i64 0,.int .i64 0,.int .i64 0,.int .i64 0] [.val (.int .i64 0),.val (.int .i64 0),.val (.int .i64 0),.val (.int .i64 0)]:=by simp [gD,Value.oneCell']
theorem q_parts(a b c d:Int):jR Tryz.prog 122 [(vY (kK.mk a b c d))] (dG (A4.mk a b c d)):=by
 refine jH Tryz.func122 rfl cb122 rfl ?_
 show qS _ _ _ _ ⟨[(0,(.d (vY (kK.mk a b c d))))],[]⟩
 refine jA<|kx [(1,(.ref 0 0)),(2,(.ref 1 0))] [(0,some (bx (vY (kK.mk a b c d)))),(1,some (bx (dG (A4.mk 0 0 0 0))))] (zN (vL 0)<|zN (uX 1 ze157 zo157)<|zZ) ?_
 refine jA<|kx [] [(1,some (bx (dG (A4.mk a b c d))))] (zE (kJ fo51_0)<|zR (kX qC)<|zE (kJ fo51_1)<|zR (kX qC)<|zE (kJ fo51_2)<|zR (kX qC)<|zE (kJ fo51_3)<|zR (kX qC)<|zE (oBf ar157 ze157 zo157)<|zT (qF sh157)<|zZ) ?_
 refine jE ⟨_,(kV (cs:=(bx (dG (A4.mk a b c d)))) (d:=(dG (A4.mk a b c d))) rfl rfl sh157 rfl rfl .nil),?_⟩
 rfl
theorem q_chk(a b c d:Int):jR Tryz.prog 95 [(vY (kK.mk a b c d))] (.val (.int .i64 ((((mN a b c d):Nat):Int)))):=by
 refine jH Tryz.func95 rfl cb95 rfl ?_
 show qS _ _ _ _ ⟨[(0,(.d (vY (kK.mk a b c d))))],[]⟩
 refine jA<|kx [(1,(.ref 0 0))] [(0,some (bx (vY (kK.mk a b c d))))] (zN (vL 0)<|zM<|zZ) ?_
 refine jA<|jA<|kx [(7,(vb (decide ([a,b,c,d]=[0,0,0,0]))))] [] (zR (kI fG)<|zE (oBd pl51 ze51 zo51)<|zE (oEs eqs51 .i64 [a,b,c,d] [0,0,0,0])<|zZ) ?_
 refine jG (b:=(decide ([a,b,c,d]=[0,0,0,0]))) rfl (fun h1=>?_) (fun h1=>?_)
 ·replace h1:=vM h1
  refine jA<|kx [(2,(jL 1))] [] (zM<|zZ) ?_
  refine jE ⟨_,(.tmp (d:=(.val (.int .i64 (((1:Nat):Int))))) rfl .nil),?_⟩
  rw[rotC_z (by simp_all)];rfl
 ·replace h1:=vK h1
  refine jC<|jA<|jA<|kx [(9,(.d (dG (A4.mk a b c d)))),(10,(jL 0))] [] (zR (kI fG)<|zE (jX (q_parts a b c d))<|zM<|zZ) ?_
  refine jD<|uD 20 ?_
  refine uU<|jA<|kx [(11,(vb true))] [] (zE (vG true uE)<|zZ) ?_
  refine jA<|qB ?_
  refine jC<|jA<|jD<|jA<|kx [(4,(vi a))] [] (zE (oXa ar157 qC (fun _=>rfl) 0)<|zM<|zZ) ?_
  refine jA<|kx [(18,(vb (decide (a < -1048576)||decide (((1048576:Nat):Int)<a))))] [] ?_ ?_
  ·refine zM<|zE uE<|zE (oV (vb (decide (a < -1048576))) (kT (by kernel_rfl)))<|?_
   rcases hb2:(decide (a < -1048576)) with _ | _
   ·replace hb2:=vK hb2
    exact zM<|zE gF<|zE nS<|zZ
   ·replace hb2:=vM hb2
    exact zK<|zK<|zE xB<|zZ
  refine jG rfl (fun h3=>?_) (fun h3=>?_)
  ·refine jA<|kx [(2,(jL 3))] [] (zM<|zZ) ?_
   refine jE ⟨_,(.tmp (d:=(.val (.int .i64 (((3:Nat):Int))))) rfl .nil),?_⟩
   first | (rw[rotC_l (by simp_all) (by first | (simp_all;done) | (simp_all;omega))];rfl) | (rw[rotC_0 (by simp_all) (by first | (simp_all;done) | (simp_all;omega))];rfl)
  ·refine jC<|kx [(10,(jL 1))] [] (zE (qP 1 (hr:=by decide))<|zM<|zZ) ?_
   refine kA (kB.refl _) ?_
   refine jA<|kx [(11,(vb true))] [] (zE (vG true uE)<|zZ) ?_
   refine jA<|qB ?_
   refine jC<|jA<|jD<|jA<|kx [(4,(vi b))] [] (zE (oXa ar157 qC (fun _=>rfl) 1)<|zM<|zZ) ?_
   refine jA<|kx [(18,(vb (decide (b < -1048576)||decide (((1048576:Nat):Int)<b))))] [] ?_ ?_
   ·refine zM<|zE uE<|zE (oV (vb (decide (b < -1048576))) (kT (by kernel_rfl)))<|?_
    rcases hb4:(decide (b < -1048576)) with _ | _
    ·replace hb4:=vK hb4
     exact zM<|zE gF<|zE nS<|zZ
    ·replace hb4:=vM hb4
     exact zK<|zK<|zE xB<|zZ
   refine jG rfl (fun h5=>?_) (fun h5=>?_)
   ·refine jA<|kx [(2,(jL 3))] [] (zM<|zZ) ?_
    refine jE ⟨_,(.tmp (d:=(.val (.int .i64 (((3:Nat):Int))))) rfl .nil),?_⟩
    first | (rw[rotC_l (by simp_all) (by first | (simp_all;done) | (simp_all;omega))];rfl) | (rw[rotC_0 (by simp_all) (by first | (simp_all;done) | (simp_all;omega))];rfl)
   ·refine jC<|kx [(10,(jL 2))] [] (zE (qP 2 (hr:=by decide))<|zM<|zZ) ?_
    refine kA (kB.refl _) ?_
    refine jA<|kx [(11,(vb true))] [] (zE (vG true uE)<|zZ) ?_
    refine jA<|qB ?_
    refine jC<|jA<|jD<|jA<|kx [(4,(vi c))] [] (zE (oXa ar157 qC (fun _=>rfl) 2)<|zM<|zZ) ?_
    refine jA<|kx [(18,(vb (decide (c < -1048576)||decide (((1048576:Nat):Int)<c))))] [] ?_ ?_
    ·refine zM<|zE uE<|zE (oV (vb (decide (c < -1048576))) (kT (by kernel_rfl)))<|?_
     rcases hb6:(decide (c < -1048576)) with _ | _
     ·replace hb6:=vK hb6
      exact zM<|zE gF<|zE nS<|zZ
     ·replace hb6:=vM hb6
      exact zK<|zK<|zE xB<|zZ
    refine jG rfl (fun h7=>?_) (fun h7=>?_)
    ·refine jA<|kE (wk (l:=[(9,(.d (dG (A4.mk a b c d)))),(10,(jL 2)),(18,(vb (decide (c < -1048576)||decide (((1048576:Nat):Int)<c))))]) (b:=[])) ?_
     refine kx [(2,(jL 3))] [] (zM<|zZ) ?_
     refine jE ⟨_,(.tmp (d:=(.val (.int .i64 (((3:Nat):Int))))) rfl .nil),?_⟩
     first | (rw[rotC_l (by simp_all) (by first | (simp_all;done) | (simp_all;omega))];rfl) | (rw[rotC_0 (by simp_all) (by first | (simp_all;done) | (simp_all;omega))];rfl)
    ·refine jC<|kE (wk (l:=[(9,(.d (dG (A4.mk a b c d)))),(10,(jL 2)),(18,(vb (decide (c < -1048576)||decide (((1048576:Nat):Int)<c))))]) (b:=[])) ?_
     refine kx [(10,(jL 3))] [] (zE (qP 3 (hr:=by decide))<|zM<|zZ) ?_
     refine kA (kB.refl _) ?_
     refine jA<|kx [(11,(vb true))] [] (zE (vG true uE)<|zZ) ?_
     refine jA<|qB ?_
     refine jC<|jA<|jD<|jA<|kx [(4,(vi d))] [] (zE (oXa ar157 qC (fun _=>rfl) 3)<|zM<|zZ) ?_
     refine jA<|kx [(18,(vb (decide (d < -1048576)||decide (((1048576:Nat):Int)<d))))] [] ?_ ?_
     ·refine zM<|zE uE<|zE (oV (vb (decide (d < -1048576))) (kT (by kernel_rfl)))<|?_
      rcases hb8:(decide (d < -1048576)) with _ | _
      ·replace hb8:=vK hb8
       exact zM<|zE gF<|zE nS<|zZ
      ·replace hb8:=vM hb8
       exact zK<|zK<|zE xB<|zZ
     refine jG rfl (fun h9=>?_) (fun h9=>?_)
     ·refine jA<|kx [(2,(jL 3))] [] (zM<|zZ) ?_
      refine jE ⟨_,(.tmp (d:=(.val (.int .i64 (((3:Nat):Int))))) rfl .nil),?_⟩
      first | (rw[rotC_l (by simp_all) (by first | (simp_all;done) | (simp_all;omega))];rfl) | (rw[rotC_0 (by simp_all) (by first | (simp_all;done) | (simp_all;omega))];rfl)
     ·refine jC<|kx [(10,(jL 4))] [] (zE (qP 4 (hr:=by decide))<|zM<|zZ) ?_
      refine kA (kB.refl _) ?_
      refine jA<|kx [(11,(vb false))] [] (zE (vG false uE)<|zZ) ?_
      refine jA<|kY ?_
      refine jV<|jA<|kx [(2,(jL 0))] [] (zM<|zZ) ?_
      refine jE ⟨_,(.tmp (d:=(.val (.int .i64 (((0:Nat):Int))))) rfl .nil),?_⟩
      first | (rw[rotC_l (by simp_all) (by first | (simp_all;done) | (simp_all;omega))];rfl) | (rw[rotC_0 (by simp_all) (by first | (simp_all;done) | (simp_all;omega))];rfl)
theorem cb62:callB Tryz.prog 62=true:=by kernel_rfl
theorem cb123:callB Tryz.prog 123=true:=by kernel_rfl
theorem q_norm(a b c d:Int)(ha:-1048576≤a∧a≤1048576)(hb:-1048576≤b∧b≤1048576)(hc:-1048576≤c∧c≤1048576)(hd:-1048576≤d∧d≤1048576):jR Tryz.prog 62 [(vY (kK.mk a b c d))] (.val (.int .i64 ((nq a b c d)))):=by
 have saa:=xA ha ha
 have sab:=xA ha hb
 have sac:=xA ha hc
 have sad:=xA ha hd
 have sbb:=xA hb hb
 have sbc:=xA hb hc
 have sbd:=xA hb hd
 have scc:=xA hc hc
 have scd:=xA hc hd
 have sdd:=xA hd hd
 refine jH Tryz.func62 rfl cb62 rfl ?_
 show qS _ _ _ _ ⟨[(0,(.d (vY (kK.mk a b c d))))],[]⟩
 refine jA<|kx [(1,(.ref 0 0))] [(0,some (bx (vY (kK.mk a b c d))))] (zN (vL 0)<|zM<|zZ) ?_
 refine jA<|kx [(2,(vi ((((a*a)+(b*b))+(c*c))+(d*d))))] [] (zE (kJ fo51_0)<|zR (kX qC)<|zE (kJ fo51_0)<|zR (kX qC)<|zE (nU (a*a) (hr:=by exact (qV rfl (by simp only[xZ];omega) (by simp only[zD];omega))))<|zE (kJ fo51_1)<|zR (kX qC)<|zE (kJ fo51_1)<|zR (kX qC)<|zE (nU (b*b) (hr:=by exact (qV rfl (by simp only[xZ];omega) (by simp only[zD];omega))))<|zE (zAd ((a*a)+(b*b)) (hr:=by exact (qV rfl (by simp only[xZ];omega) (by simp only[zD];omega))))<|zE (kJ fo51_2)<|zR (kX qC)<|zE (kJ fo51_2)<|zR (kX qC)<|zE (nU (c*c) (hr:=by exact (qV rfl (by simp only[xZ];omega) (by simp only[zD];omega))))<|zE (zAd (((a*a)+(b*b))+(c*c)) (hr:=by exact (qV rfl (by simp only[xZ];omega) (by simp only[zD];omega))))<|zE (kJ fo51_3)<|zR (kX qC)<|zE (kJ fo51_3)<|zR (kX qC)<|zE (nU (d*d) (hr:=by exact (qV rfl (by simp only[xZ];omega) (by simp only[zD];omega))))<|zE (zAd ((((a*a)+(b*b))+(c*c))+(d*d)) (hr:=by exact (qV rfl (by simp only[xZ];omega) (by simp only[zD];omega))))<|zM<|zZ) ?_
 refine jE ⟨_,(.tmp (d:=(.val (.int .i64 (((((a*a)+(b*b))+(c*c))+(d*d)))))) rfl .nil),?_⟩
 rfl
theorem mU(a b c d:Int)(ha:-1048576≤a∧a≤1048576)(hb:-1048576≤b∧b≤1048576)(hc:-1048576≤c∧c≤1048576)(hd:-1048576≤d∧d≤1048576):jR Tryz.prog 123 [(vY (kK.mk a b c d))] (.val (.int .i64 ((nq a b c d)))):=by
 have saa:=xA ha ha
 have sab:=xA ha hb
 have sac:=xA ha hc
 have sad:=xA ha hd
 have sbb:=xA hb hb
 have sbc:=xA hb hc
 have sbd:=xA hb hd
 have scc:=xA hc hc
 have scd:=xA hc hd
 have sdd:=xA hd hd
 refine jH Tryz.func123 rfl cb123 rfl ?_
 show qS _ _ _ _ ⟨[(0,(.d (vY (kK.mk a b c d))))],[]⟩
 refine jA<|kx [(1,(.ref 0 0))] [(0,some (bx (vY (kK.mk a b c d))))] (zN (vL 0)<|zM<|zZ) ?_
 refine jA<|kx [(2,(vi ((((a*a)+(b*b))+(c*c))+(d*d))))] [] (zE (kJ fo51_0)<|zR (kX qC)<|zE (kJ fo51_0)<|zR (kX qC)<|zE (nU (a*a) (hr:=by exact (qV rfl (by simp only[xZ];omega) (by simp only[zD];omega))))<|zE (kJ fo51_1)<|zR (kX qC)<|zE (kJ fo51_1)<|zR (kX qC)<|zE (nU (b*b) (hr:=by exact (qV rfl (by simp only[xZ];omega) (by simp only[zD];omega))))<|zE (zAd ((a*a)+(b*b)) (hr:=by exact (qV rfl (by simp only[xZ];omega) (by simp only[zD];omega))))<|zE (kJ fo51_2)<|zR (kX qC)<|zE (kJ fo51_2)<|zR (kX qC)<|zE (nU (c*c) (hr:=by exact (qV rfl (by simp only[xZ];omega) (by simp only[zD];omega))))<|zE (zAd (((a*a)+(b*b))+(c*c)) (hr:=by exact (qV rfl (by simp only[xZ];omega) (by simp only[zD];omega))))<|zE (kJ fo51_3)<|zR (kX qC)<|zE (kJ fo51_3)<|zR (kX qC)<|zE (nU (d*d) (hr:=by exact (qV rfl (by simp only[xZ];omega) (by simp only[zD];omega))))<|zE (zAd ((((a*a)+(b*b))+(c*c))+(d*d)) (hr:=by exact (qV rfl (by simp only[xZ];omega) (by simp only[zD];omega))))<|zM<|zZ) ?_
 refine jE ⟨_,(.tmp (d:=(.val (.int .i64 (((((a*a)+(b*b))+(c*c))+(d*d)))))) rfl .nil),?_⟩
 rfl
end Go.Proofs.YteimogfidbkpnaaGreat
namespace Go.Fid
theorem den_pos(u:Rat):((u.den:Nat):Int)≠0:=by have:=u.den_pos;omega
end Go.Fid
namespace Go.Proofs.YteimogfidbkpnaaGreat
open Go.Fid
theorem cb72:callB Tryz.prog 72=true:=by kernel_rfl
theorem cb103:callB Tryz.prog 103=true:=by kernel_rfl
theorem f_counted(x:kM)(a:Int)(hx:gU x a 68719476736):jR Tryz.prog 103 [(jJ x)] (jJ (jZ a)):=by
 refine jH Tryz.func103 rfl cb103 rfl ?_
 show qS _ _ _ _ ⟨[(0,(.d (jJ x)))],[]⟩
 refine jA<|kx [(1,(.ref 0 0)),(2,(.ref 1 0))] [(0,some (bx (jJ x))),(1,some (bx (jJ (kM.mk false []))))] (zN (vL 0)<|zN (uX 1 yI yL)<|zZ) ?_
 refine jA<|jA<|kx [(4,(vb (qY x)))] [] (zR (kI jS)<|zE (jX (t_valid x (Nat.le_trans hx.l (by decide))))<|zZ) ?_
 refine jG (b:=(qY x)) rfl (fun h1=>?_) (fun h1=>?_)
 ·refine jA<|kx [] [(1,some (bx (jJ x)))] (zR (kI jS)<|zT (qF jS)<|zZ) ?_
  refine jE ⟨_,(kV (cs:=(bx (jJ x))) (d:=(jJ x)) rfl rfl jS rfl rfl .nil),?_⟩
  rw[← hx.v,ofZ_toZ h1];rfl
 ·refine jC<|jA<|kx [] [(1,some (bx (jJ (jZ 0))))] (zE (jX (t_of 0 (by decide) (by decide)))<|zT (qF jS)<|zZ) ?_
  refine jE ⟨_,(kV (cs:=(bx (jJ (jZ 0)))) (d:=(jJ (jZ 0))) rfl rfl jS rfl rfl .nil),?_⟩
  rw[← hx.v,toZ_bad h1,ofZ_zero];rfl
theorem f_newO(num:kM)(a:Int)(cU:gU num a 68719476736)(den:kM)(b:Int)(mB:gU den b 68719476736)(hb:b≠0):jR Tryz.prog 72 [(jJ num),(jJ den)] (.tup [(jI (jF (Rat.divInt a b))),(.val (.int .i64 (0)))]):=by
 refine jH Tryz.func72 rfl cb72 rfl ?_
 show qS _ _ _ _ ⟨[(0,(.d (jJ num))),(1,(.d (jJ den)))],[]⟩
 refine jA<|kx [(2,(.ref 0 0)),(3,(.ref 1 0)),(4,(.ref 2 0))] [(0,some (bx (jJ num))),(1,some (bx (jJ den))),(2,some (bx (jI nT)))] (zN (vL 0)<|zN (vL 1)<|zN (uX 2 qW uI)<|zM<|zZ) ?_
 refine jA<|kd [] [(0,some (bx (jJ (jZ a)))),(1,some (bx (jJ (jZ b))))] mo (wR (kI jS)<|wE (jX (f_counted num a cU))<|wR (kI jS)<|wE (jX (f_counted den b mB))<|wT (qF jS)<|wT (qF jS)<|wZ) ?_
 refine jA<|jA<|kx [(12,(vb false))] [] (zR (kI jS)<|zE (jX (s_sign (cI (gU.ln mB)) (by decide)))<|zE (vG false oEq (by exact beq_eq_false_iff_ne.2 (signI_ne hb)))<|zZ) ?_
 refine kY ?_
 refine jC<|jA<|kx [(5,(jL 0))] [(2,some (bx (jI (jF (Rat.divInt a b)))))] (zR (kI jS)<|zR (kI jS)<|zE (jX (f_reduced (jZ a) (jZ b) a b (cI (gU.ln cU)) (cI (gU.ln mB)) (by assumption)))<|zT (qF jP)<|zM<|zZ) ?_
 refine jE ⟨_,(kV (cs:=(bx (jI (jF (Rat.divInt a b))))) (d:=(jI (jF (Rat.divInt a b)))) rfl rfl jP rfl rfl (.tmp (d:=(.val (.int .i64 (0)))) rfl .nil)),?_⟩
 rfl
theorem g_newO(num:kM)(a:Int)(cU:gU num a 68719476736)(den:kM)(b:Int)(mB:gU den b 68719476736)(hb:b≠0):jR Tryz.prog 32 [(jJ num),(jJ den)] (.tup [(jI (jF (Rat.divInt a b))),(.val (.int .i64 (0)))]):=by
 refine jH Tryz.func32 rfl cb32 rfl ?_
 show qS _ _ _ _ ⟨[(0,(.d (jJ num))),(1,(.d (jJ den)))],[]⟩
 refine jA<|kx [(2,(.ref 0 0)),(3,(.ref 1 0)),(4,(.ref 2 0))] [(0,some (bx (jJ num))),(1,some (bx (jJ den))),(2,some (bx (jI nT)))] (zN (vL 0)<|zN (vL 1)<|zN (uX 2 qW uI)<|zM<|zZ) ?_
 refine jA<|jA<|kx [(8,(vb false))] [] (zR (kI jS)<|zE (jX (rs_sign mB (by decide)))<|zE (vG false oEq (by exact beq_eq_false_iff_ne.2 (signI_ne hb)))<|zZ) ?_
 refine kY ?_
 refine jC<|jA<|kx [(5,(jL 0))] [(2,some (bx (jI (jF (Rat.divInt a b)))))] (zR (kI jS)<|zR (kI jS)<|zE (jX (g_reduced num den a b cU mB (by assumption)))<|zT (qF jP)<|zM<|zZ) ?_
 refine jE ⟨_,(kV (cs:=(bx (jI (jF (Rat.divInt a b))))) (d:=(jI (jF (Rat.divInt a b)))) rfl rfl jP rfl rfl (.tmp (d:=(.val (.int .i64 (0)))) rfl .nil)),?_⟩
 rfl
end Go.Proofs.YteimogfidbkpnaaGreat
namespace Go.Fid
end Go.Fid
namespace Go.Proofs.YteimogfidbkpnaaGreat
open Go.Fid
theorem cb13:callB Tryz.prog 13=true:=by kernel_rfl
end Go.Proofs.YteimogfidbkpnaaGreat
