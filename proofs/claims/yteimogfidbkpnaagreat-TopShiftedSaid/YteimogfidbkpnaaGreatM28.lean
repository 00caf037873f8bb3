/- Part 28 of a proof: rules, plain facts, and functions walked. -/
import Derived.Test.YteimogfidbkpnaaGreatM27
import Derived.Test.YteimogfidbkpnaaGreatM12
import Derived.Test.YteimogfidbkpnaaGreatM14
set_option linter.all false
set_option maxRecDepth 4000
namespace Go.Proofs.YteimogfidbkpnaaGreat
open Go.Fid
theorem cb4:callB Tryz.prog 4=true:=by kernel_rfl
theorem cb11:callB Tryz.prog 11=true:=by kernel_rfl
theorem cb12:callB Tryz.prog 12=true:=by kernel_rfl
theorem cb30:callB Tryz.prog 30=true:=by kernel_rfl
theorem fo58_0:uA Tryz.prog 58 0=some 0:=by kernel_rfl
theorem pl49:yR Tryz.prog 49=some [(0,1),(1,1),(2,1)]:=by kernel_rfl
theorem pl53:yR Tryz.prog 53=some [(0,3),(3,4),(7,1),(8,2)]:=by kernel_rfl
theorem pl55:yR Tryz.prog 55=some [(0,10),(10,10)]:=by kernel_rfl
theorem pl58:yR Tryz.prog 58=some [(0,4),(4,4)]:=by kernel_rfl
theorem sh58:kZ Tryz.prog 58=some (true,8):=by kernel_rfl
theorem ze53:uL Tryz.prog 53=some [.int .i64 0,.int .i64 0,.int .i64 0,.int .i64 0,.int .i64 0,.int .i64 0,.int .i64 0,.int .i64 0,.int .i64 0,.int .i64 0]:=by kernel_rfl
theorem ze55:uL Tryz.prog 55=some [.int .i64 0,.int .i64 0,.int .i64 0,.int .i64 0,.int .i64 0,.int .i64 0,.int .i64 0,.int .i64 0,.int .i64 0,.int .i64 0,.int .i64 0,.int .i64 0,.int .i64 0,.int .i64 0,.int .i64 0,.int .i64 0,.int .i64 0,.int .i64 0,.int .i64 0,.int .i64 0]:=by kernel_rfl
theorem ze58:uL Tryz.prog 58=some [.bool false,.slice none 0 0,.bool false,.slice none 0 0,.bool false,.slice none 0 0,.bool false,.slice none 0 0]:=by kernel_rfl
theorem zo53:gD [.int .i64 0,.int .i64 0,.int .i64 0,.int .i64 0,.int .i64 0,.int .i64 0,.int .i64 0,.int .i64 0,.int .i64 0,.int .i64 0] [.val (.int .i64 0),.val (.int .i64 0),.val (.int .i64 0),.val (.int .i64 0),.val (.int .i64 0),.val (.int .i64 0),.val (.int .i64 0),.val (.int .i64 0),.val (.int .i64 0),.val (.int .i64 0)]:=by simp [gD,Value.oneCell']
theorem zo55:gD [.int .i64 0,.int .i64 0,.int .i64 0,.int .i64 0,.int .i64 0,.int .i64 0,.int .i64 0,.int .i64 0,.int .i64 0,.int .i64 0,.int .i64 0,.int .i64 0,.int .i64 0,.int .i64 0,.int .i64 0,.int .i64 0,.int .i64 0,.int .i64 0,.int .i64 0,.int .i64 0] [.val (.int .i64 0),.val (.int .i64 0),.val (.int .i64 0),.val (.int .i64 0),.val (.int .i64 0),.val (.int .i64 0),.val (.int .i64 0),.val (.int .i64 0),.val (.int .i64 0),.val (.int .i64 0),.val (.int .i64 0),.val (.int .i64 0),.val (.int .i64 0),.val (.int .i64 0),.val (.int .i64 0),.val (.int .i64 0),.val (.int .i64 0),.val (.int .i64 0),.val (.int .i64 0),.val (.int .i64 0)]:=by simp [gD,Value.oneCell']
theorem zo58:gD [.bool false,.slice none 0 0,.bool false,.slice none 0 0,.bool false,.slice none 0 0,.bool false,.slice none 0 0] [.val (.bool false),.sl 121 1 [],.val (.bool false),.sl 121 1 [],.val (.bool false),.sl 121 1 [],.val (.bool false),.sl 121 1 []]:=by simp [gD,Value.oneCell']
theorem t_cp(base:Int)(focal:Int):jR Tryz.prog 11 [(.val (.int .i64 (base))),(.val (.int .i64 (focal)))] (gO (mC.mk (xN.mk (uG.mk 0 0 0) (kK.mk 1 0 0 0) focal (qI.mk 0 0)) (xN.mk (uG.mk base 0 0) (kK.mk 1 0 0 0) focal (qI.mk 0 0)))):=by
 refine jH Tryz.func11 rfl cb11 rfl ?_
 show qS _ _ _ _ ⟨[(0,(vi base)),(1,(vi focal))],[]⟩
 refine jA<|kx [(4,(.ref 0 0))] [(0,some (bx (gO (mC.mk (xN.mk (uG.mk 0 0 0) (kK.mk 0 0 0 0) 0 (qI.mk 0 0)) (xN.mk (uG.mk 0 0 0) (kK.mk 0 0 0 0) 0 (qI.mk 0 0))))))] (zN (uX 0 ze55 zo55)<|zZ) ?_
 refine jA<|kx [(5,(.ref 1 0))] [(1,some (bx (encStn (xN.mk (uG.mk 0 0 0) (kK.mk 1 0 0 0) focal (qI.mk 0 0)))))] (zE (oBd pl51 ze51 zo51)<|zM<|zE (oBd pl53 ze53 zo53)<|zN (uX 1 ze53 zo53)<|zT (qF sh53)<|zZ) ?_
 refine jA<|kx [(6,(.ref 2 0))] [(2,some (bx (encStn (xN.mk (uG.mk 0 0 0) (kK.mk 1 0 0 0) focal (qI.mk 0 0)))))] (zR (kI sh53)<|zN (uX 2 ze53 zo53)<|zT (qF sh53)<|zZ) ?_
 refine jA<|kx [] [(2,some (bx (encStn (xN.mk (uG.mk base 0 0) (kK.mk 1 0 0 0) focal (qI.mk 0 0)))))] (zM<|zE (kJ fo53_0)<|zE (kJ fo49_0)<|zT (qF qC)<|zZ) ?_
 refine jA<|kx [] [(0,some (bx (gO (mC.mk (xN.mk (uG.mk 0 0 0) (kK.mk 1 0 0 0) focal (qI.mk 0 0)) (xN.mk (uG.mk base 0 0) (kK.mk 1 0 0 0) focal (qI.mk 0 0))))))] (zR (kI sh53)<|zR (kI sh53)<|zE (oBd pl55 ze55 zo55)<|zT (qF sh55)<|zZ) ?_
 refine jE ⟨_,(kV (cs:=(bx (gO (mC.mk (xN.mk (uG.mk 0 0 0) (kK.mk 1 0 0 0) focal (qI.mk 0 0)) (xN.mk (uG.mk base 0 0) (kK.mk 1 0 0 0) focal (qI.mk 0 0)))))) (d:=(gO (mC.mk (xN.mk (uG.mk 0 0 0) (kK.mk 1 0 0 0) focal (qI.mk 0 0)) (xN.mk (uG.mk base 0 0) (kK.mk 1 0 0 0) focal (qI.mk 0 0))))) rfl rfl sh55 rfl rfl .nil),?_⟩
 rfl
theorem t_opt(focal:Int)(hfocall:1≤focal)(hfocalh:focal≤1048576)(base:Int)(hbasel:1≤base)(hbaseh:base≤1048576):jR Tryz.prog 30 [(.val (.int .i64 (focal))),(.val (.int .i64 (base)))] (.val (.int .i64 (0))):=by
 refine jH Tryz.func30 rfl cb30 rfl ?_
 show qS _ _ _ _ ⟨[(0,(vi focal)),(1,(vi base))],[]⟩
 refine jA<|kx [] [] (zM<|zZ) ?_
 refine jA<|jA<|kx [(18,(vb false))] [] (zM<|zE (vG false uE (by exact decide_eq_false (by omega)))<|zM<|zM<|zE (vG false gF (by exact decide_eq_false (by omega)))<|zE cB<|zM<|zM<|zE (vG false uE (by exact decide_eq_false (by omega)))<|zE cB<|zM<|zM<|zE (vG false gF (by exact decide_eq_false (by omega)))<|zE cB<|zZ) ?_
 refine kY ?_
 refine jC<|jA<|kx [(4,(jL 0))] [] (zM<|zZ) ?_
 refine jE ⟨_,(.tmp (d:=(.val (.int .i64 (0)))) rfl .nil),?_⟩
 rfl
theorem t_intv(focal:Int)(hfocall:1≤focal)(hfocalh:focal≤1048576)(base:Int)(hbasel:1≤base)(hbaseh:base≤1048576)(d:Int)(hdl:1≤d)(hdh:d≤1048576):jR Tryz.prog 12 [(.val (.int .i64 (focal))),(.val (.int .i64 (base))),(.val (.int .i64 (d)))] (.tup [(encG (RRng.mk (jF (Rat.divInt (focal*base) (32*((2*d)+1)))) (jF (Rat.divInt (focal*base) (32*((2*d)-1)))))),(.val (.int .i64 (0)))]):=by
 have hfb:=fb_b (a:=focal) (b:=base) (by omega) (by omega)
 refine jH Tryz.func12 rfl cb12 rfl ?_
 show qS _ _ _ _ ⟨[(0,(vi focal)),(1,(vi base)),(2,(vi d))],[]⟩
 refine jA<|kx [(6,(.ref 0 0))] [(0,some (bx (encG (RRng.mk nT nT))))] (zN (uX 0 ze58 zo58)<|zM<|zZ) ?_
 refine jA<|jA<|kx [(8,(vi 0))] [] (zM<|zM<|zE (jX (t_opt focal (by omega) (by omega) base (by omega) (by omega)))<|zM<|zZ) ?_
 refine jA<|kx [(17,(vb false))] [] (zM<|zE oNe<|zZ) ?_
 refine kY ?_
 refine jC<|jA<|jA<|kx [(25,(vb false))] [] (zM<|zE (vG false uE (by exact decide_eq_false (by omega)))<|zM<|zM<|zE (vG false gF (by exact decide_eq_false (by omega)))<|zE cB<|zZ) ?_
 refine kY ?_
 refine jC<|jA<|kx [(9,(.ref 1 0))] [(1,some (bx (jI (jF (Rat.divInt (focal*base) (32*((2*d)+1)))))))] (zM<|zM<|zE (nU (focal*base))<|zM<|zE (nU (2*d))<|zE (zAd ((2*d)+1))<|zE (nU (32*((2*d)+1)))<|zE (jX (q_of (focal*base) (by omega) (by omega) (32*((2*d)+1)) (by omega) (by omega) (by omega)))<|zM<|zE vQ<|zE vQ<|zN (uX 1 qW uI)<|zT (qF jP)<|zM<|zZ) ?_
 refine jA<|kx [(11,(.ref 2 0))] [(2,some (bx (jI (jF (Rat.divInt (focal*base) (32*((2*d)-1)))))))] (zM<|zM<|zE (nU (focal*base))<|zM<|zE (nU (2*d))<|zE (cN ((2*d)-1))<|zE (nU (32*((2*d)-1)))<|zE (jX (q_of (focal*base) (by omega) (by omega) (32*((2*d)-1)) (by omega) (by omega) (by omega)))<|zM<|zE vQ<|zE vQ<|zN (uX 2 qW uI)<|zT (qF jP)<|zM<|zZ) ?_
 refine jA<|kx [(7,(jL 0))] [(0,some (bx (encG (RRng.mk (jF (Rat.divInt (focal*base) (32*((2*d)+1)))) (jF (Rat.divInt (focal*base) (32*((2*d)-1))))))))] (zR (kI jP)<|zR (kI jP)<|zE (oBd pl58 ze58 zo58)<|zT (qF sh58)<|zM<|zZ) ?_
 refine jE ⟨_,(kV (cs:=(bx (encG (RRng.mk (jF (Rat.divInt (focal*base) (32*((2*d)+1)))) (jF (Rat.divInt (focal*base) (32*((2*d)-1)))))))) (d:=(encG (RRng.mk (jF (Rat.divInt (focal*base) (32*((2*d)+1)))) (jF (Rat.divInt (focal*base) (32*((2*d)-1))))))) rfl rfl sh58 rfl rfl (.tmp (d:=(.val (.int .i64 (0)))) rfl .nil)),?_⟩
 rfl
set_option maxHeartbeats 4000000 in
theorem t_rect :jR Tryz.prog 4 [] (.val (.bool (true))):=by
 let y1:=(jF ((kS ((1:Int):Rat) ((0:Int):Rat) ((0:Int):Rat) ((100:Int):Rat) ((0:Int):Rat) ((0:Int):Rat)) / (kS ((0:Int):Rat) ((0:Int):Rat) ((1:Int):Rat) ((5:Int):Rat) ((7:Int):Rat) ((500:Int):Rat))))
 refine jH Tryz.func4 rfl cb4 rfl ?_
 show qS _ _ _ _ ⟨[],[]⟩
 refine jA<|kx [] [] (zM<|zZ) ?_
 refine jA ?_
 have bn1:QL ((kS ((1:Int):Rat) ((0:Int):Rat) ((0:Int):Rat) ((5:Int):Rat) ((7:Int):Rat) ((500:Int):Rat)) / (kS ((0:Int):Rat) ((0:Int):Rat) ((1:Int):Rat) ((5:Int):Rat) ((7:Int):Rat) ((500:Int):Rat))) 4804:=(ql_div (k:=4804) (xJ (n:=400) (k:=2402) (kN (z:=1) (n:=400) (Nat.le_trans (jM (by decide) (by decide)) (by decide)) (by decide)) (kN (z:=0) (n:=400) (Nat.le_trans (jM (by decide) (by decide)) (by decide)) (by decide)) (kN (z:=0) (n:=400) (Nat.le_trans (jM (by decide) (by decide)) (by decide)) (by decide)) (xO (kN (z:=5) (n:=3) (Nat.le_trans (uM (by decide)) (by decide)) (by decide)) (by decide)) (xO (kN (z:=7) (n:=3) (Nat.le_trans (uM (by decide)) (by decide)) (by decide)) (by decide)) (xO (kN (z:=500) (n:=3) (Nat.le_trans (uM (by decide)) (by decide)) (by decide)) (by decide)) (by decide)) (xJ (n:=400) (k:=2402) (kN (z:=0) (n:=400) (Nat.le_trans (jM (by decide) (by decide)) (by decide)) (by decide)) (kN (z:=0) (n:=400) (Nat.le_trans (jM (by decide) (by decide)) (by decide)) (by decide)) (kN (z:=1) (n:=400) (Nat.le_trans (jM (by decide) (by decide)) (by decide)) (by decide)) (xO (kN (z:=5) (n:=3) (Nat.le_trans (uM (by decide)) (by decide)) (by decide)) (by decide)) (xO (kN (z:=7) (n:=3) (Nat.le_trans (uM (by decide)) (by decide)) (by decide)) (by decide)) (xO (kN (z:=500) (n:=3) (Nat.le_trans (uM (by decide)) (by decide)) (by decide)) (by decide)) (by decide)) (by decide))
 have bn2:QL ((kS ((0:Int):Rat) ((1:Int):Rat) ((0:Int):Rat) ((5:Int):Rat) ((7:Int):Rat) ((500:Int):Rat)) / (kS ((0:Int):Rat) ((0:Int):Rat) ((1:Int):Rat) ((5:Int):Rat) ((7:Int):Rat) ((500:Int):Rat))) 4804:=(ql_div (k:=4804) (xJ (n:=400) (k:=2402) (kN (z:=0) (n:=400) (Nat.le_trans (jM (by decide) (by decide)) (by decide)) (by decide)) (kN (z:=1) (n:=400) (Nat.le_trans (jM (by decide) (by decide)) (by decide)) (by decide)) (kN (z:=0) (n:=400) (Nat.le_trans (jM (by decide) (by decide)) (by decide)) (by decide)) (xO (kN (z:=5) (n:=3) (Nat.le_trans (uM (by decide)) (by decide)) (by decide)) (by decide)) (xO (kN (z:=7) (n:=3) (Nat.le_trans (uM (by decide)) (by decide)) (by decide)) (by decide)) (xO (kN (z:=500) (n:=3) (Nat.le_trans (uM (by decide)) (by decide)) (by decide)) (by decide)) (by decide)) (xJ (n:=400) (k:=2402) (kN (z:=0) (n:=400) (Nat.le_trans (jM (by decide) (by decide)) (by decide)) (by decide)) (kN (z:=0) (n:=400) (Nat.le_trans (jM (by decide) (by decide)) (by decide)) (by decide)) (kN (z:=1) (n:=400) (Nat.le_trans (jM (by decide) (by decide)) (by decide)) (by decide)) (xO (kN (z:=5) (n:=3) (Nat.le_trans (uM (by decide)) (by decide)) (by decide)) (by decide)) (xO (kN (z:=7) (n:=3) (Nat.le_trans (uM (by decide)) (by decide)) (by decide)) (by decide)) (xO (kN (z:=500) (n:=3) (Nat.le_trans (uM (by decide)) (by decide)) (by decide)) (by decide)) (by decide)) (by decide))
 have bn3:QL ((kS ((1:Int):Rat) ((0:Int):Rat) ((0:Int):Rat) ((100:Int):Rat) ((0:Int):Rat) ((0:Int):Rat)) / (kS ((0:Int):Rat) ((0:Int):Rat) ((1:Int):Rat) ((5:Int):Rat) ((7:Int):Rat) ((500:Int):Rat))) 4804:=(ql_div (k:=4804) (xJ (n:=400) (k:=2402) (kN (z:=1) (n:=400) (Nat.le_trans (jM (by decide) (by decide)) (by decide)) (by decide)) (kN (z:=0) (n:=400) (Nat.le_trans (jM (by decide) (by decide)) (by decide)) (by decide)) (kN (z:=0) (n:=400) (Nat.le_trans (jM (by decide) (by decide)) (by decide)) (by decide)) (xO (kN (z:=100) (n:=3) (jM (by decide) (by decide)) (by decide)) (by decide)) (xO (kN (z:=0) (n:=3) (jM (by decide) (by decide)) (by decide)) (by decide)) (xO (kN (z:=0) (n:=3) (jM (by decide) (by decide)) (by decide)) (by decide)) (by decide)) (xJ (n:=400) (k:=2402) (kN (z:=0) (n:=400) (Nat.le_trans (jM (by decide) (by decide)) (by decide)) (by decide)) (kN (z:=0) (n:=400) (Nat.le_trans (jM (by decide) (by decide)) (by decide)) (by decide)) (kN (z:=1) (n:=400) (Nat.le_trans (jM (by decide) (by decide)) (by decide)) (by decide)) (xO (kN (z:=5) (n:=3) (Nat.le_trans (uM (by decide)) (by decide)) (by decide)) (by decide)) (xO (kN (z:=7) (n:=3) (Nat.le_trans (uM (by decide)) (by decide)) (by decide)) (by decide)) (xO (kN (z:=500) (n:=3) (Nat.le_trans (uM (by decide)) (by decide)) (by decide)) (by decide)) (by decide)) (by decide))
 refine kx [(2,(.ref 1 0)),(3,(vi 0))] [(1,some (bx (jI y1))),(0,none)] (zE (jX (t_cp 100 640))<|zE (oBd pl49 ze49 zo49)<|zE (jX (q_prj 0 0 0 1 0 0 0 640 0 0 100 0 0 1 0 0 0 640 0 0 5 7 500 (by omega) (by omega) (by omega) ((100:Int):Rat) ((0:Int):Rat) ((0:Int):Rat) ((1:Int):Rat) ((0:Int):Rat) ((0:Int):Rat) ((0:Int):Rat) ((1:Int):Rat) ((0:Int):Rat) ((0:Int):Rat) ((0:Int):Rat) ((1:Int):Rat) (by decide +kernel) (kN (z:=100) (n:=3) (jM (by decide) (by decide)) (by decide)) (kN (z:=0) (n:=3) (jM (by decide) (by decide)) (by decide)) (kN (z:=0) (n:=3) (jM (by decide) (by decide)) (by decide)) (kN (z:=1) (n:=400) (Nat.le_trans (jM (by decide) (by decide)) (by decide)) (by decide)) (kN (z:=0) (n:=400) (Nat.le_trans (jM (by decide) (by decide)) (by decide)) (by decide)) (kN (z:=0) (n:=400) (Nat.le_trans (jM (by decide) (by decide)) (by decide)) (by decide)) (kN (z:=0) (n:=400) (Nat.le_trans (jM (by decide) (by decide)) (by decide)) (by decide)) (kN (z:=1) (n:=400) (Nat.le_trans (jM (by decide) (by decide)) (by decide)) (by decide)) (kN (z:=0) (n:=400) (Nat.le_trans (jM (by decide) (by decide)) (by decide)) (by decide)) (kN (z:=0) (n:=400) (Nat.le_trans (jM (by decide) (by decide)) (by decide)) (by decide)) (kN (z:=0) (n:=400) (Nat.le_trans (jM (by decide) (by decide)) (by decide)) (by decide)) (kN (z:=1) (n:=400) (Nat.le_trans (jM (by decide) (by decide)) (by decide)) (by decide)) ((5:Int):Rat) (by decide +kernel) ((7:Int):Rat) (by decide +kernel) ((500:Int):Rat) (by decide +kernel) (by decide +kernel) (by decide +kernel) (by decide +kernel) (by decide +kernel)))<|zM<|zE vQ<|zE vQ<|zE vQ<|zN (uX 0 ze45 zo45)<|zN (uX 1 qW uI)<|zT (qF sh45)<|zT (qF jP)<|zM<|zZ) ?_
 refine jA ?_
 have bn4:QL (Rat.divInt (640*100) (32*((2*2)+1))) 3:=(qN (n:=3) (jM (by omega) (by omega)) (jM (by omega) (by omega)) (by decide))
 have bn5:QL (Rat.divInt (640*100) (32*((2*2)-1))) 3:=(qN (n:=3) (jM (by omega) (by omega)) (jM (by omega) (by omega)) (by decide))
 refine kx [(4,(.ref 2 0)),(5,(vi 0))] [(2,some (bx (encG (RRng.mk (jF (Rat.divInt (640*100) (32*((2*2)+1)))) (jF (Rat.divInt (640*100) (32*((2*2)-1))))))))] (zE (jX (t_intv 640 (by omega) (by omega) 100 (by omega) (by omega) 2 (by omega) (by omega)))<|zM<|zE vQ<|zE vQ<|zN (uX 2 ze58 zo58)<|zT (qF sh58)<|zM<|zZ) ?_
 refine jA ?_
 have bn6:QL (Rat.divInt 1 5) 3:=(qN (n:=3) (jM (by omega) (by omega)) (jM (by omega) (by omega)) (by decide))
 refine kx [(6,(.ref 3 0))] [(3,some (bx (jI (jF (Rat.divInt 1 5)))))] (zE (jX (qs_of 1 (by omega) (by omega) 5 (by omega) (by omega) (by decide +kernel)))<|zM<|zE vQ<|zE vQ<|zN (uX 3 qW uI)<|zT (qF jP)<|zM<|zZ) ?_
 refine jA ?_
 have bn7:QL ((400:Int):Rat) 1:=(kN (z:=400) (uM (by decide)) (by decide))
 refine kd [(0,(vb true))] [] mo (wM<|wE oEq<|wM<|wM<|wE oEq<|wE xB<|wM<|wR (kI jP)<|wR (kI jP)<|wE (vG true (jX (by have h:=g_same y1 (jF (Rat.divInt 1 5)) ((kS ((1:Int):Rat) ((0:Int):Rat) ((0:Int):Rat) ((100:Int):Rat) ((0:Int):Rat) ((0:Int):Rat)) / (kS ((0:Int):Rat) ((0:Int):Rat) ((1:Int):Rat) ((5:Int):Rat) ((7:Int):Rat) ((500:Int):Rat))) (Rat.divInt 1 5) (kO (kQ bn3) (by decide)) (kO (kQ bn6) (by decide));rw[sameR_of] at h;exact h)) (by exact (by decide +kernel)))<|wE xB<|wM<|wE (kJ fo58_0)<|wR (kI jP)<|wE (jX (g_whole 400 (by decide) (by decide)))<|wE (vG true (jX (by have h:=g_same (jF (Rat.divInt (640*100) (32*((2*2)+1)))) (jF ((400:Int):Rat)) (Rat.divInt (640*100) (32*((2*2)+1))) ((400:Int):Rat) (kO (kQ bn4) (by decide)) (kO (kQ bn7) (by decide));rw[sameR_of] at h;exact h)) (by exact (by decide +kernel)))<|wE xB<|wM<|wZ) ?_
 refine jE ⟨_,(.tmp (d:=(.val (.bool (true)))) rfl .nil),?_⟩
 rfl
theorem cb5:callB Tryz.prog 5=true:=by kernel_rfl
theorem p_rchk(w h mx:Int)(px:List Int)(hb:px.length≤1000000):jR Tryz.prog 5 [(jN (kG.mk w h mx px))] (.val (.int .i64 ((gG w h mx px)))):=by
 refine jH Tryz.func5 rfl cb5 rfl ?_
 show qS _ _ _ _ ⟨[(0,(.d (jN (kG.mk w h mx px))))],[]⟩
 refine jA<|kx [(1,(.ref 0 0))] [(0,some (bx (jN (kG.mk w h mx px))))] (zN (vL 0)<|zM<|zZ) ?_
 refine jA<|jA<|kx [(42,(vb ((((((decide (w<1)||decide (64<w))||decide (h<1))||decide (64<h))||decide (mx<1))||decide (65535<mx))||(((px.length:Nat):Int) != (w*h)))))] [] ?_ ?_
 ·refine zE (kJ uC)<|zR (kX qC)<|zE uE<|zE (oV (vb (decide (w<1))) (kT (by kernel_rfl)))<|?_
  rcases hb1:(decide (w<1)) with _ | _
  ·replace hb1:=vK hb1
   refine zE (kJ uC)<|zR (kX qC)<|zE gF<|zE nS<|zE (oV (vb (false||decide (64<w))) (kT (by kernel_rfl)))<|?_
   rcases hb2:(false||decide (64<w)) with _ | _
   ·replace hb2:=vK (p:=(64<w)) hb2
    refine zE (kJ zL)<|zR (kX qC)<|zE uE<|zE nS<|zE (oV (vb (false||decide (h<1))) (kT (by kernel_rfl)))<|?_
    rcases hb3:(false||decide (h<1)) with _ | _
    ·replace hb3:=vK (p:=(h<1)) hb3
     refine zE (kJ zL)<|zR (kX qC)<|zE gF<|zE nS<|zE (oV (vb (false||decide (64<h))) (kT (by kernel_rfl)))<|?_
     rcases hb4:(false||decide (64<h)) with _ | _
     ·replace hb4:=vK (p:=(64<h)) hb4
      refine zE (kJ dT)<|zR (kX qC)<|zE uE<|zE nS<|zE (oV (vb (false||decide (mx<1))) (kT (by kernel_rfl)))<|?_
      rcases hb5:(false||decide (mx<1)) with _ | _
      ·replace hb5:=vK (p:=(mx<1)) hb5
       refine zE (kJ dT)<|zR (kX qC)<|zE gF<|zE nS<|zE (oV (vb (false||decide (65535<mx))) (kT (by kernel_rfl)))<|?_
       rcases hb6:(false||decide (65535<mx)) with _ | _
       ·replace hb6:=vK (p:=(65535<mx)) hb6
        exact zE (kJ uY)<|zR (kX xT)<|zE (yU vI (L:=px))<|zE (kJ uC)<|zR (kX qC)<|zE (kJ zL)<|zR (kX qC)<|zE (nU (w*h) (hr:=by exact (qV rfl (by have hq:=wh_bd (w:=w) (h:=h) (by omega) (by omega) (by omega) (by omega);simp only[xZ];omega) (by have hq:=wh_bd (w:=w) (h:=h) (by omega) (by omega) (by omega) (by omega);simp only[zD];omega))))<|zE oNe<|zE nS<|zZ
       ·replace hb6:=vM (p:=(65535<mx)) hb6
        exact zK<|zK<|zK<|zK<|zK<|zK<|zK<|zK<|zK<|zE xB<|zZ
      ·replace hb5:=vM (p:=(mx<1)) hb5
       exact zK<|zK<|zK<|zE xB<|zM<|zK<|zK<|zK<|zK<|zK<|zK<|zK<|zK<|zK<|zE xB<|zZ
     ·replace hb4:=vM (p:=(64<h)) hb4
      exact zK<|zK<|zK<|zE xB<|zM<|zK<|zK<|zK<|zE xB<|zM<|zK<|zK<|zK<|zK<|zK<|zK<|zK<|zK<|zK<|zE xB<|zZ
    ·replace hb3:=vM (p:=(h<1)) hb3
     exact zK<|zK<|zK<|zE xB<|zM<|zK<|zK<|zK<|zE xB<|zM<|zK<|zK<|zK<|zE xB<|zM<|zK<|zK<|zK<|zK<|zK<|zK<|zK<|zK<|zK<|zE xB<|zZ
   ·replace hb2:=vM (p:=(64<w)) hb2
    exact zK<|zK<|zK<|zE xB<|zM<|zK<|zK<|zK<|zE xB<|zM<|zK<|zK<|zK<|zE xB<|zM<|zK<|zK<|zK<|zE xB<|zM<|zK<|zK<|zK<|zK<|zK<|zK<|zK<|zK<|zK<|zE xB<|zZ
  ·replace hb1:=vM hb1
   exact zK<|zK<|zK<|zE xB<|zM<|zK<|zK<|zK<|zE xB<|zM<|zK<|zK<|zK<|zE xB<|zM<|zK<|zK<|zK<|zE xB<|zM<|zK<|zK<|zK<|zE xB<|zM<|zK<|zK<|zK<|zK<|zK<|zK<|zK<|zK<|zK<|zE xB<|zZ
 refine jG rfl (fun h7=>?_) (fun h7=>?_)
 ·refine jA<|kx [(2,(jL 1))] [] (zM<|zZ) ?_
  refine jE ⟨_,(.tmp (d:=(.val (.int .i64 (1)))) rfl .nil),?_⟩
  rw[chk_1 ((chkB2_eq w h mx px).symm.trans h7)];rfl
 ·refine jC<|jA<|jA<|kx [(3,(jL 0))] [] (zM<|zZ) ?_
  refine jD<|kP (α:=Nat) (fun k=>⟨[(1,(.ref 0 0)),(3,(jL k))],[(0,some (bx (jN (kG.mk w h mx px))))]⟩) (fun k=>k≤px.length∧(px.take k).any (gB mx)=false) (fun k=>px.length-k) 0 wk ⟨Nat.zero_le _,rfl⟩ ?_
  rintro k ⟨hk,hv⟩
  refine jA<|jA<|kx [(47,(vb (decide (((k:Nat):Int)<((px.length:Nat):Int)))))] [] (zM<|zE (kJ uY)<|zR (kX xT)<|zE (yU vI (L:=px))<|zE uE<|zZ) ?_
  refine jG rfl (fun h8=>?_) (fun h8=>?_)
  ·replace h8:=vM h8
   refine jC<|jA<|jD<|jA<|kd [(65,(vb (decide ((px.getD k 0)<0)||decide (mx<(px.getD k 0)))))] [] mo ?_ ?_
   ·refine wE (kJ uY)<|wR (kX xT)<|wM<|wE (nG vI k (0:Int) (L:=px))<|wE (xE qC)<|wE uE<|wE (oV (vb (decide ((px.getD k 0)<0))) (kT (by kernel_rfl)))<|?_
    rcases hb9:(decide ((px.getD k 0)<0)) with _ | _
    ·replace hb9:=vK hb9
     exact wE (kJ uY)<|wR (kX xT)<|wM<|wE (nG vI k (0:Int) (L:=px))<|wE (xE qC)<|wE (kJ dT)<|wR (kX qC)<|wE gF<|wE nS<|wZ
    ·replace hb9:=vM hb9
     exact wK<|wK<|wK<|wK<|wK<|wK<|wK<|wK<|wE xB<|wZ
   refine jG rfl (fun h10=>?_) (fun h10=>?_)
   ·refine jA<|kx [(2,(jL 1))] [] (zM<|zZ) ?_
    refine jE ⟨_,(.tmp (d:=(.val (.int .i64 (1)))) rfl .nil),?_⟩
    rw[chk_2 (py_any_at (f:=gB mx) (k:=k) (by omega) h10)];rfl
   ·refine jC<|kx [(3,(jL (k+1)))] [] (zM<|zE (qP (k+1))<|zM<|zZ) ?_
    exact ⟨(k+1),wk,⟨by omega,py_any_step hv (by omega) h10⟩,(by omega)⟩
  ·replace h8:=vK h8
   refine jV<|jA<|kx [(2,(jL 0))] [] (zM<|zZ) ?_
   refine jE ⟨_,(.tmp (d:=(.val (.int .i64 (0)))) rfl .nil),?_⟩
   rw[chk_3 ((chkB2_eq w h mx px).symm.trans h7) (py_any_end hv (by omega))];rfl
end Go.Proofs.YteimogfidbkpnaaGreat
