/- Part 24 of a proof: rules, plain facts, and functions walked. -/
import Derived.Test.YtnajallgoaiahaaGreatDoorM23
set_option linter.all false
set_option maxRecDepth 4000
namespace Go.Proofs.YtnajallgoaiahaaGreatDoor
open Go.Fid
theorem cb185:callB Tryz.prog 185=true:=by kernel_rfl
theorem cb186:callB Tryz.prog 186=true:=by kernel_rfl
theorem cb188:callB Tryz.prog 188=true:=by kernel_rfl
theorem cb189:callB Tryz.prog 189=true:=by kernel_rfl
theorem cb190:callB Tryz.prog 190=true:=by kernel_rfl
theorem cb191:callB Tryz.prog 191=true:=by kernel_rfl
theorem cb194:callB Tryz.prog 194=true:=by kernel_rfl
theorem cb195:callB Tryz.prog 195=true:=by kernel_rfl
theorem cb197:callB Tryz.prog 197=true:=by kernel_rfl
theorem cb199:callB Tryz.prog 199=true:=by kernel_rfl
theorem cb201:callB Tryz.prog 201=true:=by kernel_rfl
theorem cb203:callB Tryz.prog 203=true:=by kernel_rfl
theorem cb204:callB Tryz.prog 204=true:=by kernel_rfl
theorem cb205:callB Tryz.prog 205=true:=by kernel_rfl
theorem cb243:callB Tryz.prog 243=true:=by kernel_rfl
theorem nA:xP Tryz.prog 83 1=some 1:=by kernel_rfl
theorem dU:xP Tryz.prog 83 3=some 3:=by kernel_rfl
theorem gX:xP Tryz.prog 95 0=some 0:=by kernel_rfl
theorem nZ:xP Tryz.prog 95 1=some 8:=by kernel_rfl
theorem fo161_2:xP Tryz.prog 161 2=some 2:=by kernel_rfl
theorem sh70:qO Tryz.prog 70=some (false,1):=by kernel_rfl
theorem iG:qO Tryz.prog 86=some (false,1):=by kernel_rfl
theorem eH:qO Tryz.prog 159=some (false,1):=by kernel_rfl
theorem j_round(n:Nat)(x:jS)(a:R2)(ha:GL 67108864 a):jP Tryz.prog 243 [(.cptr 1000000 (jS.cells (mcA n x false)) 0),(jJ (kP a))] (jJ (kP a)):=by
 refine jI Tryz.func243 rfl cb243 rfl ?_
 show qJ _ _ _ _ ⟨[(0,(.d (.cptr 1000000 (jS.cells (mcA n x false)) 0))),(1,(.d (jJ (kP a))))],[]⟩
 refine jB<|kx [(3,(.ref 0 0)),(4,(.ref 1 0))] [(0,some (bx (jJ (kP a)))),(1,some (bx (jJ (jZ.mk qH qH))))] (zN (vW 0)<|zN (uF 1 uH uR)<|zZ) ?_
 refine jB<|jB<|kx [(9,(vb true))] [] (zM<|zE oNd<|zE (oFc fo161_2)<|zE (xO cS)<|zE (vZ true xG)<|zZ) ?_
 refine xT ?_
 refine jB<|kx [] [(1,some (bx (jJ (kP a))))] (zR (kM kI)<|zT (qK kI)<|zZ) ?_
 refine jE ⟨_,(kN (cs:=(bx (jJ (kP a)))) (d:=(jJ (kP a))) rfl rfl kI rfl rfl .nil),?_⟩
 rfl
theorem j_negop(a:R2)(ha:GL 67108864 a)(b:R2)(hb:GL 67108864 b)(zz:R2)(hzz:GL 3 zz):jP Tryz.prog 194 [(jJ (kP a)),(jJ (kP b)),(.cptr 1000000 (jS.cells (jJ (kP zz))) 0)] (jJ (kP (vA zz a))):=by
 refine jI Tryz.func194 rfl cb194 rfl ?_
 show qJ _ _ _ _ ⟨[(0,(.d (jJ (kP a)))),(1,(.d (jJ (kP b)))),(2,(.d (.cptr 1000000 (jS.cells (jJ (kP zz))) 0)))],[]⟩
 refine jB<|kx [(3,(.ref 0 0)),(5,(.ref 2 0))] [(0,some (bx (jJ (kP a)))),(2,some (bx (jJ (jZ.mk qH qH)))),(1,none)] (zN (vW 0)<|zN (vW 1)<|zN (uF 2 uH uR)<|zZ) ?_
 refine jB<|kx [] [(2,some (bx (jJ (kP (vA zz a)))))] (zE (nR kI)<|zR (kM kI)<|zE (jX (j_sub zz (uA hzz (by decide)) a ha))<|zT (qK kI)<|zZ) ?_
 refine jE ⟨_,(kN (cs:=(bx (jJ (kP (vA zz a))))) (d:=(jJ (kP (vA zz a)))) rfl rfl kI rfl rfl .nil),?_⟩
 rfl
theorem j_vAdd(n:Nat)(u:JV)(hu:mD 1048576 n u)(v:JV)(hv:mD 1048576 n v):jP Tryz.prog 185 [(.cptr 1000000 (jS.cells (.val (.func (.func 192) #[] #[]))) 0),(.cptr 1000000 (jS.cells (jL (qI u))) 0),(.cptr 1000000 (jS.cells (jL (qI v))) 0)] (jJ (kP (hZ u.v v.v))):=by
 refine jI Tryz.func185 rfl cb185 rfl ?_
 show qJ _ _ _ _ ⟨[(0,(.d (.cptr 1000000 (jS.cells (.val (.func (.func 192) #[] #[]))) 0))),(1,(.d (.cptr 1000000 (jS.cells (jL (qI u))) 0))),(2,(.d (.cptr 1000000 (jS.cells (jL (qI v))) 0)))],[]⟩
 refine jB<|kx [(3,(.ref 0 0))] [(0,some (bx (jJ (jZ.mk qH qH))))] (zN (uF 0 uH uR)<|zZ) ?_
 refine jB<|kx [] [(0,some (bx (jJ (kP (hZ u.v v.v)))))] (zE (xO sh70)<|zE (oFc gX)<|zE (nR kI)<|zE (oFc gX)<|zE (nR kI)<|zE (jX (j_add u.v (uA hu.1 (by decide)) v.v (uA hv.1 (by decide))))<|zT (qK kI)<|zZ) ?_
 refine jE ⟨_,(kN (cs:=(bx (jJ (kP (hZ u.v v.v))))) (d:=(jJ (kP (hZ u.v v.v)))) rfl rfl kI rfl rfl .nil),?_⟩
 rfl
theorem j_gAdd(wp:jS)(i:Nat)(n:Nat)(u:JV)(hu:mD 1048576 n u)(v:JV)(hv:mD 1048576 n v)(hi:i<n):jP Tryz.prog 186 [(wp),(.val (.int .i64 (((i:Nat):Int)))),(.cptr 1000000 (jS.cells (.val (.func (.func 192) #[] #[]))) 0),(.cptr 1000000 (jS.cells (jL (qI u))) 0),(.cptr 1000000 (jS.cells (jL (qI v))) 0)] (jJ (kP (hZ (u.g.getD i z2) (v.g.getD i z2)))):=by
 have hul:=hu.2.2
 have hvl:=hv.2.2
 refine jI Tryz.func186 rfl cb186 rfl ?_
 show qJ _ _ _ _ ⟨[(0,(.d (wp))),(1,(jR i)),(2,(.d (.cptr 1000000 (jS.cells (.val (.func (.func 192) #[] #[]))) 0))),(3,(.d (.cptr 1000000 (jS.cells (jL (qI u))) 0))),(4,(.d (.cptr 1000000 (jS.cells (jL (qI v))) 0)))],[]⟩
 refine jB<|kx [(7,(.ref 0 0))] [(0,some (bx (jJ (jZ.mk qH qH))))] (zN (uF 0 uH uR)<|zZ) ?_
 refine jB<|kd [] [(0,some (bx (jJ (kP (hZ (u.g.getD i z2) (v.g.getD i z2))))))] mo (wE (xO sh70)<|wE (oFc nZ)<|wE (xO iG)<|wM<|wE (oXm gP kP i z2)<|wE (nR kI)<|wE (oFc nZ)<|wE (xO iG)<|wM<|wE (oXm gP kP i z2)<|wE (nR kI)<|wE (jX (j_add (u.g.getD i z2) (uA (xB hu.2.1 (by decide) i) (by decide)) (v.g.getD i z2) (uA (xB hv.2.1 (by decide) i) (by decide))))<|wT (qK kI)<|wZ) ?_
 refine jE ⟨_,(kN (cs:=(bx (jJ (kP (hZ (u.g.getD i z2) (v.g.getD i z2)))))) (d:=(jJ (kP (hZ (u.g.getD i z2) (v.g.getD i z2))))) rfl rfl kI rfl rfl .nil),?_⟩
 rfl
theorem j_vSub(n:Nat)(u:JV)(hu:mD 1048576 n u)(v:JV)(hv:mD 1048576 n v):jP Tryz.prog 185 [(.cptr 1000000 (jS.cells (.val (.func (.func 193) #[] #[]))) 0),(.cptr 1000000 (jS.cells (jL (qI u))) 0),(.cptr 1000000 (jS.cells (jL (qI v))) 0)] (jJ (kP (vA u.v v.v))):=by
 refine jI Tryz.func185 rfl cb185 rfl ?_
 show qJ _ _ _ _ ⟨[(0,(.d (.cptr 1000000 (jS.cells (.val (.func (.func 193) #[] #[]))) 0))),(1,(.d (.cptr 1000000 (jS.cells (jL (qI u))) 0))),(2,(.d (.cptr 1000000 (jS.cells (jL (qI v))) 0)))],[]⟩
 refine jB<|kx [(3,(.ref 0 0))] [(0,some (bx (jJ (jZ.mk qH qH))))] (zN (uF 0 uH uR)<|zZ) ?_
 refine jB<|kx [] [(0,some (bx (jJ (kP (vA u.v v.v)))))] (zE (xO sh70)<|zE (oFc gX)<|zE (nR kI)<|zE (oFc gX)<|zE (nR kI)<|zE (jX (j_sub u.v (uA hu.1 (by decide)) v.v (uA hv.1 (by decide))))<|zT (qK kI)<|zZ) ?_
 refine jE ⟨_,(kN (cs:=(bx (jJ (kP (vA u.v v.v))))) (d:=(jJ (kP (vA u.v v.v)))) rfl rfl kI rfl rfl .nil),?_⟩
 rfl
theorem j_gSub(wp:jS)(i:Nat)(n:Nat)(u:JV)(hu:mD 1048576 n u)(v:JV)(hv:mD 1048576 n v)(hi:i<n):jP Tryz.prog 186 [(wp),(.val (.int .i64 (((i:Nat):Int)))),(.cptr 1000000 (jS.cells (.val (.func (.func 193) #[] #[]))) 0),(.cptr 1000000 (jS.cells (jL (qI u))) 0),(.cptr 1000000 (jS.cells (jL (qI v))) 0)] (jJ (kP (vA (u.g.getD i z2) (v.g.getD i z2)))):=by
 have hul:=hu.2.2
 have hvl:=hv.2.2
 refine jI Tryz.func186 rfl cb186 rfl ?_
 show qJ _ _ _ _ ⟨[(0,(.d (wp))),(1,(jR i)),(2,(.d (.cptr 1000000 (jS.cells (.val (.func (.func 193) #[] #[]))) 0))),(3,(.d (.cptr 1000000 (jS.cells (jL (qI u))) 0))),(4,(.d (.cptr 1000000 (jS.cells (jL (qI v))) 0)))],[]⟩
 refine jB<|kx [(7,(.ref 0 0))] [(0,some (bx (jJ (jZ.mk qH qH))))] (zN (uF 0 uH uR)<|zZ) ?_
 refine jB<|kd [] [(0,some (bx (jJ (kP (vA (u.g.getD i z2) (v.g.getD i z2))))))] mo (wE (xO sh70)<|wE (oFc nZ)<|wE (xO iG)<|wM<|wE (oXm gP kP i z2)<|wE (nR kI)<|wE (oFc nZ)<|wE (xO iG)<|wM<|wE (oXm gP kP i z2)<|wE (nR kI)<|wE (jX (j_sub (u.g.getD i z2) (uA (xB hu.2.1 (by decide) i) (by decide)) (v.g.getD i z2) (uA (xB hv.2.1 (by decide) i) (by decide))))<|wT (qK kI)<|wZ) ?_
 refine jE ⟨_,(kN (cs:=(bx (jJ (kP (vA (u.g.getD i z2) (v.g.getD i z2)))))) (d:=(jJ (kP (vA (u.g.getD i z2) (v.g.getD i z2))))) rfl rfl kI rfl rfl .nil),?_⟩
 rfl
theorem j_vNeg(n:Nat)(u:JV)(hu:mD 1048576 n u)(v:JV)(hv:mD 1048576 n v):jP Tryz.prog 185 [(.cptr 1000000 (jS.cells (.clo 194 [(.cptr 1000000 (jS.cells (jJ (kP (gw 0)))) 0)])) 0),(.cptr 1000000 (jS.cells (jL (qI u))) 0),(.cptr 1000000 (jS.cells (jL (qI v))) 0)] (jJ (kP (vA (gw 0) u.v))):=by
 refine jI Tryz.func185 rfl cb185 rfl ?_
 show qJ _ _ _ _ ⟨[(0,(.d (.cptr 1000000 (jS.cells (.clo 194 [(.cptr 1000000 (jS.cells (jJ (kP (gw 0)))) 0)])) 0))),(1,(.d (.cptr 1000000 (jS.cells (jL (qI u))) 0))),(2,(.d (.cptr 1000000 (jS.cells (jL (qI v))) 0)))],[]⟩
 refine jB<|kx [(3,(.ref 0 0))] [(0,some (bx (jJ (jZ.mk qH qH))))] (zN (uF 0 uH uR)<|zZ) ?_
 refine jB<|kx [] [(0,some (bx (jJ (kP (vA (gw 0) u.v)))))] (zE (xO sh70)<|zE (oFc gX)<|zE (nR kI)<|zE (oFc gX)<|zE (nR kI)<|zE (oCd (ds:=[(jJ (kP u.v)),(jJ (kP v.v))]) (caps:=[(.cptr 1000000 (jS.cells (jJ (kP (gw 0)))) 0)]) (j_negop u.v (uA hu.1 (by decide)) v.v (uA hv.1 (by decide)) (gw 0) (gl_w (z:=0) (by omega) (by omega))))<|zT (qK kI)<|zZ) ?_
 refine jE ⟨_,(kN (cs:=(bx (jJ (kP (vA (gw 0) u.v))))) (d:=(jJ (kP (vA (gw 0) u.v)))) rfl rfl kI rfl rfl .nil),?_⟩
 rfl
theorem j_gNeg(wp:jS)(i:Nat)(n:Nat)(u:JV)(hu:mD 1048576 n u)(v:JV)(hv:mD 1048576 n v)(hi:i<n):jP Tryz.prog 186 [(wp),(.val (.int .i64 (((i:Nat):Int)))),(.cptr 1000000 (jS.cells (.clo 194 [(.cptr 1000000 (jS.cells (jJ (kP (gw 0)))) 0)])) 0),(.cptr 1000000 (jS.cells (jL (qI u))) 0),(.cptr 1000000 (jS.cells (jL (qI v))) 0)] (jJ (kP (vA (gw 0) (u.g.getD i z2)))):=by
 have hul:=hu.2.2
 have hvl:=hv.2.2
 refine jI Tryz.func186 rfl cb186 rfl ?_
 show qJ _ _ _ _ ⟨[(0,(.d (wp))),(1,(jR i)),(2,(.d (.cptr 1000000 (jS.cells (.clo 194 [(.cptr 1000000 (jS.cells (jJ (kP (gw 0)))) 0)])) 0))),(3,(.d (.cptr 1000000 (jS.cells (jL (qI u))) 0))),(4,(.d (.cptr 1000000 (jS.cells (jL (qI v))) 0)))],[]⟩
 refine jB<|kx [(7,(.ref 0 0))] [(0,some (bx (jJ (jZ.mk qH qH))))] (zN (uF 0 uH uR)<|zZ) ?_
 refine jB<|kd [] [(0,some (bx (jJ (kP (vA (gw 0) (u.g.getD i z2))))))] mo (wE (xO sh70)<|wE (oFc nZ)<|wE (xO iG)<|wM<|wE (oXm gP kP i z2)<|wE (nR kI)<|wE (oFc nZ)<|wE (xO iG)<|wM<|wE (oXm gP kP i z2)<|wE (nR kI)<|wE (oCd (ds:=[(jJ (kP (u.g.getD i z2))),(jJ (kP (v.g.getD i z2)))]) (caps:=[(.cptr 1000000 (jS.cells (jJ (kP (gw 0)))) 0)]) (j_negop (u.g.getD i z2) (uA (xB hu.2.1 (by decide) i) (by decide)) (v.g.getD i z2) (uA (xB hv.2.1 (by decide) i) (by decide)) (gw 0) (gl_w (z:=0) (by omega) (by omega))))<|wT (qK kI)<|wZ) ?_
 refine jE ⟨_,(kN (cs:=(bx (jJ (kP (vA (gw 0) (u.g.getD i z2)))))) (d:=(jJ (kP (vA (gw 0) (u.g.getD i z2))))) rfl rfl kI rfl rfl .nil),?_⟩
 rfl
theorem j_vC(p:Rat)(hp:QL p 1048576):jP Tryz.prog 188 [(.cptr 1000000 (jS.cells (qA (kW.mk 0 0 0 (jQ p)))) 0)] (jJ (kP (mH p))):=by
 refine jI Tryz.func188 rfl cb188 rfl ?_
 show qJ _ _ _ _ ⟨[(0,(.d (.cptr 1000000 (jS.cells (qA (kW.mk 0 0 0 (jQ p)))) 0)))],[]⟩
 refine jB<|kx [(1,(.ref 0 0))] [(0,some (bx (jJ (jZ.mk qH qH))))] (zN (uF 0 uH uR)<|zZ) ?_
 refine jB<|kx [] [(0,some (bx (jJ (jZ.mk (jQ p) (jQ p)))))] (zE (oFc dU)<|zE (nR jT)<|zE (oFc dU)<|zE (nR jT)<|zE (bY pl61 uH uR)<|zT (qK kI)<|zZ) ?_
 refine jE ⟨_,(kN (cs:=(bx (jJ (jZ.mk (jQ p) (jQ p))))) (d:=(jJ (jZ.mk (jQ p) (jQ p)))) rfl rfl kI rfl rfl .nil),?_⟩
 rfl
theorem j_gC(wp:jS)(i:Nat)(zz:R2)(hzz:GL 3 zz):jP Tryz.prog 189 [(wp),(.val (.int .i64 (((i:Nat):Int)))),(.cptr 1000000 (jS.cells (jJ (kP zz))) 0)] (jJ (kP zz)):=by
 refine jI Tryz.func189 rfl cb189 rfl ?_
 show qJ _ _ _ _ ⟨[(0,(.d (wp))),(1,(jR i)),(2,(.d (.cptr 1000000 (jS.cells (jJ (kP zz))) 0)))],[]⟩
 refine jB<|kx [(5,(.ref 0 0))] [(0,some (bx (jJ (jZ.mk qH qH))))] (zN (uF 0 uH uR)<|zZ) ?_
 refine jB<|kx [] [(0,some (bx (jJ (kP zz))))] (zE (nR kI)<|zT (qK kI)<|zZ) ?_
 refine jE ⟨_,(kN (cs:=(bx (jJ (kP zz)))) (d:=(jJ (kP zz))) rfl rfl kI rfl rfl .nil),?_⟩
 rfl
theorem j_vV(bv:List R2)(hbx:∀ x∈bv,GL 1048576 x)(a:Nat)(ha:a<bv.length)(hbl:bv.length≤1000000):jP Tryz.prog 190 [(.cptr 1000000 (jS.cells (.sl 61 8 (List.map jJ (List.map kP bv)))) 0),(.cptr 1000000 (jS.cells (qA (kW.mk 1 ((a:Nat):Int) 0 qH))) 0)] (jJ (kP (bv.getD a z2))):=by
 refine jI Tryz.func190 rfl cb190 rfl ?_
 show qJ _ _ _ _ ⟨[(0,(.d (.cptr 1000000 (jS.cells (.sl 61 8 (List.map jJ (List.map kP bv)))) 0))),(1,(.d (.cptr 1000000 (jS.cells (qA (kW.mk 1 ((a:Nat):Int) 0 qH))) 0)))],[]⟩
 refine jB<|kx [(2,(.ref 0 0))] [(0,some (bx (jJ (jZ.mk qH qH))))] (zN (uF 0 uH uR)<|zZ) ?_
 refine jB<|kx [] [(0,some (bx (jJ (kP (bv.getD a z2)))))] (zE (xO iG)<|zE (oFc nA)<|zE (xO cS)<|zE (oXm gP kP a z2 (hj:=by first | omega | rfl | (dsimp only;omega)) (h1:=by first | omega | rfl | (dsimp only;omega)))<|zE (nR kI)<|zT (qK kI)<|zZ) ?_
 refine jE ⟨_,(kN (cs:=(bx (jJ (kP (bv.getD a z2))))) (d:=(jJ (kP (bv.getD a z2)))) rfl rfl kI rfl rfl .nil),?_⟩
 rfl
theorem j_gV(wp:jS)(i:Nat)(a:Nat)(zz:R2)(hzz:GL 3 zz):jP Tryz.prog 191 [(wp),(.val (.int .i64 (((i:Nat):Int)))),(.cptr 1000000 (jS.cells (qA (kW.mk 1 ((a:Nat):Int) 0 qH))) 0),(.cptr 1000000 (jS.cells (jJ (kP zz))) 0)] (jJ (kP (if ((i:Nat):Int)=((a:Nat):Int) then gw 1 else zz))):=by
 refine jI Tryz.func191 rfl cb191 rfl ?_
 show qJ _ _ _ _ ⟨[(0,(.d (wp))),(1,(jR i)),(2,(.d (.cptr 1000000 (jS.cells (qA (kW.mk 1 ((a:Nat):Int) 0 qH))) 0))),(3,(.d (.cptr 1000000 (jS.cells (jJ (kP zz))) 0)))],[]⟩
 refine jB<|kx [(6,(.ref 0 0))] [(0,some (bx (jJ (jZ.mk qH qH))))] (zN (uF 0 uH uR)<|zZ) ?_
 refine jB<|jB<|kx [(10,(vb (((i:Nat):Int) == ((a:Nat):Int))))] [] (zM<|zE (oFc nA)<|zE (xO cS)<|zE gD<|zZ) ?_
 refine jF (b:=(((i:Nat):Int) == ((a:Nat):Int))) rfl (fun h1=>?_) (fun h1=>?_)
 ·replace h1:=eq_of_beq h1
  refine jB<|kx [] [(0,some (bx (jJ (kP (gw 1)))))] (zE (jX (j_whole 1 (by omega) (by omega)))<|zT (qK kI)<|zZ) ?_
  refine jE ⟨_,(kN (cs:=(bx (jJ (kP (gw 1))))) (d:=(jJ (kP (gw 1)))) rfl rfl kI rfl rfl .nil),?_⟩
  rw[if_pos h1];rfl
 ·replace h1:=ne_of_beq_false h1
  refine jD<|jB<|kx [] [(0,some (bx (jJ (kP zz))))] (zE (nR kI)<|zT (qK kI)<|zZ) ?_
  refine jE ⟨_,(kN (cs:=(bx (jJ (kP zz)))) (d:=(jJ (kP zz))) rfl rfl kI rfl rfl .nil),?_⟩
  rw[if_neg h1];rfl
theorem j_vM(n:Nat)(u:JV)(hu:mD 1048576 n u)(v:JV)(hv:mD 1048576 n v):jP Tryz.prog 195 [(.cptr 1000000 (jS.cells (jL (qI u))) 0),(.cptr 1000000 (jS.cells (jL (qI v))) 0)] (jJ (kP (xI u.v v.v))):=by
 refine jI Tryz.func195 rfl cb195 rfl ?_
 show qJ _ _ _ _ ⟨[(0,(.d (.cptr 1000000 (jS.cells (jL (qI u))) 0))),(1,(.d (.cptr 1000000 (jS.cells (jL (qI v))) 0)))],[]⟩
 refine jB<|kx [(2,(.ref 0 0))] [(0,some (bx (jJ (jZ.mk qH qH))))] (zN (uF 0 uH uR)<|zZ) ?_
 refine jB<|kx [] [(0,some (bx (jJ (kP (xI u.v v.v)))))] (zE (oFc gX)<|zE (nR kI)<|zE (oFc gX)<|zE (nR kI)<|zE (jX (j_mul u.v (uA hu.1 (by decide)) v.v (uA hv.1 (by decide))))<|zT (qK kI)<|zZ) ?_
 refine jE ⟨_,(kN (cs:=(bx (jJ (kP (xI u.v v.v))))) (d:=(jJ (kP (xI u.v v.v)))) rfl rfl kI rfl rfl .nil),?_⟩
 rfl
theorem j_gM(wp:jS)(i:Nat)(n:Nat)(u:JV)(hu:mD 1048576 n u)(v:JV)(hv:mD 1048576 n v)(hi:i<n):jP Tryz.prog 197 [(wp),(.val (.int .i64 (((i:Nat):Int)))),(.cptr 1000000 (jS.cells (jL (qI u))) 0),(.cptr 1000000 (jS.cells (jL (qI v))) 0)] (jJ (kP (hZ (xI u.v (v.g.getD i z2)) (xI v.v (u.g.getD i z2))))):=by
 have hul:=hu.2.2
 have hvl:=hv.2.2
 refine jI Tryz.func197 rfl cb197 rfl ?_
 show qJ _ _ _ _ ⟨[(0,(.d (wp))),(1,(jR i)),(2,(.d (.cptr 1000000 (jS.cells (jL (qI u))) 0))),(3,(.d (.cptr 1000000 (jS.cells (jL (qI v))) 0)))],[]⟩
 refine jB<|kx [(6,(.ref 0 0))] [(0,some (bx (jJ (jZ.mk qH qH))))] (zN (uF 0 uH uR)<|zZ) ?_
 refine jB<|kd [] [(0,some (bx (jJ (kP (hZ (xI u.v (v.g.getD i z2)) (xI v.v (u.g.getD i z2)))))))] mo (wE (oFc gX)<|wE (nR kI)<|wE (oFc nZ)<|wE (xO iG)<|wM<|wE (oXm gP kP i z2)<|wE (nR kI)<|wE (jX (j_mul u.v (uA hu.1 (by decide)) (v.g.getD i z2) (uA (xB hv.2.1 (by decide) i) (by decide))))<|wE (oFc gX)<|wE (nR kI)<|wE (oFc nZ)<|wE (xO iG)<|wM<|wE (oXm gP kP i z2)<|wE (nR kI)<|wE (jX (j_mul v.v (uA hv.1 (by decide)) (u.g.getD i z2) (uA (xB hu.2.1 (by decide) i) (by decide))))<|wE (jX (j_add (xI u.v (v.g.getD i z2)) (uA (nK (k:=2097152) hu.1 (xB hv.2.1 (by decide) i) (by decide)) (by decide)) (xI v.v (u.g.getD i z2)) (uA (nK (k:=2097152) hv.1 (xB hu.2.1 (by decide) i) (by decide)) (by decide))))<|wT (qK kI)<|wZ) ?_
 refine jE ⟨_,(kN (cs:=(bx (jJ (kP (hZ (xI u.v (v.g.getD i z2)) (xI v.v (u.g.getD i z2))))))) (d:=(jJ (kP (hZ (xI u.v (v.g.getD i z2)) (xI v.v (u.g.getD i z2)))))) rfl rfl kI rfl rfl .nil),?_⟩
 rfl
theorem j_vQ(n:Nat)(u:JV)(hu:mD 1048576 n u):jP Tryz.prog 199 [(.cptr 1000000 (jS.cells (jL (qI u))) 0)] (jJ (kP (gsq u.v))):=by
 refine jI Tryz.func199 rfl cb199 rfl ?_
 show qJ _ _ _ _ ⟨[(0,(.d (.cptr 1000000 (jS.cells (jL (qI u))) 0)))],[]⟩
 refine jB<|kx [(1,(.ref 0 0))] [(0,some (bx (jJ (jZ.mk qH qH))))] (zN (uF 0 uH uR)<|zZ) ?_
 refine jB<|kx [] [(0,some (bx (jJ (kP (gsq u.v)))))] (zE (oFc gX)<|zE (nR kI)<|zE (jX (j_sq u.v (uA hu.1 (by decide))))<|zT (qK kI)<|zZ) ?_
 refine jE ⟨_,(kN (cs:=(bx (jJ (kP (gsq u.v))))) (d:=(jJ (kP (gsq u.v)))) rfl rfl kI rfl rfl .nil),?_⟩
 rfl
theorem j_gQ(wp:jS)(i:Nat)(tt:R2)(htt:GL 3 tt)(n:Nat)(u:JV)(hu:mD 1048576 n u)(hi:i<n):jP Tryz.prog 201 [(wp),(.val (.int .i64 (((i:Nat):Int)))),(.cptr 1000000 (jS.cells (jJ (kP tt))) 0),(.cptr 1000000 (jS.cells (jL (qI u))) 0)] (jJ (kP (xI tt (xI u.v (u.g.getD i z2))))):=by
 have hul:=hu.2.2
 refine jI Tryz.func201 rfl cb201 rfl ?_
 show qJ _ _ _ _ ⟨[(0,(.d (wp))),(1,(jR i)),(2,(.d (.cptr 1000000 (jS.cells (jJ (kP tt))) 0))),(3,(.d (.cptr 1000000 (jS.cells (jL (qI u))) 0)))],[]⟩
 refine jB<|kx [(6,(.ref 0 0))] [(0,some (bx (jJ (jZ.mk qH qH))))] (zN (uF 0 uH uR)<|zZ) ?_
 refine jB<|kd [] [(0,some (bx (jJ (kP (xI tt (xI u.v (u.g.getD i z2)))))))] mo (wE (nR kI)<|wE (oFc gX)<|wE (nR kI)<|wE (oFc nZ)<|wE (xO iG)<|wM<|wE (oXm gP kP i z2)<|wE (nR kI)<|wE (jX (j_mul u.v (uA hu.1 (by decide)) (u.g.getD i z2) (uA (xB hu.2.1 (by decide) i) (by decide))))<|wE (jX (j_mul tt (uA htt (by decide)) (xI u.v (u.g.getD i z2)) (uA (nK (k:=2097152) hu.1 (xB hu.2.1 (by decide) i) (by decide)) (by decide))))<|wT (qK kI)<|wZ) ?_
 refine jE ⟨_,(kN (cs:=(bx (jJ (kP (xI tt (xI u.v (u.g.getD i z2))))))) (d:=(jJ (kP (xI tt (xI u.v (u.g.getD i z2)))))) rfl rfl kI rfl rfl .nil),?_⟩
 rfl
theorem j_div(n:Nat)(x:jS)(a:R2)(ha:GL 67108864 a)(b:R2)(hb:GL 67108864 b)(hz:gS b.1 b.2=false):jP Tryz.prog 204 [(.cptr 1000000 (jS.cells (mcA n x false)) 0),(jJ (kP a)),(jJ (kP b))] (jJ (kP (eI a b))):=by
 let y1:=(bx (jJ (jZ.mk (jQ (mnL (a.1 / b.1) [(a.1 / b.2),(a.2 / b.1),(a.2 / b.2)])) (jQ (mxL (a.1 / b.1) [(a.1 / b.2),(a.2 / b.1),(a.2 / b.2)])))))
 refine jI Tryz.func204 rfl cb204 rfl ?_
 show qJ _ _ _ _ ⟨[(0,(.d (.cptr 1000000 (jS.cells (mcA n x false)) 0))),(1,(.d (jJ (kP a)))),(2,(.d (jJ (kP b))))],[]⟩
 refine jB<|kx [(4,(.ref 0 0)),(5,(.ref 1 0)),(6,(.ref 2 0))] [(0,some (bx (jJ (kP a)))),(1,some (bx (jJ (kP b)))),(2,some (bx (jJ (jZ.mk qH qH))))] (zN (vW 0)<|zN (vW 1)<|zN (uF 2 uH uR)<|zZ) ?_
 refine jB<|kx [(7,(.ref 3 0)),(8,(vi 0))] [(3,some y1)] (zR (kM kI)<|zR (kM kI)<|zE (jX (i_divide a.1 a.2 b.1 b.2 (qu ha.1) (qu ha.2.1) (qu hb.1) (qu hb.2.1) ha.2.2 hb.2.2 hz))<|zM<|zE xD<|zE xD<|zN (uF 3 uH uR)<|zT (qK kI)<|zM<|zZ) ?_
 refine jB<|jB<|kx [(16,(vb false))] [] (zM<|zE mC<|zZ) ?_
 refine kS ?_
 refine jD<|jB<|kx [] [(2,some y1)] (zR (kM kI)<|zT (qK kI)<|zZ) ?_
 refine jE ⟨_,(kN (cs:=y1) (d:=(jJ (jZ.mk (jQ (mnL (a.1 / b.1) [(a.1 / b.2),(a.2 / b.1),(a.2 / b.2)])) (jQ (mxL (a.1 / b.1) [(a.1 / b.2),(a.2 / b.1),(a.2 / b.2)]))))) rfl rfl kI rfl rfl .nil),?_⟩
 rfl
theorem j_vD(n:Nat)(x:jS)(u:JV)(hu:mD 1048576 n u)(v:JV)(hv:mD 1048576 n v)(hz:gS v.v.1 v.v.2=false):jP Tryz.prog 203 [(.cptr 1000000 (jS.cells (.cptr 1000000 (jS.cells (mcA n x false)) 0)) 0),(.cptr 1000000 (jS.cells (jL (qI u))) 0),(.cptr 1000000 (jS.cells (jL (qI v))) 0)] (jJ (kP (eI u.v v.v))):=by
 refine jI Tryz.func203 rfl cb203 rfl ?_
 show qJ _ _ _ _ ⟨[(0,(.d (.cptr 1000000 (jS.cells (.cptr 1000000 (jS.cells (mcA n x false)) 0)) 0))),(1,(.d (.cptr 1000000 (jS.cells (jL (qI u))) 0))),(2,(.d (.cptr 1000000 (jS.cells (jL (qI v))) 0)))],[]⟩
 refine jB<|kx [(3,(.ref 0 0))] [(0,some (bx (jJ (jZ.mk qH qH))))] (zN (uF 0 uH uR)<|zZ) ?_
 refine jB<|kx [] [(0,some (bx (jJ (kP (eI u.v v.v)))))] (zE (xO eH)<|zE (oFc gX)<|zE (nR kI)<|zE (oFc gX)<|zE (nR kI)<|zE (jX (j_div n (x) u.v (uA hu.1 (by decide)) v.v (uA hv.1 (by decide)) hz))<|zT (qK kI)<|zZ) ?_
 refine jE ⟨_,(kN (cs:=(bx (jJ (kP (eI u.v v.v))))) (d:=(jJ (kP (eI u.v v.v)))) rfl rfl kI rfl rfl .nil),?_⟩
 rfl
theorem j_gD(w:R2)(hw:GL 2097152 w)(y z:jS)(i:Nat)(n:Nat)(x:jS)(u:JV)(hu:mD 1048576 n u)(v:JV)(hv:mD 1048576 n v)(hz:gS v.v.1 v.v.2=false)(hi:i<n):jP Tryz.prog 205 [(.cptr 1000000 (jS.cells (.agg (jS.cells (jJ (kP w))++[(y),(z)]))) 0),(.val (.int .i64 (((i:Nat):Int)))),(.cptr 1000000 (jS.cells (.cptr 1000000 (jS.cells (mcA n x false)) 0)) 0),(.cptr 1000000 (jS.cells (jL (qI u))) 0),(.cptr 1000000 (jS.cells (jL (qI v))) 0)] (jJ (kP (eI (vA (u.g.getD i z2) (xI w (v.g.getD i z2))) v.v))):=by
 have hul:=hu.2.2
 have hvl:=hv.2.2
 refine jI Tryz.func205 rfl cb205 rfl ?_
 show qJ _ _ _ _ ⟨[(0,(.d (.cptr 1000000 (jS.cells (.agg (jS.cells (jJ (kP w))++[(y),(z)]))) 0))),(1,(jR i)),(2,(.d (.cptr 1000000 (jS.cells (.cptr 1000000 (jS.cells (mcA n x false)) 0)) 0))),(3,(.d (.cptr 1000000 (jS.cells (jL (qI u))) 0))),(4,(.d (.cptr 1000000 (jS.cells (jL (qI v))) 0)))],[]⟩
 refine jB<|kx [(7,(.ref 0 0))] [(0,some (bx (jJ (jZ.mk qH qH))))] (zN (uF 0 uH uR)<|zZ) ?_
 refine jB<|kd [] [(0,some (bx (jJ (kP (eI (vA (u.g.getD i z2) (xI w (v.g.getD i z2))) v.v)))))] mo (wE (xO eH)<|wE (oFc nZ)<|wE (xO iG)<|wM<|wE (oXm gP kP i z2)<|wE (nR kI)<|wM<|wE oNd<|wE (oFc gX)<|wE (nR kI)<|wE (oFc nZ)<|wE (xO iG)<|wM<|wE (oXm gP kP i z2)<|wE (nR kI)<|wE (jX (j_mul w (uA hw (by decide)) (v.g.getD i z2) (uA (xB hv.2.1 (by decide) i) (by decide))))<|wE (jX (j_sub (u.g.getD i z2) (uA (xB hu.2.1 (by decide) i) (by decide)) (xI w (v.g.getD i z2)) (uA (nK (k:=3145728) hw (xB hv.2.1 (by decide) i) (by decide)) (by decide))))<|wE (oFc gX)<|wE (nR kI)<|wE (jX (j_div n (x) (vA (u.g.getD i z2) (xI w (v.g.getD i z2))) (uA (aJ (k:=4194305) (xB hu.2.1 (by decide) i) (nK (k:=3145728) hw (xB hv.2.1 (by decide) i) (by decide)) (by decide)) (by decide)) v.v (uA hv.1 (by decide)) hz))<|wT (qK kI)<|wZ) ?_
 refine jE ⟨_,(kN (cs:=(bx (jJ (kP (eI (vA (u.g.getD i z2) (xI w (v.g.getD i z2))) v.v))))) (d:=(jJ (kP (eI (vA (u.g.getD i z2) (xI w (v.g.getD i z2))) v.v)))) rfl rfl kI rfl rfl .nil),?_⟩
 rfl
end Go.Proofs.YtnajallgoaiahaaGreatDoor
