/- Part 28 of a proof: rules, plain facts, and functions walked. -/
import Derived.Test.YtckccjhflbljgaaGreatDoorM27
import Derived.Test.YtckccjhflbljgaaGreatDoorM26
set_option linter.all false
set_option maxRecDepth 4000
namespace Go.Proofs.YtckccjhflbljgaaGreatDoor
open Go.Fid
theorem cb60:callB Tryz.prog 60=true:=by kernel_rfl
theorem pl103:cE Tryz.prog 103=some [(0,1),(1,1),(2,1),(3,1),(4,1)]:=by kernel_rfl
theorem ze103:vG Tryz.prog 103=some [.slice none 0 0,.map none,.map none,.slice none 0 0,.bool false]:=by kernel_rfl
theorem zn103:cN [.slice none 0 0,.map none,.map none,.slice none 0 0,.bool false] [.val (.slice none 0 0),.val (.map none),.val (.map none),.val (.slice none 0 0),.val (.bool false)]:=by simp [cN,Value.oneCell']
theorem e_newb :vJ Tryz.prog 60 [] [] (.ref 0 0) [(0,some [(.own 1 72 7 nS.tm.length),(.mp 2),(.mp 3),(.own 4 3 1 nS.us.length),(vb nS.ov)]),(1,some (qL jK nS.tm)),(2,some [.mo (kU vC kX nS.kn)]),(3,some [.mo (kU vE kX nS.os)]),(4,some (bm jG nS.us))]:=by
 refine zB Tryz.func60 rfl cb60 rfl ?_
 refine jB<|kx [] [] (zM<|zZ) ?_
 refine jB<|qH (wk (l:=[]) (b:=[])) ?_
 refine kr_cutm 2 [(1,.mp 2),(2,.mp 3)] [(3,some [.mo (kU vE kX [])]),(2,some [.mo (kU vC kX [])])] [(0,.ref 0 0)] ((0,some [.d (.val (.slice none 0 0)),.mp 2,.mp 3,.d (.val (.slice none 0 0)),.d (.val (.bool false))])::[(3,some [.mo (kU vE kX [])]),(2,some [.mo (kU vC kX [])])]) 1 2 (zN (oMm 2 vC kX)<|zN (oMm 3 vE kX)<|zI (sim_get (dI (by kernel_rfl)) (fun _ _ h=>h))) rfl rfl (fun b b'=>zE (oOm 1 (k:=2) (b:=b) (oOm 2 (k:=3) (b:=b') (oBd pl103 ze103 zn103)))<|zN (xH 0)<|zM<|zI (cell_mps5 0 1 2 rfl rfl (by exact rfl) (by kernel_rfl) rfl)) ?_
 refine qH (wk (l:=[(0,(.ref 0 0))]) (b:=[(0,some [(.d (.val (.slice none 0 0))),(.mp 2),(.mp 3),(.d (.val (.slice none 0 0))),(vb false)]),(2,some [.mo (kU vC kX [])]),(3,some [.mo (kU vE kX [])])])) ?_
 refine pwp_own 0 0 1 72 7 (cs:=[(.d (.val (.slice none 0 0))),(.mp 2),(.mp 3),(.d (.val (.slice none 0 0))),(vb false)]) (h:=?_)
 refine qH (wk (l:=[(0,(.ref 0 0))]) (b:=[(0,some [(.own 1 72 7 0),(.mp 2),(.mp 3),(.d (.val (.slice none 0 0))),(vb false)]),(1,some (qL jK [])),(2,some [.mo (kU vC kX [])]),(3,some [.mo (kU vE kX [])])])) ?_
 refine pwp_own 0 3 4 3 1 (cs:=[(.own 1 72 7 0),(.mp 2),(.mp 3),(.d (.val (.slice none 0 0))),(vb false)]) (h:=?_)
 refine qH (wk (l:=[(0,(.ref 0 0))]) (b:=[(0,some [(.own 1 72 7 0),(.mp 2),(.mp 3),(.own 4 3 1 0),(vb false)]),(1,some (qL jK [])),(2,some [.mo (kU vC kX [])]),(3,some [.mo (kU vE kX [])]),(4,some (bm jG []))])) ?_
 exact jE ⟨qV (by kernel_rfl),uP (by kernel_rfl),.inr (.inl ⟨0,rfl,rfl⟩)⟩
theorem gV:uM Tryz.prog 46 0=some 0:=by kernel_rfl
theorem nR:uM Tryz.prog 46 1=some 8:=by kernel_rfl
theorem fo113_2:uM Tryz.prog 113 2=some 2:=by kernel_rfl
theorem sh43:qC Tryz.prog 43=some (false,1):=by kernel_rfl
theorem sh67:qC Tryz.prog 67=some (false,1):=by kernel_rfl
theorem sh111:qC Tryz.prog 111=some (false,1):=by kernel_rfl
theorem j_round(n:Nat)(x:jP)(a:R2)(ha:GL 67108864 a):jS Tryz.prog 170 [(.cptr 1000000 (jP.cells (mcA n x false)) 0),(jM (qF a))] (jM (qF a)):=by
 refine vA Tryz.func170 ?_
 refine jB<|kx [(3,(.ref 0 0)),(4,(.ref 1 0))] [(0,some (bx (jM (qF a)))),(1,some (bx (jM (kH.mk vQ vQ))))] (zN (xH 0)<|zN (vT 1 vX xA)<|zZ) ?_
 refine jB<|jB<|kx [(9,(vb true))] [] (zM<|zE oNd<|zE (oFc fo113_2)<|zE (nF uF)<|zE (fC true nD)<|zZ) ?_
 refine cQ ?_
 refine jB<|kx [] [(1,some (bx (jM (qF a))))] (zR (kV kM)<|zT (qU kM)<|zZ) ?_
 refine jE ⟨_,(kS (cs:=(bx (jM (qF a)))) (d:=(jM (qF a))) rfl rfl kM rfl rfl .nil),?_⟩
 rfl
theorem j_negop(a:R2)(ha:GL 67108864 a)(b:R2)(hb:GL 67108864 b)(zz:R2)(hzz:GL 3 zz):jS Tryz.prog 133 [(jM (qF a)),(jM (qF b)),(.cptr 1000000 (jP.cells (jM (qF zz))) 0)] (jM (qF (uC zz a))):=by
 refine vA Tryz.func133 ?_
 refine jB<|kx [(3,(.ref 0 0)),(5,(.ref 2 0))] [(0,some (bx (jM (qF a)))),(2,some (bx (jM (kH.mk vQ vQ)))),(1,none)] (zN (xH 0)<|zN (xH 1)<|zN (vT 2 vX xA)<|zZ) ?_
 refine jB<|kx [] [(2,some (bx (jM (qF (uC zz a)))))] (zE (dH kM)<|zR (kV kM)<|zE (kF (j_sub zz (uB hzz) a ha))<|zT (qU kM)<|zZ) ?_
 refine jE ⟨_,(kS (cs:=(bx (jM (qF (uC zz a))))) (d:=(jM (qF (uC zz a)))) rfl rfl kM rfl rfl .nil),?_⟩
 rfl
theorem j_vAdd(n:Nat)(u:JV)(hu:nY 1048576 n u)(v:JV)(hv:nY 1048576 n v):jS Tryz.prog 124 [(.cptr 1000000 (jP.cells (.val (.func (.func 131) #[] #[]))) 0),(.cptr 1000000 (jP.cells (jN (uL u))) 0),(.cptr 1000000 (jP.cells (jN (uL v))) 0)] (jM (qF (yW u.v v.v))):=by
 refine vA Tryz.func124 ?_
 refine jB<|kx [(3,(.ref 0 0))] [(0,some (bx (jM (kH.mk vQ vQ))))] (zN (vT 0 vX xA)<|zZ) ?_
 refine jB<|kx [] [(0,some (bx (jM (qF (yW u.v v.v)))))] (zE (nF sh67)<|zE (oFc gV)<|zE (dH kM)<|zE (oFc gV)<|zE (dH kM)<|zE (kF (j_add u.v (uB hu.1) v.v (uB hv.1)))<|zT (qU kM)<|zZ) ?_
 refine jE ⟨_,(kS (cs:=(bx (jM (qF (yW u.v v.v))))) (d:=(jM (qF (yW u.v v.v)))) rfl rfl kM rfl rfl .nil),?_⟩
 rfl
theorem j_gAdd(wp:jP)(i:Nat)(n:Nat)(u:JV)(hu:nY 1048576 n u)(v:JV)(hv:nY 1048576 n v)(hi:i<n):jS Tryz.prog 125 [(wp),(.val (.int .i64 (((i:Nat):Int)))),(.cptr 1000000 (jP.cells (.val (.func (.func 131) #[] #[]))) 0),(.cptr 1000000 (jP.cells (jN (uL u))) 0),(.cptr 1000000 (jP.cells (jN (uL v))) 0)] (jM (qF (yW (u.g.getD i z2) (v.g.getD i z2)))):=by
 have hul:=hu.2.2
 have hvl:=hv.2.2
 refine vA Tryz.func125 ?_
 refine jB<|kx [(7,(.ref 0 0))] [(0,some (bx (jM (kH.mk vQ vQ))))] (zN (vT 0 vX xA)<|zZ) ?_
 refine jB<|kd [] [(0,some (bx (jM (qF (yW (u.g.getD i z2) (v.g.getD i z2))))))] mo (wE (nF sh67)<|wE (oFc nR)<|wE (nF sh43)<|wM<|wE (oXm mT qF i z2)<|wE (dH kM)<|wE (oFc nR)<|wE (nF sh43)<|wM<|wE (oXm mT qF i z2)<|wE (dH kM)<|wE (kF (j_add (u.g.getD i z2) (uB (xR hu.2.1 (by decide) i)) (v.g.getD i z2) (uB (xR hv.2.1 (by decide) i))))<|wT (qU kM)<|wZ) ?_
 refine jE ⟨_,(kS (cs:=(bx (jM (qF (yW (u.g.getD i z2) (v.g.getD i z2)))))) (d:=(jM (qF (yW (u.g.getD i z2) (v.g.getD i z2))))) rfl rfl kM rfl rfl .nil),?_⟩
 rfl
theorem j_vSub(n:Nat)(u:JV)(hu:nY 1048576 n u)(v:JV)(hv:nY 1048576 n v):jS Tryz.prog 124 [(.cptr 1000000 (jP.cells (.val (.func (.func 132) #[] #[]))) 0),(.cptr 1000000 (jP.cells (jN (uL u))) 0),(.cptr 1000000 (jP.cells (jN (uL v))) 0)] (jM (qF (uC u.v v.v))):=by
 refine vA Tryz.func124 ?_
 refine jB<|kx [(3,(.ref 0 0))] [(0,some (bx (jM (kH.mk vQ vQ))))] (zN (vT 0 vX xA)<|zZ) ?_
 refine jB<|kx [] [(0,some (bx (jM (qF (uC u.v v.v)))))] (zE (nF sh67)<|zE (oFc gV)<|zE (dH kM)<|zE (oFc gV)<|zE (dH kM)<|zE (kF (j_sub u.v (uB hu.1) v.v (uB hv.1)))<|zT (qU kM)<|zZ) ?_
 refine jE ⟨_,(kS (cs:=(bx (jM (qF (uC u.v v.v))))) (d:=(jM (qF (uC u.v v.v)))) rfl rfl kM rfl rfl .nil),?_⟩
 rfl
theorem j_gSub(wp:jP)(i:Nat)(n:Nat)(u:JV)(hu:nY 1048576 n u)(v:JV)(hv:nY 1048576 n v)(hi:i<n):jS Tryz.prog 125 [(wp),(.val (.int .i64 (((i:Nat):Int)))),(.cptr 1000000 (jP.cells (.val (.func (.func 132) #[] #[]))) 0),(.cptr 1000000 (jP.cells (jN (uL u))) 0),(.cptr 1000000 (jP.cells (jN (uL v))) 0)] (jM (qF (uC (u.g.getD i z2) (v.g.getD i z2)))):=by
 have hul:=hu.2.2
 have hvl:=hv.2.2
 refine vA Tryz.func125 ?_
 refine jB<|kx [(7,(.ref 0 0))] [(0,some (bx (jM (kH.mk vQ vQ))))] (zN (vT 0 vX xA)<|zZ) ?_
 refine jB<|kd [] [(0,some (bx (jM (qF (uC (u.g.getD i z2) (v.g.getD i z2))))))] mo (wE (nF sh67)<|wE (oFc nR)<|wE (nF sh43)<|wM<|wE (oXm mT qF i z2)<|wE (dH kM)<|wE (oFc nR)<|wE (nF sh43)<|wM<|wE (oXm mT qF i z2)<|wE (dH kM)<|wE (kF (j_sub (u.g.getD i z2) (uB (xR hu.2.1 (by decide) i)) (v.g.getD i z2) (uB (xR hv.2.1 (by decide) i))))<|wT (qU kM)<|wZ) ?_
 refine jE ⟨_,(kS (cs:=(bx (jM (qF (uC (u.g.getD i z2) (v.g.getD i z2)))))) (d:=(jM (qF (uC (u.g.getD i z2) (v.g.getD i z2))))) rfl rfl kM rfl rfl .nil),?_⟩
 rfl
theorem j_vNeg(n:Nat)(u:JV)(hu:nY 1048576 n u)(v:JV)(hv:nY 1048576 n v):jS Tryz.prog 124 [(.cptr 1000000 (jP.cells (.clo 133 [(.cptr 1000000 (jP.cells (jM (qF (gw 0)))) 0)])) 0),(.cptr 1000000 (jP.cells (jN (uL u))) 0),(.cptr 1000000 (jP.cells (jN (uL v))) 0)] (jM (qF (uC (gw 0) u.v))):=by
 refine vA Tryz.func124 ?_
 refine jB<|kx [(3,(.ref 0 0))] [(0,some (bx (jM (kH.mk vQ vQ))))] (zN (vT 0 vX xA)<|zZ) ?_
 refine jB<|kx [] [(0,some (bx (jM (qF (uC (gw 0) u.v)))))] (zE (nF sh67)<|zE (oFc gV)<|zE (dH kM)<|zE (oFc gV)<|zE (dH kM)<|zE (oCd (ds:=[(jM (qF u.v)),(jM (qF v.v))]) (caps:=[(.cptr 1000000 (jP.cells (jM (qF (gw 0)))) 0)]) (j_negop u.v (uB hu.1) v.v (uB hv.1) (gw 0) (gl_w (z:=0) (by omega) (by omega))))<|zT (qU kM)<|zZ) ?_
 refine jE ⟨_,(kS (cs:=(bx (jM (qF (uC (gw 0) u.v))))) (d:=(jM (qF (uC (gw 0) u.v)))) rfl rfl kM rfl rfl .nil),?_⟩
 rfl
theorem j_gNeg(wp:jP)(i:Nat)(n:Nat)(u:JV)(hu:nY 1048576 n u)(v:JV)(hv:nY 1048576 n v)(hi:i<n):jS Tryz.prog 125 [(wp),(.val (.int .i64 (((i:Nat):Int)))),(.cptr 1000000 (jP.cells (.clo 133 [(.cptr 1000000 (jP.cells (jM (qF (gw 0)))) 0)])) 0),(.cptr 1000000 (jP.cells (jN (uL u))) 0),(.cptr 1000000 (jP.cells (jN (uL v))) 0)] (jM (qF (uC (gw 0) (u.g.getD i z2)))):=by
 have hul:=hu.2.2
 have hvl:=hv.2.2
 refine vA Tryz.func125 ?_
 refine jB<|kx [(7,(.ref 0 0))] [(0,some (bx (jM (kH.mk vQ vQ))))] (zN (vT 0 vX xA)<|zZ) ?_
 refine jB<|kd [] [(0,some (bx (jM (qF (uC (gw 0) (u.g.getD i z2))))))] mo (wE (nF sh67)<|wE (oFc nR)<|wE (nF sh43)<|wM<|wE (oXm mT qF i z2)<|wE (dH kM)<|wE (oFc nR)<|wE (nF sh43)<|wM<|wE (oXm mT qF i z2)<|wE (dH kM)<|wE (oCd (ds:=[(jM (qF (u.g.getD i z2))),(jM (qF (v.g.getD i z2)))]) (caps:=[(.cptr 1000000 (jP.cells (jM (qF (gw 0)))) 0)]) (j_negop (u.g.getD i z2) (uB (xR hu.2.1 (by decide) i)) (v.g.getD i z2) (uB (xR hv.2.1 (by decide) i)) (gw 0) (gl_w (z:=0) (by omega) (by omega))))<|wT (qU kM)<|wZ) ?_
 refine jE ⟨_,(kS (cs:=(bx (jM (qF (uC (gw 0) (u.g.getD i z2)))))) (d:=(jM (qF (uC (gw 0) (u.g.getD i z2))))) rfl rfl kM rfl rfl .nil),?_⟩
 rfl
theorem j_vC(p:Rat)(hp:QL p 1048576):jS Tryz.prog 127 [(.cptr 1000000 (jP.cells (jK (kC.mk 0 0 0 (jV p)))) 0)] (jM (qF (gpt p))):=by
 refine vA Tryz.func127 ?_
 refine jB<|kx [(1,(.ref 0 0))] [(0,some (bx (jM (kH.mk vQ vQ))))] (zN (vT 0 vX xA)<|zZ) ?_
 refine jB<|kx [] [(0,some (bx (jM (kH.mk (jV p) (jV p)))))] (zE (oFc gX)<|zE (dH kA)<|zE (oFc gX)<|zE (dH kA)<|zE (oBd pl42 vX xA)<|zT (qU kM)<|zZ) ?_
 refine jE ⟨_,(kS (cs:=(bx (jM (kH.mk (jV p) (jV p))))) (d:=(jM (kH.mk (jV p) (jV p)))) rfl rfl kM rfl rfl .nil),?_⟩
 rfl
theorem j_gC(wp:jP)(i:Nat)(zz:R2)(hzz:GL 3 zz):jS Tryz.prog 128 [(wp),(.val (.int .i64 (((i:Nat):Int)))),(.cptr 1000000 (jP.cells (jM (qF zz))) 0)] (jM (qF zz)):=by
 refine vA Tryz.func128 ?_
 refine jB<|kx [(5,(.ref 0 0))] [(0,some (bx (jM (kH.mk vQ vQ))))] (zN (vT 0 vX xA)<|zZ) ?_
 refine jB<|kx [] [(0,some (bx (jM (qF zz))))] (zE (dH kM)<|zT (qU kM)<|zZ) ?_
 refine jE ⟨_,(kS (cs:=(bx (jM (qF zz)))) (d:=(jM (qF zz))) rfl rfl kM rfl rfl .nil),?_⟩
 rfl
theorem j_vV(bv:List R2)(hbx:∀ x∈bv,GL 1048576 x)(a:Nat)(ha:a<bv.length)(hbl:bv.length<=1000000):jS Tryz.prog 129 [(.cptr 1000000 (jP.cells (.sl 42 8 (List.map jM (List.map qF bv)))) 0),(.cptr 1000000 (jP.cells (jK (kC.mk 1 ((a:Nat):Int) 0 vQ))) 0)] (jM (qF (bv.getD a z2))):=by
 refine vA Tryz.func129 ?_
 refine jB<|kx [(2,(.ref 0 0))] [(0,some (bx (jM (kH.mk vQ vQ))))] (zN (vT 0 vX xA)<|zZ) ?_
 refine jB<|kx [] [(0,some (bx (jM (qF (bv.getD a z2)))))] (zE (nF sh43)<|zE (oFc qN)<|zE (nF uF)<|zE (oXm mT qF a z2 (hj:=by first | omega | rfl | (dsimp only;omega)) (h1:=by first | omega | rfl | (dsimp only;omega)))<|zE (dH kM)<|zT (qU kM)<|zZ) ?_
 refine jE ⟨_,(kS (cs:=(bx (jM (qF (bv.getD a z2))))) (d:=(jM (qF (bv.getD a z2)))) rfl rfl kM rfl rfl .nil),?_⟩
 rfl
theorem j_gV(wp:jP)(i:Nat)(a:Nat)(zz:R2)(hzz:GL 3 zz):jS Tryz.prog 130 [(wp),(.val (.int .i64 (((i:Nat):Int)))),(.cptr 1000000 (jP.cells (jK (kC.mk 1 ((a:Nat):Int) 0 vQ))) 0),(.cptr 1000000 (jP.cells (jM (qF zz))) 0)] (jM (qF (if ((i:Nat):Int)=((a:Nat):Int) then gw 1 else zz))):=by
 refine vA Tryz.func130 ?_
 refine jB<|kx [(6,(.ref 0 0))] [(0,some (bx (jM (kH.mk vQ vQ))))] (zN (vT 0 vX xA)<|zZ) ?_
 refine jB<|jB<|kx [(10,(vb (((i:Nat):Int) == ((a:Nat):Int))))] [] (zM<|zE (oFc qN)<|zE (nF uF)<|zE yA<|zZ) ?_
 refine jF (b:=(((i:Nat):Int) == ((a:Nat):Int))) rfl (fun h1=>?_) (fun h1=>?_)
 ·replace h1:=eq_of_beq h1
  refine jB<|kx [] [(0,some (bx (jM (qF (gw 1)))))] (zE (kF (j_whole 1 (by omega) (by omega)))<|zT (qU kM)<|zZ) ?_
  refine jE ⟨_,(kS (cs:=(bx (jM (qF (gw 1))))) (d:=(jM (qF (gw 1)))) rfl rfl kM rfl rfl .nil),?_⟩
  rw[if_pos h1];rfl
 ·replace h1:=ne_of_beq_false h1
  refine jH<|jB<|kx [] [(0,some (bx (jM (qF zz))))] (zE (dH kM)<|zT (qU kM)<|zZ) ?_
  refine jE ⟨_,(kS (cs:=(bx (jM (qF zz)))) (d:=(jM (qF zz))) rfl rfl kM rfl rfl .nil),?_⟩
  rw[if_neg h1];rfl
theorem j_vM(n:Nat)(u:JV)(hu:nY 1048576 n u)(v:JV)(hv:nY 1048576 n v):jS Tryz.prog 134 [(.cptr 1000000 (jP.cells (jN (uL u))) 0),(.cptr 1000000 (jP.cells (jN (uL v))) 0)] (jM (qF (vI u.v v.v))):=by
 refine vA Tryz.func134 ?_
 refine jB<|kx [(2,(.ref 0 0))] [(0,some (bx (jM (kH.mk vQ vQ))))] (zN (vT 0 vX xA)<|zZ) ?_
 refine jB<|kx [] [(0,some (bx (jM (qF (vI u.v v.v)))))] (zE (oFc gV)<|zE (dH kM)<|zE (oFc gV)<|zE (dH kM)<|zE (kF (j_mul u.v (uB hu.1) v.v (uB hv.1)))<|zT (qU kM)<|zZ) ?_
 refine jE ⟨_,(kS (cs:=(bx (jM (qF (vI u.v v.v))))) (d:=(jM (qF (vI u.v v.v)))) rfl rfl kM rfl rfl .nil),?_⟩
 rfl
theorem j_gM(wp:jP)(i:Nat)(n:Nat)(u:JV)(hu:nY 1048576 n u)(v:JV)(hv:nY 1048576 n v)(hi:i<n):jS Tryz.prog 136 [(wp),(.val (.int .i64 (((i:Nat):Int)))),(.cptr 1000000 (jP.cells (jN (uL u))) 0),(.cptr 1000000 (jP.cells (jN (uL v))) 0)] (jM (qF (yW (vI u.v (v.g.getD i z2)) (vI v.v (u.g.getD i z2))))):=by
 have hul:=hu.2.2
 have hvl:=hv.2.2
 refine vA Tryz.func136 ?_
 refine jB<|kx [(6,(.ref 0 0))] [(0,some (bx (jM (kH.mk vQ vQ))))] (zN (vT 0 vX xA)<|zZ) ?_
 refine jB<|kd [] [(0,some (bx (jM (qF (yW (vI u.v (v.g.getD i z2)) (vI v.v (u.g.getD i z2)))))))] mo (wE (oFc gV)<|wE (dH kM)<|wE (oFc nR)<|wE (nF sh43)<|wM<|wE (oXm mT qF i z2)<|wE (dH kM)<|wE (kF (j_mul u.v (uB hu.1) (v.g.getD i z2) (uB (xR hv.2.1 (by decide) i))))<|wE (oFc gV)<|wE (dH kM)<|wE (oFc nR)<|wE (nF sh43)<|wM<|wE (oXm mT qF i z2)<|wE (dH kM)<|wE (kF (j_mul v.v (uB hv.1) (u.g.getD i z2) (uB (xR hu.2.1 (by decide) i))))<|wE (kF (j_add (vI u.v (v.g.getD i z2)) (uB (gU (k:=2097152) hu.1 (xR hv.2.1 (by decide) i))) (vI v.v (u.g.getD i z2)) (uB (gU (k:=2097152) hv.1 (xR hu.2.1 (by decide) i)))))<|wT (qU kM)<|wZ) ?_
 refine jE ⟨_,(kS (cs:=(bx (jM (qF (yW (vI u.v (v.g.getD i z2)) (vI v.v (u.g.getD i z2))))))) (d:=(jM (qF (yW (vI u.v (v.g.getD i z2)) (vI v.v (u.g.getD i z2)))))) rfl rfl kM rfl rfl .nil),?_⟩
 rfl
theorem j_vQ(n:Nat)(u:JV)(hu:nY 1048576 n u):jS Tryz.prog 138 [(.cptr 1000000 (jP.cells (jN (uL u))) 0)] (jM (qF (gsq u.v))):=by
 refine vA Tryz.func138 ?_
 refine jB<|kx [(1,(.ref 0 0))] [(0,some (bx (jM (kH.mk vQ vQ))))] (zN (vT 0 vX xA)<|zZ) ?_
 refine jB<|kx [] [(0,some (bx (jM (qF (gsq u.v)))))] (zE (oFc gV)<|zE (dH kM)<|zE (kF (j_sq u.v (uB hu.1)))<|zT (qU kM)<|zZ) ?_
 refine jE ⟨_,(kS (cs:=(bx (jM (qF (gsq u.v))))) (d:=(jM (qF (gsq u.v)))) rfl rfl kM rfl rfl .nil),?_⟩
 rfl
theorem j_gQ(wp:jP)(i:Nat)(tt:R2)(htt:GL 3 tt)(n:Nat)(u:JV)(hu:nY 1048576 n u)(hi:i<n):jS Tryz.prog 140 [(wp),(.val (.int .i64 (((i:Nat):Int)))),(.cptr 1000000 (jP.cells (jM (qF tt))) 0),(.cptr 1000000 (jP.cells (jN (uL u))) 0)] (jM (qF (vI tt (vI u.v (u.g.getD i z2))))):=by
 have hul:=hu.2.2
 refine vA Tryz.func140 ?_
 refine jB<|kx [(6,(.ref 0 0))] [(0,some (bx (jM (kH.mk vQ vQ))))] (zN (vT 0 vX xA)<|zZ) ?_
 refine jB<|kd [] [(0,some (bx (jM (qF (vI tt (vI u.v (u.g.getD i z2)))))))] mo (wE (dH kM)<|wE (oFc gV)<|wE (dH kM)<|wE (oFc nR)<|wE (nF sh43)<|wM<|wE (oXm mT qF i z2)<|wE (dH kM)<|wE (kF (j_mul u.v (uB hu.1) (u.g.getD i z2) (uB (xR hu.2.1 (by decide) i))))<|wE (kF (j_mul tt (uB htt) (vI u.v (u.g.getD i z2)) (uB (gU (k:=2097152) hu.1 (xR hu.2.1 (by decide) i)))))<|wT (qU kM)<|wZ) ?_
 refine jE ⟨_,(kS (cs:=(bx (jM (qF (vI tt (vI u.v (u.g.getD i z2))))))) (d:=(jM (qF (vI tt (vI u.v (u.g.getD i z2)))))) rfl rfl kM rfl rfl .nil),?_⟩
 rfl
theorem j_div(n:Nat)(x:jP)(a:R2)(ha:GL 67108864 a)(b:R2)(hb:GL 67108864 b)(hz:nH b.1 b.2=false):jS Tryz.prog 143 [(.cptr 1000000 (jP.cells (mcA n x false)) 0),(jM (qF a)),(jM (qF b))] (jM (qF (cL a b))):=by
 let y1:=(bx (jM (kH.mk (jV (mnL (a.1 / b.1) [(a.1 / b.2),(a.2 / b.1),(a.2 / b.2)])) (jV (mxL (a.1 / b.1) [(a.1 / b.2),(a.2 / b.1),(a.2 / b.2)])))))
 refine vA Tryz.func143 ?_
 refine jB<|kx [(4,(.ref 0 0)),(5,(.ref 1 0)),(6,(.ref 2 0))] [(0,some (bx (jM (qF a)))),(1,some (bx (jM (qF b)))),(2,some (bx (jM (kH.mk vQ vQ))))] (zN (xH 0)<|zN (xH 1)<|zN (vT 2 vX xA)<|zZ) ?_
 refine jB<|kx [(7,(.ref 3 0)),(8,(vi 0))] [(3,some y1)] (zR (kV kM)<|zR (kV kM)<|zE (kF (i_divide a.1 a.2 b.1 b.2 (vB ha.1) (vB ha.2.1) (vB hb.1) (vB hb.2.1) ha.2.2 hb.2.2 hz))<|zM<|zE yM<|zE yM<|zN (vT 3 vX xA)<|zT (qU kM)<|zM<|zZ) ?_
 refine jB<|jB<|kx [(16,(vb false))] [] (zM<|zE oNe<|zZ) ?_
 refine vH ?_
 refine jH<|jB<|kx [] [(2,some y1)] (zR (kV kM)<|zT (qU kM)<|zZ) ?_
 refine jE ⟨_,(kS (cs:=y1) (d:=(jM (kH.mk (jV (mnL (a.1 / b.1) [(a.1 / b.2),(a.2 / b.1),(a.2 / b.2)])) (jV (mxL (a.1 / b.1) [(a.1 / b.2),(a.2 / b.1),(a.2 / b.2)]))))) rfl rfl kM rfl rfl .nil),?_⟩
 rfl
theorem j_vD(n:Nat)(x:jP)(u:JV)(hu:nY 1048576 n u)(v:JV)(hv:nY 1048576 n v)(hz:nH v.v.1 v.v.2=false):jS Tryz.prog 142 [(.cptr 1000000 (jP.cells (.cptr 1000000 (jP.cells (mcA n x false)) 0)) 0),(.cptr 1000000 (jP.cells (jN (uL u))) 0),(.cptr 1000000 (jP.cells (jN (uL v))) 0)] (jM (qF (cL u.v v.v))):=by
 refine vA Tryz.func142 ?_
 refine jB<|kx [(3,(.ref 0 0))] [(0,some (bx (jM (kH.mk vQ vQ))))] (zN (vT 0 vX xA)<|zZ) ?_
 refine jB<|kx [] [(0,some (bx (jM (qF (cL u.v v.v)))))] (zE (nF sh111)<|zE (oFc gV)<|zE (dH kM)<|zE (oFc gV)<|zE (dH kM)<|zE (kF (j_div n (x) u.v (uB hu.1) v.v (uB hv.1) hz))<|zT (qU kM)<|zZ) ?_
 refine jE ⟨_,(kS (cs:=(bx (jM (qF (cL u.v v.v))))) (d:=(jM (qF (cL u.v v.v)))) rfl rfl kM rfl rfl .nil),?_⟩
 rfl
theorem j_gD(w:R2)(hw:GL 2097152 w)(y z:jP)(i:Nat)(n:Nat)(x:jP)(u:JV)(hu:nY 1048576 n u)(v:JV)(hv:nY 1048576 n v)(hz:nH v.v.1 v.v.2=false)(hi:i<n):jS Tryz.prog 144 [(.cptr 1000000 (jP.cells (.agg (jP.cells (jM (qF w))++[(y),(z)]))) 0),(.val (.int .i64 (((i:Nat):Int)))),(.cptr 1000000 (jP.cells (.cptr 1000000 (jP.cells (mcA n x false)) 0)) 0),(.cptr 1000000 (jP.cells (jN (uL u))) 0),(.cptr 1000000 (jP.cells (jN (uL v))) 0)] (jM (qF (cL (uC (u.g.getD i z2) (vI w (v.g.getD i z2))) v.v))):=by
 have hul:=hu.2.2
 have hvl:=hv.2.2
 refine vA Tryz.func144 ?_
 refine jB<|kx [(7,(.ref 0 0))] [(0,some (bx (jM (kH.mk vQ vQ))))] (zN (vT 0 vX xA)<|zZ) ?_
 refine jB<|kd [] [(0,some (bx (jM (qF (cL (uC (u.g.getD i z2) (vI w (v.g.getD i z2))) v.v)))))] mo (wE (nF sh111)<|wE (oFc nR)<|wE (nF sh43)<|wM<|wE (oXm mT qF i z2)<|wE (dH kM)<|wM<|wE oNd<|wE (oFc gV)<|wE (dH kM)<|wE (oFc nR)<|wE (nF sh43)<|wM<|wE (oXm mT qF i z2)<|wE (dH kM)<|wE (kF (j_mul w (uB hw) (v.g.getD i z2) (uB (xR hv.2.1 (by decide) i))))<|wE (kF (j_sub (u.g.getD i z2) (uB (xR hu.2.1 (by decide) i)) (vI w (v.g.getD i z2)) (uB (gU (k:=3145728) hw (xR hv.2.1 (by decide) i)))))<|wE (oFc gV)<|wE (dH kM)<|wE (kF (j_div n (x) (uC (u.g.getD i z2) (vI w (v.g.getD i z2))) (uB (aD (k:=4194305) (xR hu.2.1 (by decide) i) (gU (k:=3145728) hw (xR hv.2.1 (by decide) i)))) v.v (uB hv.1) hz))<|wT (qU kM)<|wZ) ?_
 refine jE ⟨_,(kS (cs:=(bx (jM (qF (cL (uC (u.g.getD i z2) (vI w (v.g.getD i z2))) v.v))))) (d:=(jM (qF (cL (uC (u.g.getD i z2) (vI w (v.g.getD i z2))) v.v)))) rfl rfl kM rfl rfl .nil),?_⟩
 rfl
theorem by42:xE Tryz.prog 42=some 128:=by kernel_rfl
theorem by46:xE Tryz.prog 46=some 176:=by kernel_rfl
theorem cb123:callB Tryz.prog 123=true:=by kernel_rfl
theorem el88:uG Tryz.prog 88=some (46,10):=by kernel_rfl
theorem fo113_0:uM Tryz.prog 113 0=some 0:=by kernel_rfl
theorem fo113_1:uM Tryz.prog 113 1=some 1:=by kernel_rfl
theorem fo113_3:uM Tryz.prog 113 3=some 3:=by kernel_rfl
theorem pl46:cE Tryz.prog 46=some [(0,8),(8,1),(9,1)]:=by kernel_rfl
theorem sh46:qC Tryz.prog 46=some (true,10):=by kernel_rfl
theorem sh88:qC Tryz.prog 88=some (false,1):=by kernel_rfl
theorem ze46:vG Tryz.prog 46=some [.bool false,.slice none 0 0,.bool false,.slice none 0 0,.bool false,.slice none 0 0,.bool false,.slice none 0 0,.slice none 0 0,.slice none 0 0]:=by kernel_rfl
theorem zn46:cN [.bool false,.slice none 0 0,.bool false,.slice none 0 0,.bool false,.slice none 0 0,.bool false,.slice none 0 0,.slice none 0 0,.slice none 0 0] [.val (.bool false),.val (.slice none 0 0),.val (.bool false),.val (.slice none 0 0),.val (.bool false),.val (.slice none 0 0),.val (.bool false),.val (.slice none 0 0),.val (.slice none 0 0),.val (.slice none 0 0)]:=by simp [cN,Value.oneCell']
theorem zo46:cN [.bool false,.slice none 0 0,.bool false,.slice none 0 0,.bool false,.slice none 0 0,.bool false,.slice none 0 0,.slice none 0 0,.slice none 0 0] [.val (.bool false),.sl 107 1 [],.val (.bool false),.sl 107 1 [],.val (.bool false),.sl 107 1 [],.val (.bool false),.sl 107 1 [],.sl 42 8 [],.sl 43 1 []]:=by simp [cN,Value.oneCell']
structure NKD where
 c1:SV
 c2:SV
 c3:SV
 X:BS
 v:R2
 g:Nat->R2
 k:List Nat
 b:List fP
inductive NK (n:Nat) (L:List JV):Type
 |C (p:Rat) (hp:QL p 1048576) (zz:R2) (hzz:GL 3 zz):NK n L
 |V (bv:List R2) (hbx:∀ x∈bv,GL 1048576 x) (a:Nat) (zz:R2) (hzz:GL 3 zz) (ha:a<bv.length) (hbl:bv.length<=1000000):NK n L
 |A (u:JV) (hu:nY 1048576 n u) (v:JV) (hv:nY 1048576 n v):NK n L
 |S (u:JV) (hu:nY 1048576 n u) (v:JV) (hv:nY 1048576 n v):NK n L
 |N (u:JV) (hu:nY 1048576 n u) (v:JV) (hv:nY 1048576 n v):NK n L
 |M (u:JV) (hu:nY 1048576 n u) (v:JV) (hv:nY 1048576 n v):NK n L
 |Q (u:JV) (hu:nY 1048576 n u) (tt:R2) (htt:GL 3 tt):NK n L
 |D (bb:Nat) (u:JV) (hu:nY 1048576 n u) (v:JV) (hv:nY 1048576 n v) (hz:nH v.v.1 v.v.2=false):NK n L
def NK.d{n:Nat}{L:List JV}:NK n L->NKD
 |.C p hp zz hzz=>⟨(.clo 127 [2]),(.clo 128 [3]),(.clo 121 [3]),[(2,some (bx (jK (kC.mk 0 0 0 (jV p))))),(3,some (bx (jM (qF zz))))],(gpt p),(fun i=>zz),[2],[(3,(bx (jM (qF zz))),(jP.cells (jM (qF zz))))]⟩
 |.V bv hbx a zz hzz ha hbl=>⟨(.clo 129 [2,3]),(.clo 130 [3,4]),(.clo 121 [4]),[(2,some (bx (.sl 42 8 (List.map jM (List.map qF bv))))),(3,some (bx (jK (kC.mk 1 ((a:Nat):Int) 0 vQ)))),(4,some (bx (jM (qF zz))))],(bv.getD a z2),(fun i=>(if ((i:Nat):Int)=((a:Nat):Int) then gw 1 else zz)),[2,3],[(4,(bx (jM (qF zz))),(jP.cells (jM (qF zz)))),(3,(bx (jK (kC.mk 1 ((a:Nat):Int) 0 vQ))),(jP.cells (jK (kC.mk 1 ((a:Nat):Int) 0 vQ))))]⟩
 |.A u hu v hv=>⟨(.clo 124 [2,3,4]),(.clo 125 [2,3,4]),(.clo 126 [2,3,4]),[(2,some (bx (.val (.func (.func 131) #[] #[])))),(3,some (bx (jN (uL u)))),(4,some (bx (jN (uL v))))],(yW u.v v.v),(fun i=>(yW (u.g.getD i z2) (v.g.getD i z2))),[2,3,4],[(4,(bx (jN (uL v))),(jP.cells (jN (uL v)))),(3,(bx (jN (uL u))),(jP.cells (jN (uL u)))),(2,(bx (.val (.func (.func 131) #[] #[]))),(jP.cells (.val (.func (.func 131) #[] #[]))))]⟩
 |.S u hu v hv=>⟨(.clo 124 [2,3,4]),(.clo 125 [2,3,4]),(.clo 126 [2,3,4]),[(2,some (bx (.val (.func (.func 132) #[] #[])))),(3,some (bx (jN (uL u)))),(4,some (bx (jN (uL v))))],(uC u.v v.v),(fun i=>(uC (u.g.getD i z2) (v.g.getD i z2))),[2,3,4],[(4,(bx (jN (uL v))),(jP.cells (jN (uL v)))),(3,(bx (jN (uL u))),(jP.cells (jN (uL u)))),(2,(bx (.val (.func (.func 132) #[] #[]))),(jP.cells (.val (.func (.func 132) #[] #[]))))]⟩
 |.N u hu v hv=>⟨(.clo 124 [2,3,4]),(.clo 125 [2,3,4]),(.clo 126 [2,3,4]),[(2,some [(.clo 133 [5])]),(3,some (bx (jN (uL u)))),(4,some (bx (jN (uL v)))),(5,some (bx (jM (qF (gw 0)))))],(uC (gw 0) u.v),(fun i=>(uC (gw 0) (u.g.getD i z2))),[4,3,2,5],[(4,(bx (jN (uL v))),(jP.cells (jN (uL v)))),(3,(bx (jN (uL u))),(jP.cells (jN (uL u)))),(2,[(.clo 133 [5])],[(.clo 133 [(.cptr 1000000 (jP.cells (jM (qF (gw 0)))) 0)])]),(5,(bx (jM (qF (gw 0)))),(jP.cells (jM (qF (gw 0)))))]⟩
 |.M u hu v hv=>⟨(.clo 134 [2,3]),(.clo 136 [2,3]),(.clo 137 [2,3]),[(2,some (bx (jN (uL u)))),(3,some (bx (jN (uL v))))],(vI u.v v.v),(fun i=>(yW (vI u.v (v.g.getD i z2)) (vI v.v (u.g.getD i z2)))),[2,3],[(3,(bx (jN (uL v))),(jP.cells (jN (uL v)))),(2,(bx (jN (uL u))),(jP.cells (jN (uL u))))]⟩
 |.Q u hu tt htt=>⟨(.clo 138 [2]),(.clo 140 [3,2]),(.clo 141 [2,3]),[(2,some (bx (jN (uL u)))),(3,some (bx (jM (qF tt))))],(gsq u.v),(fun i=>(vI tt (vI u.v (u.g.getD i z2)))),[2],[(2,(bx (jN (uL u))),(jP.cells (jN (uL u)))),(3,(bx (jM (qF tt))),(jP.cells (jM (qF tt))))]⟩
 |.D bb u hu v hv hz=>⟨(.clo 142 [2,3,4]),(.clo 144 [2,3,4]),(.clo 145 [3,4,2]),[(2,some [(.refx 0 0 bb)]),(3,some (bx (jN (uL u)))),(4,some (bx (jN (uL v))))],(cL u.v v.v),(fun i=>(cL (uC (u.g.getD i z2) (vI (cL u.v v.v) (v.g.getD i z2))) v.v)),[4,3,2,0,1],[(4,(bx (jN (uL v))),(jP.cells (jN (uL v)))),(3,(bx (jN (uL u))),(jP.cells (jN (uL u)))),(2,[(.refx 0 0 bb)],[(.cptr 1000000 (jP.cells (mcA n (.sl 1000000 10 (List.map jN (List.map uL L))) false)) 0)]),(0,(yQ n 1 L false),(jP.cells (mcA n (.sl 1000000 10 (List.map jN (List.map uL L))) false))),(1,(yT L),(qA (List.map jN (List.map uL L))))]⟩
theorem NK.hv{n:Nat}{L:List JV}(K:NK n L):GL 67108864 K.d.v:=match K with
 |.C p hp zz hzz=>(uB (gl_pt hp))
 |.V bv hbx a zz hzz ha hbl=>(uB (xR hbx (by decide) a))
 |.A u hu v hv=>(uB (gl_add (k:=2097153) hu.1 hv.1))
 |.S u hu v hv=>(uB (aD (k:=2097153) hu.1 hv.1))
 |.N u hu v hv=>(uB (aD (k:=1048580) (gl_w (z:=0) (by omega) (by omega)) hu.1))
 |.M u hu v hv=>(uB (gU (k:=2097152) hu.1 hv.1))
 |.Q u hu tt htt=>(uB (gl_sq (k:=2097152) hu.1 (by decide)))
 |.D bb u hu v hv hz=>(uB (gl_div (k:=2097152) hu.1 hv.1))
theorem NK.hg{n:Nat}{L:List JV}(K:NK n L)(i:Nat)(hi:i<n):GL 67108864 (K.d.g i):=match K with
 |.C p hp zz hzz=>(uB hzz)
 |.V bv hbx a zz hzz ha hbl=>(uB (gl_ite (gl_w (z:=1) (by omega) (by omega)) hzz))
 |.A u hu v hv=>(uB (gl_add (k:=2097153) (xR hu.2.1 (by decide) i) (xR hv.2.1 (by decide) i)))
 |.S u hu v hv=>(uB (aD (k:=2097153) (xR hu.2.1 (by decide) i) (xR hv.2.1 (by decide) i)))
 |.N u hu v hv=>(uB (aD (k:=1048580) (gl_w (z:=0) (by omega) (by omega)) (xR hu.2.1 (by decide) i)))
 |.M u hu v hv=>(uB (gl_add (k:=4194305) (gU (k:=2097152) hu.1 (xR hv.2.1 (by decide) i)) (gU (k:=2097152) hv.1 (xR hu.2.1 (by decide) i))))
 |.Q u hu tt htt=>(uB (gU (k:=2097155) htt (gU (k:=2097152) hu.1 (xR hu.2.1 (by decide) i))))
 |.D bb u hu v hv hz=>(uB (gl_div (k:=5242881) (aD (k:=4194305) (xR hu.2.1 (by decide) i) (gU (k:=3145728) (gl_div (k:=2097152) hu.1 hv.1) (xR hv.2.1 (by decide) i))) hv.1))
theorem nk_v{n:Nat}{L:List JV}(K:NK n L){o:Oper}{S:SL}{B:BS}{y:Operand}{ats:Array TypeId}(ho:o.op=.call { callee:=.value y,args:=#[],argTypes:=ats })(hy:ev (jT S) y=K.d.c1)(hb:K.d.k.map (fun k=>jW B k)=K.d.k.map (fun k=>jW ([(0,some (yQ n 1 L false)),(1,some (yT L))]++K.d.X) k)):RKs Tryz.prog o S B K.d.k (.d (jM (qF K.d.v))):=match K with
 |.C p hp zz hzz=>oCc (ds:=[]) [2] [(jP.cells (jK (kC.mk 0 0 0 (jV p))))] (j_vC p hp) (xC (by decide) _) (ho:=ho) (hy:=hy) (hx:=rfl) (qG:=rfl) (hb:=hb)
 |.V bv hbx a zz hzz ha hbl=>oCc (ds:=[]) [2,3] [(jP.cells (.sl 42 8 (List.map jM (List.map qF bv)))),(jP.cells (jK (kC.mk 1 ((a:Nat):Int) 0 vQ)))] (j_vV bv hbx a ha hbl) (xC (by decide) _) (ho:=ho) (hy:=hy) (hx:=rfl) (qG:=rfl) (hb:=hb)
 |.A u hu v hv=>oCc (ds:=[]) [2,3,4] [(jP.cells (.val (.func (.func 131) #[] #[]))),(jP.cells (jN (uL u))),(jP.cells (jN (uL v)))] (j_vAdd n u hu v hv) (xC (by decide) _) (ho:=ho) (hy:=hy) (hx:=rfl) (qG:=rfl) (hb:=hb)
 |.S u hu v hv=>oCc (ds:=[]) [2,3,4] [(jP.cells (.val (.func (.func 132) #[] #[]))),(jP.cells (jN (uL u))),(jP.cells (jN (uL v)))] (j_vSub n u hu v hv) (xC (by decide) _) (ho:=ho) (hy:=hy) (hx:=rfl) (qG:=rfl) (hb:=hb)
 |.N u hu v hv=>oCh [(4,(bx (jN (uL v))),(jP.cells (jN (uL v)))),(3,(bx (jN (uL u))),(jP.cells (jN (uL u)))),(2,[(.clo 133 [5])],[(.clo 133 [(.cptr 1000000 (jP.cells (jM (qF (gw 0)))) 0)])]),(5,(bx (jM (qF (gw 0)))),(jP.cells (jM (qF (gw 0)))))] [.ref 2 0,.ref 3 0,.ref 4 0] (j_vNeg n u hu v hv) (.cons (.r (.tail _ (.tail _ (.head _)))) (.cons (.r (.tail _ (.head _))) (.cons (.r (.head _)) .nil))) (.cons (.all rfl) (.cons (.all rfl) (.cons (.cons (.f (css:=[(jP.cells (jM (qF (gw 0))))]) (.cons (.head _) .nil)) .nil) (.cons (.all rfl) .nil)))) (xC (by decide) _) (ex:=[.ref 2 0,.ref 3 0,.ref 4 0]) (xs:=[]) (ho:=ho) (hy:=.clo (kk:=[2,3,4]) hy rfl) (hx:=rfl) (hb:=hb)
 |.M u hu v hv=>oCc (ds:=[]) [2,3] [(jP.cells (jN (uL u))),(jP.cells (jN (uL v)))] (j_vM n u hu v hv) (xC (by decide) _) (ho:=ho) (hy:=hy) (hx:=rfl) (qG:=rfl) (hb:=hb)
 |.Q u hu tt htt=>oCc (ds:=[]) [2] [(jP.cells (jN (uL u)))] (j_vQ n u hu) (xC (by decide) _) (ho:=ho) (hy:=hy) (hx:=rfl) (qG:=rfl) (hb:=hb)
 |.D bb u hu v hv hz=>oCh [(4,(bx (jN (uL v))),(jP.cells (jN (uL v)))),(3,(bx (jN (uL u))),(jP.cells (jN (uL u)))),(2,[(.refx 0 0 bb)],[(.cptr 1000000 (jP.cells (mcA n (.sl 1000000 10 (List.map jN (List.map uL L))) false)) 0)]),(0,(yQ n 1 L false),(jP.cells (mcA n (.sl 1000000 10 (List.map jN (List.map uL L))) false))),(1,(yT L),(qA (List.map jN (List.map uL L))))] [.ref 2 0,.ref 3 0,.ref 4 0] (j_vD n (.sl 1000000 10 (List.map jN (List.map uL L))) u hu v hv hz) (.cons (.r (.tail _ (.tail _ (.head _)))) (.cons (.r (.tail _ (.head _))) (.cons (.r (.head _)) .nil))) (.cons (.all rfl) (.cons (.all rfl) (.cons (.cons (.x (.head _)) .nil) (.cons (.cons .d (.cons .d (.cons .d (.cons (see_own (F:=jN) (L:=(List.map uL L)) (.head _) (fun _=>rfl) rfl) (.cons .d .nil))))) (.cons (.all (by exact rfl)) .nil))))) (xC (by decide) _) (ex:=[.ref 2 0,.ref 3 0,.ref 4 0]) (xs:=[]) (ho:=ho) (hy:=.clo (kk:=[2,3,4]) hy rfl) (hx:=rfl) (hb:=hb)
def nk_bl{n:Nat}{L:List JV}(K:NK n L)(gl:List kH):List fP:=K.d.b++[(6,(bx (jM (qF K.d.v))++[(.own 7 42 8 gl.length),(.own 8 43 1 0)]),(jP.cells (.agg (jP.cells (jM (qF K.d.v))++[(.sl 1000000 8 (List.map jM gl)),(.sl 1000000 1 (List.map xF []))])))),(8,(bm xF []),(qA (List.map xF []))),(7,(qL jM gl),(qA (List.map jM gl)))]
theorem nk_vb(v:R2)(gl:List kH):VBlks 1000000 [(6,(bx (jM (qF v))++[(.own 7 42 8 gl.length),(.own 8 43 1 0)]),(jP.cells (.agg (jP.cells (jM (qF v))++[(.sl 1000000 8 (List.map jM gl)),(.sl 1000000 1 (List.map xF []))])))),(8,(bm xF []),(qA (List.map xF []))),(7,(qL jM gl),(qA (List.map jM gl)))]:=(.cons (.cons .d (.cons .d (.cons .d (.cons .d (.cons .d (.cons .d (.cons .d (.cons .d (.cons (see_own (F:=jM) (L:=gl) (.tail _ (.head _)) (fun _=>rfl) rfl) (.cons (see_own (F:=xF) (L:=[]) (.head _) (fun _=>rfl) rfl) .nil)))))))))) (.cons (sees_bm (fun _=>rfl)) (.cons (.all (by exact rfl)) .nil)))
theorem nk_g{n:Nat}{L:List JV}(K:NK n L){i:Nat}(hi:i<n)(gl:List kH){o:Oper}{S:SL}{B:BS}{y:Operand}{xs:List Operand}{ats:Array TypeId}(ho:o.op=.call { callee:=.value y,args:=xs.toArray,argTypes:=ats })(hy:ev (jT S) y=K.d.c2)(hx:xs.map (ev (jT S))=[.ref 6 0,kJ i])(hb:(nk_bl K gl).map (fun p=>jW B p.1)=(nk_bl K gl).map (fun p=>some p.2.1)):RKs Tryz.prog o S B (K.d.b.map (·.1)++[6,8,7]) (.d (jM (qF (K.d.g i)))):=match K with
 |.C p hp zz hzz=>oCh (nk_bl (.C p hp zz hzz) gl) [(.ref 6 0),(kJ i),.ref 3 0] (j_gC _ i zz hzz) (.cons (.r (.tail _ (.head _))) (.cons .d (.cons (.r (.head _)) .nil))) (.cons (.all rfl) (nk_vb _ gl)) (xC (by decide) _) (ex:=[.ref 3 0]) (ho:=ho) (hy:=.clo (kk:=[3]) hy rfl) (hx:=by rw[hx];rfl) (hb:=hb)
 |.V bv hbx a zz hzz ha hbl=>oCh (nk_bl (.V bv hbx a zz hzz ha hbl) gl) [(.ref 6 0),(kJ i),.ref 3 0,.ref 4 0] (j_gV _ i a zz hzz) (.cons (.r (.tail _ (.tail _ (.head _)))) (.cons .d (.cons (.r (.tail _ (.head _))) (.cons (.r (.head _)) .nil)))) (.cons (.all rfl) (.cons (.all rfl) (nk_vb _ gl))) (xC (by decide) _) (ex:=[.ref 3 0,.ref 4 0]) (ho:=ho) (hy:=.clo (kk:=[3,4]) hy rfl) (hx:=by rw[hx];rfl) (hb:=hb)
 |.A u hu v hv=>oCh (nk_bl (.A u hu v hv) gl) [(.ref 6 0),(kJ i),.ref 2 0,.ref 3 0,.ref 4 0] (j_gAdd _ i n u hu v hv (by omega)) (.cons (.r (.tail _ (.tail _ (.tail _ (.head _))))) (.cons .d (.cons (.r (.tail _ (.tail _ (.head _)))) (.cons (.r (.tail _ (.head _))) (.cons (.r (.head _)) .nil))))) (.cons (.all rfl) (.cons (.all rfl) (.cons (.all rfl) (nk_vb _ gl)))) (xC (by decide) _) (ex:=[.ref 2 0,.ref 3 0,.ref 4 0]) (ho:=ho) (hy:=.clo (kk:=[2,3,4]) hy rfl) (hx:=by rw[hx];rfl) (hb:=hb)
 |.S u hu v hv=>oCh (nk_bl (.S u hu v hv) gl) [(.ref 6 0),(kJ i),.ref 2 0,.ref 3 0,.ref 4 0] (j_gSub _ i n u hu v hv (by omega)) (.cons (.r (.tail _ (.tail _ (.tail _ (.head _))))) (.cons .d (.cons (.r (.tail _ (.tail _ (.head _)))) (.cons (.r (.tail _ (.head _))) (.cons (.r (.head _)) .nil))))) (.cons (.all rfl) (.cons (.all rfl) (.cons (.all rfl) (nk_vb _ gl)))) (xC (by decide) _) (ex:=[.ref 2 0,.ref 3 0,.ref 4 0]) (ho:=ho) (hy:=.clo (kk:=[2,3,4]) hy rfl) (hx:=by rw[hx];rfl) (hb:=hb)
 |.N u hu v hv=>oCh (nk_bl (.N u hu v hv) gl) [(.ref 6 0),(kJ i),.ref 2 0,.ref 3 0,.ref 4 0] (j_gNeg _ i n u hu v hv (by omega)) (.cons (.r (.tail _ (.tail _ (.tail _ (.tail _ (.head _)))))) (.cons .d (.cons (.r (.tail _ (.tail _ (.head _)))) (.cons (.r (.tail _ (.head _))) (.cons (.r (.head _)) .nil))))) (.cons (.all rfl) (.cons (.all rfl) (.cons (.cons (.f (css:=[(jP.cells (jM (qF (gw 0))))]) (.cons (.head _) .nil)) .nil) (.cons (.all rfl) (nk_vb _ gl))))) (xC (by decide) _) (ex:=[.ref 2 0,.ref 3 0,.ref 4 0]) (ho:=ho) (hy:=.clo (kk:=[2,3,4]) hy rfl) (hx:=by rw[hx];rfl) (hb:=hb)
 |.M u hu v hv=>oCh (nk_bl (.M u hu v hv) gl) [(.ref 6 0),(kJ i),.ref 2 0,.ref 3 0] (j_gM _ i n u hu v hv (by omega)) (.cons (.r (.tail _ (.tail _ (.head _)))) (.cons .d (.cons (.r (.tail _ (.head _))) (.cons (.r (.head _)) .nil)))) (.cons (.all rfl) (.cons (.all rfl) (nk_vb _ gl))) (xC (by decide) _) (ex:=[.ref 2 0,.ref 3 0]) (ho:=ho) (hy:=.clo (kk:=[2,3]) hy rfl) (hx:=by rw[hx];rfl) (hb:=hb)
 |.Q u hu tt htt=>oCh (nk_bl (.Q u hu tt htt) gl) [(.ref 6 0),(kJ i),.ref 3 0,.ref 2 0] (j_gQ _ i tt htt n u hu (by omega)) (.cons (.r (.tail _ (.tail _ (.head _)))) (.cons .d (.cons (.r (.tail _ (.head _))) (.cons (.r (.head _)) .nil)))) (.cons (.all rfl) (.cons (.all rfl) (nk_vb _ gl))) (xC (by decide) _) (ex:=[.ref 3 0,.ref 2 0]) (ho:=ho) (hy:=.clo (kk:=[3,2]) hy rfl) (hx:=by rw[hx];rfl) (hb:=hb)
 |.D bb u hu v hv hz=>oCh (nk_bl (.D bb u hu v hv hz) gl) [(.ref 6 0),(kJ i),.ref 2 0,.ref 3 0,.ref 4 0] (j_gD (cL u.v v.v) (gl_div (k:=2097152) hu.1 hv.1) (.sl 1000000 8 (List.map jM gl)) (.sl 1000000 1 (List.map xF [])) i n (.sl 1000000 10 (List.map jN (List.map uL L))) u hu v hv hz (by omega)) (.cons (.r (.tail _ (.tail _ (.tail _ (.tail _ (.tail _ (.head _))))))) (.cons .d (.cons (.r (.tail _ (.tail _ (.head _)))) (.cons (.r (.tail _ (.head _))) (.cons (.r (.head _)) .nil))))) (.cons (.all rfl) (.cons (.all rfl) (.cons (.cons (.x (.head _)) .nil) (.cons (.cons .d (.cons .d (.cons .d (.cons (see_own (F:=jN) (L:=(List.map uL L)) (.head _) (fun _=>rfl) rfl) (.cons .d .nil))))) (.cons (.all (by exact rfl)) (nk_vb _ gl)))))) (xC (by decide) _) (ex:=[.ref 2 0,.ref 3 0,.ref 4 0]) (ho:=ho) (hy:=.clo (kk:=[2,3,4]) hy rfl) (hx:=by rw[hx];rfl) (hb:=hb)
set_option maxHeartbeats 4000000 in
theorem eG(n:Nat)(L:List JV)(K0:NK n L)(hn:n<=64)(hL:L.length<=1000):let K:=K0;vJ Tryz.prog 123 [(.ref 0 0),K.d.c1,K.d.c2,K.d.c3] ([(0,some (yQ n 1 L false)),(1,some (yT L))]++K.d.X) (.d (.tup [])) [(0,some (yQ n 10 (L++[(jk K.d.v (fun i=>(K.d.g i)) n)]) false)),(10,some (yT (L++[(jk K.d.v (fun i=>(K.d.g i)) n)])))]:=by
 cases K0
 all_goals
  intro K
  refine zB Tryz.func123 rfl cb123 rfl ?_
  show dG _ _ _ _ ⟨[(0,(.ref 0 0)),(1,K.d.c1),(2,K.d.c2),(3,K.d.c3)],([(0,some (yQ n 1 L false)),(1,some (yT L))]++K.d.X)⟩
  refine jB<|kx [(8,(.ref 6 0))] [(6,some (bx (.agg (jP.cells (jM (qF K.d.v))++[(.val (.slice none 0 0)),(.val (.slice none 0 0))]))))] (zM<|zM<|zC (nk_v K (by exact rfl) (by kernel_rfl) (by kernel_rfl))<|zC (oCh [(0,(yQ n 1 L false),(jP.cells (mcA n (.sl 1000000 10 (List.map jN (List.map uL L))) false))),(1,(yT L),(qA (List.map jN (List.map uL L))))] [(.ref 0 0),(.d (jM (qF K.d.v)))] (j_round n (.sl 1000000 10 (List.map jN (List.map uL L))) K.d.v K.hv) (.cons (.r (.head _)) (.cons .d .nil)) (.cons (.cons .d (.cons .d (.cons .d (.cons (see_own (F:=jN) (L:=(List.map uL L)) (.head _) (fun _=>rfl) rfl) (.cons .d .nil))))) (.cons (.all (by exact rfl)) .nil)) (xC (by decide) _) (ex:=[]))<|zE (oBd pl46 ze46 zn46)<|zH (vT 6 ze46 zo46)<|zT (qU sh46)<|zZ) ?_
  refine jB<|jB<|kx [(22,(vb true))] [] (zM<|zE oNc<|zE (kL fo113_1)<|zR (qK uF)<|zE (fC true eA)<|zZ) ?_
  refine cQ ?_
  refine jB<|pwp_own 6 8 7 42 8 (cs:=(bx (.agg (jP.cells (jM (qF K.d.v))++[(.val (.slice none 0 0)),(.val (.slice none 0 0))])))) (h:=?_)
  refine qH (wk (l:=[(0,(.ref 0 0)),(1,K.d.c1),(2,K.d.c2),(3,K.d.c3),(8,(.ref 6 0)),(22,(vb true))]) (b:=([(0,some (yQ n 1 L false)),(1,some (yT L)),(6,some (bx (jM (qF K.d.v))++[(.own 7 42 8 0),(.d (.val (.slice none 0 0)))])),(7,some (qL jM []))]++K.d.X))) ?_
  refine pwp_own 6 9 8 43 1 (cs:=(bx (jM (qF K.d.v))++[(.own 7 42 8 0),(.d (.val (.slice none 0 0)))])) (h:=?_)
  refine qH (wk (l:=[(0,(.ref 0 0)),(1,K.d.c1),(2,K.d.c2),(3,K.d.c3),(8,(.ref 6 0)),(22,(vb true))]) (b:=([(0,some (yQ n 1 L false)),(1,some (yT L)),(6,some (bx (jM (qF K.d.v))++[(.own 7 42 8 0),(.own 8 43 1 0)])),(7,some (qL jM [])),(8,some (bm xF []))]++K.d.X))) ?_
  refine kx [(26,(kJ n)),(27,(kJ 0))] [] (zM<|zE oNc<|zE (kL fo113_0)<|zR (qK uF)<|zM<|zZ) ?_
  refine jL<|kW (α:=Nat × List kH) (fun (i,gl)=>⟨[(0,(.ref 0 0)),(1,K.d.c1),(2,K.d.c2),(3,K.d.c3),(8,(.ref 6 0)),(26,(kJ n)),(27,(kJ i))],([(0,some (yQ n 1 L false)),(1,some (yT L)),(6,some (bx (jM (qF K.d.v))++[(.own 7 42 8 gl.length),(.own 8 43 1 0)])),(7,some (qL jM gl)),(8,some (bm xF []))]++K.d.X)⟩) (fun (i,gl)=>i<=n/\gl=List.map qF (List.map (fun (i:Nat)=>(K.d.g i)) (List.range i))) (fun (i,gl)=>n-i) (0,[]) wk ⟨Nat.zero_le _,rfl⟩ ?_
  rintro ⟨i,gl⟩ ⟨hi,hg⟩
  have hgl:gl.length=i:=jk_len (G:=(fun (i:Nat)=>(K.d.g i))) hg
  refine jB<|kx [(28,(vb (decide (((i:Nat):Int)<((n:Nat):Int)))))] [] (zE nD<|zZ) ?_
  refine jB<|jF rfl (fun h1=>?_) (fun h1=>?_)
  ·replace h1:=vW h1
   refine jH<|jB<|jL<|jB<|kx [(9,(kJ i))] [] (zM<|zM<|zZ) ?_
   refine kd [] [(6,some (bx (jM (qF K.d.v))++[(.own 9 42 8 ((gl++[(qF (K.d.g i))]).length)),(.own 8 43 1 0)])),(9,some (qL jM (gl++[(qF (K.d.g i))]))),(7,none)] mo (wE (kL nR)<|wR (qK sh43)<|wM<|wM<|wM<|wC (nk_g K (Int.ofNat_lt.1 h1) gl (by exact rfl) (by kernel_rfl) (by kernel_rfl) (by kernel_rfl))<|wC (oCh [(0,(yQ n 1 L false),(jP.cells (mcA n (.sl 1000000 10 (List.map jN (List.map uL L))) false))),(1,(yT L),(qA (List.map jN (List.map uL L))))] [(.ref 0 0),(.d (jM (qF (K.d.g i))))] (j_round n (.sl 1000000 10 (List.map jN (List.map uL L))) (K.d.g i) (K.hg i (by omega))) (.cons (.r (.head _)) (.cons .d .nil)) (.cons (.cons .d (.cons .d (.cons .d (.cons (see_own (F:=jN) (L:=(List.map uL L)) (.head _) (fun _=>rfl) rfl) (.cons .d .nil))))) (.cons (.all (by exact rfl)) .nil)) (xC (by decide) _) (ex:=[]))<|wE (oBs mT vX xA)<|wAS (k:=7) 9 jM gl [(qF (K.d.g i))] rfl mT vX by42<|wE (kL nR)<|wT (oSx sh43)<|wZ) ?_
   refine qH (wk (l:=[(0,(.ref 0 0)),(1,K.d.c1),(2,K.d.c2),(3,K.d.c3),(8,(.ref 6 0)),(26,(kJ n)),(27,(kJ i))]) (b:=([(0,some (yQ n 1 L false)),(1,some (yT L)),(6,some (bx (jM (qF K.d.v))++[(.own 9 42 8 ((gl++[(qF (K.d.g i))]).length)),(.own 8 43 1 0)])),(8,some (bm xF [])),(9,some (qL jM (gl++[(qF (K.d.g i))])))]++K.d.X))) ?_
   refine qH (sim_ren2 (S':=[(0,(.ref 0 0)),(1,K.d.c1),(2,K.d.c2),(3,K.d.c3),(8,(.ref 6 0)),(26,(kJ n)),(27,(kJ i))]) (B':=([(0,some (yQ n 1 L false)),(1,some (yT L)),(6,some (bx (jM (qF K.d.v))++[(.own 7 42 8 ((gl++[(qF (K.d.g i))]).length)),(.own 8 43 1 0)])),(7,some (qL jM (gl++[(qF (K.d.g i))]))),(8,some (bm xF []))]++K.d.X)) 7 9 6) ?_
   refine kx [(27,(kJ (i+1)))] [] (zE (xO (i+1))<|zM<|zZ) ?_
   exact ⟨(i+1,gl++[qF (K.d.g i)]),wk,⟨by omega,jk_push (G:=(fun (i:Nat)=>(K.d.g i))) hg⟩,(by first|omega|(dsimp only;omega))⟩
  ·replace h1:=xJ h1
   refine kQ<|jB<|jB<|kx [(45,(vb false))] [] (zM<|zE oNc<|zE (kL fo113_1)<|zR (qK uF)<|zE (fC false eA)<|zZ) ?_
   refine vH ?_
   refine jH<|qH (publishAt (j:=6) (k:=7) (pre:=(bx (jM (qF K.d.v)))) (post:=[(.own 8 43 1 0)]) (es:=List.map jM gl) rfl (by decide) rfl (aG _ _ (fun _=>rfl)) (vY _ _ rfl) (pubs_take jM gl (fun _=>rfl) rfl)) ?_
   refine qH (wk (l:=[(0,(.ref 0 0)),(1,K.d.c1),(2,K.d.c2),(3,K.d.c3),(8,(.ref 6 0)),(45,(vb false))]) (b:=([(0,some (yQ n 1 L false)),(1,some (yT L)),(6,some (bx (jM (qF K.d.v))++[(vl 42 8 jM gl),(.own 8 43 1 0)])),(8,some (bm xF []))]++K.d.X))) ?_
   refine qH (publishAt (j:=6) (k:=8) (pre:=(bx (jM (qF K.d.v))++[(vl 42 8 jM gl)])) (post:=[]) (es:=List.map xF []) rfl (by decide) rfl (vD _ _ (fun _=>rfl)) (vY _ _ rfl) (xB _ _ (fun _=>rfl) rfl)) ?_
   refine qH (wk (l:=[(0,(.ref 0 0)),(1,K.d.c1),(2,K.d.c2),(3,K.d.c3),(8,(.ref 6 0)),(45,(vb false))]) (b:=([(0,some (yQ n 1 L false)),(1,some (yT L)),(6,some (bx (jN (fZ.mk (qF K.d.v) gl []))))]++K.d.X))) ?_
   refine kd [] [(0,some [(kJ n),(kJ 1),(vi (-1)),(.own 10 46 10 (((List.map uL L)++[(fZ.mk (qF K.d.v) gl [])]).length)),(vb false)]),(10,some (qL jN ((List.map uL L)++[(fZ.mk (qF K.d.v) gl [])]))),(1,none)] mo (wM<|wM<|wE oNc<|wE (kL fo113_3)<|wR (qK sh88)<|wR (kV sh46)<|wE (oBs el88 ze46 zo46)<|wAS (k:=1) 10 jN (List.map uL L) [(fZ.mk (qF K.d.v) gl [])] rfl el88 ze46 by46<|wE oNc<|wE (kL fo113_3)<|wT (oSx sh88)<|wZ) ?_
   have hJ:List.map uL (L++[(jk K.d.v (fun i=>(K.d.g i)) n)])=List.map uL L++[fZ.mk (qF K.d.v) gl []]:=by rw[List.map_append,hg,show i=n by omega];rfl
   unfold yQ yT
   rw[hJ]
   refine ⟨qV (by kernel_rfl),uP (by kernel_rfl),.inl ⟨_,.nil,?_⟩⟩
   rfl
theorem e_nodeC(n:Nat)(L:List JV)(p:Rat)(hp:QL p 1048576)(zz:R2)(hzz:GL 3 zz)(hn:n<=64)(hL:L.length<=1000):vJ Tryz.prog 123 [(.ref 0 0),(.clo 127 [2]),(.clo 128 [3]),(.clo 121 [3])] [(0,some (yQ n 1 L false)),(1,some (yT L)),(2,some (bx (jK (kC.mk 0 0 0 (jV p))))),(3,some (bx (jM (qF zz))))] (.d (.tup [])) [(0,some (yQ n 10 (L++[(jk (gpt p) (fun i=>zz) n)]) false)),(10,some (yT (L++[(jk (gpt p) (fun i=>zz) n)])))]:=eG n L (.C p hp zz hzz) hn hL
theorem e_nodeV(n:Nat)(L:List JV)(bv:List R2)(hbx:∀ x∈bv,GL 1048576 x)(a:Nat)(zz:R2)(hzz:GL 3 zz)(hn:n<=64)(hL:L.length<=1000)(ha:a<bv.length)(hbl:bv.length<=1000000):vJ Tryz.prog 123 [(.ref 0 0),(.clo 129 [2,3]),(.clo 130 [3,4]),(.clo 121 [4])] [(0,some (yQ n 1 L false)),(1,some (yT L)),(2,some (bx (.sl 42 8 (List.map jM (List.map qF bv))))),(3,some (bx (jK (kC.mk 1 ((a:Nat):Int) 0 vQ)))),(4,some (bx (jM (qF zz))))] (.d (.tup [])) [(0,some (yQ n 10 (L++[(jk (bv.getD a z2) (fun i=>(if ((i:Nat):Int)=((a:Nat):Int) then gw 1 else zz)) n)]) false)),(10,some (yT (L++[(jk (bv.getD a z2) (fun i=>(if ((i:Nat):Int)=((a:Nat):Int) then gw 1 else zz)) n)])))]:=eG n L (.V bv hbx a zz hzz ha hbl) hn hL
theorem e_nodeA(n:Nat)(L:List JV)(u:JV)(hu:nY 1048576 n u)(v:JV)(hv:nY 1048576 n v)(hn:n<=64)(hL:L.length<=1000):vJ Tryz.prog 123 [(.ref 0 0),(.clo 124 [2,3,4]),(.clo 125 [2,3,4]),(.clo 126 [2,3,4])] [(0,some (yQ n 1 L false)),(1,some (yT L)),(2,some (bx (.val (.func (.func 131) #[] #[])))),(3,some (bx (jN (uL u)))),(4,some (bx (jN (uL v))))] (.d (.tup [])) [(0,some (yQ n 10 (L++[(jk (yW u.v v.v) (fun i=>(yW (u.g.getD i z2) (v.g.getD i z2))) n)]) false)),(10,some (yT (L++[(jk (yW u.v v.v) (fun i=>(yW (u.g.getD i z2) (v.g.getD i z2))) n)])))]:=eG n L (.A u hu v hv) hn hL
theorem e_nodeS(n:Nat)(L:List JV)(u:JV)(hu:nY 1048576 n u)(v:JV)(hv:nY 1048576 n v)(hn:n<=64)(hL:L.length<=1000):vJ Tryz.prog 123 [(.ref 0 0),(.clo 124 [2,3,4]),(.clo 125 [2,3,4]),(.clo 126 [2,3,4])] [(0,some (yQ n 1 L false)),(1,some (yT L)),(2,some (bx (.val (.func (.func 132) #[] #[])))),(3,some (bx (jN (uL u)))),(4,some (bx (jN (uL v))))] (.d (.tup [])) [(0,some (yQ n 10 (L++[(jk (uC u.v v.v) (fun i=>(uC (u.g.getD i z2) (v.g.getD i z2))) n)]) false)),(10,some (yT (L++[(jk (uC u.v v.v) (fun i=>(uC (u.g.getD i z2) (v.g.getD i z2))) n)])))]:=eG n L (.S u hu v hv) hn hL
theorem e_nodeN(n:Nat)(L:List JV)(u:JV)(hu:nY 1048576 n u)(v:JV)(hv:nY 1048576 n v)(hn:n<=64)(hL:L.length<=1000):vJ Tryz.prog 123 [(.ref 0 0),(.clo 124 [2,3,4]),(.clo 125 [2,3,4]),(.clo 126 [2,3,4])] [(0,some (yQ n 1 L false)),(1,some (yT L)),(2,some [(.clo 133 [5])]),(3,some (bx (jN (uL u)))),(4,some (bx (jN (uL v)))),(5,some (bx (jM (qF (gw 0)))))] (.d (.tup [])) [(0,some (yQ n 10 (L++[(jk (uC (gw 0) u.v) (fun i=>(uC (gw 0) (u.g.getD i z2))) n)]) false)),(10,some (yT (L++[(jk (uC (gw 0) u.v) (fun i=>(uC (gw 0) (u.g.getD i z2))) n)])))]:=eG n L (.N u hu v hv) hn hL
theorem e_nodeM(n:Nat)(L:List JV)(u:JV)(hu:nY 1048576 n u)(v:JV)(hv:nY 1048576 n v)(hn:n<=64)(hL:L.length<=1000):vJ Tryz.prog 123 [(.ref 0 0),(.clo 134 [2,3]),(.clo 136 [2,3]),(.clo 137 [2,3])] [(0,some (yQ n 1 L false)),(1,some (yT L)),(2,some (bx (jN (uL u)))),(3,some (bx (jN (uL v))))] (.d (.tup [])) [(0,some (yQ n 10 (L++[(jk (vI u.v v.v) (fun i=>(yW (vI u.v (v.g.getD i z2)) (vI v.v (u.g.getD i z2)))) n)]) false)),(10,some (yT (L++[(jk (vI u.v v.v) (fun i=>(yW (vI u.v (v.g.getD i z2)) (vI v.v (u.g.getD i z2)))) n)])))]:=eG n L (.M u hu v hv) hn hL
theorem e_nodeQ(n:Nat)(L:List JV)(u:JV)(hu:nY 1048576 n u)(tt:R2)(htt:GL 3 tt)(hn:n<=64)(hL:L.length<=1000):vJ Tryz.prog 123 [(.ref 0 0),(.clo 138 [2]),(.clo 140 [3,2]),(.clo 141 [2,3])] [(0,some (yQ n 1 L false)),(1,some (yT L)),(2,some (bx (jN (uL u)))),(3,some (bx (jM (qF tt))))] (.d (.tup [])) [(0,some (yQ n 10 (L++[(jk (gsq u.v) (fun i=>(vI tt (vI u.v (u.g.getD i z2)))) n)]) false)),(10,some (yT (L++[(jk (gsq u.v) (fun i=>(vI tt (vI u.v (u.g.getD i z2)))) n)])))]:=eG n L (.Q u hu tt htt) hn hL
theorem e_nodeD(n:Nat)(L:List JV)(bb:Nat)(u:JV)(hu:nY 1048576 n u)(v:JV)(hv:nY 1048576 n v)(hn:n<=64)(hL:L.length<=1000)(hz:nH v.v.1 v.v.2=false):vJ Tryz.prog 123 [(.ref 0 0),(.clo 142 [2,3,4]),(.clo 144 [2,3,4]),(.clo 145 [3,4,2])] [(0,some (yQ n 1 L false)),(1,some (yT L)),(2,some [(.refx 0 0 bb)]),(3,some (bx (jN (uL u)))),(4,some (bx (jN (uL v))))] (.d (.tup [])) [(0,some (yQ n 10 (L++[(jk (cL u.v v.v) (fun i=>(cL (uC (u.g.getD i z2) (vI (cL u.v v.v) (v.g.getD i z2))) v.v)) n)]) false)),(10,some (yT (L++[(jk (cL u.v v.v) (fun i=>(cL (uC (u.g.getD i z2) (vI (cL u.v v.v) (v.g.getD i z2))) v.v)) n)])))]:=eG n L (.D bb u hu v hv hz) hn hL
end Go.Proofs.YtckccjhflbljgaaGreatDoor
