/- Part 28 of a proof: rules, plain facts, and functions walked. -/
import Derived.Test.YtckccjhflbljgaaGreatDoorM27
import Derived.Test.YtckccjhflbljgaaGreatDoorM26
set_option linter.all false
set_option maxRecDepth 4000
namespace Go.Proofs.YtckccjhflbljgaaGreatDoor
open Go.Fid
theorem cb60:callB Tryz.prog 60=true:=by kernel_rfl
theorem pl103:cR Tryz.prog 103=some [(0,1),(1,1),(2,1),(3,1),(4,1)]:=by kernel_rfl
theorem ze103:vO Tryz.prog 103=some [.slice none 0 0,.map none,.map none,.slice none 0 0,.bool false]:=by kernel_rfl
theorem zn103:dC [.slice none 0 0,.map none,.map none,.slice none 0 0,.bool false] [.val (.slice none 0 0),.val (.map none),.val (.map none),.val (.slice none 0 0),.val (.bool false)]:=by simp [dC,Value.oneCell']
theorem e_newb :vR Tryz.prog 60 [] [] (.ref 0 0) [(0,some [(.own 1 72 7 mC.tm.length),(.mp 2),(.mp 3),(.own 4 3 1 mC.us.length),(vb mC.ov)]),(1,some (qN jM mC.tm)),(2,some [.mo (kX vJ kY mC.kn)]),(3,some [.mo (kX vL kY mC.os)]),(4,some (bm jH mC.us))]:=by
 refine zW Tryz.func60 rfl cb60 rfl ?_
 refine jB<|kx [] [] (zM<|zZ) ?_
 refine jB<|qL (wk (l:=[]) (b:=[])) ?_
 refine kr_cutm 2 [(1,.mp 2),(2,.mp 3)] [(3,some [.mo (kX vL kY [])]),(2,some [.mo (kX vJ kY [])])] [(0,.ref 0 0)] ((0,some [.d (.val (.slice none 0 0)),.mp 2,.mp 3,.d (.val (.slice none 0 0)),.d (.val (.bool false))])::[(3,some [.mo (kX vL kY [])]),(2,some [.mo (kX vJ kY [])])]) 1 2 (zN (oMm 2 vJ kY)<|zN (oMm 3 vL kY)<|zI (sim_get (dT (by kernel_rfl)) (fun _ _ h=>h))) rfl rfl (fun b b'=>zE (oOm 1 (k:=2) (b:=b) (oOm 2 (k:=3) (b:=b') (bC pl103 ze103 zn103)))<|zN (vZ 0)<|zM<|zI (cell_mps5 0 1 2 rfl rfl (by exact rfl) (by kernel_rfl) rfl)) ?_
 refine qL (wk (l:=[(0,(.ref 0 0))]) (b:=[(0,some [(.d (.val (.slice none 0 0))),(.mp 2),(.mp 3),(.d (.val (.slice none 0 0))),(vb false)]),(2,some [.mo (kX vJ kY [])]),(3,some [.mo (kX vL kY [])])])) ?_
 refine pwp_own 0 0 1 72 7 (cs:=[(.d (.val (.slice none 0 0))),(.mp 2),(.mp 3),(.d (.val (.slice none 0 0))),(vb false)]) (h:=?_)
 refine qL (wk (l:=[(0,(.ref 0 0))]) (b:=[(0,some [(.own 1 72 7 0),(.mp 2),(.mp 3),(.d (.val (.slice none 0 0))),(vb false)]),(1,some (qN jM [])),(2,some [.mo (kX vJ kY [])]),(3,some [.mo (kX vL kY [])])])) ?_
 refine pwp_own 0 3 4 3 1 (cs:=[(.own 1 72 7 0),(.mp 2),(.mp 3),(.d (.val (.slice none 0 0))),(vb false)]) (h:=?_)
 refine qL (wk (l:=[(0,(.ref 0 0))]) (b:=[(0,some [(.own 1 72 7 0),(.mp 2),(.mp 3),(.own 4 3 1 0),(vb false)]),(1,some (qN jM [])),(2,some [.mo (kX vJ kY [])]),(3,some [.mo (kX vL kY [])]),(4,some (bm jH []))])) ?_
 exact jE ⟨qZ (by kernel_rfl),vA (by kernel_rfl),.inr (.inl ⟨0,rfl,rfl⟩)⟩
theorem hH:uQ Tryz.prog 46 0=some 0:=by kernel_rfl
theorem mA:uQ Tryz.prog 46 1=some 8:=by kernel_rfl
theorem fo113_2:uQ Tryz.prog 113 2=some 2:=by kernel_rfl
theorem sh43:qE Tryz.prog 43=some (false,1):=by kernel_rfl
theorem sh67:qE Tryz.prog 67=some (false,1):=by kernel_rfl
theorem sh111:qE Tryz.prog 111=some (false,1):=by kernel_rfl
theorem j_round(n:Nat)(x:jT)(a:R2)(ha:GL 67108864 a):jR Tryz.prog 170 [(.cptr 1000000 (jT.cells (mcA n x false)) 0),(jN (qH a))] (jN (qH a)):=by
 refine uU Tryz.func170 ?_
 refine jB<|kx [(3,(.ref 0 0)),(4,(.ref 1 0))] [(0,some (bx (jN (qH a)))),(1,some (bx (jN (kJ.mk uD uD))))] (zN (vZ 0)<|zN (vC 1 xF xK)<|zZ) ?_
 refine jB<|jB<|kx [(9,(vb true))] [] (zM<|zE oNd<|zE (oFc fo113_2)<|zE (nK uC)<|zE (nH true gX)<|zZ) ?_
 refine yR ?_
 refine jB<|kx [] [(1,some (bx (jN (qH a))))] (zR (kR kO)<|zT (qM kO)<|zZ) ?_
 refine jE ⟨_,(kP (cs:=(bx (jN (qH a)))) (d:=(jN (qH a))) rfl rfl kO rfl rfl .nil),?_⟩
 rfl
theorem j_negop(a:R2)(ha:GL 67108864 a)(b:R2)(hb:GL 67108864 b)(zz:R2)(hzz:GL 3 zz):jR Tryz.prog 133 [(jN (qH a)),(jN (qH b)),(.cptr 1000000 (jT.cells (jN (qH zz))) 0)] (jN (qH (uJ zz a))):=by
 refine uU Tryz.func133 ?_
 refine jB<|kx [(3,(.ref 0 0)),(5,(.ref 2 0))] [(0,some (bx (jN (qH a)))),(2,some (bx (jN (kJ.mk uD uD)))),(1,none)] (zN (vZ 0)<|zN (vZ 1)<|zN (vC 2 xF xK)<|zZ) ?_
 refine jB<|kx [] [(2,some (bx (jN (qH (uJ zz a)))))] (zE (cV kO)<|zR (kR kO)<|zE (kB (j_sub zz (uH hzz) a ha))<|zT (qM kO)<|zZ) ?_
 refine jE ⟨_,(kP (cs:=(bx (jN (qH (uJ zz a))))) (d:=(jN (qH (uJ zz a)))) rfl rfl kO rfl rfl .nil),?_⟩
 rfl
theorem j_vAdd(n:Nat)(u:JV)(hu:nW 1048576 n u)(v:JV)(hv:nW 1048576 n v):jR Tryz.prog 124 [(.cptr 1000000 (jT.cells (.val (.func (.func 131) #[] #[]))) 0),(.cptr 1000000 (jT.cells (jP (uT u))) 0),(.cptr 1000000 (jT.cells (jP (uT v))) 0)] (jN (qH (yY u.v v.v))):=by
 refine uU Tryz.func124 ?_
 refine jB<|kx [(3,(.ref 0 0))] [(0,some (bx (jN (kJ.mk uD uD))))] (zN (vC 0 xF xK)<|zZ) ?_
 refine jB<|kx [] [(0,some (bx (jN (qH (yY u.v v.v)))))] (zE (nK sh67)<|zE (oFc hH)<|zE (cV kO)<|zE (oFc hH)<|zE (cV kO)<|zE (kB (j_add u.v (uH hu.1) v.v (uH hv.1)))<|zT (qM kO)<|zZ) ?_
 refine jE ⟨_,(kP (cs:=(bx (jN (qH (yY u.v v.v))))) (d:=(jN (qH (yY u.v v.v)))) rfl rfl kO rfl rfl .nil),?_⟩
 rfl
theorem j_gAdd(wp:jT)(i:Nat)(n:Nat)(u:JV)(hu:nW 1048576 n u)(v:JV)(hv:nW 1048576 n v)(hi:i<n):jR Tryz.prog 125 [(wp),(.val (.int .i64 (((i:Nat):Int)))),(.cptr 1000000 (jT.cells (.val (.func (.func 131) #[] #[]))) 0),(.cptr 1000000 (jT.cells (jP (uT u))) 0),(.cptr 1000000 (jT.cells (jP (uT v))) 0)] (jN (qH (yY (u.g.getD i z2) (v.g.getD i z2)))):=by
 have hul:=hu.2.2
 have hvl:=hv.2.2
 refine uU Tryz.func125 ?_
 refine jB<|kx [(7,(.ref 0 0))] [(0,some (bx (jN (kJ.mk uD uD))))] (zN (vC 0 xF xK)<|zZ) ?_
 refine jB<|kd [] [(0,some (bx (jN (qH (yY (u.g.getD i z2) (v.g.getD i z2))))))] mo (wE (nK sh67)<|wE (oFc mA)<|wE (nK sh43)<|wM<|wE (oXm cF qH i z2)<|wE (cV kO)<|wE (oFc mA)<|wE (nK sh43)<|wM<|wE (oXm cF qH i z2)<|wE (cV kO)<|wE (kB (j_add (u.g.getD i z2) (uH (zG hu.2.1 (by decide) i)) (v.g.getD i z2) (uH (zG hv.2.1 (by decide) i))))<|wT (qM kO)<|wZ) ?_
 refine jE ⟨_,(kP (cs:=(bx (jN (qH (yY (u.g.getD i z2) (v.g.getD i z2)))))) (d:=(jN (qH (yY (u.g.getD i z2) (v.g.getD i z2))))) rfl rfl kO rfl rfl .nil),?_⟩
 rfl
theorem j_vSub(n:Nat)(u:JV)(hu:nW 1048576 n u)(v:JV)(hv:nW 1048576 n v):jR Tryz.prog 124 [(.cptr 1000000 (jT.cells (.val (.func (.func 132) #[] #[]))) 0),(.cptr 1000000 (jT.cells (jP (uT u))) 0),(.cptr 1000000 (jT.cells (jP (uT v))) 0)] (jN (qH (uJ u.v v.v))):=by
 refine uU Tryz.func124 ?_
 refine jB<|kx [(3,(.ref 0 0))] [(0,some (bx (jN (kJ.mk uD uD))))] (zN (vC 0 xF xK)<|zZ) ?_
 refine jB<|kx [] [(0,some (bx (jN (qH (uJ u.v v.v)))))] (zE (nK sh67)<|zE (oFc hH)<|zE (cV kO)<|zE (oFc hH)<|zE (cV kO)<|zE (kB (j_sub u.v (uH hu.1) v.v (uH hv.1)))<|zT (qM kO)<|zZ) ?_
 refine jE ⟨_,(kP (cs:=(bx (jN (qH (uJ u.v v.v))))) (d:=(jN (qH (uJ u.v v.v)))) rfl rfl kO rfl rfl .nil),?_⟩
 rfl
theorem j_gSub(wp:jT)(i:Nat)(n:Nat)(u:JV)(hu:nW 1048576 n u)(v:JV)(hv:nW 1048576 n v)(hi:i<n):jR Tryz.prog 125 [(wp),(.val (.int .i64 (((i:Nat):Int)))),(.cptr 1000000 (jT.cells (.val (.func (.func 132) #[] #[]))) 0),(.cptr 1000000 (jT.cells (jP (uT u))) 0),(.cptr 1000000 (jT.cells (jP (uT v))) 0)] (jN (qH (uJ (u.g.getD i z2) (v.g.getD i z2)))):=by
 have hul:=hu.2.2
 have hvl:=hv.2.2
 refine uU Tryz.func125 ?_
 refine jB<|kx [(7,(.ref 0 0))] [(0,some (bx (jN (kJ.mk uD uD))))] (zN (vC 0 xF xK)<|zZ) ?_
 refine jB<|kd [] [(0,some (bx (jN (qH (uJ (u.g.getD i z2) (v.g.getD i z2))))))] mo (wE (nK sh67)<|wE (oFc mA)<|wE (nK sh43)<|wM<|wE (oXm cF qH i z2)<|wE (cV kO)<|wE (oFc mA)<|wE (nK sh43)<|wM<|wE (oXm cF qH i z2)<|wE (cV kO)<|wE (kB (j_sub (u.g.getD i z2) (uH (zG hu.2.1 (by decide) i)) (v.g.getD i z2) (uH (zG hv.2.1 (by decide) i))))<|wT (qM kO)<|wZ) ?_
 refine jE ⟨_,(kP (cs:=(bx (jN (qH (uJ (u.g.getD i z2) (v.g.getD i z2)))))) (d:=(jN (qH (uJ (u.g.getD i z2) (v.g.getD i z2))))) rfl rfl kO rfl rfl .nil),?_⟩
 rfl
theorem j_vNeg(n:Nat)(u:JV)(hu:nW 1048576 n u)(v:JV)(hv:nW 1048576 n v):jR Tryz.prog 124 [(.cptr 1000000 (jT.cells (.clo 133 [(.cptr 1000000 (jT.cells (jN (qH (gw 0)))) 0)])) 0),(.cptr 1000000 (jT.cells (jP (uT u))) 0),(.cptr 1000000 (jT.cells (jP (uT v))) 0)] (jN (qH (uJ (gw 0) u.v))):=by
 refine uU Tryz.func124 ?_
 refine jB<|kx [(3,(.ref 0 0))] [(0,some (bx (jN (kJ.mk uD uD))))] (zN (vC 0 xF xK)<|zZ) ?_
 refine jB<|kx [] [(0,some (bx (jN (qH (uJ (gw 0) u.v)))))] (zE (nK sh67)<|zE (oFc hH)<|zE (cV kO)<|zE (oFc hH)<|zE (cV kO)<|zE (oCd (ds:=[(jN (qH u.v)),(jN (qH v.v))]) (caps:=[(.cptr 1000000 (jT.cells (jN (qH (gw 0)))) 0)]) (j_negop u.v (uH hu.1) v.v (uH hv.1) (gw 0) (gl_w (z:=0) (by omega) (by omega))))<|zT (qM kO)<|zZ) ?_
 refine jE ⟨_,(kP (cs:=(bx (jN (qH (uJ (gw 0) u.v))))) (d:=(jN (qH (uJ (gw 0) u.v)))) rfl rfl kO rfl rfl .nil),?_⟩
 rfl
theorem j_gNeg(wp:jT)(i:Nat)(n:Nat)(u:JV)(hu:nW 1048576 n u)(v:JV)(hv:nW 1048576 n v)(hi:i<n):jR Tryz.prog 125 [(wp),(.val (.int .i64 (((i:Nat):Int)))),(.cptr 1000000 (jT.cells (.clo 133 [(.cptr 1000000 (jT.cells (jN (qH (gw 0)))) 0)])) 0),(.cptr 1000000 (jT.cells (jP (uT u))) 0),(.cptr 1000000 (jT.cells (jP (uT v))) 0)] (jN (qH (uJ (gw 0) (u.g.getD i z2)))):=by
 have hul:=hu.2.2
 have hvl:=hv.2.2
 refine uU Tryz.func125 ?_
 refine jB<|kx [(7,(.ref 0 0))] [(0,some (bx (jN (kJ.mk uD uD))))] (zN (vC 0 xF xK)<|zZ) ?_
 refine jB<|kd [] [(0,some (bx (jN (qH (uJ (gw 0) (u.g.getD i z2))))))] mo (wE (nK sh67)<|wE (oFc mA)<|wE (nK sh43)<|wM<|wE (oXm cF qH i z2)<|wE (cV kO)<|wE (oFc mA)<|wE (nK sh43)<|wM<|wE (oXm cF qH i z2)<|wE (cV kO)<|wE (oCd (ds:=[(jN (qH (u.g.getD i z2))),(jN (qH (v.g.getD i z2)))]) (caps:=[(.cptr 1000000 (jT.cells (jN (qH (gw 0)))) 0)]) (j_negop (u.g.getD i z2) (uH (zG hu.2.1 (by decide) i)) (v.g.getD i z2) (uH (zG hv.2.1 (by decide) i)) (gw 0) (gl_w (z:=0) (by omega) (by omega))))<|wT (qM kO)<|wZ) ?_
 refine jE ⟨_,(kP (cs:=(bx (jN (qH (uJ (gw 0) (u.g.getD i z2)))))) (d:=(jN (qH (uJ (gw 0) (u.g.getD i z2))))) rfl rfl kO rfl rfl .nil),?_⟩
 rfl
theorem j_vC(p:Rat)(hp:QL p 1048576):jR Tryz.prog 127 [(.cptr 1000000 (jT.cells (jM (kC.mk 0 0 0 (jO p)))) 0)] (jN (qH (gpt p))):=by
 refine uU Tryz.func127 ?_
 refine jB<|kx [(1,(.ref 0 0))] [(0,some (bx (jN (kJ.mk uD uD))))] (zN (vC 0 xF xK)<|zZ) ?_
 refine jB<|kx [] [(0,some (bx (jN (kJ.mk (jO p) (jO p)))))] (zE (oFc gV)<|zE (cV jS)<|zE (oFc gV)<|zE (cV jS)<|zE (bC pl42 xF xK)<|zT (qM kO)<|zZ) ?_
 refine jE ⟨_,(kP (cs:=(bx (jN (kJ.mk (jO p) (jO p))))) (d:=(jN (kJ.mk (jO p) (jO p)))) rfl rfl kO rfl rfl .nil),?_⟩
 rfl
theorem j_gC(wp:jT)(i:Nat)(zz:R2)(hzz:GL 3 zz):jR Tryz.prog 128 [(wp),(.val (.int .i64 (((i:Nat):Int)))),(.cptr 1000000 (jT.cells (jN (qH zz))) 0)] (jN (qH zz)):=by
 refine uU Tryz.func128 ?_
 refine jB<|kx [(5,(.ref 0 0))] [(0,some (bx (jN (kJ.mk uD uD))))] (zN (vC 0 xF xK)<|zZ) ?_
 refine jB<|kx [] [(0,some (bx (jN (qH zz))))] (zE (cV kO)<|zT (qM kO)<|zZ) ?_
 refine jE ⟨_,(kP (cs:=(bx (jN (qH zz)))) (d:=(jN (qH zz))) rfl rfl kO rfl rfl .nil),?_⟩
 rfl
theorem j_vV(bv:List R2)(hbx:∀ x∈bv,GL 1048576 x)(a:Nat)(ha:a<bv.length)(hbl:bv.length<=1000000):jR Tryz.prog 129 [(.cptr 1000000 (jT.cells (.sl 42 8 (List.map jN (List.map qH bv)))) 0),(.cptr 1000000 (jT.cells (jM (kC.mk 1 ((a:Nat):Int) 0 uD))) 0)] (jN (qH (bv.getD a z2))):=by
 refine uU Tryz.func129 ?_
 refine jB<|kx [(2,(.ref 0 0))] [(0,some (bx (jN (kJ.mk uD uD))))] (zN (vC 0 xF xK)<|zZ) ?_
 refine jB<|kx [] [(0,some (bx (jN (qH (bv.getD a z2)))))] (zE (nK sh43)<|zE (oFc qG)<|zE (nK uC)<|zE (oXm cF qH a z2 (hj:=by first | omega | rfl | (dsimp only;omega)) (h1:=by first | omega | rfl | (dsimp only;omega)))<|zE (cV kO)<|zT (qM kO)<|zZ) ?_
 refine jE ⟨_,(kP (cs:=(bx (jN (qH (bv.getD a z2))))) (d:=(jN (qH (bv.getD a z2)))) rfl rfl kO rfl rfl .nil),?_⟩
 rfl
theorem j_gV(wp:jT)(i:Nat)(a:Nat)(zz:R2)(hzz:GL 3 zz):jR Tryz.prog 130 [(wp),(.val (.int .i64 (((i:Nat):Int)))),(.cptr 1000000 (jT.cells (jM (kC.mk 1 ((a:Nat):Int) 0 uD))) 0),(.cptr 1000000 (jT.cells (jN (qH zz))) 0)] (jN (qH (if ((i:Nat):Int)=((a:Nat):Int) then gw 1 else zz))):=by
 refine uU Tryz.func130 ?_
 refine jB<|kx [(6,(.ref 0 0))] [(0,some (bx (jN (kJ.mk uD uD))))] (zN (vC 0 xF xK)<|zZ) ?_
 refine jB<|jB<|kx [(10,(vb (((i:Nat):Int) == ((a:Nat):Int))))] [] (zM<|zE (oFc qG)<|zE (nK uC)<|zE xV<|zZ) ?_
 refine jF (b:=(((i:Nat):Int) == ((a:Nat):Int))) rfl (fun h1=>?_) (fun h1=>?_)
 ·replace h1:=eq_of_beq h1
  refine jB<|kx [] [(0,some (bx (jN (qH (gw 1)))))] (zE (kB (j_whole 1 (by omega) (by omega)))<|zT (qM kO)<|zZ) ?_
  refine jE ⟨_,(kP (cs:=(bx (jN (qH (gw 1))))) (d:=(jN (qH (gw 1)))) rfl rfl kO rfl rfl .nil),?_⟩
  rw[if_pos h1];rfl
 ·replace h1:=ne_of_beq_false h1
  refine jG<|jB<|kx [] [(0,some (bx (jN (qH zz))))] (zE (cV kO)<|zT (qM kO)<|zZ) ?_
  refine jE ⟨_,(kP (cs:=(bx (jN (qH zz)))) (d:=(jN (qH zz))) rfl rfl kO rfl rfl .nil),?_⟩
  rw[if_neg h1];rfl
theorem j_vM(n:Nat)(u:JV)(hu:nW 1048576 n u)(v:JV)(hv:nW 1048576 n v):jR Tryz.prog 134 [(.cptr 1000000 (jT.cells (jP (uT u))) 0),(.cptr 1000000 (jT.cells (jP (uT v))) 0)] (jN (qH (vS u.v v.v))):=by
 refine uU Tryz.func134 ?_
 refine jB<|kx [(2,(.ref 0 0))] [(0,some (bx (jN (kJ.mk uD uD))))] (zN (vC 0 xF xK)<|zZ) ?_
 refine jB<|kx [] [(0,some (bx (jN (qH (vS u.v v.v)))))] (zE (oFc hH)<|zE (cV kO)<|zE (oFc hH)<|zE (cV kO)<|zE (kB (j_mul u.v (uH hu.1) v.v (uH hv.1)))<|zT (qM kO)<|zZ) ?_
 refine jE ⟨_,(kP (cs:=(bx (jN (qH (vS u.v v.v))))) (d:=(jN (qH (vS u.v v.v)))) rfl rfl kO rfl rfl .nil),?_⟩
 rfl
theorem j_gM(wp:jT)(i:Nat)(n:Nat)(u:JV)(hu:nW 1048576 n u)(v:JV)(hv:nW 1048576 n v)(hi:i<n):jR Tryz.prog 136 [(wp),(.val (.int .i64 (((i:Nat):Int)))),(.cptr 1000000 (jT.cells (jP (uT u))) 0),(.cptr 1000000 (jT.cells (jP (uT v))) 0)] (jN (qH (yY (vS u.v (v.g.getD i z2)) (vS v.v (u.g.getD i z2))))):=by
 have hul:=hu.2.2
 have hvl:=hv.2.2
 refine uU Tryz.func136 ?_
 refine jB<|kx [(6,(.ref 0 0))] [(0,some (bx (jN (kJ.mk uD uD))))] (zN (vC 0 xF xK)<|zZ) ?_
 refine jB<|kd [] [(0,some (bx (jN (qH (yY (vS u.v (v.g.getD i z2)) (vS v.v (u.g.getD i z2)))))))] mo (wE (oFc hH)<|wE (cV kO)<|wE (oFc mA)<|wE (nK sh43)<|wM<|wE (oXm cF qH i z2)<|wE (cV kO)<|wE (kB (j_mul u.v (uH hu.1) (v.g.getD i z2) (uH (zG hv.2.1 (by decide) i))))<|wE (oFc hH)<|wE (cV kO)<|wE (oFc mA)<|wE (nK sh43)<|wM<|wE (oXm cF qH i z2)<|wE (cV kO)<|wE (kB (j_mul v.v (uH hv.1) (u.g.getD i z2) (uH (zG hu.2.1 (by decide) i))))<|wE (kB (j_add (vS u.v (v.g.getD i z2)) (uH (nA (k:=2097152) hu.1 (zG hv.2.1 (by decide) i))) (vS v.v (u.g.getD i z2)) (uH (nA (k:=2097152) hv.1 (zG hu.2.1 (by decide) i)))))<|wT (qM kO)<|wZ) ?_
 refine jE ⟨_,(kP (cs:=(bx (jN (qH (yY (vS u.v (v.g.getD i z2)) (vS v.v (u.g.getD i z2))))))) (d:=(jN (qH (yY (vS u.v (v.g.getD i z2)) (vS v.v (u.g.getD i z2)))))) rfl rfl kO rfl rfl .nil),?_⟩
 rfl
theorem j_vQ(n:Nat)(u:JV)(hu:nW 1048576 n u):jR Tryz.prog 138 [(.cptr 1000000 (jT.cells (jP (uT u))) 0)] (jN (qH (gsq u.v))):=by
 refine uU Tryz.func138 ?_
 refine jB<|kx [(1,(.ref 0 0))] [(0,some (bx (jN (kJ.mk uD uD))))] (zN (vC 0 xF xK)<|zZ) ?_
 refine jB<|kx [] [(0,some (bx (jN (qH (gsq u.v)))))] (zE (oFc hH)<|zE (cV kO)<|zE (kB (j_sq u.v (uH hu.1)))<|zT (qM kO)<|zZ) ?_
 refine jE ⟨_,(kP (cs:=(bx (jN (qH (gsq u.v))))) (d:=(jN (qH (gsq u.v)))) rfl rfl kO rfl rfl .nil),?_⟩
 rfl
theorem j_gQ(wp:jT)(i:Nat)(tt:R2)(htt:GL 3 tt)(n:Nat)(u:JV)(hu:nW 1048576 n u)(hi:i<n):jR Tryz.prog 140 [(wp),(.val (.int .i64 (((i:Nat):Int)))),(.cptr 1000000 (jT.cells (jN (qH tt))) 0),(.cptr 1000000 (jT.cells (jP (uT u))) 0)] (jN (qH (vS tt (vS u.v (u.g.getD i z2))))):=by
 have hul:=hu.2.2
 refine uU Tryz.func140 ?_
 refine jB<|kx [(6,(.ref 0 0))] [(0,some (bx (jN (kJ.mk uD uD))))] (zN (vC 0 xF xK)<|zZ) ?_
 refine jB<|kd [] [(0,some (bx (jN (qH (vS tt (vS u.v (u.g.getD i z2)))))))] mo (wE (cV kO)<|wE (oFc hH)<|wE (cV kO)<|wE (oFc mA)<|wE (nK sh43)<|wM<|wE (oXm cF qH i z2)<|wE (cV kO)<|wE (kB (j_mul u.v (uH hu.1) (u.g.getD i z2) (uH (zG hu.2.1 (by decide) i))))<|wE (kB (j_mul tt (uH htt) (vS u.v (u.g.getD i z2)) (uH (nA (k:=2097152) hu.1 (zG hu.2.1 (by decide) i)))))<|wT (qM kO)<|wZ) ?_
 refine jE ⟨_,(kP (cs:=(bx (jN (qH (vS tt (vS u.v (u.g.getD i z2))))))) (d:=(jN (qH (vS tt (vS u.v (u.g.getD i z2)))))) rfl rfl kO rfl rfl .nil),?_⟩
 rfl
theorem j_div(n:Nat)(x:jT)(a:R2)(ha:GL 67108864 a)(b:R2)(hb:GL 67108864 b)(hz:nO b.1 b.2=false):jR Tryz.prog 143 [(.cptr 1000000 (jT.cells (mcA n x false)) 0),(jN (qH a)),(jN (qH b))] (jN (qH (cY a b))):=by
 let y1:=(bx (jN (kJ.mk (jO (mnL (a.1 / b.1) [(a.1 / b.2),(a.2 / b.1),(a.2 / b.2)])) (jO (mxL (a.1 / b.1) [(a.1 / b.2),(a.2 / b.1),(a.2 / b.2)])))))
 refine uU Tryz.func143 ?_
 refine jB<|kx [(4,(.ref 0 0)),(5,(.ref 1 0)),(6,(.ref 2 0))] [(0,some (bx (jN (qH a)))),(1,some (bx (jN (qH b)))),(2,some (bx (jN (kJ.mk uD uD))))] (zN (vZ 0)<|zN (vZ 1)<|zN (vC 2 xF xK)<|zZ) ?_
 refine jB<|kx [(7,(.ref 3 0)),(8,(vi 0))] [(3,some y1)] (zR (kR kO)<|zR (kR kO)<|zE (kB (i_divide a.1 a.2 b.1 b.2 (uV ha.1) (uV ha.2.1) (uV hb.1) (uV hb.2.1) ha.2.2 hb.2.2 hz))<|zM<|zE xU<|zE xU<|zN (vC 3 xF xK)<|zT (qM kO)<|zM<|zZ) ?_
 refine jB<|jB<|kx [(16,(vb false))] [] (zM<|zE aK<|zZ) ?_
 refine qW ?_
 refine jG<|jB<|kx [] [(2,some y1)] (zR (kR kO)<|zT (qM kO)<|zZ) ?_
 refine jE ⟨_,(kP (cs:=y1) (d:=(jN (kJ.mk (jO (mnL (a.1 / b.1) [(a.1 / b.2),(a.2 / b.1),(a.2 / b.2)])) (jO (mxL (a.1 / b.1) [(a.1 / b.2),(a.2 / b.1),(a.2 / b.2)]))))) rfl rfl kO rfl rfl .nil),?_⟩
 rfl
theorem j_vD(n:Nat)(x:jT)(u:JV)(hu:nW 1048576 n u)(v:JV)(hv:nW 1048576 n v)(hz:nO v.v.1 v.v.2=false):jR Tryz.prog 142 [(.cptr 1000000 (jT.cells (.cptr 1000000 (jT.cells (mcA n x false)) 0)) 0),(.cptr 1000000 (jT.cells (jP (uT u))) 0),(.cptr 1000000 (jT.cells (jP (uT v))) 0)] (jN (qH (cY u.v v.v))):=by
 refine uU Tryz.func142 ?_
 refine jB<|kx [(3,(.ref 0 0))] [(0,some (bx (jN (kJ.mk uD uD))))] (zN (vC 0 xF xK)<|zZ) ?_
 refine jB<|kx [] [(0,some (bx (jN (qH (cY u.v v.v)))))] (zE (nK sh111)<|zE (oFc hH)<|zE (cV kO)<|zE (oFc hH)<|zE (cV kO)<|zE (kB (j_div n (x) u.v (uH hu.1) v.v (uH hv.1) hz))<|zT (qM kO)<|zZ) ?_
 refine jE ⟨_,(kP (cs:=(bx (jN (qH (cY u.v v.v))))) (d:=(jN (qH (cY u.v v.v)))) rfl rfl kO rfl rfl .nil),?_⟩
 rfl
theorem j_gD(w:R2)(hw:GL 2097152 w)(y z:jT)(i:Nat)(n:Nat)(x:jT)(u:JV)(hu:nW 1048576 n u)(v:JV)(hv:nW 1048576 n v)(hz:nO v.v.1 v.v.2=false)(hi:i<n):jR Tryz.prog 144 [(.cptr 1000000 (jT.cells (.agg (jT.cells (jN (qH w))++[(y),(z)]))) 0),(.val (.int .i64 (((i:Nat):Int)))),(.cptr 1000000 (jT.cells (.cptr 1000000 (jT.cells (mcA n x false)) 0)) 0),(.cptr 1000000 (jT.cells (jP (uT u))) 0),(.cptr 1000000 (jT.cells (jP (uT v))) 0)] (jN (qH (cY (uJ (u.g.getD i z2) (vS w (v.g.getD i z2))) v.v))):=by
 have hul:=hu.2.2
 have hvl:=hv.2.2
 refine uU Tryz.func144 ?_
 refine jB<|kx [(7,(.ref 0 0))] [(0,some (bx (jN (kJ.mk uD uD))))] (zN (vC 0 xF xK)<|zZ) ?_
 refine jB<|kd [] [(0,some (bx (jN (qH (cY (uJ (u.g.getD i z2) (vS w (v.g.getD i z2))) v.v)))))] mo (wE (nK sh111)<|wE (oFc mA)<|wE (nK sh43)<|wM<|wE (oXm cF qH i z2)<|wE (cV kO)<|wM<|wE oNd<|wE (oFc hH)<|wE (cV kO)<|wE (oFc mA)<|wE (nK sh43)<|wM<|wE (oXm cF qH i z2)<|wE (cV kO)<|wE (kB (j_mul w (uH hw) (v.g.getD i z2) (uH (zG hv.2.1 (by decide) i))))<|wE (kB (j_sub (u.g.getD i z2) (uH (zG hu.2.1 (by decide) i)) (vS w (v.g.getD i z2)) (uH (nA (k:=3145728) hw (zG hv.2.1 (by decide) i)))))<|wE (oFc hH)<|wE (cV kO)<|wE (kB (j_div n (x) (uJ (u.g.getD i z2) (vS w (v.g.getD i z2))) (uH (aP (k:=4194305) (zG hu.2.1 (by decide) i) (nA (k:=3145728) hw (zG hv.2.1 (by decide) i)))) v.v (uH hv.1) hz))<|wT (qM kO)<|wZ) ?_
 refine jE ⟨_,(kP (cs:=(bx (jN (qH (cY (uJ (u.g.getD i z2) (vS w (v.g.getD i z2))) v.v))))) (d:=(jN (qH (cY (uJ (u.g.getD i z2) (vS w (v.g.getD i z2))) v.v)))) rfl rfl kO rfl rfl .nil),?_⟩
 rfl
theorem by42:xN Tryz.prog 42=some 128:=by kernel_rfl
theorem by46:xN Tryz.prog 46=some 176:=by kernel_rfl
theorem cb123:callB Tryz.prog 123=true:=by kernel_rfl
theorem el88:uN Tryz.prog 88=some (46,10):=by kernel_rfl
theorem fo113_0:uQ Tryz.prog 113 0=some 0:=by kernel_rfl
theorem fo113_1:uQ Tryz.prog 113 1=some 1:=by kernel_rfl
theorem fo113_3:uQ Tryz.prog 113 3=some 3:=by kernel_rfl
theorem pl46:cR Tryz.prog 46=some [(0,8),(8,1),(9,1)]:=by kernel_rfl
theorem sh46:qE Tryz.prog 46=some (true,10):=by kernel_rfl
theorem sh88:qE Tryz.prog 88=some (false,1):=by kernel_rfl
theorem ze46:vO Tryz.prog 46=some [.bool false,.slice none 0 0,.bool false,.slice none 0 0,.bool false,.slice none 0 0,.bool false,.slice none 0 0,.slice none 0 0,.slice none 0 0]:=by kernel_rfl
theorem zn46:dC [.bool false,.slice none 0 0,.bool false,.slice none 0 0,.bool false,.slice none 0 0,.bool false,.slice none 0 0,.slice none 0 0,.slice none 0 0] [.val (.bool false),.val (.slice none 0 0),.val (.bool false),.val (.slice none 0 0),.val (.bool false),.val (.slice none 0 0),.val (.bool false),.val (.slice none 0 0),.val (.slice none 0 0),.val (.slice none 0 0)]:=by simp [dC,Value.oneCell']
theorem zo46:dC [.bool false,.slice none 0 0,.bool false,.slice none 0 0,.bool false,.slice none 0 0,.bool false,.slice none 0 0,.slice none 0 0,.slice none 0 0] [.val (.bool false),.sl 107 1 [],.val (.bool false),.sl 107 1 [],.val (.bool false),.sl 107 1 [],.val (.bool false),.sl 107 1 [],.sl 42 8 [],.sl 43 1 []]:=by simp [dC,Value.oneCell']
structure NKD where
 c1:SV
 c2:SV
 c3:SV
 X:BS
 v:R2
 g:Nat->R2
 k:List Nat
 b:List fU
inductive NK (n:Nat) (L:List JV):Type
 |C (p:Rat) (hp:QL p 1048576) (zz:R2) (hzz:GL 3 zz):NK n L
 |V (bv:List R2) (hbx:∀ x∈bv,GL 1048576 x) (a:Nat) (zz:R2) (hzz:GL 3 zz) (ha:a<bv.length) (hbl:bv.length<=1000000):NK n L
 |A (u:JV) (hu:nW 1048576 n u) (v:JV) (hv:nW 1048576 n v):NK n L
 |S (u:JV) (hu:nW 1048576 n u) (v:JV) (hv:nW 1048576 n v):NK n L
 |N (u:JV) (hu:nW 1048576 n u) (v:JV) (hv:nW 1048576 n v):NK n L
 |M (u:JV) (hu:nW 1048576 n u) (v:JV) (hv:nW 1048576 n v):NK n L
 |Q (u:JV) (hu:nW 1048576 n u) (tt:R2) (htt:GL 3 tt):NK n L
 |D (bb:Nat) (u:JV) (hu:nW 1048576 n u) (v:JV) (hv:nW 1048576 n v) (hz:nO v.v.1 v.v.2=false):NK n L
def NK.d{n:Nat}{L:List JV}:NK n L->NKD
 |.C p hp zz hzz=>⟨(.clo 127 [2]),(.clo 128 [3]),(.clo 121 [3]),[(2,some (bx (jM (kC.mk 0 0 0 (jO p))))),(3,some (bx (jN (qH zz))))],(gpt p),(fun i=>zz),[2],[(3,(bx (jN (qH zz))),(jT.cells (jN (qH zz))))]⟩
 |.V bv hbx a zz hzz ha hbl=>⟨(.clo 129 [2,3]),(.clo 130 [3,4]),(.clo 121 [4]),[(2,some (bx (.sl 42 8 (List.map jN (List.map qH bv))))),(3,some (bx (jM (kC.mk 1 ((a:Nat):Int) 0 uD)))),(4,some (bx (jN (qH zz))))],(bv.getD a z2),(fun i=>(if ((i:Nat):Int)=((a:Nat):Int) then gw 1 else zz)),[2,3],[(4,(bx (jN (qH zz))),(jT.cells (jN (qH zz)))),(3,(bx (jM (kC.mk 1 ((a:Nat):Int) 0 uD))),(jT.cells (jM (kC.mk 1 ((a:Nat):Int) 0 uD))))]⟩
 |.A u hu v hv=>⟨(.clo 124 [2,3,4]),(.clo 125 [2,3,4]),(.clo 126 [2,3,4]),[(2,some (bx (.val (.func (.func 131) #[] #[])))),(3,some (bx (jP (uT u)))),(4,some (bx (jP (uT v))))],(yY u.v v.v),(fun i=>(yY (u.g.getD i z2) (v.g.getD i z2))),[2,3,4],[(4,(bx (jP (uT v))),(jT.cells (jP (uT v)))),(3,(bx (jP (uT u))),(jT.cells (jP (uT u)))),(2,(bx (.val (.func (.func 131) #[] #[]))),(jT.cells (.val (.func (.func 131) #[] #[]))))]⟩
 |.S u hu v hv=>⟨(.clo 124 [2,3,4]),(.clo 125 [2,3,4]),(.clo 126 [2,3,4]),[(2,some (bx (.val (.func (.func 132) #[] #[])))),(3,some (bx (jP (uT u)))),(4,some (bx (jP (uT v))))],(uJ u.v v.v),(fun i=>(uJ (u.g.getD i z2) (v.g.getD i z2))),[2,3,4],[(4,(bx (jP (uT v))),(jT.cells (jP (uT v)))),(3,(bx (jP (uT u))),(jT.cells (jP (uT u)))),(2,(bx (.val (.func (.func 132) #[] #[]))),(jT.cells (.val (.func (.func 132) #[] #[]))))]⟩
 |.N u hu v hv=>⟨(.clo 124 [2,3,4]),(.clo 125 [2,3,4]),(.clo 126 [2,3,4]),[(2,some [(.clo 133 [5])]),(3,some (bx (jP (uT u)))),(4,some (bx (jP (uT v)))),(5,some (bx (jN (qH (gw 0)))))],(uJ (gw 0) u.v),(fun i=>(uJ (gw 0) (u.g.getD i z2))),[4,3,2,5],[(4,(bx (jP (uT v))),(jT.cells (jP (uT v)))),(3,(bx (jP (uT u))),(jT.cells (jP (uT u)))),(2,[(.clo 133 [5])],[(.clo 133 [(.cptr 1000000 (jT.cells (jN (qH (gw 0)))) 0)])]),(5,(bx (jN (qH (gw 0)))),(jT.cells (jN (qH (gw 0)))))]⟩
 |.M u hu v hv=>⟨(.clo 134 [2,3]),(.clo 136 [2,3]),(.clo 137 [2,3]),[(2,some (bx (jP (uT u)))),(3,some (bx (jP (uT v))))],(vS u.v v.v),(fun i=>(yY (vS u.v (v.g.getD i z2)) (vS v.v (u.g.getD i z2)))),[2,3],[(3,(bx (jP (uT v))),(jT.cells (jP (uT v)))),(2,(bx (jP (uT u))),(jT.cells (jP (uT u))))]⟩
 |.Q u hu tt htt=>⟨(.clo 138 [2]),(.clo 140 [3,2]),(.clo 141 [2,3]),[(2,some (bx (jP (uT u)))),(3,some (bx (jN (qH tt))))],(gsq u.v),(fun i=>(vS tt (vS u.v (u.g.getD i z2)))),[2],[(2,(bx (jP (uT u))),(jT.cells (jP (uT u)))),(3,(bx (jN (qH tt))),(jT.cells (jN (qH tt))))]⟩
 |.D bb u hu v hv hz=>⟨(.clo 142 [2,3,4]),(.clo 144 [2,3,4]),(.clo 145 [3,4,2]),[(2,some [(.refx 0 0 bb)]),(3,some (bx (jP (uT u)))),(4,some (bx (jP (uT v))))],(cY u.v v.v),(fun i=>(cY (uJ (u.g.getD i z2) (vS (cY u.v v.v) (v.g.getD i z2))) v.v)),[4,3,2,0,1],[(4,(bx (jP (uT v))),(jT.cells (jP (uT v)))),(3,(bx (jP (uT u))),(jT.cells (jP (uT u)))),(2,[(.refx 0 0 bb)],[(.cptr 1000000 (jT.cells (mcA n (.sl 1000000 10 (List.map jP (List.map uT L))) false)) 0)]),(0,(yV n 1 L false),(jT.cells (mcA n (.sl 1000000 10 (List.map jP (List.map uT L))) false))),(1,(yX L),(qC (List.map jP (List.map uT L))))]⟩
theorem NK.hv{n:Nat}{L:List JV}(K:NK n L):GL 67108864 K.d.v:=match K with
 |.C p hp zz hzz=>(uH (gl_pt hp))
 |.V bv hbx a zz hzz ha hbl=>(uH (zG hbx (by decide) a))
 |.A u hu v hv=>(uH (gl_add (k:=2097153) hu.1 hv.1))
 |.S u hu v hv=>(uH (aP (k:=2097153) hu.1 hv.1))
 |.N u hu v hv=>(uH (aP (k:=1048580) (gl_w (z:=0) (by omega) (by omega)) hu.1))
 |.M u hu v hv=>(uH (nA (k:=2097152) hu.1 hv.1))
 |.Q u hu tt htt=>(uH (gl_sq (k:=2097152) hu.1 (by decide)))
 |.D bb u hu v hv hz=>(uH (gl_div (k:=2097152) hu.1 hv.1))
theorem NK.hg{n:Nat}{L:List JV}(K:NK n L)(i:Nat)(hi:i<n):GL 67108864 (K.d.g i):=match K with
 |.C p hp zz hzz=>(uH hzz)
 |.V bv hbx a zz hzz ha hbl=>(uH (gl_ite (gl_w (z:=1) (by omega) (by omega)) hzz))
 |.A u hu v hv=>(uH (gl_add (k:=2097153) (zG hu.2.1 (by decide) i) (zG hv.2.1 (by decide) i)))
 |.S u hu v hv=>(uH (aP (k:=2097153) (zG hu.2.1 (by decide) i) (zG hv.2.1 (by decide) i)))
 |.N u hu v hv=>(uH (aP (k:=1048580) (gl_w (z:=0) (by omega) (by omega)) (zG hu.2.1 (by decide) i)))
 |.M u hu v hv=>(uH (gl_add (k:=4194305) (nA (k:=2097152) hu.1 (zG hv.2.1 (by decide) i)) (nA (k:=2097152) hv.1 (zG hu.2.1 (by decide) i))))
 |.Q u hu tt htt=>(uH (nA (k:=2097155) htt (nA (k:=2097152) hu.1 (zG hu.2.1 (by decide) i))))
 |.D bb u hu v hv hz=>(uH (gl_div (k:=5242881) (aP (k:=4194305) (zG hu.2.1 (by decide) i) (nA (k:=3145728) (gl_div (k:=2097152) hu.1 hv.1) (zG hv.2.1 (by decide) i))) hv.1))
theorem nk_v{n:Nat}{L:List JV}(K:NK n L){o:Oper}{S:SL}{B:BS}{y:Operand}{ats:Array TypeId}(ho:o.op=.call { callee:=.value y,args:=#[],argTypes:=ats })(hy:ev (jW S) y=K.d.c1)(hb:K.d.k.map (fun k=>jX B k)=K.d.k.map (fun k=>jX ([(0,some (yV n 1 L false)),(1,some (yX L))]++K.d.X) k)):RKs Tryz.prog o S B K.d.k (.d (jN (qH K.d.v))):=match K with
 |.C p hp zz hzz=>oCc (ds:=[]) [2] [(jT.cells (jM (kC.mk 0 0 0 (jO p))))] (j_vC p hp) (xL (by decide) _) (ho:=ho) (hy:=hy) (hx:=rfl) (qK:=rfl) (hb:=hb)
 |.V bv hbx a zz hzz ha hbl=>oCc (ds:=[]) [2,3] [(jT.cells (.sl 42 8 (List.map jN (List.map qH bv)))),(jT.cells (jM (kC.mk 1 ((a:Nat):Int) 0 uD)))] (j_vV bv hbx a ha hbl) (xL (by decide) _) (ho:=ho) (hy:=hy) (hx:=rfl) (qK:=rfl) (hb:=hb)
 |.A u hu v hv=>oCc (ds:=[]) [2,3,4] [(jT.cells (.val (.func (.func 131) #[] #[]))),(jT.cells (jP (uT u))),(jT.cells (jP (uT v)))] (j_vAdd n u hu v hv) (xL (by decide) _) (ho:=ho) (hy:=hy) (hx:=rfl) (qK:=rfl) (hb:=hb)
 |.S u hu v hv=>oCc (ds:=[]) [2,3,4] [(jT.cells (.val (.func (.func 132) #[] #[]))),(jT.cells (jP (uT u))),(jT.cells (jP (uT v)))] (j_vSub n u hu v hv) (xL (by decide) _) (ho:=ho) (hy:=hy) (hx:=rfl) (qK:=rfl) (hb:=hb)
 |.N u hu v hv=>oCh [(4,(bx (jP (uT v))),(jT.cells (jP (uT v)))),(3,(bx (jP (uT u))),(jT.cells (jP (uT u)))),(2,[(.clo 133 [5])],[(.clo 133 [(.cptr 1000000 (jT.cells (jN (qH (gw 0)))) 0)])]),(5,(bx (jN (qH (gw 0)))),(jT.cells (jN (qH (gw 0)))))] [.ref 2 0,.ref 3 0,.ref 4 0] (j_vNeg n u hu v hv) (.cons (.r (.tail _ (.tail _ (.head _)))) (.cons (.r (.tail _ (.head _))) (.cons (.r (.head _)) .nil))) (.cons (.all rfl) (.cons (.all rfl) (.cons (.cons (.f (css:=[(jT.cells (jN (qH (gw 0))))]) (.cons (.head _) .nil)) .nil) (.cons (.all rfl) .nil)))) (xL (by decide) _) (ex:=[.ref 2 0,.ref 3 0,.ref 4 0]) (xs:=[]) (ho:=ho) (hy:=.clo (kk:=[2,3,4]) hy rfl) (hx:=rfl) (hb:=hb)
 |.M u hu v hv=>oCc (ds:=[]) [2,3] [(jT.cells (jP (uT u))),(jT.cells (jP (uT v)))] (j_vM n u hu v hv) (xL (by decide) _) (ho:=ho) (hy:=hy) (hx:=rfl) (qK:=rfl) (hb:=hb)
 |.Q u hu tt htt=>oCc (ds:=[]) [2] [(jT.cells (jP (uT u)))] (j_vQ n u hu) (xL (by decide) _) (ho:=ho) (hy:=hy) (hx:=rfl) (qK:=rfl) (hb:=hb)
 |.D bb u hu v hv hz=>oCh [(4,(bx (jP (uT v))),(jT.cells (jP (uT v)))),(3,(bx (jP (uT u))),(jT.cells (jP (uT u)))),(2,[(.refx 0 0 bb)],[(.cptr 1000000 (jT.cells (mcA n (.sl 1000000 10 (List.map jP (List.map uT L))) false)) 0)]),(0,(yV n 1 L false),(jT.cells (mcA n (.sl 1000000 10 (List.map jP (List.map uT L))) false))),(1,(yX L),(qC (List.map jP (List.map uT L))))] [.ref 2 0,.ref 3 0,.ref 4 0] (j_vD n (.sl 1000000 10 (List.map jP (List.map uT L))) u hu v hv hz) (.cons (.r (.tail _ (.tail _ (.head _)))) (.cons (.r (.tail _ (.head _))) (.cons (.r (.head _)) .nil))) (.cons (.all rfl) (.cons (.all rfl) (.cons (.cons (.x (.head _)) .nil) (.cons (.cons .d (.cons .d (.cons .d (.cons (see_own (F:=jP) (L:=(List.map uT L)) (.head _) (fun _=>rfl) rfl) (.cons .d .nil))))) (.cons (.all (by exact rfl)) .nil))))) (xL (by decide) _) (ex:=[.ref 2 0,.ref 3 0,.ref 4 0]) (xs:=[]) (ho:=ho) (hy:=.clo (kk:=[2,3,4]) hy rfl) (hx:=rfl) (hb:=hb)
def nk_bl{n:Nat}{L:List JV}(K:NK n L)(gl:List kJ):List fU:=K.d.b++[(6,(bx (jN (qH K.d.v))++[(.own 7 42 8 gl.length),(.own 8 43 1 0)]),(jT.cells (.agg (jT.cells (jN (qH K.d.v))++[(.sl 1000000 8 (List.map jN gl)),(.sl 1000000 1 (List.map xP []))])))),(8,(bm xP []),(qC (List.map xP []))),(7,(qN jN gl),(qC (List.map jN gl)))]
theorem nk_vb(v:R2)(gl:List kJ):VBlks 1000000 [(6,(bx (jN (qH v))++[(.own 7 42 8 gl.length),(.own 8 43 1 0)]),(jT.cells (.agg (jT.cells (jN (qH v))++[(.sl 1000000 8 (List.map jN gl)),(.sl 1000000 1 (List.map xP []))])))),(8,(bm xP []),(qC (List.map xP []))),(7,(qN jN gl),(qC (List.map jN gl)))]:=(.cons (.cons .d (.cons .d (.cons .d (.cons .d (.cons .d (.cons .d (.cons .d (.cons .d (.cons (see_own (F:=jN) (L:=gl) (.tail _ (.head _)) (fun _=>rfl) rfl) (.cons (see_own (F:=xP) (L:=[]) (.head _) (fun _=>rfl) rfl) .nil)))))))))) (.cons (sees_bm (fun _=>rfl)) (.cons (.all (by exact rfl)) .nil)))
theorem nk_g{n:Nat}{L:List JV}(K:NK n L){i:Nat}(hi:i<n)(gl:List kJ){o:Oper}{S:SL}{B:BS}{y:Operand}{xs:List Operand}{ats:Array TypeId}(ho:o.op=.call { callee:=.value y,args:=xs.toArray,argTypes:=ats })(hy:ev (jW S) y=K.d.c2)(hx:xs.map (ev (jW S))=[.ref 6 0,kG i])(hb:(nk_bl K gl).map (fun p=>jX B p.1)=(nk_bl K gl).map (fun p=>some p.2.1)):RKs Tryz.prog o S B (K.d.b.map (·.1)++[6,8,7]) (.d (jN (qH (K.d.g i)))):=match K with
 |.C p hp zz hzz=>oCh (nk_bl (.C p hp zz hzz) gl) [(.ref 6 0),(kG i),.ref 3 0] (j_gC _ i zz hzz) (.cons (.r (.tail _ (.head _))) (.cons .d (.cons (.r (.head _)) .nil))) (.cons (.all rfl) (nk_vb _ gl)) (xL (by decide) _) (ex:=[.ref 3 0]) (ho:=ho) (hy:=.clo (kk:=[3]) hy rfl) (hx:=by rw[hx];rfl) (hb:=hb)
 |.V bv hbx a zz hzz ha hbl=>oCh (nk_bl (.V bv hbx a zz hzz ha hbl) gl) [(.ref 6 0),(kG i),.ref 3 0,.ref 4 0] (j_gV _ i a zz hzz) (.cons (.r (.tail _ (.tail _ (.head _)))) (.cons .d (.cons (.r (.tail _ (.head _))) (.cons (.r (.head _)) .nil)))) (.cons (.all rfl) (.cons (.all rfl) (nk_vb _ gl))) (xL (by decide) _) (ex:=[.ref 3 0,.ref 4 0]) (ho:=ho) (hy:=.clo (kk:=[3,4]) hy rfl) (hx:=by rw[hx];rfl) (hb:=hb)
 |.A u hu v hv=>oCh (nk_bl (.A u hu v hv) gl) [(.ref 6 0),(kG i),.ref 2 0,.ref 3 0,.ref 4 0] (j_gAdd _ i n u hu v hv (by omega)) (.cons (.r (.tail _ (.tail _ (.tail _ (.head _))))) (.cons .d (.cons (.r (.tail _ (.tail _ (.head _)))) (.cons (.r (.tail _ (.head _))) (.cons (.r (.head _)) .nil))))) (.cons (.all rfl) (.cons (.all rfl) (.cons (.all rfl) (nk_vb _ gl)))) (xL (by decide) _) (ex:=[.ref 2 0,.ref 3 0,.ref 4 0]) (ho:=ho) (hy:=.clo (kk:=[2,3,4]) hy rfl) (hx:=by rw[hx];rfl) (hb:=hb)
 |.S u hu v hv=>oCh (nk_bl (.S u hu v hv) gl) [(.ref 6 0),(kG i),.ref 2 0,.ref 3 0,.ref 4 0] (j_gSub _ i n u hu v hv (by omega)) (.cons (.r (.tail _ (.tail _ (.tail _ (.head _))))) (.cons .d (.cons (.r (.tail _ (.tail _ (.head _)))) (.cons (.r (.tail _ (.head _))) (.cons (.r (.head _)) .nil))))) (.cons (.all rfl) (.cons (.all rfl) (.cons (.all rfl) (nk_vb _ gl)))) (xL (by decide) _) (ex:=[.ref 2 0,.ref 3 0,.ref 4 0]) (ho:=ho) (hy:=.clo (kk:=[2,3,4]) hy rfl) (hx:=by rw[hx];rfl) (hb:=hb)
 |.N u hu v hv=>oCh (nk_bl (.N u hu v hv) gl) [(.ref 6 0),(kG i),.ref 2 0,.ref 3 0,.ref 4 0] (j_gNeg _ i n u hu v hv (by omega)) (.cons (.r (.tail _ (.tail _ (.tail _ (.tail _ (.head _)))))) (.cons .d (.cons (.r (.tail _ (.tail _ (.head _)))) (.cons (.r (.tail _ (.head _))) (.cons (.r (.head _)) .nil))))) (.cons (.all rfl) (.cons (.all rfl) (.cons (.cons (.f (css:=[(jT.cells (jN (qH (gw 0))))]) (.cons (.head _) .nil)) .nil) (.cons (.all rfl) (nk_vb _ gl))))) (xL (by decide) _) (ex:=[.ref 2 0,.ref 3 0,.ref 4 0]) (ho:=ho) (hy:=.clo (kk:=[2,3,4]) hy rfl) (hx:=by rw[hx];rfl) (hb:=hb)
 |.M u hu v hv=>oCh (nk_bl (.M u hu v hv) gl) [(.ref 6 0),(kG i),.ref 2 0,.ref 3 0] (j_gM _ i n u hu v hv (by omega)) (.cons (.r (.tail _ (.tail _ (.head _)))) (.cons .d (.cons (.r (.tail _ (.head _))) (.cons (.r (.head _)) .nil)))) (.cons (.all rfl) (.cons (.all rfl) (nk_vb _ gl))) (xL (by decide) _) (ex:=[.ref 2 0,.ref 3 0]) (ho:=ho) (hy:=.clo (kk:=[2,3]) hy rfl) (hx:=by rw[hx];rfl) (hb:=hb)
 |.Q u hu tt htt=>oCh (nk_bl (.Q u hu tt htt) gl) [(.ref 6 0),(kG i),.ref 3 0,.ref 2 0] (j_gQ _ i tt htt n u hu (by omega)) (.cons (.r (.tail _ (.tail _ (.head _)))) (.cons .d (.cons (.r (.tail _ (.head _))) (.cons (.r (.head _)) .nil)))) (.cons (.all rfl) (.cons (.all rfl) (nk_vb _ gl))) (xL (by decide) _) (ex:=[.ref 3 0,.ref 2 0]) (ho:=ho) (hy:=.clo (kk:=[3,2]) hy rfl) (hx:=by rw[hx];rfl) (hb:=hb)
 |.D bb u hu v hv hz=>oCh (nk_bl (.D bb u hu v hv hz) gl) [(.ref 6 0),(kG i),.ref 2 0,.ref 3 0,.ref 4 0] (j_gD (cY u.v v.v) (gl_div (k:=2097152) hu.1 hv.1) (.sl 1000000 8 (List.map jN gl)) (.sl 1000000 1 (List.map xP [])) i n (.sl 1000000 10 (List.map jP (List.map uT L))) u hu v hv hz (by omega)) (.cons (.r (.tail _ (.tail _ (.tail _ (.tail _ (.tail _ (.head _))))))) (.cons .d (.cons (.r (.tail _ (.tail _ (.head _)))) (.cons (.r (.tail _ (.head _))) (.cons (.r (.head _)) .nil))))) (.cons (.all rfl) (.cons (.all rfl) (.cons (.cons (.x (.head _)) .nil) (.cons (.cons .d (.cons .d (.cons .d (.cons (see_own (F:=jP) (L:=(List.map uT L)) (.head _) (fun _=>rfl) rfl) (.cons .d .nil))))) (.cons (.all (by exact rfl)) (nk_vb _ gl)))))) (xL (by decide) _) (ex:=[.ref 2 0,.ref 3 0,.ref 4 0]) (ho:=ho) (hy:=.clo (kk:=[2,3,4]) hy rfl) (hx:=by rw[hx];rfl) (hb:=hb)
set_option maxHeartbeats 4000000 in
theorem eV(n:Nat)(L:List JV)(K0:NK n L)(hn:n<=64)(hL:L.length<=1000):let K:=K0;vR Tryz.prog 123 [(.ref 0 0),K.d.c1,K.d.c2,K.d.c3] ([(0,some (yV n 1 L false)),(1,some (yX L))]++K.d.X) (.d (.tup [])) [(0,some (yV n 10 (L++[(jk K.d.v (fun i=>(K.d.g i)) n)]) false)),(10,some (yX (L++[(jk K.d.v (fun i=>(K.d.g i)) n)])))]:=by
 cases K0
 all_goals
  intro K
  refine zW Tryz.func123 rfl cb123 rfl ?_
  show dS _ _ _ _ ⟨[(0,(.ref 0 0)),(1,K.d.c1),(2,K.d.c2),(3,K.d.c3)],([(0,some (yV n 1 L false)),(1,some (yX L))]++K.d.X)⟩
  refine jB<|kx [(8,(.ref 6 0))] [(6,some (bx (.agg (jT.cells (jN (qH K.d.v))++[(.val (.slice none 0 0)),(.val (.slice none 0 0))]))))] (zM<|zM<|zC (nk_v K (by exact rfl) (by kernel_rfl) (by kernel_rfl))<|zC (oCh [(0,(yV n 1 L false),(jT.cells (mcA n (.sl 1000000 10 (List.map jP (List.map uT L))) false))),(1,(yX L),(qC (List.map jP (List.map uT L))))] [(.ref 0 0),(.d (jN (qH K.d.v)))] (j_round n (.sl 1000000 10 (List.map jP (List.map uT L))) K.d.v K.hv) (.cons (.r (.head _)) (.cons .d .nil)) (.cons (.cons .d (.cons .d (.cons .d (.cons (see_own (F:=jP) (L:=(List.map uT L)) (.head _) (fun _=>rfl) rfl) (.cons .d .nil))))) (.cons (.all (by exact rfl)) .nil)) (xL (by decide) _) (ex:=[]))<|zE (bC pl46 ze46 zn46)<|zH (vC 6 ze46 zo46)<|zT (qM sh46)<|zZ) ?_
  refine jB<|jB<|kx [(22,(vb true))] [] (zM<|zE oNc<|zE (kK fo113_1)<|zR (qI uC)<|zE (nH true dI)<|zZ) ?_
  refine yR ?_
  refine jB<|pwp_own 6 8 7 42 8 (cs:=(bx (.agg (jT.cells (jN (qH K.d.v))++[(.val (.slice none 0 0)),(.val (.slice none 0 0))])))) (h:=?_)
  refine qL (wk (l:=[(0,(.ref 0 0)),(1,K.d.c1),(2,K.d.c2),(3,K.d.c3),(8,(.ref 6 0)),(22,(vb true))]) (b:=([(0,some (yV n 1 L false)),(1,some (yX L)),(6,some (bx (jN (qH K.d.v))++[(.own 7 42 8 0),(.d (.val (.slice none 0 0)))])),(7,some (qN jN []))]++K.d.X))) ?_
  refine pwp_own 6 9 8 43 1 (cs:=(bx (jN (qH K.d.v))++[(.own 7 42 8 0),(.d (.val (.slice none 0 0)))])) (h:=?_)
  refine qL (wk (l:=[(0,(.ref 0 0)),(1,K.d.c1),(2,K.d.c2),(3,K.d.c3),(8,(.ref 6 0)),(22,(vb true))]) (b:=([(0,some (yV n 1 L false)),(1,some (yX L)),(6,some (bx (jN (qH K.d.v))++[(.own 7 42 8 0),(.own 8 43 1 0)])),(7,some (qN jN [])),(8,some (bm xP []))]++K.d.X))) ?_
  refine kx [(26,(kG n)),(27,(kG 0))] [] (zM<|zE oNc<|zE (kK fo113_0)<|zR (qI uC)<|zM<|zZ) ?_
  refine jL<|kQ (α:=Nat × List kJ) (fun (i,gl)=>⟨[(0,(.ref 0 0)),(1,K.d.c1),(2,K.d.c2),(3,K.d.c3),(8,(.ref 6 0)),(26,(kG n)),(27,(kG i))],([(0,some (yV n 1 L false)),(1,some (yX L)),(6,some (bx (jN (qH K.d.v))++[(.own 7 42 8 gl.length),(.own 8 43 1 0)])),(7,some (qN jN gl)),(8,some (bm xP []))]++K.d.X)⟩) (fun (i,gl)=>i<=n/\gl=List.map qH (List.map (fun (i:Nat)=>(K.d.g i)) (List.range i))) (fun (i,gl)=>n-i) (0,[]) wk ⟨Nat.zero_le _,rfl⟩ ?_
  rintro ⟨i,gl⟩ ⟨hi,hg⟩
  have hgl:gl.length=i:=jk_len (G:=(fun (i:Nat)=>(K.d.g i))) hg
  refine jB<|kx [(28,(vb (decide (((i:Nat):Int)<((n:Nat):Int)))))] [] (zE gX<|zZ) ?_
  refine jB<|jF rfl (fun h1=>?_) (fun h1=>?_)
  ·replace h1:=vN h1
   refine jG<|jB<|jL<|jB<|kx [(9,(kG i))] [] (zM<|zM<|zZ) ?_
   refine kd [] [(6,some (bx (jN (qH K.d.v))++[(.own 9 42 8 ((gl++[(qH (K.d.g i))]).length)),(.own 8 43 1 0)])),(9,some (qN jN (gl++[(qH (K.d.g i))]))),(7,none)] mo (wE (kK mA)<|wR (qI sh43)<|wM<|wM<|wM<|wC (nk_g K (Int.ofNat_lt.1 h1) gl (by exact rfl) (by kernel_rfl) (by kernel_rfl) (by kernel_rfl))<|wC (oCh [(0,(yV n 1 L false),(jT.cells (mcA n (.sl 1000000 10 (List.map jP (List.map uT L))) false))),(1,(yX L),(qC (List.map jP (List.map uT L))))] [(.ref 0 0),(.d (jN (qH (K.d.g i))))] (j_round n (.sl 1000000 10 (List.map jP (List.map uT L))) (K.d.g i) (K.hg i (by omega))) (.cons (.r (.head _)) (.cons .d .nil)) (.cons (.cons .d (.cons .d (.cons .d (.cons (see_own (F:=jP) (L:=(List.map uT L)) (.head _) (fun _=>rfl) rfl) (.cons .d .nil))))) (.cons (.all (by exact rfl)) .nil)) (xL (by decide) _) (ex:=[]))<|wE (fH cF xF xK)<|wAS (k:=7) 9 jN gl [(qH (K.d.g i))] rfl cF xF by42<|wE (kK mA)<|wT (oSx sh43)<|wZ) ?_
   refine qL (wk (l:=[(0,(.ref 0 0)),(1,K.d.c1),(2,K.d.c2),(3,K.d.c3),(8,(.ref 6 0)),(26,(kG n)),(27,(kG i))]) (b:=([(0,some (yV n 1 L false)),(1,some (yX L)),(6,some (bx (jN (qH K.d.v))++[(.own 9 42 8 ((gl++[(qH (K.d.g i))]).length)),(.own 8 43 1 0)])),(8,some (bm xP [])),(9,some (qN jN (gl++[(qH (K.d.g i))])))]++K.d.X))) ?_
   refine qL (sim_ren2 (S':=[(0,(.ref 0 0)),(1,K.d.c1),(2,K.d.c2),(3,K.d.c3),(8,(.ref 6 0)),(26,(kG n)),(27,(kG i))]) (B':=([(0,some (yV n 1 L false)),(1,some (yX L)),(6,some (bx (jN (qH K.d.v))++[(.own 7 42 8 ((gl++[(qH (K.d.g i))]).length)),(.own 8 43 1 0)])),(7,some (qN jN (gl++[(qH (K.d.g i))]))),(8,some (bm xP []))]++K.d.X)) 7 9 6) ?_
   refine kx [(27,(kG (i+1)))] [] (zE (vY (i+1))<|zM<|zZ) ?_
   exact ⟨(i+1,gl++[qH (K.d.g i)]),wk,⟨by omega,jk_push (G:=(fun (i:Nat)=>(K.d.g i))) hg⟩,(by first|omega|(dsimp only;omega))⟩
  ·replace h1:=vX h1
   refine kN<|jB<|jB<|kx [(45,(vb false))] [] (zM<|zE oNc<|zE (kK fo113_1)<|zR (qI uC)<|zE (nH false dI)<|zZ) ?_
   refine qW ?_
   refine jG<|qL (publishAt (j:=6) (k:=7) (pre:=(bx (jN (qH K.d.v)))) (post:=[(.own 8 43 1 0)]) (es:=List.map jN gl) rfl (by decide) rfl (bH _ _ (fun _=>rfl)) (xH _ _ rfl) (pubs_take jN gl (fun _=>rfl) rfl)) ?_
   refine qL (wk (l:=[(0,(.ref 0 0)),(1,K.d.c1),(2,K.d.c2),(3,K.d.c3),(8,(.ref 6 0)),(45,(vb false))]) (b:=([(0,some (yV n 1 L false)),(1,some (yX L)),(6,some (bx (jN (qH K.d.v))++[(vl 42 8 jN gl),(.own 8 43 1 0)])),(8,some (bm xP []))]++K.d.X))) ?_
   refine qL (publishAt (j:=6) (k:=8) (pre:=(bx (jN (qH K.d.v))++[(vl 42 8 jN gl)])) (post:=[]) (es:=List.map xP []) rfl (by decide) rfl (vK _ _ (fun _=>rfl)) (xH _ _ rfl) (xJ _ _ (fun _=>rfl) rfl)) ?_
   refine qL (wk (l:=[(0,(.ref 0 0)),(1,K.d.c1),(2,K.d.c2),(3,K.d.c3),(8,(.ref 6 0)),(45,(vb false))]) (b:=([(0,some (yV n 1 L false)),(1,some (yX L)),(6,some (bx (jP (aV.mk (qH K.d.v) gl []))))]++K.d.X))) ?_
   refine kd [] [(0,some [(kG n),(kG 1),(vi (-1)),(.own 10 46 10 (((List.map uT L)++[(aV.mk (qH K.d.v) gl [])]).length)),(vb false)]),(10,some (qN jP ((List.map uT L)++[(aV.mk (qH K.d.v) gl [])]))),(1,none)] mo (wM<|wM<|wE oNc<|wE (kK fo113_3)<|wR (qI sh88)<|wR (kR sh46)<|wE (fH el88 ze46 zo46)<|wAS (k:=1) 10 jP (List.map uT L) [(aV.mk (qH K.d.v) gl [])] rfl el88 ze46 by46<|wE oNc<|wE (kK fo113_3)<|wT (oSx sh88)<|wZ) ?_
   have hJ:List.map uT (L++[(jk K.d.v (fun i=>(K.d.g i)) n)])=List.map uT L++[aV.mk (qH K.d.v) gl []]:=by rw[List.map_append,hg,show i=n by omega];rfl
   unfold yV yX
   rw[hJ]
   refine ⟨qZ (by kernel_rfl),vA (by kernel_rfl),.inl ⟨_,.nil,?_⟩⟩
   rfl
theorem e_nodeC(n:Nat)(L:List JV)(p:Rat)(hp:QL p 1048576)(zz:R2)(hzz:GL 3 zz)(hn:n<=64)(hL:L.length<=1000):vR Tryz.prog 123 [(.ref 0 0),(.clo 127 [2]),(.clo 128 [3]),(.clo 121 [3])] [(0,some (yV n 1 L false)),(1,some (yX L)),(2,some (bx (jM (kC.mk 0 0 0 (jO p))))),(3,some (bx (jN (qH zz))))] (.d (.tup [])) [(0,some (yV n 10 (L++[(jk (gpt p) (fun i=>zz) n)]) false)),(10,some (yX (L++[(jk (gpt p) (fun i=>zz) n)])))]:=eV n L (.C p hp zz hzz) hn hL
theorem e_nodeV(n:Nat)(L:List JV)(bv:List R2)(hbx:∀ x∈bv,GL 1048576 x)(a:Nat)(zz:R2)(hzz:GL 3 zz)(hn:n<=64)(hL:L.length<=1000)(ha:a<bv.length)(hbl:bv.length<=1000000):vR Tryz.prog 123 [(.ref 0 0),(.clo 129 [2,3]),(.clo 130 [3,4]),(.clo 121 [4])] [(0,some (yV n 1 L false)),(1,some (yX L)),(2,some (bx (.sl 42 8 (List.map jN (List.map qH bv))))),(3,some (bx (jM (kC.mk 1 ((a:Nat):Int) 0 uD)))),(4,some (bx (jN (qH zz))))] (.d (.tup [])) [(0,some (yV n 10 (L++[(jk (bv.getD a z2) (fun i=>(if ((i:Nat):Int)=((a:Nat):Int) then gw 1 else zz)) n)]) false)),(10,some (yX (L++[(jk (bv.getD a z2) (fun i=>(if ((i:Nat):Int)=((a:Nat):Int) then gw 1 else zz)) n)])))]:=eV n L (.V bv hbx a zz hzz ha hbl) hn hL
theorem e_nodeA(n:Nat)(L:List JV)(u:JV)(hu:nW 1048576 n u)(v:JV)(hv:nW 1048576 n v)(hn:n<=64)(hL:L.length<=1000):vR Tryz.prog 123 [(.ref 0 0),(.clo 124 [2,3,4]),(.clo 125 [2,3,4]),(.clo 126 [2,3,4])] [(0,some (yV n 1 L false)),(1,some (yX L)),(2,some (bx (.val (.func (.func 131) #[] #[])))),(3,some (bx (jP (uT u)))),(4,some (bx (jP (uT v))))] (.d (.tup [])) [(0,some (yV n 10 (L++[(jk (yY u.v v.v) (fun i=>(yY (u.g.getD i z2) (v.g.getD i z2))) n)]) false)),(10,some (yX (L++[(jk (yY u.v v.v) (fun i=>(yY (u.g.getD i z2) (v.g.getD i z2))) n)])))]:=eV n L (.A u hu v hv) hn hL
theorem e_nodeS(n:Nat)(L:List JV)(u:JV)(hu:nW 1048576 n u)(v:JV)(hv:nW 1048576 n v)(hn:n<=64)(hL:L.length<=1000):vR Tryz.prog 123 [(.ref 0 0),(.clo 124 [2,3,4]),(.clo 125 [2,3,4]),(.clo 126 [2,3,4])] [(0,some (yV n 1 L false)),(1,some (yX L)),(2,some (bx (.val (.func (.func 132) #[] #[])))),(3,some (bx (jP (uT u)))),(4,some (bx (jP (uT v))))] (.d (.tup [])) [(0,some (yV n 10 (L++[(jk (uJ u.v v.v) (fun i=>(uJ (u.g.getD i z2) (v.g.getD i z2))) n)]) false)),(10,some (yX (L++[(jk (uJ u.v v.v) (fun i=>(uJ (u.g.getD i z2) (v.g.getD i z2))) n)])))]:=eV n L (.S u hu v hv) hn hL
theorem e_nodeN(n:Nat)(L:List JV)(u:JV)(hu:nW 1048576 n u)(v:JV)(hv:nW 1048576 n v)(hn:n<=64)(hL:L.length<=1000):vR Tryz.prog 123 [(.ref 0 0),(.clo 124 [2,3,4]),(.clo 125 [2,3,4]),(.clo 126 [2,3,4])] [(0,some (yV n 1 L false)),(1,some (yX L)),(2,some [(.clo 133 [5])]),(3,some (bx (jP (uT u)))),(4,some (bx (jP (uT v)))),(5,some (bx (jN (qH (gw 0)))))] (.d (.tup [])) [(0,some (yV n 10 (L++[(jk (uJ (gw 0) u.v) (fun i=>(uJ (gw 0) (u.g.getD i z2))) n)]) false)),(10,some (yX (L++[(jk (uJ (gw 0) u.v) (fun i=>(uJ (gw 0) (u.g.getD i z2))) n)])))]:=eV n L (.N u hu v hv) hn hL
theorem e_nodeM(n:Nat)(L:List JV)(u:JV)(hu:nW 1048576 n u)(v:JV)(hv:nW 1048576 n v)(hn:n<=64)(hL:L.length<=1000):vR Tryz.prog 123 [(.ref 0 0),(.clo 134 [2,3]),(.clo 136 [2,3]),(.clo 137 [2,3])] [(0,some (yV n 1 L false)),(1,some (yX L)),(2,some (bx (jP (uT u)))),(3,some (bx (jP (uT v))))] (.d (.tup [])) [(0,some (yV n 10 (L++[(jk (vS u.v v.v) (fun i=>(yY (vS u.v (v.g.getD i z2)) (vS v.v (u.g.getD i z2)))) n)]) false)),(10,some (yX (L++[(jk (vS u.v v.v) (fun i=>(yY (vS u.v (v.g.getD i z2)) (vS v.v (u.g.getD i z2)))) n)])))]:=eV n L (.M u hu v hv) hn hL
theorem e_nodeQ(n:Nat)(L:List JV)(u:JV)(hu:nW 1048576 n u)(tt:R2)(htt:GL 3 tt)(hn:n<=64)(hL:L.length<=1000):vR Tryz.prog 123 [(.ref 0 0),(.clo 138 [2]),(.clo 140 [3,2]),(.clo 141 [2,3])] [(0,some (yV n 1 L false)),(1,some (yX L)),(2,some (bx (jP (uT u)))),(3,some (bx (jN (qH tt))))] (.d (.tup [])) [(0,some (yV n 10 (L++[(jk (gsq u.v) (fun i=>(vS tt (vS u.v (u.g.getD i z2)))) n)]) false)),(10,some (yX (L++[(jk (gsq u.v) (fun i=>(vS tt (vS u.v (u.g.getD i z2)))) n)])))]:=eV n L (.Q u hu tt htt) hn hL
theorem e_nodeD(n:Nat)(L:List JV)(bb:Nat)(u:JV)(hu:nW 1048576 n u)(v:JV)(hv:nW 1048576 n v)(hn:n<=64)(hL:L.length<=1000)(hz:nO v.v.1 v.v.2=false):vR Tryz.prog 123 [(.ref 0 0),(.clo 142 [2,3,4]),(.clo 144 [2,3,4]),(.clo 145 [3,4,2])] [(0,some (yV n 1 L false)),(1,some (yX L)),(2,some [(.refx 0 0 bb)]),(3,some (bx (jP (uT u)))),(4,some (bx (jP (uT v))))] (.d (.tup [])) [(0,some (yV n 10 (L++[(jk (cY u.v v.v) (fun i=>(cY (uJ (u.g.getD i z2) (vS (cY u.v v.v) (v.g.getD i z2))) v.v)) n)]) false)),(10,some (yX (L++[(jk (cY u.v v.v) (fun i=>(cY (uJ (u.g.getD i z2) (vS (cY u.v v.v) (v.g.getD i z2))) v.v)) n)])))]:=eV n L (.D bb u hu v hv hz) hn hL
end Go.Proofs.YtckccjhflbljgaaGreatDoor
