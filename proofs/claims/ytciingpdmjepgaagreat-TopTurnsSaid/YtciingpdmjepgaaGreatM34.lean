/- Part 34 of a proof: rules, plain facts, and functions walked. -/
import Derived.Test.YtciingpdmjepgaaGreatM33
import Derived.Test.YtciingpdmjepgaaGreatM28
set_option linter.all false
set_option maxRecDepth 4000
namespace Go.Proofs.YtciingpdmjepgaaGreat
open Go.Fid
theorem gP:arrB Tryz.prog 113=some (3,3,1):=by kernel_rfl
theorem ar114:arrB Tryz.prog 114=some (3,113,3):=by kernel_rfl
theorem by68:xD Tryz.prog 68=some 56:=by kernel_rfl
theorem pl30:mY Tryz.prog 30=some [(0,1),(1,1),(2,1)]:=by kernel_rfl
theorem sh114:kQ Tryz.prog 114=some (true,9):=by kernel_rfl
theorem ze113:uO Tryz.prog 113=some [.int .i64 0,.int .i64 0,.int .i64 0]:=by kernel_rfl
theorem ze114:uO Tryz.prog 114=some [.int .i64 0,.int .i64 0,.int .i64 0,.int .i64 0,.int .i64 0,.int .i64 0,.int .i64 0,.int .i64 0,.int .i64 0]:=by kernel_rfl
theorem zo113:nH [.int .i64 0,.int .i64 0,.int .i64 0] [.val (.int .i64 0),.val (.int .i64 0),.val (.int .i64 0)]:=by simp [nH,Value.oneCell']
theorem zo114:nH [.int .i64 0,.int .i64 0,.int .i64 0,.int .i64 0,.int .i64 0,.int .i64 0,.int .i64 0,.int .i64 0,.int .i64 0] [.val (.int .i64 0),.val (.int .i64 0),.val (.int .i64 0),.val (.int .i64 0),.val (.int .i64 0),.val (.int .i64 0),.val (.int .i64 0),.val (.int .i64 0),.val (.int .i64 0)]:=by simp [nH,Value.oneCell']
theorem n_coo0(p:jM):jU Tryz.prog 61 [(kH p),(.val (.int .i64 (((0:Nat):Int))))] (.val (.int .i64 ((p.x)))):=by
 refine vD Tryz.func61 ?_
 refine jA<|kx [(2,(.ref 0 0))] [(0,some (bx (kH p)))] (zN (yB 0)<|zM<|zZ) ?_
 refine jA<|kx [(4,(vi p.x))] [] (zE (jY fo30_0)<|zR (jZ kK)<|zE (jY dC)<|zR (jZ kK)<|zE (jY fo30_2)<|zR (jZ kK)<|zE (oBf gP ze113 zo113)<|zM<|zE (oXa gP kK (fun _=>rfl) 0)<|zM<|zZ) ?_
 refine jG ⟨_,(.tmp (d:=(.val (.int .i64 (p.x)))) rfl .nil),?_⟩
 rfl
theorem n_coo1(p:jM):jU Tryz.prog 61 [(kH p),(.val (.int .i64 (((1:Nat):Int))))] (.val (.int .i64 ((p.y)))):=by
 refine vD Tryz.func61 ?_
 refine jA<|kx [(2,(.ref 0 0))] [(0,some (bx (kH p)))] (zN (yB 0)<|zM<|zZ) ?_
 refine jA<|kx [(4,(vi p.y))] [] (zE (jY fo30_0)<|zR (jZ kK)<|zE (jY dC)<|zR (jZ kK)<|zE (jY fo30_2)<|zR (jZ kK)<|zE (oBf gP ze113 zo113)<|zM<|zE (oXa gP kK (fun _=>rfl) 1)<|zM<|zZ) ?_
 refine jG ⟨_,(.tmp (d:=(.val (.int .i64 (p.y)))) rfl .nil),?_⟩
 rfl
theorem n_coo2(p:jM):jU Tryz.prog 61 [(kH p),(.val (.int .i64 (((2:Nat):Int))))] (.val (.int .i64 ((p.z)))):=by
 refine vD Tryz.func61 ?_
 refine jA<|kx [(2,(.ref 0 0))] [(0,some (bx (kH p)))] (zN (yB 0)<|zM<|zZ) ?_
 refine jA<|kx [(4,(vi p.z))] [] (zE (jY fo30_0)<|zR (jZ kK)<|zE (jY dC)<|zR (jZ kK)<|zE (jY fo30_2)<|zR (jZ kK)<|zE (oBf gP ze113 zo113)<|zM<|zE (oXa gP kK (fun _=>rfl) 2)<|zM<|zZ) ?_
 refine jG ⟨_,(.tmp (d:=(.val (.int .i64 (p.z)))) rfl .nil),?_⟩
 rfl
theorem n_turn(q:jB)(p:jM)(sh:jM)(hq:mK q)(hp:spOk p)(hs:spOk sh):jU Tryz.prog 31 [(jI q),(kH p),(kH sh)] (.tup [(kH (tdV q p sh)),(.val (.bool ((tdB q p sh))))]):=by
 obtain ⟨qa_,qb_,qc_,qd_⟩:=hq.2.bd
 have:=zJ qa_ qa_
 have:=zJ qb_ qb_
 have:=zJ qc_ qc_
 have:=zJ qd_ qd_
 have:=zJ qb_ qc_
 have:=zJ qa_ qd_
 have:=zJ qb_ qd_
 have:=zJ qa_ qc_
 have:=zJ qc_ qd_
 have:=zJ qa_ qb_
 obtain ⟨⟨px1,px2⟩,⟨py1,py2⟩,pz1,pz2⟩:=hp
 obtain ⟨⟨sx1,sx2⟩,⟨sy1,sy2⟩,sz1,sz2⟩:=hs
 let y4:=(bx (jL (kG (((sh.y+((((2:Nat):Int)*((q.b*q.c)+(q.a*q.d)))*p.x))+(((((q.a*q.a)-(q.b*q.b))+(q.c*q.c))-(q.d*q.d))*p.y))+((((2:Nat):Int)*((q.c*q.d)-(q.a*q.b)))*p.z)))))
 let y3:=(bx (encA113 (A3.mk (jO (((sh.x+(((((q.a*q.a)+(q.b*q.b))-(q.c*q.c))-(q.d*q.d))*p.x))+((((2:Nat):Int)*((q.b*q.c)-(q.a*q.d)))*p.y))+((((2:Nat):Int)*((q.b*q.d)+(q.a*q.c)))*p.z))) 0 0)))
 let y2:=(bx (encA113 (A3.mk (jO (((sh.x+(((((q.a*q.a)+(q.b*q.b))-(q.c*q.c))-(q.d*q.d))*p.x))+((((2:Nat):Int)*((q.b*q.c)-(q.a*q.d)))*p.y))+((((2:Nat):Int)*((q.b*q.d)+(q.a*q.c)))*p.z))) (jO (((sh.y+((((2:Nat):Int)*((q.b*q.c)+(q.a*q.d)))*p.x))+(((((q.a*q.a)-(q.b*q.b))+(q.c*q.c))-(q.d*q.d))*p.y))+((((2:Nat):Int)*((q.c*q.d)-(q.a*q.b)))*p.z))) 0)))
 let y1:=(bx (encA114 (A3.mk (A3.mk ((((q.a*q.a)+(q.b*q.b))-(q.c*q.c))-(q.d*q.d)) (((2:Nat):Int)*((q.b*q.c)-(q.a*q.d))) (((2:Nat):Int)*((q.b*q.d)+(q.a*q.c)))) (A3.mk (((2:Nat):Int)*((q.b*q.c)+(q.a*q.d))) ((((q.a*q.a)-(q.b*q.b))+(q.c*q.c))-(q.d*q.d)) (((2:Nat):Int)*((q.c*q.d)-(q.a*q.b)))) (A3.mk (((2:Nat):Int)*((q.b*q.d)-(q.a*q.c))) (((2:Nat):Int)*((q.c*q.d)+(q.a*q.b))) ((((q.a*q.a)-(q.b*q.b))-(q.c*q.c))+(q.d*q.d))))))
 refine vD Tryz.func31 ?_
 refine jA<|kx [(3,(.ref 0 0)),(4,(.ref 1 0)),(5,(.ref 2 0)),(6,(.ref 3 0))] [(0,some (bx (jI q))),(1,some (bx (kH p))),(2,some (bx (kH sh))),(3,some (bx (kH (jM.mk 0 0 0))))] (zN (yB 0)<|zN (yB 1)<|zN (yB 2)<|zN (vL 3 ze30 zo30)<|zM<|zZ) ?_
 refine jA<|kx [(8,(.ref 4 0))] [(4,some y1)] (zE (jY vB)<|zR (jZ kK)<|zE (jY vB)<|zR (jZ kK)<|zE (mZ (q.a*q.a) (hr:=by exact (qG rfl (by simp only[vR];omega) (by simp only[vS];omega))))<|zE (jY uS)<|zR (jZ kK)<|zE (jY uS)<|zR (jZ kK)<|zE (mZ (q.b*q.b) (hr:=by exact (qG rfl (by simp only[vR];omega) (by simp only[vS];omega))))<|zE (zAd ((q.a*q.a)+(q.b*q.b)) (hr:=by exact (qG rfl (by simp only[vR];omega) (by simp only[vS];omega))))<|zE (jY vA)<|zR (jZ kK)<|zE (jY vA)<|zR (jZ kK)<|zE (mZ (q.c*q.c) (hr:=by exact (qG rfl (by simp only[vR];omega) (by simp only[vS];omega))))<|zE (zSb (((q.a*q.a)+(q.b*q.b))-(q.c*q.c)) (hr:=by exact (qG rfl (by simp only[vR];omega) (by simp only[vS];omega))))<|zE (jY uR)<|zR (jZ kK)<|zE (jY uR)<|zR (jZ kK)<|zE (mZ (q.d*q.d) (hr:=by exact (qG rfl (by simp only[vR];omega) (by simp only[vS];omega))))<|zE (zSb ((((q.a*q.a)+(q.b*q.b))-(q.c*q.c))-(q.d*q.d)) (hr:=by exact (qG rfl (by simp only[vR];omega) (by simp only[vS];omega))))<|zE (jY uS)<|zR (jZ kK)<|zE (jY vA)<|zR (jZ kK)<|zE (mZ (q.b*q.c) (hr:=by exact (qG rfl (by simp only[vR];omega) (by simp only[vS];omega))))<|zE (jY vB)<|zR (jZ kK)<|zE (jY uR)<|zR (jZ kK)<|zE (mZ (q.a*q.d) (hr:=by exact (qG rfl (by simp only[vR];omega) (by simp only[vS];omega))))<|zE (zSb ((q.b*q.c)-(q.a*q.d)) (hr:=by exact (qG rfl (by simp only[vR];omega) (by simp only[vS];omega))))<|zE (mZ (((2:Nat):Int)*((q.b*q.c)-(q.a*q.d))) (hr:=by exact (qG rfl (by simp only[vR];omega) (by simp only[vS];omega))))<|zE (jY uS)<|zR (jZ kK)<|zE (jY uR)<|zR (jZ kK)<|zE (mZ (q.b*q.d) (hr:=by exact (qG rfl (by simp only[vR];omega) (by simp only[vS];omega))))<|zE (jY vB)<|zR (jZ kK)<|zE (jY vA)<|zR (jZ kK)<|zE (mZ (q.a*q.c) (hr:=by exact (qG rfl (by simp only[vR];omega) (by simp only[vS];omega))))<|zE (zAd ((q.b*q.d)+(q.a*q.c)) (hr:=by exact (qG rfl (by simp only[vR];omega) (by simp only[vS];omega))))<|zE (mZ (((2:Nat):Int)*((q.b*q.d)+(q.a*q.c))) (hr:=by exact (qG rfl (by simp only[vR];omega) (by simp only[vS];omega))))<|zE (oBf gP ze113 zo113)<|zE (jY uS)<|zR (jZ kK)<|zE (jY vA)<|zR (jZ kK)<|zE (mZ (q.b*q.c) (hr:=by exact (qG rfl (by simp only[vR];omega) (by simp only[vS];omega))))<|zE (jY vB)<|zR (jZ kK)<|zE (jY uR)<|zR (jZ kK)<|zE (mZ (q.a*q.d) (hr:=by exact (qG rfl (by simp only[vR];omega) (by simp only[vS];omega))))<|zE (zAd ((q.b*q.c)+(q.a*q.d)) (hr:=by exact (qG rfl (by simp only[vR];omega) (by simp only[vS];omega))))<|zE (mZ (((2:Nat):Int)*((q.b*q.c)+(q.a*q.d))) (hr:=by exact (qG rfl (by simp only[vR];omega) (by simp only[vS];omega))))<|zE (jY vB)<|zR (jZ kK)<|zE (jY vB)<|zR (jZ kK)<|zE (mZ (q.a*q.a) (hr:=by exact (qG rfl (by simp only[vR];omega) (by simp only[vS];omega))))<|zE (jY uS)<|zR (jZ kK)<|zE (jY uS)<|zR (jZ kK)<|zE (mZ (q.b*q.b) (hr:=by exact (qG rfl (by simp only[vR];omega) (by simp only[vS];omega))))<|zE (zSb ((q.a*q.a)-(q.b*q.b)) (hr:=by exact (qG rfl (by simp only[vR];omega) (by simp only[vS];omega))))<|zE (jY vA)<|zR (jZ kK)<|zE (jY vA)<|zR (jZ kK)<|zE (mZ (q.c*q.c) (hr:=by exact (qG rfl (by simp only[vR];omega) (by simp only[vS];omega))))<|zE (zAd (((q.a*q.a)-(q.b*q.b))+(q.c*q.c)) (hr:=by exact (qG rfl (by simp only[vR];omega) (by simp only[vS];omega))))<|zE (jY uR)<|zR (jZ kK)<|zE (jY uR)<|zR (jZ kK)<|zE (mZ (q.d*q.d) (hr:=by exact (qG rfl (by simp only[vR];omega) (by simp only[vS];omega))))<|zE (zSb ((((q.a*q.a)-(q.b*q.b))+(q.c*q.c))-(q.d*q.d)) (hr:=by exact (qG rfl (by simp only[vR];omega) (by simp only[vS];omega))))<|zE (jY vA)<|zR (jZ kK)<|zE (jY uR)<|zR (jZ kK)<|zE (mZ (q.c*q.d) (hr:=by exact (qG rfl (by simp only[vR];omega) (by simp only[vS];omega))))<|zE (jY vB)<|zR (jZ kK)<|zE (jY uS)<|zR (jZ kK)<|zE (mZ (q.a*q.b) (hr:=by exact (qG rfl (by simp only[vR];omega) (by simp only[vS];omega))))<|zE (zSb ((q.c*q.d)-(q.a*q.b)) (hr:=by exact (qG rfl (by simp only[vR];omega) (by simp only[vS];omega))))<|zE (mZ (((2:Nat):Int)*((q.c*q.d)-(q.a*q.b))) (hr:=by exact (qG rfl (by simp only[vR];omega) (by simp only[vS];omega))))<|zE (oBf gP ze113 zo113)<|zE (jY uS)<|zR (jZ kK)<|zE (jY uR)<|zR (jZ kK)<|zE (mZ (q.b*q.d) (hr:=by exact (qG rfl (by simp only[vR];omega) (by simp only[vS];omega))))<|zE (jY vB)<|zR (jZ kK)<|zE (jY vA)<|zR (jZ kK)<|zE (mZ (q.a*q.c) (hr:=by exact (qG rfl (by simp only[vR];omega) (by simp only[vS];omega))))<|zE (zSb ((q.b*q.d)-(q.a*q.c)) (hr:=by exact (qG rfl (by simp only[vR];omega) (by simp only[vS];omega))))<|zE (mZ (((2:Nat):Int)*((q.b*q.d)-(q.a*q.c))) (hr:=by exact (qG rfl (by simp only[vR];omega) (by simp only[vS];omega))))<|zE (jY vA)<|zR (jZ kK)<|zE (jY uR)<|zR (jZ kK)<|zE (mZ (q.c*q.d) (hr:=by exact (qG rfl (by simp only[vR];omega) (by simp only[vS];omega))))<|zE (jY vB)<|zR (jZ kK)<|zE (jY uS)<|zR (jZ kK)<|zE (mZ (q.a*q.b) (hr:=by exact (qG rfl (by simp only[vR];omega) (by simp only[vS];omega))))<|zE (zAd ((q.c*q.d)+(q.a*q.b)) (hr:=by exact (qG rfl (by simp only[vR];omega) (by simp only[vS];omega))))<|zE (mZ (((2:Nat):Int)*((q.c*q.d)+(q.a*q.b))) (hr:=by exact (qG rfl (by simp only[vR];omega) (by simp only[vS];omega))))<|zE (jY vB)<|zR (jZ kK)<|zE (jY vB)<|zR (jZ kK)<|zE (mZ (q.a*q.a) (hr:=by exact (qG rfl (by simp only[vR];omega) (by simp only[vS];omega))))<|zE (jY uS)<|zR (jZ kK)<|zE (jY uS)<|zR (jZ kK)<|zE (mZ (q.b*q.b) (hr:=by exact (qG rfl (by simp only[vR];omega) (by simp only[vS];omega))))<|zE (zSb ((q.a*q.a)-(q.b*q.b)) (hr:=by exact (qG rfl (by simp only[vR];omega) (by simp only[vS];omega))))<|zE (jY vA)<|zR (jZ kK)<|zE (jY vA)<|zR (jZ kK)<|zE (mZ (q.c*q.c) (hr:=by exact (qG rfl (by simp only[vR];omega) (by simp only[vS];omega))))<|zE (zSb (((q.a*q.a)-(q.b*q.b))-(q.c*q.c)) (hr:=by exact (qG rfl (by simp only[vR];omega) (by simp only[vS];omega))))<|zE (jY uR)<|zR (jZ kK)<|zE (jY uR)<|zR (jZ kK)<|zE (mZ (q.d*q.d) (hr:=by exact (qG rfl (by simp only[vR];omega) (by simp only[vS];omega))))<|zE (zAd ((((q.a*q.a)-(q.b*q.b))-(q.c*q.c))+(q.d*q.d)) (hr:=by exact (qG rfl (by simp only[vR];omega) (by simp only[vS];omega))))<|zE (oBf gP ze113 zo113)<|zE (oBf ar114 ze114 zo114)<|zN (vL 4 ze114 zo114)<|zT (qO sh114)<|zZ) ?_
 refine jA<|kx [(9,(.ref 5 0))] [(5,some (bx (encA113 (A3.mk 0 0 0))))] (zN (vL 5 ze113 zo113)<|zZ) ?_
 refine jA<|kx [(10,(vb true))] [] (zM<|zZ) ?_
 refine jA<|jA<|kx [(161,(jN 0))] [] (zM<|zZ) ?_
 refine jH<|yY 4 ?_
 refine hC<|jA<|kx [(162,(vb true))] [] (zE (gI true uT)<|zZ) ?_
 refine jA<|qZ ?_
 refine jD<|jA<|jH<|jA<|kx [(11,(jN 0))] [] (zM<|zM<|zZ) ?_
 refine jA<|kx [(12,(.ref 6 0))] [(6,some (bx (jL (kG sh.x))))] (zR (qE nZ)<|zM<|zE (kD (n_coo0 sh))<|zE (kD (nI sh.x (by omega) (by omega)))<|zN (vL 6 vY vZ)<|zT (qO jP)<|zZ) ?_
 refine jA<|jA<|kx [(168,(jN 0))] [] (zM<|zZ) ?_
 refine jH<|yY 4 ?_
 refine hC<|jA<|kx [(169,(vb true))] [] (zE (gI true uT)<|zZ) ?_
 refine jA<|qZ ?_
 refine jD<|jA<|jH<|jA<|kx [(13,(jN 0))] [] (zM<|zM<|zZ) ?_
 have bn1:xI (kG ((((q.a*q.a)+(q.b*q.b))-(q.c*q.c))-(q.d*q.d))) ((((q.a*q.a)+(q.b*q.b))-(q.c*q.c))-(q.d*q.d)) 3:=(qI (z:=((((q.a*q.a)+(q.b*q.b))-(q.c*q.c))-(q.d*q.d))) (by omega) (by omega))
 have bn2:xI (kG (((((q.a*q.a)+(q.b*q.b))-(q.c*q.c))-(q.d*q.d))*p.x)) (((((q.a*q.a)+(q.b*q.b))-(q.c*q.c))-(q.d*q.d))*p.x) 6:=(xS (k:=6) bn1 (qI (z:=p.x) (by omega) (by omega)))
 have bn3:xI (kG (sh.x+(((((q.a*q.a)+(q.b*q.b))-(q.c*q.c))-(q.d*q.d))*p.x))) (sh.x+(((((q.a*q.a)+(q.b*q.b))-(q.c*q.c))-(q.d*q.d))*p.x)) 7:=(hM (k:=7) (qI (z:=sh.x) (by omega) (by omega)) bn2)
 refine kd [] [(6,some (bx (jL (kG (sh.x+(((((q.a*q.a)+(q.b*q.b))-(q.c*q.c))-(q.d*q.d))*p.x))))))] mo (wR (qE jP)<|wM<|wM<|wE (aB ar114 0)<|wE (aB gP 0)<|wR (jZ kK)<|wE (kD (nI ((((q.a*q.a)+(q.b*q.b))-(q.c*q.c))-(q.d*q.d)) (by omega) (by omega)))<|wR (qE nZ)<|wM<|wE (kD (n_coo0 p))<|wE (kD (nI p.x (by omega) (by omega)))<|wE (kD (fD bn1 (qI (z:=p.x) (by omega) (by omega))))<|wE (kD (s_add (qI (z:=sh.x) (by omega) (by omega)) bn2))<|wT (qO jP)<|wZ) ?_
 refine kx [(168,(jN 1))] [] (zE (uL 1 (hr:=by decide))<|zM<|zZ) ?_
 refine kS (kP.refl _) ?_
 refine jA<|kx [(169,(vb true))] [] (zE (gI true uT)<|zZ) ?_
 refine jA<|qZ ?_
 refine jD<|jA<|jH<|jA<|kU (wk (l:=[(4,(.ref 1 0)),(5,(.ref 2 0)),(6,(.ref 3 0)),(8,(.ref 4 0)),(9,(.ref 5 0)),(10,(vb true)),(11,(jN 0)),(12,(.ref 6 0)),(161,(jN 0)),(168,(jN 1)),(169,(vb true))]) (b:=[(1,some (bx (kH p))),(2,some (bx (kH sh))),(3,some (bx (kH (jM.mk 0 0 0)))),(4,some y1),(5,some (bx (encA113 (A3.mk 0 0 0)))),(6,some (bx (jL (kG (sh.x+(((((q.a*q.a)+(q.b*q.b))-(q.c*q.c))-(q.d*q.d))*p.x))))))])) ?_
 refine kx [(13,(jN 1))] [] (zM<|zM<|zZ) ?_
 have bn4:xI (kG (((2:Nat):Int)*((q.b*q.c)-(q.a*q.d)))) (((2:Nat):Int)*((q.b*q.c)-(q.a*q.d))) 3:=(qI (z:=(((2:Nat):Int)*((q.b*q.c)-(q.a*q.d)))) (by omega) (by omega))
 have bn5:xI (kG ((((2:Nat):Int)*((q.b*q.c)-(q.a*q.d)))*p.y)) ((((2:Nat):Int)*((q.b*q.c)-(q.a*q.d)))*p.y) 6:=(xS (k:=6) bn4 (qI (z:=p.y) (by omega) (by omega)))
 refine kd [] [(6,some (bx (jL (kG ((sh.x+(((((q.a*q.a)+(q.b*q.b))-(q.c*q.c))-(q.d*q.d))*p.x))+((((2:Nat):Int)*((q.b*q.c)-(q.a*q.d)))*p.y))))))] mo (wR (qE jP)<|wM<|wM<|wE (aB ar114 0)<|wE (aB gP 1)<|wR (jZ kK)<|wE (kD (nI (((2:Nat):Int)*((q.b*q.c)-(q.a*q.d))) (by omega) (by omega)))<|wR (qE nZ)<|wM<|wE (kD (n_coo1 p))<|wE (kD (nI p.y (by omega) (by omega)))<|wE (kD (fD bn4 (qI (z:=p.y) (by omega) (by omega))))<|wE (kD (s_add bn3 bn5))<|wT (qO jP)<|wZ) ?_
 refine kx [(168,(jN 2))] [] (zE (uL 2 (hr:=by decide))<|zM<|zZ) ?_
 refine kS (kP.refl _) ?_
 refine jA<|kx [(169,(vb true))] [] (zE (gI true uT)<|zZ) ?_
 refine jA<|qZ ?_
 refine jD<|jA<|jH<|jA<|kx [(13,(jN 2))] [] (zM<|zM<|zZ) ?_
 have bn6:xI (kG (((2:Nat):Int)*((q.b*q.d)+(q.a*q.c)))) (((2:Nat):Int)*((q.b*q.d)+(q.a*q.c))) 3:=(qI (z:=(((2:Nat):Int)*((q.b*q.d)+(q.a*q.c)))) (by omega) (by omega))
 have bn7:xI (kG ((((2:Nat):Int)*((q.b*q.d)+(q.a*q.c)))*p.z)) ((((2:Nat):Int)*((q.b*q.d)+(q.a*q.c)))*p.z) 6:=(xS (k:=6) bn6 (qI (z:=p.z) (by omega) (by omega)))
 have bn8:xI (kG (((sh.x+(((((q.a*q.a)+(q.b*q.b))-(q.c*q.c))-(q.d*q.d))*p.x))+((((2:Nat):Int)*((q.b*q.c)-(q.a*q.d)))*p.y))+((((2:Nat):Int)*((q.b*q.d)+(q.a*q.c)))*p.z))) (((sh.x+(((((q.a*q.a)+(q.b*q.b))-(q.c*q.c))-(q.d*q.d))*p.x))+((((2:Nat):Int)*((q.b*q.c)-(q.a*q.d)))*p.y))+((((2:Nat):Int)*((q.b*q.d)+(q.a*q.c)))*p.z)) 9:=(hM (k:=9) (hM (k:=8) bn3 bn5) bn7)
 refine kd [] [(6,some (bx (jL (kG (((sh.x+(((((q.a*q.a)+(q.b*q.b))-(q.c*q.c))-(q.d*q.d))*p.x))+((((2:Nat):Int)*((q.b*q.c)-(q.a*q.d)))*p.y))+((((2:Nat):Int)*((q.b*q.d)+(q.a*q.c)))*p.z))))))] mo (wR (qE jP)<|wM<|wM<|wE (aB ar114 0)<|wE (aB gP 2)<|wR (jZ kK)<|wE (kD (nI (((2:Nat):Int)*((q.b*q.d)+(q.a*q.c))) (by omega) (by omega)))<|wR (qE nZ)<|wM<|wE (kD (n_coo2 p))<|wE (kD (nI p.z (by omega) (by omega)))<|wE (kD (fD bn6 (qI (z:=p.z) (by omega) (by omega))))<|wE (kD (s_add (hM (k:=8) bn3 bn5) bn7))<|wT (qO jP)<|wZ) ?_
 refine kx [(168,(jN 3))] [] (zE (uL 3 (hr:=by decide))<|zM<|zZ) ?_
 refine kS (kP.refl _) ?_
 refine jA<|kx [(169,(vb false))] [] (zE (gI false uT)<|zZ) ?_
 refine jA<|uU ?_
 refine jS<|jA<|kx [(14,(vi (jO (((sh.x+(((((q.a*q.a)+(q.b*q.b))-(q.c*q.c))-(q.d*q.d))*p.x))+((((2:Nat):Int)*((q.b*q.c)-(q.a*q.d)))*p.y))+((((2:Nat):Int)*((q.b*q.d)+(q.a*q.c)))*p.z))))),(15,(vb (kO (((sh.x+(((((q.a*q.a)+(q.b*q.b))-(q.c*q.c))-(q.d*q.d))*p.x))+((((2:Nat):Int)*((q.b*q.c)-(q.a*q.d)))*p.y))+((((2:Nat):Int)*((q.b*q.d)+(q.a*q.c)))*p.z)))))] [] (zR (qE jP)<|zE (kD (aI (((sh.x+(((((q.a*q.a)+(q.b*q.b))-(q.c*q.c))-(q.d*q.d))*p.x))+((((2:Nat):Int)*((q.b*q.c)-(q.a*q.d)))*p.y))+((((2:Nat):Int)*((q.b*q.d)+(q.a*q.c)))*p.z)) (iu bn8)))<|zM<|zE vF<|zE vF<|zM<|zM<|zZ) ?_
 refine jA<|kx [] [(5,some y3)] (zM<|zM<|zE (aB gP 0)<|zT (qO kK)<|zZ) ?_
 refine kx [(10,(vb ((true&&(kO (((sh.x+(((((q.a*q.a)+(q.b*q.b))-(q.c*q.c))-(q.d*q.d))*p.x))+((((2:Nat):Int)*((q.b*q.c)-(q.a*q.d)))*p.y))+((((2:Nat):Int)*((q.b*q.d)+(q.a*q.c)))*p.z))))&&!([(jO (((sh.x+(((((q.a*q.a)+(q.b*q.b))-(q.c*q.c))-(q.d*q.d))*p.x))+((((2:Nat):Int)*((q.b*q.c)-(q.a*q.d)))*p.y))+((((2:Nat):Int)*((q.b*q.d)+(q.a*q.c)))*p.z)))].any (xA ((1048576:Nat):Int))))))] [] ?_ ?_
 ·refine zM<|zM<|zM<|zE aC<|zE (oV (vb (true&&(kO (((sh.x+(((((q.a*q.a)+(q.b*q.b))-(q.c*q.c))-(q.d*q.d))*p.x))+((((2:Nat):Int)*((q.b*q.c)-(q.a*q.d)))*p.y))+((((2:Nat):Int)*((q.b*q.d)+(q.a*q.c)))*p.z))))) (kA (by kernel_rfl)))<|?_
  rcases hb1:(true&&(kO (((sh.x+(((((q.a*q.a)+(q.b*q.b))-(q.c*q.c))-(q.d*q.d))*p.x))+((((2:Nat):Int)*((q.b*q.c)-(q.a*q.d)))*p.y))+((((2:Nat):Int)*((q.b*q.d)+(q.a*q.c)))*p.z)))) with _ | _
  ·exact zK<|zK<|zK<|zK<|zE mJ<|zM<|zZ
  ·exact zM<|zE (eG xN ze3 zo3)<|zE (kD (n_far ((1048576:Nat):Int) (by omega) (by omega) [(jO (((sh.x+(((((q.a*q.a)+(q.b*q.b))-(q.c*q.c))-(q.d*q.d))*p.x))+((((2:Nat):Int)*((q.b*q.c)-(q.a*q.d)))*p.y))+((((2:Nat):Int)*((q.b*q.d)+(q.a*q.c)))*p.z)))] (by first | assumption | exact sL_len _ | exact pL_len _ | (simp only[List.length_cons,List.length_nil];omega))))<|zE eU<|zE aC<|zM<|zZ
 refine kx [(161,(jN 1))] [] (zE (uL 1 (hr:=by decide))<|zM<|zZ) ?_
 refine kS (kP.refl _) ?_
 refine jA<|kx [(162,(vb true))] [] (zE (gI true uT)<|zZ) ?_
 refine jA<|qZ ?_
 refine jD<|jA<|jH<|jA<|kx [(11,(jN 1))] [] (zM<|zM<|zZ) ?_
 refine jA<|kU (wk (l:=[(4,(.ref 1 0)),(5,(.ref 2 0)),(6,(.ref 3 0)),(8,(.ref 4 0)),(9,(.ref 5 0)),(10,(vb ((true&&(kO (((sh.x+(((((q.a*q.a)+(q.b*q.b))-(q.c*q.c))-(q.d*q.d))*p.x))+((((2:Nat):Int)*((q.b*q.c)-(q.a*q.d)))*p.y))+((((2:Nat):Int)*((q.b*q.d)+(q.a*q.c)))*p.z))))&&!([(jO (((sh.x+(((((q.a*q.a)+(q.b*q.b))-(q.c*q.c))-(q.d*q.d))*p.x))+((((2:Nat):Int)*((q.b*q.c)-(q.a*q.d)))*p.y))+((((2:Nat):Int)*((q.b*q.d)+(q.a*q.c)))*p.z)))].any (xA ((1048576:Nat):Int)))))),(11,(jN 1)),(161,(jN 1))]) (b:=[(1,some (bx (kH p))),(2,some (bx (kH sh))),(3,some (bx (kH (jM.mk 0 0 0)))),(4,some y1),(5,some y3)])) ?_
 refine kx [(12,(.ref 7 0))] [(7,some (bx (jL (kG sh.y))))] (zR (qE nZ)<|zM<|zE (kD (n_coo1 sh))<|zE (kD (nI sh.y (by omega) (by omega)))<|zN (vL 7 vY vZ)<|zT (qO jP)<|zZ) ?_
 refine jA<|jA<|kx [(168,(jN 0))] [] (zM<|zZ) ?_
 refine jH<|yY 4 ?_
 refine hC<|jA<|kx [(169,(vb true))] [] (zE (gI true uT)<|zZ) ?_
 refine jA<|qZ ?_
 refine jD<|jA<|jH<|jA<|kx [(13,(jN 0))] [] (zM<|zM<|zZ) ?_
 have bn9:xI (kG (((2:Nat):Int)*((q.b*q.c)+(q.a*q.d)))) (((2:Nat):Int)*((q.b*q.c)+(q.a*q.d))) 3:=(qI (z:=(((2:Nat):Int)*((q.b*q.c)+(q.a*q.d)))) (by omega) (by omega))
 have bn10:xI (kG ((((2:Nat):Int)*((q.b*q.c)+(q.a*q.d)))*p.x)) ((((2:Nat):Int)*((q.b*q.c)+(q.a*q.d)))*p.x) 6:=(xS (k:=6) bn9 (qI (z:=p.x) (by omega) (by omega)))
 have bn11:xI (kG (sh.y+((((2:Nat):Int)*((q.b*q.c)+(q.a*q.d)))*p.x))) (sh.y+((((2:Nat):Int)*((q.b*q.c)+(q.a*q.d)))*p.x)) 7:=(hM (k:=7) (qI (z:=sh.y) (by omega) (by omega)) bn10)
 refine kd [] [(7,some (bx (jL (kG (sh.y+((((2:Nat):Int)*((q.b*q.c)+(q.a*q.d)))*p.x))))))] mo (wR (qE jP)<|wM<|wM<|wE (aB ar114 1)<|wE (aB gP 0)<|wR (jZ kK)<|wE (kD (nI (((2:Nat):Int)*((q.b*q.c)+(q.a*q.d))) (by omega) (by omega)))<|wR (qE nZ)<|wM<|wE (kD (n_coo0 p))<|wE (kD (nI p.x (by omega) (by omega)))<|wE (kD (fD bn9 (qI (z:=p.x) (by omega) (by omega))))<|wE (kD (s_add (qI (z:=sh.y) (by omega) (by omega)) bn10))<|wT (qO jP)<|wZ) ?_
 refine kx [(168,(jN 1))] [] (zE (uL 1 (hr:=by decide))<|zM<|zZ) ?_
 refine kS (kP.refl _) ?_
 refine jA<|kx [(169,(vb true))] [] (zE (gI true uT)<|zZ) ?_
 refine jA<|qZ ?_
 refine jD<|jA<|jH<|jA<|kx [(13,(jN 1))] [] (zM<|zM<|zZ) ?_
 have bn12:xI (kG ((((q.a*q.a)-(q.b*q.b))+(q.c*q.c))-(q.d*q.d))) ((((q.a*q.a)-(q.b*q.b))+(q.c*q.c))-(q.d*q.d)) 3:=(qI (z:=((((q.a*q.a)-(q.b*q.b))+(q.c*q.c))-(q.d*q.d))) (by omega) (by omega))
 have bn13:xI (kG (((((q.a*q.a)-(q.b*q.b))+(q.c*q.c))-(q.d*q.d))*p.y)) (((((q.a*q.a)-(q.b*q.b))+(q.c*q.c))-(q.d*q.d))*p.y) 6:=(xS (k:=6) bn12 (qI (z:=p.y) (by omega) (by omega)))
 refine kd [] [(7,some (bx (jL (kG ((sh.y+((((2:Nat):Int)*((q.b*q.c)+(q.a*q.d)))*p.x))+(((((q.a*q.a)-(q.b*q.b))+(q.c*q.c))-(q.d*q.d))*p.y))))))] mo (wR (qE jP)<|wM<|wM<|wE (aB ar114 1)<|wE (aB gP 1)<|wR (jZ kK)<|wE (kD (nI ((((q.a*q.a)-(q.b*q.b))+(q.c*q.c))-(q.d*q.d)) (by omega) (by omega)))<|wR (qE nZ)<|wM<|wE (kD (n_coo1 p))<|wE (kD (nI p.y (by omega) (by omega)))<|wE (kD (fD bn12 (qI (z:=p.y) (by omega) (by omega))))<|wE (kD (s_add bn11 bn13))<|wT (qO jP)<|wZ) ?_
 refine kx [(168,(jN 2))] [] (zE (uL 2 (hr:=by decide))<|zM<|zZ) ?_
 refine kS (kP.refl _) ?_
 refine jA<|kx [(169,(vb true))] [] (zE (gI true uT)<|zZ) ?_
 refine jA<|qZ ?_
 refine jD<|jA<|jH<|jA<|kx [(13,(jN 2))] [] (zM<|zM<|zZ) ?_
 have bn14:xI (kG (((2:Nat):Int)*((q.c*q.d)-(q.a*q.b)))) (((2:Nat):Int)*((q.c*q.d)-(q.a*q.b))) 3:=(qI (z:=(((2:Nat):Int)*((q.c*q.d)-(q.a*q.b)))) (by omega) (by omega))
 have bn15:xI (kG ((((2:Nat):Int)*((q.c*q.d)-(q.a*q.b)))*p.z)) ((((2:Nat):Int)*((q.c*q.d)-(q.a*q.b)))*p.z) 6:=(xS (k:=6) bn14 (qI (z:=p.z) (by omega) (by omega)))
 have bn16:xI (kG (((sh.y+((((2:Nat):Int)*((q.b*q.c)+(q.a*q.d)))*p.x))+(((((q.a*q.a)-(q.b*q.b))+(q.c*q.c))-(q.d*q.d))*p.y))+((((2:Nat):Int)*((q.c*q.d)-(q.a*q.b)))*p.z))) (((sh.y+((((2:Nat):Int)*((q.b*q.c)+(q.a*q.d)))*p.x))+(((((q.a*q.a)-(q.b*q.b))+(q.c*q.c))-(q.d*q.d))*p.y))+((((2:Nat):Int)*((q.c*q.d)-(q.a*q.b)))*p.z)) 9:=(hM (k:=9) (hM (k:=8) bn11 bn13) bn15)
 refine kd [] [(7,some y4)] mo (wR (qE jP)<|wM<|wM<|wE (aB ar114 1)<|wE (aB gP 2)<|wR (jZ kK)<|wE (kD (nI (((2:Nat):Int)*((q.c*q.d)-(q.a*q.b))) (by omega) (by omega)))<|wR (qE nZ)<|wM<|wE (kD (n_coo2 p))<|wE (kD (nI p.z (by omega) (by omega)))<|wE (kD (fD bn14 (qI (z:=p.z) (by omega) (by omega))))<|wE (kD (s_add (hM (k:=8) bn11 bn13) bn15))<|wT (qO jP)<|wZ) ?_
 refine kx [(168,(jN 3))] [] (zE (uL 3 (hr:=by decide))<|zM<|zZ) ?_
 refine kS (kP.refl _) ?_
 refine jA<|kU (wk (l:=[(4,(.ref 1 0)),(5,(.ref 2 0)),(6,(.ref 3 0)),(8,(.ref 4 0)),(9,(.ref 5 0)),(10,(vb ((true&&(kO (((sh.x+(((((q.a*q.a)+(q.b*q.b))-(q.c*q.c))-(q.d*q.d))*p.x))+((((2:Nat):Int)*((q.b*q.c)-(q.a*q.d)))*p.y))+((((2:Nat):Int)*((q.b*q.d)+(q.a*q.c)))*p.z))))&&!([(jO (((sh.x+(((((q.a*q.a)+(q.b*q.b))-(q.c*q.c))-(q.d*q.d))*p.x))+((((2:Nat):Int)*((q.b*q.c)-(q.a*q.d)))*p.y))+((((2:Nat):Int)*((q.b*q.d)+(q.a*q.c)))*p.z)))].any (xA ((1048576:Nat):Int)))))),(11,(jN 1)),(12,(.ref 7 0)),(161,(jN 1)),(168,(jN 3))]) (b:=[(1,some (bx (kH p))),(2,some (bx (kH sh))),(3,some (bx (kH (jM.mk 0 0 0)))),(4,some y1),(5,some y3),(7,some y4)])) ?_
 refine kx [(169,(vb false))] [] (zE (gI false uT)<|zZ) ?_
 refine jA<|uU ?_
 refine jS<|jA<|kx [(14,(vi (jO (((sh.y+((((2:Nat):Int)*((q.b*q.c)+(q.a*q.d)))*p.x))+(((((q.a*q.a)-(q.b*q.b))+(q.c*q.c))-(q.d*q.d))*p.y))+((((2:Nat):Int)*((q.c*q.d)-(q.a*q.b)))*p.z))))),(15,(vb (kO (((sh.y+((((2:Nat):Int)*((q.b*q.c)+(q.a*q.d)))*p.x))+(((((q.a*q.a)-(q.b*q.b))+(q.c*q.c))-(q.d*q.d))*p.y))+((((2:Nat):Int)*((q.c*q.d)-(q.a*q.b)))*p.z)))))] [] (zR (qE jP)<|zE (kD (aI (((sh.y+((((2:Nat):Int)*((q.b*q.c)+(q.a*q.d)))*p.x))+(((((q.a*q.a)-(q.b*q.b))+(q.c*q.c))-(q.d*q.d))*p.y))+((((2:Nat):Int)*((q.c*q.d)-(q.a*q.b)))*p.z)) (iu bn16)))<|zM<|zE vF<|zE vF<|zM<|zM<|zZ) ?_
 refine jA<|kx [] [(5,some y2)] (zM<|zM<|zE (aB gP 1)<|zT (qO kK)<|zZ) ?_
 refine kx [(10,(vb ((((true&&(kO (((sh.x+(((((q.a*q.a)+(q.b*q.b))-(q.c*q.c))-(q.d*q.d))*p.x))+((((2:Nat):Int)*((q.b*q.c)-(q.a*q.d)))*p.y))+((((2:Nat):Int)*((q.b*q.d)+(q.a*q.c)))*p.z))))&&!([(jO (((sh.x+(((((q.a*q.a)+(q.b*q.b))-(q.c*q.c))-(q.d*q.d))*p.x))+((((2:Nat):Int)*((q.b*q.c)-(q.a*q.d)))*p.y))+((((2:Nat):Int)*((q.b*q.d)+(q.a*q.c)))*p.z)))].any (xA ((1048576:Nat):Int))))&&(kO (((sh.y+((((2:Nat):Int)*((q.b*q.c)+(q.a*q.d)))*p.x))+(((((q.a*q.a)-(q.b*q.b))+(q.c*q.c))-(q.d*q.d))*p.y))+((((2:Nat):Int)*((q.c*q.d)-(q.a*q.b)))*p.z))))&&!([(jO (((sh.y+((((2:Nat):Int)*((q.b*q.c)+(q.a*q.d)))*p.x))+(((((q.a*q.a)-(q.b*q.b))+(q.c*q.c))-(q.d*q.d))*p.y))+((((2:Nat):Int)*((q.c*q.d)-(q.a*q.b)))*p.z)))].any (xA ((1048576:Nat):Int))))))] [] ?_ ?_
 ·refine zM<|zE (oV (vb ((true&&(kO (((sh.x+(((((q.a*q.a)+(q.b*q.b))-(q.c*q.c))-(q.d*q.d))*p.x))+((((2:Nat):Int)*((q.b*q.c)-(q.a*q.d)))*p.y))+((((2:Nat):Int)*((q.b*q.d)+(q.a*q.c)))*p.z))))&&!([(jO (((sh.x+(((((q.a*q.a)+(q.b*q.b))-(q.c*q.c))-(q.d*q.d))*p.x))+((((2:Nat):Int)*((q.b*q.c)-(q.a*q.d)))*p.y))+((((2:Nat):Int)*((q.b*q.d)+(q.a*q.c)))*p.z)))].any (xA ((1048576:Nat):Int))))) (kA (by kernel_rfl)))<|?_
  rcases hb2:((true&&(kO (((sh.x+(((((q.a*q.a)+(q.b*q.b))-(q.c*q.c))-(q.d*q.d))*p.x))+((((2:Nat):Int)*((q.b*q.c)-(q.a*q.d)))*p.y))+((((2:Nat):Int)*((q.b*q.d)+(q.a*q.c)))*p.z))))&&!([(jO (((sh.x+(((((q.a*q.a)+(q.b*q.b))-(q.c*q.c))-(q.d*q.d))*p.x))+((((2:Nat):Int)*((q.b*q.c)-(q.a*q.d)))*p.y))+((((2:Nat):Int)*((q.b*q.d)+(q.a*q.c)))*p.z)))].any (xA ((1048576:Nat):Int)))) with _ | _
  ·exact zK<|zE mJ<|zM<|zK<|zK<|zK<|zK<|zE mJ<|zM<|zZ
  ·refine zM<|zE aC<|zE (oV (vb (true&&(kO (((sh.y+((((2:Nat):Int)*((q.b*q.c)+(q.a*q.d)))*p.x))+(((((q.a*q.a)-(q.b*q.b))+(q.c*q.c))-(q.d*q.d))*p.y))+((((2:Nat):Int)*((q.c*q.d)-(q.a*q.b)))*p.z))))) (kA (by kernel_rfl)))<|?_
   rcases hb3:(true&&(kO (((sh.y+((((2:Nat):Int)*((q.b*q.c)+(q.a*q.d)))*p.x))+(((((q.a*q.a)-(q.b*q.b))+(q.c*q.c))-(q.d*q.d))*p.y))+((((2:Nat):Int)*((q.c*q.d)-(q.a*q.b)))*p.z)))) with _ | _
   ·exact zK<|zK<|zK<|zK<|zE mJ<|zM<|zZ
   ·exact zM<|zE (eG xN ze3 zo3)<|zE (kD (n_far ((1048576:Nat):Int) (by omega) (by omega) [(jO (((sh.y+((((2:Nat):Int)*((q.b*q.c)+(q.a*q.d)))*p.x))+(((((q.a*q.a)-(q.b*q.b))+(q.c*q.c))-(q.d*q.d))*p.y))+((((2:Nat):Int)*((q.c*q.d)-(q.a*q.b)))*p.z)))] (by first | assumption | exact sL_len _ | exact pL_len _ | (simp only[List.length_cons,List.length_nil];omega))))<|zE eU<|zE aC<|zM<|zZ
 refine kx [(161,(jN 2))] [] (zE (uL 2 (hr:=by decide))<|zM<|zZ) ?_
 refine kS (kP.refl _) ?_
 refine jA<|kx [(162,(vb true))] [] (zE (gI true uT)<|zZ) ?_
 refine jA<|qZ ?_
 refine jD<|jA<|jH<|jA<|kx [(11,(jN 2))] [] (zM<|zM<|zZ) ?_
 refine jA<|kx [(12,(.ref 8 0))] [(8,some (bx (jL (kG sh.z))))] (zR (qE nZ)<|zM<|zE (kD (n_coo2 sh))<|zE (kD (nI sh.z (by omega) (by omega)))<|zN (vL 8 vY vZ)<|zT (qO jP)<|zZ) ?_
 refine jA<|jA<|kx [(168,(jN 0))] [] (zM<|zZ) ?_
 refine jH<|yY 4 ?_
 refine hC<|jA<|kx [(169,(vb true))] [] (zE (gI true uT)<|zZ) ?_
 refine jA<|qZ ?_
 refine jD<|jA<|jH<|jA<|kx [(13,(jN 0))] [] (zM<|zM<|zZ) ?_
 have bn17:xI (kG (((2:Nat):Int)*((q.b*q.d)-(q.a*q.c)))) (((2:Nat):Int)*((q.b*q.d)-(q.a*q.c))) 3:=(qI (z:=(((2:Nat):Int)*((q.b*q.d)-(q.a*q.c)))) (by omega) (by omega))
 have bn18:xI (kG ((((2:Nat):Int)*((q.b*q.d)-(q.a*q.c)))*p.x)) ((((2:Nat):Int)*((q.b*q.d)-(q.a*q.c)))*p.x) 6:=(xS (k:=6) bn17 (qI (z:=p.x) (by omega) (by omega)))
 have bn19:xI (kG (sh.z+((((2:Nat):Int)*((q.b*q.d)-(q.a*q.c)))*p.x))) (sh.z+((((2:Nat):Int)*((q.b*q.d)-(q.a*q.c)))*p.x)) 7:=(hM (k:=7) (qI (z:=sh.z) (by omega) (by omega)) bn18)
 refine kd [] [(8,some (bx (jL (kG (sh.z+((((2:Nat):Int)*((q.b*q.d)-(q.a*q.c)))*p.x))))))] mo (wR (qE jP)<|wM<|wM<|wE (aB ar114 2)<|wE (aB gP 0)<|wR (jZ kK)<|wE (kD (nI (((2:Nat):Int)*((q.b*q.d)-(q.a*q.c))) (by omega) (by omega)))<|wR (qE nZ)<|wM<|wE (kD (n_coo0 p))<|wE (kD (nI p.x (by omega) (by omega)))<|wE (kD (fD bn17 (qI (z:=p.x) (by omega) (by omega))))<|wE (kD (s_add (qI (z:=sh.z) (by omega) (by omega)) bn18))<|wT (qO jP)<|wZ) ?_
 refine kx [(168,(jN 1))] [] (zE (uL 1 (hr:=by decide))<|zM<|zZ) ?_
 refine kS (kP.refl _) ?_
 refine jA<|kx [(169,(vb true))] [] (zE (gI true uT)<|zZ) ?_
 refine jA<|qZ ?_
 refine jD<|jA<|jH<|jA<|kU (wk (l:=[(4,(.ref 1 0)),(5,(.ref 2 0)),(6,(.ref 3 0)),(8,(.ref 4 0)),(9,(.ref 5 0)),(10,(vb ((((true&&(kO (((sh.x+(((((q.a*q.a)+(q.b*q.b))-(q.c*q.c))-(q.d*q.d))*p.x))+((((2:Nat):Int)*((q.b*q.c)-(q.a*q.d)))*p.y))+((((2:Nat):Int)*((q.b*q.d)+(q.a*q.c)))*p.z))))&&!([(jO (((sh.x+(((((q.a*q.a)+(q.b*q.b))-(q.c*q.c))-(q.d*q.d))*p.x))+((((2:Nat):Int)*((q.b*q.c)-(q.a*q.d)))*p.y))+((((2:Nat):Int)*((q.b*q.d)+(q.a*q.c)))*p.z)))].any (xA ((1048576:Nat):Int))))&&(kO (((sh.y+((((2:Nat):Int)*((q.b*q.c)+(q.a*q.d)))*p.x))+(((((q.a*q.a)-(q.b*q.b))+(q.c*q.c))-(q.d*q.d))*p.y))+((((2:Nat):Int)*((q.c*q.d)-(q.a*q.b)))*p.z))))&&!([(jO (((sh.y+((((2:Nat):Int)*((q.b*q.c)+(q.a*q.d)))*p.x))+(((((q.a*q.a)-(q.b*q.b))+(q.c*q.c))-(q.d*q.d))*p.y))+((((2:Nat):Int)*((q.c*q.d)-(q.a*q.b)))*p.z)))].any (xA ((1048576:Nat):Int)))))),(11,(jN 2)),(12,(.ref 8 0)),(161,(jN 2)),(168,(jN 1)),(169,(vb true))]) (b:=[(1,some (bx (kH p))),(2,some (bx (kH sh))),(3,some (bx (kH (jM.mk 0 0 0)))),(4,some y1),(5,some y2),(8,some (bx (jL (kG (sh.z+((((2:Nat):Int)*((q.b*q.d)-(q.a*q.c)))*p.x))))))])) ?_
 refine kx [(13,(jN 1))] [] (zM<|zM<|zZ) ?_
 have bn20:xI (kG (((2:Nat):Int)*((q.c*q.d)+(q.a*q.b)))) (((2:Nat):Int)*((q.c*q.d)+(q.a*q.b))) 3:=(qI (z:=(((2:Nat):Int)*((q.c*q.d)+(q.a*q.b)))) (by omega) (by omega))
 have bn21:xI (kG ((((2:Nat):Int)*((q.c*q.d)+(q.a*q.b)))*p.y)) ((((2:Nat):Int)*((q.c*q.d)+(q.a*q.b)))*p.y) 6:=(xS (k:=6) bn20 (qI (z:=p.y) (by omega) (by omega)))
 refine kd [] [(8,some (bx (jL (kG ((sh.z+((((2:Nat):Int)*((q.b*q.d)-(q.a*q.c)))*p.x))+((((2:Nat):Int)*((q.c*q.d)+(q.a*q.b)))*p.y))))))] mo (wR (qE jP)<|wM<|wM<|wE (aB ar114 2)<|wE (aB gP 1)<|wR (jZ kK)<|wE (kD (nI (((2:Nat):Int)*((q.c*q.d)+(q.a*q.b))) (by omega) (by omega)))<|wR (qE nZ)<|wM<|wE (kD (n_coo1 p))<|wE (kD (nI p.y (by omega) (by omega)))<|wE (kD (fD bn20 (qI (z:=p.y) (by omega) (by omega))))<|wE (kD (s_add bn19 bn21))<|wT (qO jP)<|wZ) ?_
 refine kx [(168,(jN 2))] [] (zE (uL 2 (hr:=by decide))<|zM<|zZ) ?_
 refine kS (kP.refl _) ?_
 refine jA<|kx [(169,(vb true))] [] (zE (gI true uT)<|zZ) ?_
 refine jA<|qZ ?_
 refine jD<|jA<|jH<|jA<|kx [(13,(jN 2))] [] (zM<|zM<|zZ) ?_
 have bn22:xI (kG ((((q.a*q.a)-(q.b*q.b))-(q.c*q.c))+(q.d*q.d))) ((((q.a*q.a)-(q.b*q.b))-(q.c*q.c))+(q.d*q.d)) 3:=(qI (z:=((((q.a*q.a)-(q.b*q.b))-(q.c*q.c))+(q.d*q.d))) (by omega) (by omega))
 have bn23:xI (kG (((((q.a*q.a)-(q.b*q.b))-(q.c*q.c))+(q.d*q.d))*p.z)) (((((q.a*q.a)-(q.b*q.b))-(q.c*q.c))+(q.d*q.d))*p.z) 6:=(xS (k:=6) bn22 (qI (z:=p.z) (by omega) (by omega)))
 have bn24:xI (kG (((sh.z+((((2:Nat):Int)*((q.b*q.d)-(q.a*q.c)))*p.x))+((((2:Nat):Int)*((q.c*q.d)+(q.a*q.b)))*p.y))+(((((q.a*q.a)-(q.b*q.b))-(q.c*q.c))+(q.d*q.d))*p.z))) (((sh.z+((((2:Nat):Int)*((q.b*q.d)-(q.a*q.c)))*p.x))+((((2:Nat):Int)*((q.c*q.d)+(q.a*q.b)))*p.y))+(((((q.a*q.a)-(q.b*q.b))-(q.c*q.c))+(q.d*q.d))*p.z)) 9:=(hM (k:=9) (hM (k:=8) bn19 bn21) bn23)
 refine kd [] [(8,some (bx (jL (kG (((sh.z+((((2:Nat):Int)*((q.b*q.d)-(q.a*q.c)))*p.x))+((((2:Nat):Int)*((q.c*q.d)+(q.a*q.b)))*p.y))+(((((q.a*q.a)-(q.b*q.b))-(q.c*q.c))+(q.d*q.d))*p.z))))))] mo (wR (qE jP)<|wM<|wM<|wE (aB ar114 2)<|wE (aB gP 2)<|wR (jZ kK)<|wE (kD (nI ((((q.a*q.a)-(q.b*q.b))-(q.c*q.c))+(q.d*q.d)) (by omega) (by omega)))<|wR (qE nZ)<|wM<|wE (kD (n_coo2 p))<|wE (kD (nI p.z (by omega) (by omega)))<|wE (kD (fD bn22 (qI (z:=p.z) (by omega) (by omega))))<|wE (kD (s_add (hM (k:=8) bn19 bn21) bn23))<|wT (qO jP)<|wZ) ?_
 refine kx [(168,(jN 3))] [] (zE (uL 3 (hr:=by decide))<|zM<|zZ) ?_
 refine kS (kP.refl _) ?_
 refine jA<|kx [(169,(vb false))] [] (zE (gI false uT)<|zZ) ?_
 refine jA<|uU ?_
 refine jS<|jA<|kx [(14,(vi (jO (((sh.z+((((2:Nat):Int)*((q.b*q.d)-(q.a*q.c)))*p.x))+((((2:Nat):Int)*((q.c*q.d)+(q.a*q.b)))*p.y))+(((((q.a*q.a)-(q.b*q.b))-(q.c*q.c))+(q.d*q.d))*p.z))))),(15,(vb (kO (((sh.z+((((2:Nat):Int)*((q.b*q.d)-(q.a*q.c)))*p.x))+((((2:Nat):Int)*((q.c*q.d)+(q.a*q.b)))*p.y))+(((((q.a*q.a)-(q.b*q.b))-(q.c*q.c))+(q.d*q.d))*p.z)))))] [] (zR (qE jP)<|zE (kD (aI (((sh.z+((((2:Nat):Int)*((q.b*q.d)-(q.a*q.c)))*p.x))+((((2:Nat):Int)*((q.c*q.d)+(q.a*q.b)))*p.y))+(((((q.a*q.a)-(q.b*q.b))-(q.c*q.c))+(q.d*q.d))*p.z)) (iu bn24)))<|zM<|zE vF<|zE vF<|zM<|zM<|zZ) ?_
 refine jA<|kx [] [(5,some (bx (encA113 (A3.mk (jO (((sh.x+(((((q.a*q.a)+(q.b*q.b))-(q.c*q.c))-(q.d*q.d))*p.x))+((((2:Nat):Int)*((q.b*q.c)-(q.a*q.d)))*p.y))+((((2:Nat):Int)*((q.b*q.d)+(q.a*q.c)))*p.z))) (jO (((sh.y+((((2:Nat):Int)*((q.b*q.c)+(q.a*q.d)))*p.x))+(((((q.a*q.a)-(q.b*q.b))+(q.c*q.c))-(q.d*q.d))*p.y))+((((2:Nat):Int)*((q.c*q.d)-(q.a*q.b)))*p.z))) (jO (((sh.z+((((2:Nat):Int)*((q.b*q.d)-(q.a*q.c)))*p.x))+((((2:Nat):Int)*((q.c*q.d)+(q.a*q.b)))*p.y))+(((((q.a*q.a)-(q.b*q.b))-(q.c*q.c))+(q.d*q.d))*p.z)))))))] (zM<|zM<|zE (aB gP 2)<|zT (qO kK)<|zZ) ?_
 refine kx [(10,(vb ((((((true&&(kO (((sh.x+(((((q.a*q.a)+(q.b*q.b))-(q.c*q.c))-(q.d*q.d))*p.x))+((((2:Nat):Int)*((q.b*q.c)-(q.a*q.d)))*p.y))+((((2:Nat):Int)*((q.b*q.d)+(q.a*q.c)))*p.z))))&&!([(jO (((sh.x+(((((q.a*q.a)+(q.b*q.b))-(q.c*q.c))-(q.d*q.d))*p.x))+((((2:Nat):Int)*((q.b*q.c)-(q.a*q.d)))*p.y))+((((2:Nat):Int)*((q.b*q.d)+(q.a*q.c)))*p.z)))].any (xA ((1048576:Nat):Int))))&&(kO (((sh.y+((((2:Nat):Int)*((q.b*q.c)+(q.a*q.d)))*p.x))+(((((q.a*q.a)-(q.b*q.b))+(q.c*q.c))-(q.d*q.d))*p.y))+((((2:Nat):Int)*((q.c*q.d)-(q.a*q.b)))*p.z))))&&!([(jO (((sh.y+((((2:Nat):Int)*((q.b*q.c)+(q.a*q.d)))*p.x))+(((((q.a*q.a)-(q.b*q.b))+(q.c*q.c))-(q.d*q.d))*p.y))+((((2:Nat):Int)*((q.c*q.d)-(q.a*q.b)))*p.z)))].any (xA ((1048576:Nat):Int))))&&(kO (((sh.z+((((2:Nat):Int)*((q.b*q.d)-(q.a*q.c)))*p.x))+((((2:Nat):Int)*((q.c*q.d)+(q.a*q.b)))*p.y))+(((((q.a*q.a)-(q.b*q.b))-(q.c*q.c))+(q.d*q.d))*p.z))))&&!([(jO (((sh.z+((((2:Nat):Int)*((q.b*q.d)-(q.a*q.c)))*p.x))+((((2:Nat):Int)*((q.c*q.d)+(q.a*q.b)))*p.y))+(((((q.a*q.a)-(q.b*q.b))-(q.c*q.c))+(q.d*q.d))*p.z)))].any (xA ((1048576:Nat):Int))))))] [] ?_ ?_
 ·refine zM<|zE (oV (vb ((((true&&(kO (((sh.x+(((((q.a*q.a)+(q.b*q.b))-(q.c*q.c))-(q.d*q.d))*p.x))+((((2:Nat):Int)*((q.b*q.c)-(q.a*q.d)))*p.y))+((((2:Nat):Int)*((q.b*q.d)+(q.a*q.c)))*p.z))))&&!([(jO (((sh.x+(((((q.a*q.a)+(q.b*q.b))-(q.c*q.c))-(q.d*q.d))*p.x))+((((2:Nat):Int)*((q.b*q.c)-(q.a*q.d)))*p.y))+((((2:Nat):Int)*((q.b*q.d)+(q.a*q.c)))*p.z)))].any (xA ((1048576:Nat):Int))))&&(kO (((sh.y+((((2:Nat):Int)*((q.b*q.c)+(q.a*q.d)))*p.x))+(((((q.a*q.a)-(q.b*q.b))+(q.c*q.c))-(q.d*q.d))*p.y))+((((2:Nat):Int)*((q.c*q.d)-(q.a*q.b)))*p.z))))&&!([(jO (((sh.y+((((2:Nat):Int)*((q.b*q.c)+(q.a*q.d)))*p.x))+(((((q.a*q.a)-(q.b*q.b))+(q.c*q.c))-(q.d*q.d))*p.y))+((((2:Nat):Int)*((q.c*q.d)-(q.a*q.b)))*p.z)))].any (xA ((1048576:Nat):Int))))) (kA (by kernel_rfl)))<|?_
  rcases hb4:((((true&&(kO (((sh.x+(((((q.a*q.a)+(q.b*q.b))-(q.c*q.c))-(q.d*q.d))*p.x))+((((2:Nat):Int)*((q.b*q.c)-(q.a*q.d)))*p.y))+((((2:Nat):Int)*((q.b*q.d)+(q.a*q.c)))*p.z))))&&!([(jO (((sh.x+(((((q.a*q.a)+(q.b*q.b))-(q.c*q.c))-(q.d*q.d))*p.x))+((((2:Nat):Int)*((q.b*q.c)-(q.a*q.d)))*p.y))+((((2:Nat):Int)*((q.b*q.d)+(q.a*q.c)))*p.z)))].any (xA ((1048576:Nat):Int))))&&(kO (((sh.y+((((2:Nat):Int)*((q.b*q.c)+(q.a*q.d)))*p.x))+(((((q.a*q.a)-(q.b*q.b))+(q.c*q.c))-(q.d*q.d))*p.y))+((((2:Nat):Int)*((q.c*q.d)-(q.a*q.b)))*p.z))))&&!([(jO (((sh.y+((((2:Nat):Int)*((q.b*q.c)+(q.a*q.d)))*p.x))+(((((q.a*q.a)-(q.b*q.b))+(q.c*q.c))-(q.d*q.d))*p.y))+((((2:Nat):Int)*((q.c*q.d)-(q.a*q.b)))*p.z)))].any (xA ((1048576:Nat):Int)))) with _ | _
  ·exact zK<|zE mJ<|zM<|zK<|zK<|zK<|zK<|zE mJ<|zM<|zZ
  ·refine zM<|zE aC<|zE (oV (vb (true&&(kO (((sh.z+((((2:Nat):Int)*((q.b*q.d)-(q.a*q.c)))*p.x))+((((2:Nat):Int)*((q.c*q.d)+(q.a*q.b)))*p.y))+(((((q.a*q.a)-(q.b*q.b))-(q.c*q.c))+(q.d*q.d))*p.z))))) (kA (by kernel_rfl)))<|?_
   rcases hb5:(true&&(kO (((sh.z+((((2:Nat):Int)*((q.b*q.d)-(q.a*q.c)))*p.x))+((((2:Nat):Int)*((q.c*q.d)+(q.a*q.b)))*p.y))+(((((q.a*q.a)-(q.b*q.b))-(q.c*q.c))+(q.d*q.d))*p.z)))) with _ | _
   ·exact zK<|zK<|zK<|zK<|zE mJ<|zM<|zZ
   ·exact zM<|zE (eG xN ze3 zo3)<|zE (kD (n_far ((1048576:Nat):Int) (by omega) (by omega) [(jO (((sh.z+((((2:Nat):Int)*((q.b*q.d)-(q.a*q.c)))*p.x))+((((2:Nat):Int)*((q.c*q.d)+(q.a*q.b)))*p.y))+(((((q.a*q.a)-(q.b*q.b))-(q.c*q.c))+(q.d*q.d))*p.z)))] (by first | assumption | exact sL_len _ | exact pL_len _ | (simp only[List.length_cons,List.length_nil];omega))))<|zE eU<|zE aC<|zM<|zZ
 refine kx [(161,(jN 3))] [] (zE (uL 3 (hr:=by decide))<|zM<|zZ) ?_
 refine kS (kP.refl _) ?_
 refine jA<|kx [(162,(vb false))] [] (zE (gI false uT)<|zZ) ?_
 refine jA<|uU ?_
 refine jS<|jA<|kx [(7,(vb ((((((true&&(kO (((sh.x+(((((q.a*q.a)+(q.b*q.b))-(q.c*q.c))-(q.d*q.d))*p.x))+((((2:Nat):Int)*((q.b*q.c)-(q.a*q.d)))*p.y))+((((2:Nat):Int)*((q.b*q.d)+(q.a*q.c)))*p.z))))&&!([(jO (((sh.x+(((((q.a*q.a)+(q.b*q.b))-(q.c*q.c))-(q.d*q.d))*p.x))+((((2:Nat):Int)*((q.b*q.c)-(q.a*q.d)))*p.y))+((((2:Nat):Int)*((q.b*q.d)+(q.a*q.c)))*p.z)))].any (xA ((1048576:Nat):Int))))&&(kO (((sh.y+((((2:Nat):Int)*((q.b*q.c)+(q.a*q.d)))*p.x))+(((((q.a*q.a)-(q.b*q.b))+(q.c*q.c))-(q.d*q.d))*p.y))+((((2:Nat):Int)*((q.c*q.d)-(q.a*q.b)))*p.z))))&&!([(jO (((sh.y+((((2:Nat):Int)*((q.b*q.c)+(q.a*q.d)))*p.x))+(((((q.a*q.a)-(q.b*q.b))+(q.c*q.c))-(q.d*q.d))*p.y))+((((2:Nat):Int)*((q.c*q.d)-(q.a*q.b)))*p.z)))].any (xA ((1048576:Nat):Int))))&&(kO (((sh.z+((((2:Nat):Int)*((q.b*q.d)-(q.a*q.c)))*p.x))+((((2:Nat):Int)*((q.c*q.d)+(q.a*q.b)))*p.y))+(((((q.a*q.a)-(q.b*q.b))-(q.c*q.c))+(q.d*q.d))*p.z))))&&!([(jO (((sh.z+((((2:Nat):Int)*((q.b*q.d)-(q.a*q.c)))*p.x))+((((2:Nat):Int)*((q.c*q.d)+(q.a*q.b)))*p.y))+(((((q.a*q.a)-(q.b*q.b))-(q.c*q.c))+(q.d*q.d))*p.z)))].any (xA ((1048576:Nat):Int))))))] [(3,some (bx (kH (jM.mk (jO (((sh.x+(((((q.a*q.a)+(q.b*q.b))-(q.c*q.c))-(q.d*q.d))*p.x))+((((2:Nat):Int)*((q.b*q.c)-(q.a*q.d)))*p.y))+((((2:Nat):Int)*((q.b*q.d)+(q.a*q.c)))*p.z))) (jO (((sh.y+((((2:Nat):Int)*((q.b*q.c)+(q.a*q.d)))*p.x))+(((((q.a*q.a)-(q.b*q.b))+(q.c*q.c))-(q.d*q.d))*p.y))+((((2:Nat):Int)*((q.c*q.d)-(q.a*q.b)))*p.z))) (jO (((sh.z+((((2:Nat):Int)*((q.b*q.d)-(q.a*q.c)))*p.x))+((((2:Nat):Int)*((q.c*q.d)+(q.a*q.b)))*p.y))+(((((q.a*q.a)-(q.b*q.b))-(q.c*q.c))+(q.d*q.d))*p.z)))))))] (zE (aB gP 0)<|zR (jZ kK)<|zE (aB gP 1)<|zR (jZ kK)<|zE (aB gP 2)<|zR (jZ kK)<|zE (oBd pl30 ze30 zo30)<|zM<|zT (qO nZ)<|zM<|zZ) ?_
 refine jG ⟨_,(qK (cs:=(bx (kH (jM.mk (jO (((sh.x+(((((q.a*q.a)+(q.b*q.b))-(q.c*q.c))-(q.d*q.d))*p.x))+((((2:Nat):Int)*((q.b*q.c)-(q.a*q.d)))*p.y))+((((2:Nat):Int)*((q.b*q.d)+(q.a*q.c)))*p.z))) (jO (((sh.y+((((2:Nat):Int)*((q.b*q.c)+(q.a*q.d)))*p.x))+(((((q.a*q.a)-(q.b*q.b))+(q.c*q.c))-(q.d*q.d))*p.y))+((((2:Nat):Int)*((q.c*q.d)-(q.a*q.b)))*p.z))) (jO (((sh.z+((((2:Nat):Int)*((q.b*q.d)-(q.a*q.c)))*p.x))+((((2:Nat):Int)*((q.c*q.d)+(q.a*q.b)))*p.y))+(((((q.a*q.a)-(q.b*q.b))-(q.c*q.c))+(q.d*q.d))*p.z))))))) (d:=(kH (jM.mk (jO (((sh.x+(((((q.a*q.a)+(q.b*q.b))-(q.c*q.c))-(q.d*q.d))*p.x))+((((2:Nat):Int)*((q.b*q.c)-(q.a*q.d)))*p.y))+((((2:Nat):Int)*((q.b*q.d)+(q.a*q.c)))*p.z))) (jO (((sh.y+((((2:Nat):Int)*((q.b*q.c)+(q.a*q.d)))*p.x))+(((((q.a*q.a)-(q.b*q.b))+(q.c*q.c))-(q.d*q.d))*p.y))+((((2:Nat):Int)*((q.c*q.d)-(q.a*q.b)))*p.z))) (jO (((sh.z+((((2:Nat):Int)*((q.b*q.d)-(q.a*q.c)))*p.x))+((((2:Nat):Int)*((q.c*q.d)+(q.a*q.b)))*p.y))+(((((q.a*q.a)-(q.b*q.b))-(q.c*q.c))+(q.d*q.d))*p.z)))))) rfl rfl nZ rfl rfl (.tmp (d:=(.val (.bool (((((((true&&(kO (((sh.x+(((((q.a*q.a)+(q.b*q.b))-(q.c*q.c))-(q.d*q.d))*p.x))+((((2:Nat):Int)*((q.b*q.c)-(q.a*q.d)))*p.y))+((((2:Nat):Int)*((q.b*q.d)+(q.a*q.c)))*p.z))))&&!([(jO (((sh.x+(((((q.a*q.a)+(q.b*q.b))-(q.c*q.c))-(q.d*q.d))*p.x))+((((2:Nat):Int)*((q.b*q.c)-(q.a*q.d)))*p.y))+((((2:Nat):Int)*((q.b*q.d)+(q.a*q.c)))*p.z)))].any (xA ((1048576:Nat):Int))))&&(kO (((sh.y+((((2:Nat):Int)*((q.b*q.c)+(q.a*q.d)))*p.x))+(((((q.a*q.a)-(q.b*q.b))+(q.c*q.c))-(q.d*q.d))*p.y))+((((2:Nat):Int)*((q.c*q.d)-(q.a*q.b)))*p.z))))&&!([(jO (((sh.y+((((2:Nat):Int)*((q.b*q.c)+(q.a*q.d)))*p.x))+(((((q.a*q.a)-(q.b*q.b))+(q.c*q.c))-(q.d*q.d))*p.y))+((((2:Nat):Int)*((q.c*q.d)-(q.a*q.b)))*p.z)))].any (xA ((1048576:Nat):Int))))&&(kO (((sh.z+((((2:Nat):Int)*((q.b*q.d)-(q.a*q.c)))*p.x))+((((2:Nat):Int)*((q.c*q.d)+(q.a*q.b)))*p.y))+(((((q.a*q.a)-(q.b*q.b))-(q.c*q.c))+(q.d*q.d))*p.z))))&&!([(jO (((sh.z+((((2:Nat):Int)*((q.b*q.d)-(q.a*q.c)))*p.x))+((((2:Nat):Int)*((q.c*q.d)+(q.a*q.b)))*p.y))+(((((q.a*q.a)-(q.b*q.b))-(q.c*q.c))+(q.d*q.d))*p.z)))].any (xA ((1048576:Nat):Int)))))))) rfl .nil)),?_⟩
 rfl
theorem n_clone(l:List kL)(hb:l.length<=1000000):jU Tryz.prog 30 [(.sl 68 7 (List.map qN l))] (.sl 68 7 (List.map qN l)):=by
 refine vD Tryz.func30 ?_
 refine jA<|kx [] [] (zE (fH 68 7)<|zZ) ?_
 refine jA<|jA<|pwp_nilq rfl rfl rfl rfl rfl rfl el24 rfl rfl rfl (fun nb hnb=>?_)
 refine jF (b:=nb) rfl (fun h1=>?_) (fun h1=>?_)
 ·refine jA<|kx [(2,(vl 68 7 qN []))] [] (zE (fH 68 7)<|zZ) ?_
  refine jG ⟨_,(.tmp (d:=(.sl 68 7 (List.map qN []))) rfl .nil),?_⟩
  rw[List.map_eq_nil_iff.1 (hnb h1)];rfl
 ·refine jD<|jA<|kf [(2,(.own 0 68 7 (([]++l).length)))] [(0,some (xQ qN ([]++l)))] (zN (oBo 0 el24 ze68 zo68)<|zM<|zAS qN [] l rfl el24 ze68 by68<|zM<|zF) ?_
  refine kU (xR (t:=2) (k:=0) (es:=List.map qN ([]++l)) rfl rfl (nN _ _ (fun _=>rfl)) (vN _ _ rfl) (mN qN ([]++l) (fun _=>rfl) rfl)) ?_
  refine jG ⟨_,(.tmp (d:=(.sl 68 7 (List.map qN ([]++l)))) rfl .nil),?_⟩
  rfl
theorem n_nk(o:kL):jU Tryz.prog 29 [(qN o)] (.val (.bool ((nkB o)))):=by
 refine vD Tryz.func29 ?_
 refine jA<|kx [(1,(.ref 0 0))] [(0,some (bx (qN o)))] (zN (yB 0)<|zM<|zZ) ?_
 refine jA<|kx [(2,(vb (o.kind != 0)))] [] (zE (jY zD)<|zR (jZ eK)<|zE xX<|zM<|zZ) ?_
 refine jG ⟨_,(.tmp (d:=(.val (.bool ((o.kind != 0))))) rfl .nil),?_⟩
 rfl
theorem n_ixO(l:List kL)(hb:l.length<=1000000):jU Tryz.prog 60 [(.sl 68 7 (List.map qN l)),(.val (.func (.func 29) #[] #[]))] (.val (.int .i64 ((fIx nkB l 0)))):=by
 refine vD Tryz.func60 ?_
 refine jA<|kx [] [] (zM<|zZ) ?_
 refine jA<|jA<|kx [(7,(jN l.length)),(8,(jN 0))] [] (zM<|zE (vV el24)<|zM<|zZ) ?_
 refine jH<|kF (α:=Nat) (fun k=>⟨[(0,(vl 68 7 qN l)),(1,(.d (.val (.func (.func 29) #[] #[])))),(7,(jN l.length)),(8,(jN k))],[]⟩) (fun k=>k<=l.length/\fIx nkB l 0=fIx nkB (l.drop k) k) (fun k=>l.length-k) 0 wk ⟨Nat.zero_le _,rfl⟩ ?_
 rintro k ⟨hk,hv⟩
 refine jA<|kx [(9,(vb (decide (((k:Nat):Int)<((l.length:Nat):Int)))))] [] (zE uT<|zZ) ?_
 refine jA<|jF rfl (fun h1=>?_) (fun h1=>?_)
 ·replace h1:=uY h1
  refine jD<|jA<|jH<|jA<|kx [(5,(jN k))] [] (zM<|zM<|zZ) ?_
  refine jA<|kx [(16,(vb (nkB (l.getD k (kL.mk 0 0 0 0 (A2.mk 0 0) 0)))))] [] (zM<|zM<|zM<|zE (nA el24 k (kL.mk 0 0 0 0 (A2.mk 0 0) 0))<|zE (oCa sh68)<|zE (kD (n_nk (l.getD k (kL.mk 0 0 0 0 (A2.mk 0 0) 0))))<|zZ) ?_
  refine jF rfl (fun h2=>?_) (fun h2=>?_)
  ·have hix:=fIx_at nO0 nkB l k (by omega) h2
   refine jA<|kx [(4,(jN k))] [] (zM<|zM<|zZ) ?_
   refine jG ⟨_,(.tmp (d:=(.val (.int .i64 (((k:Nat):Int))))) rfl .nil),?_⟩
   rw[hv,hix];rfl
  ·have hix:=fIx_step nO0 nkB l k (by omega) h2
   refine jD<|kx [(8,(jN (k+1)))] [] (zE (uL (k+1))<|zM<|zZ) ?_
   exact ⟨(k+1),wk,⟨by omega,hv.trans hix⟩,(by omega)⟩
 ·replace h1:=uZ h1
  have hix:=fIx_end nkB l k (by omega)
  refine jS<|jA<|kx [(4,(vi (-1)))] [] (zM<|zZ) ?_
  refine jG ⟨_,(.tmp (d:=(.val (.int .i64 (-1)))) rfl .nil),?_⟩
  rw[hv,hix];rfl
theorem n_anyO(l:List kL)(hb:l.length<=1000000):jU Tryz.prog 28 [(.sl 68 7 (List.map qN l)),(.val (.func (.func 29) #[] #[]))] (.val (.bool ((l.any nkB)))):=by
 refine vD Tryz.func28 ?_
 refine jA<|kx [] [] (zM<|zZ) ?_
 refine jA<|kx [(4,(vb (decide (0<=(fIx nkB l 0)))))] [] (zM<|zM<|zE (kD (n_ixO l hb))<|zE oGe<|zM<|zZ) ?_
 refine jG ⟨_,(.tmp (d:=(.val (.bool (decide (0<=(fIx nkB l 0)))))) rfl .nil),?_⟩
 rw[fIx_any];rfl
end Go.Proofs.YtciingpdmjepgaaGreat
