/- Part 27 of a proof: rules, plain facts, and functions walked. -/
import Derived.Test.YtciingpdmjepgabGreatDoorM26
import Derived.Test.YtciingpdmjepgabGreatDoorM25
set_option linter.all false
set_option maxRecDepth 4000
namespace Go.Proofs.YtciingpdmjepgabGreatDoor
open Go.Fid
theorem cb37:callB Tryz.prog 37=true:=by kernel_rfl
theorem yF:uL Tryz.prog 35 0=some 0:=by kernel_rfl
theorem mS:uL Tryz.prog 35 2=some 2:=by kernel_rfl
theorem fS:qD Tryz.prog 33=some (false,1):=by kernel_rfl
theorem j3_at{L:List J3}{N a:Nat}(h:∀ x∈L,nO N x)(ha:a<L.length):nO N (L.getD a uF):=by
 rw[List.getD_eq_getElem?_getD,List.getElem?_eq_getElem ha];exact h _ (List.getElem_mem _)
theorem e_sC(p:Rat)(hp:QL p 12000)(b:R2)(hb:GL 12000 b)(P:Int)(L:List J3)(hP:P=-1\/P=20)(hL:L.length<=1000):gV Tryz.prog 37 [(.ref 0 0),(.d (qE (kI.mk 0 0 0 (jP p)))),(vl 44 8 jJ [(kF b)])] [(0,some [(jS 1),(jS 2),(vi P),(.own 1 48 10 ((List.map jL L).length)),(vb false)]),(1,some (qP jD (List.map jL L)))] (.d (.tup [])) [(0,some [(jS 1),(jS 2),(vi P),(.own 18 48 10 ((List.map jL (L++[(J3.mk (kG P (xV p)) (kG P (gw 0)) (kG P (gw 0)))])).length)),(vb false)]),(18,some (qP jD (List.map jL (L++[(J3.mk (kG P (xV p)) (kG P (gw 0)) (kG P (gw 0)))]))))]:=by
 refine gP Tryz.func37 rfl cb37 rfl ?_
 refine jB<|kx [(3,(.ref 2 0)),(4,(.ref 3 0)),(5,(.ref 4 0))] [(2,some [(.ref 0 0)]),(3,some (bx (qE (kI.mk 0 0 0 (jP p))))),(4,some (bx (.sl 44 8 (List.map jJ [(kF b)]))))] (zH (oBy 2)<|zH (xA 3)<|zH (xA 4)<|zZ) ?_
 refine jB<|pwp_fix 2 (k:=0) (o:=0) (h:=fun b0=>?_)
 refine kM (wk (l:=[(0,(.ref 0 0)),(3,(.ref 2 0)),(4,(.ref 3 0)),(5,(.ref 4 0))]) (b:=[(0,some [(jS 1),(jS 2),(vi P),(.own 1 48 10 ((List.map jL L).length)),(vb false)]),(1,some (qP jD (List.map jL L))),(2,some [(.refx 0 0 b0)]),(3,some (bx (qE (kI.mk 0 0 0 (jP p))))),(4,some (bx (.sl 44 8 (List.map jJ [(kF b)]))))])) ?_
 refine kx [(6,(.ref 5 0))] [(5,some (bx (jJ (kF (gw 0)))))] (zE (kH (j_whole ((0:Nat):Int) (by omega) (by omega)))<|zH (uT 5 vI xB)<|zT (qK qI)<|zZ) ?_
 refine jB<|kx [(7,(.clo 66 [5]))] [] (zE (oMf [5])<|zM<|zZ) ?_
 refine jB<|kx [(8,(.ref 6 0)),(9,(.ref 7 0))] [(6,some (bx (jD (xI.mk (qB.mk qY qY) [] [])))),(7,some (bx (jD (xI.mk (qB.mk qY qY) [] []))))] (zH (uT 6 mU fK)<|zH (uT 7 mU fK)<|zZ) ?_
 refine jB<|kx [(10,(jS 0))] [] (zE (kW yF)<|zR (qR fS)<|zE (oQd (.val (.int .i64 ((xE 0)))) (.val (.int .i64 (((0:Nat):Int)))) (kH (j_kids 0)) (by exact rfl))<|zM<|zZ) ?_
 refine jB<|jB<|kx [(19,(vb false))] [] (zM<|zE (xC false mB)<|zZ) ?_
 refine qH ?_
 refine jF<|jB<|jB<|kx [(29,(vb false))] [] (zM<|zE (xC false mB)<|zZ) ?_
 refine qH ?_
 refine jF<|jB<|kx [(11,(.clo 68 [2,6,7]))] [] (zE (oMf [2,6,7])<|zM<|zZ) ?_
 refine jB<|kx [(40,(vi 0))] [] (zE (kW yF)<|zR (qR fS)<|zZ) ?_
 refine jG<|jB<|kx [(46,(vb true))] [] (zE (xC true nT)<|zM<|zZ) ?_
 refine uG ?_
 refine kf [] [(0,some [(jS 1),(jS 2),(vi P),(.own 18 48 10 ((List.map jL (L++[(J3.mk (kG P (xV p)) (kG P (gw 0)) (kG P (gw 0)))])).length)),(vb false)]),(18,some (qP jD (List.map jL (L++[(J3.mk (kG P (xV p)) (kG P (gw 0)) (kG P (gw 0)))])))),(1,none),(10,none),(11,none),(12,none),(13,none),(14,none),(3,none),(5,none),(8,none),(9,none)] (zR (oLx sh68)<|zE (oMf [3])<|zE (oMf [5])<|zM<|zSe (B2:=[(0,some [(jS 1),(jS 2),(vi P),(.own 1 48 10 ((List.map jL L).length)),(vb false)]),(1,some (qP jD (List.map jL L))),(3,some (bx (qE (kI.mk 0 0 0 (jP p))))),(5,some (bx (jJ (kF (gw 0)))))]) (B2':=[(0,some [(jS 1),(jS 2),(vi P),(.own 18 48 10 ((List.map jL (L++[(J3.mk (kG P (xV p)) (kG P (gw 0)) (kG P (gw 0)))])).length)),(vb false)]),(18,some (qP jD (List.map jL (L++[(J3.mk (kG P (xV p)) (kG P (gw 0)) (kG P (gw 0)))]))))]) [0,1,3,5,8,9,10,11,12,13,14,18] [0,3,5] (e_nC P L p hp (gw 0) (gl_w (z:=0) (by omega) (by omega)) hP hL)<|zF) ?_
 refine ⟨mD (by kernel_rfl),dE (by kernel_rfl),.inl ⟨_,.nil,?_⟩⟩
 rfl
theorem e_sV(b:R2)(hb:GL 12000 b)(P:Int)(L:List J3)(hP:P=-1\/P=20)(hL:L.length<=1000):gV Tryz.prog 37 [(.ref 0 0),(.d (qE (kI.mk 1 ((0:Nat):Int) 0 qY))),(vl 44 8 jJ [(kF b)])] [(0,some [(jS 1),(jS 2),(vi P),(.own 1 48 10 ((List.map jL L).length)),(vb false)]),(1,some (qP jD (List.map jL L)))] (.d (.tup [])) [(0,some [(jS 1),(jS 2),(vi P),(.own 18 48 10 ((List.map jL (L++[(J3.mk (kG P b) (kG P (gw 1)) (kG P (gw 0)))])).length)),(vb false)]),(18,some (qP jD (List.map jL (L++[(J3.mk (kG P b) (kG P (gw 1)) (kG P (gw 0)))]))))]:=by
 refine gP Tryz.func37 rfl cb37 rfl ?_
 refine jB<|kx [(3,(.ref 2 0)),(4,(.ref 3 0)),(5,(.ref 4 0))] [(2,some [(.ref 0 0)]),(3,some (bx (qE (kI.mk 1 ((0:Nat):Int) 0 qY)))),(4,some (bx (.sl 44 8 (List.map jJ [(kF b)]))))] (zH (oBy 2)<|zH (xA 3)<|zH (xA 4)<|zZ) ?_
 refine jB<|pwp_fix 2 (k:=0) (o:=0) (h:=fun b0=>?_)
 refine kM (wk (l:=[(0,(.ref 0 0)),(3,(.ref 2 0)),(4,(.ref 3 0)),(5,(.ref 4 0))]) (b:=[(0,some [(jS 1),(jS 2),(vi P),(.own 1 48 10 ((List.map jL L).length)),(vb false)]),(1,some (qP jD (List.map jL L))),(2,some [(.refx 0 0 b0)]),(3,some (bx (qE (kI.mk 1 ((0:Nat):Int) 0 qY)))),(4,some (bx (.sl 44 8 (List.map jJ [(kF b)]))))])) ?_
 refine kx [(6,(.ref 5 0))] [(5,some (bx (jJ (kF (gw 0)))))] (zE (kH (j_whole ((0:Nat):Int) (by omega) (by omega)))<|zH (uT 5 vI xB)<|zT (qK qI)<|zZ) ?_
 refine jB<|kx [(7,(.clo 66 [5]))] [] (zE (oMf [5])<|zM<|zZ) ?_
 refine jB<|kx [(8,(.ref 6 0)),(9,(.ref 7 0))] [(6,some (bx (jD (xI.mk (qB.mk qY qY) [] [])))),(7,some (bx (jD (xI.mk (qB.mk qY qY) [] []))))] (zH (uT 6 mU fK)<|zH (uT 7 mU fK)<|zZ) ?_
 refine jB<|kx [(10,(jS 0))] [] (zE (kW yF)<|zR (qR fS)<|zE (oQd (.val (.int .i64 ((xE 1)))) (.val (.int .i64 (((0:Nat):Int)))) (kH (j_kids 1)) (by exact rfl))<|zM<|zZ) ?_
 refine jB<|jB<|kx [(19,(vb false))] [] (zM<|zE (xC false mB)<|zZ) ?_
 refine qH ?_
 refine jF<|jB<|jB<|kx [(29,(vb false))] [] (zM<|zE (xC false mB)<|zZ) ?_
 refine qH ?_
 refine jF<|jB<|kx [(11,(.clo 68 [2,6,7]))] [] (zE (oMf [2,6,7])<|zM<|zZ) ?_
 refine jB<|kx [(40,(vi 1))] [] (zE (kW yF)<|zR (qR fS)<|zZ) ?_
 refine jG<|jB<|kx [(46,(vb false))] [] (zE (xC false nT)<|zM<|zZ) ?_
 refine qH ?_
 refine jB<|kx [(53,(vb true))] [] (zE (xC true nT)<|zM<|zZ) ?_
 refine uG ?_
 refine kf [] [(0,some [(jS 1),(jS 2),(vi P),(.own 18 48 10 ((List.map jL (L++[(J3.mk (kG P b) (kG P (gw 1)) (kG P (gw 0)))])).length)),(vb false)]),(18,some (qP jD (List.map jL (L++[(J3.mk (kG P b) (kG P (gw 1)) (kG P (gw 0)))])))),(1,none),(10,none),(11,none),(12,none),(13,none),(3,none),(4,none),(5,none),(8,none),(9,none)] (zR (oLx sh68)<|zE (oMf [4,3])<|zE (oMf [3,5])<|zM<|zSe (B2:=[(0,some [(jS 1),(jS 2),(vi P),(.own 1 48 10 ((List.map jL L).length)),(vb false)]),(1,some (qP jD (List.map jL L))),(4,some (bx (.sl 44 8 (List.map jJ [(kF b)])))),(3,some (bx (qE (kI.mk 1 ((0:Nat):Int) 0 qY)))),(5,some (bx (jJ (kF (gw 0)))))]) (B2':=[(0,some [(jS 1),(jS 2),(vi P),(.own 18 48 10 ((List.map jL (L++[(J3.mk (kG P b) (kG P (gw 1)) (kG P (gw 0)))])).length)),(vb false)]),(18,some (qP jD (List.map jL (L++[(J3.mk (kG P b) (kG P (gw 1)) (kG P (gw 0)))]))))]) [0,1,4,3,5,8,9,10,11,12,13,18] [0,4,3,5] (e_nV P L b hb (gw 0) (gl_w (z:=0) (by omega) (by omega)) hP hL)<|zF) ?_
 refine ⟨mD (by kernel_rfl),dE (by kernel_rfl),.inl ⟨_,.nil,?_⟩⟩
 rfl
theorem e_sA(a:Nat)(c:Nat)(b:R2)(hb:GL 12000 b)(P:Int)(L:List J3)(hP:P=-1\/P=20)(hL:L.length<=1000)(hLk:∀ x∈L,nO 12000 x)(ha:a<L.length)(hc:c<L.length):gV Tryz.prog 37 [(.ref 0 0),(.d (qE (kI.mk 2 ((a:Nat):Int) ((c:Nat):Int) qY))),(vl 44 8 jJ [(kF b)])] [(0,some [(jS 1),(jS 2),(vi P),(.own 1 48 10 ((List.map jL L).length)),(vb false)]),(1,some (qP jD (List.map jL L)))] (.d (.tup [])) [(0,some [(jS 1),(jS 2),(vi P),(.own 18 48 10 ((List.map jL (L++[(J3.mk (kG P (jO ((L.getD a uF).v) ((L.getD c uF).v))) (kG P (jO ((L.getD a uF).g) ((L.getD c uF).g))) (kG P (jO ((L.getD a uF).h) ((L.getD c uF).h))))])).length)),(vb false)]),(18,some (qP jD (List.map jL (L++[(J3.mk (kG P (jO ((L.getD a uF).v) ((L.getD c uF).v))) (kG P (jO ((L.getD a uF).g) ((L.getD c uF).g))) (kG P (jO ((L.getD a uF).h) ((L.getD c uF).h))))]))))]:=by
 have hu:nO 12000 (L.getD a uF):=j3_at hLk ha
 have hv:nO 12000 (L.getD c uF):=j3_at hLk hc
 refine gP Tryz.func37 rfl cb37 rfl ?_
 refine jB<|kx [(3,(.ref 2 0)),(4,(.ref 3 0)),(5,(.ref 4 0))] [(2,some [(.ref 0 0)]),(3,some (bx (qE (kI.mk 2 ((a:Nat):Int) ((c:Nat):Int) qY)))),(4,some (bx (.sl 44 8 (List.map jJ [(kF b)]))))] (zH (oBy 2)<|zH (xA 3)<|zH (xA 4)<|zZ) ?_
 refine jB<|pwp_fix 2 (k:=0) (o:=0) (h:=fun b0=>?_)
 refine kM (wk (l:=[(0,(.ref 0 0)),(3,(.ref 2 0)),(4,(.ref 3 0)),(5,(.ref 4 0))]) (b:=[(0,some [(jS 1),(jS 2),(vi P),(.own 1 48 10 ((List.map jL L).length)),(vb false)]),(1,some (qP jD (List.map jL L))),(2,some [(.refx 0 0 b0)]),(3,some (bx (qE (kI.mk 2 ((a:Nat):Int) ((c:Nat):Int) qY)))),(4,some (bx (.sl 44 8 (List.map jJ [(kF b)]))))])) ?_
 refine kx [(6,(.ref 5 0))] [(5,some (bx (jJ (kF (gw 0)))))] (zE (kH (j_whole ((0:Nat):Int) (by omega) (by omega)))<|zH (uT 5 vI xB)<|zT (qK qI)<|zZ) ?_
 refine jB<|kx [(7,(.clo 66 [5]))] [] (zE (oMf [5])<|zM<|zZ) ?_
 refine jB<|kx [(8,(.ref 6 0)),(9,(.ref 7 0))] [(6,some (bx (jD (xI.mk (qB.mk qY qY) [] [])))),(7,some (bx (jD (xI.mk (qB.mk qY qY) [] []))))] (zH (uT 6 mU fK)<|zH (uT 7 mU fK)<|zZ) ?_
 refine jB<|kx [(10,(jS 2))] [] (zE (kW yF)<|zR (qR fS)<|zE (oQd (.val (.int .i64 ((xE 2)))) (.val (.int .i64 (((2:Nat):Int)))) (kH (j_kids 2)) (by exact rfl))<|zM<|zZ) ?_
 refine jB<|jB<|kx [(19,(vb true))] [] (zM<|zE (xC true mB)<|zZ) ?_
 refine uG ?_
 refine kd [] [(6,some (bx (jD (jL (L.getD a uF)))))] mo (wR (oLx sh68)<|wE oNc<|wE (kW nN)<|wR (qR sh69)<|wE (kW xP)<|wR (qR gN)<|wE (oXO el69 a (hj:=by first | omega | rfl | (simp only[List.length_map];omega) | (dsimp only;omega)) (h1:=by first | omega | rfl | (simp only[List.length_map];omega) | (dsimp only;omega)))<|wR (oQr (jD ((List.map jL L).getD a (xI.mk (qB.mk qY qY) [] []))) (jD (jL (L.getD a uF))) (oLA dK a (xI.mk (qB.mk qY qY) [] []) (h1:=by first | omega | rfl | (simp only[List.length_map];omega) | (dsimp only;omega))) (by exact (congrArg jD (dW jL L uF _ (by omega)))))<|wT (qK dK)<|wZ) ?_
 refine jB<|jB<|kx [(29,(vb true))] [] (zM<|zE (xC true mB)<|zZ) ?_
 refine uG ?_
 refine kd [] [(7,some (bx (jD (jL (L.getD c uF)))))] mo (wR (oLx sh68)<|wE oNc<|wE (kW nN)<|wR (qR sh69)<|wE (kW mS)<|wR (qR gN)<|wE (oXO el69 c (hj:=by first | omega | rfl | (simp only[List.length_map];omega) | (dsimp only;omega)) (h1:=by first | omega | rfl | (simp only[List.length_map];omega) | (dsimp only;omega)))<|wR (oQr (jD ((List.map jL L).getD c (xI.mk (qB.mk qY qY) [] []))) (jD (jL (L.getD c uF))) (oLA dK c (xI.mk (qB.mk qY qY) [] []) (h1:=by first | omega | rfl | (simp only[List.length_map];omega) | (dsimp only;omega))) (by exact (congrArg jD (dW jL L uF _ (by omega)))))<|wT (qK dK)<|wZ) ?_
 refine jB<|kx [(11,(.clo 68 [2,6,7]))] [] (zE (oMf [2,6,7])<|zM<|zZ) ?_
 refine jB<|kx [(40,(vi 2))] [] (zE (kW yF)<|zR (qR fS)<|zZ) ?_
 refine jG<|jB<|kx [(46,(vb false))] [] (zE (xC false nT)<|zM<|zZ) ?_
 refine qH ?_
 refine jB<|kx [(53,(vb false))] [] (zE (xC false nT)<|zM<|zZ) ?_
 refine qH ?_
 refine jB<|kx [(60,(vb true))] [] (zE (xC true nT)<|zM<|zZ) ?_
 refine uG ?_
 refine kf [] [(0,some [(jS 1),(jS 2),(vi P),(.own 18 48 10 ((List.map jL (L++[(J3.mk (kG P (jO ((L.getD a uF).v) ((L.getD c uF).v))) (kG P (jO ((L.getD a uF).g) ((L.getD c uF).g))) (kG P (jO ((L.getD a uF).h) ((L.getD c uF).h))))])).length)),(vb false)]),(18,some (qP jD (List.map jL (L++[(J3.mk (kG P (jO ((L.getD a uF).v) ((L.getD c uF).v))) (kG P (jO ((L.getD a uF).g) ((L.getD c uF).g))) (kG P (jO ((L.getD a uF).h) ((L.getD c uF).h))))])))),(1,none),(10,none),(11,none),(12,none),(13,none),(14,none),(2,none),(6,none),(7,none),(8,none),(9,none)] (zM<|zSe (B2:=[(0,some [(jS 1),(jS 2),(vi P),(.own 1 48 10 ((List.map jL L).length)),(vb false)]),(1,some (qP jD (List.map jL L))),(2,some [(.refx 0 0 b0)]),(6,some (bx (jD (jL (L.getD a uF))))),(7,some (bx (jD (jL (L.getD c uF)))))]) (B2':=[(0,some [(jS 1),(jS 2),(vi P),(.own 18 48 10 ((List.map jL (L++[(J3.mk (kG P (jO ((L.getD a uF).v) ((L.getD c uF).v))) (kG P (jO ((L.getD a uF).g) ((L.getD c uF).g))) (kG P (jO ((L.getD a uF).h) ((L.getD c uF).h))))])).length)),(vb false)]),(18,some (qP jD (List.map jL (L++[(J3.mk (kG P (jO ((L.getD a uF).v) ((L.getD c uF).v))) (kG P (jO ((L.getD a uF).g) ((L.getD c uF).g))) (kG P (jO ((L.getD a uF).h) ((L.getD c uF).h))))])))),(2,some [(.refx 0 0 b0)])]) [0,1,2,6,7,8,9,10,11,12,13,14,18] [2,6,7,0] (e_lA P L b0 (L.getD a uF) hu (L.getD c uF) hv hP hL) (G:=[0]) (hG:=by exact (.cons (k:=0) (q:=2) (o:=0) (b:=b0) (j:=0) (by kernel_rfl) (by kernel_rfl) (by kernel_rfl) .nil)) (ex:=[.ref 2 0,.ref 6 0,.ref 7 0]) (hy:=.clo (kk:=[2,6,7]) (by kernel_rfl) (by kernel_rfl))<|zF) ?_
 refine ⟨mD (by kernel_rfl),dE (by kernel_rfl),.inl ⟨_,.nil,?_⟩⟩
 rfl
theorem e_sM(a:Nat)(c:Nat)(b:R2)(hb:GL 12000 b)(P:Int)(L:List J3)(hP:P=-1\/P=20)(hL:L.length<=1000)(hLk:∀ x∈L,nO 12000 x)(ha:a<L.length)(hc:c<L.length):gV Tryz.prog 37 [(.ref 0 0),(.d (qE (kI.mk 4 ((a:Nat):Int) ((c:Nat):Int) qY))),(vl 44 8 jJ [(kF b)])] [(0,some [(jS 1),(jS 2),(vi P),(.own 1 48 10 ((List.map jL L).length)),(vb false)]),(1,some (qP jD (List.map jL L)))] (.d (.tup [])) [(0,some [(jS 1),(jS 2),(vi P),(.own 18 48 10 ((List.map jL (L++[(J3.mk (kG P (jN ((L.getD a uF).v) ((L.getD c uF).v))) (kG P (jO (jN ((L.getD a uF).v) ((L.getD c uF).g)) (jN ((L.getD c uF).v) ((L.getD a uF).g)))) (kG P (jO (jO (jN ((L.getD a uF).v) ((L.getD c uF).h)) (jN ((L.getD c uF).v) ((L.getD a uF).h))) (jO (jN ((L.getD a uF).g) ((L.getD c uF).g)) (jN ((L.getD a uF).g) ((L.getD c uF).g))))))])).length)),(vb false)]),(18,some (qP jD (List.map jL (L++[(J3.mk (kG P (jN ((L.getD a uF).v) ((L.getD c uF).v))) (kG P (jO (jN ((L.getD a uF).v) ((L.getD c uF).g)) (jN ((L.getD c uF).v) ((L.getD a uF).g)))) (kG P (jO (jO (jN ((L.getD a uF).v) ((L.getD c uF).h)) (jN ((L.getD c uF).v) ((L.getD a uF).h))) (jO (jN ((L.getD a uF).g) ((L.getD c uF).g)) (jN ((L.getD a uF).g) ((L.getD c uF).g))))))]))))]:=by
 have hu:nO 12000 (L.getD a uF):=j3_at hLk ha
 have hv:nO 12000 (L.getD c uF):=j3_at hLk hc
 refine gP Tryz.func37 rfl cb37 rfl ?_
 refine jB<|kx [(3,(.ref 2 0)),(4,(.ref 3 0)),(5,(.ref 4 0))] [(2,some [(.ref 0 0)]),(3,some (bx (qE (kI.mk 4 ((a:Nat):Int) ((c:Nat):Int) qY)))),(4,some (bx (.sl 44 8 (List.map jJ [(kF b)]))))] (zH (oBy 2)<|zH (xA 3)<|zH (xA 4)<|zZ) ?_
 refine jB<|pwp_fix 2 (k:=0) (o:=0) (h:=fun b0=>?_)
 refine kM (wk (l:=[(0,(.ref 0 0)),(3,(.ref 2 0)),(4,(.ref 3 0)),(5,(.ref 4 0))]) (b:=[(0,some [(jS 1),(jS 2),(vi P),(.own 1 48 10 ((List.map jL L).length)),(vb false)]),(1,some (qP jD (List.map jL L))),(2,some [(.refx 0 0 b0)]),(3,some (bx (qE (kI.mk 4 ((a:Nat):Int) ((c:Nat):Int) qY)))),(4,some (bx (.sl 44 8 (List.map jJ [(kF b)]))))])) ?_
 refine kx [(6,(.ref 5 0))] [(5,some (bx (jJ (kF (gw 0)))))] (zE (kH (j_whole ((0:Nat):Int) (by omega) (by omega)))<|zH (uT 5 vI xB)<|zT (qK qI)<|zZ) ?_
 refine jB<|kx [(7,(.clo 66 [5]))] [] (zE (oMf [5])<|zM<|zZ) ?_
 refine jB<|kx [(8,(.ref 6 0)),(9,(.ref 7 0))] [(6,some (bx (jD (xI.mk (qB.mk qY qY) [] [])))),(7,some (bx (jD (xI.mk (qB.mk qY qY) [] []))))] (zH (uT 6 mU fK)<|zH (uT 7 mU fK)<|zZ) ?_
 refine jB<|kx [(10,(jS 2))] [] (zE (kW yF)<|zR (qR fS)<|zE (oQd (.val (.int .i64 ((xE 4)))) (.val (.int .i64 (((2:Nat):Int)))) (kH (j_kids 4)) (by exact rfl))<|zM<|zZ) ?_
 refine jB<|jB<|kx [(19,(vb true))] [] (zM<|zE (xC true mB)<|zZ) ?_
 refine uG ?_
 refine kd [] [(6,some (bx (jD (jL (L.getD a uF)))))] mo (wR (oLx sh68)<|wE oNc<|wE (kW nN)<|wR (qR sh69)<|wE (kW xP)<|wR (qR gN)<|wE (oXO el69 a (hj:=by first | omega | rfl | (simp only[List.length_map];omega) | (dsimp only;omega)) (h1:=by first | omega | rfl | (simp only[List.length_map];omega) | (dsimp only;omega)))<|wR (oQr (jD ((List.map jL L).getD a (xI.mk (qB.mk qY qY) [] []))) (jD (jL (L.getD a uF))) (oLA dK a (xI.mk (qB.mk qY qY) [] []) (h1:=by first | omega | rfl | (simp only[List.length_map];omega) | (dsimp only;omega))) (by exact (congrArg jD (dW jL L uF _ (by omega)))))<|wT (qK dK)<|wZ) ?_
 refine jB<|jB<|kx [(29,(vb true))] [] (zM<|zE (xC true mB)<|zZ) ?_
 refine uG ?_
 refine kd [] [(7,some (bx (jD (jL (L.getD c uF)))))] mo (wR (oLx sh68)<|wE oNc<|wE (kW nN)<|wR (qR sh69)<|wE (kW mS)<|wR (qR gN)<|wE (oXO el69 c (hj:=by first | omega | rfl | (simp only[List.length_map];omega) | (dsimp only;omega)) (h1:=by first | omega | rfl | (simp only[List.length_map];omega) | (dsimp only;omega)))<|wR (oQr (jD ((List.map jL L).getD c (xI.mk (qB.mk qY qY) [] []))) (jD (jL (L.getD c uF))) (oLA dK c (xI.mk (qB.mk qY qY) [] []) (h1:=by first | omega | rfl | (simp only[List.length_map];omega) | (dsimp only;omega))) (by exact (congrArg jD (dW jL L uF _ (by omega)))))<|wT (qK dK)<|wZ) ?_
 refine jB<|kx [(11,(.clo 68 [2,6,7]))] [] (zE (oMf [2,6,7])<|zM<|zZ) ?_
 refine jB<|kx [(40,(vi 4))] [] (zE (kW yF)<|zR (qR fS)<|zZ) ?_
 refine jG<|jB<|kx [(46,(vb false))] [] (zE (xC false nT)<|zM<|zZ) ?_
 refine qH ?_
 refine jB<|kx [(53,(vb false))] [] (zE (xC false nT)<|zM<|zZ) ?_
 refine qH ?_
 refine jB<|kx [(60,(vb false))] [] (zE (xC false nT)<|zM<|zZ) ?_
 refine qH ?_
 refine jB<|kx [(64,(vb false))] [] (zE (xC false nT)<|zM<|zZ) ?_
 refine qH ?_
 refine jB<|kx [(68,(vb false))] [] (zE (xC false nT)<|zM<|zZ) ?_
 refine qH ?_
 refine jB<|kx [(74,(vb true))] [] (zE (xC true nT)<|zM<|zZ) ?_
 refine uG ?_
 refine kf [] [(0,some [(jS 1),(jS 2),(vi P),(.own 18 48 10 ((List.map jL (L++[(J3.mk (kG P (jN ((L.getD a uF).v) ((L.getD c uF).v))) (kG P (jO (jN ((L.getD a uF).v) ((L.getD c uF).g)) (jN ((L.getD c uF).v) ((L.getD a uF).g)))) (kG P (jO (jO (jN ((L.getD a uF).v) ((L.getD c uF).h)) (jN ((L.getD c uF).v) ((L.getD a uF).h))) (jO (jN ((L.getD a uF).g) ((L.getD c uF).g)) (jN ((L.getD a uF).g) ((L.getD c uF).g))))))])).length)),(vb false)]),(18,some (qP jD (List.map jL (L++[(J3.mk (kG P (jN ((L.getD a uF).v) ((L.getD c uF).v))) (kG P (jO (jN ((L.getD a uF).v) ((L.getD c uF).g)) (jN ((L.getD c uF).v) ((L.getD a uF).g)))) (kG P (jO (jO (jN ((L.getD a uF).v) ((L.getD c uF).h)) (jN ((L.getD c uF).v) ((L.getD a uF).h))) (jO (jN ((L.getD a uF).g) ((L.getD c uF).g)) (jN ((L.getD a uF).g) ((L.getD c uF).g))))))])))),(1,none),(10,none),(11,none),(12,none),(13,none),(14,none),(6,none),(7,none),(8,none),(9,none)] (zR (oLx sh68)<|zE (oMf [6,7])<|zE (oMf [6,7])<|zE (oMf [6,7])<|zSe (B2:=[(0,some [(jS 1),(jS 2),(vi P),(.own 1 48 10 ((List.map jL L).length)),(vb false)]),(1,some (qP jD (List.map jL L))),(6,some (bx (jD (jL (L.getD a uF))))),(7,some (bx (jD (jL (L.getD c uF)))))]) (B2':=[(0,some [(jS 1),(jS 2),(vi P),(.own 18 48 10 ((List.map jL (L++[(J3.mk (kG P (jN ((L.getD a uF).v) ((L.getD c uF).v))) (kG P (jO (jN ((L.getD a uF).v) ((L.getD c uF).g)) (jN ((L.getD c uF).v) ((L.getD a uF).g)))) (kG P (jO (jO (jN ((L.getD a uF).v) ((L.getD c uF).h)) (jN ((L.getD c uF).v) ((L.getD a uF).h))) (jO (jN ((L.getD a uF).g) ((L.getD c uF).g)) (jN ((L.getD a uF).g) ((L.getD c uF).g))))))])).length)),(vb false)]),(18,some (qP jD (List.map jL (L++[(J3.mk (kG P (jN ((L.getD a uF).v) ((L.getD c uF).v))) (kG P (jO (jN ((L.getD a uF).v) ((L.getD c uF).g)) (jN ((L.getD c uF).v) ((L.getD a uF).g)))) (kG P (jO (jO (jN ((L.getD a uF).v) ((L.getD c uF).h)) (jN ((L.getD c uF).v) ((L.getD a uF).h))) (jO (jN ((L.getD a uF).g) ((L.getD c uF).g)) (jN ((L.getD a uF).g) ((L.getD c uF).g))))))]))))]) [0,1,6,7,8,9,10,11,12,13,14,18] [0,6,7] (e_nM P L (L.getD a uF) hu (L.getD c uF) hv hP hL)<|zF) ?_
 refine ⟨mD (by kernel_rfl),dE (by kernel_rfl),.inl ⟨_,.nil,?_⟩⟩
 rfl
structure NKD where
 c1:SV
 c2:SV
 c3:SV
 X:BS
 v:R2
 g:Nat->R2
 k:List Nat
 b:List bM
inductive NK (n:Nat) (L:List JV):Type
 |C (p:Rat) (hp:QL p 1048576) (zz:R2) (hzz:GL 3 zz):NK n L
 |V (bv:List R2) (hbx:∀ x∈bv,GL 1048576 x) (a:Nat) (zz:R2) (hzz:GL 3 zz) (ha:a<bv.length) (hbl:bv.length<=1000000):NK n L
 |A (u:JV) (hu:JOk 1048576 n u) (v:JV) (hv:JOk 1048576 n v):NK n L
 |S (u:JV) (hu:JOk 1048576 n u) (v:JV) (hv:JOk 1048576 n v):NK n L
 |N (u:JV) (hu:JOk 1048576 n u) (v:JV) (hv:JOk 1048576 n v):NK n L
 |M (u:JV) (hu:JOk 1048576 n u) (v:JV) (hv:JOk 1048576 n v):NK n L
 |Q (u:JV) (hu:JOk 1048576 n u) (tt:R2) (htt:GL 3 tt):NK n L
 |D (bb:Nat) (u:JV) (hu:JOk 1048576 n u) (v:JV) (hv:JOk 1048576 n v) (hz:mL v.v.1 v.v.2=false):NK n L
def NK.d{n:Nat}{L:List JV}:NK n L->NKD
 |.C p hp zz hzz=>⟨(.clo 73 [2]),(.clo 74 [3]),(.clo 66 [3]),[(2,some (bx (qE (kI.mk 0 0 0 (jP p))))),(3,some (bx (jJ (kF zz))))],(xV p),(fun i=>zz),[2],[(3,(bx (jJ (kF zz))),(jT.cells (jJ (kF zz))))]⟩
 |.V bv hbx a zz hzz ha hbl=>⟨(.clo 75 [2,3]),(.clo 76 [3,4]),(.clo 66 [4]),[(2,some (bx (.sl 44 8 (List.map jJ (List.map kF bv))))),(3,some (bx (qE (kI.mk 1 ((a:Nat):Int) 0 qY)))),(4,some (bx (jJ (kF zz))))],(bv.getD a z2),(fun i=>(if ((i:Nat):Int)=((a:Nat):Int) then gw 1 else zz)),[2,3],[(4,(bx (jJ (kF zz))),(jT.cells (jJ (kF zz)))),(3,(bx (qE (kI.mk 1 ((a:Nat):Int) 0 qY))),(jT.cells (qE (kI.mk 1 ((a:Nat):Int) 0 qY))))]⟩
 |.A u hu v hv=>⟨(.clo 70 [2,3,4]),(.clo 71 [2,3,4]),(.clo 72 [2,3,4]),[(2,some (bx (.val (.func (.func 77) #[] #[])))),(3,some (bx (jD (ofJ u)))),(4,some (bx (jD (ofJ v))))],(jO u.v v.v),(fun i=>(jO (u.g.getD i z2) (v.g.getD i z2))),[2,3,4],[(4,(bx (jD (ofJ v))),(jT.cells (jD (ofJ v)))),(3,(bx (jD (ofJ u))),(jT.cells (jD (ofJ u)))),(2,(bx (.val (.func (.func 77) #[] #[]))),(jT.cells (.val (.func (.func 77) #[] #[]))))]⟩
 |.S u hu v hv=>⟨(.clo 70 [2,3,4]),(.clo 71 [2,3,4]),(.clo 72 [2,3,4]),[(2,some (bx (.val (.func (.func 78) #[] #[])))),(3,some (bx (jD (ofJ u)))),(4,some (bx (jD (ofJ v))))],(dB u.v v.v),(fun i=>(dB (u.g.getD i z2) (v.g.getD i z2))),[2,3,4],[(4,(bx (jD (ofJ v))),(jT.cells (jD (ofJ v)))),(3,(bx (jD (ofJ u))),(jT.cells (jD (ofJ u)))),(2,(bx (.val (.func (.func 78) #[] #[]))),(jT.cells (.val (.func (.func 78) #[] #[]))))]⟩
 |.N u hu v hv=>⟨(.clo 70 [2,3,4]),(.clo 71 [2,3,4]),(.clo 72 [2,3,4]),[(2,some [(.clo 79 [5])]),(3,some (bx (jD (ofJ u)))),(4,some (bx (jD (ofJ v)))),(5,some (bx (jJ (kF (gw 0)))))],(dB (gw 0) u.v),(fun i=>(dB (gw 0) (u.g.getD i z2))),[4,3,2,5],[(4,(bx (jD (ofJ v))),(jT.cells (jD (ofJ v)))),(3,(bx (jD (ofJ u))),(jT.cells (jD (ofJ u)))),(2,[(.clo 79 [5])],[(.clo 79 [(.cptr 1000000 (jT.cells (jJ (kF (gw 0)))) 0)])]),(5,(bx (jJ (kF (gw 0)))),(jT.cells (jJ (kF (gw 0)))))]⟩
 |.M u hu v hv=>⟨(.clo 80 [2,3]),(.clo 82 [2,3]),(.clo 83 [2,3]),[(2,some (bx (jD (ofJ u)))),(3,some (bx (jD (ofJ v))))],(jN u.v v.v),(fun i=>(jO (jN u.v (v.g.getD i z2)) (jN v.v (u.g.getD i z2)))),[2,3],[(3,(bx (jD (ofJ v))),(jT.cells (jD (ofJ v)))),(2,(bx (jD (ofJ u))),(jT.cells (jD (ofJ u))))]⟩
 |.Q u hu tt htt=>⟨(.clo 84 [2]),(.clo 86 [3,2]),(.clo 87 [2,3]),[(2,some (bx (jD (ofJ u)))),(3,some (bx (jJ (kF tt))))],(gsq u.v),(fun i=>(jN tt (jN u.v (u.g.getD i z2)))),[2],[(2,(bx (jD (ofJ u))),(jT.cells (jD (ofJ u)))),(3,(bx (jJ (kF tt))),(jT.cells (jJ (kF tt))))]⟩
 |.D bb u hu v hv hz=>⟨(.clo 88 [2,3,4]),(.clo 90 [2,3,4]),(.clo 91 [3,4,2]),[(2,some [(.refx 0 0 bb)]),(3,some (bx (jD (ofJ u)))),(4,some (bx (jD (ofJ v))))],(gdiv u.v v.v),(fun i=>(gdiv (dB (u.g.getD i z2) (jN (gdiv u.v v.v) (v.g.getD i z2))) v.v)),[4,3,2,0,1],[(4,(bx (jD (ofJ v))),(jT.cells (jD (ofJ v)))),(3,(bx (jD (ofJ u))),(jT.cells (jD (ofJ u)))),(2,[(.refx 0 0 bb)],[(.cptr 1000000 (jT.cells (mcA n (.sl 1000000 10 (List.map jD (List.map ofJ L))) false)) 0)]),(0,(mcS n 1 L false),(jT.cells (mcA n (.sl 1000000 10 (List.map jD (List.map ofJ L))) false))),(1,(jxs L),(kR (List.map jD (List.map ofJ L))))]⟩
theorem NK.hv{n:Nat}{L:List JV}(K:NK n L):GL 67108864 K.d.v:=match K with
 |.C p hp zz hzz=>(qG (gl_pt hp))
 |.V bv hbx a zz hzz ha hbl=>(qG (aA hbx (by decide) a))
 |.A u hu v hv=>(qG (vL (k:=2097153) hu.1 hv.1))
 |.S u hu v hv=>(qG (fN (k:=2097153) hu.1 hv.1))
 |.N u hu v hv=>(qG (fN (k:=1048580) (gl_w (z:=0) (by omega) (by omega)) hu.1))
 |.M u hu v hv=>(qG (qN (k:=2097152) hu.1 hv.1))
 |.Q u hu tt htt=>(qG (gl_sq (k:=2097152) hu.1 (by decide)))
 |.D bb u hu v hv hz=>(qG (gl_div (k:=2097152) hu.1 hv.1))
theorem NK.hg{n:Nat}{L:List JV}(K:NK n L)(i:Nat)(hi:i<n):GL 67108864 (K.d.g i):=match K with
 |.C p hp zz hzz=>(qG hzz)
 |.V bv hbx a zz hzz ha hbl=>(qG (gl_ite (gl_w (z:=1) (by omega) (by omega)) hzz))
 |.A u hu v hv=>(qG (vL (k:=2097153) (aA hu.2.1 (by decide) i) (aA hv.2.1 (by decide) i)))
 |.S u hu v hv=>(qG (fN (k:=2097153) (aA hu.2.1 (by decide) i) (aA hv.2.1 (by decide) i)))
 |.N u hu v hv=>(qG (fN (k:=1048580) (gl_w (z:=0) (by omega) (by omega)) (aA hu.2.1 (by decide) i)))
 |.M u hu v hv=>(qG (vL (k:=4194305) (qN (k:=2097152) hu.1 (aA hv.2.1 (by decide) i)) (qN (k:=2097152) hv.1 (aA hu.2.1 (by decide) i))))
 |.Q u hu tt htt=>(qG (qN (k:=2097155) htt (qN (k:=2097152) hu.1 (aA hu.2.1 (by decide) i))))
 |.D bb u hu v hv hz=>(qG (gl_div (k:=5242881) (fN (k:=4194305) (aA hu.2.1 (by decide) i) (qN (k:=3145728) (gl_div (k:=2097152) hu.1 hv.1) (aA hv.2.1 (by decide) i))) hv.1))
theorem by3:vJ Tryz.prog 3=some 8:=by kernel_rfl
theorem el37:uB Tryz.prog 37=some (35,7):=by kernel_rfl
theorem el81:uB Tryz.prog 81=some (3,1):=by kernel_rfl
theorem sh35:qD Tryz.prog 35=some (true,7):=by kernel_rfl
theorem ze35:vP Tryz.prog 35=some [.int .i64 0,.int .i64 0,.int .i64 0,.bool false,.slice none 0 0,.bool false,.slice none 0 0]:=by kernel_rfl
theorem zo35:dV [.int .i64 0,.int .i64 0,.int .i64 0,.bool false,.slice none 0 0,.bool false,.slice none 0 0] [.val (.int .i64 0),.val (.int .i64 0),.val (.int .i64 0),.val (.bool false),.sl 74 1 [],.val (.bool false),.sl 74 1 []]:=by simp [dV,Value.oneCell']
theorem j_sizes(t:List kI)(ht:TnsOk 1048576 t)(z:Int):jW Tryz.prog 62 [(.sl 35 7 (List.map qE t)),(.val (.int .i64 (z)))] (.tup [(.sl 3 1 (List.map uZ (tmL z t))),(.val (.int .i64 ((((dQ z t):Nat):Int))))]):=by
 refine uW Tryz.func62 ?_
 refine jB<|kx [] [] (zE (oNl 3 1)<|zM<|zZ) ?_
 refine jB<|jB<|kx [(15,(vb (decide (z<0)||decide (64<z))))] [] ?_ ?_
 ·refine zM<|zE xO<|zE (oV (vb (decide (z<0))) (qF (by kernel_rfl)))<|?_
  rcases hb1:(decide (z<0)) with _ | _
  ·replace hb1:=xH hb1
   exact zM<|zE mB<|zE aG<|zZ
  ·replace hb1:=xF hb1
   exact zK<|zK<|zE yT<|zZ
 refine jH (b:=(decide (z<0)||decide (64<z))) rfl (fun h2=>?_) (fun h2=>?_)
 ·refine jB<|kx [(4,(vl 3 1 uZ [])),(5,(jS 2))] [] (zE (oNl 3 1)<|zM<|zZ) ?_
  refine jE ⟨_,(.tmp (d:=(.sl 3 1 (List.map uZ []))) rfl (.tmp (d:=(.val (.int .i64 (2)))) rfl .nil)),?_⟩
  have he:=zb_t (t:=t) h2
  rw[he.1,he.2];rfl
 ·have hz0:=h2
  refine jF<|jB<|jB<|kx [(18,(vb (((t.length:Nat):Int) == 0)))] [] (zM<|zE (zV el37)<|zE nT<|zZ) ?_
  refine jH (b:=(((t.length:Nat):Int) == 0)) rfl (fun h3=>?_) (fun h3=>?_)
  ·replace h3:=eq_of_beq h3
   refine jB<|kx [(4,(vl 3 1 uZ [])),(5,(jS 1))] [] (zE (oNl 3 1)<|zM<|zZ) ?_
   refine jE ⟨_,(.tmp (d:=(.sl 3 1 (List.map uZ []))) rfl (.tmp (d:=(.val (.int .i64 (1)))) rfl .nil)),?_⟩
   have he:=tm_l0 hz0 (show t.length=0 by omega)
   rw[he.1,he.2];rfl
  ·replace h3:=ne_of_beq_false h3
   have h0:=h3
   refine jF<|jB<|jB<|kx [(21,(vb (decide (400<((t.length:Nat):Int)))))] [] (zM<|zE (zV el37)<|zE mB<|zZ) ?_
   refine jH (b:=decide (400<((t.length:Nat):Int))) rfl (fun h4=>?_) (fun h4=>?_)
   ·replace h4:=xF h4
    refine jB<|kx [(4,(vl 3 1 uZ [])),(5,(jS 3))] [] (zE (oNl 3 1)<|zM<|zZ) ?_
    refine jE ⟨_,(.tmp (d:=(.sl 3 1 (List.map uZ []))) rfl (.tmp (d:=(.val (.int .i64 (3)))) rfl .nil)),?_⟩
    have he:=tm_lb hz0 (show 400<t.length by omega)
    rw[he.1,he.2];rfl
   ·replace h4:=xH h4
    have h400:=h4
    refine jF<|jB<|kx [(6,(.own 0 3 1 t.length))] [(0,some (bm uZ (List.replicate t.length 0)))] (zM<|zE (zV el37)<|zN (oMk 0 uZ (0:Int) t.length t.length el81 ze3 zo3 by3)<|zM<|zZ) ?_
    refine jB<|jB<|kx [(25,(vl 35 7 qE t)),(26,(jS t.length)),(27,(jS 0))] [] (zM<|zE (zV el37)<|zM<|zZ) ?_
    refine jG<|kU (α:=Nat × List Int) (fun (k,o)=>⟨[(1,(vi z)),(6,(.own 0 3 1 t.length)),(25,(vl 35 7 qE t)),(26,(jS t.length)),(27,(jS k))],[(0,some (bm uZ o))]⟩) (fun (k,o)=>k<=t.length/\szI t k o/\szUp z t k) (fun (k,o)=>t.length-k) (0,List.replicate t.length 0) wk ⟨Nat.zero_le _,szI_0,szUp_0 _ _⟩ ?_
    rintro ⟨k,o⟩ ⟨hk,ho,hu⟩
    have qL:=ho.1
    refine jB<|kx [(28,(vb (decide (((k:Nat):Int)<((t.length:Nat):Int)))))] [] (zE xO<|zZ) ?_
    refine jB<|jH rfl (fun h5=>?_) (fun h5=>?_)
    ·replace h5:=xF h5
     have hR:=tmr hz0 h5 h400 hu
     have hkl:=hR.kl
     refine jF<|jB<|jG<|jB<|kx [(7,(jS k)),(8,(.ref 1 0))] [(1,some (bx (qE (t.getD k tz))))] (zM<|zE (dS el37 k (tz:kI))<|zE (nX sh35)<|zH (uT 1 ze35 zo35)<|zM<|zT (qK sh35)<|zZ) ?_
     refine jB<|kx [(9,(vi (xE ((t.getD k tz).op))))] [] (zE (kW yF)<|zR (qR fS)<|zE (kH (j_kids ((t.getD k tz).op)))<|zM<|zZ) ?_
     refine jB<|jB<|kx [(72,(vb (((decide ((xE ((t.getD k tz).op))<0)||(decide ((xE ((t.getD k tz).op))<2)&&((t.getD k tz).b != 0)))||(((t.getD k tz).op == 0)&&(((t.getD k tz).a != 0)||!(kL ((t.getD k tz).n)))))||(((t.getD k tz).op != 0)&&!(unsB ((t.getD k tz).n))))))] [] ?_ ?_
     ·refine zM<|zE xO<|zE (oV (vb (decide ((xE ((t.getD k tz).op))<0))) (qF (by kernel_rfl)))<|?_
      rcases hb6:(decide ((xE ((t.getD k tz).op))<0)) with _ | _
      ·replace hb6:=xH hb6
       refine zM<|zE xO<|zE (oV (vb (decide ((xE ((t.getD k tz).op))<2))) (qF (by kernel_rfl)))<|?_
       rcases hb7:(decide ((xE ((t.getD k tz).op))<2)) with _ | _
       ·replace hb7:=xH hb7
        refine zK<|zK<|zK<|zE gK<|zE gK<|zM<|zE (kW yF)<|zR (qR fS)<|zE nT<|zE (oV (vb ((t.getD k tz).op == 0)) (qF (by kernel_rfl)))<|?_
        rcases hb8:((t.getD k tz).op == 0) with _ | _
        ·replace hb8:=ne_of_beq_false hb8
         refine zK<|zK<|zK<|zK<|zK<|zK<|zK<|zK<|zK<|zE gK<|zE gK<|zM<|zE (kW yF)<|zR (qR fS)<|zE oNe<|zE (oV (vb ((t.getD k tz).op != 0)) (qF (by kernel_rfl)))<|?_
         rcases hb9:((t.getD k tz).op != 0) with _ | _
         ·replace hb9:=bne_eq_false_iff_eq.1 hb9
          exact zK<|zK<|zK<|zK<|zE gK<|zE gK<|zZ
         ·replace hb9:=bne_iff_ne.1 hb9
          exact zE (kW fG)<|zR (kT jR)<|zE (kH (j_unset ((t.getD k tz).n) (xZ (t.getD k tz).n) (tn_get ht (show k<t.length by omega))))<|zE eL<|zE oPa<|zE aG<|zZ
        ·replace hb8:=eq_of_beq hb8
         refine zE (kW xP)<|zR (qR gN)<|zE oNe<|zE (oV (vb ((t.getD k tz).a != 0)) (qF (by kernel_rfl)))<|?_
         rcases hb10:((t.getD k tz).a != 0) with _ | _
         ·replace hb10:=bne_eq_false_iff_eq.1 hb10
          refine zE (kW fG)<|zR (kT jR)<|zE (kH (bL ((t.getD k tz).n) (xZ (t.getD k tz).n) (kE (tn_get ht (show k<t.length by omega)))))<|zE eL<|zE aG<|zE oPa<|zE aG<|zE (oV (vb (false||(true&&(false||!(kL ((t.getD k tz).n)))))) (qF (by kernel_rfl)))<|?_
          rcases hb11:(!(kL ((t.getD k tz).n))) with _ | _
          ·refine zE (kW yF)<|zR (qR fS)<|zE oNe<|zE (oV (vb ((t.getD k tz).op != 0)) (qF (by kernel_rfl)))<|?_
           rcases hb12:((t.getD k tz).op != 0) with _ | _
           ·replace hb12:=bne_eq_false_iff_eq.1 hb12
            exact zK<|zK<|zK<|zK<|zE gK<|zE gK<|zZ
           ·replace hb12:=bne_iff_ne.1 hb12
            exact zE (kW fG)<|zR (kT jR)<|zE (kH (j_unset ((t.getD k tz).n) (xZ (t.getD k tz).n) (tn_get ht (show k<t.length by omega))))<|zE eL<|zE oPa<|zE aG<|zZ
          ·exact zK<|zK<|zK<|zK<|zK<|zK<|zK<|zK<|zK<|zE yT<|zZ
         ·replace hb10:=bne_iff_ne.1 hb10
          exact zK<|zK<|zK<|zK<|zE yT<|zE yT<|zE gK<|zM<|zK<|zK<|zK<|zK<|zK<|zK<|zK<|zK<|zK<|zE yT<|zZ
       ·replace hb7:=xF hb7
        refine zE (kW mS)<|zR (qR gN)<|zE oNe<|zE oPa<|zE aG<|zE (oV (vb (false||(true&&((t.getD k tz).b != 0)))) (qF (by kernel_rfl)))<|?_
        rcases hb13:((t.getD k tz).b != 0) with _ | _
        ·replace hb13:=bne_eq_false_iff_eq.1 hb13
         refine zE (kW yF)<|zR (qR fS)<|zE nT<|zE (oV (vb ((t.getD k tz).op == 0)) (qF (by kernel_rfl)))<|?_
         rcases hb14:((t.getD k tz).op == 0) with _ | _
         ·replace hb14:=ne_of_beq_false hb14
          refine zK<|zK<|zK<|zK<|zK<|zK<|zK<|zK<|zK<|zE gK<|zE gK<|zM<|zE (kW yF)<|zR (qR fS)<|zE oNe<|zE (oV (vb ((t.getD k tz).op != 0)) (qF (by kernel_rfl)))<|?_
          rcases hb15:((t.getD k tz).op != 0) with _ | _
          ·replace hb15:=bne_eq_false_iff_eq.1 hb15
           exact zK<|zK<|zK<|zK<|zE gK<|zE gK<|zZ
          ·replace hb15:=bne_iff_ne.1 hb15
           exact zE (kW fG)<|zR (kT jR)<|zE (kH (j_unset ((t.getD k tz).n) (xZ (t.getD k tz).n) (tn_get ht (show k<t.length by omega))))<|zE eL<|zE oPa<|zE aG<|zZ
         ·replace hb14:=eq_of_beq hb14
          refine zE (kW xP)<|zR (qR gN)<|zE oNe<|zE (oV (vb ((t.getD k tz).a != 0)) (qF (by kernel_rfl)))<|?_
          rcases hb16:((t.getD k tz).a != 0) with _ | _
          ·replace hb16:=bne_eq_false_iff_eq.1 hb16
           refine zE (kW fG)<|zR (kT jR)<|zE (kH (bL ((t.getD k tz).n) (xZ (t.getD k tz).n) (kE (tn_get ht (show k<t.length by omega)))))<|zE eL<|zE aG<|zE oPa<|zE aG<|zE (oV (vb (false||(true&&(false||!(kL ((t.getD k tz).n)))))) (qF (by kernel_rfl)))<|?_
           rcases hb17:(!(kL ((t.getD k tz).n))) with _ | _
           ·refine zE (kW yF)<|zR (qR fS)<|zE oNe<|zE (oV (vb ((t.getD k tz).op != 0)) (qF (by kernel_rfl)))<|?_
            rcases hb18:((t.getD k tz).op != 0) with _ | _
            ·replace hb18:=bne_eq_false_iff_eq.1 hb18
             exact zK<|zK<|zK<|zK<|zE gK<|zE gK<|zZ
            ·replace hb18:=bne_iff_ne.1 hb18
             exact zE (kW fG)<|zR (kT jR)<|zE (kH (j_unset ((t.getD k tz).n) (xZ (t.getD k tz).n) (tn_get ht (show k<t.length by omega))))<|zE eL<|zE oPa<|zE aG<|zZ
           ·exact zK<|zK<|zK<|zK<|zK<|zK<|zK<|zK<|zK<|zE yT<|zZ
          ·replace hb16:=bne_iff_ne.1 hb16
           exact zK<|zK<|zK<|zK<|zE yT<|zE yT<|zE gK<|zM<|zK<|zK<|zK<|zK<|zK<|zK<|zK<|zK<|zK<|zE yT<|zZ
        ·replace hb13:=bne_iff_ne.1 hb13
         exact zK<|zK<|zK<|zK<|zK<|zK<|zK<|zK<|zK<|zK<|zK<|zK<|zK<|zK<|zE yT<|zM<|zK<|zK<|zK<|zK<|zK<|zK<|zK<|zK<|zK<|zE yT<|zZ
      ·replace hb6:=xF hb6
       exact zK<|zK<|zK<|zK<|zK<|zK<|zK<|zE yT<|zM<|zK<|zK<|zK<|zK<|zK<|zK<|zK<|zK<|zK<|zK<|zK<|zK<|zK<|zK<|zE yT<|zM<|zK<|zK<|zK<|zK<|zK<|zK<|zK<|zK<|zK<|zE yT<|zZ
     refine jH rfl (fun h19=>?_) (fun h19=>?_)
     ·refine jB<|kx [(4,(vl 3 1 uZ [])),(5,(jS 1))] [] (zE (oNl 3 1)<|zM<|zZ) ?_
      refine jE ⟨_,(.tmp (d:=(.sl 3 1 (List.map uZ []))) rfl (.tmp (d:=(.val (.int .i64 (1)))) rfl .nil)),?_⟩
      have he:=hR.bad h19
      rw[he.1,he.2];rfl
     ·have hB:=h19
      refine jF<|jB<|jB<|kx [(100,(vb ((decide (0<(xE ((t.getD k tz).op)))&&(decide ((t.getD k tz).a<0)||decide (((k:Nat):Int)<=(t.getD k tz).a)))||(decide (1<(xE ((t.getD k tz).op)))&&(decide ((t.getD k tz).b<0)||decide (((k:Nat):Int)<=(t.getD k tz).b))))))] [] ?_ ?_
      ·refine zM<|zE mB<|zE (oV (vb (decide (0<(xE ((t.getD k tz).op))))) (qF (by kernel_rfl)))<|?_
       rcases hb20:(decide (0<(xE ((t.getD k tz).op)))) with _ | _
       ·replace hb20:=xH hb20
        refine zK<|zK<|zK<|zK<|zK<|zK<|zK<|zK<|zK<|zE gK<|zM<|zM<|zE mB<|zE (oV (vb (decide (1<(xE ((t.getD k tz).op))))) (qF (by kernel_rfl)))<|?_
        rcases hb21:(decide (1<(xE ((t.getD k tz).op)))) with _ | _
        ·replace hb21:=xH hb21
         exact zK<|zK<|zK<|zK<|zK<|zK<|zK<|zK<|zK<|zE gK<|zE gK<|zZ
        ·replace hb21:=xF hb21
         refine zE (kW mS)<|zR (qR gN)<|zE xO<|zE (oV (vb (decide ((t.getD k tz).b<0))) (qF (by kernel_rfl)))<|?_
         rcases hb22:(decide ((t.getD k tz).b<0)) with _ | _
         ·replace hb22:=xH hb22
          exact zE (kW mS)<|zR (qR gN)<|zM<|zE oGe<|zE aG<|zE oPa<|zE aG<|zZ
         ·replace hb22:=xF hb22
          exact zK<|zK<|zK<|zK<|zE yT<|zE yT<|zE gK<|zZ
       ·replace hb20:=xF hb20
        refine zE (kW xP)<|zR (qR gN)<|zE xO<|zE (oV (vb (decide ((t.getD k tz).a<0))) (qF (by kernel_rfl)))<|?_
        rcases hb23:(decide ((t.getD k tz).a<0)) with _ | _
        ·replace hb23:=xH hb23
         refine zE (kW xP)<|zR (qR gN)<|zM<|zE oGe<|zE aG<|zE oPa<|zE (oV (vb (true&&(false||decide (((k:Nat):Int)<=(t.getD k tz).a)))) (qF (by kernel_rfl)))<|?_
         rcases hb24:(decide (((k:Nat):Int)<=(t.getD k tz).a)) with _ | _
         ·replace hb24:=xH hb24
          refine zM<|zE mB<|zE (oV (vb (decide (1<(xE ((t.getD k tz).op))))) (qF (by kernel_rfl)))<|?_
          rcases hb25:(decide (1<(xE ((t.getD k tz).op)))) with _ | _
          ·replace hb25:=xH hb25
           exact zK<|zK<|zK<|zK<|zK<|zK<|zK<|zK<|zK<|zE gK<|zE gK<|zZ
          ·replace hb25:=xF hb25
           refine zE (kW mS)<|zR (qR gN)<|zE xO<|zE (oV (vb (decide ((t.getD k tz).b<0))) (qF (by kernel_rfl)))<|?_
           rcases hb26:(decide ((t.getD k tz).b<0)) with _ | _
           ·replace hb26:=xH hb26
            exact zE (kW mS)<|zR (qR gN)<|zM<|zE oGe<|zE aG<|zE oPa<|zE aG<|zZ
           ·replace hb26:=xF hb26
            exact zK<|zK<|zK<|zK<|zE yT<|zE yT<|zE gK<|zZ
         ·replace hb24:=xF hb24
          exact zK<|zK<|zK<|zK<|zK<|zK<|zK<|zK<|zK<|zK<|zK<|zK<|zK<|zE yT<|zZ
        ·replace hb23:=xF hb23
         exact zK<|zK<|zK<|zK<|zE yT<|zE yT<|zM<|zK<|zK<|zK<|zK<|zK<|zK<|zK<|zK<|zK<|zK<|zK<|zK<|zK<|zE yT<|zZ
      refine jH rfl (fun h27=>?_) (fun h27=>?_)
      ·refine jB<|kx [(4,(vl 3 1 uZ [])),(5,(jS 5))] [] (zE (oNl 3 1)<|zM<|zZ) ?_
       refine jE ⟨_,(.tmp (d:=(.sl 3 1 (List.map uZ []))) rfl (.tmp (d:=(.val (.int .i64 (5)))) rfl .nil)),?_⟩
       have he:=hR.ord hB h27
       rw[he.1,he.2];rfl
      ·have hO:=h27
       refine jF<|jB<|jB<|kx [(114,(vb (((t.getD k tz).op == 1)&&(decide ((t.getD k tz).a<0)||decide (z<=(t.getD k tz).a)))))] [] ?_ ?_
       ·refine zE (kW yF)<|zR (qR fS)<|zE nT<|zE (oV (vb ((t.getD k tz).op == 1)) (qF (by kernel_rfl)))<|?_
        rcases hb28:((t.getD k tz).op == 1) with _ | _
        ·replace hb28:=ne_of_beq_false hb28
         exact zK<|zK<|zK<|zK<|zK<|zK<|zK<|zK<|zK<|zE gK<|zZ
        ·replace hb28:=eq_of_beq hb28
         refine zE (kW xP)<|zR (qR gN)<|zE xO<|zE (oV (vb (decide ((t.getD k tz).a<0))) (qF (by kernel_rfl)))<|?_
         rcases hb29:(decide ((t.getD k tz).a<0)) with _ | _
         ·replace hb29:=xH hb29
          exact zE (kW xP)<|zR (qR gN)<|zM<|zE oGe<|zE aG<|zE oPa<|zZ
         ·replace hb29:=xF hb29
          exact zK<|zK<|zK<|zK<|zE yT<|zE yT<|zZ
       refine jH rfl (fun h30=>?_) (fun h30=>?_)
       ·refine jB<|kx [(4,(vl 3 1 uZ [])),(5,(jS 2))] [] (zE (oNl 3 1)<|zM<|zZ) ?_
        refine jE ⟨_,(.tmp (d:=(.sl 3 1 (List.map uZ []))) rfl (.tmp (d:=(.val (.int .i64 (2)))) rfl .nil)),?_⟩
        have he:=hR.rng hB hO h30
        rw[he.1,he.2];rfl
       ·have hN:=ndr hR hB hO h30
        refine jF<|pwp_seqjoin (α:=Int) (fun v=>⟨[(1,(vi z)),(6,(.own 0 3 1 t.length)),(7,(jS k)),(25,(vl 35 7 qE t)),(26,(jS t.length)),(27,(jS k))],[(0,some (bm uZ (o.set k v)))]⟩) (fun v=>v=eD (gX t k) (t.getD k tz)) ?_ ?_
        ·refine jB<|kx [(129,(vb ((xE ((t.getD k tz).op)) == 0)))] [] (zM<|zE nT<|zM<|zZ) ?_
         refine jH (b:=((xE ((t.getD k tz).op)) == 0)) rfl (fun h31=>?_) (fun h31=>?_)
         ·replace h31:=eq_of_beq h31
          have hv:=szN_c (ss:=gX t k) h31
          refine kx [] [(0,some (bm uZ (o.set k 1)))] (zM<|zM<|zE (aJ el81 k)<|zT (oSp gN k (1:Int))<|zZ) ?_
          exact ⟨1,wk,hv⟩
         ·replace h31:=ne_of_beq_false h31
          have hk0:=h31
          obtain ⟨a1,a2,a3,a4,a5⟩:=hN.a ho hk0
          refine jB<|kx [(135,(vb ((t.getD k tz).op == 6)))] [] (zE (kW yF)<|zR (qR fS)<|zE nT<|zM<|zZ) ?_
          refine jH (b:=((t.getD k tz).op == 6)) rfl (fun h32=>?_) (fun h32=>?_)
          ·replace h32:=eq_of_beq h32
           have hv:=szN_n hk0 h32 a3
           refine kx [] [(0,some (bm uZ (o.set k (o.getD (((t.getD k tz).a).toNat) 0))))] (zM<|zM<|zM<|zE (kW xP)<|zR (qR gN)<|zE (aJ el81 (((t.getD k tz).a).toNat))<|zR (oLp gN (((t.getD k tz).a).toNat) (0:Int))<|zE (aJ el81 k)<|zT (oSp gN k (o.getD (((t.getD k tz).a).toNat) 0))<|zZ) ?_
           exact ⟨(o.getD (((t.getD k tz).a).toNat) 0),wk,hv⟩
          ·replace h32:=ne_of_beq_false h32
           have h6:=h32
           refine jB<|kx [(147,(vb ((t.getD k tz).op == 7)))] [] (zE (kW yF)<|zR (qR fS)<|zE nT<|zM<|zZ) ?_
           refine jH (b:=((t.getD k tz).op == 7)) rfl (fun h33=>?_) (fun h33=>?_)
           ·replace h33:=eq_of_beq h33
            have hv:=szN_q hk0 h33 a3
            refine kx [] [(0,some (bm uZ (o.set k (2*(o.getD (((t.getD k tz).a).toNat) 0)))))] (zM<|zM<|zM<|zE (kW xP)<|zR (qR gN)<|zE (aJ el81 (((t.getD k tz).a).toNat))<|zR (oLp gN (((t.getD k tz).a).toNat) (0:Int))<|zE (zMl (2*(o.getD (((t.getD k tz).a).toNat) 0)))<|zE (aJ el81 k)<|zT (oSp gN k (2*(o.getD (((t.getD k tz).a).toNat) 0)))<|zZ) ?_
            exact ⟨(2*(o.getD (((t.getD k tz).a).toNat) 0)),wk,hv⟩
           ·replace h33:=ne_of_beq_false h33
            obtain ⟨b1,b2,b3,b4,b5⟩:=hN.b ho hk0 h6 h33
            have hv:=szN_b hk0 h6 h33 a3 b3
            refine kd [] [(0,some (bm uZ (o.set k ((o.getD (((t.getD k tz).a).toNat) 0)+(o.getD (((t.getD k tz).b).toNat) 0)))))] mo (wM<|wM<|wM<|wE (kW xP)<|wR (qR gN)<|wE (aJ el81 (((t.getD k tz).a).toNat))<|wR (oLp gN (((t.getD k tz).a).toNat) (0:Int))<|wM<|wE (kW mS)<|wR (qR gN)<|wE (aJ el81 (((t.getD k tz).b).toNat))<|wR (oLp gN (((t.getD k tz).b).toNat) (0:Int))<|wE (zAd ((o.getD (((t.getD k tz).a).toNat) 0)+(o.getD (((t.getD k tz).b).toNat) 0)))<|wE (aJ el81 k)<|wT (oSp gN k ((o.getD (((t.getD k tz).a).toNat) 0)+(o.getD (((t.getD k tz).b).toNat) 0)))<|wZ) ?_
            exact ⟨((o.getD (((t.getD k tz).a).toNat) 0)+(o.getD (((t.getD k tz).b).toNat) 0)),wk,hv⟩
        ·rintro v hv
         have hsl:(o.set k v).length=o.length:=List.length_set
         refine jB<|kx [(164,(vb (decide (4096<((o.set k v).getD k 0)))))] [] (zM<|zM<|zE (aJ el81 k)<|zR (oLp gN k (0:Int))<|zE mB<|zZ) ?_
         refine jH (b:=decide (4096<((o.set k v).getD k 0))) rfl (fun h34=>?_) (fun h34=>?_)
         ·replace h34:=xF h34
          refine jB<|kx [(4,(vl 3 1 uZ [])),(5,(jS 3))] [] (zE (oNl 3 1)<|zM<|zZ) ?_
          refine jE ⟨_,(.tmp (d:=(.sl 3 1 (List.map uZ []))) rfl (.tmp (d:=(.val (.int .i64 (3)))) rfl .nil)),?_⟩
          have he:=hN.big hv (by omega) h34
          rw[he.1,he.2];rfl
         ·replace h34:=xH h34
          refine jF<|kx [(27,(jS (k+1)))] [] (zE (vD (k+1))<|zM<|zZ) ?_
          exact ⟨(k+1,o.set k v),wk,(hN.next hv ho (by omega)),(by first|omega|(dsimp only;omega))⟩
    ·replace h5:=xH h5
     refine kK<|jB<|kx [(4,(.own 0 3 1 t.length)),(5,(jS 0))] [] (zM<|zM<|zM<|zZ) ?_
     refine kM (vS (t:=4) (k:=0) (es:=List.map uZ o) rfl rfl (uM _ _ (fun _=>rfl)) (uD _ _ qL) (vE _ _ (fun _=>rfl) qL)) ?_
     refine jE ⟨_,(.tmp (d:=(.sl 3 1 (List.map uZ o))) rfl (.tmp (d:=(.val (.int .i64 (0)))) rfl .nil)),?_⟩
     have he:=tm_end hz0 h0 h400 hk h5 ho hu
     rw[he.1,he.2];rfl
end Go.Proofs.YtciingpdmjepgabGreatDoor
