/- Part 29 of a proof: rules, plain facts, and functions walked. -/
import Derived.Test.YtckccjhflbljgaaGreatDoorM28
set_option linter.all false
set_option maxRecDepth 4000
namespace Go.Proofs.YtckccjhflbljgaaGreatDoor
open Go.Fid
theorem cb122:callB Tryz.prog 122=true:=by kernel_rfl
theorem e_linA(n:Nat)(L:List JV)(bb:Nat)(u:JV)(hu:nY 1048576 n u)(v:JV)(hv:nY 1048576 n v)(hn:n<=64)(hL:L.length<=1000):vJ Tryz.prog 122 [(.d (.val (.func (.func 131) #[] #[]))),(.ref 2 0),(.ref 3 0),(.ref 4 0)] [(0,some (yQ n 1 L false)),(1,some (yT L)),(2,some [(.refx 0 0 bb)]),(3,some (bx (jN (uL u)))),(4,some (bx (jN (uL v))))] (.d (.tup [])) [(0,some (yQ n 11 (L++[(jk (yW u.v v.v) (fun i=>(yW (u.g.getD i z2) (v.g.getD i z2))) n)]) false)),(11,some (yT (L++[(jk (yW u.v v.v) (fun i=>(yW (u.g.getD i z2) (v.g.getD i z2))) n)]))),(2,some [(.refx 0 0 bb)])]:=by
 refine zB Tryz.func122 rfl cb122 rfl ?_
 refine jB<|kx [(4,(.ref 5 0))] [(5,some (bx (.val (.func (.func 131) #[] #[]))))] (zH (xH 5)<|zZ) ?_
 refine kf [] [(0,some (yQ n 11 (L++[(jk (yW u.v v.v) (fun i=>(yW (u.g.getD i z2) (v.g.getD i z2))) n)]) false)),(11,some (yT (L++[(jk (yW u.v v.v) (fun i=>(yW (u.g.getD i z2) (v.g.getD i z2))) n)]))),(1,none),(10,none),(3,none),(4,none),(5,none),(6,none),(7,none),(8,none),(9,none)] (zR (oLx sh111)<|zE (oMf [5,3,4])<|zE (oMf [5,3,4])<|zE (oMf [5,3,4])<|zSe (B2:=[(0,some (yQ n 1 L false)),(1,some (yT L)),(5,some (bx (.val (.func (.func 131) #[] #[])))),(3,some (bx (jN (uL u)))),(4,some (bx (jN (uL v))))]) (B2':=[(0,some (yQ n 11 (L++[(jk (yW u.v v.v) (fun i=>(yW (u.g.getD i z2) (v.g.getD i z2))) n)]) false)),(11,some (yT (L++[(jk (yW u.v v.v) (fun i=>(yW (u.g.getD i z2) (v.g.getD i z2))) n)])))]) [0,1,5,3,4,6,7,8,9,10,11] [0,5,3,4] (e_nodeA n L u hu v hv hn hL)<|zF) ?_
 refine ⟨qV (by kernel_rfl),uP (by kernel_rfl),.inl ⟨_,.nil,?_⟩⟩
 rfl
theorem e_linS(n:Nat)(L:List JV)(bb:Nat)(u:JV)(hu:nY 1048576 n u)(v:JV)(hv:nY 1048576 n v)(hn:n<=64)(hL:L.length<=1000):vJ Tryz.prog 122 [(.d (.val (.func (.func 132) #[] #[]))),(.ref 2 0),(.ref 3 0),(.ref 4 0)] [(0,some (yQ n 1 L false)),(1,some (yT L)),(2,some [(.refx 0 0 bb)]),(3,some (bx (jN (uL u)))),(4,some (bx (jN (uL v))))] (.d (.tup [])) [(0,some (yQ n 11 (L++[(jk (uC u.v v.v) (fun i=>(uC (u.g.getD i z2) (v.g.getD i z2))) n)]) false)),(11,some (yT (L++[(jk (uC u.v v.v) (fun i=>(uC (u.g.getD i z2) (v.g.getD i z2))) n)]))),(2,some [(.refx 0 0 bb)])]:=by
 refine zB Tryz.func122 rfl cb122 rfl ?_
 refine jB<|kx [(4,(.ref 5 0))] [(5,some (bx (.val (.func (.func 132) #[] #[]))))] (zH (xH 5)<|zZ) ?_
 refine kf [] [(0,some (yQ n 11 (L++[(jk (uC u.v v.v) (fun i=>(uC (u.g.getD i z2) (v.g.getD i z2))) n)]) false)),(11,some (yT (L++[(jk (uC u.v v.v) (fun i=>(uC (u.g.getD i z2) (v.g.getD i z2))) n)]))),(1,none),(10,none),(3,none),(4,none),(5,none),(6,none),(7,none),(8,none),(9,none)] (zR (oLx sh111)<|zE (oMf [5,3,4])<|zE (oMf [5,3,4])<|zE (oMf [5,3,4])<|zSe (B2:=[(0,some (yQ n 1 L false)),(1,some (yT L)),(5,some (bx (.val (.func (.func 132) #[] #[])))),(3,some (bx (jN (uL u)))),(4,some (bx (jN (uL v))))]) (B2':=[(0,some (yQ n 11 (L++[(jk (uC u.v v.v) (fun i=>(uC (u.g.getD i z2) (v.g.getD i z2))) n)]) false)),(11,some (yT (L++[(jk (uC u.v v.v) (fun i=>(uC (u.g.getD i z2) (v.g.getD i z2))) n)])))]) [0,1,5,3,4,6,7,8,9,10,11] [0,5,3,4] (e_nodeS n L u hu v hv hn hL)<|zF) ?_
 refine ⟨qV (by kernel_rfl),uP (by kernel_rfl),.inl ⟨_,.nil,?_⟩⟩
 rfl
theorem e_linN(n:Nat)(L:List JV)(bb:Nat)(u:JV)(hu:nY 1048576 n u)(v:JV)(hv:nY 1048576 n v)(hn:n<=64)(hL:L.length<=1000):vJ Tryz.prog 122 [(.clo 133 [9]),(.ref 2 0),(.ref 3 0),(.ref 4 0)] [(0,some (yQ n 1 L false)),(1,some (yT L)),(2,some [(.refx 0 0 bb)]),(3,some (bx (jN (uL u)))),(4,some (bx (jN (uL v)))),(9,some (bx (jM (qF (gw 0)))))] (.d (.tup [])) [(0,some (yQ n 15 (L++[(jk (uC (gw 0) u.v) (fun i=>(uC (gw 0) (u.g.getD i z2))) n)]) false)),(15,some (yT (L++[(jk (uC (gw 0) u.v) (fun i=>(uC (gw 0) (u.g.getD i z2))) n)]))),(2,some [(.refx 0 0 bb)])]:=by
 refine zB Tryz.func122 rfl cb122 rfl ?_
 refine jB<|kx [(4,(.ref 10 0))] [(10,some [(.clo 133 [9])])] (zH (oBy 10)<|zZ) ?_
 refine kf [(0,.junk)] [(0,some (yQ n 15 (L++[(jk (uC (gw 0) u.v) (fun i=>(uC (gw 0) (u.g.getD i z2))) n)]) false)),(15,some (yT (L++[(jk (uC (gw 0) u.v) (fun i=>(uC (gw 0) (u.g.getD i z2))) n)]))),(1,none),(10,none),(11,none),(12,none),(13,none),(14,none),(3,none),(4,none),(9,none)] (zR (oLx sh111)<|zE (oMf [10,3,4])<|zE (oMf [10,3,4])<|zE (oMf [10,3,4])<|zSe (B2:=[(0,some (yQ n 1 L false)),(1,some (yT L)),(10,some [(.clo 133 [9])]),(3,some (bx (jN (uL u)))),(4,some (bx (jN (uL v)))),(9,some (bx (jM (qF (gw 0)))))]) (B2':=[(0,some (yQ n 15 (L++[(jk (uC (gw 0) u.v) (fun i=>(uC (gw 0) (u.g.getD i z2))) n)]) false)),(15,some (yT (L++[(jk (uC (gw 0) u.v) (fun i=>(uC (gw 0) (u.g.getD i z2))) n)])))]) [0,1,10,3,4,9,11,12,13,14,15] [0,10,3,4] (e_nodeN n L u hu v hv hn hL)<|zF) ?_
 refine ⟨qV (by kernel_rfl),uP (by kernel_rfl),.inl ⟨_,.nil,?_⟩⟩
 rfl
theorem cb77:callB Tryz.prog 77=true:=by kernel_rfl
set_option maxHeartbeats 4000000 in
theorem e_stepN0(x0:kC)(bv:List R2)(hbx:∀ x∈bv,GL 1048576 x)(L:List JV)(hn:bv.length<=64)(hL:L.length<=1000)(hLk:∀ y∈L,nY 1048576 bv.length y)(hx:fK bv.length L x0):let x:=x0;vJ Tryz.prog 77 [(.ref 0 0),(.d (jK x)),(vl 42 8 jM (List.map qF bv))] [(0,some (yQ bv.length 1 (L) false)),(1,some (yT (L)))] (.d (.tup [])) [(0,some (yQ bv.length 18 (L++[nJ bv L x]) false)),(18,some (yT (L++[nJ bv L x])))]:=by
 rcases hx with @⟨p,hp⟩ | @⟨a,ha⟩ | @⟨a,b,ha,hb⟩ | @⟨a,b,ha,hb⟩ | @⟨a,b,ha,hb⟩ | @⟨a,b,ha,hb,hz⟩ | @⟨a,ha⟩ | @⟨a,ha⟩
 all_goals
  intro x
  refine zB Tryz.func77 rfl cb77 rfl ?_
  refine jB<|kx [(3,(.ref 2 0)),(4,(.ref 3 0)),(5,(.ref 4 0))] [(2,some [(.ref 0 0)]),(3,some (bx (jK x))),(4,some (bx (.sl 42 8 (List.map jM (List.map qF bv)))))] (zH (oBy 2)<|zH (xH 3)<|zH (xH 4)<|zZ) ?_
  refine jB<|pwp_fix 2 (k:=0) (o:=0) (h:=fun b0=>?_)
  refine qH (wk (l:=[(0,(.ref 0 0)),(3,(.ref 2 0)),(4,(.ref 3 0)),(5,(.ref 4 0))]) (b:=[(0,some (yQ bv.length 1 L false)),(1,some (yT L)),(2,some [(.refx 0 0 b0)]),(3,some (bx (jK x))),(4,some (bx (.sl 42 8 (List.map jM (List.map qF bv)))))])) ?_
  refine kx [(6,(.ref 5 0))] [(5,some (bx (jM (qF (gw 0)))))] (zE (kF (j_whole ((0:Nat):Int) (by omega) (by omega)))<|zH (vT 5 vX xA)<|zT (qU kM)<|zZ) ?_
  refine jB<|kx [(7,(.clo 121 [5]))] [] (zE (oMf [5])<|zM<|zZ) ?_
  refine jB<|kx [(8,(.ref 6 0)),(9,(.ref 7 0))] [(6,some (bx (jN (fZ.mk (kH.mk vQ vQ) [] [])))),(7,some (bx (jN (fZ.mk (kH.mk vQ vQ) [] []))))] (zH (vT 6 ze46 zo46)<|zH (vT 7 ze46 zo46)<|zZ) ?_
  refine jB<|kx [(10,(vi (qW x.op)))] [] (zE (kL xU)<|zR (qK dA)<|zE (kF (j_kids x.op))<|zM<|zZ) ?_
  refine jB<|jB ?_
  first
   |(refine kx [(19,(vb true))] [] (zM<|zE (fC true eA (e:=rfl))<|zZ) ?_;refine cQ ?_;refine kd [] [(6,some (bx (jN (uL (L.getD a jz)))))] mo (wR (oLx sh111)<|wE oNc<|wE (kL fo113_3)<|wR (qK sh88)<|wE (kL qN)<|wR (qK uF)<|wE (oXO el88 a (hj:=by first | omega | rfl | (simp only[List.length_map];omega) | (dsimp only;omega)) (h1:=by first | omega | rfl | (simp only[List.length_map];omega) | (dsimp only;omega)))<|wR (dR (jN ((List.map uL L).getD a (fZ.mk (kH.mk vQ vQ) [] []))) (jN (uL (L.getD a jz))) (oLA sh46 a (fZ.mk (kH.mk vQ vQ) [] []) (h1:=by first | omega | rfl | (simp only[List.length_map];omega) | (dsimp only;omega))) (by exact (congrArg jN (map_getD uL L jz _ (by omega)))))<|wT (qU sh46)<|wZ) ?_)
   |(refine kx [(19,(vb false))] [] (zM<|zE (fC false eA (e:=rfl))<|zZ) ?_;refine vH ?_;refine jH ?_)
  refine jB<|jB ?_
  first
   |(refine kx [(29,(vb true))] [] (zM<|zE (fC true eA (e:=rfl))<|zZ) ?_;refine cQ ?_;refine kd [] [(7,some (bx (jN (uL (L.getD b jz)))))] mo (wR (oLx sh111)<|wE oNc<|wE (kL fo113_3)<|wR (qK sh88)<|wE (kL uV)<|wR (qK uF)<|wE (oXO el88 b (hj:=by first | omega | rfl | (simp only[List.length_map];omega) | (dsimp only;omega)) (h1:=by first | omega | rfl | (simp only[List.length_map];omega) | (dsimp only;omega)))<|wR (dR (jN ((List.map uL L).getD b (fZ.mk (kH.mk vQ vQ) [] []))) (jN (uL (L.getD b jz))) (oLA sh46 b (fZ.mk (kH.mk vQ vQ) [] []) (h1:=by first | omega | rfl | (simp only[List.length_map];omega) | (dsimp only;omega))) (by exact (congrArg jN (map_getD uL L jz _ (by omega)))))<|wT (qU sh46)<|wZ) ?_)
   |(refine kx [(29,(vb false))] [] (zM<|zE (fC false eA (e:=rfl))<|zZ) ?_;refine vH ?_;refine jH ?_)
  refine jB<|kx [(11,(.clo 122 [2,6,7]))] [] (zE (oMf [2,6,7])<|zM<|zZ) ?_
  refine jB<|kx [(40,(vi x.op))] [] (zE (kL xU)<|zR (qK dA)<|zZ) ?_
  refine jL ?_
 all_goals refine jB ?_
 ·rw[show nJ bv L x=(jk (gpt p) (fun i=>(gw 0)) bv.length) from by show nJ bv L (kC.mk 0 0 0 (jV p))=_;unfold nJ nV nG;rw[cY];rfl]
  refine kx [(46,(vb true))] [] (zE (fC true yA (e:=rfl))<|zM<|zZ) ?_
  refine cQ ?_
  refine kf [] [(0,some (yQ bv.length 18 (L++[(jk (gpt p) (fun i=>(gw 0)) bv.length)]) false)),(18,some (yT (L++[(jk (gpt p) (fun i=>(gw 0)) bv.length)]))),(1,none),(10,none),(11,none),(12,none),(13,none),(3,none),(5,none),(8,none),(9,none)] (zR (oLx sh111)<|zE (oMf [3])<|zE (oMf [5])<|zM<|zSe (B2:=[(0,some (yQ bv.length 1 L false)),(1,some (yT L)),(3,some (bx (jK x))),(5,some (bx (jM (qF (gw 0)))))]) (B2':=[(0,some (yQ bv.length 18 (L++[(jk (gpt p) (fun i=>(gw 0)) bv.length)]) false)),(18,some (yT (L++[(jk (gpt p) (fun i=>(gw 0)) bv.length)])))]) [0,1,3,5,8,9,10,11,12,13,18] [0,3,5] (e_nodeC bv.length L p hp (gw 0) (gl_w (z:=0) (by omega) (by omega)) hn hL)<|zF) ?_
  refine ⟨qV (by kernel_rfl),uP (by kernel_rfl),.inl ⟨_,.nil,?_⟩⟩
  rfl
 all_goals
  refine kx [(46,(vb false))] [] (zE (fC false yA (e:=rfl))<|zM<|zZ) ?_
  refine vH ?_
 all_goals refine jB ?_
 ·refine kx [(53,(vb true))] [] (zE (fC true yA (e:=rfl))<|zM<|zZ) ?_
  refine cQ ?_
  refine kf [] [(0,some (yQ bv.length 18 (L++[(nJ bv L x)]) false)),(18,some (yT (L++[(nJ bv L x)]))),(1,none),(10,none),(11,none),(12,none),(3,none),(4,none),(5,none),(8,none),(9,none)] (zR (oLx sh111)<|zE (oMf [4,3])<|zE (oMf [3,5])<|zM<|zSe (B2:=[(0,some (yQ bv.length 1 L false)),(1,some (yT L)),(4,some (bx (.sl 42 8 (List.map jM (List.map qF bv))))),(3,some (bx (jK x))),(5,some (bx (jM (qF (gw 0)))))]) (B2':=[(0,some (yQ bv.length 18 (L++[(nJ bv L x)]) false)),(18,some (yT (L++[(nJ bv L x)])))]) [0,1,4,3,5,8,9,10,11,12,18] [0,4,3,5] (e_nodeV bv.length L bv hbx a (gw 0) (gl_w (z:=0) (by omega) (by omega)) hn hL ha (by omega))<|zF) ?_
  refine ⟨qV (by kernel_rfl),uP (by kernel_rfl),.inl ⟨_,.nil,?_⟩⟩
  rfl
 all_goals
  refine kx [(53,(vb false))] [] (zE (fC false yA (e:=rfl))<|zM<|zZ) ?_
  refine vH ?_
 all_goals refine jB ?_
 ·refine kx [(60,(vb true))] [] (zE (fC true yA (e:=rfl))<|zM<|zZ) ?_
  refine cQ ?_
  refine kf [] [(0,some (yQ bv.length 18 (L++[(nJ bv L x)]) false)),(18,some (yT (L++[(nJ bv L x)]))),(1,none),(10,none),(11,none),(12,none),(13,none),(2,none),(6,none),(7,none),(8,none),(9,none)] (zM<|zSe (B2:=[(0,some (yQ bv.length 1 L false)),(1,some (yT L)),(2,some [(.refx 0 0 b0)]),(6,some (bx (jN (uL (L.getD a jz))))),(7,some (bx (jN (uL (L.getD b jz)))))]) (B2':=[(0,some (yQ bv.length 18 (L++[(nJ bv L x)]) false)),(18,some (yT (L++[(nJ bv L x)]))),(2,some [(.refx 0 0 b0)])]) [0,1,2,6,7,8,9,10,11,12,13,18] [2,6,7,0] (e_linA bv.length L b0 (L.getD a jz) (dJ hLk ha) (L.getD b jz) (dJ hLk hb) hn hL) (G:=[0]) (hG:=by exact (.cons (k:=0) (q:=2) (o:=0) (b:=b0) (j:=0) (by kernel_rfl) (by kernel_rfl) (by kernel_rfl) .nil)) (ex:=[.ref 2 0,.ref 6 0,.ref 7 0]) (hy:=.clo (kk:=[2,6,7]) (by kernel_rfl) (by kernel_rfl))<|zF) ?_
  refine ⟨qV (by kernel_rfl),uP (by kernel_rfl),.inl ⟨_,.nil,?_⟩⟩
  rfl
 all_goals
  refine kx [(60,(vb false))] [] (zE (fC false yA (e:=rfl))<|zM<|zZ) ?_
  refine vH ?_
 all_goals refine jB ?_
 ·refine kx [(64,(vb true))] [] (zE (fC true yA (e:=rfl))<|zM<|zZ) ?_
  refine cQ ?_
  refine kf [] [(0,some (yQ bv.length 18 (L++[(nJ bv L x)]) false)),(18,some (yT (L++[(nJ bv L x)]))),(1,none),(10,none),(11,none),(12,none),(13,none),(2,none),(6,none),(7,none),(8,none),(9,none)] (zM<|zSe (B2:=[(0,some (yQ bv.length 1 L false)),(1,some (yT L)),(2,some [(.refx 0 0 b0)]),(6,some (bx (jN (uL (L.getD a jz))))),(7,some (bx (jN (uL (L.getD b jz)))))]) (B2':=[(0,some (yQ bv.length 18 (L++[(nJ bv L x)]) false)),(18,some (yT (L++[(nJ bv L x)]))),(2,some [(.refx 0 0 b0)])]) [0,1,2,6,7,8,9,10,11,12,13,18] [2,6,7,0] (e_linS bv.length L b0 (L.getD a jz) (dJ hLk ha) (L.getD b jz) (dJ hLk hb) hn hL) (G:=[0]) (hG:=by exact (.cons (k:=0) (q:=2) (o:=0) (b:=b0) (j:=0) (by kernel_rfl) (by kernel_rfl) (by kernel_rfl) .nil)) (ex:=[.ref 2 0,.ref 6 0,.ref 7 0]) (hy:=.clo (kk:=[2,6,7]) (by kernel_rfl) (by kernel_rfl))<|zF) ?_
  refine ⟨qV (by kernel_rfl),uP (by kernel_rfl),.inl ⟨_,.nil,?_⟩⟩
  rfl
 all_goals
  refine kx [(64,(vb false))] [] (zE (fC false yA (e:=rfl))<|zM<|zZ) ?_
  refine vH ?_
 rotate_left 2
 all_goals refine jB ?_
 ·refine kx [(68,(vb true))] [] (zE (fC true yA (e:=rfl))<|zM<|zZ) ?_
  refine cQ ?_
  refine jB<|kx [] [(7,some (bx (jN (uL (L.getD a jz)))))] (zR (dR (jN (uL (L.getD a jz))) (jN (uL (L.getD a jz))) (kV sh46) (by exact rfl))<|zT (qU sh46)<|zZ) ?_
  refine kf [(6,.junk),(7,.junk)] [(0,some (yQ bv.length 18 (L++[(nJ bv L x)]) false)),(18,some (yT (L++[(nJ bv L x)]))),(1,none),(10,none),(11,none),(12,none),(13,none),(14,none),(15,none),(16,none),(2,none),(5,none),(6,none),(7,none),(8,none),(9,none)] (zM<|zE (oMf [5])<|zSe (B2:=[(0,some (yQ bv.length 1 L false)),(1,some (yT L)),(2,some [(.refx 0 0 b0)]),(6,some (bx (jN (uL (L.getD a jz))))),(7,some (bx (jN (uL (L.getD a jz))))),(5,some (bx (jM (qF (gw 0)))))]) (B2':=[(0,some (yQ bv.length 18 (L++[(nJ bv L x)]) false)),(18,some (yT (L++[(nJ bv L x)]))),(2,some [(.refx 0 0 b0)])]) [0,1,2,6,7,8,9,10,11,5,12,13,14,15,16,18] [2,6,7,0] (e_linN bv.length L b0 (L.getD a jz) (dJ hLk ha) (L.getD a jz) (dJ hLk ha) hn hL) (G:=[0]) (hG:=by exact (.cons (k:=0) (q:=2) (o:=0) (b:=b0) (j:=0) (by kernel_rfl) (by kernel_rfl) (by kernel_rfl) .nil)) (ex:=[.ref 2 0,.ref 6 0,.ref 7 0]) (hy:=.clo (kk:=[2,6,7]) (by kernel_rfl) (by kernel_rfl))<|zF) ?_
  refine ⟨qV (by kernel_rfl),uP (by kernel_rfl),.inl ⟨_,.nil,?_⟩⟩
  rfl
 all_goals
  refine kx [(68,(vb false))] [] (zE (fC false yA (e:=rfl))<|zM<|zZ) ?_
  refine vH ?_
 rotate_left 1
 all_goals refine jB ?_
 ·refine kx [(74,(vb true))] [] (zE (fC true yA (e:=rfl))<|zM<|zZ) ?_
  refine cQ ?_
  refine kf [] [(0,some (yQ bv.length 18 (L++[(nJ bv L x)]) false)),(18,some (yT (L++[(nJ bv L x)]))),(1,none),(10,none),(11,none),(12,none),(13,none),(6,none),(7,none),(8,none),(9,none)] (zR (oLx sh111)<|zE (oMf [6,7])<|zE (oMf [6,7])<|zE (oMf [6,7])<|zSe (B2:=[(0,some (yQ bv.length 1 L false)),(1,some (yT L)),(6,some (bx (jN (uL (L.getD a jz))))),(7,some (bx (jN (uL (L.getD b jz)))))]) (B2':=[(0,some (yQ bv.length 18 (L++[(nJ bv L x)]) false)),(18,some (yT (L++[(nJ bv L x)])))]) [0,1,6,7,8,9,10,11,12,13,18] [0,6,7] (e_nodeM bv.length L (L.getD a jz) (dJ hLk ha) (L.getD b jz) (dJ hLk hb) hn hL)<|zF) ?_
  refine ⟨qV (by kernel_rfl),uP (by kernel_rfl),.inl ⟨_,.nil,?_⟩⟩
  rfl
 all_goals
  refine kx [(74,(vb false))] [] (zE (fC false yA (e:=rfl))<|zM<|zZ) ?_
  refine vH ?_
 rotate_left 1
 all_goals refine jB ?_
 ·refine kx [(81,(vb true))] [] (zE (fC true yA (e:=rfl))<|zM<|zZ) ?_
  refine cQ ?_
  refine jB<|kx [(12,(.ref 8 0))] [(8,some (bx (jM (qF (gw 2)))))] (zE (kF (j_whole ((2:Nat):Int) (by omega) (by omega)))<|zH (vT 8 vX xA)<|zT (qU kM)<|zZ) ?_
  refine kf [] [(0,some (yQ bv.length 18 (L++[(nJ bv L x)]) false)),(18,some (yT (L++[(nJ bv L x)]))),(1,none),(10,none),(11,none),(12,none),(13,none),(14,none),(6,none),(8,none),(9,none)] (zR (oLx sh111)<|zE (oMf [6])<|zE (oMf [8,6])<|zE (oMf [6,8])<|zSe (B2:=[(0,some (yQ bv.length 1 L false)),(1,some (yT L)),(6,some (bx (jN (uL (L.getD a jz))))),(8,some (bx (jM (qF (gw 2)))))]) (B2':=[(0,some (yQ bv.length 18 (L++[(nJ bv L x)]) false)),(18,some (yT (L++[(nJ bv L x)])))]) [0,1,6,8,9,10,11,12,13,14,18] [0,6,8] (e_nodeQ bv.length L (L.getD a jz) (dJ hLk ha) (gw 2) (gl_w (z:=2) (by omega) (by omega)) hn hL)<|zF) ?_
  refine ⟨qV (by kernel_rfl),uP (by kernel_rfl),.inl ⟨_,.nil,?_⟩⟩
  rfl
 all_goals
  refine kx [(81,(vb false))] [] (zE (fC false yA (e:=rfl))<|zM<|zZ) ?_
  refine vH ?_
 ·refine kf [] [(0,some (yQ bv.length 18 (L++[(nJ bv L x)]) false)),(18,some (yT (L++[(nJ bv L x)]))),(1,none),(10,none),(11,none),(12,none),(2,none),(6,none),(7,none),(8,none),(9,none)] (zR (oLx sh111)<|zE (oMf [2,6,7])<|zE (oMf [2,6,7])<|zE (oMf [6,7,2])<|zSe (B2:=[(0,some (yQ bv.length 1 L false)),(1,some (yT L)),(2,some [(.refx 0 0 b0)]),(6,some (bx (jN (uL (L.getD a jz))))),(7,some (bx (jN (uL (L.getD b jz)))))]) (B2':=[(0,some (yQ bv.length 18 (L++[(nJ bv L x)]) false)),(18,some (yT (L++[(nJ bv L x)])))]) [0,1,2,6,7,8,9,10,11,12,18] [0,2,6,7] (e_nodeD bv.length L b0 (L.getD a jz) (dJ hLk ha) (L.getD b jz) (dJ hLk hb) hn hL hz)<|zF) ?_
  refine ⟨qV (by kernel_rfl),uP (by kernel_rfl),.inl ⟨_,.nil,?_⟩⟩
  rfl
theorem j_sizes(t:List kC)(ht:eQ 1048576 t)(z:Int):jS Tryz.prog 80 [(.sl 72 7 (List.map jK t)),(.val (.int .i64 (z)))] (.tup [(.sl 3 1 (List.map jG (aK z t))),(.val (.int .i64 ((((nE z t):Nat):Int))))]):=by
 refine vA Tryz.func80 ?_
 refine jB<|kx [] [] (zE (eY 3 1)<|zM<|zZ) ?_
 refine jB<|jB<|kx [(15,(vb (decide (z<0)||decide (64<z))))] [] ?_ ?_
 ·refine zM<|zE nD<|zE (oV (vb (decide (z<0))) (qE (by kernel_rfl)))<|?_
  rcases hb1:(decide (z<0)) with _ | _
  ·replace hb1:=xJ hb1
   exact zM<|zE eA<|zE fW<|zZ
  ·replace hb1:=vW hb1
   exact zK<|zK<|zE nT<|zZ
 refine jF (b:=(decide (z<0)||decide (64<z))) rfl (fun h2=>?_) (fun h2=>?_)
 ·refine jB<|kx [(4,(vl 3 1 jG [])),(5,(kJ 2))] [] (zE (eY 3 1)<|zM<|zZ) ?_
  refine jE ⟨_,(.tmp (d:=(.sl 3 1 (List.map jG []))) rfl (.tmp (d:=(.val (.int .i64 (2)))) rfl .nil)),?_⟩
  have he:=zb_t (t:=t) h2
  rw[he.1,he.2];rfl
 ·have hz0:=h2
  refine jH<|jB<|jB<|kx [(18,(vb (((t.length:Nat):Int) == 0)))] [] (zM<|zE (yD xW)<|zE yA<|zZ) ?_
  refine jF (b:=(((t.length:Nat):Int) == 0)) rfl (fun h3=>?_) (fun h3=>?_)
  ·replace h3:=eq_of_beq h3
   refine jB<|kx [(4,(vl 3 1 jG [])),(5,(kJ 1))] [] (zE (eY 3 1)<|zM<|zZ) ?_
   refine jE ⟨_,(.tmp (d:=(.sl 3 1 (List.map jG []))) rfl (.tmp (d:=(.val (.int .i64 (1)))) rfl .nil)),?_⟩
   have he:=tm_l0 hz0 (show t.length=0 by omega)
   rw[he.1,he.2];rfl
  ·replace h3:=ne_of_beq_false h3
   have h0:=h3
   refine jH<|jB<|jB<|kx [(21,(vb (decide (400<((t.length:Nat):Int)))))] [] (zM<|zE (yD xW)<|zE eA<|zZ) ?_
   refine jF (b:=decide (400<((t.length:Nat):Int))) rfl (fun h4=>?_) (fun h4=>?_)
   ·replace h4:=vW h4
    refine jB<|kx [(4,(vl 3 1 jG [])),(5,(kJ 3))] [] (zE (eY 3 1)<|zM<|zZ) ?_
    refine jE ⟨_,(.tmp (d:=(.sl 3 1 (List.map jG []))) rfl (.tmp (d:=(.val (.int .i64 (3)))) rfl .nil)),?_⟩
    have he:=tm_lb hz0 (show 400<t.length by omega)
    rw[he.1,he.2];rfl
   ·replace h4:=xJ h4
    have h400:=h4
    refine jH<|jB<|kx [(6,(.own 0 3 1 t.length))] [(0,some (bm jG (List.replicate t.length 0)))] (zM<|zE (yD xW)<|zN (oMk 0 jG (0:Int) t.length t.length uA ze3 zo3 by3)<|zM<|zZ) ?_
    refine jB<|jB<|kx [(25,(vl 72 7 jK t)),(26,(kJ t.length)),(27,(kJ 0))] [] (zM<|zE (yD xW)<|zM<|zZ) ?_
    refine jL<|kW (α:=Nat × List Int) (fun (k,o)=>⟨[(1,(vi z)),(6,(.own 0 3 1 t.length)),(25,(vl 72 7 jK t)),(26,(kJ t.length)),(27,(kJ k))],[(0,some (bm jG o))]⟩) (fun (k,o)=>k<=t.length/\szI t k o/\szUp z t k) (fun (k,o)=>t.length-k) (0,List.replicate t.length 0) wk ⟨Nat.zero_le _,szI_0,szUp_0 _ _⟩ ?_
    rintro ⟨k,o⟩ ⟨hk,ho,hu⟩
    have qG:=ho.1
    refine jB<|kx [(28,(vb (decide (((k:Nat):Int)<((t.length:Nat):Int)))))] [] (zE nD<|zZ) ?_
    refine jB<|jF rfl (fun h5=>?_) (fun h5=>?_)
    ·replace h5:=vW h5
     have hR:=tmr hz0 h5 h400 hu
     have hkl:=hR.kl
     refine jH<|jB<|jL<|jB<|kx [(7,(kJ k)),(8,(.ref 1 0))] [(1,some (bx (jK (t.getD k tz))))] (zM<|zE (cR xW k (tz:kC))<|zE (dH eB)<|zH (vT 1 cO fA)<|zM<|zT (qU eB)<|zZ) ?_
     refine jB<|kx [(9,(vi (qW ((t.getD k tz).op))))] [] (zE (kL xU)<|zR (qK dA)<|zE (kF (j_kids ((t.getD k tz).op)))<|zM<|zZ) ?_
     refine jB<|jB<|kx [(72,(vb (((decide ((qW ((t.getD k tz).op))<0)||(decide ((qW ((t.getD k tz).op))<2)&&((t.getD k tz).b != 0)))||(((t.getD k tz).op == 0)&&(((t.getD k tz).a != 0)||!(kN ((t.getD k tz).n)))))||(((t.getD k tz).op != 0)&&!(unsB ((t.getD k tz).n))))))] [] ?_ ?_
     ·refine zM<|zE nD<|zE (oV (vb (decide ((qW ((t.getD k tz).op))<0))) (qE (by kernel_rfl)))<|?_
      rcases hb6:(decide ((qW ((t.getD k tz).op))<0)) with _ | _
      ·replace hb6:=xJ hb6
       refine zM<|zE nD<|zE (oV (vb (decide ((qW ((t.getD k tz).op))<2))) (qE (by kernel_rfl)))<|?_
       rcases hb7:(decide ((qW ((t.getD k tz).op))<2)) with _ | _
       ·replace hb7:=xJ hb7
        refine zK<|zK<|zK<|zE gG<|zE gG<|zM<|zE (kL xU)<|zR (qK dA)<|zE yA<|zE (oV (vb ((t.getD k tz).op == 0)) (qE (by kernel_rfl)))<|?_
        rcases hb8:((t.getD k tz).op == 0) with _ | _
        ·replace hb8:=ne_of_beq_false hb8
         refine zK<|zK<|zK<|zK<|zK<|zK<|zK<|zK<|zK<|zE gG<|zE gG<|zM<|zE (kL xU)<|zR (qK dA)<|zE oNe<|zE (oV (vb ((t.getD k tz).op != 0)) (qE (by kernel_rfl)))<|?_
         rcases hb9:((t.getD k tz).op != 0) with _ | _
         ·replace hb9:=bne_eq_false_iff_eq.1 hb9
          exact zK<|zK<|zK<|zK<|zE gG<|zE gG<|zZ
         ·replace hb9:=bne_iff_ne.1 hb9
          exact zE (kL gX)<|zR (kV kA)<|zE (kF (j_unset ((t.getD k tz).n) (xD (t.getD k tz).n) (tn_get ht (show k<t.length by omega))))<|zE oNt<|zE dZ<|zE fW<|zZ
        ·replace hb8:=eq_of_beq hb8
         refine zE (kL qN)<|zR (qK uF)<|zE oNe<|zE (oV (vb ((t.getD k tz).a != 0)) (qE (by kernel_rfl)))<|?_
         rcases hb10:((t.getD k tz).a != 0) with _ | _
         ·replace hb10:=bne_eq_false_iff_eq.1 hb10
          refine zE (kL gX)<|zR (kV kA)<|zE (kF (f_valid ((t.getD k tz).n) (xD (t.getD k tz).n) (kE (tn_get ht (show k<t.length by omega)))))<|zE oNt<|zE fW<|zE dZ<|zE fW<|zE (oV (vb (false||(true&&(false||!(kN ((t.getD k tz).n)))))) (qE (by kernel_rfl)))<|?_
          rcases hb11:(!(kN ((t.getD k tz).n))) with _ | _
          ·refine zE (kL xU)<|zR (qK dA)<|zE oNe<|zE (oV (vb ((t.getD k tz).op != 0)) (qE (by kernel_rfl)))<|?_
           rcases hb12:((t.getD k tz).op != 0) with _ | _
           ·replace hb12:=bne_eq_false_iff_eq.1 hb12
            exact zK<|zK<|zK<|zK<|zE gG<|zE gG<|zZ
           ·replace hb12:=bne_iff_ne.1 hb12
            exact zE (kL gX)<|zR (kV kA)<|zE (kF (j_unset ((t.getD k tz).n) (xD (t.getD k tz).n) (tn_get ht (show k<t.length by omega))))<|zE oNt<|zE dZ<|zE fW<|zZ
          ·exact zK<|zK<|zK<|zK<|zK<|zK<|zK<|zK<|zK<|zE nT<|zZ
         ·replace hb10:=bne_iff_ne.1 hb10
          exact zK<|zK<|zK<|zK<|zE nT<|zE nT<|zE gG<|zM<|zK<|zK<|zK<|zK<|zK<|zK<|zK<|zK<|zK<|zE nT<|zZ
       ·replace hb7:=vW hb7
        refine zE (kL uV)<|zR (qK uF)<|zE oNe<|zE dZ<|zE fW<|zE (oV (vb (false||(true&&((t.getD k tz).b != 0)))) (qE (by kernel_rfl)))<|?_
        rcases hb13:((t.getD k tz).b != 0) with _ | _
        ·replace hb13:=bne_eq_false_iff_eq.1 hb13
         refine zE (kL xU)<|zR (qK dA)<|zE yA<|zE (oV (vb ((t.getD k tz).op == 0)) (qE (by kernel_rfl)))<|?_
         rcases hb14:((t.getD k tz).op == 0) with _ | _
         ·replace hb14:=ne_of_beq_false hb14
          refine zK<|zK<|zK<|zK<|zK<|zK<|zK<|zK<|zK<|zE gG<|zE gG<|zM<|zE (kL xU)<|zR (qK dA)<|zE oNe<|zE (oV (vb ((t.getD k tz).op != 0)) (qE (by kernel_rfl)))<|?_
          rcases hb15:((t.getD k tz).op != 0) with _ | _
          ·replace hb15:=bne_eq_false_iff_eq.1 hb15
           exact zK<|zK<|zK<|zK<|zE gG<|zE gG<|zZ
          ·replace hb15:=bne_iff_ne.1 hb15
           exact zE (kL gX)<|zR (kV kA)<|zE (kF (j_unset ((t.getD k tz).n) (xD (t.getD k tz).n) (tn_get ht (show k<t.length by omega))))<|zE oNt<|zE dZ<|zE fW<|zZ
         ·replace hb14:=eq_of_beq hb14
          refine zE (kL qN)<|zR (qK uF)<|zE oNe<|zE (oV (vb ((t.getD k tz).a != 0)) (qE (by kernel_rfl)))<|?_
          rcases hb16:((t.getD k tz).a != 0) with _ | _
          ·replace hb16:=bne_eq_false_iff_eq.1 hb16
           refine zE (kL gX)<|zR (kV kA)<|zE (kF (f_valid ((t.getD k tz).n) (xD (t.getD k tz).n) (kE (tn_get ht (show k<t.length by omega)))))<|zE oNt<|zE fW<|zE dZ<|zE fW<|zE (oV (vb (false||(true&&(false||!(kN ((t.getD k tz).n)))))) (qE (by kernel_rfl)))<|?_
           rcases hb17:(!(kN ((t.getD k tz).n))) with _ | _
           ·refine zE (kL xU)<|zR (qK dA)<|zE oNe<|zE (oV (vb ((t.getD k tz).op != 0)) (qE (by kernel_rfl)))<|?_
            rcases hb18:((t.getD k tz).op != 0) with _ | _
            ·replace hb18:=bne_eq_false_iff_eq.1 hb18
             exact zK<|zK<|zK<|zK<|zE gG<|zE gG<|zZ
            ·replace hb18:=bne_iff_ne.1 hb18
             exact zE (kL gX)<|zR (kV kA)<|zE (kF (j_unset ((t.getD k tz).n) (xD (t.getD k tz).n) (tn_get ht (show k<t.length by omega))))<|zE oNt<|zE dZ<|zE fW<|zZ
           ·exact zK<|zK<|zK<|zK<|zK<|zK<|zK<|zK<|zK<|zE nT<|zZ
          ·replace hb16:=bne_iff_ne.1 hb16
           exact zK<|zK<|zK<|zK<|zE nT<|zE nT<|zE gG<|zM<|zK<|zK<|zK<|zK<|zK<|zK<|zK<|zK<|zK<|zE nT<|zZ
        ·replace hb13:=bne_iff_ne.1 hb13
         exact zK<|zK<|zK<|zK<|zK<|zK<|zK<|zK<|zK<|zK<|zK<|zK<|zK<|zK<|zE nT<|zM<|zK<|zK<|zK<|zK<|zK<|zK<|zK<|zK<|zK<|zE nT<|zZ
      ·replace hb6:=vW hb6
       exact zK<|zK<|zK<|zK<|zK<|zK<|zK<|zE nT<|zM<|zK<|zK<|zK<|zK<|zK<|zK<|zK<|zK<|zK<|zK<|zK<|zK<|zK<|zK<|zE nT<|zM<|zK<|zK<|zK<|zK<|zK<|zK<|zK<|zK<|zK<|zE nT<|zZ
     refine jF rfl (fun h19=>?_) (fun h19=>?_)
     ·refine jB<|kx [(4,(vl 3 1 jG [])),(5,(kJ 1))] [] (zE (eY 3 1)<|zM<|zZ) ?_
      refine jE ⟨_,(.tmp (d:=(.sl 3 1 (List.map jG []))) rfl (.tmp (d:=(.val (.int .i64 (1)))) rfl .nil)),?_⟩
      have he:=hR.bad h19
      rw[he.1,he.2];rfl
     ·have hB:=h19
      refine jH<|jB<|jB<|kx [(100,(vb ((decide (0<(qW ((t.getD k tz).op)))&&(decide ((t.getD k tz).a<0)||decide (((k:Nat):Int)<=(t.getD k tz).a)))||(decide (1<(qW ((t.getD k tz).op)))&&(decide ((t.getD k tz).b<0)||decide (((k:Nat):Int)<=(t.getD k tz).b))))))] [] ?_ ?_
      ·refine zM<|zE eA<|zE (oV (vb (decide (0<(qW ((t.getD k tz).op))))) (qE (by kernel_rfl)))<|?_
       rcases hb20:(decide (0<(qW ((t.getD k tz).op)))) with _ | _
       ·replace hb20:=xJ hb20
        refine zK<|zK<|zK<|zK<|zK<|zK<|zK<|zK<|zK<|zE gG<|zM<|zM<|zE eA<|zE (oV (vb (decide (1<(qW ((t.getD k tz).op))))) (qE (by kernel_rfl)))<|?_
        rcases hb21:(decide (1<(qW ((t.getD k tz).op)))) with _ | _
        ·replace hb21:=xJ hb21
         exact zK<|zK<|zK<|zK<|zK<|zK<|zK<|zK<|zK<|zE gG<|zE gG<|zZ
        ·replace hb21:=vW hb21
         refine zE (kL uV)<|zR (qK uF)<|zE nD<|zE (oV (vb (decide ((t.getD k tz).b<0))) (qE (by kernel_rfl)))<|?_
         rcases hb22:(decide ((t.getD k tz).b<0)) with _ | _
         ·replace hb22:=xJ hb22
          exact zE (kL uV)<|zR (qK uF)<|zM<|zE oGe<|zE fW<|zE dZ<|zE fW<|zZ
         ·replace hb22:=vW hb22
          exact zK<|zK<|zK<|zK<|zE nT<|zE nT<|zE gG<|zZ
       ·replace hb20:=vW hb20
        refine zE (kL qN)<|zR (qK uF)<|zE nD<|zE (oV (vb (decide ((t.getD k tz).a<0))) (qE (by kernel_rfl)))<|?_
        rcases hb23:(decide ((t.getD k tz).a<0)) with _ | _
        ·replace hb23:=xJ hb23
         refine zE (kL qN)<|zR (qK uF)<|zM<|zE oGe<|zE fW<|zE dZ<|zE (oV (vb (true&&(false||decide (((k:Nat):Int)<=(t.getD k tz).a)))) (qE (by kernel_rfl)))<|?_
         rcases hb24:(decide (((k:Nat):Int)<=(t.getD k tz).a)) with _ | _
         ·replace hb24:=xJ hb24
          refine zM<|zE eA<|zE (oV (vb (decide (1<(qW ((t.getD k tz).op))))) (qE (by kernel_rfl)))<|?_
          rcases hb25:(decide (1<(qW ((t.getD k tz).op)))) with _ | _
          ·replace hb25:=xJ hb25
           exact zK<|zK<|zK<|zK<|zK<|zK<|zK<|zK<|zK<|zE gG<|zE gG<|zZ
          ·replace hb25:=vW hb25
           refine zE (kL uV)<|zR (qK uF)<|zE nD<|zE (oV (vb (decide ((t.getD k tz).b<0))) (qE (by kernel_rfl)))<|?_
           rcases hb26:(decide ((t.getD k tz).b<0)) with _ | _
           ·replace hb26:=xJ hb26
            exact zE (kL uV)<|zR (qK uF)<|zM<|zE oGe<|zE fW<|zE dZ<|zE fW<|zZ
           ·replace hb26:=vW hb26
            exact zK<|zK<|zK<|zK<|zE nT<|zE nT<|zE gG<|zZ
         ·replace hb24:=vW hb24
          exact zK<|zK<|zK<|zK<|zK<|zK<|zK<|zK<|zK<|zK<|zK<|zK<|zK<|zE nT<|zZ
        ·replace hb23:=vW hb23
         exact zK<|zK<|zK<|zK<|zE nT<|zE nT<|zM<|zK<|zK<|zK<|zK<|zK<|zK<|zK<|zK<|zK<|zK<|zK<|zK<|zK<|zE nT<|zZ
      refine jF rfl (fun h27=>?_) (fun h27=>?_)
      ·refine jB<|kx [(4,(vl 3 1 jG [])),(5,(kJ 5))] [] (zE (eY 3 1)<|zM<|zZ) ?_
       refine jE ⟨_,(.tmp (d:=(.sl 3 1 (List.map jG []))) rfl (.tmp (d:=(.val (.int .i64 (5)))) rfl .nil)),?_⟩
       have he:=hR.ord hB h27
       rw[he.1,he.2];rfl
      ·have hO:=h27
       refine jH<|jB<|jB<|kx [(114,(vb (((t.getD k tz).op == 1)&&(decide ((t.getD k tz).a<0)||decide (z<=(t.getD k tz).a)))))] [] ?_ ?_
       ·refine zE (kL xU)<|zR (qK dA)<|zE yA<|zE (oV (vb ((t.getD k tz).op == 1)) (qE (by kernel_rfl)))<|?_
        rcases hb28:((t.getD k tz).op == 1) with _ | _
        ·replace hb28:=ne_of_beq_false hb28
         exact zK<|zK<|zK<|zK<|zK<|zK<|zK<|zK<|zK<|zE gG<|zZ
        ·replace hb28:=eq_of_beq hb28
         refine zE (kL qN)<|zR (qK uF)<|zE nD<|zE (oV (vb (decide ((t.getD k tz).a<0))) (qE (by kernel_rfl)))<|?_
         rcases hb29:(decide ((t.getD k tz).a<0)) with _ | _
         ·replace hb29:=xJ hb29
          exact zE (kL qN)<|zR (qK uF)<|zM<|zE oGe<|zE fW<|zE dZ<|zZ
         ·replace hb29:=vW hb29
          exact zK<|zK<|zK<|zK<|zE nT<|zE nT<|zZ
       refine jF rfl (fun h30=>?_) (fun h30=>?_)
       ·refine jB<|kx [(4,(vl 3 1 jG [])),(5,(kJ 2))] [] (zE (eY 3 1)<|zM<|zZ) ?_
        refine jE ⟨_,(.tmp (d:=(.sl 3 1 (List.map jG []))) rfl (.tmp (d:=(.val (.int .i64 (2)))) rfl .nil)),?_⟩
        have he:=hR.rng hB hO h30
        rw[he.1,he.2];rfl
       ·have hN:=ndr hR hB hO h30
        refine jH<|pwp_seqjoin (α:=Int) (fun v=>⟨[(1,(vi z)),(6,(.own 0 3 1 t.length)),(7,(kJ k)),(25,(vl 72 7 jK t)),(26,(kJ t.length)),(27,(kJ k))],[(0,some (bm jG (o.set k v)))]⟩) (fun v=>v=szN (mA t k) (t.getD k tz)) ?_ ?_
        ·refine jB<|kx [(129,(vb ((qW ((t.getD k tz).op)) == 0)))] [] (zM<|zE yA<|zM<|zZ) ?_
         refine jF (b:=((qW ((t.getD k tz).op)) == 0)) rfl (fun h31=>?_) (fun h31=>?_)
         ·replace h31:=eq_of_beq h31
          have hv:=szN_c (ss:=mA t k) h31
          refine kx [] [(0,some (bm jG (o.set k 1)))] (zM<|zM<|zE (xS uA k)<|zT (cU uF k (1:Int))<|zZ) ?_
          exact ⟨1,wk,hv⟩
         ·replace h31:=ne_of_beq_false h31
          have hk0:=h31
          obtain ⟨a1,a2,a3,a4,a5⟩:=hN.a ho hk0
          refine jB<|kx [(135,(vb ((t.getD k tz).op == 6)))] [] (zE (kL xU)<|zR (qK dA)<|zE yA<|zM<|zZ) ?_
          refine jF (b:=((t.getD k tz).op == 6)) rfl (fun h32=>?_) (fun h32=>?_)
          ·replace h32:=eq_of_beq h32
           have hv:=szN_n hk0 h32 a3
           refine kx [] [(0,some (bm jG (o.set k (o.getD (((t.getD k tz).a).toNat) 0))))] (zM<|zM<|zM<|zE (kL qN)<|zR (qK uF)<|zE (xS uA (((t.getD k tz).a).toNat))<|zR (cV uF (((t.getD k tz).a).toNat) (0:Int))<|zE (xS uA k)<|zT (cU uF k (o.getD (((t.getD k tz).a).toNat) 0))<|zZ) ?_
           exact ⟨(o.getD (((t.getD k tz).a).toNat) 0),wk,hv⟩
          ·replace h32:=ne_of_beq_false h32
           have h6:=h32
           refine jB<|kx [(147,(vb ((t.getD k tz).op == 7)))] [] (zE (kL xU)<|zR (qK dA)<|zE yA<|zM<|zZ) ?_
           refine jF (b:=((t.getD k tz).op == 7)) rfl (fun h33=>?_) (fun h33=>?_)
           ·replace h33:=eq_of_beq h33
            have hv:=szN_q hk0 h33 a3
            refine kx [] [(0,some (bm jG (o.set k (2*(o.getD (((t.getD k tz).a).toNat) 0)))))] (zM<|zM<|zM<|zE (kL qN)<|zR (qK uF)<|zE (xS uA (((t.getD k tz).a).toNat))<|zR (cV uF (((t.getD k tz).a).toNat) (0:Int))<|zE (zMl (2*(o.getD (((t.getD k tz).a).toNat) 0)))<|zE (xS uA k)<|zT (cU uF k (2*(o.getD (((t.getD k tz).a).toNat) 0)))<|zZ) ?_
            exact ⟨(2*(o.getD (((t.getD k tz).a).toNat) 0)),wk,hv⟩
           ·replace h33:=ne_of_beq_false h33
            obtain ⟨b1,b2,b3,b4,b5⟩:=hN.b ho hk0 h6 h33
            have hv:=szN_b hk0 h6 h33 a3 b3
            refine kd [] [(0,some (bm jG (o.set k ((o.getD (((t.getD k tz).a).toNat) 0)+(o.getD (((t.getD k tz).b).toNat) 0)))))] mo (wM<|wM<|wM<|wE (kL qN)<|wR (qK uF)<|wE (xS uA (((t.getD k tz).a).toNat))<|wR (cV uF (((t.getD k tz).a).toNat) (0:Int))<|wM<|wE (kL uV)<|wR (qK uF)<|wE (xS uA (((t.getD k tz).b).toNat))<|wR (cV uF (((t.getD k tz).b).toNat) (0:Int))<|wE (zAd ((o.getD (((t.getD k tz).a).toNat) 0)+(o.getD (((t.getD k tz).b).toNat) 0)))<|wE (xS uA k)<|wT (cU uF k ((o.getD (((t.getD k tz).a).toNat) 0)+(o.getD (((t.getD k tz).b).toNat) 0)))<|wZ) ?_
            exact ⟨((o.getD (((t.getD k tz).a).toNat) 0)+(o.getD (((t.getD k tz).b).toNat) 0)),wk,hv⟩
        ·rintro v hv
         have hsl:(o.set k v).length=o.length:=List.length_set
         refine jB<|kx [(164,(vb (decide (4096<((o.set k v).getD k 0)))))] [] (zM<|zM<|zE (xS uA k)<|zR (cV uF k (0:Int))<|zE eA<|zZ) ?_
         refine jF (b:=decide (4096<((o.set k v).getD k 0))) rfl (fun h34=>?_) (fun h34=>?_)
         ·replace h34:=vW h34
          refine jB<|kx [(4,(vl 3 1 jG [])),(5,(kJ 3))] [] (zE (eY 3 1)<|zM<|zZ) ?_
          refine jE ⟨_,(.tmp (d:=(.sl 3 1 (List.map jG []))) rfl (.tmp (d:=(.val (.int .i64 (3)))) rfl .nil)),?_⟩
          have he:=hN.big hv (by omega) h34
          rw[he.1,he.2];rfl
         ·replace h34:=xJ h34
          refine jH<|kx [(27,(kJ (k+1)))] [] (zE (xO (k+1))<|zM<|zZ) ?_
          exact ⟨(k+1,o.set k v),wk,(hN.next hv ho (by omega)),(by first|omega|(dsimp only;omega))⟩
    ·replace h5:=xJ h5
     refine kQ<|jB<|kx [(4,(.own 0 3 1 t.length)),(5,(kJ 0))] [] (zM<|zM<|zM<|zZ) ?_
     refine qH (zY (t:=4) (k:=0) (es:=List.map jG o) rfl rfl (vD _ _ (fun _=>rfl)) (vY _ _ qG) (xB _ _ (fun _=>rfl) qG)) ?_
     refine jE ⟨_,(.tmp (d:=(.sl 3 1 (List.map jG o))) rfl (.tmp (d:=(.val (.int .i64 (0)))) rfl .nil)),?_⟩
     have he:=tm_end hz0 h0 h400 hk h5 ho hu
     rw[he.1,he.2];rfl
theorem fo113_4:uM Tryz.prog 113 4=some 4:=by kernel_rfl
theorem pl113:cE Tryz.prog 113=some [(0,1),(1,1),(2,1),(3,1),(4,1)]:=by kernel_rfl
theorem ze113:vG Tryz.prog 113=some [.int .i64 0,.int .i64 0,.int .i64 0,.slice none 0 0,.bool false]:=by kernel_rfl
theorem zn113:cN [.int .i64 0,.int .i64 0,.int .i64 0,.slice none 0 0,.bool false] [.val (.int .i64 0),.val (.int .i64 0),.val (.int .i64 0),.val (.slice none 0 0),.val (.bool false)]:=by simp [cN,Value.oneCell']
def StepAt(bv:List R2)(L:List JV)(x:kC):Prop:=vJ Tryz.prog 77 [(.ref 0 0),(.d (jK x)),(vl 42 8 jM (List.map qF bv))] [(0,some (yQ bv.length 1 (L) false)),(1,some (yT (L)))] (.d (.tup [])) [(0,some (yQ bv.length 18 (L++[nJ bv L x]) false)),(18,some (yT (L++[nJ bv L x])))]
theorem e_step(x:kC)(bv:List R2)(hbx:∀ x∈bv,GL 1048576 x)(L:List JV)(hst:StepAt bv L x):vJ Tryz.prog 77 [(.ref 0 0),(.d (jK x)),(vl 42 8 jM (List.map qF bv))] [(0,some (yQ bv.length 1 (L) false)),(1,some (yT (L)))] (.d (.tup [])) [(0,some (yQ bv.length 18 (L++[nJ bv L x]) false)),(18,some (yT (L++[nJ bv L x])))]:=hst
structure JRunP (bv:List R2) (t:List kC):Prop where
 run:JRun bv t
 st:∀ k,k<t.length->StepAt bv (jU bv t k) (t.getD k tz)
theorem j_chk(t:List kC)(ht:eQ 1048576 t)(z:Int):jS Tryz.prog 39 [(.sl 72 7 (List.map jK t)),(.val (.int .i64 (z)))] (.val (.int .i64 ((((nE z t):Nat):Int)))):=by
 refine vA Tryz.func39 ?_
 refine jB<|kx [] [] (zM<|zZ) ?_
 refine jB<|kx [(6,(kJ (nE z t)))] [] (zM<|zM<|zE (kF (j_sizes t ht z))<|zM<|zE yM<|zE yM<|zM<|zM<|zZ) ?_
 refine jB<|kx [(4,(kJ (nE z t)))] [] (zM<|zM<|zZ) ?_
 refine jE ⟨_,(.tmp (d:=(.val (.int .i64 ((((nE z t):Nat):Int))))) rfl .nil),?_⟩
 rfl
theorem j_jets(t:List kC)(ht:eQ 1048576 t)(bv:List R2)(hbx:∀ x∈bv,GL 1048576 x)(hr:JRunP bv t):jS Tryz.prog 29 [(.sl 72 7 (List.map jK t)),(.sl 42 8 (List.map jM (List.map qF bv))),(.val (.int .i64 (((1:Nat):Int)))),(.val (.int .i64 (-1)))] (.tup [(jN (uL (eO bv t))),(.val (.int .i64 (((0:Nat):Int))))]):=by
 have h0:=tm_0 hr.run.c0
 let y3:=(kH.mk vQ vQ)
 let y2:=(bx (jN (fZ.mk y3 [] [])))
 let y1:=(bx (.agg [(.val (.int .i64 (((bv.length:Nat):Int)))),(.val (.int .i64 (((1:Nat):Int)))),(.val (.int .i64 (-1))),(.val (.slice none 0 0)),(.val (.bool (false)))]))
 refine vA Tryz.func29 ?_
 refine jB<|kx [(8,(.ref 0 0))] [(0,some y2)] (zN (vT 0 ze46 zo46)<|zM<|zZ) ?_
 refine jB<|jB<|kx [(16,(vl 42 8 jM (List.map qF bv))),(17,(kJ bv.length)),(18,(kJ 0))] [] (zM<|zE (oLn mT bv.length)<|zM<|zZ) ?_
 refine jL<|kW (α:=Nat) (fun i=>⟨[(0,(vl 72 7 jK t)),(1,(vl 42 8 jM (List.map qF bv))),(2,(kJ 1)),(3,(vi (-1))),(8,(.ref 0 0)),(16,(vl 42 8 jM (List.map qF bv))),(17,(kJ bv.length)),(18,(kJ i))],[(0,some y2)]⟩) (fun i=>i<=bv.length) (fun i=>bv.length-i) 0 wk (Nat.zero_le _) ?_
 rintro i hi
 refine jB<|kx [(19,(vb (decide (((i:Nat):Int)<((bv.length:Nat):Int)))))] [] (zE nD<|zZ) ?_
 refine jB<|jF rfl (fun h1=>?_) (fun h1=>?_)
 ·replace h1:=vW h1
  refine jH<|jB<|jL<|jB<|kx [(11,(.ref 1 0))] [(1,some (bx (jM (qF (bv.getD i z2)))))] (zE (oXm mT qF i z2)<|zE (dH kM)<|zN (vT 1 vX xA)<|zT (qU kM)<|zZ) ?_
  refine jB<|kx [(24,(vb false))] [] (zR (kV kM)<|zE (kF (by have h:=i_valid (qF (bv.getD i z2)) (mB (⟨qS (kE (kI (xR hbx (by decide) i).1) (by decide:1048576<=1048576)),qS (kE (kI (xR hbx (by decide) i).2.1) (by decide:1048576<=1048576))⟩));rw[show xI (qF (bv.getD i z2))=true from gM (xR hbx (by decide) i).2.2] at h;exact h))<|zE oNt<|zZ) ?_
  refine vH ?_
  refine jH<|kx [(18,(kJ (i+1)))] [] (zE (xO (i+1))<|zM<|zZ) ?_
  exact ⟨i+1,wk,(by omega),(by first|omega|(dsimp only;omega))⟩
 ·replace h1:=xJ h1
  refine kQ<|jB<|jB<|kx [(36,(vb false))] [] (zM<|zE (fC false nD)<|zM<|zM<|zE (fC false eA)<|zE gG<|zM<|zM<|zE (fC false eA)<|zE gG<|zZ) ?_
  refine vH ?_
  refine jH<|jB<|jB<|kx [(12,(kJ (nE ((bv.length:Nat):Int) t)))] [] (zM<|zM<|zE (oLn mT bv.length)<|zE (kF (j_chk t ht ((bv.length:Nat):Int)))<|zM<|zZ) ?_
  refine jB<|kx [(43,(vb false))] [] (zM<|zE (fC false oNe (by exact bne_eq_false_iff_eq.2 (by rw[show (nE ((bv.length:Nat):Int) t)=0 from hr.run.c0]<;>rfl)))<|zZ) ?_
  refine vH ?_
  refine jH<|jB<|kx [(13,(.ref 2 0))] [(2,some y1)] (zM<|zE (oLn mT bv.length)<|zM<|zM<|zE (oBd pl113 ze113 zn113)<|zN (xH 2)<|zM<|zZ) ?_
  refine jB<|jB<|pwp_own 2 3 3 46 10 (cs:=y1) (h:=?_)
  refine qH (wk (l:=[(0,(vl 72 7 jK t)),(1,(vl 42 8 jM (List.map qF bv))),(8,(.ref 0 0)),(13,(.ref 2 0))]) (b:=[(0,some y2),(2,some [(kJ bv.length),(kJ 1),(vi (-1)),(.own 3 46 10 0),(vb false)]),(3,some (qL jN []))])) ?_
  refine kx [(52,(vl 72 7 jK t)),(53,(kJ t.length)),(54,(kJ 0))] [] (zM<|zE (yD xW)<|zM<|zZ) ?_
  refine jL<|kW (α:=Nat) (fun k=>⟨[(1,(vl 42 8 jM (List.map qF bv))),(8,(.ref 0 0)),(13,(.ref 2 0)),(52,(vl 72 7 jK t)),(53,(kJ t.length)),(54,(kJ k))],[(0,some y2),(2,some (yQ bv.length 3 (jU bv t k) false)),(3,some (yT (jU bv t k)))]⟩) (fun k=>k<=t.length) (fun k=>t.length-k) 0 wk (Nat.zero_le _) ?_
  rintro k hk
  have hju:=jU_len bv t k
  have hjm:(List.map uL (jU bv t k)).length=k:=by rw[List.length_map,hju]
  have hup:=hr.run.upto hk
  refine jB<|kx [(55,(vb (decide (((k:Nat):Int)<((t.length:Nat):Int)))))] [] (zE nD<|zZ) ?_
  refine jB<|jF rfl (fun h2=>?_) (fun h2=>?_)
  ·replace h2:=vW h2
   refine jH<|jB<|jL<|jB<|kx [(15,(.ref 4 0))] [(4,some (bx (jK (t.getD k tz))))] (zE (cR xW k (tz:kC))<|zE (dH eB)<|zH (vT 4 cO fA)<|zT (qU eB)<|zZ) ?_
   refine jB<|kf [] [(2,some (yQ bv.length 21 ((jU bv t k)++[(nJ bv (jU bv t k) (t.getD k tz))]) false)),(21,some (yT ((jU bv t k)++[(nJ bv (jU bv t k) (t.getD k tz))]))),(10,none),(11,none),(12,none),(13,none),(14,none),(15,none),(16,none),(17,none),(18,none),(19,none),(20,none),(3,none),(5,none),(6,none),(7,none),(8,none),(9,none)] (zM<|zR (kV eB)<|zM<|zSe (B2:=[(2,some (yQ bv.length 3 (jU bv t k) false)),(3,some (yT (jU bv t k)))]) (B2':=[(2,some (yQ bv.length 21 ((jU bv t k)++[(nJ bv (jU bv t k) (t.getD k tz))]) false)),(21,some (yT ((jU bv t k)++[(nJ bv (jU bv t k) (t.getD k tz))])))]) [2,3,5,6,7,8,9,10,11,12,13,14,15,16,17,18,19,20,21] [2] (e_step (t.getD k tz) bv hbx (jU bv t k) (hr.st k (show k<t.length by omega)))<|zF) ?_
   refine qH (wk (l:=[(1,(vl 42 8 jM (List.map qF bv))),(8,(.ref 0 0)),(13,(.ref 2 0)),(52,(vl 72 7 jK t)),(53,(kJ t.length)),(54,(kJ k))]) (b:=[(0,some y2),(2,some (yQ bv.length 21 ((jU bv t k)++[(nJ bv (jU bv t k) (t.getD k tz))]) false)),(21,some (yT ((jU bv t k)++[(nJ bv (jU bv t k) (t.getD k tz))])))])) ?_
   refine qH (sim_ren2 (S':=[(1,(vl 42 8 jM (List.map qF bv))),(8,(.ref 0 0)),(13,(.ref 2 0)),(52,(vl 72 7 jK t)),(53,(kJ t.length)),(54,(kJ k))]) (B':=[(0,some y2),(2,some (yQ bv.length 3 ((jU bv t k)++[(nJ bv (jU bv t k) (t.getD k tz))]) false)),(3,some (yT ((jU bv t k)++[(nJ bv (jU bv t k) (t.getD k tz))])))]) 3 21 2) ?_
   refine jB<|kx [(65,(vb false))] [] (zM<|zE oNc<|zE (kL fo113_4)<|zR (qK eK)<|zZ) ?_
   refine vH ?_
   refine jH<|kx [(54,(kJ (k+1)))] [] (zE (xO (k+1))<|zM<|zZ) ?_
   exact ⟨k+1,wk,(by omega),(by first|omega|(dsimp only;omega))⟩
  ·replace h2:=xJ h2
   refine kQ<|jB<|kd [(9,(kJ 0))] [(0,some (bx (jN ((List.map uL (jU bv t k)).getD ((List.map uL (jU bv t k)).length-1) (fZ.mk y3 [] [])))))] mo (wM<|wE oNc<|wE (kL fo113_3)<|wR (qK sh88)<|wM<|wE oNc<|wE (kL fo113_3)<|wR (qK sh88)<|wE (oLo el88)<|wE (oSb ((List.map uL (jU bv t k)).length-1))<|wE (oXO el88 ((List.map uL (jU bv t k)).length-1))<|wR (oLA sh46 ((List.map uL (jU bv t k)).length-1) (fZ.mk y3 [] []))<|wT (qU sh46)<|wM<|wZ) ?_
   refine jE ⟨_,(kS (cs:=(bx (jN ((List.map uL (jU bv t k)).getD ((List.map uL (jU bv t k)).length-1) (fZ.mk y3 [] []))))) (d:=(jN ((List.map uL (jU bv t k)).getD ((List.map uL (jU bv t k)).length-1) (fZ.mk y3 [] [])))) rfl rfl sh46 rfl rfl (.tmp (d:=(.val (.int .i64 (((0:Nat):Int))))) rfl .nil)),?_⟩
   obtain rfl:k=t.length:=by omega
   rw[List.length_map,hju,map_getD uL _ jz _ (by omega)]
   unfold eO;rfl
end Go.Proofs.YtckccjhflbljgaaGreatDoor
