/- Part 29 of a proof: rules, plain facts, and functions walked. -/
import Derived.Test.YtckccjhflbljgaaGreatDoorM28
set_option linter.all false
set_option maxRecDepth 4000
namespace Go.Proofs.YtckccjhflbljgaaGreatDoor
open Go.Fid
theorem cb122:callB Tryz.prog 122=true:=by kernel_rfl
theorem e_linA(n:Nat)(L:List JV)(bb:Nat)(u:JV)(hu:nW 1048576 n u)(v:JV)(hv:nW 1048576 n v)(hn:n<=64)(hL:L.length<=1000):vR Tryz.prog 122 [(.d (.val (.func (.func 131) #[] #[]))),(.ref 2 0),(.ref 3 0),(.ref 4 0)] [(0,some (yV n 1 L false)),(1,some (yX L)),(2,some [(.refx 0 0 bb)]),(3,some (bx (jP (uT u)))),(4,some (bx (jP (uT v))))] (.d (.tup [])) [(0,some (yV n 11 (L++[(jk (yY u.v v.v) (fun i=>(yY (u.g.getD i z2) (v.g.getD i z2))) n)]) false)),(11,some (yX (L++[(jk (yY u.v v.v) (fun i=>(yY (u.g.getD i z2) (v.g.getD i z2))) n)]))),(2,some [(.refx 0 0 bb)])]:=by
 refine zW Tryz.func122 rfl cb122 rfl ?_
 refine jB<|kx [(4,(.ref 5 0))] [(5,some (bx (.val (.func (.func 131) #[] #[]))))] (zH (vZ 5)<|zZ) ?_
 refine kf [] [(0,some (yV n 11 (L++[(jk (yY u.v v.v) (fun i=>(yY (u.g.getD i z2) (v.g.getD i z2))) n)]) false)),(11,some (yX (L++[(jk (yY u.v v.v) (fun i=>(yY (u.g.getD i z2) (v.g.getD i z2))) n)]))),(1,none),(10,none),(3,none),(4,none),(5,none),(6,none),(7,none),(8,none),(9,none)] (zR (oLx sh111)<|zE (oMf [5,3,4])<|zE (oMf [5,3,4])<|zE (oMf [5,3,4])<|zSe (B2:=[(0,some (yV n 1 L false)),(1,some (yX L)),(5,some (bx (.val (.func (.func 131) #[] #[])))),(3,some (bx (jP (uT u)))),(4,some (bx (jP (uT v))))]) (B2':=[(0,some (yV n 11 (L++[(jk (yY u.v v.v) (fun i=>(yY (u.g.getD i z2) (v.g.getD i z2))) n)]) false)),(11,some (yX (L++[(jk (yY u.v v.v) (fun i=>(yY (u.g.getD i z2) (v.g.getD i z2))) n)])))]) [0,1,5,3,4,6,7,8,9,10,11] [0,5,3,4] (e_nodeA n L u hu v hv hn hL)<|zF) ?_
 refine ⟨qZ (by kernel_rfl),vA (by kernel_rfl),.inl ⟨_,.nil,?_⟩⟩
 rfl
theorem e_linS(n:Nat)(L:List JV)(bb:Nat)(u:JV)(hu:nW 1048576 n u)(v:JV)(hv:nW 1048576 n v)(hn:n<=64)(hL:L.length<=1000):vR Tryz.prog 122 [(.d (.val (.func (.func 132) #[] #[]))),(.ref 2 0),(.ref 3 0),(.ref 4 0)] [(0,some (yV n 1 L false)),(1,some (yX L)),(2,some [(.refx 0 0 bb)]),(3,some (bx (jP (uT u)))),(4,some (bx (jP (uT v))))] (.d (.tup [])) [(0,some (yV n 11 (L++[(jk (uJ u.v v.v) (fun i=>(uJ (u.g.getD i z2) (v.g.getD i z2))) n)]) false)),(11,some (yX (L++[(jk (uJ u.v v.v) (fun i=>(uJ (u.g.getD i z2) (v.g.getD i z2))) n)]))),(2,some [(.refx 0 0 bb)])]:=by
 refine zW Tryz.func122 rfl cb122 rfl ?_
 refine jB<|kx [(4,(.ref 5 0))] [(5,some (bx (.val (.func (.func 132) #[] #[]))))] (zH (vZ 5)<|zZ) ?_
 refine kf [] [(0,some (yV n 11 (L++[(jk (uJ u.v v.v) (fun i=>(uJ (u.g.getD i z2) (v.g.getD i z2))) n)]) false)),(11,some (yX (L++[(jk (uJ u.v v.v) (fun i=>(uJ (u.g.getD i z2) (v.g.getD i z2))) n)]))),(1,none),(10,none),(3,none),(4,none),(5,none),(6,none),(7,none),(8,none),(9,none)] (zR (oLx sh111)<|zE (oMf [5,3,4])<|zE (oMf [5,3,4])<|zE (oMf [5,3,4])<|zSe (B2:=[(0,some (yV n 1 L false)),(1,some (yX L)),(5,some (bx (.val (.func (.func 132) #[] #[])))),(3,some (bx (jP (uT u)))),(4,some (bx (jP (uT v))))]) (B2':=[(0,some (yV n 11 (L++[(jk (uJ u.v v.v) (fun i=>(uJ (u.g.getD i z2) (v.g.getD i z2))) n)]) false)),(11,some (yX (L++[(jk (uJ u.v v.v) (fun i=>(uJ (u.g.getD i z2) (v.g.getD i z2))) n)])))]) [0,1,5,3,4,6,7,8,9,10,11] [0,5,3,4] (e_nodeS n L u hu v hv hn hL)<|zF) ?_
 refine ⟨qZ (by kernel_rfl),vA (by kernel_rfl),.inl ⟨_,.nil,?_⟩⟩
 rfl
theorem e_linN(n:Nat)(L:List JV)(bb:Nat)(u:JV)(hu:nW 1048576 n u)(v:JV)(hv:nW 1048576 n v)(hn:n<=64)(hL:L.length<=1000):vR Tryz.prog 122 [(.clo 133 [9]),(.ref 2 0),(.ref 3 0),(.ref 4 0)] [(0,some (yV n 1 L false)),(1,some (yX L)),(2,some [(.refx 0 0 bb)]),(3,some (bx (jP (uT u)))),(4,some (bx (jP (uT v)))),(9,some (bx (jN (qH (gw 0)))))] (.d (.tup [])) [(0,some (yV n 15 (L++[(jk (uJ (gw 0) u.v) (fun i=>(uJ (gw 0) (u.g.getD i z2))) n)]) false)),(15,some (yX (L++[(jk (uJ (gw 0) u.v) (fun i=>(uJ (gw 0) (u.g.getD i z2))) n)]))),(2,some [(.refx 0 0 bb)])]:=by
 refine zW Tryz.func122 rfl cb122 rfl ?_
 refine jB<|kx [(4,(.ref 10 0))] [(10,some [(.clo 133 [9])])] (zH (oBy 10)<|zZ) ?_
 refine kf [(0,.junk)] [(0,some (yV n 15 (L++[(jk (uJ (gw 0) u.v) (fun i=>(uJ (gw 0) (u.g.getD i z2))) n)]) false)),(15,some (yX (L++[(jk (uJ (gw 0) u.v) (fun i=>(uJ (gw 0) (u.g.getD i z2))) n)]))),(1,none),(10,none),(11,none),(12,none),(13,none),(14,none),(3,none),(4,none),(9,none)] (zR (oLx sh111)<|zE (oMf [10,3,4])<|zE (oMf [10,3,4])<|zE (oMf [10,3,4])<|zSe (B2:=[(0,some (yV n 1 L false)),(1,some (yX L)),(10,some [(.clo 133 [9])]),(3,some (bx (jP (uT u)))),(4,some (bx (jP (uT v)))),(9,some (bx (jN (qH (gw 0)))))]) (B2':=[(0,some (yV n 15 (L++[(jk (uJ (gw 0) u.v) (fun i=>(uJ (gw 0) (u.g.getD i z2))) n)]) false)),(15,some (yX (L++[(jk (uJ (gw 0) u.v) (fun i=>(uJ (gw 0) (u.g.getD i z2))) n)])))]) [0,1,10,3,4,9,11,12,13,14,15] [0,10,3,4] (e_nodeN n L u hu v hv hn hL)<|zF) ?_
 refine ⟨qZ (by kernel_rfl),vA (by kernel_rfl),.inl ⟨_,.nil,?_⟩⟩
 rfl
theorem cb77:callB Tryz.prog 77=true:=by kernel_rfl
set_option maxHeartbeats 4000000 in
theorem e_stepN0(x0:kC)(bv:List R2)(hbx:∀ x∈bv,GL 1048576 x)(L:List JV)(hn:bv.length<=64)(hL:L.length<=1000)(hLk:∀ y∈L,nW 1048576 bv.length y)(hx:aA bv.length L x0):let x:=x0;vR Tryz.prog 77 [(.ref 0 0),(.d (jM x)),(vl 42 8 jN (List.map qH bv))] [(0,some (yV bv.length 1 (L) false)),(1,some (yX (L)))] (.d (.tup [])) [(0,some (yV bv.length 18 (L++[nJ bv L x]) false)),(18,some (yX (L++[nJ bv L x])))]:=by
 rcases hx with @⟨p,hp⟩ | @⟨a,ha⟩ | @⟨a,b,ha,hb⟩ | @⟨a,b,ha,hb⟩ | @⟨a,b,ha,hb⟩ | @⟨a,b,ha,hb,hz⟩ | @⟨a,ha⟩ | @⟨a,ha⟩
 all_goals
  intro x
  refine zW Tryz.func77 rfl cb77 rfl ?_
  refine jB<|kx [(3,(.ref 2 0)),(4,(.ref 3 0)),(5,(.ref 4 0))] [(2,some [(.ref 0 0)]),(3,some (bx (jM x))),(4,some (bx (.sl 42 8 (List.map jN (List.map qH bv)))))] (zH (oBy 2)<|zH (vZ 3)<|zH (vZ 4)<|zZ) ?_
  refine jB<|pwp_fix 2 (k:=0) (o:=0) (h:=fun b0=>?_)
  refine qL (wk (l:=[(0,(.ref 0 0)),(3,(.ref 2 0)),(4,(.ref 3 0)),(5,(.ref 4 0))]) (b:=[(0,some (yV bv.length 1 L false)),(1,some (yX L)),(2,some [(.refx 0 0 b0)]),(3,some (bx (jM x))),(4,some (bx (.sl 42 8 (List.map jN (List.map qH bv)))))])) ?_
  refine kx [(6,(.ref 5 0))] [(5,some (bx (jN (qH (gw 0)))))] (zE (kB (j_whole ((0:Nat):Int) (by omega) (by omega)))<|zH (vC 5 xF xK)<|zT (qM kO)<|zZ) ?_
  refine jB<|kx [(7,(.clo 121 [5]))] [] (zE (oMf [5])<|zM<|zZ) ?_
  refine jB<|kx [(8,(.ref 6 0)),(9,(.ref 7 0))] [(6,some (bx (jP (aV.mk (kJ.mk uD uD) [] [])))),(7,some (bx (jP (aV.mk (kJ.mk uD uD) [] []))))] (zH (vC 6 ze46 zo46)<|zH (vC 7 ze46 zo46)<|zZ) ?_
  refine jB<|kx [(10,(vi (uA x.op)))] [] (zE (kK xY)<|zR (qI dD)<|zE (kB (j_kids x.op))<|zM<|zZ) ?_
  refine jB<|jB ?_
  first
   |(refine kx [(19,(vb true))] [] (zM<|zE (nH true dI (e:=rfl))<|zZ) ?_;refine yR ?_;refine kd [] [(6,some (bx (jP (uT (L.getD a jz)))))] mo (wR (oLx sh111)<|wE oNc<|wE (kK fo113_3)<|wR (qI sh88)<|wE (kK qG)<|wR (qI uC)<|wE (fS el88 a (hj:=by first | omega | rfl | (simp only[List.length_map];omega) | (dsimp only;omega)) (h1:=by first | omega | rfl | (simp only[List.length_map];omega) | (dsimp only;omega)))<|wR (mG (jP ((List.map uT L).getD a (aV.mk (kJ.mk uD uD) [] []))) (jP (uT (L.getD a jz))) (oLA sh46 a (aV.mk (kJ.mk uD uD) [] []) (h1:=by first | omega | rfl | (simp only[List.length_map];omega) | (dsimp only;omega))) (by exact (congrArg jP (map_getD uT L jz _ (by omega)))))<|wT (qM sh46)<|wZ) ?_)
   |(refine kx [(19,(vb false))] [] (zM<|zE (nH false dI (e:=rfl))<|zZ) ?_;refine qW ?_;refine jG ?_)
  refine jB<|jB ?_
  first
   |(refine kx [(29,(vb true))] [] (zM<|zE (nH true dI (e:=rfl))<|zZ) ?_;refine yR ?_;refine kd [] [(7,some (bx (jP (uT (L.getD b jz)))))] mo (wR (oLx sh111)<|wE oNc<|wE (kK fo113_3)<|wR (qI sh88)<|wE (kK uK)<|wR (qI uC)<|wE (fS el88 b (hj:=by first | omega | rfl | (simp only[List.length_map];omega) | (dsimp only;omega)) (h1:=by first | omega | rfl | (simp only[List.length_map];omega) | (dsimp only;omega)))<|wR (mG (jP ((List.map uT L).getD b (aV.mk (kJ.mk uD uD) [] []))) (jP (uT (L.getD b jz))) (oLA sh46 b (aV.mk (kJ.mk uD uD) [] []) (h1:=by first | omega | rfl | (simp only[List.length_map];omega) | (dsimp only;omega))) (by exact (congrArg jP (map_getD uT L jz _ (by omega)))))<|wT (qM sh46)<|wZ) ?_)
   |(refine kx [(29,(vb false))] [] (zM<|zE (nH false dI (e:=rfl))<|zZ) ?_;refine qW ?_;refine jG ?_)
  refine jB<|kx [(11,(.clo 122 [2,6,7]))] [] (zE (oMf [2,6,7])<|zM<|zZ) ?_
  refine jB<|kx [(40,(vi x.op))] [] (zE (kK xY)<|zR (qI dD)<|zZ) ?_
  refine jL ?_
 all_goals refine jB ?_
 ·rw[show nJ bv L x=(jk (gpt p) (fun i=>(gw 0)) bv.length) from by show nJ bv L (kC.mk 0 0 0 (jO p))=_;unfold nJ nV nG;rw[cL];rfl]
  refine kx [(46,(vb true))] [] (zE (nH true xV (e:=rfl))<|zM<|zZ) ?_
  refine yR ?_
  refine kf [] [(0,some (yV bv.length 18 (L++[(jk (gpt p) (fun i=>(gw 0)) bv.length)]) false)),(18,some (yX (L++[(jk (gpt p) (fun i=>(gw 0)) bv.length)]))),(1,none),(10,none),(11,none),(12,none),(13,none),(3,none),(5,none),(8,none),(9,none)] (zR (oLx sh111)<|zE (oMf [3])<|zE (oMf [5])<|zM<|zSe (B2:=[(0,some (yV bv.length 1 L false)),(1,some (yX L)),(3,some (bx (jM x))),(5,some (bx (jN (qH (gw 0)))))]) (B2':=[(0,some (yV bv.length 18 (L++[(jk (gpt p) (fun i=>(gw 0)) bv.length)]) false)),(18,some (yX (L++[(jk (gpt p) (fun i=>(gw 0)) bv.length)])))]) [0,1,3,5,8,9,10,11,12,13,18] [0,3,5] (e_nodeC bv.length L p hp (gw 0) (gl_w (z:=0) (by omega) (by omega)) hn hL)<|zF) ?_
  refine ⟨qZ (by kernel_rfl),vA (by kernel_rfl),.inl ⟨_,.nil,?_⟩⟩
  rfl
 all_goals
  refine kx [(46,(vb false))] [] (zE (nH false xV (e:=rfl))<|zM<|zZ) ?_
  refine qW ?_
 all_goals refine jB ?_
 ·refine kx [(53,(vb true))] [] (zE (nH true xV (e:=rfl))<|zM<|zZ) ?_
  refine yR ?_
  refine kf [] [(0,some (yV bv.length 18 (L++[(nJ bv L x)]) false)),(18,some (yX (L++[(nJ bv L x)]))),(1,none),(10,none),(11,none),(12,none),(3,none),(4,none),(5,none),(8,none),(9,none)] (zR (oLx sh111)<|zE (oMf [4,3])<|zE (oMf [3,5])<|zM<|zSe (B2:=[(0,some (yV bv.length 1 L false)),(1,some (yX L)),(4,some (bx (.sl 42 8 (List.map jN (List.map qH bv))))),(3,some (bx (jM x))),(5,some (bx (jN (qH (gw 0)))))]) (B2':=[(0,some (yV bv.length 18 (L++[(nJ bv L x)]) false)),(18,some (yX (L++[(nJ bv L x)])))]) [0,1,4,3,5,8,9,10,11,12,18] [0,4,3,5] (e_nodeV bv.length L bv hbx a (gw 0) (gl_w (z:=0) (by omega) (by omega)) hn hL ha (by omega))<|zF) ?_
  refine ⟨qZ (by kernel_rfl),vA (by kernel_rfl),.inl ⟨_,.nil,?_⟩⟩
  rfl
 all_goals
  refine kx [(53,(vb false))] [] (zE (nH false xV (e:=rfl))<|zM<|zZ) ?_
  refine qW ?_
 all_goals refine jB ?_
 ·refine kx [(60,(vb true))] [] (zE (nH true xV (e:=rfl))<|zM<|zZ) ?_
  refine yR ?_
  refine kf [] [(0,some (yV bv.length 18 (L++[(nJ bv L x)]) false)),(18,some (yX (L++[(nJ bv L x)]))),(1,none),(10,none),(11,none),(12,none),(13,none),(2,none),(6,none),(7,none),(8,none),(9,none)] (zM<|zSe (B2:=[(0,some (yV bv.length 1 L false)),(1,some (yX L)),(2,some [(.refx 0 0 b0)]),(6,some (bx (jP (uT (L.getD a jz))))),(7,some (bx (jP (uT (L.getD b jz)))))]) (B2':=[(0,some (yV bv.length 18 (L++[(nJ bv L x)]) false)),(18,some (yX (L++[(nJ bv L x)]))),(2,some [(.refx 0 0 b0)])]) [0,1,2,6,7,8,9,10,11,12,13,18] [2,6,7,0] (e_linA bv.length L b0 (L.getD a jz) (eE hLk ha) (L.getD b jz) (eE hLk hb) hn hL) (G:=[0]) (hG:=by exact (.cons (k:=0) (q:=2) (o:=0) (b:=b0) (j:=0) (by kernel_rfl) (by kernel_rfl) (by kernel_rfl) .nil)) (ex:=[.ref 2 0,.ref 6 0,.ref 7 0]) (hy:=.clo (kk:=[2,6,7]) (by kernel_rfl) (by kernel_rfl))<|zF) ?_
  refine ⟨qZ (by kernel_rfl),vA (by kernel_rfl),.inl ⟨_,.nil,?_⟩⟩
  rfl
 all_goals
  refine kx [(60,(vb false))] [] (zE (nH false xV (e:=rfl))<|zM<|zZ) ?_
  refine qW ?_
 all_goals refine jB ?_
 ·refine kx [(64,(vb true))] [] (zE (nH true xV (e:=rfl))<|zM<|zZ) ?_
  refine yR ?_
  refine kf [] [(0,some (yV bv.length 18 (L++[(nJ bv L x)]) false)),(18,some (yX (L++[(nJ bv L x)]))),(1,none),(10,none),(11,none),(12,none),(13,none),(2,none),(6,none),(7,none),(8,none),(9,none)] (zM<|zSe (B2:=[(0,some (yV bv.length 1 L false)),(1,some (yX L)),(2,some [(.refx 0 0 b0)]),(6,some (bx (jP (uT (L.getD a jz))))),(7,some (bx (jP (uT (L.getD b jz)))))]) (B2':=[(0,some (yV bv.length 18 (L++[(nJ bv L x)]) false)),(18,some (yX (L++[(nJ bv L x)]))),(2,some [(.refx 0 0 b0)])]) [0,1,2,6,7,8,9,10,11,12,13,18] [2,6,7,0] (e_linS bv.length L b0 (L.getD a jz) (eE hLk ha) (L.getD b jz) (eE hLk hb) hn hL) (G:=[0]) (hG:=by exact (.cons (k:=0) (q:=2) (o:=0) (b:=b0) (j:=0) (by kernel_rfl) (by kernel_rfl) (by kernel_rfl) .nil)) (ex:=[.ref 2 0,.ref 6 0,.ref 7 0]) (hy:=.clo (kk:=[2,6,7]) (by kernel_rfl) (by kernel_rfl))<|zF) ?_
  refine ⟨qZ (by kernel_rfl),vA (by kernel_rfl),.inl ⟨_,.nil,?_⟩⟩
  rfl
 all_goals
  refine kx [(64,(vb false))] [] (zE (nH false xV (e:=rfl))<|zM<|zZ) ?_
  refine qW ?_
 rotate_left 2
 all_goals refine jB ?_
 ·refine kx [(68,(vb true))] [] (zE (nH true xV (e:=rfl))<|zM<|zZ) ?_
  refine yR ?_
  refine jB<|kx [] [(7,some (bx (jP (uT (L.getD a jz)))))] (zR (mG (jP (uT (L.getD a jz))) (jP (uT (L.getD a jz))) (kR sh46) (by exact rfl))<|zT (qM sh46)<|zZ) ?_
  refine kf [(6,.junk),(7,.junk)] [(0,some (yV bv.length 18 (L++[(nJ bv L x)]) false)),(18,some (yX (L++[(nJ bv L x)]))),(1,none),(10,none),(11,none),(12,none),(13,none),(14,none),(15,none),(16,none),(2,none),(5,none),(6,none),(7,none),(8,none),(9,none)] (zM<|zE (oMf [5])<|zSe (B2:=[(0,some (yV bv.length 1 L false)),(1,some (yX L)),(2,some [(.refx 0 0 b0)]),(6,some (bx (jP (uT (L.getD a jz))))),(7,some (bx (jP (uT (L.getD a jz))))),(5,some (bx (jN (qH (gw 0)))))]) (B2':=[(0,some (yV bv.length 18 (L++[(nJ bv L x)]) false)),(18,some (yX (L++[(nJ bv L x)]))),(2,some [(.refx 0 0 b0)])]) [0,1,2,6,7,8,9,10,11,5,12,13,14,15,16,18] [2,6,7,0] (e_linN bv.length L b0 (L.getD a jz) (eE hLk ha) (L.getD a jz) (eE hLk ha) hn hL) (G:=[0]) (hG:=by exact (.cons (k:=0) (q:=2) (o:=0) (b:=b0) (j:=0) (by kernel_rfl) (by kernel_rfl) (by kernel_rfl) .nil)) (ex:=[.ref 2 0,.ref 6 0,.ref 7 0]) (hy:=.clo (kk:=[2,6,7]) (by kernel_rfl) (by kernel_rfl))<|zF) ?_
  refine ⟨qZ (by kernel_rfl),vA (by kernel_rfl),.inl ⟨_,.nil,?_⟩⟩
  rfl
 all_goals
  refine kx [(68,(vb false))] [] (zE (nH false xV (e:=rfl))<|zM<|zZ) ?_
  refine qW ?_
 rotate_left 1
 all_goals refine jB ?_
 ·refine kx [(74,(vb true))] [] (zE (nH true xV (e:=rfl))<|zM<|zZ) ?_
  refine yR ?_
  refine kf [] [(0,some (yV bv.length 18 (L++[(nJ bv L x)]) false)),(18,some (yX (L++[(nJ bv L x)]))),(1,none),(10,none),(11,none),(12,none),(13,none),(6,none),(7,none),(8,none),(9,none)] (zR (oLx sh111)<|zE (oMf [6,7])<|zE (oMf [6,7])<|zE (oMf [6,7])<|zSe (B2:=[(0,some (yV bv.length 1 L false)),(1,some (yX L)),(6,some (bx (jP (uT (L.getD a jz))))),(7,some (bx (jP (uT (L.getD b jz)))))]) (B2':=[(0,some (yV bv.length 18 (L++[(nJ bv L x)]) false)),(18,some (yX (L++[(nJ bv L x)])))]) [0,1,6,7,8,9,10,11,12,13,18] [0,6,7] (e_nodeM bv.length L (L.getD a jz) (eE hLk ha) (L.getD b jz) (eE hLk hb) hn hL)<|zF) ?_
  refine ⟨qZ (by kernel_rfl),vA (by kernel_rfl),.inl ⟨_,.nil,?_⟩⟩
  rfl
 all_goals
  refine kx [(74,(vb false))] [] (zE (nH false xV (e:=rfl))<|zM<|zZ) ?_
  refine qW ?_
 rotate_left 1
 all_goals refine jB ?_
 ·refine kx [(81,(vb true))] [] (zE (nH true xV (e:=rfl))<|zM<|zZ) ?_
  refine yR ?_
  refine jB<|kx [(12,(.ref 8 0))] [(8,some (bx (jN (qH (gw 2)))))] (zE (kB (j_whole ((2:Nat):Int) (by omega) (by omega)))<|zH (vC 8 xF xK)<|zT (qM kO)<|zZ) ?_
  refine kf [] [(0,some (yV bv.length 18 (L++[(nJ bv L x)]) false)),(18,some (yX (L++[(nJ bv L x)]))),(1,none),(10,none),(11,none),(12,none),(13,none),(14,none),(6,none),(8,none),(9,none)] (zR (oLx sh111)<|zE (oMf [6])<|zE (oMf [8,6])<|zE (oMf [6,8])<|zSe (B2:=[(0,some (yV bv.length 1 L false)),(1,some (yX L)),(6,some (bx (jP (uT (L.getD a jz))))),(8,some (bx (jN (qH (gw 2)))))]) (B2':=[(0,some (yV bv.length 18 (L++[(nJ bv L x)]) false)),(18,some (yX (L++[(nJ bv L x)])))]) [0,1,6,8,9,10,11,12,13,14,18] [0,6,8] (e_nodeQ bv.length L (L.getD a jz) (eE hLk ha) (gw 2) (gl_w (z:=2) (by omega) (by omega)) hn hL)<|zF) ?_
  refine ⟨qZ (by kernel_rfl),vA (by kernel_rfl),.inl ⟨_,.nil,?_⟩⟩
  rfl
 all_goals
  refine kx [(81,(vb false))] [] (zE (nH false xV (e:=rfl))<|zM<|zZ) ?_
  refine qW ?_
 ·refine kf [] [(0,some (yV bv.length 18 (L++[(nJ bv L x)]) false)),(18,some (yX (L++[(nJ bv L x)]))),(1,none),(10,none),(11,none),(12,none),(2,none),(6,none),(7,none),(8,none),(9,none)] (zR (oLx sh111)<|zE (oMf [2,6,7])<|zE (oMf [2,6,7])<|zE (oMf [6,7,2])<|zSe (B2:=[(0,some (yV bv.length 1 L false)),(1,some (yX L)),(2,some [(.refx 0 0 b0)]),(6,some (bx (jP (uT (L.getD a jz))))),(7,some (bx (jP (uT (L.getD b jz)))))]) (B2':=[(0,some (yV bv.length 18 (L++[(nJ bv L x)]) false)),(18,some (yX (L++[(nJ bv L x)])))]) [0,1,2,6,7,8,9,10,11,12,18] [0,2,6,7] (e_nodeD bv.length L b0 (L.getD a jz) (eE hLk ha) (L.getD b jz) (eE hLk hb) hn hL hz)<|zF) ?_
  refine ⟨qZ (by kernel_rfl),vA (by kernel_rfl),.inl ⟨_,.nil,?_⟩⟩
  rfl
theorem j_sizes(t:List kC)(ht:yH 1048576 t)(z:Int):jR Tryz.prog 80 [(.sl 72 7 (List.map jM t)),(.val (.int .i64 (z)))] (.tup [(.sl 3 1 (List.map jH (tmL z t))),(.val (.int .i64 ((((gC z t):Nat):Int))))]):=by
 refine uU Tryz.func80 ?_
 refine jB<|kx [] [] (zE (fQ 3 1)<|zM<|zZ) ?_
 refine jB<|jB<|kx [(15,(vb (decide (z<0)||decide (64<z))))] [] ?_ ?_
 ·refine zM<|zE gX<|zE (oV (vb (decide (z<0))) (qA (by kernel_rfl)))<|?_
  rcases hb1:(decide (z<0)) with _ | _
  ·replace hb1:=vX hb1
   exact zM<|zE dI<|zE eM<|zZ
  ·replace hb1:=vN hb1
   exact zK<|zK<|zE gU<|zZ
 refine jF (b:=(decide (z<0)||decide (64<z))) rfl (fun h2=>?_) (fun h2=>?_)
 ·refine jB<|kx [(4,(vl 3 1 jH [])),(5,(kG 2))] [] (zE (fQ 3 1)<|zM<|zZ) ?_
  refine jE ⟨_,(.tmp (d:=(.sl 3 1 (List.map jH []))) rfl (.tmp (d:=(.val (.int .i64 (2)))) rfl .nil)),?_⟩
  have he:=zb_t (t:=t) h2
  rw[he.1,he.2];rfl
 ·have hz0:=h2
  refine jG<|jB<|jB<|kx [(18,(vb (((t.length:Nat):Int) == 0)))] [] (zM<|zE (zL xZ)<|zE xV<|zZ) ?_
  refine jF (b:=(((t.length:Nat):Int) == 0)) rfl (fun h3=>?_) (fun h3=>?_)
  ·replace h3:=eq_of_beq h3
   refine jB<|kx [(4,(vl 3 1 jH [])),(5,(kG 1))] [] (zE (fQ 3 1)<|zM<|zZ) ?_
   refine jE ⟨_,(.tmp (d:=(.sl 3 1 (List.map jH []))) rfl (.tmp (d:=(.val (.int .i64 (1)))) rfl .nil)),?_⟩
   have he:=tm_l0 hz0 (show t.length=0 by omega)
   rw[he.1,he.2];rfl
  ·replace h3:=ne_of_beq_false h3
   have h0:=h3
   refine jG<|jB<|jB<|kx [(21,(vb (decide (400<((t.length:Nat):Int)))))] [] (zM<|zE (zL xZ)<|zE dI<|zZ) ?_
   refine jF (b:=decide (400<((t.length:Nat):Int))) rfl (fun h4=>?_) (fun h4=>?_)
   ·replace h4:=vN h4
    refine jB<|kx [(4,(vl 3 1 jH [])),(5,(kG 3))] [] (zE (fQ 3 1)<|zM<|zZ) ?_
    refine jE ⟨_,(.tmp (d:=(.sl 3 1 (List.map jH []))) rfl (.tmp (d:=(.val (.int .i64 (3)))) rfl .nil)),?_⟩
    have he:=tm_lb hz0 (show 400<t.length by omega)
    rw[he.1,he.2];rfl
   ·replace h4:=vX h4
    have h400:=h4
    refine jG<|jB<|kx [(6,(.own 0 3 1 t.length))] [(0,some (bm jH (List.replicate t.length 0)))] (zM<|zE (zL xZ)<|zN (oMk 0 jH (0:Int) t.length t.length uI ze3 zo3 by3)<|zM<|zZ) ?_
    refine jB<|jB<|kx [(25,(vl 72 7 jM t)),(26,(kG t.length)),(27,(kG 0))] [] (zM<|zE (zL xZ)<|zM<|zZ) ?_
    refine jL<|kQ (α:=Nat × List Int) (fun (k,o)=>⟨[(1,(vi z)),(6,(.own 0 3 1 t.length)),(25,(vl 72 7 jM t)),(26,(kG t.length)),(27,(kG k))],[(0,some (bm jH o))]⟩) (fun (k,o)=>k<=t.length/\szI t k o/\szUp z t k) (fun (k,o)=>t.length-k) (0,List.replicate t.length 0) wk ⟨Nat.zero_le _,szI_0,szUp_0 _ _⟩ ?_
    rintro ⟨k,o⟩ ⟨hk,ho,hu⟩
    have qK:=ho.1
    refine jB<|kx [(28,(vb (decide (((k:Nat):Int)<((t.length:Nat):Int)))))] [] (zE gX<|zZ) ?_
    refine jB<|jF rfl (fun h5=>?_) (fun h5=>?_)
    ·replace h5:=vN h5
     have hR:=tmr hz0 h5 h400 hu
     have hkl:=hR.kl
     refine jG<|jB<|jL<|jB<|kx [(7,(kG k)),(8,(.ref 1 0))] [(1,some (bx (jM (t.getD k tz))))] (zM<|zE (mV xZ k (tz:kC))<|zE (cV dP)<|zH (vC 1 cX eN)<|zM<|zT (qM dP)<|zZ) ?_
     refine jB<|kx [(9,(vi (uA ((t.getD k tz).op))))] [] (zE (kK xY)<|zR (qI dD)<|zE (kB (j_kids ((t.getD k tz).op)))<|zM<|zZ) ?_
     refine jB<|jB<|kx [(72,(vb (((decide ((uA ((t.getD k tz).op))<0)||(decide ((uA ((t.getD k tz).op))<2)&&((t.getD k tz).b != 0)))||(((t.getD k tz).op == 0)&&(((t.getD k tz).a != 0)||!(kL ((t.getD k tz).n)))))||(((t.getD k tz).op != 0)&&!(unsB ((t.getD k tz).n))))))] [] ?_ ?_
     ·refine zM<|zE gX<|zE (oV (vb (decide ((uA ((t.getD k tz).op))<0))) (qA (by kernel_rfl)))<|?_
      rcases hb6:(decide ((uA ((t.getD k tz).op))<0)) with _ | _
      ·replace hb6:=vX hb6
       refine zM<|zE gX<|zE (oV (vb (decide ((uA ((t.getD k tz).op))<2))) (qA (by kernel_rfl)))<|?_
       rcases hb7:(decide ((uA ((t.getD k tz).op))<2)) with _ | _
       ·replace hb7:=vX hb7
        refine zK<|zK<|zK<|zE yS<|zE yS<|zM<|zE (kK xY)<|zR (qI dD)<|zE xV<|zE (oV (vb ((t.getD k tz).op == 0)) (qA (by kernel_rfl)))<|?_
        rcases hb8:((t.getD k tz).op == 0) with _ | _
        ·replace hb8:=ne_of_beq_false hb8
         refine zK<|zK<|zK<|zK<|zK<|zK<|zK<|zK<|zK<|zE yS<|zE yS<|zM<|zE (kK xY)<|zR (qI dD)<|zE aK<|zE (oV (vb ((t.getD k tz).op != 0)) (qA (by kernel_rfl)))<|?_
         rcases hb9:((t.getD k tz).op != 0) with _ | _
         ·replace hb9:=bne_eq_false_iff_eq.1 hb9
          exact zK<|zK<|zK<|zK<|zE yS<|zE yS<|zZ
         ·replace hb9:=bne_iff_ne.1 hb9
          exact zE (kK gV)<|zR (kR jS)<|zE (kB (j_unset ((t.getD k tz).n) (vQ (t.getD k tz).n) (tn_get ht (show k<t.length by omega))))<|zE mH<|zE eK<|zE eM<|zZ
        ·replace hb8:=eq_of_beq hb8
         refine zE (kK qG)<|zR (qI uC)<|zE aK<|zE (oV (vb ((t.getD k tz).a != 0)) (qA (by kernel_rfl)))<|?_
         rcases hb10:((t.getD k tz).a != 0) with _ | _
         ·replace hb10:=bne_eq_false_iff_eq.1 hb10
          refine zE (kK gV)<|zR (kR jS)<|zE (kB (eU ((t.getD k tz).n) (vQ (t.getD k tz).n) (jY (tn_get ht (show k<t.length by omega)))))<|zE mH<|zE eM<|zE eK<|zE eM<|zE (oV (vb (false||(true&&(false||!(kL ((t.getD k tz).n)))))) (qA (by kernel_rfl)))<|?_
          rcases hb11:(!(kL ((t.getD k tz).n))) with _ | _
          ·refine zE (kK xY)<|zR (qI dD)<|zE aK<|zE (oV (vb ((t.getD k tz).op != 0)) (qA (by kernel_rfl)))<|?_
           rcases hb12:((t.getD k tz).op != 0) with _ | _
           ·replace hb12:=bne_eq_false_iff_eq.1 hb12
            exact zK<|zK<|zK<|zK<|zE yS<|zE yS<|zZ
           ·replace hb12:=bne_iff_ne.1 hb12
            exact zE (kK gV)<|zR (kR jS)<|zE (kB (j_unset ((t.getD k tz).n) (vQ (t.getD k tz).n) (tn_get ht (show k<t.length by omega))))<|zE mH<|zE eK<|zE eM<|zZ
          ·exact zK<|zK<|zK<|zK<|zK<|zK<|zK<|zK<|zK<|zE gU<|zZ
         ·replace hb10:=bne_iff_ne.1 hb10
          exact zK<|zK<|zK<|zK<|zE gU<|zE gU<|zE yS<|zM<|zK<|zK<|zK<|zK<|zK<|zK<|zK<|zK<|zK<|zE gU<|zZ
       ·replace hb7:=vN hb7
        refine zE (kK uK)<|zR (qI uC)<|zE aK<|zE eK<|zE eM<|zE (oV (vb (false||(true&&((t.getD k tz).b != 0)))) (qA (by kernel_rfl)))<|?_
        rcases hb13:((t.getD k tz).b != 0) with _ | _
        ·replace hb13:=bne_eq_false_iff_eq.1 hb13
         refine zE (kK xY)<|zR (qI dD)<|zE xV<|zE (oV (vb ((t.getD k tz).op == 0)) (qA (by kernel_rfl)))<|?_
         rcases hb14:((t.getD k tz).op == 0) with _ | _
         ·replace hb14:=ne_of_beq_false hb14
          refine zK<|zK<|zK<|zK<|zK<|zK<|zK<|zK<|zK<|zE yS<|zE yS<|zM<|zE (kK xY)<|zR (qI dD)<|zE aK<|zE (oV (vb ((t.getD k tz).op != 0)) (qA (by kernel_rfl)))<|?_
          rcases hb15:((t.getD k tz).op != 0) with _ | _
          ·replace hb15:=bne_eq_false_iff_eq.1 hb15
           exact zK<|zK<|zK<|zK<|zE yS<|zE yS<|zZ
          ·replace hb15:=bne_iff_ne.1 hb15
           exact zE (kK gV)<|zR (kR jS)<|zE (kB (j_unset ((t.getD k tz).n) (vQ (t.getD k tz).n) (tn_get ht (show k<t.length by omega))))<|zE mH<|zE eK<|zE eM<|zZ
         ·replace hb14:=eq_of_beq hb14
          refine zE (kK qG)<|zR (qI uC)<|zE aK<|zE (oV (vb ((t.getD k tz).a != 0)) (qA (by kernel_rfl)))<|?_
          rcases hb16:((t.getD k tz).a != 0) with _ | _
          ·replace hb16:=bne_eq_false_iff_eq.1 hb16
           refine zE (kK gV)<|zR (kR jS)<|zE (kB (eU ((t.getD k tz).n) (vQ (t.getD k tz).n) (jY (tn_get ht (show k<t.length by omega)))))<|zE mH<|zE eM<|zE eK<|zE eM<|zE (oV (vb (false||(true&&(false||!(kL ((t.getD k tz).n)))))) (qA (by kernel_rfl)))<|?_
           rcases hb17:(!(kL ((t.getD k tz).n))) with _ | _
           ·refine zE (kK xY)<|zR (qI dD)<|zE aK<|zE (oV (vb ((t.getD k tz).op != 0)) (qA (by kernel_rfl)))<|?_
            rcases hb18:((t.getD k tz).op != 0) with _ | _
            ·replace hb18:=bne_eq_false_iff_eq.1 hb18
             exact zK<|zK<|zK<|zK<|zE yS<|zE yS<|zZ
            ·replace hb18:=bne_iff_ne.1 hb18
             exact zE (kK gV)<|zR (kR jS)<|zE (kB (j_unset ((t.getD k tz).n) (vQ (t.getD k tz).n) (tn_get ht (show k<t.length by omega))))<|zE mH<|zE eK<|zE eM<|zZ
           ·exact zK<|zK<|zK<|zK<|zK<|zK<|zK<|zK<|zK<|zE gU<|zZ
          ·replace hb16:=bne_iff_ne.1 hb16
           exact zK<|zK<|zK<|zK<|zE gU<|zE gU<|zE yS<|zM<|zK<|zK<|zK<|zK<|zK<|zK<|zK<|zK<|zK<|zE gU<|zZ
        ·replace hb13:=bne_iff_ne.1 hb13
         exact zK<|zK<|zK<|zK<|zK<|zK<|zK<|zK<|zK<|zK<|zK<|zK<|zK<|zK<|zE gU<|zM<|zK<|zK<|zK<|zK<|zK<|zK<|zK<|zK<|zK<|zE gU<|zZ
      ·replace hb6:=vN hb6
       exact zK<|zK<|zK<|zK<|zK<|zK<|zK<|zE gU<|zM<|zK<|zK<|zK<|zK<|zK<|zK<|zK<|zK<|zK<|zK<|zK<|zK<|zK<|zK<|zE gU<|zM<|zK<|zK<|zK<|zK<|zK<|zK<|zK<|zK<|zK<|zE gU<|zZ
     refine jF rfl (fun h19=>?_) (fun h19=>?_)
     ·refine jB<|kx [(4,(vl 3 1 jH [])),(5,(kG 1))] [] (zE (fQ 3 1)<|zM<|zZ) ?_
      refine jE ⟨_,(.tmp (d:=(.sl 3 1 (List.map jH []))) rfl (.tmp (d:=(.val (.int .i64 (1)))) rfl .nil)),?_⟩
      have he:=hR.bad h19
      rw[he.1,he.2];rfl
     ·have hB:=h19
      refine jG<|jB<|jB<|kx [(100,(vb ((decide (0<(uA ((t.getD k tz).op)))&&(decide ((t.getD k tz).a<0)||decide (((k:Nat):Int)<=(t.getD k tz).a)))||(decide (1<(uA ((t.getD k tz).op)))&&(decide ((t.getD k tz).b<0)||decide (((k:Nat):Int)<=(t.getD k tz).b))))))] [] ?_ ?_
      ·refine zM<|zE dI<|zE (oV (vb (decide (0<(uA ((t.getD k tz).op))))) (qA (by kernel_rfl)))<|?_
       rcases hb20:(decide (0<(uA ((t.getD k tz).op)))) with _ | _
       ·replace hb20:=vX hb20
        refine zK<|zK<|zK<|zK<|zK<|zK<|zK<|zK<|zK<|zE yS<|zM<|zM<|zE dI<|zE (oV (vb (decide (1<(uA ((t.getD k tz).op))))) (qA (by kernel_rfl)))<|?_
        rcases hb21:(decide (1<(uA ((t.getD k tz).op)))) with _ | _
        ·replace hb21:=vX hb21
         exact zK<|zK<|zK<|zK<|zK<|zK<|zK<|zK<|zK<|zE yS<|zE yS<|zZ
        ·replace hb21:=vN hb21
         refine zE (kK uK)<|zR (qI uC)<|zE gX<|zE (oV (vb (decide ((t.getD k tz).b<0))) (qA (by kernel_rfl)))<|?_
         rcases hb22:(decide ((t.getD k tz).b<0)) with _ | _
         ·replace hb22:=vX hb22
          exact zE (kK uK)<|zR (qI uC)<|zM<|zE oGe<|zE eM<|zE eK<|zE eM<|zZ
         ·replace hb22:=vN hb22
          exact zK<|zK<|zK<|zK<|zE gU<|zE gU<|zE yS<|zZ
       ·replace hb20:=vN hb20
        refine zE (kK qG)<|zR (qI uC)<|zE gX<|zE (oV (vb (decide ((t.getD k tz).a<0))) (qA (by kernel_rfl)))<|?_
        rcases hb23:(decide ((t.getD k tz).a<0)) with _ | _
        ·replace hb23:=vX hb23
         refine zE (kK qG)<|zR (qI uC)<|zM<|zE oGe<|zE eM<|zE eK<|zE (oV (vb (true&&(false||decide (((k:Nat):Int)<=(t.getD k tz).a)))) (qA (by kernel_rfl)))<|?_
         rcases hb24:(decide (((k:Nat):Int)<=(t.getD k tz).a)) with _ | _
         ·replace hb24:=vX hb24
          refine zM<|zE dI<|zE (oV (vb (decide (1<(uA ((t.getD k tz).op))))) (qA (by kernel_rfl)))<|?_
          rcases hb25:(decide (1<(uA ((t.getD k tz).op)))) with _ | _
          ·replace hb25:=vX hb25
           exact zK<|zK<|zK<|zK<|zK<|zK<|zK<|zK<|zK<|zE yS<|zE yS<|zZ
          ·replace hb25:=vN hb25
           refine zE (kK uK)<|zR (qI uC)<|zE gX<|zE (oV (vb (decide ((t.getD k tz).b<0))) (qA (by kernel_rfl)))<|?_
           rcases hb26:(decide ((t.getD k tz).b<0)) with _ | _
           ·replace hb26:=vX hb26
            exact zE (kK uK)<|zR (qI uC)<|zM<|zE oGe<|zE eM<|zE eK<|zE eM<|zZ
           ·replace hb26:=vN hb26
            exact zK<|zK<|zK<|zK<|zE gU<|zE gU<|zE yS<|zZ
         ·replace hb24:=vN hb24
          exact zK<|zK<|zK<|zK<|zK<|zK<|zK<|zK<|zK<|zK<|zK<|zK<|zK<|zE gU<|zZ
        ·replace hb23:=vN hb23
         exact zK<|zK<|zK<|zK<|zE gU<|zE gU<|zM<|zK<|zK<|zK<|zK<|zK<|zK<|zK<|zK<|zK<|zK<|zK<|zK<|zK<|zE gU<|zZ
      refine jF rfl (fun h27=>?_) (fun h27=>?_)
      ·refine jB<|kx [(4,(vl 3 1 jH [])),(5,(kG 5))] [] (zE (fQ 3 1)<|zM<|zZ) ?_
       refine jE ⟨_,(.tmp (d:=(.sl 3 1 (List.map jH []))) rfl (.tmp (d:=(.val (.int .i64 (5)))) rfl .nil)),?_⟩
       have he:=hR.ord hB h27
       rw[he.1,he.2];rfl
      ·have hO:=h27
       refine jG<|jB<|jB<|kx [(114,(vb (((t.getD k tz).op == 1)&&(decide ((t.getD k tz).a<0)||decide (z<=(t.getD k tz).a)))))] [] ?_ ?_
       ·refine zE (kK xY)<|zR (qI dD)<|zE xV<|zE (oV (vb ((t.getD k tz).op == 1)) (qA (by kernel_rfl)))<|?_
        rcases hb28:((t.getD k tz).op == 1) with _ | _
        ·replace hb28:=ne_of_beq_false hb28
         exact zK<|zK<|zK<|zK<|zK<|zK<|zK<|zK<|zK<|zE yS<|zZ
        ·replace hb28:=eq_of_beq hb28
         refine zE (kK qG)<|zR (qI uC)<|zE gX<|zE (oV (vb (decide ((t.getD k tz).a<0))) (qA (by kernel_rfl)))<|?_
         rcases hb29:(decide ((t.getD k tz).a<0)) with _ | _
         ·replace hb29:=vX hb29
          exact zE (kK qG)<|zR (qI uC)<|zM<|zE oGe<|zE eM<|zE eK<|zZ
         ·replace hb29:=vN hb29
          exact zK<|zK<|zK<|zK<|zE gU<|zE gU<|zZ
       refine jF rfl (fun h30=>?_) (fun h30=>?_)
       ·refine jB<|kx [(4,(vl 3 1 jH [])),(5,(kG 2))] [] (zE (fQ 3 1)<|zM<|zZ) ?_
        refine jE ⟨_,(.tmp (d:=(.sl 3 1 (List.map jH []))) rfl (.tmp (d:=(.val (.int .i64 (2)))) rfl .nil)),?_⟩
        have he:=hR.rng hB hO h30
        rw[he.1,he.2];rfl
       ·have hN:=ndr hR hB hO h30
        refine jG<|pwp_seqjoin (α:=Int) (fun v=>⟨[(1,(vi z)),(6,(.own 0 3 1 t.length)),(7,(kG k)),(25,(vl 72 7 jM t)),(26,(kG t.length)),(27,(kG k))],[(0,some (bm jH (o.set k v)))]⟩) (fun v=>v=fR (nS t k) (t.getD k tz)) ?_ ?_
        ·refine jB<|kx [(129,(vb ((uA ((t.getD k tz).op)) == 0)))] [] (zM<|zE xV<|zM<|zZ) ?_
         refine jF (b:=((uA ((t.getD k tz).op)) == 0)) rfl (fun h31=>?_) (fun h31=>?_)
         ·replace h31:=eq_of_beq h31
          have hv:=szN_c (ss:=nS t k) h31
          refine kx [] [(0,some (bm jH (o.set k 1)))] (zM<|zM<|zE (zJ uI k)<|zT (dH uC k (1:Int))<|zZ) ?_
          exact ⟨1,wk,hv⟩
         ·replace h31:=ne_of_beq_false h31
          have hk0:=h31
          obtain ⟨a1,a2,a3,a4,a5⟩:=hN.a ho hk0
          refine jB<|kx [(135,(vb ((t.getD k tz).op == 6)))] [] (zE (kK xY)<|zR (qI dD)<|zE xV<|zM<|zZ) ?_
          refine jF (b:=((t.getD k tz).op == 6)) rfl (fun h32=>?_) (fun h32=>?_)
          ·replace h32:=eq_of_beq h32
           have hv:=szN_n hk0 h32 a3
           refine kx [] [(0,some (bm jH (o.set k (o.getD (((t.getD k tz).a).toNat) 0))))] (zM<|zM<|zM<|zE (kK qG)<|zR (qI uC)<|zE (zJ uI (((t.getD k tz).a).toNat))<|zR (dG uC (((t.getD k tz).a).toNat) (0:Int))<|zE (zJ uI k)<|zT (dH uC k (o.getD (((t.getD k tz).a).toNat) 0))<|zZ) ?_
           exact ⟨(o.getD (((t.getD k tz).a).toNat) 0),wk,hv⟩
          ·replace h32:=ne_of_beq_false h32
           have h6:=h32
           refine jB<|kx [(147,(vb ((t.getD k tz).op == 7)))] [] (zE (kK xY)<|zR (qI dD)<|zE xV<|zM<|zZ) ?_
           refine jF (b:=((t.getD k tz).op == 7)) rfl (fun h33=>?_) (fun h33=>?_)
           ·replace h33:=eq_of_beq h33
            have hv:=szN_q hk0 h33 a3
            refine kx [] [(0,some (bm jH (o.set k (2*(o.getD (((t.getD k tz).a).toNat) 0)))))] (zM<|zM<|zM<|zE (kK qG)<|zR (qI uC)<|zE (zJ uI (((t.getD k tz).a).toNat))<|zR (dG uC (((t.getD k tz).a).toNat) (0:Int))<|zE (zMl (2*(o.getD (((t.getD k tz).a).toNat) 0)))<|zE (zJ uI k)<|zT (dH uC k (2*(o.getD (((t.getD k tz).a).toNat) 0)))<|zZ) ?_
            exact ⟨(2*(o.getD (((t.getD k tz).a).toNat) 0)),wk,hv⟩
           ·replace h33:=ne_of_beq_false h33
            obtain ⟨b1,b2,b3,b4,b5⟩:=hN.b ho hk0 h6 h33
            have hv:=szN_b hk0 h6 h33 a3 b3
            refine kd [] [(0,some (bm jH (o.set k ((o.getD (((t.getD k tz).a).toNat) 0)+(o.getD (((t.getD k tz).b).toNat) 0)))))] mo (wM<|wM<|wM<|wE (kK qG)<|wR (qI uC)<|wE (zJ uI (((t.getD k tz).a).toNat))<|wR (dG uC (((t.getD k tz).a).toNat) (0:Int))<|wM<|wE (kK uK)<|wR (qI uC)<|wE (zJ uI (((t.getD k tz).b).toNat))<|wR (dG uC (((t.getD k tz).b).toNat) (0:Int))<|wE (zAd ((o.getD (((t.getD k tz).a).toNat) 0)+(o.getD (((t.getD k tz).b).toNat) 0)))<|wE (zJ uI k)<|wT (dH uC k ((o.getD (((t.getD k tz).a).toNat) 0)+(o.getD (((t.getD k tz).b).toNat) 0)))<|wZ) ?_
            exact ⟨((o.getD (((t.getD k tz).a).toNat) 0)+(o.getD (((t.getD k tz).b).toNat) 0)),wk,hv⟩
        ·rintro v hv
         have hsl:(o.set k v).length=o.length:=List.length_set
         refine jB<|kx [(164,(vb (decide (4096<((o.set k v).getD k 0)))))] [] (zM<|zM<|zE (zJ uI k)<|zR (dG uC k (0:Int))<|zE dI<|zZ) ?_
         refine jF (b:=decide (4096<((o.set k v).getD k 0))) rfl (fun h34=>?_) (fun h34=>?_)
         ·replace h34:=vN h34
          refine jB<|kx [(4,(vl 3 1 jH [])),(5,(kG 3))] [] (zE (fQ 3 1)<|zM<|zZ) ?_
          refine jE ⟨_,(.tmp (d:=(.sl 3 1 (List.map jH []))) rfl (.tmp (d:=(.val (.int .i64 (3)))) rfl .nil)),?_⟩
          have he:=hN.big hv (by omega) h34
          rw[he.1,he.2];rfl
         ·replace h34:=vX h34
          refine jG<|kx [(27,(kG (k+1)))] [] (zE (vY (k+1))<|zM<|zZ) ?_
          exact ⟨(k+1,o.set k v),wk,(hN.next hv ho (by omega)),(by first|omega|(dsimp only;omega))⟩
    ·replace h5:=vX h5
     refine kN<|jB<|kx [(4,(.own 0 3 1 t.length)),(5,(kG 0))] [] (zM<|zM<|zM<|zZ) ?_
     refine qL (yG (t:=4) (k:=0) (es:=List.map jH o) rfl rfl (vK _ _ (fun _=>rfl)) (xH _ _ qK) (xJ _ _ (fun _=>rfl) qK)) ?_
     refine jE ⟨_,(.tmp (d:=(.sl 3 1 (List.map jH o))) rfl (.tmp (d:=(.val (.int .i64 (0)))) rfl .nil)),?_⟩
     have he:=tm_end hz0 h0 h400 hk h5 ho hu
     rw[he.1,he.2];rfl
theorem fo113_4:uQ Tryz.prog 113 4=some 4:=by kernel_rfl
theorem pl113:cR Tryz.prog 113=some [(0,1),(1,1),(2,1),(3,1),(4,1)]:=by kernel_rfl
theorem ze113:vO Tryz.prog 113=some [.int .i64 0,.int .i64 0,.int .i64 0,.slice none 0 0,.bool false]:=by kernel_rfl
theorem zn113:dC [.int .i64 0,.int .i64 0,.int .i64 0,.slice none 0 0,.bool false] [.val (.int .i64 0),.val (.int .i64 0),.val (.int .i64 0),.val (.slice none 0 0),.val (.bool false)]:=by simp [dC,Value.oneCell']
def StepAt(bv:List R2)(L:List JV)(x:kC):Prop:=vR Tryz.prog 77 [(.ref 0 0),(.d (jM x)),(vl 42 8 jN (List.map qH bv))] [(0,some (yV bv.length 1 (L) false)),(1,some (yX (L)))] (.d (.tup [])) [(0,some (yV bv.length 18 (L++[nJ bv L x]) false)),(18,some (yX (L++[nJ bv L x])))]
theorem e_step(x:kC)(bv:List R2)(hbx:∀ x∈bv,GL 1048576 x)(L:List JV)(hst:StepAt bv L x):vR Tryz.prog 77 [(.ref 0 0),(.d (jM x)),(vl 42 8 jN (List.map qH bv))] [(0,some (yV bv.length 1 (L) false)),(1,some (yX (L)))] (.d (.tup [])) [(0,some (yV bv.length 18 (L++[nJ bv L x]) false)),(18,some (yX (L++[nJ bv L x])))]:=hst
structure JRunP (bv:List R2) (t:List kC):Prop where
 run:JRun bv t
 st:∀ k,k<t.length->StepAt bv (jU bv t k) (t.getD k tz)
theorem j_chk(t:List kC)(ht:yH 1048576 t)(z:Int):jR Tryz.prog 39 [(.sl 72 7 (List.map jM t)),(.val (.int .i64 (z)))] (.val (.int .i64 ((((gC z t):Nat):Int)))):=by
 refine uU Tryz.func39 ?_
 refine jB<|kx [] [] (zM<|zZ) ?_
 refine jB<|kx [(6,(kG (gC z t)))] [] (zM<|zM<|zE (kB (j_sizes t ht z))<|zM<|zE xU<|zE xU<|zM<|zM<|zZ) ?_
 refine jB<|kx [(4,(kG (gC z t)))] [] (zM<|zM<|zZ) ?_
 refine jE ⟨_,(.tmp (d:=(.val (.int .i64 ((((gC z t):Nat):Int))))) rfl .nil),?_⟩
 rfl
theorem j_jets(t:List kC)(ht:yH 1048576 t)(bv:List R2)(hbx:∀ x∈bv,GL 1048576 x)(hr:JRunP bv t):jR Tryz.prog 29 [(.sl 72 7 (List.map jM t)),(.sl 42 8 (List.map jN (List.map qH bv))),(.val (.int .i64 (((1:Nat):Int)))),(.val (.int .i64 (-1)))] (.tup [(jP (uT (cC bv t))),(.val (.int .i64 (((0:Nat):Int))))]):=by
 have h0:=tm_0 hr.run.c0
 let y3:=(kJ.mk uD uD)
 let y2:=(bx (jP (aV.mk y3 [] [])))
 let y1:=(bx (.agg [(.val (.int .i64 (((bv.length:Nat):Int)))),(.val (.int .i64 (((1:Nat):Int)))),(.val (.int .i64 (-1))),(.val (.slice none 0 0)),(.val (.bool (false)))]))
 refine uU Tryz.func29 ?_
 refine jB<|kx [(8,(.ref 0 0))] [(0,some y2)] (zN (vC 0 ze46 zo46)<|zM<|zZ) ?_
 refine jB<|jB<|kx [(16,(vl 42 8 jN (List.map qH bv))),(17,(kG bv.length)),(18,(kG 0))] [] (zM<|zE (oLn cF bv.length)<|zM<|zZ) ?_
 refine jL<|kQ (α:=Nat) (fun i=>⟨[(0,(vl 72 7 jM t)),(1,(vl 42 8 jN (List.map qH bv))),(2,(kG 1)),(3,(vi (-1))),(8,(.ref 0 0)),(16,(vl 42 8 jN (List.map qH bv))),(17,(kG bv.length)),(18,(kG i))],[(0,some y2)]⟩) (fun i=>i<=bv.length) (fun i=>bv.length-i) 0 wk (Nat.zero_le _) ?_
 rintro i hi
 refine jB<|kx [(19,(vb (decide (((i:Nat):Int)<((bv.length:Nat):Int)))))] [] (zE gX<|zZ) ?_
 refine jB<|jF rfl (fun h1=>?_) (fun h1=>?_)
 ·replace h1:=vN h1
  refine jG<|jB<|jL<|jB<|kx [(11,(.ref 1 0))] [(1,some (bx (jN (qH (bv.getD i z2)))))] (zE (oXm cF qH i z2)<|zE (cV kO)<|zN (vC 1 xF xK)<|zT (qM kO)<|zZ) ?_
  refine jB<|kx [(24,(vb false))] [] (zR (kR kO)<|zE (kB (by have h:=i_valid (qH (bv.getD i z2)) (mP (⟨qY (jY (kF (zG hbx (by decide) i).1) (by decide:1048576<=1048576)),qY (jY (kF (zG hbx (by decide) i).2.1) (by decide:1048576<=1048576))⟩));rw[show xM (qH (bv.getD i z2))=true from gP (zG hbx (by decide) i).2.2] at h;exact h))<|zE mH<|zZ) ?_
  refine qW ?_
  refine jG<|kx [(18,(kG (i+1)))] [] (zE (vY (i+1))<|zM<|zZ) ?_
  exact ⟨i+1,wk,(by omega),(by first|omega|(dsimp only;omega))⟩
 ·replace h1:=vX h1
  refine kN<|jB<|jB<|kx [(36,(vb false))] [] (zM<|zE (nH false gX)<|zM<|zM<|zE (nH false dI)<|zE yS<|zM<|zM<|zE (nH false dI)<|zE yS<|zZ) ?_
  refine qW ?_
  refine jG<|jB<|jB<|kx [(12,(kG (gC ((bv.length:Nat):Int) t)))] [] (zM<|zM<|zE (oLn cF bv.length)<|zE (kB (j_chk t ht ((bv.length:Nat):Int)))<|zM<|zZ) ?_
  refine jB<|kx [(43,(vb false))] [] (zM<|zE (nH false aK (by exact bne_eq_false_iff_eq.2 (by rw[show (gC ((bv.length:Nat):Int) t)=0 from hr.run.c0]<;>rfl)))<|zZ) ?_
  refine qW ?_
  refine jG<|jB<|kx [(13,(.ref 2 0))] [(2,some y1)] (zM<|zE (oLn cF bv.length)<|zM<|zM<|zE (bC pl113 ze113 zn113)<|zN (vZ 2)<|zM<|zZ) ?_
  refine jB<|jB<|pwp_own 2 3 3 46 10 (cs:=y1) (h:=?_)
  refine qL (wk (l:=[(0,(vl 72 7 jM t)),(1,(vl 42 8 jN (List.map qH bv))),(8,(.ref 0 0)),(13,(.ref 2 0))]) (b:=[(0,some y2),(2,some [(kG bv.length),(kG 1),(vi (-1)),(.own 3 46 10 0),(vb false)]),(3,some (qN jP []))])) ?_
  refine kx [(52,(vl 72 7 jM t)),(53,(kG t.length)),(54,(kG 0))] [] (zM<|zE (zL xZ)<|zM<|zZ) ?_
  refine jL<|kQ (α:=Nat) (fun k=>⟨[(1,(vl 42 8 jN (List.map qH bv))),(8,(.ref 0 0)),(13,(.ref 2 0)),(52,(vl 72 7 jM t)),(53,(kG t.length)),(54,(kG k))],[(0,some y2),(2,some (yV bv.length 3 (jU bv t k) false)),(3,some (yX (jU bv t k)))]⟩) (fun k=>k<=t.length) (fun k=>t.length-k) 0 wk (Nat.zero_le _) ?_
  rintro k hk
  have hju:=fN bv t k
  have hjm:(List.map uT (jU bv t k)).length=k:=by rw[List.length_map,hju]
  have hup:=hr.run.upto hk
  refine jB<|kx [(55,(vb (decide (((k:Nat):Int)<((t.length:Nat):Int)))))] [] (zE gX<|zZ) ?_
  refine jB<|jF rfl (fun h2=>?_) (fun h2=>?_)
  ·replace h2:=vN h2
   refine jG<|jB<|jL<|jB<|kx [(15,(.ref 4 0))] [(4,some (bx (jM (t.getD k tz))))] (zE (mV xZ k (tz:kC))<|zE (cV dP)<|zH (vC 4 cX eN)<|zT (qM dP)<|zZ) ?_
   refine jB<|kf [] [(2,some (yV bv.length 21 ((jU bv t k)++[(nJ bv (jU bv t k) (t.getD k tz))]) false)),(21,some (yX ((jU bv t k)++[(nJ bv (jU bv t k) (t.getD k tz))]))),(10,none),(11,none),(12,none),(13,none),(14,none),(15,none),(16,none),(17,none),(18,none),(19,none),(20,none),(3,none),(5,none),(6,none),(7,none),(8,none),(9,none)] (zM<|zR (kR dP)<|zM<|zSe (B2:=[(2,some (yV bv.length 3 (jU bv t k) false)),(3,some (yX (jU bv t k)))]) (B2':=[(2,some (yV bv.length 21 ((jU bv t k)++[(nJ bv (jU bv t k) (t.getD k tz))]) false)),(21,some (yX ((jU bv t k)++[(nJ bv (jU bv t k) (t.getD k tz))])))]) [2,3,5,6,7,8,9,10,11,12,13,14,15,16,17,18,19,20,21] [2] (e_step (t.getD k tz) bv hbx (jU bv t k) (hr.st k (show k<t.length by omega)))<|zF) ?_
   refine qL (wk (l:=[(1,(vl 42 8 jN (List.map qH bv))),(8,(.ref 0 0)),(13,(.ref 2 0)),(52,(vl 72 7 jM t)),(53,(kG t.length)),(54,(kG k))]) (b:=[(0,some y2),(2,some (yV bv.length 21 ((jU bv t k)++[(nJ bv (jU bv t k) (t.getD k tz))]) false)),(21,some (yX ((jU bv t k)++[(nJ bv (jU bv t k) (t.getD k tz))])))])) ?_
   refine qL (sim_ren2 (S':=[(1,(vl 42 8 jN (List.map qH bv))),(8,(.ref 0 0)),(13,(.ref 2 0)),(52,(vl 72 7 jM t)),(53,(kG t.length)),(54,(kG k))]) (B':=[(0,some y2),(2,some (yV bv.length 3 ((jU bv t k)++[(nJ bv (jU bv t k) (t.getD k tz))]) false)),(3,some (yX ((jU bv t k)++[(nJ bv (jU bv t k) (t.getD k tz))])))]) 3 21 2) ?_
   refine jB<|kx [(65,(vb false))] [] (zM<|zE oNc<|zE (kK fo113_4)<|zR (qI eL)<|zZ) ?_
   refine qW ?_
   refine jG<|kx [(54,(kG (k+1)))] [] (zE (vY (k+1))<|zM<|zZ) ?_
   exact ⟨k+1,wk,(by omega),(by first|omega|(dsimp only;omega))⟩
  ·replace h2:=vX h2
   refine kN<|jB<|kd [(9,(kG 0))] [(0,some (bx (jP ((List.map uT (jU bv t k)).getD ((List.map uT (jU bv t k)).length-1) (aV.mk y3 [] [])))))] mo (wM<|wE oNc<|wE (kK fo113_3)<|wR (qI sh88)<|wM<|wE oNc<|wE (kK fo113_3)<|wR (qI sh88)<|wE (oLo el88)<|wE (oSb ((List.map uT (jU bv t k)).length-1))<|wE (fS el88 ((List.map uT (jU bv t k)).length-1))<|wR (oLA sh46 ((List.map uT (jU bv t k)).length-1) (aV.mk y3 [] []))<|wT (qM sh46)<|wM<|wZ) ?_
   refine jE ⟨_,(kP (cs:=(bx (jP ((List.map uT (jU bv t k)).getD ((List.map uT (jU bv t k)).length-1) (aV.mk y3 [] []))))) (d:=(jP ((List.map uT (jU bv t k)).getD ((List.map uT (jU bv t k)).length-1) (aV.mk y3 [] [])))) rfl rfl sh46 rfl rfl (.tmp (d:=(.val (.int .i64 (((0:Nat):Int))))) rfl .nil)),?_⟩
   obtain rfl:k=t.length:=by omega
   rw[List.length_map,hju,map_getD uT _ jz _ (by omega)]
   unfold cC;rfl
end Go.Proofs.YtckccjhflbljgaaGreatDoor
