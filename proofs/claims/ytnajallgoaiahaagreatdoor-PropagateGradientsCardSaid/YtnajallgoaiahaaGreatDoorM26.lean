/- Part 26 of a proof: rules, plain facts, and functions walked. -/
import Derived.Test.YtnajallgoaiahaaGreatDoorM25
set_option linter.unusedVariables false
set_option linter.unusedSimpArgs false
set_option maxRecDepth 4000
namespace Go.Proofs.YtnajallgoaiahaaGreatDoor
open Go.Fid
theorem cb183:callB Tryz.prog 183=true:=by kernel_rfl
theorem mA:uF Tryz.prog 159=some (false,1):=by kernel_rfl
theorem e_linA(n:Nat)(L:List JV)(bb:Nat)(u:JV)(hu:nF 1048576 n u)(v:JV)(hv:nF 1048576 n v)(hn:n≤64)(hL:L.length≤1000):vS Tryz.prog 183 [(.d (.val (.func (.func 192) #[] #[]))),(.ref 2 0),(.ref 3 0),(.ref 4 0)] [(0,some [(jK n),(jK 1),(vi (-1)),(.own 1 95 10 ((List.map jN L).length)),(vb false)]),(1,some (qB jC (List.map jN L))),(2,some [(.refx 0 0 bb)]),(3,some (bx (jC (jN u)))),(4,some (bx (jC (jN v))))] (.d (.tup [])) [(0,some [(jK n),(jK 1),(vi (-1)),(.own 10 95 10 ((List.map jN (L++[(jk (qU u.v v.v) (fun i=>(qU (u.g.getD i z2) (v.g.getD i z2))) n)])).length)),(vb false)]),(10,some (qB jC (List.map jN (L++[(jk (qU u.v v.v) (fun i=>(qU (u.g.getD i z2) (v.g.getD i z2))) n)])))),(2,some [(.refx 0 0 bb)])]:=by
 refine vG Tryz.func183 rfl cb183 rfl ?_
 show qM _ _ _ _ ⟨[(0,(.d (.val (.func (.func 192) #[] #[])))),(1,(.ref 2 0)),(2,(.ref 3 0)),(3,(.ref 4 0))],[(0,some [(jK n),(jK 1),(vi (-1)),(.own 1 95 10 ((List.map jN L).length)),(vb false)]),(1,some (qB jC (List.map jN L))),(2,some [(.refx 0 0 bb)]),(3,some (bx (jC (jN u)))),(4,some (bx (jC (jN v))))]⟩
 refine jB<|kx [(4,(.ref 5 0))] [(5,some (bx (.val (.func (.func 192) #[] #[]))))] (zH (uY 5)<|zZ) ?_
 refine kf [] [(0,some [(jK n),(jK 1),(vi (-1)),(.own 10 95 10 ((List.map jN (L++[(jk (qU u.v v.v) (fun i=>(qU (u.g.getD i z2) (v.g.getD i z2))) n)])).length)),(vb false)]),(10,some (qB jC (List.map jN (L++[(jk (qU u.v v.v) (fun i=>(qU (u.g.getD i z2) (v.g.getD i z2))) n)])))),(1,none),(3,none),(4,none),(5,none),(6,none),(7,none),(8,none),(9,none)] (zR (oLx mA)<|zE (fS [5,3,4])<|zE (fS [5,3,4])<|zE (fS [5,3,4])<|zS (B2:=[(0,some [(jK n),(jK 1),(vi (-1)),(.own 1 95 10 ((List.map jN L).length)),(vb false)]),(1,some (qB jC (List.map jN L))),(5,some (bx (.val (.func (.func 192) #[] #[])))),(3,some (bx (jC (jN u)))),(4,some (bx (jC (jN v))))]) (B2':=[(0,some [(jK n),(jK 1),(vi (-1)),(.own 10 95 10 ((List.map jN (L++[(jk (qU u.v v.v) (fun i=>(qU (u.g.getD i z2) (v.g.getD i z2))) n)])).length)),(vb false)]),(10,some (qB jC (List.map jN (L++[(jk (qU u.v v.v) (fun i=>(qU (u.g.getD i z2) (v.g.getD i z2))) n)]))))]) (M:=1000000) [0,1,5,3,4,6,7,8,9,10] [0,5,3,4] (e_nodeA n L u hu v hv hn hL) (.cons (by exact rfl) (by kernel_rfl) (.cons (by exact rfl) (qH _ _) (.cons (by exact rfl) (qH _ _) (.cons (by exact rfl) (qH _ _) (.cons (by exact rfl) (qH _ _) .nil))))) (.cons (by exact rfl) (by kernel_rfl) (.cons (by exact rfl) (qH _ _) .nil)) (by repeat first | exact .nil | refine .hid rfl ?_ | refine .map rfl ?_ | refine .dat rfl ?_ | refine .none rfl ?_ | refine .cells rfl rfl ?_)<|zF) ?_
 refine ⟨xK (by kernel_rfl),zJ (by kernel_rfl),.inl ⟨_,.nil,?_⟩⟩
 rfl
theorem e_linS(n:Nat)(L:List JV)(bb:Nat)(u:JV)(hu:nF 1048576 n u)(v:JV)(hv:nF 1048576 n v)(hn:n≤64)(hL:L.length≤1000):vS Tryz.prog 183 [(.d (.val (.func (.func 193) #[] #[]))),(.ref 2 0),(.ref 3 0),(.ref 4 0)] [(0,some [(jK n),(jK 1),(vi (-1)),(.own 1 95 10 ((List.map jN L).length)),(vb false)]),(1,some (qB jC (List.map jN L))),(2,some [(.refx 0 0 bb)]),(3,some (bx (jC (jN u)))),(4,some (bx (jC (jN v))))] (.d (.tup [])) [(0,some [(jK n),(jK 1),(vi (-1)),(.own 10 95 10 ((List.map jN (L++[(jk (kZ u.v v.v) (fun i=>(kZ (u.g.getD i z2) (v.g.getD i z2))) n)])).length)),(vb false)]),(10,some (qB jC (List.map jN (L++[(jk (kZ u.v v.v) (fun i=>(kZ (u.g.getD i z2) (v.g.getD i z2))) n)])))),(2,some [(.refx 0 0 bb)])]:=by
 refine vG Tryz.func183 rfl cb183 rfl ?_
 show qM _ _ _ _ ⟨[(0,(.d (.val (.func (.func 193) #[] #[])))),(1,(.ref 2 0)),(2,(.ref 3 0)),(3,(.ref 4 0))],[(0,some [(jK n),(jK 1),(vi (-1)),(.own 1 95 10 ((List.map jN L).length)),(vb false)]),(1,some (qB jC (List.map jN L))),(2,some [(.refx 0 0 bb)]),(3,some (bx (jC (jN u)))),(4,some (bx (jC (jN v))))]⟩
 refine jB<|kx [(4,(.ref 5 0))] [(5,some (bx (.val (.func (.func 193) #[] #[]))))] (zH (uY 5)<|zZ) ?_
 refine kf [] [(0,some [(jK n),(jK 1),(vi (-1)),(.own 10 95 10 ((List.map jN (L++[(jk (kZ u.v v.v) (fun i=>(kZ (u.g.getD i z2) (v.g.getD i z2))) n)])).length)),(vb false)]),(10,some (qB jC (List.map jN (L++[(jk (kZ u.v v.v) (fun i=>(kZ (u.g.getD i z2) (v.g.getD i z2))) n)])))),(1,none),(3,none),(4,none),(5,none),(6,none),(7,none),(8,none),(9,none)] (zR (oLx mA)<|zE (fS [5,3,4])<|zE (fS [5,3,4])<|zE (fS [5,3,4])<|zS (B2:=[(0,some [(jK n),(jK 1),(vi (-1)),(.own 1 95 10 ((List.map jN L).length)),(vb false)]),(1,some (qB jC (List.map jN L))),(5,some (bx (.val (.func (.func 193) #[] #[])))),(3,some (bx (jC (jN u)))),(4,some (bx (jC (jN v))))]) (B2':=[(0,some [(jK n),(jK 1),(vi (-1)),(.own 10 95 10 ((List.map jN (L++[(jk (kZ u.v v.v) (fun i=>(kZ (u.g.getD i z2) (v.g.getD i z2))) n)])).length)),(vb false)]),(10,some (qB jC (List.map jN (L++[(jk (kZ u.v v.v) (fun i=>(kZ (u.g.getD i z2) (v.g.getD i z2))) n)]))))]) (M:=1000000) [0,1,5,3,4,6,7,8,9,10] [0,5,3,4] (e_nodeS n L u hu v hv hn hL) (.cons (by exact rfl) (by kernel_rfl) (.cons (by exact rfl) (qH _ _) (.cons (by exact rfl) (qH _ _) (.cons (by exact rfl) (qH _ _) (.cons (by exact rfl) (qH _ _) .nil))))) (.cons (by exact rfl) (by kernel_rfl) (.cons (by exact rfl) (qH _ _) .nil)) (by repeat first | exact .nil | refine .hid rfl ?_ | refine .map rfl ?_ | refine .dat rfl ?_ | refine .none rfl ?_ | refine .cells rfl rfl ?_)<|zF) ?_
 refine ⟨xK (by kernel_rfl),zJ (by kernel_rfl),.inl ⟨_,.nil,?_⟩⟩
 rfl
theorem e_linN(n:Nat)(L:List JV)(bb:Nat)(u:JV)(hu:nF 1048576 n u)(v:JV)(hv:nF 1048576 n v)(hn:n≤64)(hL:L.length≤1000):vS Tryz.prog 183 [(.clo 194 [9]),(.ref 2 0),(.ref 3 0),(.ref 4 0)] [(0,some [(jK n),(jK 1),(vi (-1)),(.own 1 95 10 ((List.map jN L).length)),(vb false)]),(1,some (qB jC (List.map jN L))),(2,some [(.refx 0 0 bb)]),(3,some (bx (jC (jN u)))),(4,some (bx (jC (jN v)))),(9,some (bx (jD (jP (gw 0)))))] (.d (.tup [])) [(0,some [(jK n),(jK 1),(vi (-1)),(.own 15 95 10 ((List.map jN (L++[(jk (kZ (gw 0) u.v) (fun i=>(kZ (gw 0) (u.g.getD i z2))) n)])).length)),(vb false)]),(15,some (qB jC (List.map jN (L++[(jk (kZ (gw 0) u.v) (fun i=>(kZ (gw 0) (u.g.getD i z2))) n)])))),(2,some [(.refx 0 0 bb)])]:=by
 refine vG Tryz.func183 rfl cb183 rfl ?_
 show qM _ _ _ _ ⟨[(0,(.clo 194 [9])),(1,(.ref 2 0)),(2,(.ref 3 0)),(3,(.ref 4 0))],[(0,some [(jK n),(jK 1),(vi (-1)),(.own 1 95 10 ((List.map jN L).length)),(vb false)]),(1,some (qB jC (List.map jN L))),(2,some [(.refx 0 0 bb)]),(3,some (bx (jC (jN u)))),(4,some (bx (jC (jN v)))),(9,some (bx (jD (jP (gw 0)))))]⟩
 refine jB<|kx [(4,(.ref 10 0))] [(10,some [(.clo 194 [9])])] (zH (oBy 10)<|zZ) ?_
 refine kf [(0,.junk)] [(0,some [(jK n),(jK 1),(vi (-1)),(.own 15 95 10 ((List.map jN (L++[(jk (kZ (gw 0) u.v) (fun i=>(kZ (gw 0) (u.g.getD i z2))) n)])).length)),(vb false)]),(15,some (qB jC (List.map jN (L++[(jk (kZ (gw 0) u.v) (fun i=>(kZ (gw 0) (u.g.getD i z2))) n)])))),(1,none),(10,none),(11,none),(12,none),(13,none),(14,none),(3,none),(4,none),(9,none)] (zR (oLx mA)<|zE (fS [10,3,4])<|zE (fS [10,3,4])<|zE (fS [10,3,4])<|zS (B2:=[(0,some [(jK n),(jK 1),(vi (-1)),(.own 1 95 10 ((List.map jN L).length)),(vb false)]),(1,some (qB jC (List.map jN L))),(10,some [(.clo 194 [9])]),(3,some (bx (jC (jN u)))),(4,some (bx (jC (jN v)))),(9,some (bx (jD (jP (gw 0)))))]) (B2':=[(0,some [(jK n),(jK 1),(vi (-1)),(.own 15 95 10 ((List.map jN (L++[(jk (kZ (gw 0) u.v) (fun i=>(kZ (gw 0) (u.g.getD i z2))) n)])).length)),(vb false)]),(15,some (qB jC (List.map jN (L++[(jk (kZ (gw 0) u.v) (fun i=>(kZ (gw 0) (u.g.getD i z2))) n)]))))]) (M:=1000000) [0,1,10,3,4,9,11,12,13,14,15] [0,10,3,4] (e_nodeN n L u hu v hv hn hL) (.cons (by exact rfl) (by kernel_rfl) (.cons (by exact rfl) (qH _ _) (.cons (by exact rfl) (by kernel_rfl) (.cons (by exact rfl) (qH _ _) (.cons (by exact rfl) (qH _ _) (.cons (by exact rfl) (qH _ _) .nil)))))) (.cons (by exact rfl) (by kernel_rfl) (.cons (by exact rfl) (qH _ _) .nil)) (by repeat first | exact .nil | refine .hid rfl ?_ | refine .map rfl ?_ | refine .dat rfl ?_ | refine .none rfl ?_ | refine .cells rfl rfl ?_)<|zF) ?_
 refine ⟨xK (by kernel_rfl),zJ (by kernel_rfl),.inl ⟨_,.nil,?_⟩⟩
 rfl
theorem cb126:callB Tryz.prog 126=true:=by kernel_rfl
theorem vK:zY Tryz.prog 83 0=some 0:=by kernel_rfl
theorem nM:zY Tryz.prog 83 2=some 2:=by kernel_rfl
theorem nQ:uF Tryz.prog 81=some (false,1):=by kernel_rfl
theorem e_stepC(p:Rat)(hp:QL p 1048576)(bv:List jO)(n:Nat)(L:List JV)(hn:n≤64)(hL:L.length≤1000):vS Tryz.prog 126 [(.ref 0 0),(.d (kG (qC.mk 0 0 0 (jM p)))),(vl 61 8 jD bv)] [(0,some [(jK n),(jK 1),(vi (-1)),(.own 1 95 10 ((List.map jN L).length)),(vb false)]),(1,some (qB jC (List.map jN L)))] (.d (.tup [])) [(0,some [(jK n),(jK 1),(vi (-1)),(.own 12 95 10 ((List.map jN (L++[(jk (xV p) (fun i=>(gw 0)) n)])).length)),(vb false)]),(12,some (qB jC (List.map jN (L++[(jk (xV p) (fun i=>(gw 0)) n)]))))]:=by
 refine vG Tryz.func126 rfl cb126 rfl ?_
 show qM _ _ _ _ ⟨[(0,(.ref 0 0)),(1,(.d (kG (qC.mk 0 0 0 (jM p))))),(2,(vl 61 8 jD bv))],[(0,some [(jK n),(jK 1),(vi (-1)),(.own 1 95 10 ((List.map jN L).length)),(vb false)]),(1,some (qB jC (List.map jN L)))]⟩
 refine jB<|kx [(3,(.ref 2 0)),(4,(.ref 3 0)),(5,(.ref 4 0))] [(2,some [(.ref 0 0)]),(3,some (bx (kG (qC.mk 0 0 0 (jM p))))),(4,some (bx (.sl 61 8 (List.map jD bv))))] (zH (oBy 2)<|zH (uY 3)<|zH (uY 4)<|zZ) ?_
 refine jB<|kx [(6,(.ref 5 0))] [(5,some (bx (jD (jP (gw 0)))))] (zE (kA (cF ((0:Nat):Int) (by omega) (by omega)))<|zH (qW 5 qL qR)<|zT (qF jY)<|zZ) ?_
 refine jB<|kx [(7,(.clo 181 [5]))] [] (zE (fS [5])<|zM<|zZ) ?_
 refine jB<|kx [(8,(.ref 6 0)),(9,(.ref 7 0))] [(6,some (bx (jC (qK.mk (jO.mk kR kR) [] [])))),(7,some (bx (jC (qK.mk (jO.mk kR kR) [] []))))] (zH (qW 6 vL zL)<|zH (qW 7 vL zL)<|zZ) ?_
 refine jB<|kx [(10,(jK 0))] [] (zE (qA vK)<|zR (qX nQ)<|zE (oQd (.val (.int .i64 ((xP 0)))) (.val (.int .i64 (((0:Nat):Int)))) (kA (aS 0)) (by exact rfl))<|zM<|zZ) ?_
 refine jB<|jB<|kx [(19,(vb false))] [] (zM<|zE (uR false gD)<|zZ) ?_
 refine kI ?_
 refine jF<|jB<|jB<|kx [(29,(vb false))] [] (zM<|zE (uR false gD)<|zZ) ?_
 refine kI ?_
 refine jF<|jB<|kx [(11,(.clo 183 [2,6,7]))] [] (zE (fS [2,6,7])<|zM<|zZ) ?_
 refine jB<|kx [(40,(vi 0))] [] (zE (qA vK)<|zR (qX nQ)<|zZ) ?_
 refine jI<|jB<|kx [(46,(vb true))] [] (zE (uR true xR)<|zM<|zZ) ?_
 refine uD ?_
 refine kf [] [(0,some [(jK n),(jK 1),(vi (-1)),(.own 12 95 10 ((List.map jN (L++[(jk (xV p) (fun i=>(gw 0)) n)])).length)),(vb false)]),(12,some (qB jC (List.map jN (L++[(jk (xV p) (fun i=>(gw 0)) n)])))),(1,none),(10,none),(11,none),(3,none),(5,none),(8,none),(9,none)] (zR (qX mA)<|zE (fS [3])<|zE (fS [5])<|zM<|zS (B2:=[(0,some [(jK n),(jK 1),(vi (-1)),(.own 1 95 10 ((List.map jN L).length)),(vb false)]),(1,some (qB jC (List.map jN L))),(3,some (bx (kG (qC.mk 0 0 0 (jM p))))),(5,some (bx (jD (jP (gw 0)))))]) (B2':=[(0,some [(jK n),(jK 1),(vi (-1)),(.own 12 95 10 ((List.map jN (L++[(jk (xV p) (fun i=>(gw 0)) n)])).length)),(vb false)]),(12,some (qB jC (List.map jN (L++[(jk (xV p) (fun i=>(gw 0)) n)]))))]) (M:=1000000) [0,1,3,5,8,9,10,11,12] [0,3,5] (e_nodeC n L p hp (gw 0) (gl_w (z:=0) (by omega) (by omega)) hn hL) (.cons (by exact rfl) (by kernel_rfl) (.cons (by exact rfl) (qH _ _) (.cons (by exact rfl) (qH _ _) (.cons (by exact rfl) (qH _ _) .nil)))) (.cons (by exact rfl) (by kernel_rfl) (.cons (by exact rfl) (qH _ _) .nil)) (by repeat first | exact .nil | refine .hid rfl ?_ | refine .map rfl ?_ | refine .dat rfl ?_ | refine .none rfl ?_ | refine .cells rfl rfl ?_)<|zF) ?_
 refine ⟨xK (by kernel_rfl),zJ (by kernel_rfl),.inl ⟨_,.nil,?_⟩⟩
 rfl
theorem e_stepV(a:Nat)(bv:List R2)(hbx:∀ x∈bv,GL 1048576 x)(n:Nat)(L:List JV)(hn:n≤64)(hL:L.length≤1000)(ha:a<bv.length)(hbl:bv.length≤1000000):vS Tryz.prog 126 [(.ref 0 0),(.d (kG (qC.mk 1 ((a:Nat):Int) 0 kR))),(vl 61 8 jD (List.map jP bv))] [(0,some [(jK n),(jK 1),(vi (-1)),(.own 1 95 10 ((List.map jN L).length)),(vb false)]),(1,some (qB jC (List.map jN L)))] (.d (.tup [])) [(0,some [(jK n),(jK 1),(vi (-1)),(.own 12 95 10 ((List.map jN (L++[(jk (bv.getD a z2) (fun i=>(if ((i:Nat):Int)=((a:Nat):Int) then gw 1 else (gw 0))) n)])).length)),(vb false)]),(12,some (qB jC (List.map jN (L++[(jk (bv.getD a z2) (fun i=>(if ((i:Nat):Int)=((a:Nat):Int) then gw 1 else (gw 0))) n)]))))]:=by
 let y2:=kR
 let y1:=(kG (qC.mk 1 ((a:Nat):Int) 0 y2))
 refine vG Tryz.func126 rfl cb126 rfl ?_
 show qM _ _ _ _ ⟨[(0,(.ref 0 0)),(1,(.d y1)),(2,(vl 61 8 jD (List.map jP bv)))],[(0,some [(jK n),(jK 1),(vi (-1)),(.own 1 95 10 ((List.map jN L).length)),(vb false)]),(1,some (qB jC (List.map jN L)))]⟩
 refine jB<|kx [(3,(.ref 2 0)),(4,(.ref 3 0)),(5,(.ref 4 0))] [(2,some [(.ref 0 0)]),(3,some (bx y1)),(4,some (bx (.sl 61 8 (List.map jD (List.map jP bv)))))] (zH (oBy 2)<|zH (uY 3)<|zH (uY 4)<|zZ) ?_
 refine jB<|kx [(6,(.ref 5 0))] [(5,some (bx (jD (jP (gw 0)))))] (zE (kA (cF ((0:Nat):Int) (by omega) (by omega)))<|zH (qW 5 qL qR)<|zT (qF jY)<|zZ) ?_
 refine jB<|kx [(7,(.clo 181 [5]))] [] (zE (fS [5])<|zM<|zZ) ?_
 refine jB<|kx [(8,(.ref 6 0)),(9,(.ref 7 0))] [(6,some (bx (jC (qK.mk (jO.mk y2 y2) [] [])))),(7,some (bx (jC (qK.mk (jO.mk y2 y2) [] []))))] (zH (qW 6 vL zL)<|zH (qW 7 vL zL)<|zZ) ?_
 refine jB<|kx [(10,(jK 0))] [] (zE (qA vK)<|zR (qX nQ)<|zE (oQd (.val (.int .i64 ((xP 1)))) (.val (.int .i64 (((0:Nat):Int)))) (kA (aS 1)) (by exact rfl))<|zM<|zZ) ?_
 refine jB<|jB<|kx [(19,(vb false))] [] (zM<|zE (uR false gD)<|zZ) ?_
 refine kI ?_
 refine jF<|jB<|jB<|kx [(29,(vb false))] [] (zM<|zE (uR false gD)<|zZ) ?_
 refine kI ?_
 refine jF<|jB<|kx [(11,(.clo 183 [2,6,7]))] [] (zE (fS [2,6,7])<|zM<|zZ) ?_
 refine jB<|kx [(40,(vi 1))] [] (zE (qA vK)<|zR (qX nQ)<|zZ) ?_
 refine jI<|jB<|kx [(46,(vb false))] [] (zE (uR false xR)<|zM<|zZ) ?_
 refine kI ?_
 refine jB<|kx [(53,(vb true))] [] (zE (uR true xR)<|zM<|zZ) ?_
 refine uD ?_
 refine kf [] [(0,some [(jK n),(jK 1),(vi (-1)),(.own 12 95 10 ((List.map jN (L++[(jk (bv.getD a z2) (fun i=>(if ((i:Nat):Int)=((a:Nat):Int) then gw 1 else (gw 0))) n)])).length)),(vb false)]),(12,some (qB jC (List.map jN (L++[(jk (bv.getD a z2) (fun i=>(if ((i:Nat):Int)=((a:Nat):Int) then gw 1 else (gw 0))) n)])))),(1,none),(10,none),(11,none),(3,none),(4,none),(5,none),(8,none),(9,none)] (zR (qX mA)<|zE (fS [4,3])<|zE (fS [3,5])<|zM<|zS (B2:=[(0,some [(jK n),(jK 1),(vi (-1)),(.own 1 95 10 ((List.map jN L).length)),(vb false)]),(1,some (qB jC (List.map jN L))),(4,some (bx (.sl 61 8 (List.map jD (List.map jP bv))))),(3,some (bx y1)),(5,some (bx (jD (jP (gw 0)))))]) (B2':=[(0,some [(jK n),(jK 1),(vi (-1)),(.own 12 95 10 ((List.map jN (L++[(jk (bv.getD a z2) (fun i=>(if ((i:Nat):Int)=((a:Nat):Int) then gw 1 else (gw 0))) n)])).length)),(vb false)]),(12,some (qB jC (List.map jN (L++[(jk (bv.getD a z2) (fun i=>(if ((i:Nat):Int)=((a:Nat):Int) then gw 1 else (gw 0))) n)]))))]) (M:=1000000) [0,1,4,3,5,8,9,10,11,12] [0,4,3,5] (e_nodeV n L bv hbx a (gw 0) (gl_w (z:=0) (by omega) (by omega)) hn hL ha hbl) (.cons (by exact rfl) (by kernel_rfl) (.cons (by exact rfl) (qH _ _) (.cons (by exact rfl) (qH _ _) (.cons (by exact rfl) (qH _ _) (.cons (by exact rfl) (qH _ _) .nil))))) (.cons (by exact rfl) (by kernel_rfl) (.cons (by exact rfl) (qH _ _) .nil)) (by repeat first | exact .nil | refine .hid rfl ?_ | refine .map rfl ?_ | refine .dat rfl ?_ | refine .none rfl ?_ | refine .cells rfl rfl ?_)<|zF) ?_
 refine ⟨xK (by kernel_rfl),zJ (by kernel_rfl),.inl ⟨_,.nil,?_⟩⟩
 rfl
theorem e_stepA(a:Nat)(b:Nat)(bv:List jO)(n:Nat)(L:List JV)(hn:n≤64)(hL:L.length≤1000)(hLk:∀ x∈L,nF 1048576 n x)(ha:a<L.length)(hb:b<L.length):vS Tryz.prog 126 [(.ref 0 0),(.d (kG (qC.mk 2 ((a:Nat):Int) ((b:Nat):Int) kR))),(vl 61 8 jD bv)] [(0,some [(jK n),(jK 1),(vi (-1)),(.own 1 95 10 ((List.map jN L).length)),(vb false)]),(1,some (qB jC (List.map jN L)))] (.d (.tup [])) [(0,some [(jK n),(jK 1),(vi (-1)),(.own 13 95 10 ((List.map jN (L++[(jk (qU ((L.getD a jz).v) ((L.getD b jz).v)) (fun i=>(qU (((L.getD a jz).g).getD i z2) (((L.getD b jz).g).getD i z2))) n)])).length)),(vb false)]),(13,some (qB jC (List.map jN (L++[(jk (qU ((L.getD a jz).v) ((L.getD b jz).v)) (fun i=>(qU (((L.getD a jz).g).getD i z2) (((L.getD b jz).g).getD i z2))) n)]))))]:=by
 have hu:nF 1048576 n (L.getD a jz):=dA hLk ha
 have hv:nF 1048576 n (L.getD b jz):=dA hLk hb
 let y2:=(kG (qC.mk 2 ((a:Nat):Int) ((b:Nat):Int) kR))
 let y1:=(jO.mk kR kR)
 refine vG Tryz.func126 rfl cb126 rfl ?_
 show qM _ _ _ _ ⟨[(0,(.ref 0 0)),(1,(.d y2)),(2,(vl 61 8 jD bv))],[(0,some [(jK n),(jK 1),(vi (-1)),(.own 1 95 10 ((List.map jN L).length)),(vb false)]),(1,some (qB jC (List.map jN L)))]⟩
 refine jB<|kx [(3,(.ref 2 0)),(4,(.ref 3 0)),(5,(.ref 4 0))] [(2,some [(.ref 0 0)]),(3,some (bx y2)),(4,some (bx (.sl 61 8 (List.map jD bv))))] (zH (oBy 2)<|zH (uY 3)<|zH (uY 4)<|zZ) ?_
 refine jB<|pwp_fix 2 (k:=0) (o:=0) (h:=fun b0=>?_)
 refine jV (wk (l:=[(0,(.ref 0 0)),(3,(.ref 2 0)),(4,(.ref 3 0)),(5,(.ref 4 0))]) (b:=[(0,some [(jK n),(jK 1),(vi (-1)),(.own 1 95 10 ((List.map jN L).length)),(vb false)]),(1,some (qB jC (List.map jN L))),(2,some [(.refx 0 0 b0)]),(3,some (bx y2)),(4,some (bx (.sl 61 8 (List.map jD bv))))])) ?_
 refine kx [(6,(.ref 5 0))] [(5,some (bx (jD (jP (gw 0)))))] (zE (kA (cF ((0:Nat):Int) (by omega) (by omega)))<|zH (qW 5 qL qR)<|zT (qF jY)<|zZ) ?_
 refine jB<|kx [(7,(.clo 181 [5]))] [] (zE (fS [5])<|zM<|zZ) ?_
 refine jB<|kx [(8,(.ref 6 0)),(9,(.ref 7 0))] [(6,some (bx (jC (qK.mk y1 [] [])))),(7,some (bx (jC (qK.mk y1 [] []))))] (zH (qW 6 vL zL)<|zH (qW 7 vL zL)<|zZ) ?_
 refine jB<|kx [(10,(jK 2))] [] (zE (qA vK)<|zR (qX nQ)<|zE (oQd (.val (.int .i64 ((xP 2)))) (.val (.int .i64 (((2:Nat):Int)))) (kA (aS 2)) (by exact rfl))<|zM<|zZ) ?_
 refine jB<|jB<|kx [(19,(vb true))] [] (zM<|zE (uR true gD)<|zZ) ?_
 refine uD ?_
 refine kd [] [(6,some (bx (jC (jN (L.getD a jz)))))] mo (wR (oLx mA)<|wE mY<|wE (qA vH)<|wR (qX yQ)<|wE (qA yD)<|wR (qX gI)<|wE (oXO zG a (hj:=by first | omega | rfl | (simp only[List.length_map];omega) | (dsimp only;omega)) (h1:=by first | omega | rfl | (simp only[List.length_map];omega) | (dsimp only;omega)))<|wR (aT (jC ((List.map jN L).getD a (qK.mk y1 [] []))) (jC (jN (L.getD a jz))) (oLA vP a (qK.mk y1 [] []) (h1:=by first | omega | rfl | (simp only[List.length_map];omega) | (dsimp only;omega))) (by exact (congrArg jC (gY jN L jz _ (by omega)))))<|wT (qF vP)<|wZ) ?_
 refine jB<|jB<|kx [(29,(vb true))] [] (zM<|zE (uR true gD)<|zZ) ?_
 refine uD ?_
 refine kd [] [(7,some (bx (jC (jN (L.getD b jz)))))] mo (wR (oLx mA)<|wE mY<|wE (qA vH)<|wR (qX yQ)<|wE (qA nM)<|wR (qX gI)<|wE (oXO zG b (hj:=by first | omega | rfl | (simp only[List.length_map];omega) | (dsimp only;omega)) (h1:=by first | omega | rfl | (simp only[List.length_map];omega) | (dsimp only;omega)))<|wR (aT (jC ((List.map jN L).getD b (qK.mk y1 [] []))) (jC (jN (L.getD b jz))) (oLA vP b (qK.mk y1 [] []) (h1:=by first | omega | rfl | (simp only[List.length_map];omega) | (dsimp only;omega))) (by exact (congrArg jC (gY jN L jz _ (by omega)))))<|wT (qF vP)<|wZ) ?_
 refine jB<|kx [(11,(.clo 183 [2,6,7]))] [] (zE (fS [2,6,7])<|zM<|zZ) ?_
 refine jB<|kx [(40,(vi 2))] [] (zE (qA vK)<|zR (qX nQ)<|zZ) ?_
 refine jI<|jB<|kx [(46,(vb false))] [] (zE (uR false xR)<|zM<|zZ) ?_
 refine kI ?_
 refine jB<|kx [(53,(vb false))] [] (zE (uR false xR)<|zM<|zZ) ?_
 refine kI ?_
 refine jB<|kx [(60,(vb true))] [] (zE (uR true xR)<|zM<|zZ) ?_
 refine uD ?_
 refine kf [] [(0,some [(jK n),(jK 1),(vi (-1)),(.own 13 95 10 ((List.map jN (L++[(jk (qU ((L.getD a jz).v) ((L.getD b jz).v)) (fun i=>(qU (((L.getD a jz).g).getD i z2) (((L.getD b jz).g).getD i z2))) n)])).length)),(vb false)]),(13,some (qB jC (List.map jN (L++[(jk (qU ((L.getD a jz).v) ((L.getD b jz).v)) (fun i=>(qU (((L.getD a jz).g).getD i z2) (((L.getD b jz).g).getD i z2))) n)])))),(1,none),(10,none),(11,none),(12,none),(2,none),(6,none),(7,none),(8,none),(9,none)] (zM<|zS (B2:=[(0,some [(jK n),(jK 1),(vi (-1)),(.own 1 95 10 ((List.map jN L).length)),(vb false)]),(1,some (qB jC (List.map jN L))),(2,some [(.refx 0 0 b0)]),(6,some (bx (jC (jN (L.getD a jz))))),(7,some (bx (jC (jN (L.getD b jz)))))]) (B2':=[(0,some [(jK n),(jK 1),(vi (-1)),(.own 13 95 10 ((List.map jN (L++[(jk (qU ((L.getD a jz).v) ((L.getD b jz).v)) (fun i=>(qU (((L.getD a jz).g).getD i z2) (((L.getD b jz).g).getD i z2))) n)])).length)),(vb false)]),(13,some (qB jC (List.map jN (L++[(jk (qU ((L.getD a jz).v) ((L.getD b jz).v)) (fun i=>(qU (((L.getD a jz).g).getD i z2) (((L.getD b jz).g).getD i z2))) n)])))),(2,some [(.refx 0 0 b0)])]) (M:=1000000) [0,1,2,6,7,8,9,10,11,12,13] [2,6,7,0] (e_linA n L b0 (L.getD a jz) hu (L.getD b jz) hv hn hL) (.cons (by exact rfl) (by kernel_rfl) (.cons (by exact rfl) (qH _ _) (.cons (by exact rfl) (by kernel_rfl) (.cons (by exact rfl) (qH _ _) (.cons (by exact rfl) (qH _ _) .nil))))) (.cons (by exact rfl) (by kernel_rfl) (.cons (by exact rfl) (qH _ _) (.cons (by exact rfl) (by kernel_rfl) .nil))) (by repeat first | exact .nil | refine .hid rfl ?_ | refine .map rfl ?_ | refine .dat rfl ?_ | refine .none rfl ?_ | refine .cells rfl rfl ?_) (G:=[0]) (hG:=by exact (.cons (k:=0) (q:=2) (o:=0) (b:=b0) (j:=0) (by kernel_rfl) (by kernel_rfl) (by kernel_rfl) .nil)) (ex:=[.ref 2 0,.ref 6 0,.ref 7 0]) (hy:=.clo (kk:=[2,6,7]) (by kernel_rfl) (by kernel_rfl))<|zF) ?_
 refine ⟨xK (by kernel_rfl),zJ (by kernel_rfl),.inl ⟨_,.nil,?_⟩⟩
 rfl
theorem e_stepS(a:Nat)(b:Nat)(bv:List jO)(n:Nat)(L:List JV)(hn:n≤64)(hL:L.length≤1000)(hLk:∀ x∈L,nF 1048576 n x)(ha:a<L.length)(hb:b<L.length):vS Tryz.prog 126 [(.ref 0 0),(.d (kG (qC.mk 3 ((a:Nat):Int) ((b:Nat):Int) kR))),(vl 61 8 jD bv)] [(0,some [(jK n),(jK 1),(vi (-1)),(.own 1 95 10 ((List.map jN L).length)),(vb false)]),(1,some (qB jC (List.map jN L)))] (.d (.tup [])) [(0,some [(jK n),(jK 1),(vi (-1)),(.own 13 95 10 ((List.map jN (L++[(jk (kZ ((L.getD a jz).v) ((L.getD b jz).v)) (fun i=>(kZ (((L.getD a jz).g).getD i z2) (((L.getD b jz).g).getD i z2))) n)])).length)),(vb false)]),(13,some (qB jC (List.map jN (L++[(jk (kZ ((L.getD a jz).v) ((L.getD b jz).v)) (fun i=>(kZ (((L.getD a jz).g).getD i z2) (((L.getD b jz).g).getD i z2))) n)]))))]:=by
 have hu:nF 1048576 n (L.getD a jz):=dA hLk ha
 have hv:nF 1048576 n (L.getD b jz):=dA hLk hb
 let y2:=(kG (qC.mk 3 ((a:Nat):Int) ((b:Nat):Int) kR))
 let y1:=(jO.mk kR kR)
 refine vG Tryz.func126 rfl cb126 rfl ?_
 show qM _ _ _ _ ⟨[(0,(.ref 0 0)),(1,(.d y2)),(2,(vl 61 8 jD bv))],[(0,some [(jK n),(jK 1),(vi (-1)),(.own 1 95 10 ((List.map jN L).length)),(vb false)]),(1,some (qB jC (List.map jN L)))]⟩
 refine jB<|kx [(3,(.ref 2 0)),(4,(.ref 3 0)),(5,(.ref 4 0))] [(2,some [(.ref 0 0)]),(3,some (bx y2)),(4,some (bx (.sl 61 8 (List.map jD bv))))] (zH (oBy 2)<|zH (uY 3)<|zH (uY 4)<|zZ) ?_
 refine jB<|pwp_fix 2 (k:=0) (o:=0) (h:=fun b0=>?_)
 refine jV (wk (l:=[(0,(.ref 0 0)),(3,(.ref 2 0)),(4,(.ref 3 0)),(5,(.ref 4 0))]) (b:=[(0,some [(jK n),(jK 1),(vi (-1)),(.own 1 95 10 ((List.map jN L).length)),(vb false)]),(1,some (qB jC (List.map jN L))),(2,some [(.refx 0 0 b0)]),(3,some (bx y2)),(4,some (bx (.sl 61 8 (List.map jD bv))))])) ?_
 refine kx [(6,(.ref 5 0))] [(5,some (bx (jD (jP (gw 0)))))] (zE (kA (cF ((0:Nat):Int) (by omega) (by omega)))<|zH (qW 5 qL qR)<|zT (qF jY)<|zZ) ?_
 refine jB<|kx [(7,(.clo 181 [5]))] [] (zE (fS [5])<|zM<|zZ) ?_
 refine jB<|kx [(8,(.ref 6 0)),(9,(.ref 7 0))] [(6,some (bx (jC (qK.mk y1 [] [])))),(7,some (bx (jC (qK.mk y1 [] []))))] (zH (qW 6 vL zL)<|zH (qW 7 vL zL)<|zZ) ?_
 refine jB<|kx [(10,(jK 2))] [] (zE (qA vK)<|zR (qX nQ)<|zE (oQd (.val (.int .i64 ((xP 3)))) (.val (.int .i64 (((2:Nat):Int)))) (kA (aS 3)) (by exact rfl))<|zM<|zZ) ?_
 refine jB<|jB<|kx [(19,(vb true))] [] (zM<|zE (uR true gD)<|zZ) ?_
 refine uD ?_
 refine kd [] [(6,some (bx (jC (jN (L.getD a jz)))))] mo (wR (oLx mA)<|wE mY<|wE (qA vH)<|wR (qX yQ)<|wE (qA yD)<|wR (qX gI)<|wE (oXO zG a (hj:=by first | omega | rfl | (simp only[List.length_map];omega) | (dsimp only;omega)) (h1:=by first | omega | rfl | (simp only[List.length_map];omega) | (dsimp only;omega)))<|wR (aT (jC ((List.map jN L).getD a (qK.mk y1 [] []))) (jC (jN (L.getD a jz))) (oLA vP a (qK.mk y1 [] []) (h1:=by first | omega | rfl | (simp only[List.length_map];omega) | (dsimp only;omega))) (by exact (congrArg jC (gY jN L jz _ (by omega)))))<|wT (qF vP)<|wZ) ?_
 refine jB<|jB<|kx [(29,(vb true))] [] (zM<|zE (uR true gD)<|zZ) ?_
 refine uD ?_
 refine kd [] [(7,some (bx (jC (jN (L.getD b jz)))))] mo (wR (oLx mA)<|wE mY<|wE (qA vH)<|wR (qX yQ)<|wE (qA nM)<|wR (qX gI)<|wE (oXO zG b (hj:=by first | omega | rfl | (simp only[List.length_map];omega) | (dsimp only;omega)) (h1:=by first | omega | rfl | (simp only[List.length_map];omega) | (dsimp only;omega)))<|wR (aT (jC ((List.map jN L).getD b (qK.mk y1 [] []))) (jC (jN (L.getD b jz))) (oLA vP b (qK.mk y1 [] []) (h1:=by first | omega | rfl | (simp only[List.length_map];omega) | (dsimp only;omega))) (by exact (congrArg jC (gY jN L jz _ (by omega)))))<|wT (qF vP)<|wZ) ?_
 refine jB<|kx [(11,(.clo 183 [2,6,7]))] [] (zE (fS [2,6,7])<|zM<|zZ) ?_
 refine jB<|kx [(40,(vi 3))] [] (zE (qA vK)<|zR (qX nQ)<|zZ) ?_
 refine jI<|jB<|kx [(46,(vb false))] [] (zE (uR false xR)<|zM<|zZ) ?_
 refine kI ?_
 refine jB<|kx [(53,(vb false))] [] (zE (uR false xR)<|zM<|zZ) ?_
 refine kI ?_
 refine jB<|kx [(60,(vb false))] [] (zE (uR false xR)<|zM<|zZ) ?_
 refine kI ?_
 refine jB<|kx [(64,(vb true))] [] (zE (uR true xR)<|zM<|zZ) ?_
 refine uD ?_
 refine jV (wk (l:=[(0,(.ref 0 0)),(3,(.ref 2 0)),(6,(.ref 5 0)),(8,(.ref 6 0)),(9,(.ref 7 0)),(11,(.clo 183 [2,6,7])),(40,(vi 3)),(64,(vb true))]) (b:=[(0,some [(jK n),(jK 1),(vi (-1)),(.own 1 95 10 ((List.map jN L).length)),(vb false)]),(1,some (qB jC (List.map jN L))),(2,some [(.refx 0 0 b0)]),(5,some (bx (jD (jP (gw 0))))),(6,some (bx (jC (jN (L.getD a jz))))),(7,some (bx (jC (jN (L.getD b jz)))))])) ?_
 refine kf [] [(0,some [(jK n),(jK 1),(vi (-1)),(.own 13 95 10 ((List.map jN (L++[(jk (kZ ((L.getD a jz).v) ((L.getD b jz).v)) (fun i=>(kZ (((L.getD a jz).g).getD i z2) (((L.getD b jz).g).getD i z2))) n)])).length)),(vb false)]),(13,some (qB jC (List.map jN (L++[(jk (kZ ((L.getD a jz).v) ((L.getD b jz).v)) (fun i=>(kZ (((L.getD a jz).g).getD i z2) (((L.getD b jz).g).getD i z2))) n)])))),(1,none),(10,none),(11,none),(12,none),(2,none),(6,none),(7,none),(8,none),(9,none)] (zM<|zS (B2:=[(0,some [(jK n),(jK 1),(vi (-1)),(.own 1 95 10 ((List.map jN L).length)),(vb false)]),(1,some (qB jC (List.map jN L))),(2,some [(.refx 0 0 b0)]),(6,some (bx (jC (jN (L.getD a jz))))),(7,some (bx (jC (jN (L.getD b jz)))))]) (B2':=[(0,some [(jK n),(jK 1),(vi (-1)),(.own 13 95 10 ((List.map jN (L++[(jk (kZ ((L.getD a jz).v) ((L.getD b jz).v)) (fun i=>(kZ (((L.getD a jz).g).getD i z2) (((L.getD b jz).g).getD i z2))) n)])).length)),(vb false)]),(13,some (qB jC (List.map jN (L++[(jk (kZ ((L.getD a jz).v) ((L.getD b jz).v)) (fun i=>(kZ (((L.getD a jz).g).getD i z2) (((L.getD b jz).g).getD i z2))) n)])))),(2,some [(.refx 0 0 b0)])]) (M:=1000000) [0,1,2,6,7,8,9,10,11,12,13] [2,6,7,0] (e_linS n L b0 (L.getD a jz) hu (L.getD b jz) hv hn hL) (.cons (by exact rfl) (by kernel_rfl) (.cons (by exact rfl) (qH _ _) (.cons (by exact rfl) (by kernel_rfl) (.cons (by exact rfl) (qH _ _) (.cons (by exact rfl) (qH _ _) .nil))))) (.cons (by exact rfl) (by kernel_rfl) (.cons (by exact rfl) (qH _ _) (.cons (by exact rfl) (by kernel_rfl) .nil))) (by repeat first | exact .nil | refine .hid rfl ?_ | refine .map rfl ?_ | refine .dat rfl ?_ | refine .none rfl ?_ | refine .cells rfl rfl ?_) (G:=[0]) (hG:=by exact (.cons (k:=0) (q:=2) (o:=0) (b:=b0) (j:=0) (by kernel_rfl) (by kernel_rfl) (by kernel_rfl) .nil)) (ex:=[.ref 2 0,.ref 6 0,.ref 7 0]) (hy:=.clo (kk:=[2,6,7]) (by kernel_rfl) (by kernel_rfl))<|zF) ?_
 refine ⟨xK (by kernel_rfl),zJ (by kernel_rfl),.inl ⟨_,.nil,?_⟩⟩
 rfl
theorem e_stepM(a:Nat)(b:Nat)(bv:List jO)(n:Nat)(L:List JV)(hn:n≤64)(hL:L.length≤1000)(hLk:∀ x∈L,nF 1048576 n x)(ha:a<L.length)(hb:b<L.length):vS Tryz.prog 126 [(.ref 0 0),(.d (kG (qC.mk 4 ((a:Nat):Int) ((b:Nat):Int) kR))),(vl 61 8 jD bv)] [(0,some [(jK n),(jK 1),(vi (-1)),(.own 1 95 10 ((List.map jN L).length)),(vb false)]),(1,some (qB jC (List.map jN L)))] (.d (.tup [])) [(0,some [(jK n),(jK 1),(vi (-1)),(.own 12 95 10 ((List.map jN (L++[(jk (kO ((L.getD a jz).v) ((L.getD b jz).v)) (fun i=>(qU (kO ((L.getD a jz).v) (((L.getD b jz).g).getD i z2)) (kO ((L.getD b jz).v) (((L.getD a jz).g).getD i z2)))) n)])).length)),(vb false)]),(12,some (qB jC (List.map jN (L++[(jk (kO ((L.getD a jz).v) ((L.getD b jz).v)) (fun i=>(qU (kO ((L.getD a jz).v) (((L.getD b jz).g).getD i z2)) (kO ((L.getD b jz).v) (((L.getD a jz).g).getD i z2)))) n)]))))]:=by
 have hu:nF 1048576 n (L.getD a jz):=dA hLk ha
 have hv:nF 1048576 n (L.getD b jz):=dA hLk hb
 let y1:=(jO.mk kR kR)
 refine vG Tryz.func126 rfl cb126 rfl ?_
 show qM _ _ _ _ ⟨[(0,(.ref 0 0)),(1,(.d (kG (qC.mk 4 ((a:Nat):Int) ((b:Nat):Int) kR)))),(2,(vl 61 8 jD bv))],[(0,some [(jK n),(jK 1),(vi (-1)),(.own 1 95 10 ((List.map jN L).length)),(vb false)]),(1,some (qB jC (List.map jN L)))]⟩
 refine jB<|kx [(3,(.ref 2 0)),(4,(.ref 3 0)),(5,(.ref 4 0))] [(2,some [(.ref 0 0)]),(3,some (bx (kG (qC.mk 4 ((a:Nat):Int) ((b:Nat):Int) kR)))),(4,some (bx (.sl 61 8 (List.map jD bv))))] (zH (oBy 2)<|zH (uY 3)<|zH (uY 4)<|zZ) ?_
 refine jB<|kx [(6,(.ref 5 0))] [(5,some (bx (jD (jP (gw 0)))))] (zE (kA (cF ((0:Nat):Int) (by omega) (by omega)))<|zH (qW 5 qL qR)<|zT (qF jY)<|zZ) ?_
 refine jB<|kx [(7,(.clo 181 [5]))] [] (zE (fS [5])<|zM<|zZ) ?_
 refine jB<|kx [(8,(.ref 6 0)),(9,(.ref 7 0))] [(6,some (bx (jC (qK.mk y1 [] [])))),(7,some (bx (jC (qK.mk y1 [] []))))] (zH (qW 6 vL zL)<|zH (qW 7 vL zL)<|zZ) ?_
 refine jB<|kx [(10,(jK 2))] [] (zE (qA vK)<|zR (qX nQ)<|zE (oQd (.val (.int .i64 ((xP 4)))) (.val (.int .i64 (((2:Nat):Int)))) (kA (aS 4)) (by exact rfl))<|zM<|zZ) ?_
 refine jB<|jB<|kx [(19,(vb true))] [] (zM<|zE (uR true gD)<|zZ) ?_
 refine uD ?_
 refine kd [] [(6,some (bx (jC (jN (L.getD a jz)))))] mo (wR (qX mA)<|wE mY<|wE (qA vH)<|wR (qX yQ)<|wE (qA yD)<|wR (qX gI)<|wE (oXO zG a (hj:=by first | omega | rfl | (simp only[List.length_map];omega) | (dsimp only;omega)) (h1:=by first | omega | rfl | (simp only[List.length_map];omega) | (dsimp only;omega)))<|wR (aT (jC ((List.map jN L).getD a (qK.mk y1 [] []))) (jC (jN (L.getD a jz))) (oLA vP a (qK.mk y1 [] []) (h1:=by first | omega | rfl | (simp only[List.length_map];omega) | (dsimp only;omega))) (by exact (congrArg jC (gY jN L jz _ (by omega)))))<|wT (qF vP)<|wZ) ?_
 refine jB<|jB<|kx [(29,(vb true))] [] (zM<|zE (uR true gD)<|zZ) ?_
 refine uD ?_
 refine kd [] [(7,some (bx (jC (jN (L.getD b jz)))))] mo (wR (qX mA)<|wE mY<|wE (qA vH)<|wR (qX yQ)<|wE (qA nM)<|wR (qX gI)<|wE (oXO zG b (hj:=by first | omega | rfl | (simp only[List.length_map];omega) | (dsimp only;omega)) (h1:=by first | omega | rfl | (simp only[List.length_map];omega) | (dsimp only;omega)))<|wR (aT (jC ((List.map jN L).getD b (qK.mk y1 [] []))) (jC (jN (L.getD b jz))) (oLA vP b (qK.mk y1 [] []) (h1:=by first | omega | rfl | (simp only[List.length_map];omega) | (dsimp only;omega))) (by exact (congrArg jC (gY jN L jz _ (by omega)))))<|wT (qF vP)<|wZ) ?_
 refine jB<|kx [(11,(.clo 183 [2,6,7]))] [] (zE (fS [2,6,7])<|zM<|zZ) ?_
 refine jB<|kx [(40,(vi 4))] [] (zE (qA vK)<|zR (qX nQ)<|zZ) ?_
 refine jI<|jB<|kx [(46,(vb false))] [] (zE (uR false xR)<|zM<|zZ) ?_
 refine kI ?_
 refine jB<|kx [(53,(vb false))] [] (zE (uR false xR)<|zM<|zZ) ?_
 refine kI ?_
 refine jB<|kx [(60,(vb false))] [] (zE (uR false xR)<|zM<|zZ) ?_
 refine kI ?_
 refine jB<|jV (wk (l:=[(0,(.ref 0 0)),(3,(.ref 2 0)),(6,(.ref 5 0)),(8,(.ref 6 0)),(9,(.ref 7 0)),(11,(.clo 183 [2,6,7])),(40,(vi 4)),(60,(vb false))]) (b:=[(0,some [(jK n),(jK 1),(vi (-1)),(.own 1 95 10 ((List.map jN L).length)),(vb false)]),(1,some (qB jC (List.map jN L))),(2,some [(.ref 0 0)]),(5,some (bx (jD (jP (gw 0))))),(6,some (bx (jC (jN (L.getD a jz))))),(7,some (bx (jC (jN (L.getD b jz)))))])) ?_
 refine kx [(64,(vb false))] [] (zE (uR false xR)<|zM<|zZ) ?_
 refine kI ?_
 refine jB<|kx [(68,(vb false))] [] (zE (uR false xR)<|zM<|zZ) ?_
 refine kI ?_
 refine jB<|kx [(74,(vb true))] [] (zE (uR true xR)<|zM<|zZ) ?_
 refine uD ?_
 refine kf [] [(0,some [(jK n),(jK 1),(vi (-1)),(.own 12 95 10 ((List.map jN (L++[(jk (kO ((L.getD a jz).v) ((L.getD b jz).v)) (fun i=>(qU (kO ((L.getD a jz).v) (((L.getD b jz).g).getD i z2)) (kO ((L.getD b jz).v) (((L.getD a jz).g).getD i z2)))) n)])).length)),(vb false)]),(12,some (qB jC (List.map jN (L++[(jk (kO ((L.getD a jz).v) ((L.getD b jz).v)) (fun i=>(qU (kO ((L.getD a jz).v) (((L.getD b jz).g).getD i z2)) (kO ((L.getD b jz).v) (((L.getD a jz).g).getD i z2)))) n)])))),(1,none),(10,none),(11,none),(6,none),(7,none),(8,none),(9,none)] (zR (qX mA)<|zE (fS [6,7])<|zE (fS [6,7])<|zE (fS [6,7])<|zS (B2:=[(0,some [(jK n),(jK 1),(vi (-1)),(.own 1 95 10 ((List.map jN L).length)),(vb false)]),(1,some (qB jC (List.map jN L))),(6,some (bx (jC (jN (L.getD a jz))))),(7,some (bx (jC (jN (L.getD b jz)))))]) (B2':=[(0,some [(jK n),(jK 1),(vi (-1)),(.own 12 95 10 ((List.map jN (L++[(jk (kO ((L.getD a jz).v) ((L.getD b jz).v)) (fun i=>(qU (kO ((L.getD a jz).v) (((L.getD b jz).g).getD i z2)) (kO ((L.getD b jz).v) (((L.getD a jz).g).getD i z2)))) n)])).length)),(vb false)]),(12,some (qB jC (List.map jN (L++[(jk (kO ((L.getD a jz).v) ((L.getD b jz).v)) (fun i=>(qU (kO ((L.getD a jz).v) (((L.getD b jz).g).getD i z2)) (kO ((L.getD b jz).v) (((L.getD a jz).g).getD i z2)))) n)]))))]) (M:=1000000) [0,1,6,7,8,9,10,11,12] [0,6,7] (e_nodeM n L (L.getD a jz) hu (L.getD b jz) hv hn hL) (.cons (by exact rfl) (by kernel_rfl) (.cons (by exact rfl) (qH _ _) (.cons (by exact rfl) (qH _ _) (.cons (by exact rfl) (qH _ _) .nil)))) (.cons (by exact rfl) (by kernel_rfl) (.cons (by exact rfl) (qH _ _) .nil)) (by repeat first | exact .nil | refine .hid rfl ?_ | refine .map rfl ?_ | refine .dat rfl ?_ | refine .none rfl ?_ | refine .cells rfl rfl ?_)<|zF) ?_
 refine ⟨xK (by kernel_rfl),zJ (by kernel_rfl),.inl ⟨_,.nil,?_⟩⟩
 rfl
theorem e_stepN(a:Nat)(bv:List jO)(n:Nat)(L:List JV)(hn:n≤64)(hL:L.length≤1000)(hLk:∀ x∈L,nF 1048576 n x)(ha:a<L.length):vS Tryz.prog 126 [(.ref 0 0),(.d (kG (qC.mk 6 ((a:Nat):Int) 0 kR))),(vl 61 8 jD bv)] [(0,some [(jK n),(jK 1),(vi (-1)),(.own 1 95 10 ((List.map jN L).length)),(vb false)]),(1,some (qB jC (List.map jN L)))] (.d (.tup [])) [(0,some [(jK n),(jK 1),(vi (-1)),(.own 17 95 10 ((List.map jN (L++[(jk (kZ (gw 0) ((L.getD a jz).v)) (fun i=>(kZ (gw 0) (((L.getD a jz).g).getD i z2))) n)])).length)),(vb false)]),(17,some (qB jC (List.map jN (L++[(jk (kZ (gw 0) ((L.getD a jz).v)) (fun i=>(kZ (gw 0) (((L.getD a jz).g).getD i z2))) n)]))))]:=by
 have hu:nF 1048576 n (L.getD a jz):=dA hLk ha
 let y3:=(kG (qC.mk 6 ((a:Nat):Int) 0 kR))
 let y2:=(jO.mk kR kR)
 let y1:=(bx (jC (qK.mk y2 [] [])))
 refine vG Tryz.func126 rfl cb126 rfl ?_
 show qM _ _ _ _ ⟨[(0,(.ref 0 0)),(1,(.d y3)),(2,(vl 61 8 jD bv))],[(0,some [(jK n),(jK 1),(vi (-1)),(.own 1 95 10 ((List.map jN L).length)),(vb false)]),(1,some (qB jC (List.map jN L)))]⟩
 refine jB<|kx [(3,(.ref 2 0)),(4,(.ref 3 0)),(5,(.ref 4 0))] [(2,some [(.ref 0 0)]),(3,some (bx y3)),(4,some (bx (.sl 61 8 (List.map jD bv))))] (zH (oBy 2)<|zH (uY 3)<|zH (uY 4)<|zZ) ?_
 refine jB<|pwp_fix 2 (k:=0) (o:=0) (h:=fun b0=>?_)
 refine jV (wk (l:=[(0,(.ref 0 0)),(3,(.ref 2 0)),(4,(.ref 3 0)),(5,(.ref 4 0))]) (b:=[(0,some [(jK n),(jK 1),(vi (-1)),(.own 1 95 10 ((List.map jN L).length)),(vb false)]),(1,some (qB jC (List.map jN L))),(2,some [(.refx 0 0 b0)]),(3,some (bx y3)),(4,some (bx (.sl 61 8 (List.map jD bv))))])) ?_
 refine kx [(6,(.ref 5 0))] [(5,some (bx (jD (jP (gw 0)))))] (zE (kA (cF ((0:Nat):Int) (by omega) (by omega)))<|zH (qW 5 qL qR)<|zT (qF jY)<|zZ) ?_
 refine jB<|kx [(7,(.clo 181 [5]))] [] (zE (fS [5])<|zM<|zZ) ?_
 refine jB<|kx [(8,(.ref 6 0)),(9,(.ref 7 0))] [(6,some y1),(7,some y1)] (zH (qW 6 vL zL)<|zH (qW 7 vL zL)<|zZ) ?_
 refine jB<|kx [(10,(jK 1))] [] (zE (qA vK)<|zR (qX nQ)<|zE (oQd (.val (.int .i64 ((xP 6)))) (.val (.int .i64 (((1:Nat):Int)))) (kA (aS 6)) (by exact rfl))<|zM<|zZ) ?_
 refine jB<|jB<|kx [(19,(vb true))] [] (zM<|zE (uR true gD)<|zZ) ?_
 refine uD ?_
 refine kd [] [(6,some (bx (jC (jN (L.getD a jz)))))] mo (wR (oLx mA)<|wE mY<|wE (qA vH)<|wR (qX yQ)<|wE (qA yD)<|wR (qX gI)<|wE (oXO zG a (hj:=by first | omega | rfl | (simp only[List.length_map];omega) | (dsimp only;omega)) (h1:=by first | omega | rfl | (simp only[List.length_map];omega) | (dsimp only;omega)))<|wR (aT (jC ((List.map jN L).getD a (qK.mk y2 [] []))) (jC (jN (L.getD a jz))) (oLA vP a (qK.mk y2 [] []) (h1:=by first | omega | rfl | (simp only[List.length_map];omega) | (dsimp only;omega))) (by exact (congrArg jC (gY jN L jz _ (by omega)))))<|wT (qF vP)<|wZ) ?_
 refine jB<|jB<|kx [(29,(vb false))] [] (zM<|zE (uR false gD)<|zZ) ?_
 refine kI ?_
 refine jF<|jB<|kx [(11,(.clo 183 [2,6,7]))] [] (zE (fS [2,6,7])<|zM<|zZ) ?_
 refine jB<|kx [(40,(vi 6))] [] (zE (qA vK)<|zR (qX nQ)<|zZ) ?_
 refine jI<|jB<|kx [(46,(vb false))] [] (zE (uR false xR)<|zM<|zZ) ?_
 refine kI ?_
 refine jB<|kx [(53,(vb false))] [] (zE (uR false xR)<|zM<|zZ) ?_
 refine kI ?_
 refine jB<|kx [(60,(vb false))] [] (zE (uR false xR)<|zM<|zZ) ?_
 refine kI ?_
 refine jB<|kx [(64,(vb false))] [] (zE (uR false xR)<|zM<|zZ) ?_
 refine kI ?_
 refine jB<|kx [(68,(vb true))] [] (zE (uR true xR)<|zM<|zZ) ?_
 refine uD ?_
 refine jB<|jV (wk (l:=[(0,(.ref 0 0)),(3,(.ref 2 0)),(6,(.ref 5 0)),(8,(.ref 6 0)),(9,(.ref 7 0)),(11,(.clo 183 [2,6,7])),(40,(vi 6)),(68,(vb true))]) (b:=[(0,some [(jK n),(jK 1),(vi (-1)),(.own 1 95 10 ((List.map jN L).length)),(vb false)]),(1,some (qB jC (List.map jN L))),(2,some [(.refx 0 0 b0)]),(5,some (bx (jD (jP (gw 0))))),(6,some (bx (jC (jN (L.getD a jz))))),(7,some y1)])) ?_
 refine kx [] [(7,some (bx (jC (jN (L.getD a jz)))))] (zR (aT (jC (jN (L.getD a jz))) (jC (jN (L.getD a jz))) (kP vP) (by exact rfl))<|zT (qF vP)<|zZ) ?_
 refine kf [(6,.junk)] [(0,some [(jK n),(jK 1),(vi (-1)),(.own 17 95 10 ((List.map jN (L++[(jk (kZ (gw 0) ((L.getD a jz).v)) (fun i=>(kZ (gw 0) (((L.getD a jz).g).getD i z2))) n)])).length)),(vb false)]),(17,some (qB jC (List.map jN (L++[(jk (kZ (gw 0) ((L.getD a jz).v)) (fun i=>(kZ (gw 0) (((L.getD a jz).g).getD i z2))) n)])))),(1,none),(10,none),(11,none),(12,none),(13,none),(14,none),(15,none),(16,none),(2,none),(5,none),(6,none),(7,none),(8,none),(9,none)] (zM<|zE (fS [5])<|zS (B2:=[(0,some [(jK n),(jK 1),(vi (-1)),(.own 1 95 10 ((List.map jN L).length)),(vb false)]),(1,some (qB jC (List.map jN L))),(2,some [(.refx 0 0 b0)]),(6,some (bx (jC (jN (L.getD a jz))))),(7,some (bx (jC (jN (L.getD a jz))))),(5,some (bx (jD (jP (gw 0)))))]) (B2':=[(0,some [(jK n),(jK 1),(vi (-1)),(.own 17 95 10 ((List.map jN (L++[(jk (kZ (gw 0) ((L.getD a jz).v)) (fun i=>(kZ (gw 0) (((L.getD a jz).g).getD i z2))) n)])).length)),(vb false)]),(17,some (qB jC (List.map jN (L++[(jk (kZ (gw 0) ((L.getD a jz).v)) (fun i=>(kZ (gw 0) (((L.getD a jz).g).getD i z2))) n)])))),(2,some [(.refx 0 0 b0)])]) (M:=1000000) [0,1,2,6,7,8,9,10,11,5,12,13,14,15,16,17] [2,6,7,0] (e_linN n L b0 (L.getD a jz) hu (L.getD a jz) hu hn hL) (.cons (by exact rfl) (by kernel_rfl) (.cons (by exact rfl) (qH _ _) (.cons (by exact rfl) (by kernel_rfl) (.cons (by exact rfl) (qH _ _) (.cons (by exact rfl) (qH _ _) (.cons (by exact rfl) (qH _ _) .nil)))))) (.cons (by exact rfl) (by kernel_rfl) (.cons (by exact rfl) (qH _ _) (.cons (by exact rfl) (by kernel_rfl) .nil))) (by repeat first | exact .nil | refine .hid rfl ?_ | refine .map rfl ?_ | refine .dat rfl ?_ | refine .none rfl ?_ | refine .cells rfl rfl ?_) (G:=[0]) (hG:=by exact (.cons (k:=0) (q:=2) (o:=0) (b:=b0) (j:=0) (by kernel_rfl) (by kernel_rfl) (by kernel_rfl) .nil)) (ex:=[.ref 2 0,.ref 6 0,.ref 7 0]) (hy:=.clo (kk:=[2,6,7]) (by kernel_rfl) (by kernel_rfl))<|zF) ?_
 refine ⟨xK (by kernel_rfl),zJ (by kernel_rfl),.inl ⟨_,.nil,?_⟩⟩
 rfl
theorem e_stepQ(a:Nat)(bv:List jO)(n:Nat)(L:List JV)(hn:n≤64)(hL:L.length≤1000)(hLk:∀ x∈L,nF 1048576 n x)(ha:a<L.length):vS Tryz.prog 126 [(.ref 0 0),(.d (kG (qC.mk 7 ((a:Nat):Int) 0 kR))),(vl 61 8 jD bv)] [(0,some [(jK n),(jK 1),(vi (-1)),(.own 1 95 10 ((List.map jN L).length)),(vb false)]),(1,some (qB jC (List.map jN L)))] (.d (.tup [])) [(0,some [(jK n),(jK 1),(vi (-1)),(.own 13 95 10 ((List.map jN (L++[(jk (aJ ((L.getD a jz).v)) (fun i=>(kO (gw 2) (kO ((L.getD a jz).v) (((L.getD a jz).g).getD i z2)))) n)])).length)),(vb false)]),(13,some (qB jC (List.map jN (L++[(jk (aJ ((L.getD a jz).v)) (fun i=>(kO (gw 2) (kO ((L.getD a jz).v) (((L.getD a jz).g).getD i z2)))) n)]))))]:=by
 have hu:nF 1048576 n (L.getD a jz):=dA hLk ha
 let y2:=(jO.mk kR kR)
 let y1:=(bx (jC (qK.mk y2 [] [])))
 refine vG Tryz.func126 rfl cb126 rfl ?_
 show qM _ _ _ _ ⟨[(0,(.ref 0 0)),(1,(.d (kG (qC.mk 7 ((a:Nat):Int) 0 kR)))),(2,(vl 61 8 jD bv))],[(0,some [(jK n),(jK 1),(vi (-1)),(.own 1 95 10 ((List.map jN L).length)),(vb false)]),(1,some (qB jC (List.map jN L)))]⟩
 refine jB<|kx [(3,(.ref 2 0)),(4,(.ref 3 0)),(5,(.ref 4 0))] [(2,some [(.ref 0 0)]),(3,some (bx (kG (qC.mk 7 ((a:Nat):Int) 0 kR)))),(4,some (bx (.sl 61 8 (List.map jD bv))))] (zH (oBy 2)<|zH (uY 3)<|zH (uY 4)<|zZ) ?_
 refine jB<|kx [(6,(.ref 5 0))] [(5,some (bx (jD (jP (gw 0)))))] (zE (kA (cF ((0:Nat):Int) (by omega) (by omega)))<|zH (qW 5 qL qR)<|zT (qF jY)<|zZ) ?_
 refine jB<|kx [(7,(.clo 181 [5]))] [] (zE (fS [5])<|zM<|zZ) ?_
 refine jB<|kx [(8,(.ref 6 0)),(9,(.ref 7 0))] [(6,some y1),(7,some y1)] (zH (qW 6 vL zL)<|zH (qW 7 vL zL)<|zZ) ?_
 refine jB<|kx [(10,(jK 1))] [] (zE (qA vK)<|zR (qX nQ)<|zE (oQd (.val (.int .i64 ((xP 7)))) (.val (.int .i64 (((1:Nat):Int)))) (kA (aS 7)) (by exact rfl))<|zM<|zZ) ?_
 refine jB<|jB<|kx [(19,(vb true))] [] (zM<|zE (uR true gD)<|zZ) ?_
 refine uD ?_
 refine kd [] [(6,some (bx (jC (jN (L.getD a jz)))))] mo (wR (qX mA)<|wE mY<|wE (qA vH)<|wR (qX yQ)<|wE (qA yD)<|wR (qX gI)<|wE (oXO zG a (hj:=by first | omega | rfl | (simp only[List.length_map];omega) | (dsimp only;omega)) (h1:=by first | omega | rfl | (simp only[List.length_map];omega) | (dsimp only;omega)))<|wR (aT (jC ((List.map jN L).getD a (qK.mk y2 [] []))) (jC (jN (L.getD a jz))) (oLA vP a (qK.mk y2 [] []) (h1:=by first | omega | rfl | (simp only[List.length_map];omega) | (dsimp only;omega))) (by exact (congrArg jC (gY jN L jz _ (by omega)))))<|wT (qF vP)<|wZ) ?_
 refine jB<|jB<|kx [(29,(vb false))] [] (zM<|zE (uR false gD)<|zZ) ?_
 refine kI ?_
 refine jF<|jB<|kx [(11,(.clo 183 [2,6,7]))] [] (zE (fS [2,6,7])<|zM<|zZ) ?_
 refine jB<|kx [(40,(vi 7))] [] (zE (qA vK)<|zR (qX nQ)<|zZ) ?_
 refine jI<|jB<|kx [(46,(vb false))] [] (zE (uR false xR)<|zM<|zZ) ?_
 refine kI ?_
 refine jB<|kx [(53,(vb false))] [] (zE (uR false xR)<|zM<|zZ) ?_
 refine kI ?_
 refine jB<|kx [(60,(vb false))] [] (zE (uR false xR)<|zM<|zZ) ?_
 refine kI ?_
 refine jB<|kx [(64,(vb false))] [] (zE (uR false xR)<|zM<|zZ) ?_
 refine kI ?_
 refine jB<|jV (wk (l:=[(0,(.ref 0 0)),(3,(.ref 2 0)),(6,(.ref 5 0)),(8,(.ref 6 0)),(9,(.ref 7 0)),(11,(.clo 183 [2,6,7])),(40,(vi 7)),(64,(vb false))]) (b:=[(0,some [(jK n),(jK 1),(vi (-1)),(.own 1 95 10 ((List.map jN L).length)),(vb false)]),(1,some (qB jC (List.map jN L))),(2,some [(.ref 0 0)]),(5,some (bx (jD (jP (gw 0))))),(6,some (bx (jC (jN (L.getD a jz))))),(7,some y1)])) ?_
 refine kx [(68,(vb false))] [] (zE (uR false xR)<|zM<|zZ) ?_
 refine kI ?_
 refine jB<|kx [(74,(vb false))] [] (zE (uR false xR)<|zM<|zZ) ?_
 refine kI ?_
 refine jB<|kx [(81,(vb true))] [] (zE (uR true xR)<|zM<|zZ) ?_
 refine uD ?_
 refine jB<|kx [(12,(.ref 8 0))] [(8,some (bx (jD (jP (gw 2)))))] (zE (kA (cF ((2:Nat):Int) (by omega) (by omega)))<|zH (qW 8 qL qR)<|zT (qF jY)<|zZ) ?_
 refine kf [] [(0,some [(jK n),(jK 1),(vi (-1)),(.own 13 95 10 ((List.map jN (L++[(jk (aJ ((L.getD a jz).v)) (fun i=>(kO (gw 2) (kO ((L.getD a jz).v) (((L.getD a jz).g).getD i z2)))) n)])).length)),(vb false)]),(13,some (qB jC (List.map jN (L++[(jk (aJ ((L.getD a jz).v)) (fun i=>(kO (gw 2) (kO ((L.getD a jz).v) (((L.getD a jz).g).getD i z2)))) n)])))),(1,none),(10,none),(11,none),(12,none),(6,none),(8,none),(9,none)] (zR (qX mA)<|zE (fS [6])<|zE (fS [8,6])<|zE (fS [6,8])<|zS (B2:=[(0,some [(jK n),(jK 1),(vi (-1)),(.own 1 95 10 ((List.map jN L).length)),(vb false)]),(1,some (qB jC (List.map jN L))),(6,some (bx (jC (jN (L.getD a jz))))),(8,some (bx (jD (jP (gw 2)))))]) (B2':=[(0,some [(jK n),(jK 1),(vi (-1)),(.own 13 95 10 ((List.map jN (L++[(jk (aJ ((L.getD a jz).v)) (fun i=>(kO (gw 2) (kO ((L.getD a jz).v) (((L.getD a jz).g).getD i z2)))) n)])).length)),(vb false)]),(13,some (qB jC (List.map jN (L++[(jk (aJ ((L.getD a jz).v)) (fun i=>(kO (gw 2) (kO ((L.getD a jz).v) (((L.getD a jz).g).getD i z2)))) n)]))))]) (M:=1000000) [0,1,6,8,9,10,11,12,13] [0,6,8] (e_nodeQ n L (L.getD a jz) hu (gw 2) (gl_w (z:=2) (by omega) (by omega)) hn hL) (.cons (by exact rfl) (by kernel_rfl) (.cons (by exact rfl) (qH _ _) (.cons (by exact rfl) (qH _ _) (.cons (by exact rfl) (qH _ _) .nil)))) (.cons (by exact rfl) (by kernel_rfl) (.cons (by exact rfl) (qH _ _) .nil)) (by repeat first | exact .nil | refine .hid rfl ?_ | refine .map rfl ?_ | refine .dat rfl ?_ | refine .none rfl ?_ | refine .cells rfl rfl ?_)<|zF) ?_
 refine ⟨xK (by kernel_rfl),zJ (by kernel_rfl),.inl ⟨_,.nil,?_⟩⟩
 rfl
end Go.Proofs.YtnajallgoaiahaaGreatDoor
