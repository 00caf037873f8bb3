/- Part 30 of a proof: rules, plain facts, and functions walked. -/
import Derived.Test.YtnajallgoaiahaaGreatDoorM29
namespace Go.Proofs.YtnajallgoaiahaaGreatDoor
open Go.Fid
set_option maxRecDepth 4000
set_option linter.unusedVariables false
set_option linter.unusedSimpArgs false
theorem cb126 : callB Tryz.prog 126 = true := by kernel_rfl
theorem xS : zV Tryz.prog 83 0 = some 0 := by kernel_rfl
theorem eZ : zV Tryz.prog 83 2 = some 2 := by kernel_rfl
theorem dC : qU Tryz.prog 81 = some (false, 1) := by kernel_rfl
theorem e_stepC (p : Rat) (hp : QL p 1048576) (bv : List kD) (n : Nat) (L : List JV) (hn : n ≤ 64) (hL : L.length ≤ 1000) : xQ Tryz.prog 126 [(.ref 0 0), (.d (qP (vB.mk 0 0 0 (jS p)))), (vl 61 8 jG bv)] [(0, some [(jN n), (jN 1), (vi (-1)), (.own 1 95 10 ((List.map jP L).length)), (vb false)]), (1, some (qD jC (List.map jP L)))] (.d (.tup [])) [(0, some [(jN n), (jN 1), (vi (-1)), (.own 12 95 10 ((List.map jP (L ++ [(jk (gX p) (fun i => (gw 0)) n)])).length)), (vb false)]), (12, some (qD jC (List.map jP (L ++ [(jk (gX p) (fun i => (gw 0)) n)]))))] := by
 refine vP Tryz.func126 rfl cb126 rfl ?_
 show qJ _ _ _ _ ⟨[(0, (.ref 0 0)), (1, (.d (qP (vB.mk 0 0 0 (jS p))))), (2, (vl 61 8 jG bv))], [(0, some [(jN n), (jN 1), (vi (-1)), (.own 1 95 10 ((List.map jP L).length)), (vb false)]), (1, some (qD jC (List.map jP L)))]⟩
 refine jB <| kx [(3, (.ref 2 0)), (4, (.ref 3 0)), (5, (.ref 4 0))] [(2, some [(.ref 0 0)]), (3, some (bx (qP (vB.mk 0 0 0 (jS p))))), (4, some (bx (.sl 61 8 (List.map jG bv))))] (zH (oBy 2) <| zH (uZ 3) <| zH (uZ 4) <| zZ) ?_
 refine jB <| kx [(6, (.ref 5 0))] [(5, some (bx (jG (kF (gw 0)))))] (zE (kG (dA ((0 : Nat) : Int) (by omega) (by omega))) <| zH (qS 5 uI uP) <| zT (qF kS) <| zZ) ?_
 refine jB <| kx [(7, (.clo 181 [5]))] [] (zE (fP [5]) <| zM <| zZ) ?_
 refine jB <| kx [(8, (.ref 6 0)), (9, (.ref 7 0))] [(6, some (bx (jC (uV.mk (kD.mk (jJ.mk (jE.mk false []) (jE.mk false [])) (jJ.mk (jE.mk false []) (jE.mk false []))) [] [])))), (7, some (bx (jC (uV.mk (kD.mk (jJ.mk (jE.mk false []) (jE.mk false [])) (jJ.mk (jE.mk false []) (jE.mk false []))) [] []))))] (zH (qS 6 zG nI) <| zH (qS 7 zG nI) <| zZ) ?_
 refine jB <| kx [(10, (jN 0))] [] (zE (qC xS) <| zR (uC dC) <| zE (oQd (.val (.int .i64 ((cH 0)))) (.val (.int .i64 (((0 : Nat) : Int)))) (kG (aO 0)) (by exact rfl)) <| zM <| zZ) ?_
 refine jB <| jB <| kx [(19, (vb false))] [] (zM <| zE (uX false yN) <| zZ) ?_
 refine kO ?_
 refine jF <| jB <| jB <| kx [(29, (vb false))] [] (zM <| zE (uX false yN) <| zZ) ?_
 refine kO ?_
 refine jF <| jB <| kx [(11, (.clo 183 [2, 6, 7]))] [] (zE (fP [2, 6, 7]) <| zM <| zZ) ?_
 refine jB <| kx [(40, (vi 0))] [] (zE (qC xS) <| zR (uC dC) <| zZ) ?_
 refine jI <| jB <| kx [(46, (vb true))] [] (zE (uX true gJ) <| zM <| zZ) ?_
 refine qL ?_
 refine kf [] [(0, some [(jN n), (jN 1), (vi (-1)), (.own 12 95 10 ((List.map jP (L ++ [(jk (gX p) (fun i => (gw 0)) n)])).length)), (vb false)]), (12, some (qD jC (List.map jP (L ++ [(jk (gX p) (fun i => (gw 0)) n)])))), (1, none), (10, none), (11, none), (3, none), (5, none), (8, none), (9, none)] (zR (uC mM) <| zE (fP [3]) <| zE (fP [5]) <| zM <| zS (B2 := [(0, some [(jN n), (jN 1), (vi (-1)), (.own 1 95 10 ((List.map jP L).length)), (vb false)]), (1, some (qD jC (List.map jP L))), (3, some (bx (qP (vB.mk 0 0 0 (jS p))))), (5, some (bx (jG (kF (gw 0)))))]) (B2' := [(0, some [(jN n), (jN 1), (vi (-1)), (.own 12 95 10 ((List.map jP (L ++ [(jk (gX p) (fun i => (gw 0)) n)])).length)), (vb false)]), (12, some (qD jC (List.map jP (L ++ [(jk (gX p) (fun i => (gw 0)) n)]))))]) (M := 1000000) [0, 1, 3, 5, 8, 9, 10, 11, 12] [0, 3, 5] (e_nodeC n L p hp (gw 0) (gl_w (z := 0) (by omega) (by omega)) hn hL) (.cons (by exact rfl) (by kernel_rfl) (.cons (by exact rfl) (qH _ _) (.cons (by exact rfl) (qH _ _) (.cons (by exact rfl) (qH _ _) .nil)))) (.cons (by exact rfl) (by kernel_rfl) (.cons (by exact rfl) (qH _ _) .nil)) (by repeat first | exact .nil | refine .hid rfl ?_ | refine .map rfl ?_ | refine .dat rfl ?_ | refine .none rfl ?_ | refine .cells rfl rfl ?_) <| zF) ?_
 refine ⟨vZ (by kernel_rfl), zY (by kernel_rfl), .inl ⟨_, .nil, ?_⟩⟩
 rfl
theorem e_stepV (a : Nat) (bv : List R2) (hbx : ∀ x ∈ bv, GL 1048576 x) (n : Nat) (L : List JV) (hn : n ≤ 64) (hL : L.length ≤ 1000) (ha : a < bv.length) (hbl : bv.length ≤ 1000000) : xQ Tryz.prog 126 [(.ref 0 0), (.d (qP (vB.mk 1 ((a : Nat) : Int) 0 (jJ.mk (jE.mk false []) (jE.mk false []))))), (vl 61 8 jG (List.map kF bv))] [(0, some [(jN n), (jN 1), (vi (-1)), (.own 1 95 10 ((List.map jP L).length)), (vb false)]), (1, some (qD jC (List.map jP L)))] (.d (.tup [])) [(0, some [(jN n), (jN 1), (vi (-1)), (.own 12 95 10 ((List.map jP (L ++ [(jk (bv.getD a z2) (fun i => (if ((i : Nat) : Int) = ((a : Nat) : Int) then gw 1 else (gw 0))) n)])).length)), (vb false)]), (12, some (qD jC (List.map jP (L ++ [(jk (bv.getD a z2) (fun i => (if ((i : Nat) : Int) = ((a : Nat) : Int) then gw 1 else (gw 0))) n)]))))] := by
 let y2 := (jJ.mk (jE.mk false []) (jE.mk false []))
 let y1 := (qP (vB.mk 1 ((a : Nat) : Int) 0 y2))
 refine vP Tryz.func126 rfl cb126 rfl ?_
 show qJ _ _ _ _ ⟨[(0, (.ref 0 0)), (1, (.d y1)), (2, (vl 61 8 jG (List.map kF bv)))], [(0, some [(jN n), (jN 1), (vi (-1)), (.own 1 95 10 ((List.map jP L).length)), (vb false)]), (1, some (qD jC (List.map jP L)))]⟩
 refine jB <| kx [(3, (.ref 2 0)), (4, (.ref 3 0)), (5, (.ref 4 0))] [(2, some [(.ref 0 0)]), (3, some (bx y1)), (4, some (bx (.sl 61 8 (List.map jG (List.map kF bv)))))] (zH (oBy 2) <| zH (uZ 3) <| zH (uZ 4) <| zZ) ?_
 refine jB <| kx [(6, (.ref 5 0))] [(5, some (bx (jG (kF (gw 0)))))] (zE (kG (dA ((0 : Nat) : Int) (by omega) (by omega))) <| zH (qS 5 uI uP) <| zT (qF kS) <| zZ) ?_
 refine jB <| kx [(7, (.clo 181 [5]))] [] (zE (fP [5]) <| zM <| zZ) ?_
 refine jB <| kx [(8, (.ref 6 0)), (9, (.ref 7 0))] [(6, some (bx (jC (uV.mk (kD.mk y2 y2) [] [])))), (7, some (bx (jC (uV.mk (kD.mk y2 y2) [] []))))] (zH (qS 6 zG nI) <| zH (qS 7 zG nI) <| zZ) ?_
 refine jB <| kx [(10, (jN 0))] [] (zE (qC xS) <| zR (uC dC) <| zE (oQd (.val (.int .i64 ((cH 1)))) (.val (.int .i64 (((0 : Nat) : Int)))) (kG (aO 1)) (by exact rfl)) <| zM <| zZ) ?_
 refine jB <| jB <| kx [(19, (vb false))] [] (zM <| zE (uX false yN) <| zZ) ?_
 refine kO ?_
 refine jF <| jB <| jB <| kx [(29, (vb false))] [] (zM <| zE (uX false yN) <| zZ) ?_
 refine kO ?_
 refine jF <| jB <| kx [(11, (.clo 183 [2, 6, 7]))] [] (zE (fP [2, 6, 7]) <| zM <| zZ) ?_
 refine jB <| kx [(40, (vi 1))] [] (zE (qC xS) <| zR (uC dC) <| zZ) ?_
 refine jI <| jB <| kx [(46, (vb false))] [] (zE (uX false gJ) <| zM <| zZ) ?_
 refine kO ?_
 refine jB <| kx [(53, (vb true))] [] (zE (uX true gJ) <| zM <| zZ) ?_
 refine qL ?_
 refine kf [] [(0, some [(jN n), (jN 1), (vi (-1)), (.own 12 95 10 ((List.map jP (L ++ [(jk (bv.getD a z2) (fun i => (if ((i : Nat) : Int) = ((a : Nat) : Int) then gw 1 else (gw 0))) n)])).length)), (vb false)]), (12, some (qD jC (List.map jP (L ++ [(jk (bv.getD a z2) (fun i => (if ((i : Nat) : Int) = ((a : Nat) : Int) then gw 1 else (gw 0))) n)])))), (1, none), (10, none), (11, none), (3, none), (4, none), (5, none), (8, none), (9, none)] (zR (uC mM) <| zE (fP [4, 3]) <| zE (fP [3, 5]) <| zM <| zS (B2 := [(0, some [(jN n), (jN 1), (vi (-1)), (.own 1 95 10 ((List.map jP L).length)), (vb false)]), (1, some (qD jC (List.map jP L))), (4, some (bx (.sl 61 8 (List.map jG (List.map kF bv))))), (3, some (bx y1)), (5, some (bx (jG (kF (gw 0)))))]) (B2' := [(0, some [(jN n), (jN 1), (vi (-1)), (.own 12 95 10 ((List.map jP (L ++ [(jk (bv.getD a z2) (fun i => (if ((i : Nat) : Int) = ((a : Nat) : Int) then gw 1 else (gw 0))) n)])).length)), (vb false)]), (12, some (qD jC (List.map jP (L ++ [(jk (bv.getD a z2) (fun i => (if ((i : Nat) : Int) = ((a : Nat) : Int) then gw 1 else (gw 0))) n)]))))]) (M := 1000000) [0, 1, 4, 3, 5, 8, 9, 10, 11, 12] [0, 4, 3, 5] (e_nodeV n L bv hbx a (gw 0) (gl_w (z := 0) (by omega) (by omega)) hn hL ha hbl) (.cons (by exact rfl) (by kernel_rfl) (.cons (by exact rfl) (qH _ _) (.cons (by exact rfl) (qH _ _) (.cons (by exact rfl) (qH _ _) (.cons (by exact rfl) (qH _ _) .nil))))) (.cons (by exact rfl) (by kernel_rfl) (.cons (by exact rfl) (qH _ _) .nil)) (by repeat first | exact .nil | refine .hid rfl ?_ | refine .map rfl ?_ | refine .dat rfl ?_ | refine .none rfl ?_ | refine .cells rfl rfl ?_) <| zF) ?_
 refine ⟨vZ (by kernel_rfl), zY (by kernel_rfl), .inl ⟨_, .nil, ?_⟩⟩
 rfl
theorem e_stepA (a : Nat) (b : Nat) (bv : List kD) (n : Nat) (L : List JV) (hn : n ≤ 64) (hL : L.length ≤ 1000) (hLk : ∀ x ∈ L, mG 1048576 n x) (ha : a < L.length) (hb : b < L.length) : xQ Tryz.prog 126 [(.ref 0 0), (.d (qP (vB.mk 2 ((a : Nat) : Int) ((b : Nat) : Int) (jJ.mk (jE.mk false []) (jE.mk false []))))), (vl 61 8 jG bv)] [(0, some [(jN n), (jN 1), (vi (-1)), (.own 1 95 10 ((List.map jP L).length)), (vb false)]), (1, some (qD jC (List.map jP L)))] (.d (.tup [])) [(0, some [(jN n), (jN 1), (vi (-1)), (.own 13 95 10 ((List.map jP (L ++ [(jk (qX ((L.getD a jz).v) ((L.getD b jz).v)) (fun i => (qX (((L.getD a jz).g).getD i z2) (((L.getD b jz).g).getD i z2))) n)])).length)), (vb false)]), (13, some (qD jC (List.map jP (L ++ [(jk (qX ((L.getD a jz).v) ((L.getD b jz).v)) (fun i => (qX (((L.getD a jz).g).getD i z2) (((L.getD b jz).g).getD i z2))) n)]))))] := by
 have hu : mG 1048576 n (L.getD a jz) := fC hLk ha
 have hv : mG 1048576 n (L.getD b jz) := fC hLk hb
 let y2 := (qP (vB.mk 2 ((a : Nat) : Int) ((b : Nat) : Int) (jJ.mk (jE.mk false []) (jE.mk false []))))
 let y1 := (kD.mk (jJ.mk (jE.mk false []) (jE.mk false [])) (jJ.mk (jE.mk false []) (jE.mk false [])))
 refine vP Tryz.func126 rfl cb126 rfl ?_
 show qJ _ _ _ _ ⟨[(0, (.ref 0 0)), (1, (.d y2)), (2, (vl 61 8 jG bv))], [(0, some [(jN n), (jN 1), (vi (-1)), (.own 1 95 10 ((List.map jP L).length)), (vb false)]), (1, some (qD jC (List.map jP L)))]⟩
 refine jB <| kx [(3, (.ref 2 0)), (4, (.ref 3 0)), (5, (.ref 4 0))] [(2, some [(.ref 0 0)]), (3, some (bx y2)), (4, some (bx (.sl 61 8 (List.map jG bv))))] (zH (oBy 2) <| zH (uZ 3) <| zH (uZ 4) <| zZ) ?_
 refine jB <| pwp_fix 2 (k := 0) (o := 0) (h := fun b0 => ?_)
 refine kA (wk (l := [(0, (.ref 0 0)), (3, (.ref 2 0)), (4, (.ref 3 0)), (5, (.ref 4 0))]) (b := [(0, some [(jN n), (jN 1), (vi (-1)), (.own 1 95 10 ((List.map jP L).length)), (vb false)]), (1, some (qD jC (List.map jP L))), (2, some [(.refx 0 0 b0)]), (3, some (bx y2)), (4, some (bx (.sl 61 8 (List.map jG bv))))])) ?_
 refine kx [(6, (.ref 5 0))] [(5, some (bx (jG (kF (gw 0)))))] (zE (kG (dA ((0 : Nat) : Int) (by omega) (by omega))) <| zH (qS 5 uI uP) <| zT (qF kS) <| zZ) ?_
 refine jB <| kx [(7, (.clo 181 [5]))] [] (zE (fP [5]) <| zM <| zZ) ?_
 refine jB <| kx [(8, (.ref 6 0)), (9, (.ref 7 0))] [(6, some (bx (jC (uV.mk y1 [] [])))), (7, some (bx (jC (uV.mk y1 [] []))))] (zH (qS 6 zG nI) <| zH (qS 7 zG nI) <| zZ) ?_
 refine jB <| kx [(10, (jN 2))] [] (zE (qC xS) <| zR (uC dC) <| zE (oQd (.val (.int .i64 ((cH 2)))) (.val (.int .i64 (((2 : Nat) : Int)))) (kG (aO 2)) (by exact rfl)) <| zM <| zZ) ?_
 refine jB <| jB <| kx [(19, (vb true))] [] (zM <| zE (uX true yN) <| zZ) ?_
 refine qL ?_
 refine kd [] [(6, some (bx (jC (jP (L.getD a jz)))))] mo (wR (oLx mM) <| wE dD <| wE (qC vK) <| wR (uC yX) <| wE (qC hH) <| wR (uC nF) <| wE (oXO yZ a (hj := by first | omega | rfl | (simp only [List.length_map]; omega) | (dsimp only; omega)) (h1 := by first | omega | rfl | (simp only [List.length_map]; omega) | (dsimp only; omega))) <| wR (oQr (jC ((List.map jP L).getD a (uV.mk y1 [] []))) (jC (jP (L.getD a jz))) (oLA gA a (uV.mk y1 [] []) (h1 := by first | omega | rfl | (simp only [List.length_map]; omega) | (dsimp only; omega))) (by exact (congrArg jC (hP jP L jz _ (by omega))))) <| wT (qF gA) <| wZ) ?_
 refine jB <| jB <| kx [(29, (vb true))] [] (zM <| zE (uX true yN) <| zZ) ?_
 refine qL ?_
 refine kd [] [(7, some (bx (jC (jP (L.getD b jz)))))] mo (wR (oLx mM) <| wE dD <| wE (qC vK) <| wR (uC yX) <| wE (qC eZ) <| wR (uC nF) <| wE (oXO yZ b (hj := by first | omega | rfl | (simp only [List.length_map]; omega) | (dsimp only; omega)) (h1 := by first | omega | rfl | (simp only [List.length_map]; omega) | (dsimp only; omega))) <| wR (oQr (jC ((List.map jP L).getD b (uV.mk y1 [] []))) (jC (jP (L.getD b jz))) (oLA gA b (uV.mk y1 [] []) (h1 := by first | omega | rfl | (simp only [List.length_map]; omega) | (dsimp only; omega))) (by exact (congrArg jC (hP jP L jz _ (by omega))))) <| wT (qF gA) <| wZ) ?_
 refine jB <| kx [(11, (.clo 183 [2, 6, 7]))] [] (zE (fP [2, 6, 7]) <| zM <| zZ) ?_
 refine jB <| kx [(40, (vi 2))] [] (zE (qC xS) <| zR (uC dC) <| zZ) ?_
 refine jI <| jB <| kx [(46, (vb false))] [] (zE (uX false gJ) <| zM <| zZ) ?_
 refine kO ?_
 refine jB <| kx [(53, (vb false))] [] (zE (uX false gJ) <| zM <| zZ) ?_
 refine kO ?_
 refine jB <| kx [(60, (vb true))] [] (zE (uX true gJ) <| zM <| zZ) ?_
 refine qL ?_
 refine kf [] [(0, some [(jN n), (jN 1), (vi (-1)), (.own 13 95 10 ((List.map jP (L ++ [(jk (qX ((L.getD a jz).v) ((L.getD b jz).v)) (fun i => (qX (((L.getD a jz).g).getD i z2) (((L.getD b jz).g).getD i z2))) n)])).length)), (vb false)]), (13, some (qD jC (List.map jP (L ++ [(jk (qX ((L.getD a jz).v) ((L.getD b jz).v)) (fun i => (qX (((L.getD a jz).g).getD i z2) (((L.getD b jz).g).getD i z2))) n)])))), (1, none), (10, none), (11, none), (12, none), (2, none), (6, none), (7, none), (8, none), (9, none)] (zM <| zS (B2 := [(0, some [(jN n), (jN 1), (vi (-1)), (.own 1 95 10 ((List.map jP L).length)), (vb false)]), (1, some (qD jC (List.map jP L))), (2, some [(.refx 0 0 b0)]), (6, some (bx (jC (jP (L.getD a jz))))), (7, some (bx (jC (jP (L.getD b jz)))))]) (B2' := [(0, some [(jN n), (jN 1), (vi (-1)), (.own 13 95 10 ((List.map jP (L ++ [(jk (qX ((L.getD a jz).v) ((L.getD b jz).v)) (fun i => (qX (((L.getD a jz).g).getD i z2) (((L.getD b jz).g).getD i z2))) n)])).length)), (vb false)]), (13, some (qD jC (List.map jP (L ++ [(jk (qX ((L.getD a jz).v) ((L.getD b jz).v)) (fun i => (qX (((L.getD a jz).g).getD i z2) (((L.getD b jz).g).getD i z2))) n)])))), (2, some [(.refx 0 0 b0)])]) (M := 1000000) [0, 1, 2, 6, 7, 8, 9, 10, 11, 12, 13] [2, 6, 7, 0] (e_linA n L b0 (L.getD a jz) hu (L.getD b jz) hv hn hL) (.cons (by exact rfl) (by kernel_rfl) (.cons (by exact rfl) (qH _ _) (.cons (by exact rfl) (by kernel_rfl) (.cons (by exact rfl) (qH _ _) (.cons (by exact rfl) (qH _ _) .nil))))) (.cons (by exact rfl) (by kernel_rfl) (.cons (by exact rfl) (qH _ _) (.cons (by exact rfl) (by kernel_rfl) .nil))) (by repeat first | exact .nil | refine .hid rfl ?_ | refine .map rfl ?_ | refine .dat rfl ?_ | refine .none rfl ?_ | refine .cells rfl rfl ?_) (G := [0]) (hG := by exact (.cons (k := 0) (q := 2) (o := 0) (b := b0) (j := 0) (by kernel_rfl) (by kernel_rfl) (by kernel_rfl) .nil)) (ex := [.ref 2 0, .ref 6 0, .ref 7 0]) (hy := .clo (kk := [2, 6, 7]) (by kernel_rfl) (by kernel_rfl)) <| zF) ?_
 refine ⟨vZ (by kernel_rfl), zY (by kernel_rfl), .inl ⟨_, .nil, ?_⟩⟩
 rfl
theorem e_stepS (a : Nat) (b : Nat) (bv : List kD) (n : Nat) (L : List JV) (hn : n ≤ 64) (hL : L.length ≤ 1000) (hLk : ∀ x ∈ L, mG 1048576 n x) (ha : a < L.length) (hb : b < L.length) : xQ Tryz.prog 126 [(.ref 0 0), (.d (qP (vB.mk 3 ((a : Nat) : Int) ((b : Nat) : Int) (jJ.mk (jE.mk false []) (jE.mk false []))))), (vl 61 8 jG bv)] [(0, some [(jN n), (jN 1), (vi (-1)), (.own 1 95 10 ((List.map jP L).length)), (vb false)]), (1, some (qD jC (List.map jP L)))] (.d (.tup [])) [(0, some [(jN n), (jN 1), (vi (-1)), (.own 13 95 10 ((List.map jP (L ++ [(jk (kW ((L.getD a jz).v) ((L.getD b jz).v)) (fun i => (kW (((L.getD a jz).g).getD i z2) (((L.getD b jz).g).getD i z2))) n)])).length)), (vb false)]), (13, some (qD jC (List.map jP (L ++ [(jk (kW ((L.getD a jz).v) ((L.getD b jz).v)) (fun i => (kW (((L.getD a jz).g).getD i z2) (((L.getD b jz).g).getD i z2))) n)]))))] := by
 have hu : mG 1048576 n (L.getD a jz) := fC hLk ha
 have hv : mG 1048576 n (L.getD b jz) := fC hLk hb
 let y2 := (qP (vB.mk 3 ((a : Nat) : Int) ((b : Nat) : Int) (jJ.mk (jE.mk false []) (jE.mk false []))))
 let y1 := (kD.mk (jJ.mk (jE.mk false []) (jE.mk false [])) (jJ.mk (jE.mk false []) (jE.mk false [])))
 refine vP Tryz.func126 rfl cb126 rfl ?_
 show qJ _ _ _ _ ⟨[(0, (.ref 0 0)), (1, (.d y2)), (2, (vl 61 8 jG bv))], [(0, some [(jN n), (jN 1), (vi (-1)), (.own 1 95 10 ((List.map jP L).length)), (vb false)]), (1, some (qD jC (List.map jP L)))]⟩
 refine jB <| kx [(3, (.ref 2 0)), (4, (.ref 3 0)), (5, (.ref 4 0))] [(2, some [(.ref 0 0)]), (3, some (bx y2)), (4, some (bx (.sl 61 8 (List.map jG bv))))] (zH (oBy 2) <| zH (uZ 3) <| zH (uZ 4) <| zZ) ?_
 refine jB <| pwp_fix 2 (k := 0) (o := 0) (h := fun b0 => ?_)
 refine kA (wk (l := [(0, (.ref 0 0)), (3, (.ref 2 0)), (4, (.ref 3 0)), (5, (.ref 4 0))]) (b := [(0, some [(jN n), (jN 1), (vi (-1)), (.own 1 95 10 ((List.map jP L).length)), (vb false)]), (1, some (qD jC (List.map jP L))), (2, some [(.refx 0 0 b0)]), (3, some (bx y2)), (4, some (bx (.sl 61 8 (List.map jG bv))))])) ?_
 refine kx [(6, (.ref 5 0))] [(5, some (bx (jG (kF (gw 0)))))] (zE (kG (dA ((0 : Nat) : Int) (by omega) (by omega))) <| zH (qS 5 uI uP) <| zT (qF kS) <| zZ) ?_
 refine jB <| kx [(7, (.clo 181 [5]))] [] (zE (fP [5]) <| zM <| zZ) ?_
 refine jB <| kx [(8, (.ref 6 0)), (9, (.ref 7 0))] [(6, some (bx (jC (uV.mk y1 [] [])))), (7, some (bx (jC (uV.mk y1 [] []))))] (zH (qS 6 zG nI) <| zH (qS 7 zG nI) <| zZ) ?_
 refine jB <| kx [(10, (jN 2))] [] (zE (qC xS) <| zR (uC dC) <| zE (oQd (.val (.int .i64 ((cH 3)))) (.val (.int .i64 (((2 : Nat) : Int)))) (kG (aO 3)) (by exact rfl)) <| zM <| zZ) ?_
 refine jB <| jB <| kx [(19, (vb true))] [] (zM <| zE (uX true yN) <| zZ) ?_
 refine qL ?_
 refine kd [] [(6, some (bx (jC (jP (L.getD a jz)))))] mo (wR (oLx mM) <| wE dD <| wE (qC vK) <| wR (uC yX) <| wE (qC hH) <| wR (uC nF) <| wE (oXO yZ a (hj := by first | omega | rfl | (simp only [List.length_map]; omega) | (dsimp only; omega)) (h1 := by first | omega | rfl | (simp only [List.length_map]; omega) | (dsimp only; omega))) <| wR (oQr (jC ((List.map jP L).getD a (uV.mk y1 [] []))) (jC (jP (L.getD a jz))) (oLA gA a (uV.mk y1 [] []) (h1 := by first | omega | rfl | (simp only [List.length_map]; omega) | (dsimp only; omega))) (by exact (congrArg jC (hP jP L jz _ (by omega))))) <| wT (qF gA) <| wZ) ?_
 refine jB <| jB <| kx [(29, (vb true))] [] (zM <| zE (uX true yN) <| zZ) ?_
 refine qL ?_
 refine kd [] [(7, some (bx (jC (jP (L.getD b jz)))))] mo (wR (oLx mM) <| wE dD <| wE (qC vK) <| wR (uC yX) <| wE (qC eZ) <| wR (uC nF) <| wE (oXO yZ b (hj := by first | omega | rfl | (simp only [List.length_map]; omega) | (dsimp only; omega)) (h1 := by first | omega | rfl | (simp only [List.length_map]; omega) | (dsimp only; omega))) <| wR (oQr (jC ((List.map jP L).getD b (uV.mk y1 [] []))) (jC (jP (L.getD b jz))) (oLA gA b (uV.mk y1 [] []) (h1 := by first | omega | rfl | (simp only [List.length_map]; omega) | (dsimp only; omega))) (by exact (congrArg jC (hP jP L jz _ (by omega))))) <| wT (qF gA) <| wZ) ?_
 refine jB <| kx [(11, (.clo 183 [2, 6, 7]))] [] (zE (fP [2, 6, 7]) <| zM <| zZ) ?_
 refine jB <| kx [(40, (vi 3))] [] (zE (qC xS) <| zR (uC dC) <| zZ) ?_
 refine jI <| jB <| kx [(46, (vb false))] [] (zE (uX false gJ) <| zM <| zZ) ?_
 refine kO ?_
 refine jB <| kx [(53, (vb false))] [] (zE (uX false gJ) <| zM <| zZ) ?_
 refine kO ?_
 refine jB <| kx [(60, (vb false))] [] (zE (uX false gJ) <| zM <| zZ) ?_
 refine kO ?_
 refine jB <| kx [(64, (vb true))] [] (zE (uX true gJ) <| zM <| zZ) ?_
 refine qL ?_
 refine kA (wk (l := [(0, (.ref 0 0)), (3, (.ref 2 0)), (6, (.ref 5 0)), (8, (.ref 6 0)), (9, (.ref 7 0)), (11, (.clo 183 [2, 6, 7])), (40, (vi 3)), (64, (vb true))]) (b := [(0, some [(jN n), (jN 1), (vi (-1)), (.own 1 95 10 ((List.map jP L).length)), (vb false)]), (1, some (qD jC (List.map jP L))), (2, some [(.refx 0 0 b0)]), (5, some (bx (jG (kF (gw 0))))), (6, some (bx (jC (jP (L.getD a jz))))), (7, some (bx (jC (jP (L.getD b jz)))))])) ?_
 refine kf [] [(0, some [(jN n), (jN 1), (vi (-1)), (.own 13 95 10 ((List.map jP (L ++ [(jk (kW ((L.getD a jz).v) ((L.getD b jz).v)) (fun i => (kW (((L.getD a jz).g).getD i z2) (((L.getD b jz).g).getD i z2))) n)])).length)), (vb false)]), (13, some (qD jC (List.map jP (L ++ [(jk (kW ((L.getD a jz).v) ((L.getD b jz).v)) (fun i => (kW (((L.getD a jz).g).getD i z2) (((L.getD b jz).g).getD i z2))) n)])))), (1, none), (10, none), (11, none), (12, none), (2, none), (6, none), (7, none), (8, none), (9, none)] (zM <| zS (B2 := [(0, some [(jN n), (jN 1), (vi (-1)), (.own 1 95 10 ((List.map jP L).length)), (vb false)]), (1, some (qD jC (List.map jP L))), (2, some [(.refx 0 0 b0)]), (6, some (bx (jC (jP (L.getD a jz))))), (7, some (bx (jC (jP (L.getD b jz)))))]) (B2' := [(0, some [(jN n), (jN 1), (vi (-1)), (.own 13 95 10 ((List.map jP (L ++ [(jk (kW ((L.getD a jz).v) ((L.getD b jz).v)) (fun i => (kW (((L.getD a jz).g).getD i z2) (((L.getD b jz).g).getD i z2))) n)])).length)), (vb false)]), (13, some (qD jC (List.map jP (L ++ [(jk (kW ((L.getD a jz).v) ((L.getD b jz).v)) (fun i => (kW (((L.getD a jz).g).getD i z2) (((L.getD b jz).g).getD i z2))) n)])))), (2, some [(.refx 0 0 b0)])]) (M := 1000000) [0, 1, 2, 6, 7, 8, 9, 10, 11, 12, 13] [2, 6, 7, 0] (e_linS n L b0 (L.getD a jz) hu (L.getD b jz) hv hn hL) (.cons (by exact rfl) (by kernel_rfl) (.cons (by exact rfl) (qH _ _) (.cons (by exact rfl) (by kernel_rfl) (.cons (by exact rfl) (qH _ _) (.cons (by exact rfl) (qH _ _) .nil))))) (.cons (by exact rfl) (by kernel_rfl) (.cons (by exact rfl) (qH _ _) (.cons (by exact rfl) (by kernel_rfl) .nil))) (by repeat first | exact .nil | refine .hid rfl ?_ | refine .map rfl ?_ | refine .dat rfl ?_ | refine .none rfl ?_ | refine .cells rfl rfl ?_) (G := [0]) (hG := by exact (.cons (k := 0) (q := 2) (o := 0) (b := b0) (j := 0) (by kernel_rfl) (by kernel_rfl) (by kernel_rfl) .nil)) (ex := [.ref 2 0, .ref 6 0, .ref 7 0]) (hy := .clo (kk := [2, 6, 7]) (by kernel_rfl) (by kernel_rfl)) <| zF) ?_
 refine ⟨vZ (by kernel_rfl), zY (by kernel_rfl), .inl ⟨_, .nil, ?_⟩⟩
 rfl
theorem e_stepM (a : Nat) (b : Nat) (bv : List kD) (n : Nat) (L : List JV) (hn : n ≤ 64) (hL : L.length ≤ 1000) (hLk : ∀ x ∈ L, mG 1048576 n x) (ha : a < L.length) (hb : b < L.length) : xQ Tryz.prog 126 [(.ref 0 0), (.d (qP (vB.mk 4 ((a : Nat) : Int) ((b : Nat) : Int) (jJ.mk (jE.mk false []) (jE.mk false []))))), (vl 61 8 jG bv)] [(0, some [(jN n), (jN 1), (vi (-1)), (.own 1 95 10 ((List.map jP L).length)), (vb false)]), (1, some (qD jC (List.map jP L)))] (.d (.tup [])) [(0, some [(jN n), (jN 1), (vi (-1)), (.own 12 95 10 ((List.map jP (L ++ [(jk (kZ ((L.getD a jz).v) ((L.getD b jz).v)) (fun i => (qX (kZ ((L.getD a jz).v) (((L.getD b jz).g).getD i z2)) (kZ ((L.getD b jz).v) (((L.getD a jz).g).getD i z2)))) n)])).length)), (vb false)]), (12, some (qD jC (List.map jP (L ++ [(jk (kZ ((L.getD a jz).v) ((L.getD b jz).v)) (fun i => (qX (kZ ((L.getD a jz).v) (((L.getD b jz).g).getD i z2)) (kZ ((L.getD b jz).v) (((L.getD a jz).g).getD i z2)))) n)]))))] := by
 have hu : mG 1048576 n (L.getD a jz) := fC hLk ha
 have hv : mG 1048576 n (L.getD b jz) := fC hLk hb
 let y1 := (kD.mk (jJ.mk (jE.mk false []) (jE.mk false [])) (jJ.mk (jE.mk false []) (jE.mk false [])))
 refine vP Tryz.func126 rfl cb126 rfl ?_
 show qJ _ _ _ _ ⟨[(0, (.ref 0 0)), (1, (.d (qP (vB.mk 4 ((a : Nat) : Int) ((b : Nat) : Int) (jJ.mk (jE.mk false []) (jE.mk false [])))))), (2, (vl 61 8 jG bv))], [(0, some [(jN n), (jN 1), (vi (-1)), (.own 1 95 10 ((List.map jP L).length)), (vb false)]), (1, some (qD jC (List.map jP L)))]⟩
 refine jB <| kx [(3, (.ref 2 0)), (4, (.ref 3 0)), (5, (.ref 4 0))] [(2, some [(.ref 0 0)]), (3, some (bx (qP (vB.mk 4 ((a : Nat) : Int) ((b : Nat) : Int) (jJ.mk (jE.mk false []) (jE.mk false [])))))), (4, some (bx (.sl 61 8 (List.map jG bv))))] (zH (oBy 2) <| zH (uZ 3) <| zH (uZ 4) <| zZ) ?_
 refine jB <| kx [(6, (.ref 5 0))] [(5, some (bx (jG (kF (gw 0)))))] (zE (kG (dA ((0 : Nat) : Int) (by omega) (by omega))) <| zH (qS 5 uI uP) <| zT (qF kS) <| zZ) ?_
 refine jB <| kx [(7, (.clo 181 [5]))] [] (zE (fP [5]) <| zM <| zZ) ?_
 refine jB <| kx [(8, (.ref 6 0)), (9, (.ref 7 0))] [(6, some (bx (jC (uV.mk y1 [] [])))), (7, some (bx (jC (uV.mk y1 [] []))))] (zH (qS 6 zG nI) <| zH (qS 7 zG nI) <| zZ) ?_
 refine jB <| kx [(10, (jN 2))] [] (zE (qC xS) <| zR (uC dC) <| zE (oQd (.val (.int .i64 ((cH 4)))) (.val (.int .i64 (((2 : Nat) : Int)))) (kG (aO 4)) (by exact rfl)) <| zM <| zZ) ?_
 refine jB <| jB <| kx [(19, (vb true))] [] (zM <| zE (uX true yN) <| zZ) ?_
 refine qL ?_
 refine kd [] [(6, some (bx (jC (jP (L.getD a jz)))))] mo (wR (uC mM) <| wE dD <| wE (qC vK) <| wR (uC yX) <| wE (qC hH) <| wR (uC nF) <| wE (oXO yZ a (hj := by first | omega | rfl | (simp only [List.length_map]; omega) | (dsimp only; omega)) (h1 := by first | omega | rfl | (simp only [List.length_map]; omega) | (dsimp only; omega))) <| wR (oQr (jC ((List.map jP L).getD a (uV.mk y1 [] []))) (jC (jP (L.getD a jz))) (oLA gA a (uV.mk y1 [] []) (h1 := by first | omega | rfl | (simp only [List.length_map]; omega) | (dsimp only; omega))) (by exact (congrArg jC (hP jP L jz _ (by omega))))) <| wT (qF gA) <| wZ) ?_
 refine jB <| jB <| kx [(29, (vb true))] [] (zM <| zE (uX true yN) <| zZ) ?_
 refine qL ?_
 refine kd [] [(7, some (bx (jC (jP (L.getD b jz)))))] mo (wR (uC mM) <| wE dD <| wE (qC vK) <| wR (uC yX) <| wE (qC eZ) <| wR (uC nF) <| wE (oXO yZ b (hj := by first | omega | rfl | (simp only [List.length_map]; omega) | (dsimp only; omega)) (h1 := by first | omega | rfl | (simp only [List.length_map]; omega) | (dsimp only; omega))) <| wR (oQr (jC ((List.map jP L).getD b (uV.mk y1 [] []))) (jC (jP (L.getD b jz))) (oLA gA b (uV.mk y1 [] []) (h1 := by first | omega | rfl | (simp only [List.length_map]; omega) | (dsimp only; omega))) (by exact (congrArg jC (hP jP L jz _ (by omega))))) <| wT (qF gA) <| wZ) ?_
 refine jB <| kx [(11, (.clo 183 [2, 6, 7]))] [] (zE (fP [2, 6, 7]) <| zM <| zZ) ?_
 refine jB <| kx [(40, (vi 4))] [] (zE (qC xS) <| zR (uC dC) <| zZ) ?_
 refine jI <| jB <| kx [(46, (vb false))] [] (zE (uX false gJ) <| zM <| zZ) ?_
 refine kO ?_
 refine jB <| kx [(53, (vb false))] [] (zE (uX false gJ) <| zM <| zZ) ?_
 refine kO ?_
 refine jB <| kx [(60, (vb false))] [] (zE (uX false gJ) <| zM <| zZ) ?_
 refine kO ?_
 refine jB <| kA (wk (l := [(0, (.ref 0 0)), (3, (.ref 2 0)), (6, (.ref 5 0)), (8, (.ref 6 0)), (9, (.ref 7 0)), (11, (.clo 183 [2, 6, 7])), (40, (vi 4)), (60, (vb false))]) (b := [(0, some [(jN n), (jN 1), (vi (-1)), (.own 1 95 10 ((List.map jP L).length)), (vb false)]), (1, some (qD jC (List.map jP L))), (2, some [(.ref 0 0)]), (5, some (bx (jG (kF (gw 0))))), (6, some (bx (jC (jP (L.getD a jz))))), (7, some (bx (jC (jP (L.getD b jz)))))])) ?_
 refine kx [(64, (vb false))] [] (zE (uX false gJ) <| zM <| zZ) ?_
 refine kO ?_
 refine jB <| kx [(68, (vb false))] [] (zE (uX false gJ) <| zM <| zZ) ?_
 refine kO ?_
 refine jB <| kx [(74, (vb true))] [] (zE (uX true gJ) <| zM <| zZ) ?_
 refine qL ?_
 refine kf [] [(0, some [(jN n), (jN 1), (vi (-1)), (.own 12 95 10 ((List.map jP (L ++ [(jk (kZ ((L.getD a jz).v) ((L.getD b jz).v)) (fun i => (qX (kZ ((L.getD a jz).v) (((L.getD b jz).g).getD i z2)) (kZ ((L.getD b jz).v) (((L.getD a jz).g).getD i z2)))) n)])).length)), (vb false)]), (12, some (qD jC (List.map jP (L ++ [(jk (kZ ((L.getD a jz).v) ((L.getD b jz).v)) (fun i => (qX (kZ ((L.getD a jz).v) (((L.getD b jz).g).getD i z2)) (kZ ((L.getD b jz).v) (((L.getD a jz).g).getD i z2)))) n)])))), (1, none), (10, none), (11, none), (6, none), (7, none), (8, none), (9, none)] (zR (uC mM) <| zE (fP [6, 7]) <| zE (fP [6, 7]) <| zE (fP [6, 7]) <| zS (B2 := [(0, some [(jN n), (jN 1), (vi (-1)), (.own 1 95 10 ((List.map jP L).length)), (vb false)]), (1, some (qD jC (List.map jP L))), (6, some (bx (jC (jP (L.getD a jz))))), (7, some (bx (jC (jP (L.getD b jz)))))]) (B2' := [(0, some [(jN n), (jN 1), (vi (-1)), (.own 12 95 10 ((List.map jP (L ++ [(jk (kZ ((L.getD a jz).v) ((L.getD b jz).v)) (fun i => (qX (kZ ((L.getD a jz).v) (((L.getD b jz).g).getD i z2)) (kZ ((L.getD b jz).v) (((L.getD a jz).g).getD i z2)))) n)])).length)), (vb false)]), (12, some (qD jC (List.map jP (L ++ [(jk (kZ ((L.getD a jz).v) ((L.getD b jz).v)) (fun i => (qX (kZ ((L.getD a jz).v) (((L.getD b jz).g).getD i z2)) (kZ ((L.getD b jz).v) (((L.getD a jz).g).getD i z2)))) n)]))))]) (M := 1000000) [0, 1, 6, 7, 8, 9, 10, 11, 12] [0, 6, 7] (e_nodeM n L (L.getD a jz) hu (L.getD b jz) hv hn hL) (.cons (by exact rfl) (by kernel_rfl) (.cons (by exact rfl) (qH _ _) (.cons (by exact rfl) (qH _ _) (.cons (by exact rfl) (qH _ _) .nil)))) (.cons (by exact rfl) (by kernel_rfl) (.cons (by exact rfl) (qH _ _) .nil)) (by repeat first | exact .nil | refine .hid rfl ?_ | refine .map rfl ?_ | refine .dat rfl ?_ | refine .none rfl ?_ | refine .cells rfl rfl ?_) <| zF) ?_
 refine ⟨vZ (by kernel_rfl), zY (by kernel_rfl), .inl ⟨_, .nil, ?_⟩⟩
 rfl
theorem e_stepN (a : Nat) (bv : List kD) (n : Nat) (L : List JV) (hn : n ≤ 64) (hL : L.length ≤ 1000) (hLk : ∀ x ∈ L, mG 1048576 n x) (ha : a < L.length) : xQ Tryz.prog 126 [(.ref 0 0), (.d (qP (vB.mk 6 ((a : Nat) : Int) 0 (jJ.mk (jE.mk false []) (jE.mk false []))))), (vl 61 8 jG bv)] [(0, some [(jN n), (jN 1), (vi (-1)), (.own 1 95 10 ((List.map jP L).length)), (vb false)]), (1, some (qD jC (List.map jP L)))] (.d (.tup [])) [(0, some [(jN n), (jN 1), (vi (-1)), (.own 17 95 10 ((List.map jP (L ++ [(jk (kW (gw 0) ((L.getD a jz).v)) (fun i => (kW (gw 0) (((L.getD a jz).g).getD i z2))) n)])).length)), (vb false)]), (17, some (qD jC (List.map jP (L ++ [(jk (kW (gw 0) ((L.getD a jz).v)) (fun i => (kW (gw 0) (((L.getD a jz).g).getD i z2))) n)]))))] := by
 have hu : mG 1048576 n (L.getD a jz) := fC hLk ha
 let y3 := (qP (vB.mk 6 ((a : Nat) : Int) 0 (jJ.mk (jE.mk false []) (jE.mk false []))))
 let y2 := (kD.mk (jJ.mk (jE.mk false []) (jE.mk false [])) (jJ.mk (jE.mk false []) (jE.mk false [])))
 let y1 := (bx (jC (uV.mk y2 [] [])))
 refine vP Tryz.func126 rfl cb126 rfl ?_
 show qJ _ _ _ _ ⟨[(0, (.ref 0 0)), (1, (.d y3)), (2, (vl 61 8 jG bv))], [(0, some [(jN n), (jN 1), (vi (-1)), (.own 1 95 10 ((List.map jP L).length)), (vb false)]), (1, some (qD jC (List.map jP L)))]⟩
 refine jB <| kx [(3, (.ref 2 0)), (4, (.ref 3 0)), (5, (.ref 4 0))] [(2, some [(.ref 0 0)]), (3, some (bx y3)), (4, some (bx (.sl 61 8 (List.map jG bv))))] (zH (oBy 2) <| zH (uZ 3) <| zH (uZ 4) <| zZ) ?_
 refine jB <| pwp_fix 2 (k := 0) (o := 0) (h := fun b0 => ?_)
 refine kA (wk (l := [(0, (.ref 0 0)), (3, (.ref 2 0)), (4, (.ref 3 0)), (5, (.ref 4 0))]) (b := [(0, some [(jN n), (jN 1), (vi (-1)), (.own 1 95 10 ((List.map jP L).length)), (vb false)]), (1, some (qD jC (List.map jP L))), (2, some [(.refx 0 0 b0)]), (3, some (bx y3)), (4, some (bx (.sl 61 8 (List.map jG bv))))])) ?_
 refine kx [(6, (.ref 5 0))] [(5, some (bx (jG (kF (gw 0)))))] (zE (kG (dA ((0 : Nat) : Int) (by omega) (by omega))) <| zH (qS 5 uI uP) <| zT (qF kS) <| zZ) ?_
 refine jB <| kx [(7, (.clo 181 [5]))] [] (zE (fP [5]) <| zM <| zZ) ?_
 refine jB <| kx [(8, (.ref 6 0)), (9, (.ref 7 0))] [(6, some y1), (7, some y1)] (zH (qS 6 zG nI) <| zH (qS 7 zG nI) <| zZ) ?_
 refine jB <| kx [(10, (jN 1))] [] (zE (qC xS) <| zR (uC dC) <| zE (oQd (.val (.int .i64 ((cH 6)))) (.val (.int .i64 (((1 : Nat) : Int)))) (kG (aO 6)) (by exact rfl)) <| zM <| zZ) ?_
 refine jB <| jB <| kx [(19, (vb true))] [] (zM <| zE (uX true yN) <| zZ) ?_
 refine qL ?_
 refine kd [] [(6, some (bx (jC (jP (L.getD a jz)))))] mo (wR (oLx mM) <| wE dD <| wE (qC vK) <| wR (uC yX) <| wE (qC hH) <| wR (uC nF) <| wE (oXO yZ a (hj := by first | omega | rfl | (simp only [List.length_map]; omega) | (dsimp only; omega)) (h1 := by first | omega | rfl | (simp only [List.length_map]; omega) | (dsimp only; omega))) <| wR (oQr (jC ((List.map jP L).getD a (uV.mk y2 [] []))) (jC (jP (L.getD a jz))) (oLA gA a (uV.mk y2 [] []) (h1 := by first | omega | rfl | (simp only [List.length_map]; omega) | (dsimp only; omega))) (by exact (congrArg jC (hP jP L jz _ (by omega))))) <| wT (qF gA) <| wZ) ?_
 refine jB <| jB <| kx [(29, (vb false))] [] (zM <| zE (uX false yN) <| zZ) ?_
 refine kO ?_
 refine jF <| jB <| kx [(11, (.clo 183 [2, 6, 7]))] [] (zE (fP [2, 6, 7]) <| zM <| zZ) ?_
 refine jB <| kx [(40, (vi 6))] [] (zE (qC xS) <| zR (uC dC) <| zZ) ?_
 refine jI <| jB <| kx [(46, (vb false))] [] (zE (uX false gJ) <| zM <| zZ) ?_
 refine kO ?_
 refine jB <| kx [(53, (vb false))] [] (zE (uX false gJ) <| zM <| zZ) ?_
 refine kO ?_
 refine jB <| kx [(60, (vb false))] [] (zE (uX false gJ) <| zM <| zZ) ?_
 refine kO ?_
 refine jB <| kx [(64, (vb false))] [] (zE (uX false gJ) <| zM <| zZ) ?_
 refine kO ?_
 refine jB <| kx [(68, (vb true))] [] (zE (uX true gJ) <| zM <| zZ) ?_
 refine qL ?_
 refine jB <| kA (wk (l := [(0, (.ref 0 0)), (3, (.ref 2 0)), (6, (.ref 5 0)), (8, (.ref 6 0)), (9, (.ref 7 0)), (11, (.clo 183 [2, 6, 7])), (40, (vi 6)), (68, (vb true))]) (b := [(0, some [(jN n), (jN 1), (vi (-1)), (.own 1 95 10 ((List.map jP L).length)), (vb false)]), (1, some (qD jC (List.map jP L))), (2, some [(.refx 0 0 b0)]), (5, some (bx (jG (kF (gw 0))))), (6, some (bx (jC (jP (L.getD a jz))))), (7, some y1)])) ?_
 refine kx [] [(7, some (bx (jC (jP (L.getD a jz)))))] (zR (oQr (jC (jP (L.getD a jz))) (jC (jP (L.getD a jz))) (kK gA) (by exact rfl)) <| zT (qF gA) <| zZ) ?_
 refine kf [(6, .junk)] [(0, some [(jN n), (jN 1), (vi (-1)), (.own 17 95 10 ((List.map jP (L ++ [(jk (kW (gw 0) ((L.getD a jz).v)) (fun i => (kW (gw 0) (((L.getD a jz).g).getD i z2))) n)])).length)), (vb false)]), (17, some (qD jC (List.map jP (L ++ [(jk (kW (gw 0) ((L.getD a jz).v)) (fun i => (kW (gw 0) (((L.getD a jz).g).getD i z2))) n)])))), (1, none), (10, none), (11, none), (12, none), (13, none), (14, none), (15, none), (16, none), (2, none), (5, none), (6, none), (7, none), (8, none), (9, none)] (zM <| zE (fP [5]) <| zS (B2 := [(0, some [(jN n), (jN 1), (vi (-1)), (.own 1 95 10 ((List.map jP L).length)), (vb false)]), (1, some (qD jC (List.map jP L))), (2, some [(.refx 0 0 b0)]), (6, some (bx (jC (jP (L.getD a jz))))), (7, some (bx (jC (jP (L.getD a jz))))), (5, some (bx (jG (kF (gw 0)))))]) (B2' := [(0, some [(jN n), (jN 1), (vi (-1)), (.own 17 95 10 ((List.map jP (L ++ [(jk (kW (gw 0) ((L.getD a jz).v)) (fun i => (kW (gw 0) (((L.getD a jz).g).getD i z2))) n)])).length)), (vb false)]), (17, some (qD jC (List.map jP (L ++ [(jk (kW (gw 0) ((L.getD a jz).v)) (fun i => (kW (gw 0) (((L.getD a jz).g).getD i z2))) n)])))), (2, some [(.refx 0 0 b0)])]) (M := 1000000) [0, 1, 2, 6, 7, 8, 9, 10, 11, 5, 12, 13, 14, 15, 16, 17] [2, 6, 7, 0] (e_linN n L b0 (L.getD a jz) hu (L.getD a jz) hu hn hL) (.cons (by exact rfl) (by kernel_rfl) (.cons (by exact rfl) (qH _ _) (.cons (by exact rfl) (by kernel_rfl) (.cons (by exact rfl) (qH _ _) (.cons (by exact rfl) (qH _ _) (.cons (by exact rfl) (qH _ _) .nil)))))) (.cons (by exact rfl) (by kernel_rfl) (.cons (by exact rfl) (qH _ _) (.cons (by exact rfl) (by kernel_rfl) .nil))) (by repeat first | exact .nil | refine .hid rfl ?_ | refine .map rfl ?_ | refine .dat rfl ?_ | refine .none rfl ?_ | refine .cells rfl rfl ?_) (G := [0]) (hG := by exact (.cons (k := 0) (q := 2) (o := 0) (b := b0) (j := 0) (by kernel_rfl) (by kernel_rfl) (by kernel_rfl) .nil)) (ex := [.ref 2 0, .ref 6 0, .ref 7 0]) (hy := .clo (kk := [2, 6, 7]) (by kernel_rfl) (by kernel_rfl)) <| zF) ?_
 refine ⟨vZ (by kernel_rfl), zY (by kernel_rfl), .inl ⟨_, .nil, ?_⟩⟩
 rfl
theorem e_stepQ (a : Nat) (bv : List kD) (n : Nat) (L : List JV) (hn : n ≤ 64) (hL : L.length ≤ 1000) (hLk : ∀ x ∈ L, mG 1048576 n x) (ha : a < L.length) : xQ Tryz.prog 126 [(.ref 0 0), (.d (qP (vB.mk 7 ((a : Nat) : Int) 0 (jJ.mk (jE.mk false []) (jE.mk false []))))), (vl 61 8 jG bv)] [(0, some [(jN n), (jN 1), (vi (-1)), (.own 1 95 10 ((List.map jP L).length)), (vb false)]), (1, some (qD jC (List.map jP L)))] (.d (.tup [])) [(0, some [(jN n), (jN 1), (vi (-1)), (.own 13 95 10 ((List.map jP (L ++ [(jk (gsq ((L.getD a jz).v)) (fun i => (kZ (gw 2) (kZ ((L.getD a jz).v) (((L.getD a jz).g).getD i z2)))) n)])).length)), (vb false)]), (13, some (qD jC (List.map jP (L ++ [(jk (gsq ((L.getD a jz).v)) (fun i => (kZ (gw 2) (kZ ((L.getD a jz).v) (((L.getD a jz).g).getD i z2)))) n)]))))] := by
 have hu : mG 1048576 n (L.getD a jz) := fC hLk ha
 let y2 := (kD.mk (jJ.mk (jE.mk false []) (jE.mk false [])) (jJ.mk (jE.mk false []) (jE.mk false [])))
 let y1 := (bx (jC (uV.mk y2 [] [])))
 refine vP Tryz.func126 rfl cb126 rfl ?_
 show qJ _ _ _ _ ⟨[(0, (.ref 0 0)), (1, (.d (qP (vB.mk 7 ((a : Nat) : Int) 0 (jJ.mk (jE.mk false []) (jE.mk false [])))))), (2, (vl 61 8 jG bv))], [(0, some [(jN n), (jN 1), (vi (-1)), (.own 1 95 10 ((List.map jP L).length)), (vb false)]), (1, some (qD jC (List.map jP L)))]⟩
 refine jB <| kx [(3, (.ref 2 0)), (4, (.ref 3 0)), (5, (.ref 4 0))] [(2, some [(.ref 0 0)]), (3, some (bx (qP (vB.mk 7 ((a : Nat) : Int) 0 (jJ.mk (jE.mk false []) (jE.mk false [])))))), (4, some (bx (.sl 61 8 (List.map jG bv))))] (zH (oBy 2) <| zH (uZ 3) <| zH (uZ 4) <| zZ) ?_
 refine jB <| kx [(6, (.ref 5 0))] [(5, some (bx (jG (kF (gw 0)))))] (zE (kG (dA ((0 : Nat) : Int) (by omega) (by omega))) <| zH (qS 5 uI uP) <| zT (qF kS) <| zZ) ?_
 refine jB <| kx [(7, (.clo 181 [5]))] [] (zE (fP [5]) <| zM <| zZ) ?_
 refine jB <| kx [(8, (.ref 6 0)), (9, (.ref 7 0))] [(6, some y1), (7, some y1)] (zH (qS 6 zG nI) <| zH (qS 7 zG nI) <| zZ) ?_
 refine jB <| kx [(10, (jN 1))] [] (zE (qC xS) <| zR (uC dC) <| zE (oQd (.val (.int .i64 ((cH 7)))) (.val (.int .i64 (((1 : Nat) : Int)))) (kG (aO 7)) (by exact rfl)) <| zM <| zZ) ?_
 refine jB <| jB <| kx [(19, (vb true))] [] (zM <| zE (uX true yN) <| zZ) ?_
 refine qL ?_
 refine kd [] [(6, some (bx (jC (jP (L.getD a jz)))))] mo (wR (uC mM) <| wE dD <| wE (qC vK) <| wR (uC yX) <| wE (qC hH) <| wR (uC nF) <| wE (oXO yZ a (hj := by first | omega | rfl | (simp only [List.length_map]; omega) | (dsimp only; omega)) (h1 := by first | omega | rfl | (simp only [List.length_map]; omega) | (dsimp only; omega))) <| wR (oQr (jC ((List.map jP L).getD a (uV.mk y2 [] []))) (jC (jP (L.getD a jz))) (oLA gA a (uV.mk y2 [] []) (h1 := by first | omega | rfl | (simp only [List.length_map]; omega) | (dsimp only; omega))) (by exact (congrArg jC (hP jP L jz _ (by omega))))) <| wT (qF gA) <| wZ) ?_
 refine jB <| jB <| kx [(29, (vb false))] [] (zM <| zE (uX false yN) <| zZ) ?_
 refine kO ?_
 refine jF <| jB <| kx [(11, (.clo 183 [2, 6, 7]))] [] (zE (fP [2, 6, 7]) <| zM <| zZ) ?_
 refine jB <| kx [(40, (vi 7))] [] (zE (qC xS) <| zR (uC dC) <| zZ) ?_
 refine jI <| jB <| kx [(46, (vb false))] [] (zE (uX false gJ) <| zM <| zZ) ?_
 refine kO ?_
 refine jB <| kx [(53, (vb false))] [] (zE (uX false gJ) <| zM <| zZ) ?_
 refine kO ?_
 refine jB <| kx [(60, (vb false))] [] (zE (uX false gJ) <| zM <| zZ) ?_
 refine kO ?_
 refine jB <| kx [(64, (vb false))] [] (zE (uX false gJ) <| zM <| zZ) ?_
 refine kO ?_
 refine jB <| kA (wk (l := [(0, (.ref 0 0)), (3, (.ref 2 0)), (6, (.ref 5 0)), (8, (.ref 6 0)), (9, (.ref 7 0)), (11, (.clo 183 [2, 6, 7])), (40, (vi 7)), (64, (vb false))]) (b := [(0, some [(jN n), (jN 1), (vi (-1)), (.own 1 95 10 ((List.map jP L).length)), (vb false)]), (1, some (qD jC (List.map jP L))), (2, some [(.ref 0 0)]), (5, some (bx (jG (kF (gw 0))))), (6, some (bx (jC (jP (L.getD a jz))))), (7, some y1)])) ?_
 refine kx [(68, (vb false))] [] (zE (uX false gJ) <| zM <| zZ) ?_
 refine kO ?_
 refine jB <| kx [(74, (vb false))] [] (zE (uX false gJ) <| zM <| zZ) ?_
 refine kO ?_
 refine jB <| kx [(81, (vb true))] [] (zE (uX true gJ) <| zM <| zZ) ?_
 refine qL ?_
 refine jB <| kx [(12, (.ref 8 0))] [(8, some (bx (jG (kF (gw 2)))))] (zE (kG (dA ((2 : Nat) : Int) (by omega) (by omega))) <| zH (qS 8 uI uP) <| zT (qF kS) <| zZ) ?_
 refine kf [] [(0, some [(jN n), (jN 1), (vi (-1)), (.own 13 95 10 ((List.map jP (L ++ [(jk (gsq ((L.getD a jz).v)) (fun i => (kZ (gw 2) (kZ ((L.getD a jz).v) (((L.getD a jz).g).getD i z2)))) n)])).length)), (vb false)]), (13, some (qD jC (List.map jP (L ++ [(jk (gsq ((L.getD a jz).v)) (fun i => (kZ (gw 2) (kZ ((L.getD a jz).v) (((L.getD a jz).g).getD i z2)))) n)])))), (1, none), (10, none), (11, none), (12, none), (6, none), (8, none), (9, none)] (zR (uC mM) <| zE (fP [6]) <| zE (fP [8, 6]) <| zE (fP [6, 8]) <| zS (B2 := [(0, some [(jN n), (jN 1), (vi (-1)), (.own 1 95 10 ((List.map jP L).length)), (vb false)]), (1, some (qD jC (List.map jP L))), (6, some (bx (jC (jP (L.getD a jz))))), (8, some (bx (jG (kF (gw 2)))))]) (B2' := [(0, some [(jN n), (jN 1), (vi (-1)), (.own 13 95 10 ((List.map jP (L ++ [(jk (gsq ((L.getD a jz).v)) (fun i => (kZ (gw 2) (kZ ((L.getD a jz).v) (((L.getD a jz).g).getD i z2)))) n)])).length)), (vb false)]), (13, some (qD jC (List.map jP (L ++ [(jk (gsq ((L.getD a jz).v)) (fun i => (kZ (gw 2) (kZ ((L.getD a jz).v) (((L.getD a jz).g).getD i z2)))) n)]))))]) (M := 1000000) [0, 1, 6, 8, 9, 10, 11, 12, 13] [0, 6, 8] (e_nodeQ n L (L.getD a jz) hu (gw 2) (gl_w (z := 2) (by omega) (by omega)) hn hL) (.cons (by exact rfl) (by kernel_rfl) (.cons (by exact rfl) (qH _ _) (.cons (by exact rfl) (qH _ _) (.cons (by exact rfl) (qH _ _) .nil)))) (.cons (by exact rfl) (by kernel_rfl) (.cons (by exact rfl) (qH _ _) .nil)) (by repeat first | exact .nil | refine .hid rfl ?_ | refine .map rfl ?_ | refine .dat rfl ?_ | refine .none rfl ?_ | refine .cells rfl rfl ?_) <| zF) ?_
 refine ⟨vZ (by kernel_rfl), zY (by kernel_rfl), .inl ⟨_, .nil, ?_⟩⟩
 rfl
end Go.Proofs.YtnajallgoaiahaaGreatDoor
