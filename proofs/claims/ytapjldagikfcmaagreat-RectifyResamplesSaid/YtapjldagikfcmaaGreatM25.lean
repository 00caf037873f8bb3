/- Part 25 of a proof: rules, plain facts, and functions walked. -/
import Derived.Test.YtapjldagikfcmaaGreatM24
namespace Go.Proofs.YtapjldagikfcmaaGreat
open Go.Fid
set_option maxRecDepth 4000
set_option linter.unusedVariables false
set_option linter.unusedSimpArgs false
theorem ar82 : eP Tryz.prog 82 = some (3, 3, 1) := by kernel_rfl
theorem ar257 : eP Tryz.prog 257 = some (3, 82, 3) := by kernel_rfl
theorem by38 : hP Tryz.prog 38 = some 64 := by kernel_rfl
theorem by62 : hP Tryz.prog 62 = some 24 := by kernel_rfl
theorem cb156 : callB Tryz.prog 156 = true := by kernel_rfl
theorem cb215 : callB Tryz.prog 215 = true := by kernel_rfl
theorem cb262 : callB Tryz.prog 262 = true := by kernel_rfl
theorem gN : zJ Tryz.prog 107 = some (22, 1) := by kernel_rfl
theorem yT : zJ Tryz.prog 185 = some (62, 1) := by kernel_rfl
theorem dK : uJ Tryz.prog 22 = some (false, 1) := by kernel_rfl
theorem sh82 : uJ Tryz.prog 82 = some (true, 3) := by kernel_rfl
theorem sh257 : uJ Tryz.prog 257 = some (true, 9) := by kernel_rfl
theorem ze22 : xL Tryz.prog 22 = some [.slice none 0 0] := by kernel_rfl
theorem bW : xL Tryz.prog 62 = some [.slice none 0 0] := by kernel_rfl
theorem ze82 : xL Tryz.prog 82 = some [.int .i64 0, .int .i64 0, .int .i64 0] := by kernel_rfl
theorem ze257 : xL Tryz.prog 257 = some [.int .i64 0, .int .i64 0, .int .i64 0, .int .i64 0, .int .i64 0, .int .i64 0, .int .i64 0, .int .i64 0, .int .i64 0] := by kernel_rfl
theorem zo22 : cD [.slice none 0 0] [.sl 3 1 []] := by simp [cD, Value.oneCell']
theorem zo62 : cD [.slice none 0 0] [.sl 38 4 []] := by simp [cD, Value.oneCell']
theorem zo82 : cD [.int .i64 0, .int .i64 0, .int .i64 0] [.val (.int .i64 0), .val (.int .i64 0), .val (.int .i64 0)] := by simp [cD, Value.oneCell']
theorem zo257 : cD [.int .i64 0, .int .i64 0, .int .i64 0, .int .i64 0, .int .i64 0, .int .i64 0, .int .i64 0, .int .i64 0, .int .i64 0] [.val (.int .i64 0), .val (.int .i64 0), .val (.int .i64 0), .val (.int .i64 0), .val (.int .i64 0), .val (.int .i64 0), .val (.int .i64 0), .val (.int .i64 0), .val (.int .i64 0)] := by simp [cD, Value.oneCell']
theorem q_of (n : Int) (hnl : -9223372036854775808 ≤ n) (hnh : n ≤ 9223372036854775807) (d : Int) (hdl : -9223372036854775808 ≤ d) (hdh : d ≤ 9223372036854775807) (hd : d ≠ 0) : kH Tryz.prog 156 [(.val (.int .i64 (n))), (.val (.int .i64 (d)))] (.tup [(jP (jD (Rat.divInt n d))), (.val (.int .i64 (0)))]) := by
 refine jM Tryz.func156 rfl cb156 rfl ?_
 show uY _ _ _ _ ⟨[(0, (vi n)), (1, (vi d))], []⟩
 refine jA <| kx [(4, (.ref 0 0))] [(0, some (bx (jP (jZ.mk (jI.mk false []) (jI.mk false [])))))] (zN (uK 0 qZ uF) <| zM <| zZ) ?_
 refine jA <| kx [(5, (vi 0))] [(0, some (bx (jP (jD (Rat.divInt n d)))))] (zM <| zE (kB (t_of n (by omega) (by omega))) <| zM <| zE (kB (t_of d (by omega) (by omega))) <| zE (kB (f_newO (kN n) n (nL (iok_int (z := n) (by omega) (by omega)) (by decide)) (kN d) d (nL (iok_int (z := d) (by omega) (by omega)) (by decide)) hd)) <| zE vA <| zE vA <| zT (qG jR) <| zM <| zZ) ?_
 refine jF ⟨_, (qS (cs := (bx (jP (jD (Rat.divInt n d))))) (d := (jP (jD (Rat.divInt n d)))) rfl rfl jR rfl rfl (.tmp (d := (.val (.int .i64 (0)))) rfl .nil)), ?_⟩
 rfl
theorem qs_of (n : Int) (hnl : -9223372036854775808 ≤ n) (hnh : n ≤ 9223372036854775807) (d : Int) (hdl : -9223372036854775808 ≤ d) (hdh : d ≤ 9223372036854775807) (hd : d ≠ 0) : kH Tryz.prog 70 [(.val (.int .i64 (n))), (.val (.int .i64 (d)))] (.tup [(jP (jD (Rat.divInt n d))), (.val (.int .i64 (0)))]) := by
 refine jM Tryz.func70 rfl cb70 rfl ?_
 show uY _ _ _ _ ⟨[(0, (vi n)), (1, (vi d))], []⟩
 refine jA <| kx [(4, (.ref 0 0))] [(0, some (bx (jP (jZ.mk (jI.mk false []) (jI.mk false [])))))] (zN (uK 0 qZ uF) <| zM <| zZ) ?_
 refine jA <| kx [(5, (vi 0))] [(0, some (bx (jP (jD (Rat.divInt n d)))))] (zM <| zE (kB (g_whole1 n (by omega) (by omega))) <| zM <| zE (kB (g_whole1 d (by omega) (by omega))) <| zE (kB (g_newO (kN n) n (nL (iok_int (z := n) (by omega) (by omega)) (by decide)) (kN d) d (nL (iok_int (z := d) (by omega) (by omega)) (by decide)) hd)) <| zE vA <| zE vA <| zT (qG jR) <| zM <| zZ) ?_
 refine jF ⟨_, (qS (cs := (bx (jP (jD (Rat.divInt n d))))) (d := (jP (jD (Rat.divInt n d)))) rfl rfl jR rfl rfl (.tmp (d := (.val (.int .i64 (0)))) rfl .nil)), ?_⟩
 rfl
theorem q_rmat (a b c d : Int) (ha : -1048576 ≤ a ∧ a ≤ 1048576) (hb : -1048576 ≤ b ∧ b ≤ 1048576) (hc : -1048576 ≤ c ∧ c ≤ 1048576) (hd : -1048576 ≤ d ∧ d ≤ 1048576) (hq : nF a b c d = 0) (hn0 : nq a b c d ≠ 0) : kH Tryz.prog 262 [(uR (jL.mk a b c d))] (.tup [(.sl 62 1 (List.map qH [[(jD (Q00 a b c d)), (jD (Q01 a b c d)), (jD (Q02 a b c d))], [(jD (Q10 a b c d)), (jD (Q11 a b c d)), (jD (Q12 a b c d))], [(jD (Q20 a b c d)), (jD (Q21 a b c d)), (jD (Q22 a b c d))]])), (.val (.int .i64 (0)))]) := by
 have saa := vM ha ha
 have sab := vM ha hb
 have sac := vM ha hc
 have sad := vM ha hd
 have sbb := vM hb hb
 have sbc := vM hb hc
 have sbd := vM hb hd
 have scc := vM hc hc
 have scd := vM hc hd
 have sdd := vM hd hd
 have hnq := gX ha hb hc hd
 let y13 := (jD (Rat.divInt (2 * ((c * d) + (a * b))) (nq a b c d)))
 let y12 := (jD (Rat.divInt (2 * ((b * d) - (a * c))) (nq a b c d)))
 let y11 := (jD (Rat.divInt (2 * ((c * d) - (a * b))) (nq a b c d)))
 let y10 := (jD (Rat.divInt (2 * ((b * c) + (a * d))) (nq a b c d)))
 let y9 := (jD (Rat.divInt (2 * ((b * d) + (a * c))) (nq a b c d)))
 let y8 := (jD (Rat.divInt (2 * ((b * c) - (a * d))) (nq a b c d)))
 let y7 := (jD (Rat.divInt ((((a * a) - (b * b)) - (c * c)) + (d * d)) (nq a b c d)))
 let y6 := (jD (Rat.divInt ((((a * a) - (b * b)) + (c * c)) - (d * d)) (nq a b c d)))
 let y5 := (jD (Rat.divInt ((((a * a) + (b * b)) - (c * c)) - (d * d)) (nq a b c d)))
 let y4 := (encA82 (A3.mk (((2 : Nat) : Int) * ((b * d) - (a * c))) (((2 : Nat) : Int) * ((c * d) + (a * b))) ((((a * a) - (b * b)) - (c * c)) + (d * d))))
 let y3 := (encA82 (A3.mk (((2 : Nat) : Int) * ((b * c) + (a * d))) ((((a * a) - (b * b)) + (c * c)) - (d * d)) (((2 : Nat) : Int) * ((c * d) - (a * b)))))
 let y2 := (encA82 (A3.mk ((((a * a) + (b * b)) - (c * c)) - (d * d)) (((2 : Nat) : Int) * ((b * c) - (a * d))) (((2 : Nat) : Int) * ((b * d) + (a * c)))))
 let y1 := (encA257 (A3.mk (A3.mk ((((a * a) + (b * b)) - (c * c)) - (d * d)) (((2 : Nat) : Int) * ((b * c) - (a * d))) (((2 : Nat) : Int) * ((b * d) + (a * c)))) (A3.mk (((2 : Nat) : Int) * ((b * c) + (a * d))) ((((a * a) - (b * b)) + (c * c)) - (d * d)) (((2 : Nat) : Int) * ((c * d) - (a * b)))) (A3.mk (((2 : Nat) : Int) * ((b * d) - (a * c))) (((2 : Nat) : Int) * ((c * d) + (a * b))) ((((a * a) - (b * b)) - (c * c)) + (d * d)))))
 refine jM Tryz.func262 rfl cb262 rfl ?_
 show uY _ _ _ _ ⟨[(0, (.d (uR (jL.mk a b c d))))], []⟩
 refine jA <| kx [(1, (.ref 0 0))] [(0, some (bx (uR (jL.mk a b c d))))] (zN (vD 0) <| zE (aX 62 1) <| zM <| zZ) ?_
 refine jA <| jA <| kx [(4, (kD (nF a b c d)))] [] (zR (kC yP) <| zE (kB (q_chk a b c d)) <| zM <| zZ) ?_
 refine jA <| kx [(21, (vb false))] [] (zM <| zE (kR false eS (by exact bne_eq_false_iff_eq.2 (by rw [show (nF a b c d) = 0 from hq]; rfl))) <| zZ) ?_
 refine jT ?_
 refine jB <| jA <| kd [(5, (vi a)), (6, (vi b)), (7, (vi c)), (8, (vi d))] [] mo (wE (kE dV) <| wR (qR qP) <| wE (kE dZ) <| wR (qR qP) <| wE (kE dW) <| wR (qR qP) <| wE (kE dT) <| wR (qR qP) <| wM <| wM <| wM <| wM <| wZ) ?_
 refine jA <| kx [(9, (.ref 1 0))] [(1, some (bx y1))] (zM <| zM <| zE (nJ (a * a) (hr := by exact (qO rfl (by simp only [vP]; omega) (by simp only [vS]; omega)))) <| zM <| zM <| zE (nJ (b * b) (hr := by exact (qO rfl (by simp only [vP]; omega) (by simp only [vS]; omega)))) <| zE (zAd ((a * a) + (b * b)) (hr := by exact (qO rfl (by simp only [vP]; omega) (by simp only [vS]; omega)))) <| zM <| zM <| zE (nJ (c * c) (hr := by exact (qO rfl (by simp only [vP]; omega) (by simp only [vS]; omega)))) <| zE (cR (((a * a) + (b * b)) - (c * c)) (hr := by exact (qO rfl (by simp only [vP]; omega) (by simp only [vS]; omega)))) <| zM <| zM <| zE (nJ (d * d) (hr := by exact (qO rfl (by simp only [vP]; omega) (by simp only [vS]; omega)))) <| zE (cR ((((a * a) + (b * b)) - (c * c)) - (d * d)) (hr := by exact (qO rfl (by simp only [vP]; omega) (by simp only [vS]; omega)))) <| zM <| zM <| zE (nJ (b * c) (hr := by exact (qO rfl (by simp only [vP]; omega) (by simp only [vS]; omega)))) <| zM <| zM <| zE (nJ (a * d) (hr := by exact (qO rfl (by simp only [vP]; omega) (by simp only [vS]; omega)))) <| zE (cR ((b * c) - (a * d)) (hr := by exact (qO rfl (by simp only [vP]; omega) (by simp only [vS]; omega)))) <| zE (nJ (((2 : Nat) : Int) * ((b * c) - (a * d))) (hr := by exact (qO rfl (by simp only [vP]; omega) (by simp only [vS]; omega)))) <| zM <| zM <| zE (nJ (b * d) (hr := by exact (qO rfl (by simp only [vP]; omega) (by simp only [vS]; omega)))) <| zM <| zM <| zE (nJ (a * c) (hr := by exact (qO rfl (by simp only [vP]; omega) (by simp only [vS]; omega)))) <| zE (zAd ((b * d) + (a * c)) (hr := by exact (qO rfl (by simp only [vP]; omega) (by simp only [vS]; omega)))) <| zE (nJ (((2 : Nat) : Int) * ((b * d) + (a * c))) (hr := by exact (qO rfl (by simp only [vP]; omega) (by simp only [vS]; omega)))) <| zE (oBf ar82 ze82 zo82) <| zM <| zM <| zE (nJ (b * c) (hr := by exact (qO rfl (by simp only [vP]; omega) (by simp only [vS]; omega)))) <| zM <| zM <| zE (nJ (a * d) (hr := by exact (qO rfl (by simp only [vP]; omega) (by simp only [vS]; omega)))) <| zE (zAd ((b * c) + (a * d)) (hr := by exact (qO rfl (by simp only [vP]; omega) (by simp only [vS]; omega)))) <| zE (nJ (((2 : Nat) : Int) * ((b * c) + (a * d))) (hr := by exact (qO rfl (by simp only [vP]; omega) (by simp only [vS]; omega)))) <| zM <| zM <| zE (nJ (a * a) (hr := by exact (qO rfl (by simp only [vP]; omega) (by simp only [vS]; omega)))) <| zM <| zM <| zE (nJ (b * b) (hr := by exact (qO rfl (by simp only [vP]; omega) (by simp only [vS]; omega)))) <| zE (cR ((a * a) - (b * b)) (hr := by exact (qO rfl (by simp only [vP]; omega) (by simp only [vS]; omega)))) <| zM <| zM <| zE (nJ (c * c) (hr := by exact (qO rfl (by simp only [vP]; omega) (by simp only [vS]; omega)))) <| zE (zAd (((a * a) - (b * b)) + (c * c)) (hr := by exact (qO rfl (by simp only [vP]; omega) (by simp only [vS]; omega)))) <| zM <| zM <| zE (nJ (d * d) (hr := by exact (qO rfl (by simp only [vP]; omega) (by simp only [vS]; omega)))) <| zE (cR ((((a * a) - (b * b)) + (c * c)) - (d * d)) (hr := by exact (qO rfl (by simp only [vP]; omega) (by simp only [vS]; omega)))) <| zM <| zM <| zE (nJ (c * d) (hr := by exact (qO rfl (by simp only [vP]; omega) (by simp only [vS]; omega)))) <| zM <| zM <| zE (nJ (a * b) (hr := by exact (qO rfl (by simp only [vP]; omega) (by simp only [vS]; omega)))) <| zE (cR ((c * d) - (a * b)) (hr := by exact (qO rfl (by simp only [vP]; omega) (by simp only [vS]; omega)))) <| zE (nJ (((2 : Nat) : Int) * ((c * d) - (a * b))) (hr := by exact (qO rfl (by simp only [vP]; omega) (by simp only [vS]; omega)))) <| zE (oBf ar82 ze82 zo82) <| zM <| zM <| zE (nJ (b * d) (hr := by exact (qO rfl (by simp only [vP]; omega) (by simp only [vS]; omega)))) <| zM <| zM <| zE (nJ (a * c) (hr := by exact (qO rfl (by simp only [vP]; omega) (by simp only [vS]; omega)))) <| zE (cR ((b * d) - (a * c)) (hr := by exact (qO rfl (by simp only [vP]; omega) (by simp only [vS]; omega)))) <| zE (nJ (((2 : Nat) : Int) * ((b * d) - (a * c))) (hr := by exact (qO rfl (by simp only [vP]; omega) (by simp only [vS]; omega)))) <| zM <| zM <| zE (nJ (c * d) (hr := by exact (qO rfl (by simp only [vP]; omega) (by simp only [vS]; omega)))) <| zM <| zM <| zE (nJ (a * b) (hr := by exact (qO rfl (by simp only [vP]; omega) (by simp only [vS]; omega)))) <| zE (zAd ((c * d) + (a * b)) (hr := by exact (qO rfl (by simp only [vP]; omega) (by simp only [vS]; omega)))) <| zE (nJ (((2 : Nat) : Int) * ((c * d) + (a * b))) (hr := by exact (qO rfl (by simp only [vP]; omega) (by simp only [vS]; omega)))) <| zM <| zM <| zE (nJ (a * a) (hr := by exact (qO rfl (by simp only [vP]; omega) (by simp only [vS]; omega)))) <| zM <| zM <| zE (nJ (b * b) (hr := by exact (qO rfl (by simp only [vP]; omega) (by simp only [vS]; omega)))) <| zE (cR ((a * a) - (b * b)) (hr := by exact (qO rfl (by simp only [vP]; omega) (by simp only [vS]; omega)))) <| zM <| zM <| zE (nJ (c * c) (hr := by exact (qO rfl (by simp only [vP]; omega) (by simp only [vS]; omega)))) <| zE (cR (((a * a) - (b * b)) - (c * c)) (hr := by exact (qO rfl (by simp only [vP]; omega) (by simp only [vS]; omega)))) <| zM <| zM <| zE (nJ (d * d) (hr := by exact (qO rfl (by simp only [vP]; omega) (by simp only [vS]; omega)))) <| zE (zAd ((((a * a) - (b * b)) - (c * c)) + (d * d)) (hr := by exact (qO rfl (by simp only [vP]; omega) (by simp only [vS]; omega)))) <| zE (oBf ar82 ze82 zo82) <| zE (oBf ar257 ze257 zo257) <| zN (uK 1 ze257 zo257) <| zT (qG sh257) <| zZ) ?_
 refine jA <| kx [(10, (.own 2 62 1 0))] [(2, some (bm qH []))] (zO 2 62 1 <| zZ) ?_
 refine jA <| jA <| kx [(128, (.d y1)), (129, (kD 0))] [] (zR (kC sh257) <| zM <| zZ) ?_
 refine jE <| qF 20 ?_
 refine qU <| jA <| kx [(130, (vb true))] [] (zE (kR true qY) <| zZ) ?_
 refine jA <| jX ?_
 refine jB <| jA <| jE <| jA <| kx [(12, (.ref 3 0))] [(3, some (bx y2))] (zE (oXa ar257 sh82 (fun h => by cases h) 0) <| zH (uK 3 ze82 zo82) <| zT (qG sh82) <| zZ) ?_
 refine jA <| kx [(13, (.own 4 38 4 0))] [(4, some (bI jP []))] (zO 4 38 4 <| zZ) ?_
 refine jA <| jA <| kx [(132, (.d y2)), (133, (kD 0))] [] (zR (kC sh82) <| zM <| zZ) ?_
 refine jE <| qF 20 ?_
 refine qU <| jA <| kx [(134, (vb true))] [] (zE (kR true qY) <| zZ) ?_
 refine jA <| jX ?_
 refine jB <| jA <| jE <| jA <| kx [(15, (vi ((((a * a) + (b * b)) - (c * c)) - (d * d))))] [] (zE (oXa ar82 qP (fun _ => rfl) 0) <| zM <| zZ) ?_
 refine jA ?_
 have bn1 : QL (Rat.divInt ((((a * a) + (b * b)) - (c * c)) - (d * d)) (nq a b c d)) 3 := (uC (n := 3) (jN (by omega) (by omega)) (jN (by omega) (by omega)) (by decide))
 refine kx [(16, (.ref 5 0))] [(5, some (bx (jP y5)))] (zM <| zR (kC yP) <| zE (kB (fF a b c d (by omega) (by omega) (by omega) (by omega))) <| zE (kB (q_of ((((a * a) + (b * b)) - (c * c)) - (d * d)) (by omega) (by omega) (nq a b c d) (by omega) (by omega) hn0)) <| zM <| zE vA <| zE vA <| zH (uK 5 qZ uF) <| zT (qG jR) <| zM <| zZ) ?_
 refine kP (wk (l := [(1, (.ref 0 0)), (10, (.own 2 62 1 0)), (13, (.own 4 38 4 0)), (16, (.ref 5 0)), (128, (.d y1)), (129, (kD 0)), (132, (.d y2)), (133, (kD 0))]) (b := [(0, some (bx (uR (jL.mk a b c d)))), (2, some (bm qH [])), (4, some (bI jP [])), (5, some (bx (jP y5)))])) ?_
 refine kf [(13, (.own 4 38 4 (([] ++ [y5]).length)))] [(4, some (bI jP ([] ++ [y5])))] (zM <| zR (kC jR) <| zE (mC vZ qZ uF) <| zAS jP [] [y5] rfl vZ qZ by38 (hbig := by exact (by simp +zetaDelta [maxLen] <;> omega)) (hbig' := by exact (by simp +zetaDelta <;> omega)) <| zM <| zF) ?_
 refine kx [(133, (kD 1))] [] (zE (uE 1 (hr := by decide)) <| zM <| zZ) ?_
 refine jJ (jW.refl _) ?_
 refine jA <| kx [(134, (vb true))] [] (zE (kR true qY) <| zZ) ?_
 refine jA <| jX ?_
 refine jB <| jA <| jE <| jA <| kx [(15, (vi (((2 : Nat) : Int) * ((b * c) - (a * d)))))] [] (zE (oXa ar82 qP (fun _ => rfl) 1) <| zM <| zZ) ?_
 refine jA ?_
 have bn2 : QL (Rat.divInt (2 * ((b * c) - (a * d))) (nq a b c d)) 3 := (uC (n := 3) (jN (by omega) (by omega)) (jN (by omega) (by omega)) (by decide))
 refine kx [(16, (.ref 6 0))] [(6, some (bx (jP y8)))] (zM <| zR (kC yP) <| zE (kB (fF a b c d (by omega) (by omega) (by omega) (by omega))) <| zE (kB (q_of (((2 : Nat) : Int) * ((b * c) - (a * d))) (by omega) (by omega) (nq a b c d) (by omega) (by omega) hn0)) <| zM <| zE vA <| zE vA <| zH (uK 6 qZ uF) <| zT (qG jR) <| zM <| zZ) ?_
 refine kf [(13, (.own 4 38 4 ((([] ++ [y5]) ++ [y8]).length)))] [(4, some (bI jP (([] ++ [y5]) ++ [y8])))] (zM <| zR (kC jR) <| zE (mC vZ qZ uF) <| zAS jP ([] ++ [y5]) [y8] rfl vZ qZ by38 (hbig := by exact (by simp +zetaDelta [maxLen] <;> omega)) (hbig' := by exact (by simp +zetaDelta <;> omega)) <| zM <| zF) ?_
 refine kx [(133, (kD 2))] [] (zE (uE 2 (hr := by decide)) <| zM <| zZ) ?_
 refine jJ (jW.refl _) ?_
 refine jA <| kx [(134, (vb true))] [] (zE (kR true qY) <| zZ) ?_
 refine jA <| jX ?_
 refine jB <| jA <| jE <| jA <| kx [(15, (vi (((2 : Nat) : Int) * ((b * d) + (a * c)))))] [] (zE (oXa ar82 qP (fun _ => rfl) 2) <| zM <| zZ) ?_
 refine jA ?_
 have bn3 : QL (Rat.divInt (2 * ((b * d) + (a * c))) (nq a b c d)) 3 := (uC (n := 3) (jN (by omega) (by omega)) (jN (by omega) (by omega)) (by decide))
 refine kx [(16, (.ref 7 0))] [(7, some (bx (jP y9)))] (zM <| zR (kC yP) <| zE (kB (fF a b c d (by omega) (by omega) (by omega) (by omega))) <| zE (kB (q_of (((2 : Nat) : Int) * ((b * d) + (a * c))) (by omega) (by omega) (nq a b c d) (by omega) (by omega) hn0)) <| zM <| zE vA <| zE vA <| zH (uK 7 qZ uF) <| zT (qG jR) <| zM <| zZ) ?_
 refine kf [(13, (.own 4 38 4 (((([] ++ [y5]) ++ [y8]) ++ [y9]).length)))] [(4, some (bI jP ((([] ++ [y5]) ++ [y8]) ++ [y9])))] (zM <| zR (kC jR) <| zE (mC vZ qZ uF) <| zAS jP (([] ++ [y5]) ++ [y8]) [y9] rfl vZ qZ by38 (hbig := by exact (by simp +zetaDelta [maxLen] <;> omega)) (hbig' := by exact (by simp +zetaDelta <;> omega)) <| zM <| zF) ?_
 refine kx [(133, (kD 3))] [] (zE (uE 3 (hr := by decide)) <| zM <| zZ) ?_
 refine jJ (jW.refl _) ?_
 refine jA <| kx [(134, (vb false))] [] (zE (kR false qY) <| zZ) ?_
 refine jA <| jT ?_
 refine kJ <| kP (xY (t := 13) (k := 4) (es := List.map jP ((([] ++ [y5]) ++ [y8]) ++ [y9])) rfl rfl (hO _ _ (fun _ => rfl)) (xP _ _ rfl) (fK jP ((([] ++ [y5]) ++ [y8]) ++ [y9]) (fun _ => rfl) rfl)) ?_
 refine kf [(10, (.own 2 62 1 (([] ++ [((([] ++ [y5]) ++ [y8]) ++ [y9])]).length)))] [(2, some (bm qH ([] ++ [((([] ++ [y5]) ++ [y8]) ++ [y9])])))] (zM <| zM <| zE (mC yT bW zo62) <| zA qH [] [((([] ++ [y5]) ++ [y8]) ++ [y9])] rfl yT bW by62 (hbig := by exact (by simp +zetaDelta [maxLen] <;> omega)) (hbig' := by exact (by simp +zetaDelta <;> omega)) <| zM <| zF) ?_
 refine kP (wk (l := [(1, (.ref 0 0)), (10, (.own 2 62 1 (([] ++ [((([] ++ [y5]) ++ [y8]) ++ [y9])]).length))), (128, (.d y1)), (129, (kD 0))]) (b := [(0, some (bx (uR (jL.mk a b c d)))), (2, some (bm qH ([] ++ [((([] ++ [y5]) ++ [y8]) ++ [y9])])))])) ?_
 refine kx [(129, (kD 1))] [] (zE (uE 1 (hr := by decide)) <| zM <| zZ) ?_
 refine jJ (jW.refl _) ?_
 refine jA <| kx [(130, (vb true))] [] (zE (kR true qY) <| zZ) ?_
 refine jA <| jX ?_
 refine jB <| jA <| jE <| jA <| kx [(12, (.ref 8 0))] [(8, some (bx y3))] (zE (oXa ar257 sh82 (fun h => by cases h) 1) <| zH (uK 8 ze82 zo82) <| zT (qG sh82) <| zZ) ?_
 refine jA <| kx [(13, (.own 9 38 4 0))] [(9, some (bI jP []))] (zO 9 38 4 <| zZ) ?_
 refine jA <| jA <| kx [(132, (.d y3)), (133, (kD 0))] [] (zR (kC sh82) <| zM <| zZ) ?_
 refine jE <| qF 20 ?_
 refine qU <| jA <| kx [(134, (vb true))] [] (zE (kR true qY) <| zZ) ?_
 refine jA <| jX ?_
 refine jB <| jA <| jE <| jA <| kx [(15, (vi (((2 : Nat) : Int) * ((b * c) + (a * d)))))] [] (zE (oXa ar82 qP (fun _ => rfl) 0) <| zM <| zZ) ?_
 refine jA ?_
 have bn4 : QL (Rat.divInt (2 * ((b * c) + (a * d))) (nq a b c d)) 3 := (uC (n := 3) (jN (by omega) (by omega)) (jN (by omega) (by omega)) (by decide))
 refine kx [(16, (.ref 10 0))] [(10, some (bx (jP y10)))] (zM <| zR (kC yP) <| zE (kB (fF a b c d (by omega) (by omega) (by omega) (by omega))) <| zE (kB (q_of (((2 : Nat) : Int) * ((b * c) + (a * d))) (by omega) (by omega) (nq a b c d) (by omega) (by omega) hn0)) <| zM <| zE vA <| zE vA <| zH (uK 10 qZ uF) <| zT (qG jR) <| zM <| zZ) ?_
 refine kf [(13, (.own 9 38 4 (([] ++ [y10]).length)))] [(9, some (bI jP ([] ++ [y10])))] (zM <| zR (kC jR) <| zE (mC vZ qZ uF) <| zAS jP [] [y10] rfl vZ qZ by38 (hbig := by exact (by simp +zetaDelta [maxLen] <;> omega)) (hbig' := by exact (by simp +zetaDelta <;> omega)) <| zM <| zF) ?_
 refine kx [(133, (kD 1))] [] (zE (uE 1 (hr := by decide)) <| zM <| zZ) ?_
 refine jJ (jW.refl _) ?_
 refine jA <| kx [(134, (vb true))] [] (zE (kR true qY) <| zZ) ?_
 refine jA <| jX ?_
 refine jB <| jA <| jE <| jA <| kx [(15, (vi ((((a * a) - (b * b)) + (c * c)) - (d * d))))] [] (zE (oXa ar82 qP (fun _ => rfl) 1) <| zM <| zZ) ?_
 refine jA ?_
 have bn5 : QL (Rat.divInt ((((a * a) - (b * b)) + (c * c)) - (d * d)) (nq a b c d)) 3 := (uC (n := 3) (jN (by omega) (by omega)) (jN (by omega) (by omega)) (by decide))
 refine kx [(16, (.ref 11 0))] [(11, some (bx (jP y6)))] (zM <| zR (kC yP) <| zE (kB (fF a b c d (by omega) (by omega) (by omega) (by omega))) <| zE (kB (q_of ((((a * a) - (b * b)) + (c * c)) - (d * d)) (by omega) (by omega) (nq a b c d) (by omega) (by omega) hn0)) <| zM <| zE vA <| zE vA <| zH (uK 11 qZ uF) <| zT (qG jR) <| zM <| zZ) ?_
 refine kf [(13, (.own 9 38 4 ((([] ++ [y10]) ++ [y6]).length)))] [(9, some (bI jP (([] ++ [y10]) ++ [y6])))] (zM <| zR (kC jR) <| zE (mC vZ qZ uF) <| zAS jP ([] ++ [y10]) [y6] rfl vZ qZ by38 (hbig := by exact (by simp +zetaDelta [maxLen] <;> omega)) (hbig' := by exact (by simp +zetaDelta <;> omega)) <| zM <| zF) ?_
 refine kP (wk (l := [(1, (.ref 0 0)), (10, (.own 2 62 1 (([] ++ [((([] ++ [y5]) ++ [y8]) ++ [y9])]).length))), (13, (.own 9 38 4 ((([] ++ [y10]) ++ [y6]).length))), (128, (.d y1)), (129, (kD 1)), (132, (.d y3)), (133, (kD 1))]) (b := [(0, some (bx (uR (jL.mk a b c d)))), (2, some (bm qH ([] ++ [((([] ++ [y5]) ++ [y8]) ++ [y9])]))), (9, some (bI jP (([] ++ [y10]) ++ [y6])))])) ?_
 refine kx [(133, (kD 2))] [] (zE (uE 2 (hr := by decide)) <| zM <| zZ) ?_
 refine jJ (jW.refl _) ?_
 refine jA <| kx [(134, (vb true))] [] (zE (kR true qY) <| zZ) ?_
 refine jA <| jX ?_
 refine jB <| jA <| jE <| jA <| kx [(15, (vi (((2 : Nat) : Int) * ((c * d) - (a * b)))))] [] (zE (oXa ar82 qP (fun _ => rfl) 2) <| zM <| zZ) ?_
 refine jA ?_
 have bn6 : QL (Rat.divInt (2 * ((c * d) - (a * b))) (nq a b c d)) 3 := (uC (n := 3) (jN (by omega) (by omega)) (jN (by omega) (by omega)) (by decide))
 refine kx [(16, (.ref 12 0))] [(12, some (bx (jP y11)))] (zM <| zR (kC yP) <| zE (kB (fF a b c d (by omega) (by omega) (by omega) (by omega))) <| zE (kB (q_of (((2 : Nat) : Int) * ((c * d) - (a * b))) (by omega) (by omega) (nq a b c d) (by omega) (by omega) hn0)) <| zM <| zE vA <| zE vA <| zH (uK 12 qZ uF) <| zT (qG jR) <| zM <| zZ) ?_
 refine kf [(13, (.own 9 38 4 (((([] ++ [y10]) ++ [y6]) ++ [y11]).length)))] [(9, some (bI jP ((([] ++ [y10]) ++ [y6]) ++ [y11])))] (zM <| zR (kC jR) <| zE (mC vZ qZ uF) <| zAS jP (([] ++ [y10]) ++ [y6]) [y11] rfl vZ qZ by38 (hbig := by exact (by simp +zetaDelta [maxLen] <;> omega)) (hbig' := by exact (by simp +zetaDelta <;> omega)) <| zM <| zF) ?_
 refine kx [(133, (kD 3))] [] (zE (uE 3 (hr := by decide)) <| zM <| zZ) ?_
 refine jJ (jW.refl _) ?_
 refine jA <| kx [(134, (vb false))] [] (zE (kR false qY) <| zZ) ?_
 refine jA <| jT ?_
 refine kJ <| kP (xY (t := 13) (k := 9) (es := List.map jP ((([] ++ [y10]) ++ [y6]) ++ [y11])) rfl rfl (hO _ _ (fun _ => rfl)) (xP _ _ rfl) (fK jP ((([] ++ [y10]) ++ [y6]) ++ [y11]) (fun _ => rfl) rfl)) ?_
 refine kf [(10, (.own 2 62 1 ((([] ++ [((([] ++ [y5]) ++ [y8]) ++ [y9])]) ++ [((([] ++ [y10]) ++ [y6]) ++ [y11])]).length)))] [(2, some (bm qH (([] ++ [((([] ++ [y5]) ++ [y8]) ++ [y9])]) ++ [((([] ++ [y10]) ++ [y6]) ++ [y11])])))] (zM <| zM <| zE (mC yT bW zo62) <| zA qH ([] ++ [((([] ++ [y5]) ++ [y8]) ++ [y9])]) [((([] ++ [y10]) ++ [y6]) ++ [y11])] rfl yT bW by62 (hbig := by exact (by simp +zetaDelta [maxLen] <;> omega)) (hbig' := by exact (by simp +zetaDelta <;> omega)) <| zM <| zF) ?_
 refine kx [(129, (kD 2))] [] (zE (uE 2 (hr := by decide)) <| zM <| zZ) ?_
 refine jJ (jW.refl _) ?_
 refine jA <| kx [(130, (vb true))] [] (zE (kR true qY) <| zZ) ?_
 refine jA <| jX ?_
 refine jB <| jA <| jE <| jA <| kx [(12, (.ref 13 0))] [(13, some (bx y4))] (zE (oXa ar257 sh82 (fun h => by cases h) 2) <| zH (uK 13 ze82 zo82) <| zT (qG sh82) <| zZ) ?_
 refine jA <| kx [(13, (.own 14 38 4 0))] [(14, some (bI jP []))] (zO 14 38 4 <| zZ) ?_
 refine jA <| jA <| kx [(132, (.d y4)), (133, (kD 0))] [] (zR (kC sh82) <| zM <| zZ) ?_
 refine jE <| qF 20 ?_
 refine qU <| jA <| kx [(134, (vb true))] [] (zE (kR true qY) <| zZ) ?_
 refine jA <| jX ?_
 refine jB <| jA <| jE <| jA <| kP (wk (l := [(1, (.ref 0 0)), (10, (.own 2 62 1 ((([] ++ [((([] ++ [y5]) ++ [y8]) ++ [y9])]) ++ [((([] ++ [y10]) ++ [y6]) ++ [y11])]).length))), (13, (.own 14 38 4 0)), (128, (.d y1)), (129, (kD 2)), (132, (.d y4)), (133, (kD 0)), (134, (vb true))]) (b := [(0, some (bx (uR (jL.mk a b c d)))), (14, some (bI jP [])), (2, some (bm qH (([] ++ [((([] ++ [y5]) ++ [y8]) ++ [y9])]) ++ [((([] ++ [y10]) ++ [y6]) ++ [y11])])))])) ?_
 refine kx [(15, (vi (((2 : Nat) : Int) * ((b * d) - (a * c)))))] [] (zE (oXa ar82 qP (fun _ => rfl) 0) <| zM <| zZ) ?_
 refine jA ?_
 have bn7 : QL (Rat.divInt (2 * ((b * d) - (a * c))) (nq a b c d)) 3 := (uC (n := 3) (jN (by omega) (by omega)) (jN (by omega) (by omega)) (by decide))
 refine kx [(16, (.ref 15 0))] [(15, some (bx (jP y12)))] (zM <| zR (kC yP) <| zE (kB (fF a b c d (by omega) (by omega) (by omega) (by omega))) <| zE (kB (q_of (((2 : Nat) : Int) * ((b * d) - (a * c))) (by omega) (by omega) (nq a b c d) (by omega) (by omega) hn0)) <| zM <| zE vA <| zE vA <| zH (uK 15 qZ uF) <| zT (qG jR) <| zM <| zZ) ?_
 refine kf [(13, (.own 14 38 4 (([] ++ [y12]).length)))] [(14, some (bI jP ([] ++ [y12])))] (zM <| zR (kC jR) <| zE (mC vZ qZ uF) <| zAS jP [] [y12] rfl vZ qZ by38 (hbig := by exact (by simp +zetaDelta [maxLen] <;> omega)) (hbig' := by exact (by simp +zetaDelta <;> omega)) <| zM <| zF) ?_
 refine kx [(133, (kD 1))] [] (zE (uE 1 (hr := by decide)) <| zM <| zZ) ?_
 refine jJ (jW.refl _) ?_
 refine jA <| kx [(134, (vb true))] [] (zE (kR true qY) <| zZ) ?_
 refine jA <| jX ?_
 refine jB <| jA <| jE <| jA <| kx [(15, (vi (((2 : Nat) : Int) * ((c * d) + (a * b)))))] [] (zE (oXa ar82 qP (fun _ => rfl) 1) <| zM <| zZ) ?_
 refine jA ?_
 have bn8 : QL (Rat.divInt (2 * ((c * d) + (a * b))) (nq a b c d)) 3 := (uC (n := 3) (jN (by omega) (by omega)) (jN (by omega) (by omega)) (by decide))
 refine kx [(16, (.ref 16 0))] [(16, some (bx (jP y13)))] (zM <| zR (kC yP) <| zE (kB (fF a b c d (by omega) (by omega) (by omega) (by omega))) <| zE (kB (q_of (((2 : Nat) : Int) * ((c * d) + (a * b))) (by omega) (by omega) (nq a b c d) (by omega) (by omega) hn0)) <| zM <| zE vA <| zE vA <| zH (uK 16 qZ uF) <| zT (qG jR) <| zM <| zZ) ?_
 refine kf [(13, (.own 14 38 4 ((([] ++ [y12]) ++ [y13]).length)))] [(14, some (bI jP (([] ++ [y12]) ++ [y13])))] (zM <| zR (kC jR) <| zE (mC vZ qZ uF) <| zAS jP ([] ++ [y12]) [y13] rfl vZ qZ by38 (hbig := by exact (by simp +zetaDelta [maxLen] <;> omega)) (hbig' := by exact (by simp +zetaDelta <;> omega)) <| zM <| zF) ?_
 refine kx [(133, (kD 2))] [] (zE (uE 2 (hr := by decide)) <| zM <| zZ) ?_
 refine jJ (jW.refl _) ?_
 refine jA <| kx [(134, (vb true))] [] (zE (kR true qY) <| zZ) ?_
 refine jA <| jX ?_
 refine jB <| jA <| jE <| jA <| kx [(15, (vi ((((a * a) - (b * b)) - (c * c)) + (d * d))))] [] (zE (oXa ar82 qP (fun _ => rfl) 2) <| zM <| zZ) ?_
 refine jA ?_
 have bn9 : QL (Rat.divInt ((((a * a) - (b * b)) - (c * c)) + (d * d)) (nq a b c d)) 3 := (uC (n := 3) (jN (by omega) (by omega)) (jN (by omega) (by omega)) (by decide))
 refine kx [(16, (.ref 17 0))] [(17, some (bx (jP y7)))] (zM <| zR (kC yP) <| zE (kB (fF a b c d (by omega) (by omega) (by omega) (by omega))) <| zE (kB (q_of ((((a * a) - (b * b)) - (c * c)) + (d * d)) (by omega) (by omega) (nq a b c d) (by omega) (by omega) hn0)) <| zM <| zE vA <| zE vA <| zH (uK 17 qZ uF) <| zT (qG jR) <| zM <| zZ) ?_
 refine kf [(13, (.own 14 38 4 (((([] ++ [y12]) ++ [y13]) ++ [y7]).length)))] [(14, some (bI jP ((([] ++ [y12]) ++ [y13]) ++ [y7])))] (zM <| zR (kC jR) <| zE (mC vZ qZ uF) <| zAS jP (([] ++ [y12]) ++ [y13]) [y7] rfl vZ qZ by38 (hbig := by exact (by simp +zetaDelta [maxLen] <;> omega)) (hbig' := by exact (by simp +zetaDelta <;> omega)) <| zM <| zF) ?_
 refine kx [(133, (kD 3))] [] (zE (uE 3 (hr := by decide)) <| zM <| zZ) ?_
 refine jJ (jW.refl _) ?_
 refine jA <| kP (wk (l := [(1, (.ref 0 0)), (10, (.own 2 62 1 ((([] ++ [((([] ++ [y5]) ++ [y8]) ++ [y9])]) ++ [((([] ++ [y10]) ++ [y6]) ++ [y11])]).length))), (13, (.own 14 38 4 (((([] ++ [y12]) ++ [y13]) ++ [y7]).length))), (128, (.d y1)), (129, (kD 2)), (132, (.d y4)), (133, (kD 3))]) (b := [(0, some (bx (uR (jL.mk a b c d)))), (14, some (bI jP ((([] ++ [y12]) ++ [y13]) ++ [y7]))), (2, some (bm qH (([] ++ [((([] ++ [y5]) ++ [y8]) ++ [y9])]) ++ [((([] ++ [y10]) ++ [y6]) ++ [y11])])))])) ?_
 refine kx [(134, (vb false))] [] (zE (kR false qY) <| zZ) ?_
 refine jA <| jT ?_
 refine kJ <| kP (xY (t := 13) (k := 14) (es := List.map jP ((([] ++ [y12]) ++ [y13]) ++ [y7])) rfl rfl (hO _ _ (fun _ => rfl)) (xP _ _ rfl) (fK jP ((([] ++ [y12]) ++ [y13]) ++ [y7]) (fun _ => rfl) rfl)) ?_
 refine kf [(10, (.own 2 62 1 (((([] ++ [((([] ++ [y5]) ++ [y8]) ++ [y9])]) ++ [((([] ++ [y10]) ++ [y6]) ++ [y11])]) ++ [((([] ++ [y12]) ++ [y13]) ++ [y7])]).length)))] [(2, some (bm qH ((([] ++ [((([] ++ [y5]) ++ [y8]) ++ [y9])]) ++ [((([] ++ [y10]) ++ [y6]) ++ [y11])]) ++ [((([] ++ [y12]) ++ [y13]) ++ [y7])])))] (zM <| zM <| zE (mC yT bW zo62) <| zA qH (([] ++ [((([] ++ [y5]) ++ [y8]) ++ [y9])]) ++ [((([] ++ [y10]) ++ [y6]) ++ [y11])]) [((([] ++ [y12]) ++ [y13]) ++ [y7])] rfl yT bW by62 (hbig := by exact (by simp +zetaDelta [maxLen] <;> omega)) (hbig' := by exact (by simp +zetaDelta <;> omega)) <| zM <| zF) ?_
 refine kx [(129, (kD 3))] [] (zE (uE 3 (hr := by decide)) <| zM <| zZ) ?_
 refine jJ (jW.refl _) ?_
 refine jA <| kx [(130, (vb false))] [] (zE (kR false qY) <| zZ) ?_
 refine jA <| jT ?_
 refine kJ <| jA <| kP (xY (t := 10) (k := 2) (es := List.map qH ((([] ++ [((([] ++ [y5]) ++ [y8]) ++ [y9])]) ++ [((([] ++ [y10]) ++ [y6]) ++ [y11])]) ++ [((([] ++ [y12]) ++ [y13]) ++ [y7])])) rfl rfl (vY _ _ (fun _ => rfl)) (xP _ _ rfl) (zB _ _ (fun _ => rfl) rfl)) ?_
 refine kx [(2, (vl 62 1 qH ((([] ++ [((([] ++ [y5]) ++ [y8]) ++ [y9])]) ++ [((([] ++ [y10]) ++ [y6]) ++ [y11])]) ++ [((([] ++ [y12]) ++ [y13]) ++ [y7])]))), (3, (kD 0))] [] (zM <| zM <| zM <| zZ) ?_
 refine jF ⟨_, (.tmp (d := (.sl 62 1 (List.map qH ((([] ++ [((([] ++ [(jD (Rat.divInt ((((a * a) + (b * b)) - (c * c)) - (d * d)) (nq a b c d)))]) ++ [(jD (Rat.divInt (2 * ((b * c) - (a * d))) (nq a b c d)))]) ++ [(jD (Rat.divInt (2 * ((b * d) + (a * c))) (nq a b c d)))])]) ++ [((([] ++ [(jD (Rat.divInt (2 * ((b * c) + (a * d))) (nq a b c d)))]) ++ [(jD (Rat.divInt ((((a * a) - (b * b)) + (c * c)) - (d * d)) (nq a b c d)))]) ++ [(jD (Rat.divInt (2 * ((c * d) - (a * b))) (nq a b c d)))])]) ++ [((([] ++ [(jD (Rat.divInt (2 * ((b * d) - (a * c))) (nq a b c d)))]) ++ [(jD (Rat.divInt (2 * ((c * d) + (a * b))) (nq a b c d)))]) ++ [(jD (Rat.divInt ((((a * a) - (b * b)) - (c * c)) + (d * d)) (nq a b c d)))])])))) rfl (.tmp (d := (.val (.int .i64 (((0 : Nat) : Int))))) rfl .nil)), ?_⟩
 rfl
theorem qs_rmat (a b c d : Int) (ha : -1048576 ≤ a ∧ a ≤ 1048576) (hb : -1048576 ≤ b ∧ b ≤ 1048576) (hc : -1048576 ≤ c ∧ c ≤ 1048576) (hd : -1048576 ≤ d ∧ d ≤ 1048576) (hq : nF a b c d = 0) (hn0 : nq a b c d ≠ 0) : kH Tryz.prog 215 [(uR (jL.mk a b c d))] (.tup [(.sl 62 1 (List.map qH [[(jD (Q00 a b c d)), (jD (Q01 a b c d)), (jD (Q02 a b c d))], [(jD (Q10 a b c d)), (jD (Q11 a b c d)), (jD (Q12 a b c d))], [(jD (Q20 a b c d)), (jD (Q21 a b c d)), (jD (Q22 a b c d))]])), (.val (.int .i64 (0)))]) := by
 have saa := vM ha ha
 have sab := vM ha hb
 have sac := vM ha hc
 have sad := vM ha hd
 have sbb := vM hb hb
 have sbc := vM hb hc
 have sbd := vM hb hd
 have scc := vM hc hc
 have scd := vM hc hd
 have sdd := vM hd hd
 have hnq := gX ha hb hc hd
 let y13 := (jD (Rat.divInt (2 * ((b * d) - (a * c))) (nq a b c d)))
 let y12 := (jD (Rat.divInt (2 * ((b * c) + (a * d))) (nq a b c d)))
 let y11 := (jD (Rat.divInt ((((a * a) - (b * b)) + (c * c)) - (d * d)) (nq a b c d)))
 let y10 := (jD (Rat.divInt ((((a * a) + (b * b)) - (c * c)) - (d * d)) (nq a b c d)))
 let y9 := [y13, (jD (Rat.divInt (2 * ((c * d) + (a * b))) (nq a b c d)))]
 let y8 := [(((2 : Nat) : Int) * ((b * d) - (a * c))), (((2 : Nat) : Int) * ((c * d) + (a * b))), ((((a * a) - (b * b)) - (c * c)) + (d * d))]
 let y7 := [(((2 : Nat) : Int) * ((b * c) + (a * d))), ((((a * a) - (b * b)) + (c * c)) - (d * d)), (((2 : Nat) : Int) * ((c * d) - (a * b)))]
 let y6 := [((((a * a) + (b * b)) - (c * c)) - (d * d)), (((2 : Nat) : Int) * ((b * c) - (a * d))), (((2 : Nat) : Int) * ((b * d) + (a * c)))]
 let y5 := [y12, y11]
 let y4 := [y10, (jD (Rat.divInt (2 * ((b * c) - (a * d))) (nq a b c d)))]
 let y3 := [y13, (jD (Rat.divInt (2 * ((c * d) + (a * b))) (nq a b c d))), (jD (Rat.divInt ((((a * a) - (b * b)) - (c * c)) + (d * d)) (nq a b c d)))]
 let y2 := [y12, y11, (jD (Rat.divInt (2 * ((c * d) - (a * b))) (nq a b c d)))]
 let y1 := [y10, (jD (Rat.divInt (2 * ((b * c) - (a * d))) (nq a b c d))), (jD (Rat.divInt (2 * ((b * d) + (a * c))) (nq a b c d)))]
 refine jM Tryz.func215 rfl cb215 rfl ?_
 show uY _ _ _ _ ⟨[(0, (.d (uR (jL.mk a b c d))))], []⟩
 refine jA <| kx [(1, (.ref 0 0))] [(0, some (bx (uR (jL.mk a b c d))))] (zN (vD 0) <| zE (aX 62 1) <| zM <| zZ) ?_
 refine jA <| kx [(4, (kD (nF a b c d)))] [] (zR (kC yP) <| zE (kB (qs_chk a b c d)) <| zM <| zZ) ?_
 refine jA <| jA <| kx [(19, (vb false))] [] (zM <| zE (kR false eS (by exact bne_eq_false_iff_eq.2 (by rw [show (nF a b c d) = 0 from hq]; rfl))) <| zZ) ?_
 refine jT ?_
 refine jB <| jA <| kx [(5, (vi a))] [] (zE (kE dV) <| zR (qR qP) <| zM <| zZ) ?_
 refine jA <| kx [(6, (vi b))] [] (zE (kE dZ) <| zR (qR qP) <| zM <| zZ) ?_
 refine jA <| kx [(7, (vi c))] [] (zE (kE dW) <| zR (qR qP) <| zM <| zZ) ?_
 refine jA <| kx [(8, (vi d))] [] (zE (kE dT) <| zR (qR qP) <| zM <| zZ) ?_
 refine jA <| kx [(9, (vl 22 1 kO [y6, y7, y8]))] [] (zM <| zM <| zE (nJ (a * a) (hr := by exact (qO rfl (by simp only [vP]; omega) (by simp only [vS]; omega)))) <| zM <| zM <| zE (nJ (b * b) (hr := by exact (qO rfl (by simp only [vP]; omega) (by simp only [vS]; omega)))) <| zE (zAd ((a * a) + (b * b)) (hr := by exact (qO rfl (by simp only [vP]; omega) (by simp only [vS]; omega)))) <| zM <| zM <| zE (nJ (c * c) (hr := by exact (qO rfl (by simp only [vP]; omega) (by simp only [vS]; omega)))) <| zE (cR (((a * a) + (b * b)) - (c * c)) (hr := by exact (qO rfl (by simp only [vP]; omega) (by simp only [vS]; omega)))) <| zM <| zM <| zE (nJ (d * d) (hr := by exact (qO rfl (by simp only [vP]; omega) (by simp only [vS]; omega)))) <| zE (cR ((((a * a) + (b * b)) - (c * c)) - (d * d)) (hr := by exact (qO rfl (by simp only [vP]; omega) (by simp only [vS]; omega)))) <| zM <| zM <| zE (nJ (b * c) (hr := by exact (qO rfl (by simp only [vP]; omega) (by simp only [vS]; omega)))) <| zM <| zM <| zE (nJ (a * d) (hr := by exact (qO rfl (by simp only [vP]; omega) (by simp only [vS]; omega)))) <| zE (cR ((b * c) - (a * d)) (hr := by exact (qO rfl (by simp only [vP]; omega) (by simp only [vS]; omega)))) <| zE (nJ (((2 : Nat) : Int) * ((b * c) - (a * d))) (hr := by exact (qO rfl (by simp only [vP]; omega) (by simp only [vS]; omega)))) <| zM <| zM <| zE (nJ (b * d) (hr := by exact (qO rfl (by simp only [vP]; omega) (by simp only [vS]; omega)))) <| zM <| zM <| zE (nJ (a * c) (hr := by exact (qO rfl (by simp only [vP]; omega) (by simp only [vS]; omega)))) <| zE (zAd ((b * d) + (a * c)) (hr := by exact (qO rfl (by simp only [vP]; omega) (by simp only [vS]; omega)))) <| zE (nJ (((2 : Nat) : Int) * ((b * d) + (a * c))) (hr := by exact (qO rfl (by simp only [vP]; omega) (by simp only [vS]; omega)))) <| zE (mC uB ze3 zo3) <| zM <| zM <| zE (nJ (b * c) (hr := by exact (qO rfl (by simp only [vP]; omega) (by simp only [vS]; omega)))) <| zM <| zM <| zE (nJ (a * d) (hr := by exact (qO rfl (by simp only [vP]; omega) (by simp only [vS]; omega)))) <| zE (zAd ((b * c) + (a * d)) (hr := by exact (qO rfl (by simp only [vP]; omega) (by simp only [vS]; omega)))) <| zE (nJ (((2 : Nat) : Int) * ((b * c) + (a * d))) (hr := by exact (qO rfl (by simp only [vP]; omega) (by simp only [vS]; omega)))) <| zM <| zM <| zE (nJ (a * a) (hr := by exact (qO rfl (by simp only [vP]; omega) (by simp only [vS]; omega)))) <| zM <| zM <| zE (nJ (b * b) (hr := by exact (qO rfl (by simp only [vP]; omega) (by simp only [vS]; omega)))) <| zE (cR ((a * a) - (b * b)) (hr := by exact (qO rfl (by simp only [vP]; omega) (by simp only [vS]; omega)))) <| zM <| zM <| zE (nJ (c * c) (hr := by exact (qO rfl (by simp only [vP]; omega) (by simp only [vS]; omega)))) <| zE (zAd (((a * a) - (b * b)) + (c * c)) (hr := by exact (qO rfl (by simp only [vP]; omega) (by simp only [vS]; omega)))) <| zM <| zM <| zE (nJ (d * d) (hr := by exact (qO rfl (by simp only [vP]; omega) (by simp only [vS]; omega)))) <| zE (cR ((((a * a) - (b * b)) + (c * c)) - (d * d)) (hr := by exact (qO rfl (by simp only [vP]; omega) (by simp only [vS]; omega)))) <| zM <| zM <| zE (nJ (c * d) (hr := by exact (qO rfl (by simp only [vP]; omega) (by simp only [vS]; omega)))) <| zM <| zM <| zE (nJ (a * b) (hr := by exact (qO rfl (by simp only [vP]; omega) (by simp only [vS]; omega)))) <| zE (cR ((c * d) - (a * b)) (hr := by exact (qO rfl (by simp only [vP]; omega) (by simp only [vS]; omega)))) <| zE (nJ (((2 : Nat) : Int) * ((c * d) - (a * b))) (hr := by exact (qO rfl (by simp only [vP]; omega) (by simp only [vS]; omega)))) <| zE (mC uB ze3 zo3) <| zM <| zM <| zE (nJ (b * d) (hr := by exact (qO rfl (by simp only [vP]; omega) (by simp only [vS]; omega)))) <| zM <| zM <| zE (nJ (a * c) (hr := by exact (qO rfl (by simp only [vP]; omega) (by simp only [vS]; omega)))) <| zE (cR ((b * d) - (a * c)) (hr := by exact (qO rfl (by simp only [vP]; omega) (by simp only [vS]; omega)))) <| zE (nJ (((2 : Nat) : Int) * ((b * d) - (a * c))) (hr := by exact (qO rfl (by simp only [vP]; omega) (by simp only [vS]; omega)))) <| zM <| zM <| zE (nJ (c * d) (hr := by exact (qO rfl (by simp only [vP]; omega) (by simp only [vS]; omega)))) <| zM <| zM <| zE (nJ (a * b) (hr := by exact (qO rfl (by simp only [vP]; omega) (by simp only [vS]; omega)))) <| zE (zAd ((c * d) + (a * b)) (hr := by exact (qO rfl (by simp only [vP]; omega) (by simp only [vS]; omega)))) <| zE (nJ (((2 : Nat) : Int) * ((c * d) + (a * b))) (hr := by exact (qO rfl (by simp only [vP]; omega) (by simp only [vS]; omega)))) <| zM <| zM <| zE (nJ (a * a) (hr := by exact (qO rfl (by simp only [vP]; omega) (by simp only [vS]; omega)))) <| zM <| zM <| zE (nJ (b * b) (hr := by exact (qO rfl (by simp only [vP]; omega) (by simp only [vS]; omega)))) <| zE (cR ((a * a) - (b * b)) (hr := by exact (qO rfl (by simp only [vP]; omega) (by simp only [vS]; omega)))) <| zM <| zM <| zE (nJ (c * c) (hr := by exact (qO rfl (by simp only [vP]; omega) (by simp only [vS]; omega)))) <| zE (cR (((a * a) - (b * b)) - (c * c)) (hr := by exact (qO rfl (by simp only [vP]; omega) (by simp only [vS]; omega)))) <| zM <| zM <| zE (nJ (d * d) (hr := by exact (qO rfl (by simp only [vP]; omega) (by simp only [vS]; omega)))) <| zE (zAd ((((a * a) - (b * b)) - (c * c)) + (d * d)) (hr := by exact (qO rfl (by simp only [vP]; omega) (by simp only [vS]; omega)))) <| zE (mC uB ze3 zo3) <| zE (mC gN ze22 zo22) <| zM <| zZ) ?_
 refine jA <| kx [(10, (.own 1 62 1 0))] [(1, some (bm qH []))] (zN (oBo 1 yT bW zo62) <| zM <| zZ) ?_
 refine jA <| jA <| kx [(11, (kD 0))] [] (zM <| zZ) ?_
 refine jE <| qF 20 ?_
 refine qU <| jA <| jA <| kx [(128, (vb true))] [] (zM <| zE (kR true qY) <| zZ) ?_
 refine jX ?_
 refine jB <| jA <| jE <| jA <| kx [(12, (.own 2 38 4 0))] [(2, some (bI jP []))] (zH (oBo 2 vZ qZ uF) <| zM <| zZ) ?_
 refine jA <| jA <| kx [(13, (kD 0))] [] (zM <| zZ) ?_
 refine jE <| qF 20 ?_
 refine qU <| jA <| jA <| kx [(133, (vb true))] [] (zM <| zE (kR true qY) <| zZ) ?_
 refine jX ?_
 refine jB <| jA <| jE <| jA <| kP (wk (l := [(1, (.ref 0 0)), (9, (vl 22 1 kO [y6, y7, y8])), (10, (.own 1 62 1 0)), (11, (kD 0)), (12, (.own 2 38 4 0)), (13, (kD 0)), (133, (vb true))]) (b := [(0, some (bx (uR (jL.mk a b c d)))), (1, some (bm qH [])), (2, some (bI jP []))])) ?_
 have bn1 : QL (Rat.divInt ((((a * a) + (b * b)) - (c * c)) - (d * d)) (nq a b c d)) 3 := (uC (n := 3) (jN (by omega) (by omega)) (jN (by omega) (by omega)) (by decide))
 refine kd [(14, (.ref 3 0))] [(3, some (bx (jP y10)))] mo (wM <| wM <| wE (zS gN 0) <| wE (xN dK) <| wM <| wE (zS uB 0) <| wE (xN qP) <| wR (kC yP) <| wE (kB (fD a b c d (by omega) (by omega) (by omega) (by omega))) <| wE (kB (qs_of ((((a * a) + (b * b)) - (c * c)) - (d * d)) (by omega) (by omega) (nq a b c d) (by omega) (by omega) hn0)) <| wM <| wE vA <| wE vA <| wH (hc := by kernel_rfl) (uK 3 qZ uF) <| wT (qG jR) <| wM <| wZ) ?_
 refine kf [(12, (.own 2 38 4 ([y10].length)))] [(2, some (bI jP [y10]))] (zM <| zR (kC jR) <| zE (mC vZ qZ uF) <| zAS jP [] [y10] rfl vZ qZ by38 (hbig := by exact (by simp +zetaDelta [maxLen] <;> omega)) (hbig' := by exact (by simp +zetaDelta <;> omega)) <| zM <| zF) ?_
 refine kx [(13, (kD 1))] [] (zM <| zE (uE 1 (hr := by decide)) <| zM <| zZ) ?_
 refine jJ (jW.refl _) ?_
 refine jA <| jA <| kx [(133, (vb true))] [] (zM <| zE (kR true qY) <| zZ) ?_
 refine jX ?_
 refine jB <| jA <| jE <| jA ?_
 have bn2 : QL (Rat.divInt (2 * ((b * c) - (a * d))) (nq a b c d)) 3 := (uC (n := 3) (jN (by omega) (by omega)) (jN (by omega) (by omega)) (by decide))
 refine kd [(14, (.ref 4 0))] [(4, some (bx (jP (jD (Rat.divInt (2 * ((b * c) - (a * d))) (nq a b c d))))))] mo (wM <| wM <| wE (zS gN 0) <| wE (xN dK) <| wM <| wE (zS uB 1) <| wE (xN qP) <| wR (kC yP) <| wE (kB (fD a b c d (by omega) (by omega) (by omega) (by omega))) <| wE (kB (qs_of (((2 : Nat) : Int) * ((b * c) - (a * d))) (by omega) (by omega) (nq a b c d) (by omega) (by omega) hn0)) <| wM <| wE vA <| wE vA <| wH (hc := by kernel_rfl) (uK 4 qZ uF) <| wT (qG jR) <| wM <| wZ) ?_
 refine kf [(12, (.own 2 38 4 (y4.length)))] [(2, some (bI jP y4))] (zM <| zR (kC jR) <| zE (mC vZ qZ uF) <| zAS jP [y10] [(jD (Rat.divInt (2 * ((b * c) - (a * d))) (nq a b c d)))] rfl vZ qZ by38 (hbig := by exact (by simp +zetaDelta [maxLen] <;> omega)) (hbig' := by exact (by simp +zetaDelta <;> omega)) <| zM <| zF) ?_
 refine kx [(13, (kD 2))] [] (zM <| zE (uE 2 (hr := by decide)) <| zM <| zZ) ?_
 refine jJ (jW.refl _) ?_
 refine jA <| jA <| kx [(133, (vb true))] [] (zM <| zE (kR true qY) <| zZ) ?_
 refine jX ?_
 refine jB <| jA <| jE <| jA ?_
 have bn3 : QL (Rat.divInt (2 * ((b * d) + (a * c))) (nq a b c d)) 3 := (uC (n := 3) (jN (by omega) (by omega)) (jN (by omega) (by omega)) (by decide))
 refine kd [(14, (.ref 5 0))] [(5, some (bx (jP (jD (Rat.divInt (2 * ((b * d) + (a * c))) (nq a b c d))))))] mo (wM <| wM <| wE (zS gN 0) <| wE (xN dK) <| wM <| wE (zS uB 2) <| wE (xN qP) <| wR (kC yP) <| wE (kB (fD a b c d (by omega) (by omega) (by omega) (by omega))) <| wE (kB (qs_of (((2 : Nat) : Int) * ((b * d) + (a * c))) (by omega) (by omega) (nq a b c d) (by omega) (by omega) hn0)) <| wM <| wE vA <| wE vA <| wH (hc := by kernel_rfl) (uK 5 qZ uF) <| wT (qG jR) <| wM <| wZ) ?_
 refine kf [(12, (.own 2 38 4 (y1.length)))] [(2, some (bI jP y1))] (zM <| zR (kC jR) <| zE (mC vZ qZ uF) <| zAS jP y4 [(jD (Rat.divInt (2 * ((b * d) + (a * c))) (nq a b c d)))] rfl vZ qZ by38 (hbig := by exact (by simp +zetaDelta [maxLen] <;> omega)) (hbig' := by exact (by simp +zetaDelta <;> omega)) <| zM <| zF) ?_
 refine kx [(13, (kD 3))] [] (zM <| zE (uE 3 (hr := by decide)) <| zM <| zZ) ?_
 refine jJ (jW.refl _) ?_
 refine jA <| jA <| kx [(133, (vb false))] [] (zM <| zE (kR false qY) <| zZ) ?_
 refine jT ?_
 refine kJ <| kP (xY (t := 12) (k := 2) (es := List.map jP y1) rfl rfl (hO _ _ (fun _ => rfl)) (xP _ _ rfl) (fK jP y1 (fun _ => rfl) rfl)) ?_
 refine kf [(10, (.own 1 62 1 ([y1].length)))] [(1, some (bm qH [y1]))] (zM <| zM <| zE (mC yT bW zo62) <| zA qH [] [y1] rfl yT bW by62 (hbig := by exact (by simp +zetaDelta [maxLen] <;> omega)) (hbig' := by exact (by simp +zetaDelta <;> omega)) <| zM <| zF) ?_
 refine kx [(11, (kD 1))] [] (zM <| zE (uE 1 (hr := by decide)) <| zM <| zZ) ?_
 refine jJ (jW.refl _) ?_
 refine jA <| jA <| kP (wk (l := [(1, (.ref 0 0)), (9, (vl 22 1 kO [y6, y7, y8])), (10, (.own 1 62 1 ([y1].length))), (11, (kD 1))]) (b := [(0, some (bx (uR (jL.mk a b c d)))), (1, some (bm qH [y1]))])) ?_
 refine kx [(128, (vb true))] [] (zM <| zE (kR true qY) <| zZ) ?_
 refine jX ?_
 refine jB <| jA <| jE <| jA <| kx [(12, (.own 6 38 4 0))] [(6, some (bI jP []))] (zH (oBo 6 vZ qZ uF) <| zM <| zZ) ?_
 refine jA <| jA <| kx [(13, (kD 0))] [] (zM <| zZ) ?_
 refine jE <| qF 20 ?_
 refine qU <| jA <| jA <| kx [(133, (vb true))] [] (zM <| zE (kR true qY) <| zZ) ?_
 refine jX ?_
 refine jB <| jA <| jE <| jA ?_
 have bn4 : QL (Rat.divInt (2 * ((b * c) + (a * d))) (nq a b c d)) 3 := (uC (n := 3) (jN (by omega) (by omega)) (jN (by omega) (by omega)) (by decide))
 refine kd [(14, (.ref 7 0))] [(7, some (bx (jP y12)))] mo (wM <| wM <| wE (zS gN 1) <| wE (xN dK) <| wM <| wE (zS uB 0) <| wE (xN qP) <| wR (kC yP) <| wE (kB (fD a b c d (by omega) (by omega) (by omega) (by omega))) <| wE (kB (qs_of (((2 : Nat) : Int) * ((b * c) + (a * d))) (by omega) (by omega) (nq a b c d) (by omega) (by omega) hn0)) <| wM <| wE vA <| wE vA <| wH (hc := by kernel_rfl) (uK 7 qZ uF) <| wT (qG jR) <| wM <| wZ) ?_
 refine kf [(12, (.own 6 38 4 ([y12].length)))] [(6, some (bI jP [y12]))] (zM <| zR (kC jR) <| zE (mC vZ qZ uF) <| zAS jP [] [y12] rfl vZ qZ by38 (hbig := by exact (by simp +zetaDelta [maxLen] <;> omega)) (hbig' := by exact (by simp +zetaDelta <;> omega)) <| zM <| zF) ?_
 refine kx [(13, (kD 1))] [] (zM <| zE (uE 1 (hr := by decide)) <| zM <| zZ) ?_
 refine jJ (jW.refl _) ?_
 refine jA <| jA <| kx [(133, (vb true))] [] (zM <| zE (kR true qY) <| zZ) ?_
 refine jX ?_
 refine jB <| jA <| jE <| jA ?_
 have bn5 : QL (Rat.divInt ((((a * a) - (b * b)) + (c * c)) - (d * d)) (nq a b c d)) 3 := (uC (n := 3) (jN (by omega) (by omega)) (jN (by omega) (by omega)) (by decide))
 refine kd [(14, (.ref 8 0))] [(8, some (bx (jP y11)))] mo (wM <| wM <| wE (zS gN 1) <| wE (xN dK) <| wM <| wE (zS uB 1) <| wE (xN qP) <| wR (kC yP) <| wE (kB (fD a b c d (by omega) (by omega) (by omega) (by omega))) <| wE (kB (qs_of ((((a * a) - (b * b)) + (c * c)) - (d * d)) (by omega) (by omega) (nq a b c d) (by omega) (by omega) hn0)) <| wM <| wE vA <| wE vA <| wH (hc := by kernel_rfl) (uK 8 qZ uF) <| wT (qG jR) <| wM <| wZ) ?_
 refine kf [(12, (.own 6 38 4 (y5.length)))] [(6, some (bI jP y5))] (zM <| zR (kC jR) <| zE (mC vZ qZ uF) <| zAS jP [y12] [y11] rfl vZ qZ by38 (hbig := by exact (by simp +zetaDelta [maxLen] <;> omega)) (hbig' := by exact (by simp +zetaDelta <;> omega)) <| zM <| zF) ?_
 refine kx [(13, (kD 2))] [] (zM <| zE (uE 2 (hr := by decide)) <| zM <| zZ) ?_
 refine jJ (jW.refl _) ?_
 refine jA <| jA <| kx [(133, (vb true))] [] (zM <| zE (kR true qY) <| zZ) ?_
 refine jX ?_
 refine jB <| jA <| jE <| jA ?_
 have bn6 : QL (Rat.divInt (2 * ((c * d) - (a * b))) (nq a b c d)) 3 := (uC (n := 3) (jN (by omega) (by omega)) (jN (by omega) (by omega)) (by decide))
 refine kd [(14, (.ref 9 0))] [(9, some (bx (jP (jD (Rat.divInt (2 * ((c * d) - (a * b))) (nq a b c d))))))] mo (wM <| wM <| wE (zS gN 1) <| wE (xN dK) <| wM <| wE (zS uB 2) <| wE (xN qP) <| wR (kC yP) <| wE (kB (fD a b c d (by omega) (by omega) (by omega) (by omega))) <| wE (kB (qs_of (((2 : Nat) : Int) * ((c * d) - (a * b))) (by omega) (by omega) (nq a b c d) (by omega) (by omega) hn0)) <| wM <| wE vA <| wE vA <| wH (hc := by kernel_rfl) (uK 9 qZ uF) <| wT (qG jR) <| wM <| wZ) ?_
 refine kf [(12, (.own 6 38 4 (y2.length)))] [(6, some (bI jP y2))] (zM <| zR (kC jR) <| zE (mC vZ qZ uF) <| zAS jP y5 [(jD (Rat.divInt (2 * ((c * d) - (a * b))) (nq a b c d)))] rfl vZ qZ by38 (hbig := by exact (by simp +zetaDelta [maxLen] <;> omega)) (hbig' := by exact (by simp +zetaDelta <;> omega)) <| zM <| zF) ?_
 refine kP (wk (l := [(1, (.ref 0 0)), (9, (vl 22 1 kO [y6, y7, y8])), (10, (.own 1 62 1 ([y1].length))), (11, (kD 1)), (12, (.own 6 38 4 (y2.length))), (13, (kD 2))]) (b := [(0, some (bx (uR (jL.mk a b c d)))), (1, some (bm qH [y1])), (6, some (bI jP y2))])) ?_
 refine kx [(13, (kD 3))] [] (zM <| zE (uE 3 (hr := by decide)) <| zM <| zZ) ?_
 refine jJ (jW.refl _) ?_
 refine jA <| jA <| kx [(133, (vb false))] [] (zM <| zE (kR false qY) <| zZ) ?_
 refine jT ?_
 refine kJ <| kP (xY (t := 12) (k := 6) (es := List.map jP y2) rfl rfl (hO _ _ (fun _ => rfl)) (xP _ _ rfl) (fK jP y2 (fun _ => rfl) rfl)) ?_
 refine kf [(10, (.own 1 62 1 ([y1, y2].length)))] [(1, some (bm qH [y1, y2]))] (zM <| zM <| zE (mC yT bW zo62) <| zA qH [y1] [y2] rfl yT bW by62 (hbig := by exact (by simp +zetaDelta [maxLen] <;> omega)) (hbig' := by exact (by simp +zetaDelta <;> omega)) <| zM <| zF) ?_
 refine kx [(11, (kD 2))] [] (zM <| zE (uE 2 (hr := by decide)) <| zM <| zZ) ?_
 refine jJ (jW.refl _) ?_
 refine jA <| jA <| kx [(128, (vb true))] [] (zM <| zE (kR true qY) <| zZ) ?_
 refine jX ?_
 refine jB <| jA <| jE <| jA <| kx [(12, (.own 10 38 4 0))] [(10, some (bI jP []))] (zH (oBo 10 vZ qZ uF) <| zM <| zZ) ?_
 refine jA <| jA <| kx [(13, (kD 0))] [] (zM <| zZ) ?_
 refine jE <| qF 20 ?_
 refine qU <| jA <| jA <| kx [(133, (vb true))] [] (zM <| zE (kR true qY) <| zZ) ?_
 refine jX ?_
 refine jB <| jA <| jE <| jA ?_
 have bn7 : QL (Rat.divInt (2 * ((b * d) - (a * c))) (nq a b c d)) 3 := (uC (n := 3) (jN (by omega) (by omega)) (jN (by omega) (by omega)) (by decide))
 refine kd [(14, (.ref 11 0))] [(11, some (bx (jP y13)))] mo (wM <| wM <| wE (zS gN 2) <| wE (xN dK) <| wM <| wE (zS uB 0) <| wE (xN qP) <| wR (kC yP) <| wE (kB (fD a b c d (by omega) (by omega) (by omega) (by omega))) <| wE (kB (qs_of (((2 : Nat) : Int) * ((b * d) - (a * c))) (by omega) (by omega) (nq a b c d) (by omega) (by omega) hn0)) <| wM <| wE vA <| wE vA <| wH (hc := by kernel_rfl) (uK 11 qZ uF) <| wT (qG jR) <| wM <| wZ) ?_
 refine kf [(12, (.own 10 38 4 ([y13].length)))] [(10, some (bI jP [y13]))] (zM <| zR (kC jR) <| zE (mC vZ qZ uF) <| zAS jP [] [y13] rfl vZ qZ by38 (hbig := by exact (by simp +zetaDelta [maxLen] <;> omega)) (hbig' := by exact (by simp +zetaDelta <;> omega)) <| zM <| zF) ?_
 refine kx [(13, (kD 1))] [] (zM <| zE (uE 1 (hr := by decide)) <| zM <| zZ) ?_
 refine jJ (jW.refl _) ?_
 refine jA <| jA <| kx [(133, (vb true))] [] (zM <| zE (kR true qY) <| zZ) ?_
 refine jX ?_
 refine jB <| jA <| jE <| jA ?_
 have bn8 : QL (Rat.divInt (2 * ((c * d) + (a * b))) (nq a b c d)) 3 := (uC (n := 3) (jN (by omega) (by omega)) (jN (by omega) (by omega)) (by decide))
 refine kd [(14, (.ref 12 0))] [(12, some (bx (jP (jD (Rat.divInt (2 * ((c * d) + (a * b))) (nq a b c d))))))] mo (wM <| wM <| wE (zS gN 2) <| wE (xN dK) <| wM <| wE (zS uB 1) <| wE (xN qP) <| wR (kC yP) <| wE (kB (fD a b c d (by omega) (by omega) (by omega) (by omega))) <| wE (kB (qs_of (((2 : Nat) : Int) * ((c * d) + (a * b))) (by omega) (by omega) (nq a b c d) (by omega) (by omega) hn0)) <| wM <| wE vA <| wE vA <| wH (hc := by kernel_rfl) (uK 12 qZ uF) <| wT (qG jR) <| wM <| wZ) ?_
 refine kf [(12, (.own 10 38 4 (y9.length)))] [(10, some (bI jP y9))] (zM <| zR (kC jR) <| zE (mC vZ qZ uF) <| zAS jP [y13] [(jD (Rat.divInt (2 * ((c * d) + (a * b))) (nq a b c d)))] rfl vZ qZ by38 (hbig := by exact (by simp +zetaDelta [maxLen] <;> omega)) (hbig' := by exact (by simp +zetaDelta <;> omega)) <| zM <| zF) ?_
 refine kP (wk (l := [(1, (.ref 0 0)), (9, (vl 22 1 kO [y6, y7, y8])), (10, (.own 1 62 1 ([y1, y2].length))), (11, (kD 2)), (12, (.own 10 38 4 (y9.length))), (13, (kD 1))]) (b := [(0, some (bx (uR (jL.mk a b c d)))), (1, some (bm qH [y1, y2])), (10, some (bI jP y9))])) ?_
 refine kx [(13, (kD 2))] [] (zM <| zE (uE 2 (hr := by decide)) <| zM <| zZ) ?_
 refine jJ (jW.refl _) ?_
 refine jA <| jA <| kx [(133, (vb true))] [] (zM <| zE (kR true qY) <| zZ) ?_
 refine jX ?_
 refine jB <| jA <| jE <| jA ?_
 have bn9 : QL (Rat.divInt ((((a * a) - (b * b)) - (c * c)) + (d * d)) (nq a b c d)) 3 := (uC (n := 3) (jN (by omega) (by omega)) (jN (by omega) (by omega)) (by decide))
 refine kd [(14, (.ref 13 0))] [(13, some (bx (jP (jD (Rat.divInt ((((a * a) - (b * b)) - (c * c)) + (d * d)) (nq a b c d))))))] mo (wM <| wM <| wE (zS gN 2) <| wE (xN dK) <| wM <| wE (zS uB 2) <| wE (xN qP) <| wR (kC yP) <| wE (kB (fD a b c d (by omega) (by omega) (by omega) (by omega))) <| wE (kB (qs_of ((((a * a) - (b * b)) - (c * c)) + (d * d)) (by omega) (by omega) (nq a b c d) (by omega) (by omega) hn0)) <| wM <| wE vA <| wE vA <| wH (hc := by kernel_rfl) (uK 13 qZ uF) <| wT (qG jR) <| wM <| wZ) ?_
 refine kf [(12, (.own 10 38 4 (y3.length)))] [(10, some (bI jP y3))] (zM <| zR (kC jR) <| zE (mC vZ qZ uF) <| zAS jP y9 [(jD (Rat.divInt ((((a * a) - (b * b)) - (c * c)) + (d * d)) (nq a b c d)))] rfl vZ qZ by38 (hbig := by exact (by simp +zetaDelta [maxLen] <;> omega)) (hbig' := by exact (by simp +zetaDelta <;> omega)) <| zM <| zF) ?_
 refine kx [(13, (kD 3))] [] (zM <| zE (uE 3 (hr := by decide)) <| zM <| zZ) ?_
 refine jJ (jW.refl _) ?_
 refine jA <| jA <| kx [(133, (vb false))] [] (zM <| zE (kR false qY) <| zZ) ?_
 refine jT ?_
 refine kJ <| kP (xY (t := 12) (k := 10) (es := List.map jP y3) rfl rfl (hO _ _ (fun _ => rfl)) (xP _ _ rfl) (fK jP y3 (fun _ => rfl) rfl)) ?_
 refine kf [(10, (.own 1 62 1 ([y1, y2, y3].length)))] [(1, some (bm qH [y1, y2, y3]))] (zM <| zM <| zE (mC yT bW zo62) <| zA qH [y1, y2] [y3] rfl yT bW by62 (hbig := by exact (by simp +zetaDelta [maxLen] <;> omega)) (hbig' := by exact (by simp +zetaDelta <;> omega)) <| zM <| zF) ?_
 refine kx [(11, (kD 3))] [] (zM <| zE (uE 3 (hr := by decide)) <| zM <| zZ) ?_
 refine jJ (jW.refl _) ?_
 refine jA <| jA <| kx [(128, (vb false))] [] (zM <| zE (kR false qY) <| zZ) ?_
 refine jT ?_
 refine kJ <| jA <| kP (xY (t := 10) (k := 1) (es := List.map qH [y1, y2, y3]) rfl rfl (vY _ _ (fun _ => rfl)) (xP _ _ rfl) (zB _ _ (fun _ => rfl) rfl)) ?_
 refine kx [(2, (vl 62 1 qH [y1, y2, y3])), (3, (kD 0))] [] (zM <| zM <| zM <| zZ) ?_
 refine jF ⟨_, (.tmp (d := (.sl 62 1 (List.map qH [[(jD (Rat.divInt ((((a * a) + (b * b)) - (c * c)) - (d * d)) (nq a b c d))), (jD (Rat.divInt (2 * ((b * c) - (a * d))) (nq a b c d))), (jD (Rat.divInt (2 * ((b * d) + (a * c))) (nq a b c d)))], [(jD (Rat.divInt (2 * ((b * c) + (a * d))) (nq a b c d))), (jD (Rat.divInt ((((a * a) - (b * b)) + (c * c)) - (d * d)) (nq a b c d))), (jD (Rat.divInt (2 * ((c * d) - (a * b))) (nq a b c d)))], [(jD (Rat.divInt (2 * ((b * d) - (a * c))) (nq a b c d))), (jD (Rat.divInt (2 * ((c * d) + (a * b))) (nq a b c d))), (jD (Rat.divInt ((((a * a) - (b * b)) - (c * c)) + (d * d)) (nq a b c d)))]]))) rfl (.tmp (d := (.val (.int .i64 (((0 : Nat) : Int))))) rfl .nil)), ?_⟩
 rfl
end Go.Proofs.YtapjldagikfcmaaGreat
