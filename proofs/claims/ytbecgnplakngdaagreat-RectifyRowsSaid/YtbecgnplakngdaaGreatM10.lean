/- Part 10 of a proof: rules, plain facts, and functions walked. -/
import Derived.Test.YtbecgnplakngdaaGreatM9
namespace Go.Proofs.YtbecgnplakngdaaGreat
open Go.Fid
set_option maxRecDepth 4000
set_option linter.unusedVariables false
set_option linter.unusedSimpArgs false
theorem ar203 : cX Tryz.prog 203 = some (3, 3, 1) := by kernel_rfl
theorem ar204 : cX Tryz.prog 204 = some (3, 203, 3) := by kernel_rfl
theorem by42 : nK Tryz.prog 42 = some 64 := by kernel_rfl
theorem by52 : nK Tryz.prog 52 = some 24 := by kernel_rfl
theorem cb124 : callB Tryz.prog 124 = true := by kernel_rfl
theorem cb129 : callB Tryz.prog 129 = true := by kernel_rfl
theorem cb132 : callB Tryz.prog 132 = true := by kernel_rfl
theorem nG : xO Tryz.prog 34 = some (52, 1) := by kernel_rfl
theorem el109 : xO Tryz.prog 109 = some (74, 1) := by kernel_rfl
theorem sh74 : qY Tryz.prog 74 = some (false, 1) := by kernel_rfl
theorem sh203 : qY Tryz.prog 203 = some (true, 3) := by kernel_rfl
theorem sh204 : qY Tryz.prog 204 = some (true, 9) := by kernel_rfl
theorem aR : xC Tryz.prog 52 = some [.slice none 0 0] := by kernel_rfl
theorem ze74 : xC Tryz.prog 74 = some [.slice none 0 0] := by kernel_rfl
theorem ze203 : xC Tryz.prog 203 = some [.int .i64 0, .int .i64 0, .int .i64 0] := by kernel_rfl
theorem ze204 : xC Tryz.prog 204 = some [.int .i64 0, .int .i64 0, .int .i64 0, .int .i64 0, .int .i64 0, .int .i64 0, .int .i64 0, .int .i64 0, .int .i64 0] := by kernel_rfl
theorem zo52 : nV [.slice none 0 0] [.sl 42 4 []] := by simp [nV, Value.oneCell']
theorem zo74 : nV [.slice none 0 0] [.sl 3 1 []] := by simp [nV, Value.oneCell']
theorem zo203 : nV [.int .i64 0, .int .i64 0, .int .i64 0] [.val (.int .i64 0), .val (.int .i64 0), .val (.int .i64 0)] := by simp [nV, Value.oneCell']
theorem zo204 : nV [.int .i64 0, .int .i64 0, .int .i64 0, .int .i64 0, .int .i64 0, .int .i64 0, .int .i64 0, .int .i64 0, .int .i64 0] [.val (.int .i64 0), .val (.int .i64 0), .val (.int .i64 0), .val (.int .i64 0), .val (.int .i64 0), .val (.int .i64 0), .val (.int .i64 0), .val (.int .i64 0), .val (.int .i64 0)] := by simp [nV, Value.oneCell']
theorem q_of (n : Int) (hnl : -9223372036854775808 ≤ n) (hnh : n ≤ 9223372036854775807) (d : Int) (hdl : -9223372036854775808 ≤ d) (hdh : d ≤ 9223372036854775807) (hd : d ≠ 0) : kD Tryz.prog 124 [(.val (.int .i64 (n))), (.val (.int .i64 (d)))] (.tup [(jM (jC (Rat.divInt n d))), (.val (.int .i64 (0)))]) := by
 refine jK Tryz.func124 rfl cb124 rfl ?_
 show uY _ _ _ _ ⟨[(0, (vi n)), (1, (vi d))], []⟩
 refine jA <| kx [(4, (.ref 0 0))] [(0, some (bx (jM (jV.mk (jG.mk false []) (jG.mk false [])))))] (zN (qP 0 qF qQ) <| zM <| zZ) ?_
 refine jA <| kx [(5, (vi 0))] [(0, some (bx (jM (jC (Rat.divInt n d)))))] (zM <| zE (jX (t_of n (by omega) (by omega))) <| zM <| zE (jX (t_of d (by omega) (by omega))) <| zE (jX (f_newO (kN n) n (gN (iok_int (z := n) (by omega) (by omega)) (by decide)) (kN d) d (gN (iok_int (z := d) (by omega) (by omega)) (by decide)) hd)) <| zE uG <| zE uG <| zT (kU jR) <| zM <| zZ) ?_
 refine jH ⟨_, (kZ (cs := (bx (jM (jC (Rat.divInt n d))))) (d := (jM (jC (Rat.divInt n d)))) rfl rfl jR rfl rfl (.tmp (d := (.val (.int .i64 (0)))) rfl .nil)), ?_⟩
 rfl
theorem qs_of (n : Int) (hnl : -9223372036854775808 ≤ n) (hnh : n ≤ 9223372036854775807) (d : Int) (hdl : -9223372036854775808 ≤ d) (hdh : d ≤ 9223372036854775807) (hd : d ≠ 0) : kD Tryz.prog 63 [(.val (.int .i64 (n))), (.val (.int .i64 (d)))] (.tup [(jM (jC (Rat.divInt n d))), (.val (.int .i64 (0)))]) := by
 refine jK Tryz.func63 rfl cb63 rfl ?_
 show uY _ _ _ _ ⟨[(0, (vi n)), (1, (vi d))], []⟩
 refine jA <| kx [(4, (.ref 0 0))] [(0, some (bx (jM (jV.mk (jG.mk false []) (jG.mk false [])))))] (zN (qP 0 qF qQ) <| zM <| zZ) ?_
 refine jA <| kx [(5, (vi 0))] [(0, some (bx (jM (jC (Rat.divInt n d)))))] (zM <| zE (jX (g_whole1 n (by omega) (by omega))) <| zM <| zE (jX (g_whole1 d (by omega) (by omega))) <| zE (jX (g_newO (kN n) n (gN (iok_int (z := n) (by omega) (by omega)) (by decide)) (kN d) d (gN (iok_int (z := d) (by omega) (by omega)) (by decide)) hd)) <| zE uG <| zE uG <| zT (kU jR) <| zM <| zZ) ?_
 refine jH ⟨_, (kZ (cs := (bx (jM (jC (Rat.divInt n d))))) (d := (jM (jC (Rat.divInt n d)))) rfl rfl jR rfl rfl (.tmp (d := (.val (.int .i64 (0)))) rfl .nil)), ?_⟩
 rfl
theorem q_rmat (a b c d : Int) (ha : -1048576 ≤ a ∧ a ≤ 1048576) (hb : -1048576 ≤ b ∧ b ≤ 1048576) (hc : -1048576 ≤ c ∧ c ≤ 1048576) (hd : -1048576 ≤ d ∧ d ≤ 1048576) (hq : gC a b c d = 0) (hn0 : nq a b c d ≠ 0) : kD Tryz.prog 129 [(qX (jO.mk a b c d))] (.tup [(.sl 52 1 (List.map kR [[(jC (Q00 a b c d)), (jC (Q01 a b c d)), (jC (Q02 a b c d))], [(jC (Q10 a b c d)), (jC (Q11 a b c d)), (jC (Q12 a b c d))], [(jC (Q20 a b c d)), (jC (Q21 a b c d)), (jC (Q22 a b c d))]])), (.val (.int .i64 (0)))]) := by
 have saa := vD ha ha
 have sab := vD ha hb
 have sac := vD ha hc
 have sad := vD ha hd
 have sbb := vD hb hb
 have sbc := vD hb hc
 have sbd := vD hb hd
 have scc := vD hc hc
 have scd := vD hc hd
 have sdd := vD hd hd
 have hnq := yN ha hb hc hd
 let y13 := (jC (Rat.divInt (2 * ((c * d) + (a * b))) (nq a b c d)))
 let y12 := (jC (Rat.divInt (2 * ((b * d) - (a * c))) (nq a b c d)))
 let y11 := (jC (Rat.divInt (2 * ((c * d) - (a * b))) (nq a b c d)))
 let y10 := (jC (Rat.divInt (2 * ((b * c) + (a * d))) (nq a b c d)))
 let y9 := (jC (Rat.divInt (2 * ((b * d) + (a * c))) (nq a b c d)))
 let y8 := (jC (Rat.divInt (2 * ((b * c) - (a * d))) (nq a b c d)))
 let y7 := (jC (Rat.divInt ((((a * a) - (b * b)) - (c * c)) + (d * d)) (nq a b c d)))
 let y6 := (jC (Rat.divInt ((((a * a) - (b * b)) + (c * c)) - (d * d)) (nq a b c d)))
 let y5 := (jC (Rat.divInt ((((a * a) + (b * b)) - (c * c)) - (d * d)) (nq a b c d)))
 let y4 := (encA203 (A3.mk (((2 : Nat) : Int) * ((b * d) - (a * c))) (((2 : Nat) : Int) * ((c * d) + (a * b))) ((((a * a) - (b * b)) - (c * c)) + (d * d))))
 let y3 := (encA203 (A3.mk (((2 : Nat) : Int) * ((b * c) + (a * d))) ((((a * a) - (b * b)) + (c * c)) - (d * d)) (((2 : Nat) : Int) * ((c * d) - (a * b)))))
 let y2 := (encA203 (A3.mk ((((a * a) + (b * b)) - (c * c)) - (d * d)) (((2 : Nat) : Int) * ((b * c) - (a * d))) (((2 : Nat) : Int) * ((b * d) + (a * c)))))
 let y1 := (encA204 (A3.mk (A3.mk ((((a * a) + (b * b)) - (c * c)) - (d * d)) (((2 : Nat) : Int) * ((b * c) - (a * d))) (((2 : Nat) : Int) * ((b * d) + (a * c)))) (A3.mk (((2 : Nat) : Int) * ((b * c) + (a * d))) ((((a * a) - (b * b)) + (c * c)) - (d * d)) (((2 : Nat) : Int) * ((c * d) - (a * b)))) (A3.mk (((2 : Nat) : Int) * ((b * d) - (a * c))) (((2 : Nat) : Int) * ((c * d) + (a * b))) ((((a * a) - (b * b)) - (c * c)) + (d * d)))))
 refine jK Tryz.func129 rfl cb129 rfl ?_
 show uY _ _ _ _ ⟨[(0, (.d (qX (jO.mk a b c d))))], []⟩
 refine jA <| kx [(1, (.ref 0 0))] [(0, some (bx (qX (jO.mk a b c d))))] (zN (vN 0) <| zE (oNl 52 1) <| zM <| zZ) ?_
 refine jA <| jA <| kx [(4, (kE (gC a b c d)))] [] (zR (jZ yR) <| zE (jX (q_chk a b c d)) <| zM <| zZ) ?_
 refine jA <| kx [(21, (vb false))] [] (zM <| zE (qN false dL (by exact bne_eq_false_iff_eq.2 (by rw [show (gC a b c d) = 0 from hq]; rfl))) <| zZ) ?_
 refine kG ?_
 refine jD <| jA <| kd [(5, (vi a)), (6, (vi b)), (7, (vi c)), (8, (vi d))] [] mo (wE (kO mZ) <| wR (uM uH) <| wE (kO cG) <| wR (uM uH) <| wE (kO cA) <| wR (uM uH) <| wE (kO mY) <| wR (uM uH) <| wM <| wM <| wM <| wM <| wZ) ?_
 refine jA <| kx [(9, (.ref 1 0))] [(1, some (bx y1))] (zM <| zM <| zE (gY (a * a) (hr := by exact (qG rfl (by simp only [vY]; omega) (by simp only [vZ]; omega)))) <| zM <| zM <| zE (gY (b * b) (hr := by exact (qG rfl (by simp only [vY]; omega) (by simp only [vZ]; omega)))) <| zE (zAd ((a * a) + (b * b)) (hr := by exact (qG rfl (by simp only [vY]; omega) (by simp only [vZ]; omega)))) <| zM <| zM <| zE (gY (c * c) (hr := by exact (qG rfl (by simp only [vY]; omega) (by simp only [vZ]; omega)))) <| zE (dJ (((a * a) + (b * b)) - (c * c)) (hr := by exact (qG rfl (by simp only [vY]; omega) (by simp only [vZ]; omega)))) <| zM <| zM <| zE (gY (d * d) (hr := by exact (qG rfl (by simp only [vY]; omega) (by simp only [vZ]; omega)))) <| zE (dJ ((((a * a) + (b * b)) - (c * c)) - (d * d)) (hr := by exact (qG rfl (by simp only [vY]; omega) (by simp only [vZ]; omega)))) <| zM <| zM <| zE (gY (b * c) (hr := by exact (qG rfl (by simp only [vY]; omega) (by simp only [vZ]; omega)))) <| zM <| zM <| zE (gY (a * d) (hr := by exact (qG rfl (by simp only [vY]; omega) (by simp only [vZ]; omega)))) <| zE (dJ ((b * c) - (a * d)) (hr := by exact (qG rfl (by simp only [vY]; omega) (by simp only [vZ]; omega)))) <| zE (gY (((2 : Nat) : Int) * ((b * c) - (a * d))) (hr := by exact (qG rfl (by simp only [vY]; omega) (by simp only [vZ]; omega)))) <| zM <| zM <| zE (gY (b * d) (hr := by exact (qG rfl (by simp only [vY]; omega) (by simp only [vZ]; omega)))) <| zM <| zM <| zE (gY (a * c) (hr := by exact (qG rfl (by simp only [vY]; omega) (by simp only [vZ]; omega)))) <| zE (zAd ((b * d) + (a * c)) (hr := by exact (qG rfl (by simp only [vY]; omega) (by simp only [vZ]; omega)))) <| zE (gY (((2 : Nat) : Int) * ((b * d) + (a * c))) (hr := by exact (qG rfl (by simp only [vY]; omega) (by simp only [vZ]; omega)))) <| zE (oBf ar203 ze203 zo203) <| zM <| zM <| zE (gY (b * c) (hr := by exact (qG rfl (by simp only [vY]; omega) (by simp only [vZ]; omega)))) <| zM <| zM <| zE (gY (a * d) (hr := by exact (qG rfl (by simp only [vY]; omega) (by simp only [vZ]; omega)))) <| zE (zAd ((b * c) + (a * d)) (hr := by exact (qG rfl (by simp only [vY]; omega) (by simp only [vZ]; omega)))) <| zE (gY (((2 : Nat) : Int) * ((b * c) + (a * d))) (hr := by exact (qG rfl (by simp only [vY]; omega) (by simp only [vZ]; omega)))) <| zM <| zM <| zE (gY (a * a) (hr := by exact (qG rfl (by simp only [vY]; omega) (by simp only [vZ]; omega)))) <| zM <| zM <| zE (gY (b * b) (hr := by exact (qG rfl (by simp only [vY]; omega) (by simp only [vZ]; omega)))) <| zE (dJ ((a * a) - (b * b)) (hr := by exact (qG rfl (by simp only [vY]; omega) (by simp only [vZ]; omega)))) <| zM <| zM <| zE (gY (c * c) (hr := by exact (qG rfl (by simp only [vY]; omega) (by simp only [vZ]; omega)))) <| zE (zAd (((a * a) - (b * b)) + (c * c)) (hr := by exact (qG rfl (by simp only [vY]; omega) (by simp only [vZ]; omega)))) <| zM <| zM <| zE (gY (d * d) (hr := by exact (qG rfl (by simp only [vY]; omega) (by simp only [vZ]; omega)))) <| zE (dJ ((((a * a) - (b * b)) + (c * c)) - (d * d)) (hr := by exact (qG rfl (by simp only [vY]; omega) (by simp only [vZ]; omega)))) <| zM <| zM <| zE (gY (c * d) (hr := by exact (qG rfl (by simp only [vY]; omega) (by simp only [vZ]; omega)))) <| zM <| zM <| zE (gY (a * b) (hr := by exact (qG rfl (by simp only [vY]; omega) (by simp only [vZ]; omega)))) <| zE (dJ ((c * d) - (a * b)) (hr := by exact (qG rfl (by simp only [vY]; omega) (by simp only [vZ]; omega)))) <| zE (gY (((2 : Nat) : Int) * ((c * d) - (a * b))) (hr := by exact (qG rfl (by simp only [vY]; omega) (by simp only [vZ]; omega)))) <| zE (oBf ar203 ze203 zo203) <| zM <| zM <| zE (gY (b * d) (hr := by exact (qG rfl (by simp only [vY]; omega) (by simp only [vZ]; omega)))) <| zM <| zM <| zE (gY (a * c) (hr := by exact (qG rfl (by simp only [vY]; omega) (by simp only [vZ]; omega)))) <| zE (dJ ((b * d) - (a * c)) (hr := by exact (qG rfl (by simp only [vY]; omega) (by simp only [vZ]; omega)))) <| zE (gY (((2 : Nat) : Int) * ((b * d) - (a * c))) (hr := by exact (qG rfl (by simp only [vY]; omega) (by simp only [vZ]; omega)))) <| zM <| zM <| zE (gY (c * d) (hr := by exact (qG rfl (by simp only [vY]; omega) (by simp only [vZ]; omega)))) <| zM <| zM <| zE (gY (a * b) (hr := by exact (qG rfl (by simp only [vY]; omega) (by simp only [vZ]; omega)))) <| zE (zAd ((c * d) + (a * b)) (hr := by exact (qG rfl (by simp only [vY]; omega) (by simp only [vZ]; omega)))) <| zE (gY (((2 : Nat) : Int) * ((c * d) + (a * b))) (hr := by exact (qG rfl (by simp only [vY]; omega) (by simp only [vZ]; omega)))) <| zM <| zM <| zE (gY (a * a) (hr := by exact (qG rfl (by simp only [vY]; omega) (by simp only [vZ]; omega)))) <| zM <| zM <| zE (gY (b * b) (hr := by exact (qG rfl (by simp only [vY]; omega) (by simp only [vZ]; omega)))) <| zE (dJ ((a * a) - (b * b)) (hr := by exact (qG rfl (by simp only [vY]; omega) (by simp only [vZ]; omega)))) <| zM <| zM <| zE (gY (c * c) (hr := by exact (qG rfl (by simp only [vY]; omega) (by simp only [vZ]; omega)))) <| zE (dJ (((a * a) - (b * b)) - (c * c)) (hr := by exact (qG rfl (by simp only [vY]; omega) (by simp only [vZ]; omega)))) <| zM <| zM <| zE (gY (d * d) (hr := by exact (qG rfl (by simp only [vY]; omega) (by simp only [vZ]; omega)))) <| zE (zAd ((((a * a) - (b * b)) - (c * c)) + (d * d)) (hr := by exact (qG rfl (by simp only [vY]; omega) (by simp only [vZ]; omega)))) <| zE (oBf ar203 ze203 zo203) <| zE (oBf ar204 ze204 zo204) <| zN (qP 1 ze204 zo204) <| zT (kU sh204) <| zZ) ?_
 refine jA <| kx [(10, (.own 2 52 1 0))] [(2, some (bm kR []))] (zO 2 52 1 <| zZ) ?_
 refine jA <| jA <| kx [(128, (.d y1)), (129, (kE 0))] [] (zR (jZ sh204) <| zM <| zZ) ?_
 refine jE <| kW 20 ?_
 refine qC <| jA <| kx [(130, (vb true))] [] (zE (qN true qM) <| zZ) ?_
 refine jA <| jY ?_
 refine jD <| jA <| jE <| jA <| kx [(12, (.ref 3 0))] [(3, some (bx y2))] (zE (oXa ar204 sh203 (fun h => by cases h) 0) <| zH (qP 3 ze203 zo203) <| zT (kU sh203) <| zZ) ?_
 refine jA <| kx [(13, (.own 4 42 4 0))] [(4, some (fZ jM []))] (zO 4 42 4 <| zZ) ?_
 refine jA <| jA <| kx [(132, (.d y2)), (133, (kE 0))] [] (zR (jZ sh203) <| zM <| zZ) ?_
 refine jE <| kW 20 ?_
 refine qC <| jA <| kx [(134, (vb true))] [] (zE (qN true qM) <| zZ) ?_
 refine jA <| jY ?_
 refine jD <| jA <| jE <| jA <| kx [(15, (vi ((((a * a) + (b * b)) - (c * c)) - (d * d))))] [] (zE (oXa ar203 uH (fun _ => rfl) 0) <| zM <| zZ) ?_
 refine jA ?_
 have bn1 : QL (Rat.divInt ((((a * a) + (b * b)) - (c * c)) - (d * d)) (nq a b c d)) 3 := (qL (n := 3) (jP (by omega) (by omega)) (jP (by omega) (by omega)) (by decide))
 refine kx [(16, (.ref 5 0))] [(5, some (bx (jM y5)))] (zM <| zR (jZ yR) <| zE (jX (dN a b c d (by omega) (by omega) (by omega) (by omega))) <| zE (jX (q_of ((((a * a) + (b * b)) - (c * c)) - (d * d)) (by omega) (by omega) (nq a b c d) (by omega) (by omega) hn0)) <| zM <| zE uG <| zE uG <| zH (qP 5 qF qQ) <| zT (kU jR) <| zM <| zZ) ?_
 refine kV (wk (l := [(1, (.ref 0 0)), (10, (.own 2 52 1 0)), (13, (.own 4 42 4 0)), (16, (.ref 5 0)), (128, (.d y1)), (129, (kE 0)), (132, (.d y2)), (133, (kE 0))]) (b := [(0, some (bx (qX (jO.mk a b c d)))), (2, some (bm kR [])), (4, some (fZ jM [])), (5, some (bx (jM y5)))])) ?_
 refine kf [(13, (.own 4 42 4 (([] ++ [y5]).length)))] [(4, some (fZ jM ([] ++ [y5])))] (zM <| zR (jZ jR) <| zE (nM vV qF qQ) <| zAS jM [] [y5] rfl vV qF by42 (hbig := by exact (by simp +zetaDelta [maxLen] <;> omega)) (hbig' := by exact (by simp +zetaDelta <;> omega)) <| zM <| zF) ?_
 refine kx [(133, (kE 1))] [] (zE (uI 1 (hr := by decide)) <| zM <| zZ) ?_
 refine jJ (jW.refl _) ?_
 refine jA <| kx [(134, (vb true))] [] (zE (qN true qM) <| zZ) ?_
 refine jA <| jY ?_
 refine jD <| jA <| jE <| jA <| kx [(15, (vi (((2 : Nat) : Int) * ((b * c) - (a * d)))))] [] (zE (oXa ar203 uH (fun _ => rfl) 1) <| zM <| zZ) ?_
 refine jA ?_
 have bn2 : QL (Rat.divInt (2 * ((b * c) - (a * d))) (nq a b c d)) 3 := (qL (n := 3) (jP (by omega) (by omega)) (jP (by omega) (by omega)) (by decide))
 refine kx [(16, (.ref 6 0))] [(6, some (bx (jM y8)))] (zM <| zR (jZ yR) <| zE (jX (dN a b c d (by omega) (by omega) (by omega) (by omega))) <| zE (jX (q_of (((2 : Nat) : Int) * ((b * c) - (a * d))) (by omega) (by omega) (nq a b c d) (by omega) (by omega) hn0)) <| zM <| zE uG <| zE uG <| zH (qP 6 qF qQ) <| zT (kU jR) <| zM <| zZ) ?_
 refine kf [(13, (.own 4 42 4 ((([] ++ [y5]) ++ [y8]).length)))] [(4, some (fZ jM (([] ++ [y5]) ++ [y8])))] (zM <| zR (jZ jR) <| zE (nM vV qF qQ) <| zAS jM ([] ++ [y5]) [y8] rfl vV qF by42 (hbig := by exact (by simp +zetaDelta [maxLen] <;> omega)) (hbig' := by exact (by simp +zetaDelta <;> omega)) <| zM <| zF) ?_
 refine kx [(133, (kE 2))] [] (zE (uI 2 (hr := by decide)) <| zM <| zZ) ?_
 refine jJ (jW.refl _) ?_
 refine jA <| kx [(134, (vb true))] [] (zE (qN true qM) <| zZ) ?_
 refine jA <| jY ?_
 refine jD <| jA <| jE <| jA <| kx [(15, (vi (((2 : Nat) : Int) * ((b * d) + (a * c)))))] [] (zE (oXa ar203 uH (fun _ => rfl) 2) <| zM <| zZ) ?_
 refine jA ?_
 have bn3 : QL (Rat.divInt (2 * ((b * d) + (a * c))) (nq a b c d)) 3 := (qL (n := 3) (jP (by omega) (by omega)) (jP (by omega) (by omega)) (by decide))
 refine kx [(16, (.ref 7 0))] [(7, some (bx (jM y9)))] (zM <| zR (jZ yR) <| zE (jX (dN a b c d (by omega) (by omega) (by omega) (by omega))) <| zE (jX (q_of (((2 : Nat) : Int) * ((b * d) + (a * c))) (by omega) (by omega) (nq a b c d) (by omega) (by omega) hn0)) <| zM <| zE uG <| zE uG <| zH (qP 7 qF qQ) <| zT (kU jR) <| zM <| zZ) ?_
 refine kf [(13, (.own 4 42 4 (((([] ++ [y5]) ++ [y8]) ++ [y9]).length)))] [(4, some (fZ jM ((([] ++ [y5]) ++ [y8]) ++ [y9])))] (zM <| zR (jZ jR) <| zE (nM vV qF qQ) <| zAS jM (([] ++ [y5]) ++ [y8]) [y9] rfl vV qF by42 (hbig := by exact (by simp +zetaDelta [maxLen] <;> omega)) (hbig' := by exact (by simp +zetaDelta <;> omega)) <| zM <| zF) ?_
 refine kx [(133, (kE 3))] [] (zE (uI 3 (hr := by decide)) <| zM <| zZ) ?_
 refine jJ (jW.refl _) ?_
 refine jA <| kx [(134, (vb false))] [] (zE (qN false qM) <| zZ) ?_
 refine jA <| kG ?_
 refine kK <| kV (xX (t := 13) (k := 4) (es := List.map jM ((([] ++ [y5]) ++ [y8]) ++ [y9])) rfl rfl (gD _ _ (fun _ => rfl)) (xQ _ _ rfl) (dS jM ((([] ++ [y5]) ++ [y8]) ++ [y9]) (fun _ => rfl) rfl)) ?_
 refine kf [(10, (.own 2 52 1 (([] ++ [((([] ++ [y5]) ++ [y8]) ++ [y9])]).length)))] [(2, some (bm kR ([] ++ [((([] ++ [y5]) ++ [y8]) ++ [y9])])))] (zM <| zM <| zE (nM nG aR zo52) <| zA kR [] [((([] ++ [y5]) ++ [y8]) ++ [y9])] rfl nG aR by52 (hbig := by exact (by simp +zetaDelta [maxLen] <;> omega)) (hbig' := by exact (by simp +zetaDelta <;> omega)) <| zM <| zF) ?_
 refine kV (wk (l := [(1, (.ref 0 0)), (10, (.own 2 52 1 (([] ++ [((([] ++ [y5]) ++ [y8]) ++ [y9])]).length))), (128, (.d y1)), (129, (kE 0))]) (b := [(0, some (bx (qX (jO.mk a b c d)))), (2, some (bm kR ([] ++ [((([] ++ [y5]) ++ [y8]) ++ [y9])])))])) ?_
 refine kx [(129, (kE 1))] [] (zE (uI 1 (hr := by decide)) <| zM <| zZ) ?_
 refine jJ (jW.refl _) ?_
 refine jA <| kx [(130, (vb true))] [] (zE (qN true qM) <| zZ) ?_
 refine jA <| jY ?_
 refine jD <| jA <| jE <| jA <| kx [(12, (.ref 8 0))] [(8, some (bx y3))] (zE (oXa ar204 sh203 (fun h => by cases h) 1) <| zH (qP 8 ze203 zo203) <| zT (kU sh203) <| zZ) ?_
 refine jA <| kx [(13, (.own 9 42 4 0))] [(9, some (fZ jM []))] (zO 9 42 4 <| zZ) ?_
 refine jA <| jA <| kx [(132, (.d y3)), (133, (kE 0))] [] (zR (jZ sh203) <| zM <| zZ) ?_
 refine jE <| kW 20 ?_
 refine qC <| jA <| kx [(134, (vb true))] [] (zE (qN true qM) <| zZ) ?_
 refine jA <| jY ?_
 refine jD <| jA <| jE <| jA <| kx [(15, (vi (((2 : Nat) : Int) * ((b * c) + (a * d)))))] [] (zE (oXa ar203 uH (fun _ => rfl) 0) <| zM <| zZ) ?_
 refine jA ?_
 have bn4 : QL (Rat.divInt (2 * ((b * c) + (a * d))) (nq a b c d)) 3 := (qL (n := 3) (jP (by omega) (by omega)) (jP (by omega) (by omega)) (by decide))
 refine kx [(16, (.ref 10 0))] [(10, some (bx (jM y10)))] (zM <| zR (jZ yR) <| zE (jX (dN a b c d (by omega) (by omega) (by omega) (by omega))) <| zE (jX (q_of (((2 : Nat) : Int) * ((b * c) + (a * d))) (by omega) (by omega) (nq a b c d) (by omega) (by omega) hn0)) <| zM <| zE uG <| zE uG <| zH (qP 10 qF qQ) <| zT (kU jR) <| zM <| zZ) ?_
 refine kf [(13, (.own 9 42 4 (([] ++ [y10]).length)))] [(9, some (fZ jM ([] ++ [y10])))] (zM <| zR (jZ jR) <| zE (nM vV qF qQ) <| zAS jM [] [y10] rfl vV qF by42 (hbig := by exact (by simp +zetaDelta [maxLen] <;> omega)) (hbig' := by exact (by simp +zetaDelta <;> omega)) <| zM <| zF) ?_
 refine kx [(133, (kE 1))] [] (zE (uI 1 (hr := by decide)) <| zM <| zZ) ?_
 refine jJ (jW.refl _) ?_
 refine jA <| kx [(134, (vb true))] [] (zE (qN true qM) <| zZ) ?_
 refine jA <| jY ?_
 refine jD <| jA <| jE <| jA <| kx [(15, (vi ((((a * a) - (b * b)) + (c * c)) - (d * d))))] [] (zE (oXa ar203 uH (fun _ => rfl) 1) <| zM <| zZ) ?_
 refine jA ?_
 have bn5 : QL (Rat.divInt ((((a * a) - (b * b)) + (c * c)) - (d * d)) (nq a b c d)) 3 := (qL (n := 3) (jP (by omega) (by omega)) (jP (by omega) (by omega)) (by decide))
 refine kx [(16, (.ref 11 0))] [(11, some (bx (jM y6)))] (zM <| zR (jZ yR) <| zE (jX (dN a b c d (by omega) (by omega) (by omega) (by omega))) <| zE (jX (q_of ((((a * a) - (b * b)) + (c * c)) - (d * d)) (by omega) (by omega) (nq a b c d) (by omega) (by omega) hn0)) <| zM <| zE uG <| zE uG <| zH (qP 11 qF qQ) <| zT (kU jR) <| zM <| zZ) ?_
 refine kf [(13, (.own 9 42 4 ((([] ++ [y10]) ++ [y6]).length)))] [(9, some (fZ jM (([] ++ [y10]) ++ [y6])))] (zM <| zR (jZ jR) <| zE (nM vV qF qQ) <| zAS jM ([] ++ [y10]) [y6] rfl vV qF by42 (hbig := by exact (by simp +zetaDelta [maxLen] <;> omega)) (hbig' := by exact (by simp +zetaDelta <;> omega)) <| zM <| zF) ?_
 refine kV (wk (l := [(1, (.ref 0 0)), (10, (.own 2 52 1 (([] ++ [((([] ++ [y5]) ++ [y8]) ++ [y9])]).length))), (13, (.own 9 42 4 ((([] ++ [y10]) ++ [y6]).length))), (128, (.d y1)), (129, (kE 1)), (132, (.d y3)), (133, (kE 1))]) (b := [(0, some (bx (qX (jO.mk a b c d)))), (2, some (bm kR ([] ++ [((([] ++ [y5]) ++ [y8]) ++ [y9])]))), (9, some (fZ jM (([] ++ [y10]) ++ [y6])))])) ?_
 refine kx [(133, (kE 2))] [] (zE (uI 2 (hr := by decide)) <| zM <| zZ) ?_
 refine jJ (jW.refl _) ?_
 refine jA <| kx [(134, (vb true))] [] (zE (qN true qM) <| zZ) ?_
 refine jA <| jY ?_
 refine jD <| jA <| jE <| jA <| kx [(15, (vi (((2 : Nat) : Int) * ((c * d) - (a * b)))))] [] (zE (oXa ar203 uH (fun _ => rfl) 2) <| zM <| zZ) ?_
 refine jA ?_
 have bn6 : QL (Rat.divInt (2 * ((c * d) - (a * b))) (nq a b c d)) 3 := (qL (n := 3) (jP (by omega) (by omega)) (jP (by omega) (by omega)) (by decide))
 refine kx [(16, (.ref 12 0))] [(12, some (bx (jM y11)))] (zM <| zR (jZ yR) <| zE (jX (dN a b c d (by omega) (by omega) (by omega) (by omega))) <| zE (jX (q_of (((2 : Nat) : Int) * ((c * d) - (a * b))) (by omega) (by omega) (nq a b c d) (by omega) (by omega) hn0)) <| zM <| zE uG <| zE uG <| zH (qP 12 qF qQ) <| zT (kU jR) <| zM <| zZ) ?_
 refine kf [(13, (.own 9 42 4 (((([] ++ [y10]) ++ [y6]) ++ [y11]).length)))] [(9, some (fZ jM ((([] ++ [y10]) ++ [y6]) ++ [y11])))] (zM <| zR (jZ jR) <| zE (nM vV qF qQ) <| zAS jM (([] ++ [y10]) ++ [y6]) [y11] rfl vV qF by42 (hbig := by exact (by simp +zetaDelta [maxLen] <;> omega)) (hbig' := by exact (by simp +zetaDelta <;> omega)) <| zM <| zF) ?_
 refine kx [(133, (kE 3))] [] (zE (uI 3 (hr := by decide)) <| zM <| zZ) ?_
 refine jJ (jW.refl _) ?_
 refine jA <| kx [(134, (vb false))] [] (zE (qN false qM) <| zZ) ?_
 refine jA <| kG ?_
 refine kK <| kV (xX (t := 13) (k := 9) (es := List.map jM ((([] ++ [y10]) ++ [y6]) ++ [y11])) rfl rfl (gD _ _ (fun _ => rfl)) (xQ _ _ rfl) (dS jM ((([] ++ [y10]) ++ [y6]) ++ [y11]) (fun _ => rfl) rfl)) ?_
 refine kf [(10, (.own 2 52 1 ((([] ++ [((([] ++ [y5]) ++ [y8]) ++ [y9])]) ++ [((([] ++ [y10]) ++ [y6]) ++ [y11])]).length)))] [(2, some (bm kR (([] ++ [((([] ++ [y5]) ++ [y8]) ++ [y9])]) ++ [((([] ++ [y10]) ++ [y6]) ++ [y11])])))] (zM <| zM <| zE (nM nG aR zo52) <| zA kR ([] ++ [((([] ++ [y5]) ++ [y8]) ++ [y9])]) [((([] ++ [y10]) ++ [y6]) ++ [y11])] rfl nG aR by52 (hbig := by exact (by simp +zetaDelta [maxLen] <;> omega)) (hbig' := by exact (by simp +zetaDelta <;> omega)) <| zM <| zF) ?_
 refine kx [(129, (kE 2))] [] (zE (uI 2 (hr := by decide)) <| zM <| zZ) ?_
 refine jJ (jW.refl _) ?_
 refine jA <| kx [(130, (vb true))] [] (zE (qN true qM) <| zZ) ?_
 refine jA <| jY ?_
 refine jD <| jA <| jE <| jA <| kx [(12, (.ref 13 0))] [(13, some (bx y4))] (zE (oXa ar204 sh203 (fun h => by cases h) 2) <| zH (qP 13 ze203 zo203) <| zT (kU sh203) <| zZ) ?_
 refine jA <| kx [(13, (.own 14 42 4 0))] [(14, some (fZ jM []))] (zO 14 42 4 <| zZ) ?_
 refine jA <| jA <| kx [(132, (.d y4)), (133, (kE 0))] [] (zR (jZ sh203) <| zM <| zZ) ?_
 refine jE <| kW 20 ?_
 refine qC <| jA <| kx [(134, (vb true))] [] (zE (qN true qM) <| zZ) ?_
 refine jA <| jY ?_
 refine jD <| jA <| jE <| jA <| kV (wk (l := [(1, (.ref 0 0)), (10, (.own 2 52 1 ((([] ++ [((([] ++ [y5]) ++ [y8]) ++ [y9])]) ++ [((([] ++ [y10]) ++ [y6]) ++ [y11])]).length))), (13, (.own 14 42 4 0)), (128, (.d y1)), (129, (kE 2)), (132, (.d y4)), (133, (kE 0)), (134, (vb true))]) (b := [(0, some (bx (qX (jO.mk a b c d)))), (14, some (fZ jM [])), (2, some (bm kR (([] ++ [((([] ++ [y5]) ++ [y8]) ++ [y9])]) ++ [((([] ++ [y10]) ++ [y6]) ++ [y11])])))])) ?_
 refine kx [(15, (vi (((2 : Nat) : Int) * ((b * d) - (a * c)))))] [] (zE (oXa ar203 uH (fun _ => rfl) 0) <| zM <| zZ) ?_
 refine jA ?_
 have bn7 : QL (Rat.divInt (2 * ((b * d) - (a * c))) (nq a b c d)) 3 := (qL (n := 3) (jP (by omega) (by omega)) (jP (by omega) (by omega)) (by decide))
 refine kx [(16, (.ref 15 0))] [(15, some (bx (jM y12)))] (zM <| zR (jZ yR) <| zE (jX (dN a b c d (by omega) (by omega) (by omega) (by omega))) <| zE (jX (q_of (((2 : Nat) : Int) * ((b * d) - (a * c))) (by omega) (by omega) (nq a b c d) (by omega) (by omega) hn0)) <| zM <| zE uG <| zE uG <| zH (qP 15 qF qQ) <| zT (kU jR) <| zM <| zZ) ?_
 refine kf [(13, (.own 14 42 4 (([] ++ [y12]).length)))] [(14, some (fZ jM ([] ++ [y12])))] (zM <| zR (jZ jR) <| zE (nM vV qF qQ) <| zAS jM [] [y12] rfl vV qF by42 (hbig := by exact (by simp +zetaDelta [maxLen] <;> omega)) (hbig' := by exact (by simp +zetaDelta <;> omega)) <| zM <| zF) ?_
 refine kx [(133, (kE 1))] [] (zE (uI 1 (hr := by decide)) <| zM <| zZ) ?_
 refine jJ (jW.refl _) ?_
 refine jA <| kx [(134, (vb true))] [] (zE (qN true qM) <| zZ) ?_
 refine jA <| jY ?_
 refine jD <| jA <| jE <| jA <| kx [(15, (vi (((2 : Nat) : Int) * ((c * d) + (a * b)))))] [] (zE (oXa ar203 uH (fun _ => rfl) 1) <| zM <| zZ) ?_
 refine jA ?_
 have bn8 : QL (Rat.divInt (2 * ((c * d) + (a * b))) (nq a b c d)) 3 := (qL (n := 3) (jP (by omega) (by omega)) (jP (by omega) (by omega)) (by decide))
 refine kx [(16, (.ref 16 0))] [(16, some (bx (jM y13)))] (zM <| zR (jZ yR) <| zE (jX (dN a b c d (by omega) (by omega) (by omega) (by omega))) <| zE (jX (q_of (((2 : Nat) : Int) * ((c * d) + (a * b))) (by omega) (by omega) (nq a b c d) (by omega) (by omega) hn0)) <| zM <| zE uG <| zE uG <| zH (qP 16 qF qQ) <| zT (kU jR) <| zM <| zZ) ?_
 refine kf [(13, (.own 14 42 4 ((([] ++ [y12]) ++ [y13]).length)))] [(14, some (fZ jM (([] ++ [y12]) ++ [y13])))] (zM <| zR (jZ jR) <| zE (nM vV qF qQ) <| zAS jM ([] ++ [y12]) [y13] rfl vV qF by42 (hbig := by exact (by simp +zetaDelta [maxLen] <;> omega)) (hbig' := by exact (by simp +zetaDelta <;> omega)) <| zM <| zF) ?_
 refine kx [(133, (kE 2))] [] (zE (uI 2 (hr := by decide)) <| zM <| zZ) ?_
 refine jJ (jW.refl _) ?_
 refine jA <| kx [(134, (vb true))] [] (zE (qN true qM) <| zZ) ?_
 refine jA <| jY ?_
 refine jD <| jA <| jE <| jA <| kx [(15, (vi ((((a * a) - (b * b)) - (c * c)) + (d * d))))] [] (zE (oXa ar203 uH (fun _ => rfl) 2) <| zM <| zZ) ?_
 refine jA ?_
 have bn9 : QL (Rat.divInt ((((a * a) - (b * b)) - (c * c)) + (d * d)) (nq a b c d)) 3 := (qL (n := 3) (jP (by omega) (by omega)) (jP (by omega) (by omega)) (by decide))
 refine kx [(16, (.ref 17 0))] [(17, some (bx (jM y7)))] (zM <| zR (jZ yR) <| zE (jX (dN a b c d (by omega) (by omega) (by omega) (by omega))) <| zE (jX (q_of ((((a * a) - (b * b)) - (c * c)) + (d * d)) (by omega) (by omega) (nq a b c d) (by omega) (by omega) hn0)) <| zM <| zE uG <| zE uG <| zH (qP 17 qF qQ) <| zT (kU jR) <| zM <| zZ) ?_
 refine kf [(13, (.own 14 42 4 (((([] ++ [y12]) ++ [y13]) ++ [y7]).length)))] [(14, some (fZ jM ((([] ++ [y12]) ++ [y13]) ++ [y7])))] (zM <| zR (jZ jR) <| zE (nM vV qF qQ) <| zAS jM (([] ++ [y12]) ++ [y13]) [y7] rfl vV qF by42 (hbig := by exact (by simp +zetaDelta [maxLen] <;> omega)) (hbig' := by exact (by simp +zetaDelta <;> omega)) <| zM <| zF) ?_
 refine kx [(133, (kE 3))] [] (zE (uI 3 (hr := by decide)) <| zM <| zZ) ?_
 refine jJ (jW.refl _) ?_
 refine jA <| kV (wk (l := [(1, (.ref 0 0)), (10, (.own 2 52 1 ((([] ++ [((([] ++ [y5]) ++ [y8]) ++ [y9])]) ++ [((([] ++ [y10]) ++ [y6]) ++ [y11])]).length))), (13, (.own 14 42 4 (((([] ++ [y12]) ++ [y13]) ++ [y7]).length))), (128, (.d y1)), (129, (kE 2)), (132, (.d y4)), (133, (kE 3))]) (b := [(0, some (bx (qX (jO.mk a b c d)))), (14, some (fZ jM ((([] ++ [y12]) ++ [y13]) ++ [y7]))), (2, some (bm kR (([] ++ [((([] ++ [y5]) ++ [y8]) ++ [y9])]) ++ [((([] ++ [y10]) ++ [y6]) ++ [y11])])))])) ?_
 refine kx [(134, (vb false))] [] (zE (qN false qM) <| zZ) ?_
 refine jA <| kG ?_
 refine kK <| kV (xX (t := 13) (k := 14) (es := List.map jM ((([] ++ [y12]) ++ [y13]) ++ [y7])) rfl rfl (gD _ _ (fun _ => rfl)) (xQ _ _ rfl) (dS jM ((([] ++ [y12]) ++ [y13]) ++ [y7]) (fun _ => rfl) rfl)) ?_
 refine kf [(10, (.own 2 52 1 (((([] ++ [((([] ++ [y5]) ++ [y8]) ++ [y9])]) ++ [((([] ++ [y10]) ++ [y6]) ++ [y11])]) ++ [((([] ++ [y12]) ++ [y13]) ++ [y7])]).length)))] [(2, some (bm kR ((([] ++ [((([] ++ [y5]) ++ [y8]) ++ [y9])]) ++ [((([] ++ [y10]) ++ [y6]) ++ [y11])]) ++ [((([] ++ [y12]) ++ [y13]) ++ [y7])])))] (zM <| zM <| zE (nM nG aR zo52) <| zA kR (([] ++ [((([] ++ [y5]) ++ [y8]) ++ [y9])]) ++ [((([] ++ [y10]) ++ [y6]) ++ [y11])]) [((([] ++ [y12]) ++ [y13]) ++ [y7])] rfl nG aR by52 (hbig := by exact (by simp +zetaDelta [maxLen] <;> omega)) (hbig' := by exact (by simp +zetaDelta <;> omega)) <| zM <| zF) ?_
 refine kx [(129, (kE 3))] [] (zE (uI 3 (hr := by decide)) <| zM <| zZ) ?_
 refine jJ (jW.refl _) ?_
 refine jA <| kx [(130, (vb false))] [] (zE (qN false qM) <| zZ) ?_
 refine jA <| kG ?_
 refine kK <| jA <| kV (xX (t := 10) (k := 2) (es := List.map kR ((([] ++ [((([] ++ [y5]) ++ [y8]) ++ [y9])]) ++ [((([] ++ [y10]) ++ [y6]) ++ [y11])]) ++ [((([] ++ [y12]) ++ [y13]) ++ [y7])])) rfl rfl (xL _ _ (fun _ => rfl)) (xQ _ _ rfl) (zP _ _ (fun _ => rfl) rfl)) ?_
 refine kx [(2, (vl 52 1 kR ((([] ++ [((([] ++ [y5]) ++ [y8]) ++ [y9])]) ++ [((([] ++ [y10]) ++ [y6]) ++ [y11])]) ++ [((([] ++ [y12]) ++ [y13]) ++ [y7])]))), (3, (kE 0))] [] (zM <| zM <| zM <| zZ) ?_
 refine jH ⟨_, (.tmp (d := (.sl 52 1 (List.map kR ((([] ++ [((([] ++ [(jC (Rat.divInt ((((a * a) + (b * b)) - (c * c)) - (d * d)) (nq a b c d)))]) ++ [(jC (Rat.divInt (2 * ((b * c) - (a * d))) (nq a b c d)))]) ++ [(jC (Rat.divInt (2 * ((b * d) + (a * c))) (nq a b c d)))])]) ++ [((([] ++ [(jC (Rat.divInt (2 * ((b * c) + (a * d))) (nq a b c d)))]) ++ [(jC (Rat.divInt ((((a * a) - (b * b)) + (c * c)) - (d * d)) (nq a b c d)))]) ++ [(jC (Rat.divInt (2 * ((c * d) - (a * b))) (nq a b c d)))])]) ++ [((([] ++ [(jC (Rat.divInt (2 * ((b * d) - (a * c))) (nq a b c d)))]) ++ [(jC (Rat.divInt (2 * ((c * d) + (a * b))) (nq a b c d)))]) ++ [(jC (Rat.divInt ((((a * a) - (b * b)) - (c * c)) + (d * d)) (nq a b c d)))])])))) rfl (.tmp (d := (.val (.int .i64 (((0 : Nat) : Int))))) rfl .nil)), ?_⟩
 rfl
theorem qs_rmat (a b c d : Int) (ha : -1048576 ≤ a ∧ a ≤ 1048576) (hb : -1048576 ≤ b ∧ b ≤ 1048576) (hc : -1048576 ≤ c ∧ c ≤ 1048576) (hd : -1048576 ≤ d ∧ d ≤ 1048576) (hq : gC a b c d = 0) (hn0 : nq a b c d ≠ 0) : kD Tryz.prog 132 [(qX (jO.mk a b c d))] (.tup [(.sl 52 1 (List.map kR [[(jC (Q00 a b c d)), (jC (Q01 a b c d)), (jC (Q02 a b c d))], [(jC (Q10 a b c d)), (jC (Q11 a b c d)), (jC (Q12 a b c d))], [(jC (Q20 a b c d)), (jC (Q21 a b c d)), (jC (Q22 a b c d))]])), (.val (.int .i64 (0)))]) := by
 have saa := vD ha ha
 have sab := vD ha hb
 have sac := vD ha hc
 have sad := vD ha hd
 have sbb := vD hb hb
 have sbc := vD hb hc
 have sbd := vD hb hd
 have scc := vD hc hc
 have scd := vD hc hd
 have sdd := vD hd hd
 have hnq := yN ha hb hc hd
 let y13 := (jC (Rat.divInt (2 * ((b * d) - (a * c))) (nq a b c d)))
 let y12 := (jC (Rat.divInt (2 * ((b * c) + (a * d))) (nq a b c d)))
 let y11 := (jC (Rat.divInt ((((a * a) - (b * b)) + (c * c)) - (d * d)) (nq a b c d)))
 let y10 := (jC (Rat.divInt ((((a * a) + (b * b)) - (c * c)) - (d * d)) (nq a b c d)))
 let y9 := [y13, (jC (Rat.divInt (2 * ((c * d) + (a * b))) (nq a b c d)))]
 let y8 := [(((2 : Nat) : Int) * ((b * d) - (a * c))), (((2 : Nat) : Int) * ((c * d) + (a * b))), ((((a * a) - (b * b)) - (c * c)) + (d * d))]
 let y7 := [(((2 : Nat) : Int) * ((b * c) + (a * d))), ((((a * a) - (b * b)) + (c * c)) - (d * d)), (((2 : Nat) : Int) * ((c * d) - (a * b)))]
 let y6 := [((((a * a) + (b * b)) - (c * c)) - (d * d)), (((2 : Nat) : Int) * ((b * c) - (a * d))), (((2 : Nat) : Int) * ((b * d) + (a * c)))]
 let y5 := [y12, y11]
 let y4 := [y10, (jC (Rat.divInt (2 * ((b * c) - (a * d))) (nq a b c d)))]
 let y3 := [y13, (jC (Rat.divInt (2 * ((c * d) + (a * b))) (nq a b c d))), (jC (Rat.divInt ((((a * a) - (b * b)) - (c * c)) + (d * d)) (nq a b c d)))]
 let y2 := [y12, y11, (jC (Rat.divInt (2 * ((c * d) - (a * b))) (nq a b c d)))]
 let y1 := [y10, (jC (Rat.divInt (2 * ((b * c) - (a * d))) (nq a b c d))), (jC (Rat.divInt (2 * ((b * d) + (a * c))) (nq a b c d)))]
 refine jK Tryz.func132 rfl cb132 rfl ?_
 show uY _ _ _ _ ⟨[(0, (.d (qX (jO.mk a b c d))))], []⟩
 refine jA <| kx [(1, (.ref 0 0))] [(0, some (bx (qX (jO.mk a b c d))))] (zN (vN 0) <| zE (oNl 52 1) <| zM <| zZ) ?_
 refine jA <| kx [(4, (kE (gC a b c d)))] [] (zR (jZ yR) <| zE (jX (qs_chk a b c d)) <| zM <| zZ) ?_
 refine jA <| jA <| kx [(19, (vb false))] [] (zM <| zE (qN false dL (by exact bne_eq_false_iff_eq.2 (by rw [show (gC a b c d) = 0 from hq]; rfl))) <| zZ) ?_
 refine kG ?_
 refine jD <| jA <| kx [(5, (vi a))] [] (zE (kO mZ) <| zR (uM uH) <| zM <| zZ) ?_
 refine jA <| kx [(6, (vi b))] [] (zE (kO cG) <| zR (uM uH) <| zM <| zZ) ?_
 refine jA <| kx [(7, (vi c))] [] (zE (kO cA) <| zR (uM uH) <| zM <| zZ) ?_
 refine jA <| kx [(8, (vi d))] [] (zE (kO mY) <| zR (uM uH) <| zM <| zZ) ?_
 refine jA <| kx [(9, (vl 74 1 fJ [y6, y7, y8]))] [] (zM <| zM <| zE (gY (a * a) (hr := by exact (qG rfl (by simp only [vY]; omega) (by simp only [vZ]; omega)))) <| zM <| zM <| zE (gY (b * b) (hr := by exact (qG rfl (by simp only [vY]; omega) (by simp only [vZ]; omega)))) <| zE (zAd ((a * a) + (b * b)) (hr := by exact (qG rfl (by simp only [vY]; omega) (by simp only [vZ]; omega)))) <| zM <| zM <| zE (gY (c * c) (hr := by exact (qG rfl (by simp only [vY]; omega) (by simp only [vZ]; omega)))) <| zE (dJ (((a * a) + (b * b)) - (c * c)) (hr := by exact (qG rfl (by simp only [vY]; omega) (by simp only [vZ]; omega)))) <| zM <| zM <| zE (gY (d * d) (hr := by exact (qG rfl (by simp only [vY]; omega) (by simp only [vZ]; omega)))) <| zE (dJ ((((a * a) + (b * b)) - (c * c)) - (d * d)) (hr := by exact (qG rfl (by simp only [vY]; omega) (by simp only [vZ]; omega)))) <| zM <| zM <| zE (gY (b * c) (hr := by exact (qG rfl (by simp only [vY]; omega) (by simp only [vZ]; omega)))) <| zM <| zM <| zE (gY (a * d) (hr := by exact (qG rfl (by simp only [vY]; omega) (by simp only [vZ]; omega)))) <| zE (dJ ((b * c) - (a * d)) (hr := by exact (qG rfl (by simp only [vY]; omega) (by simp only [vZ]; omega)))) <| zE (gY (((2 : Nat) : Int) * ((b * c) - (a * d))) (hr := by exact (qG rfl (by simp only [vY]; omega) (by simp only [vZ]; omega)))) <| zM <| zM <| zE (gY (b * d) (hr := by exact (qG rfl (by simp only [vY]; omega) (by simp only [vZ]; omega)))) <| zM <| zM <| zE (gY (a * c) (hr := by exact (qG rfl (by simp only [vY]; omega) (by simp only [vZ]; omega)))) <| zE (zAd ((b * d) + (a * c)) (hr := by exact (qG rfl (by simp only [vY]; omega) (by simp only [vZ]; omega)))) <| zE (gY (((2 : Nat) : Int) * ((b * d) + (a * c))) (hr := by exact (qG rfl (by simp only [vY]; omega) (by simp only [vZ]; omega)))) <| zE (nM vB ze3 zo3) <| zM <| zM <| zE (gY (b * c) (hr := by exact (qG rfl (by simp only [vY]; omega) (by simp only [vZ]; omega)))) <| zM <| zM <| zE (gY (a * d) (hr := by exact (qG rfl (by simp only [vY]; omega) (by simp only [vZ]; omega)))) <| zE (zAd ((b * c) + (a * d)) (hr := by exact (qG rfl (by simp only [vY]; omega) (by simp only [vZ]; omega)))) <| zE (gY (((2 : Nat) : Int) * ((b * c) + (a * d))) (hr := by exact (qG rfl (by simp only [vY]; omega) (by simp only [vZ]; omega)))) <| zM <| zM <| zE (gY (a * a) (hr := by exact (qG rfl (by simp only [vY]; omega) (by simp only [vZ]; omega)))) <| zM <| zM <| zE (gY (b * b) (hr := by exact (qG rfl (by simp only [vY]; omega) (by simp only [vZ]; omega)))) <| zE (dJ ((a * a) - (b * b)) (hr := by exact (qG rfl (by simp only [vY]; omega) (by simp only [vZ]; omega)))) <| zM <| zM <| zE (gY (c * c) (hr := by exact (qG rfl (by simp only [vY]; omega) (by simp only [vZ]; omega)))) <| zE (zAd (((a * a) - (b * b)) + (c * c)) (hr := by exact (qG rfl (by simp only [vY]; omega) (by simp only [vZ]; omega)))) <| zM <| zM <| zE (gY (d * d) (hr := by exact (qG rfl (by simp only [vY]; omega) (by simp only [vZ]; omega)))) <| zE (dJ ((((a * a) - (b * b)) + (c * c)) - (d * d)) (hr := by exact (qG rfl (by simp only [vY]; omega) (by simp only [vZ]; omega)))) <| zM <| zM <| zE (gY (c * d) (hr := by exact (qG rfl (by simp only [vY]; omega) (by simp only [vZ]; omega)))) <| zM <| zM <| zE (gY (a * b) (hr := by exact (qG rfl (by simp only [vY]; omega) (by simp only [vZ]; omega)))) <| zE (dJ ((c * d) - (a * b)) (hr := by exact (qG rfl (by simp only [vY]; omega) (by simp only [vZ]; omega)))) <| zE (gY (((2 : Nat) : Int) * ((c * d) - (a * b))) (hr := by exact (qG rfl (by simp only [vY]; omega) (by simp only [vZ]; omega)))) <| zE (nM vB ze3 zo3) <| zM <| zM <| zE (gY (b * d) (hr := by exact (qG rfl (by simp only [vY]; omega) (by simp only [vZ]; omega)))) <| zM <| zM <| zE (gY (a * c) (hr := by exact (qG rfl (by simp only [vY]; omega) (by simp only [vZ]; omega)))) <| zE (dJ ((b * d) - (a * c)) (hr := by exact (qG rfl (by simp only [vY]; omega) (by simp only [vZ]; omega)))) <| zE (gY (((2 : Nat) : Int) * ((b * d) - (a * c))) (hr := by exact (qG rfl (by simp only [vY]; omega) (by simp only [vZ]; omega)))) <| zM <| zM <| zE (gY (c * d) (hr := by exact (qG rfl (by simp only [vY]; omega) (by simp only [vZ]; omega)))) <| zM <| zM <| zE (gY (a * b) (hr := by exact (qG rfl (by simp only [vY]; omega) (by simp only [vZ]; omega)))) <| zE (zAd ((c * d) + (a * b)) (hr := by exact (qG rfl (by simp only [vY]; omega) (by simp only [vZ]; omega)))) <| zE (gY (((2 : Nat) : Int) * ((c * d) + (a * b))) (hr := by exact (qG rfl (by simp only [vY]; omega) (by simp only [vZ]; omega)))) <| zM <| zM <| zE (gY (a * a) (hr := by exact (qG rfl (by simp only [vY]; omega) (by simp only [vZ]; omega)))) <| zM <| zM <| zE (gY (b * b) (hr := by exact (qG rfl (by simp only [vY]; omega) (by simp only [vZ]; omega)))) <| zE (dJ ((a * a) - (b * b)) (hr := by exact (qG rfl (by simp only [vY]; omega) (by simp only [vZ]; omega)))) <| zM <| zM <| zE (gY (c * c) (hr := by exact (qG rfl (by simp only [vY]; omega) (by simp only [vZ]; omega)))) <| zE (dJ (((a * a) - (b * b)) - (c * c)) (hr := by exact (qG rfl (by simp only [vY]; omega) (by simp only [vZ]; omega)))) <| zM <| zM <| zE (gY (d * d) (hr := by exact (qG rfl (by simp only [vY]; omega) (by simp only [vZ]; omega)))) <| zE (zAd ((((a * a) - (b * b)) - (c * c)) + (d * d)) (hr := by exact (qG rfl (by simp only [vY]; omega) (by simp only [vZ]; omega)))) <| zE (nM vB ze3 zo3) <| zE (nM el109 ze74 zo74) <| zM <| zZ) ?_
 refine jA <| kx [(10, (.own 1 52 1 0))] [(1, some (bm kR []))] (zN (oBo 1 nG aR zo52) <| zM <| zZ) ?_
 refine jA <| jA <| kx [(11, (kE 0))] [] (zM <| zZ) ?_
 refine jE <| kW 20 ?_
 refine qC <| jA <| jA <| kx [(128, (vb true))] [] (zM <| zE (qN true qM) <| zZ) ?_
 refine jY ?_
 refine jD <| jA <| jE <| jA <| kx [(12, (.own 2 42 4 0))] [(2, some (fZ jM []))] (zH (oBo 2 vV qF qQ) <| zM <| zZ) ?_
 refine jA <| jA <| kx [(13, (kE 0))] [] (zM <| zZ) ?_
 refine jE <| kW 20 ?_
 refine qC <| jA <| jA <| kx [(133, (vb true))] [] (zM <| zE (qN true qM) <| zZ) ?_
 refine jY ?_
 refine jD <| jA <| jE <| jA <| kV (wk (l := [(1, (.ref 0 0)), (9, (vl 74 1 fJ [y6, y7, y8])), (10, (.own 1 52 1 0)), (11, (kE 0)), (12, (.own 2 42 4 0)), (13, (kE 0)), (133, (vb true))]) (b := [(0, some (bx (qX (jO.mk a b c d)))), (1, some (bm kR [])), (2, some (fZ jM []))])) ?_
 have bn1 : QL (Rat.divInt ((((a * a) + (b * b)) - (c * c)) - (d * d)) (nq a b c d)) 3 := (qL (n := 3) (jP (by omega) (by omega)) (jP (by omega) (by omega)) (by decide))
 refine kd [(14, (.ref 3 0))] [(3, some (bx (jM y10)))] mo (wM <| wM <| wE (zS el109 0) <| wE (xT sh74) <| wM <| wE (zS vB 0) <| wE (xT uH) <| wR (jZ yR) <| wE (jX (dK a b c d (by omega) (by omega) (by omega) (by omega))) <| wE (jX (qs_of ((((a * a) + (b * b)) - (c * c)) - (d * d)) (by omega) (by omega) (nq a b c d) (by omega) (by omega) hn0)) <| wM <| wE uG <| wE uG <| wH (hc := by kernel_rfl) (qP 3 qF qQ) <| wT (kU jR) <| wM <| wZ) ?_
 refine kf [(12, (.own 2 42 4 ([y10].length)))] [(2, some (fZ jM [y10]))] (zM <| zR (jZ jR) <| zE (nM vV qF qQ) <| zAS jM [] [y10] rfl vV qF by42 (hbig := by exact (by simp +zetaDelta [maxLen] <;> omega)) (hbig' := by exact (by simp +zetaDelta <;> omega)) <| zM <| zF) ?_
 refine kx [(13, (kE 1))] [] (zM <| zE (uI 1 (hr := by decide)) <| zM <| zZ) ?_
 refine jJ (jW.refl _) ?_
 refine jA <| jA <| kx [(133, (vb true))] [] (zM <| zE (qN true qM) <| zZ) ?_
 refine jY ?_
 refine jD <| jA <| jE <| jA ?_
 have bn2 : QL (Rat.divInt (2 * ((b * c) - (a * d))) (nq a b c d)) 3 := (qL (n := 3) (jP (by omega) (by omega)) (jP (by omega) (by omega)) (by decide))
 refine kd [(14, (.ref 4 0))] [(4, some (bx (jM (jC (Rat.divInt (2 * ((b * c) - (a * d))) (nq a b c d))))))] mo (wM <| wM <| wE (zS el109 0) <| wE (xT sh74) <| wM <| wE (zS vB 1) <| wE (xT uH) <| wR (jZ yR) <| wE (jX (dK a b c d (by omega) (by omega) (by omega) (by omega))) <| wE (jX (qs_of (((2 : Nat) : Int) * ((b * c) - (a * d))) (by omega) (by omega) (nq a b c d) (by omega) (by omega) hn0)) <| wM <| wE uG <| wE uG <| wH (hc := by kernel_rfl) (qP 4 qF qQ) <| wT (kU jR) <| wM <| wZ) ?_
 refine kf [(12, (.own 2 42 4 (y4.length)))] [(2, some (fZ jM y4))] (zM <| zR (jZ jR) <| zE (nM vV qF qQ) <| zAS jM [y10] [(jC (Rat.divInt (2 * ((b * c) - (a * d))) (nq a b c d)))] rfl vV qF by42 (hbig := by exact (by simp +zetaDelta [maxLen] <;> omega)) (hbig' := by exact (by simp +zetaDelta <;> omega)) <| zM <| zF) ?_
 refine kx [(13, (kE 2))] [] (zM <| zE (uI 2 (hr := by decide)) <| zM <| zZ) ?_
 refine jJ (jW.refl _) ?_
 refine jA <| jA <| kx [(133, (vb true))] [] (zM <| zE (qN true qM) <| zZ) ?_
 refine jY ?_
 refine jD <| jA <| jE <| jA ?_
 have bn3 : QL (Rat.divInt (2 * ((b * d) + (a * c))) (nq a b c d)) 3 := (qL (n := 3) (jP (by omega) (by omega)) (jP (by omega) (by omega)) (by decide))
 refine kd [(14, (.ref 5 0))] [(5, some (bx (jM (jC (Rat.divInt (2 * ((b * d) + (a * c))) (nq a b c d))))))] mo (wM <| wM <| wE (zS el109 0) <| wE (xT sh74) <| wM <| wE (zS vB 2) <| wE (xT uH) <| wR (jZ yR) <| wE (jX (dK a b c d (by omega) (by omega) (by omega) (by omega))) <| wE (jX (qs_of (((2 : Nat) : Int) * ((b * d) + (a * c))) (by omega) (by omega) (nq a b c d) (by omega) (by omega) hn0)) <| wM <| wE uG <| wE uG <| wH (hc := by kernel_rfl) (qP 5 qF qQ) <| wT (kU jR) <| wM <| wZ) ?_
 refine kf [(12, (.own 2 42 4 (y1.length)))] [(2, some (fZ jM y1))] (zM <| zR (jZ jR) <| zE (nM vV qF qQ) <| zAS jM y4 [(jC (Rat.divInt (2 * ((b * d) + (a * c))) (nq a b c d)))] rfl vV qF by42 (hbig := by exact (by simp +zetaDelta [maxLen] <;> omega)) (hbig' := by exact (by simp +zetaDelta <;> omega)) <| zM <| zF) ?_
 refine kx [(13, (kE 3))] [] (zM <| zE (uI 3 (hr := by decide)) <| zM <| zZ) ?_
 refine jJ (jW.refl _) ?_
 refine jA <| jA <| kx [(133, (vb false))] [] (zM <| zE (qN false qM) <| zZ) ?_
 refine kG ?_
 refine kK <| kV (xX (t := 12) (k := 2) (es := List.map jM y1) rfl rfl (gD _ _ (fun _ => rfl)) (xQ _ _ rfl) (dS jM y1 (fun _ => rfl) rfl)) ?_
 refine kf [(10, (.own 1 52 1 ([y1].length)))] [(1, some (bm kR [y1]))] (zM <| zM <| zE (nM nG aR zo52) <| zA kR [] [y1] rfl nG aR by52 (hbig := by exact (by simp +zetaDelta [maxLen] <;> omega)) (hbig' := by exact (by simp +zetaDelta <;> omega)) <| zM <| zF) ?_
 refine kx [(11, (kE 1))] [] (zM <| zE (uI 1 (hr := by decide)) <| zM <| zZ) ?_
 refine jJ (jW.refl _) ?_
 refine jA <| jA <| kV (wk (l := [(1, (.ref 0 0)), (9, (vl 74 1 fJ [y6, y7, y8])), (10, (.own 1 52 1 ([y1].length))), (11, (kE 1))]) (b := [(0, some (bx (qX (jO.mk a b c d)))), (1, some (bm kR [y1]))])) ?_
 refine kx [(128, (vb true))] [] (zM <| zE (qN true qM) <| zZ) ?_
 refine jY ?_
 refine jD <| jA <| jE <| jA <| kx [(12, (.own 6 42 4 0))] [(6, some (fZ jM []))] (zH (oBo 6 vV qF qQ) <| zM <| zZ) ?_
 refine jA <| jA <| kx [(13, (kE 0))] [] (zM <| zZ) ?_
 refine jE <| kW 20 ?_
 refine qC <| jA <| jA <| kx [(133, (vb true))] [] (zM <| zE (qN true qM) <| zZ) ?_
 refine jY ?_
 refine jD <| jA <| jE <| jA ?_
 have bn4 : QL (Rat.divInt (2 * ((b * c) + (a * d))) (nq a b c d)) 3 := (qL (n := 3) (jP (by omega) (by omega)) (jP (by omega) (by omega)) (by decide))
 refine kd [(14, (.ref 7 0))] [(7, some (bx (jM y12)))] mo (wM <| wM <| wE (zS el109 1) <| wE (xT sh74) <| wM <| wE (zS vB 0) <| wE (xT uH) <| wR (jZ yR) <| wE (jX (dK a b c d (by omega) (by omega) (by omega) (by omega))) <| wE (jX (qs_of (((2 : Nat) : Int) * ((b * c) + (a * d))) (by omega) (by omega) (nq a b c d) (by omega) (by omega) hn0)) <| wM <| wE uG <| wE uG <| wH (hc := by kernel_rfl) (qP 7 qF qQ) <| wT (kU jR) <| wM <| wZ) ?_
 refine kf [(12, (.own 6 42 4 ([y12].length)))] [(6, some (fZ jM [y12]))] (zM <| zR (jZ jR) <| zE (nM vV qF qQ) <| zAS jM [] [y12] rfl vV qF by42 (hbig := by exact (by simp +zetaDelta [maxLen] <;> omega)) (hbig' := by exact (by simp +zetaDelta <;> omega)) <| zM <| zF) ?_
 refine kx [(13, (kE 1))] [] (zM <| zE (uI 1 (hr := by decide)) <| zM <| zZ) ?_
 refine jJ (jW.refl _) ?_
 refine jA <| jA <| kx [(133, (vb true))] [] (zM <| zE (qN true qM) <| zZ) ?_
 refine jY ?_
 refine jD <| jA <| jE <| jA ?_
 have bn5 : QL (Rat.divInt ((((a * a) - (b * b)) + (c * c)) - (d * d)) (nq a b c d)) 3 := (qL (n := 3) (jP (by omega) (by omega)) (jP (by omega) (by omega)) (by decide))
 refine kd [(14, (.ref 8 0))] [(8, some (bx (jM y11)))] mo (wM <| wM <| wE (zS el109 1) <| wE (xT sh74) <| wM <| wE (zS vB 1) <| wE (xT uH) <| wR (jZ yR) <| wE (jX (dK a b c d (by omega) (by omega) (by omega) (by omega))) <| wE (jX (qs_of ((((a * a) - (b * b)) + (c * c)) - (d * d)) (by omega) (by omega) (nq a b c d) (by omega) (by omega) hn0)) <| wM <| wE uG <| wE uG <| wH (hc := by kernel_rfl) (qP 8 qF qQ) <| wT (kU jR) <| wM <| wZ) ?_
 refine kf [(12, (.own 6 42 4 (y5.length)))] [(6, some (fZ jM y5))] (zM <| zR (jZ jR) <| zE (nM vV qF qQ) <| zAS jM [y12] [y11] rfl vV qF by42 (hbig := by exact (by simp +zetaDelta [maxLen] <;> omega)) (hbig' := by exact (by simp +zetaDelta <;> omega)) <| zM <| zF) ?_
 refine kx [(13, (kE 2))] [] (zM <| zE (uI 2 (hr := by decide)) <| zM <| zZ) ?_
 refine jJ (jW.refl _) ?_
 refine jA <| jA <| kx [(133, (vb true))] [] (zM <| zE (qN true qM) <| zZ) ?_
 refine jY ?_
 refine jD <| jA <| jE <| jA ?_
 have bn6 : QL (Rat.divInt (2 * ((c * d) - (a * b))) (nq a b c d)) 3 := (qL (n := 3) (jP (by omega) (by omega)) (jP (by omega) (by omega)) (by decide))
 refine kd [(14, (.ref 9 0))] [(9, some (bx (jM (jC (Rat.divInt (2 * ((c * d) - (a * b))) (nq a b c d))))))] mo (wM <| wM <| wE (zS el109 1) <| wE (xT sh74) <| wM <| wE (zS vB 2) <| wE (xT uH) <| wR (jZ yR) <| wE (jX (dK a b c d (by omega) (by omega) (by omega) (by omega))) <| wE (jX (qs_of (((2 : Nat) : Int) * ((c * d) - (a * b))) (by omega) (by omega) (nq a b c d) (by omega) (by omega) hn0)) <| wM <| wE uG <| wE uG <| wH (hc := by kernel_rfl) (qP 9 qF qQ) <| wT (kU jR) <| wM <| wZ) ?_
 refine kf [(12, (.own 6 42 4 (y2.length)))] [(6, some (fZ jM y2))] (zM <| zR (jZ jR) <| zE (nM vV qF qQ) <| zAS jM y5 [(jC (Rat.divInt (2 * ((c * d) - (a * b))) (nq a b c d)))] rfl vV qF by42 (hbig := by exact (by simp +zetaDelta [maxLen] <;> omega)) (hbig' := by exact (by simp +zetaDelta <;> omega)) <| zM <| zF) ?_
 refine kV (wk (l := [(1, (.ref 0 0)), (9, (vl 74 1 fJ [y6, y7, y8])), (10, (.own 1 52 1 ([y1].length))), (11, (kE 1)), (12, (.own 6 42 4 (y2.length))), (13, (kE 2))]) (b := [(0, some (bx (qX (jO.mk a b c d)))), (1, some (bm kR [y1])), (6, some (fZ jM y2))])) ?_
 refine kx [(13, (kE 3))] [] (zM <| zE (uI 3 (hr := by decide)) <| zM <| zZ) ?_
 refine jJ (jW.refl _) ?_
 refine jA <| jA <| kx [(133, (vb false))] [] (zM <| zE (qN false qM) <| zZ) ?_
 refine kG ?_
 refine kK <| kV (xX (t := 12) (k := 6) (es := List.map jM y2) rfl rfl (gD _ _ (fun _ => rfl)) (xQ _ _ rfl) (dS jM y2 (fun _ => rfl) rfl)) ?_
 refine kf [(10, (.own 1 52 1 ([y1, y2].length)))] [(1, some (bm kR [y1, y2]))] (zM <| zM <| zE (nM nG aR zo52) <| zA kR [y1] [y2] rfl nG aR by52 (hbig := by exact (by simp +zetaDelta [maxLen] <;> omega)) (hbig' := by exact (by simp +zetaDelta <;> omega)) <| zM <| zF) ?_
 refine kx [(11, (kE 2))] [] (zM <| zE (uI 2 (hr := by decide)) <| zM <| zZ) ?_
 refine jJ (jW.refl _) ?_
 refine jA <| jA <| kx [(128, (vb true))] [] (zM <| zE (qN true qM) <| zZ) ?_
 refine jY ?_
 refine jD <| jA <| jE <| jA <| kx [(12, (.own 10 42 4 0))] [(10, some (fZ jM []))] (zH (oBo 10 vV qF qQ) <| zM <| zZ) ?_
 refine jA <| jA <| kx [(13, (kE 0))] [] (zM <| zZ) ?_
 refine jE <| kW 20 ?_
 refine qC <| jA <| jA <| kx [(133, (vb true))] [] (zM <| zE (qN true qM) <| zZ) ?_
 refine jY ?_
 refine jD <| jA <| jE <| jA ?_
 have bn7 : QL (Rat.divInt (2 * ((b * d) - (a * c))) (nq a b c d)) 3 := (qL (n := 3) (jP (by omega) (by omega)) (jP (by omega) (by omega)) (by decide))
 refine kd [(14, (.ref 11 0))] [(11, some (bx (jM y13)))] mo (wM <| wM <| wE (zS el109 2) <| wE (xT sh74) <| wM <| wE (zS vB 0) <| wE (xT uH) <| wR (jZ yR) <| wE (jX (dK a b c d (by omega) (by omega) (by omega) (by omega))) <| wE (jX (qs_of (((2 : Nat) : Int) * ((b * d) - (a * c))) (by omega) (by omega) (nq a b c d) (by omega) (by omega) hn0)) <| wM <| wE uG <| wE uG <| wH (hc := by kernel_rfl) (qP 11 qF qQ) <| wT (kU jR) <| wM <| wZ) ?_
 refine kf [(12, (.own 10 42 4 ([y13].length)))] [(10, some (fZ jM [y13]))] (zM <| zR (jZ jR) <| zE (nM vV qF qQ) <| zAS jM [] [y13] rfl vV qF by42 (hbig := by exact (by simp +zetaDelta [maxLen] <;> omega)) (hbig' := by exact (by simp +zetaDelta <;> omega)) <| zM <| zF) ?_
 refine kx [(13, (kE 1))] [] (zM <| zE (uI 1 (hr := by decide)) <| zM <| zZ) ?_
 refine jJ (jW.refl _) ?_
 refine jA <| jA <| kx [(133, (vb true))] [] (zM <| zE (qN true qM) <| zZ) ?_
 refine jY ?_
 refine jD <| jA <| jE <| jA ?_
 have bn8 : QL (Rat.divInt (2 * ((c * d) + (a * b))) (nq a b c d)) 3 := (qL (n := 3) (jP (by omega) (by omega)) (jP (by omega) (by omega)) (by decide))
 refine kd [(14, (.ref 12 0))] [(12, some (bx (jM (jC (Rat.divInt (2 * ((c * d) + (a * b))) (nq a b c d))))))] mo (wM <| wM <| wE (zS el109 2) <| wE (xT sh74) <| wM <| wE (zS vB 1) <| wE (xT uH) <| wR (jZ yR) <| wE (jX (dK a b c d (by omega) (by omega) (by omega) (by omega))) <| wE (jX (qs_of (((2 : Nat) : Int) * ((c * d) + (a * b))) (by omega) (by omega) (nq a b c d) (by omega) (by omega) hn0)) <| wM <| wE uG <| wE uG <| wH (hc := by kernel_rfl) (qP 12 qF qQ) <| wT (kU jR) <| wM <| wZ) ?_
 refine kf [(12, (.own 10 42 4 (y9.length)))] [(10, some (fZ jM y9))] (zM <| zR (jZ jR) <| zE (nM vV qF qQ) <| zAS jM [y13] [(jC (Rat.divInt (2 * ((c * d) + (a * b))) (nq a b c d)))] rfl vV qF by42 (hbig := by exact (by simp +zetaDelta [maxLen] <;> omega)) (hbig' := by exact (by simp +zetaDelta <;> omega)) <| zM <| zF) ?_
 refine kV (wk (l := [(1, (.ref 0 0)), (9, (vl 74 1 fJ [y6, y7, y8])), (10, (.own 1 52 1 ([y1, y2].length))), (11, (kE 2)), (12, (.own 10 42 4 (y9.length))), (13, (kE 1))]) (b := [(0, some (bx (qX (jO.mk a b c d)))), (1, some (bm kR [y1, y2])), (10, some (fZ jM y9))])) ?_
 refine kx [(13, (kE 2))] [] (zM <| zE (uI 2 (hr := by decide)) <| zM <| zZ) ?_
 refine jJ (jW.refl _) ?_
 refine jA <| jA <| kx [(133, (vb true))] [] (zM <| zE (qN true qM) <| zZ) ?_
 refine jY ?_
 refine jD <| jA <| jE <| jA ?_
 have bn9 : QL (Rat.divInt ((((a * a) - (b * b)) - (c * c)) + (d * d)) (nq a b c d)) 3 := (qL (n := 3) (jP (by omega) (by omega)) (jP (by omega) (by omega)) (by decide))
 refine kd [(14, (.ref 13 0))] [(13, some (bx (jM (jC (Rat.divInt ((((a * a) - (b * b)) - (c * c)) + (d * d)) (nq a b c d))))))] mo (wM <| wM <| wE (zS el109 2) <| wE (xT sh74) <| wM <| wE (zS vB 2) <| wE (xT uH) <| wR (jZ yR) <| wE (jX (dK a b c d (by omega) (by omega) (by omega) (by omega))) <| wE (jX (qs_of ((((a * a) - (b * b)) - (c * c)) + (d * d)) (by omega) (by omega) (nq a b c d) (by omega) (by omega) hn0)) <| wM <| wE uG <| wE uG <| wH (hc := by kernel_rfl) (qP 13 qF qQ) <| wT (kU jR) <| wM <| wZ) ?_
 refine kf [(12, (.own 10 42 4 (y3.length)))] [(10, some (fZ jM y3))] (zM <| zR (jZ jR) <| zE (nM vV qF qQ) <| zAS jM y9 [(jC (Rat.divInt ((((a * a) - (b * b)) - (c * c)) + (d * d)) (nq a b c d)))] rfl vV qF by42 (hbig := by exact (by simp +zetaDelta [maxLen] <;> omega)) (hbig' := by exact (by simp +zetaDelta <;> omega)) <| zM <| zF) ?_
 refine kx [(13, (kE 3))] [] (zM <| zE (uI 3 (hr := by decide)) <| zM <| zZ) ?_
 refine jJ (jW.refl _) ?_
 refine jA <| jA <| kx [(133, (vb false))] [] (zM <| zE (qN false qM) <| zZ) ?_
 refine kG ?_
 refine kK <| kV (xX (t := 12) (k := 10) (es := List.map jM y3) rfl rfl (gD _ _ (fun _ => rfl)) (xQ _ _ rfl) (dS jM y3 (fun _ => rfl) rfl)) ?_
 refine kf [(10, (.own 1 52 1 ([y1, y2, y3].length)))] [(1, some (bm kR [y1, y2, y3]))] (zM <| zM <| zE (nM nG aR zo52) <| zA kR [y1, y2] [y3] rfl nG aR by52 (hbig := by exact (by simp +zetaDelta [maxLen] <;> omega)) (hbig' := by exact (by simp +zetaDelta <;> omega)) <| zM <| zF) ?_
 refine kx [(11, (kE 3))] [] (zM <| zE (uI 3 (hr := by decide)) <| zM <| zZ) ?_
 refine jJ (jW.refl _) ?_
 refine jA <| jA <| kx [(128, (vb false))] [] (zM <| zE (qN false qM) <| zZ) ?_
 refine kG ?_
 refine kK <| jA <| kV (xX (t := 10) (k := 1) (es := List.map kR [y1, y2, y3]) rfl rfl (xL _ _ (fun _ => rfl)) (xQ _ _ rfl) (zP _ _ (fun _ => rfl) rfl)) ?_
 refine kx [(2, (vl 52 1 kR [y1, y2, y3])), (3, (kE 0))] [] (zM <| zM <| zM <| zZ) ?_
 refine jH ⟨_, (.tmp (d := (.sl 52 1 (List.map kR [[(jC (Rat.divInt ((((a * a) + (b * b)) - (c * c)) - (d * d)) (nq a b c d))), (jC (Rat.divInt (2 * ((b * c) - (a * d))) (nq a b c d))), (jC (Rat.divInt (2 * ((b * d) + (a * c))) (nq a b c d)))], [(jC (Rat.divInt (2 * ((b * c) + (a * d))) (nq a b c d))), (jC (Rat.divInt ((((a * a) - (b * b)) + (c * c)) - (d * d)) (nq a b c d))), (jC (Rat.divInt (2 * ((c * d) - (a * b))) (nq a b c d)))], [(jC (Rat.divInt (2 * ((b * d) - (a * c))) (nq a b c d))), (jC (Rat.divInt (2 * ((c * d) + (a * b))) (nq a b c d))), (jC (Rat.divInt ((((a * a) - (b * b)) - (c * c)) + (d * d)) (nq a b c d)))]]))) rfl (.tmp (d := (.val (.int .i64 (((0 : Nat) : Int))))) rfl .nil)), ?_⟩
 rfl
end Go.Proofs.YtbecgnplakngdaaGreat
namespace Go.Proofs.YtbecgnplakngdaaGreat
open Go.Fid
set_option maxRecDepth 4000
set_option linter.unusedVariables false
set_option linter.unusedSimpArgs false
theorem cb69 : callB Tryz.prog 69 = true := by kernel_rfl
theorem cb71 : callB Tryz.prog 71 = true := by kernel_rfl
theorem cb75 : callB Tryz.prog 75 = true := by kernel_rfl
theorem cb76 : callB Tryz.prog 76 = true := by kernel_rfl
theorem cb79 : callB Tryz.prog 79 = true := by kernel_rfl
theorem cb80 : callB Tryz.prog 80 = true := by kernel_rfl
theorem cb125 : callB Tryz.prog 125 = true := by kernel_rfl
theorem cb127 : callB Tryz.prog 127 = true := by kernel_rfl
theorem cb128 : callB Tryz.prog 128 = true := by kernel_rfl
theorem yB : xD Tryz.prog 23 0 = some 0 := by kernel_rfl
theorem yK : xD Tryz.prog 23 1 = some 1 := by kernel_rfl
theorem yL : xD Tryz.prog 23 2 = some 2 := by kernel_rfl
theorem fo27_0 : xD Tryz.prog 27 0 = some 0 := by kernel_rfl
theorem fo27_1 : xD Tryz.prog 27 1 = some 1 := by kernel_rfl
theorem yC : xD Tryz.prog 29 0 = some 0 := by kernel_rfl
theorem gU : xD Tryz.prog 29 1 = some 3 := by kernel_rfl
theorem fo29_2 : xD Tryz.prog 29 2 = some 7 := by kernel_rfl
theorem fo29_3 : xD Tryz.prog 29 3 = some 8 := by kernel_rfl
theorem sh52 : qY Tryz.prog 52 = some (false, 1) := by kernel_rfl
theorem q_turn (a b c d : Int) (ha : -1048576 ≤ a ∧ a ≤ 1048576) (hb : -1048576 ≤ b ∧ b ≤ 1048576) (hc : -1048576 ≤ c ∧ c ≤ 1048576) (hd : -1048576 ≤ d ∧ d ≤ 1048576) (hq : gC a b c d = 0) : kD Tryz.prog 69 [(qX (jO.mk a b c d))] (qH (A3.mk (A3.mk (jC (xY a b c d)) (jC (xW a b c d)) (jC (uK a b c d))) (A3.mk (jC (zC a b c d)) (jC (zD a b c d)) (jC (uL a b c d))) (A3.mk (jC (zI a b c d)) (jC (zG a b c d)) (jC (uO a b c d))))) := by
 have hn0 := nq_ne hq
 have hnq := yN ha hb hc hd
 let y4 := (A3.mk (jV.mk (jG.mk false []) (jG.mk false [])) (jV.mk (jG.mk false []) (jG.mk false [])) (jV.mk (jG.mk false []) (jG.mk false [])))
 let y3 := (bx (qH (A3.mk (A3.mk (jC (xY a b c d)) (jC (xW a b c d)) (jC (uK a b c d))) (A3.mk (jC (zC a b c d)) (jC (zD a b c d)) (jC (uL a b c d))) (A3.mk (jC (zI a b c d)) (jC (zG a b c d)) (jC (uO a b c d))))))
 let y2 := (bx (qH (A3.mk (A3.mk (jC (xY a b c d)) (jC (xW a b c d)) (jC (uK a b c d))) (A3.mk (jC (zC a b c d)) (jC (zD a b c d)) (jC (uL a b c d))) y4)))
 let y1 := (bx (qH (A3.mk y4 y4 y4)))
 refine jK Tryz.func69 rfl cb69 rfl ?_
 show uY _ _ _ _ ⟨[(0, (.d (qX (jO.mk a b c d))))], []⟩
 refine jA <| kx [(1, (.ref 0 0)), (2, (.ref 1 0))] [(0, some (bx (qX (jO.mk a b c d)))), (1, some y1)] (zN (vN 0) <| zN (qP 1 dZ eC) <| zZ) ?_
 refine jA ?_
 have bn1 : QL (Q00 a b c d) 3 := (kQ00)
 have bn2 : QL (Q01 a b c d) 3 := (kQ01)
 have bn3 : QL (Q02 a b c d) 3 := (kQ02)
 have bn4 : QL (Q10 a b c d) 3 := (kQ10)
 have bn5 : QL (Q11 a b c d) 3 := (kQ11)
 have bn6 : QL (Q12 a b c d) 3 := (kQ12)
 have bn7 : QL (Q20 a b c d) 3 := (kQ20)
 have bn8 : QL (Q21 a b c d) 3 := (kQ21)
 have bn9 : QL (Q22 a b c d) 3 := (kQ22)
 refine kx [(3, (vl 52 1 kR [[(jC (Q00 a b c d)), (jC (Q01 a b c d)), (jC (Q02 a b c d))], [(jC (Q10 a b c d)), (jC (Q11 a b c d)), (jC (Q12 a b c d))], [(jC (Q20 a b c d)), (jC (Q21 a b c d)), (jC (Q22 a b c d))]]))] [] (zR (jZ yR) <| zE (jX (q_rmat a b c d (by omega) (by omega) (by omega) (by omega) hq hn0)) <| zM <| zE uG <| zE uG <| zM <| zM <| zZ) ?_
 refine jA ?_
 have bn10 : QL (N4 a b c d) 3 := (jT (Eq.symm (show ((nq a b c d : Int) : Rat) = N4 a b c d from rfl)) (kQ (z := (nq a b c d)) (jP (by omega) (by omega)) (by decide)))
 refine kx [(5, (.ref 2 0))] [(2, some (bx (jM (jC (N4 a b c d)))))] (zR (jZ yR) <| zE (jX (q_norm a b c d (by omega) (by omega) (by omega) (by omega))) <| zE (jX (by have h := dM (nq a b c d) (by omega) (by omega); rw [(show ((nq a b c d : Int) : Rat) = N4 a b c d from rfl)] at h; exact h)) <| zN (qP 2 qF qQ) <| zT (kU jR) <| zZ) ?_
 refine jA <| kx [(6, (.ref 3 0))] [(3, some y1)] (zN (qP 3 dZ eC) <| zZ) ?_
 refine jA <| jA <| kx [(16, (kE 0))] [] (zM <| zZ) ?_
 refine jE <| kW 20 ?_
 refine qC <| jA <| kx [(17, (vb true))] [] (zE (qN true qM) <| zZ) ?_
 refine jA <| jY ?_
 refine jD <| jA <| jE <| jA <| kx [(7, (kE 0))] [] (zM <| zM <| zZ) ?_
 have bn11 : QL (xY a b c d) 6 := (jT (Eq.symm (Q00_n (a := a) (b := b) (c := c) (d := d) hn0)) (jI (k := 6) bn1 bn10 (by decide)))
 have bn12 : QL (xW a b c d) 6 := (jT (Eq.symm (Q01_n (a := a) (b := b) (c := c) (d := d) hn0)) (jI (k := 6) bn2 bn10 (by decide)))
 have bn13 : QL (uK a b c d) 6 := (jT (Eq.symm (Q02_n (a := a) (b := b) (c := c) (d := d) hn0)) (jI (k := 6) bn3 bn10 (by decide)))
 refine kd [] [(3, some (bx (qH (A3.mk (A3.mk (jC (xY a b c d)) (jC (xW a b c d)) (jC (uK a b c d))) y4 y4))))] mo (wM <| wM <| wM <| wE (zS nG 0) <| wE (xT sh52) <| wE (zS vV 0) <| wE (eD jR) <| wM <| wM <| wE (zS nG 0) <| wE (xT sh52) <| wE (zS vV 1) <| wE (eD jR) <| wM <| wM <| wE (zS nG 0) <| wE (xT sh52) <| wE (zS vV 2) <| wE (eD jR) <| wE (oBf uB nO nN) <| wR (jZ jR) <| wE (jX (by have h := fO (Q00 a b c d) (Q01 a b c d) (Q02 a b c d) (qu bn1) (qu bn2) (qu bn3) (N4 a b c d) (qu bn10); rw [(Q00_n (a := a) (b := b) (c := c) (d := d) hn0), (Q01_n (a := a) (b := b) (c := c) (d := d) hn0), (Q02_n (a := a) (b := b) (c := c) (d := d) hn0)] at h; exact h)) <| wE (vM xA 0) <| wT (kU uQ) <| wZ) ?_
 refine kx [(16, (kE 1))] [] (zE (uI 1 (hr := by decide)) <| zM <| zZ) ?_
 refine jJ (jW.refl _) ?_
 refine jA <| kx [(17, (vb true))] [] (zE (qN true qM) <| zZ) ?_
 refine jA <| jY ?_
 refine jD <| jA <| jE <| jA <| kx [(7, (kE 1))] [] (zM <| zM <| zZ) ?_
 have bn14 : QL (zC a b c d) 6 := (jT (Eq.symm (Q10_n (a := a) (b := b) (c := c) (d := d) hn0)) (jI (k := 6) bn4 bn10 (by decide)))
 have bn15 : QL (zD a b c d) 6 := (jT (Eq.symm (Q11_n (a := a) (b := b) (c := c) (d := d) hn0)) (jI (k := 6) bn5 bn10 (by decide)))
 have bn16 : QL (uL a b c d) 6 := (jT (Eq.symm (Q12_n (a := a) (b := b) (c := c) (d := d) hn0)) (jI (k := 6) bn6 bn10 (by decide)))
 refine kd [] [(3, some y2)] mo (wM <| wM <| wM <| wE (zS nG 1) <| wE (xT sh52) <| wE (zS vV 0) <| wE (eD jR) <| wM <| wM <| wE (zS nG 1) <| wE (xT sh52) <| wE (zS vV 1) <| wE (eD jR) <| wM <| wM <| wE (zS nG 1) <| wE (xT sh52) <| wE (zS vV 2) <| wE (eD jR) <| wE (oBf uB nO nN) <| wR (jZ jR) <| wE (jX (by have h := fO (Q10 a b c d) (Q11 a b c d) (Q12 a b c d) (qu bn4) (qu bn5) (qu bn6) (N4 a b c d) (qu bn10); rw [(Q10_n (a := a) (b := b) (c := c) (d := d) hn0), (Q11_n (a := a) (b := b) (c := c) (d := d) hn0), (Q12_n (a := a) (b := b) (c := c) (d := d) hn0)] at h; exact h)) <| wE (vM xA 1) <| wT (kU uQ) <| wZ) ?_
 refine kx [(16, (kE 2))] [] (zE (uI 2 (hr := by decide)) <| zM <| zZ) ?_
 refine jJ (jW.refl _) ?_
 refine jA <| kx [(17, (vb true))] [] (zE (qN true qM) <| zZ) ?_
 refine jA <| jY ?_
 refine jD <| jA <| jE <| jA <| kV (wk (l := [(2, (.ref 1 0)), (3, (vl 52 1 kR [[(jC (Q00 a b c d)), (jC (Q01 a b c d)), (jC (Q02 a b c d))], [(jC (Q10 a b c d)), (jC (Q11 a b c d)), (jC (Q12 a b c d))], [(jC (Q20 a b c d)), (jC (Q21 a b c d)), (jC (Q22 a b c d))]])), (5, (.ref 2 0)), (6, (.ref 3 0)), (16, (kE 2)), (17, (vb true))]) (b := [(1, some y1), (2, some (bx (jM (jC (N4 a b c d))))), (3, some y2)])) ?_
 refine kx [(7, (kE 2))] [] (zM <| zM <| zZ) ?_
 have bn17 : QL (zI a b c d) 6 := (jT (Eq.symm (Q20_n (a := a) (b := b) (c := c) (d := d) hn0)) (jI (k := 6) bn7 bn10 (by decide)))
 have bn18 : QL (zG a b c d) 6 := (jT (Eq.symm (Q21_n (a := a) (b := b) (c := c) (d := d) hn0)) (jI (k := 6) bn8 bn10 (by decide)))
 have bn19 : QL (uO a b c d) 6 := (jT (Eq.symm (Q22_n (a := a) (b := b) (c := c) (d := d) hn0)) (jI (k := 6) bn9 bn10 (by decide)))
 refine kd [] [(3, some y3)] mo (wM <| wM <| wM <| wE (zS nG 2) <| wE (xT sh52) <| wE (zS vV 0) <| wE (eD jR) <| wM <| wM <| wE (zS nG 2) <| wE (xT sh52) <| wE (zS vV 1) <| wE (eD jR) <| wM <| wM <| wE (zS nG 2) <| wE (xT sh52) <| wE (zS vV 2) <| wE (eD jR) <| wE (oBf uB nO nN) <| wR (jZ jR) <| wE (jX (by have h := fO (Q20 a b c d) (Q21 a b c d) (Q22 a b c d) (qu bn7) (qu bn8) (qu bn9) (N4 a b c d) (qu bn10); rw [(Q20_n (a := a) (b := b) (c := c) (d := d) hn0), (Q21_n (a := a) (b := b) (c := c) (d := d) hn0), (Q22_n (a := a) (b := b) (c := c) (d := d) hn0)] at h; exact h)) <| wE (vM xA 2) <| wT (kU uQ) <| wZ) ?_
 refine kx [(16, (kE 3))] [] (zE (uI 3 (hr := by decide)) <| zM <| zZ) ?_
 refine jJ (jW.refl _) ?_
 refine jA <| kx [(17, (vb false))] [] (zE (qN false qM) <| zZ) ?_
 refine jA <| kG ?_
 refine kK <| jA <| kx [] [(1, some y3)] (zR (jZ gS) <| zT (kU gS) <| zZ) ?_
 refine jH ⟨_, (kZ (cs := (bx (qH (A3.mk (A3.mk (jC (xY a b c d)) (jC (xW a b c d)) (jC (uK a b c d))) (A3.mk (jC (zC a b c d)) (jC (zD a b c d)) (jC (uL a b c d))) (A3.mk (jC (zI a b c d)) (jC (zG a b c d)) (jC (uO a b c d))))))) (d := (qH (A3.mk (A3.mk (jC (xY a b c d)) (jC (xW a b c d)) (jC (uK a b c d))) (A3.mk (jC (zC a b c d)) (jC (zD a b c d)) (jC (uL a b c d))) (A3.mk (jC (zI a b c d)) (jC (zG a b c d)) (jC (uO a b c d)))))) rfl rfl gS rfl rfl .nil), ?_⟩
 rfl
theorem qs_mat (a b c d : Int) (ha : -1048576 ≤ a ∧ a ≤ 1048576) (hb : -1048576 ≤ b ∧ b ≤ 1048576) (hc : -1048576 ≤ c ∧ c ≤ 1048576) (hd : -1048576 ≤ d ∧ d ≤ 1048576) (hq : gC a b c d = 0) : kD Tryz.prog 76 [(qX (jO.mk a b c d))] (cD (A3.mk (A3.mk (jC (xY a b c d)) (jC (xW a b c d)) (jC (uK a b c d))) (A3.mk (jC (zC a b c d)) (jC (zD a b c d)) (jC (uL a b c d))) (A3.mk (jC (zI a b c d)) (jC (zG a b c d)) (jC (uO a b c d))))) := by
 have hn0 := nq_ne hq
 have hnq := yN ha hb hc hd
 let y4 := (A3.mk (jV.mk (jG.mk false []) (jG.mk false [])) (jV.mk (jG.mk false []) (jG.mk false [])) (jV.mk (jG.mk false []) (jG.mk false [])))
 let y3 := (bx (cD (A3.mk (A3.mk (jC (xY a b c d)) (jC (xW a b c d)) (jC (uK a b c d))) (A3.mk (jC (zC a b c d)) (jC (zD a b c d)) (jC (uL a b c d))) (A3.mk (jC (zI a b c d)) (jC (zG a b c d)) (jC (uO a b c d))))))
 let y2 := (bx (cD (A3.mk (A3.mk (jC (xY a b c d)) (jC (xW a b c d)) (jC (uK a b c d))) (A3.mk (jC (zC a b c d)) (jC (zD a b c d)) (jC (uL a b c d))) y4)))
 let y1 := (bx (cD (A3.mk y4 y4 y4)))
 refine jK Tryz.func76 rfl cb76 rfl ?_
 show uY _ _ _ _ ⟨[(0, (.d (qX (jO.mk a b c d))))], []⟩
 refine jA <| kx [(1, (.ref 0 0)), (2, (.ref 1 0))] [(0, some (bx (qX (jO.mk a b c d)))), (1, some y1)] (zN (vN 0) <| zN (qP 1 ze45 zo45) <| zZ) ?_
 refine jA ?_
 have bn1 : QL (Q00 a b c d) 3 := (kQ00)
 have bn2 : QL (Q01 a b c d) 3 := (kQ01)
 have bn3 : QL (Q02 a b c d) 3 := (kQ02)
 have bn4 : QL (Q10 a b c d) 3 := (kQ10)
 have bn5 : QL (Q11 a b c d) 3 := (kQ11)
 have bn6 : QL (Q12 a b c d) 3 := (kQ12)
 have bn7 : QL (Q20 a b c d) 3 := (kQ20)
 have bn8 : QL (Q21 a b c d) 3 := (kQ21)
 have bn9 : QL (Q22 a b c d) 3 := (kQ22)
 refine kx [(3, (vl 52 1 kR [[(jC (Q00 a b c d)), (jC (Q01 a b c d)), (jC (Q02 a b c d))], [(jC (Q10 a b c d)), (jC (Q11 a b c d)), (jC (Q12 a b c d))], [(jC (Q20 a b c d)), (jC (Q21 a b c d)), (jC (Q22 a b c d))]]))] [] (zR (jZ yR) <| zE (jX (qs_rmat a b c d (by omega) (by omega) (by omega) (by omega) hq hn0)) <| zM <| zE uG <| zE uG <| zM <| zM <| zZ) ?_
 refine jA <| kx [(5, (.ref 2 0))] [(2, some y1)] (zE (oBa ar45 ze45 zo45) <| zN (qP 2 ze45 zo45) <| zT (kU sh45) <| zZ) ?_
 refine jA <| jA <| kx [(13, (kE 0))] [] (zM <| zZ) ?_
 refine jE <| kW 20 ?_
 refine qC <| jA <| kx [(14, (vb true))] [] (zE (qN true qM) <| zZ) ?_
 refine jA <| jY ?_
 refine jD <| jA <| jE <| jA <| kx [(6, (kE 0))] [] (zM <| zM <| zZ) ?_
 have bn10 : QL (N4 a b c d) 3 := (kN4)
 have bn11 : QL (xY a b c d) 6 := (jT (Eq.symm (Q00_n (a := a) (b := b) (c := c) (d := d) hn0)) (jI (k := 6) bn1 bn10 (by decide)))
 have bn12 : QL (xW a b c d) 6 := (jT (Eq.symm (Q01_n (a := a) (b := b) (c := c) (d := d) hn0)) (jI (k := 6) bn2 bn10 (by decide)))
 have bn13 : QL (uK a b c d) 6 := (jT (Eq.symm (Q02_n (a := a) (b := b) (c := c) (d := d) hn0)) (jI (k := 6) bn3 bn10 (by decide)))
 refine kd [] [(2, some (bx (cD (A3.mk (A3.mk (jC (xY a b c d)) (jC (xW a b c d)) (jC (uK a b c d))) y4 y4))))] mo (wM <| wM <| wM <| wE (zS nG 0) <| wE (xT sh52) <| wE (e_sap (cs := (kY.cells (jN (A3.mk (jC (Q00 a b c d)) (jC (Q01 a b c d)) (jC (Q02 a b c d)))))) (by exact rfl) yE (by exact rfl) (by kernel_rfl) (by kernel_rfl) (by kernel_rfl)) <| wE (eD xJ) <| wR (jZ yR) <| wE (jX (aP a b c d (by omega) (by omega) (by omega) (by omega))) <| wE (jX (by have h := gP (Q00 a b c d) (Q01 a b c d) (Q02 a b c d) (qu bn1) (qu bn2) (qu bn3) (N4 a b c d) (qu bn10); rw [(Q00_n (a := a) (b := b) (c := c) (d := d) hn0), (Q01_n (a := a) (b := b) (c := c) (d := d) hn0), (Q02_n (a := a) (b := b) (c := c) (d := d) hn0)] at h; exact h)) <| wE (vM ar45 0) <| wT (kU xJ) <| wZ) ?_
 refine kx [(13, (kE 1))] [] (zE (uI 1 (hr := by decide)) <| zM <| zZ) ?_
 refine jJ (jW.refl _) ?_
 refine jA <| kx [(14, (vb true))] [] (zE (qN true qM) <| zZ) ?_
 refine jA <| jY ?_
 refine jD <| jA <| jE <| jA <| kx [(6, (kE 1))] [] (zM <| zM <| zZ) ?_
 have bn14 : QL (zC a b c d) 6 := (jT (Eq.symm (Q10_n (a := a) (b := b) (c := c) (d := d) hn0)) (jI (k := 6) bn4 bn10 (by decide)))
 have bn15 : QL (zD a b c d) 6 := (jT (Eq.symm (Q11_n (a := a) (b := b) (c := c) (d := d) hn0)) (jI (k := 6) bn5 bn10 (by decide)))
 have bn16 : QL (uL a b c d) 6 := (jT (Eq.symm (Q12_n (a := a) (b := b) (c := c) (d := d) hn0)) (jI (k := 6) bn6 bn10 (by decide)))
 refine kd [] [(2, some y2)] mo (wM <| wM <| wM <| wE (zS nG 1) <| wE (xT sh52) <| wE (e_sap (cs := (kY.cells (jN (A3.mk (jC (Q10 a b c d)) (jC (Q11 a b c d)) (jC (Q12 a b c d)))))) (by exact rfl) yE (by exact rfl) (by kernel_rfl) (by kernel_rfl) (by kernel_rfl)) <| wE (eD xJ) <| wR (jZ yR) <| wE (jX (aP a b c d (by omega) (by omega) (by omega) (by omega))) <| wE (jX (by have h := gP (Q10 a b c d) (Q11 a b c d) (Q12 a b c d) (qu bn4) (qu bn5) (qu bn6) (N4 a b c d) (qu bn10); rw [(Q10_n (a := a) (b := b) (c := c) (d := d) hn0), (Q11_n (a := a) (b := b) (c := c) (d := d) hn0), (Q12_n (a := a) (b := b) (c := c) (d := d) hn0)] at h; exact h)) <| wE (vM ar45 1) <| wT (kU xJ) <| wZ) ?_
 refine kx [(13, (kE 2))] [] (zE (uI 2 (hr := by decide)) <| zM <| zZ) ?_
 refine jJ (jW.refl _) ?_
 refine jA <| kx [(14, (vb true))] [] (zE (qN true qM) <| zZ) ?_
 refine jA <| jY ?_
 refine jD <| jA <| jE <| jA <| kx [(6, (kE 2))] [] (zM <| zM <| zZ) ?_
 refine kV (wk (l := [(1, (.ref 0 0)), (2, (.ref 1 0)), (3, (vl 52 1 kR [[(jC (Q00 a b c d)), (jC (Q01 a b c d)), (jC (Q02 a b c d))], [(jC (Q10 a b c d)), (jC (Q11 a b c d)), (jC (Q12 a b c d))], [(jC (Q20 a b c d)), (jC (Q21 a b c d)), (jC (Q22 a b c d))]])), (5, (.ref 2 0)), (6, (kE 2)), (13, (kE 2))]) (b := [(0, some (bx (qX (jO.mk a b c d)))), (1, some y1), (2, some y2)])) ?_
 have bn17 : QL (zI a b c d) 6 := (jT (Eq.symm (Q20_n (a := a) (b := b) (c := c) (d := d) hn0)) (jI (k := 6) bn7 bn10 (by decide)))
 have bn18 : QL (zG a b c d) 6 := (jT (Eq.symm (Q21_n (a := a) (b := b) (c := c) (d := d) hn0)) (jI (k := 6) bn8 bn10 (by decide)))
 have bn19 : QL (uO a b c d) 6 := (jT (Eq.symm (Q22_n (a := a) (b := b) (c := c) (d := d) hn0)) (jI (k := 6) bn9 bn10 (by decide)))
 refine kd [] [(2, some y3)] mo (wM <| wM <| wM <| wE (zS nG 2) <| wE (xT sh52) <| wE (e_sap (cs := (kY.cells (jN (A3.mk (jC (Q20 a b c d)) (jC (Q21 a b c d)) (jC (Q22 a b c d)))))) (by exact rfl) yE (by exact rfl) (by kernel_rfl) (by kernel_rfl) (by kernel_rfl)) <| wE (eD xJ) <| wR (jZ yR) <| wE (jX (aP a b c d (by omega) (by omega) (by omega) (by omega))) <| wE (jX (by have h := gP (Q20 a b c d) (Q21 a b c d) (Q22 a b c d) (qu bn7) (qu bn8) (qu bn9) (N4 a b c d) (qu bn10); rw [(Q20_n (a := a) (b := b) (c := c) (d := d) hn0), (Q21_n (a := a) (b := b) (c := c) (d := d) hn0), (Q22_n (a := a) (b := b) (c := c) (d := d) hn0)] at h; exact h)) <| wE (vM ar45 2) <| wT (kU xJ) <| wZ) ?_
 refine kx [(13, (kE 3))] [] (zE (uI 3 (hr := by decide)) <| zM <| zZ) ?_
 refine jJ (jW.refl _) ?_
 refine jA <| kx [(14, (vb false))] [] (zE (qN false qM) <| zZ) ?_
 refine jA <| kG ?_
 refine kK <| jA <| kx [] [(1, some y3)] (zR (jZ sh45) <| zT (kU sh45) <| zZ) ?_
 refine jH ⟨_, (kZ (cs := (bx (cD (A3.mk (A3.mk (jC (xY a b c d)) (jC (xW a b c d)) (jC (uK a b c d))) (A3.mk (jC (zC a b c d)) (jC (zD a b c d)) (jC (uL a b c d))) (A3.mk (jC (zI a b c d)) (jC (zG a b c d)) (jC (uO a b c d))))))) (d := (cD (A3.mk (A3.mk (jC (xY a b c d)) (jC (xW a b c d)) (jC (uK a b c d))) (A3.mk (jC (zC a b c d)) (jC (zD a b c d)) (jC (uL a b c d))) (A3.mk (jC (zI a b c d)) (jC (zG a b c d)) (jC (uO a b c d)))))) rfl rfl sh45 rfl rfl .nil), ?_⟩
 rfl
theorem q_stn (sx sy sz sa sb sc sd sf su sv : Int) : kD Tryz.prog 125 [(uX (kH.mk (jL.mk sx sy sz) (jO.mk sa sb sc sd) sf (kI.mk su sv)))] (.val (.int .i64 ((((uP sx sy sz su sv sf sa sb sc sd) : Nat) : Int)))) := by
 refine jK Tryz.func125 rfl cb125 rfl ?_
 show uY _ _ _ _ ⟨[(0, (.d (uX (kH.mk (jL.mk sx sy sz) (jO.mk sa sb sc sd) sf (kI.mk su sv)))))], []⟩
 refine jA <| kx [(1, (.ref 0 0))] [(0, some (bx (uX (kH.mk (jL.mk sx sy sz) (jO.mk sa sb sc sd) sf (kI.mk su sv)))))] (zN (vN 0) <| zM <| zZ) ?_
 refine jA <| jA <| kx [(20, (vl 3 1 vL [sx, sy, sz, su, sv])), (21, (kE 5)), (22, (kE 0))] [] (zE (kO yC) <| zE (kO yB) <| zR (uM uH) <| zE (kO yC) <| zE (kO yK) <| zR (uM uH) <| zE (kO yC) <| zE (kO yL) <| zR (uM uH) <| zE (kO fo29_3) <| zE (kO fo27_0) <| zR (uM uH) <| zE (kO fo29_3) <| zE (kO fo27_1) <| zR (uM uH) <| zE (nM vB ze3 zo3) <| zE (oLn vB 5) <| zM <| zZ) ?_
 refine jE <| kW 20 ?_
 refine qC <| jA <| kx [(23, (vb true))] [] (zE (qN true qM) <| zZ) ?_
 refine jA <| jY ?_
 refine jD <| jA <| jE <| jA <| kx [(4, (vi sx))] [] (zE (zS vB 0) <| zE (xT uH) <| zM <| zZ) ?_
 refine jA <| kx [(31, (vb (decide (sx < -1048576) || decide (((1048576 : Nat) : Int) < sx))))] [] ?_ ?_
 ·refine zM <| zE qM <| zE (oV (vb (decide (sx < -1048576))) (vX (by kernel_rfl))) <| ?_
  rcases hb1 : (decide (sx < -1048576)) with _ | _
  ·replace hb1 := of_decide_eq_false hb1
   exact zM <| zE hM <| zE oPo <| zZ
  ·replace hb1 := of_decide_eq_true hb1
   exact zK <| zK <| zE mX <| zZ
 refine jS rfl (fun h2 => ?_) (fun h2 => ?_)
 ·refine jA <| kx [(2, (kE 2))] [] (zM <| zZ) ?_
  refine jH ⟨_, (.tmp (d := (.val (.int .i64 (((2 : Nat) : Int))))) rfl .nil), ?_⟩
  first | (rw [show uP sx sy sz su sv sf sa sb sc sd = gC sa sb sc sd from mP (by unfold nL; simp_all <;> omega)]; rfl) | (rw [show uP sx sy sz su sv sf sa sb sc sd = 2 from mM (by unfold nL; simp_all <;> omega)]; rfl)
 ·refine jD <| kx [(22, (kE 1))] [] (zE (uI 1 (hr := by decide)) <| zM <| zZ) ?_
  refine jJ (jW.refl _) ?_
  refine jA <| kx [(23, (vb true))] [] (zE (qN true qM) <| zZ) ?_
  refine jA <| jY ?_
  refine jD <| jA <| jE <| jA <| kx [(4, (vi sy))] [] (zE (zS vB 1) <| zE (xT uH) <| zM <| zZ) ?_
  refine jA <| kx [(31, (vb (decide (sy < -1048576) || decide (((1048576 : Nat) : Int) < sy))))] [] ?_ ?_
  ·refine zM <| zE qM <| zE (oV (vb (decide (sy < -1048576))) (vX (by kernel_rfl))) <| ?_
   rcases hb3 : (decide (sy < -1048576)) with _ | _
   ·replace hb3 := of_decide_eq_false hb3
    exact zM <| zE hM <| zE oPo <| zZ
   ·replace hb3 := of_decide_eq_true hb3
    exact zK <| zK <| zE mX <| zZ
  refine jS rfl (fun h4 => ?_) (fun h4 => ?_)
  ·refine jA <| kx [(2, (kE 2))] [] (zM <| zZ) ?_
   refine jH ⟨_, (.tmp (d := (.val (.int .i64 (((2 : Nat) : Int))))) rfl .nil), ?_⟩
   first | (rw [show uP sx sy sz su sv sf sa sb sc sd = gC sa sb sc sd from mP (by unfold nL; simp_all <;> omega)]; rfl) | (rw [show uP sx sy sz su sv sf sa sb sc sd = 2 from mM (by unfold nL; simp_all <;> omega)]; rfl)
  ·refine jD <| kx [(22, (kE 2))] [] (zE (uI 2 (hr := by decide)) <| zM <| zZ) ?_
   refine jJ (jW.refl _) ?_
   refine jA <| kx [(23, (vb true))] [] (zE (qN true qM) <| zZ) ?_
   refine jA <| jY ?_
   refine jD <| jA <| jE <| jA <| kx [(4, (vi sz))] [] (zE (zS vB 2) <| zE (xT uH) <| zM <| zZ) ?_
   refine jA <| kx [(31, (vb (decide (sz < -1048576) || decide (((1048576 : Nat) : Int) < sz))))] [] ?_ ?_
   ·refine zM <| zE qM <| zE (oV (vb (decide (sz < -1048576))) (vX (by kernel_rfl))) <| ?_
    rcases hb5 : (decide (sz < -1048576)) with _ | _
    ·replace hb5 := of_decide_eq_false hb5
     exact zM <| zE hM <| zE oPo <| zZ
    ·replace hb5 := of_decide_eq_true hb5
     exact zK <| zK <| zE mX <| zZ
   refine jS rfl (fun h6 => ?_) (fun h6 => ?_)
   ·refine jA <| kx [(2, (kE 2))] [] (zM <| zZ) ?_
    refine jH ⟨_, (.tmp (d := (.val (.int .i64 (((2 : Nat) : Int))))) rfl .nil), ?_⟩
    first | (rw [show uP sx sy sz su sv sf sa sb sc sd = gC sa sb sc sd from mP (by unfold nL; simp_all <;> omega)]; rfl) | (rw [show uP sx sy sz su sv sf sa sb sc sd = 2 from mM (by unfold nL; simp_all <;> omega)]; rfl)
   ·refine jD <| kx [(22, (kE 3))] [] (zE (uI 3 (hr := by decide)) <| zM <| zZ) ?_
    refine jJ (jW.refl _) ?_
    refine jA <| kV (wk (l := [(1, (.ref 0 0)), (20, (vl 3 1 vL [sx, sy, sz, su, sv])), (21, (kE 5)), (22, (kE 3))]) (b := [(0, some (bx (uX (kH.mk (jL.mk sx sy sz) (jO.mk sa sb sc sd) sf (kI.mk su sv)))))])) ?_
    refine kx [(23, (vb true))] [] (zE (qN true qM) <| zZ) ?_
    refine jA <| jY ?_
    refine jD <| jA <| jE <| jA <| kx [(4, (vi su))] [] (zE (zS vB 3) <| zE (xT uH) <| zM <| zZ) ?_
    refine jA <| kx [(31, (vb (decide (su < -1048576) || decide (((1048576 : Nat) : Int) < su))))] [] ?_ ?_
    ·refine zM <| zE qM <| zE (oV (vb (decide (su < -1048576))) (vX (by kernel_rfl))) <| ?_
     rcases hb7 : (decide (su < -1048576)) with _ | _
     ·replace hb7 := of_decide_eq_false hb7
      exact zM <| zE hM <| zE oPo <| zZ
     ·replace hb7 := of_decide_eq_true hb7
      exact zK <| zK <| zE mX <| zZ
    refine jS rfl (fun h8 => ?_) (fun h8 => ?_)
    ·refine jA <| kx [(2, (kE 2))] [] (zM <| zZ) ?_
     refine jH ⟨_, (.tmp (d := (.val (.int .i64 (((2 : Nat) : Int))))) rfl .nil), ?_⟩
     first | (rw [show uP sx sy sz su sv sf sa sb sc sd = gC sa sb sc sd from mP (by unfold nL; simp_all <;> omega)]; rfl) | (rw [show uP sx sy sz su sv sf sa sb sc sd = 2 from mM (by unfold nL; simp_all <;> omega)]; rfl)
    ·refine jD <| kx [(22, (kE 4))] [] (zE (uI 4 (hr := by decide)) <| zM <| zZ) ?_
     refine jJ (jW.refl _) ?_
     refine jA <| kx [(23, (vb true))] [] (zE (qN true qM) <| zZ) ?_
     refine jA <| jY ?_
     refine jD <| jA <| jE <| jA <| kx [(4, (vi sv))] [] (zE (zS vB 4) <| zE (xT uH) <| zM <| zZ) ?_
     refine jA <| kx [(31, (vb (decide (sv < -1048576) || decide (((1048576 : Nat) : Int) < sv))))] [] ?_ ?_
     ·refine zM <| zE qM <| zE (oV (vb (decide (sv < -1048576))) (vX (by kernel_rfl))) <| ?_
      rcases hb9 : (decide (sv < -1048576)) with _ | _
      ·replace hb9 := of_decide_eq_false hb9
       exact zM <| zE hM <| zE oPo <| zZ
      ·replace hb9 := of_decide_eq_true hb9
       exact zK <| zK <| zE mX <| zZ
     refine jS rfl (fun h10 => ?_) (fun h10 => ?_)
     ·refine jA <| kx [(2, (kE 2))] [] (zM <| zZ) ?_
      refine jH ⟨_, (.tmp (d := (.val (.int .i64 (((2 : Nat) : Int))))) rfl .nil), ?_⟩
      first | (rw [show uP sx sy sz su sv sf sa sb sc sd = gC sa sb sc sd from mP (by unfold nL; simp_all <;> omega)]; rfl) | (rw [show uP sx sy sz su sv sf sa sb sc sd = 2 from mM (by unfold nL; simp_all <;> omega)]; rfl)
     ·refine jD <| kx [(22, (kE 5))] [] (zE (uI 5 (hr := by decide)) <| zM <| zZ) ?_
      refine jJ (jW.refl _) ?_
      refine jA <| kx [(23, (vb false))] [] (zE (qN false qM) <| zZ) ?_
      refine jA <| kG ?_
      refine kK <| jA <| jA <| kx [(40, (vb (decide (sf < ((1 : Nat) : Int)) || decide (((1048576 : Nat) : Int) < sf))))] [] ?_ ?_
      ·refine zE (kO fo29_2) <| zR (uM uH) <| zE qM <| zE (oV (vb (decide (sf < ((1 : Nat) : Int)))) (vX (by kernel_rfl))) <| ?_
       rcases hb11 : (decide (sf < ((1 : Nat) : Int))) with _ | _
       ·replace hb11 := of_decide_eq_false hb11
        exact zE (kO fo29_2) <| zR (uM uH) <| zE hM <| zE oPo <| zZ
       ·replace hb11 := of_decide_eq_true hb11
        exact zK <| zK <| zK <| zE mX <| zZ
      refine jS rfl (fun h12 => ?_) (fun h12 => ?_)
      ·refine jA <| kx [(2, (kE 2))] [] (zM <| zZ) ?_
       refine jH ⟨_, (.tmp (d := (.val (.int .i64 (((2 : Nat) : Int))))) rfl .nil), ?_⟩
       first | (rw [show uP sx sy sz su sv sf sa sb sc sd = gC sa sb sc sd from mP (by unfold nL; simp_all <;> omega)]; rfl) | (rw [show uP sx sy sz su sv sf sa sb sc sd = 2 from mM (by unfold nL; simp_all <;> omega)]; rfl)
      ·refine jD <| jA <| kx [(2, (kE (gC sa sb sc sd)))] [] (zE (kO gU) <| zR (jZ yR) <| zE (jX (q_chk sa sb sc sd)) <| zM <| zZ) ?_
       refine jH ⟨_, (.tmp (d := (.val (.int .i64 ((((gC sa sb sc sd) : Nat) : Int))))) rfl .nil), ?_⟩
       first | (rw [show uP sx sy sz su sv sf sa sb sc sd = gC sa sb sc sd from mP (by unfold nL; simp_all <;> omega)]; rfl) | (rw [show uP sx sy sz su sv sf sa sb sc sd = 2 from mM (by unfold nL; simp_all <;> omega)]; rfl)
theorem qs_stn (sx sy sz sa sb sc sd sf su sv : Int) : kD Tryz.prog 75 [(uX (kH.mk (jL.mk sx sy sz) (jO.mk sa sb sc sd) sf (kI.mk su sv)))] (.val (.int .i64 ((((uP sx sy sz su sv sf sa sb sc sd) : Nat) : Int)))) := by
 refine jK Tryz.func75 rfl cb75 rfl ?_
 show uY _ _ _ _ ⟨[(0, (.d (uX (kH.mk (jL.mk sx sy sz) (jO.mk sa sb sc sd) sf (kI.mk su sv)))))], []⟩
 refine jA <| kx [(1, (.ref 0 0))] [(0, some (bx (uX (kH.mk (jL.mk sx sy sz) (jO.mk sa sb sc sd) sf (kI.mk su sv)))))] (zN (vN 0) <| zM <| zZ) ?_
 refine jA <| jA <| kx [(20, (vl 3 1 vL [sx, sy, sz, su, sv])), (21, (kE 5)), (22, (kE 0))] [] (zE (kO yC) <| zE (kO yB) <| zR (uM uH) <| zE (kO yC) <| zE (kO yK) <| zR (uM uH) <| zE (kO yC) <| zE (kO yL) <| zR (uM uH) <| zE (kO fo29_3) <| zE (kO fo27_0) <| zR (uM uH) <| zE (kO fo29_3) <| zE (kO fo27_1) <| zR (uM uH) <| zE (nM vB ze3 zo3) <| zE (oLn vB 5) <| zM <| zZ) ?_
 refine jE <| kW 20 ?_
 refine qC <| jA <| kx [(23, (vb true))] [] (zE (qN true qM) <| zZ) ?_
 refine jA <| jY ?_
 refine jD <| jA <| jE <| jA <| kx [(4, (vi sx))] [] (zE (zS vB 0) <| zE (xT uH) <| zM <| zZ) ?_
 refine jA <| kx [(31, (vb (decide (sx < -1048576) || decide (((1048576 : Nat) : Int) < sx))))] [] ?_ ?_
 ·refine zM <| zE qM <| zE (oV (vb (decide (sx < -1048576))) (vX (by kernel_rfl))) <| ?_
  rcases hb1 : (decide (sx < -1048576)) with _ | _
  ·replace hb1 := of_decide_eq_false hb1
   exact zM <| zE hM <| zE oPo <| zZ
  ·replace hb1 := of_decide_eq_true hb1
   exact zK <| zK <| zE mX <| zZ
 refine jS rfl (fun h2 => ?_) (fun h2 => ?_)
 ·refine jA <| kx [(2, (kE 2))] [] (zM <| zZ) ?_
  refine jH ⟨_, (.tmp (d := (.val (.int .i64 (((2 : Nat) : Int))))) rfl .nil), ?_⟩
  first | (rw [show uP sx sy sz su sv sf sa sb sc sd = gC sa sb sc sd from mP (by unfold nL; simp_all <;> omega)]; rfl) | (rw [show uP sx sy sz su sv sf sa sb sc sd = 2 from mM (by unfold nL; simp_all <;> omega)]; rfl)
 ·refine jD <| kx [(22, (kE 1))] [] (zE (uI 1 (hr := by decide)) <| zM <| zZ) ?_
  refine jJ (jW.refl _) ?_
  refine jA <| kx [(23, (vb true))] [] (zE (qN true qM) <| zZ) ?_
  refine jA <| jY ?_
  refine jD <| jA <| jE <| jA <| kx [(4, (vi sy))] [] (zE (zS vB 1) <| zE (xT uH) <| zM <| zZ) ?_
  refine jA <| kx [(31, (vb (decide (sy < -1048576) || decide (((1048576 : Nat) : Int) < sy))))] [] ?_ ?_
  ·refine zM <| zE qM <| zE (oV (vb (decide (sy < -1048576))) (vX (by kernel_rfl))) <| ?_
   rcases hb3 : (decide (sy < -1048576)) with _ | _
   ·replace hb3 := of_decide_eq_false hb3
    exact zM <| zE hM <| zE oPo <| zZ
   ·replace hb3 := of_decide_eq_true hb3
    exact zK <| zK <| zE mX <| zZ
  refine jS rfl (fun h4 => ?_) (fun h4 => ?_)
  ·refine jA <| kx [(2, (kE 2))] [] (zM <| zZ) ?_
   refine jH ⟨_, (.tmp (d := (.val (.int .i64 (((2 : Nat) : Int))))) rfl .nil), ?_⟩
   first | (rw [show uP sx sy sz su sv sf sa sb sc sd = gC sa sb sc sd from mP (by unfold nL; simp_all <;> omega)]; rfl) | (rw [show uP sx sy sz su sv sf sa sb sc sd = 2 from mM (by unfold nL; simp_all <;> omega)]; rfl)
  ·refine jD <| kx [(22, (kE 2))] [] (zE (uI 2 (hr := by decide)) <| zM <| zZ) ?_
   refine jJ (jW.refl _) ?_
   refine jA <| kx [(23, (vb true))] [] (zE (qN true qM) <| zZ) ?_
   refine jA <| jY ?_
   refine jD <| jA <| jE <| jA <| kx [(4, (vi sz))] [] (zE (zS vB 2) <| zE (xT uH) <| zM <| zZ) ?_
   refine jA <| kx [(31, (vb (decide (sz < -1048576) || decide (((1048576 : Nat) : Int) < sz))))] [] ?_ ?_
   ·refine zM <| zE qM <| zE (oV (vb (decide (sz < -1048576))) (vX (by kernel_rfl))) <| ?_
    rcases hb5 : (decide (sz < -1048576)) with _ | _
    ·replace hb5 := of_decide_eq_false hb5
     exact zM <| zE hM <| zE oPo <| zZ
    ·replace hb5 := of_decide_eq_true hb5
     exact zK <| zK <| zE mX <| zZ
   refine jS rfl (fun h6 => ?_) (fun h6 => ?_)
   ·refine jA <| kx [(2, (kE 2))] [] (zM <| zZ) ?_
    refine jH ⟨_, (.tmp (d := (.val (.int .i64 (((2 : Nat) : Int))))) rfl .nil), ?_⟩
    first | (rw [show uP sx sy sz su sv sf sa sb sc sd = gC sa sb sc sd from mP (by unfold nL; simp_all <;> omega)]; rfl) | (rw [show uP sx sy sz su sv sf sa sb sc sd = 2 from mM (by unfold nL; simp_all <;> omega)]; rfl)
   ·refine jD <| kx [(22, (kE 3))] [] (zE (uI 3 (hr := by decide)) <| zM <| zZ) ?_
    refine jJ (jW.refl _) ?_
    refine jA <| kV (wk (l := [(1, (.ref 0 0)), (20, (vl 3 1 vL [sx, sy, sz, su, sv])), (21, (kE 5)), (22, (kE 3))]) (b := [(0, some (bx (uX (kH.mk (jL.mk sx sy sz) (jO.mk sa sb sc sd) sf (kI.mk su sv)))))])) ?_
    refine kx [(23, (vb true))] [] (zE (qN true qM) <| zZ) ?_
    refine jA <| jY ?_
    refine jD <| jA <| jE <| jA <| kx [(4, (vi su))] [] (zE (zS vB 3) <| zE (xT uH) <| zM <| zZ) ?_
    refine jA <| kx [(31, (vb (decide (su < -1048576) || decide (((1048576 : Nat) : Int) < su))))] [] ?_ ?_
    ·refine zM <| zE qM <| zE (oV (vb (decide (su < -1048576))) (vX (by kernel_rfl))) <| ?_
     rcases hb7 : (decide (su < -1048576)) with _ | _
     ·replace hb7 := of_decide_eq_false hb7
      exact zM <| zE hM <| zE oPo <| zZ
     ·replace hb7 := of_decide_eq_true hb7
      exact zK <| zK <| zE mX <| zZ
    refine jS rfl (fun h8 => ?_) (fun h8 => ?_)
    ·refine jA <| kx [(2, (kE 2))] [] (zM <| zZ) ?_
     refine jH ⟨_, (.tmp (d := (.val (.int .i64 (((2 : Nat) : Int))))) rfl .nil), ?_⟩
     first | (rw [show uP sx sy sz su sv sf sa sb sc sd = gC sa sb sc sd from mP (by unfold nL; simp_all <;> omega)]; rfl) | (rw [show uP sx sy sz su sv sf sa sb sc sd = 2 from mM (by unfold nL; simp_all <;> omega)]; rfl)
    ·refine jD <| kx [(22, (kE 4))] [] (zE (uI 4 (hr := by decide)) <| zM <| zZ) ?_
     refine jJ (jW.refl _) ?_
     refine jA <| kx [(23, (vb true))] [] (zE (qN true qM) <| zZ) ?_
     refine jA <| jY ?_
     refine jD <| jA <| jE <| jA <| kx [(4, (vi sv))] [] (zE (zS vB 4) <| zE (xT uH) <| zM <| zZ) ?_
     refine jA <| kx [(31, (vb (decide (sv < -1048576) || decide (((1048576 : Nat) : Int) < sv))))] [] ?_ ?_
     ·refine zM <| zE qM <| zE (oV (vb (decide (sv < -1048576))) (vX (by kernel_rfl))) <| ?_
      rcases hb9 : (decide (sv < -1048576)) with _ | _
      ·replace hb9 := of_decide_eq_false hb9
       exact zM <| zE hM <| zE oPo <| zZ
      ·replace hb9 := of_decide_eq_true hb9
       exact zK <| zK <| zE mX <| zZ
     refine jS rfl (fun h10 => ?_) (fun h10 => ?_)
     ·refine jA <| kx [(2, (kE 2))] [] (zM <| zZ) ?_
      refine jH ⟨_, (.tmp (d := (.val (.int .i64 (((2 : Nat) : Int))))) rfl .nil), ?_⟩
      first | (rw [show uP sx sy sz su sv sf sa sb sc sd = gC sa sb sc sd from mP (by unfold nL; simp_all <;> omega)]; rfl) | (rw [show uP sx sy sz su sv sf sa sb sc sd = 2 from mM (by unfold nL; simp_all <;> omega)]; rfl)
     ·refine jD <| kx [(22, (kE 5))] [] (zE (uI 5 (hr := by decide)) <| zM <| zZ) ?_
      refine jJ (jW.refl _) ?_
      refine jA <| kx [(23, (vb false))] [] (zE (qN false qM) <| zZ) ?_
      refine jA <| kG ?_
      refine kK <| jA <| jA <| kx [(40, (vb (decide (sf < ((1 : Nat) : Int)) || decide (((1048576 : Nat) : Int) < sf))))] [] ?_ ?_
      ·refine zE (kO fo29_2) <| zR (uM uH) <| zE qM <| zE (oV (vb (decide (sf < ((1 : Nat) : Int)))) (vX (by kernel_rfl))) <| ?_
       rcases hb11 : (decide (sf < ((1 : Nat) : Int))) with _ | _
       ·replace hb11 := of_decide_eq_false hb11
        exact zE (kO fo29_2) <| zR (uM uH) <| zE hM <| zE oPo <| zZ
       ·replace hb11 := of_decide_eq_true hb11
        exact zK <| zK <| zK <| zE mX <| zZ
      refine jS rfl (fun h12 => ?_) (fun h12 => ?_)
      ·refine jA <| kx [(2, (kE 2))] [] (zM <| zZ) ?_
       refine jH ⟨_, (.tmp (d := (.val (.int .i64 (((2 : Nat) : Int))))) rfl .nil), ?_⟩
       first | (rw [show uP sx sy sz su sv sf sa sb sc sd = gC sa sb sc sd from mP (by unfold nL; simp_all <;> omega)]; rfl) | (rw [show uP sx sy sz su sv sf sa sb sc sd = 2 from mM (by unfold nL; simp_all <;> omega)]; rfl)
      ·refine jD <| jA <| kx [(2, (kE (gC sa sb sc sd)))] [] (zE (kO gU) <| zR (jZ yR) <| zE (jX (qs_chk sa sb sc sd)) <| zM <| zZ) ?_
       refine jH ⟨_, (.tmp (d := (.val (.int .i64 ((((gC sa sb sc sd) : Nat) : Int))))) rfl .nil), ?_⟩
       first | (rw [show uP sx sy sz su sv sf sa sb sc sd = gC sa sb sc sd from mP (by unfold nL; simp_all <;> omega)]; rfl) | (rw [show uP sx sy sz su sv sf sa sb sc sd = 2 from mM (by unfold nL; simp_all <;> omega)]; rfl)
theorem q_inner (sx sy sz sa sb sc sd sf su sv : Int) (hsu : -1048576 ≤ su ∧ su ≤ 1048576) (hsv : -1048576 ≤ sv ∧ sv ≤ 1048576) (hsf : 1 ≤ sf ∧ sf ≤ 1048576) : kD Tryz.prog 71 [(uX (kH.mk (jL.mk sx sy sz) (jO.mk sa sb sc sd) sf (kI.mk su sv)))] (qH (A3.mk (A3.mk (jC ((1 : Int) : Rat)) (jC ((0 : Int) : Rat)) (jC ((-su : Int) : Rat))) (A3.mk (jC ((0 : Int) : Rat)) (jC ((1 : Int) : Rat)) (jC ((-sv : Int) : Rat))) (A3.mk (jC ((0 : Int) : Rat)) (jC ((0 : Int) : Rat)) (jC ((sf : Int) : Rat))))) := by
 let y1 := (A3.mk (jV.mk (jG.mk false []) (jG.mk false [])) (jV.mk (jG.mk false []) (jG.mk false [])) (jV.mk (jG.mk false []) (jG.mk false [])))
 refine jK Tryz.func71 rfl cb71 rfl ?_
 show uY _ _ _ _ ⟨[(0, (.d (uX (kH.mk (jL.mk sx sy sz) (jO.mk sa sb sc sd) sf (kI.mk su sv)))))], []⟩
 refine jA <| kx [(1, (.ref 0 0)), (2, (.ref 1 0))] [(0, some (bx (uX (kH.mk (jL.mk sx sy sz) (jO.mk sa sb sc sd) sf (kI.mk su sv))))), (1, some (bx (qH (A3.mk y1 y1 y1))))] (zN (vN 0) <| zN (qP 1 dZ eC) <| zZ) ?_
 refine jA ?_
 have bn1 : QL ((1 : Int) : Rat) 3 := (qi 1)
 have bn2 : QL ((0 : Int) : Rat) 3 := (qi 0)
 have bn3 : QL ((-su : Int) : Rat) 3 := (qi (-su))
 have bn4 : QL ((-sv : Int) : Rat) 3 := (qi (-sv))
 have bn5 : QL ((sf : Int) : Rat) 3 := (qi sf)
 refine kd [] [(1, some (bx (qH (A3.mk (A3.mk (jC ((1 : Int) : Rat)) (jC ((0 : Int) : Rat)) (jC ((-su : Int) : Rat))) (A3.mk (jC ((0 : Int) : Rat)) (jC ((1 : Int) : Rat)) (jC ((-sv : Int) : Rat))) (A3.mk (jC ((0 : Int) : Rat)) (jC ((0 : Int) : Rat)) (jC ((sf : Int) : Rat)))))))] mo (wE (kO fo29_3) <| wE (kO fo27_0) <| wR (uM uH) <| wE (oNg (-su)) <| wE (jX (q_whole ((1 : Nat) : Int) (by omega) (by omega) ((0 : Nat) : Int) (by omega) (by omega) (-su) (by omega) (by omega))) <| wE (kO fo29_3) <| wE (kO fo27_1) <| wR (uM uH) <| wE (oNg (-sv)) <| wE (jX (q_whole ((0 : Nat) : Int) (by omega) (by omega) ((1 : Nat) : Int) (by omega) (by omega) (-sv) (by omega) (by omega))) <| wE (kO fo29_2) <| wR (uM uH) <| wE (jX (q_whole ((0 : Nat) : Int) (by omega) (by omega) ((0 : Nat) : Int) (by omega) (by omega) sf (by omega) (by omega))) <| wE (oBf xA dZ eC) <| wT (kU gS) <| wZ) ?_
 refine jH ⟨_, (kZ (cs := (bx (qH (A3.mk (A3.mk (jC ((1 : Int) : Rat)) (jC ((0 : Int) : Rat)) (jC ((-su : Int) : Rat))) (A3.mk (jC ((0 : Int) : Rat)) (jC ((1 : Int) : Rat)) (jC ((-sv : Int) : Rat))) (A3.mk (jC ((0 : Int) : Rat)) (jC ((0 : Int) : Rat)) (jC ((sf : Int) : Rat))))))) (d := (qH (A3.mk (A3.mk (jC ((1 : Int) : Rat)) (jC ((0 : Int) : Rat)) (jC ((-su : Int) : Rat))) (A3.mk (jC ((0 : Int) : Rat)) (jC ((1 : Int) : Rat)) (jC ((-sv : Int) : Rat))) (A3.mk (jC ((0 : Int) : Rat)) (jC ((0 : Int) : Rat)) (jC ((sf : Int) : Rat)))))) rfl rfl gS rfl rfl .nil), ?_⟩
 rfl
theorem q_red (a0 a1 a2 : Rat) (ha0 : QL a0 10000000) (ha1 : QL a1 10000000) (ha2 : QL a2 10000000) (hz : yJ a0 a1 a2 = false) : kD Tryz.prog 127 [(jN (A3.mk (jC a0) (jC a1) (jC a2)))] (jN (A3.mk (jC (a0 * (nW a0 a1 a2))) (jC (a1 * (nW a0 a1 a2))) (jC (a2 * (nW a0 a1 a2))))) := by
 refine jK Tryz.func127 rfl cb127 rfl ?_
 show uY _ _ _ _ ⟨[(0, (.d (jN (A3.mk (jC a0) (jC a1) (jC a2)))))], []⟩
 refine jA <| kx [(1, (.ref 0 0)), (2, (.ref 1 0))] [(0, some (bx (jN (A3.mk (jC a0) (jC a1) (jC a2))))), (1, some (bx (jN (A3.mk (jV.mk (jG.mk false []) (jG.mk false [])) (jV.mk (jG.mk false []) (jG.mk false [])) (jV.mk (jG.mk false []) (jG.mk false []))))))] (zN (vN 0) <| zN (qP 1 nO nN) <| zZ) ?_
 refine jA ?_
 have bn1 : hH (kN (((Int.gcd a1.num a2.num : Nat) : Int))) (((Int.gcd a1.num a2.num : Nat) : Int)) 10000000 := (gI (k := 10000000) (uA ha1) (uA ha2) (by decide))
 have bn2 : hH (kN (((Int.gcd a0.num (((Int.gcd a1.num a2.num : Nat) : Int)) : Nat) : Int))) (((Int.gcd a0.num (((Int.gcd a1.num a2.num : Nat) : Int)) : Nat) : Int)) 10000000 := (gI (k := 10000000) (uA ha0) bn1 (by decide))
 refine kd [(3, (.ref 2 0))] [(2, some (bx (jU (kN ((Int.gcd a0.num (((Int.gcd a1.num a2.num : Nat) : Int)) : Nat) : Int)))))] mo (wE (vM uB 0) <| wE (kO yD) <| wR (jZ kF) <| wE (vM uB 1) <| wE (kO yD) <| wR (jZ kF) <| wE (vM uB 2) <| wE (kO yD) <| wR (jZ kF) <| wE (jX (s_gcd (uA ha1) (uA ha2) (by decide) (by decide))) <| wE (jX (s_gcd (uA ha0) bn1 (by decide) (by decide))) <| wN (qP 2 gL gM) <| wT (kU kF) <| wZ) ?_
 refine jA ?_
 have bn3 : QL (Rat.divInt 1 (((Int.gcd a0.num (((Int.gcd a1.num a2.num : Nat) : Int)) : Nat) : Int))) 10000000 := (qL (n := 10000000) (Nat.le_trans (hH.ln (nD (z := 1) (by decide))) (by decide)) (Nat.le_trans (hH.ln bn2) (by decide)) (by decide))
 refine kd [(4, (.ref 3 0))] [(3, some (bx (jM (jC (Rat.divInt 1 (((Int.gcd a0.num (((Int.gcd a1.num a2.num : Nat) : Int)) : Nat) : Int)))))))] mo (wE (jX (t_of 1 (by decide) (by decide))) <| wR (jZ kF) <| wE (jX (f_newO (kN 1) 1 (gN (nD (z := 1) (by decide)) (by decide)) (kN ((Int.gcd a0.num (((Int.gcd a1.num a2.num : Nat) : Int)) : Nat) : Int)) (((Int.gcd a0.num (((Int.gcd a1.num a2.num : Nat) : Int)) : Nat) : Int)) (iu bn2) (gcd3_ne hz))) <| wM <| wE uG <| wE uG <| wN (qP 3 qF qQ) <| wT (kU jR) <| wM <| wZ) ?_
 refine jA <| kx [] [(1, some (bx (jN (A3.mk (jC (a0 * (Rat.divInt 1 (((Int.gcd a0.num (((Int.gcd a1.num a2.num : Nat) : Int)) : Nat) : Int))))) (jC (a1 * (Rat.divInt 1 (((Int.gcd a0.num (((Int.gcd a1.num a2.num : Nat) : Int)) : Nat) : Int))))) (jC (a2 * (Rat.divInt 1 (((Int.gcd a0.num (((Int.gcd a1.num a2.num : Nat) : Int)) : Nat) : Int)))))))))] (zR (jZ uQ) <| zR (jZ jR) <| zE (jX (fO a0 a1 a2 (qu ha0) (qu ha1) (qu ha2) (Rat.divInt 1 (((Int.gcd a0.num (((Int.gcd a1.num a2.num : Nat) : Int)) : Nat) : Int))) (qu bn3))) <| zT (kU uQ) <| zZ) ?_
 refine jH ⟨_, (kZ (cs := (bx (jN (A3.mk (jC (a0 * (Rat.divInt 1 (((Int.gcd a0.num (((Int.gcd a1.num a2.num : Nat) : Int)) : Nat) : Int))))) (jC (a1 * (Rat.divInt 1 (((Int.gcd a0.num (((Int.gcd a1.num a2.num : Nat) : Int)) : Nat) : Int))))) (jC (a2 * (Rat.divInt 1 (((Int.gcd a0.num (((Int.gcd a1.num a2.num : Nat) : Int)) : Nat) : Int))))))))) (d := (jN (A3.mk (jC (a0 * (Rat.divInt 1 (((Int.gcd a0.num (((Int.gcd a1.num a2.num : Nat) : Int)) : Nat) : Int))))) (jC (a1 * (Rat.divInt 1 (((Int.gcd a0.num (((Int.gcd a1.num a2.num : Nat) : Int)) : Nat) : Int))))) (jC (a2 * (Rat.divInt 1 (((Int.gcd a0.num (((Int.gcd a1.num a2.num : Nat) : Int)) : Nat) : Int)))))))) rfl rfl uQ rfl rfl .nil), ?_⟩
 rfl
theorem qs_red (a0 a1 a2 : Rat) (ha0 : QL a0 10000000) (ha1 : QL a1 10000000) (ha2 : QL a2 10000000) (hz : yJ a0 a1 a2 = false) : kD Tryz.prog 80 [(jN (A3.mk (jC a0) (jC a1) (jC a2)))] (jN (A3.mk (jC (a0 * (nW a0 a1 a2))) (jC (a1 * (nW a0 a1 a2))) (jC (a2 * (nW a0 a1 a2))))) := by
 let y1 := (jV.mk (jG.mk false []) (jG.mk false []))
 refine jK Tryz.func80 rfl cb80 rfl ?_
 show uY _ _ _ _ ⟨[(0, (.d (jN (A3.mk (jC a0) (jC a1) (jC a2)))))], []⟩
 refine jA <| kx [(1, (.ref 0 0)), (2, (.ref 1 0))] [(0, some (bx (jN (A3.mk (jC a0) (jC a1) (jC a2))))), (1, some (bx (jN (A3.mk y1 y1 y1))))] (zN (vN 0) <| zN (qP 1 fN fP) <| zZ) ?_
 refine jA <| kx [(3, (.ref 2 0))] [(2, some (bx (jU (kN 0))))] (zE (jX (r_of 0 (by decide) (by decide))) <| zN (qP 2 gL gM) <| zT (kU kF) <| zZ) ?_
 refine jA <| jA <| kx [(9, (.d (jN (A3.mk (jC a0) (jC a1) (jC a2))))), (10, (kE 0))] [] (zR (jZ xJ) <| zM <| zZ) ?_
 refine jE <| kW 20 ?_
 refine qC <| jA <| kx [(11, (vb true))] [] (zE (qN true qM) <| zZ) ?_
 refine jA <| jY ?_
 refine jD <| jA <| jE <| jA <| kx [(5, (.ref 3 0))] [(3, some (bx (jM (jC a0))))] (zE (oXa yE jR (fun h => by cases h) 0) <| zN (qP 3 qF qQ) <| zT (kU jR) <| zZ) ?_
 have bn1 : hH (kN (((Int.gcd 0 a0.num : Nat) : Int))) (((Int.gcd 0 a0.num : Nat) : Int)) 10000000 := (gI (k := 10000000) (nD (z := 0) (by decide)) (uA ha0) (by decide))
 refine kx [] [(2, some (bx (jU (kN ((Int.gcd 0 a0.num : Nat) : Int)))))] (zR (jZ kF) <| zE (kO yD) <| zR (jZ kF) <| zE (jX (rs_gcd (nD (z := 0) (by decide)) (uA ha0) (by decide) (by decide))) <| zT (kU kF) <| zZ) ?_
 refine kx [(10, (kE 1))] [] (zE (uI 1 (hr := by decide)) <| zM <| zZ) ?_
 refine jJ (jW.refl _) ?_
 refine jA <| kx [(11, (vb true))] [] (zE (qN true qM) <| zZ) ?_
 refine jA <| jY ?_
 refine jD <| jA <| jE <| jA <| kx [(5, (.ref 4 0))] [(4, some (bx (jM (jC a1))))] (zE (oXa yE jR (fun h => by cases h) 1) <| zN (qP 4 qF qQ) <| zT (kU jR) <| zZ) ?_
 have bn2 : hH (kN (((Int.gcd (((Int.gcd 0 a0.num : Nat) : Int)) a1.num : Nat) : Int))) (((Int.gcd (((Int.gcd 0 a0.num : Nat) : Int)) a1.num : Nat) : Int)) 10000000 := (gI (k := 10000000) bn1 (uA ha1) (by decide))
 refine kx [] [(2, some (bx (jU (kN ((Int.gcd (((Int.gcd 0 a0.num : Nat) : Int)) a1.num : Nat) : Int)))))] (zR (jZ kF) <| zE (kO yD) <| zR (jZ kF) <| zE (jX (rs_gcd bn1 (uA ha1) (by decide) (by decide))) <| zT (kU kF) <| zZ) ?_
 refine kx [(10, (kE 2))] [] (zE (uI 2 (hr := by decide)) <| zM <| zZ) ?_
 refine jJ (jW.refl _) ?_
 refine jA <| kx [(11, (vb true))] [] (zE (qN true qM) <| zZ) ?_
 refine jA <| jY ?_
 refine jD <| jA <| jE <| jA <| kx [(5, (.ref 5 0))] [(5, some (bx (jM (jC a2))))] (zE (oXa yE jR (fun h => by cases h) 2) <| zN (qP 5 qF qQ) <| zT (kU jR) <| zZ) ?_
 have bn3 : hH (kN (cC a0 a1 a2)) (cC a0 a1 a2) 10000000 := (iok_eqz (gcd3_ref a0 a1 a2).symm (gI (k := 10000000) bn2 (uA ha2) (by decide)))
 refine kx [] [(2, some (bx (jU (kN (cC a0 a1 a2)))))] (zR (jZ kF) <| zE (kO yD) <| zR (jZ kF) <| zE (jX (by have h := rs_gcd bn2 (uA ha2) (by decide) (by decide); rw [(gcd3_ref a0 a1 a2)] at h; exact h)) <| zT (kU kF) <| zZ) ?_
 refine kV (wk (l := [(1, (.ref 0 0)), (2, (.ref 1 0)), (3, (.ref 2 0)), (9, (.d (jN (A3.mk (jC a0) (jC a1) (jC a2))))), (10, (kE 2))]) (b := [(0, some (bx (jN (A3.mk (jC a0) (jC a1) (jC a2))))), (1, some (bx (jN (A3.mk y1 y1 y1)))), (2, some (bx (jU (kN (cC a0 a1 a2)))))])) ?_
 refine kx [(10, (kE 3))] [] (zE (uI 3 (hr := by decide)) <| zM <| zZ) ?_
 refine jJ (jW.refl _) ?_
 refine jA <| kx [(11, (vb false))] [] (zE (qN false qM) <| zZ) ?_
 refine jA <| kG ?_
 refine kK <| jA ?_
 have bn4 : QL (Rat.divInt 1 (cC a0 a1 a2)) 10000000 := (qL (n := 10000000) (Nat.le_trans (hH.ln (nD (z := 1) (by decide))) (by decide)) (Nat.le_trans (hH.ln bn3) (by decide)) (by decide))
 refine kd [(6, (.ref 6 0))] [(6, some (bx (jM (jC (Rat.divInt 1 (cC a0 a1 a2))))))] mo (wE (jX (r_of 1 (by decide) (by decide))) <| wR (jZ kF) <| wE (jX (g_newO (kN 1) 1 (gN (nD (z := 1) (by decide)) (by decide)) (kN (cC a0 a1 a2)) (cC a0 a1 a2) (iu bn3) (gcd3_ne hz))) <| wM <| wE uG <| wE uG <| wN (qP 6 qF qQ) <| wT (kU jR) <| wM <| wZ) ?_
 refine jA <| kx [] [(1, some (bx (jN (A3.mk (jC (a0 * (Rat.divInt 1 (cC a0 a1 a2)))) (jC (a1 * (Rat.divInt 1 (cC a0 a1 a2)))) (jC (a2 * (Rat.divInt 1 (cC a0 a1 a2))))))))] (zR (jZ xJ) <| zR (jZ jR) <| zE (jX (gP a0 a1 a2 (qu ha0) (qu ha1) (qu ha2) (Rat.divInt 1 (cC a0 a1 a2)) (qu bn4))) <| zT (kU xJ) <| zZ) ?_
 refine jH ⟨_, (kZ (cs := (bx (jN (A3.mk (jC (a0 * (Rat.divInt 1 (cC a0 a1 a2)))) (jC (a1 * (Rat.divInt 1 (cC a0 a1 a2)))) (jC (a2 * (Rat.divInt 1 (cC a0 a1 a2)))))))) (d := (jN (A3.mk (jC (a0 * (Rat.divInt 1 (cC a0 a1 a2)))) (jC (a1 * (Rat.divInt 1 (cC a0 a1 a2)))) (jC (a2 * (Rat.divInt 1 (cC a0 a1 a2))))))) rfl rfl xJ rfl rfl .nil), ?_⟩
 rfl
theorem q_isz (a0 a1 a2 : Rat) (ha0 : QL a0 100000000) (ha1 : QL a1 100000000) (ha2 : QL a2 100000000) : kD Tryz.prog 128 [(jN (A3.mk (jC a0) (jC a1) (jC a2)))] (.val (.bool ((yJ a0 a1 a2)))) := by
 refine jK Tryz.func128 rfl cb128 rfl ?_
 show uY _ _ _ _ ⟨[(0, (.d (jN (A3.mk (jC a0) (jC a1) (jC a2)))))], []⟩
 refine jA <| kx [(1, (.ref 0 0))] [(0, some (bx (jN (A3.mk (jC a0) (jC a1) (jC a2)))))] (zN (vN 0) <| zM <| zZ) ?_
 refine jA <| kx [(2, (vb ((qZ (jF a0 a1 a2 a0 a1 a2)) == 0)))] [] (zR (jZ uQ) <| zR (jZ uQ) <| zE (jX (q_dot a0 a1 a2 ha0 ha1 ha2 a0 a1 a2 ha0 ha1 ha2)) <| zE (jX (f_sign (jC (jF a0 a1 a2 a0 a1 a2)) (jF a0 a1 a2 a0 a1 a2) (kB (kC (jQ (n := 100000000) (k := 600000002) ha0 ha1 ha2 ha0 ha1 ha2 (by decide))) (by decide)))) <| zE oEq <| zM <| zZ) ?_
 refine jH ⟨_, (.tmp (d := (.val (.bool (((qZ (jF a0 a1 a2 a0 a1 a2)) == 0))))) rfl .nil), ?_⟩
 rw [← zeroV_dot]; rfl
theorem qs_zero (a0 a1 a2 : Rat) (ha0 : QL a0 100000000) (ha1 : QL a1 100000000) (ha2 : QL a2 100000000) : kD Tryz.prog 79 [(jN (A3.mk (jC a0) (jC a1) (jC a2)))] (.val (.bool ((yJ a0 a1 a2)))) := by
 refine jK Tryz.func79 rfl cb79 rfl ?_
 show uY _ _ _ _ ⟨[(0, (.d (jN (A3.mk (jC a0) (jC a1) (jC a2)))))], []⟩
 refine jA <| kx [(1, (.ref 0 0))] [(0, some (bx (jN (A3.mk (jC a0) (jC a1) (jC a2)))))] (zN (vN 0) <| zM <| zZ) ?_
 refine jA <| kx [(2, (vb ((((qZ a0) == 0) && ((qZ a1) == 0)) && ((qZ a2) == 0))))] [] ?_ ?_
 ·refine zE (vM yE 0) <| zR (jZ jR) <| zE (jX (g_sign (jC a0) a0 (kB (kC ha0) (by decide)))) <| zE oEq <| zE (oV (vb ((qZ a0) == 0)) (vX (by kernel_rfl))) <| ?_
  rcases hb1 : ((qZ a0) == 0) with _ | _
  ·replace hb1 := ne_of_beq_false hb1
   exact zK <| zK <| zK <| zK <| zE mV <| zM <| zK <| zK <| zK <| zK <| zE mV <| zM <| zZ
  ·replace hb1 := eq_of_beq hb1
   refine zE (vM yE 1) <| zR (jZ jR) <| zE (jX (g_sign (jC a1) a1 (kB (kC ha1) (by decide)))) <| zE oEq <| zE oPa <| zE (oV (vb (true && ((qZ a1) == 0))) (vX (by kernel_rfl))) <| ?_
   rcases hb2 : (true && ((qZ a1) == 0)) with _ | _
   ·exact zK <| zK <| zK <| zK <| zE mV <| zM <| zZ
   ·exact zE (vM yE 2) <| zR (jZ jR) <| zE (jX (g_sign (jC a2) a2 (kB (kC ha2) (by decide)))) <| zE oEq <| zE oPa <| zM <| zZ
 refine jH ⟨_, (.tmp (d := (.val (.bool (((((qZ a0) == 0) && ((qZ a1) == 0)) && ((qZ a2) == 0)))))) rfl .nil), ?_⟩
 rw [zeroV_sgn]; rfl
end Go.Proofs.YtbecgnplakngdaaGreat
