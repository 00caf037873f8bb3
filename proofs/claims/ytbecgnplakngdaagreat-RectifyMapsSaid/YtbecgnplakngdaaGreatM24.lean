/- Part 24 of a proof: rules, plain facts, and functions walked. -/
import Derived.Test.YtbecgnplakngdaaGreatM23
namespace Go.Proofs.YtbecgnplakngdaaGreat
open Go.Fid
set_option maxRecDepth 4000
set_option linter.unusedVariables false
set_option linter.unusedSimpArgs false
theorem ar203 : eA Tryz.prog 203 = some (3, 3, 1) := by kernel_rfl
theorem ar204 : eA Tryz.prog 204 = some (3, 203, 3) := by kernel_rfl
theorem by42 : nR Tryz.prog 42 = some 64 := by kernel_rfl
theorem by52 : nR Tryz.prog 52 = some 24 := by kernel_rfl
theorem cb124 : callB Tryz.prog 124 = true := by kernel_rfl
theorem cb129 : callB Tryz.prog 129 = true := by kernel_rfl
theorem cb132 : callB Tryz.prog 132 = true := by kernel_rfl
theorem nN : xW Tryz.prog 34 = some (52, 1) := by kernel_rfl
theorem el109 : xW Tryz.prog 109 = some (74, 1) := by kernel_rfl
theorem sh74 : uK Tryz.prog 74 = some (false, 1) := by kernel_rfl
theorem sh203 : uK Tryz.prog 203 = some (true, 3) := by kernel_rfl
theorem sh204 : uK Tryz.prog 204 = some (true, 9) := by kernel_rfl
theorem aZ : xI Tryz.prog 52 = some [.slice none 0 0] := by kernel_rfl
theorem ze74 : xI Tryz.prog 74 = some [.slice none 0 0] := by kernel_rfl
theorem ze203 : xI Tryz.prog 203 = some [.int .i64 0, .int .i64 0, .int .i64 0] := by kernel_rfl
theorem ze204 : xI Tryz.prog 204 = some [.int .i64 0, .int .i64 0, .int .i64 0, .int .i64 0, .int .i64 0, .int .i64 0, .int .i64 0, .int .i64 0, .int .i64 0] := by kernel_rfl
theorem zo52 : mG [.slice none 0 0] [.sl 42 4 []] := by simp [mG, Value.oneCell']
theorem zo74 : mG [.slice none 0 0] [.sl 3 1 []] := by simp [mG, Value.oneCell']
theorem zo203 : mG [.int .i64 0, .int .i64 0, .int .i64 0] [.val (.int .i64 0), .val (.int .i64 0), .val (.int .i64 0)] := by simp [mG, Value.oneCell']
theorem zo204 : mG [.int .i64 0, .int .i64 0, .int .i64 0, .int .i64 0, .int .i64 0, .int .i64 0, .int .i64 0, .int .i64 0, .int .i64 0] [.val (.int .i64 0), .val (.int .i64 0), .val (.int .i64 0), .val (.int .i64 0), .val (.int .i64 0), .val (.int .i64 0), .val (.int .i64 0), .val (.int .i64 0), .val (.int .i64 0)] := by simp [mG, Value.oneCell']
theorem q_of (n : Int) (hnl : -9223372036854775808 ≤ n) (hnh : n ≤ 9223372036854775807) (d : Int) (hdl : -9223372036854775808 ≤ d) (hdh : d ≤ 9223372036854775807) (hd : d ≠ 0) : kE Tryz.prog 124 [(.val (.int .i64 (n))), (.val (.int .i64 (d)))] (.tup [(jR (jB (Rat.divInt n d))), (.val (.int .i64 (0)))]) := by
 refine jN Tryz.func124 rfl cb124 rfl ?_
 show uT _ _ _ _ ⟨[(0, (vi n)), (1, (vi d))], []⟩
 refine jA <| kx [(4, (.ref 0 0))] [(0, some (bx (jR (jQ.mk (jF.mk false []) (jF.mk false [])))))] (zN (qS 0 qR qY) <| zM <| zZ) ?_
 refine jA <| kx [(5, (vi 0))] [(0, some (bx (jR (jB (Rat.divInt n d)))))] (zM <| zE (kA (t_of n (by omega) (by omega))) <| zM <| zE (kA (t_of d (by omega) (by omega))) <| zE (kA (f_newO (qD n) n (gP (iok_int (z := n) (by omega) (by omega)) (by decide)) (qD d) d (gP (iok_int (z := d) (by omega) (by omega)) (by decide)) hd)) <| zE uH <| zE uH <| zT (qB jT) <| zM <| zZ) ?_
 refine jJ ⟨_, (qI (cs := (bx (jR (jB (Rat.divInt n d))))) (d := (jR (jB (Rat.divInt n d)))) rfl rfl jT rfl rfl (.tmp (d := (.val (.int .i64 (0)))) rfl .nil)), ?_⟩
 rfl
theorem qs_of (n : Int) (hnl : -9223372036854775808 ≤ n) (hnh : n ≤ 9223372036854775807) (d : Int) (hdl : -9223372036854775808 ≤ d) (hdh : d ≤ 9223372036854775807) (hd : d ≠ 0) : kE Tryz.prog 63 [(.val (.int .i64 (n))), (.val (.int .i64 (d)))] (.tup [(jR (jB (Rat.divInt n d))), (.val (.int .i64 (0)))]) := by
 refine jN Tryz.func63 rfl cb63 rfl ?_
 show uT _ _ _ _ ⟨[(0, (vi n)), (1, (vi d))], []⟩
 refine jA <| kx [(4, (.ref 0 0))] [(0, some (bx (jR (jQ.mk (jF.mk false []) (jF.mk false [])))))] (zN (qS 0 qR qY) <| zM <| zZ) ?_
 refine jA <| kx [(5, (vi 0))] [(0, some (bx (jR (jB (Rat.divInt n d)))))] (zM <| zE (kA (g_whole1 n (by omega) (by omega))) <| zM <| zE (kA (g_whole1 d (by omega) (by omega))) <| zE (kA (g_newO (qD n) n (gP (iok_int (z := n) (by omega) (by omega)) (by decide)) (qD d) d (gP (iok_int (z := d) (by omega) (by omega)) (by decide)) hd)) <| zE uH <| zE uH <| zT (qB jT) <| zM <| zZ) ?_
 refine jJ ⟨_, (qI (cs := (bx (jR (jB (Rat.divInt n d))))) (d := (jR (jB (Rat.divInt n d)))) rfl rfl jT rfl rfl (.tmp (d := (.val (.int .i64 (0)))) rfl .nil)), ?_⟩
 rfl
theorem q_rmat (a b c d : Int) (ha : -1048576 ≤ a ∧ a ≤ 1048576) (hb : -1048576 ≤ b ∧ b ≤ 1048576) (hc : -1048576 ≤ c ∧ c ≤ 1048576) (hd : -1048576 ≤ d ∧ d ≤ 1048576) (hq : yY a b c d = 0) (hn0 : nq a b c d ≠ 0) : kE Tryz.prog 129 [(uJ (jK.mk a b c d))] (.tup [(.sl 52 1 (List.map qJ [[(jB (Q00 a b c d)), (jB (Q01 a b c d)), (jB (Q02 a b c d))], [(jB (Q10 a b c d)), (jB (Q11 a b c d)), (jB (Q12 a b c d))], [(jB (Q20 a b c d)), (jB (Q21 a b c d)), (jB (Q22 a b c d))]])), (.val (.int .i64 (0)))]) := by
 have saa := vM ha ha
 have sab := vM ha hb
 have sac := vM ha hc
 have sad := vM ha hd
 have sbb := vM hb hb
 have sbc := vM hb hc
 have sbd := vM hb hd
 have scc := vM hc hc
 have scd := vM hc hd
 have sdd := vM hd hd
 have hnq := xV ha hb hc hd
 let y13 := (jB (Rat.divInt (2 * ((c * d) + (a * b))) (nq a b c d)))
 let y12 := (jB (Rat.divInt (2 * ((b * d) - (a * c))) (nq a b c d)))
 let y11 := (jB (Rat.divInt (2 * ((c * d) - (a * b))) (nq a b c d)))
 let y10 := (jB (Rat.divInt (2 * ((b * c) + (a * d))) (nq a b c d)))
 let y9 := (jB (Rat.divInt (2 * ((b * d) + (a * c))) (nq a b c d)))
 let y8 := (jB (Rat.divInt (2 * ((b * c) - (a * d))) (nq a b c d)))
 let y7 := (jB (Rat.divInt ((((a * a) - (b * b)) - (c * c)) + (d * d)) (nq a b c d)))
 let y6 := (jB (Rat.divInt ((((a * a) - (b * b)) + (c * c)) - (d * d)) (nq a b c d)))
 let y5 := (jB (Rat.divInt ((((a * a) + (b * b)) - (c * c)) - (d * d)) (nq a b c d)))
 let y4 := (encA203 (A3.mk (((2 : Nat) : Int) * ((b * d) - (a * c))) (((2 : Nat) : Int) * ((c * d) + (a * b))) ((((a * a) - (b * b)) - (c * c)) + (d * d))))
 let y3 := (encA203 (A3.mk (((2 : Nat) : Int) * ((b * c) + (a * d))) ((((a * a) - (b * b)) + (c * c)) - (d * d)) (((2 : Nat) : Int) * ((c * d) - (a * b)))))
 let y2 := (encA203 (A3.mk ((((a * a) + (b * b)) - (c * c)) - (d * d)) (((2 : Nat) : Int) * ((b * c) - (a * d))) (((2 : Nat) : Int) * ((b * d) + (a * c)))))
 let y1 := (encA204 (A3.mk (A3.mk ((((a * a) + (b * b)) - (c * c)) - (d * d)) (((2 : Nat) : Int) * ((b * c) - (a * d))) (((2 : Nat) : Int) * ((b * d) + (a * c)))) (A3.mk (((2 : Nat) : Int) * ((b * c) + (a * d))) ((((a * a) - (b * b)) + (c * c)) - (d * d)) (((2 : Nat) : Int) * ((c * d) - (a * b)))) (A3.mk (((2 : Nat) : Int) * ((b * d) - (a * c))) (((2 : Nat) : Int) * ((c * d) + (a * b))) ((((a * a) - (b * b)) - (c * c)) + (d * d)))))
 refine jN Tryz.func129 rfl cb129 rfl ?_
 show uT _ _ _ _ ⟨[(0, (.d (uJ (jK.mk a b c d))))], []⟩
 refine jA <| kx [(1, (.ref 0 0))] [(0, some (bx (uJ (jK.mk a b c d))))] (zN (uX 0) <| zE (oNl 52 1) <| zM <| zZ) ?_
 refine jA <| jA <| kx [(4, (kX (yY a b c d)))] [] (zR (kC zV) <| zE (kA (q_chk a b c d)) <| zM <| zZ) ?_
 refine jA <| kx [(21, (vb false))] [] (zM <| zE (vB false eI (by exact bne_eq_false_iff_eq.2 (by rw [show (yY a b c d) = 0 from hq]; rfl))) <| zZ) ?_
 refine kY ?_
 refine jE <| jA <| kd [(5, (vi a)), (6, (vi b)), (7, (vi c)), (8, (vi d))] [] mo (wE (qE cP) <| wR (vD vQ) <| wE (qE cQ) <| wR (vD vQ) <| wE (qE cS) <| wR (vD vQ) <| wE (qE cU) <| wR (vD vQ) <| wM <| wM <| wM <| wM <| wZ) ?_
 refine jA <| kx [(9, (.ref 1 0))] [(1, some (bx y1))] (zM <| zM <| zE (hP (a * a) (hr := by exact (qX rfl (by simp only [xG]; omega) (by simp only [xJ]; omega)))) <| zM <| zM <| zE (hP (b * b) (hr := by exact (qX rfl (by simp only [xG]; omega) (by simp only [xJ]; omega)))) <| zE (zAd ((a * a) + (b * b)) (hr := by exact (qX rfl (by simp only [xG]; omega) (by simp only [xJ]; omega)))) <| zM <| zM <| zE (hP (c * c) (hr := by exact (qX rfl (by simp only [xG]; omega) (by simp only [xJ]; omega)))) <| zE (fJ (((a * a) + (b * b)) - (c * c)) (hr := by exact (qX rfl (by simp only [xG]; omega) (by simp only [xJ]; omega)))) <| zM <| zM <| zE (hP (d * d) (hr := by exact (qX rfl (by simp only [xG]; omega) (by simp only [xJ]; omega)))) <| zE (fJ ((((a * a) + (b * b)) - (c * c)) - (d * d)) (hr := by exact (qX rfl (by simp only [xG]; omega) (by simp only [xJ]; omega)))) <| zM <| zM <| zE (hP (b * c) (hr := by exact (qX rfl (by simp only [xG]; omega) (by simp only [xJ]; omega)))) <| zM <| zM <| zE (hP (a * d) (hr := by exact (qX rfl (by simp only [xG]; omega) (by simp only [xJ]; omega)))) <| zE (fJ ((b * c) - (a * d)) (hr := by exact (qX rfl (by simp only [xG]; omega) (by simp only [xJ]; omega)))) <| zE (hP (((2 : Nat) : Int) * ((b * c) - (a * d))) (hr := by exact (qX rfl (by simp only [xG]; omega) (by simp only [xJ]; omega)))) <| zM <| zM <| zE (hP (b * d) (hr := by exact (qX rfl (by simp only [xG]; omega) (by simp only [xJ]; omega)))) <| zM <| zM <| zE (hP (a * c) (hr := by exact (qX rfl (by simp only [xG]; omega) (by simp only [xJ]; omega)))) <| zE (zAd ((b * d) + (a * c)) (hr := by exact (qX rfl (by simp only [xG]; omega) (by simp only [xJ]; omega)))) <| zE (hP (((2 : Nat) : Int) * ((b * d) + (a * c))) (hr := by exact (qX rfl (by simp only [xG]; omega) (by simp only [xJ]; omega)))) <| zE (oBf ar203 ze203 zo203) <| zM <| zM <| zE (hP (b * c) (hr := by exact (qX rfl (by simp only [xG]; omega) (by simp only [xJ]; omega)))) <| zM <| zM <| zE (hP (a * d) (hr := by exact (qX rfl (by simp only [xG]; omega) (by simp only [xJ]; omega)))) <| zE (zAd ((b * c) + (a * d)) (hr := by exact (qX rfl (by simp only [xG]; omega) (by simp only [xJ]; omega)))) <| zE (hP (((2 : Nat) : Int) * ((b * c) + (a * d))) (hr := by exact (qX rfl (by simp only [xG]; omega) (by simp only [xJ]; omega)))) <| zM <| zM <| zE (hP (a * a) (hr := by exact (qX rfl (by simp only [xG]; omega) (by simp only [xJ]; omega)))) <| zM <| zM <| zE (hP (b * b) (hr := by exact (qX rfl (by simp only [xG]; omega) (by simp only [xJ]; omega)))) <| zE (fJ ((a * a) - (b * b)) (hr := by exact (qX rfl (by simp only [xG]; omega) (by simp only [xJ]; omega)))) <| zM <| zM <| zE (hP (c * c) (hr := by exact (qX rfl (by simp only [xG]; omega) (by simp only [xJ]; omega)))) <| zE (zAd (((a * a) - (b * b)) + (c * c)) (hr := by exact (qX rfl (by simp only [xG]; omega) (by simp only [xJ]; omega)))) <| zM <| zM <| zE (hP (d * d) (hr := by exact (qX rfl (by simp only [xG]; omega) (by simp only [xJ]; omega)))) <| zE (fJ ((((a * a) - (b * b)) + (c * c)) - (d * d)) (hr := by exact (qX rfl (by simp only [xG]; omega) (by simp only [xJ]; omega)))) <| zM <| zM <| zE (hP (c * d) (hr := by exact (qX rfl (by simp only [xG]; omega) (by simp only [xJ]; omega)))) <| zM <| zM <| zE (hP (a * b) (hr := by exact (qX rfl (by simp only [xG]; omega) (by simp only [xJ]; omega)))) <| zE (fJ ((c * d) - (a * b)) (hr := by exact (qX rfl (by simp only [xG]; omega) (by simp only [xJ]; omega)))) <| zE (hP (((2 : Nat) : Int) * ((c * d) - (a * b))) (hr := by exact (qX rfl (by simp only [xG]; omega) (by simp only [xJ]; omega)))) <| zE (oBf ar203 ze203 zo203) <| zM <| zM <| zE (hP (b * d) (hr := by exact (qX rfl (by simp only [xG]; omega) (by simp only [xJ]; omega)))) <| zM <| zM <| zE (hP (a * c) (hr := by exact (qX rfl (by simp only [xG]; omega) (by simp only [xJ]; omega)))) <| zE (fJ ((b * d) - (a * c)) (hr := by exact (qX rfl (by simp only [xG]; omega) (by simp only [xJ]; omega)))) <| zE (hP (((2 : Nat) : Int) * ((b * d) - (a * c))) (hr := by exact (qX rfl (by simp only [xG]; omega) (by simp only [xJ]; omega)))) <| zM <| zM <| zE (hP (c * d) (hr := by exact (qX rfl (by simp only [xG]; omega) (by simp only [xJ]; omega)))) <| zM <| zM <| zE (hP (a * b) (hr := by exact (qX rfl (by simp only [xG]; omega) (by simp only [xJ]; omega)))) <| zE (zAd ((c * d) + (a * b)) (hr := by exact (qX rfl (by simp only [xG]; omega) (by simp only [xJ]; omega)))) <| zE (hP (((2 : Nat) : Int) * ((c * d) + (a * b))) (hr := by exact (qX rfl (by simp only [xG]; omega) (by simp only [xJ]; omega)))) <| zM <| zM <| zE (hP (a * a) (hr := by exact (qX rfl (by simp only [xG]; omega) (by simp only [xJ]; omega)))) <| zM <| zM <| zE (hP (b * b) (hr := by exact (qX rfl (by simp only [xG]; omega) (by simp only [xJ]; omega)))) <| zE (fJ ((a * a) - (b * b)) (hr := by exact (qX rfl (by simp only [xG]; omega) (by simp only [xJ]; omega)))) <| zM <| zM <| zE (hP (c * c) (hr := by exact (qX rfl (by simp only [xG]; omega) (by simp only [xJ]; omega)))) <| zE (fJ (((a * a) - (b * b)) - (c * c)) (hr := by exact (qX rfl (by simp only [xG]; omega) (by simp only [xJ]; omega)))) <| zM <| zM <| zE (hP (d * d) (hr := by exact (qX rfl (by simp only [xG]; omega) (by simp only [xJ]; omega)))) <| zE (zAd ((((a * a) - (b * b)) - (c * c)) + (d * d)) (hr := by exact (qX rfl (by simp only [xG]; omega) (by simp only [xJ]; omega)))) <| zE (oBf ar203 ze203 zo203) <| zE (oBf ar204 ze204 zo204) <| zN (qS 1 ze204 zo204) <| zT (qB sh204) <| zZ) ?_
 refine jA <| kx [(10, (.own 2 52 1 0))] [(2, some (bm qJ []))] (zO 2 52 1 <| zZ) ?_
 refine jA <| jA <| kx [(128, (.d y1)), (129, (kX 0))] [] (zR (kC sh204) <| zM <| zZ) ?_
 refine jG <| qU 20 ?_
 refine uF <| jA <| kx [(130, (vb true))] [] (zE (vB true uW) <| zZ) ?_
 refine jA <| kS ?_
 refine jE <| jA <| jG <| jA <| kx [(12, (.ref 3 0))] [(3, some (bx y2))] (zE (oXa ar204 sh203 (fun h => by cases h) 0) <| zH (qS 3 ze203 zo203) <| zT (qB sh203) <| zZ) ?_
 refine jA <| kx [(13, (.own 4 42 4 0))] [(4, some (aT jR []))] (zO 4 42 4 <| zZ) ?_
 refine jA <| jA <| kx [(132, (.d y2)), (133, (kX 0))] [] (zR (kC sh203) <| zM <| zZ) ?_
 refine jG <| qU 20 ?_
 refine uF <| jA <| kx [(134, (vb true))] [] (zE (vB true uW) <| zZ) ?_
 refine jA <| kS ?_
 refine jE <| jA <| jG <| jA <| kx [(15, (vi ((((a * a) + (b * b)) - (c * c)) - (d * d))))] [] (zE (oXa ar203 vQ (fun _ => rfl) 0) <| zM <| zZ) ?_
 refine jA ?_
 have bn1 : QL (Rat.divInt ((((a * a) + (b * b)) - (c * c)) - (d * d)) (nq a b c d)) 3 := (qZ (n := 3) (jO (by omega) (by omega)) (jO (by omega) (by omega)) (by decide))
 refine kx [(16, (.ref 5 0))] [(5, some (bx (jR y5)))] (zM <| zR (kC zV) <| zE (kA (eM a b c d (by omega) (by omega) (by omega) (by omega))) <| zE (kA (q_of ((((a * a) + (b * b)) - (c * c)) - (d * d)) (by omega) (by omega) (nq a b c d) (by omega) (by omega) hn0)) <| zM <| zE uH <| zE uH <| zH (qS 5 qR qY) <| zT (qB jT) <| zM <| zZ) ?_
 refine qM (wk (l := [(1, (.ref 0 0)), (10, (.own 2 52 1 0)), (13, (.own 4 42 4 0)), (16, (.ref 5 0)), (128, (.d y1)), (129, (kX 0)), (132, (.d y2)), (133, (kX 0))]) (b := [(0, some (bx (uJ (jK.mk a b c d)))), (2, some (bm qJ [])), (4, some (aT jR [])), (5, some (bx (jR y5)))])) ?_
 refine kf [(13, (.own 4 42 4 (([] ++ [y5]).length)))] [(4, some (aT jR ([] ++ [y5])))] (zM <| zR (kC jT) <| zE (cH vT qR qY) <| zAS jR [] [y5] rfl vT qR by42 (hbig := by exact (by simp +zetaDelta [maxLen] <;> omega)) (hbig' := by exact (by simp +zetaDelta <;> omega)) <| zM <| zF) ?_
 refine kx [(133, (kX 1))] [] (zE (uZ 1 (hr := by decide)) <| zM <| zZ) ?_
 refine jV (kU.refl _) ?_
 refine jA <| kx [(134, (vb true))] [] (zE (vB true uW) <| zZ) ?_
 refine jA <| kS ?_
 refine jE <| jA <| jG <| jA <| kx [(15, (vi (((2 : Nat) : Int) * ((b * c) - (a * d)))))] [] (zE (oXa ar203 vQ (fun _ => rfl) 1) <| zM <| zZ) ?_
 refine jA ?_
 have bn2 : QL (Rat.divInt (2 * ((b * c) - (a * d))) (nq a b c d)) 3 := (qZ (n := 3) (jO (by omega) (by omega)) (jO (by omega) (by omega)) (by decide))
 refine kx [(16, (.ref 6 0))] [(6, some (bx (jR y8)))] (zM <| zR (kC zV) <| zE (kA (eM a b c d (by omega) (by omega) (by omega) (by omega))) <| zE (kA (q_of (((2 : Nat) : Int) * ((b * c) - (a * d))) (by omega) (by omega) (nq a b c d) (by omega) (by omega) hn0)) <| zM <| zE uH <| zE uH <| zH (qS 6 qR qY) <| zT (qB jT) <| zM <| zZ) ?_
 refine kf [(13, (.own 4 42 4 ((([] ++ [y5]) ++ [y8]).length)))] [(4, some (aT jR (([] ++ [y5]) ++ [y8])))] (zM <| zR (kC jT) <| zE (cH vT qR qY) <| zAS jR ([] ++ [y5]) [y8] rfl vT qR by42 (hbig := by exact (by simp +zetaDelta [maxLen] <;> omega)) (hbig' := by exact (by simp +zetaDelta <;> omega)) <| zM <| zF) ?_
 refine kx [(133, (kX 2))] [] (zE (uZ 2 (hr := by decide)) <| zM <| zZ) ?_
 refine jV (kU.refl _) ?_
 refine jA <| kx [(134, (vb true))] [] (zE (vB true uW) <| zZ) ?_
 refine jA <| kS ?_
 refine jE <| jA <| jG <| jA <| kx [(15, (vi (((2 : Nat) : Int) * ((b * d) + (a * c)))))] [] (zE (oXa ar203 vQ (fun _ => rfl) 2) <| zM <| zZ) ?_
 refine jA ?_
 have bn3 : QL (Rat.divInt (2 * ((b * d) + (a * c))) (nq a b c d)) 3 := (qZ (n := 3) (jO (by omega) (by omega)) (jO (by omega) (by omega)) (by decide))
 refine kx [(16, (.ref 7 0))] [(7, some (bx (jR y9)))] (zM <| zR (kC zV) <| zE (kA (eM a b c d (by omega) (by omega) (by omega) (by omega))) <| zE (kA (q_of (((2 : Nat) : Int) * ((b * d) + (a * c))) (by omega) (by omega) (nq a b c d) (by omega) (by omega) hn0)) <| zM <| zE uH <| zE uH <| zH (qS 7 qR qY) <| zT (qB jT) <| zM <| zZ) ?_
 refine kf [(13, (.own 4 42 4 (((([] ++ [y5]) ++ [y8]) ++ [y9]).length)))] [(4, some (aT jR ((([] ++ [y5]) ++ [y8]) ++ [y9])))] (zM <| zR (kC jT) <| zE (cH vT qR qY) <| zAS jR (([] ++ [y5]) ++ [y8]) [y9] rfl vT qR by42 (hbig := by exact (by simp +zetaDelta [maxLen] <;> omega)) (hbig' := by exact (by simp +zetaDelta <;> omega)) <| zM <| zF) ?_
 refine kx [(133, (kX 3))] [] (zE (uZ 3 (hr := by decide)) <| zM <| zZ) ?_
 refine jV (kU.refl _) ?_
 refine jA <| kx [(134, (vb false))] [] (zE (vB false uW) <| zZ) ?_
 refine jA <| kY ?_
 refine qF <| qM (zS (t := 13) (k := 4) (es := List.map jR ((([] ++ [y5]) ++ [y8]) ++ [y9])) rfl rfl (gG _ _ (fun _ => rfl)) (zB _ _ rfl) (eU jR ((([] ++ [y5]) ++ [y8]) ++ [y9]) (fun _ => rfl) rfl)) ?_
 refine kf [(10, (.own 2 52 1 (([] ++ [((([] ++ [y5]) ++ [y8]) ++ [y9])]).length)))] [(2, some (bm qJ ([] ++ [((([] ++ [y5]) ++ [y8]) ++ [y9])])))] (zM <| zM <| zE (cH nN aZ zo52) <| zA qJ [] [((([] ++ [y5]) ++ [y8]) ++ [y9])] rfl nN aZ by52 (hbig := by exact (by simp +zetaDelta [maxLen] <;> omega)) (hbig' := by exact (by simp +zetaDelta <;> omega)) <| zM <| zF) ?_
 refine qM (wk (l := [(1, (.ref 0 0)), (10, (.own 2 52 1 (([] ++ [((([] ++ [y5]) ++ [y8]) ++ [y9])]).length))), (128, (.d y1)), (129, (kX 0))]) (b := [(0, some (bx (uJ (jK.mk a b c d)))), (2, some (bm qJ ([] ++ [((([] ++ [y5]) ++ [y8]) ++ [y9])])))])) ?_
 refine kx [(129, (kX 1))] [] (zE (uZ 1 (hr := by decide)) <| zM <| zZ) ?_
 refine jV (kU.refl _) ?_
 refine jA <| kx [(130, (vb true))] [] (zE (vB true uW) <| zZ) ?_
 refine jA <| kS ?_
 refine jE <| jA <| jG <| jA <| kx [(12, (.ref 8 0))] [(8, some (bx y3))] (zE (oXa ar204 sh203 (fun h => by cases h) 1) <| zH (qS 8 ze203 zo203) <| zT (qB sh203) <| zZ) ?_
 refine jA <| kx [(13, (.own 9 42 4 0))] [(9, some (aT jR []))] (zO 9 42 4 <| zZ) ?_
 refine jA <| jA <| kx [(132, (.d y3)), (133, (kX 0))] [] (zR (kC sh203) <| zM <| zZ) ?_
 refine jG <| qU 20 ?_
 refine uF <| jA <| kx [(134, (vb true))] [] (zE (vB true uW) <| zZ) ?_
 refine jA <| kS ?_
 refine jE <| jA <| jG <| jA <| kx [(15, (vi (((2 : Nat) : Int) * ((b * c) + (a * d)))))] [] (zE (oXa ar203 vQ (fun _ => rfl) 0) <| zM <| zZ) ?_
 refine jA ?_
 have bn4 : QL (Rat.divInt (2 * ((b * c) + (a * d))) (nq a b c d)) 3 := (qZ (n := 3) (jO (by omega) (by omega)) (jO (by omega) (by omega)) (by decide))
 refine kx [(16, (.ref 10 0))] [(10, some (bx (jR y10)))] (zM <| zR (kC zV) <| zE (kA (eM a b c d (by omega) (by omega) (by omega) (by omega))) <| zE (kA (q_of (((2 : Nat) : Int) * ((b * c) + (a * d))) (by omega) (by omega) (nq a b c d) (by omega) (by omega) hn0)) <| zM <| zE uH <| zE uH <| zH (qS 10 qR qY) <| zT (qB jT) <| zM <| zZ) ?_
 refine kf [(13, (.own 9 42 4 (([] ++ [y10]).length)))] [(9, some (aT jR ([] ++ [y10])))] (zM <| zR (kC jT) <| zE (cH vT qR qY) <| zAS jR [] [y10] rfl vT qR by42 (hbig := by exact (by simp +zetaDelta [maxLen] <;> omega)) (hbig' := by exact (by simp +zetaDelta <;> omega)) <| zM <| zF) ?_
 refine kx [(133, (kX 1))] [] (zE (uZ 1 (hr := by decide)) <| zM <| zZ) ?_
 refine jV (kU.refl _) ?_
 refine jA <| kx [(134, (vb true))] [] (zE (vB true uW) <| zZ) ?_
 refine jA <| kS ?_
 refine jE <| jA <| jG <| jA <| kx [(15, (vi ((((a * a) - (b * b)) + (c * c)) - (d * d))))] [] (zE (oXa ar203 vQ (fun _ => rfl) 1) <| zM <| zZ) ?_
 refine jA ?_
 have bn5 : QL (Rat.divInt ((((a * a) - (b * b)) + (c * c)) - (d * d)) (nq a b c d)) 3 := (qZ (n := 3) (jO (by omega) (by omega)) (jO (by omega) (by omega)) (by decide))
 refine kx [(16, (.ref 11 0))] [(11, some (bx (jR y6)))] (zM <| zR (kC zV) <| zE (kA (eM a b c d (by omega) (by omega) (by omega) (by omega))) <| zE (kA (q_of ((((a * a) - (b * b)) + (c * c)) - (d * d)) (by omega) (by omega) (nq a b c d) (by omega) (by omega) hn0)) <| zM <| zE uH <| zE uH <| zH (qS 11 qR qY) <| zT (qB jT) <| zM <| zZ) ?_
 refine kf [(13, (.own 9 42 4 ((([] ++ [y10]) ++ [y6]).length)))] [(9, some (aT jR (([] ++ [y10]) ++ [y6])))] (zM <| zR (kC jT) <| zE (cH vT qR qY) <| zAS jR ([] ++ [y10]) [y6] rfl vT qR by42 (hbig := by exact (by simp +zetaDelta [maxLen] <;> omega)) (hbig' := by exact (by simp +zetaDelta <;> omega)) <| zM <| zF) ?_
 refine qM (wk (l := [(1, (.ref 0 0)), (10, (.own 2 52 1 (([] ++ [((([] ++ [y5]) ++ [y8]) ++ [y9])]).length))), (13, (.own 9 42 4 ((([] ++ [y10]) ++ [y6]).length))), (128, (.d y1)), (129, (kX 1)), (132, (.d y3)), (133, (kX 1))]) (b := [(0, some (bx (uJ (jK.mk a b c d)))), (2, some (bm qJ ([] ++ [((([] ++ [y5]) ++ [y8]) ++ [y9])]))), (9, some (aT jR (([] ++ [y10]) ++ [y6])))])) ?_
 refine kx [(133, (kX 2))] [] (zE (uZ 2 (hr := by decide)) <| zM <| zZ) ?_
 refine jV (kU.refl _) ?_
 refine jA <| kx [(134, (vb true))] [] (zE (vB true uW) <| zZ) ?_
 refine jA <| kS ?_
 refine jE <| jA <| jG <| jA <| kx [(15, (vi (((2 : Nat) : Int) * ((c * d) - (a * b)))))] [] (zE (oXa ar203 vQ (fun _ => rfl) 2) <| zM <| zZ) ?_
 refine jA ?_
 have bn6 : QL (Rat.divInt (2 * ((c * d) - (a * b))) (nq a b c d)) 3 := (qZ (n := 3) (jO (by omega) (by omega)) (jO (by omega) (by omega)) (by decide))
 refine kx [(16, (.ref 12 0))] [(12, some (bx (jR y11)))] (zM <| zR (kC zV) <| zE (kA (eM a b c d (by omega) (by omega) (by omega) (by omega))) <| zE (kA (q_of (((2 : Nat) : Int) * ((c * d) - (a * b))) (by omega) (by omega) (nq a b c d) (by omega) (by omega) hn0)) <| zM <| zE uH <| zE uH <| zH (qS 12 qR qY) <| zT (qB jT) <| zM <| zZ) ?_
 refine kf [(13, (.own 9 42 4 (((([] ++ [y10]) ++ [y6]) ++ [y11]).length)))] [(9, some (aT jR ((([] ++ [y10]) ++ [y6]) ++ [y11])))] (zM <| zR (kC jT) <| zE (cH vT qR qY) <| zAS jR (([] ++ [y10]) ++ [y6]) [y11] rfl vT qR by42 (hbig := by exact (by simp +zetaDelta [maxLen] <;> omega)) (hbig' := by exact (by simp +zetaDelta <;> omega)) <| zM <| zF) ?_
 refine kx [(133, (kX 3))] [] (zE (uZ 3 (hr := by decide)) <| zM <| zZ) ?_
 refine jV (kU.refl _) ?_
 refine jA <| kx [(134, (vb false))] [] (zE (vB false uW) <| zZ) ?_
 refine jA <| kY ?_
 refine qF <| qM (zS (t := 13) (k := 9) (es := List.map jR ((([] ++ [y10]) ++ [y6]) ++ [y11])) rfl rfl (gG _ _ (fun _ => rfl)) (zB _ _ rfl) (eU jR ((([] ++ [y10]) ++ [y6]) ++ [y11]) (fun _ => rfl) rfl)) ?_
 refine kf [(10, (.own 2 52 1 ((([] ++ [((([] ++ [y5]) ++ [y8]) ++ [y9])]) ++ [((([] ++ [y10]) ++ [y6]) ++ [y11])]).length)))] [(2, some (bm qJ (([] ++ [((([] ++ [y5]) ++ [y8]) ++ [y9])]) ++ [((([] ++ [y10]) ++ [y6]) ++ [y11])])))] (zM <| zM <| zE (cH nN aZ zo52) <| zA qJ ([] ++ [((([] ++ [y5]) ++ [y8]) ++ [y9])]) [((([] ++ [y10]) ++ [y6]) ++ [y11])] rfl nN aZ by52 (hbig := by exact (by simp +zetaDelta [maxLen] <;> omega)) (hbig' := by exact (by simp +zetaDelta <;> omega)) <| zM <| zF) ?_
 refine kx [(129, (kX 2))] [] (zE (uZ 2 (hr := by decide)) <| zM <| zZ) ?_
 refine jV (kU.refl _) ?_
 refine jA <| kx [(130, (vb true))] [] (zE (vB true uW) <| zZ) ?_
 refine jA <| kS ?_
 refine jE <| jA <| jG <| jA <| kx [(12, (.ref 13 0))] [(13, some (bx y4))] (zE (oXa ar204 sh203 (fun h => by cases h) 2) <| zH (qS 13 ze203 zo203) <| zT (qB sh203) <| zZ) ?_
 refine jA <| kx [(13, (.own 14 42 4 0))] [(14, some (aT jR []))] (zO 14 42 4 <| zZ) ?_
 refine jA <| jA <| kx [(132, (.d y4)), (133, (kX 0))] [] (zR (kC sh203) <| zM <| zZ) ?_
 refine jG <| qU 20 ?_
 refine uF <| jA <| kx [(134, (vb true))] [] (zE (vB true uW) <| zZ) ?_
 refine jA <| kS ?_
 refine jE <| jA <| jG <| jA <| qM (wk (l := [(1, (.ref 0 0)), (10, (.own 2 52 1 ((([] ++ [((([] ++ [y5]) ++ [y8]) ++ [y9])]) ++ [((([] ++ [y10]) ++ [y6]) ++ [y11])]).length))), (13, (.own 14 42 4 0)), (128, (.d y1)), (129, (kX 2)), (132, (.d y4)), (133, (kX 0)), (134, (vb true))]) (b := [(0, some (bx (uJ (jK.mk a b c d)))), (14, some (aT jR [])), (2, some (bm qJ (([] ++ [((([] ++ [y5]) ++ [y8]) ++ [y9])]) ++ [((([] ++ [y10]) ++ [y6]) ++ [y11])])))])) ?_
 refine kx [(15, (vi (((2 : Nat) : Int) * ((b * d) - (a * c)))))] [] (zE (oXa ar203 vQ (fun _ => rfl) 0) <| zM <| zZ) ?_
 refine jA ?_
 have bn7 : QL (Rat.divInt (2 * ((b * d) - (a * c))) (nq a b c d)) 3 := (qZ (n := 3) (jO (by omega) (by omega)) (jO (by omega) (by omega)) (by decide))
 refine kx [(16, (.ref 15 0))] [(15, some (bx (jR y12)))] (zM <| zR (kC zV) <| zE (kA (eM a b c d (by omega) (by omega) (by omega) (by omega))) <| zE (kA (q_of (((2 : Nat) : Int) * ((b * d) - (a * c))) (by omega) (by omega) (nq a b c d) (by omega) (by omega) hn0)) <| zM <| zE uH <| zE uH <| zH (qS 15 qR qY) <| zT (qB jT) <| zM <| zZ) ?_
 refine kf [(13, (.own 14 42 4 (([] ++ [y12]).length)))] [(14, some (aT jR ([] ++ [y12])))] (zM <| zR (kC jT) <| zE (cH vT qR qY) <| zAS jR [] [y12] rfl vT qR by42 (hbig := by exact (by simp +zetaDelta [maxLen] <;> omega)) (hbig' := by exact (by simp +zetaDelta <;> omega)) <| zM <| zF) ?_
 refine kx [(133, (kX 1))] [] (zE (uZ 1 (hr := by decide)) <| zM <| zZ) ?_
 refine jV (kU.refl _) ?_
 refine jA <| kx [(134, (vb true))] [] (zE (vB true uW) <| zZ) ?_
 refine jA <| kS ?_
 refine jE <| jA <| jG <| jA <| kx [(15, (vi (((2 : Nat) : Int) * ((c * d) + (a * b)))))] [] (zE (oXa ar203 vQ (fun _ => rfl) 1) <| zM <| zZ) ?_
 refine jA ?_
 have bn8 : QL (Rat.divInt (2 * ((c * d) + (a * b))) (nq a b c d)) 3 := (qZ (n := 3) (jO (by omega) (by omega)) (jO (by omega) (by omega)) (by decide))
 refine kx [(16, (.ref 16 0))] [(16, some (bx (jR y13)))] (zM <| zR (kC zV) <| zE (kA (eM a b c d (by omega) (by omega) (by omega) (by omega))) <| zE (kA (q_of (((2 : Nat) : Int) * ((c * d) + (a * b))) (by omega) (by omega) (nq a b c d) (by omega) (by omega) hn0)) <| zM <| zE uH <| zE uH <| zH (qS 16 qR qY) <| zT (qB jT) <| zM <| zZ) ?_
 refine kf [(13, (.own 14 42 4 ((([] ++ [y12]) ++ [y13]).length)))] [(14, some (aT jR (([] ++ [y12]) ++ [y13])))] (zM <| zR (kC jT) <| zE (cH vT qR qY) <| zAS jR ([] ++ [y12]) [y13] rfl vT qR by42 (hbig := by exact (by simp +zetaDelta [maxLen] <;> omega)) (hbig' := by exact (by simp +zetaDelta <;> omega)) <| zM <| zF) ?_
 refine kx [(133, (kX 2))] [] (zE (uZ 2 (hr := by decide)) <| zM <| zZ) ?_
 refine jV (kU.refl _) ?_
 refine jA <| kx [(134, (vb true))] [] (zE (vB true uW) <| zZ) ?_
 refine jA <| kS ?_
 refine jE <| jA <| jG <| jA <| kx [(15, (vi ((((a * a) - (b * b)) - (c * c)) + (d * d))))] [] (zE (oXa ar203 vQ (fun _ => rfl) 2) <| zM <| zZ) ?_
 refine jA ?_
 have bn9 : QL (Rat.divInt ((((a * a) - (b * b)) - (c * c)) + (d * d)) (nq a b c d)) 3 := (qZ (n := 3) (jO (by omega) (by omega)) (jO (by omega) (by omega)) (by decide))
 refine kx [(16, (.ref 17 0))] [(17, some (bx (jR y7)))] (zM <| zR (kC zV) <| zE (kA (eM a b c d (by omega) (by omega) (by omega) (by omega))) <| zE (kA (q_of ((((a * a) - (b * b)) - (c * c)) + (d * d)) (by omega) (by omega) (nq a b c d) (by omega) (by omega) hn0)) <| zM <| zE uH <| zE uH <| zH (qS 17 qR qY) <| zT (qB jT) <| zM <| zZ) ?_
 refine kf [(13, (.own 14 42 4 (((([] ++ [y12]) ++ [y13]) ++ [y7]).length)))] [(14, some (aT jR ((([] ++ [y12]) ++ [y13]) ++ [y7])))] (zM <| zR (kC jT) <| zE (cH vT qR qY) <| zAS jR (([] ++ [y12]) ++ [y13]) [y7] rfl vT qR by42 (hbig := by exact (by simp +zetaDelta [maxLen] <;> omega)) (hbig' := by exact (by simp +zetaDelta <;> omega)) <| zM <| zF) ?_
 refine kx [(133, (kX 3))] [] (zE (uZ 3 (hr := by decide)) <| zM <| zZ) ?_
 refine jV (kU.refl _) ?_
 refine jA <| qM (wk (l := [(1, (.ref 0 0)), (10, (.own 2 52 1 ((([] ++ [((([] ++ [y5]) ++ [y8]) ++ [y9])]) ++ [((([] ++ [y10]) ++ [y6]) ++ [y11])]).length))), (13, (.own 14 42 4 (((([] ++ [y12]) ++ [y13]) ++ [y7]).length))), (128, (.d y1)), (129, (kX 2)), (132, (.d y4)), (133, (kX 3))]) (b := [(0, some (bx (uJ (jK.mk a b c d)))), (14, some (aT jR ((([] ++ [y12]) ++ [y13]) ++ [y7]))), (2, some (bm qJ (([] ++ [((([] ++ [y5]) ++ [y8]) ++ [y9])]) ++ [((([] ++ [y10]) ++ [y6]) ++ [y11])])))])) ?_
 refine kx [(134, (vb false))] [] (zE (vB false uW) <| zZ) ?_
 refine jA <| kY ?_
 refine qF <| qM (zS (t := 13) (k := 14) (es := List.map jR ((([] ++ [y12]) ++ [y13]) ++ [y7])) rfl rfl (gG _ _ (fun _ => rfl)) (zB _ _ rfl) (eU jR ((([] ++ [y12]) ++ [y13]) ++ [y7]) (fun _ => rfl) rfl)) ?_
 refine kf [(10, (.own 2 52 1 (((([] ++ [((([] ++ [y5]) ++ [y8]) ++ [y9])]) ++ [((([] ++ [y10]) ++ [y6]) ++ [y11])]) ++ [((([] ++ [y12]) ++ [y13]) ++ [y7])]).length)))] [(2, some (bm qJ ((([] ++ [((([] ++ [y5]) ++ [y8]) ++ [y9])]) ++ [((([] ++ [y10]) ++ [y6]) ++ [y11])]) ++ [((([] ++ [y12]) ++ [y13]) ++ [y7])])))] (zM <| zM <| zE (cH nN aZ zo52) <| zA qJ (([] ++ [((([] ++ [y5]) ++ [y8]) ++ [y9])]) ++ [((([] ++ [y10]) ++ [y6]) ++ [y11])]) [((([] ++ [y12]) ++ [y13]) ++ [y7])] rfl nN aZ by52 (hbig := by exact (by simp +zetaDelta [maxLen] <;> omega)) (hbig' := by exact (by simp +zetaDelta <;> omega)) <| zM <| zF) ?_
 refine kx [(129, (kX 3))] [] (zE (uZ 3 (hr := by decide)) <| zM <| zZ) ?_
 refine jV (kU.refl _) ?_
 refine jA <| kx [(130, (vb false))] [] (zE (vB false uW) <| zZ) ?_
 refine jA <| kY ?_
 refine qF <| jA <| qM (zS (t := 10) (k := 2) (es := List.map qJ ((([] ++ [((([] ++ [y5]) ++ [y8]) ++ [y9])]) ++ [((([] ++ [y10]) ++ [y6]) ++ [y11])]) ++ [((([] ++ [y12]) ++ [y13]) ++ [y7])])) rfl rfl (xT _ _ (fun _ => rfl)) (zB _ _ rfl) (yA _ _ (fun _ => rfl) rfl)) ?_
 refine kx [(2, (vl 52 1 qJ ((([] ++ [((([] ++ [y5]) ++ [y8]) ++ [y9])]) ++ [((([] ++ [y10]) ++ [y6]) ++ [y11])]) ++ [((([] ++ [y12]) ++ [y13]) ++ [y7])]))), (3, (kX 0))] [] (zM <| zM <| zM <| zZ) ?_
 refine jJ ⟨_, (.tmp (d := (.sl 52 1 (List.map qJ ((([] ++ [((([] ++ [(jB (Rat.divInt ((((a * a) + (b * b)) - (c * c)) - (d * d)) (nq a b c d)))]) ++ [(jB (Rat.divInt (2 * ((b * c) - (a * d))) (nq a b c d)))]) ++ [(jB (Rat.divInt (2 * ((b * d) + (a * c))) (nq a b c d)))])]) ++ [((([] ++ [(jB (Rat.divInt (2 * ((b * c) + (a * d))) (nq a b c d)))]) ++ [(jB (Rat.divInt ((((a * a) - (b * b)) + (c * c)) - (d * d)) (nq a b c d)))]) ++ [(jB (Rat.divInt (2 * ((c * d) - (a * b))) (nq a b c d)))])]) ++ [((([] ++ [(jB (Rat.divInt (2 * ((b * d) - (a * c))) (nq a b c d)))]) ++ [(jB (Rat.divInt (2 * ((c * d) + (a * b))) (nq a b c d)))]) ++ [(jB (Rat.divInt ((((a * a) - (b * b)) - (c * c)) + (d * d)) (nq a b c d)))])])))) rfl (.tmp (d := (.val (.int .i64 (((0 : Nat) : Int))))) rfl .nil)), ?_⟩
 rfl
theorem qs_rmat (a b c d : Int) (ha : -1048576 ≤ a ∧ a ≤ 1048576) (hb : -1048576 ≤ b ∧ b ≤ 1048576) (hc : -1048576 ≤ c ∧ c ≤ 1048576) (hd : -1048576 ≤ d ∧ d ≤ 1048576) (hq : yY a b c d = 0) (hn0 : nq a b c d ≠ 0) : kE Tryz.prog 132 [(uJ (jK.mk a b c d))] (.tup [(.sl 52 1 (List.map qJ [[(jB (Q00 a b c d)), (jB (Q01 a b c d)), (jB (Q02 a b c d))], [(jB (Q10 a b c d)), (jB (Q11 a b c d)), (jB (Q12 a b c d))], [(jB (Q20 a b c d)), (jB (Q21 a b c d)), (jB (Q22 a b c d))]])), (.val (.int .i64 (0)))]) := by
 have saa := vM ha ha
 have sab := vM ha hb
 have sac := vM ha hc
 have sad := vM ha hd
 have sbb := vM hb hb
 have sbc := vM hb hc
 have sbd := vM hb hd
 have scc := vM hc hc
 have scd := vM hc hd
 have sdd := vM hd hd
 have hnq := xV ha hb hc hd
 let y13 := (jB (Rat.divInt (2 * ((b * d) - (a * c))) (nq a b c d)))
 let y12 := (jB (Rat.divInt (2 * ((b * c) + (a * d))) (nq a b c d)))
 let y11 := (jB (Rat.divInt ((((a * a) - (b * b)) + (c * c)) - (d * d)) (nq a b c d)))
 let y10 := (jB (Rat.divInt ((((a * a) + (b * b)) - (c * c)) - (d * d)) (nq a b c d)))
 let y9 := [y13, (jB (Rat.divInt (2 * ((c * d) + (a * b))) (nq a b c d)))]
 let y8 := [(((2 : Nat) : Int) * ((b * d) - (a * c))), (((2 : Nat) : Int) * ((c * d) + (a * b))), ((((a * a) - (b * b)) - (c * c)) + (d * d))]
 let y7 := [(((2 : Nat) : Int) * ((b * c) + (a * d))), ((((a * a) - (b * b)) + (c * c)) - (d * d)), (((2 : Nat) : Int) * ((c * d) - (a * b)))]
 let y6 := [((((a * a) + (b * b)) - (c * c)) - (d * d)), (((2 : Nat) : Int) * ((b * c) - (a * d))), (((2 : Nat) : Int) * ((b * d) + (a * c)))]
 let y5 := [y12, y11]
 let y4 := [y10, (jB (Rat.divInt (2 * ((b * c) - (a * d))) (nq a b c d)))]
 let y3 := [y13, (jB (Rat.divInt (2 * ((c * d) + (a * b))) (nq a b c d))), (jB (Rat.divInt ((((a * a) - (b * b)) - (c * c)) + (d * d)) (nq a b c d)))]
 let y2 := [y12, y11, (jB (Rat.divInt (2 * ((c * d) - (a * b))) (nq a b c d)))]
 let y1 := [y10, (jB (Rat.divInt (2 * ((b * c) - (a * d))) (nq a b c d))), (jB (Rat.divInt (2 * ((b * d) + (a * c))) (nq a b c d)))]
 refine jN Tryz.func132 rfl cb132 rfl ?_
 show uT _ _ _ _ ⟨[(0, (.d (uJ (jK.mk a b c d))))], []⟩
 refine jA <| kx [(1, (.ref 0 0))] [(0, some (bx (uJ (jK.mk a b c d))))] (zN (uX 0) <| zE (oNl 52 1) <| zM <| zZ) ?_
 refine jA <| kx [(4, (kX (yY a b c d)))] [] (zR (kC zV) <| zE (kA (qs_chk a b c d)) <| zM <| zZ) ?_
 refine jA <| jA <| kx [(19, (vb false))] [] (zM <| zE (vB false eI (by exact bne_eq_false_iff_eq.2 (by rw [show (yY a b c d) = 0 from hq]; rfl))) <| zZ) ?_
 refine kY ?_
 refine jE <| jA <| kx [(5, (vi a))] [] (zE (qE cP) <| zR (vD vQ) <| zM <| zZ) ?_
 refine jA <| kx [(6, (vi b))] [] (zE (qE cQ) <| zR (vD vQ) <| zM <| zZ) ?_
 refine jA <| kx [(7, (vi c))] [] (zE (qE cS) <| zR (vD vQ) <| zM <| zZ) ?_
 refine jA <| kx [(8, (vi d))] [] (zE (qE cU) <| zR (vD vQ) <| zM <| zZ) ?_
 refine jA <| kx [(9, (vl 74 1 aO [y6, y7, y8]))] [] (zM <| zM <| zE (hP (a * a) (hr := by exact (qX rfl (by simp only [xG]; omega) (by simp only [xJ]; omega)))) <| zM <| zM <| zE (hP (b * b) (hr := by exact (qX rfl (by simp only [xG]; omega) (by simp only [xJ]; omega)))) <| zE (zAd ((a * a) + (b * b)) (hr := by exact (qX rfl (by simp only [xG]; omega) (by simp only [xJ]; omega)))) <| zM <| zM <| zE (hP (c * c) (hr := by exact (qX rfl (by simp only [xG]; omega) (by simp only [xJ]; omega)))) <| zE (fJ (((a * a) + (b * b)) - (c * c)) (hr := by exact (qX rfl (by simp only [xG]; omega) (by simp only [xJ]; omega)))) <| zM <| zM <| zE (hP (d * d) (hr := by exact (qX rfl (by simp only [xG]; omega) (by simp only [xJ]; omega)))) <| zE (fJ ((((a * a) + (b * b)) - (c * c)) - (d * d)) (hr := by exact (qX rfl (by simp only [xG]; omega) (by simp only [xJ]; omega)))) <| zM <| zM <| zE (hP (b * c) (hr := by exact (qX rfl (by simp only [xG]; omega) (by simp only [xJ]; omega)))) <| zM <| zM <| zE (hP (a * d) (hr := by exact (qX rfl (by simp only [xG]; omega) (by simp only [xJ]; omega)))) <| zE (fJ ((b * c) - (a * d)) (hr := by exact (qX rfl (by simp only [xG]; omega) (by simp only [xJ]; omega)))) <| zE (hP (((2 : Nat) : Int) * ((b * c) - (a * d))) (hr := by exact (qX rfl (by simp only [xG]; omega) (by simp only [xJ]; omega)))) <| zM <| zM <| zE (hP (b * d) (hr := by exact (qX rfl (by simp only [xG]; omega) (by simp only [xJ]; omega)))) <| zM <| zM <| zE (hP (a * c) (hr := by exact (qX rfl (by simp only [xG]; omega) (by simp only [xJ]; omega)))) <| zE (zAd ((b * d) + (a * c)) (hr := by exact (qX rfl (by simp only [xG]; omega) (by simp only [xJ]; omega)))) <| zE (hP (((2 : Nat) : Int) * ((b * d) + (a * c))) (hr := by exact (qX rfl (by simp only [xG]; omega) (by simp only [xJ]; omega)))) <| zE (cH gU ze3 zo3) <| zM <| zM <| zE (hP (b * c) (hr := by exact (qX rfl (by simp only [xG]; omega) (by simp only [xJ]; omega)))) <| zM <| zM <| zE (hP (a * d) (hr := by exact (qX rfl (by simp only [xG]; omega) (by simp only [xJ]; omega)))) <| zE (zAd ((b * c) + (a * d)) (hr := by exact (qX rfl (by simp only [xG]; omega) (by simp only [xJ]; omega)))) <| zE (hP (((2 : Nat) : Int) * ((b * c) + (a * d))) (hr := by exact (qX rfl (by simp only [xG]; omega) (by simp only [xJ]; omega)))) <| zM <| zM <| zE (hP (a * a) (hr := by exact (qX rfl (by simp only [xG]; omega) (by simp only [xJ]; omega)))) <| zM <| zM <| zE (hP (b * b) (hr := by exact (qX rfl (by simp only [xG]; omega) (by simp only [xJ]; omega)))) <| zE (fJ ((a * a) - (b * b)) (hr := by exact (qX rfl (by simp only [xG]; omega) (by simp only [xJ]; omega)))) <| zM <| zM <| zE (hP (c * c) (hr := by exact (qX rfl (by simp only [xG]; omega) (by simp only [xJ]; omega)))) <| zE (zAd (((a * a) - (b * b)) + (c * c)) (hr := by exact (qX rfl (by simp only [xG]; omega) (by simp only [xJ]; omega)))) <| zM <| zM <| zE (hP (d * d) (hr := by exact (qX rfl (by simp only [xG]; omega) (by simp only [xJ]; omega)))) <| zE (fJ ((((a * a) - (b * b)) + (c * c)) - (d * d)) (hr := by exact (qX rfl (by simp only [xG]; omega) (by simp only [xJ]; omega)))) <| zM <| zM <| zE (hP (c * d) (hr := by exact (qX rfl (by simp only [xG]; omega) (by simp only [xJ]; omega)))) <| zM <| zM <| zE (hP (a * b) (hr := by exact (qX rfl (by simp only [xG]; omega) (by simp only [xJ]; omega)))) <| zE (fJ ((c * d) - (a * b)) (hr := by exact (qX rfl (by simp only [xG]; omega) (by simp only [xJ]; omega)))) <| zE (hP (((2 : Nat) : Int) * ((c * d) - (a * b))) (hr := by exact (qX rfl (by simp only [xG]; omega) (by simp only [xJ]; omega)))) <| zE (cH gU ze3 zo3) <| zM <| zM <| zE (hP (b * d) (hr := by exact (qX rfl (by simp only [xG]; omega) (by simp only [xJ]; omega)))) <| zM <| zM <| zE (hP (a * c) (hr := by exact (qX rfl (by simp only [xG]; omega) (by simp only [xJ]; omega)))) <| zE (fJ ((b * d) - (a * c)) (hr := by exact (qX rfl (by simp only [xG]; omega) (by simp only [xJ]; omega)))) <| zE (hP (((2 : Nat) : Int) * ((b * d) - (a * c))) (hr := by exact (qX rfl (by simp only [xG]; omega) (by simp only [xJ]; omega)))) <| zM <| zM <| zE (hP (c * d) (hr := by exact (qX rfl (by simp only [xG]; omega) (by simp only [xJ]; omega)))) <| zM <| zM <| zE (hP (a * b) (hr := by exact (qX rfl (by simp only [xG]; omega) (by simp only [xJ]; omega)))) <| zE (zAd ((c * d) + (a * b)) (hr := by exact (qX rfl (by simp only [xG]; omega) (by simp only [xJ]; omega)))) <| zE (hP (((2 : Nat) : Int) * ((c * d) + (a * b))) (hr := by exact (qX rfl (by simp only [xG]; omega) (by simp only [xJ]; omega)))) <| zM <| zM <| zE (hP (a * a) (hr := by exact (qX rfl (by simp only [xG]; omega) (by simp only [xJ]; omega)))) <| zM <| zM <| zE (hP (b * b) (hr := by exact (qX rfl (by simp only [xG]; omega) (by simp only [xJ]; omega)))) <| zE (fJ ((a * a) - (b * b)) (hr := by exact (qX rfl (by simp only [xG]; omega) (by simp only [xJ]; omega)))) <| zM <| zM <| zE (hP (c * c) (hr := by exact (qX rfl (by simp only [xG]; omega) (by simp only [xJ]; omega)))) <| zE (fJ (((a * a) - (b * b)) - (c * c)) (hr := by exact (qX rfl (by simp only [xG]; omega) (by simp only [xJ]; omega)))) <| zM <| zM <| zE (hP (d * d) (hr := by exact (qX rfl (by simp only [xG]; omega) (by simp only [xJ]; omega)))) <| zE (zAd ((((a * a) - (b * b)) - (c * c)) + (d * d)) (hr := by exact (qX rfl (by simp only [xG]; omega) (by simp only [xJ]; omega)))) <| zE (cH gU ze3 zo3) <| zE (cH el109 ze74 zo74) <| zM <| zZ) ?_
 refine jA <| kx [(10, (.own 1 52 1 0))] [(1, some (bm qJ []))] (zN (oBo 1 nN aZ zo52) <| zM <| zZ) ?_
 refine jA <| jA <| kx [(11, (kX 0))] [] (zM <| zZ) ?_
 refine jG <| qU 20 ?_
 refine uF <| jA <| jA <| kx [(128, (vb true))] [] (zM <| zE (vB true uW) <| zZ) ?_
 refine kS ?_
 refine jE <| jA <| jG <| jA <| kx [(12, (.own 2 42 4 0))] [(2, some (aT jR []))] (zH (oBo 2 vT qR qY) <| zM <| zZ) ?_
 refine jA <| jA <| kx [(13, (kX 0))] [] (zM <| zZ) ?_
 refine jG <| qU 20 ?_
 refine uF <| jA <| jA <| kx [(133, (vb true))] [] (zM <| zE (vB true uW) <| zZ) ?_
 refine kS ?_
 refine jE <| jA <| jG <| jA <| qM (wk (l := [(1, (.ref 0 0)), (9, (vl 74 1 aO [y6, y7, y8])), (10, (.own 1 52 1 0)), (11, (kX 0)), (12, (.own 2 42 4 0)), (13, (kX 0)), (133, (vb true))]) (b := [(0, some (bx (uJ (jK.mk a b c d)))), (1, some (bm qJ [])), (2, some (aT jR []))])) ?_
 have bn1 : QL (Rat.divInt ((((a * a) + (b * b)) - (c * c)) - (d * d)) (nq a b c d)) 3 := (qZ (n := 3) (jO (by omega) (by omega)) (jO (by omega) (by omega)) (by decide))
 refine kd [(14, (.ref 3 0))] [(3, some (bx (jR y10)))] mo (wM <| wM <| wE (gL el109 0) <| wE (gA sh74) <| wM <| wE (gL gU 0) <| wE (gA vQ) <| wR (kC zV) <| wE (kA (eO a b c d (by omega) (by omega) (by omega) (by omega))) <| wE (kA (qs_of ((((a * a) + (b * b)) - (c * c)) - (d * d)) (by omega) (by omega) (nq a b c d) (by omega) (by omega) hn0)) <| wM <| wE uH <| wE uH <| wH (hc := by kernel_rfl) (qS 3 qR qY) <| wT (qB jT) <| wM <| wZ) ?_
 refine kf [(12, (.own 2 42 4 ([y10].length)))] [(2, some (aT jR [y10]))] (zM <| zR (kC jT) <| zE (cH vT qR qY) <| zAS jR [] [y10] rfl vT qR by42 (hbig := by exact (by simp +zetaDelta [maxLen] <;> omega)) (hbig' := by exact (by simp +zetaDelta <;> omega)) <| zM <| zF) ?_
 refine kx [(13, (kX 1))] [] (zM <| zE (uZ 1 (hr := by decide)) <| zM <| zZ) ?_
 refine jV (kU.refl _) ?_
 refine jA <| jA <| kx [(133, (vb true))] [] (zM <| zE (vB true uW) <| zZ) ?_
 refine kS ?_
 refine jE <| jA <| jG <| jA ?_
 have bn2 : QL (Rat.divInt (2 * ((b * c) - (a * d))) (nq a b c d)) 3 := (qZ (n := 3) (jO (by omega) (by omega)) (jO (by omega) (by omega)) (by decide))
 refine kd [(14, (.ref 4 0))] [(4, some (bx (jR (jB (Rat.divInt (2 * ((b * c) - (a * d))) (nq a b c d))))))] mo (wM <| wM <| wE (gL el109 0) <| wE (gA sh74) <| wM <| wE (gL gU 1) <| wE (gA vQ) <| wR (kC zV) <| wE (kA (eO a b c d (by omega) (by omega) (by omega) (by omega))) <| wE (kA (qs_of (((2 : Nat) : Int) * ((b * c) - (a * d))) (by omega) (by omega) (nq a b c d) (by omega) (by omega) hn0)) <| wM <| wE uH <| wE uH <| wH (hc := by kernel_rfl) (qS 4 qR qY) <| wT (qB jT) <| wM <| wZ) ?_
 refine kf [(12, (.own 2 42 4 (y4.length)))] [(2, some (aT jR y4))] (zM <| zR (kC jT) <| zE (cH vT qR qY) <| zAS jR [y10] [(jB (Rat.divInt (2 * ((b * c) - (a * d))) (nq a b c d)))] rfl vT qR by42 (hbig := by exact (by simp +zetaDelta [maxLen] <;> omega)) (hbig' := by exact (by simp +zetaDelta <;> omega)) <| zM <| zF) ?_
 refine kx [(13, (kX 2))] [] (zM <| zE (uZ 2 (hr := by decide)) <| zM <| zZ) ?_
 refine jV (kU.refl _) ?_
 refine jA <| jA <| kx [(133, (vb true))] [] (zM <| zE (vB true uW) <| zZ) ?_
 refine kS ?_
 refine jE <| jA <| jG <| jA ?_
 have bn3 : QL (Rat.divInt (2 * ((b * d) + (a * c))) (nq a b c d)) 3 := (qZ (n := 3) (jO (by omega) (by omega)) (jO (by omega) (by omega)) (by decide))
 refine kd [(14, (.ref 5 0))] [(5, some (bx (jR (jB (Rat.divInt (2 * ((b * d) + (a * c))) (nq a b c d))))))] mo (wM <| wM <| wE (gL el109 0) <| wE (gA sh74) <| wM <| wE (gL gU 2) <| wE (gA vQ) <| wR (kC zV) <| wE (kA (eO a b c d (by omega) (by omega) (by omega) (by omega))) <| wE (kA (qs_of (((2 : Nat) : Int) * ((b * d) + (a * c))) (by omega) (by omega) (nq a b c d) (by omega) (by omega) hn0)) <| wM <| wE uH <| wE uH <| wH (hc := by kernel_rfl) (qS 5 qR qY) <| wT (qB jT) <| wM <| wZ) ?_
 refine kf [(12, (.own 2 42 4 (y1.length)))] [(2, some (aT jR y1))] (zM <| zR (kC jT) <| zE (cH vT qR qY) <| zAS jR y4 [(jB (Rat.divInt (2 * ((b * d) + (a * c))) (nq a b c d)))] rfl vT qR by42 (hbig := by exact (by simp +zetaDelta [maxLen] <;> omega)) (hbig' := by exact (by simp +zetaDelta <;> omega)) <| zM <| zF) ?_
 refine kx [(13, (kX 3))] [] (zM <| zE (uZ 3 (hr := by decide)) <| zM <| zZ) ?_
 refine jV (kU.refl _) ?_
 refine jA <| jA <| kx [(133, (vb false))] [] (zM <| zE (vB false uW) <| zZ) ?_
 refine kY ?_
 refine qF <| qM (zS (t := 12) (k := 2) (es := List.map jR y1) rfl rfl (gG _ _ (fun _ => rfl)) (zB _ _ rfl) (eU jR y1 (fun _ => rfl) rfl)) ?_
 refine kf [(10, (.own 1 52 1 ([y1].length)))] [(1, some (bm qJ [y1]))] (zM <| zM <| zE (cH nN aZ zo52) <| zA qJ [] [y1] rfl nN aZ by52 (hbig := by exact (by simp +zetaDelta [maxLen] <;> omega)) (hbig' := by exact (by simp +zetaDelta <;> omega)) <| zM <| zF) ?_
 refine kx [(11, (kX 1))] [] (zM <| zE (uZ 1 (hr := by decide)) <| zM <| zZ) ?_
 refine jV (kU.refl _) ?_
 refine jA <| jA <| qM (wk (l := [(1, (.ref 0 0)), (9, (vl 74 1 aO [y6, y7, y8])), (10, (.own 1 52 1 ([y1].length))), (11, (kX 1))]) (b := [(0, some (bx (uJ (jK.mk a b c d)))), (1, some (bm qJ [y1]))])) ?_
 refine kx [(128, (vb true))] [] (zM <| zE (vB true uW) <| zZ) ?_
 refine kS ?_
 refine jE <| jA <| jG <| jA <| kx [(12, (.own 6 42 4 0))] [(6, some (aT jR []))] (zH (oBo 6 vT qR qY) <| zM <| zZ) ?_
 refine jA <| jA <| kx [(13, (kX 0))] [] (zM <| zZ) ?_
 refine jG <| qU 20 ?_
 refine uF <| jA <| jA <| kx [(133, (vb true))] [] (zM <| zE (vB true uW) <| zZ) ?_
 refine kS ?_
 refine jE <| jA <| jG <| jA ?_
 have bn4 : QL (Rat.divInt (2 * ((b * c) + (a * d))) (nq a b c d)) 3 := (qZ (n := 3) (jO (by omega) (by omega)) (jO (by omega) (by omega)) (by decide))
 refine kd [(14, (.ref 7 0))] [(7, some (bx (jR y12)))] mo (wM <| wM <| wE (gL el109 1) <| wE (gA sh74) <| wM <| wE (gL gU 0) <| wE (gA vQ) <| wR (kC zV) <| wE (kA (eO a b c d (by omega) (by omega) (by omega) (by omega))) <| wE (kA (qs_of (((2 : Nat) : Int) * ((b * c) + (a * d))) (by omega) (by omega) (nq a b c d) (by omega) (by omega) hn0)) <| wM <| wE uH <| wE uH <| wH (hc := by kernel_rfl) (qS 7 qR qY) <| wT (qB jT) <| wM <| wZ) ?_
 refine kf [(12, (.own 6 42 4 ([y12].length)))] [(6, some (aT jR [y12]))] (zM <| zR (kC jT) <| zE (cH vT qR qY) <| zAS jR [] [y12] rfl vT qR by42 (hbig := by exact (by simp +zetaDelta [maxLen] <;> omega)) (hbig' := by exact (by simp +zetaDelta <;> omega)) <| zM <| zF) ?_
 refine kx [(13, (kX 1))] [] (zM <| zE (uZ 1 (hr := by decide)) <| zM <| zZ) ?_
 refine jV (kU.refl _) ?_
 refine jA <| jA <| kx [(133, (vb true))] [] (zM <| zE (vB true uW) <| zZ) ?_
 refine kS ?_
 refine jE <| jA <| jG <| jA ?_
 have bn5 : QL (Rat.divInt ((((a * a) - (b * b)) + (c * c)) - (d * d)) (nq a b c d)) 3 := (qZ (n := 3) (jO (by omega) (by omega)) (jO (by omega) (by omega)) (by decide))
 refine kd [(14, (.ref 8 0))] [(8, some (bx (jR y11)))] mo (wM <| wM <| wE (gL el109 1) <| wE (gA sh74) <| wM <| wE (gL gU 1) <| wE (gA vQ) <| wR (kC zV) <| wE (kA (eO a b c d (by omega) (by omega) (by omega) (by omega))) <| wE (kA (qs_of ((((a * a) - (b * b)) + (c * c)) - (d * d)) (by omega) (by omega) (nq a b c d) (by omega) (by omega) hn0)) <| wM <| wE uH <| wE uH <| wH (hc := by kernel_rfl) (qS 8 qR qY) <| wT (qB jT) <| wM <| wZ) ?_
 refine kf [(12, (.own 6 42 4 (y5.length)))] [(6, some (aT jR y5))] (zM <| zR (kC jT) <| zE (cH vT qR qY) <| zAS jR [y12] [y11] rfl vT qR by42 (hbig := by exact (by simp +zetaDelta [maxLen] <;> omega)) (hbig' := by exact (by simp +zetaDelta <;> omega)) <| zM <| zF) ?_
 refine kx [(13, (kX 2))] [] (zM <| zE (uZ 2 (hr := by decide)) <| zM <| zZ) ?_
 refine jV (kU.refl _) ?_
 refine jA <| jA <| kx [(133, (vb true))] [] (zM <| zE (vB true uW) <| zZ) ?_
 refine kS ?_
 refine jE <| jA <| jG <| jA ?_
 have bn6 : QL (Rat.divInt (2 * ((c * d) - (a * b))) (nq a b c d)) 3 := (qZ (n := 3) (jO (by omega) (by omega)) (jO (by omega) (by omega)) (by decide))
 refine kd [(14, (.ref 9 0))] [(9, some (bx (jR (jB (Rat.divInt (2 * ((c * d) - (a * b))) (nq a b c d))))))] mo (wM <| wM <| wE (gL el109 1) <| wE (gA sh74) <| wM <| wE (gL gU 2) <| wE (gA vQ) <| wR (kC zV) <| wE (kA (eO a b c d (by omega) (by omega) (by omega) (by omega))) <| wE (kA (qs_of (((2 : Nat) : Int) * ((c * d) - (a * b))) (by omega) (by omega) (nq a b c d) (by omega) (by omega) hn0)) <| wM <| wE uH <| wE uH <| wH (hc := by kernel_rfl) (qS 9 qR qY) <| wT (qB jT) <| wM <| wZ) ?_
 refine kf [(12, (.own 6 42 4 (y2.length)))] [(6, some (aT jR y2))] (zM <| zR (kC jT) <| zE (cH vT qR qY) <| zAS jR y5 [(jB (Rat.divInt (2 * ((c * d) - (a * b))) (nq a b c d)))] rfl vT qR by42 (hbig := by exact (by simp +zetaDelta [maxLen] <;> omega)) (hbig' := by exact (by simp +zetaDelta <;> omega)) <| zM <| zF) ?_
 refine qM (wk (l := [(1, (.ref 0 0)), (9, (vl 74 1 aO [y6, y7, y8])), (10, (.own 1 52 1 ([y1].length))), (11, (kX 1)), (12, (.own 6 42 4 (y2.length))), (13, (kX 2))]) (b := [(0, some (bx (uJ (jK.mk a b c d)))), (1, some (bm qJ [y1])), (6, some (aT jR y2))])) ?_
 refine kx [(13, (kX 3))] [] (zM <| zE (uZ 3 (hr := by decide)) <| zM <| zZ) ?_
 refine jV (kU.refl _) ?_
 refine jA <| jA <| kx [(133, (vb false))] [] (zM <| zE (vB false uW) <| zZ) ?_
 refine kY ?_
 refine qF <| qM (zS (t := 12) (k := 6) (es := List.map jR y2) rfl rfl (gG _ _ (fun _ => rfl)) (zB _ _ rfl) (eU jR y2 (fun _ => rfl) rfl)) ?_
 refine kf [(10, (.own 1 52 1 ([y1, y2].length)))] [(1, some (bm qJ [y1, y2]))] (zM <| zM <| zE (cH nN aZ zo52) <| zA qJ [y1] [y2] rfl nN aZ by52 (hbig := by exact (by simp +zetaDelta [maxLen] <;> omega)) (hbig' := by exact (by simp +zetaDelta <;> omega)) <| zM <| zF) ?_
 refine kx [(11, (kX 2))] [] (zM <| zE (uZ 2 (hr := by decide)) <| zM <| zZ) ?_
 refine jV (kU.refl _) ?_
 refine jA <| jA <| kx [(128, (vb true))] [] (zM <| zE (vB true uW) <| zZ) ?_
 refine kS ?_
 refine jE <| jA <| jG <| jA <| kx [(12, (.own 10 42 4 0))] [(10, some (aT jR []))] (zH (oBo 10 vT qR qY) <| zM <| zZ) ?_
 refine jA <| jA <| kx [(13, (kX 0))] [] (zM <| zZ) ?_
 refine jG <| qU 20 ?_
 refine uF <| jA <| jA <| kx [(133, (vb true))] [] (zM <| zE (vB true uW) <| zZ) ?_
 refine kS ?_
 refine jE <| jA <| jG <| jA ?_
 have bn7 : QL (Rat.divInt (2 * ((b * d) - (a * c))) (nq a b c d)) 3 := (qZ (n := 3) (jO (by omega) (by omega)) (jO (by omega) (by omega)) (by decide))
 refine kd [(14, (.ref 11 0))] [(11, some (bx (jR y13)))] mo (wM <| wM <| wE (gL el109 2) <| wE (gA sh74) <| wM <| wE (gL gU 0) <| wE (gA vQ) <| wR (kC zV) <| wE (kA (eO a b c d (by omega) (by omega) (by omega) (by omega))) <| wE (kA (qs_of (((2 : Nat) : Int) * ((b * d) - (a * c))) (by omega) (by omega) (nq a b c d) (by omega) (by omega) hn0)) <| wM <| wE uH <| wE uH <| wH (hc := by kernel_rfl) (qS 11 qR qY) <| wT (qB jT) <| wM <| wZ) ?_
 refine kf [(12, (.own 10 42 4 ([y13].length)))] [(10, some (aT jR [y13]))] (zM <| zR (kC jT) <| zE (cH vT qR qY) <| zAS jR [] [y13] rfl vT qR by42 (hbig := by exact (by simp +zetaDelta [maxLen] <;> omega)) (hbig' := by exact (by simp +zetaDelta <;> omega)) <| zM <| zF) ?_
 refine kx [(13, (kX 1))] [] (zM <| zE (uZ 1 (hr := by decide)) <| zM <| zZ) ?_
 refine jV (kU.refl _) ?_
 refine jA <| jA <| kx [(133, (vb true))] [] (zM <| zE (vB true uW) <| zZ) ?_
 refine kS ?_
 refine jE <| jA <| jG <| jA ?_
 have bn8 : QL (Rat.divInt (2 * ((c * d) + (a * b))) (nq a b c d)) 3 := (qZ (n := 3) (jO (by omega) (by omega)) (jO (by omega) (by omega)) (by decide))
 refine kd [(14, (.ref 12 0))] [(12, some (bx (jR (jB (Rat.divInt (2 * ((c * d) + (a * b))) (nq a b c d))))))] mo (wM <| wM <| wE (gL el109 2) <| wE (gA sh74) <| wM <| wE (gL gU 1) <| wE (gA vQ) <| wR (kC zV) <| wE (kA (eO a b c d (by omega) (by omega) (by omega) (by omega))) <| wE (kA (qs_of (((2 : Nat) : Int) * ((c * d) + (a * b))) (by omega) (by omega) (nq a b c d) (by omega) (by omega) hn0)) <| wM <| wE uH <| wE uH <| wH (hc := by kernel_rfl) (qS 12 qR qY) <| wT (qB jT) <| wM <| wZ) ?_
 refine kf [(12, (.own 10 42 4 (y9.length)))] [(10, some (aT jR y9))] (zM <| zR (kC jT) <| zE (cH vT qR qY) <| zAS jR [y13] [(jB (Rat.divInt (2 * ((c * d) + (a * b))) (nq a b c d)))] rfl vT qR by42 (hbig := by exact (by simp +zetaDelta [maxLen] <;> omega)) (hbig' := by exact (by simp +zetaDelta <;> omega)) <| zM <| zF) ?_
 refine qM (wk (l := [(1, (.ref 0 0)), (9, (vl 74 1 aO [y6, y7, y8])), (10, (.own 1 52 1 ([y1, y2].length))), (11, (kX 2)), (12, (.own 10 42 4 (y9.length))), (13, (kX 1))]) (b := [(0, some (bx (uJ (jK.mk a b c d)))), (1, some (bm qJ [y1, y2])), (10, some (aT jR y9))])) ?_
 refine kx [(13, (kX 2))] [] (zM <| zE (uZ 2 (hr := by decide)) <| zM <| zZ) ?_
 refine jV (kU.refl _) ?_
 refine jA <| jA <| kx [(133, (vb true))] [] (zM <| zE (vB true uW) <| zZ) ?_
 refine kS ?_
 refine jE <| jA <| jG <| jA ?_
 have bn9 : QL (Rat.divInt ((((a * a) - (b * b)) - (c * c)) + (d * d)) (nq a b c d)) 3 := (qZ (n := 3) (jO (by omega) (by omega)) (jO (by omega) (by omega)) (by decide))
 refine kd [(14, (.ref 13 0))] [(13, some (bx (jR (jB (Rat.divInt ((((a * a) - (b * b)) - (c * c)) + (d * d)) (nq a b c d))))))] mo (wM <| wM <| wE (gL el109 2) <| wE (gA sh74) <| wM <| wE (gL gU 2) <| wE (gA vQ) <| wR (kC zV) <| wE (kA (eO a b c d (by omega) (by omega) (by omega) (by omega))) <| wE (kA (qs_of ((((a * a) - (b * b)) - (c * c)) + (d * d)) (by omega) (by omega) (nq a b c d) (by omega) (by omega) hn0)) <| wM <| wE uH <| wE uH <| wH (hc := by kernel_rfl) (qS 13 qR qY) <| wT (qB jT) <| wM <| wZ) ?_
 refine kf [(12, (.own 10 42 4 (y3.length)))] [(10, some (aT jR y3))] (zM <| zR (kC jT) <| zE (cH vT qR qY) <| zAS jR y9 [(jB (Rat.divInt ((((a * a) - (b * b)) - (c * c)) + (d * d)) (nq a b c d)))] rfl vT qR by42 (hbig := by exact (by simp +zetaDelta [maxLen] <;> omega)) (hbig' := by exact (by simp +zetaDelta <;> omega)) <| zM <| zF) ?_
 refine kx [(13, (kX 3))] [] (zM <| zE (uZ 3 (hr := by decide)) <| zM <| zZ) ?_
 refine jV (kU.refl _) ?_
 refine jA <| jA <| kx [(133, (vb false))] [] (zM <| zE (vB false uW) <| zZ) ?_
 refine kY ?_
 refine qF <| qM (zS (t := 12) (k := 10) (es := List.map jR y3) rfl rfl (gG _ _ (fun _ => rfl)) (zB _ _ rfl) (eU jR y3 (fun _ => rfl) rfl)) ?_
 refine kf [(10, (.own 1 52 1 ([y1, y2, y3].length)))] [(1, some (bm qJ [y1, y2, y3]))] (zM <| zM <| zE (cH nN aZ zo52) <| zA qJ [y1, y2] [y3] rfl nN aZ by52 (hbig := by exact (by simp +zetaDelta [maxLen] <;> omega)) (hbig' := by exact (by simp +zetaDelta <;> omega)) <| zM <| zF) ?_
 refine kx [(11, (kX 3))] [] (zM <| zE (uZ 3 (hr := by decide)) <| zM <| zZ) ?_
 refine jV (kU.refl _) ?_
 refine jA <| jA <| kx [(128, (vb false))] [] (zM <| zE (vB false uW) <| zZ) ?_
 refine kY ?_
 refine qF <| jA <| qM (zS (t := 10) (k := 1) (es := List.map qJ [y1, y2, y3]) rfl rfl (xT _ _ (fun _ => rfl)) (zB _ _ rfl) (yA _ _ (fun _ => rfl) rfl)) ?_
 refine kx [(2, (vl 52 1 qJ [y1, y2, y3])), (3, (kX 0))] [] (zM <| zM <| zM <| zZ) ?_
 refine jJ ⟨_, (.tmp (d := (.sl 52 1 (List.map qJ [[(jB (Rat.divInt ((((a * a) + (b * b)) - (c * c)) - (d * d)) (nq a b c d))), (jB (Rat.divInt (2 * ((b * c) - (a * d))) (nq a b c d))), (jB (Rat.divInt (2 * ((b * d) + (a * c))) (nq a b c d)))], [(jB (Rat.divInt (2 * ((b * c) + (a * d))) (nq a b c d))), (jB (Rat.divInt ((((a * a) - (b * b)) + (c * c)) - (d * d)) (nq a b c d))), (jB (Rat.divInt (2 * ((c * d) - (a * b))) (nq a b c d)))], [(jB (Rat.divInt (2 * ((b * d) - (a * c))) (nq a b c d))), (jB (Rat.divInt (2 * ((c * d) + (a * b))) (nq a b c d))), (jB (Rat.divInt ((((a * a) - (b * b)) - (c * c)) + (d * d)) (nq a b c d)))]]))) rfl (.tmp (d := (.val (.int .i64 (((0 : Nat) : Int))))) rfl .nil)), ?_⟩
 rfl
end Go.Proofs.YtbecgnplakngdaaGreat
