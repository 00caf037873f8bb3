/- Part 28 of a proof: rules, plain facts, and functions walked. -/
import Derived.Test.YtbecgnplakngdaaGreatM24
import Derived.Test.YtbecgnplakngdaaGreatM27
namespace Go.Proofs.YtbecgnplakngdaaGreat
open Go.Fid
set_option maxRecDepth 4000
set_option linter.unusedVariables false
set_option linter.unusedSimpArgs false
theorem ar203 : dA Tryz.prog 203 = some (3, 3, 1) := by kernel_rfl
theorem ar204 : dA Tryz.prog 204 = some (3, 203, 3) := by kernel_rfl
theorem by42 : nQ Tryz.prog 42 = some 64 := by kernel_rfl
theorem by52 : nQ Tryz.prog 52 = some 24 := by kernel_rfl
theorem cb124 : callB Tryz.prog 124 = true := by kernel_rfl
theorem cb129 : callB Tryz.prog 129 = true := by kernel_rfl
theorem cb132 : callB Tryz.prog 132 = true := by kernel_rfl
theorem yM : vX Tryz.prog 34 = some (52, 1) := by kernel_rfl
theorem el109 : vX Tryz.prog 109 = some (74, 1) := by kernel_rfl
theorem sh74 : uF Tryz.prog 74 = some (false, 1) := by kernel_rfl
theorem sh203 : uF Tryz.prog 203 = some (true, 3) := by kernel_rfl
theorem sh204 : uF Tryz.prog 204 = some (true, 9) := by kernel_rfl
theorem iY : xH Tryz.prog 52 = some [.slice none 0 0] := by kernel_rfl
theorem ze74 : xH Tryz.prog 74 = some [.slice none 0 0] := by kernel_rfl
theorem ze203 : xH Tryz.prog 203 = some [.int .i64 0, .int .i64 0, .int .i64 0] := by kernel_rfl
theorem ze204 : xH Tryz.prog 204 = some [.int .i64 0, .int .i64 0, .int .i64 0, .int .i64 0, .int .i64 0, .int .i64 0, .int .i64 0, .int .i64 0, .int .i64 0] := by kernel_rfl
theorem zo52 : mP [.slice none 0 0] [.sl 42 4 []] := by simp [mP, Value.oneCell']
theorem zo74 : mP [.slice none 0 0] [.sl 3 1 []] := by simp [mP, Value.oneCell']
theorem zo203 : mP [.int .i64 0, .int .i64 0, .int .i64 0] [.val (.int .i64 0), .val (.int .i64 0), .val (.int .i64 0)] := by simp [mP, Value.oneCell']
theorem zo204 : mP [.int .i64 0, .int .i64 0, .int .i64 0, .int .i64 0, .int .i64 0, .int .i64 0, .int .i64 0, .int .i64 0, .int .i64 0] [.val (.int .i64 0), .val (.int .i64 0), .val (.int .i64 0), .val (.int .i64 0), .val (.int .i64 0), .val (.int .i64 0), .val (.int .i64 0), .val (.int .i64 0), .val (.int .i64 0)] := by simp [mP, Value.oneCell']
theorem q_of (n : Int) (hnl : -9223372036854775808 ≤ n) (hnh : n ≤ 9223372036854775807) (d : Int) (hdl : -9223372036854775808 ≤ d) (hdh : d ≤ 9223372036854775807) (hd : d ≠ 0) : kF Tryz.prog 124 [(.val (.int .i64 (n))), (.val (.int .i64 (d)))] (.tup [(jO (jC (Rat.divInt n d))), (.val (.int .i64 (0)))]) := by
 refine jL Tryz.func124 rfl cb124 rfl ?_
 show uK _ _ _ _ ⟨[(0, (vi n)), (1, (vi d))], []⟩
 refine jA <| kx [(4, (.ref 0 0))] [(0, some (bx (jO (kG.mk (jF.mk false []) (jF.mk false [])))))] (zN (qH 0 qM qR) <| zM <| zZ) ?_
 refine jA <| kx [(5, (vi 0))] [(0, some (bx (jO (jC (Rat.divInt n d)))))] (zM <| zE (kC (t_of n (by omega) (by omega))) <| zM <| zE (kC (t_of d (by omega) (by omega))) <| zE (kC (f_newO (jK n) n (qJ (iok_int (z := n) (by omega) (by omega)) (by decide)) (jK d) d (qJ (iok_int (z := d) (by omega) (by omega)) (by decide)) hd)) <| zE uH <| zE uH <| zT (kR jS) <| zM <| zZ) ?_
 refine jG ⟨_, (qB (cs := (bx (jO (jC (Rat.divInt n d))))) (d := (jO (jC (Rat.divInt n d)))) rfl rfl jS rfl rfl (.tmp (d := (.val (.int .i64 (0)))) rfl .nil)), ?_⟩
 rfl
theorem qs_of (n : Int) (hnl : -9223372036854775808 ≤ n) (hnh : n ≤ 9223372036854775807) (d : Int) (hdl : -9223372036854775808 ≤ d) (hdh : d ≤ 9223372036854775807) (hd : d ≠ 0) : kF Tryz.prog 63 [(.val (.int .i64 (n))), (.val (.int .i64 (d)))] (.tup [(jO (jC (Rat.divInt n d))), (.val (.int .i64 (0)))]) := by
 refine jL Tryz.func63 rfl cb63 rfl ?_
 show uK _ _ _ _ ⟨[(0, (vi n)), (1, (vi d))], []⟩
 refine jA <| kx [(4, (.ref 0 0))] [(0, some (bx (jO (kG.mk (jF.mk false []) (jF.mk false [])))))] (zN (qH 0 qM qR) <| zM <| zZ) ?_
 refine jA <| kx [(5, (vi 0))] [(0, some (bx (jO (jC (Rat.divInt n d)))))] (zM <| zE (kC (g_whole1 n (by omega) (by omega))) <| zM <| zE (kC (g_whole1 d (by omega) (by omega))) <| zE (kC (g_newO (jK n) n (qJ (iok_int (z := n) (by omega) (by omega)) (by decide)) (jK d) d (qJ (iok_int (z := d) (by omega) (by omega)) (by decide)) hd)) <| zE uH <| zE uH <| zT (kR jS) <| zM <| zZ) ?_
 refine jG ⟨_, (qB (cs := (bx (jO (jC (Rat.divInt n d))))) (d := (jO (jC (Rat.divInt n d)))) rfl rfl jS rfl rfl (.tmp (d := (.val (.int .i64 (0)))) rfl .nil)), ?_⟩
 rfl
theorem q_rmat (a b c d : Int) (ha : -1048576 ≤ a ∧ a ≤ 1048576) (hb : -1048576 ≤ b ∧ b ≤ 1048576) (hc : -1048576 ≤ c ∧ c ≤ 1048576) (hd : -1048576 ≤ d ∧ d ≤ 1048576) (hq : gU a b c d = 0) (hn0 : nq a b c d ≠ 0) : kF Tryz.prog 129 [(uI (jN.mk a b c d))] (.tup [(.sl 52 1 (List.map kP [[(jC (Q00 a b c d)), (jC (Q01 a b c d)), (jC (Q02 a b c d))], [(jC (Q10 a b c d)), (jC (Q11 a b c d)), (jC (Q12 a b c d))], [(jC (Q20 a b c d)), (jC (Q21 a b c d)), (jC (Q22 a b c d))]])), (.val (.int .i64 (0)))]) := by
 have saa := vJ ha ha
 have sab := vJ ha hb
 have sac := vJ ha hc
 have sad := vJ ha hd
 have sbb := vJ hb hb
 have sbc := vJ hb hc
 have sbd := vJ hb hd
 have scc := vJ hc hc
 have scd := vJ hc hd
 have sdd := vJ hd hd
 have hnq := nA ha hb hc hd
 let y13 := (jC (Rat.divInt (2 * ((c * d) + (a * b))) (nq a b c d)))
 let y12 := (jC (Rat.divInt (2 * ((b * d) - (a * c))) (nq a b c d)))
 let y11 := (jC (Rat.divInt (2 * ((c * d) - (a * b))) (nq a b c d)))
 let y10 := (jC (Rat.divInt (2 * ((b * c) + (a * d))) (nq a b c d)))
 let y9 := (jC (Rat.divInt (2 * ((b * d) + (a * c))) (nq a b c d)))
 let y8 := (jC (Rat.divInt (2 * ((b * c) - (a * d))) (nq a b c d)))
 let y7 := (jC (Rat.divInt ((((a * a) - (b * b)) - (c * c)) + (d * d)) (nq a b c d)))
 let y6 := (jC (Rat.divInt ((((a * a) - (b * b)) + (c * c)) - (d * d)) (nq a b c d)))
 let y5 := (jC (Rat.divInt ((((a * a) + (b * b)) - (c * c)) - (d * d)) (nq a b c d)))
 let y4 := (encA203 (A3.mk (((2 : Nat) : Int) * ((b * d) - (a * c))) (((2 : Nat) : Int) * ((c * d) + (a * b))) ((((a * a) - (b * b)) - (c * c)) + (d * d))))
 let y3 := (encA203 (A3.mk (((2 : Nat) : Int) * ((b * c) + (a * d))) ((((a * a) - (b * b)) + (c * c)) - (d * d)) (((2 : Nat) : Int) * ((c * d) - (a * b)))))
 let y2 := (encA203 (A3.mk ((((a * a) + (b * b)) - (c * c)) - (d * d)) (((2 : Nat) : Int) * ((b * c) - (a * d))) (((2 : Nat) : Int) * ((b * d) + (a * c)))))
 let y1 := (encA204 (A3.mk (A3.mk ((((a * a) + (b * b)) - (c * c)) - (d * d)) (((2 : Nat) : Int) * ((b * c) - (a * d))) (((2 : Nat) : Int) * ((b * d) + (a * c)))) (A3.mk (((2 : Nat) : Int) * ((b * c) + (a * d))) ((((a * a) - (b * b)) + (c * c)) - (d * d)) (((2 : Nat) : Int) * ((c * d) - (a * b)))) (A3.mk (((2 : Nat) : Int) * ((b * d) - (a * c))) (((2 : Nat) : Int) * ((c * d) + (a * b))) ((((a * a) - (b * b)) - (c * c)) + (d * d)))))
 refine jL Tryz.func129 rfl cb129 rfl ?_
 show uK _ _ _ _ ⟨[(0, (.d (uI (jN.mk a b c d))))], []⟩
 refine jA <| kx [(1, (.ref 0 0))] [(0, some (bx (uI (jN.mk a b c d))))] (zN (uX 0) <| zE (oNl 52 1) <| zM <| zZ) ?_
 refine jA <| jA <| kx [(4, (kE (gU a b c d)))] [] (zR (kA yO) <| zE (kC (q_chk a b c d)) <| zM <| zZ) ?_
 refine jA <| kx [(21, (vb false))] [] (zM <| zE (qY false mR (by exact bne_eq_false_iff_eq.2 (by rw [show (gU a b c d) = 0 from hq]; rfl))) <| zZ) ?_
 refine kO ?_
 refine jD <| jA <| kd [(5, (vi a)), (6, (vi b)), (7, (vi c)), (8, (vi d))] [] mo (wE (kU dG) <| wR (uM vW) <| wE (kU dJ) <| wR (uM vW) <| wE (kU dK) <| wR (uM vW) <| wE (kU dF) <| wR (uM vW) <| wM <| wM <| wM <| wM <| wZ) ?_
 refine jA <| kx [(9, (.ref 1 0))] [(1, some (bx y1))] (zM <| zM <| zE (nI (a * a) (hr := by exact (qV rfl (by simp only [xM]; omega) (by simp only [xN]; omega)))) <| zM <| zM <| zE (nI (b * b) (hr := by exact (qV rfl (by simp only [xM]; omega) (by simp only [xN]; omega)))) <| zE (zAd ((a * a) + (b * b)) (hr := by exact (qV rfl (by simp only [xM]; omega) (by simp only [xN]; omega)))) <| zM <| zM <| zE (nI (c * c) (hr := by exact (qV rfl (by simp only [xM]; omega) (by simp only [xN]; omega)))) <| zE (aF (((a * a) + (b * b)) - (c * c)) (hr := by exact (qV rfl (by simp only [xM]; omega) (by simp only [xN]; omega)))) <| zM <| zM <| zE (nI (d * d) (hr := by exact (qV rfl (by simp only [xM]; omega) (by simp only [xN]; omega)))) <| zE (aF ((((a * a) + (b * b)) - (c * c)) - (d * d)) (hr := by exact (qV rfl (by simp only [xM]; omega) (by simp only [xN]; omega)))) <| zM <| zM <| zE (nI (b * c) (hr := by exact (qV rfl (by simp only [xM]; omega) (by simp only [xN]; omega)))) <| zM <| zM <| zE (nI (a * d) (hr := by exact (qV rfl (by simp only [xM]; omega) (by simp only [xN]; omega)))) <| zE (aF ((b * c) - (a * d)) (hr := by exact (qV rfl (by simp only [xM]; omega) (by simp only [xN]; omega)))) <| zE (nI (((2 : Nat) : Int) * ((b * c) - (a * d))) (hr := by exact (qV rfl (by simp only [xM]; omega) (by simp only [xN]; omega)))) <| zM <| zM <| zE (nI (b * d) (hr := by exact (qV rfl (by simp only [xM]; omega) (by simp only [xN]; omega)))) <| zM <| zM <| zE (nI (a * c) (hr := by exact (qV rfl (by simp only [xM]; omega) (by simp only [xN]; omega)))) <| zE (zAd ((b * d) + (a * c)) (hr := by exact (qV rfl (by simp only [xM]; omega) (by simp only [xN]; omega)))) <| zE (nI (((2 : Nat) : Int) * ((b * d) + (a * c))) (hr := by exact (qV rfl (by simp only [xM]; omega) (by simp only [xN]; omega)))) <| zE (oBf ar203 ze203 zo203) <| zM <| zM <| zE (nI (b * c) (hr := by exact (qV rfl (by simp only [xM]; omega) (by simp only [xN]; omega)))) <| zM <| zM <| zE (nI (a * d) (hr := by exact (qV rfl (by simp only [xM]; omega) (by simp only [xN]; omega)))) <| zE (zAd ((b * c) + (a * d)) (hr := by exact (qV rfl (by simp only [xM]; omega) (by simp only [xN]; omega)))) <| zE (nI (((2 : Nat) : Int) * ((b * c) + (a * d))) (hr := by exact (qV rfl (by simp only [xM]; omega) (by simp only [xN]; omega)))) <| zM <| zM <| zE (nI (a * a) (hr := by exact (qV rfl (by simp only [xM]; omega) (by simp only [xN]; omega)))) <| zM <| zM <| zE (nI (b * b) (hr := by exact (qV rfl (by simp only [xM]; omega) (by simp only [xN]; omega)))) <| zE (aF ((a * a) - (b * b)) (hr := by exact (qV rfl (by simp only [xM]; omega) (by simp only [xN]; omega)))) <| zM <| zM <| zE (nI (c * c) (hr := by exact (qV rfl (by simp only [xM]; omega) (by simp only [xN]; omega)))) <| zE (zAd (((a * a) - (b * b)) + (c * c)) (hr := by exact (qV rfl (by simp only [xM]; omega) (by simp only [xN]; omega)))) <| zM <| zM <| zE (nI (d * d) (hr := by exact (qV rfl (by simp only [xM]; omega) (by simp only [xN]; omega)))) <| zE (aF ((((a * a) - (b * b)) + (c * c)) - (d * d)) (hr := by exact (qV rfl (by simp only [xM]; omega) (by simp only [xN]; omega)))) <| zM <| zM <| zE (nI (c * d) (hr := by exact (qV rfl (by simp only [xM]; omega) (by simp only [xN]; omega)))) <| zM <| zM <| zE (nI (a * b) (hr := by exact (qV rfl (by simp only [xM]; omega) (by simp only [xN]; omega)))) <| zE (aF ((c * d) - (a * b)) (hr := by exact (qV rfl (by simp only [xM]; omega) (by simp only [xN]; omega)))) <| zE (nI (((2 : Nat) : Int) * ((c * d) - (a * b))) (hr := by exact (qV rfl (by simp only [xM]; omega) (by simp only [xN]; omega)))) <| zE (oBf ar203 ze203 zo203) <| zM <| zM <| zE (nI (b * d) (hr := by exact (qV rfl (by simp only [xM]; omega) (by simp only [xN]; omega)))) <| zM <| zM <| zE (nI (a * c) (hr := by exact (qV rfl (by simp only [xM]; omega) (by simp only [xN]; omega)))) <| zE (aF ((b * d) - (a * c)) (hr := by exact (qV rfl (by simp only [xM]; omega) (by simp only [xN]; omega)))) <| zE (nI (((2 : Nat) : Int) * ((b * d) - (a * c))) (hr := by exact (qV rfl (by simp only [xM]; omega) (by simp only [xN]; omega)))) <| zM <| zM <| zE (nI (c * d) (hr := by exact (qV rfl (by simp only [xM]; omega) (by simp only [xN]; omega)))) <| zM <| zM <| zE (nI (a * b) (hr := by exact (qV rfl (by simp only [xM]; omega) (by simp only [xN]; omega)))) <| zE (zAd ((c * d) + (a * b)) (hr := by exact (qV rfl (by simp only [xM]; omega) (by simp only [xN]; omega)))) <| zE (nI (((2 : Nat) : Int) * ((c * d) + (a * b))) (hr := by exact (qV rfl (by simp only [xM]; omega) (by simp only [xN]; omega)))) <| zM <| zM <| zE (nI (a * a) (hr := by exact (qV rfl (by simp only [xM]; omega) (by simp only [xN]; omega)))) <| zM <| zM <| zE (nI (b * b) (hr := by exact (qV rfl (by simp only [xM]; omega) (by simp only [xN]; omega)))) <| zE (aF ((a * a) - (b * b)) (hr := by exact (qV rfl (by simp only [xM]; omega) (by simp only [xN]; omega)))) <| zM <| zM <| zE (nI (c * c) (hr := by exact (qV rfl (by simp only [xM]; omega) (by simp only [xN]; omega)))) <| zE (aF (((a * a) - (b * b)) - (c * c)) (hr := by exact (qV rfl (by simp only [xM]; omega) (by simp only [xN]; omega)))) <| zM <| zM <| zE (nI (d * d) (hr := by exact (qV rfl (by simp only [xM]; omega) (by simp only [xN]; omega)))) <| zE (zAd ((((a * a) - (b * b)) - (c * c)) + (d * d)) (hr := by exact (qV rfl (by simp only [xM]; omega) (by simp only [xN]; omega)))) <| zE (oBf ar203 ze203 zo203) <| zE (oBf ar204 ze204 zo204) <| zN (qH 1 ze204 zo204) <| zT (kR sh204) <| zZ) ?_
 refine jA <| kx [(10, (.own 2 52 1 0))] [(2, some (bm kP []))] (zO 2 52 1 <| zZ) ?_
 refine jA <| jA <| kx [(128, (.d y1)), (129, (kE 0))] [] (zR (kA sh204) <| zM <| zZ) ?_
 refine jE <| qE 20 ?_
 refine qK <| jA <| kx [(130, (vb true))] [] (zE (qY true qS) <| zZ) ?_
 refine jA <| kD ?_
 refine jD <| jA <| jE <| jA <| kx [(12, (.ref 3 0))] [(3, some (bx y2))] (zE (iF ar204 sh203 (fun h => by cases h) 0) <| zH (qH 3 ze203 zo203) <| zT (kR sh203) <| zZ) ?_
 refine jA <| kx [(13, (.own 4 42 4 0))] [(4, some (aH jO []))] (zO 4 42 4 <| zZ) ?_
 refine jA <| jA <| kx [(132, (.d y2)), (133, (kE 0))] [] (zR (kA sh203) <| zM <| zZ) ?_
 refine jE <| qE 20 ?_
 refine qK <| jA <| kx [(134, (vb true))] [] (zE (qY true qS) <| zZ) ?_
 refine jA <| kD ?_
 refine jD <| jA <| jE <| jA <| kx [(15, (vi ((((a * a) + (b * b)) - (c * c)) - (d * d))))] [] (zE (iF ar203 vW (fun _ => rfl) 0) <| zM <| zZ) ?_
 refine jA ?_
 have bn1 : QL (Rat.divInt ((((a * a) + (b * b)) - (c * c)) - (d * d)) (nq a b c d)) 3 := (qO (n := 3) (jU (by omega) (by omega)) (jU (by omega) (by omega)) (by decide))
 refine kx [(16, (.ref 5 0))] [(5, some (bx (jO y5)))] (zM <| zR (kA yO) <| zE (kC (fN a b c d (by omega) (by omega) (by omega) (by omega))) <| zE (kC (q_of ((((a * a) + (b * b)) - (c * c)) - (d * d)) (by omega) (by omega) (nq a b c d) (by omega) (by omega) hn0)) <| zM <| zE uH <| zE uH <| zH (qH 5 qM qR) <| zT (kR jS) <| zM <| zZ) ?_
 refine kX (wk (l := [(1, (.ref 0 0)), (10, (.own 2 52 1 0)), (13, (.own 4 42 4 0)), (16, (.ref 5 0)), (128, (.d y1)), (129, (kE 0)), (132, (.d y2)), (133, (kE 0))]) (b := [(0, some (bx (uI (jN.mk a b c d)))), (2, some (bm kP [])), (4, some (aH jO [])), (5, some (bx (jO y5)))])) ?_
 refine kf [(13, (.own 4 42 4 (([] ++ [y5]).length)))] [(4, some (aH jO ([] ++ [y5])))] (zM <| zR (kA jS) <| zE (cP uO qM qR) <| zAS jO [] [y5] rfl uO qM by42 (hbig := by exact (by simp +zetaDelta [maxLen] <;> omega)) (hbig' := by exact (by simp +zetaDelta <;> omega)) <| zM <| zF) ?_
 refine kx [(133, (kE 1))] [] (zE (qQ 1 (hr := by decide)) <| zM <| zZ) ?_
 refine jJ (jZ.refl _) ?_
 refine jA <| kx [(134, (vb true))] [] (zE (qY true qS) <| zZ) ?_
 refine jA <| kD ?_
 refine jD <| jA <| jE <| jA <| kx [(15, (vi (((2 : Nat) : Int) * ((b * c) - (a * d)))))] [] (zE (iF ar203 vW (fun _ => rfl) 1) <| zM <| zZ) ?_
 refine jA ?_
 have bn2 : QL (Rat.divInt (2 * ((b * c) - (a * d))) (nq a b c d)) 3 := (qO (n := 3) (jU (by omega) (by omega)) (jU (by omega) (by omega)) (by decide))
 refine kx [(16, (.ref 6 0))] [(6, some (bx (jO y8)))] (zM <| zR (kA yO) <| zE (kC (fN a b c d (by omega) (by omega) (by omega) (by omega))) <| zE (kC (q_of (((2 : Nat) : Int) * ((b * c) - (a * d))) (by omega) (by omega) (nq a b c d) (by omega) (by omega) hn0)) <| zM <| zE uH <| zE uH <| zH (qH 6 qM qR) <| zT (kR jS) <| zM <| zZ) ?_
 refine kf [(13, (.own 4 42 4 ((([] ++ [y5]) ++ [y8]).length)))] [(4, some (aH jO (([] ++ [y5]) ++ [y8])))] (zM <| zR (kA jS) <| zE (cP uO qM qR) <| zAS jO ([] ++ [y5]) [y8] rfl uO qM by42 (hbig := by exact (by simp +zetaDelta [maxLen] <;> omega)) (hbig' := by exact (by simp +zetaDelta <;> omega)) <| zM <| zF) ?_
 refine kx [(133, (kE 2))] [] (zE (qQ 2 (hr := by decide)) <| zM <| zZ) ?_
 refine jJ (jZ.refl _) ?_
 refine jA <| kx [(134, (vb true))] [] (zE (qY true qS) <| zZ) ?_
 refine jA <| kD ?_
 refine jD <| jA <| jE <| jA <| kx [(15, (vi (((2 : Nat) : Int) * ((b * d) + (a * c)))))] [] (zE (iF ar203 vW (fun _ => rfl) 2) <| zM <| zZ) ?_
 refine jA ?_
 have bn3 : QL (Rat.divInt (2 * ((b * d) + (a * c))) (nq a b c d)) 3 := (qO (n := 3) (jU (by omega) (by omega)) (jU (by omega) (by omega)) (by decide))
 refine kx [(16, (.ref 7 0))] [(7, some (bx (jO y9)))] (zM <| zR (kA yO) <| zE (kC (fN a b c d (by omega) (by omega) (by omega) (by omega))) <| zE (kC (q_of (((2 : Nat) : Int) * ((b * d) + (a * c))) (by omega) (by omega) (nq a b c d) (by omega) (by omega) hn0)) <| zM <| zE uH <| zE uH <| zH (qH 7 qM qR) <| zT (kR jS) <| zM <| zZ) ?_
 refine kf [(13, (.own 4 42 4 (((([] ++ [y5]) ++ [y8]) ++ [y9]).length)))] [(4, some (aH jO ((([] ++ [y5]) ++ [y8]) ++ [y9])))] (zM <| zR (kA jS) <| zE (cP uO qM qR) <| zAS jO (([] ++ [y5]) ++ [y8]) [y9] rfl uO qM by42 (hbig := by exact (by simp +zetaDelta [maxLen] <;> omega)) (hbig' := by exact (by simp +zetaDelta <;> omega)) <| zM <| zF) ?_
 refine kx [(133, (kE 3))] [] (zE (qQ 3 (hr := by decide)) <| zM <| zZ) ?_
 refine jJ (jZ.refl _) ?_
 refine jA <| kx [(134, (vb false))] [] (zE (qY false qS) <| zZ) ?_
 refine jA <| kO ?_
 refine kQ <| kX (xY (t := 13) (k := 4) (es := List.map jO ((([] ++ [y5]) ++ [y8]) ++ [y9])) rfl rfl (xZ _ _ (fun _ => rfl)) (xU _ _ rfl) (cI jO ((([] ++ [y5]) ++ [y8]) ++ [y9]) (fun _ => rfl) rfl)) ?_
 refine kf [(10, (.own 2 52 1 (([] ++ [((([] ++ [y5]) ++ [y8]) ++ [y9])]).length)))] [(2, some (bm kP ([] ++ [((([] ++ [y5]) ++ [y8]) ++ [y9])])))] (zM <| zM <| zE (cP yM iY zo52) <| zA kP [] [((([] ++ [y5]) ++ [y8]) ++ [y9])] rfl yM iY by52 (hbig := by exact (by simp +zetaDelta [maxLen] <;> omega)) (hbig' := by exact (by simp +zetaDelta <;> omega)) <| zM <| zF) ?_
 refine kX (wk (l := [(1, (.ref 0 0)), (10, (.own 2 52 1 (([] ++ [((([] ++ [y5]) ++ [y8]) ++ [y9])]).length))), (128, (.d y1)), (129, (kE 0))]) (b := [(0, some (bx (uI (jN.mk a b c d)))), (2, some (bm kP ([] ++ [((([] ++ [y5]) ++ [y8]) ++ [y9])])))])) ?_
 refine kx [(129, (kE 1))] [] (zE (qQ 1 (hr := by decide)) <| zM <| zZ) ?_
 refine jJ (jZ.refl _) ?_
 refine jA <| kx [(130, (vb true))] [] (zE (qY true qS) <| zZ) ?_
 refine jA <| kD ?_
 refine jD <| jA <| jE <| jA <| kx [(12, (.ref 8 0))] [(8, some (bx y3))] (zE (iF ar204 sh203 (fun h => by cases h) 1) <| zH (qH 8 ze203 zo203) <| zT (kR sh203) <| zZ) ?_
 refine jA <| kx [(13, (.own 9 42 4 0))] [(9, some (aH jO []))] (zO 9 42 4 <| zZ) ?_
 refine jA <| jA <| kx [(132, (.d y3)), (133, (kE 0))] [] (zR (kA sh203) <| zM <| zZ) ?_
 refine jE <| qE 20 ?_
 refine qK <| jA <| kx [(134, (vb true))] [] (zE (qY true qS) <| zZ) ?_
 refine jA <| kD ?_
 refine jD <| jA <| jE <| jA <| kx [(15, (vi (((2 : Nat) : Int) * ((b * c) + (a * d)))))] [] (zE (iF ar203 vW (fun _ => rfl) 0) <| zM <| zZ) ?_
 refine jA ?_
 have bn4 : QL (Rat.divInt (2 * ((b * c) + (a * d))) (nq a b c d)) 3 := (qO (n := 3) (jU (by omega) (by omega)) (jU (by omega) (by omega)) (by decide))
 refine kx [(16, (.ref 10 0))] [(10, some (bx (jO y10)))] (zM <| zR (kA yO) <| zE (kC (fN a b c d (by omega) (by omega) (by omega) (by omega))) <| zE (kC (q_of (((2 : Nat) : Int) * ((b * c) + (a * d))) (by omega) (by omega) (nq a b c d) (by omega) (by omega) hn0)) <| zM <| zE uH <| zE uH <| zH (qH 10 qM qR) <| zT (kR jS) <| zM <| zZ) ?_
 refine kf [(13, (.own 9 42 4 (([] ++ [y10]).length)))] [(9, some (aH jO ([] ++ [y10])))] (zM <| zR (kA jS) <| zE (cP uO qM qR) <| zAS jO [] [y10] rfl uO qM by42 (hbig := by exact (by simp +zetaDelta [maxLen] <;> omega)) (hbig' := by exact (by simp +zetaDelta <;> omega)) <| zM <| zF) ?_
 refine kx [(133, (kE 1))] [] (zE (qQ 1 (hr := by decide)) <| zM <| zZ) ?_
 refine jJ (jZ.refl _) ?_
 refine jA <| kx [(134, (vb true))] [] (zE (qY true qS) <| zZ) ?_
 refine jA <| kD ?_
 refine jD <| jA <| jE <| jA <| kx [(15, (vi ((((a * a) - (b * b)) + (c * c)) - (d * d))))] [] (zE (iF ar203 vW (fun _ => rfl) 1) <| zM <| zZ) ?_
 refine jA ?_
 have bn5 : QL (Rat.divInt ((((a * a) - (b * b)) + (c * c)) - (d * d)) (nq a b c d)) 3 := (qO (n := 3) (jU (by omega) (by omega)) (jU (by omega) (by omega)) (by decide))
 refine kx [(16, (.ref 11 0))] [(11, some (bx (jO y6)))] (zM <| zR (kA yO) <| zE (kC (fN a b c d (by omega) (by omega) (by omega) (by omega))) <| zE (kC (q_of ((((a * a) - (b * b)) + (c * c)) - (d * d)) (by omega) (by omega) (nq a b c d) (by omega) (by omega) hn0)) <| zM <| zE uH <| zE uH <| zH (qH 11 qM qR) <| zT (kR jS) <| zM <| zZ) ?_
 refine kf [(13, (.own 9 42 4 ((([] ++ [y10]) ++ [y6]).length)))] [(9, some (aH jO (([] ++ [y10]) ++ [y6])))] (zM <| zR (kA jS) <| zE (cP uO qM qR) <| zAS jO ([] ++ [y10]) [y6] rfl uO qM by42 (hbig := by exact (by simp +zetaDelta [maxLen] <;> omega)) (hbig' := by exact (by simp +zetaDelta <;> omega)) <| zM <| zF) ?_
 refine kX (wk (l := [(1, (.ref 0 0)), (10, (.own 2 52 1 (([] ++ [((([] ++ [y5]) ++ [y8]) ++ [y9])]).length))), (13, (.own 9 42 4 ((([] ++ [y10]) ++ [y6]).length))), (128, (.d y1)), (129, (kE 1)), (132, (.d y3)), (133, (kE 1))]) (b := [(0, some (bx (uI (jN.mk a b c d)))), (2, some (bm kP ([] ++ [((([] ++ [y5]) ++ [y8]) ++ [y9])]))), (9, some (aH jO (([] ++ [y10]) ++ [y6])))])) ?_
 refine kx [(133, (kE 2))] [] (zE (qQ 2 (hr := by decide)) <| zM <| zZ) ?_
 refine jJ (jZ.refl _) ?_
 refine jA <| kx [(134, (vb true))] [] (zE (qY true qS) <| zZ) ?_
 refine jA <| kD ?_
 refine jD <| jA <| jE <| jA <| kx [(15, (vi (((2 : Nat) : Int) * ((c * d) - (a * b)))))] [] (zE (iF ar203 vW (fun _ => rfl) 2) <| zM <| zZ) ?_
 refine jA ?_
 have bn6 : QL (Rat.divInt (2 * ((c * d) - (a * b))) (nq a b c d)) 3 := (qO (n := 3) (jU (by omega) (by omega)) (jU (by omega) (by omega)) (by decide))
 refine kx [(16, (.ref 12 0))] [(12, some (bx (jO y11)))] (zM <| zR (kA yO) <| zE (kC (fN a b c d (by omega) (by omega) (by omega) (by omega))) <| zE (kC (q_of (((2 : Nat) : Int) * ((c * d) - (a * b))) (by omega) (by omega) (nq a b c d) (by omega) (by omega) hn0)) <| zM <| zE uH <| zE uH <| zH (qH 12 qM qR) <| zT (kR jS) <| zM <| zZ) ?_
 refine kf [(13, (.own 9 42 4 (((([] ++ [y10]) ++ [y6]) ++ [y11]).length)))] [(9, some (aH jO ((([] ++ [y10]) ++ [y6]) ++ [y11])))] (zM <| zR (kA jS) <| zE (cP uO qM qR) <| zAS jO (([] ++ [y10]) ++ [y6]) [y11] rfl uO qM by42 (hbig := by exact (by simp +zetaDelta [maxLen] <;> omega)) (hbig' := by exact (by simp +zetaDelta <;> omega)) <| zM <| zF) ?_
 refine kx [(133, (kE 3))] [] (zE (qQ 3 (hr := by decide)) <| zM <| zZ) ?_
 refine jJ (jZ.refl _) ?_
 refine jA <| kx [(134, (vb false))] [] (zE (qY false qS) <| zZ) ?_
 refine jA <| kO ?_
 refine kQ <| kX (xY (t := 13) (k := 9) (es := List.map jO ((([] ++ [y10]) ++ [y6]) ++ [y11])) rfl rfl (xZ _ _ (fun _ => rfl)) (xU _ _ rfl) (cI jO ((([] ++ [y10]) ++ [y6]) ++ [y11]) (fun _ => rfl) rfl)) ?_
 refine kf [(10, (.own 2 52 1 ((([] ++ [((([] ++ [y5]) ++ [y8]) ++ [y9])]) ++ [((([] ++ [y10]) ++ [y6]) ++ [y11])]).length)))] [(2, some (bm kP (([] ++ [((([] ++ [y5]) ++ [y8]) ++ [y9])]) ++ [((([] ++ [y10]) ++ [y6]) ++ [y11])])))] (zM <| zM <| zE (cP yM iY zo52) <| zA kP ([] ++ [((([] ++ [y5]) ++ [y8]) ++ [y9])]) [((([] ++ [y10]) ++ [y6]) ++ [y11])] rfl yM iY by52 (hbig := by exact (by simp +zetaDelta [maxLen] <;> omega)) (hbig' := by exact (by simp +zetaDelta <;> omega)) <| zM <| zF) ?_
 refine kx [(129, (kE 2))] [] (zE (qQ 2 (hr := by decide)) <| zM <| zZ) ?_
 refine jJ (jZ.refl _) ?_
 refine jA <| kx [(130, (vb true))] [] (zE (qY true qS) <| zZ) ?_
 refine jA <| kD ?_
 refine jD <| jA <| jE <| jA <| kx [(12, (.ref 13 0))] [(13, some (bx y4))] (zE (iF ar204 sh203 (fun h => by cases h) 2) <| zH (qH 13 ze203 zo203) <| zT (kR sh203) <| zZ) ?_
 refine jA <| kx [(13, (.own 14 42 4 0))] [(14, some (aH jO []))] (zO 14 42 4 <| zZ) ?_
 refine jA <| jA <| kx [(132, (.d y4)), (133, (kE 0))] [] (zR (kA sh203) <| zM <| zZ) ?_
 refine jE <| qE 20 ?_
 refine qK <| jA <| kx [(134, (vb true))] [] (zE (qY true qS) <| zZ) ?_
 refine jA <| kD ?_
 refine jD <| jA <| jE <| jA <| kX (wk (l := [(1, (.ref 0 0)), (10, (.own 2 52 1 ((([] ++ [((([] ++ [y5]) ++ [y8]) ++ [y9])]) ++ [((([] ++ [y10]) ++ [y6]) ++ [y11])]).length))), (13, (.own 14 42 4 0)), (128, (.d y1)), (129, (kE 2)), (132, (.d y4)), (133, (kE 0)), (134, (vb true))]) (b := [(0, some (bx (uI (jN.mk a b c d)))), (14, some (aH jO [])), (2, some (bm kP (([] ++ [((([] ++ [y5]) ++ [y8]) ++ [y9])]) ++ [((([] ++ [y10]) ++ [y6]) ++ [y11])])))])) ?_
 refine kx [(15, (vi (((2 : Nat) : Int) * ((b * d) - (a * c)))))] [] (zE (iF ar203 vW (fun _ => rfl) 0) <| zM <| zZ) ?_
 refine jA ?_
 have bn7 : QL (Rat.divInt (2 * ((b * d) - (a * c))) (nq a b c d)) 3 := (qO (n := 3) (jU (by omega) (by omega)) (jU (by omega) (by omega)) (by decide))
 refine kx [(16, (.ref 15 0))] [(15, some (bx (jO y12)))] (zM <| zR (kA yO) <| zE (kC (fN a b c d (by omega) (by omega) (by omega) (by omega))) <| zE (kC (q_of (((2 : Nat) : Int) * ((b * d) - (a * c))) (by omega) (by omega) (nq a b c d) (by omega) (by omega) hn0)) <| zM <| zE uH <| zE uH <| zH (qH 15 qM qR) <| zT (kR jS) <| zM <| zZ) ?_
 refine kf [(13, (.own 14 42 4 (([] ++ [y12]).length)))] [(14, some (aH jO ([] ++ [y12])))] (zM <| zR (kA jS) <| zE (cP uO qM qR) <| zAS jO [] [y12] rfl uO qM by42 (hbig := by exact (by simp +zetaDelta [maxLen] <;> omega)) (hbig' := by exact (by simp +zetaDelta <;> omega)) <| zM <| zF) ?_
 refine kx [(133, (kE 1))] [] (zE (qQ 1 (hr := by decide)) <| zM <| zZ) ?_
 refine jJ (jZ.refl _) ?_
 refine jA <| kx [(134, (vb true))] [] (zE (qY true qS) <| zZ) ?_
 refine jA <| kD ?_
 refine jD <| jA <| jE <| jA <| kx [(15, (vi (((2 : Nat) : Int) * ((c * d) + (a * b)))))] [] (zE (iF ar203 vW (fun _ => rfl) 1) <| zM <| zZ) ?_
 refine jA ?_
 have bn8 : QL (Rat.divInt (2 * ((c * d) + (a * b))) (nq a b c d)) 3 := (qO (n := 3) (jU (by omega) (by omega)) (jU (by omega) (by omega)) (by decide))
 refine kx [(16, (.ref 16 0))] [(16, some (bx (jO y13)))] (zM <| zR (kA yO) <| zE (kC (fN a b c d (by omega) (by omega) (by omega) (by omega))) <| zE (kC (q_of (((2 : Nat) : Int) * ((c * d) + (a * b))) (by omega) (by omega) (nq a b c d) (by omega) (by omega) hn0)) <| zM <| zE uH <| zE uH <| zH (qH 16 qM qR) <| zT (kR jS) <| zM <| zZ) ?_
 refine kf [(13, (.own 14 42 4 ((([] ++ [y12]) ++ [y13]).length)))] [(14, some (aH jO (([] ++ [y12]) ++ [y13])))] (zM <| zR (kA jS) <| zE (cP uO qM qR) <| zAS jO ([] ++ [y12]) [y13] rfl uO qM by42 (hbig := by exact (by simp +zetaDelta [maxLen] <;> omega)) (hbig' := by exact (by simp +zetaDelta <;> omega)) <| zM <| zF) ?_
 refine kx [(133, (kE 2))] [] (zE (qQ 2 (hr := by decide)) <| zM <| zZ) ?_
 refine jJ (jZ.refl _) ?_
 refine jA <| kx [(134, (vb true))] [] (zE (qY true qS) <| zZ) ?_
 refine jA <| kD ?_
 refine jD <| jA <| jE <| jA <| kx [(15, (vi ((((a * a) - (b * b)) - (c * c)) + (d * d))))] [] (zE (iF ar203 vW (fun _ => rfl) 2) <| zM <| zZ) ?_
 refine jA ?_
 have bn9 : QL (Rat.divInt ((((a * a) - (b * b)) - (c * c)) + (d * d)) (nq a b c d)) 3 := (qO (n := 3) (jU (by omega) (by omega)) (jU (by omega) (by omega)) (by decide))
 refine kx [(16, (.ref 17 0))] [(17, some (bx (jO y7)))] (zM <| zR (kA yO) <| zE (kC (fN a b c d (by omega) (by omega) (by omega) (by omega))) <| zE (kC (q_of ((((a * a) - (b * b)) - (c * c)) + (d * d)) (by omega) (by omega) (nq a b c d) (by omega) (by omega) hn0)) <| zM <| zE uH <| zE uH <| zH (qH 17 qM qR) <| zT (kR jS) <| zM <| zZ) ?_
 refine kf [(13, (.own 14 42 4 (((([] ++ [y12]) ++ [y13]) ++ [y7]).length)))] [(14, some (aH jO ((([] ++ [y12]) ++ [y13]) ++ [y7])))] (zM <| zR (kA jS) <| zE (cP uO qM qR) <| zAS jO (([] ++ [y12]) ++ [y13]) [y7] rfl uO qM by42 (hbig := by exact (by simp +zetaDelta [maxLen] <;> omega)) (hbig' := by exact (by simp +zetaDelta <;> omega)) <| zM <| zF) ?_
 refine kx [(133, (kE 3))] [] (zE (qQ 3 (hr := by decide)) <| zM <| zZ) ?_
 refine jJ (jZ.refl _) ?_
 refine jA <| kX (wk (l := [(1, (.ref 0 0)), (10, (.own 2 52 1 ((([] ++ [((([] ++ [y5]) ++ [y8]) ++ [y9])]) ++ [((([] ++ [y10]) ++ [y6]) ++ [y11])]).length))), (13, (.own 14 42 4 (((([] ++ [y12]) ++ [y13]) ++ [y7]).length))), (128, (.d y1)), (129, (kE 2)), (132, (.d y4)), (133, (kE 3))]) (b := [(0, some (bx (uI (jN.mk a b c d)))), (14, some (aH jO ((([] ++ [y12]) ++ [y13]) ++ [y7]))), (2, some (bm kP (([] ++ [((([] ++ [y5]) ++ [y8]) ++ [y9])]) ++ [((([] ++ [y10]) ++ [y6]) ++ [y11])])))])) ?_
 refine kx [(134, (vb false))] [] (zE (qY false qS) <| zZ) ?_
 refine jA <| kO ?_
 refine kQ <| kX (xY (t := 13) (k := 14) (es := List.map jO ((([] ++ [y12]) ++ [y13]) ++ [y7])) rfl rfl (xZ _ _ (fun _ => rfl)) (xU _ _ rfl) (cI jO ((([] ++ [y12]) ++ [y13]) ++ [y7]) (fun _ => rfl) rfl)) ?_
 refine kf [(10, (.own 2 52 1 (((([] ++ [((([] ++ [y5]) ++ [y8]) ++ [y9])]) ++ [((([] ++ [y10]) ++ [y6]) ++ [y11])]) ++ [((([] ++ [y12]) ++ [y13]) ++ [y7])]).length)))] [(2, some (bm kP ((([] ++ [((([] ++ [y5]) ++ [y8]) ++ [y9])]) ++ [((([] ++ [y10]) ++ [y6]) ++ [y11])]) ++ [((([] ++ [y12]) ++ [y13]) ++ [y7])])))] (zM <| zM <| zE (cP yM iY zo52) <| zA kP (([] ++ [((([] ++ [y5]) ++ [y8]) ++ [y9])]) ++ [((([] ++ [y10]) ++ [y6]) ++ [y11])]) [((([] ++ [y12]) ++ [y13]) ++ [y7])] rfl yM iY by52 (hbig := by exact (by simp +zetaDelta [maxLen] <;> omega)) (hbig' := by exact (by simp +zetaDelta <;> omega)) <| zM <| zF) ?_
 refine kx [(129, (kE 3))] [] (zE (qQ 3 (hr := by decide)) <| zM <| zZ) ?_
 refine jJ (jZ.refl _) ?_
 refine jA <| kx [(130, (vb false))] [] (zE (qY false qS) <| zZ) ?_
 refine jA <| kO ?_
 refine kQ <| jA <| kX (xY (t := 10) (k := 2) (es := List.map kP ((([] ++ [((([] ++ [y5]) ++ [y8]) ++ [y9])]) ++ [((([] ++ [y10]) ++ [y6]) ++ [y11])]) ++ [((([] ++ [y12]) ++ [y13]) ++ [y7])])) rfl rfl (xV _ _ (fun _ => rfl)) (xU _ _ rfl) (yF _ _ (fun _ => rfl) rfl)) ?_
 refine kx [(2, (vl 52 1 kP ((([] ++ [((([] ++ [y5]) ++ [y8]) ++ [y9])]) ++ [((([] ++ [y10]) ++ [y6]) ++ [y11])]) ++ [((([] ++ [y12]) ++ [y13]) ++ [y7])]))), (3, (kE 0))] [] (zM <| zM <| zM <| zZ) ?_
 refine jG ⟨_, (.tmp (d := (.sl 52 1 (List.map kP ((([] ++ [((([] ++ [(jC (Rat.divInt ((((a * a) + (b * b)) - (c * c)) - (d * d)) (nq a b c d)))]) ++ [(jC (Rat.divInt (2 * ((b * c) - (a * d))) (nq a b c d)))]) ++ [(jC (Rat.divInt (2 * ((b * d) + (a * c))) (nq a b c d)))])]) ++ [((([] ++ [(jC (Rat.divInt (2 * ((b * c) + (a * d))) (nq a b c d)))]) ++ [(jC (Rat.divInt ((((a * a) - (b * b)) + (c * c)) - (d * d)) (nq a b c d)))]) ++ [(jC (Rat.divInt (2 * ((c * d) - (a * b))) (nq a b c d)))])]) ++ [((([] ++ [(jC (Rat.divInt (2 * ((b * d) - (a * c))) (nq a b c d)))]) ++ [(jC (Rat.divInt (2 * ((c * d) + (a * b))) (nq a b c d)))]) ++ [(jC (Rat.divInt ((((a * a) - (b * b)) - (c * c)) + (d * d)) (nq a b c d)))])])))) rfl (.tmp (d := (.val (.int .i64 (((0 : Nat) : Int))))) rfl .nil)), ?_⟩
 rfl
theorem qs_rmat (a b c d : Int) (ha : -1048576 ≤ a ∧ a ≤ 1048576) (hb : -1048576 ≤ b ∧ b ≤ 1048576) (hc : -1048576 ≤ c ∧ c ≤ 1048576) (hd : -1048576 ≤ d ∧ d ≤ 1048576) (hq : gU a b c d = 0) (hn0 : nq a b c d ≠ 0) : kF Tryz.prog 132 [(uI (jN.mk a b c d))] (.tup [(.sl 52 1 (List.map kP [[(jC (Q00 a b c d)), (jC (Q01 a b c d)), (jC (Q02 a b c d))], [(jC (Q10 a b c d)), (jC (Q11 a b c d)), (jC (Q12 a b c d))], [(jC (Q20 a b c d)), (jC (Q21 a b c d)), (jC (Q22 a b c d))]])), (.val (.int .i64 (0)))]) := by
 have saa := vJ ha ha
 have sab := vJ ha hb
 have sac := vJ ha hc
 have sad := vJ ha hd
 have sbb := vJ hb hb
 have sbc := vJ hb hc
 have sbd := vJ hb hd
 have scc := vJ hc hc
 have scd := vJ hc hd
 have sdd := vJ hd hd
 have hnq := nA ha hb hc hd
 let y13 := (jC (Rat.divInt (2 * ((b * d) - (a * c))) (nq a b c d)))
 let y12 := (jC (Rat.divInt (2 * ((b * c) + (a * d))) (nq a b c d)))
 let y11 := (jC (Rat.divInt ((((a * a) - (b * b)) + (c * c)) - (d * d)) (nq a b c d)))
 let y10 := (jC (Rat.divInt ((((a * a) + (b * b)) - (c * c)) - (d * d)) (nq a b c d)))
 let y9 := [y13, (jC (Rat.divInt (2 * ((c * d) + (a * b))) (nq a b c d)))]
 let y8 := [(((2 : Nat) : Int) * ((b * d) - (a * c))), (((2 : Nat) : Int) * ((c * d) + (a * b))), ((((a * a) - (b * b)) - (c * c)) + (d * d))]
 let y7 := [(((2 : Nat) : Int) * ((b * c) + (a * d))), ((((a * a) - (b * b)) + (c * c)) - (d * d)), (((2 : Nat) : Int) * ((c * d) - (a * b)))]
 let y6 := [((((a * a) + (b * b)) - (c * c)) - (d * d)), (((2 : Nat) : Int) * ((b * c) - (a * d))), (((2 : Nat) : Int) * ((b * d) + (a * c)))]
 let y5 := [y12, y11]
 let y4 := [y10, (jC (Rat.divInt (2 * ((b * c) - (a * d))) (nq a b c d)))]
 let y3 := [y13, (jC (Rat.divInt (2 * ((c * d) + (a * b))) (nq a b c d))), (jC (Rat.divInt ((((a * a) - (b * b)) - (c * c)) + (d * d)) (nq a b c d)))]
 let y2 := [y12, y11, (jC (Rat.divInt (2 * ((c * d) - (a * b))) (nq a b c d)))]
 let y1 := [y10, (jC (Rat.divInt (2 * ((b * c) - (a * d))) (nq a b c d))), (jC (Rat.divInt (2 * ((b * d) + (a * c))) (nq a b c d)))]
 refine jL Tryz.func132 rfl cb132 rfl ?_
 show uK _ _ _ _ ⟨[(0, (.d (uI (jN.mk a b c d))))], []⟩
 refine jA <| kx [(1, (.ref 0 0))] [(0, some (bx (uI (jN.mk a b c d))))] (zN (uX 0) <| zE (oNl 52 1) <| zM <| zZ) ?_
 refine jA <| kx [(4, (kE (gU a b c d)))] [] (zR (kA yO) <| zE (kC (qs_chk a b c d)) <| zM <| zZ) ?_
 refine jA <| jA <| kx [(19, (vb false))] [] (zM <| zE (qY false mR (by exact bne_eq_false_iff_eq.2 (by rw [show (gU a b c d) = 0 from hq]; rfl))) <| zZ) ?_
 refine kO ?_
 refine jD <| jA <| kx [(5, (vi a))] [] (zE (kU dG) <| zR (uM vW) <| zM <| zZ) ?_
 refine jA <| kx [(6, (vi b))] [] (zE (kU dJ) <| zR (uM vW) <| zM <| zZ) ?_
 refine jA <| kx [(7, (vi c))] [] (zE (kU dK) <| zR (uM vW) <| zM <| zZ) ?_
 refine jA <| kx [(8, (vi d))] [] (zE (kU dF) <| zR (uM vW) <| zM <| zZ) ?_
 refine jA <| kx [(9, (vl 74 1 iC [y6, y7, y8]))] [] (zM <| zM <| zE (nI (a * a) (hr := by exact (qV rfl (by simp only [xM]; omega) (by simp only [xN]; omega)))) <| zM <| zM <| zE (nI (b * b) (hr := by exact (qV rfl (by simp only [xM]; omega) (by simp only [xN]; omega)))) <| zE (zAd ((a * a) + (b * b)) (hr := by exact (qV rfl (by simp only [xM]; omega) (by simp only [xN]; omega)))) <| zM <| zM <| zE (nI (c * c) (hr := by exact (qV rfl (by simp only [xM]; omega) (by simp only [xN]; omega)))) <| zE (aF (((a * a) + (b * b)) - (c * c)) (hr := by exact (qV rfl (by simp only [xM]; omega) (by simp only [xN]; omega)))) <| zM <| zM <| zE (nI (d * d) (hr := by exact (qV rfl (by simp only [xM]; omega) (by simp only [xN]; omega)))) <| zE (aF ((((a * a) + (b * b)) - (c * c)) - (d * d)) (hr := by exact (qV rfl (by simp only [xM]; omega) (by simp only [xN]; omega)))) <| zM <| zM <| zE (nI (b * c) (hr := by exact (qV rfl (by simp only [xM]; omega) (by simp only [xN]; omega)))) <| zM <| zM <| zE (nI (a * d) (hr := by exact (qV rfl (by simp only [xM]; omega) (by simp only [xN]; omega)))) <| zE (aF ((b * c) - (a * d)) (hr := by exact (qV rfl (by simp only [xM]; omega) (by simp only [xN]; omega)))) <| zE (nI (((2 : Nat) : Int) * ((b * c) - (a * d))) (hr := by exact (qV rfl (by simp only [xM]; omega) (by simp only [xN]; omega)))) <| zM <| zM <| zE (nI (b * d) (hr := by exact (qV rfl (by simp only [xM]; omega) (by simp only [xN]; omega)))) <| zM <| zM <| zE (nI (a * c) (hr := by exact (qV rfl (by simp only [xM]; omega) (by simp only [xN]; omega)))) <| zE (zAd ((b * d) + (a * c)) (hr := by exact (qV rfl (by simp only [xM]; omega) (by simp only [xN]; omega)))) <| zE (nI (((2 : Nat) : Int) * ((b * d) + (a * c))) (hr := by exact (qV rfl (by simp only [xM]; omega) (by simp only [xN]; omega)))) <| zE (cP nB ze3 zo3) <| zM <| zM <| zE (nI (b * c) (hr := by exact (qV rfl (by simp only [xM]; omega) (by simp only [xN]; omega)))) <| zM <| zM <| zE (nI (a * d) (hr := by exact (qV rfl (by simp only [xM]; omega) (by simp only [xN]; omega)))) <| zE (zAd ((b * c) + (a * d)) (hr := by exact (qV rfl (by simp only [xM]; omega) (by simp only [xN]; omega)))) <| zE (nI (((2 : Nat) : Int) * ((b * c) + (a * d))) (hr := by exact (qV rfl (by simp only [xM]; omega) (by simp only [xN]; omega)))) <| zM <| zM <| zE (nI (a * a) (hr := by exact (qV rfl (by simp only [xM]; omega) (by simp only [xN]; omega)))) <| zM <| zM <| zE (nI (b * b) (hr := by exact (qV rfl (by simp only [xM]; omega) (by simp only [xN]; omega)))) <| zE (aF ((a * a) - (b * b)) (hr := by exact (qV rfl (by simp only [xM]; omega) (by simp only [xN]; omega)))) <| zM <| zM <| zE (nI (c * c) (hr := by exact (qV rfl (by simp only [xM]; omega) (by simp only [xN]; omega)))) <| zE (zAd (((a * a) - (b * b)) + (c * c)) (hr := by exact (qV rfl (by simp only [xM]; omega) (by simp only [xN]; omega)))) <| zM <| zM <| zE (nI (d * d) (hr := by exact (qV rfl (by simp only [xM]; omega) (by simp only [xN]; omega)))) <| zE (aF ((((a * a) - (b * b)) + (c * c)) - (d * d)) (hr := by exact (qV rfl (by simp only [xM]; omega) (by simp only [xN]; omega)))) <| zM <| zM <| zE (nI (c * d) (hr := by exact (qV rfl (by simp only [xM]; omega) (by simp only [xN]; omega)))) <| zM <| zM <| zE (nI (a * b) (hr := by exact (qV rfl (by simp only [xM]; omega) (by simp only [xN]; omega)))) <| zE (aF ((c * d) - (a * b)) (hr := by exact (qV rfl (by simp only [xM]; omega) (by simp only [xN]; omega)))) <| zE (nI (((2 : Nat) : Int) * ((c * d) - (a * b))) (hr := by exact (qV rfl (by simp only [xM]; omega) (by simp only [xN]; omega)))) <| zE (cP nB ze3 zo3) <| zM <| zM <| zE (nI (b * d) (hr := by exact (qV rfl (by simp only [xM]; omega) (by simp only [xN]; omega)))) <| zM <| zM <| zE (nI (a * c) (hr := by exact (qV rfl (by simp only [xM]; omega) (by simp only [xN]; omega)))) <| zE (aF ((b * d) - (a * c)) (hr := by exact (qV rfl (by simp only [xM]; omega) (by simp only [xN]; omega)))) <| zE (nI (((2 : Nat) : Int) * ((b * d) - (a * c))) (hr := by exact (qV rfl (by simp only [xM]; omega) (by simp only [xN]; omega)))) <| zM <| zM <| zE (nI (c * d) (hr := by exact (qV rfl (by simp only [xM]; omega) (by simp only [xN]; omega)))) <| zM <| zM <| zE (nI (a * b) (hr := by exact (qV rfl (by simp only [xM]; omega) (by simp only [xN]; omega)))) <| zE (zAd ((c * d) + (a * b)) (hr := by exact (qV rfl (by simp only [xM]; omega) (by simp only [xN]; omega)))) <| zE (nI (((2 : Nat) : Int) * ((c * d) + (a * b))) (hr := by exact (qV rfl (by simp only [xM]; omega) (by simp only [xN]; omega)))) <| zM <| zM <| zE (nI (a * a) (hr := by exact (qV rfl (by simp only [xM]; omega) (by simp only [xN]; omega)))) <| zM <| zM <| zE (nI (b * b) (hr := by exact (qV rfl (by simp only [xM]; omega) (by simp only [xN]; omega)))) <| zE (aF ((a * a) - (b * b)) (hr := by exact (qV rfl (by simp only [xM]; omega) (by simp only [xN]; omega)))) <| zM <| zM <| zE (nI (c * c) (hr := by exact (qV rfl (by simp only [xM]; omega) (by simp only [xN]; omega)))) <| zE (aF (((a * a) - (b * b)) - (c * c)) (hr := by exact (qV rfl (by simp only [xM]; omega) (by simp only [xN]; omega)))) <| zM <| zM <| zE (nI (d * d) (hr := by exact (qV rfl (by simp only [xM]; omega) (by simp only [xN]; omega)))) <| zE (zAd ((((a * a) - (b * b)) - (c * c)) + (d * d)) (hr := by exact (qV rfl (by simp only [xM]; omega) (by simp only [xN]; omega)))) <| zE (cP nB ze3 zo3) <| zE (cP el109 ze74 zo74) <| zM <| zZ) ?_
 refine jA <| kx [(10, (.own 1 52 1 0))] [(1, some (bm kP []))] (zN (oBo 1 yM iY zo52) <| zM <| zZ) ?_
 refine jA <| jA <| kx [(11, (kE 0))] [] (zM <| zZ) ?_
 refine jE <| qE 20 ?_
 refine qK <| jA <| jA <| kx [(128, (vb true))] [] (zM <| zE (qY true qS) <| zZ) ?_
 refine kD ?_
 refine jD <| jA <| jE <| jA <| kx [(12, (.own 2 42 4 0))] [(2, some (aH jO []))] (zH (oBo 2 uO qM qR) <| zM <| zZ) ?_
 refine jA <| jA <| kx [(13, (kE 0))] [] (zM <| zZ) ?_
 refine jE <| qE 20 ?_
 refine qK <| jA <| jA <| kx [(133, (vb true))] [] (zM <| zE (qY true qS) <| zZ) ?_
 refine kD ?_
 refine jD <| jA <| jE <| jA <| kX (wk (l := [(1, (.ref 0 0)), (9, (vl 74 1 iC [y6, y7, y8])), (10, (.own 1 52 1 0)), (11, (kE 0)), (12, (.own 2 42 4 0)), (13, (kE 0)), (133, (vb true))]) (b := [(0, some (bx (uI (jN.mk a b c d)))), (1, some (bm kP [])), (2, some (aH jO []))])) ?_
 have bn1 : QL (Rat.divInt ((((a * a) + (b * b)) - (c * c)) - (d * d)) (nq a b c d)) 3 := (qO (n := 3) (jU (by omega) (by omega)) (jU (by omega) (by omega)) (by decide))
 refine kd [(14, (.ref 3 0))] [(3, some (bx (jO y10)))] mo (wM <| wM <| wE (zD el109 0) <| wE (yN sh74) <| wM <| wE (zD nB 0) <| wE (yN vW) <| wR (kA yO) <| wE (kC (fS a b c d (by omega) (by omega) (by omega) (by omega))) <| wE (kC (qs_of ((((a * a) + (b * b)) - (c * c)) - (d * d)) (by omega) (by omega) (nq a b c d) (by omega) (by omega) hn0)) <| wM <| wE uH <| wE uH <| wH (hc := by kernel_rfl) (qH 3 qM qR) <| wT (kR jS) <| wM <| wZ) ?_
 refine kf [(12, (.own 2 42 4 ([y10].length)))] [(2, some (aH jO [y10]))] (zM <| zR (kA jS) <| zE (cP uO qM qR) <| zAS jO [] [y10] rfl uO qM by42 (hbig := by exact (by simp +zetaDelta [maxLen] <;> omega)) (hbig' := by exact (by simp +zetaDelta <;> omega)) <| zM <| zF) ?_
 refine kx [(13, (kE 1))] [] (zM <| zE (qQ 1 (hr := by decide)) <| zM <| zZ) ?_
 refine jJ (jZ.refl _) ?_
 refine jA <| jA <| kx [(133, (vb true))] [] (zM <| zE (qY true qS) <| zZ) ?_
 refine kD ?_
 refine jD <| jA <| jE <| jA ?_
 have bn2 : QL (Rat.divInt (2 * ((b * c) - (a * d))) (nq a b c d)) 3 := (qO (n := 3) (jU (by omega) (by omega)) (jU (by omega) (by omega)) (by decide))
 refine kd [(14, (.ref 4 0))] [(4, some (bx (jO (jC (Rat.divInt (2 * ((b * c) - (a * d))) (nq a b c d))))))] mo (wM <| wM <| wE (zD el109 0) <| wE (yN sh74) <| wM <| wE (zD nB 1) <| wE (yN vW) <| wR (kA yO) <| wE (kC (fS a b c d (by omega) (by omega) (by omega) (by omega))) <| wE (kC (qs_of (((2 : Nat) : Int) * ((b * c) - (a * d))) (by omega) (by omega) (nq a b c d) (by omega) (by omega) hn0)) <| wM <| wE uH <| wE uH <| wH (hc := by kernel_rfl) (qH 4 qM qR) <| wT (kR jS) <| wM <| wZ) ?_
 refine kf [(12, (.own 2 42 4 (y4.length)))] [(2, some (aH jO y4))] (zM <| zR (kA jS) <| zE (cP uO qM qR) <| zAS jO [y10] [(jC (Rat.divInt (2 * ((b * c) - (a * d))) (nq a b c d)))] rfl uO qM by42 (hbig := by exact (by simp +zetaDelta [maxLen] <;> omega)) (hbig' := by exact (by simp +zetaDelta <;> omega)) <| zM <| zF) ?_
 refine kx [(13, (kE 2))] [] (zM <| zE (qQ 2 (hr := by decide)) <| zM <| zZ) ?_
 refine jJ (jZ.refl _) ?_
 refine jA <| jA <| kx [(133, (vb true))] [] (zM <| zE (qY true qS) <| zZ) ?_
 refine kD ?_
 refine jD <| jA <| jE <| jA ?_
 have bn3 : QL (Rat.divInt (2 * ((b * d) + (a * c))) (nq a b c d)) 3 := (qO (n := 3) (jU (by omega) (by omega)) (jU (by omega) (by omega)) (by decide))
 refine kd [(14, (.ref 5 0))] [(5, some (bx (jO (jC (Rat.divInt (2 * ((b * d) + (a * c))) (nq a b c d))))))] mo (wM <| wM <| wE (zD el109 0) <| wE (yN sh74) <| wM <| wE (zD nB 2) <| wE (yN vW) <| wR (kA yO) <| wE (kC (fS a b c d (by omega) (by omega) (by omega) (by omega))) <| wE (kC (qs_of (((2 : Nat) : Int) * ((b * d) + (a * c))) (by omega) (by omega) (nq a b c d) (by omega) (by omega) hn0)) <| wM <| wE uH <| wE uH <| wH (hc := by kernel_rfl) (qH 5 qM qR) <| wT (kR jS) <| wM <| wZ) ?_
 refine kf [(12, (.own 2 42 4 (y1.length)))] [(2, some (aH jO y1))] (zM <| zR (kA jS) <| zE (cP uO qM qR) <| zAS jO y4 [(jC (Rat.divInt (2 * ((b * d) + (a * c))) (nq a b c d)))] rfl uO qM by42 (hbig := by exact (by simp +zetaDelta [maxLen] <;> omega)) (hbig' := by exact (by simp +zetaDelta <;> omega)) <| zM <| zF) ?_
 refine kx [(13, (kE 3))] [] (zM <| zE (qQ 3 (hr := by decide)) <| zM <| zZ) ?_
 refine jJ (jZ.refl _) ?_
 refine jA <| jA <| kx [(133, (vb false))] [] (zM <| zE (qY false qS) <| zZ) ?_
 refine kO ?_
 refine kQ <| kX (xY (t := 12) (k := 2) (es := List.map jO y1) rfl rfl (xZ _ _ (fun _ => rfl)) (xU _ _ rfl) (cI jO y1 (fun _ => rfl) rfl)) ?_
 refine kf [(10, (.own 1 52 1 ([y1].length)))] [(1, some (bm kP [y1]))] (zM <| zM <| zE (cP yM iY zo52) <| zA kP [] [y1] rfl yM iY by52 (hbig := by exact (by simp +zetaDelta [maxLen] <;> omega)) (hbig' := by exact (by simp +zetaDelta <;> omega)) <| zM <| zF) ?_
 refine kx [(11, (kE 1))] [] (zM <| zE (qQ 1 (hr := by decide)) <| zM <| zZ) ?_
 refine jJ (jZ.refl _) ?_
 refine jA <| jA <| kX (wk (l := [(1, (.ref 0 0)), (9, (vl 74 1 iC [y6, y7, y8])), (10, (.own 1 52 1 ([y1].length))), (11, (kE 1))]) (b := [(0, some (bx (uI (jN.mk a b c d)))), (1, some (bm kP [y1]))])) ?_
 refine kx [(128, (vb true))] [] (zM <| zE (qY true qS) <| zZ) ?_
 refine kD ?_
 refine jD <| jA <| jE <| jA <| kx [(12, (.own 6 42 4 0))] [(6, some (aH jO []))] (zH (oBo 6 uO qM qR) <| zM <| zZ) ?_
 refine jA <| jA <| kx [(13, (kE 0))] [] (zM <| zZ) ?_
 refine jE <| qE 20 ?_
 refine qK <| jA <| jA <| kx [(133, (vb true))] [] (zM <| zE (qY true qS) <| zZ) ?_
 refine kD ?_
 refine jD <| jA <| jE <| jA ?_
 have bn4 : QL (Rat.divInt (2 * ((b * c) + (a * d))) (nq a b c d)) 3 := (qO (n := 3) (jU (by omega) (by omega)) (jU (by omega) (by omega)) (by decide))
 refine kd [(14, (.ref 7 0))] [(7, some (bx (jO y12)))] mo (wM <| wM <| wE (zD el109 1) <| wE (yN sh74) <| wM <| wE (zD nB 0) <| wE (yN vW) <| wR (kA yO) <| wE (kC (fS a b c d (by omega) (by omega) (by omega) (by omega))) <| wE (kC (qs_of (((2 : Nat) : Int) * ((b * c) + (a * d))) (by omega) (by omega) (nq a b c d) (by omega) (by omega) hn0)) <| wM <| wE uH <| wE uH <| wH (hc := by kernel_rfl) (qH 7 qM qR) <| wT (kR jS) <| wM <| wZ) ?_
 refine kf [(12, (.own 6 42 4 ([y12].length)))] [(6, some (aH jO [y12]))] (zM <| zR (kA jS) <| zE (cP uO qM qR) <| zAS jO [] [y12] rfl uO qM by42 (hbig := by exact (by simp +zetaDelta [maxLen] <;> omega)) (hbig' := by exact (by simp +zetaDelta <;> omega)) <| zM <| zF) ?_
 refine kx [(13, (kE 1))] [] (zM <| zE (qQ 1 (hr := by decide)) <| zM <| zZ) ?_
 refine jJ (jZ.refl _) ?_
 refine jA <| jA <| kx [(133, (vb true))] [] (zM <| zE (qY true qS) <| zZ) ?_
 refine kD ?_
 refine jD <| jA <| jE <| jA ?_
 have bn5 : QL (Rat.divInt ((((a * a) - (b * b)) + (c * c)) - (d * d)) (nq a b c d)) 3 := (qO (n := 3) (jU (by omega) (by omega)) (jU (by omega) (by omega)) (by decide))
 refine kd [(14, (.ref 8 0))] [(8, some (bx (jO y11)))] mo (wM <| wM <| wE (zD el109 1) <| wE (yN sh74) <| wM <| wE (zD nB 1) <| wE (yN vW) <| wR (kA yO) <| wE (kC (fS a b c d (by omega) (by omega) (by omega) (by omega))) <| wE (kC (qs_of ((((a * a) - (b * b)) + (c * c)) - (d * d)) (by omega) (by omega) (nq a b c d) (by omega) (by omega) hn0)) <| wM <| wE uH <| wE uH <| wH (hc := by kernel_rfl) (qH 8 qM qR) <| wT (kR jS) <| wM <| wZ) ?_
 refine kf [(12, (.own 6 42 4 (y5.length)))] [(6, some (aH jO y5))] (zM <| zR (kA jS) <| zE (cP uO qM qR) <| zAS jO [y12] [y11] rfl uO qM by42 (hbig := by exact (by simp +zetaDelta [maxLen] <;> omega)) (hbig' := by exact (by simp +zetaDelta <;> omega)) <| zM <| zF) ?_
 refine kx [(13, (kE 2))] [] (zM <| zE (qQ 2 (hr := by decide)) <| zM <| zZ) ?_
 refine jJ (jZ.refl _) ?_
 refine jA <| jA <| kx [(133, (vb true))] [] (zM <| zE (qY true qS) <| zZ) ?_
 refine kD ?_
 refine jD <| jA <| jE <| jA ?_
 have bn6 : QL (Rat.divInt (2 * ((c * d) - (a * b))) (nq a b c d)) 3 := (qO (n := 3) (jU (by omega) (by omega)) (jU (by omega) (by omega)) (by decide))
 refine kd [(14, (.ref 9 0))] [(9, some (bx (jO (jC (Rat.divInt (2 * ((c * d) - (a * b))) (nq a b c d))))))] mo (wM <| wM <| wE (zD el109 1) <| wE (yN sh74) <| wM <| wE (zD nB 2) <| wE (yN vW) <| wR (kA yO) <| wE (kC (fS a b c d (by omega) (by omega) (by omega) (by omega))) <| wE (kC (qs_of (((2 : Nat) : Int) * ((c * d) - (a * b))) (by omega) (by omega) (nq a b c d) (by omega) (by omega) hn0)) <| wM <| wE uH <| wE uH <| wH (hc := by kernel_rfl) (qH 9 qM qR) <| wT (kR jS) <| wM <| wZ) ?_
 refine kf [(12, (.own 6 42 4 (y2.length)))] [(6, some (aH jO y2))] (zM <| zR (kA jS) <| zE (cP uO qM qR) <| zAS jO y5 [(jC (Rat.divInt (2 * ((c * d) - (a * b))) (nq a b c d)))] rfl uO qM by42 (hbig := by exact (by simp +zetaDelta [maxLen] <;> omega)) (hbig' := by exact (by simp +zetaDelta <;> omega)) <| zM <| zF) ?_
 refine kX (wk (l := [(1, (.ref 0 0)), (9, (vl 74 1 iC [y6, y7, y8])), (10, (.own 1 52 1 ([y1].length))), (11, (kE 1)), (12, (.own 6 42 4 (y2.length))), (13, (kE 2))]) (b := [(0, some (bx (uI (jN.mk a b c d)))), (1, some (bm kP [y1])), (6, some (aH jO y2))])) ?_
 refine kx [(13, (kE 3))] [] (zM <| zE (qQ 3 (hr := by decide)) <| zM <| zZ) ?_
 refine jJ (jZ.refl _) ?_
 refine jA <| jA <| kx [(133, (vb false))] [] (zM <| zE (qY false qS) <| zZ) ?_
 refine kO ?_
 refine kQ <| kX (xY (t := 12) (k := 6) (es := List.map jO y2) rfl rfl (xZ _ _ (fun _ => rfl)) (xU _ _ rfl) (cI jO y2 (fun _ => rfl) rfl)) ?_
 refine kf [(10, (.own 1 52 1 ([y1, y2].length)))] [(1, some (bm kP [y1, y2]))] (zM <| zM <| zE (cP yM iY zo52) <| zA kP [y1] [y2] rfl yM iY by52 (hbig := by exact (by simp +zetaDelta [maxLen] <;> omega)) (hbig' := by exact (by simp +zetaDelta <;> omega)) <| zM <| zF) ?_
 refine kx [(11, (kE 2))] [] (zM <| zE (qQ 2 (hr := by decide)) <| zM <| zZ) ?_
 refine jJ (jZ.refl _) ?_
 refine jA <| jA <| kx [(128, (vb true))] [] (zM <| zE (qY true qS) <| zZ) ?_
 refine kD ?_
 refine jD <| jA <| jE <| jA <| kx [(12, (.own 10 42 4 0))] [(10, some (aH jO []))] (zH (oBo 10 uO qM qR) <| zM <| zZ) ?_
 refine jA <| jA <| kx [(13, (kE 0))] [] (zM <| zZ) ?_
 refine jE <| qE 20 ?_
 refine qK <| jA <| jA <| kx [(133, (vb true))] [] (zM <| zE (qY true qS) <| zZ) ?_
 refine kD ?_
 refine jD <| jA <| jE <| jA ?_
 have bn7 : QL (Rat.divInt (2 * ((b * d) - (a * c))) (nq a b c d)) 3 := (qO (n := 3) (jU (by omega) (by omega)) (jU (by omega) (by omega)) (by decide))
 refine kd [(14, (.ref 11 0))] [(11, some (bx (jO y13)))] mo (wM <| wM <| wE (zD el109 2) <| wE (yN sh74) <| wM <| wE (zD nB 0) <| wE (yN vW) <| wR (kA yO) <| wE (kC (fS a b c d (by omega) (by omega) (by omega) (by omega))) <| wE (kC (qs_of (((2 : Nat) : Int) * ((b * d) - (a * c))) (by omega) (by omega) (nq a b c d) (by omega) (by omega) hn0)) <| wM <| wE uH <| wE uH <| wH (hc := by kernel_rfl) (qH 11 qM qR) <| wT (kR jS) <| wM <| wZ) ?_
 refine kf [(12, (.own 10 42 4 ([y13].length)))] [(10, some (aH jO [y13]))] (zM <| zR (kA jS) <| zE (cP uO qM qR) <| zAS jO [] [y13] rfl uO qM by42 (hbig := by exact (by simp +zetaDelta [maxLen] <;> omega)) (hbig' := by exact (by simp +zetaDelta <;> omega)) <| zM <| zF) ?_
 refine kx [(13, (kE 1))] [] (zM <| zE (qQ 1 (hr := by decide)) <| zM <| zZ) ?_
 refine jJ (jZ.refl _) ?_
 refine jA <| jA <| kx [(133, (vb true))] [] (zM <| zE (qY true qS) <| zZ) ?_
 refine kD ?_
 refine jD <| jA <| jE <| jA ?_
 have bn8 : QL (Rat.divInt (2 * ((c * d) + (a * b))) (nq a b c d)) 3 := (qO (n := 3) (jU (by omega) (by omega)) (jU (by omega) (by omega)) (by decide))
 refine kd [(14, (.ref 12 0))] [(12, some (bx (jO (jC (Rat.divInt (2 * ((c * d) + (a * b))) (nq a b c d))))))] mo (wM <| wM <| wE (zD el109 2) <| wE (yN sh74) <| wM <| wE (zD nB 1) <| wE (yN vW) <| wR (kA yO) <| wE (kC (fS a b c d (by omega) (by omega) (by omega) (by omega))) <| wE (kC (qs_of (((2 : Nat) : Int) * ((c * d) + (a * b))) (by omega) (by omega) (nq a b c d) (by omega) (by omega) hn0)) <| wM <| wE uH <| wE uH <| wH (hc := by kernel_rfl) (qH 12 qM qR) <| wT (kR jS) <| wM <| wZ) ?_
 refine kf [(12, (.own 10 42 4 (y9.length)))] [(10, some (aH jO y9))] (zM <| zR (kA jS) <| zE (cP uO qM qR) <| zAS jO [y13] [(jC (Rat.divInt (2 * ((c * d) + (a * b))) (nq a b c d)))] rfl uO qM by42 (hbig := by exact (by simp +zetaDelta [maxLen] <;> omega)) (hbig' := by exact (by simp +zetaDelta <;> omega)) <| zM <| zF) ?_
 refine kX (wk (l := [(1, (.ref 0 0)), (9, (vl 74 1 iC [y6, y7, y8])), (10, (.own 1 52 1 ([y1, y2].length))), (11, (kE 2)), (12, (.own 10 42 4 (y9.length))), (13, (kE 1))]) (b := [(0, some (bx (uI (jN.mk a b c d)))), (1, some (bm kP [y1, y2])), (10, some (aH jO y9))])) ?_
 refine kx [(13, (kE 2))] [] (zM <| zE (qQ 2 (hr := by decide)) <| zM <| zZ) ?_
 refine jJ (jZ.refl _) ?_
 refine jA <| jA <| kx [(133, (vb true))] [] (zM <| zE (qY true qS) <| zZ) ?_
 refine kD ?_
 refine jD <| jA <| jE <| jA ?_
 have bn9 : QL (Rat.divInt ((((a * a) - (b * b)) - (c * c)) + (d * d)) (nq a b c d)) 3 := (qO (n := 3) (jU (by omega) (by omega)) (jU (by omega) (by omega)) (by decide))
 refine kd [(14, (.ref 13 0))] [(13, some (bx (jO (jC (Rat.divInt ((((a * a) - (b * b)) - (c * c)) + (d * d)) (nq a b c d))))))] mo (wM <| wM <| wE (zD el109 2) <| wE (yN sh74) <| wM <| wE (zD nB 2) <| wE (yN vW) <| wR (kA yO) <| wE (kC (fS a b c d (by omega) (by omega) (by omega) (by omega))) <| wE (kC (qs_of ((((a * a) - (b * b)) - (c * c)) + (d * d)) (by omega) (by omega) (nq a b c d) (by omega) (by omega) hn0)) <| wM <| wE uH <| wE uH <| wH (hc := by kernel_rfl) (qH 13 qM qR) <| wT (kR jS) <| wM <| wZ) ?_
 refine kf [(12, (.own 10 42 4 (y3.length)))] [(10, some (aH jO y3))] (zM <| zR (kA jS) <| zE (cP uO qM qR) <| zAS jO y9 [(jC (Rat.divInt ((((a * a) - (b * b)) - (c * c)) + (d * d)) (nq a b c d)))] rfl uO qM by42 (hbig := by exact (by simp +zetaDelta [maxLen] <;> omega)) (hbig' := by exact (by simp +zetaDelta <;> omega)) <| zM <| zF) ?_
 refine kx [(13, (kE 3))] [] (zM <| zE (qQ 3 (hr := by decide)) <| zM <| zZ) ?_
 refine jJ (jZ.refl _) ?_
 refine jA <| jA <| kx [(133, (vb false))] [] (zM <| zE (qY false qS) <| zZ) ?_
 refine kO ?_
 refine kQ <| kX (xY (t := 12) (k := 10) (es := List.map jO y3) rfl rfl (xZ _ _ (fun _ => rfl)) (xU _ _ rfl) (cI jO y3 (fun _ => rfl) rfl)) ?_
 refine kf [(10, (.own 1 52 1 ([y1, y2, y3].length)))] [(1, some (bm kP [y1, y2, y3]))] (zM <| zM <| zE (cP yM iY zo52) <| zA kP [y1, y2] [y3] rfl yM iY by52 (hbig := by exact (by simp +zetaDelta [maxLen] <;> omega)) (hbig' := by exact (by simp +zetaDelta <;> omega)) <| zM <| zF) ?_
 refine kx [(11, (kE 3))] [] (zM <| zE (qQ 3 (hr := by decide)) <| zM <| zZ) ?_
 refine jJ (jZ.refl _) ?_
 refine jA <| jA <| kx [(128, (vb false))] [] (zM <| zE (qY false qS) <| zZ) ?_
 refine kO ?_
 refine kQ <| jA <| kX (xY (t := 10) (k := 1) (es := List.map kP [y1, y2, y3]) rfl rfl (xV _ _ (fun _ => rfl)) (xU _ _ rfl) (yF _ _ (fun _ => rfl) rfl)) ?_
 refine kx [(2, (vl 52 1 kP [y1, y2, y3])), (3, (kE 0))] [] (zM <| zM <| zM <| zZ) ?_
 refine jG ⟨_, (.tmp (d := (.sl 52 1 (List.map kP [[(jC (Rat.divInt ((((a * a) + (b * b)) - (c * c)) - (d * d)) (nq a b c d))), (jC (Rat.divInt (2 * ((b * c) - (a * d))) (nq a b c d))), (jC (Rat.divInt (2 * ((b * d) + (a * c))) (nq a b c d)))], [(jC (Rat.divInt (2 * ((b * c) + (a * d))) (nq a b c d))), (jC (Rat.divInt ((((a * a) - (b * b)) + (c * c)) - (d * d)) (nq a b c d))), (jC (Rat.divInt (2 * ((c * d) - (a * b))) (nq a b c d)))], [(jC (Rat.divInt (2 * ((b * d) - (a * c))) (nq a b c d))), (jC (Rat.divInt (2 * ((c * d) + (a * b))) (nq a b c d))), (jC (Rat.divInt ((((a * a) - (b * b)) - (c * c)) + (d * d)) (nq a b c d)))]]))) rfl (.tmp (d := (.val (.int .i64 (((0 : Nat) : Int))))) rfl .nil)), ?_⟩
 rfl
end Go.Proofs.YtbecgnplakngdaaGreat
