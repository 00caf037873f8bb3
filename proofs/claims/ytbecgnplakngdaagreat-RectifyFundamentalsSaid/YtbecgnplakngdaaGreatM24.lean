/- Part 24 of a proof: rules, plain facts, and functions walked. -/
import Derived.Test.YtbecgnplakngdaaGreatM23
namespace Go.Proofs.YtbecgnplakngdaaGreat
open Go.Fid
set_option maxRecDepth 4000
set_option linter.unusedVariables false
set_option linter.unusedSimpArgs false
theorem ar203 : eZ Tryz.prog 203 = some (3, 3, 1) := by kernel_rfl
theorem ar204 : eZ Tryz.prog 204 = some (3, 203, 3) := by kernel_rfl
theorem cR : cQ Tryz.prog 42 = some 64 := by kernel_rfl
theorem by52 : cQ Tryz.prog 52 = some 24 := by kernel_rfl
theorem cb124 : callB Tryz.prog 124 = true := by kernel_rfl
theorem cb129 : callB Tryz.prog 129 = true := by kernel_rfl
theorem cb132 : callB Tryz.prog 132 = true := by kernel_rfl
theorem kZ : zD Tryz.prog 34 = some (52, 1) := by kernel_rfl
theorem el109 : zD Tryz.prog 109 = some (74, 1) := by kernel_rfl
theorem sh74 : qY Tryz.prog 74 = some (false, 1) := by kernel_rfl
theorem sh203 : qY Tryz.prog 203 = some (true, 3) := by kernel_rfl
theorem sh204 : qY Tryz.prog 204 = some (true, 9) := by kernel_rfl
theorem gP : xJ Tryz.prog 52 = some [.slice none 0 0] := by kernel_rfl
theorem ze74 : xJ Tryz.prog 74 = some [.slice none 0 0] := by kernel_rfl
theorem ze203 : xJ Tryz.prog 203 = some [.int .i64 0, .int .i64 0, .int .i64 0] := by kernel_rfl
theorem ze204 : xJ Tryz.prog 204 = some [.int .i64 0, .int .i64 0, .int .i64 0, .int .i64 0, .int .i64 0, .int .i64 0, .int .i64 0, .int .i64 0, .int .i64 0] := by kernel_rfl
theorem eC : dB [.slice none 0 0] [.sl 42 4 []] := by simp [dB, Value.oneCell']
theorem zo74 : dB [.slice none 0 0] [.sl 3 1 []] := by simp [dB, Value.oneCell']
theorem zo203 : dB [.int .i64 0, .int .i64 0, .int .i64 0] [.val (.int .i64 0), .val (.int .i64 0), .val (.int .i64 0)] := by simp [dB, Value.oneCell']
theorem zo204 : dB [.int .i64 0, .int .i64 0, .int .i64 0, .int .i64 0, .int .i64 0, .int .i64 0, .int .i64 0, .int .i64 0, .int .i64 0] [.val (.int .i64 0), .val (.int .i64 0), .val (.int .i64 0), .val (.int .i64 0), .val (.int .i64 0), .val (.int .i64 0), .val (.int .i64 0), .val (.int .i64 0), .val (.int .i64 0)] := by simp [dB, Value.oneCell']
theorem q_of (n : Int) (hnl : -9223372036854775808 ≤ n) (hnh : n ≤ 9223372036854775807) (d : Int) (hdl : -9223372036854775808 ≤ d) (hdh : d ≤ 9223372036854775807) (hd : d ≠ 0) : kH Tryz.prog 124 [(.val (.int .i64 (n))), (.val (.int .i64 (d)))] (.tup [(jM (jB (Rat.divInt n d))), (.val (.int .i64 (0)))]) := by
 refine jP Tryz.func124 rfl cb124 rfl ?_
 show uK _ _ _ _ ⟨[(0, (vi n)), (1, (vi d))], []⟩
 refine jA <| kx [(4, (.ref 0 0))] [(0, some (bx (jM (kC.mk (jK.mk false []) (jK.mk false [])))))] (zN (qW 0 qA qH) <| zM <| zZ) ?_
 refine jA <| kx [(5, (vi 0))] [(0, some (bx (jM (jB (Rat.divInt n d)))))] (zM <| zE (kA (t_of n (by omega) (by omega))) <| zM <| zE (kA (t_of d (by omega) (by omega))) <| zE (kA (f_newO (kT n) n (nS (iok_int (z := n) (by omega) (by omega)) (by decide)) (kT d) d (nS (iok_int (z := d) (by omega) (by omega)) (by decide)) hd)) <| zE uZ <| zE uZ <| zT (kW jO) <| zM <| zZ) ?_
 refine jJ ⟨_, (qC (cs := (bx (jM (jB (Rat.divInt n d))))) (d := (jM (jB (Rat.divInt n d)))) rfl rfl jO rfl rfl (.tmp (d := (.val (.int .i64 (0)))) rfl .nil)), ?_⟩
 rfl
theorem qs_of (n : Int) (hnl : -9223372036854775808 ≤ n) (hnh : n ≤ 9223372036854775807) (d : Int) (hdl : -9223372036854775808 ≤ d) (hdh : d ≤ 9223372036854775807) (hd : d ≠ 0) : kH Tryz.prog 63 [(.val (.int .i64 (n))), (.val (.int .i64 (d)))] (.tup [(jM (jB (Rat.divInt n d))), (.val (.int .i64 (0)))]) := by
 refine jP Tryz.func63 rfl cb63 rfl ?_
 show uK _ _ _ _ ⟨[(0, (vi n)), (1, (vi d))], []⟩
 refine jA <| kx [(4, (.ref 0 0))] [(0, some (bx (jM (kC.mk (jK.mk false []) (jK.mk false [])))))] (zN (qW 0 qA qH) <| zM <| zZ) ?_
 refine jA <| kx [(5, (vi 0))] [(0, some (bx (jM (jB (Rat.divInt n d)))))] (zM <| zE (kA (g_whole1 n (by omega) (by omega))) <| zM <| zE (kA (g_whole1 d (by omega) (by omega))) <| zE (kA (g_newO (kT n) n (nS (iok_int (z := n) (by omega) (by omega)) (by decide)) (kT d) d (nS (iok_int (z := d) (by omega) (by omega)) (by decide)) hd)) <| zE uZ <| zE uZ <| zT (kW jO) <| zM <| zZ) ?_
 refine jJ ⟨_, (qC (cs := (bx (jM (jB (Rat.divInt n d))))) (d := (jM (jB (Rat.divInt n d)))) rfl rfl jO rfl rfl (.tmp (d := (.val (.int .i64 (0)))) rfl .nil)), ?_⟩
 rfl
theorem q_rmat (a b c d : Int) (ha : -1048576 ≤ a ∧ a ≤ 1048576) (hb : -1048576 ≤ b ∧ b ≤ 1048576) (hc : -1048576 ≤ c ∧ c ≤ 1048576) (hd : -1048576 ≤ d ∧ d ≤ 1048576) (hq : gX a b c d = 0) (hn0 : nq a b c d ≠ 0) : kH Tryz.prog 129 [(qX (jU.mk a b c d))] (.tup [(.sl 52 1 (List.map jN [[(jB (Q00 a b c d)), (jB (Q01 a b c d)), (jB (Q02 a b c d))], [(jB (Q10 a b c d)), (jB (Q11 a b c d)), (jB (Q12 a b c d))], [(jB (Q20 a b c d)), (jB (Q21 a b c d)), (jB (Q22 a b c d))]])), (.val (.int .i64 (0)))]) := by
 have saa := vB ha ha
 have sab := vB ha hb
 have sac := vB ha hc
 have sad := vB ha hd
 have sbb := vB hb hb
 have sbc := vB hb hc
 have sbd := vB hb hd
 have scc := vB hc hc
 have scd := vB hc hd
 have sdd := vB hd hd
 have hnq := nU ha hb hc hd
 let y13 := (jB (Rat.divInt (2 * ((c * d) + (a * b))) (nq a b c d)))
 let y12 := (jB (Rat.divInt (2 * ((b * d) - (a * c))) (nq a b c d)))
 let y11 := (jB (Rat.divInt (2 * ((c * d) - (a * b))) (nq a b c d)))
 let y10 := (jB (Rat.divInt (2 * ((b * c) + (a * d))) (nq a b c d)))
 let y9 := (jB (Rat.divInt (2 * ((b * d) + (a * c))) (nq a b c d)))
 let y8 := (jB (Rat.divInt (2 * ((b * c) - (a * d))) (nq a b c d)))
 let y7 := (jB (Rat.divInt ((((a * a) - (b * b)) - (c * c)) + (d * d)) (nq a b c d)))
 let y6 := (jB (Rat.divInt ((((a * a) - (b * b)) + (c * c)) - (d * d)) (nq a b c d)))
 let y5 := (jB (Rat.divInt ((((a * a) + (b * b)) - (c * c)) - (d * d)) (nq a b c d)))
 let y4 := (encA203 (A3.mk (((2 : Nat) : Int) * ((b * d) - (a * c))) (((2 : Nat) : Int) * ((c * d) + (a * b))) ((((a * a) - (b * b)) - (c * c)) + (d * d))))
 let y3 := (encA203 (A3.mk (((2 : Nat) : Int) * ((b * c) + (a * d))) ((((a * a) - (b * b)) + (c * c)) - (d * d)) (((2 : Nat) : Int) * ((c * d) - (a * b)))))
 let y2 := (encA203 (A3.mk ((((a * a) + (b * b)) - (c * c)) - (d * d)) (((2 : Nat) : Int) * ((b * c) - (a * d))) (((2 : Nat) : Int) * ((b * d) + (a * c)))))
 let y1 := (encA204 (A3.mk (A3.mk ((((a * a) + (b * b)) - (c * c)) - (d * d)) (((2 : Nat) : Int) * ((b * c) - (a * d))) (((2 : Nat) : Int) * ((b * d) + (a * c)))) (A3.mk (((2 : Nat) : Int) * ((b * c) + (a * d))) ((((a * a) - (b * b)) + (c * c)) - (d * d)) (((2 : Nat) : Int) * ((c * d) - (a * b)))) (A3.mk (((2 : Nat) : Int) * ((b * d) - (a * c))) (((2 : Nat) : Int) * ((c * d) + (a * b))) ((((a * a) - (b * b)) - (c * c)) + (d * d)))))
 refine jP Tryz.func129 rfl cb129 rfl ?_
 show uK _ _ _ _ ⟨[(0, (.d (qX (jU.mk a b c d))))], []⟩
 refine jA <| kx [(1, (.ref 0 0))] [(0, some (bx (qX (jU.mk a b c d))))] (zN (vS 0) <| zE (oNl 52 1) <| zM <| zZ) ?_
 refine jA <| jA <| kx [(4, (kD (gX a b c d)))] [] (zR (kF yF) <| zE (kA (q_chk a b c d)) <| zM <| zZ) ?_
 refine jA <| kx [(21, (vb false))] [] (zM <| zE (qL false mE (by exact bne_eq_false_iff_eq.2 (by rw [show (gX a b c d) = 0 from hq]; rfl))) <| zZ) ?_
 refine kG ?_
 refine jE <| jA <| kd [(5, (vi a)), (6, (vi b)), (7, (vi c)), (8, (vi d))] [] mo (wE (kS eI) <| wR (uF uQ) <| wE (kS eG) <| wR (uF uQ) <| wE (kS eH) <| wR (uF uQ) <| wE (kS eL) <| wR (uF uQ) <| wM <| wM <| wM <| wM <| wZ) ?_
 refine jA <| kx [(9, (.ref 1 0))] [(1, some (bx y1))] (zM <| zM <| zE (mC (a * a) (hr := by exact (qK rfl (by simp only [xC]; omega) (by simp only [xF]; omega)))) <| zM <| zM <| zE (mC (b * b) (hr := by exact (qK rfl (by simp only [xC]; omega) (by simp only [xF]; omega)))) <| zE (zAd ((a * a) + (b * b)) (hr := by exact (qK rfl (by simp only [xC]; omega) (by simp only [xF]; omega)))) <| zM <| zM <| zE (mC (c * c) (hr := by exact (qK rfl (by simp only [xC]; omega) (by simp only [xF]; omega)))) <| zE (fT (((a * a) + (b * b)) - (c * c)) (hr := by exact (qK rfl (by simp only [xC]; omega) (by simp only [xF]; omega)))) <| zM <| zM <| zE (mC (d * d) (hr := by exact (qK rfl (by simp only [xC]; omega) (by simp only [xF]; omega)))) <| zE (fT ((((a * a) + (b * b)) - (c * c)) - (d * d)) (hr := by exact (qK rfl (by simp only [xC]; omega) (by simp only [xF]; omega)))) <| zM <| zM <| zE (mC (b * c) (hr := by exact (qK rfl (by simp only [xC]; omega) (by simp only [xF]; omega)))) <| zM <| zM <| zE (mC (a * d) (hr := by exact (qK rfl (by simp only [xC]; omega) (by simp only [xF]; omega)))) <| zE (fT ((b * c) - (a * d)) (hr := by exact (qK rfl (by simp only [xC]; omega) (by simp only [xF]; omega)))) <| zE (mC (((2 : Nat) : Int) * ((b * c) - (a * d))) (hr := by exact (qK rfl (by simp only [xC]; omega) (by simp only [xF]; omega)))) <| zM <| zM <| zE (mC (b * d) (hr := by exact (qK rfl (by simp only [xC]; omega) (by simp only [xF]; omega)))) <| zM <| zM <| zE (mC (a * c) (hr := by exact (qK rfl (by simp only [xC]; omega) (by simp only [xF]; omega)))) <| zE (zAd ((b * d) + (a * c)) (hr := by exact (qK rfl (by simp only [xC]; omega) (by simp only [xF]; omega)))) <| zE (mC (((2 : Nat) : Int) * ((b * d) + (a * c))) (hr := by exact (qK rfl (by simp only [xC]; omega) (by simp only [xF]; omega)))) <| zE (oBf ar203 ze203 zo203) <| zM <| zM <| zE (mC (b * c) (hr := by exact (qK rfl (by simp only [xC]; omega) (by simp only [xF]; omega)))) <| zM <| zM <| zE (mC (a * d) (hr := by exact (qK rfl (by simp only [xC]; omega) (by simp only [xF]; omega)))) <| zE (zAd ((b * c) + (a * d)) (hr := by exact (qK rfl (by simp only [xC]; omega) (by simp only [xF]; omega)))) <| zE (mC (((2 : Nat) : Int) * ((b * c) + (a * d))) (hr := by exact (qK rfl (by simp only [xC]; omega) (by simp only [xF]; omega)))) <| zM <| zM <| zE (mC (a * a) (hr := by exact (qK rfl (by simp only [xC]; omega) (by simp only [xF]; omega)))) <| zM <| zM <| zE (mC (b * b) (hr := by exact (qK rfl (by simp only [xC]; omega) (by simp only [xF]; omega)))) <| zE (fT ((a * a) - (b * b)) (hr := by exact (qK rfl (by simp only [xC]; omega) (by simp only [xF]; omega)))) <| zM <| zM <| zE (mC (c * c) (hr := by exact (qK rfl (by simp only [xC]; omega) (by simp only [xF]; omega)))) <| zE (zAd (((a * a) - (b * b)) + (c * c)) (hr := by exact (qK rfl (by simp only [xC]; omega) (by simp only [xF]; omega)))) <| zM <| zM <| zE (mC (d * d) (hr := by exact (qK rfl (by simp only [xC]; omega) (by simp only [xF]; omega)))) <| zE (fT ((((a * a) - (b * b)) + (c * c)) - (d * d)) (hr := by exact (qK rfl (by simp only [xC]; omega) (by simp only [xF]; omega)))) <| zM <| zM <| zE (mC (c * d) (hr := by exact (qK rfl (by simp only [xC]; omega) (by simp only [xF]; omega)))) <| zM <| zM <| zE (mC (a * b) (hr := by exact (qK rfl (by simp only [xC]; omega) (by simp only [xF]; omega)))) <| zE (fT ((c * d) - (a * b)) (hr := by exact (qK rfl (by simp only [xC]; omega) (by simp only [xF]; omega)))) <| zE (mC (((2 : Nat) : Int) * ((c * d) - (a * b))) (hr := by exact (qK rfl (by simp only [xC]; omega) (by simp only [xF]; omega)))) <| zE (oBf ar203 ze203 zo203) <| zM <| zM <| zE (mC (b * d) (hr := by exact (qK rfl (by simp only [xC]; omega) (by simp only [xF]; omega)))) <| zM <| zM <| zE (mC (a * c) (hr := by exact (qK rfl (by simp only [xC]; omega) (by simp only [xF]; omega)))) <| zE (fT ((b * d) - (a * c)) (hr := by exact (qK rfl (by simp only [xC]; omega) (by simp only [xF]; omega)))) <| zE (mC (((2 : Nat) : Int) * ((b * d) - (a * c))) (hr := by exact (qK rfl (by simp only [xC]; omega) (by simp only [xF]; omega)))) <| zM <| zM <| zE (mC (c * d) (hr := by exact (qK rfl (by simp only [xC]; omega) (by simp only [xF]; omega)))) <| zM <| zM <| zE (mC (a * b) (hr := by exact (qK rfl (by simp only [xC]; omega) (by simp only [xF]; omega)))) <| zE (zAd ((c * d) + (a * b)) (hr := by exact (qK rfl (by simp only [xC]; omega) (by simp only [xF]; omega)))) <| zE (mC (((2 : Nat) : Int) * ((c * d) + (a * b))) (hr := by exact (qK rfl (by simp only [xC]; omega) (by simp only [xF]; omega)))) <| zM <| zM <| zE (mC (a * a) (hr := by exact (qK rfl (by simp only [xC]; omega) (by simp only [xF]; omega)))) <| zM <| zM <| zE (mC (b * b) (hr := by exact (qK rfl (by simp only [xC]; omega) (by simp only [xF]; omega)))) <| zE (fT ((a * a) - (b * b)) (hr := by exact (qK rfl (by simp only [xC]; omega) (by simp only [xF]; omega)))) <| zM <| zM <| zE (mC (c * c) (hr := by exact (qK rfl (by simp only [xC]; omega) (by simp only [xF]; omega)))) <| zE (fT (((a * a) - (b * b)) - (c * c)) (hr := by exact (qK rfl (by simp only [xC]; omega) (by simp only [xF]; omega)))) <| zM <| zM <| zE (mC (d * d) (hr := by exact (qK rfl (by simp only [xC]; omega) (by simp only [xF]; omega)))) <| zE (zAd ((((a * a) - (b * b)) - (c * c)) + (d * d)) (hr := by exact (qK rfl (by simp only [xC]; omega) (by simp only [xF]; omega)))) <| zE (oBf ar203 ze203 zo203) <| zE (oBf ar204 ze204 zo204) <| zN (qW 1 ze204 zo204) <| zT (kW sh204) <| zZ) ?_
 refine jA <| kx [(10, (.own 2 52 1 0))] [(2, some (bm jN []))] (zO 2 52 1 <| zZ) ?_
 refine jA <| jA <| kx [(128, (.d y1)), (129, (kD 0))] [] (zR (kF sh204) <| zM <| zZ) ?_
 refine jF <| kN 20 ?_
 refine kU <| jA <| kx [(130, (vb true))] [] (zE (qL true qI) <| zZ) ?_
 refine jA <| jS ?_
 refine jE <| jA <| jF <| jA <| kx [(12, (.ref 3 0))] [(3, some (bx y2))] (zE (oXa ar204 sh203 (fun h => by cases h) 0) <| zH (qW 3 ze203 zo203) <| zT (kW sh203) <| zZ) ?_
 refine jA <| kx [(13, (.own 4 42 4 0))] [(4, some (cH jM []))] (zO 4 42 4 <| zZ) ?_
 refine jA <| jA <| kx [(132, (.d y2)), (133, (kD 0))] [] (zR (kF sh203) <| zM <| zZ) ?_
 refine jF <| kN 20 ?_
 refine kU <| jA <| kx [(134, (vb true))] [] (zE (qL true qI) <| zZ) ?_
 refine jA <| jS ?_
 refine jE <| jA <| jF <| jA <| kx [(15, (vi ((((a * a) + (b * b)) - (c * c)) - (d * d))))] [] (zE (oXa ar203 uQ (fun _ => rfl) 0) <| zM <| zZ) ?_
 refine jA ?_
 have bn1 : QL (Rat.divInt ((((a * a) + (b * b)) - (c * c)) - (d * d)) (nq a b c d)) 3 := (qR (n := 3) (jQ (by omega) (by omega)) (jQ (by omega) (by omega)) (by decide))
 refine kx [(16, (.ref 5 0))] [(5, some (bx (jM y5)))] (zM <| zR (kF yF) <| zE (kA (fU a b c d (by omega) (by omega) (by omega) (by omega))) <| zE (kA (q_of ((((a * a) + (b * b)) - (c * c)) - (d * d)) (by omega) (by omega) (nq a b c d) (by omega) (by omega) hn0)) <| zM <| zE uZ <| zE uZ <| zH (qW 5 qA qH) <| zT (kW jO) <| zM <| zZ) ?_
 refine kJ (wk (l := [(1, (.ref 0 0)), (10, (.own 2 52 1 0)), (13, (.own 4 42 4 0)), (16, (.ref 5 0)), (128, (.d y1)), (129, (kD 0)), (132, (.d y2)), (133, (kD 0))]) (b := [(0, some (bx (qX (jU.mk a b c d)))), (2, some (bm jN [])), (4, some (cH jM [])), (5, some (bx (jM y5)))])) ?_
 refine kf [(13, (.own 4 42 4 (([] ++ [y5]).length)))] [(4, some (cH jM ([] ++ [y5])))] (zM <| zR (kF jO) <| zE (nO qF qA qH) <| zAS jM [] [y5] rfl qF qA cR (hbig := by exact (by simp +zetaDelta [maxLen] <;> omega)) (hbig' := by exact (by simp +zetaDelta <;> omega)) <| zM <| zF) ?_
 refine kx [(133, (kD 1))] [] (zE (qP 1 (hr := by decide)) <| zM <| zZ) ?_
 refine jI (jT.refl _) ?_
 refine jA <| kx [(134, (vb true))] [] (zE (qL true qI) <| zZ) ?_
 refine jA <| jS ?_
 refine jE <| jA <| jF <| jA <| kx [(15, (vi (((2 : Nat) : Int) * ((b * c) - (a * d)))))] [] (zE (oXa ar203 uQ (fun _ => rfl) 1) <| zM <| zZ) ?_
 refine jA ?_
 have bn2 : QL (Rat.divInt (2 * ((b * c) - (a * d))) (nq a b c d)) 3 := (qR (n := 3) (jQ (by omega) (by omega)) (jQ (by omega) (by omega)) (by decide))
 refine kx [(16, (.ref 6 0))] [(6, some (bx (jM y8)))] (zM <| zR (kF yF) <| zE (kA (fU a b c d (by omega) (by omega) (by omega) (by omega))) <| zE (kA (q_of (((2 : Nat) : Int) * ((b * c) - (a * d))) (by omega) (by omega) (nq a b c d) (by omega) (by omega) hn0)) <| zM <| zE uZ <| zE uZ <| zH (qW 6 qA qH) <| zT (kW jO) <| zM <| zZ) ?_
 refine kf [(13, (.own 4 42 4 ((([] ++ [y5]) ++ [y8]).length)))] [(4, some (cH jM (([] ++ [y5]) ++ [y8])))] (zM <| zR (kF jO) <| zE (nO qF qA qH) <| zAS jM ([] ++ [y5]) [y8] rfl qF qA cR (hbig := by exact (by simp +zetaDelta [maxLen] <;> omega)) (hbig' := by exact (by simp +zetaDelta <;> omega)) <| zM <| zF) ?_
 refine kx [(133, (kD 2))] [] (zE (qP 2 (hr := by decide)) <| zM <| zZ) ?_
 refine jI (jT.refl _) ?_
 refine jA <| kx [(134, (vb true))] [] (zE (qL true qI) <| zZ) ?_
 refine jA <| jS ?_
 refine jE <| jA <| jF <| jA <| kx [(15, (vi (((2 : Nat) : Int) * ((b * d) + (a * c)))))] [] (zE (oXa ar203 uQ (fun _ => rfl) 2) <| zM <| zZ) ?_
 refine jA ?_
 have bn3 : QL (Rat.divInt (2 * ((b * d) + (a * c))) (nq a b c d)) 3 := (qR (n := 3) (jQ (by omega) (by omega)) (jQ (by omega) (by omega)) (by decide))
 refine kx [(16, (.ref 7 0))] [(7, some (bx (jM y9)))] (zM <| zR (kF yF) <| zE (kA (fU a b c d (by omega) (by omega) (by omega) (by omega))) <| zE (kA (q_of (((2 : Nat) : Int) * ((b * d) + (a * c))) (by omega) (by omega) (nq a b c d) (by omega) (by omega) hn0)) <| zM <| zE uZ <| zE uZ <| zH (qW 7 qA qH) <| zT (kW jO) <| zM <| zZ) ?_
 refine kf [(13, (.own 4 42 4 (((([] ++ [y5]) ++ [y8]) ++ [y9]).length)))] [(4, some (cH jM ((([] ++ [y5]) ++ [y8]) ++ [y9])))] (zM <| zR (kF jO) <| zE (nO qF qA qH) <| zAS jM (([] ++ [y5]) ++ [y8]) [y9] rfl qF qA cR (hbig := by exact (by simp +zetaDelta [maxLen] <;> omega)) (hbig' := by exact (by simp +zetaDelta <;> omega)) <| zM <| zF) ?_
 refine kx [(133, (kD 3))] [] (zE (qP 3 (hr := by decide)) <| zM <| zZ) ?_
 refine jI (jT.refl _) ?_
 refine jA <| kx [(134, (vb false))] [] (zE (qL false qI) <| zZ) ?_
 refine jA <| kG ?_
 refine kB <| kJ (uV (t := 13) (k := 4) (es := List.map jM ((([] ++ [y5]) ++ [y8]) ++ [y9])) rfl rfl (vY _ _ (fun _ => rfl)) (uS _ _ rfl) (yS jM ((([] ++ [y5]) ++ [y8]) ++ [y9]) (fun _ => rfl) rfl)) ?_
 refine kf [(10, (.own 2 52 1 (([] ++ [((([] ++ [y5]) ++ [y8]) ++ [y9])]).length)))] [(2, some (bm jN ([] ++ [((([] ++ [y5]) ++ [y8]) ++ [y9])])))] (zM <| zM <| zE (nO kZ gP eC) <| zA jN [] [((([] ++ [y5]) ++ [y8]) ++ [y9])] rfl kZ gP by52 (hbig := by exact (by simp +zetaDelta [maxLen] <;> omega)) (hbig' := by exact (by simp +zetaDelta <;> omega)) <| zM <| zF) ?_
 refine kJ (wk (l := [(1, (.ref 0 0)), (10, (.own 2 52 1 (([] ++ [((([] ++ [y5]) ++ [y8]) ++ [y9])]).length))), (128, (.d y1)), (129, (kD 0))]) (b := [(0, some (bx (qX (jU.mk a b c d)))), (2, some (bm jN ([] ++ [((([] ++ [y5]) ++ [y8]) ++ [y9])])))])) ?_
 refine kx [(129, (kD 1))] [] (zE (qP 1 (hr := by decide)) <| zM <| zZ) ?_
 refine jI (jT.refl _) ?_
 refine jA <| kx [(130, (vb true))] [] (zE (qL true qI) <| zZ) ?_
 refine jA <| jS ?_
 refine jE <| jA <| jF <| jA <| kx [(12, (.ref 8 0))] [(8, some (bx y3))] (zE (oXa ar204 sh203 (fun h => by cases h) 1) <| zH (qW 8 ze203 zo203) <| zT (kW sh203) <| zZ) ?_
 refine jA <| kx [(13, (.own 9 42 4 0))] [(9, some (cH jM []))] (zO 9 42 4 <| zZ) ?_
 refine jA <| jA <| kx [(132, (.d y3)), (133, (kD 0))] [] (zR (kF sh203) <| zM <| zZ) ?_
 refine jF <| kN 20 ?_
 refine kU <| jA <| kx [(134, (vb true))] [] (zE (qL true qI) <| zZ) ?_
 refine jA <| jS ?_
 refine jE <| jA <| jF <| jA <| kx [(15, (vi (((2 : Nat) : Int) * ((b * c) + (a * d)))))] [] (zE (oXa ar203 uQ (fun _ => rfl) 0) <| zM <| zZ) ?_
 refine jA ?_
 have bn4 : QL (Rat.divInt (2 * ((b * c) + (a * d))) (nq a b c d)) 3 := (qR (n := 3) (jQ (by omega) (by omega)) (jQ (by omega) (by omega)) (by decide))
 refine kx [(16, (.ref 10 0))] [(10, some (bx (jM y10)))] (zM <| zR (kF yF) <| zE (kA (fU a b c d (by omega) (by omega) (by omega) (by omega))) <| zE (kA (q_of (((2 : Nat) : Int) * ((b * c) + (a * d))) (by omega) (by omega) (nq a b c d) (by omega) (by omega) hn0)) <| zM <| zE uZ <| zE uZ <| zH (qW 10 qA qH) <| zT (kW jO) <| zM <| zZ) ?_
 refine kf [(13, (.own 9 42 4 (([] ++ [y10]).length)))] [(9, some (cH jM ([] ++ [y10])))] (zM <| zR (kF jO) <| zE (nO qF qA qH) <| zAS jM [] [y10] rfl qF qA cR (hbig := by exact (by simp +zetaDelta [maxLen] <;> omega)) (hbig' := by exact (by simp +zetaDelta <;> omega)) <| zM <| zF) ?_
 refine kx [(133, (kD 1))] [] (zE (qP 1 (hr := by decide)) <| zM <| zZ) ?_
 refine jI (jT.refl _) ?_
 refine jA <| kx [(134, (vb true))] [] (zE (qL true qI) <| zZ) ?_
 refine jA <| jS ?_
 refine jE <| jA <| jF <| jA <| kx [(15, (vi ((((a * a) - (b * b)) + (c * c)) - (d * d))))] [] (zE (oXa ar203 uQ (fun _ => rfl) 1) <| zM <| zZ) ?_
 refine jA ?_
 have bn5 : QL (Rat.divInt ((((a * a) - (b * b)) + (c * c)) - (d * d)) (nq a b c d)) 3 := (qR (n := 3) (jQ (by omega) (by omega)) (jQ (by omega) (by omega)) (by decide))
 refine kx [(16, (.ref 11 0))] [(11, some (bx (jM y6)))] (zM <| zR (kF yF) <| zE (kA (fU a b c d (by omega) (by omega) (by omega) (by omega))) <| zE (kA (q_of ((((a * a) - (b * b)) + (c * c)) - (d * d)) (by omega) (by omega) (nq a b c d) (by omega) (by omega) hn0)) <| zM <| zE uZ <| zE uZ <| zH (qW 11 qA qH) <| zT (kW jO) <| zM <| zZ) ?_
 refine kf [(13, (.own 9 42 4 ((([] ++ [y10]) ++ [y6]).length)))] [(9, some (cH jM (([] ++ [y10]) ++ [y6])))] (zM <| zR (kF jO) <| zE (nO qF qA qH) <| zAS jM ([] ++ [y10]) [y6] rfl qF qA cR (hbig := by exact (by simp +zetaDelta [maxLen] <;> omega)) (hbig' := by exact (by simp +zetaDelta <;> omega)) <| zM <| zF) ?_
 refine kJ (wk (l := [(1, (.ref 0 0)), (10, (.own 2 52 1 (([] ++ [((([] ++ [y5]) ++ [y8]) ++ [y9])]).length))), (13, (.own 9 42 4 ((([] ++ [y10]) ++ [y6]).length))), (128, (.d y1)), (129, (kD 1)), (132, (.d y3)), (133, (kD 1))]) (b := [(0, some (bx (qX (jU.mk a b c d)))), (2, some (bm jN ([] ++ [((([] ++ [y5]) ++ [y8]) ++ [y9])]))), (9, some (cH jM (([] ++ [y10]) ++ [y6])))])) ?_
 refine kx [(133, (kD 2))] [] (zE (qP 2 (hr := by decide)) <| zM <| zZ) ?_
 refine jI (jT.refl _) ?_
 refine jA <| kx [(134, (vb true))] [] (zE (qL true qI) <| zZ) ?_
 refine jA <| jS ?_
 refine jE <| jA <| jF <| jA <| kx [(15, (vi (((2 : Nat) : Int) * ((c * d) - (a * b)))))] [] (zE (oXa ar203 uQ (fun _ => rfl) 2) <| zM <| zZ) ?_
 refine jA ?_
 have bn6 : QL (Rat.divInt (2 * ((c * d) - (a * b))) (nq a b c d)) 3 := (qR (n := 3) (jQ (by omega) (by omega)) (jQ (by omega) (by omega)) (by decide))
 refine kx [(16, (.ref 12 0))] [(12, some (bx (jM y11)))] (zM <| zR (kF yF) <| zE (kA (fU a b c d (by omega) (by omega) (by omega) (by omega))) <| zE (kA (q_of (((2 : Nat) : Int) * ((c * d) - (a * b))) (by omega) (by omega) (nq a b c d) (by omega) (by omega) hn0)) <| zM <| zE uZ <| zE uZ <| zH (qW 12 qA qH) <| zT (kW jO) <| zM <| zZ) ?_
 refine kf [(13, (.own 9 42 4 (((([] ++ [y10]) ++ [y6]) ++ [y11]).length)))] [(9, some (cH jM ((([] ++ [y10]) ++ [y6]) ++ [y11])))] (zM <| zR (kF jO) <| zE (nO qF qA qH) <| zAS jM (([] ++ [y10]) ++ [y6]) [y11] rfl qF qA cR (hbig := by exact (by simp +zetaDelta [maxLen] <;> omega)) (hbig' := by exact (by simp +zetaDelta <;> omega)) <| zM <| zF) ?_
 refine kx [(133, (kD 3))] [] (zE (qP 3 (hr := by decide)) <| zM <| zZ) ?_
 refine jI (jT.refl _) ?_
 refine jA <| kx [(134, (vb false))] [] (zE (qL false qI) <| zZ) ?_
 refine jA <| kG ?_
 refine kB <| kJ (uV (t := 13) (k := 9) (es := List.map jM ((([] ++ [y10]) ++ [y6]) ++ [y11])) rfl rfl (vY _ _ (fun _ => rfl)) (uS _ _ rfl) (yS jM ((([] ++ [y10]) ++ [y6]) ++ [y11]) (fun _ => rfl) rfl)) ?_
 refine kf [(10, (.own 2 52 1 ((([] ++ [((([] ++ [y5]) ++ [y8]) ++ [y9])]) ++ [((([] ++ [y10]) ++ [y6]) ++ [y11])]).length)))] [(2, some (bm jN (([] ++ [((([] ++ [y5]) ++ [y8]) ++ [y9])]) ++ [((([] ++ [y10]) ++ [y6]) ++ [y11])])))] (zM <| zM <| zE (nO kZ gP eC) <| zA jN ([] ++ [((([] ++ [y5]) ++ [y8]) ++ [y9])]) [((([] ++ [y10]) ++ [y6]) ++ [y11])] rfl kZ gP by52 (hbig := by exact (by simp +zetaDelta [maxLen] <;> omega)) (hbig' := by exact (by simp +zetaDelta <;> omega)) <| zM <| zF) ?_
 refine kx [(129, (kD 2))] [] (zE (qP 2 (hr := by decide)) <| zM <| zZ) ?_
 refine jI (jT.refl _) ?_
 refine jA <| kx [(130, (vb true))] [] (zE (qL true qI) <| zZ) ?_
 refine jA <| jS ?_
 refine jE <| jA <| jF <| jA <| kx [(12, (.ref 13 0))] [(13, some (bx y4))] (zE (oXa ar204 sh203 (fun h => by cases h) 2) <| zH (qW 13 ze203 zo203) <| zT (kW sh203) <| zZ) ?_
 refine jA <| kx [(13, (.own 14 42 4 0))] [(14, some (cH jM []))] (zO 14 42 4 <| zZ) ?_
 refine jA <| jA <| kx [(132, (.d y4)), (133, (kD 0))] [] (zR (kF sh203) <| zM <| zZ) ?_
 refine jF <| kN 20 ?_
 refine kU <| jA <| kx [(134, (vb true))] [] (zE (qL true qI) <| zZ) ?_
 refine jA <| jS ?_
 refine jE <| jA <| jF <| jA <| kJ (wk (l := [(1, (.ref 0 0)), (10, (.own 2 52 1 ((([] ++ [((([] ++ [y5]) ++ [y8]) ++ [y9])]) ++ [((([] ++ [y10]) ++ [y6]) ++ [y11])]).length))), (13, (.own 14 42 4 0)), (128, (.d y1)), (129, (kD 2)), (132, (.d y4)), (133, (kD 0)), (134, (vb true))]) (b := [(0, some (bx (qX (jU.mk a b c d)))), (14, some (cH jM [])), (2, some (bm jN (([] ++ [((([] ++ [y5]) ++ [y8]) ++ [y9])]) ++ [((([] ++ [y10]) ++ [y6]) ++ [y11])])))])) ?_
 refine kx [(15, (vi (((2 : Nat) : Int) * ((b * d) - (a * c)))))] [] (zE (oXa ar203 uQ (fun _ => rfl) 0) <| zM <| zZ) ?_
 refine jA ?_
 have bn7 : QL (Rat.divInt (2 * ((b * d) - (a * c))) (nq a b c d)) 3 := (qR (n := 3) (jQ (by omega) (by omega)) (jQ (by omega) (by omega)) (by decide))
 refine kx [(16, (.ref 15 0))] [(15, some (bx (jM y12)))] (zM <| zR (kF yF) <| zE (kA (fU a b c d (by omega) (by omega) (by omega) (by omega))) <| zE (kA (q_of (((2 : Nat) : Int) * ((b * d) - (a * c))) (by omega) (by omega) (nq a b c d) (by omega) (by omega) hn0)) <| zM <| zE uZ <| zE uZ <| zH (qW 15 qA qH) <| zT (kW jO) <| zM <| zZ) ?_
 refine kf [(13, (.own 14 42 4 (([] ++ [y12]).length)))] [(14, some (cH jM ([] ++ [y12])))] (zM <| zR (kF jO) <| zE (nO qF qA qH) <| zAS jM [] [y12] rfl qF qA cR (hbig := by exact (by simp +zetaDelta [maxLen] <;> omega)) (hbig' := by exact (by simp +zetaDelta <;> omega)) <| zM <| zF) ?_
 refine kx [(133, (kD 1))] [] (zE (qP 1 (hr := by decide)) <| zM <| zZ) ?_
 refine jI (jT.refl _) ?_
 refine jA <| kx [(134, (vb true))] [] (zE (qL true qI) <| zZ) ?_
 refine jA <| jS ?_
 refine jE <| jA <| jF <| jA <| kx [(15, (vi (((2 : Nat) : Int) * ((c * d) + (a * b)))))] [] (zE (oXa ar203 uQ (fun _ => rfl) 1) <| zM <| zZ) ?_
 refine jA ?_
 have bn8 : QL (Rat.divInt (2 * ((c * d) + (a * b))) (nq a b c d)) 3 := (qR (n := 3) (jQ (by omega) (by omega)) (jQ (by omega) (by omega)) (by decide))
 refine kx [(16, (.ref 16 0))] [(16, some (bx (jM y13)))] (zM <| zR (kF yF) <| zE (kA (fU a b c d (by omega) (by omega) (by omega) (by omega))) <| zE (kA (q_of (((2 : Nat) : Int) * ((c * d) + (a * b))) (by omega) (by omega) (nq a b c d) (by omega) (by omega) hn0)) <| zM <| zE uZ <| zE uZ <| zH (qW 16 qA qH) <| zT (kW jO) <| zM <| zZ) ?_
 refine kf [(13, (.own 14 42 4 ((([] ++ [y12]) ++ [y13]).length)))] [(14, some (cH jM (([] ++ [y12]) ++ [y13])))] (zM <| zR (kF jO) <| zE (nO qF qA qH) <| zAS jM ([] ++ [y12]) [y13] rfl qF qA cR (hbig := by exact (by simp +zetaDelta [maxLen] <;> omega)) (hbig' := by exact (by simp +zetaDelta <;> omega)) <| zM <| zF) ?_
 refine kx [(133, (kD 2))] [] (zE (qP 2 (hr := by decide)) <| zM <| zZ) ?_
 refine jI (jT.refl _) ?_
 refine jA <| kx [(134, (vb true))] [] (zE (qL true qI) <| zZ) ?_
 refine jA <| jS ?_
 refine jE <| jA <| jF <| jA <| kx [(15, (vi ((((a * a) - (b * b)) - (c * c)) + (d * d))))] [] (zE (oXa ar203 uQ (fun _ => rfl) 2) <| zM <| zZ) ?_
 refine jA ?_
 have bn9 : QL (Rat.divInt ((((a * a) - (b * b)) - (c * c)) + (d * d)) (nq a b c d)) 3 := (qR (n := 3) (jQ (by omega) (by omega)) (jQ (by omega) (by omega)) (by decide))
 refine kx [(16, (.ref 17 0))] [(17, some (bx (jM y7)))] (zM <| zR (kF yF) <| zE (kA (fU a b c d (by omega) (by omega) (by omega) (by omega))) <| zE (kA (q_of ((((a * a) - (b * b)) - (c * c)) + (d * d)) (by omega) (by omega) (nq a b c d) (by omega) (by omega) hn0)) <| zM <| zE uZ <| zE uZ <| zH (qW 17 qA qH) <| zT (kW jO) <| zM <| zZ) ?_
 refine kf [(13, (.own 14 42 4 (((([] ++ [y12]) ++ [y13]) ++ [y7]).length)))] [(14, some (cH jM ((([] ++ [y12]) ++ [y13]) ++ [y7])))] (zM <| zR (kF jO) <| zE (nO qF qA qH) <| zAS jM (([] ++ [y12]) ++ [y13]) [y7] rfl qF qA cR (hbig := by exact (by simp +zetaDelta [maxLen] <;> omega)) (hbig' := by exact (by simp +zetaDelta <;> omega)) <| zM <| zF) ?_
 refine kx [(133, (kD 3))] [] (zE (qP 3 (hr := by decide)) <| zM <| zZ) ?_
 refine jI (jT.refl _) ?_
 refine jA <| kJ (wk (l := [(1, (.ref 0 0)), (10, (.own 2 52 1 ((([] ++ [((([] ++ [y5]) ++ [y8]) ++ [y9])]) ++ [((([] ++ [y10]) ++ [y6]) ++ [y11])]).length))), (13, (.own 14 42 4 (((([] ++ [y12]) ++ [y13]) ++ [y7]).length))), (128, (.d y1)), (129, (kD 2)), (132, (.d y4)), (133, (kD 3))]) (b := [(0, some (bx (qX (jU.mk a b c d)))), (14, some (cH jM ((([] ++ [y12]) ++ [y13]) ++ [y7]))), (2, some (bm jN (([] ++ [((([] ++ [y5]) ++ [y8]) ++ [y9])]) ++ [((([] ++ [y10]) ++ [y6]) ++ [y11])])))])) ?_
 refine kx [(134, (vb false))] [] (zE (qL false qI) <| zZ) ?_
 refine jA <| kG ?_
 refine kB <| kJ (uV (t := 13) (k := 14) (es := List.map jM ((([] ++ [y12]) ++ [y13]) ++ [y7])) rfl rfl (vY _ _ (fun _ => rfl)) (uS _ _ rfl) (yS jM ((([] ++ [y12]) ++ [y13]) ++ [y7]) (fun _ => rfl) rfl)) ?_
 refine kf [(10, (.own 2 52 1 (((([] ++ [((([] ++ [y5]) ++ [y8]) ++ [y9])]) ++ [((([] ++ [y10]) ++ [y6]) ++ [y11])]) ++ [((([] ++ [y12]) ++ [y13]) ++ [y7])]).length)))] [(2, some (bm jN ((([] ++ [((([] ++ [y5]) ++ [y8]) ++ [y9])]) ++ [((([] ++ [y10]) ++ [y6]) ++ [y11])]) ++ [((([] ++ [y12]) ++ [y13]) ++ [y7])])))] (zM <| zM <| zE (nO kZ gP eC) <| zA jN (([] ++ [((([] ++ [y5]) ++ [y8]) ++ [y9])]) ++ [((([] ++ [y10]) ++ [y6]) ++ [y11])]) [((([] ++ [y12]) ++ [y13]) ++ [y7])] rfl kZ gP by52 (hbig := by exact (by simp +zetaDelta [maxLen] <;> omega)) (hbig' := by exact (by simp +zetaDelta <;> omega)) <| zM <| zF) ?_
 refine kx [(129, (kD 3))] [] (zE (qP 3 (hr := by decide)) <| zM <| zZ) ?_
 refine jI (jT.refl _) ?_
 refine jA <| kx [(130, (vb false))] [] (zE (qL false qI) <| zZ) ?_
 refine jA <| kG ?_
 refine kB <| jA <| kJ (uV (t := 10) (k := 2) (es := List.map jN ((([] ++ [((([] ++ [y5]) ++ [y8]) ++ [y9])]) ++ [((([] ++ [y10]) ++ [y6]) ++ [y11])]) ++ [((([] ++ [y12]) ++ [y13]) ++ [y7])])) rfl rfl (vK _ _ (fun _ => rfl)) (uS _ _ rfl) (xG _ _ (fun _ => rfl) rfl)) ?_
 refine kx [(2, (vl 52 1 jN ((([] ++ [((([] ++ [y5]) ++ [y8]) ++ [y9])]) ++ [((([] ++ [y10]) ++ [y6]) ++ [y11])]) ++ [((([] ++ [y12]) ++ [y13]) ++ [y7])]))), (3, (kD 0))] [] (zM <| zM <| zM <| zZ) ?_
 refine jJ ⟨_, (.tmp (d := (.sl 52 1 (List.map jN ((([] ++ [((([] ++ [(jB (Rat.divInt ((((a * a) + (b * b)) - (c * c)) - (d * d)) (nq a b c d)))]) ++ [(jB (Rat.divInt (2 * ((b * c) - (a * d))) (nq a b c d)))]) ++ [(jB (Rat.divInt (2 * ((b * d) + (a * c))) (nq a b c d)))])]) ++ [((([] ++ [(jB (Rat.divInt (2 * ((b * c) + (a * d))) (nq a b c d)))]) ++ [(jB (Rat.divInt ((((a * a) - (b * b)) + (c * c)) - (d * d)) (nq a b c d)))]) ++ [(jB (Rat.divInt (2 * ((c * d) - (a * b))) (nq a b c d)))])]) ++ [((([] ++ [(jB (Rat.divInt (2 * ((b * d) - (a * c))) (nq a b c d)))]) ++ [(jB (Rat.divInt (2 * ((c * d) + (a * b))) (nq a b c d)))]) ++ [(jB (Rat.divInt ((((a * a) - (b * b)) - (c * c)) + (d * d)) (nq a b c d)))])])))) rfl (.tmp (d := (.val (.int .i64 (((0 : Nat) : Int))))) rfl .nil)), ?_⟩
 rfl
theorem qs_rmat (a b c d : Int) (ha : -1048576 ≤ a ∧ a ≤ 1048576) (hb : -1048576 ≤ b ∧ b ≤ 1048576) (hc : -1048576 ≤ c ∧ c ≤ 1048576) (hd : -1048576 ≤ d ∧ d ≤ 1048576) (hq : gX a b c d = 0) (hn0 : nq a b c d ≠ 0) : kH Tryz.prog 132 [(qX (jU.mk a b c d))] (.tup [(.sl 52 1 (List.map jN [[(jB (Q00 a b c d)), (jB (Q01 a b c d)), (jB (Q02 a b c d))], [(jB (Q10 a b c d)), (jB (Q11 a b c d)), (jB (Q12 a b c d))], [(jB (Q20 a b c d)), (jB (Q21 a b c d)), (jB (Q22 a b c d))]])), (.val (.int .i64 (0)))]) := by
 have saa := vB ha ha
 have sab := vB ha hb
 have sac := vB ha hc
 have sad := vB ha hd
 have sbb := vB hb hb
 have sbc := vB hb hc
 have sbd := vB hb hd
 have scc := vB hc hc
 have scd := vB hc hd
 have sdd := vB hd hd
 have hnq := nU ha hb hc hd
 let y13 := (jB (Rat.divInt (2 * ((b * d) - (a * c))) (nq a b c d)))
 let y12 := (jB (Rat.divInt (2 * ((b * c) + (a * d))) (nq a b c d)))
 let y11 := (jB (Rat.divInt ((((a * a) - (b * b)) + (c * c)) - (d * d)) (nq a b c d)))
 let y10 := (jB (Rat.divInt ((((a * a) + (b * b)) - (c * c)) - (d * d)) (nq a b c d)))
 let y9 := [y13, (jB (Rat.divInt (2 * ((c * d) + (a * b))) (nq a b c d)))]
 let y8 := [(((2 : Nat) : Int) * ((b * d) - (a * c))), (((2 : Nat) : Int) * ((c * d) + (a * b))), ((((a * a) - (b * b)) - (c * c)) + (d * d))]
 let y7 := [(((2 : Nat) : Int) * ((b * c) + (a * d))), ((((a * a) - (b * b)) + (c * c)) - (d * d)), (((2 : Nat) : Int) * ((c * d) - (a * b)))]
 let y6 := [((((a * a) + (b * b)) - (c * c)) - (d * d)), (((2 : Nat) : Int) * ((b * c) - (a * d))), (((2 : Nat) : Int) * ((b * d) + (a * c)))]
 let y5 := [y12, y11]
 let y4 := [y10, (jB (Rat.divInt (2 * ((b * c) - (a * d))) (nq a b c d)))]
 let y3 := [y13, (jB (Rat.divInt (2 * ((c * d) + (a * b))) (nq a b c d))), (jB (Rat.divInt ((((a * a) - (b * b)) - (c * c)) + (d * d)) (nq a b c d)))]
 let y2 := [y12, y11, (jB (Rat.divInt (2 * ((c * d) - (a * b))) (nq a b c d)))]
 let y1 := [y10, (jB (Rat.divInt (2 * ((b * c) - (a * d))) (nq a b c d))), (jB (Rat.divInt (2 * ((b * d) + (a * c))) (nq a b c d)))]
 refine jP Tryz.func132 rfl cb132 rfl ?_
 show uK _ _ _ _ ⟨[(0, (.d (qX (jU.mk a b c d))))], []⟩
 refine jA <| kx [(1, (.ref 0 0))] [(0, some (bx (qX (jU.mk a b c d))))] (zN (vS 0) <| zE (oNl 52 1) <| zM <| zZ) ?_
 refine jA <| kx [(4, (kD (gX a b c d)))] [] (zR (kF yF) <| zE (kA (qs_chk a b c d)) <| zM <| zZ) ?_
 refine jA <| jA <| kx [(19, (vb false))] [] (zM <| zE (qL false mE (by exact bne_eq_false_iff_eq.2 (by rw [show (gX a b c d) = 0 from hq]; rfl))) <| zZ) ?_
 refine kG ?_
 refine jE <| jA <| kx [(5, (vi a))] [] (zE (kS eI) <| zR (uF uQ) <| zM <| zZ) ?_
 refine jA <| kx [(6, (vi b))] [] (zE (kS eG) <| zR (uF uQ) <| zM <| zZ) ?_
 refine jA <| kx [(7, (vi c))] [] (zE (kS eH) <| zR (uF uQ) <| zM <| zZ) ?_
 refine jA <| kx [(8, (vi d))] [] (zE (kS eL) <| zR (uF uQ) <| zM <| zZ) ?_
 refine jA <| kx [(9, (vl 74 1 bY [y6, y7, y8]))] [] (zM <| zM <| zE (mC (a * a) (hr := by exact (qK rfl (by simp only [xC]; omega) (by simp only [xF]; omega)))) <| zM <| zM <| zE (mC (b * b) (hr := by exact (qK rfl (by simp only [xC]; omega) (by simp only [xF]; omega)))) <| zE (zAd ((a * a) + (b * b)) (hr := by exact (qK rfl (by simp only [xC]; omega) (by simp only [xF]; omega)))) <| zM <| zM <| zE (mC (c * c) (hr := by exact (qK rfl (by simp only [xC]; omega) (by simp only [xF]; omega)))) <| zE (fT (((a * a) + (b * b)) - (c * c)) (hr := by exact (qK rfl (by simp only [xC]; omega) (by simp only [xF]; omega)))) <| zM <| zM <| zE (mC (d * d) (hr := by exact (qK rfl (by simp only [xC]; omega) (by simp only [xF]; omega)))) <| zE (fT ((((a * a) + (b * b)) - (c * c)) - (d * d)) (hr := by exact (qK rfl (by simp only [xC]; omega) (by simp only [xF]; omega)))) <| zM <| zM <| zE (mC (b * c) (hr := by exact (qK rfl (by simp only [xC]; omega) (by simp only [xF]; omega)))) <| zM <| zM <| zE (mC (a * d) (hr := by exact (qK rfl (by simp only [xC]; omega) (by simp only [xF]; omega)))) <| zE (fT ((b * c) - (a * d)) (hr := by exact (qK rfl (by simp only [xC]; omega) (by simp only [xF]; omega)))) <| zE (mC (((2 : Nat) : Int) * ((b * c) - (a * d))) (hr := by exact (qK rfl (by simp only [xC]; omega) (by simp only [xF]; omega)))) <| zM <| zM <| zE (mC (b * d) (hr := by exact (qK rfl (by simp only [xC]; omega) (by simp only [xF]; omega)))) <| zM <| zM <| zE (mC (a * c) (hr := by exact (qK rfl (by simp only [xC]; omega) (by simp only [xF]; omega)))) <| zE (zAd ((b * d) + (a * c)) (hr := by exact (qK rfl (by simp only [xC]; omega) (by simp only [xF]; omega)))) <| zE (mC (((2 : Nat) : Int) * ((b * d) + (a * c))) (hr := by exact (qK rfl (by simp only [xC]; omega) (by simp only [xF]; omega)))) <| zE (nO nV ze3 zo3) <| zM <| zM <| zE (mC (b * c) (hr := by exact (qK rfl (by simp only [xC]; omega) (by simp only [xF]; omega)))) <| zM <| zM <| zE (mC (a * d) (hr := by exact (qK rfl (by simp only [xC]; omega) (by simp only [xF]; omega)))) <| zE (zAd ((b * c) + (a * d)) (hr := by exact (qK rfl (by simp only [xC]; omega) (by simp only [xF]; omega)))) <| zE (mC (((2 : Nat) : Int) * ((b * c) + (a * d))) (hr := by exact (qK rfl (by simp only [xC]; omega) (by simp only [xF]; omega)))) <| zM <| zM <| zE (mC (a * a) (hr := by exact (qK rfl (by simp only [xC]; omega) (by simp only [xF]; omega)))) <| zM <| zM <| zE (mC (b * b) (hr := by exact (qK rfl (by simp only [xC]; omega) (by simp only [xF]; omega)))) <| zE (fT ((a * a) - (b * b)) (hr := by exact (qK rfl (by simp only [xC]; omega) (by simp only [xF]; omega)))) <| zM <| zM <| zE (mC (c * c) (hr := by exact (qK rfl (by simp only [xC]; omega) (by simp only [xF]; omega)))) <| zE (zAd (((a * a) - (b * b)) + (c * c)) (hr := by exact (qK rfl (by simp only [xC]; omega) (by simp only [xF]; omega)))) <| zM <| zM <| zE (mC (d * d) (hr := by exact (qK rfl (by simp only [xC]; omega) (by simp only [xF]; omega)))) <| zE (fT ((((a * a) - (b * b)) + (c * c)) - (d * d)) (hr := by exact (qK rfl (by simp only [xC]; omega) (by simp only [xF]; omega)))) <| zM <| zM <| zE (mC (c * d) (hr := by exact (qK rfl (by simp only [xC]; omega) (by simp only [xF]; omega)))) <| zM <| zM <| zE (mC (a * b) (hr := by exact (qK rfl (by simp only [xC]; omega) (by simp only [xF]; omega)))) <| zE (fT ((c * d) - (a * b)) (hr := by exact (qK rfl (by simp only [xC]; omega) (by simp only [xF]; omega)))) <| zE (mC (((2 : Nat) : Int) * ((c * d) - (a * b))) (hr := by exact (qK rfl (by simp only [xC]; omega) (by simp only [xF]; omega)))) <| zE (nO nV ze3 zo3) <| zM <| zM <| zE (mC (b * d) (hr := by exact (qK rfl (by simp only [xC]; omega) (by simp only [xF]; omega)))) <| zM <| zM <| zE (mC (a * c) (hr := by exact (qK rfl (by simp only [xC]; omega) (by simp only [xF]; omega)))) <| zE (fT ((b * d) - (a * c)) (hr := by exact (qK rfl (by simp only [xC]; omega) (by simp only [xF]; omega)))) <| zE (mC (((2 : Nat) : Int) * ((b * d) - (a * c))) (hr := by exact (qK rfl (by simp only [xC]; omega) (by simp only [xF]; omega)))) <| zM <| zM <| zE (mC (c * d) (hr := by exact (qK rfl (by simp only [xC]; omega) (by simp only [xF]; omega)))) <| zM <| zM <| zE (mC (a * b) (hr := by exact (qK rfl (by simp only [xC]; omega) (by simp only [xF]; omega)))) <| zE (zAd ((c * d) + (a * b)) (hr := by exact (qK rfl (by simp only [xC]; omega) (by simp only [xF]; omega)))) <| zE (mC (((2 : Nat) : Int) * ((c * d) + (a * b))) (hr := by exact (qK rfl (by simp only [xC]; omega) (by simp only [xF]; omega)))) <| zM <| zM <| zE (mC (a * a) (hr := by exact (qK rfl (by simp only [xC]; omega) (by simp only [xF]; omega)))) <| zM <| zM <| zE (mC (b * b) (hr := by exact (qK rfl (by simp only [xC]; omega) (by simp only [xF]; omega)))) <| zE (fT ((a * a) - (b * b)) (hr := by exact (qK rfl (by simp only [xC]; omega) (by simp only [xF]; omega)))) <| zM <| zM <| zE (mC (c * c) (hr := by exact (qK rfl (by simp only [xC]; omega) (by simp only [xF]; omega)))) <| zE (fT (((a * a) - (b * b)) - (c * c)) (hr := by exact (qK rfl (by simp only [xC]; omega) (by simp only [xF]; omega)))) <| zM <| zM <| zE (mC (d * d) (hr := by exact (qK rfl (by simp only [xC]; omega) (by simp only [xF]; omega)))) <| zE (zAd ((((a * a) - (b * b)) - (c * c)) + (d * d)) (hr := by exact (qK rfl (by simp only [xC]; omega) (by simp only [xF]; omega)))) <| zE (nO nV ze3 zo3) <| zE (nO el109 ze74 zo74) <| zM <| zZ) ?_
 refine jA <| kx [(10, (.own 1 52 1 0))] [(1, some (bm jN []))] (zN (oBo 1 kZ gP eC) <| zM <| zZ) ?_
 refine jA <| jA <| kx [(11, (kD 0))] [] (zM <| zZ) ?_
 refine jF <| kN 20 ?_
 refine kU <| jA <| jA <| kx [(128, (vb true))] [] (zM <| zE (qL true qI) <| zZ) ?_
 refine jS ?_
 refine jE <| jA <| jF <| jA <| kx [(12, (.own 2 42 4 0))] [(2, some (cH jM []))] (zH (oBo 2 qF qA qH) <| zM <| zZ) ?_
 refine jA <| jA <| kx [(13, (kD 0))] [] (zM <| zZ) ?_
 refine jF <| kN 20 ?_
 refine kU <| jA <| jA <| kx [(133, (vb true))] [] (zM <| zE (qL true qI) <| zZ) ?_
 refine jS ?_
 refine jE <| jA <| jF <| jA <| kJ (wk (l := [(1, (.ref 0 0)), (9, (vl 74 1 bY [y6, y7, y8])), (10, (.own 1 52 1 0)), (11, (kD 0)), (12, (.own 2 42 4 0)), (13, (kD 0)), (133, (vb true))]) (b := [(0, some (bx (qX (jU.mk a b c d)))), (1, some (bm jN [])), (2, some (cH jM []))])) ?_
 have bn1 : QL (Rat.divInt ((((a * a) + (b * b)) - (c * c)) - (d * d)) (nq a b c d)) 3 := (qR (n := 3) (jQ (by omega) (by omega)) (jQ (by omega) (by omega)) (by decide))
 refine kd [(14, (.ref 3 0))] [(3, some (bx (jM y10)))] mo (wM <| wM <| wE (vM el109 0) <| wE (xX sh74) <| wM <| wE (vM nV 0) <| wE (xX uQ) <| wR (kF yF) <| wE (kA (fV a b c d (by omega) (by omega) (by omega) (by omega))) <| wE (kA (qs_of ((((a * a) + (b * b)) - (c * c)) - (d * d)) (by omega) (by omega) (nq a b c d) (by omega) (by omega) hn0)) <| wM <| wE uZ <| wE uZ <| wH (hc := by kernel_rfl) (qW 3 qA qH) <| wT (kW jO) <| wM <| wZ) ?_
 refine kf [(12, (.own 2 42 4 ([y10].length)))] [(2, some (cH jM [y10]))] (zM <| zR (kF jO) <| zE (nO qF qA qH) <| zAS jM [] [y10] rfl qF qA cR (hbig := by exact (by simp +zetaDelta [maxLen] <;> omega)) (hbig' := by exact (by simp +zetaDelta <;> omega)) <| zM <| zF) ?_
 refine kx [(13, (kD 1))] [] (zM <| zE (qP 1 (hr := by decide)) <| zM <| zZ) ?_
 refine jI (jT.refl _) ?_
 refine jA <| jA <| kx [(133, (vb true))] [] (zM <| zE (qL true qI) <| zZ) ?_
 refine jS ?_
 refine jE <| jA <| jF <| jA ?_
 have bn2 : QL (Rat.divInt (2 * ((b * c) - (a * d))) (nq a b c d)) 3 := (qR (n := 3) (jQ (by omega) (by omega)) (jQ (by omega) (by omega)) (by decide))
 refine kd [(14, (.ref 4 0))] [(4, some (bx (jM (jB (Rat.divInt (2 * ((b * c) - (a * d))) (nq a b c d))))))] mo (wM <| wM <| wE (vM el109 0) <| wE (xX sh74) <| wM <| wE (vM nV 1) <| wE (xX uQ) <| wR (kF yF) <| wE (kA (fV a b c d (by omega) (by omega) (by omega) (by omega))) <| wE (kA (qs_of (((2 : Nat) : Int) * ((b * c) - (a * d))) (by omega) (by omega) (nq a b c d) (by omega) (by omega) hn0)) <| wM <| wE uZ <| wE uZ <| wH (hc := by kernel_rfl) (qW 4 qA qH) <| wT (kW jO) <| wM <| wZ) ?_
 refine kf [(12, (.own 2 42 4 (y4.length)))] [(2, some (cH jM y4))] (zM <| zR (kF jO) <| zE (nO qF qA qH) <| zAS jM [y10] [(jB (Rat.divInt (2 * ((b * c) - (a * d))) (nq a b c d)))] rfl qF qA cR (hbig := by exact (by simp +zetaDelta [maxLen] <;> omega)) (hbig' := by exact (by simp +zetaDelta <;> omega)) <| zM <| zF) ?_
 refine kx [(13, (kD 2))] [] (zM <| zE (qP 2 (hr := by decide)) <| zM <| zZ) ?_
 refine jI (jT.refl _) ?_
 refine jA <| jA <| kx [(133, (vb true))] [] (zM <| zE (qL true qI) <| zZ) ?_
 refine jS ?_
 refine jE <| jA <| jF <| jA ?_
 have bn3 : QL (Rat.divInt (2 * ((b * d) + (a * c))) (nq a b c d)) 3 := (qR (n := 3) (jQ (by omega) (by omega)) (jQ (by omega) (by omega)) (by decide))
 refine kd [(14, (.ref 5 0))] [(5, some (bx (jM (jB (Rat.divInt (2 * ((b * d) + (a * c))) (nq a b c d))))))] mo (wM <| wM <| wE (vM el109 0) <| wE (xX sh74) <| wM <| wE (vM nV 2) <| wE (xX uQ) <| wR (kF yF) <| wE (kA (fV a b c d (by omega) (by omega) (by omega) (by omega))) <| wE (kA (qs_of (((2 : Nat) : Int) * ((b * d) + (a * c))) (by omega) (by omega) (nq a b c d) (by omega) (by omega) hn0)) <| wM <| wE uZ <| wE uZ <| wH (hc := by kernel_rfl) (qW 5 qA qH) <| wT (kW jO) <| wM <| wZ) ?_
 refine kf [(12, (.own 2 42 4 (y1.length)))] [(2, some (cH jM y1))] (zM <| zR (kF jO) <| zE (nO qF qA qH) <| zAS jM y4 [(jB (Rat.divInt (2 * ((b * d) + (a * c))) (nq a b c d)))] rfl qF qA cR (hbig := by exact (by simp +zetaDelta [maxLen] <;> omega)) (hbig' := by exact (by simp +zetaDelta <;> omega)) <| zM <| zF) ?_
 refine kx [(13, (kD 3))] [] (zM <| zE (qP 3 (hr := by decide)) <| zM <| zZ) ?_
 refine jI (jT.refl _) ?_
 refine jA <| jA <| kx [(133, (vb false))] [] (zM <| zE (qL false qI) <| zZ) ?_
 refine kG ?_
 refine kB <| kJ (uV (t := 12) (k := 2) (es := List.map jM y1) rfl rfl (vY _ _ (fun _ => rfl)) (uS _ _ rfl) (yS jM y1 (fun _ => rfl) rfl)) ?_
 refine kf [(10, (.own 1 52 1 ([y1].length)))] [(1, some (bm jN [y1]))] (zM <| zM <| zE (nO kZ gP eC) <| zA jN [] [y1] rfl kZ gP by52 (hbig := by exact (by simp +zetaDelta [maxLen] <;> omega)) (hbig' := by exact (by simp +zetaDelta <;> omega)) <| zM <| zF) ?_
 refine kx [(11, (kD 1))] [] (zM <| zE (qP 1 (hr := by decide)) <| zM <| zZ) ?_
 refine jI (jT.refl _) ?_
 refine jA <| jA <| kJ (wk (l := [(1, (.ref 0 0)), (9, (vl 74 1 bY [y6, y7, y8])), (10, (.own 1 52 1 ([y1].length))), (11, (kD 1))]) (b := [(0, some (bx (qX (jU.mk a b c d)))), (1, some (bm jN [y1]))])) ?_
 refine kx [(128, (vb true))] [] (zM <| zE (qL true qI) <| zZ) ?_
 refine jS ?_
 refine jE <| jA <| jF <| jA <| kx [(12, (.own 6 42 4 0))] [(6, some (cH jM []))] (zH (oBo 6 qF qA qH) <| zM <| zZ) ?_
 refine jA <| jA <| kx [(13, (kD 0))] [] (zM <| zZ) ?_
 refine jF <| kN 20 ?_
 refine kU <| jA <| jA <| kx [(133, (vb true))] [] (zM <| zE (qL true qI) <| zZ) ?_
 refine jS ?_
 refine jE <| jA <| jF <| jA ?_
 have bn4 : QL (Rat.divInt (2 * ((b * c) + (a * d))) (nq a b c d)) 3 := (qR (n := 3) (jQ (by omega) (by omega)) (jQ (by omega) (by omega)) (by decide))
 refine kd [(14, (.ref 7 0))] [(7, some (bx (jM y12)))] mo (wM <| wM <| wE (vM el109 1) <| wE (xX sh74) <| wM <| wE (vM nV 0) <| wE (xX uQ) <| wR (kF yF) <| wE (kA (fV a b c d (by omega) (by omega) (by omega) (by omega))) <| wE (kA (qs_of (((2 : Nat) : Int) * ((b * c) + (a * d))) (by omega) (by omega) (nq a b c d) (by omega) (by omega) hn0)) <| wM <| wE uZ <| wE uZ <| wH (hc := by kernel_rfl) (qW 7 qA qH) <| wT (kW jO) <| wM <| wZ) ?_
 refine kf [(12, (.own 6 42 4 ([y12].length)))] [(6, some (cH jM [y12]))] (zM <| zR (kF jO) <| zE (nO qF qA qH) <| zAS jM [] [y12] rfl qF qA cR (hbig := by exact (by simp +zetaDelta [maxLen] <;> omega)) (hbig' := by exact (by simp +zetaDelta <;> omega)) <| zM <| zF) ?_
 refine kx [(13, (kD 1))] [] (zM <| zE (qP 1 (hr := by decide)) <| zM <| zZ) ?_
 refine jI (jT.refl _) ?_
 refine jA <| jA <| kx [(133, (vb true))] [] (zM <| zE (qL true qI) <| zZ) ?_
 refine jS ?_
 refine jE <| jA <| jF <| jA ?_
 have bn5 : QL (Rat.divInt ((((a * a) - (b * b)) + (c * c)) - (d * d)) (nq a b c d)) 3 := (qR (n := 3) (jQ (by omega) (by omega)) (jQ (by omega) (by omega)) (by decide))
 refine kd [(14, (.ref 8 0))] [(8, some (bx (jM y11)))] mo (wM <| wM <| wE (vM el109 1) <| wE (xX sh74) <| wM <| wE (vM nV 1) <| wE (xX uQ) <| wR (kF yF) <| wE (kA (fV a b c d (by omega) (by omega) (by omega) (by omega))) <| wE (kA (qs_of ((((a * a) - (b * b)) + (c * c)) - (d * d)) (by omega) (by omega) (nq a b c d) (by omega) (by omega) hn0)) <| wM <| wE uZ <| wE uZ <| wH (hc := by kernel_rfl) (qW 8 qA qH) <| wT (kW jO) <| wM <| wZ) ?_
 refine kf [(12, (.own 6 42 4 (y5.length)))] [(6, some (cH jM y5))] (zM <| zR (kF jO) <| zE (nO qF qA qH) <| zAS jM [y12] [y11] rfl qF qA cR (hbig := by exact (by simp +zetaDelta [maxLen] <;> omega)) (hbig' := by exact (by simp +zetaDelta <;> omega)) <| zM <| zF) ?_
 refine kx [(13, (kD 2))] [] (zM <| zE (qP 2 (hr := by decide)) <| zM <| zZ) ?_
 refine jI (jT.refl _) ?_
 refine jA <| jA <| kx [(133, (vb true))] [] (zM <| zE (qL true qI) <| zZ) ?_
 refine jS ?_
 refine jE <| jA <| jF <| jA ?_
 have bn6 : QL (Rat.divInt (2 * ((c * d) - (a * b))) (nq a b c d)) 3 := (qR (n := 3) (jQ (by omega) (by omega)) (jQ (by omega) (by omega)) (by decide))
 refine kd [(14, (.ref 9 0))] [(9, some (bx (jM (jB (Rat.divInt (2 * ((c * d) - (a * b))) (nq a b c d))))))] mo (wM <| wM <| wE (vM el109 1) <| wE (xX sh74) <| wM <| wE (vM nV 2) <| wE (xX uQ) <| wR (kF yF) <| wE (kA (fV a b c d (by omega) (by omega) (by omega) (by omega))) <| wE (kA (qs_of (((2 : Nat) : Int) * ((c * d) - (a * b))) (by omega) (by omega) (nq a b c d) (by omega) (by omega) hn0)) <| wM <| wE uZ <| wE uZ <| wH (hc := by kernel_rfl) (qW 9 qA qH) <| wT (kW jO) <| wM <| wZ) ?_
 refine kf [(12, (.own 6 42 4 (y2.length)))] [(6, some (cH jM y2))] (zM <| zR (kF jO) <| zE (nO qF qA qH) <| zAS jM y5 [(jB (Rat.divInt (2 * ((c * d) - (a * b))) (nq a b c d)))] rfl qF qA cR (hbig := by exact (by simp +zetaDelta [maxLen] <;> omega)) (hbig' := by exact (by simp +zetaDelta <;> omega)) <| zM <| zF) ?_
 refine kJ (wk (l := [(1, (.ref 0 0)), (9, (vl 74 1 bY [y6, y7, y8])), (10, (.own 1 52 1 ([y1].length))), (11, (kD 1)), (12, (.own 6 42 4 (y2.length))), (13, (kD 2))]) (b := [(0, some (bx (qX (jU.mk a b c d)))), (1, some (bm jN [y1])), (6, some (cH jM y2))])) ?_
 refine kx [(13, (kD 3))] [] (zM <| zE (qP 3 (hr := by decide)) <| zM <| zZ) ?_
 refine jI (jT.refl _) ?_
 refine jA <| jA <| kx [(133, (vb false))] [] (zM <| zE (qL false qI) <| zZ) ?_
 refine kG ?_
 refine kB <| kJ (uV (t := 12) (k := 6) (es := List.map jM y2) rfl rfl (vY _ _ (fun _ => rfl)) (uS _ _ rfl) (yS jM y2 (fun _ => rfl) rfl)) ?_
 refine kf [(10, (.own 1 52 1 ([y1, y2].length)))] [(1, some (bm jN [y1, y2]))] (zM <| zM <| zE (nO kZ gP eC) <| zA jN [y1] [y2] rfl kZ gP by52 (hbig := by exact (by simp +zetaDelta [maxLen] <;> omega)) (hbig' := by exact (by simp +zetaDelta <;> omega)) <| zM <| zF) ?_
 refine kx [(11, (kD 2))] [] (zM <| zE (qP 2 (hr := by decide)) <| zM <| zZ) ?_
 refine jI (jT.refl _) ?_
 refine jA <| jA <| kx [(128, (vb true))] [] (zM <| zE (qL true qI) <| zZ) ?_
 refine jS ?_
 refine jE <| jA <| jF <| jA <| kx [(12, (.own 10 42 4 0))] [(10, some (cH jM []))] (zH (oBo 10 qF qA qH) <| zM <| zZ) ?_
 refine jA <| jA <| kx [(13, (kD 0))] [] (zM <| zZ) ?_
 refine jF <| kN 20 ?_
 refine kU <| jA <| jA <| kx [(133, (vb true))] [] (zM <| zE (qL true qI) <| zZ) ?_
 refine jS ?_
 refine jE <| jA <| jF <| jA ?_
 have bn7 : QL (Rat.divInt (2 * ((b * d) - (a * c))) (nq a b c d)) 3 := (qR (n := 3) (jQ (by omega) (by omega)) (jQ (by omega) (by omega)) (by decide))
 refine kd [(14, (.ref 11 0))] [(11, some (bx (jM y13)))] mo (wM <| wM <| wE (vM el109 2) <| wE (xX sh74) <| wM <| wE (vM nV 0) <| wE (xX uQ) <| wR (kF yF) <| wE (kA (fV a b c d (by omega) (by omega) (by omega) (by omega))) <| wE (kA (qs_of (((2 : Nat) : Int) * ((b * d) - (a * c))) (by omega) (by omega) (nq a b c d) (by omega) (by omega) hn0)) <| wM <| wE uZ <| wE uZ <| wH (hc := by kernel_rfl) (qW 11 qA qH) <| wT (kW jO) <| wM <| wZ) ?_
 refine kf [(12, (.own 10 42 4 ([y13].length)))] [(10, some (cH jM [y13]))] (zM <| zR (kF jO) <| zE (nO qF qA qH) <| zAS jM [] [y13] rfl qF qA cR (hbig := by exact (by simp +zetaDelta [maxLen] <;> omega)) (hbig' := by exact (by simp +zetaDelta <;> omega)) <| zM <| zF) ?_
 refine kx [(13, (kD 1))] [] (zM <| zE (qP 1 (hr := by decide)) <| zM <| zZ) ?_
 refine jI (jT.refl _) ?_
 refine jA <| jA <| kx [(133, (vb true))] [] (zM <| zE (qL true qI) <| zZ) ?_
 refine jS ?_
 refine jE <| jA <| jF <| jA ?_
 have bn8 : QL (Rat.divInt (2 * ((c * d) + (a * b))) (nq a b c d)) 3 := (qR (n := 3) (jQ (by omega) (by omega)) (jQ (by omega) (by omega)) (by decide))
 refine kd [(14, (.ref 12 0))] [(12, some (bx (jM (jB (Rat.divInt (2 * ((c * d) + (a * b))) (nq a b c d))))))] mo (wM <| wM <| wE (vM el109 2) <| wE (xX sh74) <| wM <| wE (vM nV 1) <| wE (xX uQ) <| wR (kF yF) <| wE (kA (fV a b c d (by omega) (by omega) (by omega) (by omega))) <| wE (kA (qs_of (((2 : Nat) : Int) * ((c * d) + (a * b))) (by omega) (by omega) (nq a b c d) (by omega) (by omega) hn0)) <| wM <| wE uZ <| wE uZ <| wH (hc := by kernel_rfl) (qW 12 qA qH) <| wT (kW jO) <| wM <| wZ) ?_
 refine kf [(12, (.own 10 42 4 (y9.length)))] [(10, some (cH jM y9))] (zM <| zR (kF jO) <| zE (nO qF qA qH) <| zAS jM [y13] [(jB (Rat.divInt (2 * ((c * d) + (a * b))) (nq a b c d)))] rfl qF qA cR (hbig := by exact (by simp +zetaDelta [maxLen] <;> omega)) (hbig' := by exact (by simp +zetaDelta <;> omega)) <| zM <| zF) ?_
 refine kJ (wk (l := [(1, (.ref 0 0)), (9, (vl 74 1 bY [y6, y7, y8])), (10, (.own 1 52 1 ([y1, y2].length))), (11, (kD 2)), (12, (.own 10 42 4 (y9.length))), (13, (kD 1))]) (b := [(0, some (bx (qX (jU.mk a b c d)))), (1, some (bm jN [y1, y2])), (10, some (cH jM y9))])) ?_
 refine kx [(13, (kD 2))] [] (zM <| zE (qP 2 (hr := by decide)) <| zM <| zZ) ?_
 refine jI (jT.refl _) ?_
 refine jA <| jA <| kx [(133, (vb true))] [] (zM <| zE (qL true qI) <| zZ) ?_
 refine jS ?_
 refine jE <| jA <| jF <| jA ?_
 have bn9 : QL (Rat.divInt ((((a * a) - (b * b)) - (c * c)) + (d * d)) (nq a b c d)) 3 := (qR (n := 3) (jQ (by omega) (by omega)) (jQ (by omega) (by omega)) (by decide))
 refine kd [(14, (.ref 13 0))] [(13, some (bx (jM (jB (Rat.divInt ((((a * a) - (b * b)) - (c * c)) + (d * d)) (nq a b c d))))))] mo (wM <| wM <| wE (vM el109 2) <| wE (xX sh74) <| wM <| wE (vM nV 2) <| wE (xX uQ) <| wR (kF yF) <| wE (kA (fV a b c d (by omega) (by omega) (by omega) (by omega))) <| wE (kA (qs_of ((((a * a) - (b * b)) - (c * c)) + (d * d)) (by omega) (by omega) (nq a b c d) (by omega) (by omega) hn0)) <| wM <| wE uZ <| wE uZ <| wH (hc := by kernel_rfl) (qW 13 qA qH) <| wT (kW jO) <| wM <| wZ) ?_
 refine kf [(12, (.own 10 42 4 (y3.length)))] [(10, some (cH jM y3))] (zM <| zR (kF jO) <| zE (nO qF qA qH) <| zAS jM y9 [(jB (Rat.divInt ((((a * a) - (b * b)) - (c * c)) + (d * d)) (nq a b c d)))] rfl qF qA cR (hbig := by exact (by simp +zetaDelta [maxLen] <;> omega)) (hbig' := by exact (by simp +zetaDelta <;> omega)) <| zM <| zF) ?_
 refine kx [(13, (kD 3))] [] (zM <| zE (qP 3 (hr := by decide)) <| zM <| zZ) ?_
 refine jI (jT.refl _) ?_
 refine jA <| jA <| kx [(133, (vb false))] [] (zM <| zE (qL false qI) <| zZ) ?_
 refine kG ?_
 refine kB <| kJ (uV (t := 12) (k := 10) (es := List.map jM y3) rfl rfl (vY _ _ (fun _ => rfl)) (uS _ _ rfl) (yS jM y3 (fun _ => rfl) rfl)) ?_
 refine kf [(10, (.own 1 52 1 ([y1, y2, y3].length)))] [(1, some (bm jN [y1, y2, y3]))] (zM <| zM <| zE (nO kZ gP eC) <| zA jN [y1, y2] [y3] rfl kZ gP by52 (hbig := by exact (by simp +zetaDelta [maxLen] <;> omega)) (hbig' := by exact (by simp +zetaDelta <;> omega)) <| zM <| zF) ?_
 refine kx [(11, (kD 3))] [] (zM <| zE (qP 3 (hr := by decide)) <| zM <| zZ) ?_
 refine jI (jT.refl _) ?_
 refine jA <| jA <| kx [(128, (vb false))] [] (zM <| zE (qL false qI) <| zZ) ?_
 refine kG ?_
 refine kB <| jA <| kJ (uV (t := 10) (k := 1) (es := List.map jN [y1, y2, y3]) rfl rfl (vK _ _ (fun _ => rfl)) (uS _ _ rfl) (xG _ _ (fun _ => rfl) rfl)) ?_
 refine kx [(2, (vl 52 1 jN [y1, y2, y3])), (3, (kD 0))] [] (zM <| zM <| zM <| zZ) ?_
 refine jJ ⟨_, (.tmp (d := (.sl 52 1 (List.map jN [[(jB (Rat.divInt ((((a * a) + (b * b)) - (c * c)) - (d * d)) (nq a b c d))), (jB (Rat.divInt (2 * ((b * c) - (a * d))) (nq a b c d))), (jB (Rat.divInt (2 * ((b * d) + (a * c))) (nq a b c d)))], [(jB (Rat.divInt (2 * ((b * c) + (a * d))) (nq a b c d))), (jB (Rat.divInt ((((a * a) - (b * b)) + (c * c)) - (d * d)) (nq a b c d))), (jB (Rat.divInt (2 * ((c * d) - (a * b))) (nq a b c d)))], [(jB (Rat.divInt (2 * ((b * d) - (a * c))) (nq a b c d))), (jB (Rat.divInt (2 * ((c * d) + (a * b))) (nq a b c d))), (jB (Rat.divInt ((((a * a) - (b * b)) - (c * c)) + (d * d)) (nq a b c d)))]]))) rfl (.tmp (d := (.val (.int .i64 (((0 : Nat) : Int))))) rfl .nil)), ?_⟩
 rfl
end Go.Proofs.YtbecgnplakngdaaGreat
