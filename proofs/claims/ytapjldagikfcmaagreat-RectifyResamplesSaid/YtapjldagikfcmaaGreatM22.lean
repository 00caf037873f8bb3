/- Part 22 of a proof: rules, plain facts, and functions walked. -/
import Derived.Test.YtapjldagikfcmaaGreatM20
import Derived.Test.YtapjldagikfcmaaGreatM21
namespace Go.Proofs.YtapjldagikfcmaaGreat
open Go.Fid
set_option maxRecDepth 4000
set_option linter.unusedVariables false
set_option linter.unusedSimpArgs false
theorem xE : eP Tryz.prog 101 = some (3, 38, 4) := by kernel_rfl
theorem nV : eP Tryz.prog 102 = some (3, 101, 12) := by kernel_rfl
theorem uI : eP Tryz.prog 221 = some (3, 38, 4) := by kernel_rfl
theorem vK : eP Tryz.prog 223 = some (3, 221, 12) := by kernel_rfl
theorem cb119 : callB Tryz.prog 119 = true := by kernel_rfl
theorem cb120 : callB Tryz.prog 120 = true := by kernel_rfl
theorem cb121 : callB Tryz.prog 121 = true := by kernel_rfl
theorem cb122 : callB Tryz.prog 122 = true := by kernel_rfl
theorem cb125 : callB Tryz.prog 125 = true := by kernel_rfl
theorem cb153 : callB Tryz.prog 153 = true := by kernel_rfl
theorem cb154 : callB Tryz.prog 154 = true := by kernel_rfl
theorem cb208 : callB Tryz.prog 208 = true := by kernel_rfl
theorem cb210 : callB Tryz.prog 210 = true := by kernel_rfl
theorem cb211 : callB Tryz.prog 211 = true := by kernel_rfl
theorem cb214 : callB Tryz.prog 214 = true := by kernel_rfl
theorem cb221 : callB Tryz.prog 221 = true := by kernel_rfl
theorem cb222 : callB Tryz.prog 222 = true := by kernel_rfl
theorem cb232 : callB Tryz.prog 232 = true := by kernel_rfl
theorem cb236 : callB Tryz.prog 236 = true := by kernel_rfl
theorem cb240 : callB Tryz.prog 240 = true := by kernel_rfl
theorem cb264 : callB Tryz.prog 264 = true := by kernel_rfl
theorem vZ : zJ Tryz.prog 62 = some (38, 4) := by kernel_rfl
theorem uG : uJ Tryz.prog 101 = some (true, 12) := by kernel_rfl
theorem qX : uJ Tryz.prog 221 = some (true, 12) := by kernel_rfl
theorem nK : uJ Tryz.prog 223 = some (true, 36) := by kernel_rfl
theorem mY : xL Tryz.prog 101 = some [.bool false, .slice none 0 0, .bool false, .slice none 0 0, .bool false, .slice none 0 0, .bool false, .slice none 0 0, .bool false, .slice none 0 0, .bool false, .slice none 0 0] := by kernel_rfl
theorem nD : xL Tryz.prog 221 = some [.bool false, .slice none 0 0, .bool false, .slice none 0 0, .bool false, .slice none 0 0, .bool false, .slice none 0 0, .bool false, .slice none 0 0, .bool false, .slice none 0 0] := by kernel_rfl
theorem eI : xL Tryz.prog 223 = some [.bool false, .slice none 0 0, .bool false, .slice none 0 0, .bool false, .slice none 0 0, .bool false, .slice none 0 0, .bool false, .slice none 0 0, .bool false, .slice none 0 0, .bool false, .slice none 0 0, .bool false, .slice none 0 0, .bool false, .slice none 0 0, .bool false, .slice none 0 0, .bool false, .slice none 0 0, .bool false, .slice none 0 0, .bool false, .slice none 0 0, .bool false, .slice none 0 0, .bool false, .slice none 0 0, .bool false, .slice none 0 0, .bool false, .slice none 0 0, .bool false, .slice none 0 0] := by kernel_rfl
theorem cC : cD [.bool false, .slice none 0 0, .bool false, .slice none 0 0, .bool false, .slice none 0 0, .bool false, .slice none 0 0, .bool false, .slice none 0 0, .bool false, .slice none 0 0] [.val (.bool false), .sl 181 1 [], .val (.bool false), .sl 181 1 [], .val (.bool false), .sl 181 1 [], .val (.bool false), .sl 181 1 [], .val (.bool false), .sl 181 1 [], .val (.bool false), .sl 181 1 []] := by simp [cD, Value.oneCell']
theorem nC : cD [.bool false, .slice none 0 0, .bool false, .slice none 0 0, .bool false, .slice none 0 0, .bool false, .slice none 0 0, .bool false, .slice none 0 0, .bool false, .slice none 0 0] [.val (.bool false), .sl 181 1 [], .val (.bool false), .sl 181 1 [], .val (.bool false), .sl 181 1 [], .val (.bool false), .sl 181 1 [], .val (.bool false), .sl 181 1 [], .val (.bool false), .sl 181 1 []] := by simp [cD, Value.oneCell']
theorem eK : cD [.bool false, .slice none 0 0, .bool false, .slice none 0 0, .bool false, .slice none 0 0, .bool false, .slice none 0 0, .bool false, .slice none 0 0, .bool false, .slice none 0 0, .bool false, .slice none 0 0, .bool false, .slice none 0 0, .bool false, .slice none 0 0, .bool false, .slice none 0 0, .bool false, .slice none 0 0, .bool false, .slice none 0 0, .bool false, .slice none 0 0, .bool false, .slice none 0 0, .bool false, .slice none 0 0, .bool false, .slice none 0 0, .bool false, .slice none 0 0, .bool false, .slice none 0 0] [.val (.bool false), .sl 181 1 [], .val (.bool false), .sl 181 1 [], .val (.bool false), .sl 181 1 [], .val (.bool false), .sl 181 1 [], .val (.bool false), .sl 181 1 [], .val (.bool false), .sl 181 1 [], .val (.bool false), .sl 181 1 [], .val (.bool false), .sl 181 1 [], .val (.bool false), .sl 181 1 [], .val (.bool false), .sl 181 1 [], .val (.bool false), .sl 181 1 [], .val (.bool false), .sl 181 1 [], .val (.bool false), .sl 181 1 [], .val (.bool false), .sl 181 1 [], .val (.bool false), .sl 181 1 [], .val (.bool false), .sl 181 1 [], .val (.bool false), .sl 181 1 [], .val (.bool false), .sl 181 1 []] := by simp [cD, Value.oneCell']
theorem q_dotF (ta : Nat) (a0 a1 a2 : Rat) (ha0 : QL a0 100000000) (ha1 : QL a1 100000000) (ha2 : QL a2 100000000) (tb : Nat) (b0 b1 b2 : Rat) (hb0 : QL b0 100000000) (hb1 : QL b1 100000000) (hb2 : QL b2 100000000) : kH Tryz.prog 240 [(.sl ta 4 (List.map jP [(jD a0), (jD a1), (jD a2)])), (.sl tb 4 (List.map jP [(jD b0), (jD b1), (jD b2)]))] (.tup [(jP (jD (jH a0 a1 a2 b0 b1 b2))), (.val (.int .i64 (0)))]) := by
 refine jM Tryz.func240 rfl cb240 rfl ?_
 show uY _ _ _ _ ⟨[(0, (vl ta 4 jP [(jD a0), (jD a1), (jD a2)])), (1, (vl tb 4 jP [(jD b0), (jD b1), (jD b2)]))], []⟩
 refine jA <| kx [(4, (.ref 0 0))] [(0, some (bx (jP (jZ.mk (jI.mk false []) (jI.mk false [])))))] (zN (uK 0 qZ uF) <| zM <| zZ) ?_
 refine jA <| jA <| kx [(13, (vb false))] [] (zM <| zE (bJ vZ 3) <| zM <| zE (bJ vZ 3) <| zE (kR false eS) <| zZ) ?_
 refine jT ?_
 refine jB <| jA ?_
 have bn1 : QL ((0 : Int) : Rat) 1 := (kL (z := 0) (vR (by decide)) (by decide))
 refine kx [(6, (.ref 1 0))] [(1, some (bx (jP (jD ((0 : Int) : Rat)))))] (zE (kB (gQ 0 (by decide) (by decide))) <| zN (uK 1 qZ uF) <| zT (qG jR) <| zZ) ?_
 refine jA <| jA <| kx [(16, (vl ta 4 jP [(jD a0), (jD a1), (jD a2)])), (17, (kD 3)), (18, (kD 0))] [] (zM <| zE (bJ vZ 3) <| zM <| zZ) ?_
 refine jE <| qF 20 ?_
 refine qU <| jA <| kx [(19, (vb true))] [] (zE (kR true qY) <| zZ) ?_
 refine jA <| jX ?_
 refine jB <| jA <| jE <| jA <| kx [(7, (kD 0)), (8, (.ref 2 0))] [(2, some (bx (jP (jD a0))))] (zM <| zE (zS vZ 0) <| zE (dH jR) <| zN (uK 2 qZ uF) <| zM <| zT (qG jR) <| zZ) ?_
 have bn2 : QL (((0 : Int) : Rat) + (a0 * b0)) 200000002 := (kQ (k := 200000002) bn1 (jG (k := 200000000) ha0 hb0 (by decide)) (by decide))
 refine kd [] [(1, some (bx (jP (jD (((0 : Int) : Rat) + (a0 * b0))))))] mo (wR (kC jR) <| wR (kC jR) <| wM <| wM <| wE (zS vZ 0) <| wE (dH jR) <| wE (kB (eM (jD a0) (jD b0) a0 b0 (jY (kA ha0) (by decide)) (jY (kA hb0) (by decide)))) <| wE (kB (f_add (jD ((0 : Int) : Rat)) (jD (a0 * b0)) ((0 : Int) : Rat) (a0 * b0) (jY (kA bn1) (by decide)) (jY (kA (jG (k := 200000000) ha0 hb0 (by decide))) (by decide)))) <| wT (qG jR) <| wZ) ?_
 refine kx [(18, (kD 1))] [] (zE (uE 1 (hr := by decide)) <| zM <| zZ) ?_
 refine jJ (jW.refl _) ?_
 refine jA <| kx [(19, (vb true))] [] (zE (kR true qY) <| zZ) ?_
 refine jA <| jX ?_
 refine jB <| jA <| jE <| jA <| kx [(7, (kD 1)), (8, (.ref 3 0))] [(3, some (bx (jP (jD a1))))] (zM <| zE (zS vZ 1) <| zE (dH jR) <| zN (uK 3 qZ uF) <| zM <| zT (qG jR) <| zZ) ?_
 have bn3 : QL ((((0 : Int) : Rat) + (a0 * b0)) + (a1 * b1)) 400000003 := (kQ (k := 400000003) bn2 (jG (k := 200000000) ha1 hb1 (by decide)) (by decide))
 refine kd [] [(1, some (bx (jP (jD ((((0 : Int) : Rat) + (a0 * b0)) + (a1 * b1))))))] mo (wR (kC jR) <| wR (kC jR) <| wM <| wM <| wE (zS vZ 1) <| wE (dH jR) <| wE (kB (eM (jD a1) (jD b1) a1 b1 (jY (kA ha1) (by decide)) (jY (kA hb1) (by decide)))) <| wE (kB (f_add (jD (((0 : Int) : Rat) + (a0 * b0))) (jD (a1 * b1)) (((0 : Int) : Rat) + (a0 * b0)) (a1 * b1) (jY (kA bn2) (by decide)) (jY (kA (jG (k := 200000000) ha1 hb1 (by decide))) (by decide)))) <| wT (qG jR) <| wZ) ?_
 refine kx [(18, (kD 2))] [] (zE (uE 2 (hr := by decide)) <| zM <| zZ) ?_
 refine jJ (jW.refl _) ?_
 refine jA <| kx [(19, (vb true))] [] (zE (kR true qY) <| zZ) ?_
 refine jA <| jX ?_
 refine jB <| jA <| jE <| jA <| kx [(7, (kD 2)), (8, (.ref 4 0))] [(4, some (bx (jP (jD a2))))] (zM <| zE (zS vZ 2) <| zE (dH jR) <| zN (uK 4 qZ uF) <| zM <| zT (qG jR) <| zZ) ?_
 refine kP (wk (l := [(1, (vl tb 4 jP [(jD b0), (jD b1), (jD b2)])), (4, (.ref 0 0)), (6, (.ref 1 0)), (7, (kD 2)), (8, (.ref 4 0)), (16, (vl ta 4 jP [(jD a0), (jD a1), (jD a2)])), (17, (kD 3)), (18, (kD 2))]) (b := [(0, some (bx (jP (jZ.mk (jI.mk false []) (jI.mk false []))))), (1, some (bx (jP (jD ((((0 : Int) : Rat) + (a0 * b0)) + (a1 * b1)))))), (4, some (bx (jP (jD a2))))])) ?_
 have bn4 : QL (((((0 : Int) : Rat) + (a0 * b0)) + (a1 * b1)) + (a2 * b2)) 600000004 := (kQ (k := 600000004) bn3 (jG (k := 200000000) ha2 hb2 (by decide)) (by decide))
 refine kd [] [(1, some (bx (jP (jD (((((0 : Int) : Rat) + (a0 * b0)) + (a1 * b1)) + (a2 * b2))))))] mo (wR (kC jR) <| wR (kC jR) <| wM <| wM <| wE (zS vZ 2) <| wE (dH jR) <| wE (kB (eM (jD a2) (jD b2) a2 b2 (jY (kA ha2) (by decide)) (jY (kA hb2) (by decide)))) <| wE (kB (f_add (jD ((((0 : Int) : Rat) + (a0 * b0)) + (a1 * b1))) (jD (a2 * b2)) ((((0 : Int) : Rat) + (a0 * b0)) + (a1 * b1)) (a2 * b2) (jY (kA bn3) (by decide)) (jY (kA (jG (k := 200000000) ha2 hb2 (by decide))) (by decide)))) <| wT (qG jR) <| wZ) ?_
 refine kx [(18, (kD 3))] [] (zE (uE 3 (hr := by decide)) <| zM <| zZ) ?_
 refine jJ (jW.refl _) ?_
 refine jA <| kx [(19, (vb false))] [] (zE (kR false qY) <| zZ) ?_
 refine jA <| jT ?_
 refine kJ <| jA <| kx [(5, (kD 0))] [(0, some (bx (jP (jD (((((0 : Int) : Rat) + (a0 * b0)) + (a1 * b1)) + (a2 * b2))))))] (zR (kC jR) <| zT (qG jR) <| zM <| zZ) ?_
 refine jF ⟨_, (qS (cs := (bx (jP (jD (((((0 : Int) : Rat) + (a0 * b0)) + (a1 * b1)) + (a2 * b2)))))) (d := (jP (jD (((((0 : Int) : Rat) + (a0 * b0)) + (a1 * b1)) + (a2 * b2))))) rfl rfl jR rfl rfl (.tmp (d := (.val (.int .i64 (((0 : Nat) : Int))))) rfl .nil)), ?_⟩
 rw [← dot3_eq]; rfl
theorem q_dotL (ta : Nat) (a0 a1 a2 : Rat) (ha0 : QL a0 100000000) (ha1 : QL a1 100000000) (ha2 : QL a2 100000000) (tb : Nat) (b0 b1 b2 : Rat) (hb0 : QL b0 100000000) (hb1 : QL b1 100000000) (hb2 : QL b2 100000000) : kH Tryz.prog 264 [(.sl ta 4 (List.map jP [(jD a0), (jD a1), (jD a2)])), (.sl tb 4 (List.map jP [(jD b0), (jD b1), (jD b2)]))] (.tup [(jP (jD (jH a0 a1 a2 b0 b1 b2))), (.val (.int .i64 (0)))]) := by
 refine jM Tryz.func264 rfl cb264 rfl ?_
 show uY _ _ _ _ ⟨[(0, (vl ta 4 jP [(jD a0), (jD a1), (jD a2)])), (1, (vl tb 4 jP [(jD b0), (jD b1), (jD b2)]))], []⟩
 refine jA <| kx [(4, (.ref 0 0))] [(0, some (bx (jP (jZ.mk (jI.mk false []) (jI.mk false [])))))] (zN (uK 0 qZ uF) <| zM <| zZ) ?_
 refine jA <| jA <| kx [(12, (vb false))] [] (zM <| zE (bJ vZ 3) <| zM <| zE (bJ vZ 3) <| zE (kR false eS) <| zZ) ?_
 refine jT ?_
 refine jB <| jA ?_
 have bn1 : QL ((0 : Int) : Rat) 1 := (kL (z := 0) (vR (by decide)) (by decide))
 refine kx [(6, (.ref 1 0))] [(1, some (bx (jP (jD ((0 : Int) : Rat)))))] (zE (kB (nQ 0 (by decide) (by decide))) <| zN (uK 1 qZ uF) <| zT (qG jR) <| zZ) ?_
 refine jA <| jA <| kx [(7, (kD 0))] [] (zM <| zZ) ?_
 refine jE <| qF 20 ?_
 refine qU <| jA <| jA <| kx [(18, (vb true))] [] (zM <| zM <| zE (bJ vZ 3) <| zE (kR true qY) <| zZ) ?_
 refine jX ?_
 refine jB <| jA <| jE ?_
 have bn2 : QL (((0 : Int) : Rat) + (a0 * b0)) 200000002 := (kQ (k := 200000002) bn1 (jG (k := 200000000) ha0 hb0 (by decide)) (by decide))
 refine kd [] [(1, some (bx (jP (jD (((0 : Int) : Rat) + (a0 * b0))))))] mo (wR (kC jR) <| wM <| wM <| wE (zS vZ 0) <| wE (dH jR) <| wM <| wM <| wE (zS vZ 0) <| wE (dH jR) <| wE (kB (eW (jD a0) (jD b0) a0 b0 (jY (kA ha0) (by decide)) (jY (kA hb0) (by decide)))) <| wE (kB (g_add (jD ((0 : Int) : Rat)) (jD (a0 * b0)) ((0 : Int) : Rat) (a0 * b0) (jY (kA bn1) (by decide)) (jY (kA (jG (k := 200000000) ha0 hb0 (by decide))) (by decide)))) <| wT (qG jR) <| wZ) ?_
 refine kx [(7, (kD 1))] [] (zM <| zE (uE 1 (hr := by decide)) <| zM <| zZ) ?_
 refine jJ (jW.refl _) ?_
 refine jA <| jA <| kx [(18, (vb true))] [] (zM <| zM <| zE (bJ vZ 3) <| zE (kR true qY) <| zZ) ?_
 refine jX ?_
 refine jB <| jA <| jE ?_
 have bn3 : QL ((((0 : Int) : Rat) + (a0 * b0)) + (a1 * b1)) 400000003 := (kQ (k := 400000003) bn2 (jG (k := 200000000) ha1 hb1 (by decide)) (by decide))
 refine kd [] [(1, some (bx (jP (jD ((((0 : Int) : Rat) + (a0 * b0)) + (a1 * b1))))))] mo (wR (kC jR) <| wM <| wM <| wE (zS vZ 1) <| wE (dH jR) <| wM <| wM <| wE (zS vZ 1) <| wE (dH jR) <| wE (kB (eW (jD a1) (jD b1) a1 b1 (jY (kA ha1) (by decide)) (jY (kA hb1) (by decide)))) <| wE (kB (g_add (jD (((0 : Int) : Rat) + (a0 * b0))) (jD (a1 * b1)) (((0 : Int) : Rat) + (a0 * b0)) (a1 * b1) (jY (kA bn2) (by decide)) (jY (kA (jG (k := 200000000) ha1 hb1 (by decide))) (by decide)))) <| wT (qG jR) <| wZ) ?_
 refine kx [(7, (kD 2))] [] (zM <| zE (uE 2 (hr := by decide)) <| zM <| zZ) ?_
 refine jJ (jW.refl _) ?_
 refine jA <| jA <| kx [(18, (vb true))] [] (zM <| zM <| zE (bJ vZ 3) <| zE (kR true qY) <| zZ) ?_
 refine jX ?_
 refine jB <| jA <| jE ?_
 have bn4 : QL (((((0 : Int) : Rat) + (a0 * b0)) + (a1 * b1)) + (a2 * b2)) 600000004 := (kQ (k := 600000004) bn3 (jG (k := 200000000) ha2 hb2 (by decide)) (by decide))
 refine kd [] [(1, some (bx (jP (jD (((((0 : Int) : Rat) + (a0 * b0)) + (a1 * b1)) + (a2 * b2))))))] mo (wR (kC jR) <| wM <| wM <| wE (zS vZ 2) <| wE (dH jR) <| wM <| wM <| wE (zS vZ 2) <| wE (dH jR) <| wE (kB (eW (jD a2) (jD b2) a2 b2 (jY (kA ha2) (by decide)) (jY (kA hb2) (by decide)))) <| wE (kB (g_add (jD ((((0 : Int) : Rat) + (a0 * b0)) + (a1 * b1))) (jD (a2 * b2)) ((((0 : Int) : Rat) + (a0 * b0)) + (a1 * b1)) (a2 * b2) (jY (kA bn3) (by decide)) (jY (kA (jG (k := 200000000) ha2 hb2 (by decide))) (by decide)))) <| wT (qG jR) <| wZ) ?_
 refine kx [(7, (kD 3))] [] (zM <| zE (uE 3 (hr := by decide)) <| zM <| zZ) ?_
 refine jJ (jW.refl _) ?_
 refine jA <| jA <| kx [(18, (vb false))] [] (zM <| zM <| zE (bJ vZ 3) <| zE (kR false qY) <| zZ) ?_
 refine jT ?_
 refine kJ <| jA <| kP (wk (l := [(0, (vl ta 4 jP [(jD a0), (jD a1), (jD a2)])), (1, (vl tb 4 jP [(jD b0), (jD b1), (jD b2)])), (4, (.ref 0 0)), (6, (.ref 1 0)), (7, (kD 3)), (18, (vb false))]) (b := [(0, some (bx (jP (jZ.mk (jI.mk false []) (jI.mk false []))))), (1, some (bx (jP (jD (((((0 : Int) : Rat) + (a0 * b0)) + (a1 * b1)) + (a2 * b2))))))])) ?_
 refine kx [(5, (kD 0))] [(0, some (bx (jP (jD (((((0 : Int) : Rat) + (a0 * b0)) + (a1 * b1)) + (a2 * b2))))))] (zR (kC jR) <| zT (qG jR) <| zM <| zZ) ?_
 refine jF ⟨_, (qS (cs := (bx (jP (jD (((((0 : Int) : Rat) + (a0 * b0)) + (a1 * b1)) + (a2 * b2)))))) (d := (jP (jD (((((0 : Int) : Rat) + (a0 * b0)) + (a1 * b1)) + (a2 * b2))))) rfl rfl jR rfl rfl (.tmp (d := (.val (.int .i64 (((0 : Nat) : Int))))) rfl .nil)), ?_⟩
 rw [← dot3_eq]; rfl
theorem q_whole (x : Int) (hxl : -9223372036854775808 ≤ x) (hxh : x ≤ 9223372036854775807) (y : Int) (hyl : -9223372036854775808 ≤ y) (hyh : y ≤ 9223372036854775807) (z : Int) (hzl : -9223372036854775808 ≤ z) (hzh : z ≤ 9223372036854775807) : kH Tryz.prog 153 [(.val (.int .i64 (x))), (.val (.int .i64 (y))), (.val (.int .i64 (z)))] (jK (A3.mk (jD ((x : Int) : Rat)) (jD ((y : Int) : Rat)) (jD ((z : Int) : Rat)))) := by
 refine jM Tryz.func153 rfl cb153 rfl ?_
 show uY _ _ _ _ ⟨[(0, (vi x)), (1, (vi y)), (2, (vi z))], []⟩
 refine jA <| kx [(6, (.ref 0 0))] [(0, some (bx (jK (A3.mk (jZ.mk (jI.mk false []) (jI.mk false [])) (jZ.mk (jI.mk false []) (jI.mk false [])) (jZ.mk (jI.mk false []) (jI.mk false []))))))] (zN (uK 0 nD nC) <| zZ) ?_
 refine jA ?_
 have bn1 : QL ((x : Int) : Rat) 3 := (kL (z := x) (jN (by omega) (by omega)) (by decide))
 have bn2 : QL ((y : Int) : Rat) 3 := (kL (z := y) (jN (by omega) (by omega)) (by decide))
 have bn3 : QL ((z : Int) : Rat) 3 := (kL (z := z) (jN (by omega) (by omega)) (by decide))
 refine kx [] [(0, some (bx (jK (A3.mk (jD ((x : Int) : Rat)) (jD ((y : Int) : Rat)) (jD ((z : Int) : Rat))))))] (zM <| zE (kB (gQ x (by omega) (by omega))) <| zM <| zE (kB (gQ y (by omega) (by omega))) <| zM <| zE (kB (gQ z (by omega) (by omega))) <| zE (oBf uI nD nC) <| zT (qG qX) <| zZ) ?_
 refine jF ⟨_, (qS (cs := (bx (jK (A3.mk (jD ((x : Int) : Rat)) (jD ((y : Int) : Rat)) (jD ((z : Int) : Rat)))))) (d := (jK (A3.mk (jD ((x : Int) : Rat)) (jD ((y : Int) : Rat)) (jD ((z : Int) : Rat))))) rfl rfl qX rfl rfl .nil), ?_⟩
 rfl
theorem q_dot (a0 a1 a2 : Rat) (ha0 : QL a0 100000000) (ha1 : QL a1 100000000) (ha2 : QL a2 100000000) (b0 b1 b2 : Rat) (hb0 : QL b0 100000000) (hb1 : QL b1 100000000) (hb2 : QL b2 100000000) : kH Tryz.prog 154 [(jK (A3.mk (jD a0) (jD a1) (jD a2))), (jK (A3.mk (jD b0) (jD b1) (jD b2)))] (jP (jD (jH a0 a1 a2 b0 b1 b2))) := by
 refine jM Tryz.func154 rfl cb154 rfl ?_
 show uY _ _ _ _ ⟨[(0, (.d (jK (A3.mk (jD a0) (jD a1) (jD a2))))), (1, (.d (jK (A3.mk (jD b0) (jD b1) (jD b2)))))], []⟩
 refine jA <| kx [(2, (.ref 0 0)), (3, (.ref 1 0)), (4, (.ref 2 0))] [(0, some (bx (jK (A3.mk (jD a0) (jD a1) (jD a2))))), (1, some (bx (jK (A3.mk (jD b0) (jD b1) (jD b2))))), (2, some (bx (jP (jZ.mk (jI.mk false []) (jI.mk false [])))))] (zN (vD 0) <| zN (vD 1) <| zN (uK 2 qZ uF) <| zZ) ?_
 refine jA ?_
 have bn1 : QL (jH a0 a1 a2 b0 b1 b2) 600000002 := (jS (n := 100000000) (k := 600000002) ha0 ha1 ha2 hb0 hb1 hb2 (by decide))
 refine kd [(5, (.ref 3 0))] [(3, some (bx (jP (jD (jH a0 a1 a2 b0 b1 b2)))))] mo (wE (e_slv (by exact rfl) uI (by exact rfl) (by kernel_rfl) (by kernel_rfl)) <| wE (e_slv (by exact rfl) uI (by exact rfl) (by kernel_rfl) (by kernel_rfl)) <| wC (oCg [(0, (kX.cells (jK (A3.mk (jD a0) (jD a1) (jD a2))))), (1, (kX.cells (jK (A3.mk (jD b0) (jD b1) (jD b2)))))] [(.view 0 0 3), (.view 1 0 3)] (q_dotF 1000000 a0 a1 a2 ha0 ha1 ha2 1000000 b0 b1 b2 hb0 hb1 hb2) (.v (es := List.map jP [(jD a0), (jD a1), (jD a2)]) (.head _) (hO _ _ (fun _ => rfl)) (by kernel_rfl) (by kernel_rfl) (.v (es := List.map jP [(jD b0), (jD b1), (jD b2)]) (.tail _ (.head _)) (hO _ _ (fun _ => rfl)) (by kernel_rfl) (by kernel_rfl) .nil)) (.tup (eH (avo_encR (by decide) _) (eH (.val _) avo_nil)))) <| wM <| wE vA <| wE vA <| wN (uK 3 qZ uF) <| wT (qG jR) <| wM <| wZ) ?_
 refine jA <| kx [] [(2, some (bx (jP (jD (jH a0 a1 a2 b0 b1 b2)))))] (zR (kC jR) <| zT (qG jR) <| zZ) ?_
 refine jF ⟨_, (qS (cs := (bx (jP (jD (jH a0 a1 a2 b0 b1 b2))))) (d := (jP (jD (jH a0 a1 a2 b0 b1 b2)))) rfl rfl jR rfl rfl .nil), ?_⟩
 rfl
theorem q_cross (a0 a1 a2 : Rat) (ha0 : QL a0 100000000) (ha1 : QL a1 100000000) (ha2 : QL a2 100000000) (b0 b1 b2 : Rat) (hb0 : QL b0 100000000) (hb1 : QL b1 100000000) (hb2 : QL b2 100000000) : kH Tryz.prog 211 [(jK (A3.mk (jD a0) (jD a1) (jD a2))), (jK (A3.mk (jD b0) (jD b1) (jD b2)))] (jK (A3.mk (jD ((a1 * b2) - (a2 * b1))) (jD ((a2 * b0) - (a0 * b2))) (jD ((a0 * b1) - (a1 * b0))))) := by
 let y2 := (jZ.mk (jI.mk false []) (jI.mk false []))
 let y1 := (bx (jK (A3.mk y2 y2 y2)))
 refine jM Tryz.func211 rfl cb211 rfl ?_
 show uY _ _ _ _ ⟨[(0, (.d (jK (A3.mk (jD a0) (jD a1) (jD a2))))), (1, (.d (jK (A3.mk (jD b0) (jD b1) (jD b2)))))], []⟩
 refine jA <| kx [(2, (.ref 0 0)), (3, (.ref 1 0)), (4, (.ref 2 0))] [(0, some (bx (jK (A3.mk (jD a0) (jD a1) (jD a2))))), (1, some (bx (jK (A3.mk (jD b0) (jD b1) (jD b2))))), (2, some y1)] (zN (vD 0) <| zN (vD 1) <| zN (uK 2 nD nC) <| zZ) ?_
 refine jA <| kx [(5, (.ref 3 0))] [(3, some y1)] (zN (uK 3 nD nC) <| zZ) ?_
 refine jA <| jA <| kx [(9, (kD 0))] [] (zM <| zZ) ?_
 refine jE <| qF 20 ?_
 refine qU <| jA <| kx [(10, (vb true))] [] (zE (kR true qY) <| zZ) ?_
 refine jA <| jX ?_
 refine jB <| jA <| jE <| jA <| kx [(6, (kD 0))] [] (zM <| zM <| zZ) ?_
 refine jA <| kx [(7, (kD 1)), (8, (kD 2))] [] (zM <| zE (uE 1 (hr := by decide)) <| zE (oRe 1 (hr := by decide)) <| zM <| zE (uE 2 (hr := by decide)) <| zE (oRe 2 (hr := by decide)) <| zM <| zM <| zZ) ?_
 have bn1 : QL ((a1 * b2) - (a2 * b1)) 400000001 := (xG (k := 400000001) (jG (k := 200000000) ha1 hb2 (by decide)) (jG (k := 200000000) ha2 hb1 (by decide)) (by decide))
 refine kd [] [(3, some (bx (jK (A3.mk (jD ((a1 * b2) - (a2 * b1))) y2 y2))))] mo (wM <| wM <| wE (vL uI 1) <| wR (kC jR) <| wM <| wE (vL uI 2) <| wR (kC jR) <| wE (kB (eM (jD a1) (jD b2) a1 b2 (jY (kA ha1) (by decide)) (jY (kA hb2) (by decide)))) <| wM <| wE (vL uI 2) <| wR (kC jR) <| wM <| wE (vL uI 1) <| wR (kC jR) <| wE (kB (eM (jD a2) (jD b1) a2 b1 (jY (kA ha2) (by decide)) (jY (kA hb1) (by decide)))) <| wE (kB (f_sub (jD (a1 * b2)) (jD (a2 * b1)) (a1 * b2) (a2 * b1) (jY (kA (jG (k := 200000000) ha1 hb2 (by decide))) (by decide)) (jY (kA (jG (k := 200000000) ha2 hb1 (by decide))) (by decide)))) <| wE (vL uI 0) <| wT (qG jR) <| wZ) ?_
 refine kx [(9, (kD 1))] [] (zE (uE 1 (hr := by decide)) <| zM <| zZ) ?_
 refine jJ (jW.refl _) ?_
 refine jA <| kx [(10, (vb true))] [] (zE (kR true qY) <| zZ) ?_
 refine jA <| jX ?_
 refine jB <| jA <| jE <| jA <| kx [(6, (kD 1))] [] (zM <| zM <| zZ) ?_
 refine jA <| kx [(7, (kD 2)), (8, (kD 0))] [] (zM <| zE (uE 2 (hr := by decide)) <| zE (oRe 2 (hr := by decide)) <| zM <| zE (uE 3 (hr := by decide)) <| zE (oRe 0 (hr := by decide)) <| zM <| zM <| zZ) ?_
 have bn2 : QL ((a2 * b0) - (a0 * b2)) 400000001 := (xG (k := 400000001) (jG (k := 200000000) ha2 hb0 (by decide)) (jG (k := 200000000) ha0 hb2 (by decide)) (by decide))
 refine kd [] [(3, some (bx (jK (A3.mk (jD ((a1 * b2) - (a2 * b1))) (jD ((a2 * b0) - (a0 * b2))) y2))))] mo (wM <| wM <| wE (vL uI 2) <| wR (kC jR) <| wM <| wE (vL uI 0) <| wR (kC jR) <| wE (kB (eM (jD a2) (jD b0) a2 b0 (jY (kA ha2) (by decide)) (jY (kA hb0) (by decide)))) <| wM <| wE (vL uI 0) <| wR (kC jR) <| wM <| wE (vL uI 2) <| wR (kC jR) <| wE (kB (eM (jD a0) (jD b2) a0 b2 (jY (kA ha0) (by decide)) (jY (kA hb2) (by decide)))) <| wE (kB (f_sub (jD (a2 * b0)) (jD (a0 * b2)) (a2 * b0) (a0 * b2) (jY (kA (jG (k := 200000000) ha2 hb0 (by decide))) (by decide)) (jY (kA (jG (k := 200000000) ha0 hb2 (by decide))) (by decide)))) <| wE (vL uI 1) <| wT (qG jR) <| wZ) ?_
 refine kx [(9, (kD 2))] [] (zE (uE 2 (hr := by decide)) <| zM <| zZ) ?_
 refine jJ (jW.refl _) ?_
 refine jA <| kx [(10, (vb true))] [] (zE (kR true qY) <| zZ) ?_
 refine jA <| jX ?_
 refine jB <| jA <| jE <| jA <| kP (wk (l := [(2, (.ref 0 0)), (3, (.ref 1 0)), (4, (.ref 2 0)), (5, (.ref 3 0)), (9, (kD 2)), (10, (vb true))]) (b := [(0, some (bx (jK (A3.mk (jD a0) (jD a1) (jD a2))))), (1, some (bx (jK (A3.mk (jD b0) (jD b1) (jD b2))))), (2, some y1), (3, some (bx (jK (A3.mk (jD ((a1 * b2) - (a2 * b1))) (jD ((a2 * b0) - (a0 * b2))) y2))))])) ?_
 refine kx [(6, (kD 2))] [] (zM <| zM <| zZ) ?_
 refine jA <| kx [(7, (kD 0)), (8, (kD 1))] [] (zM <| zE (uE 3 (hr := by decide)) <| zE (oRe 0 (hr := by decide)) <| zM <| zE (uE 4 (hr := by decide)) <| zE (oRe 1 (hr := by decide)) <| zM <| zM <| zZ) ?_
 have bn3 : QL ((a0 * b1) - (a1 * b0)) 400000001 := (xG (k := 400000001) (jG (k := 200000000) ha0 hb1 (by decide)) (jG (k := 200000000) ha1 hb0 (by decide)) (by decide))
 refine kd [] [(3, some (bx (jK (A3.mk (jD ((a1 * b2) - (a2 * b1))) (jD ((a2 * b0) - (a0 * b2))) (jD ((a0 * b1) - (a1 * b0)))))))] mo (wM <| wM <| wE (vL uI 0) <| wR (kC jR) <| wM <| wE (vL uI 1) <| wR (kC jR) <| wE (kB (eM (jD a0) (jD b1) a0 b1 (jY (kA ha0) (by decide)) (jY (kA hb1) (by decide)))) <| wM <| wE (vL uI 1) <| wR (kC jR) <| wM <| wE (vL uI 0) <| wR (kC jR) <| wE (kB (eM (jD a1) (jD b0) a1 b0 (jY (kA ha1) (by decide)) (jY (kA hb0) (by decide)))) <| wE (kB (f_sub (jD (a0 * b1)) (jD (a1 * b0)) (a0 * b1) (a1 * b0) (jY (kA (jG (k := 200000000) ha0 hb1 (by decide))) (by decide)) (jY (kA (jG (k := 200000000) ha1 hb0 (by decide))) (by decide)))) <| wE (vL uI 2) <| wT (qG jR) <| wZ) ?_
 refine kx [(9, (kD 3))] [] (zE (uE 3 (hr := by decide)) <| zM <| zZ) ?_
 refine jJ (jW.refl _) ?_
 refine jA <| kx [(10, (vb false))] [] (zE (kR false qY) <| zZ) ?_
 refine jA <| jT ?_
 refine kJ <| jA <| kx [] [(2, some (bx (jK (A3.mk (jD ((a1 * b2) - (a2 * b1))) (jD ((a2 * b0) - (a0 * b2))) (jD ((a0 * b1) - (a1 * b0)))))))] (zR (kC qX) <| zT (qG qX) <| zZ) ?_
 refine jF ⟨_, (qS (cs := (bx (jK (A3.mk (jD ((a1 * b2) - (a2 * b1))) (jD ((a2 * b0) - (a0 * b2))) (jD ((a0 * b1) - (a1 * b0))))))) (d := (jK (A3.mk (jD ((a1 * b2) - (a2 * b1))) (jD ((a2 * b0) - (a0 * b2))) (jD ((a0 * b1) - (a1 * b0)))))) rfl rfl qX rfl rfl .nil), ?_⟩
 rfl
theorem mH (a0 a1 a2 : Rat) (ha0 : QL a0 100000000) (ha1 : QL a1 100000000) (ha2 : QL a2 100000000) (k : Rat) (hk : QL k 100000000) : kH Tryz.prog 222 [(jK (A3.mk (jD a0) (jD a1) (jD a2))), (jP (jD k))] (jK (A3.mk (jD (a0 * k)) (jD (a1 * k)) (jD (a2 * k)))) := by
 let y1 := (jZ.mk (jI.mk false []) (jI.mk false []))
 refine jM Tryz.func222 rfl cb222 rfl ?_
 show uY _ _ _ _ ⟨[(0, (.d (jK (A3.mk (jD a0) (jD a1) (jD a2))))), (1, (.d (jP (jD k))))], []⟩
 refine jA <| kx [(2, (.ref 0 0)), (3, (.ref 1 0)), (4, (.ref 2 0))] [(0, some (bx (jK (A3.mk (jD a0) (jD a1) (jD a2))))), (1, some (bx (jP (jD k)))), (2, some (bx (jK (A3.mk y1 y1 y1))))] (zN (vD 0) <| zN (vD 1) <| zN (uK 2 nD nC) <| zZ) ?_
 refine jA <| jA <| kx [(6, (kD 0))] [] (zM <| zZ) ?_
 refine jE <| qF 20 ?_
 refine qU <| jA <| kx [(7, (vb true))] [] (zE (kR true qY) <| zZ) ?_
 refine jA <| jX ?_
 refine jB <| jA <| jE <| jA <| kx [(5, (kD 0))] [] (zM <| zM <| zZ) ?_
 refine kd [] [(0, some (bx (jK (A3.mk (jD (a0 * k)) (jD a1) (jD a2)))))] mo (wM <| wM <| wE (vL uI 0) <| wR (kC jR) <| wR (kC jR) <| wE (kB (eM (jD a0) (jD k) a0 k (jY (kA ha0) (by decide)) (jY (kA hk) (by decide)))) <| wE (vL uI 0) <| wT (qG jR) <| wZ) ?_
 refine kx [(6, (kD 1))] [] (zE (uE 1 (hr := by decide)) <| zM <| zZ) ?_
 refine jJ (jW.refl _) ?_
 refine jA <| kx [(7, (vb true))] [] (zE (kR true qY) <| zZ) ?_
 refine jA <| jX ?_
 refine jB <| jA <| jE <| jA <| kx [(5, (kD 1))] [] (zM <| zM <| zZ) ?_
 refine kd [] [(0, some (bx (jK (A3.mk (jD (a0 * k)) (jD (a1 * k)) (jD a2)))))] mo (wM <| wM <| wE (vL uI 1) <| wR (kC jR) <| wR (kC jR) <| wE (kB (eM (jD a1) (jD k) a1 k (jY (kA ha1) (by decide)) (jY (kA hk) (by decide)))) <| wE (vL uI 1) <| wT (qG jR) <| wZ) ?_
 refine kx [(6, (kD 2))] [] (zE (uE 2 (hr := by decide)) <| zM <| zZ) ?_
 refine jJ (jW.refl _) ?_
 refine jA <| kx [(7, (vb true))] [] (zE (kR true qY) <| zZ) ?_
 refine jA <| jX ?_
 refine jB <| jA <| jE <| jA <| kx [(5, (kD 2))] [] (zM <| zM <| zZ) ?_
 refine kd [] [(0, some (bx (jK (A3.mk (jD (a0 * k)) (jD (a1 * k)) (jD (a2 * k))))))] mo (wM <| wM <| wE (vL uI 2) <| wR (kC jR) <| wR (kC jR) <| wE (kB (eM (jD a2) (jD k) a2 k (jY (kA ha2) (by decide)) (jY (kA hk) (by decide)))) <| wE (vL uI 2) <| wT (qG jR) <| wZ) ?_
 refine kx [(6, (kD 3))] [] (zE (uE 3 (hr := by decide)) <| zM <| zZ) ?_
 refine jJ (jW.refl _) ?_
 refine jA <| kP (wk (l := [(2, (.ref 0 0)), (3, (.ref 1 0)), (4, (.ref 2 0)), (6, (kD 3))]) (b := [(0, some (bx (jK (A3.mk (jD (a0 * k)) (jD (a1 * k)) (jD (a2 * k)))))), (1, some (bx (jP (jD k)))), (2, some (bx (jK (A3.mk y1 y1 y1))))])) ?_
 refine kx [(7, (vb false))] [] (zE (kR false qY) <| zZ) ?_
 refine jA <| jT ?_
 refine kJ <| jA <| kx [] [(2, some (bx (jK (A3.mk (jD (a0 * k)) (jD (a1 * k)) (jD (a2 * k))))))] (zR (kC qX) <| zT (qG qX) <| zZ) ?_
 refine jF ⟨_, (qS (cs := (bx (jK (A3.mk (jD (a0 * k)) (jD (a1 * k)) (jD (a2 * k)))))) (d := (jK (A3.mk (jD (a0 * k)) (jD (a1 * k)) (jD (a2 * k))))) rfl rfl qX rfl rfl .nil), ?_⟩
 rfl
theorem q_sum (a0 a1 a2 : Rat) (ha0 : QL a0 1000000000) (ha1 : QL a1 1000000000) (ha2 : QL a2 1000000000) (b0 b1 b2 : Rat) (hb0 : QL b0 1000000000) (hb1 : QL b1 1000000000) (hb2 : QL b2 1000000000) : kH Tryz.prog 221 [(jK (A3.mk (jD a0) (jD a1) (jD a2))), (jK (A3.mk (jD b0) (jD b1) (jD b2)))] (jK (A3.mk (jD (a0 + b0)) (jD (a1 + b1)) (jD (a2 + b2)))) := by
 let y1 := (jZ.mk (jI.mk false []) (jI.mk false []))
 refine jM Tryz.func221 rfl cb221 rfl ?_
 show uY _ _ _ _ ⟨[(0, (.d (jK (A3.mk (jD a0) (jD a1) (jD a2))))), (1, (.d (jK (A3.mk (jD b0) (jD b1) (jD b2)))))], []⟩
 refine jA <| kx [(2, (.ref 0 0)), (3, (.ref 1 0)), (4, (.ref 2 0))] [(0, some (bx (jK (A3.mk (jD a0) (jD a1) (jD a2))))), (1, some (bx (jK (A3.mk (jD b0) (jD b1) (jD b2))))), (2, some (bx (jK (A3.mk y1 y1 y1))))] (zN (vD 0) <| zN (vD 1) <| zN (uK 2 nD nC) <| zZ) ?_
 refine jA <| jA <| kx [(6, (kD 0))] [] (zM <| zZ) ?_
 refine jE <| qF 20 ?_
 refine qU <| jA <| kx [(7, (vb true))] [] (zE (kR true qY) <| zZ) ?_
 refine jA <| jX ?_
 refine jB <| jA <| jE <| jA <| kx [(5, (kD 0))] [] (zM <| zM <| zZ) ?_
 refine kd [] [(0, some (bx (jK (A3.mk (jD (a0 + b0)) (jD a1) (jD a2)))))] mo (wM <| wM <| wE (vL uI 0) <| wR (kC jR) <| wM <| wE (vL uI 0) <| wR (kC jR) <| wE (kB (f_add (jD a0) (jD b0) a0 b0 (jY (kA ha0) (by decide)) (jY (kA hb0) (by decide)))) <| wE (vL uI 0) <| wT (qG jR) <| wZ) ?_
 refine kx [(6, (kD 1))] [] (zE (uE 1 (hr := by decide)) <| zM <| zZ) ?_
 refine jJ (jW.refl _) ?_
 refine jA <| kx [(7, (vb true))] [] (zE (kR true qY) <| zZ) ?_
 refine jA <| jX ?_
 refine jB <| jA <| jE <| jA <| kx [(5, (kD 1))] [] (zM <| zM <| zZ) ?_
 refine kd [] [(0, some (bx (jK (A3.mk (jD (a0 + b0)) (jD (a1 + b1)) (jD a2)))))] mo (wM <| wM <| wE (vL uI 1) <| wR (kC jR) <| wM <| wE (vL uI 1) <| wR (kC jR) <| wE (kB (f_add (jD a1) (jD b1) a1 b1 (jY (kA ha1) (by decide)) (jY (kA hb1) (by decide)))) <| wE (vL uI 1) <| wT (qG jR) <| wZ) ?_
 refine kx [(6, (kD 2))] [] (zE (uE 2 (hr := by decide)) <| zM <| zZ) ?_
 refine jJ (jW.refl _) ?_
 refine jA <| kx [(7, (vb true))] [] (zE (kR true qY) <| zZ) ?_
 refine jA <| jX ?_
 refine jB <| jA <| jE <| jA <| kx [(5, (kD 2))] [] (zM <| zM <| zZ) ?_
 refine kd [] [(0, some (bx (jK (A3.mk (jD (a0 + b0)) (jD (a1 + b1)) (jD (a2 + b2))))))] mo (wM <| wM <| wE (vL uI 2) <| wR (kC jR) <| wM <| wE (vL uI 2) <| wR (kC jR) <| wE (kB (f_add (jD a2) (jD b2) a2 b2 (jY (kA ha2) (by decide)) (jY (kA hb2) (by decide)))) <| wE (vL uI 2) <| wT (qG jR) <| wZ) ?_
 refine kx [(6, (kD 3))] [] (zE (uE 3 (hr := by decide)) <| zM <| zZ) ?_
 refine jJ (jW.refl _) ?_
 refine jA <| kP (wk (l := [(2, (.ref 0 0)), (3, (.ref 1 0)), (4, (.ref 2 0)), (6, (kD 3))]) (b := [(0, some (bx (jK (A3.mk (jD (a0 + b0)) (jD (a1 + b1)) (jD (a2 + b2)))))), (1, some (bx (jK (A3.mk (jD b0) (jD b1) (jD b2))))), (2, some (bx (jK (A3.mk y1 y1 y1))))])) ?_
 refine kx [(7, (vb false))] [] (zE (kR false qY) <| zZ) ?_
 refine jA <| jT ?_
 refine kJ <| jA <| kx [] [(2, some (bx (jK (A3.mk (jD (a0 + b0)) (jD (a1 + b1)) (jD (a2 + b2))))))] (zR (kC qX) <| zT (qG qX) <| zZ) ?_
 refine jF ⟨_, (qS (cs := (bx (jK (A3.mk (jD (a0 + b0)) (jD (a1 + b1)) (jD (a2 + b2)))))) (d := (jK (A3.mk (jD (a0 + b0)) (jD (a1 + b1)) (jD (a2 + b2))))) rfl rfl qX rfl rfl .nil), ?_⟩
 rfl
theorem qs_whole (x : Int) (hxl : -9223372036854775808 ≤ x) (hxh : x ≤ 9223372036854775807) (y : Int) (hyl : -9223372036854775808 ≤ y) (hyh : y ≤ 9223372036854775807) (z : Int) (hzl : -9223372036854775808 ≤ z) (hzh : z ≤ 9223372036854775807) : kH Tryz.prog 119 [(.val (.int .i64 (x))), (.val (.int .i64 (y))), (.val (.int .i64 (z)))] (jK (A3.mk (jD ((x : Int) : Rat)) (jD ((y : Int) : Rat)) (jD ((z : Int) : Rat)))) := by
 refine jM Tryz.func119 rfl cb119 rfl ?_
 show uY _ _ _ _ ⟨[(0, (vi x)), (1, (vi y)), (2, (vi z))], []⟩
 refine jA <| kx [(6, (.ref 0 0))] [(0, some (bx (jK (A3.mk (jZ.mk (jI.mk false []) (jI.mk false [])) (jZ.mk (jI.mk false []) (jI.mk false [])) (jZ.mk (jI.mk false []) (jI.mk false []))))))] (zN (uK 0 mY cC) <| zZ) ?_
 refine jA ?_
 have bn1 : QL ((x : Int) : Rat) 3 := (kL (z := x) (jN (by omega) (by omega)) (by decide))
 have bn2 : QL ((y : Int) : Rat) 3 := (kL (z := y) (jN (by omega) (by omega)) (by decide))
 have bn3 : QL ((z : Int) : Rat) 3 := (kL (z := z) (jN (by omega) (by omega)) (by decide))
 refine kx [] [(0, some (bx (jK (A3.mk (jD ((x : Int) : Rat)) (jD ((y : Int) : Rat)) (jD ((z : Int) : Rat))))))] (zM <| zE (kB (nQ x (by omega) (by omega))) <| zM <| zE (kB (nQ y (by omega) (by omega))) <| zM <| zE (kB (nQ z (by omega) (by omega))) <| zE (oBf xE mY cC) <| zT (qG uG) <| zZ) ?_
 refine jF ⟨_, (qS (cs := (bx (jK (A3.mk (jD ((x : Int) : Rat)) (jD ((y : Int) : Rat)) (jD ((z : Int) : Rat)))))) (d := (jK (A3.mk (jD ((x : Int) : Rat)) (jD ((y : Int) : Rat)) (jD ((z : Int) : Rat))))) rfl rfl uG rfl rfl .nil), ?_⟩
 rfl
theorem qs_dot (a0 a1 a2 : Rat) (ha0 : QL a0 100000000) (ha1 : QL a1 100000000) (ha2 : QL a2 100000000) (b0 b1 b2 : Rat) (hb0 : QL b0 100000000) (hb1 : QL b1 100000000) (hb2 : QL b2 100000000) : kH Tryz.prog 214 [(jK (A3.mk (jD a0) (jD a1) (jD a2))), (jK (A3.mk (jD b0) (jD b1) (jD b2)))] (jP (jD (jH a0 a1 a2 b0 b1 b2))) := by
 refine jM Tryz.func214 rfl cb214 rfl ?_
 show uY _ _ _ _ ⟨[(0, (.d (jK (A3.mk (jD a0) (jD a1) (jD a2))))), (1, (.d (jK (A3.mk (jD b0) (jD b1) (jD b2)))))], []⟩
 refine jA <| kx [(2, (.ref 0 0)), (3, (.ref 1 0)), (4, (.ref 2 0))] [(0, some (bx (jK (A3.mk (jD a0) (jD a1) (jD a2))))), (1, some (bx (jK (A3.mk (jD b0) (jD b1) (jD b2))))), (2, some (bx (jP (jZ.mk (jI.mk false []) (jI.mk false [])))))] (zN (vD 0) <| zN (vD 1) <| zN (uK 2 qZ uF) <| zZ) ?_
 refine jA ?_
 have bn1 : QL (jH a0 a1 a2 b0 b1 b2) 600000002 := (jS (n := 100000000) (k := 600000002) ha0 ha1 ha2 hb0 hb1 hb2 (by decide))
 refine kd [(5, (.ref 3 0))] [(3, some (bx (jP (jD (jH a0 a1 a2 b0 b1 b2)))))] mo (wE (e_slv (by exact rfl) xE (by exact rfl) (by kernel_rfl) (by kernel_rfl)) <| wE (e_slv (by exact rfl) xE (by exact rfl) (by kernel_rfl) (by kernel_rfl)) <| wC (oCg [(0, (kX.cells (jK (A3.mk (jD a0) (jD a1) (jD a2))))), (1, (kX.cells (jK (A3.mk (jD b0) (jD b1) (jD b2)))))] [(.view 0 0 3), (.view 1 0 3)] (q_dotL 1000000 a0 a1 a2 ha0 ha1 ha2 1000000 b0 b1 b2 hb0 hb1 hb2) (.v (es := List.map jP [(jD a0), (jD a1), (jD a2)]) (.head _) (hO _ _ (fun _ => rfl)) (by kernel_rfl) (by kernel_rfl) (.v (es := List.map jP [(jD b0), (jD b1), (jD b2)]) (.tail _ (.head _)) (hO _ _ (fun _ => rfl)) (by kernel_rfl) (by kernel_rfl) .nil)) (.tup (eH (avo_encR (by decide) _) (eH (.val _) avo_nil)))) <| wM <| wE vA <| wE vA <| wN (uK 3 qZ uF) <| wT (qG jR) <| wM <| wZ) ?_
 refine jA <| kx [] [(2, some (bx (jP (jD (jH a0 a1 a2 b0 b1 b2)))))] (zR (kC jR) <| zT (qG jR) <| zZ) ?_
 refine jF ⟨_, (qS (cs := (bx (jP (jD (jH a0 a1 a2 b0 b1 b2))))) (d := (jP (jD (jH a0 a1 a2 b0 b1 b2)))) rfl rfl jR rfl rfl .nil), ?_⟩
 rfl
theorem qs_cross (a0 a1 a2 : Rat) (ha0 : QL a0 100000000) (ha1 : QL a1 100000000) (ha2 : QL a2 100000000) (b0 b1 b2 : Rat) (hb0 : QL b0 100000000) (hb1 : QL b1 100000000) (hb2 : QL b2 100000000) : kH Tryz.prog 125 [(jK (A3.mk (jD a0) (jD a1) (jD a2))), (jK (A3.mk (jD b0) (jD b1) (jD b2)))] (jK (A3.mk (jD ((a1 * b2) - (a2 * b1))) (jD ((a2 * b0) - (a0 * b2))) (jD ((a0 * b1) - (a1 * b0))))) := by
 let y2 := (jZ.mk (jI.mk false []) (jI.mk false []))
 let y1 := (bx (jK (A3.mk y2 y2 y2)))
 refine jM Tryz.func125 rfl cb125 rfl ?_
 show uY _ _ _ _ ⟨[(0, (.d (jK (A3.mk (jD a0) (jD a1) (jD a2))))), (1, (.d (jK (A3.mk (jD b0) (jD b1) (jD b2)))))], []⟩
 refine jA <| kx [(2, (.ref 0 0)), (3, (.ref 1 0)), (4, (.ref 2 0))] [(0, some (bx (jK (A3.mk (jD a0) (jD a1) (jD a2))))), (1, some (bx (jK (A3.mk (jD b0) (jD b1) (jD b2))))), (2, some y1)] (zN (vD 0) <| zN (vD 1) <| zN (uK 2 mY cC) <| zZ) ?_
 refine jA <| kx [(5, (.ref 3 0))] [(3, some y1)] (zE (oBa xE mY cC) <| zN (uK 3 mY cC) <| zT (qG uG) <| zZ) ?_
 refine jA <| jA <| kx [(10, (kD 0))] [] (zM <| zZ) ?_
 refine jE <| qF 20 ?_
 refine qU <| jA <| kx [(11, (vb true))] [] (zE (kR true qY) <| zZ) ?_
 refine jA <| jX ?_
 refine jB <| jA <| jE <| jA <| kx [(6, (kD 0))] [] (zM <| zM <| zZ) ?_
 refine jA <| kx [(7, (kD 1)), (8, (kD 2))] [] (zM <| zE (uE 1 (hr := by decide)) <| zE (oRe 1 (hr := by decide)) <| zM <| zE (uE 2 (hr := by decide)) <| zE (oRe 2 (hr := by decide)) <| zM <| zM <| zZ) ?_
 have bn1 : QL ((a1 * b2) - (a2 * b1)) 400000001 := (xG (k := 400000001) (jG (k := 200000000) ha1 hb2 (by decide)) (jG (k := 200000000) ha2 hb1 (by decide)) (by decide))
 refine kd [] [(3, some (bx (jK (A3.mk (jD ((a1 * b2) - (a2 * b1))) y2 y2))))] mo (wM <| wM <| wE (vL xE 1) <| wR (kC jR) <| wM <| wE (vL xE 2) <| wR (kC jR) <| wE (kB (eW (jD a1) (jD b2) a1 b2 (jY (kA ha1) (by decide)) (jY (kA hb2) (by decide)))) <| wM <| wE (vL xE 2) <| wR (kC jR) <| wM <| wE (vL xE 1) <| wR (kC jR) <| wE (kB (eW (jD a2) (jD b1) a2 b1 (jY (kA ha2) (by decide)) (jY (kA hb1) (by decide)))) <| wE (kB (g_sub (jD (a1 * b2)) (jD (a2 * b1)) (a1 * b2) (a2 * b1) (jY (kA (jG (k := 200000000) ha1 hb2 (by decide))) (by decide)) (jY (kA (jG (k := 200000000) ha2 hb1 (by decide))) (by decide)))) <| wE (vL xE 0) <| wT (qG jR) <| wZ) ?_
 refine kx [(10, (kD 1))] [] (zE (uE 1 (hr := by decide)) <| zM <| zZ) ?_
 refine jJ (jW.refl _) ?_
 refine jA <| kx [(11, (vb true))] [] (zE (kR true qY) <| zZ) ?_
 refine jA <| jX ?_
 refine jB <| jA <| jE <| jA <| kx [(6, (kD 1))] [] (zM <| zM <| zZ) ?_
 refine jA <| kx [(7, (kD 2)), (8, (kD 0))] [] (zM <| zE (uE 2 (hr := by decide)) <| zE (oRe 2 (hr := by decide)) <| zM <| zE (uE 3 (hr := by decide)) <| zE (oRe 0 (hr := by decide)) <| zM <| zM <| zZ) ?_
 have bn2 : QL ((a2 * b0) - (a0 * b2)) 400000001 := (xG (k := 400000001) (jG (k := 200000000) ha2 hb0 (by decide)) (jG (k := 200000000) ha0 hb2 (by decide)) (by decide))
 refine kd [] [(3, some (bx (jK (A3.mk (jD ((a1 * b2) - (a2 * b1))) (jD ((a2 * b0) - (a0 * b2))) y2))))] mo (wM <| wM <| wE (vL xE 2) <| wR (kC jR) <| wM <| wE (vL xE 0) <| wR (kC jR) <| wE (kB (eW (jD a2) (jD b0) a2 b0 (jY (kA ha2) (by decide)) (jY (kA hb0) (by decide)))) <| wM <| wE (vL xE 0) <| wR (kC jR) <| wM <| wE (vL xE 2) <| wR (kC jR) <| wE (kB (eW (jD a0) (jD b2) a0 b2 (jY (kA ha0) (by decide)) (jY (kA hb2) (by decide)))) <| wE (kB (g_sub (jD (a2 * b0)) (jD (a0 * b2)) (a2 * b0) (a0 * b2) (jY (kA (jG (k := 200000000) ha2 hb0 (by decide))) (by decide)) (jY (kA (jG (k := 200000000) ha0 hb2 (by decide))) (by decide)))) <| wE (vL xE 1) <| wT (qG jR) <| wZ) ?_
 refine kx [(10, (kD 2))] [] (zE (uE 2 (hr := by decide)) <| zM <| zZ) ?_
 refine jJ (jW.refl _) ?_
 refine jA <| kx [(11, (vb true))] [] (zE (kR true qY) <| zZ) ?_
 refine jA <| jX ?_
 refine jB <| jA <| jE <| jA <| kP (wk (l := [(2, (.ref 0 0)), (3, (.ref 1 0)), (4, (.ref 2 0)), (5, (.ref 3 0)), (10, (kD 2)), (11, (vb true))]) (b := [(0, some (bx (jK (A3.mk (jD a0) (jD a1) (jD a2))))), (1, some (bx (jK (A3.mk (jD b0) (jD b1) (jD b2))))), (2, some y1), (3, some (bx (jK (A3.mk (jD ((a1 * b2) - (a2 * b1))) (jD ((a2 * b0) - (a0 * b2))) y2))))])) ?_
 refine kx [(6, (kD 2))] [] (zM <| zM <| zZ) ?_
 refine jA <| kx [(7, (kD 0)), (8, (kD 1))] [] (zM <| zE (uE 3 (hr := by decide)) <| zE (oRe 0 (hr := by decide)) <| zM <| zE (uE 4 (hr := by decide)) <| zE (oRe 1 (hr := by decide)) <| zM <| zM <| zZ) ?_
 have bn3 : QL ((a0 * b1) - (a1 * b0)) 400000001 := (xG (k := 400000001) (jG (k := 200000000) ha0 hb1 (by decide)) (jG (k := 200000000) ha1 hb0 (by decide)) (by decide))
 refine kd [] [(3, some (bx (jK (A3.mk (jD ((a1 * b2) - (a2 * b1))) (jD ((a2 * b0) - (a0 * b2))) (jD ((a0 * b1) - (a1 * b0)))))))] mo (wM <| wM <| wE (vL xE 0) <| wR (kC jR) <| wM <| wE (vL xE 1) <| wR (kC jR) <| wE (kB (eW (jD a0) (jD b1) a0 b1 (jY (kA ha0) (by decide)) (jY (kA hb1) (by decide)))) <| wM <| wE (vL xE 1) <| wR (kC jR) <| wM <| wE (vL xE 0) <| wR (kC jR) <| wE (kB (eW (jD a1) (jD b0) a1 b0 (jY (kA ha1) (by decide)) (jY (kA hb0) (by decide)))) <| wE (kB (g_sub (jD (a0 * b1)) (jD (a1 * b0)) (a0 * b1) (a1 * b0) (jY (kA (jG (k := 200000000) ha0 hb1 (by decide))) (by decide)) (jY (kA (jG (k := 200000000) ha1 hb0 (by decide))) (by decide)))) <| wE (vL xE 2) <| wT (qG jR) <| wZ) ?_
 refine kx [(10, (kD 3))] [] (zE (uE 3 (hr := by decide)) <| zM <| zZ) ?_
 refine jJ (jW.refl _) ?_
 refine jA <| kx [(11, (vb false))] [] (zE (kR false qY) <| zZ) ?_
 refine jA <| jT ?_
 refine kJ <| jA <| kx [] [(2, some (bx (jK (A3.mk (jD ((a1 * b2) - (a2 * b1))) (jD ((a2 * b0) - (a0 * b2))) (jD ((a0 * b1) - (a1 * b0)))))))] (zR (kC uG) <| zT (qG uG) <| zZ) ?_
 refine jF ⟨_, (qS (cs := (bx (jK (A3.mk (jD ((a1 * b2) - (a2 * b1))) (jD ((a2 * b0) - (a0 * b2))) (jD ((a0 * b1) - (a1 * b0))))))) (d := (jK (A3.mk (jD ((a1 * b2) - (a2 * b1))) (jD ((a2 * b0) - (a0 * b2))) (jD ((a0 * b1) - (a1 * b0)))))) rfl rfl uG rfl rfl .nil), ?_⟩
 rfl
theorem yS (a0 a1 a2 : Rat) (ha0 : QL a0 100000000) (ha1 : QL a1 100000000) (ha2 : QL a2 100000000) (k : Rat) (hk : QL k 100000000) : kH Tryz.prog 121 [(jK (A3.mk (jD a0) (jD a1) (jD a2))), (jP (jD k))] (jK (A3.mk (jD (a0 * k)) (jD (a1 * k)) (jD (a2 * k)))) := by
 let y1 := (jZ.mk (jI.mk false []) (jI.mk false []))
 refine jM Tryz.func121 rfl cb121 rfl ?_
 show uY _ _ _ _ ⟨[(0, (.d (jK (A3.mk (jD a0) (jD a1) (jD a2))))), (1, (.d (jP (jD k))))], []⟩
 refine jA <| kx [(2, (.ref 0 0)), (3, (.ref 1 0)), (4, (.ref 2 0))] [(0, some (bx (jK (A3.mk (jD a0) (jD a1) (jD a2))))), (1, some (bx (jP (jD k)))), (2, some (bx (jK (A3.mk y1 y1 y1))))] (zN (vD 0) <| zN (vD 1) <| zN (uK 2 mY cC) <| zZ) ?_
 refine jA <| jA <| kx [(6, (kD 0))] [] (zM <| zZ) ?_
 refine jE <| qF 20 ?_
 refine qU <| jA <| kx [(7, (vb true))] [] (zE (kR true qY) <| zZ) ?_
 refine jA <| jX ?_
 refine jB <| jA <| jE <| jA <| kx [(5, (kD 0))] [] (zM <| zM <| zZ) ?_
 refine kd [] [(0, some (bx (jK (A3.mk (jD (a0 * k)) (jD a1) (jD a2)))))] mo (wM <| wM <| wE (vL xE 0) <| wR (kC jR) <| wR (kC jR) <| wE (kB (eW (jD a0) (jD k) a0 k (jY (kA ha0) (by decide)) (jY (kA hk) (by decide)))) <| wE (vL xE 0) <| wT (qG jR) <| wZ) ?_
 refine kx [(6, (kD 1))] [] (zE (uE 1 (hr := by decide)) <| zM <| zZ) ?_
 refine jJ (jW.refl _) ?_
 refine jA <| kx [(7, (vb true))] [] (zE (kR true qY) <| zZ) ?_
 refine jA <| jX ?_
 refine jB <| jA <| jE <| jA <| kx [(5, (kD 1))] [] (zM <| zM <| zZ) ?_
 refine kd [] [(0, some (bx (jK (A3.mk (jD (a0 * k)) (jD (a1 * k)) (jD a2)))))] mo (wM <| wM <| wE (vL xE 1) <| wR (kC jR) <| wR (kC jR) <| wE (kB (eW (jD a1) (jD k) a1 k (jY (kA ha1) (by decide)) (jY (kA hk) (by decide)))) <| wE (vL xE 1) <| wT (qG jR) <| wZ) ?_
 refine kx [(6, (kD 2))] [] (zE (uE 2 (hr := by decide)) <| zM <| zZ) ?_
 refine jJ (jW.refl _) ?_
 refine jA <| kx [(7, (vb true))] [] (zE (kR true qY) <| zZ) ?_
 refine jA <| jX ?_
 refine jB <| jA <| jE <| jA <| kx [(5, (kD 2))] [] (zM <| zM <| zZ) ?_
 refine kd [] [(0, some (bx (jK (A3.mk (jD (a0 * k)) (jD (a1 * k)) (jD (a2 * k))))))] mo (wM <| wM <| wE (vL xE 2) <| wR (kC jR) <| wR (kC jR) <| wE (kB (eW (jD a2) (jD k) a2 k (jY (kA ha2) (by decide)) (jY (kA hk) (by decide)))) <| wE (vL xE 2) <| wT (qG jR) <| wZ) ?_
 refine kx [(6, (kD 3))] [] (zE (uE 3 (hr := by decide)) <| zM <| zZ) ?_
 refine jJ (jW.refl _) ?_
 refine jA <| kP (wk (l := [(2, (.ref 0 0)), (3, (.ref 1 0)), (4, (.ref 2 0)), (6, (kD 3))]) (b := [(0, some (bx (jK (A3.mk (jD (a0 * k)) (jD (a1 * k)) (jD (a2 * k)))))), (1, some (bx (jP (jD k)))), (2, some (bx (jK (A3.mk y1 y1 y1))))])) ?_
 refine kx [(7, (vb false))] [] (zE (kR false qY) <| zZ) ?_
 refine jA <| jT ?_
 refine kJ <| jA <| kx [] [(2, some (bx (jK (A3.mk (jD (a0 * k)) (jD (a1 * k)) (jD (a2 * k))))))] (zR (kC uG) <| zT (qG uG) <| zZ) ?_
 refine jF ⟨_, (qS (cs := (bx (jK (A3.mk (jD (a0 * k)) (jD (a1 * k)) (jD (a2 * k)))))) (d := (jK (A3.mk (jD (a0 * k)) (jD (a1 * k)) (jD (a2 * k))))) rfl rfl uG rfl rfl .nil), ?_⟩
 rfl
theorem qs_sum (a0 a1 a2 : Rat) (ha0 : QL a0 1000000000) (ha1 : QL a1 1000000000) (ha2 : QL a2 1000000000) (b0 b1 b2 : Rat) (hb0 : QL b0 1000000000) (hb1 : QL b1 1000000000) (hb2 : QL b2 1000000000) : kH Tryz.prog 120 [(jK (A3.mk (jD a0) (jD a1) (jD a2))), (jK (A3.mk (jD b0) (jD b1) (jD b2)))] (jK (A3.mk (jD (a0 + b0)) (jD (a1 + b1)) (jD (a2 + b2)))) := by
 let y1 := (jZ.mk (jI.mk false []) (jI.mk false []))
 refine jM Tryz.func120 rfl cb120 rfl ?_
 show uY _ _ _ _ ⟨[(0, (.d (jK (A3.mk (jD a0) (jD a1) (jD a2))))), (1, (.d (jK (A3.mk (jD b0) (jD b1) (jD b2)))))], []⟩
 refine jA <| kx [(2, (.ref 0 0)), (3, (.ref 1 0)), (4, (.ref 2 0))] [(0, some (bx (jK (A3.mk (jD a0) (jD a1) (jD a2))))), (1, some (bx (jK (A3.mk (jD b0) (jD b1) (jD b2))))), (2, some (bx (jK (A3.mk y1 y1 y1))))] (zN (vD 0) <| zN (vD 1) <| zN (uK 2 mY cC) <| zZ) ?_
 refine jA <| jA <| kx [(6, (kD 0))] [] (zM <| zZ) ?_
 refine jE <| qF 20 ?_
 refine qU <| jA <| kx [(7, (vb true))] [] (zE (kR true qY) <| zZ) ?_
 refine jA <| jX ?_
 refine jB <| jA <| jE <| jA <| kx [(5, (kD 0))] [] (zM <| zM <| zZ) ?_
 refine kd [] [(0, some (bx (jK (A3.mk (jD (a0 + b0)) (jD a1) (jD a2)))))] mo (wM <| wM <| wE (vL xE 0) <| wR (kC jR) <| wM <| wE (vL xE 0) <| wR (kC jR) <| wE (kB (g_add (jD a0) (jD b0) a0 b0 (jY (kA ha0) (by decide)) (jY (kA hb0) (by decide)))) <| wE (vL xE 0) <| wT (qG jR) <| wZ) ?_
 refine kx [(6, (kD 1))] [] (zE (uE 1 (hr := by decide)) <| zM <| zZ) ?_
 refine jJ (jW.refl _) ?_
 refine jA <| kx [(7, (vb true))] [] (zE (kR true qY) <| zZ) ?_
 refine jA <| jX ?_
 refine jB <| jA <| jE <| jA <| kx [(5, (kD 1))] [] (zM <| zM <| zZ) ?_
 refine kd [] [(0, some (bx (jK (A3.mk (jD (a0 + b0)) (jD (a1 + b1)) (jD a2)))))] mo (wM <| wM <| wE (vL xE 1) <| wR (kC jR) <| wM <| wE (vL xE 1) <| wR (kC jR) <| wE (kB (g_add (jD a1) (jD b1) a1 b1 (jY (kA ha1) (by decide)) (jY (kA hb1) (by decide)))) <| wE (vL xE 1) <| wT (qG jR) <| wZ) ?_
 refine kx [(6, (kD 2))] [] (zE (uE 2 (hr := by decide)) <| zM <| zZ) ?_
 refine jJ (jW.refl _) ?_
 refine jA <| kx [(7, (vb true))] [] (zE (kR true qY) <| zZ) ?_
 refine jA <| jX ?_
 refine jB <| jA <| jE <| jA <| kx [(5, (kD 2))] [] (zM <| zM <| zZ) ?_
 refine kd [] [(0, some (bx (jK (A3.mk (jD (a0 + b0)) (jD (a1 + b1)) (jD (a2 + b2))))))] mo (wM <| wM <| wE (vL xE 2) <| wR (kC jR) <| wM <| wE (vL xE 2) <| wR (kC jR) <| wE (kB (g_add (jD a2) (jD b2) a2 b2 (jY (kA ha2) (by decide)) (jY (kA hb2) (by decide)))) <| wE (vL xE 2) <| wT (qG jR) <| wZ) ?_
 refine kx [(6, (kD 3))] [] (zE (uE 3 (hr := by decide)) <| zM <| zZ) ?_
 refine jJ (jW.refl _) ?_
 refine jA <| kP (wk (l := [(2, (.ref 0 0)), (3, (.ref 1 0)), (4, (.ref 2 0)), (6, (kD 3))]) (b := [(0, some (bx (jK (A3.mk (jD (a0 + b0)) (jD (a1 + b1)) (jD (a2 + b2)))))), (1, some (bx (jK (A3.mk (jD b0) (jD b1) (jD b2))))), (2, some (bx (jK (A3.mk y1 y1 y1))))])) ?_
 refine kx [(7, (vb false))] [] (zE (kR false qY) <| zZ) ?_
 refine jA <| jT ?_
 refine kJ <| jA <| kx [] [(2, some (bx (jK (A3.mk (jD (a0 + b0)) (jD (a1 + b1)) (jD (a2 + b2))))))] (zR (kC uG) <| zT (qG uG) <| zZ) ?_
 refine jF ⟨_, (qS (cs := (bx (jK (A3.mk (jD (a0 + b0)) (jD (a1 + b1)) (jD (a2 + b2)))))) (d := (jK (A3.mk (jD (a0 + b0)) (jD (a1 + b1)) (jD (a2 + b2))))) rfl rfl uG rfl rfl .nil), ?_⟩
 rfl
theorem q_times (m00 m01 m02 m10 m11 m12 m20 m21 m22 : Rat) (hm00 : QL m00 100000000) (hm01 : QL m01 100000000) (hm02 : QL m02 100000000) (hm10 : QL m10 100000000) (hm11 : QL m11 100000000) (hm12 : QL m12 100000000) (hm20 : QL m20 100000000) (hm21 : QL m21 100000000) (hm22 : QL m22 100000000) (v0 v1 v2 : Rat) (hv0 : QL v0 100000000) (hv1 : QL v1 100000000) (hv2 : QL v2 100000000) : kH Tryz.prog 232 [(uA (A3.mk (A3.mk (jD m00) (jD m01) (jD m02)) (A3.mk (jD m10) (jD m11) (jD m12)) (A3.mk (jD m20) (jD m21) (jD m22)))), (jK (A3.mk (jD v0) (jD v1) (jD v2)))] (jK (A3.mk (jD (jH m00 m01 m02 v0 v1 v2)) (jD (jH m10 m11 m12 v0 v1 v2)) (jD (jH m20 m21 m22 v0 v1 v2)))) := by
 refine jM Tryz.func232 rfl cb232 rfl ?_
 show uY _ _ _ _ ⟨[(0, (.d (uA (A3.mk (A3.mk (jD m00) (jD m01) (jD m02)) (A3.mk (jD m10) (jD m11) (jD m12)) (A3.mk (jD m20) (jD m21) (jD m22)))))), (1, (.d (jK (A3.mk (jD v0) (jD v1) (jD v2)))))], []⟩
 refine jA <| kx [(2, (.ref 0 0)), (3, (.ref 1 0)), (4, (.ref 2 0))] [(0, some (bx (uA (A3.mk (A3.mk (jD m00) (jD m01) (jD m02)) (A3.mk (jD m10) (jD m11) (jD m12)) (A3.mk (jD m20) (jD m21) (jD m22)))))), (1, some (bx (jK (A3.mk (jD v0) (jD v1) (jD v2))))), (2, some (bx (jK (A3.mk (jZ.mk (jI.mk false []) (jI.mk false [])) (jZ.mk (jI.mk false []) (jI.mk false [])) (jZ.mk (jI.mk false []) (jI.mk false []))))))] (zN (vD 0) <| zN (vD 1) <| zN (uK 2 nD nC) <| zZ) ?_
 refine jA ?_
 have bn1 : QL (jH m00 m01 m02 v0 v1 v2) 600000002 := (jS (n := 100000000) (k := 600000002) hm00 hm01 hm02 hv0 hv1 hv2 (by decide))
 have bn2 : QL (jH m10 m11 m12 v0 v1 v2) 600000002 := (jS (n := 100000000) (k := 600000002) hm10 hm11 hm12 hv0 hv1 hv2 (by decide))
 have bn3 : QL (jH m20 m21 m22 v0 v1 v2) 600000002 := (jS (n := 100000000) (k := 600000002) hm20 hm21 hm22 hv0 hv1 hv2 (by decide))
 refine kd [] [(2, some (bx (jK (A3.mk (jD (jH m00 m01 m02 v0 v1 v2)) (jD (jH m10 m11 m12 v0 v1 v2)) (jD (jH m20 m21 m22 v0 v1 v2))))))] mo (wE (vL vK 0) <| wR (kC qX) <| wR (kC qX) <| wE (kB (q_dot m00 m01 m02 hm00 hm01 hm02 v0 v1 v2 hv0 hv1 hv2)) <| wE (vL vK 1) <| wR (kC qX) <| wR (kC qX) <| wE (kB (q_dot m10 m11 m12 hm10 hm11 hm12 v0 v1 v2 hv0 hv1 hv2)) <| wE (vL vK 2) <| wR (kC qX) <| wR (kC qX) <| wE (kB (q_dot m20 m21 m22 hm20 hm21 hm22 v0 v1 v2 hv0 hv1 hv2)) <| wE (oBf uI nD nC) <| wT (qG qX) <| wZ) ?_
 refine jF ⟨_, (qS (cs := (bx (jK (A3.mk (jD (jH m00 m01 m02 v0 v1 v2)) (jD (jH m10 m11 m12 v0 v1 v2)) (jD (jH m20 m21 m22 v0 v1 v2)))))) (d := (jK (A3.mk (jD (jH m00 m01 m02 v0 v1 v2)) (jD (jH m10 m11 m12 v0 v1 v2)) (jD (jH m20 m21 m22 v0 v1 v2))))) rfl rfl qX rfl rfl .nil), ?_⟩
 rfl
theorem qs_turned (m00 m01 m02 m10 m11 m12 m20 m21 m22 : Rat) (hm00 : QL m00 100000000) (hm01 : QL m01 100000000) (hm02 : QL m02 100000000) (hm10 : QL m10 100000000) (hm11 : QL m11 100000000) (hm12 : QL m12 100000000) (hm20 : QL m20 100000000) (hm21 : QL m21 100000000) (hm22 : QL m22 100000000) (v0 v1 v2 : Rat) (hv0 : QL v0 100000000) (hv1 : QL v1 100000000) (hv2 : QL v2 100000000) : kH Tryz.prog 122 [(mP (A3.mk (A3.mk (jD m00) (jD m01) (jD m02)) (A3.mk (jD m10) (jD m11) (jD m12)) (A3.mk (jD m20) (jD m21) (jD m22)))), (jK (A3.mk (jD v0) (jD v1) (jD v2)))] (jK (A3.mk (jD (jH m00 m01 m02 v0 v1 v2)) (jD (jH m10 m11 m12 v0 v1 v2)) (jD (jH m20 m21 m22 v0 v1 v2)))) := by
 refine jM Tryz.func122 rfl cb122 rfl ?_
 show uY _ _ _ _ ⟨[(0, (.d (mP (A3.mk (A3.mk (jD m00) (jD m01) (jD m02)) (A3.mk (jD m10) (jD m11) (jD m12)) (A3.mk (jD m20) (jD m21) (jD m22)))))), (1, (.d (jK (A3.mk (jD v0) (jD v1) (jD v2)))))], []⟩
 refine jA <| kx [(2, (.ref 0 0)), (3, (.ref 1 0)), (4, (.ref 2 0))] [(0, some (bx (mP (A3.mk (A3.mk (jD m00) (jD m01) (jD m02)) (A3.mk (jD m10) (jD m11) (jD m12)) (A3.mk (jD m20) (jD m21) (jD m22)))))), (1, some (bx (jK (A3.mk (jD v0) (jD v1) (jD v2))))), (2, some (bx (jK (A3.mk (jZ.mk (jI.mk false []) (jI.mk false [])) (jZ.mk (jI.mk false []) (jI.mk false [])) (jZ.mk (jI.mk false []) (jI.mk false []))))))] (zN (vD 0) <| zN (vD 1) <| zN (uK 2 mY cC) <| zZ) ?_
 refine jA ?_
 have bn1 : QL (jH m00 m01 m02 v0 v1 v2) 600000002 := (jS (n := 100000000) (k := 600000002) hm00 hm01 hm02 hv0 hv1 hv2 (by decide))
 have bn2 : QL (jH m10 m11 m12 v0 v1 v2) 600000002 := (jS (n := 100000000) (k := 600000002) hm10 hm11 hm12 hv0 hv1 hv2 (by decide))
 have bn3 : QL (jH m20 m21 m22 v0 v1 v2) 600000002 := (jS (n := 100000000) (k := 600000002) hm20 hm21 hm22 hv0 hv1 hv2 (by decide))
 refine kd [] [(2, some (bx (jK (A3.mk (jD (jH m00 m01 m02 v0 v1 v2)) (jD (jH m10 m11 m12 v0 v1 v2)) (jD (jH m20 m21 m22 v0 v1 v2))))))] mo (wE (vL nV 0) <| wR (kC uG) <| wR (kC uG) <| wE (kB (qs_dot m00 m01 m02 hm00 hm01 hm02 v0 v1 v2 hv0 hv1 hv2)) <| wE (vL nV 1) <| wR (kC uG) <| wR (kC uG) <| wE (kB (qs_dot m10 m11 m12 hm10 hm11 hm12 v0 v1 v2 hv0 hv1 hv2)) <| wE (vL nV 2) <| wR (kC uG) <| wR (kC uG) <| wE (kB (qs_dot m20 m21 m22 hm20 hm21 hm22 v0 v1 v2 hv0 hv1 hv2)) <| wE (oBf xE mY cC) <| wT (qG uG) <| wZ) ?_
 refine jF ⟨_, (qS (cs := (bx (jK (A3.mk (jD (jH m00 m01 m02 v0 v1 v2)) (jD (jH m10 m11 m12 v0 v1 v2)) (jD (jH m20 m21 m22 v0 v1 v2)))))) (d := (jK (A3.mk (jD (jH m00 m01 m02 v0 v1 v2)) (jD (jH m10 m11 m12 v0 v1 v2)) (jD (jH m20 m21 m22 v0 v1 v2))))) rfl rfl uG rfl rfl .nil), ?_⟩
 rfl
theorem cB (m00 m01 m02 m10 m11 m12 m20 m21 m22 : Rat) (hm00 : QL m00 100000000) (hm01 : QL m01 100000000) (hm02 : QL m02 100000000) (hm10 : QL m10 100000000) (hm11 : QL m11 100000000) (hm12 : QL m12 100000000) (hm20 : QL m20 100000000) (hm21 : QL m21 100000000) (hm22 : QL m22 100000000) : kH Tryz.prog 210 [(uA (A3.mk (A3.mk (jD m00) (jD m01) (jD m02)) (A3.mk (jD m10) (jD m11) (jD m12)) (A3.mk (jD m20) (jD m21) (jD m22))))] (uA (A3.mk (A3.mk (jD m00) (jD m10) (jD m20)) (A3.mk (jD m01) (jD m11) (jD m21)) (A3.mk (jD m02) (jD m12) (jD m22)))) := by
 let y8 := (A3.mk (jD m00) (jD m10) (jD m20))
 let y7 := (jZ.mk (jI.mk false []) (jI.mk false []))
 let y6 := (bx (uA (A3.mk (A3.mk (jD m00) (jD m01) (jD m02)) (A3.mk (jD m10) (jD m11) (jD m12)) (A3.mk (jD m20) (jD m21) (jD m22)))))
 let y5 := (A3.mk y7 y7 y7)
 let y4 := (bx (uA (A3.mk y8 (A3.mk (jD m01) (jD m11) (jD m21)) y5)))
 let y3 := (bx (uA (A3.mk y8 (A3.mk (jD m01) y7 y7) y5)))
 let y2 := (bx (uA (A3.mk (A3.mk (jD m00) (jD m10) y7) y5 y5)))
 let y1 := (bx (uA (A3.mk y5 y5 y5)))
 refine jM Tryz.func210 rfl cb210 rfl ?_
 show uY _ _ _ _ ⟨[(0, (.d (uA (A3.mk (A3.mk (jD m00) (jD m01) (jD m02)) (A3.mk (jD m10) (jD m11) (jD m12)) (A3.mk (jD m20) (jD m21) (jD m22))))))], []⟩
 refine jA <| kx [(1, (.ref 0 0)), (2, (.ref 1 0))] [(0, some y6), (1, some y1)] (zN (vD 0) <| zN (uK 1 eI eK) <| zZ) ?_
 refine jA <| kx [(3, (.ref 2 0))] [(2, some y1)] (zN (uK 2 eI eK) <| zZ) ?_
 refine jA <| jA <| kx [(6, (kD 0))] [] (zM <| zZ) ?_
 refine jE <| qF 20 ?_
 refine qU <| jA <| kx [(7, (vb true))] [] (zE (kR true qY) <| zZ) ?_
 refine jA <| jX ?_
 refine jB <| jA <| jE <| jA <| kx [(4, (kD 0))] [] (zM <| zM <| zZ) ?_
 refine jA <| kx [(9, (kD 0))] [] (zM <| zZ) ?_
 refine jE <| qF 20 ?_
 refine qU <| jA <| kx [(10, (vb true))] [] (zE (kR true qY) <| zZ) ?_
 refine jA <| jX ?_
 refine jB <| jA <| jE <| jA <| kx [(5, (kD 0))] [] (zM <| zM <| zZ) ?_
 refine kd [] [(2, some (bx (uA (A3.mk (A3.mk (jD m00) y7 y7) y5 y5))))] mo (wM <| wM <| wM <| wM <| wE (vL vK 0) <| wE (vL uI 0) <| wR (kC jR) <| wE (vL vK 0) <| wE (vL uI 0) <| wT (qG jR) <| wZ) ?_
 refine kx [(9, (kD 1))] [] (zE (uE 1 (hr := by decide)) <| zM <| zZ) ?_
 refine jJ (jW.refl _) ?_
 refine jA <| kx [(10, (vb true))] [] (zE (kR true qY) <| zZ) ?_
 refine jA <| jX ?_
 refine jB <| jA <| jE <| jA <| kx [(5, (kD 1))] [] (zM <| zM <| zZ) ?_
 refine kd [] [(2, some y2)] mo (wM <| wM <| wM <| wM <| wE (vL vK 1) <| wE (vL uI 0) <| wR (kC jR) <| wE (vL vK 0) <| wE (vL uI 1) <| wT (qG jR) <| wZ) ?_
 refine kx [(9, (kD 2))] [] (zE (uE 2 (hr := by decide)) <| zM <| zZ) ?_
 refine jJ (jW.refl _) ?_
 refine jA <| kP (wk (l := [(1, (.ref 0 0)), (2, (.ref 1 0)), (3, (.ref 2 0)), (4, (kD 0)), (6, (kD 0)), (9, (kD 2))]) (b := [(0, some y6), (1, some y1), (2, some y2)])) ?_
 refine kx [(10, (vb true))] [] (zE (kR true qY) <| zZ) ?_
 refine jA <| jX ?_
 refine jB <| jA <| jE <| jA <| kx [(5, (kD 2))] [] (zM <| zM <| zZ) ?_
 refine kd [] [(2, some (bx (uA (A3.mk y8 y5 y5))))] mo (wM <| wM <| wM <| wM <| wE (vL vK 2) <| wE (vL uI 0) <| wR (kC jR) <| wE (vL vK 0) <| wE (vL uI 2) <| wT (qG jR) <| wZ) ?_
 refine kx [(9, (kD 3))] [] (zE (uE 3 (hr := by decide)) <| zM <| zZ) ?_
 refine jJ (jW.refl _) ?_
 refine jA <| kx [(10, (vb false))] [] (zE (kR false qY) <| zZ) ?_
 refine jA <| jT ?_
 refine kJ <| kx [(6, (kD 1))] [] (zE (uE 1 (hr := by decide)) <| zM <| zZ) ?_
 refine jJ (jW.refl _) ?_
 refine jA <| kx [(7, (vb true))] [] (zE (kR true qY) <| zZ) ?_
 refine jA <| jX ?_
 refine jB <| jA <| jE <| jA <| kx [(4, (kD 1))] [] (zM <| zM <| zZ) ?_
 refine jA <| kx [(9, (kD 0))] [] (zM <| zZ) ?_
 refine jE <| qF 20 ?_
 refine qU <| jA <| kx [(10, (vb true))] [] (zE (kR true qY) <| zZ) ?_
 refine jA <| jX ?_
 refine jB <| jA <| jE <| jA <| kx [(5, (kD 0))] [] (zM <| zM <| zZ) ?_
 refine kd [] [(2, some y3)] mo (wM <| wM <| wM <| wM <| wE (vL vK 0) <| wE (vL uI 1) <| wR (kC jR) <| wE (vL vK 1) <| wE (vL uI 0) <| wT (qG jR) <| wZ) ?_
 refine kx [(9, (kD 1))] [] (zE (uE 1 (hr := by decide)) <| zM <| zZ) ?_
 refine jJ (jW.refl _) ?_
 refine jA <| kx [(10, (vb true))] [] (zE (kR true qY) <| zZ) ?_
 refine jA <| jX ?_
 refine jB <| jA <| jE <| jA <| kP (wk (l := [(1, (.ref 0 0)), (2, (.ref 1 0)), (3, (.ref 2 0)), (4, (kD 1)), (6, (kD 1)), (9, (kD 1)), (10, (vb true))]) (b := [(0, some y6), (1, some y1), (2, some y3)])) ?_
 refine kx [(5, (kD 1))] [] (zM <| zM <| zZ) ?_
 refine kd [] [(2, some (bx (uA (A3.mk y8 (A3.mk (jD m01) (jD m11) y7) y5))))] mo (wM <| wM <| wM <| wM <| wE (vL vK 1) <| wE (vL uI 1) <| wR (kC jR) <| wE (vL vK 1) <| wE (vL uI 1) <| wT (qG jR) <| wZ) ?_
 refine kx [(9, (kD 2))] [] (zE (uE 2 (hr := by decide)) <| zM <| zZ) ?_
 refine jJ (jW.refl _) ?_
 refine jA <| kx [(10, (vb true))] [] (zE (kR true qY) <| zZ) ?_
 refine jA <| jX ?_
 refine jB <| jA <| jE <| jA <| kx [(5, (kD 2))] [] (zM <| zM <| zZ) ?_
 refine kd [] [(2, some y4)] mo (wM <| wM <| wM <| wM <| wE (vL vK 2) <| wE (vL uI 1) <| wR (kC jR) <| wE (vL vK 1) <| wE (vL uI 2) <| wT (qG jR) <| wZ) ?_
 refine kx [(9, (kD 3))] [] (zE (uE 3 (hr := by decide)) <| zM <| zZ) ?_
 refine jJ (jW.refl _) ?_
 refine jA <| kx [(10, (vb false))] [] (zE (kR false qY) <| zZ) ?_
 refine jA <| jT ?_
 refine kJ <| kx [(6, (kD 2))] [] (zE (uE 2 (hr := by decide)) <| zM <| zZ) ?_
 refine jJ (jW.refl _) ?_
 refine jA <| kx [(7, (vb true))] [] (zE (kR true qY) <| zZ) ?_
 refine jA <| jX ?_
 refine jB <| jA <| jE <| jA <| kx [(4, (kD 2))] [] (zM <| zM <| zZ) ?_
 refine jA <| kx [(9, (kD 0))] [] (zM <| zZ) ?_
 refine jE <| qF 20 ?_
 refine qU <| jA <| kx [(10, (vb true))] [] (zE (kR true qY) <| zZ) ?_
 refine jA <| jX ?_
 refine jB <| jA <| jE <| jA <| kx [(5, (kD 0))] [] (zM <| zM <| zZ) ?_
 refine kP (wk (l := [(1, (.ref 0 0)), (2, (.ref 1 0)), (3, (.ref 2 0)), (4, (kD 2)), (5, (kD 0)), (6, (kD 2)), (9, (kD 0))]) (b := [(0, some y6), (1, some y1), (2, some y4)])) ?_
 refine kd [] [(2, some (bx (uA (A3.mk y8 (A3.mk (jD m01) (jD m11) (jD m21)) (A3.mk (jD m02) y7 y7)))))] mo (wM <| wM <| wM <| wM <| wE (vL vK 0) <| wE (vL uI 2) <| wR (kC jR) <| wE (vL vK 2) <| wE (vL uI 0) <| wT (qG jR) <| wZ) ?_
 refine kx [(9, (kD 1))] [] (zE (uE 1 (hr := by decide)) <| zM <| zZ) ?_
 refine jJ (jW.refl _) ?_
 refine jA <| kx [(10, (vb true))] [] (zE (kR true qY) <| zZ) ?_
 refine jA <| jX ?_
 refine jB <| jA <| jE <| jA <| kx [(5, (kD 1))] [] (zM <| zM <| zZ) ?_
 refine kd [] [(2, some (bx (uA (A3.mk y8 (A3.mk (jD m01) (jD m11) (jD m21)) (A3.mk (jD m02) (jD m12) y7)))))] mo (wM <| wM <| wM <| wM <| wE (vL vK 1) <| wE (vL uI 2) <| wR (kC jR) <| wE (vL vK 2) <| wE (vL uI 1) <| wT (qG jR) <| wZ) ?_
 refine kx [(9, (kD 2))] [] (zE (uE 2 (hr := by decide)) <| zM <| zZ) ?_
 refine jJ (jW.refl _) ?_
 refine jA <| kx [(10, (vb true))] [] (zE (kR true qY) <| zZ) ?_
 refine jA <| jX ?_
 refine jB <| jA <| jE <| jA <| kx [(5, (kD 2))] [] (zM <| zM <| zZ) ?_
 refine kd [] [(2, some (bx (uA (A3.mk y8 (A3.mk (jD m01) (jD m11) (jD m21)) (A3.mk (jD m02) (jD m12) (jD m22))))))] mo (wM <| wM <| wM <| wM <| wE (vL vK 2) <| wE (vL uI 2) <| wR (kC jR) <| wE (vL vK 2) <| wE (vL uI 2) <| wT (qG jR) <| wZ) ?_
 refine kx [(9, (kD 3))] [] (zE (uE 3 (hr := by decide)) <| zM <| zZ) ?_
 refine jJ (jW.refl _) ?_
 refine jA <| kx [(10, (vb false))] [] (zE (kR false qY) <| zZ) ?_
 refine jA <| jT ?_
 refine kJ <| kx [(6, (kD 3))] [] (zE (uE 3 (hr := by decide)) <| zM <| zZ) ?_
 refine jJ (jW.refl _) ?_
 refine jA <| kx [(7, (vb false))] [] (zE (kR false qY) <| zZ) ?_
 refine jA <| jT ?_
 refine kJ <| jA <| kx [] [(1, some (bx (uA (A3.mk y8 (A3.mk (jD m01) (jD m11) (jD m21)) (A3.mk (jD m02) (jD m12) (jD m22))))))] (zR (kC nK) <| zT (qG nK) <| zZ) ?_
 refine jF ⟨_, (qS (cs := (bx (uA (A3.mk (A3.mk (jD m00) (jD m10) (jD m20)) (A3.mk (jD m01) (jD m11) (jD m21)) (A3.mk (jD m02) (jD m12) (jD m22)))))) (d := (uA (A3.mk (A3.mk (jD m00) (jD m10) (jD m20)) (A3.mk (jD m01) (jD m11) (jD m21)) (A3.mk (jD m02) (jD m12) (jD m22))))) rfl rfl nK rfl rfl .nil), ?_⟩
 rfl
theorem q_mul (m00 m01 m02 m10 m11 m12 m20 m21 m22 : Rat) (hm00 : QL m00 10000000) (hm01 : QL m01 10000000) (hm02 : QL m02 10000000) (hm10 : QL m10 10000000) (hm11 : QL m11 10000000) (hm12 : QL m12 10000000) (hm20 : QL m20 10000000) (hm21 : QL m21 10000000) (hm22 : QL m22 10000000) (u00 u01 u02 u10 u11 u12 u20 u21 u22 : Rat) (hu00 : QL u00 10000000) (hu01 : QL u01 10000000) (hu02 : QL u02 10000000) (hu10 : QL u10 10000000) (hu11 : QL u11 10000000) (hu12 : QL u12 10000000) (hu20 : QL u20 10000000) (hu21 : QL u21 10000000) (hu22 : QL u22 10000000) : kH Tryz.prog 208 [(uA (A3.mk (A3.mk (jD m00) (jD m01) (jD m02)) (A3.mk (jD m10) (jD m11) (jD m12)) (A3.mk (jD m20) (jD m21) (jD m22)))), (uA (A3.mk (A3.mk (jD u00) (jD u01) (jD u02)) (A3.mk (jD u10) (jD u11) (jD u12)) (A3.mk (jD u20) (jD u21) (jD u22))))] (uA (A3.mk (A3.mk (jD (jH u00 u10 u20 m00 m01 m02)) (jD (jH u01 u11 u21 m00 m01 m02)) (jD (jH u02 u12 u22 m00 m01 m02))) (A3.mk (jD (jH u00 u10 u20 m10 m11 m12)) (jD (jH u01 u11 u21 m10 m11 m12)) (jD (jH u02 u12 u22 m10 m11 m12))) (A3.mk (jD (jH u00 u10 u20 m20 m21 m22)) (jD (jH u01 u11 u21 m20 m21 m22)) (jD (jH u02 u12 u22 m20 m21 m22))))) := by
 let y6 := (A3.mk (jD (jH u00 u10 u20 m00 m01 m02)) (jD (jH u01 u11 u21 m00 m01 m02)) (jD (jH u02 u12 u22 m00 m01 m02)))
 let y5 := (uA (A3.mk (A3.mk (jD m00) (jD m01) (jD m02)) (A3.mk (jD m10) (jD m11) (jD m12)) (A3.mk (jD m20) (jD m21) (jD m22))))
 let y4 := (A3.mk (jZ.mk (jI.mk false []) (jI.mk false [])) (jZ.mk (jI.mk false []) (jI.mk false [])) (jZ.mk (jI.mk false []) (jI.mk false [])))
 let y3 := (bx (uA (A3.mk y6 (A3.mk (jD (jH u00 u10 u20 m10 m11 m12)) (jD (jH u01 u11 u21 m10 m11 m12)) (jD (jH u02 u12 u22 m10 m11 m12))) (A3.mk (jD (jH u00 u10 u20 m20 m21 m22)) (jD (jH u01 u11 u21 m20 m21 m22)) (jD (jH u02 u12 u22 m20 m21 m22))))))
 let y2 := (bx (uA (A3.mk y6 (A3.mk (jD (jH u00 u10 u20 m10 m11 m12)) (jD (jH u01 u11 u21 m10 m11 m12)) (jD (jH u02 u12 u22 m10 m11 m12))) y4)))
 let y1 := (bx (uA (A3.mk y4 y4 y4)))
 refine jM Tryz.func208 rfl cb208 rfl ?_
 show uY _ _ _ _ ⟨[(0, (.d y5)), (1, (.d (uA (A3.mk (A3.mk (jD u00) (jD u01) (jD u02)) (A3.mk (jD u10) (jD u11) (jD u12)) (A3.mk (jD u20) (jD u21) (jD u22))))))], []⟩
 refine jA <| kx [(2, (.ref 0 0)), (3, (.ref 1 0)), (4, (.ref 2 0))] [(0, some (bx y5)), (1, some (bx (uA (A3.mk (A3.mk (jD u00) (jD u01) (jD u02)) (A3.mk (jD u10) (jD u11) (jD u12)) (A3.mk (jD u20) (jD u21) (jD u22)))))), (2, some y1)] (zN (vD 0) <| zN (vD 1) <| zN (uK 2 eI eK) <| zZ) ?_
 refine jA <| kx [(5, (.ref 3 0))] [(3, some (bx (uA (A3.mk (A3.mk (jD u00) (jD u10) (jD u20)) (A3.mk (jD u01) (jD u11) (jD u21)) (A3.mk (jD u02) (jD u12) (jD u22))))))] (zR (kC nK) <| zE (kB (cB u00 u01 u02 u10 u11 u12 u20 u21 u22 (qu hu00) (qu hu01) (qu hu02) (qu hu10) (qu hu11) (qu hu12) (qu hu20) (qu hu21) (qu hu22))) <| zN (uK 3 eI eK) <| zT (qG nK) <| zZ) ?_
 refine jA <| kx [(6, (.ref 4 0))] [(4, some y1)] (zN (uK 4 eI eK) <| zZ) ?_
 refine jA <| jA <| kx [(10, (kD 0))] [] (zM <| zZ) ?_
 refine jE <| qF 20 ?_
 refine qU <| jA <| kx [(11, (vb true))] [] (zE (kR true qY) <| zZ) ?_
 refine jA <| jX ?_
 refine jB <| jA <| jE <| jA <| kx [(7, (kD 0))] [] (zM <| zM <| zZ) ?_
 have bn1 : QL (jH u00 u10 u20 m00 m01 m02) 60000002 := (jS (n := 10000000) (k := 60000002) hu00 hu10 hu20 hm00 hm01 hm02 (by decide))
 have bn2 : QL (jH u01 u11 u21 m00 m01 m02) 60000002 := (jS (n := 10000000) (k := 60000002) hu01 hu11 hu21 hm00 hm01 hm02 (by decide))
 have bn3 : QL (jH u02 u12 u22 m00 m01 m02) 60000002 := (jS (n := 10000000) (k := 60000002) hu02 hu12 hu22 hm00 hm01 hm02 (by decide))
 refine kd [] [(4, some (bx (uA (A3.mk y6 y4 y4))))] mo (wM <| wR (kC nK) <| wM <| wE (vL vK 0) <| wR (kC qX) <| wE (kB (q_times u00 u10 u20 u01 u11 u21 u02 u12 u22 (qu hu00) (qu hu10) (qu hu20) (qu hu01) (qu hu11) (qu hu21) (qu hu02) (qu hu12) (qu hu22) m00 m01 m02 (qu hm00) (qu hm01) (qu hm02))) <| wE (vL vK 0) <| wT (qG qX) <| wZ) ?_
 refine kx [(10, (kD 1))] [] (zE (uE 1 (hr := by decide)) <| zM <| zZ) ?_
 refine jJ (jW.refl _) ?_
 refine jA <| kx [(11, (vb true))] [] (zE (kR true qY) <| zZ) ?_
 refine jA <| jX ?_
 refine jB <| jA <| jE <| jA <| kx [(7, (kD 1))] [] (zM <| zM <| zZ) ?_
 have bn4 : QL (jH u00 u10 u20 m10 m11 m12) 60000002 := (jS (n := 10000000) (k := 60000002) hu00 hu10 hu20 hm10 hm11 hm12 (by decide))
 have bn5 : QL (jH u01 u11 u21 m10 m11 m12) 60000002 := (jS (n := 10000000) (k := 60000002) hu01 hu11 hu21 hm10 hm11 hm12 (by decide))
 have bn6 : QL (jH u02 u12 u22 m10 m11 m12) 60000002 := (jS (n := 10000000) (k := 60000002) hu02 hu12 hu22 hm10 hm11 hm12 (by decide))
 refine kd [] [(4, some y2)] mo (wM <| wR (kC nK) <| wM <| wE (vL vK 1) <| wR (kC qX) <| wE (kB (q_times u00 u10 u20 u01 u11 u21 u02 u12 u22 (qu hu00) (qu hu10) (qu hu20) (qu hu01) (qu hu11) (qu hu21) (qu hu02) (qu hu12) (qu hu22) m10 m11 m12 (qu hm10) (qu hm11) (qu hm12))) <| wE (vL vK 1) <| wT (qG qX) <| wZ) ?_
 refine kx [(10, (kD 2))] [] (zE (uE 2 (hr := by decide)) <| zM <| zZ) ?_
 refine jJ (jW.refl _) ?_
 refine jA <| kx [(11, (vb true))] [] (zE (kR true qY) <| zZ) ?_
 refine jA <| jX ?_
 refine jB <| jA <| jE <| jA <| kx [(7, (kD 2))] [] (zM <| zM <| zZ) ?_
 refine kP (wk (l := [(2, (.ref 0 0)), (4, (.ref 2 0)), (5, (.ref 3 0)), (6, (.ref 4 0)), (7, (kD 2)), (10, (kD 2))]) (b := [(0, some (bx y5)), (2, some y1), (3, some (bx (uA (A3.mk (A3.mk (jD u00) (jD u10) (jD u20)) (A3.mk (jD u01) (jD u11) (jD u21)) (A3.mk (jD u02) (jD u12) (jD u22)))))), (4, some y2)])) ?_
 have bn7 : QL (jH u00 u10 u20 m20 m21 m22) 60000002 := (jS (n := 10000000) (k := 60000002) hu00 hu10 hu20 hm20 hm21 hm22 (by decide))
 have bn8 : QL (jH u01 u11 u21 m20 m21 m22) 60000002 := (jS (n := 10000000) (k := 60000002) hu01 hu11 hu21 hm20 hm21 hm22 (by decide))
 have bn9 : QL (jH u02 u12 u22 m20 m21 m22) 60000002 := (jS (n := 10000000) (k := 60000002) hu02 hu12 hu22 hm20 hm21 hm22 (by decide))
 refine kd [] [(4, some y3)] mo (wM <| wR (kC nK) <| wM <| wE (vL vK 2) <| wR (kC qX) <| wE (kB (q_times u00 u10 u20 u01 u11 u21 u02 u12 u22 (qu hu00) (qu hu10) (qu hu20) (qu hu01) (qu hu11) (qu hu21) (qu hu02) (qu hu12) (qu hu22) m20 m21 m22 (qu hm20) (qu hm21) (qu hm22))) <| wE (vL vK 2) <| wT (qG qX) <| wZ) ?_
 refine kx [(10, (kD 3))] [] (zE (uE 3 (hr := by decide)) <| zM <| zZ) ?_
 refine jJ (jW.refl _) ?_
 refine jA <| kx [(11, (vb false))] [] (zE (kR false qY) <| zZ) ?_
 refine jA <| jT ?_
 refine kJ <| jA <| kx [] [(2, some y3)] (zR (kC nK) <| zT (qG nK) <| zZ) ?_
 refine jF ⟨_, (qS (cs := (bx (uA (A3.mk (A3.mk (jD (jH u00 u10 u20 m00 m01 m02)) (jD (jH u01 u11 u21 m00 m01 m02)) (jD (jH u02 u12 u22 m00 m01 m02))) (A3.mk (jD (jH u00 u10 u20 m10 m11 m12)) (jD (jH u01 u11 u21 m10 m11 m12)) (jD (jH u02 u12 u22 m10 m11 m12))) (A3.mk (jD (jH u00 u10 u20 m20 m21 m22)) (jD (jH u01 u11 u21 m20 m21 m22)) (jD (jH u02 u12 u22 m20 m21 m22))))))) (d := (uA (A3.mk (A3.mk (jD (jH u00 u10 u20 m00 m01 m02)) (jD (jH u01 u11 u21 m00 m01 m02)) (jD (jH u02 u12 u22 m00 m01 m02))) (A3.mk (jD (jH u00 u10 u20 m10 m11 m12)) (jD (jH u01 u11 u21 m10 m11 m12)) (jD (jH u02 u12 u22 m10 m11 m12))) (A3.mk (jD (jH u00 u10 u20 m20 m21 m22)) (jD (jH u01 u11 u21 m20 m21 m22)) (jD (jH u02 u12 u22 m20 m21 m22)))))) rfl rfl nK rfl rfl .nil), ?_⟩
 rfl
theorem qs_back (m00 m01 m02 m10 m11 m12 m20 m21 m22 : Rat) (hm00 : QL m00 10000000) (hm01 : QL m01 10000000) (hm02 : QL m02 10000000) (hm10 : QL m10 10000000) (hm11 : QL m11 10000000) (hm12 : QL m12 10000000) (hm20 : QL m20 10000000) (hm21 : QL m21 10000000) (hm22 : QL m22 10000000) (v0 v1 v2 : Rat) (hv0 : QL v0 10000000) (hv1 : QL v1 10000000) (hv2 : QL v2 10000000) : kH Tryz.prog 236 [(mP (A3.mk (A3.mk (jD m00) (jD m01) (jD m02)) (A3.mk (jD m10) (jD m11) (jD m12)) (A3.mk (jD m20) (jD m21) (jD m22)))), (jK (A3.mk (jD v0) (jD v1) (jD v2)))] (jK (A3.mk (jD (((m00 * v0) + (m10 * v1)) + (m20 * v2))) (jD (((m01 * v0) + (m11 * v1)) + (m21 * v2))) (jD (((m02 * v0) + (m12 * v1)) + (m22 * v2))))) := by
 refine jM Tryz.func236 rfl cb236 rfl ?_
 show uY _ _ _ _ ⟨[(0, (.d (mP (A3.mk (A3.mk (jD m00) (jD m01) (jD m02)) (A3.mk (jD m10) (jD m11) (jD m12)) (A3.mk (jD m20) (jD m21) (jD m22)))))), (1, (.d (jK (A3.mk (jD v0) (jD v1) (jD v2)))))], []⟩
 refine jA <| kx [(2, (.ref 0 0)), (3, (.ref 1 0)), (4, (.ref 2 0))] [(0, some (bx (mP (A3.mk (A3.mk (jD m00) (jD m01) (jD m02)) (A3.mk (jD m10) (jD m11) (jD m12)) (A3.mk (jD m20) (jD m21) (jD m22)))))), (1, some (bx (jK (A3.mk (jD v0) (jD v1) (jD v2))))), (2, some (bx (jK (A3.mk (jZ.mk (jI.mk false []) (jI.mk false [])) (jZ.mk (jI.mk false []) (jI.mk false [])) (jZ.mk (jI.mk false []) (jI.mk false []))))))] (zN (vD 0) <| zN (vD 1) <| zN (uK 2 mY cC) <| zZ) ?_
 refine jA ?_
 have bn1 : QL ((m00 * v0) + (m10 * v1)) 40000001 := (kQ (k := 40000001) (jG (k := 20000000) hm00 hv0 (by decide)) (jG (k := 20000000) hm10 hv1 (by decide)) (by decide))
 have bn2 : QL ((m01 * v0) + (m11 * v1)) 40000001 := (kQ (k := 40000001) (jG (k := 20000000) hm01 hv0 (by decide)) (jG (k := 20000000) hm11 hv1 (by decide)) (by decide))
 have bn3 : QL ((m02 * v0) + (m12 * v1)) 40000001 := (kQ (k := 40000001) (jG (k := 20000000) hm02 hv0 (by decide)) (jG (k := 20000000) hm12 hv1 (by decide)) (by decide))
 have bn4 : QL (((m00 * v0) + (m10 * v1)) + (m20 * v2)) 60000002 := (kQ (k := 60000002) bn1 (jG (k := 20000000) hm20 hv2 (by decide)) (by decide))
 have bn5 : QL (((m01 * v0) + (m11 * v1)) + (m21 * v2)) 60000002 := (kQ (k := 60000002) bn2 (jG (k := 20000000) hm21 hv2 (by decide)) (by decide))
 have bn6 : QL (((m02 * v0) + (m12 * v1)) + (m22 * v2)) 60000002 := (kQ (k := 60000002) bn3 (jG (k := 20000000) hm22 hv2 (by decide)) (by decide))
 refine kd [] [(2, some (bx (jK (A3.mk (jD (((m00 * v0) + (m10 * v1)) + (m20 * v2))) (jD (((m01 * v0) + (m11 * v1)) + (m21 * v2))) (jD (((m02 * v0) + (m12 * v1)) + (m22 * v2)))))))] mo (wE (vL nV 0) <| wR (kC uG) <| wE (vL xE 0) <| wR (kC jR) <| wE (kB (yS m00 m01 m02 (qu hm00) (qu hm01) (qu hm02) v0 (qu hv0))) <| wE (vL nV 1) <| wR (kC uG) <| wE (vL xE 1) <| wR (kC jR) <| wE (kB (yS m10 m11 m12 (qu hm10) (qu hm11) (qu hm12) v1 (qu hv1))) <| wE (kB (qs_sum (m00 * v0) (m01 * v0) (m02 * v0) (qV (jG (k := 20000000) hm00 hv0 (by decide)) (by decide)) (qV (jG (k := 20000000) hm01 hv0 (by decide)) (by decide)) (qV (jG (k := 20000000) hm02 hv0 (by decide)) (by decide)) (m10 * v1) (m11 * v1) (m12 * v1) (qV (jG (k := 20000000) hm10 hv1 (by decide)) (by decide)) (qV (jG (k := 20000000) hm11 hv1 (by decide)) (by decide)) (qV (jG (k := 20000000) hm12 hv1 (by decide)) (by decide)))) <| wE (vL nV 2) <| wR (kC uG) <| wE (vL xE 2) <| wR (kC jR) <| wE (kB (yS m20 m21 m22 (qu hm20) (qu hm21) (qu hm22) v2 (qu hv2))) <| wE (kB (qs_sum ((m00 * v0) + (m10 * v1)) ((m01 * v0) + (m11 * v1)) ((m02 * v0) + (m12 * v1)) (qu bn1) (qu bn2) (qu bn3) (m20 * v2) (m21 * v2) (m22 * v2) (qV (jG (k := 20000000) hm20 hv2 (by decide)) (by decide)) (qV (jG (k := 20000000) hm21 hv2 (by decide)) (by decide)) (qV (jG (k := 20000000) hm22 hv2 (by decide)) (by decide)))) <| wT (qG uG) <| wZ) ?_
 refine jF ⟨_, (qS (cs := (bx (jK (A3.mk (jD (((m00 * v0) + (m10 * v1)) + (m20 * v2))) (jD (((m01 * v0) + (m11 * v1)) + (m21 * v2))) (jD (((m02 * v0) + (m12 * v1)) + (m22 * v2))))))) (d := (jK (A3.mk (jD (((m00 * v0) + (m10 * v1)) + (m20 * v2))) (jD (((m01 * v0) + (m11 * v1)) + (m21 * v2))) (jD (((m02 * v0) + (m12 * v1)) + (m22 * v2)))))) rfl rfl uG rfl rfl .nil), ?_⟩
 rfl
end Go.Proofs.YtapjldagikfcmaaGreat
