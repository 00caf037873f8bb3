/- Part 21 of a proof: rules, plain facts, and functions walked. -/
import Derived.Test.YtbecgnplakngdaaGreatM19
import Derived.Test.YtbecgnplakngdaaGreatM20
namespace Go.Proofs.YtbecgnplakngdaaGreat
open Go.Fid
set_option maxRecDepth 4000
set_option linter.unusedVariables false
set_option linter.unusedSimpArgs false
theorem vE : eZ Tryz.prog 44 = some (3, 42, 4) := by kernel_rfl
theorem zQ : eZ Tryz.prog 45 = some (3, 44, 12) := by kernel_rfl
theorem uD : eZ Tryz.prog 129 = some (3, 42, 4) := by kernel_rfl
theorem vT : eZ Tryz.prog 131 = some (3, 129, 12) := by kernel_rfl
theorem cb22 : callB Tryz.prog 22 = true := by kernel_rfl
theorem cb23 : callB Tryz.prog 23 = true := by kernel_rfl
theorem cb38 : callB Tryz.prog 38 = true := by kernel_rfl
theorem cb44 : callB Tryz.prog 44 = true := by kernel_rfl
theorem cb45 : callB Tryz.prog 45 = true := by kernel_rfl
theorem cb70 : callB Tryz.prog 70 = true := by kernel_rfl
theorem cb72 : callB Tryz.prog 72 = true := by kernel_rfl
theorem cb73 : callB Tryz.prog 73 = true := by kernel_rfl
theorem cb78 : callB Tryz.prog 78 = true := by kernel_rfl
theorem cb81 : callB Tryz.prog 81 = true := by kernel_rfl
theorem cb83 : callB Tryz.prog 83 = true := by kernel_rfl
theorem cb90 : callB Tryz.prog 90 = true := by kernel_rfl
theorem cb92 : callB Tryz.prog 92 = true := by kernel_rfl
theorem cb96 : callB Tryz.prog 96 = true := by kernel_rfl
theorem cb98 : callB Tryz.prog 98 = true := by kernel_rfl
theorem cb101 : callB Tryz.prog 101 = true := by kernel_rfl
theorem cb106 : callB Tryz.prog 106 = true := by kernel_rfl
theorem cb107 : callB Tryz.prog 107 = true := by kernel_rfl
theorem cb141 : callB Tryz.prog 141 = true := by kernel_rfl
theorem qF : zD Tryz.prog 52 = some (42, 4) := by kernel_rfl
theorem vX : qY Tryz.prog 44 = some (true, 12) := by kernel_rfl
theorem dE : qY Tryz.prog 45 = some (true, 36) := by kernel_rfl
theorem uC : qY Tryz.prog 129 = some (true, 12) := by kernel_rfl
theorem nT : qY Tryz.prog 131 = some (true, 36) := by kernel_rfl
theorem aM : xJ Tryz.prog 44 = some [.bool false, .slice none 0 0, .bool false, .slice none 0 0, .bool false, .slice none 0 0, .bool false, .slice none 0 0, .bool false, .slice none 0 0, .bool false, .slice none 0 0] := by kernel_rfl
theorem bV : xJ Tryz.prog 45 = some [.bool false, .slice none 0 0, .bool false, .slice none 0 0, .bool false, .slice none 0 0, .bool false, .slice none 0 0, .bool false, .slice none 0 0, .bool false, .slice none 0 0, .bool false, .slice none 0 0, .bool false, .slice none 0 0, .bool false, .slice none 0 0, .bool false, .slice none 0 0, .bool false, .slice none 0 0, .bool false, .slice none 0 0, .bool false, .slice none 0 0, .bool false, .slice none 0 0, .bool false, .slice none 0 0, .bool false, .slice none 0 0, .bool false, .slice none 0 0, .bool false, .slice none 0 0] := by kernel_rfl
theorem dG : xJ Tryz.prog 129 = some [.bool false, .slice none 0 0, .bool false, .slice none 0 0, .bool false, .slice none 0 0, .bool false, .slice none 0 0, .bool false, .slice none 0 0, .bool false, .slice none 0 0] := by kernel_rfl
theorem fC : xJ Tryz.prog 131 = some [.bool false, .slice none 0 0, .bool false, .slice none 0 0, .bool false, .slice none 0 0, .bool false, .slice none 0 0, .bool false, .slice none 0 0, .bool false, .slice none 0 0, .bool false, .slice none 0 0, .bool false, .slice none 0 0, .bool false, .slice none 0 0, .bool false, .slice none 0 0, .bool false, .slice none 0 0, .bool false, .slice none 0 0, .bool false, .slice none 0 0, .bool false, .slice none 0 0, .bool false, .slice none 0 0, .bool false, .slice none 0 0, .bool false, .slice none 0 0, .bool false, .slice none 0 0] := by kernel_rfl
theorem aO : dB [.bool false, .slice none 0 0, .bool false, .slice none 0 0, .bool false, .slice none 0 0, .bool false, .slice none 0 0, .bool false, .slice none 0 0, .bool false, .slice none 0 0] [.val (.bool false), .sl 152 1 [], .val (.bool false), .sl 152 1 [], .val (.bool false), .sl 152 1 [], .val (.bool false), .sl 152 1 [], .val (.bool false), .sl 152 1 [], .val (.bool false), .sl 152 1 []] := by simp [dB, Value.oneCell']
theorem bO : dB [.bool false, .slice none 0 0, .bool false, .slice none 0 0, .bool false, .slice none 0 0, .bool false, .slice none 0 0, .bool false, .slice none 0 0, .bool false, .slice none 0 0, .bool false, .slice none 0 0, .bool false, .slice none 0 0, .bool false, .slice none 0 0, .bool false, .slice none 0 0, .bool false, .slice none 0 0, .bool false, .slice none 0 0, .bool false, .slice none 0 0, .bool false, .slice none 0 0, .bool false, .slice none 0 0, .bool false, .slice none 0 0, .bool false, .slice none 0 0, .bool false, .slice none 0 0] [.val (.bool false), .sl 152 1 [], .val (.bool false), .sl 152 1 [], .val (.bool false), .sl 152 1 [], .val (.bool false), .sl 152 1 [], .val (.bool false), .sl 152 1 [], .val (.bool false), .sl 152 1 [], .val (.bool false), .sl 152 1 [], .val (.bool false), .sl 152 1 [], .val (.bool false), .sl 152 1 [], .val (.bool false), .sl 152 1 [], .val (.bool false), .sl 152 1 [], .val (.bool false), .sl 152 1 [], .val (.bool false), .sl 152 1 [], .val (.bool false), .sl 152 1 [], .val (.bool false), .sl 152 1 [], .val (.bool false), .sl 152 1 [], .val (.bool false), .sl 152 1 [], .val (.bool false), .sl 152 1 []] := by simp [dB, Value.oneCell']
theorem dJ : dB [.bool false, .slice none 0 0, .bool false, .slice none 0 0, .bool false, .slice none 0 0, .bool false, .slice none 0 0, .bool false, .slice none 0 0, .bool false, .slice none 0 0] [.val (.bool false), .sl 152 1 [], .val (.bool false), .sl 152 1 [], .val (.bool false), .sl 152 1 [], .val (.bool false), .sl 152 1 [], .val (.bool false), .sl 152 1 [], .val (.bool false), .sl 152 1 []] := by simp [dB, Value.oneCell']
theorem fE : dB [.bool false, .slice none 0 0, .bool false, .slice none 0 0, .bool false, .slice none 0 0, .bool false, .slice none 0 0, .bool false, .slice none 0 0, .bool false, .slice none 0 0, .bool false, .slice none 0 0, .bool false, .slice none 0 0, .bool false, .slice none 0 0, .bool false, .slice none 0 0, .bool false, .slice none 0 0, .bool false, .slice none 0 0, .bool false, .slice none 0 0, .bool false, .slice none 0 0, .bool false, .slice none 0 0, .bool false, .slice none 0 0, .bool false, .slice none 0 0, .bool false, .slice none 0 0] [.val (.bool false), .sl 152 1 [], .val (.bool false), .sl 152 1 [], .val (.bool false), .sl 152 1 [], .val (.bool false), .sl 152 1 [], .val (.bool false), .sl 152 1 [], .val (.bool false), .sl 152 1 [], .val (.bool false), .sl 152 1 [], .val (.bool false), .sl 152 1 [], .val (.bool false), .sl 152 1 [], .val (.bool false), .sl 152 1 [], .val (.bool false), .sl 152 1 [], .val (.bool false), .sl 152 1 [], .val (.bool false), .sl 152 1 [], .val (.bool false), .sl 152 1 [], .val (.bool false), .sl 152 1 [], .val (.bool false), .sl 152 1 [], .val (.bool false), .sl 152 1 [], .val (.bool false), .sl 152 1 []] := by simp [dB, Value.oneCell']
theorem q_dotF (ta : Nat) (a0 a1 a2 : Rat) (ha0 : QL a0 100000000) (ha1 : QL a1 100000000) (ha2 : QL a2 100000000) (tb : Nat) (b0 b1 b2 : Rat) (hb0 : QL b0 100000000) (hb1 : QL b1 100000000) (hb2 : QL b2 100000000) : kH Tryz.prog 141 [(.sl ta 4 (List.map jM [(jB a0), (jB a1), (jB a2)])), (.sl tb 4 (List.map jM [(jB b0), (jB b1), (jB b2)]))] (.tup [(jM (jB (jG a0 a1 a2 b0 b1 b2))), (.val (.int .i64 (0)))]) := by
 refine jP Tryz.func141 rfl cb141 rfl ?_
 show uK _ _ _ _ ⟨[(0, (vl ta 4 jM [(jB a0), (jB a1), (jB a2)])), (1, (vl tb 4 jM [(jB b0), (jB b1), (jB b2)]))], []⟩
 refine jA <| kx [(4, (.ref 0 0))] [(0, some (bx (jM (kC.mk (jK.mk false []) (jK.mk false [])))))] (zN (qW 0 qA qH) <| zM <| zZ) ?_
 refine jA <| jA <| kx [(13, (vb false))] [] (zM <| zE (yK qF 3) <| zM <| zE (yK qF 3) <| zE mE <| zZ) ?_
 refine kG ?_
 refine jE <| jA ?_
 have bn1 : QL ((0 : Int) : Rat) 1 := (kV (z := 0) (vO (by decide)) (by decide))
 refine kx [(6, (.ref 1 0))] [(1, some (bx (jM (jB ((0 : Int) : Rat)))))] (zE (kA (eU 0 (by decide) (by decide))) <| zN (qW 1 qA qH) <| zT (kW jO) <| zZ) ?_
 refine jA <| jA <| kx [(16, (vl ta 4 jM [(jB a0), (jB a1), (jB a2)])), (17, (kD 3)), (18, (kD 0))] [] (zM <| zE (yK qF 3) <| zM <| zZ) ?_
 refine jF <| kN 20 ?_
 refine kU <| jA <| kx [(19, (vb true))] [] (zE (qL true qI) <| zZ) ?_
 refine jA <| jS ?_
 refine jE <| jA <| jF <| jA <| kx [(7, (kD 0)), (8, (.ref 2 0))] [(2, some (bx (jM (jB a0))))] (zM <| zE (vM qF 0) <| zE (nL jO) <| zN (qW 2 qA qH) <| zM <| zT (kW jO) <| zZ) ?_
 have bn2 : QL (((0 : Int) : Rat) + (a0 * b0)) 200000002 := (kE (k := 200000002) bn1 (jD (k := 200000000) ha0 hb0 (by decide)) (by decide))
 refine kd [] [(1, some (bx (jM (jB (((0 : Int) : Rat) + (a0 * b0))))))] mo (wR (kF jO) <| wR (kF jO) <| wM <| wM <| wE (vM qF 0) <| wE (nL jO) <| wE (kA (f_mul (jB a0) (jB b0) a0 b0 (jX (jY ha0) (by decide)) (jX (jY hb0) (by decide)))) <| wE (kA (f_add (jB ((0 : Int) : Rat)) (jB (a0 * b0)) ((0 : Int) : Rat) (a0 * b0) (jX (jY bn1) (by decide)) (jX (jY (jD (k := 200000000) ha0 hb0 (by decide))) (by decide)))) <| wT (kW jO) <| wZ) ?_
 refine kx [(18, (kD 1))] [] (zE (qP 1 (hr := by decide)) <| zM <| zZ) ?_
 refine jI (jT.refl _) ?_
 refine jA <| kx [(19, (vb true))] [] (zE (qL true qI) <| zZ) ?_
 refine jA <| jS ?_
 refine jE <| jA <| jF <| jA <| kx [(7, (kD 1)), (8, (.ref 3 0))] [(3, some (bx (jM (jB a1))))] (zM <| zE (vM qF 1) <| zE (nL jO) <| zN (qW 3 qA qH) <| zM <| zT (kW jO) <| zZ) ?_
 have bn3 : QL ((((0 : Int) : Rat) + (a0 * b0)) + (a1 * b1)) 400000003 := (kE (k := 400000003) bn2 (jD (k := 200000000) ha1 hb1 (by decide)) (by decide))
 refine kd [] [(1, some (bx (jM (jB ((((0 : Int) : Rat) + (a0 * b0)) + (a1 * b1))))))] mo (wR (kF jO) <| wR (kF jO) <| wM <| wM <| wE (vM qF 1) <| wE (nL jO) <| wE (kA (f_mul (jB a1) (jB b1) a1 b1 (jX (jY ha1) (by decide)) (jX (jY hb1) (by decide)))) <| wE (kA (f_add (jB (((0 : Int) : Rat) + (a0 * b0))) (jB (a1 * b1)) (((0 : Int) : Rat) + (a0 * b0)) (a1 * b1) (jX (jY bn2) (by decide)) (jX (jY (jD (k := 200000000) ha1 hb1 (by decide))) (by decide)))) <| wT (kW jO) <| wZ) ?_
 refine kx [(18, (kD 2))] [] (zE (qP 2 (hr := by decide)) <| zM <| zZ) ?_
 refine jI (jT.refl _) ?_
 refine jA <| kx [(19, (vb true))] [] (zE (qL true qI) <| zZ) ?_
 refine jA <| jS ?_
 refine jE <| jA <| jF <| jA <| kx [(7, (kD 2)), (8, (.ref 4 0))] [(4, some (bx (jM (jB a2))))] (zM <| zE (vM qF 2) <| zE (nL jO) <| zN (qW 4 qA qH) <| zM <| zT (kW jO) <| zZ) ?_
 refine kJ (wk (l := [(1, (vl tb 4 jM [(jB b0), (jB b1), (jB b2)])), (4, (.ref 0 0)), (6, (.ref 1 0)), (7, (kD 2)), (8, (.ref 4 0)), (16, (vl ta 4 jM [(jB a0), (jB a1), (jB a2)])), (17, (kD 3)), (18, (kD 2))]) (b := [(0, some (bx (jM (kC.mk (jK.mk false []) (jK.mk false []))))), (1, some (bx (jM (jB ((((0 : Int) : Rat) + (a0 * b0)) + (a1 * b1)))))), (4, some (bx (jM (jB a2))))])) ?_
 have bn4 : QL (((((0 : Int) : Rat) + (a0 * b0)) + (a1 * b1)) + (a2 * b2)) 600000004 := (kE (k := 600000004) bn3 (jD (k := 200000000) ha2 hb2 (by decide)) (by decide))
 refine kd [] [(1, some (bx (jM (jB (((((0 : Int) : Rat) + (a0 * b0)) + (a1 * b1)) + (a2 * b2))))))] mo (wR (kF jO) <| wR (kF jO) <| wM <| wM <| wE (vM qF 2) <| wE (nL jO) <| wE (kA (f_mul (jB a2) (jB b2) a2 b2 (jX (jY ha2) (by decide)) (jX (jY hb2) (by decide)))) <| wE (kA (f_add (jB ((((0 : Int) : Rat) + (a0 * b0)) + (a1 * b1))) (jB (a2 * b2)) ((((0 : Int) : Rat) + (a0 * b0)) + (a1 * b1)) (a2 * b2) (jX (jY bn3) (by decide)) (jX (jY (jD (k := 200000000) ha2 hb2 (by decide))) (by decide)))) <| wT (kW jO) <| wZ) ?_
 refine kx [(18, (kD 3))] [] (zE (qP 3 (hr := by decide)) <| zM <| zZ) ?_
 refine jI (jT.refl _) ?_
 refine jA <| kx [(19, (vb false))] [] (zE (qL false qI) <| zZ) ?_
 refine jA <| kG ?_
 refine kB <| jA <| kx [(5, (kD 0))] [(0, some (bx (jM (jB (((((0 : Int) : Rat) + (a0 * b0)) + (a1 * b1)) + (a2 * b2))))))] (zR (kF jO) <| zT (kW jO) <| zM <| zZ) ?_
 refine jJ ⟨_, (qC (cs := (bx (jM (jB (((((0 : Int) : Rat) + (a0 * b0)) + (a1 * b1)) + (a2 * b2)))))) (d := (jM (jB (((((0 : Int) : Rat) + (a0 * b0)) + (a1 * b1)) + (a2 * b2))))) rfl rfl jO rfl rfl (.tmp (d := (.val (.int .i64 (((0 : Nat) : Int))))) rfl .nil)), ?_⟩
 rw [← dot3_eq]; rfl
theorem q_dotL (ta : Nat) (a0 a1 a2 : Rat) (ha0 : QL a0 100000000) (ha1 : QL a1 100000000) (ha2 : QL a2 100000000) (tb : Nat) (b0 b1 b2 : Rat) (hb0 : QL b0 100000000) (hb1 : QL b1 100000000) (hb2 : QL b2 100000000) : kH Tryz.prog 92 [(.sl ta 4 (List.map jM [(jB a0), (jB a1), (jB a2)])), (.sl tb 4 (List.map jM [(jB b0), (jB b1), (jB b2)]))] (.tup [(jM (jB (jG a0 a1 a2 b0 b1 b2))), (.val (.int .i64 (0)))]) := by
 refine jP Tryz.func92 rfl cb92 rfl ?_
 show uK _ _ _ _ ⟨[(0, (vl ta 4 jM [(jB a0), (jB a1), (jB a2)])), (1, (vl tb 4 jM [(jB b0), (jB b1), (jB b2)]))], []⟩
 refine jA <| kx [(4, (.ref 0 0))] [(0, some (bx (jM (kC.mk (jK.mk false []) (jK.mk false [])))))] (zN (qW 0 qA qH) <| zM <| zZ) ?_
 refine jA <| jA <| kx [(12, (vb false))] [] (zM <| zE (yK qF 3) <| zM <| zE (yK qF 3) <| zE mE <| zZ) ?_
 refine kG ?_
 refine jE <| jA ?_
 have bn1 : QL ((0 : Int) : Rat) 1 := (kV (z := 0) (vO (by decide)) (by decide))
 refine kx [(6, (.ref 1 0))] [(1, some (bx (jM (jB ((0 : Int) : Rat)))))] (zE (kA (cV 0 (by decide) (by decide))) <| zN (qW 1 qA qH) <| zT (kW jO) <| zZ) ?_
 refine jA <| jA <| kx [(7, (kD 0))] [] (zM <| zZ) ?_
 refine jF <| kN 20 ?_
 refine kU <| jA <| jA <| kx [(18, (vb true))] [] (zM <| zM <| zE (yK qF 3) <| zE (qL true qI) <| zZ) ?_
 refine jS ?_
 refine jE <| jA <| jF ?_
 have bn2 : QL (((0 : Int) : Rat) + (a0 * b0)) 200000002 := (kE (k := 200000002) bn1 (jD (k := 200000000) ha0 hb0 (by decide)) (by decide))
 refine kd [] [(1, some (bx (jM (jB (((0 : Int) : Rat) + (a0 * b0))))))] mo (wR (kF jO) <| wM <| wM <| wE (vM qF 0) <| wE (nL jO) <| wM <| wM <| wE (vM qF 0) <| wE (nL jO) <| wE (kA (mZ (jB a0) (jB b0) a0 b0 (jX (jY ha0) (by decide)) (jX (jY hb0) (by decide)))) <| wE (kA (eA (jB ((0 : Int) : Rat)) (jB (a0 * b0)) ((0 : Int) : Rat) (a0 * b0) (jX (jY bn1) (by decide)) (jX (jY (jD (k := 200000000) ha0 hb0 (by decide))) (by decide)))) <| wT (kW jO) <| wZ) ?_
 refine kx [(7, (kD 1))] [] (zM <| zE (qP 1 (hr := by decide)) <| zM <| zZ) ?_
 refine jI (jT.refl _) ?_
 refine jA <| jA <| kx [(18, (vb true))] [] (zM <| zM <| zE (yK qF 3) <| zE (qL true qI) <| zZ) ?_
 refine jS ?_
 refine jE <| jA <| jF ?_
 have bn3 : QL ((((0 : Int) : Rat) + (a0 * b0)) + (a1 * b1)) 400000003 := (kE (k := 400000003) bn2 (jD (k := 200000000) ha1 hb1 (by decide)) (by decide))
 refine kd [] [(1, some (bx (jM (jB ((((0 : Int) : Rat) + (a0 * b0)) + (a1 * b1))))))] mo (wR (kF jO) <| wM <| wM <| wE (vM qF 1) <| wE (nL jO) <| wM <| wM <| wE (vM qF 1) <| wE (nL jO) <| wE (kA (mZ (jB a1) (jB b1) a1 b1 (jX (jY ha1) (by decide)) (jX (jY hb1) (by decide)))) <| wE (kA (eA (jB (((0 : Int) : Rat) + (a0 * b0))) (jB (a1 * b1)) (((0 : Int) : Rat) + (a0 * b0)) (a1 * b1) (jX (jY bn2) (by decide)) (jX (jY (jD (k := 200000000) ha1 hb1 (by decide))) (by decide)))) <| wT (kW jO) <| wZ) ?_
 refine kx [(7, (kD 2))] [] (zM <| zE (qP 2 (hr := by decide)) <| zM <| zZ) ?_
 refine jI (jT.refl _) ?_
 refine jA <| jA <| kx [(18, (vb true))] [] (zM <| zM <| zE (yK qF 3) <| zE (qL true qI) <| zZ) ?_
 refine jS ?_
 refine jE <| jA <| jF ?_
 have bn4 : QL (((((0 : Int) : Rat) + (a0 * b0)) + (a1 * b1)) + (a2 * b2)) 600000004 := (kE (k := 600000004) bn3 (jD (k := 200000000) ha2 hb2 (by decide)) (by decide))
 refine kd [] [(1, some (bx (jM (jB (((((0 : Int) : Rat) + (a0 * b0)) + (a1 * b1)) + (a2 * b2))))))] mo (wR (kF jO) <| wM <| wM <| wE (vM qF 2) <| wE (nL jO) <| wM <| wM <| wE (vM qF 2) <| wE (nL jO) <| wE (kA (mZ (jB a2) (jB b2) a2 b2 (jX (jY ha2) (by decide)) (jX (jY hb2) (by decide)))) <| wE (kA (eA (jB ((((0 : Int) : Rat) + (a0 * b0)) + (a1 * b1))) (jB (a2 * b2)) ((((0 : Int) : Rat) + (a0 * b0)) + (a1 * b1)) (a2 * b2) (jX (jY bn3) (by decide)) (jX (jY (jD (k := 200000000) ha2 hb2 (by decide))) (by decide)))) <| wT (kW jO) <| wZ) ?_
 refine kx [(7, (kD 3))] [] (zM <| zE (qP 3 (hr := by decide)) <| zM <| zZ) ?_
 refine jI (jT.refl _) ?_
 refine jA <| jA <| kx [(18, (vb false))] [] (zM <| zM <| zE (yK qF 3) <| zE (qL false qI) <| zZ) ?_
 refine kG ?_
 refine kB <| jA <| kJ (wk (l := [(0, (vl ta 4 jM [(jB a0), (jB a1), (jB a2)])), (1, (vl tb 4 jM [(jB b0), (jB b1), (jB b2)])), (4, (.ref 0 0)), (6, (.ref 1 0)), (7, (kD 3)), (18, (vb false))]) (b := [(0, some (bx (jM (kC.mk (jK.mk false []) (jK.mk false []))))), (1, some (bx (jM (jB (((((0 : Int) : Rat) + (a0 * b0)) + (a1 * b1)) + (a2 * b2))))))])) ?_
 refine kx [(5, (kD 0))] [(0, some (bx (jM (jB (((((0 : Int) : Rat) + (a0 * b0)) + (a1 * b1)) + (a2 * b2))))))] (zR (kF jO) <| zT (kW jO) <| zM <| zZ) ?_
 refine jJ ⟨_, (qC (cs := (bx (jM (jB (((((0 : Int) : Rat) + (a0 * b0)) + (a1 * b1)) + (a2 * b2)))))) (d := (jM (jB (((((0 : Int) : Rat) + (a0 * b0)) + (a1 * b1)) + (a2 * b2))))) rfl rfl jO rfl rfl (.tmp (d := (.val (.int .i64 (((0 : Nat) : Int))))) rfl .nil)), ?_⟩
 rw [← dot3_eq]; rfl
theorem q_whole (x : Int) (hxl : -9223372036854775808 ≤ x) (hxh : x ≤ 9223372036854775807) (y : Int) (hyl : -9223372036854775808 ≤ y) (hyh : y ≤ 9223372036854775807) (z : Int) (hzl : -9223372036854775808 ≤ z) (hzh : z ≤ 9223372036854775807) : kH Tryz.prog 96 [(.val (.int .i64 (x))), (.val (.int .i64 (y))), (.val (.int .i64 (z)))] (jR (A3.mk (jB ((x : Int) : Rat)) (jB ((y : Int) : Rat)) (jB ((z : Int) : Rat)))) := by
 refine jP Tryz.func96 rfl cb96 rfl ?_
 show uK _ _ _ _ ⟨[(0, (vi x)), (1, (vi y)), (2, (vi z))], []⟩
 refine jA <| kx [(6, (.ref 0 0))] [(0, some (bx (jR (A3.mk (kC.mk (jK.mk false []) (jK.mk false [])) (kC.mk (jK.mk false []) (jK.mk false [])) (kC.mk (jK.mk false []) (jK.mk false []))))))] (zN (qW 0 dG dJ) <| zZ) ?_
 refine jA ?_
 have bn1 : QL ((x : Int) : Rat) 3 := (kV (z := x) (jQ (by omega) (by omega)) (by decide))
 have bn2 : QL ((y : Int) : Rat) 3 := (kV (z := y) (jQ (by omega) (by omega)) (by decide))
 have bn3 : QL ((z : Int) : Rat) 3 := (kV (z := z) (jQ (by omega) (by omega)) (by decide))
 refine kx [] [(0, some (bx (jR (A3.mk (jB ((x : Int) : Rat)) (jB ((y : Int) : Rat)) (jB ((z : Int) : Rat))))))] (zM <| zE (kA (eU x (by omega) (by omega))) <| zM <| zE (kA (eU y (by omega) (by omega))) <| zM <| zE (kA (eU z (by omega) (by omega))) <| zE (oBf uD dG dJ) <| zT (kW uC) <| zZ) ?_
 refine jJ ⟨_, (qC (cs := (bx (jR (A3.mk (jB ((x : Int) : Rat)) (jB ((y : Int) : Rat)) (jB ((z : Int) : Rat)))))) (d := (jR (A3.mk (jB ((x : Int) : Rat)) (jB ((y : Int) : Rat)) (jB ((z : Int) : Rat))))) rfl rfl uC rfl rfl .nil), ?_⟩
 rfl
theorem q_dot (a0 a1 a2 : Rat) (ha0 : QL a0 100000000) (ha1 : QL a1 100000000) (ha2 : QL a2 100000000) (b0 b1 b2 : Rat) (hb0 : QL b0 100000000) (hb1 : QL b1 100000000) (hb2 : QL b2 100000000) : kH Tryz.prog 98 [(jR (A3.mk (jB a0) (jB a1) (jB a2))), (jR (A3.mk (jB b0) (jB b1) (jB b2)))] (jM (jB (jG a0 a1 a2 b0 b1 b2))) := by
 refine jP Tryz.func98 rfl cb98 rfl ?_
 show uK _ _ _ _ ⟨[(0, (.d (jR (A3.mk (jB a0) (jB a1) (jB a2))))), (1, (.d (jR (A3.mk (jB b0) (jB b1) (jB b2)))))], []⟩
 refine jA <| kx [(2, (.ref 0 0)), (3, (.ref 1 0)), (4, (.ref 2 0))] [(0, some (bx (jR (A3.mk (jB a0) (jB a1) (jB a2))))), (1, some (bx (jR (A3.mk (jB b0) (jB b1) (jB b2))))), (2, some (bx (jM (kC.mk (jK.mk false []) (jK.mk false [])))))] (zN (vS 0) <| zN (vS 1) <| zN (qW 2 qA qH) <| zZ) ?_
 refine jA ?_
 have bn1 : QL (jG a0 a1 a2 b0 b1 b2) 600000002 := (jL (n := 100000000) (k := 600000002) ha0 ha1 ha2 hb0 hb1 hb2 (by decide))
 refine kd [(5, (.ref 3 0))] [(3, some (bx (jM (jB (jG a0 a1 a2 b0 b1 b2)))))] mo (wE (e_slv (by exact rfl) uD (by exact rfl) (by kernel_rfl) (by kernel_rfl)) <| wE (e_slv (by exact rfl) uD (by exact rfl) (by kernel_rfl) (by kernel_rfl)) <| wC (oCg [(0, (qE.cells (jR (A3.mk (jB a0) (jB a1) (jB a2))))), (1, (qE.cells (jR (A3.mk (jB b0) (jB b1) (jB b2)))))] [(.view 0 0 3), (.view 1 0 3)] (q_dotF 1000000 a0 a1 a2 ha0 ha1 ha2 1000000 b0 b1 b2 hb0 hb1 hb2) (.v (es := List.map jM [(jB a0), (jB a1), (jB a2)]) (.head _) (vY _ _ (fun _ => rfl)) (by kernel_rfl) (by kernel_rfl) (.v (es := List.map jM [(jB b0), (jB b1), (jB b2)]) (.tail _ (.head _)) (vY _ _ (fun _ => rfl)) (by kernel_rfl) (by kernel_rfl) .nil)) (.tup (fA (avo_encR (by decide) _) (fA (.val _) avo_nil)))) <| wM <| wE uZ <| wE uZ <| wN (qW 3 qA qH) <| wT (kW jO) <| wM <| wZ) ?_
 refine jA <| kx [] [(2, some (bx (jM (jB (jG a0 a1 a2 b0 b1 b2)))))] (zR (kF jO) <| zT (kW jO) <| zZ) ?_
 refine jJ ⟨_, (qC (cs := (bx (jM (jB (jG a0 a1 a2 b0 b1 b2))))) (d := (jM (jB (jG a0 a1 a2 b0 b1 b2)))) rfl rfl jO rfl rfl .nil), ?_⟩
 rfl
theorem q_cross (a0 a1 a2 : Rat) (ha0 : QL a0 100000000) (ha1 : QL a1 100000000) (ha2 : QL a2 100000000) (b0 b1 b2 : Rat) (hb0 : QL b0 100000000) (hb1 : QL b1 100000000) (hb2 : QL b2 100000000) : kH Tryz.prog 73 [(jR (A3.mk (jB a0) (jB a1) (jB a2))), (jR (A3.mk (jB b0) (jB b1) (jB b2)))] (jR (A3.mk (jB ((a1 * b2) - (a2 * b1))) (jB ((a2 * b0) - (a0 * b2))) (jB ((a0 * b1) - (a1 * b0))))) := by
 let y2 := (kC.mk (jK.mk false []) (jK.mk false []))
 let y1 := (bx (jR (A3.mk y2 y2 y2)))
 refine jP Tryz.func73 rfl cb73 rfl ?_
 show uK _ _ _ _ ⟨[(0, (.d (jR (A3.mk (jB a0) (jB a1) (jB a2))))), (1, (.d (jR (A3.mk (jB b0) (jB b1) (jB b2)))))], []⟩
 refine jA <| kx [(2, (.ref 0 0)), (3, (.ref 1 0)), (4, (.ref 2 0))] [(0, some (bx (jR (A3.mk (jB a0) (jB a1) (jB a2))))), (1, some (bx (jR (A3.mk (jB b0) (jB b1) (jB b2))))), (2, some y1)] (zN (vS 0) <| zN (vS 1) <| zN (qW 2 dG dJ) <| zZ) ?_
 refine jA <| kx [(5, (.ref 3 0))] [(3, some y1)] (zN (qW 3 dG dJ) <| zZ) ?_
 refine jA <| jA <| kx [(9, (kD 0))] [] (zM <| zZ) ?_
 refine jF <| kN 20 ?_
 refine kU <| jA <| kx [(10, (vb true))] [] (zE (qL true qI) <| zZ) ?_
 refine jA <| jS ?_
 refine jE <| jA <| jF <| jA <| kx [(6, (kD 0))] [] (zM <| zM <| zZ) ?_
 refine jA <| kx [(7, (kD 1)), (8, (kD 2))] [] (zM <| zE (qP 1 (hr := by decide)) <| zE (iM 1 (hr := by decide)) <| zM <| zE (qP 2 (hr := by decide)) <| zE (iM 2 (hr := by decide)) <| zM <| zM <| zZ) ?_
 have bn1 : QL ((a1 * b2) - (a2 * b1)) 400000001 := (kL (k := 400000001) (jD (k := 200000000) ha1 hb2 (by decide)) (jD (k := 200000000) ha2 hb1 (by decide)) (by decide))
 refine kd [] [(3, some (bx (jR (A3.mk (jB ((a1 * b2) - (a2 * b1))) y2 y2))))] mo (wM <| wM <| wE (uH uD 1) <| wR (kF jO) <| wM <| wE (uH uD 2) <| wR (kF jO) <| wE (kA (f_mul (jB a1) (jB b2) a1 b2 (jX (jY ha1) (by decide)) (jX (jY hb2) (by decide)))) <| wM <| wE (uH uD 2) <| wR (kF jO) <| wM <| wE (uH uD 1) <| wR (kF jO) <| wE (kA (f_mul (jB a2) (jB b1) a2 b1 (jX (jY ha2) (by decide)) (jX (jY hb1) (by decide)))) <| wE (kA (f_sub (jB (a1 * b2)) (jB (a2 * b1)) (a1 * b2) (a2 * b1) (jX (jY (jD (k := 200000000) ha1 hb2 (by decide))) (by decide)) (jX (jY (jD (k := 200000000) ha2 hb1 (by decide))) (by decide)))) <| wE (uH uD 0) <| wT (kW jO) <| wZ) ?_
 refine kx [(9, (kD 1))] [] (zE (qP 1 (hr := by decide)) <| zM <| zZ) ?_
 refine jI (jT.refl _) ?_
 refine jA <| kx [(10, (vb true))] [] (zE (qL true qI) <| zZ) ?_
 refine jA <| jS ?_
 refine jE <| jA <| jF <| jA <| kx [(6, (kD 1))] [] (zM <| zM <| zZ) ?_
 refine jA <| kx [(7, (kD 2)), (8, (kD 0))] [] (zM <| zE (qP 2 (hr := by decide)) <| zE (iM 2 (hr := by decide)) <| zM <| zE (qP 3 (hr := by decide)) <| zE (iM 0 (hr := by decide)) <| zM <| zM <| zZ) ?_
 have bn2 : QL ((a2 * b0) - (a0 * b2)) 400000001 := (kL (k := 400000001) (jD (k := 200000000) ha2 hb0 (by decide)) (jD (k := 200000000) ha0 hb2 (by decide)) (by decide))
 refine kd [] [(3, some (bx (jR (A3.mk (jB ((a1 * b2) - (a2 * b1))) (jB ((a2 * b0) - (a0 * b2))) y2))))] mo (wM <| wM <| wE (uH uD 2) <| wR (kF jO) <| wM <| wE (uH uD 0) <| wR (kF jO) <| wE (kA (f_mul (jB a2) (jB b0) a2 b0 (jX (jY ha2) (by decide)) (jX (jY hb0) (by decide)))) <| wM <| wE (uH uD 0) <| wR (kF jO) <| wM <| wE (uH uD 2) <| wR (kF jO) <| wE (kA (f_mul (jB a0) (jB b2) a0 b2 (jX (jY ha0) (by decide)) (jX (jY hb2) (by decide)))) <| wE (kA (f_sub (jB (a2 * b0)) (jB (a0 * b2)) (a2 * b0) (a0 * b2) (jX (jY (jD (k := 200000000) ha2 hb0 (by decide))) (by decide)) (jX (jY (jD (k := 200000000) ha0 hb2 (by decide))) (by decide)))) <| wE (uH uD 1) <| wT (kW jO) <| wZ) ?_
 refine kx [(9, (kD 2))] [] (zE (qP 2 (hr := by decide)) <| zM <| zZ) ?_
 refine jI (jT.refl _) ?_
 refine jA <| kx [(10, (vb true))] [] (zE (qL true qI) <| zZ) ?_
 refine jA <| jS ?_
 refine jE <| jA <| jF <| jA <| kJ (wk (l := [(2, (.ref 0 0)), (3, (.ref 1 0)), (4, (.ref 2 0)), (5, (.ref 3 0)), (9, (kD 2)), (10, (vb true))]) (b := [(0, some (bx (jR (A3.mk (jB a0) (jB a1) (jB a2))))), (1, some (bx (jR (A3.mk (jB b0) (jB b1) (jB b2))))), (2, some y1), (3, some (bx (jR (A3.mk (jB ((a1 * b2) - (a2 * b1))) (jB ((a2 * b0) - (a0 * b2))) y2))))])) ?_
 refine kx [(6, (kD 2))] [] (zM <| zM <| zZ) ?_
 refine jA <| kx [(7, (kD 0)), (8, (kD 1))] [] (zM <| zE (qP 3 (hr := by decide)) <| zE (iM 0 (hr := by decide)) <| zM <| zE (qP 4 (hr := by decide)) <| zE (iM 1 (hr := by decide)) <| zM <| zM <| zZ) ?_
 have bn3 : QL ((a0 * b1) - (a1 * b0)) 400000001 := (kL (k := 400000001) (jD (k := 200000000) ha0 hb1 (by decide)) (jD (k := 200000000) ha1 hb0 (by decide)) (by decide))
 refine kd [] [(3, some (bx (jR (A3.mk (jB ((a1 * b2) - (a2 * b1))) (jB ((a2 * b0) - (a0 * b2))) (jB ((a0 * b1) - (a1 * b0)))))))] mo (wM <| wM <| wE (uH uD 0) <| wR (kF jO) <| wM <| wE (uH uD 1) <| wR (kF jO) <| wE (kA (f_mul (jB a0) (jB b1) a0 b1 (jX (jY ha0) (by decide)) (jX (jY hb1) (by decide)))) <| wM <| wE (uH uD 1) <| wR (kF jO) <| wM <| wE (uH uD 0) <| wR (kF jO) <| wE (kA (f_mul (jB a1) (jB b0) a1 b0 (jX (jY ha1) (by decide)) (jX (jY hb0) (by decide)))) <| wE (kA (f_sub (jB (a0 * b1)) (jB (a1 * b0)) (a0 * b1) (a1 * b0) (jX (jY (jD (k := 200000000) ha0 hb1 (by decide))) (by decide)) (jX (jY (jD (k := 200000000) ha1 hb0 (by decide))) (by decide)))) <| wE (uH uD 2) <| wT (kW jO) <| wZ) ?_
 refine kx [(9, (kD 3))] [] (zE (qP 3 (hr := by decide)) <| zM <| zZ) ?_
 refine jI (jT.refl _) ?_
 refine jA <| kx [(10, (vb false))] [] (zE (qL false qI) <| zZ) ?_
 refine jA <| kG ?_
 refine kB <| jA <| kx [] [(2, some (bx (jR (A3.mk (jB ((a1 * b2) - (a2 * b1))) (jB ((a2 * b0) - (a0 * b2))) (jB ((a0 * b1) - (a1 * b0)))))))] (zR (kF uC) <| zT (kW uC) <| zZ) ?_
 refine jJ ⟨_, (qC (cs := (bx (jR (A3.mk (jB ((a1 * b2) - (a2 * b1))) (jB ((a2 * b0) - (a0 * b2))) (jB ((a0 * b1) - (a1 * b0))))))) (d := (jR (A3.mk (jB ((a1 * b2) - (a2 * b1))) (jB ((a2 * b0) - (a0 * b2))) (jB ((a0 * b1) - (a1 * b0)))))) rfl rfl uC rfl rfl .nil), ?_⟩
 rfl
theorem fF (a0 a1 a2 : Rat) (ha0 : QL a0 100000000) (ha1 : QL a1 100000000) (ha2 : QL a2 100000000) (k : Rat) (hk : QL k 100000000) : kH Tryz.prog 107 [(jR (A3.mk (jB a0) (jB a1) (jB a2))), (jM (jB k))] (jR (A3.mk (jB (a0 * k)) (jB (a1 * k)) (jB (a2 * k)))) := by
 let y1 := (kC.mk (jK.mk false []) (jK.mk false []))
 refine jP Tryz.func107 rfl cb107 rfl ?_
 show uK _ _ _ _ ⟨[(0, (.d (jR (A3.mk (jB a0) (jB a1) (jB a2))))), (1, (.d (jM (jB k))))], []⟩
 refine jA <| kx [(2, (.ref 0 0)), (3, (.ref 1 0)), (4, (.ref 2 0))] [(0, some (bx (jR (A3.mk (jB a0) (jB a1) (jB a2))))), (1, some (bx (jM (jB k)))), (2, some (bx (jR (A3.mk y1 y1 y1))))] (zN (vS 0) <| zN (vS 1) <| zN (qW 2 dG dJ) <| zZ) ?_
 refine jA <| jA <| kx [(6, (kD 0))] [] (zM <| zZ) ?_
 refine jF <| kN 20 ?_
 refine kU <| jA <| kx [(7, (vb true))] [] (zE (qL true qI) <| zZ) ?_
 refine jA <| jS ?_
 refine jE <| jA <| jF <| jA <| kx [(5, (kD 0))] [] (zM <| zM <| zZ) ?_
 refine kd [] [(0, some (bx (jR (A3.mk (jB (a0 * k)) (jB a1) (jB a2)))))] mo (wM <| wM <| wE (uH uD 0) <| wR (kF jO) <| wR (kF jO) <| wE (kA (f_mul (jB a0) (jB k) a0 k (jX (jY ha0) (by decide)) (jX (jY hk) (by decide)))) <| wE (uH uD 0) <| wT (kW jO) <| wZ) ?_
 refine kx [(6, (kD 1))] [] (zE (qP 1 (hr := by decide)) <| zM <| zZ) ?_
 refine jI (jT.refl _) ?_
 refine jA <| kx [(7, (vb true))] [] (zE (qL true qI) <| zZ) ?_
 refine jA <| jS ?_
 refine jE <| jA <| jF <| jA <| kx [(5, (kD 1))] [] (zM <| zM <| zZ) ?_
 refine kd [] [(0, some (bx (jR (A3.mk (jB (a0 * k)) (jB (a1 * k)) (jB a2)))))] mo (wM <| wM <| wE (uH uD 1) <| wR (kF jO) <| wR (kF jO) <| wE (kA (f_mul (jB a1) (jB k) a1 k (jX (jY ha1) (by decide)) (jX (jY hk) (by decide)))) <| wE (uH uD 1) <| wT (kW jO) <| wZ) ?_
 refine kx [(6, (kD 2))] [] (zE (qP 2 (hr := by decide)) <| zM <| zZ) ?_
 refine jI (jT.refl _) ?_
 refine jA <| kx [(7, (vb true))] [] (zE (qL true qI) <| zZ) ?_
 refine jA <| jS ?_
 refine jE <| jA <| jF <| jA <| kx [(5, (kD 2))] [] (zM <| zM <| zZ) ?_
 refine kd [] [(0, some (bx (jR (A3.mk (jB (a0 * k)) (jB (a1 * k)) (jB (a2 * k))))))] mo (wM <| wM <| wE (uH uD 2) <| wR (kF jO) <| wR (kF jO) <| wE (kA (f_mul (jB a2) (jB k) a2 k (jX (jY ha2) (by decide)) (jX (jY hk) (by decide)))) <| wE (uH uD 2) <| wT (kW jO) <| wZ) ?_
 refine kx [(6, (kD 3))] [] (zE (qP 3 (hr := by decide)) <| zM <| zZ) ?_
 refine jI (jT.refl _) ?_
 refine jA <| kJ (wk (l := [(2, (.ref 0 0)), (3, (.ref 1 0)), (4, (.ref 2 0)), (6, (kD 3))]) (b := [(0, some (bx (jR (A3.mk (jB (a0 * k)) (jB (a1 * k)) (jB (a2 * k)))))), (1, some (bx (jM (jB k)))), (2, some (bx (jR (A3.mk y1 y1 y1))))])) ?_
 refine kx [(7, (vb false))] [] (zE (qL false qI) <| zZ) ?_
 refine jA <| kG ?_
 refine kB <| jA <| kx [] [(2, some (bx (jR (A3.mk (jB (a0 * k)) (jB (a1 * k)) (jB (a2 * k))))))] (zR (kF uC) <| zT (kW uC) <| zZ) ?_
 refine jJ ⟨_, (qC (cs := (bx (jR (A3.mk (jB (a0 * k)) (jB (a1 * k)) (jB (a2 * k)))))) (d := (jR (A3.mk (jB (a0 * k)) (jB (a1 * k)) (jB (a2 * k))))) rfl rfl uC rfl rfl .nil), ?_⟩
 rfl
theorem q_sum (a0 a1 a2 : Rat) (ha0 : QL a0 1000000000) (ha1 : QL a1 1000000000) (ha2 : QL a2 1000000000) (b0 b1 b2 : Rat) (hb0 : QL b0 1000000000) (hb1 : QL b1 1000000000) (hb2 : QL b2 1000000000) : kH Tryz.prog 106 [(jR (A3.mk (jB a0) (jB a1) (jB a2))), (jR (A3.mk (jB b0) (jB b1) (jB b2)))] (jR (A3.mk (jB (a0 + b0)) (jB (a1 + b1)) (jB (a2 + b2)))) := by
 let y1 := (kC.mk (jK.mk false []) (jK.mk false []))
 refine jP Tryz.func106 rfl cb106 rfl ?_
 show uK _ _ _ _ ⟨[(0, (.d (jR (A3.mk (jB a0) (jB a1) (jB a2))))), (1, (.d (jR (A3.mk (jB b0) (jB b1) (jB b2)))))], []⟩
 refine jA <| kx [(2, (.ref 0 0)), (3, (.ref 1 0)), (4, (.ref 2 0))] [(0, some (bx (jR (A3.mk (jB a0) (jB a1) (jB a2))))), (1, some (bx (jR (A3.mk (jB b0) (jB b1) (jB b2))))), (2, some (bx (jR (A3.mk y1 y1 y1))))] (zN (vS 0) <| zN (vS 1) <| zN (qW 2 dG dJ) <| zZ) ?_
 refine jA <| jA <| kx [(6, (kD 0))] [] (zM <| zZ) ?_
 refine jF <| kN 20 ?_
 refine kU <| jA <| kx [(7, (vb true))] [] (zE (qL true qI) <| zZ) ?_
 refine jA <| jS ?_
 refine jE <| jA <| jF <| jA <| kx [(5, (kD 0))] [] (zM <| zM <| zZ) ?_
 refine kd [] [(0, some (bx (jR (A3.mk (jB (a0 + b0)) (jB a1) (jB a2)))))] mo (wM <| wM <| wE (uH uD 0) <| wR (kF jO) <| wM <| wE (uH uD 0) <| wR (kF jO) <| wE (kA (f_add (jB a0) (jB b0) a0 b0 (jX (jY ha0) (by decide)) (jX (jY hb0) (by decide)))) <| wE (uH uD 0) <| wT (kW jO) <| wZ) ?_
 refine kx [(6, (kD 1))] [] (zE (qP 1 (hr := by decide)) <| zM <| zZ) ?_
 refine jI (jT.refl _) ?_
 refine jA <| kx [(7, (vb true))] [] (zE (qL true qI) <| zZ) ?_
 refine jA <| jS ?_
 refine jE <| jA <| jF <| jA <| kx [(5, (kD 1))] [] (zM <| zM <| zZ) ?_
 refine kd [] [(0, some (bx (jR (A3.mk (jB (a0 + b0)) (jB (a1 + b1)) (jB a2)))))] mo (wM <| wM <| wE (uH uD 1) <| wR (kF jO) <| wM <| wE (uH uD 1) <| wR (kF jO) <| wE (kA (f_add (jB a1) (jB b1) a1 b1 (jX (jY ha1) (by decide)) (jX (jY hb1) (by decide)))) <| wE (uH uD 1) <| wT (kW jO) <| wZ) ?_
 refine kx [(6, (kD 2))] [] (zE (qP 2 (hr := by decide)) <| zM <| zZ) ?_
 refine jI (jT.refl _) ?_
 refine jA <| kx [(7, (vb true))] [] (zE (qL true qI) <| zZ) ?_
 refine jA <| jS ?_
 refine jE <| jA <| jF <| jA <| kx [(5, (kD 2))] [] (zM <| zM <| zZ) ?_
 refine kd [] [(0, some (bx (jR (A3.mk (jB (a0 + b0)) (jB (a1 + b1)) (jB (a2 + b2))))))] mo (wM <| wM <| wE (uH uD 2) <| wR (kF jO) <| wM <| wE (uH uD 2) <| wR (kF jO) <| wE (kA (f_add (jB a2) (jB b2) a2 b2 (jX (jY ha2) (by decide)) (jX (jY hb2) (by decide)))) <| wE (uH uD 2) <| wT (kW jO) <| wZ) ?_
 refine kx [(6, (kD 3))] [] (zE (qP 3 (hr := by decide)) <| zM <| zZ) ?_
 refine jI (jT.refl _) ?_
 refine jA <| kJ (wk (l := [(2, (.ref 0 0)), (3, (.ref 1 0)), (4, (.ref 2 0)), (6, (kD 3))]) (b := [(0, some (bx (jR (A3.mk (jB (a0 + b0)) (jB (a1 + b1)) (jB (a2 + b2)))))), (1, some (bx (jR (A3.mk (jB b0) (jB b1) (jB b2))))), (2, some (bx (jR (A3.mk y1 y1 y1))))])) ?_
 refine kx [(7, (vb false))] [] (zE (qL false qI) <| zZ) ?_
 refine jA <| kG ?_
 refine kB <| jA <| kx [] [(2, some (bx (jR (A3.mk (jB (a0 + b0)) (jB (a1 + b1)) (jB (a2 + b2))))))] (zR (kF uC) <| zT (kW uC) <| zZ) ?_
 refine jJ ⟨_, (qC (cs := (bx (jR (A3.mk (jB (a0 + b0)) (jB (a1 + b1)) (jB (a2 + b2)))))) (d := (jR (A3.mk (jB (a0 + b0)) (jB (a1 + b1)) (jB (a2 + b2))))) rfl rfl uC rfl rfl .nil), ?_⟩
 rfl
theorem cE (x : Int) (hxl : -9223372036854775808 ≤ x) (hxh : x ≤ 9223372036854775807) (y : Int) (hyl : -9223372036854775808 ≤ y) (hyh : y ≤ 9223372036854775807) (z : Int) (hzl : -9223372036854775808 ≤ z) (hzh : z ≤ 9223372036854775807) : kH Tryz.prog 38 [(.val (.int .i64 (x))), (.val (.int .i64 (y))), (.val (.int .i64 (z)))] (jR (A3.mk (jB ((x : Int) : Rat)) (jB ((y : Int) : Rat)) (jB ((z : Int) : Rat)))) := by
 refine jP Tryz.func38 rfl cb38 rfl ?_
 show uK _ _ _ _ ⟨[(0, (vi x)), (1, (vi y)), (2, (vi z))], []⟩
 refine jA <| kx [(6, (.ref 0 0))] [(0, some (bx (jR (A3.mk (kC.mk (jK.mk false []) (jK.mk false [])) (kC.mk (jK.mk false []) (jK.mk false [])) (kC.mk (jK.mk false []) (jK.mk false []))))))] (zN (qW 0 aM aO) <| zZ) ?_
 refine jA ?_
 have bn1 : QL ((x : Int) : Rat) 3 := (kV (z := x) (jQ (by omega) (by omega)) (by decide))
 have bn2 : QL ((y : Int) : Rat) 3 := (kV (z := y) (jQ (by omega) (by omega)) (by decide))
 have bn3 : QL ((z : Int) : Rat) 3 := (kV (z := z) (jQ (by omega) (by omega)) (by decide))
 refine kx [] [(0, some (bx (jR (A3.mk (jB ((x : Int) : Rat)) (jB ((y : Int) : Rat)) (jB ((z : Int) : Rat))))))] (zM <| zE (kA (cV x (by omega) (by omega))) <| zM <| zE (kA (cV y (by omega) (by omega))) <| zM <| zE (kA (cV z (by omega) (by omega))) <| zE (oBf vE aM aO) <| zT (kW vX) <| zZ) ?_
 refine jJ ⟨_, (qC (cs := (bx (jR (A3.mk (jB ((x : Int) : Rat)) (jB ((y : Int) : Rat)) (jB ((z : Int) : Rat)))))) (d := (jR (A3.mk (jB ((x : Int) : Rat)) (jB ((y : Int) : Rat)) (jB ((z : Int) : Rat))))) rfl rfl vX rfl rfl .nil), ?_⟩
 rfl
theorem qs_dot (a0 a1 a2 : Rat) (ha0 : QL a0 100000000) (ha1 : QL a1 100000000) (ha2 : QL a2 100000000) (b0 b1 b2 : Rat) (hb0 : QL b0 100000000) (hb1 : QL b1 100000000) (hb2 : QL b2 100000000) : kH Tryz.prog 22 [(jR (A3.mk (jB a0) (jB a1) (jB a2))), (jR (A3.mk (jB b0) (jB b1) (jB b2)))] (jM (jB (jG a0 a1 a2 b0 b1 b2))) := by
 refine jP Tryz.func22 rfl cb22 rfl ?_
 show uK _ _ _ _ ⟨[(0, (.d (jR (A3.mk (jB a0) (jB a1) (jB a2))))), (1, (.d (jR (A3.mk (jB b0) (jB b1) (jB b2)))))], []⟩
 refine jA <| kx [(2, (.ref 0 0)), (3, (.ref 1 0)), (4, (.ref 2 0))] [(0, some (bx (jR (A3.mk (jB a0) (jB a1) (jB a2))))), (1, some (bx (jR (A3.mk (jB b0) (jB b1) (jB b2))))), (2, some (bx (jM (kC.mk (jK.mk false []) (jK.mk false [])))))] (zN (vS 0) <| zN (vS 1) <| zN (qW 2 qA qH) <| zZ) ?_
 refine jA ?_
 have bn1 : QL (jG a0 a1 a2 b0 b1 b2) 600000002 := (jL (n := 100000000) (k := 600000002) ha0 ha1 ha2 hb0 hb1 hb2 (by decide))
 refine kd [(5, (.ref 3 0))] [(3, some (bx (jM (jB (jG a0 a1 a2 b0 b1 b2)))))] mo (wE (e_slv (by exact rfl) vE (by exact rfl) (by kernel_rfl) (by kernel_rfl)) <| wE (e_slv (by exact rfl) vE (by exact rfl) (by kernel_rfl) (by kernel_rfl)) <| wC (oCg [(0, (qE.cells (jR (A3.mk (jB a0) (jB a1) (jB a2))))), (1, (qE.cells (jR (A3.mk (jB b0) (jB b1) (jB b2)))))] [(.view 0 0 3), (.view 1 0 3)] (q_dotL 1000000 a0 a1 a2 ha0 ha1 ha2 1000000 b0 b1 b2 hb0 hb1 hb2) (.v (es := List.map jM [(jB a0), (jB a1), (jB a2)]) (.head _) (vY _ _ (fun _ => rfl)) (by kernel_rfl) (by kernel_rfl) (.v (es := List.map jM [(jB b0), (jB b1), (jB b2)]) (.tail _ (.head _)) (vY _ _ (fun _ => rfl)) (by kernel_rfl) (by kernel_rfl) .nil)) (.tup (fA (avo_encR (by decide) _) (fA (.val _) avo_nil)))) <| wM <| wE uZ <| wE uZ <| wN (qW 3 qA qH) <| wT (kW jO) <| wM <| wZ) ?_
 refine jA <| kx [] [(2, some (bx (jM (jB (jG a0 a1 a2 b0 b1 b2)))))] (zR (kF jO) <| zT (kW jO) <| zZ) ?_
 refine jJ ⟨_, (qC (cs := (bx (jM (jB (jG a0 a1 a2 b0 b1 b2))))) (d := (jM (jB (jG a0 a1 a2 b0 b1 b2)))) rfl rfl jO rfl rfl .nil), ?_⟩
 rfl
theorem aB (a0 a1 a2 : Rat) (ha0 : QL a0 100000000) (ha1 : QL a1 100000000) (ha2 : QL a2 100000000) (b0 b1 b2 : Rat) (hb0 : QL b0 100000000) (hb1 : QL b1 100000000) (hb2 : QL b2 100000000) : kH Tryz.prog 78 [(jR (A3.mk (jB a0) (jB a1) (jB a2))), (jR (A3.mk (jB b0) (jB b1) (jB b2)))] (jR (A3.mk (jB ((a1 * b2) - (a2 * b1))) (jB ((a2 * b0) - (a0 * b2))) (jB ((a0 * b1) - (a1 * b0))))) := by
 let y2 := (kC.mk (jK.mk false []) (jK.mk false []))
 let y1 := (bx (jR (A3.mk y2 y2 y2)))
 refine jP Tryz.func78 rfl cb78 rfl ?_
 show uK _ _ _ _ ⟨[(0, (.d (jR (A3.mk (jB a0) (jB a1) (jB a2))))), (1, (.d (jR (A3.mk (jB b0) (jB b1) (jB b2)))))], []⟩
 refine jA <| kx [(2, (.ref 0 0)), (3, (.ref 1 0)), (4, (.ref 2 0))] [(0, some (bx (jR (A3.mk (jB a0) (jB a1) (jB a2))))), (1, some (bx (jR (A3.mk (jB b0) (jB b1) (jB b2))))), (2, some y1)] (zN (vS 0) <| zN (vS 1) <| zN (qW 2 aM aO) <| zZ) ?_
 refine jA <| kx [(5, (.ref 3 0))] [(3, some y1)] (zE (oBa vE aM aO) <| zN (qW 3 aM aO) <| zT (kW vX) <| zZ) ?_
 refine jA <| jA <| kx [(10, (kD 0))] [] (zM <| zZ) ?_
 refine jF <| kN 20 ?_
 refine kU <| jA <| kx [(11, (vb true))] [] (zE (qL true qI) <| zZ) ?_
 refine jA <| jS ?_
 refine jE <| jA <| jF <| jA <| kx [(6, (kD 0))] [] (zM <| zM <| zZ) ?_
 refine jA <| kx [(7, (kD 1)), (8, (kD 2))] [] (zM <| zE (qP 1 (hr := by decide)) <| zE (iM 1 (hr := by decide)) <| zM <| zE (qP 2 (hr := by decide)) <| zE (iM 2 (hr := by decide)) <| zM <| zM <| zZ) ?_
 have bn1 : QL ((a1 * b2) - (a2 * b1)) 400000001 := (kL (k := 400000001) (jD (k := 200000000) ha1 hb2 (by decide)) (jD (k := 200000000) ha2 hb1 (by decide)) (by decide))
 refine kd [] [(3, some (bx (jR (A3.mk (jB ((a1 * b2) - (a2 * b1))) y2 y2))))] mo (wM <| wM <| wE (uH vE 1) <| wR (kF jO) <| wM <| wE (uH vE 2) <| wR (kF jO) <| wE (kA (mZ (jB a1) (jB b2) a1 b2 (jX (jY ha1) (by decide)) (jX (jY hb2) (by decide)))) <| wM <| wE (uH vE 2) <| wR (kF jO) <| wM <| wE (uH vE 1) <| wR (kF jO) <| wE (kA (mZ (jB a2) (jB b1) a2 b1 (jX (jY ha2) (by decide)) (jX (jY hb1) (by decide)))) <| wE (kA (g_sub (jB (a1 * b2)) (jB (a2 * b1)) (a1 * b2) (a2 * b1) (jX (jY (jD (k := 200000000) ha1 hb2 (by decide))) (by decide)) (jX (jY (jD (k := 200000000) ha2 hb1 (by decide))) (by decide)))) <| wE (uH vE 0) <| wT (kW jO) <| wZ) ?_
 refine kx [(10, (kD 1))] [] (zE (qP 1 (hr := by decide)) <| zM <| zZ) ?_
 refine jI (jT.refl _) ?_
 refine jA <| kx [(11, (vb true))] [] (zE (qL true qI) <| zZ) ?_
 refine jA <| jS ?_
 refine jE <| jA <| jF <| jA <| kx [(6, (kD 1))] [] (zM <| zM <| zZ) ?_
 refine jA <| kx [(7, (kD 2)), (8, (kD 0))] [] (zM <| zE (qP 2 (hr := by decide)) <| zE (iM 2 (hr := by decide)) <| zM <| zE (qP 3 (hr := by decide)) <| zE (iM 0 (hr := by decide)) <| zM <| zM <| zZ) ?_
 have bn2 : QL ((a2 * b0) - (a0 * b2)) 400000001 := (kL (k := 400000001) (jD (k := 200000000) ha2 hb0 (by decide)) (jD (k := 200000000) ha0 hb2 (by decide)) (by decide))
 refine kd [] [(3, some (bx (jR (A3.mk (jB ((a1 * b2) - (a2 * b1))) (jB ((a2 * b0) - (a0 * b2))) y2))))] mo (wM <| wM <| wE (uH vE 2) <| wR (kF jO) <| wM <| wE (uH vE 0) <| wR (kF jO) <| wE (kA (mZ (jB a2) (jB b0) a2 b0 (jX (jY ha2) (by decide)) (jX (jY hb0) (by decide)))) <| wM <| wE (uH vE 0) <| wR (kF jO) <| wM <| wE (uH vE 2) <| wR (kF jO) <| wE (kA (mZ (jB a0) (jB b2) a0 b2 (jX (jY ha0) (by decide)) (jX (jY hb2) (by decide)))) <| wE (kA (g_sub (jB (a2 * b0)) (jB (a0 * b2)) (a2 * b0) (a0 * b2) (jX (jY (jD (k := 200000000) ha2 hb0 (by decide))) (by decide)) (jX (jY (jD (k := 200000000) ha0 hb2 (by decide))) (by decide)))) <| wE (uH vE 1) <| wT (kW jO) <| wZ) ?_
 refine kx [(10, (kD 2))] [] (zE (qP 2 (hr := by decide)) <| zM <| zZ) ?_
 refine jI (jT.refl _) ?_
 refine jA <| kx [(11, (vb true))] [] (zE (qL true qI) <| zZ) ?_
 refine jA <| jS ?_
 refine jE <| jA <| jF <| jA <| kJ (wk (l := [(2, (.ref 0 0)), (3, (.ref 1 0)), (4, (.ref 2 0)), (5, (.ref 3 0)), (10, (kD 2)), (11, (vb true))]) (b := [(0, some (bx (jR (A3.mk (jB a0) (jB a1) (jB a2))))), (1, some (bx (jR (A3.mk (jB b0) (jB b1) (jB b2))))), (2, some y1), (3, some (bx (jR (A3.mk (jB ((a1 * b2) - (a2 * b1))) (jB ((a2 * b0) - (a0 * b2))) y2))))])) ?_
 refine kx [(6, (kD 2))] [] (zM <| zM <| zZ) ?_
 refine jA <| kx [(7, (kD 0)), (8, (kD 1))] [] (zM <| zE (qP 3 (hr := by decide)) <| zE (iM 0 (hr := by decide)) <| zM <| zE (qP 4 (hr := by decide)) <| zE (iM 1 (hr := by decide)) <| zM <| zM <| zZ) ?_
 have bn3 : QL ((a0 * b1) - (a1 * b0)) 400000001 := (kL (k := 400000001) (jD (k := 200000000) ha0 hb1 (by decide)) (jD (k := 200000000) ha1 hb0 (by decide)) (by decide))
 refine kd [] [(3, some (bx (jR (A3.mk (jB ((a1 * b2) - (a2 * b1))) (jB ((a2 * b0) - (a0 * b2))) (jB ((a0 * b1) - (a1 * b0)))))))] mo (wM <| wM <| wE (uH vE 0) <| wR (kF jO) <| wM <| wE (uH vE 1) <| wR (kF jO) <| wE (kA (mZ (jB a0) (jB b1) a0 b1 (jX (jY ha0) (by decide)) (jX (jY hb1) (by decide)))) <| wM <| wE (uH vE 1) <| wR (kF jO) <| wM <| wE (uH vE 0) <| wR (kF jO) <| wE (kA (mZ (jB a1) (jB b0) a1 b0 (jX (jY ha1) (by decide)) (jX (jY hb0) (by decide)))) <| wE (kA (g_sub (jB (a0 * b1)) (jB (a1 * b0)) (a0 * b1) (a1 * b0) (jX (jY (jD (k := 200000000) ha0 hb1 (by decide))) (by decide)) (jX (jY (jD (k := 200000000) ha1 hb0 (by decide))) (by decide)))) <| wE (uH vE 2) <| wT (kW jO) <| wZ) ?_
 refine kx [(10, (kD 3))] [] (zE (qP 3 (hr := by decide)) <| zM <| zZ) ?_
 refine jI (jT.refl _) ?_
 refine jA <| kx [(11, (vb false))] [] (zE (qL false qI) <| zZ) ?_
 refine jA <| kG ?_
 refine kB <| jA <| kx [] [(2, some (bx (jR (A3.mk (jB ((a1 * b2) - (a2 * b1))) (jB ((a2 * b0) - (a0 * b2))) (jB ((a0 * b1) - (a1 * b0)))))))] (zR (kF vX) <| zT (kW vX) <| zZ) ?_
 refine jJ ⟨_, (qC (cs := (bx (jR (A3.mk (jB ((a1 * b2) - (a2 * b1))) (jB ((a2 * b0) - (a0 * b2))) (jB ((a0 * b1) - (a1 * b0))))))) (d := (jR (A3.mk (jB ((a1 * b2) - (a2 * b1))) (jB ((a2 * b0) - (a0 * b2))) (jB ((a0 * b1) - (a1 * b0)))))) rfl rfl vX rfl rfl .nil), ?_⟩
 rfl
theorem nQ (a0 a1 a2 : Rat) (ha0 : QL a0 100000000) (ha1 : QL a1 100000000) (ha2 : QL a2 100000000) (k : Rat) (hk : QL k 100000000) : kH Tryz.prog 45 [(jR (A3.mk (jB a0) (jB a1) (jB a2))), (jM (jB k))] (jR (A3.mk (jB (a0 * k)) (jB (a1 * k)) (jB (a2 * k)))) := by
 let y1 := (kC.mk (jK.mk false []) (jK.mk false []))
 refine jP Tryz.func45 rfl cb45 rfl ?_
 show uK _ _ _ _ ⟨[(0, (.d (jR (A3.mk (jB a0) (jB a1) (jB a2))))), (1, (.d (jM (jB k))))], []⟩
 refine jA <| kx [(2, (.ref 0 0)), (3, (.ref 1 0)), (4, (.ref 2 0))] [(0, some (bx (jR (A3.mk (jB a0) (jB a1) (jB a2))))), (1, some (bx (jM (jB k)))), (2, some (bx (jR (A3.mk y1 y1 y1))))] (zN (vS 0) <| zN (vS 1) <| zN (qW 2 aM aO) <| zZ) ?_
 refine jA <| jA <| kx [(6, (kD 0))] [] (zM <| zZ) ?_
 refine jF <| kN 20 ?_
 refine kU <| jA <| kx [(7, (vb true))] [] (zE (qL true qI) <| zZ) ?_
 refine jA <| jS ?_
 refine jE <| jA <| jF <| jA <| kx [(5, (kD 0))] [] (zM <| zM <| zZ) ?_
 refine kd [] [(0, some (bx (jR (A3.mk (jB (a0 * k)) (jB a1) (jB a2)))))] mo (wM <| wM <| wE (uH vE 0) <| wR (kF jO) <| wR (kF jO) <| wE (kA (mZ (jB a0) (jB k) a0 k (jX (jY ha0) (by decide)) (jX (jY hk) (by decide)))) <| wE (uH vE 0) <| wT (kW jO) <| wZ) ?_
 refine kx [(6, (kD 1))] [] (zE (qP 1 (hr := by decide)) <| zM <| zZ) ?_
 refine jI (jT.refl _) ?_
 refine jA <| kx [(7, (vb true))] [] (zE (qL true qI) <| zZ) ?_
 refine jA <| jS ?_
 refine jE <| jA <| jF <| jA <| kx [(5, (kD 1))] [] (zM <| zM <| zZ) ?_
 refine kd [] [(0, some (bx (jR (A3.mk (jB (a0 * k)) (jB (a1 * k)) (jB a2)))))] mo (wM <| wM <| wE (uH vE 1) <| wR (kF jO) <| wR (kF jO) <| wE (kA (mZ (jB a1) (jB k) a1 k (jX (jY ha1) (by decide)) (jX (jY hk) (by decide)))) <| wE (uH vE 1) <| wT (kW jO) <| wZ) ?_
 refine kx [(6, (kD 2))] [] (zE (qP 2 (hr := by decide)) <| zM <| zZ) ?_
 refine jI (jT.refl _) ?_
 refine jA <| kx [(7, (vb true))] [] (zE (qL true qI) <| zZ) ?_
 refine jA <| jS ?_
 refine jE <| jA <| jF <| jA <| kx [(5, (kD 2))] [] (zM <| zM <| zZ) ?_
 refine kd [] [(0, some (bx (jR (A3.mk (jB (a0 * k)) (jB (a1 * k)) (jB (a2 * k))))))] mo (wM <| wM <| wE (uH vE 2) <| wR (kF jO) <| wR (kF jO) <| wE (kA (mZ (jB a2) (jB k) a2 k (jX (jY ha2) (by decide)) (jX (jY hk) (by decide)))) <| wE (uH vE 2) <| wT (kW jO) <| wZ) ?_
 refine kx [(6, (kD 3))] [] (zE (qP 3 (hr := by decide)) <| zM <| zZ) ?_
 refine jI (jT.refl _) ?_
 refine jA <| kJ (wk (l := [(2, (.ref 0 0)), (3, (.ref 1 0)), (4, (.ref 2 0)), (6, (kD 3))]) (b := [(0, some (bx (jR (A3.mk (jB (a0 * k)) (jB (a1 * k)) (jB (a2 * k)))))), (1, some (bx (jM (jB k)))), (2, some (bx (jR (A3.mk y1 y1 y1))))])) ?_
 refine kx [(7, (vb false))] [] (zE (qL false qI) <| zZ) ?_
 refine jA <| kG ?_
 refine kB <| jA <| kx [] [(2, some (bx (jR (A3.mk (jB (a0 * k)) (jB (a1 * k)) (jB (a2 * k))))))] (zR (kF vX) <| zT (kW vX) <| zZ) ?_
 refine jJ ⟨_, (qC (cs := (bx (jR (A3.mk (jB (a0 * k)) (jB (a1 * k)) (jB (a2 * k)))))) (d := (jR (A3.mk (jB (a0 * k)) (jB (a1 * k)) (jB (a2 * k))))) rfl rfl vX rfl rfl .nil), ?_⟩
 rfl
theorem qs_sum (a0 a1 a2 : Rat) (ha0 : QL a0 1000000000) (ha1 : QL a1 1000000000) (ha2 : QL a2 1000000000) (b0 b1 b2 : Rat) (hb0 : QL b0 1000000000) (hb1 : QL b1 1000000000) (hb2 : QL b2 1000000000) : kH Tryz.prog 44 [(jR (A3.mk (jB a0) (jB a1) (jB a2))), (jR (A3.mk (jB b0) (jB b1) (jB b2)))] (jR (A3.mk (jB (a0 + b0)) (jB (a1 + b1)) (jB (a2 + b2)))) := by
 let y1 := (kC.mk (jK.mk false []) (jK.mk false []))
 refine jP Tryz.func44 rfl cb44 rfl ?_
 show uK _ _ _ _ ⟨[(0, (.d (jR (A3.mk (jB a0) (jB a1) (jB a2))))), (1, (.d (jR (A3.mk (jB b0) (jB b1) (jB b2)))))], []⟩
 refine jA <| kx [(2, (.ref 0 0)), (3, (.ref 1 0)), (4, (.ref 2 0))] [(0, some (bx (jR (A3.mk (jB a0) (jB a1) (jB a2))))), (1, some (bx (jR (A3.mk (jB b0) (jB b1) (jB b2))))), (2, some (bx (jR (A3.mk y1 y1 y1))))] (zN (vS 0) <| zN (vS 1) <| zN (qW 2 aM aO) <| zZ) ?_
 refine jA <| jA <| kx [(6, (kD 0))] [] (zM <| zZ) ?_
 refine jF <| kN 20 ?_
 refine kU <| jA <| kx [(7, (vb true))] [] (zE (qL true qI) <| zZ) ?_
 refine jA <| jS ?_
 refine jE <| jA <| jF <| jA <| kx [(5, (kD 0))] [] (zM <| zM <| zZ) ?_
 refine kd [] [(0, some (bx (jR (A3.mk (jB (a0 + b0)) (jB a1) (jB a2)))))] mo (wM <| wM <| wE (uH vE 0) <| wR (kF jO) <| wM <| wE (uH vE 0) <| wR (kF jO) <| wE (kA (eA (jB a0) (jB b0) a0 b0 (jX (jY ha0) (by decide)) (jX (jY hb0) (by decide)))) <| wE (uH vE 0) <| wT (kW jO) <| wZ) ?_
 refine kx [(6, (kD 1))] [] (zE (qP 1 (hr := by decide)) <| zM <| zZ) ?_
 refine jI (jT.refl _) ?_
 refine jA <| kx [(7, (vb true))] [] (zE (qL true qI) <| zZ) ?_
 refine jA <| jS ?_
 refine jE <| jA <| jF <| jA <| kx [(5, (kD 1))] [] (zM <| zM <| zZ) ?_
 refine kd [] [(0, some (bx (jR (A3.mk (jB (a0 + b0)) (jB (a1 + b1)) (jB a2)))))] mo (wM <| wM <| wE (uH vE 1) <| wR (kF jO) <| wM <| wE (uH vE 1) <| wR (kF jO) <| wE (kA (eA (jB a1) (jB b1) a1 b1 (jX (jY ha1) (by decide)) (jX (jY hb1) (by decide)))) <| wE (uH vE 1) <| wT (kW jO) <| wZ) ?_
 refine kx [(6, (kD 2))] [] (zE (qP 2 (hr := by decide)) <| zM <| zZ) ?_
 refine jI (jT.refl _) ?_
 refine jA <| kx [(7, (vb true))] [] (zE (qL true qI) <| zZ) ?_
 refine jA <| jS ?_
 refine jE <| jA <| jF <| jA <| kx [(5, (kD 2))] [] (zM <| zM <| zZ) ?_
 refine kd [] [(0, some (bx (jR (A3.mk (jB (a0 + b0)) (jB (a1 + b1)) (jB (a2 + b2))))))] mo (wM <| wM <| wE (uH vE 2) <| wR (kF jO) <| wM <| wE (uH vE 2) <| wR (kF jO) <| wE (kA (eA (jB a2) (jB b2) a2 b2 (jX (jY ha2) (by decide)) (jX (jY hb2) (by decide)))) <| wE (uH vE 2) <| wT (kW jO) <| wZ) ?_
 refine kx [(6, (kD 3))] [] (zE (qP 3 (hr := by decide)) <| zM <| zZ) ?_
 refine jI (jT.refl _) ?_
 refine jA <| kJ (wk (l := [(2, (.ref 0 0)), (3, (.ref 1 0)), (4, (.ref 2 0)), (6, (kD 3))]) (b := [(0, some (bx (jR (A3.mk (jB (a0 + b0)) (jB (a1 + b1)) (jB (a2 + b2)))))), (1, some (bx (jR (A3.mk (jB b0) (jB b1) (jB b2))))), (2, some (bx (jR (A3.mk y1 y1 y1))))])) ?_
 refine kx [(7, (vb false))] [] (zE (qL false qI) <| zZ) ?_
 refine jA <| kG ?_
 refine kB <| jA <| kx [] [(2, some (bx (jR (A3.mk (jB (a0 + b0)) (jB (a1 + b1)) (jB (a2 + b2))))))] (zR (kF vX) <| zT (kW vX) <| zZ) ?_
 refine jJ ⟨_, (qC (cs := (bx (jR (A3.mk (jB (a0 + b0)) (jB (a1 + b1)) (jB (a2 + b2)))))) (d := (jR (A3.mk (jB (a0 + b0)) (jB (a1 + b1)) (jB (a2 + b2))))) rfl rfl vX rfl rfl .nil), ?_⟩
 rfl
theorem q_times (m00 m01 m02 m10 m11 m12 m20 m21 m22 : Rat) (aV : QL m00 100000000) (aY : QL m01 100000000) (aS : QL m02 100000000) (aQ : QL m10 100000000) (aT : QL m11 100000000) (aW : QL m12 100000000) (aU : QL m20 100000000) (aP : QL m21 100000000) (aR : QL m22 100000000) (v0 v1 v2 : Rat) (hv0 : QL v0 100000000) (hv1 : QL v1 100000000) (hv2 : QL v2 100000000) : kH Tryz.prog 101 [(qM (A3.mk (A3.mk (jB m00) (jB m01) (jB m02)) (A3.mk (jB m10) (jB m11) (jB m12)) (A3.mk (jB m20) (jB m21) (jB m22)))), (jR (A3.mk (jB v0) (jB v1) (jB v2)))] (jR (A3.mk (jB (jG m00 m01 m02 v0 v1 v2)) (jB (jG m10 m11 m12 v0 v1 v2)) (jB (jG m20 m21 m22 v0 v1 v2)))) := by
 refine jP Tryz.func101 rfl cb101 rfl ?_
 show uK _ _ _ _ ⟨[(0, (.d (qM (A3.mk (A3.mk (jB m00) (jB m01) (jB m02)) (A3.mk (jB m10) (jB m11) (jB m12)) (A3.mk (jB m20) (jB m21) (jB m22)))))), (1, (.d (jR (A3.mk (jB v0) (jB v1) (jB v2)))))], []⟩
 refine jA <| kx [(2, (.ref 0 0)), (3, (.ref 1 0)), (4, (.ref 2 0))] [(0, some (bx (qM (A3.mk (A3.mk (jB m00) (jB m01) (jB m02)) (A3.mk (jB m10) (jB m11) (jB m12)) (A3.mk (jB m20) (jB m21) (jB m22)))))), (1, some (bx (jR (A3.mk (jB v0) (jB v1) (jB v2))))), (2, some (bx (jR (A3.mk (kC.mk (jK.mk false []) (jK.mk false [])) (kC.mk (jK.mk false []) (jK.mk false [])) (kC.mk (jK.mk false []) (jK.mk false []))))))] (zN (vS 0) <| zN (vS 1) <| zN (qW 2 dG dJ) <| zZ) ?_
 refine jA ?_
 have bn1 : QL (jG m00 m01 m02 v0 v1 v2) 600000002 := (jL (n := 100000000) (k := 600000002) aV aY aS hv0 hv1 hv2 (by decide))
 have bn2 : QL (jG m10 m11 m12 v0 v1 v2) 600000002 := (jL (n := 100000000) (k := 600000002) aQ aT aW hv0 hv1 hv2 (by decide))
 have bn3 : QL (jG m20 m21 m22 v0 v1 v2) 600000002 := (jL (n := 100000000) (k := 600000002) aU aP aR hv0 hv1 hv2 (by decide))
 refine kd [] [(2, some (bx (jR (A3.mk (jB (jG m00 m01 m02 v0 v1 v2)) (jB (jG m10 m11 m12 v0 v1 v2)) (jB (jG m20 m21 m22 v0 v1 v2))))))] mo (wE (uH vT 0) <| wR (kF uC) <| wR (kF uC) <| wE (kA (q_dot m00 m01 m02 aV aY aS v0 v1 v2 hv0 hv1 hv2)) <| wE (uH vT 1) <| wR (kF uC) <| wR (kF uC) <| wE (kA (q_dot m10 m11 m12 aQ aT aW v0 v1 v2 hv0 hv1 hv2)) <| wE (uH vT 2) <| wR (kF uC) <| wR (kF uC) <| wE (kA (q_dot m20 m21 m22 aU aP aR v0 v1 v2 hv0 hv1 hv2)) <| wE (oBf uD dG dJ) <| wT (kW uC) <| wZ) ?_
 refine jJ ⟨_, (qC (cs := (bx (jR (A3.mk (jB (jG m00 m01 m02 v0 v1 v2)) (jB (jG m10 m11 m12 v0 v1 v2)) (jB (jG m20 m21 m22 v0 v1 v2)))))) (d := (jR (A3.mk (jB (jG m00 m01 m02 v0 v1 v2)) (jB (jG m10 m11 m12 v0 v1 v2)) (jB (jG m20 m21 m22 v0 v1 v2))))) rfl rfl uC rfl rfl .nil), ?_⟩
 rfl
theorem iF (m00 m01 m02 m10 m11 m12 m20 m21 m22 : Rat) (aV : QL m00 100000000) (aY : QL m01 100000000) (aS : QL m02 100000000) (aQ : QL m10 100000000) (aT : QL m11 100000000) (aW : QL m12 100000000) (aU : QL m20 100000000) (aP : QL m21 100000000) (aR : QL m22 100000000) (v0 v1 v2 : Rat) (hv0 : QL v0 100000000) (hv1 : QL v1 100000000) (hv2 : QL v2 100000000) : kH Tryz.prog 23 [(qS (A3.mk (A3.mk (jB m00) (jB m01) (jB m02)) (A3.mk (jB m10) (jB m11) (jB m12)) (A3.mk (jB m20) (jB m21) (jB m22)))), (jR (A3.mk (jB v0) (jB v1) (jB v2)))] (jR (A3.mk (jB (jG m00 m01 m02 v0 v1 v2)) (jB (jG m10 m11 m12 v0 v1 v2)) (jB (jG m20 m21 m22 v0 v1 v2)))) := by
 refine jP Tryz.func23 rfl cb23 rfl ?_
 show uK _ _ _ _ ⟨[(0, (.d (qS (A3.mk (A3.mk (jB m00) (jB m01) (jB m02)) (A3.mk (jB m10) (jB m11) (jB m12)) (A3.mk (jB m20) (jB m21) (jB m22)))))), (1, (.d (jR (A3.mk (jB v0) (jB v1) (jB v2)))))], []⟩
 refine jA <| kx [(2, (.ref 0 0)), (3, (.ref 1 0)), (4, (.ref 2 0))] [(0, some (bx (qS (A3.mk (A3.mk (jB m00) (jB m01) (jB m02)) (A3.mk (jB m10) (jB m11) (jB m12)) (A3.mk (jB m20) (jB m21) (jB m22)))))), (1, some (bx (jR (A3.mk (jB v0) (jB v1) (jB v2))))), (2, some (bx (jR (A3.mk (kC.mk (jK.mk false []) (jK.mk false [])) (kC.mk (jK.mk false []) (jK.mk false [])) (kC.mk (jK.mk false []) (jK.mk false []))))))] (zN (vS 0) <| zN (vS 1) <| zN (qW 2 aM aO) <| zZ) ?_
 refine jA ?_
 have bn1 : QL (jG m00 m01 m02 v0 v1 v2) 600000002 := (jL (n := 100000000) (k := 600000002) aV aY aS hv0 hv1 hv2 (by decide))
 have bn2 : QL (jG m10 m11 m12 v0 v1 v2) 600000002 := (jL (n := 100000000) (k := 600000002) aQ aT aW hv0 hv1 hv2 (by decide))
 have bn3 : QL (jG m20 m21 m22 v0 v1 v2) 600000002 := (jL (n := 100000000) (k := 600000002) aU aP aR hv0 hv1 hv2 (by decide))
 refine kd [] [(2, some (bx (jR (A3.mk (jB (jG m00 m01 m02 v0 v1 v2)) (jB (jG m10 m11 m12 v0 v1 v2)) (jB (jG m20 m21 m22 v0 v1 v2))))))] mo (wE (uH zQ 0) <| wR (kF vX) <| wR (kF vX) <| wE (kA (qs_dot m00 m01 m02 aV aY aS v0 v1 v2 hv0 hv1 hv2)) <| wE (uH zQ 1) <| wR (kF vX) <| wR (kF vX) <| wE (kA (qs_dot m10 m11 m12 aQ aT aW v0 v1 v2 hv0 hv1 hv2)) <| wE (uH zQ 2) <| wR (kF vX) <| wR (kF vX) <| wE (kA (qs_dot m20 m21 m22 aU aP aR v0 v1 v2 hv0 hv1 hv2)) <| wE (oBf vE aM aO) <| wT (kW vX) <| wZ) ?_
 refine jJ ⟨_, (qC (cs := (bx (jR (A3.mk (jB (jG m00 m01 m02 v0 v1 v2)) (jB (jG m10 m11 m12 v0 v1 v2)) (jB (jG m20 m21 m22 v0 v1 v2)))))) (d := (jR (A3.mk (jB (jG m00 m01 m02 v0 v1 v2)) (jB (jG m10 m11 m12 v0 v1 v2)) (jB (jG m20 m21 m22 v0 v1 v2))))) rfl rfl vX rfl rfl .nil), ?_⟩
 rfl
theorem fG (m00 m01 m02 m10 m11 m12 m20 m21 m22 : Rat) (aV : QL m00 100000000) (aY : QL m01 100000000) (aS : QL m02 100000000) (aQ : QL m10 100000000) (aT : QL m11 100000000) (aW : QL m12 100000000) (aU : QL m20 100000000) (aP : QL m21 100000000) (aR : QL m22 100000000) : kH Tryz.prog 72 [(qM (A3.mk (A3.mk (jB m00) (jB m01) (jB m02)) (A3.mk (jB m10) (jB m11) (jB m12)) (A3.mk (jB m20) (jB m21) (jB m22))))] (qM (A3.mk (A3.mk (jB m00) (jB m10) (jB m20)) (A3.mk (jB m01) (jB m11) (jB m21)) (A3.mk (jB m02) (jB m12) (jB m22)))) := by
 let y8 := (A3.mk (jB m00) (jB m10) (jB m20))
 let y7 := (kC.mk (jK.mk false []) (jK.mk false []))
 let y6 := (bx (qM (A3.mk (A3.mk (jB m00) (jB m01) (jB m02)) (A3.mk (jB m10) (jB m11) (jB m12)) (A3.mk (jB m20) (jB m21) (jB m22)))))
 let y5 := (A3.mk y7 y7 y7)
 let y4 := (bx (qM (A3.mk y8 (A3.mk (jB m01) (jB m11) (jB m21)) y5)))
 let y3 := (bx (qM (A3.mk y8 (A3.mk (jB m01) y7 y7) y5)))
 let y2 := (bx (qM (A3.mk (A3.mk (jB m00) (jB m10) y7) y5 y5)))
 let y1 := (bx (qM (A3.mk y5 y5 y5)))
 refine jP Tryz.func72 rfl cb72 rfl ?_
 show uK _ _ _ _ ⟨[(0, (.d (qM (A3.mk (A3.mk (jB m00) (jB m01) (jB m02)) (A3.mk (jB m10) (jB m11) (jB m12)) (A3.mk (jB m20) (jB m21) (jB m22))))))], []⟩
 refine jA <| kx [(1, (.ref 0 0)), (2, (.ref 1 0))] [(0, some y6), (1, some y1)] (zN (vS 0) <| zN (qW 1 fC fE) <| zZ) ?_
 refine jA <| kx [(3, (.ref 2 0))] [(2, some y1)] (zN (qW 2 fC fE) <| zZ) ?_
 refine jA <| jA <| kx [(6, (kD 0))] [] (zM <| zZ) ?_
 refine jF <| kN 20 ?_
 refine kU <| jA <| kx [(7, (vb true))] [] (zE (qL true qI) <| zZ) ?_
 refine jA <| jS ?_
 refine jE <| jA <| jF <| jA <| kx [(4, (kD 0))] [] (zM <| zM <| zZ) ?_
 refine jA <| kx [(9, (kD 0))] [] (zM <| zZ) ?_
 refine jF <| kN 20 ?_
 refine kU <| jA <| kx [(10, (vb true))] [] (zE (qL true qI) <| zZ) ?_
 refine jA <| jS ?_
 refine jE <| jA <| jF <| jA <| kx [(5, (kD 0))] [] (zM <| zM <| zZ) ?_
 refine kd [] [(2, some (bx (qM (A3.mk (A3.mk (jB m00) y7 y7) y5 y5))))] mo (wM <| wM <| wM <| wM <| wE (uH vT 0) <| wE (uH uD 0) <| wR (kF jO) <| wE (uH vT 0) <| wE (uH uD 0) <| wT (kW jO) <| wZ) ?_
 refine kx [(9, (kD 1))] [] (zE (qP 1 (hr := by decide)) <| zM <| zZ) ?_
 refine jI (jT.refl _) ?_
 refine jA <| kx [(10, (vb true))] [] (zE (qL true qI) <| zZ) ?_
 refine jA <| jS ?_
 refine jE <| jA <| jF <| jA <| kx [(5, (kD 1))] [] (zM <| zM <| zZ) ?_
 refine kd [] [(2, some y2)] mo (wM <| wM <| wM <| wM <| wE (uH vT 1) <| wE (uH uD 0) <| wR (kF jO) <| wE (uH vT 0) <| wE (uH uD 1) <| wT (kW jO) <| wZ) ?_
 refine kx [(9, (kD 2))] [] (zE (qP 2 (hr := by decide)) <| zM <| zZ) ?_
 refine jI (jT.refl _) ?_
 refine jA <| kJ (wk (l := [(1, (.ref 0 0)), (2, (.ref 1 0)), (3, (.ref 2 0)), (4, (kD 0)), (6, (kD 0)), (9, (kD 2))]) (b := [(0, some y6), (1, some y1), (2, some y2)])) ?_
 refine kx [(10, (vb true))] [] (zE (qL true qI) <| zZ) ?_
 refine jA <| jS ?_
 refine jE <| jA <| jF <| jA <| kx [(5, (kD 2))] [] (zM <| zM <| zZ) ?_
 refine kd [] [(2, some (bx (qM (A3.mk y8 y5 y5))))] mo (wM <| wM <| wM <| wM <| wE (uH vT 2) <| wE (uH uD 0) <| wR (kF jO) <| wE (uH vT 0) <| wE (uH uD 2) <| wT (kW jO) <| wZ) ?_
 refine kx [(9, (kD 3))] [] (zE (qP 3 (hr := by decide)) <| zM <| zZ) ?_
 refine jI (jT.refl _) ?_
 refine jA <| kx [(10, (vb false))] [] (zE (qL false qI) <| zZ) ?_
 refine jA <| kG ?_
 refine kB <| kx [(6, (kD 1))] [] (zE (qP 1 (hr := by decide)) <| zM <| zZ) ?_
 refine jI (jT.refl _) ?_
 refine jA <| kx [(7, (vb true))] [] (zE (qL true qI) <| zZ) ?_
 refine jA <| jS ?_
 refine jE <| jA <| jF <| jA <| kx [(4, (kD 1))] [] (zM <| zM <| zZ) ?_
 refine jA <| kx [(9, (kD 0))] [] (zM <| zZ) ?_
 refine jF <| kN 20 ?_
 refine kU <| jA <| kx [(10, (vb true))] [] (zE (qL true qI) <| zZ) ?_
 refine jA <| jS ?_
 refine jE <| jA <| jF <| jA <| kx [(5, (kD 0))] [] (zM <| zM <| zZ) ?_
 refine kd [] [(2, some y3)] mo (wM <| wM <| wM <| wM <| wE (uH vT 0) <| wE (uH uD 1) <| wR (kF jO) <| wE (uH vT 1) <| wE (uH uD 0) <| wT (kW jO) <| wZ) ?_
 refine kx [(9, (kD 1))] [] (zE (qP 1 (hr := by decide)) <| zM <| zZ) ?_
 refine jI (jT.refl _) ?_
 refine jA <| kx [(10, (vb true))] [] (zE (qL true qI) <| zZ) ?_
 refine jA <| jS ?_
 refine jE <| jA <| jF <| jA <| kJ (wk (l := [(1, (.ref 0 0)), (2, (.ref 1 0)), (3, (.ref 2 0)), (4, (kD 1)), (6, (kD 1)), (9, (kD 1)), (10, (vb true))]) (b := [(0, some y6), (1, some y1), (2, some y3)])) ?_
 refine kx [(5, (kD 1))] [] (zM <| zM <| zZ) ?_
 refine kd [] [(2, some (bx (qM (A3.mk y8 (A3.mk (jB m01) (jB m11) y7) y5))))] mo (wM <| wM <| wM <| wM <| wE (uH vT 1) <| wE (uH uD 1) <| wR (kF jO) <| wE (uH vT 1) <| wE (uH uD 1) <| wT (kW jO) <| wZ) ?_
 refine kx [(9, (kD 2))] [] (zE (qP 2 (hr := by decide)) <| zM <| zZ) ?_
 refine jI (jT.refl _) ?_
 refine jA <| kx [(10, (vb true))] [] (zE (qL true qI) <| zZ) ?_
 refine jA <| jS ?_
 refine jE <| jA <| jF <| jA <| kx [(5, (kD 2))] [] (zM <| zM <| zZ) ?_
 refine kd [] [(2, some y4)] mo (wM <| wM <| wM <| wM <| wE (uH vT 2) <| wE (uH uD 1) <| wR (kF jO) <| wE (uH vT 1) <| wE (uH uD 2) <| wT (kW jO) <| wZ) ?_
 refine kx [(9, (kD 3))] [] (zE (qP 3 (hr := by decide)) <| zM <| zZ) ?_
 refine jI (jT.refl _) ?_
 refine jA <| kx [(10, (vb false))] [] (zE (qL false qI) <| zZ) ?_
 refine jA <| kG ?_
 refine kB <| kx [(6, (kD 2))] [] (zE (qP 2 (hr := by decide)) <| zM <| zZ) ?_
 refine jI (jT.refl _) ?_
 refine jA <| kx [(7, (vb true))] [] (zE (qL true qI) <| zZ) ?_
 refine jA <| jS ?_
 refine jE <| jA <| jF <| jA <| kx [(4, (kD 2))] [] (zM <| zM <| zZ) ?_
 refine jA <| kx [(9, (kD 0))] [] (zM <| zZ) ?_
 refine jF <| kN 20 ?_
 refine kU <| jA <| kx [(10, (vb true))] [] (zE (qL true qI) <| zZ) ?_
 refine jA <| jS ?_
 refine jE <| jA <| jF <| jA <| kx [(5, (kD 0))] [] (zM <| zM <| zZ) ?_
 refine kJ (wk (l := [(1, (.ref 0 0)), (2, (.ref 1 0)), (3, (.ref 2 0)), (4, (kD 2)), (5, (kD 0)), (6, (kD 2)), (9, (kD 0))]) (b := [(0, some y6), (1, some y1), (2, some y4)])) ?_
 refine kd [] [(2, some (bx (qM (A3.mk y8 (A3.mk (jB m01) (jB m11) (jB m21)) (A3.mk (jB m02) y7 y7)))))] mo (wM <| wM <| wM <| wM <| wE (uH vT 0) <| wE (uH uD 2) <| wR (kF jO) <| wE (uH vT 2) <| wE (uH uD 0) <| wT (kW jO) <| wZ) ?_
 refine kx [(9, (kD 1))] [] (zE (qP 1 (hr := by decide)) <| zM <| zZ) ?_
 refine jI (jT.refl _) ?_
 refine jA <| kx [(10, (vb true))] [] (zE (qL true qI) <| zZ) ?_
 refine jA <| jS ?_
 refine jE <| jA <| jF <| jA <| kx [(5, (kD 1))] [] (zM <| zM <| zZ) ?_
 refine kd [] [(2, some (bx (qM (A3.mk y8 (A3.mk (jB m01) (jB m11) (jB m21)) (A3.mk (jB m02) (jB m12) y7)))))] mo (wM <| wM <| wM <| wM <| wE (uH vT 1) <| wE (uH uD 2) <| wR (kF jO) <| wE (uH vT 2) <| wE (uH uD 1) <| wT (kW jO) <| wZ) ?_
 refine kx [(9, (kD 2))] [] (zE (qP 2 (hr := by decide)) <| zM <| zZ) ?_
 refine jI (jT.refl _) ?_
 refine jA <| kx [(10, (vb true))] [] (zE (qL true qI) <| zZ) ?_
 refine jA <| jS ?_
 refine jE <| jA <| jF <| jA <| kx [(5, (kD 2))] [] (zM <| zM <| zZ) ?_
 refine kd [] [(2, some (bx (qM (A3.mk y8 (A3.mk (jB m01) (jB m11) (jB m21)) (A3.mk (jB m02) (jB m12) (jB m22))))))] mo (wM <| wM <| wM <| wM <| wE (uH vT 2) <| wE (uH uD 2) <| wR (kF jO) <| wE (uH vT 2) <| wE (uH uD 2) <| wT (kW jO) <| wZ) ?_
 refine kx [(9, (kD 3))] [] (zE (qP 3 (hr := by decide)) <| zM <| zZ) ?_
 refine jI (jT.refl _) ?_
 refine jA <| kx [(10, (vb false))] [] (zE (qL false qI) <| zZ) ?_
 refine jA <| kG ?_
 refine kB <| kx [(6, (kD 3))] [] (zE (qP 3 (hr := by decide)) <| zM <| zZ) ?_
 refine jI (jT.refl _) ?_
 refine jA <| kx [(7, (vb false))] [] (zE (qL false qI) <| zZ) ?_
 refine jA <| kG ?_
 refine kB <| jA <| kx [] [(1, some (bx (qM (A3.mk y8 (A3.mk (jB m01) (jB m11) (jB m21)) (A3.mk (jB m02) (jB m12) (jB m22))))))] (zR (kF nT) <| zT (kW nT) <| zZ) ?_
 refine jJ ⟨_, (qC (cs := (bx (qM (A3.mk (A3.mk (jB m00) (jB m10) (jB m20)) (A3.mk (jB m01) (jB m11) (jB m21)) (A3.mk (jB m02) (jB m12) (jB m22)))))) (d := (qM (A3.mk (A3.mk (jB m00) (jB m10) (jB m20)) (A3.mk (jB m01) (jB m11) (jB m21)) (A3.mk (jB m02) (jB m12) (jB m22))))) rfl rfl nT rfl rfl .nil), ?_⟩
 rfl
theorem qs_transp (m00 m01 m02 m10 m11 m12 m20 m21 m22 : Rat) (aV : QL m00 100000000) (aY : QL m01 100000000) (aS : QL m02 100000000) (aQ : QL m10 100000000) (aT : QL m11 100000000) (aW : QL m12 100000000) (aU : QL m20 100000000) (aP : QL m21 100000000) (aR : QL m22 100000000) : kH Tryz.prog 83 [(qS (A3.mk (A3.mk (jB m00) (jB m01) (jB m02)) (A3.mk (jB m10) (jB m11) (jB m12)) (A3.mk (jB m20) (jB m21) (jB m22))))] (qS (A3.mk (A3.mk (jB m00) (jB m10) (jB m20)) (A3.mk (jB m01) (jB m11) (jB m21)) (A3.mk (jB m02) (jB m12) (jB m22)))) := by
 let y8 := (A3.mk (jB m00) (jB m10) (jB m20))
 let y7 := (kC.mk (jK.mk false []) (jK.mk false []))
 let y6 := (bx (qS (A3.mk (A3.mk (jB m00) (jB m01) (jB m02)) (A3.mk (jB m10) (jB m11) (jB m12)) (A3.mk (jB m20) (jB m21) (jB m22)))))
 let y5 := (A3.mk y7 y7 y7)
 let y4 := (bx (qS (A3.mk y8 (A3.mk (jB m01) (jB m11) (jB m21)) y5)))
 let y3 := (bx (qS (A3.mk y8 (A3.mk (jB m01) y7 y7) y5)))
 let y2 := (bx (qS (A3.mk (A3.mk (jB m00) (jB m10) y7) y5 y5)))
 let y1 := (bx (qS (A3.mk y5 y5 y5)))
 refine jP Tryz.func83 rfl cb83 rfl ?_
 show uK _ _ _ _ ⟨[(0, (.d (qS (A3.mk (A3.mk (jB m00) (jB m01) (jB m02)) (A3.mk (jB m10) (jB m11) (jB m12)) (A3.mk (jB m20) (jB m21) (jB m22))))))], []⟩
 refine jA <| kx [(1, (.ref 0 0)), (2, (.ref 1 0))] [(0, some y6), (1, some y1)] (zN (vS 0) <| zN (qW 1 bV bO) <| zZ) ?_
 refine jA <| kx [(3, (.ref 2 0))] [(2, some y1)] (zE (oBa zQ bV bO) <| zN (qW 2 bV bO) <| zT (kW dE) <| zZ) ?_
 refine jA <| jA <| kx [(7, (kD 0))] [] (zM <| zZ) ?_
 refine jF <| kN 20 ?_
 refine kU <| jA <| kx [(8, (vb true))] [] (zE (qL true qI) <| zZ) ?_
 refine jA <| jS ?_
 refine jE <| jA <| jF <| jA <| kx [(4, (kD 0))] [] (zM <| zM <| zZ) ?_
 refine jA <| kx [(10, (kD 0))] [] (zM <| zZ) ?_
 refine jF <| kN 20 ?_
 refine kU <| jA <| kx [(11, (vb true))] [] (zE (qL true qI) <| zZ) ?_
 refine jA <| jS ?_
 refine jE <| jA <| jF <| jA <| kx [(5, (kD 0))] [] (zM <| zM <| zZ) ?_
 refine kd [] [(2, some (bx (qS (A3.mk (A3.mk (jB m00) y7 y7) y5 y5))))] mo (wM <| wM <| wM <| wM <| wE (uH zQ 0) <| wE (uH vE 0) <| wR (kF jO) <| wE (uH zQ 0) <| wE (uH vE 0) <| wT (kW jO) <| wZ) ?_
 refine kx [(10, (kD 1))] [] (zE (qP 1 (hr := by decide)) <| zM <| zZ) ?_
 refine jI (jT.refl _) ?_
 refine jA <| kx [(11, (vb true))] [] (zE (qL true qI) <| zZ) ?_
 refine jA <| jS ?_
 refine jE <| jA <| jF <| jA <| kx [(5, (kD 1))] [] (zM <| zM <| zZ) ?_
 refine kd [] [(2, some y2)] mo (wM <| wM <| wM <| wM <| wE (uH zQ 1) <| wE (uH vE 0) <| wR (kF jO) <| wE (uH zQ 0) <| wE (uH vE 1) <| wT (kW jO) <| wZ) ?_
 refine kx [(10, (kD 2))] [] (zE (qP 2 (hr := by decide)) <| zM <| zZ) ?_
 refine jI (jT.refl _) ?_
 refine jA <| kJ (wk (l := [(1, (.ref 0 0)), (2, (.ref 1 0)), (3, (.ref 2 0)), (4, (kD 0)), (7, (kD 0)), (10, (kD 2))]) (b := [(0, some y6), (1, some y1), (2, some y2)])) ?_
 refine kx [(11, (vb true))] [] (zE (qL true qI) <| zZ) ?_
 refine jA <| jS ?_
 refine jE <| jA <| jF <| jA <| kx [(5, (kD 2))] [] (zM <| zM <| zZ) ?_
 refine kd [] [(2, some (bx (qS (A3.mk y8 y5 y5))))] mo (wM <| wM <| wM <| wM <| wE (uH zQ 2) <| wE (uH vE 0) <| wR (kF jO) <| wE (uH zQ 0) <| wE (uH vE 2) <| wT (kW jO) <| wZ) ?_
 refine kx [(10, (kD 3))] [] (zE (qP 3 (hr := by decide)) <| zM <| zZ) ?_
 refine jI (jT.refl _) ?_
 refine jA <| kx [(11, (vb false))] [] (zE (qL false qI) <| zZ) ?_
 refine jA <| kG ?_
 refine kB <| kx [(7, (kD 1))] [] (zE (qP 1 (hr := by decide)) <| zM <| zZ) ?_
 refine jI (jT.refl _) ?_
 refine jA <| kx [(8, (vb true))] [] (zE (qL true qI) <| zZ) ?_
 refine jA <| jS ?_
 refine jE <| jA <| jF <| jA <| kx [(4, (kD 1))] [] (zM <| zM <| zZ) ?_
 refine jA <| kx [(10, (kD 0))] [] (zM <| zZ) ?_
 refine jF <| kN 20 ?_
 refine kU <| jA <| kx [(11, (vb true))] [] (zE (qL true qI) <| zZ) ?_
 refine jA <| jS ?_
 refine jE <| jA <| jF <| jA <| kx [(5, (kD 0))] [] (zM <| zM <| zZ) ?_
 refine kd [] [(2, some y3)] mo (wM <| wM <| wM <| wM <| wE (uH zQ 0) <| wE (uH vE 1) <| wR (kF jO) <| wE (uH zQ 1) <| wE (uH vE 0) <| wT (kW jO) <| wZ) ?_
 refine kx [(10, (kD 1))] [] (zE (qP 1 (hr := by decide)) <| zM <| zZ) ?_
 refine jI (jT.refl _) ?_
 refine jA <| kx [(11, (vb true))] [] (zE (qL true qI) <| zZ) ?_
 refine jA <| jS ?_
 refine jE <| jA <| jF <| jA <| kJ (wk (l := [(1, (.ref 0 0)), (2, (.ref 1 0)), (3, (.ref 2 0)), (4, (kD 1)), (7, (kD 1)), (10, (kD 1)), (11, (vb true))]) (b := [(0, some y6), (1, some y1), (2, some y3)])) ?_
 refine kx [(5, (kD 1))] [] (zM <| zM <| zZ) ?_
 refine kd [] [(2, some (bx (qS (A3.mk y8 (A3.mk (jB m01) (jB m11) y7) y5))))] mo (wM <| wM <| wM <| wM <| wE (uH zQ 1) <| wE (uH vE 1) <| wR (kF jO) <| wE (uH zQ 1) <| wE (uH vE 1) <| wT (kW jO) <| wZ) ?_
 refine kx [(10, (kD 2))] [] (zE (qP 2 (hr := by decide)) <| zM <| zZ) ?_
 refine jI (jT.refl _) ?_
 refine jA <| kx [(11, (vb true))] [] (zE (qL true qI) <| zZ) ?_
 refine jA <| jS ?_
 refine jE <| jA <| jF <| jA <| kx [(5, (kD 2))] [] (zM <| zM <| zZ) ?_
 refine kd [] [(2, some y4)] mo (wM <| wM <| wM <| wM <| wE (uH zQ 2) <| wE (uH vE 1) <| wR (kF jO) <| wE (uH zQ 1) <| wE (uH vE 2) <| wT (kW jO) <| wZ) ?_
 refine kx [(10, (kD 3))] [] (zE (qP 3 (hr := by decide)) <| zM <| zZ) ?_
 refine jI (jT.refl _) ?_
 refine jA <| kx [(11, (vb false))] [] (zE (qL false qI) <| zZ) ?_
 refine jA <| kG ?_
 refine kB <| kx [(7, (kD 2))] [] (zE (qP 2 (hr := by decide)) <| zM <| zZ) ?_
 refine jI (jT.refl _) ?_
 refine jA <| kx [(8, (vb true))] [] (zE (qL true qI) <| zZ) ?_
 refine jA <| jS ?_
 refine jE <| jA <| jF <| jA <| kx [(4, (kD 2))] [] (zM <| zM <| zZ) ?_
 refine jA <| kx [(10, (kD 0))] [] (zM <| zZ) ?_
 refine jF <| kN 20 ?_
 refine kU <| jA <| kx [(11, (vb true))] [] (zE (qL true qI) <| zZ) ?_
 refine jA <| jS ?_
 refine jE <| jA <| jF <| jA <| kx [(5, (kD 0))] [] (zM <| zM <| zZ) ?_
 refine kJ (wk (l := [(1, (.ref 0 0)), (2, (.ref 1 0)), (3, (.ref 2 0)), (4, (kD 2)), (5, (kD 0)), (7, (kD 2)), (10, (kD 0))]) (b := [(0, some y6), (1, some y1), (2, some y4)])) ?_
 refine kd [] [(2, some (bx (qS (A3.mk y8 (A3.mk (jB m01) (jB m11) (jB m21)) (A3.mk (jB m02) y7 y7)))))] mo (wM <| wM <| wM <| wM <| wE (uH zQ 0) <| wE (uH vE 2) <| wR (kF jO) <| wE (uH zQ 2) <| wE (uH vE 0) <| wT (kW jO) <| wZ) ?_
 refine kx [(10, (kD 1))] [] (zE (qP 1 (hr := by decide)) <| zM <| zZ) ?_
 refine jI (jT.refl _) ?_
 refine jA <| kx [(11, (vb true))] [] (zE (qL true qI) <| zZ) ?_
 refine jA <| jS ?_
 refine jE <| jA <| jF <| jA <| kx [(5, (kD 1))] [] (zM <| zM <| zZ) ?_
 refine kd [] [(2, some (bx (qS (A3.mk y8 (A3.mk (jB m01) (jB m11) (jB m21)) (A3.mk (jB m02) (jB m12) y7)))))] mo (wM <| wM <| wM <| wM <| wE (uH zQ 1) <| wE (uH vE 2) <| wR (kF jO) <| wE (uH zQ 2) <| wE (uH vE 1) <| wT (kW jO) <| wZ) ?_
 refine kx [(10, (kD 2))] [] (zE (qP 2 (hr := by decide)) <| zM <| zZ) ?_
 refine jI (jT.refl _) ?_
 refine jA <| kx [(11, (vb true))] [] (zE (qL true qI) <| zZ) ?_
 refine jA <| jS ?_
 refine jE <| jA <| jF <| jA <| kx [(5, (kD 2))] [] (zM <| zM <| zZ) ?_
 refine kd [] [(2, some (bx (qS (A3.mk y8 (A3.mk (jB m01) (jB m11) (jB m21)) (A3.mk (jB m02) (jB m12) (jB m22))))))] mo (wM <| wM <| wM <| wM <| wE (uH zQ 2) <| wE (uH vE 2) <| wR (kF jO) <| wE (uH zQ 2) <| wE (uH vE 2) <| wT (kW jO) <| wZ) ?_
 refine kx [(10, (kD 3))] [] (zE (qP 3 (hr := by decide)) <| zM <| zZ) ?_
 refine jI (jT.refl _) ?_
 refine jA <| kx [(11, (vb false))] [] (zE (qL false qI) <| zZ) ?_
 refine jA <| kG ?_
 refine kB <| kx [(7, (kD 3))] [] (zE (qP 3 (hr := by decide)) <| zM <| zZ) ?_
 refine jI (jT.refl _) ?_
 refine jA <| kx [(8, (vb false))] [] (zE (qL false qI) <| zZ) ?_
 refine jA <| kG ?_
 refine kB <| jA <| kx [] [(1, some (bx (qS (A3.mk y8 (A3.mk (jB m01) (jB m11) (jB m21)) (A3.mk (jB m02) (jB m12) (jB m22))))))] (zR (kF dE) <| zT (kW dE) <| zZ) ?_
 refine jJ ⟨_, (qC (cs := (bx (qS (A3.mk (A3.mk (jB m00) (jB m10) (jB m20)) (A3.mk (jB m01) (jB m11) (jB m21)) (A3.mk (jB m02) (jB m12) (jB m22)))))) (d := (qS (A3.mk (A3.mk (jB m00) (jB m10) (jB m20)) (A3.mk (jB m01) (jB m11) (jB m21)) (A3.mk (jB m02) (jB m12) (jB m22))))) rfl rfl dE rfl rfl .nil), ?_⟩
 rfl
theorem q_mul (m00 m01 m02 m10 m11 m12 m20 m21 m22 : Rat) (aV : QL m00 10000000) (aY : QL m01 10000000) (aS : QL m02 10000000) (aQ : QL m10 10000000) (aT : QL m11 10000000) (aW : QL m12 10000000) (aU : QL m20 10000000) (aP : QL m21 10000000) (aR : QL m22 10000000) (u00 u01 u02 u10 u11 u12 u20 u21 u22 : Rat) (hu00 : QL u00 10000000) (hu01 : QL u01 10000000) (hu02 : QL u02 10000000) (hu10 : QL u10 10000000) (hu11 : QL u11 10000000) (hu12 : QL u12 10000000) (hu20 : QL u20 10000000) (hu21 : QL u21 10000000) (hu22 : QL u22 10000000) : kH Tryz.prog 70 [(qM (A3.mk (A3.mk (jB m00) (jB m01) (jB m02)) (A3.mk (jB m10) (jB m11) (jB m12)) (A3.mk (jB m20) (jB m21) (jB m22)))), (qM (A3.mk (A3.mk (jB u00) (jB u01) (jB u02)) (A3.mk (jB u10) (jB u11) (jB u12)) (A3.mk (jB u20) (jB u21) (jB u22))))] (qM (A3.mk (A3.mk (jB (jG u00 u10 u20 m00 m01 m02)) (jB (jG u01 u11 u21 m00 m01 m02)) (jB (jG u02 u12 u22 m00 m01 m02))) (A3.mk (jB (jG u00 u10 u20 m10 m11 m12)) (jB (jG u01 u11 u21 m10 m11 m12)) (jB (jG u02 u12 u22 m10 m11 m12))) (A3.mk (jB (jG u00 u10 u20 m20 m21 m22)) (jB (jG u01 u11 u21 m20 m21 m22)) (jB (jG u02 u12 u22 m20 m21 m22))))) := by
 let y6 := (A3.mk (jB (jG u00 u10 u20 m00 m01 m02)) (jB (jG u01 u11 u21 m00 m01 m02)) (jB (jG u02 u12 u22 m00 m01 m02)))
 let y5 := (qM (A3.mk (A3.mk (jB m00) (jB m01) (jB m02)) (A3.mk (jB m10) (jB m11) (jB m12)) (A3.mk (jB m20) (jB m21) (jB m22))))
 let y4 := (A3.mk (kC.mk (jK.mk false []) (jK.mk false [])) (kC.mk (jK.mk false []) (jK.mk false [])) (kC.mk (jK.mk false []) (jK.mk false [])))
 let y3 := (bx (qM (A3.mk y6 (A3.mk (jB (jG u00 u10 u20 m10 m11 m12)) (jB (jG u01 u11 u21 m10 m11 m12)) (jB (jG u02 u12 u22 m10 m11 m12))) (A3.mk (jB (jG u00 u10 u20 m20 m21 m22)) (jB (jG u01 u11 u21 m20 m21 m22)) (jB (jG u02 u12 u22 m20 m21 m22))))))
 let y2 := (bx (qM (A3.mk y6 (A3.mk (jB (jG u00 u10 u20 m10 m11 m12)) (jB (jG u01 u11 u21 m10 m11 m12)) (jB (jG u02 u12 u22 m10 m11 m12))) y4)))
 let y1 := (bx (qM (A3.mk y4 y4 y4)))
 refine jP Tryz.func70 rfl cb70 rfl ?_
 show uK _ _ _ _ ⟨[(0, (.d y5)), (1, (.d (qM (A3.mk (A3.mk (jB u00) (jB u01) (jB u02)) (A3.mk (jB u10) (jB u11) (jB u12)) (A3.mk (jB u20) (jB u21) (jB u22))))))], []⟩
 refine jA <| kx [(2, (.ref 0 0)), (3, (.ref 1 0)), (4, (.ref 2 0))] [(0, some (bx y5)), (1, some (bx (qM (A3.mk (A3.mk (jB u00) (jB u01) (jB u02)) (A3.mk (jB u10) (jB u11) (jB u12)) (A3.mk (jB u20) (jB u21) (jB u22)))))), (2, some y1)] (zN (vS 0) <| zN (vS 1) <| zN (qW 2 fC fE) <| zZ) ?_
 refine jA <| kx [(5, (.ref 3 0))] [(3, some (bx (qM (A3.mk (A3.mk (jB u00) (jB u10) (jB u20)) (A3.mk (jB u01) (jB u11) (jB u21)) (A3.mk (jB u02) (jB u12) (jB u22))))))] (zR (kF nT) <| zE (kA (fG u00 u01 u02 u10 u11 u12 u20 u21 u22 (qu hu00) (qu hu01) (qu hu02) (qu hu10) (qu hu11) (qu hu12) (qu hu20) (qu hu21) (qu hu22))) <| zN (qW 3 fC fE) <| zT (kW nT) <| zZ) ?_
 refine jA <| kx [(6, (.ref 4 0))] [(4, some y1)] (zN (qW 4 fC fE) <| zZ) ?_
 refine jA <| jA <| kx [(10, (kD 0))] [] (zM <| zZ) ?_
 refine jF <| kN 20 ?_
 refine kU <| jA <| kx [(11, (vb true))] [] (zE (qL true qI) <| zZ) ?_
 refine jA <| jS ?_
 refine jE <| jA <| jF <| jA <| kx [(7, (kD 0))] [] (zM <| zM <| zZ) ?_
 have bn1 : QL (jG u00 u10 u20 m00 m01 m02) 60000002 := (jL (n := 10000000) (k := 60000002) hu00 hu10 hu20 aV aY aS (by decide))
 have bn2 : QL (jG u01 u11 u21 m00 m01 m02) 60000002 := (jL (n := 10000000) (k := 60000002) hu01 hu11 hu21 aV aY aS (by decide))
 have bn3 : QL (jG u02 u12 u22 m00 m01 m02) 60000002 := (jL (n := 10000000) (k := 60000002) hu02 hu12 hu22 aV aY aS (by decide))
 refine kd [] [(4, some (bx (qM (A3.mk y6 y4 y4))))] mo (wM <| wR (kF nT) <| wM <| wE (uH vT 0) <| wR (kF uC) <| wE (kA (q_times u00 u10 u20 u01 u11 u21 u02 u12 u22 (qu hu00) (qu hu10) (qu hu20) (qu hu01) (qu hu11) (qu hu21) (qu hu02) (qu hu12) (qu hu22) m00 m01 m02 (qu aV) (qu aY) (qu aS))) <| wE (uH vT 0) <| wT (kW uC) <| wZ) ?_
 refine kx [(10, (kD 1))] [] (zE (qP 1 (hr := by decide)) <| zM <| zZ) ?_
 refine jI (jT.refl _) ?_
 refine jA <| kx [(11, (vb true))] [] (zE (qL true qI) <| zZ) ?_
 refine jA <| jS ?_
 refine jE <| jA <| jF <| jA <| kx [(7, (kD 1))] [] (zM <| zM <| zZ) ?_
 have bn4 : QL (jG u00 u10 u20 m10 m11 m12) 60000002 := (jL (n := 10000000) (k := 60000002) hu00 hu10 hu20 aQ aT aW (by decide))
 have bn5 : QL (jG u01 u11 u21 m10 m11 m12) 60000002 := (jL (n := 10000000) (k := 60000002) hu01 hu11 hu21 aQ aT aW (by decide))
 have bn6 : QL (jG u02 u12 u22 m10 m11 m12) 60000002 := (jL (n := 10000000) (k := 60000002) hu02 hu12 hu22 aQ aT aW (by decide))
 refine kd [] [(4, some y2)] mo (wM <| wR (kF nT) <| wM <| wE (uH vT 1) <| wR (kF uC) <| wE (kA (q_times u00 u10 u20 u01 u11 u21 u02 u12 u22 (qu hu00) (qu hu10) (qu hu20) (qu hu01) (qu hu11) (qu hu21) (qu hu02) (qu hu12) (qu hu22) m10 m11 m12 (qu aQ) (qu aT) (qu aW))) <| wE (uH vT 1) <| wT (kW uC) <| wZ) ?_
 refine kx [(10, (kD 2))] [] (zE (qP 2 (hr := by decide)) <| zM <| zZ) ?_
 refine jI (jT.refl _) ?_
 refine jA <| kx [(11, (vb true))] [] (zE (qL true qI) <| zZ) ?_
 refine jA <| jS ?_
 refine jE <| jA <| jF <| jA <| kx [(7, (kD 2))] [] (zM <| zM <| zZ) ?_
 refine kJ (wk (l := [(2, (.ref 0 0)), (4, (.ref 2 0)), (5, (.ref 3 0)), (6, (.ref 4 0)), (7, (kD 2)), (10, (kD 2))]) (b := [(0, some (bx y5)), (2, some y1), (3, some (bx (qM (A3.mk (A3.mk (jB u00) (jB u10) (jB u20)) (A3.mk (jB u01) (jB u11) (jB u21)) (A3.mk (jB u02) (jB u12) (jB u22)))))), (4, some y2)])) ?_
 have bn7 : QL (jG u00 u10 u20 m20 m21 m22) 60000002 := (jL (n := 10000000) (k := 60000002) hu00 hu10 hu20 aU aP aR (by decide))
 have bn8 : QL (jG u01 u11 u21 m20 m21 m22) 60000002 := (jL (n := 10000000) (k := 60000002) hu01 hu11 hu21 aU aP aR (by decide))
 have bn9 : QL (jG u02 u12 u22 m20 m21 m22) 60000002 := (jL (n := 10000000) (k := 60000002) hu02 hu12 hu22 aU aP aR (by decide))
 refine kd [] [(4, some y3)] mo (wM <| wR (kF nT) <| wM <| wE (uH vT 2) <| wR (kF uC) <| wE (kA (q_times u00 u10 u20 u01 u11 u21 u02 u12 u22 (qu hu00) (qu hu10) (qu hu20) (qu hu01) (qu hu11) (qu hu21) (qu hu02) (qu hu12) (qu hu22) m20 m21 m22 (qu aU) (qu aP) (qu aR))) <| wE (uH vT 2) <| wT (kW uC) <| wZ) ?_
 refine kx [(10, (kD 3))] [] (zE (qP 3 (hr := by decide)) <| zM <| zZ) ?_
 refine jI (jT.refl _) ?_
 refine jA <| kx [(11, (vb false))] [] (zE (qL false qI) <| zZ) ?_
 refine jA <| kG ?_
 refine kB <| jA <| kx [] [(2, some y3)] (zR (kF nT) <| zT (kW nT) <| zZ) ?_
 refine jJ ⟨_, (qC (cs := (bx (qM (A3.mk (A3.mk (jB (jG u00 u10 u20 m00 m01 m02)) (jB (jG u01 u11 u21 m00 m01 m02)) (jB (jG u02 u12 u22 m00 m01 m02))) (A3.mk (jB (jG u00 u10 u20 m10 m11 m12)) (jB (jG u01 u11 u21 m10 m11 m12)) (jB (jG u02 u12 u22 m10 m11 m12))) (A3.mk (jB (jG u00 u10 u20 m20 m21 m22)) (jB (jG u01 u11 u21 m20 m21 m22)) (jB (jG u02 u12 u22 m20 m21 m22))))))) (d := (qM (A3.mk (A3.mk (jB (jG u00 u10 u20 m00 m01 m02)) (jB (jG u01 u11 u21 m00 m01 m02)) (jB (jG u02 u12 u22 m00 m01 m02))) (A3.mk (jB (jG u00 u10 u20 m10 m11 m12)) (jB (jG u01 u11 u21 m10 m11 m12)) (jB (jG u02 u12 u22 m10 m11 m12))) (A3.mk (jB (jG u00 u10 u20 m20 m21 m22)) (jB (jG u01 u11 u21 m20 m21 m22)) (jB (jG u02 u12 u22 m20 m21 m22)))))) rfl rfl nT rfl rfl .nil), ?_⟩
 rfl
theorem qs_back (m00 m01 m02 m10 m11 m12 m20 m21 m22 : Rat) (aV : QL m00 10000000) (aY : QL m01 10000000) (aS : QL m02 10000000) (aQ : QL m10 10000000) (aT : QL m11 10000000) (aW : QL m12 10000000) (aU : QL m20 10000000) (aP : QL m21 10000000) (aR : QL m22 10000000) (v0 v1 v2 : Rat) (hv0 : QL v0 10000000) (hv1 : QL v1 10000000) (hv2 : QL v2 10000000) : kH Tryz.prog 90 [(qS (A3.mk (A3.mk (jB m00) (jB m01) (jB m02)) (A3.mk (jB m10) (jB m11) (jB m12)) (A3.mk (jB m20) (jB m21) (jB m22)))), (jR (A3.mk (jB v0) (jB v1) (jB v2)))] (jR (A3.mk (jB (((m00 * v0) + (m10 * v1)) + (m20 * v2))) (jB (((m01 * v0) + (m11 * v1)) + (m21 * v2))) (jB (((m02 * v0) + (m12 * v1)) + (m22 * v2))))) := by
 refine jP Tryz.func90 rfl cb90 rfl ?_
 show uK _ _ _ _ ⟨[(0, (.d (qS (A3.mk (A3.mk (jB m00) (jB m01) (jB m02)) (A3.mk (jB m10) (jB m11) (jB m12)) (A3.mk (jB m20) (jB m21) (jB m22)))))), (1, (.d (jR (A3.mk (jB v0) (jB v1) (jB v2)))))], []⟩
 refine jA <| kx [(2, (.ref 0 0)), (3, (.ref 1 0)), (4, (.ref 2 0))] [(0, some (bx (qS (A3.mk (A3.mk (jB m00) (jB m01) (jB m02)) (A3.mk (jB m10) (jB m11) (jB m12)) (A3.mk (jB m20) (jB m21) (jB m22)))))), (1, some (bx (jR (A3.mk (jB v0) (jB v1) (jB v2))))), (2, some (bx (jR (A3.mk (kC.mk (jK.mk false []) (jK.mk false [])) (kC.mk (jK.mk false []) (jK.mk false [])) (kC.mk (jK.mk false []) (jK.mk false []))))))] (zN (vS 0) <| zN (vS 1) <| zN (qW 2 aM aO) <| zZ) ?_
 refine jA ?_
 have bn1 : QL ((m00 * v0) + (m10 * v1)) 40000001 := (kE (k := 40000001) (jD (k := 20000000) aV hv0 (by decide)) (jD (k := 20000000) aQ hv1 (by decide)) (by decide))
 have bn2 : QL ((m01 * v0) + (m11 * v1)) 40000001 := (kE (k := 40000001) (jD (k := 20000000) aY hv0 (by decide)) (jD (k := 20000000) aT hv1 (by decide)) (by decide))
 have bn3 : QL ((m02 * v0) + (m12 * v1)) 40000001 := (kE (k := 40000001) (jD (k := 20000000) aS hv0 (by decide)) (jD (k := 20000000) aW hv1 (by decide)) (by decide))
 have bn4 : QL (((m00 * v0) + (m10 * v1)) + (m20 * v2)) 60000002 := (kE (k := 60000002) bn1 (jD (k := 20000000) aU hv2 (by decide)) (by decide))
 have bn5 : QL (((m01 * v0) + (m11 * v1)) + (m21 * v2)) 60000002 := (kE (k := 60000002) bn2 (jD (k := 20000000) aP hv2 (by decide)) (by decide))
 have bn6 : QL (((m02 * v0) + (m12 * v1)) + (m22 * v2)) 60000002 := (kE (k := 60000002) bn3 (jD (k := 20000000) aR hv2 (by decide)) (by decide))
 refine kd [] [(2, some (bx (jR (A3.mk (jB (((m00 * v0) + (m10 * v1)) + (m20 * v2))) (jB (((m01 * v0) + (m11 * v1)) + (m21 * v2))) (jB (((m02 * v0) + (m12 * v1)) + (m22 * v2)))))))] mo (wE (uH zQ 0) <| wR (kF vX) <| wE (uH vE 0) <| wR (kF jO) <| wE (kA (nQ m00 m01 m02 (qu aV) (qu aY) (qu aS) v0 (qu hv0))) <| wE (uH zQ 1) <| wR (kF vX) <| wE (uH vE 1) <| wR (kF jO) <| wE (kA (nQ m10 m11 m12 (qu aQ) (qu aT) (qu aW) v1 (qu hv1))) <| wE (kA (qs_sum (m00 * v0) (m01 * v0) (m02 * v0) (uR (jD (k := 20000000) aV hv0 (by decide)) (by decide)) (uR (jD (k := 20000000) aY hv0 (by decide)) (by decide)) (uR (jD (k := 20000000) aS hv0 (by decide)) (by decide)) (m10 * v1) (m11 * v1) (m12 * v1) (uR (jD (k := 20000000) aQ hv1 (by decide)) (by decide)) (uR (jD (k := 20000000) aT hv1 (by decide)) (by decide)) (uR (jD (k := 20000000) aW hv1 (by decide)) (by decide)))) <| wE (uH zQ 2) <| wR (kF vX) <| wE (uH vE 2) <| wR (kF jO) <| wE (kA (nQ m20 m21 m22 (qu aU) (qu aP) (qu aR) v2 (qu hv2))) <| wE (kA (qs_sum ((m00 * v0) + (m10 * v1)) ((m01 * v0) + (m11 * v1)) ((m02 * v0) + (m12 * v1)) (qu bn1) (qu bn2) (qu bn3) (m20 * v2) (m21 * v2) (m22 * v2) (uR (jD (k := 20000000) aU hv2 (by decide)) (by decide)) (uR (jD (k := 20000000) aP hv2 (by decide)) (by decide)) (uR (jD (k := 20000000) aR hv2 (by decide)) (by decide)))) <| wT (kW vX) <| wZ) ?_
 refine jJ ⟨_, (qC (cs := (bx (jR (A3.mk (jB (((m00 * v0) + (m10 * v1)) + (m20 * v2))) (jB (((m01 * v0) + (m11 * v1)) + (m21 * v2))) (jB (((m02 * v0) + (m12 * v1)) + (m22 * v2))))))) (d := (jR (A3.mk (jB (((m00 * v0) + (m10 * v1)) + (m20 * v2))) (jB (((m01 * v0) + (m11 * v1)) + (m21 * v2))) (jB (((m02 * v0) + (m12 * v1)) + (m22 * v2)))))) rfl rfl vX rfl rfl .nil), ?_⟩
 rfl
theorem iV (m00 m01 m02 m10 m11 m12 m20 m21 m22 : Rat) (aV : QL m00 10000000) (aY : QL m01 10000000) (aS : QL m02 10000000) (aQ : QL m10 10000000) (aT : QL m11 10000000) (aW : QL m12 10000000) (aU : QL m20 10000000) (aP : QL m21 10000000) (aR : QL m22 10000000) (u00 u01 u02 u10 u11 u12 u20 u21 u22 : Rat) (hu00 : QL u00 10000000) (hu01 : QL u01 10000000) (hu02 : QL u02 10000000) (hu10 : QL u10 10000000) (hu11 : QL u11 10000000) (hu12 : QL u12 10000000) (hu20 : QL u20 10000000) (hu21 : QL u21 10000000) (hu22 : QL u22 10000000) : kH Tryz.prog 81 [(qS (A3.mk (A3.mk (jB m00) (jB m01) (jB m02)) (A3.mk (jB m10) (jB m11) (jB m12)) (A3.mk (jB m20) (jB m21) (jB m22)))), (qS (A3.mk (A3.mk (jB u00) (jB u01) (jB u02)) (A3.mk (jB u10) (jB u11) (jB u12)) (A3.mk (jB u20) (jB u21) (jB u22))))] (qS (A3.mk (A3.mk (jB (((u00 * m00) + (u10 * m01)) + (u20 * m02))) (jB (((u01 * m00) + (u11 * m01)) + (u21 * m02))) (jB (((u02 * m00) + (u12 * m01)) + (u22 * m02)))) (A3.mk (jB (((u00 * m10) + (u10 * m11)) + (u20 * m12))) (jB (((u01 * m10) + (u11 * m11)) + (u21 * m12))) (jB (((u02 * m10) + (u12 * m11)) + (u22 * m12)))) (A3.mk (jB (((u00 * m20) + (u10 * m21)) + (u20 * m22))) (jB (((u01 * m20) + (u11 * m21)) + (u21 * m22))) (jB (((u02 * m20) + (u12 * m21)) + (u22 * m22)))))) := by
 let y6 := (qS (A3.mk (A3.mk (jB u00) (jB u01) (jB u02)) (A3.mk (jB u10) (jB u11) (jB u12)) (A3.mk (jB u20) (jB u21) (jB u22))))
 let y5 := (qS (A3.mk (A3.mk (jB m00) (jB m01) (jB m02)) (A3.mk (jB m10) (jB m11) (jB m12)) (A3.mk (jB m20) (jB m21) (jB m22))))
 let y4 := (A3.mk (kC.mk (jK.mk false []) (jK.mk false [])) (kC.mk (jK.mk false []) (jK.mk false [])) (kC.mk (jK.mk false []) (jK.mk false [])))
 let y3 := (A3.mk (jB (((u00 * m00) + (u10 * m01)) + (u20 * m02))) (jB (((u01 * m00) + (u11 * m01)) + (u21 * m02))) (jB (((u02 * m00) + (u12 * m01)) + (u22 * m02))))
 let y2 := (bx (qS (A3.mk y4 y4 y4)))
 let y1 := (bx (qS (A3.mk y3 (A3.mk (jB (((u00 * m10) + (u10 * m11)) + (u20 * m12))) (jB (((u01 * m10) + (u11 * m11)) + (u21 * m12))) (jB (((u02 * m10) + (u12 * m11)) + (u22 * m12)))) (A3.mk (jB (((u00 * m20) + (u10 * m21)) + (u20 * m22))) (jB (((u01 * m20) + (u11 * m21)) + (u21 * m22))) (jB (((u02 * m20) + (u12 * m21)) + (u22 * m22)))))))
 refine jP Tryz.func81 rfl cb81 rfl ?_
 show uK _ _ _ _ ⟨[(0, (.d y5)), (1, (.d y6))], []⟩
 refine jA <| kx [(2, (.ref 0 0)), (3, (.ref 1 0)), (4, (.ref 2 0))] [(0, some (bx y5)), (1, some (bx y6)), (2, some y2)] (zN (vS 0) <| zN (vS 1) <| zN (qW 2 bV bO) <| zZ) ?_
 refine jA <| kx [(5, (.ref 3 0))] [(3, some y2)] (zE (oBa zQ bV bO) <| zN (qW 3 bV bO) <| zT (kW dE) <| zZ) ?_
 refine jA <| jA <| kx [(8, (kD 0))] [] (zM <| zZ) ?_
 refine jF <| kN 20 ?_
 refine kU <| jA <| kx [(9, (vb true))] [] (zE (qL true qI) <| zZ) ?_
 refine jA <| jS ?_
 refine jE <| jA <| jF <| jA <| kx [(6, (kD 0))] [] (zM <| zM <| zZ) ?_
 have bn1 : QL (((u00 * m00) + (u10 * m01)) + (u20 * m02)) 60000002 := (kE (k := 60000002) (kE (k := 40000001) (jD (k := 20000000) hu00 aV (by decide)) (jD (k := 20000000) hu10 aY (by decide)) (by decide)) (jD (k := 20000000) hu20 aS (by decide)) (by decide))
 have bn2 : QL (((u01 * m00) + (u11 * m01)) + (u21 * m02)) 60000002 := (kE (k := 60000002) (kE (k := 40000001) (jD (k := 20000000) hu01 aV (by decide)) (jD (k := 20000000) hu11 aY (by decide)) (by decide)) (jD (k := 20000000) hu21 aS (by decide)) (by decide))
 have bn3 : QL (((u02 * m00) + (u12 * m01)) + (u22 * m02)) 60000002 := (kE (k := 60000002) (kE (k := 40000001) (jD (k := 20000000) hu02 aV (by decide)) (jD (k := 20000000) hu12 aY (by decide)) (by decide)) (jD (k := 20000000) hu22 aS (by decide)) (by decide))
 refine kd [] [(3, some (bx (qS (A3.mk y3 y4 y4))))] mo (wM <| wR (kF dE) <| wM <| wE (uH zQ 0) <| wR (kF vX) <| wE (kA (qs_back u00 u01 u02 u10 u11 u12 u20 u21 u22 hu00 hu01 hu02 hu10 hu11 hu12 hu20 hu21 hu22 m00 m01 m02 aV aY aS)) <| wE (uH zQ 0) <| wT (kW vX) <| wZ) ?_
 refine kx [(8, (kD 1))] [] (zE (qP 1 (hr := by decide)) <| zM <| zZ) ?_
 refine jI (jT.refl _) ?_
 refine jA <| kx [(9, (vb true))] [] (zE (qL true qI) <| zZ) ?_
 refine jA <| jS ?_
 refine jE <| jA <| jF <| jA <| kx [(6, (kD 1))] [] (zM <| zM <| zZ) ?_
 have bn4 : QL (((u00 * m10) + (u10 * m11)) + (u20 * m12)) 60000002 := (kE (k := 60000002) (kE (k := 40000001) (jD (k := 20000000) hu00 aQ (by decide)) (jD (k := 20000000) hu10 aT (by decide)) (by decide)) (jD (k := 20000000) hu20 aW (by decide)) (by decide))
 have bn5 : QL (((u01 * m10) + (u11 * m11)) + (u21 * m12)) 60000002 := (kE (k := 60000002) (kE (k := 40000001) (jD (k := 20000000) hu01 aQ (by decide)) (jD (k := 20000000) hu11 aT (by decide)) (by decide)) (jD (k := 20000000) hu21 aW (by decide)) (by decide))
 have bn6 : QL (((u02 * m10) + (u12 * m11)) + (u22 * m12)) 60000002 := (kE (k := 60000002) (kE (k := 40000001) (jD (k := 20000000) hu02 aQ (by decide)) (jD (k := 20000000) hu12 aT (by decide)) (by decide)) (jD (k := 20000000) hu22 aW (by decide)) (by decide))
 refine kd [] [(3, some (bx (qS (A3.mk y3 (A3.mk (jB (((u00 * m10) + (u10 * m11)) + (u20 * m12))) (jB (((u01 * m10) + (u11 * m11)) + (u21 * m12))) (jB (((u02 * m10) + (u12 * m11)) + (u22 * m12)))) y4))))] mo (wM <| wR (kF dE) <| wM <| wE (uH zQ 1) <| wR (kF vX) <| wE (kA (qs_back u00 u01 u02 u10 u11 u12 u20 u21 u22 hu00 hu01 hu02 hu10 hu11 hu12 hu20 hu21 hu22 m10 m11 m12 aQ aT aW)) <| wE (uH zQ 1) <| wT (kW vX) <| wZ) ?_
 refine kx [(8, (kD 2))] [] (zE (qP 2 (hr := by decide)) <| zM <| zZ) ?_
 refine jI (jT.refl _) ?_
 refine jA <| kx [(9, (vb true))] [] (zE (qL true qI) <| zZ) ?_
 refine jA <| jS ?_
 refine jE <| jA <| jF <| jA <| kx [(6, (kD 2))] [] (zM <| zM <| zZ) ?_
 have bn7 : QL (((u00 * m20) + (u10 * m21)) + (u20 * m22)) 60000002 := (kE (k := 60000002) (kE (k := 40000001) (jD (k := 20000000) hu00 aU (by decide)) (jD (k := 20000000) hu10 aP (by decide)) (by decide)) (jD (k := 20000000) hu20 aR (by decide)) (by decide))
 have bn8 : QL (((u01 * m20) + (u11 * m21)) + (u21 * m22)) 60000002 := (kE (k := 60000002) (kE (k := 40000001) (jD (k := 20000000) hu01 aU (by decide)) (jD (k := 20000000) hu11 aP (by decide)) (by decide)) (jD (k := 20000000) hu21 aR (by decide)) (by decide))
 have bn9 : QL (((u02 * m20) + (u12 * m21)) + (u22 * m22)) 60000002 := (kE (k := 60000002) (kE (k := 40000001) (jD (k := 20000000) hu02 aU (by decide)) (jD (k := 20000000) hu12 aP (by decide)) (by decide)) (jD (k := 20000000) hu22 aR (by decide)) (by decide))
 refine kd [] [(3, some y1)] mo (wM <| wR (kF dE) <| wM <| wE (uH zQ 2) <| wR (kF vX) <| wE (kA (qs_back u00 u01 u02 u10 u11 u12 u20 u21 u22 hu00 hu01 hu02 hu10 hu11 hu12 hu20 hu21 hu22 m20 m21 m22 aU aP aR)) <| wE (uH zQ 2) <| wT (kW vX) <| wZ) ?_
 refine kJ (wk (l := [(2, (.ref 0 0)), (3, (.ref 1 0)), (4, (.ref 2 0)), (5, (.ref 3 0)), (8, (kD 2))]) (b := [(0, some (bx y5)), (1, some (bx y6)), (2, some y2), (3, some y1)])) ?_
 refine kx [(8, (kD 3))] [] (zE (qP 3 (hr := by decide)) <| zM <| zZ) ?_
 refine jI (jT.refl _) ?_
 refine jA <| kx [(9, (vb false))] [] (zE (qL false qI) <| zZ) ?_
 refine jA <| kG ?_
 refine kB <| jA <| kx [] [(2, some y1)] (zR (kF dE) <| zT (kW dE) <| zZ) ?_
 refine jJ ⟨_, (qC (cs := (bx (qS (A3.mk (A3.mk (jB (((u00 * m00) + (u10 * m01)) + (u20 * m02))) (jB (((u01 * m00) + (u11 * m01)) + (u21 * m02))) (jB (((u02 * m00) + (u12 * m01)) + (u22 * m02)))) (A3.mk (jB (((u00 * m10) + (u10 * m11)) + (u20 * m12))) (jB (((u01 * m10) + (u11 * m11)) + (u21 * m12))) (jB (((u02 * m10) + (u12 * m11)) + (u22 * m12)))) (A3.mk (jB (((u00 * m20) + (u10 * m21)) + (u20 * m22))) (jB (((u01 * m20) + (u11 * m21)) + (u21 * m22))) (jB (((u02 * m20) + (u12 * m21)) + (u22 * m22)))))))) (d := (qS (A3.mk (A3.mk (jB (((u00 * m00) + (u10 * m01)) + (u20 * m02))) (jB (((u01 * m00) + (u11 * m01)) + (u21 * m02))) (jB (((u02 * m00) + (u12 * m01)) + (u22 * m02)))) (A3.mk (jB (((u00 * m10) + (u10 * m11)) + (u20 * m12))) (jB (((u01 * m10) + (u11 * m11)) + (u21 * m12))) (jB (((u02 * m10) + (u12 * m11)) + (u22 * m12)))) (A3.mk (jB (((u00 * m20) + (u10 * m21)) + (u20 * m22))) (jB (((u01 * m20) + (u11 * m21)) + (u21 * m22))) (jB (((u02 * m20) + (u12 * m21)) + (u22 * m22))))))) rfl rfl dE rfl rfl .nil), ?_⟩
 rfl
end Go.Proofs.YtbecgnplakngdaaGreat
