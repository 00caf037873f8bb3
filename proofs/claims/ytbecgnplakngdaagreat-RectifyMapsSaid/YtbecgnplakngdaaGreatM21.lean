/- Part 21 of a proof: rules, plain facts, and functions walked. -/
import Derived.Test.YtbecgnplakngdaaGreatM19
import Derived.Test.YtbecgnplakngdaaGreatM20
namespace Go.Proofs.YtbecgnplakngdaaGreat
open Go.Fid
set_option maxRecDepth 4000
set_option linter.unusedVariables false
set_option linter.unusedSimpArgs false
theorem yG : eA Tryz.prog 44 = some (3, 42, 4) := by kernel_rfl
theorem mU : eA Tryz.prog 45 = some (3, 44, 12) := by kernel_rfl
theorem uE : eA Tryz.prog 129 = some (3, 42, 4) := by kernel_rfl
theorem vH : eA Tryz.prog 131 = some (3, 129, 12) := by kernel_rfl
theorem cb22 : callB Tryz.prog 22 = true := by kernel_rfl
theorem cb23 : callB Tryz.prog 23 = true := by kernel_rfl
theorem cb38 : callB Tryz.prog 38 = true := by kernel_rfl
theorem cb44 : callB Tryz.prog 44 = true := by kernel_rfl
theorem cb45 : callB Tryz.prog 45 = true := by kernel_rfl
theorem cb70 : callB Tryz.prog 70 = true := by kernel_rfl
theorem cb72 : callB Tryz.prog 72 = true := by kernel_rfl
theorem cb73 : callB Tryz.prog 73 = true := by kernel_rfl
theorem cb78 : callB Tryz.prog 78 = true := by kernel_rfl
theorem cb90 : callB Tryz.prog 90 = true := by kernel_rfl
theorem cb92 : callB Tryz.prog 92 = true := by kernel_rfl
theorem cb96 : callB Tryz.prog 96 = true := by kernel_rfl
theorem cb98 : callB Tryz.prog 98 = true := by kernel_rfl
theorem cb101 : callB Tryz.prog 101 = true := by kernel_rfl
theorem cb106 : callB Tryz.prog 106 = true := by kernel_rfl
theorem cb107 : callB Tryz.prog 107 = true := by kernel_rfl
theorem cb141 : callB Tryz.prog 141 = true := by kernel_rfl
theorem vT : xW Tryz.prog 52 = some (42, 4) := by kernel_rfl
theorem vC : uK Tryz.prog 44 = some (true, 12) := by kernel_rfl
theorem sh45 : uK Tryz.prog 45 = some (true, 36) := by kernel_rfl
theorem qO : uK Tryz.prog 129 = some (true, 12) := by kernel_rfl
theorem gJ : uK Tryz.prog 131 = some (true, 36) := by kernel_rfl
theorem dX : xI Tryz.prog 44 = some [.bool false, .slice none 0 0, .bool false, .slice none 0 0, .bool false, .slice none 0 0, .bool false, .slice none 0 0, .bool false, .slice none 0 0, .bool false, .slice none 0 0] := by kernel_rfl
theorem ze45 : xI Tryz.prog 45 = some [.bool false, .slice none 0 0, .bool false, .slice none 0 0, .bool false, .slice none 0 0, .bool false, .slice none 0 0, .bool false, .slice none 0 0, .bool false, .slice none 0 0, .bool false, .slice none 0 0, .bool false, .slice none 0 0, .bool false, .slice none 0 0, .bool false, .slice none 0 0, .bool false, .slice none 0 0, .bool false, .slice none 0 0, .bool false, .slice none 0 0, .bool false, .slice none 0 0, .bool false, .slice none 0 0, .bool false, .slice none 0 0, .bool false, .slice none 0 0, .bool false, .slice none 0 0] := by kernel_rfl
theorem yN : xI Tryz.prog 129 = some [.bool false, .slice none 0 0, .bool false, .slice none 0 0, .bool false, .slice none 0 0, .bool false, .slice none 0 0, .bool false, .slice none 0 0, .bool false, .slice none 0 0] := by kernel_rfl
theorem dQ : xI Tryz.prog 131 = some [.bool false, .slice none 0 0, .bool false, .slice none 0 0, .bool false, .slice none 0 0, .bool false, .slice none 0 0, .bool false, .slice none 0 0, .bool false, .slice none 0 0, .bool false, .slice none 0 0, .bool false, .slice none 0 0, .bool false, .slice none 0 0, .bool false, .slice none 0 0, .bool false, .slice none 0 0, .bool false, .slice none 0 0, .bool false, .slice none 0 0, .bool false, .slice none 0 0, .bool false, .slice none 0 0, .bool false, .slice none 0 0, .bool false, .slice none 0 0, .bool false, .slice none 0 0] := by kernel_rfl
theorem dW : mG [.bool false, .slice none 0 0, .bool false, .slice none 0 0, .bool false, .slice none 0 0, .bool false, .slice none 0 0, .bool false, .slice none 0 0, .bool false, .slice none 0 0] [.val (.bool false), .sl 152 1 [], .val (.bool false), .sl 152 1 [], .val (.bool false), .sl 152 1 [], .val (.bool false), .sl 152 1 [], .val (.bool false), .sl 152 1 [], .val (.bool false), .sl 152 1 []] := by simp [mG, Value.oneCell']
theorem zo45 : mG [.bool false, .slice none 0 0, .bool false, .slice none 0 0, .bool false, .slice none 0 0, .bool false, .slice none 0 0, .bool false, .slice none 0 0, .bool false, .slice none 0 0, .bool false, .slice none 0 0, .bool false, .slice none 0 0, .bool false, .slice none 0 0, .bool false, .slice none 0 0, .bool false, .slice none 0 0, .bool false, .slice none 0 0, .bool false, .slice none 0 0, .bool false, .slice none 0 0, .bool false, .slice none 0 0, .bool false, .slice none 0 0, .bool false, .slice none 0 0, .bool false, .slice none 0 0] [.val (.bool false), .sl 152 1 [], .val (.bool false), .sl 152 1 [], .val (.bool false), .sl 152 1 [], .val (.bool false), .sl 152 1 [], .val (.bool false), .sl 152 1 [], .val (.bool false), .sl 152 1 [], .val (.bool false), .sl 152 1 [], .val (.bool false), .sl 152 1 [], .val (.bool false), .sl 152 1 [], .val (.bool false), .sl 152 1 [], .val (.bool false), .sl 152 1 [], .val (.bool false), .sl 152 1 [], .val (.bool false), .sl 152 1 [], .val (.bool false), .sl 152 1 [], .val (.bool false), .sl 152 1 [], .val (.bool false), .sl 152 1 [], .val (.bool false), .sl 152 1 [], .val (.bool false), .sl 152 1 []] := by simp [mG, Value.oneCell']
theorem yO : mG [.bool false, .slice none 0 0, .bool false, .slice none 0 0, .bool false, .slice none 0 0, .bool false, .slice none 0 0, .bool false, .slice none 0 0, .bool false, .slice none 0 0] [.val (.bool false), .sl 152 1 [], .val (.bool false), .sl 152 1 [], .val (.bool false), .sl 152 1 [], .val (.bool false), .sl 152 1 [], .val (.bool false), .sl 152 1 [], .val (.bool false), .sl 152 1 []] := by simp [mG, Value.oneCell']
theorem dM : mG [.bool false, .slice none 0 0, .bool false, .slice none 0 0, .bool false, .slice none 0 0, .bool false, .slice none 0 0, .bool false, .slice none 0 0, .bool false, .slice none 0 0, .bool false, .slice none 0 0, .bool false, .slice none 0 0, .bool false, .slice none 0 0, .bool false, .slice none 0 0, .bool false, .slice none 0 0, .bool false, .slice none 0 0, .bool false, .slice none 0 0, .bool false, .slice none 0 0, .bool false, .slice none 0 0, .bool false, .slice none 0 0, .bool false, .slice none 0 0, .bool false, .slice none 0 0] [.val (.bool false), .sl 152 1 [], .val (.bool false), .sl 152 1 [], .val (.bool false), .sl 152 1 [], .val (.bool false), .sl 152 1 [], .val (.bool false), .sl 152 1 [], .val (.bool false), .sl 152 1 [], .val (.bool false), .sl 152 1 [], .val (.bool false), .sl 152 1 [], .val (.bool false), .sl 152 1 [], .val (.bool false), .sl 152 1 [], .val (.bool false), .sl 152 1 [], .val (.bool false), .sl 152 1 [], .val (.bool false), .sl 152 1 [], .val (.bool false), .sl 152 1 [], .val (.bool false), .sl 152 1 [], .val (.bool false), .sl 152 1 [], .val (.bool false), .sl 152 1 [], .val (.bool false), .sl 152 1 []] := by simp [mG, Value.oneCell']
theorem q_dotF (ta : Nat) (a0 a1 a2 : Rat) (ha0 : QL a0 100000000) (ha1 : QL a1 100000000) (ha2 : QL a2 100000000) (tb : Nat) (b0 b1 b2 : Rat) (hb0 : QL b0 100000000) (hb1 : QL b1 100000000) (hb2 : QL b2 100000000) : kE Tryz.prog 141 [(.sl ta 4 (List.map jR [(jB a0), (jB a1), (jB a2)])), (.sl tb 4 (List.map jR [(jB b0), (jB b1), (jB b2)]))] (.tup [(jR (jB (jD a0 a1 a2 b0 b1 b2))), (.val (.int .i64 (0)))]) := by
 refine jN Tryz.func141 rfl cb141 rfl ?_
 show uT _ _ _ _ ⟨[(0, (vl ta 4 jR [(jB a0), (jB a1), (jB a2)])), (1, (vl tb 4 jR [(jB b0), (jB b1), (jB b2)]))], []⟩
 refine jA <| kx [(4, (.ref 0 0))] [(0, some (bx (jR (jQ.mk (jF.mk false []) (jF.mk false [])))))] (zN (qS 0 qR qY) <| zM <| zZ) ?_
 refine jA <| jA <| kx [(13, (vb false))] [] (zM <| zE (oLn vT 3) <| zM <| zE (oLn vT 3) <| zE eI <| zZ) ?_
 refine kY ?_
 refine jE <| jA ?_
 have bn1 : QL ((0 : Int) : Rat) 1 := (kQ (z := 0) (vK (by decide)) (by decide))
 refine kx [(6, (.ref 1 0))] [(1, some (bx (jR (jB ((0 : Int) : Rat)))))] (zE (kA (gX 0 (by decide) (by decide))) <| zN (qS 1 qR qY) <| zT (qB jT) <| zZ) ?_
 refine jA <| jA <| kx [(16, (vl ta 4 jR [(jB a0), (jB a1), (jB a2)])), (17, (kX 3)), (18, (kX 0))] [] (zM <| zE (oLn vT 3) <| zM <| zZ) ?_
 refine jG <| qU 20 ?_
 refine uF <| jA <| kx [(19, (vb true))] [] (zE (vB true uW) <| zZ) ?_
 refine jA <| kS ?_
 refine jE <| jA <| jG <| jA <| kx [(7, (kX 0)), (8, (.ref 2 0))] [(2, some (bx (jR (jB a0))))] (zM <| zE (gL vT 0) <| zE (cG jT) <| zN (qS 2 qR qY) <| zM <| zT (qB jT) <| zZ) ?_
 have bn2 : QL (((0 : Int) : Rat) + (a0 * b0)) 200000002 := (kR (k := 200000002) bn1 (jH (k := 200000000) ha0 hb0 (by decide)) (by decide))
 refine kd [] [(1, some (bx (jR (jB (((0 : Int) : Rat) + (a0 * b0))))))] mo (wR (kC jT) <| wR (kC jT) <| wM <| wM <| wE (gL vT 0) <| wE (cG jT) <| wE (kA (aQ (jB a0) (jB b0) a0 b0 (jU (kD ha0) (by decide)) (jU (kD hb0) (by decide)))) <| wE (kA (f_add (jB ((0 : Int) : Rat)) (jB (a0 * b0)) ((0 : Int) : Rat) (a0 * b0) (jU (kD bn1) (by decide)) (jU (kD (jH (k := 200000000) ha0 hb0 (by decide))) (by decide)))) <| wT (qB jT) <| wZ) ?_
 refine kx [(18, (kX 1))] [] (zE (uZ 1 (hr := by decide)) <| zM <| zZ) ?_
 refine jV (kU.refl _) ?_
 refine jA <| kx [(19, (vb true))] [] (zE (vB true uW) <| zZ) ?_
 refine jA <| kS ?_
 refine jE <| jA <| jG <| jA <| kx [(7, (kX 1)), (8, (.ref 3 0))] [(3, some (bx (jR (jB a1))))] (zM <| zE (gL vT 1) <| zE (cG jT) <| zN (qS 3 qR qY) <| zM <| zT (qB jT) <| zZ) ?_
 have bn3 : QL ((((0 : Int) : Rat) + (a0 * b0)) + (a1 * b1)) 400000003 := (kR (k := 400000003) bn2 (jH (k := 200000000) ha1 hb1 (by decide)) (by decide))
 refine kd [] [(1, some (bx (jR (jB ((((0 : Int) : Rat) + (a0 * b0)) + (a1 * b1))))))] mo (wR (kC jT) <| wR (kC jT) <| wM <| wM <| wE (gL vT 1) <| wE (cG jT) <| wE (kA (aQ (jB a1) (jB b1) a1 b1 (jU (kD ha1) (by decide)) (jU (kD hb1) (by decide)))) <| wE (kA (f_add (jB (((0 : Int) : Rat) + (a0 * b0))) (jB (a1 * b1)) (((0 : Int) : Rat) + (a0 * b0)) (a1 * b1) (jU (kD bn2) (by decide)) (jU (kD (jH (k := 200000000) ha1 hb1 (by decide))) (by decide)))) <| wT (qB jT) <| wZ) ?_
 refine kx [(18, (kX 2))] [] (zE (uZ 2 (hr := by decide)) <| zM <| zZ) ?_
 refine jV (kU.refl _) ?_
 refine jA <| kx [(19, (vb true))] [] (zE (vB true uW) <| zZ) ?_
 refine jA <| kS ?_
 refine jE <| jA <| jG <| jA <| kx [(7, (kX 2)), (8, (.ref 4 0))] [(4, some (bx (jR (jB a2))))] (zM <| zE (gL vT 2) <| zE (cG jT) <| zN (qS 4 qR qY) <| zM <| zT (qB jT) <| zZ) ?_
 refine qM (wk (l := [(1, (vl tb 4 jR [(jB b0), (jB b1), (jB b2)])), (4, (.ref 0 0)), (6, (.ref 1 0)), (7, (kX 2)), (8, (.ref 4 0)), (16, (vl ta 4 jR [(jB a0), (jB a1), (jB a2)])), (17, (kX 3)), (18, (kX 2))]) (b := [(0, some (bx (jR (jQ.mk (jF.mk false []) (jF.mk false []))))), (1, some (bx (jR (jB ((((0 : Int) : Rat) + (a0 * b0)) + (a1 * b1)))))), (4, some (bx (jR (jB a2))))])) ?_
 have bn4 : QL (((((0 : Int) : Rat) + (a0 * b0)) + (a1 * b1)) + (a2 * b2)) 600000004 := (kR (k := 600000004) bn3 (jH (k := 200000000) ha2 hb2 (by decide)) (by decide))
 refine kd [] [(1, some (bx (jR (jB (((((0 : Int) : Rat) + (a0 * b0)) + (a1 * b1)) + (a2 * b2))))))] mo (wR (kC jT) <| wR (kC jT) <| wM <| wM <| wE (gL vT 2) <| wE (cG jT) <| wE (kA (aQ (jB a2) (jB b2) a2 b2 (jU (kD ha2) (by decide)) (jU (kD hb2) (by decide)))) <| wE (kA (f_add (jB ((((0 : Int) : Rat) + (a0 * b0)) + (a1 * b1))) (jB (a2 * b2)) ((((0 : Int) : Rat) + (a0 * b0)) + (a1 * b1)) (a2 * b2) (jU (kD bn3) (by decide)) (jU (kD (jH (k := 200000000) ha2 hb2 (by decide))) (by decide)))) <| wT (qB jT) <| wZ) ?_
 refine kx [(18, (kX 3))] [] (zE (uZ 3 (hr := by decide)) <| zM <| zZ) ?_
 refine jV (kU.refl _) ?_
 refine jA <| kx [(19, (vb false))] [] (zE (vB false uW) <| zZ) ?_
 refine jA <| kY ?_
 refine qF <| jA <| kx [(5, (kX 0))] [(0, some (bx (jR (jB (((((0 : Int) : Rat) + (a0 * b0)) + (a1 * b1)) + (a2 * b2))))))] (zR (kC jT) <| zT (qB jT) <| zM <| zZ) ?_
 refine jJ ⟨_, (qI (cs := (bx (jR (jB (((((0 : Int) : Rat) + (a0 * b0)) + (a1 * b1)) + (a2 * b2)))))) (d := (jR (jB (((((0 : Int) : Rat) + (a0 * b0)) + (a1 * b1)) + (a2 * b2))))) rfl rfl jT rfl rfl (.tmp (d := (.val (.int .i64 (((0 : Nat) : Int))))) rfl .nil)), ?_⟩
 rw [← dot3_eq]; rfl
theorem q_dotL (ta : Nat) (a0 a1 a2 : Rat) (ha0 : QL a0 100000000) (ha1 : QL a1 100000000) (ha2 : QL a2 100000000) (tb : Nat) (b0 b1 b2 : Rat) (hb0 : QL b0 100000000) (hb1 : QL b1 100000000) (hb2 : QL b2 100000000) : kE Tryz.prog 92 [(.sl ta 4 (List.map jR [(jB a0), (jB a1), (jB a2)])), (.sl tb 4 (List.map jR [(jB b0), (jB b1), (jB b2)]))] (.tup [(jR (jB (jD a0 a1 a2 b0 b1 b2))), (.val (.int .i64 (0)))]) := by
 refine jN Tryz.func92 rfl cb92 rfl ?_
 show uT _ _ _ _ ⟨[(0, (vl ta 4 jR [(jB a0), (jB a1), (jB a2)])), (1, (vl tb 4 jR [(jB b0), (jB b1), (jB b2)]))], []⟩
 refine jA <| kx [(4, (.ref 0 0))] [(0, some (bx (jR (jQ.mk (jF.mk false []) (jF.mk false [])))))] (zN (qS 0 qR qY) <| zM <| zZ) ?_
 refine jA <| jA <| kx [(12, (vb false))] [] (zM <| zE (oLn vT 3) <| zM <| zE (oLn vT 3) <| zE eI <| zZ) ?_
 refine kY ?_
 refine jE <| jA ?_
 have bn1 : QL ((0 : Int) : Rat) 1 := (kQ (z := 0) (vK (by decide)) (by decide))
 refine kx [(6, (.ref 1 0))] [(1, some (bx (jR (jB ((0 : Int) : Rat)))))] (zE (kA (gD 0 (by decide) (by decide))) <| zN (qS 1 qR qY) <| zT (qB jT) <| zZ) ?_
 refine jA <| jA <| kx [(7, (kX 0))] [] (zM <| zZ) ?_
 refine jG <| qU 20 ?_
 refine uF <| jA <| jA <| kx [(18, (vb true))] [] (zM <| zM <| zE (oLn vT 3) <| zE (vB true uW) <| zZ) ?_
 refine kS ?_
 refine jE <| jA <| jG ?_
 have bn2 : QL (((0 : Int) : Rat) + (a0 * b0)) 200000002 := (kR (k := 200000002) bn1 (jH (k := 200000000) ha0 hb0 (by decide)) (by decide))
 refine kd [] [(1, some (bx (jR (jB (((0 : Int) : Rat) + (a0 * b0))))))] mo (wR (kC jT) <| wM <| wM <| wE (gL vT 0) <| wE (cG jT) <| wM <| wM <| wE (gL vT 0) <| wE (cG jT) <| wE (kA (fV (jB a0) (jB b0) a0 b0 (jU (kD ha0) (by decide)) (jU (kD hb0) (by decide)))) <| wE (kA (g_add (jB ((0 : Int) : Rat)) (jB (a0 * b0)) ((0 : Int) : Rat) (a0 * b0) (jU (kD bn1) (by decide)) (jU (kD (jH (k := 200000000) ha0 hb0 (by decide))) (by decide)))) <| wT (qB jT) <| wZ) ?_
 refine kx [(7, (kX 1))] [] (zM <| zE (uZ 1 (hr := by decide)) <| zM <| zZ) ?_
 refine jV (kU.refl _) ?_
 refine jA <| jA <| kx [(18, (vb true))] [] (zM <| zM <| zE (oLn vT 3) <| zE (vB true uW) <| zZ) ?_
 refine kS ?_
 refine jE <| jA <| jG ?_
 have bn3 : QL ((((0 : Int) : Rat) + (a0 * b0)) + (a1 * b1)) 400000003 := (kR (k := 400000003) bn2 (jH (k := 200000000) ha1 hb1 (by decide)) (by decide))
 refine kd [] [(1, some (bx (jR (jB ((((0 : Int) : Rat) + (a0 * b0)) + (a1 * b1))))))] mo (wR (kC jT) <| wM <| wM <| wE (gL vT 1) <| wE (cG jT) <| wM <| wM <| wE (gL vT 1) <| wE (cG jT) <| wE (kA (fV (jB a1) (jB b1) a1 b1 (jU (kD ha1) (by decide)) (jU (kD hb1) (by decide)))) <| wE (kA (g_add (jB (((0 : Int) : Rat) + (a0 * b0))) (jB (a1 * b1)) (((0 : Int) : Rat) + (a0 * b0)) (a1 * b1) (jU (kD bn2) (by decide)) (jU (kD (jH (k := 200000000) ha1 hb1 (by decide))) (by decide)))) <| wT (qB jT) <| wZ) ?_
 refine kx [(7, (kX 2))] [] (zM <| zE (uZ 2 (hr := by decide)) <| zM <| zZ) ?_
 refine jV (kU.refl _) ?_
 refine jA <| jA <| kx [(18, (vb true))] [] (zM <| zM <| zE (oLn vT 3) <| zE (vB true uW) <| zZ) ?_
 refine kS ?_
 refine jE <| jA <| jG ?_
 have bn4 : QL (((((0 : Int) : Rat) + (a0 * b0)) + (a1 * b1)) + (a2 * b2)) 600000004 := (kR (k := 600000004) bn3 (jH (k := 200000000) ha2 hb2 (by decide)) (by decide))
 refine kd [] [(1, some (bx (jR (jB (((((0 : Int) : Rat) + (a0 * b0)) + (a1 * b1)) + (a2 * b2))))))] mo (wR (kC jT) <| wM <| wM <| wE (gL vT 2) <| wE (cG jT) <| wM <| wM <| wE (gL vT 2) <| wE (cG jT) <| wE (kA (fV (jB a2) (jB b2) a2 b2 (jU (kD ha2) (by decide)) (jU (kD hb2) (by decide)))) <| wE (kA (g_add (jB ((((0 : Int) : Rat) + (a0 * b0)) + (a1 * b1))) (jB (a2 * b2)) ((((0 : Int) : Rat) + (a0 * b0)) + (a1 * b1)) (a2 * b2) (jU (kD bn3) (by decide)) (jU (kD (jH (k := 200000000) ha2 hb2 (by decide))) (by decide)))) <| wT (qB jT) <| wZ) ?_
 refine kx [(7, (kX 3))] [] (zM <| zE (uZ 3 (hr := by decide)) <| zM <| zZ) ?_
 refine jV (kU.refl _) ?_
 refine jA <| jA <| kx [(18, (vb false))] [] (zM <| zM <| zE (oLn vT 3) <| zE (vB false uW) <| zZ) ?_
 refine kY ?_
 refine qF <| jA <| qM (wk (l := [(0, (vl ta 4 jR [(jB a0), (jB a1), (jB a2)])), (1, (vl tb 4 jR [(jB b0), (jB b1), (jB b2)])), (4, (.ref 0 0)), (6, (.ref 1 0)), (7, (kX 3)), (18, (vb false))]) (b := [(0, some (bx (jR (jQ.mk (jF.mk false []) (jF.mk false []))))), (1, some (bx (jR (jB (((((0 : Int) : Rat) + (a0 * b0)) + (a1 * b1)) + (a2 * b2))))))])) ?_
 refine kx [(5, (kX 0))] [(0, some (bx (jR (jB (((((0 : Int) : Rat) + (a0 * b0)) + (a1 * b1)) + (a2 * b2))))))] (zR (kC jT) <| zT (qB jT) <| zM <| zZ) ?_
 refine jJ ⟨_, (qI (cs := (bx (jR (jB (((((0 : Int) : Rat) + (a0 * b0)) + (a1 * b1)) + (a2 * b2)))))) (d := (jR (jB (((((0 : Int) : Rat) + (a0 * b0)) + (a1 * b1)) + (a2 * b2))))) rfl rfl jT rfl rfl (.tmp (d := (.val (.int .i64 (((0 : Nat) : Int))))) rfl .nil)), ?_⟩
 rw [← dot3_eq]; rfl
theorem q_whole (x : Int) (hxl : -9223372036854775808 ≤ x) (hxh : x ≤ 9223372036854775807) (y : Int) (hyl : -9223372036854775808 ≤ y) (hyh : y ≤ 9223372036854775807) (z : Int) (hzl : -9223372036854775808 ≤ z) (hzh : z ≤ 9223372036854775807) : kE Tryz.prog 96 [(.val (.int .i64 (x))), (.val (.int .i64 (y))), (.val (.int .i64 (z)))] (jP (A3.mk (jB ((x : Int) : Rat)) (jB ((y : Int) : Rat)) (jB ((z : Int) : Rat)))) := by
 refine jN Tryz.func96 rfl cb96 rfl ?_
 show uT _ _ _ _ ⟨[(0, (vi x)), (1, (vi y)), (2, (vi z))], []⟩
 refine jA <| kx [(6, (.ref 0 0))] [(0, some (bx (jP (A3.mk (jQ.mk (jF.mk false []) (jF.mk false [])) (jQ.mk (jF.mk false []) (jF.mk false [])) (jQ.mk (jF.mk false []) (jF.mk false []))))))] (zN (qS 0 yN yO) <| zZ) ?_
 refine jA ?_
 have bn1 : QL ((x : Int) : Rat) 3 := (kQ (z := x) (jO (by omega) (by omega)) (by decide))
 have bn2 : QL ((y : Int) : Rat) 3 := (kQ (z := y) (jO (by omega) (by omega)) (by decide))
 have bn3 : QL ((z : Int) : Rat) 3 := (kQ (z := z) (jO (by omega) (by omega)) (by decide))
 refine kx [] [(0, some (bx (jP (A3.mk (jB ((x : Int) : Rat)) (jB ((y : Int) : Rat)) (jB ((z : Int) : Rat))))))] (zM <| zE (kA (gX x (by omega) (by omega))) <| zM <| zE (kA (gX y (by omega) (by omega))) <| zM <| zE (kA (gX z (by omega) (by omega))) <| zE (oBf uE yN yO) <| zT (qB qO) <| zZ) ?_
 refine jJ ⟨_, (qI (cs := (bx (jP (A3.mk (jB ((x : Int) : Rat)) (jB ((y : Int) : Rat)) (jB ((z : Int) : Rat)))))) (d := (jP (A3.mk (jB ((x : Int) : Rat)) (jB ((y : Int) : Rat)) (jB ((z : Int) : Rat))))) rfl rfl qO rfl rfl .nil), ?_⟩
 rfl
theorem q_dot (a0 a1 a2 : Rat) (ha0 : QL a0 100000000) (ha1 : QL a1 100000000) (ha2 : QL a2 100000000) (b0 b1 b2 : Rat) (hb0 : QL b0 100000000) (hb1 : QL b1 100000000) (hb2 : QL b2 100000000) : kE Tryz.prog 98 [(jP (A3.mk (jB a0) (jB a1) (jB a2))), (jP (A3.mk (jB b0) (jB b1) (jB b2)))] (jR (jB (jD a0 a1 a2 b0 b1 b2))) := by
 refine jN Tryz.func98 rfl cb98 rfl ?_
 show uT _ _ _ _ ⟨[(0, (.d (jP (A3.mk (jB a0) (jB a1) (jB a2))))), (1, (.d (jP (A3.mk (jB b0) (jB b1) (jB b2)))))], []⟩
 refine jA <| kx [(2, (.ref 0 0)), (3, (.ref 1 0)), (4, (.ref 2 0))] [(0, some (bx (jP (A3.mk (jB a0) (jB a1) (jB a2))))), (1, some (bx (jP (A3.mk (jB b0) (jB b1) (jB b2))))), (2, some (bx (jR (jQ.mk (jF.mk false []) (jF.mk false [])))))] (zN (uX 0) <| zN (uX 1) <| zN (qS 2 qR qY) <| zZ) ?_
 refine jA ?_
 have bn1 : QL (jD a0 a1 a2 b0 b1 b2) 600000002 := (jL (n := 100000000) (k := 600000002) ha0 ha1 ha2 hb0 hb1 hb2 (by decide))
 refine kd [(5, (.ref 3 0))] [(3, some (bx (jR (jB (jD a0 a1 a2 b0 b1 b2)))))] mo (wE (e_slv (by exact rfl) uE (by exact rfl) (by kernel_rfl) (by kernel_rfl)) <| wE (e_slv (by exact rfl) uE (by exact rfl) (by kernel_rfl) (by kernel_rfl)) <| wC (oCg [(0, (qH.cells (jP (A3.mk (jB a0) (jB a1) (jB a2))))), (1, (qH.cells (jP (A3.mk (jB b0) (jB b1) (jB b2)))))] [(.view 0 0 3), (.view 1 0 3)] (q_dotF 1000000 a0 a1 a2 ha0 ha1 ha2 1000000 b0 b1 b2 hb0 hb1 hb2) (.v (es := List.map jR [(jB a0), (jB a1), (jB a2)]) (.head _) (gG _ _ (fun _ => rfl)) (by kernel_rfl) (by kernel_rfl) (.v (es := List.map jR [(jB b0), (jB b1), (jB b2)]) (.tail _ (.head _)) (gG _ _ (fun _ => rfl)) (by kernel_rfl) (by kernel_rfl) .nil)) (.tup (dT (avo_encR (by decide) _) (dT (.val _) avo_nil)))) <| wM <| wE uH <| wE uH <| wN (qS 3 qR qY) <| wT (qB jT) <| wM <| wZ) ?_
 refine jA <| kx [] [(2, some (bx (jR (jB (jD a0 a1 a2 b0 b1 b2)))))] (zR (kC jT) <| zT (qB jT) <| zZ) ?_
 refine jJ ⟨_, (qI (cs := (bx (jR (jB (jD a0 a1 a2 b0 b1 b2))))) (d := (jR (jB (jD a0 a1 a2 b0 b1 b2)))) rfl rfl jT rfl rfl .nil), ?_⟩
 rfl
theorem q_cross (a0 a1 a2 : Rat) (ha0 : QL a0 100000000) (ha1 : QL a1 100000000) (ha2 : QL a2 100000000) (b0 b1 b2 : Rat) (hb0 : QL b0 100000000) (hb1 : QL b1 100000000) (hb2 : QL b2 100000000) : kE Tryz.prog 73 [(jP (A3.mk (jB a0) (jB a1) (jB a2))), (jP (A3.mk (jB b0) (jB b1) (jB b2)))] (jP (A3.mk (jB ((a1 * b2) - (a2 * b1))) (jB ((a2 * b0) - (a0 * b2))) (jB ((a0 * b1) - (a1 * b0))))) := by
 let y2 := (jQ.mk (jF.mk false []) (jF.mk false []))
 let y1 := (bx (jP (A3.mk y2 y2 y2)))
 refine jN Tryz.func73 rfl cb73 rfl ?_
 show uT _ _ _ _ ⟨[(0, (.d (jP (A3.mk (jB a0) (jB a1) (jB a2))))), (1, (.d (jP (A3.mk (jB b0) (jB b1) (jB b2)))))], []⟩
 refine jA <| kx [(2, (.ref 0 0)), (3, (.ref 1 0)), (4, (.ref 2 0))] [(0, some (bx (jP (A3.mk (jB a0) (jB a1) (jB a2))))), (1, some (bx (jP (A3.mk (jB b0) (jB b1) (jB b2))))), (2, some y1)] (zN (uX 0) <| zN (uX 1) <| zN (qS 2 yN yO) <| zZ) ?_
 refine jA <| kx [(5, (.ref 3 0))] [(3, some y1)] (zN (qS 3 yN yO) <| zZ) ?_
 refine jA <| jA <| kx [(9, (kX 0))] [] (zM <| zZ) ?_
 refine jG <| qU 20 ?_
 refine uF <| jA <| kx [(10, (vb true))] [] (zE (vB true uW) <| zZ) ?_
 refine jA <| kS ?_
 refine jE <| jA <| jG <| jA <| kx [(6, (kX 0))] [] (zM <| zM <| zZ) ?_
 refine jA <| kx [(7, (kX 1)), (8, (kX 2))] [] (zM <| zE (uZ 1 (hr := by decide)) <| zE (oRe 1 (hr := by decide)) <| zM <| zE (uZ 2 (hr := by decide)) <| zE (oRe 2 (hr := by decide)) <| zM <| zM <| zZ) ?_
 have bn1 : QL ((a1 * b2) - (a2 * b1)) 400000001 := (qP (k := 400000001) (jH (k := 200000000) ha1 hb2 (by decide)) (jH (k := 200000000) ha2 hb1 (by decide)) (by decide))
 refine kd [] [(3, some (bx (jP (A3.mk (jB ((a1 * b2) - (a2 * b1))) y2 y2))))] mo (wM <| wM <| wE (vF uE 1) <| wR (kC jT) <| wM <| wE (vF uE 2) <| wR (kC jT) <| wE (kA (aQ (jB a1) (jB b2) a1 b2 (jU (kD ha1) (by decide)) (jU (kD hb2) (by decide)))) <| wM <| wE (vF uE 2) <| wR (kC jT) <| wM <| wE (vF uE 1) <| wR (kC jT) <| wE (kA (aQ (jB a2) (jB b1) a2 b1 (jU (kD ha2) (by decide)) (jU (kD hb1) (by decide)))) <| wE (kA (f_sub (jB (a1 * b2)) (jB (a2 * b1)) (a1 * b2) (a2 * b1) (jU (kD (jH (k := 200000000) ha1 hb2 (by decide))) (by decide)) (jU (kD (jH (k := 200000000) ha2 hb1 (by decide))) (by decide)))) <| wE (vF uE 0) <| wT (qB jT) <| wZ) ?_
 refine kx [(9, (kX 1))] [] (zE (uZ 1 (hr := by decide)) <| zM <| zZ) ?_
 refine jV (kU.refl _) ?_
 refine jA <| kx [(10, (vb true))] [] (zE (vB true uW) <| zZ) ?_
 refine jA <| kS ?_
 refine jE <| jA <| jG <| jA <| kx [(6, (kX 1))] [] (zM <| zM <| zZ) ?_
 refine jA <| kx [(7, (kX 2)), (8, (kX 0))] [] (zM <| zE (uZ 2 (hr := by decide)) <| zE (oRe 2 (hr := by decide)) <| zM <| zE (uZ 3 (hr := by decide)) <| zE (oRe 0 (hr := by decide)) <| zM <| zM <| zZ) ?_
 have bn2 : QL ((a2 * b0) - (a0 * b2)) 400000001 := (qP (k := 400000001) (jH (k := 200000000) ha2 hb0 (by decide)) (jH (k := 200000000) ha0 hb2 (by decide)) (by decide))
 refine kd [] [(3, some (bx (jP (A3.mk (jB ((a1 * b2) - (a2 * b1))) (jB ((a2 * b0) - (a0 * b2))) y2))))] mo (wM <| wM <| wE (vF uE 2) <| wR (kC jT) <| wM <| wE (vF uE 0) <| wR (kC jT) <| wE (kA (aQ (jB a2) (jB b0) a2 b0 (jU (kD ha2) (by decide)) (jU (kD hb0) (by decide)))) <| wM <| wE (vF uE 0) <| wR (kC jT) <| wM <| wE (vF uE 2) <| wR (kC jT) <| wE (kA (aQ (jB a0) (jB b2) a0 b2 (jU (kD ha0) (by decide)) (jU (kD hb2) (by decide)))) <| wE (kA (f_sub (jB (a2 * b0)) (jB (a0 * b2)) (a2 * b0) (a0 * b2) (jU (kD (jH (k := 200000000) ha2 hb0 (by decide))) (by decide)) (jU (kD (jH (k := 200000000) ha0 hb2 (by decide))) (by decide)))) <| wE (vF uE 1) <| wT (qB jT) <| wZ) ?_
 refine kx [(9, (kX 2))] [] (zE (uZ 2 (hr := by decide)) <| zM <| zZ) ?_
 refine jV (kU.refl _) ?_
 refine jA <| kx [(10, (vb true))] [] (zE (vB true uW) <| zZ) ?_
 refine jA <| kS ?_
 refine jE <| jA <| jG <| jA <| qM (wk (l := [(2, (.ref 0 0)), (3, (.ref 1 0)), (4, (.ref 2 0)), (5, (.ref 3 0)), (9, (kX 2)), (10, (vb true))]) (b := [(0, some (bx (jP (A3.mk (jB a0) (jB a1) (jB a2))))), (1, some (bx (jP (A3.mk (jB b0) (jB b1) (jB b2))))), (2, some y1), (3, some (bx (jP (A3.mk (jB ((a1 * b2) - (a2 * b1))) (jB ((a2 * b0) - (a0 * b2))) y2))))])) ?_
 refine kx [(6, (kX 2))] [] (zM <| zM <| zZ) ?_
 refine jA <| kx [(7, (kX 0)), (8, (kX 1))] [] (zM <| zE (uZ 3 (hr := by decide)) <| zE (oRe 0 (hr := by decide)) <| zM <| zE (uZ 4 (hr := by decide)) <| zE (oRe 1 (hr := by decide)) <| zM <| zM <| zZ) ?_
 have bn3 : QL ((a0 * b1) - (a1 * b0)) 400000001 := (qP (k := 400000001) (jH (k := 200000000) ha0 hb1 (by decide)) (jH (k := 200000000) ha1 hb0 (by decide)) (by decide))
 refine kd [] [(3, some (bx (jP (A3.mk (jB ((a1 * b2) - (a2 * b1))) (jB ((a2 * b0) - (a0 * b2))) (jB ((a0 * b1) - (a1 * b0)))))))] mo (wM <| wM <| wE (vF uE 0) <| wR (kC jT) <| wM <| wE (vF uE 1) <| wR (kC jT) <| wE (kA (aQ (jB a0) (jB b1) a0 b1 (jU (kD ha0) (by decide)) (jU (kD hb1) (by decide)))) <| wM <| wE (vF uE 1) <| wR (kC jT) <| wM <| wE (vF uE 0) <| wR (kC jT) <| wE (kA (aQ (jB a1) (jB b0) a1 b0 (jU (kD ha1) (by decide)) (jU (kD hb0) (by decide)))) <| wE (kA (f_sub (jB (a0 * b1)) (jB (a1 * b0)) (a0 * b1) (a1 * b0) (jU (kD (jH (k := 200000000) ha0 hb1 (by decide))) (by decide)) (jU (kD (jH (k := 200000000) ha1 hb0 (by decide))) (by decide)))) <| wE (vF uE 2) <| wT (qB jT) <| wZ) ?_
 refine kx [(9, (kX 3))] [] (zE (uZ 3 (hr := by decide)) <| zM <| zZ) ?_
 refine jV (kU.refl _) ?_
 refine jA <| kx [(10, (vb false))] [] (zE (vB false uW) <| zZ) ?_
 refine jA <| kY ?_
 refine qF <| jA <| kx [] [(2, some (bx (jP (A3.mk (jB ((a1 * b2) - (a2 * b1))) (jB ((a2 * b0) - (a0 * b2))) (jB ((a0 * b1) - (a1 * b0)))))))] (zR (kC qO) <| zT (qB qO) <| zZ) ?_
 refine jJ ⟨_, (qI (cs := (bx (jP (A3.mk (jB ((a1 * b2) - (a2 * b1))) (jB ((a2 * b0) - (a0 * b2))) (jB ((a0 * b1) - (a1 * b0))))))) (d := (jP (A3.mk (jB ((a1 * b2) - (a2 * b1))) (jB ((a2 * b0) - (a0 * b2))) (jB ((a0 * b1) - (a1 * b0)))))) rfl rfl qO rfl rfl .nil), ?_⟩
 rfl
theorem nJ (a0 a1 a2 : Rat) (ha0 : QL a0 100000000) (ha1 : QL a1 100000000) (ha2 : QL a2 100000000) (k : Rat) (hk : QL k 100000000) : kE Tryz.prog 107 [(jP (A3.mk (jB a0) (jB a1) (jB a2))), (jR (jB k))] (jP (A3.mk (jB (a0 * k)) (jB (a1 * k)) (jB (a2 * k)))) := by
 let y1 := (jQ.mk (jF.mk false []) (jF.mk false []))
 refine jN Tryz.func107 rfl cb107 rfl ?_
 show uT _ _ _ _ ⟨[(0, (.d (jP (A3.mk (jB a0) (jB a1) (jB a2))))), (1, (.d (jR (jB k))))], []⟩
 refine jA <| kx [(2, (.ref 0 0)), (3, (.ref 1 0)), (4, (.ref 2 0))] [(0, some (bx (jP (A3.mk (jB a0) (jB a1) (jB a2))))), (1, some (bx (jR (jB k)))), (2, some (bx (jP (A3.mk y1 y1 y1))))] (zN (uX 0) <| zN (uX 1) <| zN (qS 2 yN yO) <| zZ) ?_
 refine jA <| jA <| kx [(6, (kX 0))] [] (zM <| zZ) ?_
 refine jG <| qU 20 ?_
 refine uF <| jA <| kx [(7, (vb true))] [] (zE (vB true uW) <| zZ) ?_
 refine jA <| kS ?_
 refine jE <| jA <| jG <| jA <| kx [(5, (kX 0))] [] (zM <| zM <| zZ) ?_
 refine kd [] [(0, some (bx (jP (A3.mk (jB (a0 * k)) (jB a1) (jB a2)))))] mo (wM <| wM <| wE (vF uE 0) <| wR (kC jT) <| wR (kC jT) <| wE (kA (aQ (jB a0) (jB k) a0 k (jU (kD ha0) (by decide)) (jU (kD hk) (by decide)))) <| wE (vF uE 0) <| wT (qB jT) <| wZ) ?_
 refine kx [(6, (kX 1))] [] (zE (uZ 1 (hr := by decide)) <| zM <| zZ) ?_
 refine jV (kU.refl _) ?_
 refine jA <| kx [(7, (vb true))] [] (zE (vB true uW) <| zZ) ?_
 refine jA <| kS ?_
 refine jE <| jA <| jG <| jA <| kx [(5, (kX 1))] [] (zM <| zM <| zZ) ?_
 refine kd [] [(0, some (bx (jP (A3.mk (jB (a0 * k)) (jB (a1 * k)) (jB a2)))))] mo (wM <| wM <| wE (vF uE 1) <| wR (kC jT) <| wR (kC jT) <| wE (kA (aQ (jB a1) (jB k) a1 k (jU (kD ha1) (by decide)) (jU (kD hk) (by decide)))) <| wE (vF uE 1) <| wT (qB jT) <| wZ) ?_
 refine kx [(6, (kX 2))] [] (zE (uZ 2 (hr := by decide)) <| zM <| zZ) ?_
 refine jV (kU.refl _) ?_
 refine jA <| kx [(7, (vb true))] [] (zE (vB true uW) <| zZ) ?_
 refine jA <| kS ?_
 refine jE <| jA <| jG <| jA <| kx [(5, (kX 2))] [] (zM <| zM <| zZ) ?_
 refine kd [] [(0, some (bx (jP (A3.mk (jB (a0 * k)) (jB (a1 * k)) (jB (a2 * k))))))] mo (wM <| wM <| wE (vF uE 2) <| wR (kC jT) <| wR (kC jT) <| wE (kA (aQ (jB a2) (jB k) a2 k (jU (kD ha2) (by decide)) (jU (kD hk) (by decide)))) <| wE (vF uE 2) <| wT (qB jT) <| wZ) ?_
 refine kx [(6, (kX 3))] [] (zE (uZ 3 (hr := by decide)) <| zM <| zZ) ?_
 refine jV (kU.refl _) ?_
 refine jA <| qM (wk (l := [(2, (.ref 0 0)), (3, (.ref 1 0)), (4, (.ref 2 0)), (6, (kX 3))]) (b := [(0, some (bx (jP (A3.mk (jB (a0 * k)) (jB (a1 * k)) (jB (a2 * k)))))), (1, some (bx (jR (jB k)))), (2, some (bx (jP (A3.mk y1 y1 y1))))])) ?_
 refine kx [(7, (vb false))] [] (zE (vB false uW) <| zZ) ?_
 refine jA <| kY ?_
 refine qF <| jA <| kx [] [(2, some (bx (jP (A3.mk (jB (a0 * k)) (jB (a1 * k)) (jB (a2 * k))))))] (zR (kC qO) <| zT (qB qO) <| zZ) ?_
 refine jJ ⟨_, (qI (cs := (bx (jP (A3.mk (jB (a0 * k)) (jB (a1 * k)) (jB (a2 * k)))))) (d := (jP (A3.mk (jB (a0 * k)) (jB (a1 * k)) (jB (a2 * k))))) rfl rfl qO rfl rfl .nil), ?_⟩
 rfl
theorem q_sum (a0 a1 a2 : Rat) (ha0 : QL a0 1000000000) (ha1 : QL a1 1000000000) (ha2 : QL a2 1000000000) (b0 b1 b2 : Rat) (hb0 : QL b0 1000000000) (hb1 : QL b1 1000000000) (hb2 : QL b2 1000000000) : kE Tryz.prog 106 [(jP (A3.mk (jB a0) (jB a1) (jB a2))), (jP (A3.mk (jB b0) (jB b1) (jB b2)))] (jP (A3.mk (jB (a0 + b0)) (jB (a1 + b1)) (jB (a2 + b2)))) := by
 let y1 := (jQ.mk (jF.mk false []) (jF.mk false []))
 refine jN Tryz.func106 rfl cb106 rfl ?_
 show uT _ _ _ _ ⟨[(0, (.d (jP (A3.mk (jB a0) (jB a1) (jB a2))))), (1, (.d (jP (A3.mk (jB b0) (jB b1) (jB b2)))))], []⟩
 refine jA <| kx [(2, (.ref 0 0)), (3, (.ref 1 0)), (4, (.ref 2 0))] [(0, some (bx (jP (A3.mk (jB a0) (jB a1) (jB a2))))), (1, some (bx (jP (A3.mk (jB b0) (jB b1) (jB b2))))), (2, some (bx (jP (A3.mk y1 y1 y1))))] (zN (uX 0) <| zN (uX 1) <| zN (qS 2 yN yO) <| zZ) ?_
 refine jA <| jA <| kx [(6, (kX 0))] [] (zM <| zZ) ?_
 refine jG <| qU 20 ?_
 refine uF <| jA <| kx [(7, (vb true))] [] (zE (vB true uW) <| zZ) ?_
 refine jA <| kS ?_
 refine jE <| jA <| jG <| jA <| kx [(5, (kX 0))] [] (zM <| zM <| zZ) ?_
 refine kd [] [(0, some (bx (jP (A3.mk (jB (a0 + b0)) (jB a1) (jB a2)))))] mo (wM <| wM <| wE (vF uE 0) <| wR (kC jT) <| wM <| wE (vF uE 0) <| wR (kC jT) <| wE (kA (f_add (jB a0) (jB b0) a0 b0 (jU (kD ha0) (by decide)) (jU (kD hb0) (by decide)))) <| wE (vF uE 0) <| wT (qB jT) <| wZ) ?_
 refine kx [(6, (kX 1))] [] (zE (uZ 1 (hr := by decide)) <| zM <| zZ) ?_
 refine jV (kU.refl _) ?_
 refine jA <| kx [(7, (vb true))] [] (zE (vB true uW) <| zZ) ?_
 refine jA <| kS ?_
 refine jE <| jA <| jG <| jA <| kx [(5, (kX 1))] [] (zM <| zM <| zZ) ?_
 refine kd [] [(0, some (bx (jP (A3.mk (jB (a0 + b0)) (jB (a1 + b1)) (jB a2)))))] mo (wM <| wM <| wE (vF uE 1) <| wR (kC jT) <| wM <| wE (vF uE 1) <| wR (kC jT) <| wE (kA (f_add (jB a1) (jB b1) a1 b1 (jU (kD ha1) (by decide)) (jU (kD hb1) (by decide)))) <| wE (vF uE 1) <| wT (qB jT) <| wZ) ?_
 refine kx [(6, (kX 2))] [] (zE (uZ 2 (hr := by decide)) <| zM <| zZ) ?_
 refine jV (kU.refl _) ?_
 refine jA <| kx [(7, (vb true))] [] (zE (vB true uW) <| zZ) ?_
 refine jA <| kS ?_
 refine jE <| jA <| jG <| jA <| kx [(5, (kX 2))] [] (zM <| zM <| zZ) ?_
 refine kd [] [(0, some (bx (jP (A3.mk (jB (a0 + b0)) (jB (a1 + b1)) (jB (a2 + b2))))))] mo (wM <| wM <| wE (vF uE 2) <| wR (kC jT) <| wM <| wE (vF uE 2) <| wR (kC jT) <| wE (kA (f_add (jB a2) (jB b2) a2 b2 (jU (kD ha2) (by decide)) (jU (kD hb2) (by decide)))) <| wE (vF uE 2) <| wT (qB jT) <| wZ) ?_
 refine kx [(6, (kX 3))] [] (zE (uZ 3 (hr := by decide)) <| zM <| zZ) ?_
 refine jV (kU.refl _) ?_
 refine jA <| qM (wk (l := [(2, (.ref 0 0)), (3, (.ref 1 0)), (4, (.ref 2 0)), (6, (kX 3))]) (b := [(0, some (bx (jP (A3.mk (jB (a0 + b0)) (jB (a1 + b1)) (jB (a2 + b2)))))), (1, some (bx (jP (A3.mk (jB b0) (jB b1) (jB b2))))), (2, some (bx (jP (A3.mk y1 y1 y1))))])) ?_
 refine kx [(7, (vb false))] [] (zE (vB false uW) <| zZ) ?_
 refine jA <| kY ?_
 refine qF <| jA <| kx [] [(2, some (bx (jP (A3.mk (jB (a0 + b0)) (jB (a1 + b1)) (jB (a2 + b2))))))] (zR (kC qO) <| zT (qB qO) <| zZ) ?_
 refine jJ ⟨_, (qI (cs := (bx (jP (A3.mk (jB (a0 + b0)) (jB (a1 + b1)) (jB (a2 + b2)))))) (d := (jP (A3.mk (jB (a0 + b0)) (jB (a1 + b1)) (jB (a2 + b2))))) rfl rfl qO rfl rfl .nil), ?_⟩
 rfl
theorem qs_whole (x : Int) (hxl : -9223372036854775808 ≤ x) (hxh : x ≤ 9223372036854775807) (y : Int) (hyl : -9223372036854775808 ≤ y) (hyh : y ≤ 9223372036854775807) (z : Int) (hzl : -9223372036854775808 ≤ z) (hzh : z ≤ 9223372036854775807) : kE Tryz.prog 38 [(.val (.int .i64 (x))), (.val (.int .i64 (y))), (.val (.int .i64 (z)))] (jP (A3.mk (jB ((x : Int) : Rat)) (jB ((y : Int) : Rat)) (jB ((z : Int) : Rat)))) := by
 refine jN Tryz.func38 rfl cb38 rfl ?_
 show uT _ _ _ _ ⟨[(0, (vi x)), (1, (vi y)), (2, (vi z))], []⟩
 refine jA <| kx [(6, (.ref 0 0))] [(0, some (bx (jP (A3.mk (jQ.mk (jF.mk false []) (jF.mk false [])) (jQ.mk (jF.mk false []) (jF.mk false [])) (jQ.mk (jF.mk false []) (jF.mk false []))))))] (zN (qS 0 dX dW) <| zZ) ?_
 refine jA ?_
 have bn1 : QL ((x : Int) : Rat) 3 := (kQ (z := x) (jO (by omega) (by omega)) (by decide))
 have bn2 : QL ((y : Int) : Rat) 3 := (kQ (z := y) (jO (by omega) (by omega)) (by decide))
 have bn3 : QL ((z : Int) : Rat) 3 := (kQ (z := z) (jO (by omega) (by omega)) (by decide))
 refine kx [] [(0, some (bx (jP (A3.mk (jB ((x : Int) : Rat)) (jB ((y : Int) : Rat)) (jB ((z : Int) : Rat))))))] (zM <| zE (kA (gD x (by omega) (by omega))) <| zM <| zE (kA (gD y (by omega) (by omega))) <| zM <| zE (kA (gD z (by omega) (by omega))) <| zE (oBf yG dX dW) <| zT (qB vC) <| zZ) ?_
 refine jJ ⟨_, (qI (cs := (bx (jP (A3.mk (jB ((x : Int) : Rat)) (jB ((y : Int) : Rat)) (jB ((z : Int) : Rat)))))) (d := (jP (A3.mk (jB ((x : Int) : Rat)) (jB ((y : Int) : Rat)) (jB ((z : Int) : Rat))))) rfl rfl vC rfl rfl .nil), ?_⟩
 rfl
theorem aA (a0 a1 a2 : Rat) (ha0 : QL a0 100000000) (ha1 : QL a1 100000000) (ha2 : QL a2 100000000) (b0 b1 b2 : Rat) (hb0 : QL b0 100000000) (hb1 : QL b1 100000000) (hb2 : QL b2 100000000) : kE Tryz.prog 22 [(jP (A3.mk (jB a0) (jB a1) (jB a2))), (jP (A3.mk (jB b0) (jB b1) (jB b2)))] (jR (jB (jD a0 a1 a2 b0 b1 b2))) := by
 refine jN Tryz.func22 rfl cb22 rfl ?_
 show uT _ _ _ _ ⟨[(0, (.d (jP (A3.mk (jB a0) (jB a1) (jB a2))))), (1, (.d (jP (A3.mk (jB b0) (jB b1) (jB b2)))))], []⟩
 refine jA <| kx [(2, (.ref 0 0)), (3, (.ref 1 0)), (4, (.ref 2 0))] [(0, some (bx (jP (A3.mk (jB a0) (jB a1) (jB a2))))), (1, some (bx (jP (A3.mk (jB b0) (jB b1) (jB b2))))), (2, some (bx (jR (jQ.mk (jF.mk false []) (jF.mk false [])))))] (zN (uX 0) <| zN (uX 1) <| zN (qS 2 qR qY) <| zZ) ?_
 refine jA ?_
 have bn1 : QL (jD a0 a1 a2 b0 b1 b2) 600000002 := (jL (n := 100000000) (k := 600000002) ha0 ha1 ha2 hb0 hb1 hb2 (by decide))
 refine kd [(5, (.ref 3 0))] [(3, some (bx (jR (jB (jD a0 a1 a2 b0 b1 b2)))))] mo (wE (e_slv (by exact rfl) yG (by exact rfl) (by kernel_rfl) (by kernel_rfl)) <| wE (e_slv (by exact rfl) yG (by exact rfl) (by kernel_rfl) (by kernel_rfl)) <| wC (oCg [(0, (qH.cells (jP (A3.mk (jB a0) (jB a1) (jB a2))))), (1, (qH.cells (jP (A3.mk (jB b0) (jB b1) (jB b2)))))] [(.view 0 0 3), (.view 1 0 3)] (q_dotL 1000000 a0 a1 a2 ha0 ha1 ha2 1000000 b0 b1 b2 hb0 hb1 hb2) (.v (es := List.map jR [(jB a0), (jB a1), (jB a2)]) (.head _) (gG _ _ (fun _ => rfl)) (by kernel_rfl) (by kernel_rfl) (.v (es := List.map jR [(jB b0), (jB b1), (jB b2)]) (.tail _ (.head _)) (gG _ _ (fun _ => rfl)) (by kernel_rfl) (by kernel_rfl) .nil)) (.tup (dT (avo_encR (by decide) _) (dT (.val _) avo_nil)))) <| wM <| wE uH <| wE uH <| wN (qS 3 qR qY) <| wT (qB jT) <| wM <| wZ) ?_
 refine jA <| kx [] [(2, some (bx (jR (jB (jD a0 a1 a2 b0 b1 b2)))))] (zR (kC jT) <| zT (qB jT) <| zZ) ?_
 refine jJ ⟨_, (qI (cs := (bx (jR (jB (jD a0 a1 a2 b0 b1 b2))))) (d := (jR (jB (jD a0 a1 a2 b0 b1 b2)))) rfl rfl jT rfl rfl .nil), ?_⟩
 rfl
theorem qs_cross (a0 a1 a2 : Rat) (ha0 : QL a0 100000000) (ha1 : QL a1 100000000) (ha2 : QL a2 100000000) (b0 b1 b2 : Rat) (hb0 : QL b0 100000000) (hb1 : QL b1 100000000) (hb2 : QL b2 100000000) : kE Tryz.prog 78 [(jP (A3.mk (jB a0) (jB a1) (jB a2))), (jP (A3.mk (jB b0) (jB b1) (jB b2)))] (jP (A3.mk (jB ((a1 * b2) - (a2 * b1))) (jB ((a2 * b0) - (a0 * b2))) (jB ((a0 * b1) - (a1 * b0))))) := by
 let y2 := (jQ.mk (jF.mk false []) (jF.mk false []))
 let y1 := (bx (jP (A3.mk y2 y2 y2)))
 refine jN Tryz.func78 rfl cb78 rfl ?_
 show uT _ _ _ _ ⟨[(0, (.d (jP (A3.mk (jB a0) (jB a1) (jB a2))))), (1, (.d (jP (A3.mk (jB b0) (jB b1) (jB b2)))))], []⟩
 refine jA <| kx [(2, (.ref 0 0)), (3, (.ref 1 0)), (4, (.ref 2 0))] [(0, some (bx (jP (A3.mk (jB a0) (jB a1) (jB a2))))), (1, some (bx (jP (A3.mk (jB b0) (jB b1) (jB b2))))), (2, some y1)] (zN (uX 0) <| zN (uX 1) <| zN (qS 2 dX dW) <| zZ) ?_
 refine jA <| kx [(5, (.ref 3 0))] [(3, some y1)] (zE (oBa yG dX dW) <| zN (qS 3 dX dW) <| zT (qB vC) <| zZ) ?_
 refine jA <| jA <| kx [(10, (kX 0))] [] (zM <| zZ) ?_
 refine jG <| qU 20 ?_
 refine uF <| jA <| kx [(11, (vb true))] [] (zE (vB true uW) <| zZ) ?_
 refine jA <| kS ?_
 refine jE <| jA <| jG <| jA <| kx [(6, (kX 0))] [] (zM <| zM <| zZ) ?_
 refine jA <| kx [(7, (kX 1)), (8, (kX 2))] [] (zM <| zE (uZ 1 (hr := by decide)) <| zE (oRe 1 (hr := by decide)) <| zM <| zE (uZ 2 (hr := by decide)) <| zE (oRe 2 (hr := by decide)) <| zM <| zM <| zZ) ?_
 have bn1 : QL ((a1 * b2) - (a2 * b1)) 400000001 := (qP (k := 400000001) (jH (k := 200000000) ha1 hb2 (by decide)) (jH (k := 200000000) ha2 hb1 (by decide)) (by decide))
 refine kd [] [(3, some (bx (jP (A3.mk (jB ((a1 * b2) - (a2 * b1))) y2 y2))))] mo (wM <| wM <| wE (vF yG 1) <| wR (kC jT) <| wM <| wE (vF yG 2) <| wR (kC jT) <| wE (kA (fV (jB a1) (jB b2) a1 b2 (jU (kD ha1) (by decide)) (jU (kD hb2) (by decide)))) <| wM <| wE (vF yG 2) <| wR (kC jT) <| wM <| wE (vF yG 1) <| wR (kC jT) <| wE (kA (fV (jB a2) (jB b1) a2 b1 (jU (kD ha2) (by decide)) (jU (kD hb1) (by decide)))) <| wE (kA (g_sub (jB (a1 * b2)) (jB (a2 * b1)) (a1 * b2) (a2 * b1) (jU (kD (jH (k := 200000000) ha1 hb2 (by decide))) (by decide)) (jU (kD (jH (k := 200000000) ha2 hb1 (by decide))) (by decide)))) <| wE (vF yG 0) <| wT (qB jT) <| wZ) ?_
 refine kx [(10, (kX 1))] [] (zE (uZ 1 (hr := by decide)) <| zM <| zZ) ?_
 refine jV (kU.refl _) ?_
 refine jA <| kx [(11, (vb true))] [] (zE (vB true uW) <| zZ) ?_
 refine jA <| kS ?_
 refine jE <| jA <| jG <| jA <| kx [(6, (kX 1))] [] (zM <| zM <| zZ) ?_
 refine jA <| kx [(7, (kX 2)), (8, (kX 0))] [] (zM <| zE (uZ 2 (hr := by decide)) <| zE (oRe 2 (hr := by decide)) <| zM <| zE (uZ 3 (hr := by decide)) <| zE (oRe 0 (hr := by decide)) <| zM <| zM <| zZ) ?_
 have bn2 : QL ((a2 * b0) - (a0 * b2)) 400000001 := (qP (k := 400000001) (jH (k := 200000000) ha2 hb0 (by decide)) (jH (k := 200000000) ha0 hb2 (by decide)) (by decide))
 refine kd [] [(3, some (bx (jP (A3.mk (jB ((a1 * b2) - (a2 * b1))) (jB ((a2 * b0) - (a0 * b2))) y2))))] mo (wM <| wM <| wE (vF yG 2) <| wR (kC jT) <| wM <| wE (vF yG 0) <| wR (kC jT) <| wE (kA (fV (jB a2) (jB b0) a2 b0 (jU (kD ha2) (by decide)) (jU (kD hb0) (by decide)))) <| wM <| wE (vF yG 0) <| wR (kC jT) <| wM <| wE (vF yG 2) <| wR (kC jT) <| wE (kA (fV (jB a0) (jB b2) a0 b2 (jU (kD ha0) (by decide)) (jU (kD hb2) (by decide)))) <| wE (kA (g_sub (jB (a2 * b0)) (jB (a0 * b2)) (a2 * b0) (a0 * b2) (jU (kD (jH (k := 200000000) ha2 hb0 (by decide))) (by decide)) (jU (kD (jH (k := 200000000) ha0 hb2 (by decide))) (by decide)))) <| wE (vF yG 1) <| wT (qB jT) <| wZ) ?_
 refine kx [(10, (kX 2))] [] (zE (uZ 2 (hr := by decide)) <| zM <| zZ) ?_
 refine jV (kU.refl _) ?_
 refine jA <| kx [(11, (vb true))] [] (zE (vB true uW) <| zZ) ?_
 refine jA <| kS ?_
 refine jE <| jA <| jG <| jA <| qM (wk (l := [(2, (.ref 0 0)), (3, (.ref 1 0)), (4, (.ref 2 0)), (5, (.ref 3 0)), (10, (kX 2)), (11, (vb true))]) (b := [(0, some (bx (jP (A3.mk (jB a0) (jB a1) (jB a2))))), (1, some (bx (jP (A3.mk (jB b0) (jB b1) (jB b2))))), (2, some y1), (3, some (bx (jP (A3.mk (jB ((a1 * b2) - (a2 * b1))) (jB ((a2 * b0) - (a0 * b2))) y2))))])) ?_
 refine kx [(6, (kX 2))] [] (zM <| zM <| zZ) ?_
 refine jA <| kx [(7, (kX 0)), (8, (kX 1))] [] (zM <| zE (uZ 3 (hr := by decide)) <| zE (oRe 0 (hr := by decide)) <| zM <| zE (uZ 4 (hr := by decide)) <| zE (oRe 1 (hr := by decide)) <| zM <| zM <| zZ) ?_
 have bn3 : QL ((a0 * b1) - (a1 * b0)) 400000001 := (qP (k := 400000001) (jH (k := 200000000) ha0 hb1 (by decide)) (jH (k := 200000000) ha1 hb0 (by decide)) (by decide))
 refine kd [] [(3, some (bx (jP (A3.mk (jB ((a1 * b2) - (a2 * b1))) (jB ((a2 * b0) - (a0 * b2))) (jB ((a0 * b1) - (a1 * b0)))))))] mo (wM <| wM <| wE (vF yG 0) <| wR (kC jT) <| wM <| wE (vF yG 1) <| wR (kC jT) <| wE (kA (fV (jB a0) (jB b1) a0 b1 (jU (kD ha0) (by decide)) (jU (kD hb1) (by decide)))) <| wM <| wE (vF yG 1) <| wR (kC jT) <| wM <| wE (vF yG 0) <| wR (kC jT) <| wE (kA (fV (jB a1) (jB b0) a1 b0 (jU (kD ha1) (by decide)) (jU (kD hb0) (by decide)))) <| wE (kA (g_sub (jB (a0 * b1)) (jB (a1 * b0)) (a0 * b1) (a1 * b0) (jU (kD (jH (k := 200000000) ha0 hb1 (by decide))) (by decide)) (jU (kD (jH (k := 200000000) ha1 hb0 (by decide))) (by decide)))) <| wE (vF yG 2) <| wT (qB jT) <| wZ) ?_
 refine kx [(10, (kX 3))] [] (zE (uZ 3 (hr := by decide)) <| zM <| zZ) ?_
 refine jV (kU.refl _) ?_
 refine jA <| kx [(11, (vb false))] [] (zE (vB false uW) <| zZ) ?_
 refine jA <| kY ?_
 refine qF <| jA <| kx [] [(2, some (bx (jP (A3.mk (jB ((a1 * b2) - (a2 * b1))) (jB ((a2 * b0) - (a0 * b2))) (jB ((a0 * b1) - (a1 * b0)))))))] (zR (kC vC) <| zT (qB vC) <| zZ) ?_
 refine jJ ⟨_, (qI (cs := (bx (jP (A3.mk (jB ((a1 * b2) - (a2 * b1))) (jB ((a2 * b0) - (a0 * b2))) (jB ((a0 * b1) - (a1 * b0))))))) (d := (jP (A3.mk (jB ((a1 * b2) - (a2 * b1))) (jB ((a2 * b0) - (a0 * b2))) (jB ((a0 * b1) - (a1 * b0)))))) rfl rfl vC rfl rfl .nil), ?_⟩
 rfl
theorem yL (a0 a1 a2 : Rat) (ha0 : QL a0 100000000) (ha1 : QL a1 100000000) (ha2 : QL a2 100000000) (k : Rat) (hk : QL k 100000000) : kE Tryz.prog 45 [(jP (A3.mk (jB a0) (jB a1) (jB a2))), (jR (jB k))] (jP (A3.mk (jB (a0 * k)) (jB (a1 * k)) (jB (a2 * k)))) := by
 let y1 := (jQ.mk (jF.mk false []) (jF.mk false []))
 refine jN Tryz.func45 rfl cb45 rfl ?_
 show uT _ _ _ _ ⟨[(0, (.d (jP (A3.mk (jB a0) (jB a1) (jB a2))))), (1, (.d (jR (jB k))))], []⟩
 refine jA <| kx [(2, (.ref 0 0)), (3, (.ref 1 0)), (4, (.ref 2 0))] [(0, some (bx (jP (A3.mk (jB a0) (jB a1) (jB a2))))), (1, some (bx (jR (jB k)))), (2, some (bx (jP (A3.mk y1 y1 y1))))] (zN (uX 0) <| zN (uX 1) <| zN (qS 2 dX dW) <| zZ) ?_
 refine jA <| jA <| kx [(6, (kX 0))] [] (zM <| zZ) ?_
 refine jG <| qU 20 ?_
 refine uF <| jA <| kx [(7, (vb true))] [] (zE (vB true uW) <| zZ) ?_
 refine jA <| kS ?_
 refine jE <| jA <| jG <| jA <| kx [(5, (kX 0))] [] (zM <| zM <| zZ) ?_
 refine kd [] [(0, some (bx (jP (A3.mk (jB (a0 * k)) (jB a1) (jB a2)))))] mo (wM <| wM <| wE (vF yG 0) <| wR (kC jT) <| wR (kC jT) <| wE (kA (fV (jB a0) (jB k) a0 k (jU (kD ha0) (by decide)) (jU (kD hk) (by decide)))) <| wE (vF yG 0) <| wT (qB jT) <| wZ) ?_
 refine kx [(6, (kX 1))] [] (zE (uZ 1 (hr := by decide)) <| zM <| zZ) ?_
 refine jV (kU.refl _) ?_
 refine jA <| kx [(7, (vb true))] [] (zE (vB true uW) <| zZ) ?_
 refine jA <| kS ?_
 refine jE <| jA <| jG <| jA <| kx [(5, (kX 1))] [] (zM <| zM <| zZ) ?_
 refine kd [] [(0, some (bx (jP (A3.mk (jB (a0 * k)) (jB (a1 * k)) (jB a2)))))] mo (wM <| wM <| wE (vF yG 1) <| wR (kC jT) <| wR (kC jT) <| wE (kA (fV (jB a1) (jB k) a1 k (jU (kD ha1) (by decide)) (jU (kD hk) (by decide)))) <| wE (vF yG 1) <| wT (qB jT) <| wZ) ?_
 refine kx [(6, (kX 2))] [] (zE (uZ 2 (hr := by decide)) <| zM <| zZ) ?_
 refine jV (kU.refl _) ?_
 refine jA <| kx [(7, (vb true))] [] (zE (vB true uW) <| zZ) ?_
 refine jA <| kS ?_
 refine jE <| jA <| jG <| jA <| kx [(5, (kX 2))] [] (zM <| zM <| zZ) ?_
 refine kd [] [(0, some (bx (jP (A3.mk (jB (a0 * k)) (jB (a1 * k)) (jB (a2 * k))))))] mo (wM <| wM <| wE (vF yG 2) <| wR (kC jT) <| wR (kC jT) <| wE (kA (fV (jB a2) (jB k) a2 k (jU (kD ha2) (by decide)) (jU (kD hk) (by decide)))) <| wE (vF yG 2) <| wT (qB jT) <| wZ) ?_
 refine kx [(6, (kX 3))] [] (zE (uZ 3 (hr := by decide)) <| zM <| zZ) ?_
 refine jV (kU.refl _) ?_
 refine jA <| qM (wk (l := [(2, (.ref 0 0)), (3, (.ref 1 0)), (4, (.ref 2 0)), (6, (kX 3))]) (b := [(0, some (bx (jP (A3.mk (jB (a0 * k)) (jB (a1 * k)) (jB (a2 * k)))))), (1, some (bx (jR (jB k)))), (2, some (bx (jP (A3.mk y1 y1 y1))))])) ?_
 refine kx [(7, (vb false))] [] (zE (vB false uW) <| zZ) ?_
 refine jA <| kY ?_
 refine qF <| jA <| kx [] [(2, some (bx (jP (A3.mk (jB (a0 * k)) (jB (a1 * k)) (jB (a2 * k))))))] (zR (kC vC) <| zT (qB vC) <| zZ) ?_
 refine jJ ⟨_, (qI (cs := (bx (jP (A3.mk (jB (a0 * k)) (jB (a1 * k)) (jB (a2 * k)))))) (d := (jP (A3.mk (jB (a0 * k)) (jB (a1 * k)) (jB (a2 * k))))) rfl rfl vC rfl rfl .nil), ?_⟩
 rfl
theorem qs_sum (a0 a1 a2 : Rat) (ha0 : QL a0 1000000000) (ha1 : QL a1 1000000000) (ha2 : QL a2 1000000000) (b0 b1 b2 : Rat) (hb0 : QL b0 1000000000) (hb1 : QL b1 1000000000) (hb2 : QL b2 1000000000) : kE Tryz.prog 44 [(jP (A3.mk (jB a0) (jB a1) (jB a2))), (jP (A3.mk (jB b0) (jB b1) (jB b2)))] (jP (A3.mk (jB (a0 + b0)) (jB (a1 + b1)) (jB (a2 + b2)))) := by
 let y1 := (jQ.mk (jF.mk false []) (jF.mk false []))
 refine jN Tryz.func44 rfl cb44 rfl ?_
 show uT _ _ _ _ ⟨[(0, (.d (jP (A3.mk (jB a0) (jB a1) (jB a2))))), (1, (.d (jP (A3.mk (jB b0) (jB b1) (jB b2)))))], []⟩
 refine jA <| kx [(2, (.ref 0 0)), (3, (.ref 1 0)), (4, (.ref 2 0))] [(0, some (bx (jP (A3.mk (jB a0) (jB a1) (jB a2))))), (1, some (bx (jP (A3.mk (jB b0) (jB b1) (jB b2))))), (2, some (bx (jP (A3.mk y1 y1 y1))))] (zN (uX 0) <| zN (uX 1) <| zN (qS 2 dX dW) <| zZ) ?_
 refine jA <| jA <| kx [(6, (kX 0))] [] (zM <| zZ) ?_
 refine jG <| qU 20 ?_
 refine uF <| jA <| kx [(7, (vb true))] [] (zE (vB true uW) <| zZ) ?_
 refine jA <| kS ?_
 refine jE <| jA <| jG <| jA <| kx [(5, (kX 0))] [] (zM <| zM <| zZ) ?_
 refine kd [] [(0, some (bx (jP (A3.mk (jB (a0 + b0)) (jB a1) (jB a2)))))] mo (wM <| wM <| wE (vF yG 0) <| wR (kC jT) <| wM <| wE (vF yG 0) <| wR (kC jT) <| wE (kA (g_add (jB a0) (jB b0) a0 b0 (jU (kD ha0) (by decide)) (jU (kD hb0) (by decide)))) <| wE (vF yG 0) <| wT (qB jT) <| wZ) ?_
 refine kx [(6, (kX 1))] [] (zE (uZ 1 (hr := by decide)) <| zM <| zZ) ?_
 refine jV (kU.refl _) ?_
 refine jA <| kx [(7, (vb true))] [] (zE (vB true uW) <| zZ) ?_
 refine jA <| kS ?_
 refine jE <| jA <| jG <| jA <| kx [(5, (kX 1))] [] (zM <| zM <| zZ) ?_
 refine kd [] [(0, some (bx (jP (A3.mk (jB (a0 + b0)) (jB (a1 + b1)) (jB a2)))))] mo (wM <| wM <| wE (vF yG 1) <| wR (kC jT) <| wM <| wE (vF yG 1) <| wR (kC jT) <| wE (kA (g_add (jB a1) (jB b1) a1 b1 (jU (kD ha1) (by decide)) (jU (kD hb1) (by decide)))) <| wE (vF yG 1) <| wT (qB jT) <| wZ) ?_
 refine kx [(6, (kX 2))] [] (zE (uZ 2 (hr := by decide)) <| zM <| zZ) ?_
 refine jV (kU.refl _) ?_
 refine jA <| kx [(7, (vb true))] [] (zE (vB true uW) <| zZ) ?_
 refine jA <| kS ?_
 refine jE <| jA <| jG <| jA <| kx [(5, (kX 2))] [] (zM <| zM <| zZ) ?_
 refine kd [] [(0, some (bx (jP (A3.mk (jB (a0 + b0)) (jB (a1 + b1)) (jB (a2 + b2))))))] mo (wM <| wM <| wE (vF yG 2) <| wR (kC jT) <| wM <| wE (vF yG 2) <| wR (kC jT) <| wE (kA (g_add (jB a2) (jB b2) a2 b2 (jU (kD ha2) (by decide)) (jU (kD hb2) (by decide)))) <| wE (vF yG 2) <| wT (qB jT) <| wZ) ?_
 refine kx [(6, (kX 3))] [] (zE (uZ 3 (hr := by decide)) <| zM <| zZ) ?_
 refine jV (kU.refl _) ?_
 refine jA <| qM (wk (l := [(2, (.ref 0 0)), (3, (.ref 1 0)), (4, (.ref 2 0)), (6, (kX 3))]) (b := [(0, some (bx (jP (A3.mk (jB (a0 + b0)) (jB (a1 + b1)) (jB (a2 + b2)))))), (1, some (bx (jP (A3.mk (jB b0) (jB b1) (jB b2))))), (2, some (bx (jP (A3.mk y1 y1 y1))))])) ?_
 refine kx [(7, (vb false))] [] (zE (vB false uW) <| zZ) ?_
 refine jA <| kY ?_
 refine qF <| jA <| kx [] [(2, some (bx (jP (A3.mk (jB (a0 + b0)) (jB (a1 + b1)) (jB (a2 + b2))))))] (zR (kC vC) <| zT (qB vC) <| zZ) ?_
 refine jJ ⟨_, (qI (cs := (bx (jP (A3.mk (jB (a0 + b0)) (jB (a1 + b1)) (jB (a2 + b2)))))) (d := (jP (A3.mk (jB (a0 + b0)) (jB (a1 + b1)) (jB (a2 + b2))))) rfl rfl vC rfl rfl .nil), ?_⟩
 rfl
theorem mZ (m00 m01 m02 m10 m11 m12 m20 m21 m22 : Rat) (hm00 : QL m00 100000000) (hm01 : QL m01 100000000) (hm02 : QL m02 100000000) (hm10 : QL m10 100000000) (hm11 : QL m11 100000000) (hm12 : QL m12 100000000) (hm20 : QL m20 100000000) (hm21 : QL m21 100000000) (hm22 : QL m22 100000000) (v0 v1 v2 : Rat) (hv0 : QL v0 100000000) (hv1 : QL v1 100000000) (hv2 : QL v2 100000000) : kE Tryz.prog 101 [(qW (A3.mk (A3.mk (jB m00) (jB m01) (jB m02)) (A3.mk (jB m10) (jB m11) (jB m12)) (A3.mk (jB m20) (jB m21) (jB m22)))), (jP (A3.mk (jB v0) (jB v1) (jB v2)))] (jP (A3.mk (jB (jD m00 m01 m02 v0 v1 v2)) (jB (jD m10 m11 m12 v0 v1 v2)) (jB (jD m20 m21 m22 v0 v1 v2)))) := by
 refine jN Tryz.func101 rfl cb101 rfl ?_
 show uT _ _ _ _ ⟨[(0, (.d (qW (A3.mk (A3.mk (jB m00) (jB m01) (jB m02)) (A3.mk (jB m10) (jB m11) (jB m12)) (A3.mk (jB m20) (jB m21) (jB m22)))))), (1, (.d (jP (A3.mk (jB v0) (jB v1) (jB v2)))))], []⟩
 refine jA <| kx [(2, (.ref 0 0)), (3, (.ref 1 0)), (4, (.ref 2 0))] [(0, some (bx (qW (A3.mk (A3.mk (jB m00) (jB m01) (jB m02)) (A3.mk (jB m10) (jB m11) (jB m12)) (A3.mk (jB m20) (jB m21) (jB m22)))))), (1, some (bx (jP (A3.mk (jB v0) (jB v1) (jB v2))))), (2, some (bx (jP (A3.mk (jQ.mk (jF.mk false []) (jF.mk false [])) (jQ.mk (jF.mk false []) (jF.mk false [])) (jQ.mk (jF.mk false []) (jF.mk false []))))))] (zN (uX 0) <| zN (uX 1) <| zN (qS 2 yN yO) <| zZ) ?_
 refine jA ?_
 have bn1 : QL (jD m00 m01 m02 v0 v1 v2) 600000002 := (jL (n := 100000000) (k := 600000002) hm00 hm01 hm02 hv0 hv1 hv2 (by decide))
 have bn2 : QL (jD m10 m11 m12 v0 v1 v2) 600000002 := (jL (n := 100000000) (k := 600000002) hm10 hm11 hm12 hv0 hv1 hv2 (by decide))
 have bn3 : QL (jD m20 m21 m22 v0 v1 v2) 600000002 := (jL (n := 100000000) (k := 600000002) hm20 hm21 hm22 hv0 hv1 hv2 (by decide))
 refine kd [] [(2, some (bx (jP (A3.mk (jB (jD m00 m01 m02 v0 v1 v2)) (jB (jD m10 m11 m12 v0 v1 v2)) (jB (jD m20 m21 m22 v0 v1 v2))))))] mo (wE (vF vH 0) <| wR (kC qO) <| wR (kC qO) <| wE (kA (q_dot m00 m01 m02 hm00 hm01 hm02 v0 v1 v2 hv0 hv1 hv2)) <| wE (vF vH 1) <| wR (kC qO) <| wR (kC qO) <| wE (kA (q_dot m10 m11 m12 hm10 hm11 hm12 v0 v1 v2 hv0 hv1 hv2)) <| wE (vF vH 2) <| wR (kC qO) <| wR (kC qO) <| wE (kA (q_dot m20 m21 m22 hm20 hm21 hm22 v0 v1 v2 hv0 hv1 hv2)) <| wE (oBf uE yN yO) <| wT (qB qO) <| wZ) ?_
 refine jJ ⟨_, (qI (cs := (bx (jP (A3.mk (jB (jD m00 m01 m02 v0 v1 v2)) (jB (jD m10 m11 m12 v0 v1 v2)) (jB (jD m20 m21 m22 v0 v1 v2)))))) (d := (jP (A3.mk (jB (jD m00 m01 m02 v0 v1 v2)) (jB (jD m10 m11 m12 v0 v1 v2)) (jB (jD m20 m21 m22 v0 v1 v2))))) rfl rfl qO rfl rfl .nil), ?_⟩
 rfl
theorem eV (m00 m01 m02 m10 m11 m12 m20 m21 m22 : Rat) (hm00 : QL m00 100000000) (hm01 : QL m01 100000000) (hm02 : QL m02 100000000) (hm10 : QL m10 100000000) (hm11 : QL m11 100000000) (hm12 : QL m12 100000000) (hm20 : QL m20 100000000) (hm21 : QL m21 100000000) (hm22 : QL m22 100000000) (v0 v1 v2 : Rat) (hv0 : QL v0 100000000) (hv1 : QL v1 100000000) (hv2 : QL v2 100000000) : kE Tryz.prog 23 [(cZ (A3.mk (A3.mk (jB m00) (jB m01) (jB m02)) (A3.mk (jB m10) (jB m11) (jB m12)) (A3.mk (jB m20) (jB m21) (jB m22)))), (jP (A3.mk (jB v0) (jB v1) (jB v2)))] (jP (A3.mk (jB (jD m00 m01 m02 v0 v1 v2)) (jB (jD m10 m11 m12 v0 v1 v2)) (jB (jD m20 m21 m22 v0 v1 v2)))) := by
 refine jN Tryz.func23 rfl cb23 rfl ?_
 show uT _ _ _ _ ⟨[(0, (.d (cZ (A3.mk (A3.mk (jB m00) (jB m01) (jB m02)) (A3.mk (jB m10) (jB m11) (jB m12)) (A3.mk (jB m20) (jB m21) (jB m22)))))), (1, (.d (jP (A3.mk (jB v0) (jB v1) (jB v2)))))], []⟩
 refine jA <| kx [(2, (.ref 0 0)), (3, (.ref 1 0)), (4, (.ref 2 0))] [(0, some (bx (cZ (A3.mk (A3.mk (jB m00) (jB m01) (jB m02)) (A3.mk (jB m10) (jB m11) (jB m12)) (A3.mk (jB m20) (jB m21) (jB m22)))))), (1, some (bx (jP (A3.mk (jB v0) (jB v1) (jB v2))))), (2, some (bx (jP (A3.mk (jQ.mk (jF.mk false []) (jF.mk false [])) (jQ.mk (jF.mk false []) (jF.mk false [])) (jQ.mk (jF.mk false []) (jF.mk false []))))))] (zN (uX 0) <| zN (uX 1) <| zN (qS 2 dX dW) <| zZ) ?_
 refine jA ?_
 have bn1 : QL (jD m00 m01 m02 v0 v1 v2) 600000002 := (jL (n := 100000000) (k := 600000002) hm00 hm01 hm02 hv0 hv1 hv2 (by decide))
 have bn2 : QL (jD m10 m11 m12 v0 v1 v2) 600000002 := (jL (n := 100000000) (k := 600000002) hm10 hm11 hm12 hv0 hv1 hv2 (by decide))
 have bn3 : QL (jD m20 m21 m22 v0 v1 v2) 600000002 := (jL (n := 100000000) (k := 600000002) hm20 hm21 hm22 hv0 hv1 hv2 (by decide))
 refine kd [] [(2, some (bx (jP (A3.mk (jB (jD m00 m01 m02 v0 v1 v2)) (jB (jD m10 m11 m12 v0 v1 v2)) (jB (jD m20 m21 m22 v0 v1 v2))))))] mo (wE (vF mU 0) <| wR (kC vC) <| wR (kC vC) <| wE (kA (aA m00 m01 m02 hm00 hm01 hm02 v0 v1 v2 hv0 hv1 hv2)) <| wE (vF mU 1) <| wR (kC vC) <| wR (kC vC) <| wE (kA (aA m10 m11 m12 hm10 hm11 hm12 v0 v1 v2 hv0 hv1 hv2)) <| wE (vF mU 2) <| wR (kC vC) <| wR (kC vC) <| wE (kA (aA m20 m21 m22 hm20 hm21 hm22 v0 v1 v2 hv0 hv1 hv2)) <| wE (oBf yG dX dW) <| wT (qB vC) <| wZ) ?_
 refine jJ ⟨_, (qI (cs := (bx (jP (A3.mk (jB (jD m00 m01 m02 v0 v1 v2)) (jB (jD m10 m11 m12 v0 v1 v2)) (jB (jD m20 m21 m22 v0 v1 v2)))))) (d := (jP (A3.mk (jB (jD m00 m01 m02 v0 v1 v2)) (jB (jD m10 m11 m12 v0 v1 v2)) (jB (jD m20 m21 m22 v0 v1 v2))))) rfl rfl vC rfl rfl .nil), ?_⟩
 rfl
theorem nX (m00 m01 m02 m10 m11 m12 m20 m21 m22 : Rat) (hm00 : QL m00 100000000) (hm01 : QL m01 100000000) (hm02 : QL m02 100000000) (hm10 : QL m10 100000000) (hm11 : QL m11 100000000) (hm12 : QL m12 100000000) (hm20 : QL m20 100000000) (hm21 : QL m21 100000000) (hm22 : QL m22 100000000) : kE Tryz.prog 72 [(qW (A3.mk (A3.mk (jB m00) (jB m01) (jB m02)) (A3.mk (jB m10) (jB m11) (jB m12)) (A3.mk (jB m20) (jB m21) (jB m22))))] (qW (A3.mk (A3.mk (jB m00) (jB m10) (jB m20)) (A3.mk (jB m01) (jB m11) (jB m21)) (A3.mk (jB m02) (jB m12) (jB m22)))) := by
 let y8 := (A3.mk (jB m00) (jB m10) (jB m20))
 let y7 := (jQ.mk (jF.mk false []) (jF.mk false []))
 let y6 := (bx (qW (A3.mk (A3.mk (jB m00) (jB m01) (jB m02)) (A3.mk (jB m10) (jB m11) (jB m12)) (A3.mk (jB m20) (jB m21) (jB m22)))))
 let y5 := (A3.mk y7 y7 y7)
 let y4 := (bx (qW (A3.mk y8 (A3.mk (jB m01) (jB m11) (jB m21)) y5)))
 let y3 := (bx (qW (A3.mk y8 (A3.mk (jB m01) y7 y7) y5)))
 let y2 := (bx (qW (A3.mk (A3.mk (jB m00) (jB m10) y7) y5 y5)))
 let y1 := (bx (qW (A3.mk y5 y5 y5)))
 refine jN Tryz.func72 rfl cb72 rfl ?_
 show uT _ _ _ _ ⟨[(0, (.d (qW (A3.mk (A3.mk (jB m00) (jB m01) (jB m02)) (A3.mk (jB m10) (jB m11) (jB m12)) (A3.mk (jB m20) (jB m21) (jB m22))))))], []⟩
 refine jA <| kx [(1, (.ref 0 0)), (2, (.ref 1 0))] [(0, some y6), (1, some y1)] (zN (uX 0) <| zN (qS 1 dQ dM) <| zZ) ?_
 refine jA <| kx [(3, (.ref 2 0))] [(2, some y1)] (zN (qS 2 dQ dM) <| zZ) ?_
 refine jA <| jA <| kx [(6, (kX 0))] [] (zM <| zZ) ?_
 refine jG <| qU 20 ?_
 refine uF <| jA <| kx [(7, (vb true))] [] (zE (vB true uW) <| zZ) ?_
 refine jA <| kS ?_
 refine jE <| jA <| jG <| jA <| kx [(4, (kX 0))] [] (zM <| zM <| zZ) ?_
 refine jA <| kx [(9, (kX 0))] [] (zM <| zZ) ?_
 refine jG <| qU 20 ?_
 refine uF <| jA <| kx [(10, (vb true))] [] (zE (vB true uW) <| zZ) ?_
 refine jA <| kS ?_
 refine jE <| jA <| jG <| jA <| kx [(5, (kX 0))] [] (zM <| zM <| zZ) ?_
 refine kd [] [(2, some (bx (qW (A3.mk (A3.mk (jB m00) y7 y7) y5 y5))))] mo (wM <| wM <| wM <| wM <| wE (vF vH 0) <| wE (vF uE 0) <| wR (kC jT) <| wE (vF vH 0) <| wE (vF uE 0) <| wT (qB jT) <| wZ) ?_
 refine kx [(9, (kX 1))] [] (zE (uZ 1 (hr := by decide)) <| zM <| zZ) ?_
 refine jV (kU.refl _) ?_
 refine jA <| kx [(10, (vb true))] [] (zE (vB true uW) <| zZ) ?_
 refine jA <| kS ?_
 refine jE <| jA <| jG <| jA <| kx [(5, (kX 1))] [] (zM <| zM <| zZ) ?_
 refine kd [] [(2, some y2)] mo (wM <| wM <| wM <| wM <| wE (vF vH 1) <| wE (vF uE 0) <| wR (kC jT) <| wE (vF vH 0) <| wE (vF uE 1) <| wT (qB jT) <| wZ) ?_
 refine kx [(9, (kX 2))] [] (zE (uZ 2 (hr := by decide)) <| zM <| zZ) ?_
 refine jV (kU.refl _) ?_
 refine jA <| qM (wk (l := [(1, (.ref 0 0)), (2, (.ref 1 0)), (3, (.ref 2 0)), (4, (kX 0)), (6, (kX 0)), (9, (kX 2))]) (b := [(0, some y6), (1, some y1), (2, some y2)])) ?_
 refine kx [(10, (vb true))] [] (zE (vB true uW) <| zZ) ?_
 refine jA <| kS ?_
 refine jE <| jA <| jG <| jA <| kx [(5, (kX 2))] [] (zM <| zM <| zZ) ?_
 refine kd [] [(2, some (bx (qW (A3.mk y8 y5 y5))))] mo (wM <| wM <| wM <| wM <| wE (vF vH 2) <| wE (vF uE 0) <| wR (kC jT) <| wE (vF vH 0) <| wE (vF uE 2) <| wT (qB jT) <| wZ) ?_
 refine kx [(9, (kX 3))] [] (zE (uZ 3 (hr := by decide)) <| zM <| zZ) ?_
 refine jV (kU.refl _) ?_
 refine jA <| kx [(10, (vb false))] [] (zE (vB false uW) <| zZ) ?_
 refine jA <| kY ?_
 refine qF <| kx [(6, (kX 1))] [] (zE (uZ 1 (hr := by decide)) <| zM <| zZ) ?_
 refine jV (kU.refl _) ?_
 refine jA <| kx [(7, (vb true))] [] (zE (vB true uW) <| zZ) ?_
 refine jA <| kS ?_
 refine jE <| jA <| jG <| jA <| kx [(4, (kX 1))] [] (zM <| zM <| zZ) ?_
 refine jA <| kx [(9, (kX 0))] [] (zM <| zZ) ?_
 refine jG <| qU 20 ?_
 refine uF <| jA <| kx [(10, (vb true))] [] (zE (vB true uW) <| zZ) ?_
 refine jA <| kS ?_
 refine jE <| jA <| jG <| jA <| kx [(5, (kX 0))] [] (zM <| zM <| zZ) ?_
 refine kd [] [(2, some y3)] mo (wM <| wM <| wM <| wM <| wE (vF vH 0) <| wE (vF uE 1) <| wR (kC jT) <| wE (vF vH 1) <| wE (vF uE 0) <| wT (qB jT) <| wZ) ?_
 refine kx [(9, (kX 1))] [] (zE (uZ 1 (hr := by decide)) <| zM <| zZ) ?_
 refine jV (kU.refl _) ?_
 refine jA <| kx [(10, (vb true))] [] (zE (vB true uW) <| zZ) ?_
 refine jA <| kS ?_
 refine jE <| jA <| jG <| jA <| qM (wk (l := [(1, (.ref 0 0)), (2, (.ref 1 0)), (3, (.ref 2 0)), (4, (kX 1)), (6, (kX 1)), (9, (kX 1)), (10, (vb true))]) (b := [(0, some y6), (1, some y1), (2, some y3)])) ?_
 refine kx [(5, (kX 1))] [] (zM <| zM <| zZ) ?_
 refine kd [] [(2, some (bx (qW (A3.mk y8 (A3.mk (jB m01) (jB m11) y7) y5))))] mo (wM <| wM <| wM <| wM <| wE (vF vH 1) <| wE (vF uE 1) <| wR (kC jT) <| wE (vF vH 1) <| wE (vF uE 1) <| wT (qB jT) <| wZ) ?_
 refine kx [(9, (kX 2))] [] (zE (uZ 2 (hr := by decide)) <| zM <| zZ) ?_
 refine jV (kU.refl _) ?_
 refine jA <| kx [(10, (vb true))] [] (zE (vB true uW) <| zZ) ?_
 refine jA <| kS ?_
 refine jE <| jA <| jG <| jA <| kx [(5, (kX 2))] [] (zM <| zM <| zZ) ?_
 refine kd [] [(2, some y4)] mo (wM <| wM <| wM <| wM <| wE (vF vH 2) <| wE (vF uE 1) <| wR (kC jT) <| wE (vF vH 1) <| wE (vF uE 2) <| wT (qB jT) <| wZ) ?_
 refine kx [(9, (kX 3))] [] (zE (uZ 3 (hr := by decide)) <| zM <| zZ) ?_
 refine jV (kU.refl _) ?_
 refine jA <| kx [(10, (vb false))] [] (zE (vB false uW) <| zZ) ?_
 refine jA <| kY ?_
 refine qF <| kx [(6, (kX 2))] [] (zE (uZ 2 (hr := by decide)) <| zM <| zZ) ?_
 refine jV (kU.refl _) ?_
 refine jA <| kx [(7, (vb true))] [] (zE (vB true uW) <| zZ) ?_
 refine jA <| kS ?_
 refine jE <| jA <| jG <| jA <| kx [(4, (kX 2))] [] (zM <| zM <| zZ) ?_
 refine jA <| kx [(9, (kX 0))] [] (zM <| zZ) ?_
 refine jG <| qU 20 ?_
 refine uF <| jA <| kx [(10, (vb true))] [] (zE (vB true uW) <| zZ) ?_
 refine jA <| kS ?_
 refine jE <| jA <| jG <| jA <| kx [(5, (kX 0))] [] (zM <| zM <| zZ) ?_
 refine qM (wk (l := [(1, (.ref 0 0)), (2, (.ref 1 0)), (3, (.ref 2 0)), (4, (kX 2)), (5, (kX 0)), (6, (kX 2)), (9, (kX 0))]) (b := [(0, some y6), (1, some y1), (2, some y4)])) ?_
 refine kd [] [(2, some (bx (qW (A3.mk y8 (A3.mk (jB m01) (jB m11) (jB m21)) (A3.mk (jB m02) y7 y7)))))] mo (wM <| wM <| wM <| wM <| wE (vF vH 0) <| wE (vF uE 2) <| wR (kC jT) <| wE (vF vH 2) <| wE (vF uE 0) <| wT (qB jT) <| wZ) ?_
 refine kx [(9, (kX 1))] [] (zE (uZ 1 (hr := by decide)) <| zM <| zZ) ?_
 refine jV (kU.refl _) ?_
 refine jA <| kx [(10, (vb true))] [] (zE (vB true uW) <| zZ) ?_
 refine jA <| kS ?_
 refine jE <| jA <| jG <| jA <| kx [(5, (kX 1))] [] (zM <| zM <| zZ) ?_
 refine kd [] [(2, some (bx (qW (A3.mk y8 (A3.mk (jB m01) (jB m11) (jB m21)) (A3.mk (jB m02) (jB m12) y7)))))] mo (wM <| wM <| wM <| wM <| wE (vF vH 1) <| wE (vF uE 2) <| wR (kC jT) <| wE (vF vH 2) <| wE (vF uE 1) <| wT (qB jT) <| wZ) ?_
 refine kx [(9, (kX 2))] [] (zE (uZ 2 (hr := by decide)) <| zM <| zZ) ?_
 refine jV (kU.refl _) ?_
 refine jA <| kx [(10, (vb true))] [] (zE (vB true uW) <| zZ) ?_
 refine jA <| kS ?_
 refine jE <| jA <| jG <| jA <| kx [(5, (kX 2))] [] (zM <| zM <| zZ) ?_
 refine kd [] [(2, some (bx (qW (A3.mk y8 (A3.mk (jB m01) (jB m11) (jB m21)) (A3.mk (jB m02) (jB m12) (jB m22))))))] mo (wM <| wM <| wM <| wM <| wE (vF vH 2) <| wE (vF uE 2) <| wR (kC jT) <| wE (vF vH 2) <| wE (vF uE 2) <| wT (qB jT) <| wZ) ?_
 refine kx [(9, (kX 3))] [] (zE (uZ 3 (hr := by decide)) <| zM <| zZ) ?_
 refine jV (kU.refl _) ?_
 refine jA <| kx [(10, (vb false))] [] (zE (vB false uW) <| zZ) ?_
 refine jA <| kY ?_
 refine qF <| kx [(6, (kX 3))] [] (zE (uZ 3 (hr := by decide)) <| zM <| zZ) ?_
 refine jV (kU.refl _) ?_
 refine jA <| kx [(7, (vb false))] [] (zE (vB false uW) <| zZ) ?_
 refine jA <| kY ?_
 refine qF <| jA <| kx [] [(1, some (bx (qW (A3.mk y8 (A3.mk (jB m01) (jB m11) (jB m21)) (A3.mk (jB m02) (jB m12) (jB m22))))))] (zR (kC gJ) <| zT (qB gJ) <| zZ) ?_
 refine jJ ⟨_, (qI (cs := (bx (qW (A3.mk (A3.mk (jB m00) (jB m10) (jB m20)) (A3.mk (jB m01) (jB m11) (jB m21)) (A3.mk (jB m02) (jB m12) (jB m22)))))) (d := (qW (A3.mk (A3.mk (jB m00) (jB m10) (jB m20)) (A3.mk (jB m01) (jB m11) (jB m21)) (A3.mk (jB m02) (jB m12) (jB m22))))) rfl rfl gJ rfl rfl .nil), ?_⟩
 rfl
theorem q_mul (m00 m01 m02 m10 m11 m12 m20 m21 m22 : Rat) (hm00 : QL m00 10000000) (hm01 : QL m01 10000000) (hm02 : QL m02 10000000) (hm10 : QL m10 10000000) (hm11 : QL m11 10000000) (hm12 : QL m12 10000000) (hm20 : QL m20 10000000) (hm21 : QL m21 10000000) (hm22 : QL m22 10000000) (u00 u01 u02 u10 u11 u12 u20 u21 u22 : Rat) (hu00 : QL u00 10000000) (hu01 : QL u01 10000000) (hu02 : QL u02 10000000) (hu10 : QL u10 10000000) (hu11 : QL u11 10000000) (hu12 : QL u12 10000000) (hu20 : QL u20 10000000) (hu21 : QL u21 10000000) (hu22 : QL u22 10000000) : kE Tryz.prog 70 [(qW (A3.mk (A3.mk (jB m00) (jB m01) (jB m02)) (A3.mk (jB m10) (jB m11) (jB m12)) (A3.mk (jB m20) (jB m21) (jB m22)))), (qW (A3.mk (A3.mk (jB u00) (jB u01) (jB u02)) (A3.mk (jB u10) (jB u11) (jB u12)) (A3.mk (jB u20) (jB u21) (jB u22))))] (qW (A3.mk (A3.mk (jB (jD u00 u10 u20 m00 m01 m02)) (jB (jD u01 u11 u21 m00 m01 m02)) (jB (jD u02 u12 u22 m00 m01 m02))) (A3.mk (jB (jD u00 u10 u20 m10 m11 m12)) (jB (jD u01 u11 u21 m10 m11 m12)) (jB (jD u02 u12 u22 m10 m11 m12))) (A3.mk (jB (jD u00 u10 u20 m20 m21 m22)) (jB (jD u01 u11 u21 m20 m21 m22)) (jB (jD u02 u12 u22 m20 m21 m22))))) := by
 let y6 := (A3.mk (jB (jD u00 u10 u20 m00 m01 m02)) (jB (jD u01 u11 u21 m00 m01 m02)) (jB (jD u02 u12 u22 m00 m01 m02)))
 let y5 := (qW (A3.mk (A3.mk (jB m00) (jB m01) (jB m02)) (A3.mk (jB m10) (jB m11) (jB m12)) (A3.mk (jB m20) (jB m21) (jB m22))))
 let y4 := (A3.mk (jQ.mk (jF.mk false []) (jF.mk false [])) (jQ.mk (jF.mk false []) (jF.mk false [])) (jQ.mk (jF.mk false []) (jF.mk false [])))
 let y3 := (bx (qW (A3.mk y6 (A3.mk (jB (jD u00 u10 u20 m10 m11 m12)) (jB (jD u01 u11 u21 m10 m11 m12)) (jB (jD u02 u12 u22 m10 m11 m12))) (A3.mk (jB (jD u00 u10 u20 m20 m21 m22)) (jB (jD u01 u11 u21 m20 m21 m22)) (jB (jD u02 u12 u22 m20 m21 m22))))))
 let y2 := (bx (qW (A3.mk y6 (A3.mk (jB (jD u00 u10 u20 m10 m11 m12)) (jB (jD u01 u11 u21 m10 m11 m12)) (jB (jD u02 u12 u22 m10 m11 m12))) y4)))
 let y1 := (bx (qW (A3.mk y4 y4 y4)))
 refine jN Tryz.func70 rfl cb70 rfl ?_
 show uT _ _ _ _ ⟨[(0, (.d y5)), (1, (.d (qW (A3.mk (A3.mk (jB u00) (jB u01) (jB u02)) (A3.mk (jB u10) (jB u11) (jB u12)) (A3.mk (jB u20) (jB u21) (jB u22))))))], []⟩
 refine jA <| kx [(2, (.ref 0 0)), (3, (.ref 1 0)), (4, (.ref 2 0))] [(0, some (bx y5)), (1, some (bx (qW (A3.mk (A3.mk (jB u00) (jB u01) (jB u02)) (A3.mk (jB u10) (jB u11) (jB u12)) (A3.mk (jB u20) (jB u21) (jB u22)))))), (2, some y1)] (zN (uX 0) <| zN (uX 1) <| zN (qS 2 dQ dM) <| zZ) ?_
 refine jA <| kx [(5, (.ref 3 0))] [(3, some (bx (qW (A3.mk (A3.mk (jB u00) (jB u10) (jB u20)) (A3.mk (jB u01) (jB u11) (jB u21)) (A3.mk (jB u02) (jB u12) (jB u22))))))] (zR (kC gJ) <| zE (kA (nX u00 u01 u02 u10 u11 u12 u20 u21 u22 (qu hu00) (qu hu01) (qu hu02) (qu hu10) (qu hu11) (qu hu12) (qu hu20) (qu hu21) (qu hu22))) <| zN (qS 3 dQ dM) <| zT (qB gJ) <| zZ) ?_
 refine jA <| kx [(6, (.ref 4 0))] [(4, some y1)] (zN (qS 4 dQ dM) <| zZ) ?_
 refine jA <| jA <| kx [(10, (kX 0))] [] (zM <| zZ) ?_
 refine jG <| qU 20 ?_
 refine uF <| jA <| kx [(11, (vb true))] [] (zE (vB true uW) <| zZ) ?_
 refine jA <| kS ?_
 refine jE <| jA <| jG <| jA <| kx [(7, (kX 0))] [] (zM <| zM <| zZ) ?_
 have bn1 : QL (jD u00 u10 u20 m00 m01 m02) 60000002 := (jL (n := 10000000) (k := 60000002) hu00 hu10 hu20 hm00 hm01 hm02 (by decide))
 have bn2 : QL (jD u01 u11 u21 m00 m01 m02) 60000002 := (jL (n := 10000000) (k := 60000002) hu01 hu11 hu21 hm00 hm01 hm02 (by decide))
 have bn3 : QL (jD u02 u12 u22 m00 m01 m02) 60000002 := (jL (n := 10000000) (k := 60000002) hu02 hu12 hu22 hm00 hm01 hm02 (by decide))
 refine kd [] [(4, some (bx (qW (A3.mk y6 y4 y4))))] mo (wM <| wR (kC gJ) <| wM <| wE (vF vH 0) <| wR (kC qO) <| wE (kA (mZ u00 u10 u20 u01 u11 u21 u02 u12 u22 (qu hu00) (qu hu10) (qu hu20) (qu hu01) (qu hu11) (qu hu21) (qu hu02) (qu hu12) (qu hu22) m00 m01 m02 (qu hm00) (qu hm01) (qu hm02))) <| wE (vF vH 0) <| wT (qB qO) <| wZ) ?_
 refine kx [(10, (kX 1))] [] (zE (uZ 1 (hr := by decide)) <| zM <| zZ) ?_
 refine jV (kU.refl _) ?_
 refine jA <| kx [(11, (vb true))] [] (zE (vB true uW) <| zZ) ?_
 refine jA <| kS ?_
 refine jE <| jA <| jG <| jA <| kx [(7, (kX 1))] [] (zM <| zM <| zZ) ?_
 have bn4 : QL (jD u00 u10 u20 m10 m11 m12) 60000002 := (jL (n := 10000000) (k := 60000002) hu00 hu10 hu20 hm10 hm11 hm12 (by decide))
 have bn5 : QL (jD u01 u11 u21 m10 m11 m12) 60000002 := (jL (n := 10000000) (k := 60000002) hu01 hu11 hu21 hm10 hm11 hm12 (by decide))
 have bn6 : QL (jD u02 u12 u22 m10 m11 m12) 60000002 := (jL (n := 10000000) (k := 60000002) hu02 hu12 hu22 hm10 hm11 hm12 (by decide))
 refine kd [] [(4, some y2)] mo (wM <| wR (kC gJ) <| wM <| wE (vF vH 1) <| wR (kC qO) <| wE (kA (mZ u00 u10 u20 u01 u11 u21 u02 u12 u22 (qu hu00) (qu hu10) (qu hu20) (qu hu01) (qu hu11) (qu hu21) (qu hu02) (qu hu12) (qu hu22) m10 m11 m12 (qu hm10) (qu hm11) (qu hm12))) <| wE (vF vH 1) <| wT (qB qO) <| wZ) ?_
 refine kx [(10, (kX 2))] [] (zE (uZ 2 (hr := by decide)) <| zM <| zZ) ?_
 refine jV (kU.refl _) ?_
 refine jA <| kx [(11, (vb true))] [] (zE (vB true uW) <| zZ) ?_
 refine jA <| kS ?_
 refine jE <| jA <| jG <| jA <| kx [(7, (kX 2))] [] (zM <| zM <| zZ) ?_
 refine qM (wk (l := [(2, (.ref 0 0)), (4, (.ref 2 0)), (5, (.ref 3 0)), (6, (.ref 4 0)), (7, (kX 2)), (10, (kX 2))]) (b := [(0, some (bx y5)), (2, some y1), (3, some (bx (qW (A3.mk (A3.mk (jB u00) (jB u10) (jB u20)) (A3.mk (jB u01) (jB u11) (jB u21)) (A3.mk (jB u02) (jB u12) (jB u22)))))), (4, some y2)])) ?_
 have bn7 : QL (jD u00 u10 u20 m20 m21 m22) 60000002 := (jL (n := 10000000) (k := 60000002) hu00 hu10 hu20 hm20 hm21 hm22 (by decide))
 have bn8 : QL (jD u01 u11 u21 m20 m21 m22) 60000002 := (jL (n := 10000000) (k := 60000002) hu01 hu11 hu21 hm20 hm21 hm22 (by decide))
 have bn9 : QL (jD u02 u12 u22 m20 m21 m22) 60000002 := (jL (n := 10000000) (k := 60000002) hu02 hu12 hu22 hm20 hm21 hm22 (by decide))
 refine kd [] [(4, some y3)] mo (wM <| wR (kC gJ) <| wM <| wE (vF vH 2) <| wR (kC qO) <| wE (kA (mZ u00 u10 u20 u01 u11 u21 u02 u12 u22 (qu hu00) (qu hu10) (qu hu20) (qu hu01) (qu hu11) (qu hu21) (qu hu02) (qu hu12) (qu hu22) m20 m21 m22 (qu hm20) (qu hm21) (qu hm22))) <| wE (vF vH 2) <| wT (qB qO) <| wZ) ?_
 refine kx [(10, (kX 3))] [] (zE (uZ 3 (hr := by decide)) <| zM <| zZ) ?_
 refine jV (kU.refl _) ?_
 refine jA <| kx [(11, (vb false))] [] (zE (vB false uW) <| zZ) ?_
 refine jA <| kY ?_
 refine qF <| jA <| kx [] [(2, some y3)] (zR (kC gJ) <| zT (qB gJ) <| zZ) ?_
 refine jJ ⟨_, (qI (cs := (bx (qW (A3.mk (A3.mk (jB (jD u00 u10 u20 m00 m01 m02)) (jB (jD u01 u11 u21 m00 m01 m02)) (jB (jD u02 u12 u22 m00 m01 m02))) (A3.mk (jB (jD u00 u10 u20 m10 m11 m12)) (jB (jD u01 u11 u21 m10 m11 m12)) (jB (jD u02 u12 u22 m10 m11 m12))) (A3.mk (jB (jD u00 u10 u20 m20 m21 m22)) (jB (jD u01 u11 u21 m20 m21 m22)) (jB (jD u02 u12 u22 m20 m21 m22))))))) (d := (qW (A3.mk (A3.mk (jB (jD u00 u10 u20 m00 m01 m02)) (jB (jD u01 u11 u21 m00 m01 m02)) (jB (jD u02 u12 u22 m00 m01 m02))) (A3.mk (jB (jD u00 u10 u20 m10 m11 m12)) (jB (jD u01 u11 u21 m10 m11 m12)) (jB (jD u02 u12 u22 m10 m11 m12))) (A3.mk (jB (jD u00 u10 u20 m20 m21 m22)) (jB (jD u01 u11 u21 m20 m21 m22)) (jB (jD u02 u12 u22 m20 m21 m22)))))) rfl rfl gJ rfl rfl .nil), ?_⟩
 rfl
theorem qs_back (m00 m01 m02 m10 m11 m12 m20 m21 m22 : Rat) (hm00 : QL m00 10000000) (hm01 : QL m01 10000000) (hm02 : QL m02 10000000) (hm10 : QL m10 10000000) (hm11 : QL m11 10000000) (hm12 : QL m12 10000000) (hm20 : QL m20 10000000) (hm21 : QL m21 10000000) (hm22 : QL m22 10000000) (v0 v1 v2 : Rat) (hv0 : QL v0 10000000) (hv1 : QL v1 10000000) (hv2 : QL v2 10000000) : kE Tryz.prog 90 [(cZ (A3.mk (A3.mk (jB m00) (jB m01) (jB m02)) (A3.mk (jB m10) (jB m11) (jB m12)) (A3.mk (jB m20) (jB m21) (jB m22)))), (jP (A3.mk (jB v0) (jB v1) (jB v2)))] (jP (A3.mk (jB (((m00 * v0) + (m10 * v1)) + (m20 * v2))) (jB (((m01 * v0) + (m11 * v1)) + (m21 * v2))) (jB (((m02 * v0) + (m12 * v1)) + (m22 * v2))))) := by
 refine jN Tryz.func90 rfl cb90 rfl ?_
 show uT _ _ _ _ ⟨[(0, (.d (cZ (A3.mk (A3.mk (jB m00) (jB m01) (jB m02)) (A3.mk (jB m10) (jB m11) (jB m12)) (A3.mk (jB m20) (jB m21) (jB m22)))))), (1, (.d (jP (A3.mk (jB v0) (jB v1) (jB v2)))))], []⟩
 refine jA <| kx [(2, (.ref 0 0)), (3, (.ref 1 0)), (4, (.ref 2 0))] [(0, some (bx (cZ (A3.mk (A3.mk (jB m00) (jB m01) (jB m02)) (A3.mk (jB m10) (jB m11) (jB m12)) (A3.mk (jB m20) (jB m21) (jB m22)))))), (1, some (bx (jP (A3.mk (jB v0) (jB v1) (jB v2))))), (2, some (bx (jP (A3.mk (jQ.mk (jF.mk false []) (jF.mk false [])) (jQ.mk (jF.mk false []) (jF.mk false [])) (jQ.mk (jF.mk false []) (jF.mk false []))))))] (zN (uX 0) <| zN (uX 1) <| zN (qS 2 dX dW) <| zZ) ?_
 refine jA ?_
 have bn1 : QL ((m00 * v0) + (m10 * v1)) 40000001 := (kR (k := 40000001) (jH (k := 20000000) hm00 hv0 (by decide)) (jH (k := 20000000) hm10 hv1 (by decide)) (by decide))
 have bn2 : QL ((m01 * v0) + (m11 * v1)) 40000001 := (kR (k := 40000001) (jH (k := 20000000) hm01 hv0 (by decide)) (jH (k := 20000000) hm11 hv1 (by decide)) (by decide))
 have bn3 : QL ((m02 * v0) + (m12 * v1)) 40000001 := (kR (k := 40000001) (jH (k := 20000000) hm02 hv0 (by decide)) (jH (k := 20000000) hm12 hv1 (by decide)) (by decide))
 have bn4 : QL (((m00 * v0) + (m10 * v1)) + (m20 * v2)) 60000002 := (kR (k := 60000002) bn1 (jH (k := 20000000) hm20 hv2 (by decide)) (by decide))
 have bn5 : QL (((m01 * v0) + (m11 * v1)) + (m21 * v2)) 60000002 := (kR (k := 60000002) bn2 (jH (k := 20000000) hm21 hv2 (by decide)) (by decide))
 have bn6 : QL (((m02 * v0) + (m12 * v1)) + (m22 * v2)) 60000002 := (kR (k := 60000002) bn3 (jH (k := 20000000) hm22 hv2 (by decide)) (by decide))
 refine kd [] [(2, some (bx (jP (A3.mk (jB (((m00 * v0) + (m10 * v1)) + (m20 * v2))) (jB (((m01 * v0) + (m11 * v1)) + (m21 * v2))) (jB (((m02 * v0) + (m12 * v1)) + (m22 * v2)))))))] mo (wE (vF mU 0) <| wR (kC vC) <| wE (vF yG 0) <| wR (kC jT) <| wE (kA (yL m00 m01 m02 (qu hm00) (qu hm01) (qu hm02) v0 (qu hv0))) <| wE (vF mU 1) <| wR (kC vC) <| wE (vF yG 1) <| wR (kC jT) <| wE (kA (yL m10 m11 m12 (qu hm10) (qu hm11) (qu hm12) v1 (qu hv1))) <| wE (kA (qs_sum (m00 * v0) (m01 * v0) (m02 * v0) (kJ (jH (k := 20000000) hm00 hv0 (by decide)) (by decide)) (kJ (jH (k := 20000000) hm01 hv0 (by decide)) (by decide)) (kJ (jH (k := 20000000) hm02 hv0 (by decide)) (by decide)) (m10 * v1) (m11 * v1) (m12 * v1) (kJ (jH (k := 20000000) hm10 hv1 (by decide)) (by decide)) (kJ (jH (k := 20000000) hm11 hv1 (by decide)) (by decide)) (kJ (jH (k := 20000000) hm12 hv1 (by decide)) (by decide)))) <| wE (vF mU 2) <| wR (kC vC) <| wE (vF yG 2) <| wR (kC jT) <| wE (kA (yL m20 m21 m22 (qu hm20) (qu hm21) (qu hm22) v2 (qu hv2))) <| wE (kA (qs_sum ((m00 * v0) + (m10 * v1)) ((m01 * v0) + (m11 * v1)) ((m02 * v0) + (m12 * v1)) (qu bn1) (qu bn2) (qu bn3) (m20 * v2) (m21 * v2) (m22 * v2) (kJ (jH (k := 20000000) hm20 hv2 (by decide)) (by decide)) (kJ (jH (k := 20000000) hm21 hv2 (by decide)) (by decide)) (kJ (jH (k := 20000000) hm22 hv2 (by decide)) (by decide)))) <| wT (qB vC) <| wZ) ?_
 refine jJ ⟨_, (qI (cs := (bx (jP (A3.mk (jB (((m00 * v0) + (m10 * v1)) + (m20 * v2))) (jB (((m01 * v0) + (m11 * v1)) + (m21 * v2))) (jB (((m02 * v0) + (m12 * v1)) + (m22 * v2))))))) (d := (jP (A3.mk (jB (((m00 * v0) + (m10 * v1)) + (m20 * v2))) (jB (((m01 * v0) + (m11 * v1)) + (m21 * v2))) (jB (((m02 * v0) + (m12 * v1)) + (m22 * v2)))))) rfl rfl vC rfl rfl .nil), ?_⟩
 rfl
end Go.Proofs.YtbecgnplakngdaaGreat
