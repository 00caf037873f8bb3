/- Part 22 of a proof: rules, plain facts, and functions walked. -/
import Derived.Test.YtbecgnplakngdaaGreatM20
import Derived.Test.YtbecgnplakngdaaGreatM21
namespace Go.Proofs.YtbecgnplakngdaaGreat
open Go.Fid
set_option maxRecDepth 4000
set_option linter.unusedVariables false
set_option linter.unusedSimpArgs false
theorem gM : dA Tryz.prog 44 = some (3, 42, 4) := by kernel_rfl
theorem ar45 : dA Tryz.prog 45 = some (3, 44, 12) := by kernel_rfl
theorem uP : dA Tryz.prog 129 = some (3, 42, 4) := by kernel_rfl
theorem vY : dA Tryz.prog 131 = some (3, 129, 12) := by kernel_rfl
theorem cb22 : callB Tryz.prog 22 = true := by kernel_rfl
theorem cb23 : callB Tryz.prog 23 = true := by kernel_rfl
theorem cb38 : callB Tryz.prog 38 = true := by kernel_rfl
theorem cb44 : callB Tryz.prog 44 = true := by kernel_rfl
theorem cb45 : callB Tryz.prog 45 = true := by kernel_rfl
theorem cb70 : callB Tryz.prog 70 = true := by kernel_rfl
theorem cb72 : callB Tryz.prog 72 = true := by kernel_rfl
theorem cb73 : callB Tryz.prog 73 = true := by kernel_rfl
theorem cb78 : callB Tryz.prog 78 = true := by kernel_rfl
theorem cb92 : callB Tryz.prog 92 = true := by kernel_rfl
theorem cb96 : callB Tryz.prog 96 = true := by kernel_rfl
theorem cb98 : callB Tryz.prog 98 = true := by kernel_rfl
theorem cb101 : callB Tryz.prog 101 = true := by kernel_rfl
theorem cb106 : callB Tryz.prog 106 = true := by kernel_rfl
theorem cb107 : callB Tryz.prog 107 = true := by kernel_rfl
theorem cb141 : callB Tryz.prog 141 = true := by kernel_rfl
theorem uO : vX Tryz.prog 52 = some (42, 4) := by kernel_rfl
theorem xR : uF Tryz.prog 44 = some (true, 12) := by kernel_rfl
theorem sh45 : uF Tryz.prog 45 = some (true, 36) := by kernel_rfl
theorem uN : uF Tryz.prog 129 = some (true, 12) := by kernel_rfl
theorem hC : uF Tryz.prog 131 = some (true, 36) := by kernel_rfl
theorem iE : xH Tryz.prog 44 = some [.bool false, .slice none 0 0, .bool false, .slice none 0 0, .bool false, .slice none 0 0, .bool false, .slice none 0 0, .bool false, .slice none 0 0, .bool false, .slice none 0 0] := by kernel_rfl
theorem ze45 : xH Tryz.prog 45 = some [.bool false, .slice none 0 0, .bool false, .slice none 0 0, .bool false, .slice none 0 0, .bool false, .slice none 0 0, .bool false, .slice none 0 0, .bool false, .slice none 0 0, .bool false, .slice none 0 0, .bool false, .slice none 0 0, .bool false, .slice none 0 0, .bool false, .slice none 0 0, .bool false, .slice none 0 0, .bool false, .slice none 0 0, .bool false, .slice none 0 0, .bool false, .slice none 0 0, .bool false, .slice none 0 0, .bool false, .slice none 0 0, .bool false, .slice none 0 0, .bool false, .slice none 0 0] := by kernel_rfl
theorem cH : xH Tryz.prog 129 = some [.bool false, .slice none 0 0, .bool false, .slice none 0 0, .bool false, .slice none 0 0, .bool false, .slice none 0 0, .bool false, .slice none 0 0, .bool false, .slice none 0 0] := by kernel_rfl
theorem eL : xH Tryz.prog 131 = some [.bool false, .slice none 0 0, .bool false, .slice none 0 0, .bool false, .slice none 0 0, .bool false, .slice none 0 0, .bool false, .slice none 0 0, .bool false, .slice none 0 0, .bool false, .slice none 0 0, .bool false, .slice none 0 0, .bool false, .slice none 0 0, .bool false, .slice none 0 0, .bool false, .slice none 0 0, .bool false, .slice none 0 0, .bool false, .slice none 0 0, .bool false, .slice none 0 0, .bool false, .slice none 0 0, .bool false, .slice none 0 0, .bool false, .slice none 0 0, .bool false, .slice none 0 0] := by kernel_rfl
theorem bV : mP [.bool false, .slice none 0 0, .bool false, .slice none 0 0, .bool false, .slice none 0 0, .bool false, .slice none 0 0, .bool false, .slice none 0 0, .bool false, .slice none 0 0] [.val (.bool false), .sl 152 1 [], .val (.bool false), .sl 152 1 [], .val (.bool false), .sl 152 1 [], .val (.bool false), .sl 152 1 [], .val (.bool false), .sl 152 1 [], .val (.bool false), .sl 152 1 []] := by simp [mP, Value.oneCell']
theorem zo45 : mP [.bool false, .slice none 0 0, .bool false, .slice none 0 0, .bool false, .slice none 0 0, .bool false, .slice none 0 0, .bool false, .slice none 0 0, .bool false, .slice none 0 0, .bool false, .slice none 0 0, .bool false, .slice none 0 0, .bool false, .slice none 0 0, .bool false, .slice none 0 0, .bool false, .slice none 0 0, .bool false, .slice none 0 0, .bool false, .slice none 0 0, .bool false, .slice none 0 0, .bool false, .slice none 0 0, .bool false, .slice none 0 0, .bool false, .slice none 0 0, .bool false, .slice none 0 0] [.val (.bool false), .sl 152 1 [], .val (.bool false), .sl 152 1 [], .val (.bool false), .sl 152 1 [], .val (.bool false), .sl 152 1 [], .val (.bool false), .sl 152 1 [], .val (.bool false), .sl 152 1 [], .val (.bool false), .sl 152 1 [], .val (.bool false), .sl 152 1 [], .val (.bool false), .sl 152 1 [], .val (.bool false), .sl 152 1 [], .val (.bool false), .sl 152 1 [], .val (.bool false), .sl 152 1 [], .val (.bool false), .sl 152 1 [], .val (.bool false), .sl 152 1 [], .val (.bool false), .sl 152 1 [], .val (.bool false), .sl 152 1 [], .val (.bool false), .sl 152 1 [], .val (.bool false), .sl 152 1 []] := by simp [mP, Value.oneCell']
theorem cG : mP [.bool false, .slice none 0 0, .bool false, .slice none 0 0, .bool false, .slice none 0 0, .bool false, .slice none 0 0, .bool false, .slice none 0 0, .bool false, .slice none 0 0] [.val (.bool false), .sl 152 1 [], .val (.bool false), .sl 152 1 [], .val (.bool false), .sl 152 1 [], .val (.bool false), .sl 152 1 [], .val (.bool false), .sl 152 1 [], .val (.bool false), .sl 152 1 []] := by simp [mP, Value.oneCell']
theorem eF : mP [.bool false, .slice none 0 0, .bool false, .slice none 0 0, .bool false, .slice none 0 0, .bool false, .slice none 0 0, .bool false, .slice none 0 0, .bool false, .slice none 0 0, .bool false, .slice none 0 0, .bool false, .slice none 0 0, .bool false, .slice none 0 0, .bool false, .slice none 0 0, .bool false, .slice none 0 0, .bool false, .slice none 0 0, .bool false, .slice none 0 0, .bool false, .slice none 0 0, .bool false, .slice none 0 0, .bool false, .slice none 0 0, .bool false, .slice none 0 0, .bool false, .slice none 0 0] [.val (.bool false), .sl 152 1 [], .val (.bool false), .sl 152 1 [], .val (.bool false), .sl 152 1 [], .val (.bool false), .sl 152 1 [], .val (.bool false), .sl 152 1 [], .val (.bool false), .sl 152 1 [], .val (.bool false), .sl 152 1 [], .val (.bool false), .sl 152 1 [], .val (.bool false), .sl 152 1 [], .val (.bool false), .sl 152 1 [], .val (.bool false), .sl 152 1 [], .val (.bool false), .sl 152 1 [], .val (.bool false), .sl 152 1 [], .val (.bool false), .sl 152 1 [], .val (.bool false), .sl 152 1 [], .val (.bool false), .sl 152 1 [], .val (.bool false), .sl 152 1 [], .val (.bool false), .sl 152 1 []] := by simp [mP, Value.oneCell']
theorem q_dotF (ta : Nat) (a0 a1 a2 : Rat) (ha0 : QL a0 100000000) (ha1 : QL a1 100000000) (ha2 : QL a2 100000000) (tb : Nat) (b0 b1 b2 : Rat) (hb0 : QL b0 100000000) (hb1 : QL b1 100000000) (hb2 : QL b2 100000000) : kF Tryz.prog 141 [(.sl ta 4 (List.map jO [(jC a0), (jC a1), (jC a2)])), (.sl tb 4 (List.map jO [(jC b0), (jC b1), (jC b2)]))] (.tup [(jO (jC (jM a0 a1 a2 b0 b1 b2))), (.val (.int .i64 (0)))]) := by
 refine jL Tryz.func141 rfl cb141 rfl ?_
 show uK _ _ _ _ ⟨[(0, (vl ta 4 jO [(jC a0), (jC a1), (jC a2)])), (1, (vl tb 4 jO [(jC b0), (jC b1), (jC b2)]))], []⟩
 refine jA <| kx [(4, (.ref 0 0))] [(0, some (bx (jO (kG.mk (jF.mk false []) (jF.mk false [])))))] (zN (qH 0 qM qR) <| zM <| zZ) ?_
 refine jA <| jA <| kx [(13, (vb false))] [] (zM <| zE (fT uO 3) <| zM <| zE (fT uO 3) <| zE mR <| zZ) ?_
 refine kO ?_
 refine jD <| jA ?_
 have bn1 : QL ((0 : Int) : Rat) 1 := (qC (z := 0) (xA (by decide)) (by decide))
 refine kx [(6, (.ref 1 0))] [(1, some (bx (jO (jC ((0 : Int) : Rat)))))] (zE (kC (eD 0 (by decide) (by decide))) <| zN (qH 1 qM qR) <| zT (kR jS) <| zZ) ?_
 refine jA <| jA <| kx [(16, (vl ta 4 jO [(jC a0), (jC a1), (jC a2)])), (17, (kE 3)), (18, (kE 0))] [] (zM <| zE (fT uO 3) <| zM <| zZ) ?_
 refine jE <| qE 20 ?_
 refine qK <| jA <| kx [(19, (vb true))] [] (zE (qY true qS) <| zZ) ?_
 refine jA <| kD ?_
 refine jD <| jA <| jE <| jA <| kx [(7, (kE 0)), (8, (.ref 2 0))] [(2, some (bx (jO (jC a0))))] (zM <| zE (zD uO 0) <| zE (gZ jS) <| zN (qH 2 qM qR) <| zM <| zT (kR jS) <| zZ) ?_
 have bn2 : QL (((0 : Int) : Rat) + (a0 * b0)) 200000002 := (yX (k := 200000002) bn1 (jV (k := 200000000) ha0 hb0 (by decide)) (by decide))
 refine kd [] [(1, some (bx (jO (jC (((0 : Int) : Rat) + (a0 * b0))))))] mo (wR (kA jS) <| wR (kA jS) <| wM <| wM <| wE (zD uO 0) <| wE (gZ jS) <| wE (kC (f_mul (jC a0) (jC b0) a0 b0 (kH (kL ha0) (by decide)) (kH (kL hb0) (by decide)))) <| wE (kC (f_add (jC ((0 : Int) : Rat)) (jC (a0 * b0)) ((0 : Int) : Rat) (a0 * b0) (kH (kL bn1) (by decide)) (kH (kL (jV (k := 200000000) ha0 hb0 (by decide))) (by decide)))) <| wT (kR jS) <| wZ) ?_
 refine kx [(18, (kE 1))] [] (zE (qQ 1 (hr := by decide)) <| zM <| zZ) ?_
 refine jJ (jZ.refl _) ?_
 refine jA <| kx [(19, (vb true))] [] (zE (qY true qS) <| zZ) ?_
 refine jA <| kD ?_
 refine jD <| jA <| jE <| jA <| kx [(7, (kE 1)), (8, (.ref 3 0))] [(3, some (bx (jO (jC a1))))] (zM <| zE (zD uO 1) <| zE (gZ jS) <| zN (qH 3 qM qR) <| zM <| zT (kR jS) <| zZ) ?_
 have bn3 : QL ((((0 : Int) : Rat) + (a0 * b0)) + (a1 * b1)) 400000003 := (yX (k := 400000003) bn2 (jV (k := 200000000) ha1 hb1 (by decide)) (by decide))
 refine kd [] [(1, some (bx (jO (jC ((((0 : Int) : Rat) + (a0 * b0)) + (a1 * b1))))))] mo (wR (kA jS) <| wR (kA jS) <| wM <| wM <| wE (zD uO 1) <| wE (gZ jS) <| wE (kC (f_mul (jC a1) (jC b1) a1 b1 (kH (kL ha1) (by decide)) (kH (kL hb1) (by decide)))) <| wE (kC (f_add (jC (((0 : Int) : Rat) + (a0 * b0))) (jC (a1 * b1)) (((0 : Int) : Rat) + (a0 * b0)) (a1 * b1) (kH (kL bn2) (by decide)) (kH (kL (jV (k := 200000000) ha1 hb1 (by decide))) (by decide)))) <| wT (kR jS) <| wZ) ?_
 refine kx [(18, (kE 2))] [] (zE (qQ 2 (hr := by decide)) <| zM <| zZ) ?_
 refine jJ (jZ.refl _) ?_
 refine jA <| kx [(19, (vb true))] [] (zE (qY true qS) <| zZ) ?_
 refine jA <| kD ?_
 refine jD <| jA <| jE <| jA <| kx [(7, (kE 2)), (8, (.ref 4 0))] [(4, some (bx (jO (jC a2))))] (zM <| zE (zD uO 2) <| zE (gZ jS) <| zN (qH 4 qM qR) <| zM <| zT (kR jS) <| zZ) ?_
 refine kX (wk (l := [(1, (vl tb 4 jO [(jC b0), (jC b1), (jC b2)])), (4, (.ref 0 0)), (6, (.ref 1 0)), (7, (kE 2)), (8, (.ref 4 0)), (16, (vl ta 4 jO [(jC a0), (jC a1), (jC a2)])), (17, (kE 3)), (18, (kE 2))]) (b := [(0, some (bx (jO (kG.mk (jF.mk false []) (jF.mk false []))))), (1, some (bx (jO (jC ((((0 : Int) : Rat) + (a0 * b0)) + (a1 * b1)))))), (4, some (bx (jO (jC a2))))])) ?_
 have bn4 : QL (((((0 : Int) : Rat) + (a0 * b0)) + (a1 * b1)) + (a2 * b2)) 600000004 := (yX (k := 600000004) bn3 (jV (k := 200000000) ha2 hb2 (by decide)) (by decide))
 refine kd [] [(1, some (bx (jO (jC (((((0 : Int) : Rat) + (a0 * b0)) + (a1 * b1)) + (a2 * b2))))))] mo (wR (kA jS) <| wR (kA jS) <| wM <| wM <| wE (zD uO 2) <| wE (gZ jS) <| wE (kC (f_mul (jC a2) (jC b2) a2 b2 (kH (kL ha2) (by decide)) (kH (kL hb2) (by decide)))) <| wE (kC (f_add (jC ((((0 : Int) : Rat) + (a0 * b0)) + (a1 * b1))) (jC (a2 * b2)) ((((0 : Int) : Rat) + (a0 * b0)) + (a1 * b1)) (a2 * b2) (kH (kL bn3) (by decide)) (kH (kL (jV (k := 200000000) ha2 hb2 (by decide))) (by decide)))) <| wT (kR jS) <| wZ) ?_
 refine kx [(18, (kE 3))] [] (zE (qQ 3 (hr := by decide)) <| zM <| zZ) ?_
 refine jJ (jZ.refl _) ?_
 refine jA <| kx [(19, (vb false))] [] (zE (qY false qS) <| zZ) ?_
 refine jA <| kO ?_
 refine kQ <| jA <| kx [(5, (kE 0))] [(0, some (bx (jO (jC (((((0 : Int) : Rat) + (a0 * b0)) + (a1 * b1)) + (a2 * b2))))))] (zR (kA jS) <| zT (kR jS) <| zM <| zZ) ?_
 refine jG ⟨_, (qB (cs := (bx (jO (jC (((((0 : Int) : Rat) + (a0 * b0)) + (a1 * b1)) + (a2 * b2)))))) (d := (jO (jC (((((0 : Int) : Rat) + (a0 * b0)) + (a1 * b1)) + (a2 * b2))))) rfl rfl jS rfl rfl (.tmp (d := (.val (.int .i64 (((0 : Nat) : Int))))) rfl .nil)), ?_⟩
 rw [← dot3_eq]; rfl
theorem q_dotL (ta : Nat) (a0 a1 a2 : Rat) (ha0 : QL a0 100000000) (ha1 : QL a1 100000000) (ha2 : QL a2 100000000) (tb : Nat) (b0 b1 b2 : Rat) (hb0 : QL b0 100000000) (hb1 : QL b1 100000000) (hb2 : QL b2 100000000) : kF Tryz.prog 92 [(.sl ta 4 (List.map jO [(jC a0), (jC a1), (jC a2)])), (.sl tb 4 (List.map jO [(jC b0), (jC b1), (jC b2)]))] (.tup [(jO (jC (jM a0 a1 a2 b0 b1 b2))), (.val (.int .i64 (0)))]) := by
 refine jL Tryz.func92 rfl cb92 rfl ?_
 show uK _ _ _ _ ⟨[(0, (vl ta 4 jO [(jC a0), (jC a1), (jC a2)])), (1, (vl tb 4 jO [(jC b0), (jC b1), (jC b2)]))], []⟩
 refine jA <| kx [(4, (.ref 0 0))] [(0, some (bx (jO (kG.mk (jF.mk false []) (jF.mk false [])))))] (zN (qH 0 qM qR) <| zM <| zZ) ?_
 refine jA <| jA <| kx [(12, (vb false))] [] (zM <| zE (fT uO 3) <| zM <| zE (fT uO 3) <| zE mR <| zZ) ?_
 refine kO ?_
 refine jD <| jA ?_
 have bn1 : QL ((0 : Int) : Rat) 1 := (qC (z := 0) (xA (by decide)) (by decide))
 refine kx [(6, (.ref 1 0))] [(1, some (bx (jO (jC ((0 : Int) : Rat)))))] (zE (kC (mJ 0 (by decide) (by decide))) <| zN (qH 1 qM qR) <| zT (kR jS) <| zZ) ?_
 refine jA <| jA <| kx [(7, (kE 0))] [] (zM <| zZ) ?_
 refine jE <| qE 20 ?_
 refine qK <| jA <| jA <| kx [(18, (vb true))] [] (zM <| zM <| zE (fT uO 3) <| zE (qY true qS) <| zZ) ?_
 refine kD ?_
 refine jD <| jA <| jE ?_
 have bn2 : QL (((0 : Int) : Rat) + (a0 * b0)) 200000002 := (yX (k := 200000002) bn1 (jV (k := 200000000) ha0 hb0 (by decide)) (by decide))
 refine kd [] [(1, some (bx (jO (jC (((0 : Int) : Rat) + (a0 * b0))))))] mo (wR (kA jS) <| wM <| wM <| wE (zD uO 0) <| wE (gZ jS) <| wM <| wM <| wE (zD uO 0) <| wE (gZ jS) <| wE (kC (g_mul (jC a0) (jC b0) a0 b0 (kH (kL ha0) (by decide)) (kH (kL hb0) (by decide)))) <| wE (kC (g_add (jC ((0 : Int) : Rat)) (jC (a0 * b0)) ((0 : Int) : Rat) (a0 * b0) (kH (kL bn1) (by decide)) (kH (kL (jV (k := 200000000) ha0 hb0 (by decide))) (by decide)))) <| wT (kR jS) <| wZ) ?_
 refine kx [(7, (kE 1))] [] (zM <| zE (qQ 1 (hr := by decide)) <| zM <| zZ) ?_
 refine jJ (jZ.refl _) ?_
 refine jA <| jA <| kx [(18, (vb true))] [] (zM <| zM <| zE (fT uO 3) <| zE (qY true qS) <| zZ) ?_
 refine kD ?_
 refine jD <| jA <| jE ?_
 have bn3 : QL ((((0 : Int) : Rat) + (a0 * b0)) + (a1 * b1)) 400000003 := (yX (k := 400000003) bn2 (jV (k := 200000000) ha1 hb1 (by decide)) (by decide))
 refine kd [] [(1, some (bx (jO (jC ((((0 : Int) : Rat) + (a0 * b0)) + (a1 * b1))))))] mo (wR (kA jS) <| wM <| wM <| wE (zD uO 1) <| wE (gZ jS) <| wM <| wM <| wE (zD uO 1) <| wE (gZ jS) <| wE (kC (g_mul (jC a1) (jC b1) a1 b1 (kH (kL ha1) (by decide)) (kH (kL hb1) (by decide)))) <| wE (kC (g_add (jC (((0 : Int) : Rat) + (a0 * b0))) (jC (a1 * b1)) (((0 : Int) : Rat) + (a0 * b0)) (a1 * b1) (kH (kL bn2) (by decide)) (kH (kL (jV (k := 200000000) ha1 hb1 (by decide))) (by decide)))) <| wT (kR jS) <| wZ) ?_
 refine kx [(7, (kE 2))] [] (zM <| zE (qQ 2 (hr := by decide)) <| zM <| zZ) ?_
 refine jJ (jZ.refl _) ?_
 refine jA <| jA <| kx [(18, (vb true))] [] (zM <| zM <| zE (fT uO 3) <| zE (qY true qS) <| zZ) ?_
 refine kD ?_
 refine jD <| jA <| jE ?_
 have bn4 : QL (((((0 : Int) : Rat) + (a0 * b0)) + (a1 * b1)) + (a2 * b2)) 600000004 := (yX (k := 600000004) bn3 (jV (k := 200000000) ha2 hb2 (by decide)) (by decide))
 refine kd [] [(1, some (bx (jO (jC (((((0 : Int) : Rat) + (a0 * b0)) + (a1 * b1)) + (a2 * b2))))))] mo (wR (kA jS) <| wM <| wM <| wE (zD uO 2) <| wE (gZ jS) <| wM <| wM <| wE (zD uO 2) <| wE (gZ jS) <| wE (kC (g_mul (jC a2) (jC b2) a2 b2 (kH (kL ha2) (by decide)) (kH (kL hb2) (by decide)))) <| wE (kC (g_add (jC ((((0 : Int) : Rat) + (a0 * b0)) + (a1 * b1))) (jC (a2 * b2)) ((((0 : Int) : Rat) + (a0 * b0)) + (a1 * b1)) (a2 * b2) (kH (kL bn3) (by decide)) (kH (kL (jV (k := 200000000) ha2 hb2 (by decide))) (by decide)))) <| wT (kR jS) <| wZ) ?_
 refine kx [(7, (kE 3))] [] (zM <| zE (qQ 3 (hr := by decide)) <| zM <| zZ) ?_
 refine jJ (jZ.refl _) ?_
 refine jA <| jA <| kx [(18, (vb false))] [] (zM <| zM <| zE (fT uO 3) <| zE (qY false qS) <| zZ) ?_
 refine kO ?_
 refine kQ <| jA <| kX (wk (l := [(0, (vl ta 4 jO [(jC a0), (jC a1), (jC a2)])), (1, (vl tb 4 jO [(jC b0), (jC b1), (jC b2)])), (4, (.ref 0 0)), (6, (.ref 1 0)), (7, (kE 3)), (18, (vb false))]) (b := [(0, some (bx (jO (kG.mk (jF.mk false []) (jF.mk false []))))), (1, some (bx (jO (jC (((((0 : Int) : Rat) + (a0 * b0)) + (a1 * b1)) + (a2 * b2))))))])) ?_
 refine kx [(5, (kE 0))] [(0, some (bx (jO (jC (((((0 : Int) : Rat) + (a0 * b0)) + (a1 * b1)) + (a2 * b2))))))] (zR (kA jS) <| zT (kR jS) <| zM <| zZ) ?_
 refine jG ⟨_, (qB (cs := (bx (jO (jC (((((0 : Int) : Rat) + (a0 * b0)) + (a1 * b1)) + (a2 * b2)))))) (d := (jO (jC (((((0 : Int) : Rat) + (a0 * b0)) + (a1 * b1)) + (a2 * b2))))) rfl rfl jS rfl rfl (.tmp (d := (.val (.int .i64 (((0 : Nat) : Int))))) rfl .nil)), ?_⟩
 rw [← dot3_eq]; rfl
theorem q_whole (x : Int) (hxl : -9223372036854775808 ≤ x) (hxh : x ≤ 9223372036854775807) (y : Int) (hyl : -9223372036854775808 ≤ y) (hyh : y ≤ 9223372036854775807) (z : Int) (hzl : -9223372036854775808 ≤ z) (hzh : z ≤ 9223372036854775807) : kF Tryz.prog 96 [(.val (.int .i64 (x))), (.val (.int .i64 (y))), (.val (.int .i64 (z)))] (jY (A3.mk (jC ((x : Int) : Rat)) (jC ((y : Int) : Rat)) (jC ((z : Int) : Rat)))) := by
 refine jL Tryz.func96 rfl cb96 rfl ?_
 show uK _ _ _ _ ⟨[(0, (vi x)), (1, (vi y)), (2, (vi z))], []⟩
 refine jA <| kx [(6, (.ref 0 0))] [(0, some (bx (jY (A3.mk (kG.mk (jF.mk false []) (jF.mk false [])) (kG.mk (jF.mk false []) (jF.mk false [])) (kG.mk (jF.mk false []) (jF.mk false []))))))] (zN (qH 0 cH cG) <| zZ) ?_
 refine jA ?_
 have bn1 : QL ((x : Int) : Rat) 3 := (qC (z := x) (jU (by omega) (by omega)) (by decide))
 have bn2 : QL ((y : Int) : Rat) 3 := (qC (z := y) (jU (by omega) (by omega)) (by decide))
 have bn3 : QL ((z : Int) : Rat) 3 := (qC (z := z) (jU (by omega) (by omega)) (by decide))
 refine kx [] [(0, some (bx (jY (A3.mk (jC ((x : Int) : Rat)) (jC ((y : Int) : Rat)) (jC ((z : Int) : Rat))))))] (zM <| zE (kC (eD x (by omega) (by omega))) <| zM <| zE (kC (eD y (by omega) (by omega))) <| zM <| zE (kC (eD z (by omega) (by omega))) <| zE (oBf uP cH cG) <| zT (kR uN) <| zZ) ?_
 refine jG ⟨_, (qB (cs := (bx (jY (A3.mk (jC ((x : Int) : Rat)) (jC ((y : Int) : Rat)) (jC ((z : Int) : Rat)))))) (d := (jY (A3.mk (jC ((x : Int) : Rat)) (jC ((y : Int) : Rat)) (jC ((z : Int) : Rat))))) rfl rfl uN rfl rfl .nil), ?_⟩
 rfl
theorem q_dot (a0 a1 a2 : Rat) (ha0 : QL a0 100000000) (ha1 : QL a1 100000000) (ha2 : QL a2 100000000) (b0 b1 b2 : Rat) (hb0 : QL b0 100000000) (hb1 : QL b1 100000000) (hb2 : QL b2 100000000) : kF Tryz.prog 98 [(jY (A3.mk (jC a0) (jC a1) (jC a2))), (jY (A3.mk (jC b0) (jC b1) (jC b2)))] (jO (jC (jM a0 a1 a2 b0 b1 b2))) := by
 refine jL Tryz.func98 rfl cb98 rfl ?_
 show uK _ _ _ _ ⟨[(0, (.d (jY (A3.mk (jC a0) (jC a1) (jC a2))))), (1, (.d (jY (A3.mk (jC b0) (jC b1) (jC b2)))))], []⟩
 refine jA <| kx [(2, (.ref 0 0)), (3, (.ref 1 0)), (4, (.ref 2 0))] [(0, some (bx (jY (A3.mk (jC a0) (jC a1) (jC a2))))), (1, some (bx (jY (A3.mk (jC b0) (jC b1) (jC b2))))), (2, some (bx (jO (kG.mk (jF.mk false []) (jF.mk false [])))))] (zN (uX 0) <| zN (uX 1) <| zN (qH 2 qM qR) <| zZ) ?_
 refine jA ?_
 have bn1 : QL (jM a0 a1 a2 b0 b1 b2) 600000002 := (jR (n := 100000000) (k := 600000002) ha0 ha1 ha2 hb0 hb1 hb2 (by decide))
 refine kd [(5, (.ref 3 0))] [(3, some (bx (jO (jC (jM a0 a1 a2 b0 b1 b2)))))] mo (wE (e_slv (by exact rfl) uP (by exact rfl) (by kernel_rfl) (by kernel_rfl)) <| wE (e_slv (by exact rfl) uP (by exact rfl) (by kernel_rfl) (by kernel_rfl)) <| wC (oCg [(0, (qF.cells (jY (A3.mk (jC a0) (jC a1) (jC a2))))), (1, (qF.cells (jY (A3.mk (jC b0) (jC b1) (jC b2)))))] [(.view 0 0 3), (.view 1 0 3)] (q_dotF 1000000 a0 a1 a2 ha0 ha1 ha2 1000000 b0 b1 b2 hb0 hb1 hb2) (.v (es := List.map jO [(jC a0), (jC a1), (jC a2)]) (.head _) (xZ _ _ (fun _ => rfl)) (by kernel_rfl) (by kernel_rfl) (.v (es := List.map jO [(jC b0), (jC b1), (jC b2)]) (.tail _ (.head _)) (xZ _ _ (fun _ => rfl)) (by kernel_rfl) (by kernel_rfl) .nil)) (.tup (nG (avo_encR (by decide) _) (nG (.val _) avo_nil)))) <| wM <| wE uH <| wE uH <| wN (qH 3 qM qR) <| wT (kR jS) <| wM <| wZ) ?_
 refine jA <| kx [] [(2, some (bx (jO (jC (jM a0 a1 a2 b0 b1 b2)))))] (zR (kA jS) <| zT (kR jS) <| zZ) ?_
 refine jG ⟨_, (qB (cs := (bx (jO (jC (jM a0 a1 a2 b0 b1 b2))))) (d := (jO (jC (jM a0 a1 a2 b0 b1 b2)))) rfl rfl jS rfl rfl .nil), ?_⟩
 rfl
theorem q_cross (a0 a1 a2 : Rat) (ha0 : QL a0 100000000) (ha1 : QL a1 100000000) (ha2 : QL a2 100000000) (b0 b1 b2 : Rat) (hb0 : QL b0 100000000) (hb1 : QL b1 100000000) (hb2 : QL b2 100000000) : kF Tryz.prog 73 [(jY (A3.mk (jC a0) (jC a1) (jC a2))), (jY (A3.mk (jC b0) (jC b1) (jC b2)))] (jY (A3.mk (jC ((a1 * b2) - (a2 * b1))) (jC ((a2 * b0) - (a0 * b2))) (jC ((a0 * b1) - (a1 * b0))))) := by
 let y2 := (kG.mk (jF.mk false []) (jF.mk false []))
 let y1 := (bx (jY (A3.mk y2 y2 y2)))
 refine jL Tryz.func73 rfl cb73 rfl ?_
 show uK _ _ _ _ ⟨[(0, (.d (jY (A3.mk (jC a0) (jC a1) (jC a2))))), (1, (.d (jY (A3.mk (jC b0) (jC b1) (jC b2)))))], []⟩
 refine jA <| kx [(2, (.ref 0 0)), (3, (.ref 1 0)), (4, (.ref 2 0))] [(0, some (bx (jY (A3.mk (jC a0) (jC a1) (jC a2))))), (1, some (bx (jY (A3.mk (jC b0) (jC b1) (jC b2))))), (2, some y1)] (zN (uX 0) <| zN (uX 1) <| zN (qH 2 cH cG) <| zZ) ?_
 refine jA <| kx [(5, (.ref 3 0))] [(3, some y1)] (zN (qH 3 cH cG) <| zZ) ?_
 refine jA <| jA <| kx [(9, (kE 0))] [] (zM <| zZ) ?_
 refine jE <| qE 20 ?_
 refine qK <| jA <| kx [(10, (vb true))] [] (zE (qY true qS) <| zZ) ?_
 refine jA <| kD ?_
 refine jD <| jA <| jE <| jA <| kx [(6, (kE 0))] [] (zM <| zM <| zZ) ?_
 refine jA <| kx [(7, (kE 1)), (8, (kE 2))] [] (zM <| zE (qQ 1 (hr := by decide)) <| zE (aI 1 (hr := by decide)) <| zM <| zE (qQ 2 (hr := by decide)) <| zE (aI 2 (hr := by decide)) <| zM <| zM <| zZ) ?_
 have bn1 : QL ((a1 * b2) - (a2 * b1)) 400000001 := (qZ (k := 400000001) (jV (k := 200000000) ha1 hb2 (by decide)) (jV (k := 200000000) ha2 hb1 (by decide)) (by decide))
 refine kd [] [(3, some (bx (jY (A3.mk (jC ((a1 * b2) - (a2 * b1))) y2 y2))))] mo (wM <| wM <| wE (uJ uP 1) <| wR (kA jS) <| wM <| wE (uJ uP 2) <| wR (kA jS) <| wE (kC (f_mul (jC a1) (jC b2) a1 b2 (kH (kL ha1) (by decide)) (kH (kL hb2) (by decide)))) <| wM <| wE (uJ uP 2) <| wR (kA jS) <| wM <| wE (uJ uP 1) <| wR (kA jS) <| wE (kC (f_mul (jC a2) (jC b1) a2 b1 (kH (kL ha2) (by decide)) (kH (kL hb1) (by decide)))) <| wE (kC (f_sub (jC (a1 * b2)) (jC (a2 * b1)) (a1 * b2) (a2 * b1) (kH (kL (jV (k := 200000000) ha1 hb2 (by decide))) (by decide)) (kH (kL (jV (k := 200000000) ha2 hb1 (by decide))) (by decide)))) <| wE (uJ uP 0) <| wT (kR jS) <| wZ) ?_
 refine kx [(9, (kE 1))] [] (zE (qQ 1 (hr := by decide)) <| zM <| zZ) ?_
 refine jJ (jZ.refl _) ?_
 refine jA <| kx [(10, (vb true))] [] (zE (qY true qS) <| zZ) ?_
 refine jA <| kD ?_
 refine jD <| jA <| jE <| jA <| kx [(6, (kE 1))] [] (zM <| zM <| zZ) ?_
 refine jA <| kx [(7, (kE 2)), (8, (kE 0))] [] (zM <| zE (qQ 2 (hr := by decide)) <| zE (aI 2 (hr := by decide)) <| zM <| zE (qQ 3 (hr := by decide)) <| zE (aI 0 (hr := by decide)) <| zM <| zM <| zZ) ?_
 have bn2 : QL ((a2 * b0) - (a0 * b2)) 400000001 := (qZ (k := 400000001) (jV (k := 200000000) ha2 hb0 (by decide)) (jV (k := 200000000) ha0 hb2 (by decide)) (by decide))
 refine kd [] [(3, some (bx (jY (A3.mk (jC ((a1 * b2) - (a2 * b1))) (jC ((a2 * b0) - (a0 * b2))) y2))))] mo (wM <| wM <| wE (uJ uP 2) <| wR (kA jS) <| wM <| wE (uJ uP 0) <| wR (kA jS) <| wE (kC (f_mul (jC a2) (jC b0) a2 b0 (kH (kL ha2) (by decide)) (kH (kL hb0) (by decide)))) <| wM <| wE (uJ uP 0) <| wR (kA jS) <| wM <| wE (uJ uP 2) <| wR (kA jS) <| wE (kC (f_mul (jC a0) (jC b2) a0 b2 (kH (kL ha0) (by decide)) (kH (kL hb2) (by decide)))) <| wE (kC (f_sub (jC (a2 * b0)) (jC (a0 * b2)) (a2 * b0) (a0 * b2) (kH (kL (jV (k := 200000000) ha2 hb0 (by decide))) (by decide)) (kH (kL (jV (k := 200000000) ha0 hb2 (by decide))) (by decide)))) <| wE (uJ uP 1) <| wT (kR jS) <| wZ) ?_
 refine kx [(9, (kE 2))] [] (zE (qQ 2 (hr := by decide)) <| zM <| zZ) ?_
 refine jJ (jZ.refl _) ?_
 refine jA <| kx [(10, (vb true))] [] (zE (qY true qS) <| zZ) ?_
 refine jA <| kD ?_
 refine jD <| jA <| jE <| jA <| kX (wk (l := [(2, (.ref 0 0)), (3, (.ref 1 0)), (4, (.ref 2 0)), (5, (.ref 3 0)), (9, (kE 2)), (10, (vb true))]) (b := [(0, some (bx (jY (A3.mk (jC a0) (jC a1) (jC a2))))), (1, some (bx (jY (A3.mk (jC b0) (jC b1) (jC b2))))), (2, some y1), (3, some (bx (jY (A3.mk (jC ((a1 * b2) - (a2 * b1))) (jC ((a2 * b0) - (a0 * b2))) y2))))])) ?_
 refine kx [(6, (kE 2))] [] (zM <| zM <| zZ) ?_
 refine jA <| kx [(7, (kE 0)), (8, (kE 1))] [] (zM <| zE (qQ 3 (hr := by decide)) <| zE (aI 0 (hr := by decide)) <| zM <| zE (qQ 4 (hr := by decide)) <| zE (aI 1 (hr := by decide)) <| zM <| zM <| zZ) ?_
 have bn3 : QL ((a0 * b1) - (a1 * b0)) 400000001 := (qZ (k := 400000001) (jV (k := 200000000) ha0 hb1 (by decide)) (jV (k := 200000000) ha1 hb0 (by decide)) (by decide))
 refine kd [] [(3, some (bx (jY (A3.mk (jC ((a1 * b2) - (a2 * b1))) (jC ((a2 * b0) - (a0 * b2))) (jC ((a0 * b1) - (a1 * b0)))))))] mo (wM <| wM <| wE (uJ uP 0) <| wR (kA jS) <| wM <| wE (uJ uP 1) <| wR (kA jS) <| wE (kC (f_mul (jC a0) (jC b1) a0 b1 (kH (kL ha0) (by decide)) (kH (kL hb1) (by decide)))) <| wM <| wE (uJ uP 1) <| wR (kA jS) <| wM <| wE (uJ uP 0) <| wR (kA jS) <| wE (kC (f_mul (jC a1) (jC b0) a1 b0 (kH (kL ha1) (by decide)) (kH (kL hb0) (by decide)))) <| wE (kC (f_sub (jC (a0 * b1)) (jC (a1 * b0)) (a0 * b1) (a1 * b0) (kH (kL (jV (k := 200000000) ha0 hb1 (by decide))) (by decide)) (kH (kL (jV (k := 200000000) ha1 hb0 (by decide))) (by decide)))) <| wE (uJ uP 2) <| wT (kR jS) <| wZ) ?_
 refine kx [(9, (kE 3))] [] (zE (qQ 3 (hr := by decide)) <| zM <| zZ) ?_
 refine jJ (jZ.refl _) ?_
 refine jA <| kx [(10, (vb false))] [] (zE (qY false qS) <| zZ) ?_
 refine jA <| kO ?_
 refine kQ <| jA <| kx [] [(2, some (bx (jY (A3.mk (jC ((a1 * b2) - (a2 * b1))) (jC ((a2 * b0) - (a0 * b2))) (jC ((a0 * b1) - (a1 * b0)))))))] (zR (kA uN) <| zT (kR uN) <| zZ) ?_
 refine jG ⟨_, (qB (cs := (bx (jY (A3.mk (jC ((a1 * b2) - (a2 * b1))) (jC ((a2 * b0) - (a0 * b2))) (jC ((a0 * b1) - (a1 * b0))))))) (d := (jY (A3.mk (jC ((a1 * b2) - (a2 * b1))) (jC ((a2 * b0) - (a0 * b2))) (jC ((a0 * b1) - (a1 * b0)))))) rfl rfl uN rfl rfl .nil), ?_⟩
 rfl
theorem eJ (a0 a1 a2 : Rat) (ha0 : QL a0 100000000) (ha1 : QL a1 100000000) (ha2 : QL a2 100000000) (k : Rat) (hk : QL k 100000000) : kF Tryz.prog 107 [(jY (A3.mk (jC a0) (jC a1) (jC a2))), (jO (jC k))] (jY (A3.mk (jC (a0 * k)) (jC (a1 * k)) (jC (a2 * k)))) := by
 let y1 := (kG.mk (jF.mk false []) (jF.mk false []))
 refine jL Tryz.func107 rfl cb107 rfl ?_
 show uK _ _ _ _ ⟨[(0, (.d (jY (A3.mk (jC a0) (jC a1) (jC a2))))), (1, (.d (jO (jC k))))], []⟩
 refine jA <| kx [(2, (.ref 0 0)), (3, (.ref 1 0)), (4, (.ref 2 0))] [(0, some (bx (jY (A3.mk (jC a0) (jC a1) (jC a2))))), (1, some (bx (jO (jC k)))), (2, some (bx (jY (A3.mk y1 y1 y1))))] (zN (uX 0) <| zN (uX 1) <| zN (qH 2 cH cG) <| zZ) ?_
 refine jA <| jA <| kx [(6, (kE 0))] [] (zM <| zZ) ?_
 refine jE <| qE 20 ?_
 refine qK <| jA <| kx [(7, (vb true))] [] (zE (qY true qS) <| zZ) ?_
 refine jA <| kD ?_
 refine jD <| jA <| jE <| jA <| kx [(5, (kE 0))] [] (zM <| zM <| zZ) ?_
 refine kd [] [(0, some (bx (jY (A3.mk (jC (a0 * k)) (jC a1) (jC a2)))))] mo (wM <| wM <| wE (uJ uP 0) <| wR (kA jS) <| wR (kA jS) <| wE (kC (f_mul (jC a0) (jC k) a0 k (kH (kL ha0) (by decide)) (kH (kL hk) (by decide)))) <| wE (uJ uP 0) <| wT (kR jS) <| wZ) ?_
 refine kx [(6, (kE 1))] [] (zE (qQ 1 (hr := by decide)) <| zM <| zZ) ?_
 refine jJ (jZ.refl _) ?_
 refine jA <| kx [(7, (vb true))] [] (zE (qY true qS) <| zZ) ?_
 refine jA <| kD ?_
 refine jD <| jA <| jE <| jA <| kx [(5, (kE 1))] [] (zM <| zM <| zZ) ?_
 refine kd [] [(0, some (bx (jY (A3.mk (jC (a0 * k)) (jC (a1 * k)) (jC a2)))))] mo (wM <| wM <| wE (uJ uP 1) <| wR (kA jS) <| wR (kA jS) <| wE (kC (f_mul (jC a1) (jC k) a1 k (kH (kL ha1) (by decide)) (kH (kL hk) (by decide)))) <| wE (uJ uP 1) <| wT (kR jS) <| wZ) ?_
 refine kx [(6, (kE 2))] [] (zE (qQ 2 (hr := by decide)) <| zM <| zZ) ?_
 refine jJ (jZ.refl _) ?_
 refine jA <| kx [(7, (vb true))] [] (zE (qY true qS) <| zZ) ?_
 refine jA <| kD ?_
 refine jD <| jA <| jE <| jA <| kx [(5, (kE 2))] [] (zM <| zM <| zZ) ?_
 refine kd [] [(0, some (bx (jY (A3.mk (jC (a0 * k)) (jC (a1 * k)) (jC (a2 * k))))))] mo (wM <| wM <| wE (uJ uP 2) <| wR (kA jS) <| wR (kA jS) <| wE (kC (f_mul (jC a2) (jC k) a2 k (kH (kL ha2) (by decide)) (kH (kL hk) (by decide)))) <| wE (uJ uP 2) <| wT (kR jS) <| wZ) ?_
 refine kx [(6, (kE 3))] [] (zE (qQ 3 (hr := by decide)) <| zM <| zZ) ?_
 refine jJ (jZ.refl _) ?_
 refine jA <| kX (wk (l := [(2, (.ref 0 0)), (3, (.ref 1 0)), (4, (.ref 2 0)), (6, (kE 3))]) (b := [(0, some (bx (jY (A3.mk (jC (a0 * k)) (jC (a1 * k)) (jC (a2 * k)))))), (1, some (bx (jO (jC k)))), (2, some (bx (jY (A3.mk y1 y1 y1))))])) ?_
 refine kx [(7, (vb false))] [] (zE (qY false qS) <| zZ) ?_
 refine jA <| kO ?_
 refine kQ <| jA <| kx [] [(2, some (bx (jY (A3.mk (jC (a0 * k)) (jC (a1 * k)) (jC (a2 * k))))))] (zR (kA uN) <| zT (kR uN) <| zZ) ?_
 refine jG ⟨_, (qB (cs := (bx (jY (A3.mk (jC (a0 * k)) (jC (a1 * k)) (jC (a2 * k)))))) (d := (jY (A3.mk (jC (a0 * k)) (jC (a1 * k)) (jC (a2 * k))))) rfl rfl uN rfl rfl .nil), ?_⟩
 rfl
theorem q_sum (a0 a1 a2 : Rat) (ha0 : QL a0 1000000000) (ha1 : QL a1 1000000000) (ha2 : QL a2 1000000000) (b0 b1 b2 : Rat) (hb0 : QL b0 1000000000) (hb1 : QL b1 1000000000) (hb2 : QL b2 1000000000) : kF Tryz.prog 106 [(jY (A3.mk (jC a0) (jC a1) (jC a2))), (jY (A3.mk (jC b0) (jC b1) (jC b2)))] (jY (A3.mk (jC (a0 + b0)) (jC (a1 + b1)) (jC (a2 + b2)))) := by
 let y1 := (kG.mk (jF.mk false []) (jF.mk false []))
 refine jL Tryz.func106 rfl cb106 rfl ?_
 show uK _ _ _ _ ⟨[(0, (.d (jY (A3.mk (jC a0) (jC a1) (jC a2))))), (1, (.d (jY (A3.mk (jC b0) (jC b1) (jC b2)))))], []⟩
 refine jA <| kx [(2, (.ref 0 0)), (3, (.ref 1 0)), (4, (.ref 2 0))] [(0, some (bx (jY (A3.mk (jC a0) (jC a1) (jC a2))))), (1, some (bx (jY (A3.mk (jC b0) (jC b1) (jC b2))))), (2, some (bx (jY (A3.mk y1 y1 y1))))] (zN (uX 0) <| zN (uX 1) <| zN (qH 2 cH cG) <| zZ) ?_
 refine jA <| jA <| kx [(6, (kE 0))] [] (zM <| zZ) ?_
 refine jE <| qE 20 ?_
 refine qK <| jA <| kx [(7, (vb true))] [] (zE (qY true qS) <| zZ) ?_
 refine jA <| kD ?_
 refine jD <| jA <| jE <| jA <| kx [(5, (kE 0))] [] (zM <| zM <| zZ) ?_
 refine kd [] [(0, some (bx (jY (A3.mk (jC (a0 + b0)) (jC a1) (jC a2)))))] mo (wM <| wM <| wE (uJ uP 0) <| wR (kA jS) <| wM <| wE (uJ uP 0) <| wR (kA jS) <| wE (kC (f_add (jC a0) (jC b0) a0 b0 (kH (kL ha0) (by decide)) (kH (kL hb0) (by decide)))) <| wE (uJ uP 0) <| wT (kR jS) <| wZ) ?_
 refine kx [(6, (kE 1))] [] (zE (qQ 1 (hr := by decide)) <| zM <| zZ) ?_
 refine jJ (jZ.refl _) ?_
 refine jA <| kx [(7, (vb true))] [] (zE (qY true qS) <| zZ) ?_
 refine jA <| kD ?_
 refine jD <| jA <| jE <| jA <| kx [(5, (kE 1))] [] (zM <| zM <| zZ) ?_
 refine kd [] [(0, some (bx (jY (A3.mk (jC (a0 + b0)) (jC (a1 + b1)) (jC a2)))))] mo (wM <| wM <| wE (uJ uP 1) <| wR (kA jS) <| wM <| wE (uJ uP 1) <| wR (kA jS) <| wE (kC (f_add (jC a1) (jC b1) a1 b1 (kH (kL ha1) (by decide)) (kH (kL hb1) (by decide)))) <| wE (uJ uP 1) <| wT (kR jS) <| wZ) ?_
 refine kx [(6, (kE 2))] [] (zE (qQ 2 (hr := by decide)) <| zM <| zZ) ?_
 refine jJ (jZ.refl _) ?_
 refine jA <| kx [(7, (vb true))] [] (zE (qY true qS) <| zZ) ?_
 refine jA <| kD ?_
 refine jD <| jA <| jE <| jA <| kx [(5, (kE 2))] [] (zM <| zM <| zZ) ?_
 refine kd [] [(0, some (bx (jY (A3.mk (jC (a0 + b0)) (jC (a1 + b1)) (jC (a2 + b2))))))] mo (wM <| wM <| wE (uJ uP 2) <| wR (kA jS) <| wM <| wE (uJ uP 2) <| wR (kA jS) <| wE (kC (f_add (jC a2) (jC b2) a2 b2 (kH (kL ha2) (by decide)) (kH (kL hb2) (by decide)))) <| wE (uJ uP 2) <| wT (kR jS) <| wZ) ?_
 refine kx [(6, (kE 3))] [] (zE (qQ 3 (hr := by decide)) <| zM <| zZ) ?_
 refine jJ (jZ.refl _) ?_
 refine jA <| kX (wk (l := [(2, (.ref 0 0)), (3, (.ref 1 0)), (4, (.ref 2 0)), (6, (kE 3))]) (b := [(0, some (bx (jY (A3.mk (jC (a0 + b0)) (jC (a1 + b1)) (jC (a2 + b2)))))), (1, some (bx (jY (A3.mk (jC b0) (jC b1) (jC b2))))), (2, some (bx (jY (A3.mk y1 y1 y1))))])) ?_
 refine kx [(7, (vb false))] [] (zE (qY false qS) <| zZ) ?_
 refine jA <| kO ?_
 refine kQ <| jA <| kx [] [(2, some (bx (jY (A3.mk (jC (a0 + b0)) (jC (a1 + b1)) (jC (a2 + b2))))))] (zR (kA uN) <| zT (kR uN) <| zZ) ?_
 refine jG ⟨_, (qB (cs := (bx (jY (A3.mk (jC (a0 + b0)) (jC (a1 + b1)) (jC (a2 + b2)))))) (d := (jY (A3.mk (jC (a0 + b0)) (jC (a1 + b1)) (jC (a2 + b2))))) rfl rfl uN rfl rfl .nil), ?_⟩
 rfl
theorem qs_whole (x : Int) (hxl : -9223372036854775808 ≤ x) (hxh : x ≤ 9223372036854775807) (y : Int) (hyl : -9223372036854775808 ≤ y) (hyh : y ≤ 9223372036854775807) (z : Int) (hzl : -9223372036854775808 ≤ z) (hzh : z ≤ 9223372036854775807) : kF Tryz.prog 38 [(.val (.int .i64 (x))), (.val (.int .i64 (y))), (.val (.int .i64 (z)))] (jY (A3.mk (jC ((x : Int) : Rat)) (jC ((y : Int) : Rat)) (jC ((z : Int) : Rat)))) := by
 refine jL Tryz.func38 rfl cb38 rfl ?_
 show uK _ _ _ _ ⟨[(0, (vi x)), (1, (vi y)), (2, (vi z))], []⟩
 refine jA <| kx [(6, (.ref 0 0))] [(0, some (bx (jY (A3.mk (kG.mk (jF.mk false []) (jF.mk false [])) (kG.mk (jF.mk false []) (jF.mk false [])) (kG.mk (jF.mk false []) (jF.mk false []))))))] (zN (qH 0 iE bV) <| zZ) ?_
 refine jA ?_
 have bn1 : QL ((x : Int) : Rat) 3 := (qC (z := x) (jU (by omega) (by omega)) (by decide))
 have bn2 : QL ((y : Int) : Rat) 3 := (qC (z := y) (jU (by omega) (by omega)) (by decide))
 have bn3 : QL ((z : Int) : Rat) 3 := (qC (z := z) (jU (by omega) (by omega)) (by decide))
 refine kx [] [(0, some (bx (jY (A3.mk (jC ((x : Int) : Rat)) (jC ((y : Int) : Rat)) (jC ((z : Int) : Rat))))))] (zM <| zE (kC (mJ x (by omega) (by omega))) <| zM <| zE (kC (mJ y (by omega) (by omega))) <| zM <| zE (kC (mJ z (by omega) (by omega))) <| zE (oBf gM iE bV) <| zT (kR xR) <| zZ) ?_
 refine jG ⟨_, (qB (cs := (bx (jY (A3.mk (jC ((x : Int) : Rat)) (jC ((y : Int) : Rat)) (jC ((z : Int) : Rat)))))) (d := (jY (A3.mk (jC ((x : Int) : Rat)) (jC ((y : Int) : Rat)) (jC ((z : Int) : Rat))))) rfl rfl xR rfl rfl .nil), ?_⟩
 rfl
theorem qs_dot (a0 a1 a2 : Rat) (ha0 : QL a0 100000000) (ha1 : QL a1 100000000) (ha2 : QL a2 100000000) (b0 b1 b2 : Rat) (hb0 : QL b0 100000000) (hb1 : QL b1 100000000) (hb2 : QL b2 100000000) : kF Tryz.prog 22 [(jY (A3.mk (jC a0) (jC a1) (jC a2))), (jY (A3.mk (jC b0) (jC b1) (jC b2)))] (jO (jC (jM a0 a1 a2 b0 b1 b2))) := by
 refine jL Tryz.func22 rfl cb22 rfl ?_
 show uK _ _ _ _ ⟨[(0, (.d (jY (A3.mk (jC a0) (jC a1) (jC a2))))), (1, (.d (jY (A3.mk (jC b0) (jC b1) (jC b2)))))], []⟩
 refine jA <| kx [(2, (.ref 0 0)), (3, (.ref 1 0)), (4, (.ref 2 0))] [(0, some (bx (jY (A3.mk (jC a0) (jC a1) (jC a2))))), (1, some (bx (jY (A3.mk (jC b0) (jC b1) (jC b2))))), (2, some (bx (jO (kG.mk (jF.mk false []) (jF.mk false [])))))] (zN (uX 0) <| zN (uX 1) <| zN (qH 2 qM qR) <| zZ) ?_
 refine jA ?_
 have bn1 : QL (jM a0 a1 a2 b0 b1 b2) 600000002 := (jR (n := 100000000) (k := 600000002) ha0 ha1 ha2 hb0 hb1 hb2 (by decide))
 refine kd [(5, (.ref 3 0))] [(3, some (bx (jO (jC (jM a0 a1 a2 b0 b1 b2)))))] mo (wE (e_slv (by exact rfl) gM (by exact rfl) (by kernel_rfl) (by kernel_rfl)) <| wE (e_slv (by exact rfl) gM (by exact rfl) (by kernel_rfl) (by kernel_rfl)) <| wC (oCg [(0, (qF.cells (jY (A3.mk (jC a0) (jC a1) (jC a2))))), (1, (qF.cells (jY (A3.mk (jC b0) (jC b1) (jC b2)))))] [(.view 0 0 3), (.view 1 0 3)] (q_dotL 1000000 a0 a1 a2 ha0 ha1 ha2 1000000 b0 b1 b2 hb0 hb1 hb2) (.v (es := List.map jO [(jC a0), (jC a1), (jC a2)]) (.head _) (xZ _ _ (fun _ => rfl)) (by kernel_rfl) (by kernel_rfl) (.v (es := List.map jO [(jC b0), (jC b1), (jC b2)]) (.tail _ (.head _)) (xZ _ _ (fun _ => rfl)) (by kernel_rfl) (by kernel_rfl) .nil)) (.tup (nG (avo_encR (by decide) _) (nG (.val _) avo_nil)))) <| wM <| wE uH <| wE uH <| wN (qH 3 qM qR) <| wT (kR jS) <| wM <| wZ) ?_
 refine jA <| kx [] [(2, some (bx (jO (jC (jM a0 a1 a2 b0 b1 b2)))))] (zR (kA jS) <| zT (kR jS) <| zZ) ?_
 refine jG ⟨_, (qB (cs := (bx (jO (jC (jM a0 a1 a2 b0 b1 b2))))) (d := (jO (jC (jM a0 a1 a2 b0 b1 b2)))) rfl rfl jS rfl rfl .nil), ?_⟩
 rfl
theorem qs_cross (a0 a1 a2 : Rat) (ha0 : QL a0 100000000) (ha1 : QL a1 100000000) (ha2 : QL a2 100000000) (b0 b1 b2 : Rat) (hb0 : QL b0 100000000) (hb1 : QL b1 100000000) (hb2 : QL b2 100000000) : kF Tryz.prog 78 [(jY (A3.mk (jC a0) (jC a1) (jC a2))), (jY (A3.mk (jC b0) (jC b1) (jC b2)))] (jY (A3.mk (jC ((a1 * b2) - (a2 * b1))) (jC ((a2 * b0) - (a0 * b2))) (jC ((a0 * b1) - (a1 * b0))))) := by
 let y2 := (kG.mk (jF.mk false []) (jF.mk false []))
 let y1 := (bx (jY (A3.mk y2 y2 y2)))
 refine jL Tryz.func78 rfl cb78 rfl ?_
 show uK _ _ _ _ ⟨[(0, (.d (jY (A3.mk (jC a0) (jC a1) (jC a2))))), (1, (.d (jY (A3.mk (jC b0) (jC b1) (jC b2)))))], []⟩
 refine jA <| kx [(2, (.ref 0 0)), (3, (.ref 1 0)), (4, (.ref 2 0))] [(0, some (bx (jY (A3.mk (jC a0) (jC a1) (jC a2))))), (1, some (bx (jY (A3.mk (jC b0) (jC b1) (jC b2))))), (2, some y1)] (zN (uX 0) <| zN (uX 1) <| zN (qH 2 iE bV) <| zZ) ?_
 refine jA <| kx [(5, (.ref 3 0))] [(3, some y1)] (zE (oBa gM iE bV) <| zN (qH 3 iE bV) <| zT (kR xR) <| zZ) ?_
 refine jA <| jA <| kx [(10, (kE 0))] [] (zM <| zZ) ?_
 refine jE <| qE 20 ?_
 refine qK <| jA <| kx [(11, (vb true))] [] (zE (qY true qS) <| zZ) ?_
 refine jA <| kD ?_
 refine jD <| jA <| jE <| jA <| kx [(6, (kE 0))] [] (zM <| zM <| zZ) ?_
 refine jA <| kx [(7, (kE 1)), (8, (kE 2))] [] (zM <| zE (qQ 1 (hr := by decide)) <| zE (aI 1 (hr := by decide)) <| zM <| zE (qQ 2 (hr := by decide)) <| zE (aI 2 (hr := by decide)) <| zM <| zM <| zZ) ?_
 have bn1 : QL ((a1 * b2) - (a2 * b1)) 400000001 := (qZ (k := 400000001) (jV (k := 200000000) ha1 hb2 (by decide)) (jV (k := 200000000) ha2 hb1 (by decide)) (by decide))
 refine kd [] [(3, some (bx (jY (A3.mk (jC ((a1 * b2) - (a2 * b1))) y2 y2))))] mo (wM <| wM <| wE (uJ gM 1) <| wR (kA jS) <| wM <| wE (uJ gM 2) <| wR (kA jS) <| wE (kC (g_mul (jC a1) (jC b2) a1 b2 (kH (kL ha1) (by decide)) (kH (kL hb2) (by decide)))) <| wM <| wE (uJ gM 2) <| wR (kA jS) <| wM <| wE (uJ gM 1) <| wR (kA jS) <| wE (kC (g_mul (jC a2) (jC b1) a2 b1 (kH (kL ha2) (by decide)) (kH (kL hb1) (by decide)))) <| wE (kC (g_sub (jC (a1 * b2)) (jC (a2 * b1)) (a1 * b2) (a2 * b1) (kH (kL (jV (k := 200000000) ha1 hb2 (by decide))) (by decide)) (kH (kL (jV (k := 200000000) ha2 hb1 (by decide))) (by decide)))) <| wE (uJ gM 0) <| wT (kR jS) <| wZ) ?_
 refine kx [(10, (kE 1))] [] (zE (qQ 1 (hr := by decide)) <| zM <| zZ) ?_
 refine jJ (jZ.refl _) ?_
 refine jA <| kx [(11, (vb true))] [] (zE (qY true qS) <| zZ) ?_
 refine jA <| kD ?_
 refine jD <| jA <| jE <| jA <| kx [(6, (kE 1))] [] (zM <| zM <| zZ) ?_
 refine jA <| kx [(7, (kE 2)), (8, (kE 0))] [] (zM <| zE (qQ 2 (hr := by decide)) <| zE (aI 2 (hr := by decide)) <| zM <| zE (qQ 3 (hr := by decide)) <| zE (aI 0 (hr := by decide)) <| zM <| zM <| zZ) ?_
 have bn2 : QL ((a2 * b0) - (a0 * b2)) 400000001 := (qZ (k := 400000001) (jV (k := 200000000) ha2 hb0 (by decide)) (jV (k := 200000000) ha0 hb2 (by decide)) (by decide))
 refine kd [] [(3, some (bx (jY (A3.mk (jC ((a1 * b2) - (a2 * b1))) (jC ((a2 * b0) - (a0 * b2))) y2))))] mo (wM <| wM <| wE (uJ gM 2) <| wR (kA jS) <| wM <| wE (uJ gM 0) <| wR (kA jS) <| wE (kC (g_mul (jC a2) (jC b0) a2 b0 (kH (kL ha2) (by decide)) (kH (kL hb0) (by decide)))) <| wM <| wE (uJ gM 0) <| wR (kA jS) <| wM <| wE (uJ gM 2) <| wR (kA jS) <| wE (kC (g_mul (jC a0) (jC b2) a0 b2 (kH (kL ha0) (by decide)) (kH (kL hb2) (by decide)))) <| wE (kC (g_sub (jC (a2 * b0)) (jC (a0 * b2)) (a2 * b0) (a0 * b2) (kH (kL (jV (k := 200000000) ha2 hb0 (by decide))) (by decide)) (kH (kL (jV (k := 200000000) ha0 hb2 (by decide))) (by decide)))) <| wE (uJ gM 1) <| wT (kR jS) <| wZ) ?_
 refine kx [(10, (kE 2))] [] (zE (qQ 2 (hr := by decide)) <| zM <| zZ) ?_
 refine jJ (jZ.refl _) ?_
 refine jA <| kx [(11, (vb true))] [] (zE (qY true qS) <| zZ) ?_
 refine jA <| kD ?_
 refine jD <| jA <| jE <| jA <| kX (wk (l := [(2, (.ref 0 0)), (3, (.ref 1 0)), (4, (.ref 2 0)), (5, (.ref 3 0)), (10, (kE 2)), (11, (vb true))]) (b := [(0, some (bx (jY (A3.mk (jC a0) (jC a1) (jC a2))))), (1, some (bx (jY (A3.mk (jC b0) (jC b1) (jC b2))))), (2, some y1), (3, some (bx (jY (A3.mk (jC ((a1 * b2) - (a2 * b1))) (jC ((a2 * b0) - (a0 * b2))) y2))))])) ?_
 refine kx [(6, (kE 2))] [] (zM <| zM <| zZ) ?_
 refine jA <| kx [(7, (kE 0)), (8, (kE 1))] [] (zM <| zE (qQ 3 (hr := by decide)) <| zE (aI 0 (hr := by decide)) <| zM <| zE (qQ 4 (hr := by decide)) <| zE (aI 1 (hr := by decide)) <| zM <| zM <| zZ) ?_
 have bn3 : QL ((a0 * b1) - (a1 * b0)) 400000001 := (qZ (k := 400000001) (jV (k := 200000000) ha0 hb1 (by decide)) (jV (k := 200000000) ha1 hb0 (by decide)) (by decide))
 refine kd [] [(3, some (bx (jY (A3.mk (jC ((a1 * b2) - (a2 * b1))) (jC ((a2 * b0) - (a0 * b2))) (jC ((a0 * b1) - (a1 * b0)))))))] mo (wM <| wM <| wE (uJ gM 0) <| wR (kA jS) <| wM <| wE (uJ gM 1) <| wR (kA jS) <| wE (kC (g_mul (jC a0) (jC b1) a0 b1 (kH (kL ha0) (by decide)) (kH (kL hb1) (by decide)))) <| wM <| wE (uJ gM 1) <| wR (kA jS) <| wM <| wE (uJ gM 0) <| wR (kA jS) <| wE (kC (g_mul (jC a1) (jC b0) a1 b0 (kH (kL ha1) (by decide)) (kH (kL hb0) (by decide)))) <| wE (kC (g_sub (jC (a0 * b1)) (jC (a1 * b0)) (a0 * b1) (a1 * b0) (kH (kL (jV (k := 200000000) ha0 hb1 (by decide))) (by decide)) (kH (kL (jV (k := 200000000) ha1 hb0 (by decide))) (by decide)))) <| wE (uJ gM 2) <| wT (kR jS) <| wZ) ?_
 refine kx [(10, (kE 3))] [] (zE (qQ 3 (hr := by decide)) <| zM <| zZ) ?_
 refine jJ (jZ.refl _) ?_
 refine jA <| kx [(11, (vb false))] [] (zE (qY false qS) <| zZ) ?_
 refine jA <| kO ?_
 refine kQ <| jA <| kx [] [(2, some (bx (jY (A3.mk (jC ((a1 * b2) - (a2 * b1))) (jC ((a2 * b0) - (a0 * b2))) (jC ((a0 * b1) - (a1 * b0)))))))] (zR (kA xR) <| zT (kR xR) <| zZ) ?_
 refine jG ⟨_, (qB (cs := (bx (jY (A3.mk (jC ((a1 * b2) - (a2 * b1))) (jC ((a2 * b0) - (a0 * b2))) (jC ((a0 * b1) - (a1 * b0))))))) (d := (jY (A3.mk (jC ((a1 * b2) - (a2 * b1))) (jC ((a2 * b0) - (a0 * b2))) (jC ((a0 * b1) - (a1 * b0)))))) rfl rfl xR rfl rfl .nil), ?_⟩
 rfl
theorem cD (a0 a1 a2 : Rat) (ha0 : QL a0 100000000) (ha1 : QL a1 100000000) (ha2 : QL a2 100000000) (k : Rat) (hk : QL k 100000000) : kF Tryz.prog 45 [(jY (A3.mk (jC a0) (jC a1) (jC a2))), (jO (jC k))] (jY (A3.mk (jC (a0 * k)) (jC (a1 * k)) (jC (a2 * k)))) := by
 let y1 := (kG.mk (jF.mk false []) (jF.mk false []))
 refine jL Tryz.func45 rfl cb45 rfl ?_
 show uK _ _ _ _ ⟨[(0, (.d (jY (A3.mk (jC a0) (jC a1) (jC a2))))), (1, (.d (jO (jC k))))], []⟩
 refine jA <| kx [(2, (.ref 0 0)), (3, (.ref 1 0)), (4, (.ref 2 0))] [(0, some (bx (jY (A3.mk (jC a0) (jC a1) (jC a2))))), (1, some (bx (jO (jC k)))), (2, some (bx (jY (A3.mk y1 y1 y1))))] (zN (uX 0) <| zN (uX 1) <| zN (qH 2 iE bV) <| zZ) ?_
 refine jA <| jA <| kx [(6, (kE 0))] [] (zM <| zZ) ?_
 refine jE <| qE 20 ?_
 refine qK <| jA <| kx [(7, (vb true))] [] (zE (qY true qS) <| zZ) ?_
 refine jA <| kD ?_
 refine jD <| jA <| jE <| jA <| kx [(5, (kE 0))] [] (zM <| zM <| zZ) ?_
 refine kd [] [(0, some (bx (jY (A3.mk (jC (a0 * k)) (jC a1) (jC a2)))))] mo (wM <| wM <| wE (uJ gM 0) <| wR (kA jS) <| wR (kA jS) <| wE (kC (g_mul (jC a0) (jC k) a0 k (kH (kL ha0) (by decide)) (kH (kL hk) (by decide)))) <| wE (uJ gM 0) <| wT (kR jS) <| wZ) ?_
 refine kx [(6, (kE 1))] [] (zE (qQ 1 (hr := by decide)) <| zM <| zZ) ?_
 refine jJ (jZ.refl _) ?_
 refine jA <| kx [(7, (vb true))] [] (zE (qY true qS) <| zZ) ?_
 refine jA <| kD ?_
 refine jD <| jA <| jE <| jA <| kx [(5, (kE 1))] [] (zM <| zM <| zZ) ?_
 refine kd [] [(0, some (bx (jY (A3.mk (jC (a0 * k)) (jC (a1 * k)) (jC a2)))))] mo (wM <| wM <| wE (uJ gM 1) <| wR (kA jS) <| wR (kA jS) <| wE (kC (g_mul (jC a1) (jC k) a1 k (kH (kL ha1) (by decide)) (kH (kL hk) (by decide)))) <| wE (uJ gM 1) <| wT (kR jS) <| wZ) ?_
 refine kx [(6, (kE 2))] [] (zE (qQ 2 (hr := by decide)) <| zM <| zZ) ?_
 refine jJ (jZ.refl _) ?_
 refine jA <| kx [(7, (vb true))] [] (zE (qY true qS) <| zZ) ?_
 refine jA <| kD ?_
 refine jD <| jA <| jE <| jA <| kx [(5, (kE 2))] [] (zM <| zM <| zZ) ?_
 refine kd [] [(0, some (bx (jY (A3.mk (jC (a0 * k)) (jC (a1 * k)) (jC (a2 * k))))))] mo (wM <| wM <| wE (uJ gM 2) <| wR (kA jS) <| wR (kA jS) <| wE (kC (g_mul (jC a2) (jC k) a2 k (kH (kL ha2) (by decide)) (kH (kL hk) (by decide)))) <| wE (uJ gM 2) <| wT (kR jS) <| wZ) ?_
 refine kx [(6, (kE 3))] [] (zE (qQ 3 (hr := by decide)) <| zM <| zZ) ?_
 refine jJ (jZ.refl _) ?_
 refine jA <| kX (wk (l := [(2, (.ref 0 0)), (3, (.ref 1 0)), (4, (.ref 2 0)), (6, (kE 3))]) (b := [(0, some (bx (jY (A3.mk (jC (a0 * k)) (jC (a1 * k)) (jC (a2 * k)))))), (1, some (bx (jO (jC k)))), (2, some (bx (jY (A3.mk y1 y1 y1))))])) ?_
 refine kx [(7, (vb false))] [] (zE (qY false qS) <| zZ) ?_
 refine jA <| kO ?_
 refine kQ <| jA <| kx [] [(2, some (bx (jY (A3.mk (jC (a0 * k)) (jC (a1 * k)) (jC (a2 * k))))))] (zR (kA xR) <| zT (kR xR) <| zZ) ?_
 refine jG ⟨_, (qB (cs := (bx (jY (A3.mk (jC (a0 * k)) (jC (a1 * k)) (jC (a2 * k)))))) (d := (jY (A3.mk (jC (a0 * k)) (jC (a1 * k)) (jC (a2 * k))))) rfl rfl xR rfl rfl .nil), ?_⟩
 rfl
theorem qs_sum (a0 a1 a2 : Rat) (ha0 : QL a0 1000000000) (ha1 : QL a1 1000000000) (ha2 : QL a2 1000000000) (b0 b1 b2 : Rat) (hb0 : QL b0 1000000000) (hb1 : QL b1 1000000000) (hb2 : QL b2 1000000000) : kF Tryz.prog 44 [(jY (A3.mk (jC a0) (jC a1) (jC a2))), (jY (A3.mk (jC b0) (jC b1) (jC b2)))] (jY (A3.mk (jC (a0 + b0)) (jC (a1 + b1)) (jC (a2 + b2)))) := by
 let y1 := (kG.mk (jF.mk false []) (jF.mk false []))
 refine jL Tryz.func44 rfl cb44 rfl ?_
 show uK _ _ _ _ ⟨[(0, (.d (jY (A3.mk (jC a0) (jC a1) (jC a2))))), (1, (.d (jY (A3.mk (jC b0) (jC b1) (jC b2)))))], []⟩
 refine jA <| kx [(2, (.ref 0 0)), (3, (.ref 1 0)), (4, (.ref 2 0))] [(0, some (bx (jY (A3.mk (jC a0) (jC a1) (jC a2))))), (1, some (bx (jY (A3.mk (jC b0) (jC b1) (jC b2))))), (2, some (bx (jY (A3.mk y1 y1 y1))))] (zN (uX 0) <| zN (uX 1) <| zN (qH 2 iE bV) <| zZ) ?_
 refine jA <| jA <| kx [(6, (kE 0))] [] (zM <| zZ) ?_
 refine jE <| qE 20 ?_
 refine qK <| jA <| kx [(7, (vb true))] [] (zE (qY true qS) <| zZ) ?_
 refine jA <| kD ?_
 refine jD <| jA <| jE <| jA <| kx [(5, (kE 0))] [] (zM <| zM <| zZ) ?_
 refine kd [] [(0, some (bx (jY (A3.mk (jC (a0 + b0)) (jC a1) (jC a2)))))] mo (wM <| wM <| wE (uJ gM 0) <| wR (kA jS) <| wM <| wE (uJ gM 0) <| wR (kA jS) <| wE (kC (g_add (jC a0) (jC b0) a0 b0 (kH (kL ha0) (by decide)) (kH (kL hb0) (by decide)))) <| wE (uJ gM 0) <| wT (kR jS) <| wZ) ?_
 refine kx [(6, (kE 1))] [] (zE (qQ 1 (hr := by decide)) <| zM <| zZ) ?_
 refine jJ (jZ.refl _) ?_
 refine jA <| kx [(7, (vb true))] [] (zE (qY true qS) <| zZ) ?_
 refine jA <| kD ?_
 refine jD <| jA <| jE <| jA <| kx [(5, (kE 1))] [] (zM <| zM <| zZ) ?_
 refine kd [] [(0, some (bx (jY (A3.mk (jC (a0 + b0)) (jC (a1 + b1)) (jC a2)))))] mo (wM <| wM <| wE (uJ gM 1) <| wR (kA jS) <| wM <| wE (uJ gM 1) <| wR (kA jS) <| wE (kC (g_add (jC a1) (jC b1) a1 b1 (kH (kL ha1) (by decide)) (kH (kL hb1) (by decide)))) <| wE (uJ gM 1) <| wT (kR jS) <| wZ) ?_
 refine kx [(6, (kE 2))] [] (zE (qQ 2 (hr := by decide)) <| zM <| zZ) ?_
 refine jJ (jZ.refl _) ?_
 refine jA <| kx [(7, (vb true))] [] (zE (qY true qS) <| zZ) ?_
 refine jA <| kD ?_
 refine jD <| jA <| jE <| jA <| kx [(5, (kE 2))] [] (zM <| zM <| zZ) ?_
 refine kd [] [(0, some (bx (jY (A3.mk (jC (a0 + b0)) (jC (a1 + b1)) (jC (a2 + b2))))))] mo (wM <| wM <| wE (uJ gM 2) <| wR (kA jS) <| wM <| wE (uJ gM 2) <| wR (kA jS) <| wE (kC (g_add (jC a2) (jC b2) a2 b2 (kH (kL ha2) (by decide)) (kH (kL hb2) (by decide)))) <| wE (uJ gM 2) <| wT (kR jS) <| wZ) ?_
 refine kx [(6, (kE 3))] [] (zE (qQ 3 (hr := by decide)) <| zM <| zZ) ?_
 refine jJ (jZ.refl _) ?_
 refine jA <| kX (wk (l := [(2, (.ref 0 0)), (3, (.ref 1 0)), (4, (.ref 2 0)), (6, (kE 3))]) (b := [(0, some (bx (jY (A3.mk (jC (a0 + b0)) (jC (a1 + b1)) (jC (a2 + b2)))))), (1, some (bx (jY (A3.mk (jC b0) (jC b1) (jC b2))))), (2, some (bx (jY (A3.mk y1 y1 y1))))])) ?_
 refine kx [(7, (vb false))] [] (zE (qY false qS) <| zZ) ?_
 refine jA <| kO ?_
 refine kQ <| jA <| kx [] [(2, some (bx (jY (A3.mk (jC (a0 + b0)) (jC (a1 + b1)) (jC (a2 + b2))))))] (zR (kA xR) <| zT (kR xR) <| zZ) ?_
 refine jG ⟨_, (qB (cs := (bx (jY (A3.mk (jC (a0 + b0)) (jC (a1 + b1)) (jC (a2 + b2)))))) (d := (jY (A3.mk (jC (a0 + b0)) (jC (a1 + b1)) (jC (a2 + b2))))) rfl rfl xR rfl rfl .nil), ?_⟩
 rfl
theorem q_times (m00 m01 m02 m10 m11 m12 m20 m21 m22 : Rat) (hm00 : QL m00 100000000) (hm01 : QL m01 100000000) (hm02 : QL m02 100000000) (hm10 : QL m10 100000000) (hm11 : QL m11 100000000) (hm12 : QL m12 100000000) (hm20 : QL m20 100000000) (hm21 : QL m21 100000000) (hm22 : QL m22 100000000) (v0 v1 v2 : Rat) (hv0 : QL v0 100000000) (hv1 : QL v1 100000000) (hv2 : QL v2 100000000) : kF Tryz.prog 101 [(qU (A3.mk (A3.mk (jC m00) (jC m01) (jC m02)) (A3.mk (jC m10) (jC m11) (jC m12)) (A3.mk (jC m20) (jC m21) (jC m22)))), (jY (A3.mk (jC v0) (jC v1) (jC v2)))] (jY (A3.mk (jC (jM m00 m01 m02 v0 v1 v2)) (jC (jM m10 m11 m12 v0 v1 v2)) (jC (jM m20 m21 m22 v0 v1 v2)))) := by
 refine jL Tryz.func101 rfl cb101 rfl ?_
 show uK _ _ _ _ ⟨[(0, (.d (qU (A3.mk (A3.mk (jC m00) (jC m01) (jC m02)) (A3.mk (jC m10) (jC m11) (jC m12)) (A3.mk (jC m20) (jC m21) (jC m22)))))), (1, (.d (jY (A3.mk (jC v0) (jC v1) (jC v2)))))], []⟩
 refine jA <| kx [(2, (.ref 0 0)), (3, (.ref 1 0)), (4, (.ref 2 0))] [(0, some (bx (qU (A3.mk (A3.mk (jC m00) (jC m01) (jC m02)) (A3.mk (jC m10) (jC m11) (jC m12)) (A3.mk (jC m20) (jC m21) (jC m22)))))), (1, some (bx (jY (A3.mk (jC v0) (jC v1) (jC v2))))), (2, some (bx (jY (A3.mk (kG.mk (jF.mk false []) (jF.mk false [])) (kG.mk (jF.mk false []) (jF.mk false [])) (kG.mk (jF.mk false []) (jF.mk false []))))))] (zN (uX 0) <| zN (uX 1) <| zN (qH 2 cH cG) <| zZ) ?_
 refine jA ?_
 have bn1 : QL (jM m00 m01 m02 v0 v1 v2) 600000002 := (jR (n := 100000000) (k := 600000002) hm00 hm01 hm02 hv0 hv1 hv2 (by decide))
 have bn2 : QL (jM m10 m11 m12 v0 v1 v2) 600000002 := (jR (n := 100000000) (k := 600000002) hm10 hm11 hm12 hv0 hv1 hv2 (by decide))
 have bn3 : QL (jM m20 m21 m22 v0 v1 v2) 600000002 := (jR (n := 100000000) (k := 600000002) hm20 hm21 hm22 hv0 hv1 hv2 (by decide))
 refine kd [] [(2, some (bx (jY (A3.mk (jC (jM m00 m01 m02 v0 v1 v2)) (jC (jM m10 m11 m12 v0 v1 v2)) (jC (jM m20 m21 m22 v0 v1 v2))))))] mo (wE (uJ vY 0) <| wR (kA uN) <| wR (kA uN) <| wE (kC (q_dot m00 m01 m02 hm00 hm01 hm02 v0 v1 v2 hv0 hv1 hv2)) <| wE (uJ vY 1) <| wR (kA uN) <| wR (kA uN) <| wE (kC (q_dot m10 m11 m12 hm10 hm11 hm12 v0 v1 v2 hv0 hv1 hv2)) <| wE (uJ vY 2) <| wR (kA uN) <| wR (kA uN) <| wE (kC (q_dot m20 m21 m22 hm20 hm21 hm22 v0 v1 v2 hv0 hv1 hv2)) <| wE (oBf uP cH cG) <| wT (kR uN) <| wZ) ?_
 refine jG ⟨_, (qB (cs := (bx (jY (A3.mk (jC (jM m00 m01 m02 v0 v1 v2)) (jC (jM m10 m11 m12 v0 v1 v2)) (jC (jM m20 m21 m22 v0 v1 v2)))))) (d := (jY (A3.mk (jC (jM m00 m01 m02 v0 v1 v2)) (jC (jM m10 m11 m12 v0 v1 v2)) (jC (jM m20 m21 m22 v0 v1 v2))))) rfl rfl uN rfl rfl .nil), ?_⟩
 rfl
theorem fU (m00 m01 m02 m10 m11 m12 m20 m21 m22 : Rat) (hm00 : QL m00 100000000) (hm01 : QL m01 100000000) (hm02 : QL m02 100000000) (hm10 : QL m10 100000000) (hm11 : QL m11 100000000) (hm12 : QL m12 100000000) (hm20 : QL m20 100000000) (hm21 : QL m21 100000000) (hm22 : QL m22 100000000) (v0 v1 v2 : Rat) (hv0 : QL v0 100000000) (hv1 : QL v1 100000000) (hv2 : QL v2 100000000) : kF Tryz.prog 23 [(bJ (A3.mk (A3.mk (jC m00) (jC m01) (jC m02)) (A3.mk (jC m10) (jC m11) (jC m12)) (A3.mk (jC m20) (jC m21) (jC m22)))), (jY (A3.mk (jC v0) (jC v1) (jC v2)))] (jY (A3.mk (jC (jM m00 m01 m02 v0 v1 v2)) (jC (jM m10 m11 m12 v0 v1 v2)) (jC (jM m20 m21 m22 v0 v1 v2)))) := by
 refine jL Tryz.func23 rfl cb23 rfl ?_
 show uK _ _ _ _ ⟨[(0, (.d (bJ (A3.mk (A3.mk (jC m00) (jC m01) (jC m02)) (A3.mk (jC m10) (jC m11) (jC m12)) (A3.mk (jC m20) (jC m21) (jC m22)))))), (1, (.d (jY (A3.mk (jC v0) (jC v1) (jC v2)))))], []⟩
 refine jA <| kx [(2, (.ref 0 0)), (3, (.ref 1 0)), (4, (.ref 2 0))] [(0, some (bx (bJ (A3.mk (A3.mk (jC m00) (jC m01) (jC m02)) (A3.mk (jC m10) (jC m11) (jC m12)) (A3.mk (jC m20) (jC m21) (jC m22)))))), (1, some (bx (jY (A3.mk (jC v0) (jC v1) (jC v2))))), (2, some (bx (jY (A3.mk (kG.mk (jF.mk false []) (jF.mk false [])) (kG.mk (jF.mk false []) (jF.mk false [])) (kG.mk (jF.mk false []) (jF.mk false []))))))] (zN (uX 0) <| zN (uX 1) <| zN (qH 2 iE bV) <| zZ) ?_
 refine jA ?_
 have bn1 : QL (jM m00 m01 m02 v0 v1 v2) 600000002 := (jR (n := 100000000) (k := 600000002) hm00 hm01 hm02 hv0 hv1 hv2 (by decide))
 have bn2 : QL (jM m10 m11 m12 v0 v1 v2) 600000002 := (jR (n := 100000000) (k := 600000002) hm10 hm11 hm12 hv0 hv1 hv2 (by decide))
 have bn3 : QL (jM m20 m21 m22 v0 v1 v2) 600000002 := (jR (n := 100000000) (k := 600000002) hm20 hm21 hm22 hv0 hv1 hv2 (by decide))
 refine kd [] [(2, some (bx (jY (A3.mk (jC (jM m00 m01 m02 v0 v1 v2)) (jC (jM m10 m11 m12 v0 v1 v2)) (jC (jM m20 m21 m22 v0 v1 v2))))))] mo (wE (uJ ar45 0) <| wR (kA xR) <| wR (kA xR) <| wE (kC (qs_dot m00 m01 m02 hm00 hm01 hm02 v0 v1 v2 hv0 hv1 hv2)) <| wE (uJ ar45 1) <| wR (kA xR) <| wR (kA xR) <| wE (kC (qs_dot m10 m11 m12 hm10 hm11 hm12 v0 v1 v2 hv0 hv1 hv2)) <| wE (uJ ar45 2) <| wR (kA xR) <| wR (kA xR) <| wE (kC (qs_dot m20 m21 m22 hm20 hm21 hm22 v0 v1 v2 hv0 hv1 hv2)) <| wE (oBf gM iE bV) <| wT (kR xR) <| wZ) ?_
 refine jG ⟨_, (qB (cs := (bx (jY (A3.mk (jC (jM m00 m01 m02 v0 v1 v2)) (jC (jM m10 m11 m12 v0 v1 v2)) (jC (jM m20 m21 m22 v0 v1 v2)))))) (d := (jY (A3.mk (jC (jM m00 m01 m02 v0 v1 v2)) (jC (jM m10 m11 m12 v0 v1 v2)) (jC (jM m20 m21 m22 v0 v1 v2))))) rfl rfl xR rfl rfl .nil), ?_⟩
 rfl
theorem eM (m00 m01 m02 m10 m11 m12 m20 m21 m22 : Rat) (hm00 : QL m00 100000000) (hm01 : QL m01 100000000) (hm02 : QL m02 100000000) (hm10 : QL m10 100000000) (hm11 : QL m11 100000000) (hm12 : QL m12 100000000) (hm20 : QL m20 100000000) (hm21 : QL m21 100000000) (hm22 : QL m22 100000000) : kF Tryz.prog 72 [(qU (A3.mk (A3.mk (jC m00) (jC m01) (jC m02)) (A3.mk (jC m10) (jC m11) (jC m12)) (A3.mk (jC m20) (jC m21) (jC m22))))] (qU (A3.mk (A3.mk (jC m00) (jC m10) (jC m20)) (A3.mk (jC m01) (jC m11) (jC m21)) (A3.mk (jC m02) (jC m12) (jC m22)))) := by
 let y8 := (A3.mk (jC m00) (jC m10) (jC m20))
 let y7 := (kG.mk (jF.mk false []) (jF.mk false []))
 let y6 := (bx (qU (A3.mk (A3.mk (jC m00) (jC m01) (jC m02)) (A3.mk (jC m10) (jC m11) (jC m12)) (A3.mk (jC m20) (jC m21) (jC m22)))))
 let y5 := (A3.mk y7 y7 y7)
 let y4 := (bx (qU (A3.mk y8 (A3.mk (jC m01) (jC m11) (jC m21)) y5)))
 let y3 := (bx (qU (A3.mk y8 (A3.mk (jC m01) y7 y7) y5)))
 let y2 := (bx (qU (A3.mk (A3.mk (jC m00) (jC m10) y7) y5 y5)))
 let y1 := (bx (qU (A3.mk y5 y5 y5)))
 refine jL Tryz.func72 rfl cb72 rfl ?_
 show uK _ _ _ _ ⟨[(0, (.d (qU (A3.mk (A3.mk (jC m00) (jC m01) (jC m02)) (A3.mk (jC m10) (jC m11) (jC m12)) (A3.mk (jC m20) (jC m21) (jC m22))))))], []⟩
 refine jA <| kx [(1, (.ref 0 0)), (2, (.ref 1 0))] [(0, some y6), (1, some y1)] (zN (uX 0) <| zN (qH 1 eL eF) <| zZ) ?_
 refine jA <| kx [(3, (.ref 2 0))] [(2, some y1)] (zN (qH 2 eL eF) <| zZ) ?_
 refine jA <| jA <| kx [(6, (kE 0))] [] (zM <| zZ) ?_
 refine jE <| qE 20 ?_
 refine qK <| jA <| kx [(7, (vb true))] [] (zE (qY true qS) <| zZ) ?_
 refine jA <| kD ?_
 refine jD <| jA <| jE <| jA <| kx [(4, (kE 0))] [] (zM <| zM <| zZ) ?_
 refine jA <| kx [(9, (kE 0))] [] (zM <| zZ) ?_
 refine jE <| qE 20 ?_
 refine qK <| jA <| kx [(10, (vb true))] [] (zE (qY true qS) <| zZ) ?_
 refine jA <| kD ?_
 refine jD <| jA <| jE <| jA <| kx [(5, (kE 0))] [] (zM <| zM <| zZ) ?_
 refine kd [] [(2, some (bx (qU (A3.mk (A3.mk (jC m00) y7 y7) y5 y5))))] mo (wM <| wM <| wM <| wM <| wE (uJ vY 0) <| wE (uJ uP 0) <| wR (kA jS) <| wE (uJ vY 0) <| wE (uJ uP 0) <| wT (kR jS) <| wZ) ?_
 refine kx [(9, (kE 1))] [] (zE (qQ 1 (hr := by decide)) <| zM <| zZ) ?_
 refine jJ (jZ.refl _) ?_
 refine jA <| kx [(10, (vb true))] [] (zE (qY true qS) <| zZ) ?_
 refine jA <| kD ?_
 refine jD <| jA <| jE <| jA <| kx [(5, (kE 1))] [] (zM <| zM <| zZ) ?_
 refine kd [] [(2, some y2)] mo (wM <| wM <| wM <| wM <| wE (uJ vY 1) <| wE (uJ uP 0) <| wR (kA jS) <| wE (uJ vY 0) <| wE (uJ uP 1) <| wT (kR jS) <| wZ) ?_
 refine kx [(9, (kE 2))] [] (zE (qQ 2 (hr := by decide)) <| zM <| zZ) ?_
 refine jJ (jZ.refl _) ?_
 refine jA <| kX (wk (l := [(1, (.ref 0 0)), (2, (.ref 1 0)), (3, (.ref 2 0)), (4, (kE 0)), (6, (kE 0)), (9, (kE 2))]) (b := [(0, some y6), (1, some y1), (2, some y2)])) ?_
 refine kx [(10, (vb true))] [] (zE (qY true qS) <| zZ) ?_
 refine jA <| kD ?_
 refine jD <| jA <| jE <| jA <| kx [(5, (kE 2))] [] (zM <| zM <| zZ) ?_
 refine kd [] [(2, some (bx (qU (A3.mk y8 y5 y5))))] mo (wM <| wM <| wM <| wM <| wE (uJ vY 2) <| wE (uJ uP 0) <| wR (kA jS) <| wE (uJ vY 0) <| wE (uJ uP 2) <| wT (kR jS) <| wZ) ?_
 refine kx [(9, (kE 3))] [] (zE (qQ 3 (hr := by decide)) <| zM <| zZ) ?_
 refine jJ (jZ.refl _) ?_
 refine jA <| kx [(10, (vb false))] [] (zE (qY false qS) <| zZ) ?_
 refine jA <| kO ?_
 refine kQ <| kx [(6, (kE 1))] [] (zE (qQ 1 (hr := by decide)) <| zM <| zZ) ?_
 refine jJ (jZ.refl _) ?_
 refine jA <| kx [(7, (vb true))] [] (zE (qY true qS) <| zZ) ?_
 refine jA <| kD ?_
 refine jD <| jA <| jE <| jA <| kx [(4, (kE 1))] [] (zM <| zM <| zZ) ?_
 refine jA <| kx [(9, (kE 0))] [] (zM <| zZ) ?_
 refine jE <| qE 20 ?_
 refine qK <| jA <| kx [(10, (vb true))] [] (zE (qY true qS) <| zZ) ?_
 refine jA <| kD ?_
 refine jD <| jA <| jE <| jA <| kx [(5, (kE 0))] [] (zM <| zM <| zZ) ?_
 refine kd [] [(2, some y3)] mo (wM <| wM <| wM <| wM <| wE (uJ vY 0) <| wE (uJ uP 1) <| wR (kA jS) <| wE (uJ vY 1) <| wE (uJ uP 0) <| wT (kR jS) <| wZ) ?_
 refine kx [(9, (kE 1))] [] (zE (qQ 1 (hr := by decide)) <| zM <| zZ) ?_
 refine jJ (jZ.refl _) ?_
 refine jA <| kx [(10, (vb true))] [] (zE (qY true qS) <| zZ) ?_
 refine jA <| kD ?_
 refine jD <| jA <| jE <| jA <| kX (wk (l := [(1, (.ref 0 0)), (2, (.ref 1 0)), (3, (.ref 2 0)), (4, (kE 1)), (6, (kE 1)), (9, (kE 1)), (10, (vb true))]) (b := [(0, some y6), (1, some y1), (2, some y3)])) ?_
 refine kx [(5, (kE 1))] [] (zM <| zM <| zZ) ?_
 refine kd [] [(2, some (bx (qU (A3.mk y8 (A3.mk (jC m01) (jC m11) y7) y5))))] mo (wM <| wM <| wM <| wM <| wE (uJ vY 1) <| wE (uJ uP 1) <| wR (kA jS) <| wE (uJ vY 1) <| wE (uJ uP 1) <| wT (kR jS) <| wZ) ?_
 refine kx [(9, (kE 2))] [] (zE (qQ 2 (hr := by decide)) <| zM <| zZ) ?_
 refine jJ (jZ.refl _) ?_
 refine jA <| kx [(10, (vb true))] [] (zE (qY true qS) <| zZ) ?_
 refine jA <| kD ?_
 refine jD <| jA <| jE <| jA <| kx [(5, (kE 2))] [] (zM <| zM <| zZ) ?_
 refine kd [] [(2, some y4)] mo (wM <| wM <| wM <| wM <| wE (uJ vY 2) <| wE (uJ uP 1) <| wR (kA jS) <| wE (uJ vY 1) <| wE (uJ uP 2) <| wT (kR jS) <| wZ) ?_
 refine kx [(9, (kE 3))] [] (zE (qQ 3 (hr := by decide)) <| zM <| zZ) ?_
 refine jJ (jZ.refl _) ?_
 refine jA <| kx [(10, (vb false))] [] (zE (qY false qS) <| zZ) ?_
 refine jA <| kO ?_
 refine kQ <| kx [(6, (kE 2))] [] (zE (qQ 2 (hr := by decide)) <| zM <| zZ) ?_
 refine jJ (jZ.refl _) ?_
 refine jA <| kx [(7, (vb true))] [] (zE (qY true qS) <| zZ) ?_
 refine jA <| kD ?_
 refine jD <| jA <| jE <| jA <| kx [(4, (kE 2))] [] (zM <| zM <| zZ) ?_
 refine jA <| kx [(9, (kE 0))] [] (zM <| zZ) ?_
 refine jE <| qE 20 ?_
 refine qK <| jA <| kx [(10, (vb true))] [] (zE (qY true qS) <| zZ) ?_
 refine jA <| kD ?_
 refine jD <| jA <| jE <| jA <| kx [(5, (kE 0))] [] (zM <| zM <| zZ) ?_
 refine kX (wk (l := [(1, (.ref 0 0)), (2, (.ref 1 0)), (3, (.ref 2 0)), (4, (kE 2)), (5, (kE 0)), (6, (kE 2)), (9, (kE 0))]) (b := [(0, some y6), (1, some y1), (2, some y4)])) ?_
 refine kd [] [(2, some (bx (qU (A3.mk y8 (A3.mk (jC m01) (jC m11) (jC m21)) (A3.mk (jC m02) y7 y7)))))] mo (wM <| wM <| wM <| wM <| wE (uJ vY 0) <| wE (uJ uP 2) <| wR (kA jS) <| wE (uJ vY 2) <| wE (uJ uP 0) <| wT (kR jS) <| wZ) ?_
 refine kx [(9, (kE 1))] [] (zE (qQ 1 (hr := by decide)) <| zM <| zZ) ?_
 refine jJ (jZ.refl _) ?_
 refine jA <| kx [(10, (vb true))] [] (zE (qY true qS) <| zZ) ?_
 refine jA <| kD ?_
 refine jD <| jA <| jE <| jA <| kx [(5, (kE 1))] [] (zM <| zM <| zZ) ?_
 refine kd [] [(2, some (bx (qU (A3.mk y8 (A3.mk (jC m01) (jC m11) (jC m21)) (A3.mk (jC m02) (jC m12) y7)))))] mo (wM <| wM <| wM <| wM <| wE (uJ vY 1) <| wE (uJ uP 2) <| wR (kA jS) <| wE (uJ vY 2) <| wE (uJ uP 1) <| wT (kR jS) <| wZ) ?_
 refine kx [(9, (kE 2))] [] (zE (qQ 2 (hr := by decide)) <| zM <| zZ) ?_
 refine jJ (jZ.refl _) ?_
 refine jA <| kx [(10, (vb true))] [] (zE (qY true qS) <| zZ) ?_
 refine jA <| kD ?_
 refine jD <| jA <| jE <| jA <| kx [(5, (kE 2))] [] (zM <| zM <| zZ) ?_
 refine kd [] [(2, some (bx (qU (A3.mk y8 (A3.mk (jC m01) (jC m11) (jC m21)) (A3.mk (jC m02) (jC m12) (jC m22))))))] mo (wM <| wM <| wM <| wM <| wE (uJ vY 2) <| wE (uJ uP 2) <| wR (kA jS) <| wE (uJ vY 2) <| wE (uJ uP 2) <| wT (kR jS) <| wZ) ?_
 refine kx [(9, (kE 3))] [] (zE (qQ 3 (hr := by decide)) <| zM <| zZ) ?_
 refine jJ (jZ.refl _) ?_
 refine jA <| kx [(10, (vb false))] [] (zE (qY false qS) <| zZ) ?_
 refine jA <| kO ?_
 refine kQ <| kx [(6, (kE 3))] [] (zE (qQ 3 (hr := by decide)) <| zM <| zZ) ?_
 refine jJ (jZ.refl _) ?_
 refine jA <| kx [(7, (vb false))] [] (zE (qY false qS) <| zZ) ?_
 refine jA <| kO ?_
 refine kQ <| jA <| kx [] [(1, some (bx (qU (A3.mk y8 (A3.mk (jC m01) (jC m11) (jC m21)) (A3.mk (jC m02) (jC m12) (jC m22))))))] (zR (kA hC) <| zT (kR hC) <| zZ) ?_
 refine jG ⟨_, (qB (cs := (bx (qU (A3.mk (A3.mk (jC m00) (jC m10) (jC m20)) (A3.mk (jC m01) (jC m11) (jC m21)) (A3.mk (jC m02) (jC m12) (jC m22)))))) (d := (qU (A3.mk (A3.mk (jC m00) (jC m10) (jC m20)) (A3.mk (jC m01) (jC m11) (jC m21)) (A3.mk (jC m02) (jC m12) (jC m22))))) rfl rfl hC rfl rfl .nil), ?_⟩
 rfl
theorem q_mul (m00 m01 m02 m10 m11 m12 m20 m21 m22 : Rat) (hm00 : QL m00 10000000) (hm01 : QL m01 10000000) (hm02 : QL m02 10000000) (hm10 : QL m10 10000000) (hm11 : QL m11 10000000) (hm12 : QL m12 10000000) (hm20 : QL m20 10000000) (hm21 : QL m21 10000000) (hm22 : QL m22 10000000) (u00 u01 u02 u10 u11 u12 u20 u21 u22 : Rat) (hu00 : QL u00 10000000) (hu01 : QL u01 10000000) (hu02 : QL u02 10000000) (hu10 : QL u10 10000000) (hu11 : QL u11 10000000) (hu12 : QL u12 10000000) (hu20 : QL u20 10000000) (hu21 : QL u21 10000000) (hu22 : QL u22 10000000) : kF Tryz.prog 70 [(qU (A3.mk (A3.mk (jC m00) (jC m01) (jC m02)) (A3.mk (jC m10) (jC m11) (jC m12)) (A3.mk (jC m20) (jC m21) (jC m22)))), (qU (A3.mk (A3.mk (jC u00) (jC u01) (jC u02)) (A3.mk (jC u10) (jC u11) (jC u12)) (A3.mk (jC u20) (jC u21) (jC u22))))] (qU (A3.mk (A3.mk (jC (jM u00 u10 u20 m00 m01 m02)) (jC (jM u01 u11 u21 m00 m01 m02)) (jC (jM u02 u12 u22 m00 m01 m02))) (A3.mk (jC (jM u00 u10 u20 m10 m11 m12)) (jC (jM u01 u11 u21 m10 m11 m12)) (jC (jM u02 u12 u22 m10 m11 m12))) (A3.mk (jC (jM u00 u10 u20 m20 m21 m22)) (jC (jM u01 u11 u21 m20 m21 m22)) (jC (jM u02 u12 u22 m20 m21 m22))))) := by
 let y6 := (A3.mk (jC (jM u00 u10 u20 m00 m01 m02)) (jC (jM u01 u11 u21 m00 m01 m02)) (jC (jM u02 u12 u22 m00 m01 m02)))
 let y5 := (qU (A3.mk (A3.mk (jC m00) (jC m01) (jC m02)) (A3.mk (jC m10) (jC m11) (jC m12)) (A3.mk (jC m20) (jC m21) (jC m22))))
 let y4 := (A3.mk (kG.mk (jF.mk false []) (jF.mk false [])) (kG.mk (jF.mk false []) (jF.mk false [])) (kG.mk (jF.mk false []) (jF.mk false [])))
 let y3 := (bx (qU (A3.mk y6 (A3.mk (jC (jM u00 u10 u20 m10 m11 m12)) (jC (jM u01 u11 u21 m10 m11 m12)) (jC (jM u02 u12 u22 m10 m11 m12))) (A3.mk (jC (jM u00 u10 u20 m20 m21 m22)) (jC (jM u01 u11 u21 m20 m21 m22)) (jC (jM u02 u12 u22 m20 m21 m22))))))
 let y2 := (bx (qU (A3.mk y6 (A3.mk (jC (jM u00 u10 u20 m10 m11 m12)) (jC (jM u01 u11 u21 m10 m11 m12)) (jC (jM u02 u12 u22 m10 m11 m12))) y4)))
 let y1 := (bx (qU (A3.mk y4 y4 y4)))
 refine jL Tryz.func70 rfl cb70 rfl ?_
 show uK _ _ _ _ ⟨[(0, (.d y5)), (1, (.d (qU (A3.mk (A3.mk (jC u00) (jC u01) (jC u02)) (A3.mk (jC u10) (jC u11) (jC u12)) (A3.mk (jC u20) (jC u21) (jC u22))))))], []⟩
 refine jA <| kx [(2, (.ref 0 0)), (3, (.ref 1 0)), (4, (.ref 2 0))] [(0, some (bx y5)), (1, some (bx (qU (A3.mk (A3.mk (jC u00) (jC u01) (jC u02)) (A3.mk (jC u10) (jC u11) (jC u12)) (A3.mk (jC u20) (jC u21) (jC u22)))))), (2, some y1)] (zN (uX 0) <| zN (uX 1) <| zN (qH 2 eL eF) <| zZ) ?_
 refine jA <| kx [(5, (.ref 3 0))] [(3, some (bx (qU (A3.mk (A3.mk (jC u00) (jC u10) (jC u20)) (A3.mk (jC u01) (jC u11) (jC u21)) (A3.mk (jC u02) (jC u12) (jC u22))))))] (zR (kA hC) <| zE (kC (eM u00 u01 u02 u10 u11 u12 u20 u21 u22 (qu hu00) (qu hu01) (qu hu02) (qu hu10) (qu hu11) (qu hu12) (qu hu20) (qu hu21) (qu hu22))) <| zN (qH 3 eL eF) <| zT (kR hC) <| zZ) ?_
 refine jA <| kx [(6, (.ref 4 0))] [(4, some y1)] (zN (qH 4 eL eF) <| zZ) ?_
 refine jA <| jA <| kx [(10, (kE 0))] [] (zM <| zZ) ?_
 refine jE <| qE 20 ?_
 refine qK <| jA <| kx [(11, (vb true))] [] (zE (qY true qS) <| zZ) ?_
 refine jA <| kD ?_
 refine jD <| jA <| jE <| jA <| kx [(7, (kE 0))] [] (zM <| zM <| zZ) ?_
 have bn1 : QL (jM u00 u10 u20 m00 m01 m02) 60000002 := (jR (n := 10000000) (k := 60000002) hu00 hu10 hu20 hm00 hm01 hm02 (by decide))
 have bn2 : QL (jM u01 u11 u21 m00 m01 m02) 60000002 := (jR (n := 10000000) (k := 60000002) hu01 hu11 hu21 hm00 hm01 hm02 (by decide))
 have bn3 : QL (jM u02 u12 u22 m00 m01 m02) 60000002 := (jR (n := 10000000) (k := 60000002) hu02 hu12 hu22 hm00 hm01 hm02 (by decide))
 refine kd [] [(4, some (bx (qU (A3.mk y6 y4 y4))))] mo (wM <| wR (kA hC) <| wM <| wE (uJ vY 0) <| wR (kA uN) <| wE (kC (q_times u00 u10 u20 u01 u11 u21 u02 u12 u22 (qu hu00) (qu hu10) (qu hu20) (qu hu01) (qu hu11) (qu hu21) (qu hu02) (qu hu12) (qu hu22) m00 m01 m02 (qu hm00) (qu hm01) (qu hm02))) <| wE (uJ vY 0) <| wT (kR uN) <| wZ) ?_
 refine kx [(10, (kE 1))] [] (zE (qQ 1 (hr := by decide)) <| zM <| zZ) ?_
 refine jJ (jZ.refl _) ?_
 refine jA <| kx [(11, (vb true))] [] (zE (qY true qS) <| zZ) ?_
 refine jA <| kD ?_
 refine jD <| jA <| jE <| jA <| kx [(7, (kE 1))] [] (zM <| zM <| zZ) ?_
 have bn4 : QL (jM u00 u10 u20 m10 m11 m12) 60000002 := (jR (n := 10000000) (k := 60000002) hu00 hu10 hu20 hm10 hm11 hm12 (by decide))
 have bn5 : QL (jM u01 u11 u21 m10 m11 m12) 60000002 := (jR (n := 10000000) (k := 60000002) hu01 hu11 hu21 hm10 hm11 hm12 (by decide))
 have bn6 : QL (jM u02 u12 u22 m10 m11 m12) 60000002 := (jR (n := 10000000) (k := 60000002) hu02 hu12 hu22 hm10 hm11 hm12 (by decide))
 refine kd [] [(4, some y2)] mo (wM <| wR (kA hC) <| wM <| wE (uJ vY 1) <| wR (kA uN) <| wE (kC (q_times u00 u10 u20 u01 u11 u21 u02 u12 u22 (qu hu00) (qu hu10) (qu hu20) (qu hu01) (qu hu11) (qu hu21) (qu hu02) (qu hu12) (qu hu22) m10 m11 m12 (qu hm10) (qu hm11) (qu hm12))) <| wE (uJ vY 1) <| wT (kR uN) <| wZ) ?_
 refine kx [(10, (kE 2))] [] (zE (qQ 2 (hr := by decide)) <| zM <| zZ) ?_
 refine jJ (jZ.refl _) ?_
 refine jA <| kx [(11, (vb true))] [] (zE (qY true qS) <| zZ) ?_
 refine jA <| kD ?_
 refine jD <| jA <| jE <| jA <| kx [(7, (kE 2))] [] (zM <| zM <| zZ) ?_
 refine kX (wk (l := [(2, (.ref 0 0)), (4, (.ref 2 0)), (5, (.ref 3 0)), (6, (.ref 4 0)), (7, (kE 2)), (10, (kE 2))]) (b := [(0, some (bx y5)), (2, some y1), (3, some (bx (qU (A3.mk (A3.mk (jC u00) (jC u10) (jC u20)) (A3.mk (jC u01) (jC u11) (jC u21)) (A3.mk (jC u02) (jC u12) (jC u22)))))), (4, some y2)])) ?_
 have bn7 : QL (jM u00 u10 u20 m20 m21 m22) 60000002 := (jR (n := 10000000) (k := 60000002) hu00 hu10 hu20 hm20 hm21 hm22 (by decide))
 have bn8 : QL (jM u01 u11 u21 m20 m21 m22) 60000002 := (jR (n := 10000000) (k := 60000002) hu01 hu11 hu21 hm20 hm21 hm22 (by decide))
 have bn9 : QL (jM u02 u12 u22 m20 m21 m22) 60000002 := (jR (n := 10000000) (k := 60000002) hu02 hu12 hu22 hm20 hm21 hm22 (by decide))
 refine kd [] [(4, some y3)] mo (wM <| wR (kA hC) <| wM <| wE (uJ vY 2) <| wR (kA uN) <| wE (kC (q_times u00 u10 u20 u01 u11 u21 u02 u12 u22 (qu hu00) (qu hu10) (qu hu20) (qu hu01) (qu hu11) (qu hu21) (qu hu02) (qu hu12) (qu hu22) m20 m21 m22 (qu hm20) (qu hm21) (qu hm22))) <| wE (uJ vY 2) <| wT (kR uN) <| wZ) ?_
 refine kx [(10, (kE 3))] [] (zE (qQ 3 (hr := by decide)) <| zM <| zZ) ?_
 refine jJ (jZ.refl _) ?_
 refine jA <| kx [(11, (vb false))] [] (zE (qY false qS) <| zZ) ?_
 refine jA <| kO ?_
 refine kQ <| jA <| kx [] [(2, some y3)] (zR (kA hC) <| zT (kR hC) <| zZ) ?_
 refine jG ⟨_, (qB (cs := (bx (qU (A3.mk (A3.mk (jC (jM u00 u10 u20 m00 m01 m02)) (jC (jM u01 u11 u21 m00 m01 m02)) (jC (jM u02 u12 u22 m00 m01 m02))) (A3.mk (jC (jM u00 u10 u20 m10 m11 m12)) (jC (jM u01 u11 u21 m10 m11 m12)) (jC (jM u02 u12 u22 m10 m11 m12))) (A3.mk (jC (jM u00 u10 u20 m20 m21 m22)) (jC (jM u01 u11 u21 m20 m21 m22)) (jC (jM u02 u12 u22 m20 m21 m22))))))) (d := (qU (A3.mk (A3.mk (jC (jM u00 u10 u20 m00 m01 m02)) (jC (jM u01 u11 u21 m00 m01 m02)) (jC (jM u02 u12 u22 m00 m01 m02))) (A3.mk (jC (jM u00 u10 u20 m10 m11 m12)) (jC (jM u01 u11 u21 m10 m11 m12)) (jC (jM u02 u12 u22 m10 m11 m12))) (A3.mk (jC (jM u00 u10 u20 m20 m21 m22)) (jC (jM u01 u11 u21 m20 m21 m22)) (jC (jM u02 u12 u22 m20 m21 m22)))))) rfl rfl hC rfl rfl .nil), ?_⟩
 rfl
end Go.Proofs.YtbecgnplakngdaaGreat
