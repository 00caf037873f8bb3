/- Part 28 of a proof: rules, plain facts, and functions walked. -/
import Derived.Test.YtapjldagikfcmaaGreatM23
import Derived.Test.YtapjldagikfcmaaGreatM27
import Derived.Test.YtapjldagikfcmaaGreatM20
set_option linter.unusedVariables false
set_option linter.unusedSimpArgs false
namespace Go.Fid
theorem aT {q : Rat} (h : ¬ xV q ≤ 0) : q ≠ 0 := fun e => h (by rw [show xV q = 0 from cL.2 e]; decide)
theorem cK {a b c : Rat} (h : xO a b c = false) : jH a b c a b c ≠ 0 := fun e => bF h (fJ.1 e)
theorem zaddq (x : Rat) : ((0 : Int) : Rat) + x = x := by rw [Rat.intCast_zero, Rat.zero_add]
theorem gY (a b c x y z : Rat) : a * x + b * y + c * z = jH a b c x y z := rfl
theorem div_mul_q (f v x : Rat) : f / v * x = f * x / v := by rw [Rat.div_def, Rat.div_def]; grind
end Go.Fid
namespace Go.Proofs.YtapjldagikfcmaaGreat
open Go.Fid
set_option maxRecDepth 4000
set_option linter.unusedVariables false
set_option linter.unusedSimpArgs false
theorem cb140 : callB Tryz.prog 140 = true := by kernel_rfl
theorem cb141 : callB Tryz.prog 141 = true := by kernel_rfl
theorem cb152 : callB Tryz.prog 152 = true := by kernel_rfl
theorem cb231 : callB Tryz.prog 231 = true := by kernel_rfl
theorem cb233 : callB Tryz.prog 233 = true := by kernel_rfl
theorem fo104_0 : vN Tryz.prog 104 0 = some 0 := by kernel_rfl
theorem fo113_0 : vN Tryz.prog 113 0 = some 0 := by kernel_rfl
theorem fo113_1 : vN Tryz.prog 113 1 = some 4 := by kernel_rfl
theorem fo225_0 : vN Tryz.prog 225 0 = some 0 := by kernel_rfl
theorem fo225_1 : vN Tryz.prog 225 1 = some 10 := by kernel_rfl
theorem pl113 : cJ Tryz.prog 113 = some [(0, 4), (4, 4)] := by kernel_rfl
theorem mB : uJ Tryz.prog 113 = some (true, 8) := by kernel_rfl
theorem cA : xL Tryz.prog 113 = some [.bool false, .slice none 0 0, .bool false, .slice none 0 0, .bool false, .slice none 0 0, .bool false, .slice none 0 0] := by kernel_rfl
theorem mZ : cD [.bool false, .slice none 0 0, .bool false, .slice none 0 0, .bool false, .slice none 0 0, .bool false, .slice none 0 0] [.val (.bool false), .sl 181 1 [], .val (.bool false), .sl 181 1 [], .val (.bool false), .sl 181 1 [], .val (.bool false), .sl 181 1 []] := by simp [cD, Value.oneCell']
theorem q_side (lx ly lz la lb lc ld lf lu lv rx ry rz ra rb rc rd rf ru rv : Int) (b0 b1 b2 e00 e01 e02 e10 e11 e12 e20 e21 e22 : Rat) (xI : QL b0 3) (xH : QL b1 3) (xJ : QL b2 3) (qE : QL e00 400) (kZ : QL e01 400) (qA : QL e02 400) (qJ : QL e10 400) (qK : QL e11 400) (qI : QL e12 400) (qD : QL e20 400) (qB : QL e21 400) (qC : QL e22 400) (right : Bool) (tx ty tz ta tb tc td tf tu tv : Int) (hsd : (bif right then (kG.mk (jQ.mk rx ry rz) (jL.mk ra rb rc rd) rf (jU.mk ru rv)) else (kG.mk (jQ.mk lx ly lz) (jL.mk la lb lc ld) lf (jU.mk lu lv))) = (kG.mk (jQ.mk tx ty tz) (jL.mk ta tb tc td) tf (jU.mk tu tv))) : kH Tryz.prog 231 [(.cptr 1000001 (kX.cells (mA (RRp.mk (kG.mk (jQ.mk lx ly lz) (jL.mk la lb lc ld) lf (jU.mk lu lv)) (kG.mk (jQ.mk rx ry rz) (jL.mk ra rb rc rd) rf (jU.mk ru rv)) (A3.mk (jD b0) (jD b1) (jD b2)) (A3.mk (A3.mk (jD e00) (jD e01) (jD e02)) (A3.mk (jD e10) (jD e11) (jD e12)) (A3.mk (jD e20) (jD e21) (jD e22)))))) 0), (.val (.bool (right)))] (uT (kG.mk (jQ.mk tx ty tz) (jL.mk ta tb tc td) tf (jU.mk tu tv))) := by
 refine jM Tryz.func231 rfl cb231 rfl ?_
 show uY _ _ _ _ ⟨[(0, (.d (.cptr 1000001 (kX.cells (mA (RRp.mk (kG.mk (jQ.mk lx ly lz) (jL.mk la lb lc ld) lf (jU.mk lu lv)) (kG.mk (jQ.mk rx ry rz) (jL.mk ra rb rc rd) rf (jU.mk ru rv)) (A3.mk (jD b0) (jD b1) (jD b2)) (A3.mk (A3.mk (jD e00) (jD e01) (jD e02)) (A3.mk (jD e10) (jD e11) (jD e12)) (A3.mk (jD e20) (jD e21) (jD e22)))))) 0))), (1, (vb right))], []⟩
 refine jA <| kx [(4, (.ref 0 0))] [(0, some (bx (uT (kG.mk (jQ.mk 0 0 0) (jL.mk 0 0 0 0) 0 (jU.mk 0 0)))))] (zN (uK 0 aY aZ) <| zZ) ?_
 refine jA <| jA <| kx [(5, (vb right))] [] (zM <| zZ) ?_
 refine jO (b := right) rfl (fun h1 => ?_) (fun h1 => ?_)
 ·refine jA <| kx [] [(0, some (bx (uT (kG.mk (jQ.mk rx ry rz) (jL.mk ra rb rc rd) rf (jU.mk ru rv)))))] (zM <| zE oNd <| zE (oFc fo225_1) <| zE (dH zW) <| zT (qG zW) <| zZ) ?_
  refine jF ⟨_, (qS (cs := (bx (uT (kG.mk (jQ.mk rx ry rz) (jL.mk ra rb rc rd) rf (jU.mk ru rv))))) (d := (uT (kG.mk (jQ.mk rx ry rz) (jL.mk ra rb rc rd) rf (jU.mk ru rv)))) rfl rfl zW rfl rfl .nil), ?_⟩
  rw [← hsd, h1]; rfl
 ·refine jB <| jA <| kx [] [(0, some (bx (uT (kG.mk (jQ.mk lx ly lz) (jL.mk la lb lc ld) lf (jU.mk lu lv)))))] (zM <| zE oNd <| zE (oFc fo225_0) <| zE (dH zW) <| zT (qG zW) <| zZ) ?_
  refine jF ⟨_, (qS (cs := (bx (uT (kG.mk (jQ.mk lx ly lz) (jL.mk la lb lc ld) lf (jU.mk lu lv))))) (d := (uT (kG.mk (jQ.mk lx ly lz) (jL.mk la lb lc ld) lf (jU.mk lu lv)))) rfl rfl zW rfl rfl .nil), ?_⟩
  rw [← hsd, h1]; rfl
theorem qs_side (lx ly lz la lb lc ld lf lu lv rx ry rz ra rb rc rd rf ru rv : Int) (b0 b1 b2 e00 e01 e02 e10 e11 e12 e20 e21 e22 : Rat) (xI : QL b0 3) (xH : QL b1 3) (xJ : QL b2 3) (qE : QL e00 400) (kZ : QL e01 400) (qA : QL e02 400) (qJ : QL e10 400) (qK : QL e11 400) (qI : QL e12 400) (qD : QL e20 400) (qB : QL e21 400) (qC : QL e22 400) (right : Bool) (tx ty tz ta tb tc td tf tu tv : Int) (hsd : (bif right then (kG.mk (jQ.mk rx ry rz) (jL.mk ra rb rc rd) rf (jU.mk ru rv)) else (kG.mk (jQ.mk lx ly lz) (jL.mk la lb lc ld) lf (jU.mk lu lv))) = (kG.mk (jQ.mk tx ty tz) (jL.mk ta tb tc td) tf (jU.mk tu tv))) : kH Tryz.prog 140 [(yU (RLp.mk (kT.mk (kG.mk (jQ.mk lx ly lz) (jL.mk la lb lc ld) lf (jU.mk lu lv)) (kG.mk (jQ.mk rx ry rz) (jL.mk ra rb rc rd) rf (jU.mk ru rv))) (A3.mk (jD b0) (jD b1) (jD b2)) (A3.mk (A3.mk (jD e00) (jD e01) (jD e02)) (A3.mk (jD e10) (jD e11) (jD e12)) (A3.mk (jD e20) (jD e21) (jD e22))))), (.val (.bool (right)))] (uT (kG.mk (jQ.mk tx ty tz) (jL.mk ta tb tc td) tf (jU.mk tu tv))) := by
 let y1 := (yU (RLp.mk (kT.mk (kG.mk (jQ.mk lx ly lz) (jL.mk la lb lc ld) lf (jU.mk lu lv)) (kG.mk (jQ.mk rx ry rz) (jL.mk ra rb rc rd) rf (jU.mk ru rv))) (A3.mk (jD b0) (jD b1) (jD b2)) (A3.mk (A3.mk (jD e00) (jD e01) (jD e02)) (A3.mk (jD e10) (jD e11) (jD e12)) (A3.mk (jD e20) (jD e21) (jD e22)))))
 refine jM Tryz.func140 rfl cb140 rfl ?_
 show uY _ _ _ _ ⟨[(0, (.d y1)), (1, (vb right))], []⟩
 refine jA <| kx [(2, (.ref 0 0)), (4, (.ref 1 0))] [(0, some (bx y1)), (1, some (bx (uT (kG.mk (jQ.mk 0 0 0) (jL.mk 0 0 0 0) 0 (jU.mk 0 0)))))] (zN (vD 0) <| zN (uK 1 aY aZ) <| zZ) ?_
 refine jA <| jA <| kx [(5, (vb right))] [] (zM <| zZ) ?_
 refine jO (b := right) rfl (fun h1 => ?_) (fun h1 => ?_)
 ·refine jA <| kx [] [(1, some (bx (uT (kG.mk (jQ.mk rx ry rz) (jL.mk ra rb rc rd) rf (jU.mk ru rv)))))] (zE (kE fo104_0) <| zE (kE mG) <| zR (kC zW) <| zT (qG zW) <| zZ) ?_
  refine jF ⟨_, (qS (cs := (bx (uT (kG.mk (jQ.mk rx ry rz) (jL.mk ra rb rc rd) rf (jU.mk ru rv))))) (d := (uT (kG.mk (jQ.mk rx ry rz) (jL.mk ra rb rc rd) rf (jU.mk ru rv)))) rfl rfl zW rfl rfl .nil), ?_⟩
  rw [← hsd, h1]; rfl
 ·refine jB <| jA <| kx [] [(1, some (bx (uT (kG.mk (jQ.mk lx ly lz) (jL.mk la lb lc ld) lf (jU.mk lu lv)))))] (zE (kE fo104_0) <| zE (kE mI) <| zR (kC zW) <| zT (qG zW) <| zZ) ?_
  refine jF ⟨_, (qS (cs := (bx (uT (kG.mk (jQ.mk lx ly lz) (jL.mk la lb lc ld) lf (jU.mk lu lv))))) (d := (uT (kG.mk (jQ.mk lx ly lz) (jL.mk la lb lc ld) lf (jU.mk lu lv)))) rfl rfl zW rfl rfl .nil), ?_⟩
  rw [← hsd, h1]; rfl
theorem q_coo (lx ly lz la lb lc ld lf lu lv rx ry rz ra rb rc rd rf ru rv : Int) (b0 b1 b2 e00 e01 e02 e10 e11 e12 e20 e21 e22 : Rat) (xI : QL b0 3) (xH : QL b1 3) (xJ : QL b2 3) (qE : QL e00 400) (kZ : QL e01 400) (qA : QL e02 400) (qJ : QL e10 400) (qK : QL e11 400) (qI : QL e12 400) (qD : QL e20 400) (qB : QL e21 400) (qC : QL e22 400) (w0 w1 w2 : Rat) (hw0 : QL w0 1000000) (hw1 : QL w1 1000000) (hw2 : QL w2 1000000) (hd : ¬ (xV (jH e20 e21 e22 w0 w1 w2)) ≤ 0) : kH Tryz.prog 152 [(.cptr 1000001 (kX.cells (mA (RRp.mk (kG.mk (jQ.mk lx ly lz) (jL.mk la lb lc ld) lf (jU.mk lu lv)) (kG.mk (jQ.mk rx ry rz) (jL.mk ra rb rc rd) rf (jU.mk ru rv)) (A3.mk (jD b0) (jD b1) (jD b2)) (A3.mk (A3.mk (jD e00) (jD e01) (jD e02)) (A3.mk (jD e10) (jD e11) (jD e12)) (A3.mk (jD e20) (jD e21) (jD e22)))))) 0), (jK (A3.mk (jD w0) (jD w1) (jD w2)))] (.tup [(qM (uP.mk (jD ((jH e00 e01 e02 w0 w1 w2) / (jH e20 e21 e22 w0 w1 w2))) (jD ((jH e10 e11 e12 w0 w1 w2) / (jH e20 e21 e22 w0 w1 w2))))), (jP (jD (jH e20 e21 e22 w0 w1 w2))), (.val (.bool (true)))]) := by
 refine jM Tryz.func152 rfl cb152 rfl ?_
 show uY _ _ _ _ ⟨[(0, (.d (.cptr 1000001 (kX.cells (mA (RRp.mk (kG.mk (jQ.mk lx ly lz) (jL.mk la lb lc ld) lf (jU.mk lu lv)) (kG.mk (jQ.mk rx ry rz) (jL.mk ra rb rc rd) rf (jU.mk ru rv)) (A3.mk (jD b0) (jD b1) (jD b2)) (A3.mk (A3.mk (jD e00) (jD e01) (jD e02)) (A3.mk (jD e10) (jD e11) (jD e12)) (A3.mk (jD e20) (jD e21) (jD e22)))))) 0))), (1, (.d (jK (A3.mk (jD w0) (jD w1) (jD w2)))))], []⟩
 refine jA <| kx [(3, (.ref 0 0)), (4, (.ref 1 0)), (5, (.ref 2 0))] [(0, some (bx (jK (A3.mk (jD w0) (jD w1) (jD w2))))), (1, some (bx (qM (uP.mk (jZ.mk (jI.mk false []) (jI.mk false [])) (jZ.mk (jI.mk false []) (jI.mk false [])))))), (2, some (bx (jP (jZ.mk (jI.mk false []) (jI.mk false [])))))] (zN (vD 0) <| zN (uK 1 cA mZ) <| zN (uK 2 qZ uF) <| zM <| zZ) ?_
 refine jA ?_
 have bn1 : QL (jH e00 e01 e02 w0 w1 w2) 6000002 := (jS (n := 1000000) (k := 6000002) (qu qE) (qu kZ) (qu qA) hw0 hw1 hw2 (by decide))
 have bn2 : QL (jH e10 e11 e12 w0 w1 w2) 6000002 := (jS (n := 1000000) (k := 6000002) (qu qJ) (qu qK) (qu qI) hw0 hw1 hw2 (by decide))
 have bn3 : QL (jH e20 e21 e22 w0 w1 w2) 6000002 := (jS (n := 1000000) (k := 6000002) (qu qD) (qu qB) (qu qC) hw0 hw1 hw2 (by decide))
 refine kd [(7, (.ref 3 0))] [(3, some (bx (jK (A3.mk (jD (jH e00 e01 e02 w0 w1 w2)) (jD (jH e10 e11 e12 w0 w1 w2)) (jD (jH e20 e21 e22 w0 w1 w2))))))] mo (wM <| wE oNd <| wE (oFc gA) <| wE (dH nK) <| wR (kC qX) <| wE (kB (q_times e00 e01 e02 e10 e11 e12 e20 e21 e22 (qu qE) (qu kZ) (qu qA) (qu qJ) (qu qK) (qu qI) (qu qD) (qu qB) (qu qC) w0 w1 w2 (qu hw0) (qu hw1) (qu hw2))) <| wN (uK 3 nD nC) <| wT (qG qX) <| wZ) ?_
 refine jA <| jA <| kx [(21, (vb false))] [] (zE (vL uI 2) <| zR (kC jR) <| zE (kB (f_sign (jD (jH e20 e21 e22 w0 w1 w2)) (jH e20 e21 e22 w0 w1 w2) (jY (kA bn3) (by decide)))) <| zE (kR false oLe (by exact decide_eq_false hd)) <| zZ) ?_
 refine jT ?_
 refine jB <| jA <| kx [(8, (.ref 4 0))] [(4, some (bx (jP (jD ((jH e00 e01 e02 w0 w1 w2) / (jH e20 e21 e22 w0 w1 w2))))))] (zE (vL uI 0) <| zR (kC jR) <| zE (vL uI 2) <| zR (kC jR) <| zE (kB (by have h := eJ (jD (jH e00 e01 e02 w0 w1 w2)) (jD (jH e20 e21 e22 w0 w1 w2)) (jH e00 e01 e02 w0 w1 w2) (jH e20 e21 e22 w0 w1 w2) (jY (kA bn1) (by decide)) (jY (kA bn3) (by decide)); rw [mM (aT hd), mN (aT hd)] at h; exact h)) <| zM <| zE vA <| zE vA <| zN (uK 4 qZ uF) <| zT (qG jR) <| zM <| zZ) ?_
 refine jA <| kx [(10, (.ref 5 0))] [(5, some (bx (jP (jD ((jH e10 e11 e12 w0 w1 w2) / (jH e20 e21 e22 w0 w1 w2))))))] (zE (vL uI 1) <| zR (kC jR) <| zE (vL uI 2) <| zR (kC jR) <| zE (kB (by have h := eJ (jD (jH e10 e11 e12 w0 w1 w2)) (jD (jH e20 e21 e22 w0 w1 w2)) (jH e10 e11 e12 w0 w1 w2) (jH e20 e21 e22 w0 w1 w2) (jY (kA bn2) (by decide)) (jY (kA bn3) (by decide)); rw [mM (aT hd), mN (aT hd)] at h; exact h)) <| zM <| zE vA <| zE vA <| zN (uK 5 qZ uF) <| zT (qG jR) <| zM <| zZ) ?_
 refine jA <| kd [(6, (vb true))] [(1, some (bx (qM (uP.mk (jD ((jH e00 e01 e02 w0 w1 w2) / (jH e20 e21 e22 w0 w1 w2))) (jD ((jH e10 e11 e12 w0 w1 w2) / (jH e20 e21 e22 w0 w1 w2))))))), (2, some (bx (jP (jD (jH e20 e21 e22 w0 w1 w2)))))] mo (wR (kC jR) <| wR (kC jR) <| wE (oBd pl113 cA mZ) <| wE (vL uI 2) <| wR (kC jR) <| wT (qG mB) <| wT (qG jR) <| wM <| wZ) ?_
 refine jF ⟨_, (qS (cs := (bx (qM (uP.mk (jD ((jH e00 e01 e02 w0 w1 w2) / (jH e20 e21 e22 w0 w1 w2))) (jD ((jH e10 e11 e12 w0 w1 w2) / (jH e20 e21 e22 w0 w1 w2))))))) (d := (qM (uP.mk (jD ((jH e00 e01 e02 w0 w1 w2) / (jH e20 e21 e22 w0 w1 w2))) (jD ((jH e10 e11 e12 w0 w1 w2) / (jH e20 e21 e22 w0 w1 w2)))))) rfl rfl mB rfl rfl (qS (cs := (bx (jP (jD (jH e20 e21 e22 w0 w1 w2))))) (d := (jP (jD (jH e20 e21 e22 w0 w1 w2)))) rfl rfl jR rfl rfl (.tmp (d := (.val (.bool (true)))) rfl .nil))), ?_⟩
 rfl
theorem q_dir (lx ly lz la lb lc ld lf lu lv rx ry rz ra rb rc rd rf ru rv : Int) (b0 b1 b2 e00 e01 e02 e10 e11 e12 e20 e21 e22 : Rat) (xI : QL b0 3) (xH : QL b1 3) (xJ : QL b2 3) (qE : QL e00 400) (kZ : QL e01 400) (qA : QL e02 400) (qJ : QL e10 400) (qK : QL e11 400) (qI : QL e12 400) (qD : QL e20 400) (qB : QL e21 400) (qC : QL e22 400) (x y : Rat) (hx : QL x 1000000) (hy : QL y 1000000) (hz0 : xO e00 e01 e02 = false) (hz1 : xO e10 e11 e12 = false) (hz2 : xO e20 e21 e22 = false) : kH Tryz.prog 233 [(.cptr 1000001 (kX.cells (mA (RRp.mk (kG.mk (jQ.mk lx ly lz) (jL.mk la lb lc ld) lf (jU.mk lu lv)) (kG.mk (jQ.mk rx ry rz) (jL.mk ra rb rc rd) rf (jU.mk ru rv)) (A3.mk (jD b0) (jD b1) (jD b2)) (A3.mk (A3.mk (jD e00) (jD e01) (jD e02)) (A3.mk (jD e10) (jD e11) (jD e12)) (A3.mk (jD e20) (jD e21) (jD e22)))))) 0), (qM (uP.mk (jD x) (jD y)))] (jK (A3.mk (jD (((e00 * (x / (jH e00 e01 e02 e00 e01 e02))) + (e10 * (y / (jH e10 e11 e12 e10 e11 e12)))) + (e20 * (((1 : Int) : Rat) / (jH e20 e21 e22 e20 e21 e22))))) (jD (((e01 * (x / (jH e00 e01 e02 e00 e01 e02))) + (e11 * (y / (jH e10 e11 e12 e10 e11 e12)))) + (e21 * (((1 : Int) : Rat) / (jH e20 e21 e22 e20 e21 e22))))) (jD (((e02 * (x / (jH e00 e01 e02 e00 e01 e02))) + (e12 * (y / (jH e10 e11 e12 e10 e11 e12)))) + (e22 * (((1 : Int) : Rat) / (jH e20 e21 e22 e20 e21 e22))))))) := by
 let y5 := (bx (jK (A3.mk (jZ.mk (jI.mk false []) (jI.mk false [])) (jZ.mk (jI.mk false []) (jI.mk false [])) (jZ.mk (jI.mk false []) (jI.mk false [])))))
 let y4 := (bx (jK (A3.mk (jD (e10 * (y / (jH e10 e11 e12 e10 e11 e12)))) (jD (e11 * (y / (jH e10 e11 e12 e10 e11 e12)))) (jD (e12 * (y / (jH e10 e11 e12 e10 e11 e12)))))))
 let y3 := (bx (jK (A3.mk (jD (e00 * (x / (jH e00 e01 e02 e00 e01 e02)))) (jD (e01 * (x / (jH e00 e01 e02 e00 e01 e02)))) (jD (e02 * (x / (jH e00 e01 e02 e00 e01 e02)))))))
 let y2 := (mA (RRp.mk (kG.mk (jQ.mk lx ly lz) (jL.mk la lb lc ld) lf (jU.mk lu lv)) (kG.mk (jQ.mk rx ry rz) (jL.mk ra rb rc rd) rf (jU.mk ru rv)) (A3.mk (jD b0) (jD b1) (jD b2)) (A3.mk (A3.mk (jD e00) (jD e01) (jD e02)) (A3.mk (jD e10) (jD e11) (jD e12)) (A3.mk (jD e20) (jD e21) (jD e22)))))
 let y1 := (bx (jK (A3.mk (jD (((e00 * (x / (jH e00 e01 e02 e00 e01 e02))) + (e10 * (y / (jH e10 e11 e12 e10 e11 e12)))) + (e20 * (((1 : Int) : Rat) / (jH e20 e21 e22 e20 e21 e22))))) (jD (((e01 * (x / (jH e00 e01 e02 e00 e01 e02))) + (e11 * (y / (jH e10 e11 e12 e10 e11 e12)))) + (e21 * (((1 : Int) : Rat) / (jH e20 e21 e22 e20 e21 e22))))) (jD (((e02 * (x / (jH e00 e01 e02 e00 e01 e02))) + (e12 * (y / (jH e10 e11 e12 e10 e11 e12)))) + (e22 * (((1 : Int) : Rat) / (jH e20 e21 e22 e20 e21 e22))))))))
 refine jM Tryz.func233 rfl cb233 rfl ?_
 show uY _ _ _ _ ⟨[(0, (.d (.cptr 1000001 (kX.cells y2) 0))), (1, (.d (qM (uP.mk (jD x) (jD y)))))], []⟩
 refine jA <| kx [(3, (.ref 0 0)), (4, (.ref 1 0))] [(0, some (bx (qM (uP.mk (jD x) (jD y))))), (1, some y5)] (zN (vD 0) <| zN (uK 1 nD nC) <| zZ) ?_
 refine jA <| kx [(5, (.ref 2 0))] [(2, some y5)] (zN (uK 2 nD nC) <| zZ) ?_
 refine jA <| jA ?_
 have bn1 : QL ((1 : Int) : Rat) 1 := (kL (z := 1) (vR (by decide)) (by decide))
 refine kd [(16, (.d (jK (A3.mk (jD x) (jD y) (jD ((1 : Int) : Rat)))))), (17, (kD 0))] [] mo (wE (kE fo113_0) <| wR (kC jR) <| wE (kE fo113_1) <| wR (kC jR) <| wE (kB (gQ 1 (by decide) (by decide))) <| wE (oBf uI nD nC) <| wM <| wZ) ?_
 refine jE <| qF 20 ?_
 refine qU <| jA <| kx [(18, (vb true))] [] (zE (kR true qY) <| zZ) ?_
 refine jA <| jX ?_
 refine jB <| jA <| jE <| jA <| kx [(6, (kD 0)), (7, (.ref 3 0))] [(3, some (bx (jP (jD x))))] (zM <| zE (oXa uI jR (fun h => by cases h) 0) <| zN (uK 3 qZ uF) <| zM <| zT (qG jR) <| zZ) ?_
 refine jA ?_
 have bn2 : QL (jH e00 e01 e02 e00 e01 e02) 2402 := (jS (n := 400) (k := 2402) qE kZ qA qE kZ qA (by decide))
 refine kd [(8, (.ref 4 0))] [(4, some (bx (jP (jD (x / (jH e00 e01 e02 e00 e01 e02))))))] mo (wR (kC jR) <| wM <| wM <| wE oNd <| wE (oFc gA) <| wE (oXc vK 0) <| wE (dH qX) <| wM <| wM <| wE oNd <| wE (oFc gA) <| wE (oXc vK 0) <| wE (dH qX) <| wE (kB (q_dot e00 e01 e02 (qu qE) (qu kZ) (qu qA) e00 e01 e02 (qu qE) (qu kZ) (qu qA))) <| wE (kB (by have h := eJ (jD x) (jD (jH e00 e01 e02 e00 e01 e02)) x (jH e00 e01 e02 e00 e01 e02) (jY (kA hx) (by decide)) (jY (kA bn2) (by decide)); rw [mM (cK hz0), mN (cK hz0)] at h; exact h)) <| wM <| wE vA <| wE vA <| wN (uK 4 qZ uF) <| wT (qG jR) <| wM <| wZ) ?_
 refine jA ?_
 have bn3 : QL (e00 * (x / (jH e00 e01 e02 e00 e01 e02))) 1002802 := (jG (k := 1002802) qE (kU (k := 1002402) hx bn2 (by decide)) (by decide))
 have bn4 : QL (e01 * (x / (jH e00 e01 e02 e00 e01 e02))) 1002802 := (jG (k := 1002802) kZ (kU (k := 1002402) hx bn2 (by decide)) (by decide))
 have bn5 : QL (e02 * (x / (jH e00 e01 e02 e00 e01 e02))) 1002802 := (jG (k := 1002802) qA (kU (k := 1002402) hx bn2 (by decide)) (by decide))
 refine kd [(10, (.ref 5 0))] [(5, some y3)] mo (wM <| wM <| wE oNd <| wE (oFc gA) <| wE (oXc vK 0) <| wE (dH qX) <| wR (kC jR) <| wE (kB (mH e00 e01 e02 (qu qE) (qu kZ) (qu qA) (x / (jH e00 e01 e02 e00 e01 e02)) (qV (kU (k := 1002402) hx bn2 (by decide)) (by decide)))) <| wN (uK 5 nD nC) <| wT (qG qX) <| wZ) ?_
 refine jA <| kx [(48, (vb true))] [] (zM <| zE (kR true xK) <| zZ) ?_
 refine jX ?_
 refine kx [] [(2, some y3)] (zR (kC qX) <| zT (qG qX) <| zZ) ?_
 refine kx [(17, (kD 1))] [] (zE (uE 1 (hr := by decide)) <| zM <| zZ) ?_
 refine jJ (jW.refl _) ?_
 refine jA <| kx [(18, (vb true))] [] (zE (kR true qY) <| zZ) ?_
 refine jA <| jX ?_
 refine jB <| jA <| jE <| jA <| kx [(6, (kD 1)), (7, (.ref 6 0))] [(6, some (bx (jP (jD y))))] (zM <| zE (oXa uI jR (fun h => by cases h) 1) <| zN (uK 6 qZ uF) <| zM <| zT (qG jR) <| zZ) ?_
 refine jA ?_
 have bn6 : QL (jH e10 e11 e12 e10 e11 e12) 2402 := (jS (n := 400) (k := 2402) qJ qK qI qJ qK qI (by decide))
 refine kd [(8, (.ref 7 0))] [(7, some (bx (jP (jD (y / (jH e10 e11 e12 e10 e11 e12))))))] mo (wR (kC jR) <| wM <| wM <| wE oNd <| wE (oFc gA) <| wE (oXc vK 1) <| wE (dH qX) <| wM <| wM <| wE oNd <| wE (oFc gA) <| wE (oXc vK 1) <| wE (dH qX) <| wE (kB (q_dot e10 e11 e12 (qu qJ) (qu qK) (qu qI) e10 e11 e12 (qu qJ) (qu qK) (qu qI))) <| wE (kB (by have h := eJ (jD y) (jD (jH e10 e11 e12 e10 e11 e12)) y (jH e10 e11 e12 e10 e11 e12) (jY (kA hy) (by decide)) (jY (kA bn6) (by decide)); rw [mM (cK hz1), mN (cK hz1)] at h; exact h)) <| wM <| wE vA <| wE vA <| wN (uK 7 qZ uF) <| wT (qG jR) <| wM <| wZ) ?_
 refine jA ?_
 have bn7 : QL (e10 * (y / (jH e10 e11 e12 e10 e11 e12))) 1002802 := (jG (k := 1002802) qJ (kU (k := 1002402) hy bn6 (by decide)) (by decide))
 have bn8 : QL (e11 * (y / (jH e10 e11 e12 e10 e11 e12))) 1002802 := (jG (k := 1002802) qK (kU (k := 1002402) hy bn6 (by decide)) (by decide))
 have bn9 : QL (e12 * (y / (jH e10 e11 e12 e10 e11 e12))) 1002802 := (jG (k := 1002802) qI (kU (k := 1002402) hy bn6 (by decide)) (by decide))
 refine kd [(10, (.ref 8 0))] [(8, some y4)] mo (wM <| wM <| wE oNd <| wE (oFc gA) <| wE (oXc vK 1) <| wE (dH qX) <| wR (kC jR) <| wE (kB (mH e10 e11 e12 (qu qJ) (qu qK) (qu qI) (y / (jH e10 e11 e12 e10 e11 e12)) (qV (kU (k := 1002402) hy bn6 (by decide)) (by decide)))) <| wN (uK 8 nD nC) <| wT (qG qX) <| wZ) ?_
 refine jA <| kP (wk (l := [(0, (.d (.cptr 1000001 (kX.cells y2) 0))), (4, (.ref 1 0)), (5, (.ref 2 0)), (6, (kD 1)), (10, (.ref 8 0)), (16, (.d (jK (A3.mk (jD x) (jD y) (jD ((1 : Int) : Rat)))))), (17, (kD 1))]) (b := [(1, some y5), (2, some y3), (8, some y4)])) ?_
 refine kx [(48, (vb false))] [] (zM <| zE (kR false xK) <| zZ) ?_
 refine jT ?_
 refine kx [] [(2, some (bx (jK (A3.mk (jD ((e00 * (x / (jH e00 e01 e02 e00 e01 e02))) + (e10 * (y / (jH e10 e11 e12 e10 e11 e12))))) (jD ((e01 * (x / (jH e00 e01 e02 e00 e01 e02))) + (e11 * (y / (jH e10 e11 e12 e10 e11 e12))))) (jD ((e02 * (x / (jH e00 e01 e02 e00 e01 e02))) + (e12 * (y / (jH e10 e11 e12 e10 e11 e12)))))))))] (zR (kC qX) <| zR (kC qX) <| zE (kB (q_sum (e00 * (x / (jH e00 e01 e02 e00 e01 e02))) (e01 * (x / (jH e00 e01 e02 e00 e01 e02))) (e02 * (x / (jH e00 e01 e02 e00 e01 e02))) (qu bn3) (qu bn4) (qu bn5) (e10 * (y / (jH e10 e11 e12 e10 e11 e12))) (e11 * (y / (jH e10 e11 e12 e10 e11 e12))) (e12 * (y / (jH e10 e11 e12 e10 e11 e12))) (qu bn7) (qu bn8) (qu bn9))) <| zT (qG qX) <| zZ) ?_
 refine kx [(17, (kD 2))] [] (zE (uE 2 (hr := by decide)) <| zM <| zZ) ?_
 refine jJ (jW.refl _) ?_
 refine jA <| kx [(18, (vb true))] [] (zE (kR true qY) <| zZ) ?_
 refine jA <| jX ?_
 refine jB <| jA <| jE <| jA <| kx [(6, (kD 2)), (7, (.ref 9 0))] [(9, some (bx (jP (jD ((1 : Int) : Rat)))))] (zM <| zE (oXa uI jR (fun h => by cases h) 2) <| zN (uK 9 qZ uF) <| zM <| zT (qG jR) <| zZ) ?_
 refine jA ?_
 have bn10 : QL (jH e20 e21 e22 e20 e21 e22) 2402 := (jS (n := 400) (k := 2402) qD qB qC qD qB qC (by decide))
 refine kd [(8, (.ref 10 0))] [(10, some (bx (jP (jD (((1 : Int) : Rat) / (jH e20 e21 e22 e20 e21 e22))))))] mo (wR (kC jR) <| wM <| wM <| wE oNd <| wE (oFc gA) <| wE (oXc vK 2) <| wE (dH qX) <| wM <| wM <| wE oNd <| wE (oFc gA) <| wE (oXc vK 2) <| wE (dH qX) <| wE (kB (q_dot e20 e21 e22 (qu qD) (qu qB) (qu qC) e20 e21 e22 (qu qD) (qu qB) (qu qC))) <| wE (kB (by have h := eJ (jD ((1 : Int) : Rat)) (jD (jH e20 e21 e22 e20 e21 e22)) ((1 : Int) : Rat) (jH e20 e21 e22 e20 e21 e22) (jY (kA bn1) (by decide)) (jY (kA bn10) (by decide)); rw [mM (cK hz2), mN (cK hz2)] at h; exact h)) <| wM <| wE vA <| wE vA <| wN (uK 10 qZ uF) <| wT (qG jR) <| wM <| wZ) ?_
 refine jA ?_
 have bn11 : QL (e20 * (((1 : Int) : Rat) / (jH e20 e21 e22 e20 e21 e22))) 2803 := (jG (k := 2803) qD (kU (k := 2403) bn1 bn10 (by decide)) (by decide))
 have bn12 : QL (e21 * (((1 : Int) : Rat) / (jH e20 e21 e22 e20 e21 e22))) 2803 := (jG (k := 2803) qB (kU (k := 2403) bn1 bn10 (by decide)) (by decide))
 have bn13 : QL (e22 * (((1 : Int) : Rat) / (jH e20 e21 e22 e20 e21 e22))) 2803 := (jG (k := 2803) qC (kU (k := 2403) bn1 bn10 (by decide)) (by decide))
 refine kd [(10, (.ref 11 0))] [(11, some (bx (jK (A3.mk (jD (e20 * (((1 : Int) : Rat) / (jH e20 e21 e22 e20 e21 e22)))) (jD (e21 * (((1 : Int) : Rat) / (jH e20 e21 e22 e20 e21 e22)))) (jD (e22 * (((1 : Int) : Rat) / (jH e20 e21 e22 e20 e21 e22))))))))] mo (wM <| wM <| wE oNd <| wE (oFc gA) <| wE (oXc vK 2) <| wE (dH qX) <| wR (kC jR) <| wE (kB (mH e20 e21 e22 (qu qD) (qu qB) (qu qC) (((1 : Int) : Rat) / (jH e20 e21 e22 e20 e21 e22)) (qV (kU (k := 2403) bn1 bn10 (by decide)) (by decide)))) <| wN (uK 11 nD nC) <| wT (qG qX) <| wZ) ?_
 refine jA <| kx [(48, (vb false))] [] (zM <| zE (kR false xK) <| zZ) ?_
 refine jT ?_
 have bn14 : QL (((e00 * (x / (jH e00 e01 e02 e00 e01 e02))) + (e10 * (y / (jH e10 e11 e12 e10 e11 e12)))) + (e20 * (((1 : Int) : Rat) / (jH e20 e21 e22 e20 e21 e22)))) 2008409 := (kQ (k := 2008409) (kQ (k := 2005605) bn3 bn7 (by decide)) bn11 (by decide))
 have bn15 : QL (((e01 * (x / (jH e00 e01 e02 e00 e01 e02))) + (e11 * (y / (jH e10 e11 e12 e10 e11 e12)))) + (e21 * (((1 : Int) : Rat) / (jH e20 e21 e22 e20 e21 e22)))) 2008409 := (kQ (k := 2008409) (kQ (k := 2005605) bn4 bn8 (by decide)) bn12 (by decide))
 have bn16 : QL (((e02 * (x / (jH e00 e01 e02 e00 e01 e02))) + (e12 * (y / (jH e10 e11 e12 e10 e11 e12)))) + (e22 * (((1 : Int) : Rat) / (jH e20 e21 e22 e20 e21 e22)))) 2008409 := (kQ (k := 2008409) (kQ (k := 2005605) bn5 bn9 (by decide)) bn13 (by decide))
 refine kx [] [(2, some y1)] (zR (kC qX) <| zR (kC qX) <| zE (kB (q_sum ((e00 * (x / (jH e00 e01 e02 e00 e01 e02))) + (e10 * (y / (jH e10 e11 e12 e10 e11 e12)))) ((e01 * (x / (jH e00 e01 e02 e00 e01 e02))) + (e11 * (y / (jH e10 e11 e12 e10 e11 e12)))) ((e02 * (x / (jH e00 e01 e02 e00 e01 e02))) + (e12 * (y / (jH e10 e11 e12 e10 e11 e12)))) (qV (kQ (k := 2005605) bn3 bn7 (by decide)) (by decide)) (qV (kQ (k := 2005605) bn4 bn8 (by decide)) (by decide)) (qV (kQ (k := 2005605) bn5 bn9 (by decide)) (by decide)) (e20 * (((1 : Int) : Rat) / (jH e20 e21 e22 e20 e21 e22))) (e21 * (((1 : Int) : Rat) / (jH e20 e21 e22 e20 e21 e22))) (e22 * (((1 : Int) : Rat) / (jH e20 e21 e22 e20 e21 e22))) (qu bn11) (qu bn12) (qu bn13))) <| zT (qG qX) <| zZ) ?_
 refine kx [(17, (kD 3))] [] (zE (uE 3 (hr := by decide)) <| zM <| zZ) ?_
 refine jJ (jW.refl _) ?_
 refine jA <| kx [(18, (vb false))] [] (zE (kR false qY) <| zZ) ?_
 refine jA <| jT ?_
 refine kJ <| jA <| kx [] [(1, some y1)] (zR (kC qX) <| zT (qG qX) <| zZ) ?_
 refine jF ⟨_, (qS (cs := (bx (jK (A3.mk (jD (((e00 * (x / (jH e00 e01 e02 e00 e01 e02))) + (e10 * (y / (jH e10 e11 e12 e10 e11 e12)))) + (e20 * (((1 : Int) : Rat) / (jH e20 e21 e22 e20 e21 e22))))) (jD (((e01 * (x / (jH e00 e01 e02 e00 e01 e02))) + (e11 * (y / (jH e10 e11 e12 e10 e11 e12)))) + (e21 * (((1 : Int) : Rat) / (jH e20 e21 e22 e20 e21 e22))))) (jD (((e02 * (x / (jH e00 e01 e02 e00 e01 e02))) + (e12 * (y / (jH e10 e11 e12 e10 e11 e12)))) + (e22 * (((1 : Int) : Rat) / (jH e20 e21 e22 e20 e21 e22))))))))) (d := (jK (A3.mk (jD (((e00 * (x / (jH e00 e01 e02 e00 e01 e02))) + (e10 * (y / (jH e10 e11 e12 e10 e11 e12)))) + (e20 * (((1 : Int) : Rat) / (jH e20 e21 e22 e20 e21 e22))))) (jD (((e01 * (x / (jH e00 e01 e02 e00 e01 e02))) + (e11 * (y / (jH e10 e11 e12 e10 e11 e12)))) + (e21 * (((1 : Int) : Rat) / (jH e20 e21 e22 e20 e21 e22))))) (jD (((e02 * (x / (jH e00 e01 e02 e00 e01 e02))) + (e12 * (y / (jH e10 e11 e12 e10 e11 e12)))) + (e22 * (((1 : Int) : Rat) / (jH e20 e21 e22 e20 e21 e22)))))))) rfl rfl qX rfl rfl .nil), ?_⟩
 rfl
theorem qs_ray (lx ly lz la lb lc ld lf lu lv rx ry rz ra rb rc rd rf ru rv : Int) (b0 b1 b2 e00 e01 e02 e10 e11 e12 e20 e21 e22 : Rat) (xI : QL b0 3) (xH : QL b1 3) (xJ : QL b2 3) (qE : QL e00 400) (kZ : QL e01 400) (qA : QL e02 400) (qJ : QL e10 400) (qK : QL e11 400) (qI : QL e12 400) (qD : QL e20 400) (qB : QL e21 400) (qC : QL e22 400) (x y : Rat) (hx : QL x 1000000) (hy : QL y 1000000) (hz0 : xO e00 e01 e02 = false) (hz1 : xO e10 e11 e12 = false) (hz2 : xO e20 e21 e22 = false) : kH Tryz.prog 141 [(yU (RLp.mk (kT.mk (kG.mk (jQ.mk lx ly lz) (jL.mk la lb lc ld) lf (jU.mk lu lv)) (kG.mk (jQ.mk rx ry rz) (jL.mk ra rb rc rd) rf (jU.mk ru rv))) (A3.mk (jD b0) (jD b1) (jD b2)) (A3.mk (A3.mk (jD e00) (jD e01) (jD e02)) (A3.mk (jD e10) (jD e11) (jD e12)) (A3.mk (jD e20) (jD e21) (jD e22))))), (qM (uP.mk (jD x) (jD y)))] (jK (A3.mk (jD (((e00 * (x / (jH e00 e01 e02 e00 e01 e02))) + (e10 * (y / (jH e10 e11 e12 e10 e11 e12)))) + (e20 * (((1 : Int) : Rat) / (jH e20 e21 e22 e20 e21 e22))))) (jD (((e01 * (x / (jH e00 e01 e02 e00 e01 e02))) + (e11 * (y / (jH e10 e11 e12 e10 e11 e12)))) + (e21 * (((1 : Int) : Rat) / (jH e20 e21 e22 e20 e21 e22))))) (jD (((e02 * (x / (jH e00 e01 e02 e00 e01 e02))) + (e12 * (y / (jH e10 e11 e12 e10 e11 e12)))) + (e22 * (((1 : Int) : Rat) / (jH e20 e21 e22 e20 e21 e22))))))) := by
 let y5 := (jZ.mk (jI.mk false []) (jI.mk false []))
 let y4 := (bx (jK (A3.mk (jD ((e00 * (x / (jH e00 e01 e02 e00 e01 e02))) + (e10 * (y / (jH e10 e11 e12 e10 e11 e12))))) (jD ((e01 * (x / (jH e00 e01 e02 e00 e01 e02))) + (e11 * (y / (jH e10 e11 e12 e10 e11 e12))))) (jD ((e02 * (x / (jH e00 e01 e02 e00 e01 e02))) + (e12 * (y / (jH e10 e11 e12 e10 e11 e12))))))))
 let y3 := (yU (RLp.mk (kT.mk (kG.mk (jQ.mk lx ly lz) (jL.mk la lb lc ld) lf (jU.mk lu lv)) (kG.mk (jQ.mk rx ry rz) (jL.mk ra rb rc rd) rf (jU.mk ru rv))) (A3.mk (jD b0) (jD b1) (jD b2)) (A3.mk (A3.mk (jD e00) (jD e01) (jD e02)) (A3.mk (jD e10) (jD e11) (jD e12)) (A3.mk (jD e20) (jD e21) (jD e22)))))
 let y2 := (bx y3)
 let y1 := (bx (jK (A3.mk (jD (((e00 * (x / (jH e00 e01 e02 e00 e01 e02))) + (e10 * (y / (jH e10 e11 e12 e10 e11 e12)))) + (e20 * (((1 : Int) : Rat) / (jH e20 e21 e22 e20 e21 e22))))) (jD (((e01 * (x / (jH e00 e01 e02 e00 e01 e02))) + (e11 * (y / (jH e10 e11 e12 e10 e11 e12)))) + (e21 * (((1 : Int) : Rat) / (jH e20 e21 e22 e20 e21 e22))))) (jD (((e02 * (x / (jH e00 e01 e02 e00 e01 e02))) + (e12 * (y / (jH e10 e11 e12 e10 e11 e12)))) + (e22 * (((1 : Int) : Rat) / (jH e20 e21 e22 e20 e21 e22))))))))
 refine jM Tryz.func141 rfl cb141 rfl ?_
 show uY _ _ _ _ ⟨[(0, (.d y3)), (1, (.d (qM (uP.mk (jD x) (jD y)))))], []⟩
 refine jA <| kx [(2, (.ref 0 0)), (3, (.ref 1 0)), (4, (.ref 2 0))] [(0, some y2), (1, some (bx (qM (uP.mk (jD x) (jD y))))), (2, some (bx (jK (A3.mk y5 y5 y5))))] (zN (vD 0) <| zN (vD 1) <| zN (uK 2 mY cC) <| zZ) ?_
 refine jA ?_
 have bn1 : QL ((1 : Int) : Rat) 1 := (kL (z := 1) (vR (by decide)) (by decide))
 refine kx [(5, (.ref 3 0))] [(3, some (bx (jP (jD ((1 : Int) : Rat)))))] (zE (kB (nQ 1 (by decide) (by decide))) <| zN (uK 3 qZ uF) <| zT (qG jR) <| zZ) ?_
 refine jA ?_
 have bn2 : QL ((0 : Int) : Rat) 3 := (qi 0)
 refine kx [(6, (.ref 4 0))] [(4, some (bx (jK (A3.mk (jD ((0 : Int) : Rat)) (jD ((0 : Int) : Rat)) (jD ((0 : Int) : Rat))))))] (zE (kB (qs_whole ((0 : Nat) : Int) (by omega) (by omega) ((0 : Nat) : Int) (by omega) (by omega) ((0 : Nat) : Int) (by omega) (by omega))) <| zN (uK 4 mY cC) <| zT (qG uG) <| zZ) ?_
 refine jA <| jA <| kx [(18, (vl 38 4 jP [(jD x), (jD y), (jD ((1 : Int) : Rat))])), (19, (kD 3)), (20, (kD 0))] [] (zE (kE fo113_0) <| zR (kC jR) <| zE (kE fo113_1) <| zR (kC jR) <| zR (kC jR) <| zE (mC vZ qZ uF) <| zE (bJ vZ 3) <| zM <| zZ) ?_
 refine jE <| qF 20 ?_
 refine qU <| jA <| kx [(21, (vb true))] [] (zE (kR true qY) <| zZ) ?_
 refine jA <| jX ?_
 refine jB <| jA <| jE <| jA <| kx [(7, (kD 0)), (8, (.ref 5 0))] [(5, some (bx (jP (jD x))))] (zM <| zE (zS vZ 0) <| zE (dH jR) <| zN (uK 5 qZ uF) <| zM <| zT (qG jR) <| zZ) ?_
 refine jA ?_
 have bn3 : QL (jH e00 e01 e02 e00 e01 e02) 2402 := (jS (n := 400) (k := 2402) qE kZ qA qE kZ qA (by decide))
 refine kd [(9, (.ref 6 0))] [(6, some (bx (jP (jD (x / (jH e00 e01 e02 e00 e01 e02))))))] mo (wR (kC jR) <| wM <| wE (kE nS) <| wE (vL nV 0) <| wR (kC uG) <| wM <| wE (kE nS) <| wE (vL nV 0) <| wR (kC uG) <| wE (kB (qs_dot e00 e01 e02 (qu qE) (qu kZ) (qu qA) e00 e01 e02 (qu qE) (qu kZ) (qu qA))) <| wE (kB (by have h := g_divide (jD x) (jD (jH e00 e01 e02 e00 e01 e02)) x (jH e00 e01 e02 e00 e01 e02) (jY (kA hx) (by decide)) (jY (kA bn3) (by decide)); rw [mM (cK hz0), mN (cK hz0)] at h; exact h)) <| wM <| wE vA <| wE vA <| wN (uK 6 qZ uF) <| wT (qG jR) <| wM <| wZ) ?_
 have bn4 : QL (e00 * (x / (jH e00 e01 e02 e00 e01 e02))) 1002802 := (jG (k := 1002802) qE (kU (k := 1002402) hx bn3 (by decide)) (by decide))
 have bn5 : QL (e01 * (x / (jH e00 e01 e02 e00 e01 e02))) 1002802 := (jG (k := 1002802) kZ (kU (k := 1002402) hx bn3 (by decide)) (by decide))
 have bn6 : QL (e02 * (x / (jH e00 e01 e02 e00 e01 e02))) 1002802 := (jG (k := 1002802) qA (kU (k := 1002402) hx bn3 (by decide)) (by decide))
 have bn7 : QL (e00 * (x / (jH e00 e01 e02 e00 e01 e02))) 1002806 := (kF (Eq.symm (zaddq (e00 * (x / (jH e00 e01 e02 e00 e01 e02))))) (kQ (k := 1002806) bn2 bn4 (by decide)))
 have bn8 : QL (e01 * (x / (jH e00 e01 e02 e00 e01 e02))) 1002806 := (kF (Eq.symm (zaddq (e01 * (x / (jH e00 e01 e02 e00 e01 e02))))) (kQ (k := 1002806) bn2 bn5 (by decide)))
 have bn9 : QL (e02 * (x / (jH e00 e01 e02 e00 e01 e02))) 1002806 := (kF (Eq.symm (zaddq (e02 * (x / (jH e00 e01 e02 e00 e01 e02))))) (kQ (k := 1002806) bn2 bn6 (by decide)))
 refine kd [] [(4, some (bx (jK (A3.mk (jD (e00 * (x / (jH e00 e01 e02 e00 e01 e02)))) (jD (e01 * (x / (jH e00 e01 e02 e00 e01 e02)))) (jD (e02 * (x / (jH e00 e01 e02 e00 e01 e02))))))))] mo (wR (kC uG) <| wM <| wE (kE nS) <| wE (vL nV 0) <| wR (kC uG) <| wR (kC jR) <| wE (kB (yS e00 e01 e02 (qu qE) (qu kZ) (qu qA) (x / (jH e00 e01 e02 e00 e01 e02)) (qV (kU (k := 1002402) hx bn3 (by decide)) (by decide)))) <| wE (kB (by have h := qs_sum ((0 : Int) : Rat) ((0 : Int) : Rat) ((0 : Int) : Rat) (qu bn2) (qu bn2) (qu bn2) (e00 * (x / (jH e00 e01 e02 e00 e01 e02))) (e01 * (x / (jH e00 e01 e02 e00 e01 e02))) (e02 * (x / (jH e00 e01 e02 e00 e01 e02))) (qu bn4) (qu bn5) (qu bn6); rw [(zaddq (e00 * (x / (jH e00 e01 e02 e00 e01 e02)))), (zaddq (e01 * (x / (jH e00 e01 e02 e00 e01 e02)))), (zaddq (e02 * (x / (jH e00 e01 e02 e00 e01 e02))))] at h; exact h)) <| wT (qG uG) <| wZ) ?_
 refine kx [(20, (kD 1))] [] (zE (uE 1 (hr := by decide)) <| zM <| zZ) ?_
 refine jJ (jW.refl _) ?_
 refine jA <| kx [(21, (vb true))] [] (zE (kR true qY) <| zZ) ?_
 refine jA <| jX ?_
 refine jB <| jA <| jE <| jA <| kx [(7, (kD 1)), (8, (.ref 7 0))] [(7, some (bx (jP (jD y))))] (zM <| zE (zS vZ 1) <| zE (dH jR) <| zN (uK 7 qZ uF) <| zM <| zT (qG jR) <| zZ) ?_
 refine jA ?_
 have bn10 : QL (jH e10 e11 e12 e10 e11 e12) 2402 := (jS (n := 400) (k := 2402) qJ qK qI qJ qK qI (by decide))
 refine kd [(9, (.ref 8 0))] [(8, some (bx (jP (jD (y / (jH e10 e11 e12 e10 e11 e12))))))] mo (wR (kC jR) <| wM <| wE (kE nS) <| wE (vL nV 1) <| wR (kC uG) <| wM <| wE (kE nS) <| wE (vL nV 1) <| wR (kC uG) <| wE (kB (qs_dot e10 e11 e12 (qu qJ) (qu qK) (qu qI) e10 e11 e12 (qu qJ) (qu qK) (qu qI))) <| wE (kB (by have h := g_divide (jD y) (jD (jH e10 e11 e12 e10 e11 e12)) y (jH e10 e11 e12 e10 e11 e12) (jY (kA hy) (by decide)) (jY (kA bn10) (by decide)); rw [mM (cK hz1), mN (cK hz1)] at h; exact h)) <| wM <| wE vA <| wE vA <| wN (uK 8 qZ uF) <| wT (qG jR) <| wM <| wZ) ?_
 have bn11 : QL (e10 * (y / (jH e10 e11 e12 e10 e11 e12))) 1002802 := (jG (k := 1002802) qJ (kU (k := 1002402) hy bn10 (by decide)) (by decide))
 have bn12 : QL (e11 * (y / (jH e10 e11 e12 e10 e11 e12))) 1002802 := (jG (k := 1002802) qK (kU (k := 1002402) hy bn10 (by decide)) (by decide))
 have bn13 : QL (e12 * (y / (jH e10 e11 e12 e10 e11 e12))) 1002802 := (jG (k := 1002802) qI (kU (k := 1002402) hy bn10 (by decide)) (by decide))
 refine kd [] [(4, some y4)] mo (wR (kC uG) <| wM <| wE (kE nS) <| wE (vL nV 1) <| wR (kC uG) <| wR (kC jR) <| wE (kB (yS e10 e11 e12 (qu qJ) (qu qK) (qu qI) (y / (jH e10 e11 e12 e10 e11 e12)) (qV (kU (k := 1002402) hy bn10 (by decide)) (by decide)))) <| wE (kB (qs_sum (e00 * (x / (jH e00 e01 e02 e00 e01 e02))) (e01 * (x / (jH e00 e01 e02 e00 e01 e02))) (e02 * (x / (jH e00 e01 e02 e00 e01 e02))) (qu bn7) (qu bn8) (qu bn9) (e10 * (y / (jH e10 e11 e12 e10 e11 e12))) (e11 * (y / (jH e10 e11 e12 e10 e11 e12))) (e12 * (y / (jH e10 e11 e12 e10 e11 e12))) (qu bn11) (qu bn12) (qu bn13))) <| wT (qG uG) <| wZ) ?_
 refine kx [(20, (kD 2))] [] (zE (uE 2 (hr := by decide)) <| zM <| zZ) ?_
 refine jJ (jW.refl _) ?_
 refine jA <| kP (wk (l := [(2, (.ref 0 0)), (4, (.ref 2 0)), (6, (.ref 4 0)), (18, (vl 38 4 jP [(jD x), (jD y), (jD ((1 : Int) : Rat))])), (19, (kD 3)), (20, (kD 2))]) (b := [(0, some y2), (2, some (bx (jK (A3.mk y5 y5 y5)))), (4, some y4)])) ?_
 refine kx [(21, (vb true))] [] (zE (kR true qY) <| zZ) ?_
 refine jA <| jX ?_
 refine jB <| jA <| jE <| jA <| kx [(7, (kD 2)), (8, (.ref 9 0))] [(9, some (bx (jP (jD ((1 : Int) : Rat)))))] (zM <| zE (zS vZ 2) <| zE (dH jR) <| zN (uK 9 qZ uF) <| zM <| zT (qG jR) <| zZ) ?_
 refine jA ?_
 have bn14 : QL (jH e20 e21 e22 e20 e21 e22) 2402 := (jS (n := 400) (k := 2402) qD qB qC qD qB qC (by decide))
 refine kd [(9, (.ref 10 0))] [(10, some (bx (jP (jD (((1 : Int) : Rat) / (jH e20 e21 e22 e20 e21 e22))))))] mo (wR (kC jR) <| wM <| wE (kE nS) <| wE (vL nV 2) <| wR (kC uG) <| wM <| wE (kE nS) <| wE (vL nV 2) <| wR (kC uG) <| wE (kB (qs_dot e20 e21 e22 (qu qD) (qu qB) (qu qC) e20 e21 e22 (qu qD) (qu qB) (qu qC))) <| wE (kB (by have h := g_divide (jD ((1 : Int) : Rat)) (jD (jH e20 e21 e22 e20 e21 e22)) ((1 : Int) : Rat) (jH e20 e21 e22 e20 e21 e22) (jY (kA bn1) (by decide)) (jY (kA bn14) (by decide)); rw [mM (cK hz2), mN (cK hz2)] at h; exact h)) <| wM <| wE vA <| wE vA <| wN (uK 10 qZ uF) <| wT (qG jR) <| wM <| wZ) ?_
 have bn15 : QL (e20 * (((1 : Int) : Rat) / (jH e20 e21 e22 e20 e21 e22))) 2803 := (jG (k := 2803) qD (kU (k := 2403) bn1 bn14 (by decide)) (by decide))
 have bn16 : QL (e21 * (((1 : Int) : Rat) / (jH e20 e21 e22 e20 e21 e22))) 2803 := (jG (k := 2803) qB (kU (k := 2403) bn1 bn14 (by decide)) (by decide))
 have bn17 : QL (e22 * (((1 : Int) : Rat) / (jH e20 e21 e22 e20 e21 e22))) 2803 := (jG (k := 2803) qC (kU (k := 2403) bn1 bn14 (by decide)) (by decide))
 have bn18 : QL (((e00 * (x / (jH e00 e01 e02 e00 e01 e02))) + (e10 * (y / (jH e10 e11 e12 e10 e11 e12)))) + (e20 * (((1 : Int) : Rat) / (jH e20 e21 e22 e20 e21 e22)))) 2008413 := (kQ (k := 2008413) (kQ (k := 2005609) bn7 bn11 (by decide)) bn15 (by decide))
 have bn19 : QL (((e01 * (x / (jH e00 e01 e02 e00 e01 e02))) + (e11 * (y / (jH e10 e11 e12 e10 e11 e12)))) + (e21 * (((1 : Int) : Rat) / (jH e20 e21 e22 e20 e21 e22)))) 2008413 := (kQ (k := 2008413) (kQ (k := 2005609) bn8 bn12 (by decide)) bn16 (by decide))
 have bn20 : QL (((e02 * (x / (jH e00 e01 e02 e00 e01 e02))) + (e12 * (y / (jH e10 e11 e12 e10 e11 e12)))) + (e22 * (((1 : Int) : Rat) / (jH e20 e21 e22 e20 e21 e22)))) 2008413 := (kQ (k := 2008413) (kQ (k := 2005609) bn9 bn13 (by decide)) bn17 (by decide))
 refine kd [] [(4, some y1)] mo (wR (kC uG) <| wM <| wE (kE nS) <| wE (vL nV 2) <| wR (kC uG) <| wR (kC jR) <| wE (kB (yS e20 e21 e22 (qu qD) (qu qB) (qu qC) (((1 : Int) : Rat) / (jH e20 e21 e22 e20 e21 e22)) (qV (kU (k := 2403) bn1 bn14 (by decide)) (by decide)))) <| wE (kB (qs_sum ((e00 * (x / (jH e00 e01 e02 e00 e01 e02))) + (e10 * (y / (jH e10 e11 e12 e10 e11 e12)))) ((e01 * (x / (jH e00 e01 e02 e00 e01 e02))) + (e11 * (y / (jH e10 e11 e12 e10 e11 e12)))) ((e02 * (x / (jH e00 e01 e02 e00 e01 e02))) + (e12 * (y / (jH e10 e11 e12 e10 e11 e12)))) (qV (kQ (k := 2005609) bn7 bn11 (by decide)) (by decide)) (qV (kQ (k := 2005609) bn8 bn12 (by decide)) (by decide)) (qV (kQ (k := 2005609) bn9 bn13 (by decide)) (by decide)) (e20 * (((1 : Int) : Rat) / (jH e20 e21 e22 e20 e21 e22))) (e21 * (((1 : Int) : Rat) / (jH e20 e21 e22 e20 e21 e22))) (e22 * (((1 : Int) : Rat) / (jH e20 e21 e22 e20 e21 e22))) (qu bn15) (qu bn16) (qu bn17))) <| wT (qG uG) <| wZ) ?_
 refine kx [(20, (kD 3))] [] (zE (uE 3 (hr := by decide)) <| zM <| zZ) ?_
 refine jJ (jW.refl _) ?_
 refine jA <| kx [(21, (vb false))] [] (zE (kR false qY) <| zZ) ?_
 refine jA <| jT ?_
 refine kJ <| jA <| kx [] [(2, some y1)] (zR (kC uG) <| zT (qG uG) <| zZ) ?_
 refine jF ⟨_, (qS (cs := (bx (jK (A3.mk (jD (((e00 * (x / (jH e00 e01 e02 e00 e01 e02))) + (e10 * (y / (jH e10 e11 e12 e10 e11 e12)))) + (e20 * (((1 : Int) : Rat) / (jH e20 e21 e22 e20 e21 e22))))) (jD (((e01 * (x / (jH e00 e01 e02 e00 e01 e02))) + (e11 * (y / (jH e10 e11 e12 e10 e11 e12)))) + (e21 * (((1 : Int) : Rat) / (jH e20 e21 e22 e20 e21 e22))))) (jD (((e02 * (x / (jH e00 e01 e02 e00 e01 e02))) + (e12 * (y / (jH e10 e11 e12 e10 e11 e12)))) + (e22 * (((1 : Int) : Rat) / (jH e20 e21 e22 e20 e21 e22))))))))) (d := (jK (A3.mk (jD (((e00 * (x / (jH e00 e01 e02 e00 e01 e02))) + (e10 * (y / (jH e10 e11 e12 e10 e11 e12)))) + (e20 * (((1 : Int) : Rat) / (jH e20 e21 e22 e20 e21 e22))))) (jD (((e01 * (x / (jH e00 e01 e02 e00 e01 e02))) + (e11 * (y / (jH e10 e11 e12 e10 e11 e12)))) + (e21 * (((1 : Int) : Rat) / (jH e20 e21 e22 e20 e21 e22))))) (jD (((e02 * (x / (jH e00 e01 e02 e00 e01 e02))) + (e12 * (y / (jH e10 e11 e12 e10 e11 e12)))) + (e22 * (((1 : Int) : Rat) / (jH e20 e21 e22 e20 e21 e22)))))))) rfl rfl uG rfl rfl .nil), ?_⟩
 rfl
end Go.Proofs.YtapjldagikfcmaaGreat
