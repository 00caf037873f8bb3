/- Part 31 of a proof: rules, plain facts, and functions walked. -/
import Derived.Test.YtbecgnplakngdaaGreatM24
import Derived.Test.YtbecgnplakngdaaGreatM30
import Derived.Test.YtbecgnplakngdaaGreatM20
set_option linter.unusedVariables false
set_option linter.unusedSimpArgs false
namespace Go.Fid
theorem aE {q : Rat} (h : ¬ yT q ≤ 0) : q ≠ 0 := fun e => h (by rw [show yT q = 0 from cB.2 e]; decide)
theorem dot3_ne {a b c : Rat} (h : yU a b c = false) : jM a b c a b c ≠ 0 := fun e => bR h (fX.1 e)
def bM (x y : kG) : Bool := decide (((digR x : Nat) : Int) ≤ 8) && decide (((digR y : Nat) : Int) ≤ 8)
end Go.Fid
namespace Go.Proofs.YtbecgnplakngdaaGreat
open Go.Fid
set_option maxRecDepth 4000
set_option linter.unusedVariables false
set_option linter.unusedSimpArgs false
theorem cb33 : callB Tryz.prog 33 = true := by kernel_rfl
theorem cb50 : callB Tryz.prog 50 = true := by kernel_rfl
theorem cb95 : callB Tryz.prog 95 = true := by kernel_rfl
theorem cb100 : callB Tryz.prog 100 = true := by kernel_rfl
theorem fo47_0 : xJ Tryz.prog 47 0 = some 0 := by kernel_rfl
theorem fo134_0 : xJ Tryz.prog 134 0 = some 0 := by kernel_rfl
theorem fo134_1 : xJ Tryz.prog 134 1 = some 10 := by kernel_rfl
theorem q_side (lx ly lz la lb lc ld lf lu lv rx ry rz ra rb rc rd rf ru rv : Int) (b0 b1 b2 e00 e01 e02 e10 e11 e12 e20 e21 e22 : Rat) (zW : QL b0 3) (zV : QL b1 3) (zU : QL b2 3) (vF : QL e00 400) (vG : QL e01 400) (vE : QL e02 400) (vL : QL e10 400) (vM : QL e11 400) (vN : QL e12 400) (vA : QL e20 400) (vB : QL e21 400) (vC : QL e22 400) (right : Bool) (tx ty tz ta tb tc td tf tu tv : Int) (hsd : (bif right then (kJ.mk (jT.mk rx ry rz) (jN.mk ra rb rc rd) rf (kM.mk ru rv)) else (kJ.mk (jT.mk lx ly lz) (jN.mk la lb lc ld) lf (kM.mk lu lv))) = (kJ.mk (jT.mk tx ty tz) (jN.mk ta tb tc td) tf (kM.mk tu tv))) : kF Tryz.prog 100 [(.cptr 1000001 (qF.cells (eG (RRp.mk (kJ.mk (jT.mk lx ly lz) (jN.mk la lb lc ld) lf (kM.mk lu lv)) (kJ.mk (jT.mk rx ry rz) (jN.mk ra rb rc rd) rf (kM.mk ru rv)) (A3.mk (jC b0) (jC b1) (jC b2)) (A3.mk (A3.mk (jC e00) (jC e01) (jC e02)) (A3.mk (jC e10) (jC e11) (jC e12)) (A3.mk (jC e20) (jC e21) (jC e22)))))) 0), (.val (.bool (right)))] (uZ (kJ.mk (jT.mk tx ty tz) (jN.mk ta tb tc td) tf (kM.mk tu tv))) := by
 refine jL Tryz.func100 rfl cb100 rfl ?_
 show uK _ _ _ _ ⟨[(0, (.d (.cptr 1000001 (qF.cells (eG (RRp.mk (kJ.mk (jT.mk lx ly lz) (jN.mk la lb lc ld) lf (kM.mk lu lv)) (kJ.mk (jT.mk rx ry rz) (jN.mk ra rb rc rd) rf (kM.mk ru rv)) (A3.mk (jC b0) (jC b1) (jC b2)) (A3.mk (A3.mk (jC e00) (jC e01) (jC e02)) (A3.mk (jC e10) (jC e11) (jC e12)) (A3.mk (jC e20) (jC e21) (jC e22)))))) 0))), (1, (vb right))], []⟩
 refine jA <| kx [(4, (.ref 0 0))] [(0, some (bx (uZ (kJ.mk (jT.mk 0 0 0) (jN.mk 0 0 0 0) 0 (kM.mk 0 0)))))] (zN (qH 0 aZ bE) <| zZ) ?_
 refine jA <| jA <| kx [(5, (vb right))] [] (zM <| zZ) ?_
 refine jQ (b := right) rfl (fun h1 => ?_) (fun h1 => ?_)
 ·refine jA <| kx [] [(0, some (bx (uZ (kJ.mk (jT.mk rx ry rz) (jN.mk ra rb rc rd) rf (kM.mk ru rv)))))] (zM <| zE oNd <| zE (oFc fo134_1) <| zE (gZ xX) <| zT (kR xX) <| zZ) ?_
  refine jG ⟨_, (qB (cs := (bx (uZ (kJ.mk (jT.mk rx ry rz) (jN.mk ra rb rc rd) rf (kM.mk ru rv))))) (d := (uZ (kJ.mk (jT.mk rx ry rz) (jN.mk ra rb rc rd) rf (kM.mk ru rv)))) rfl rfl xX rfl rfl .nil), ?_⟩
  rw [← hsd, h1]; rfl
 ·refine jD <| jA <| kx [] [(0, some (bx (uZ (kJ.mk (jT.mk lx ly lz) (jN.mk la lb lc ld) lf (kM.mk lu lv)))))] (zM <| zE oNd <| zE (oFc fo134_0) <| zE (gZ xX) <| zT (kR xX) <| zZ) ?_
  refine jG ⟨_, (qB (cs := (bx (uZ (kJ.mk (jT.mk lx ly lz) (jN.mk la lb lc ld) lf (kM.mk lu lv))))) (d := (uZ (kJ.mk (jT.mk lx ly lz) (jN.mk la lb lc ld) lf (kM.mk lu lv)))) rfl rfl xX rfl rfl .nil), ?_⟩
  rw [← hsd, h1]; rfl
theorem qs_side (lx ly lz la lb lc ld lf lu lv rx ry rz ra rb rc rd rf ru rv : Int) (b0 b1 b2 e00 e01 e02 e10 e11 e12 e20 e21 e22 : Rat) (zW : QL b0 3) (zV : QL b1 3) (zU : QL b2 3) (vF : QL e00 400) (vG : QL e01 400) (vE : QL e02 400) (vL : QL e10 400) (vM : QL e11 400) (vN : QL e12 400) (vA : QL e20 400) (vB : QL e21 400) (vC : QL e22 400) (right : Bool) (tx ty tz ta tb tc td tf tu tv : Int) (hsd : (bif right then (kJ.mk (jT.mk rx ry rz) (jN.mk ra rb rc rd) rf (kM.mk ru rv)) else (kJ.mk (jT.mk lx ly lz) (jN.mk la lb lc ld) lf (kM.mk lu lv))) = (kJ.mk (jT.mk tx ty tz) (jN.mk ta tb tc td) tf (kM.mk tu tv))) : kF Tryz.prog 50 [(yE (RLp.mk (kY.mk (kJ.mk (jT.mk lx ly lz) (jN.mk la lb lc ld) lf (kM.mk lu lv)) (kJ.mk (jT.mk rx ry rz) (jN.mk ra rb rc rd) rf (kM.mk ru rv))) (A3.mk (jC b0) (jC b1) (jC b2)) (A3.mk (A3.mk (jC e00) (jC e01) (jC e02)) (A3.mk (jC e10) (jC e11) (jC e12)) (A3.mk (jC e20) (jC e21) (jC e22))))), (.val (.bool (right)))] (uZ (kJ.mk (jT.mk tx ty tz) (jN.mk ta tb tc td) tf (kM.mk tu tv))) := by
 let y1 := (yE (RLp.mk (kY.mk (kJ.mk (jT.mk lx ly lz) (jN.mk la lb lc ld) lf (kM.mk lu lv)) (kJ.mk (jT.mk rx ry rz) (jN.mk ra rb rc rd) rf (kM.mk ru rv))) (A3.mk (jC b0) (jC b1) (jC b2)) (A3.mk (A3.mk (jC e00) (jC e01) (jC e02)) (A3.mk (jC e10) (jC e11) (jC e12)) (A3.mk (jC e20) (jC e21) (jC e22)))))
 refine jL Tryz.func50 rfl cb50 rfl ?_
 show uK _ _ _ _ ⟨[(0, (.d y1)), (1, (vb right))], []⟩
 refine jA <| kx [(2, (.ref 0 0)), (4, (.ref 1 0))] [(0, some (bx y1)), (1, some (bx (uZ (kJ.mk (jT.mk 0 0 0) (jN.mk 0 0 0 0) 0 (kM.mk 0 0)))))] (zN (uX 0) <| zN (qH 1 aZ bE) <| zZ) ?_
 refine jA <| jA <| kx [(5, (vb right))] [] (zM <| zZ) ?_
 refine jQ (b := right) rfl (fun h1 => ?_) (fun h1 => ?_)
 ·refine jA <| kx [] [(1, some (bx (uZ (kJ.mk (jT.mk rx ry rz) (jN.mk ra rb rc rd) rf (kM.mk ru rv)))))] (zE (kU fo47_0) <| zE (kU nR) <| zR (kA xX) <| zT (kR xX) <| zZ) ?_
  refine jG ⟨_, (qB (cs := (bx (uZ (kJ.mk (jT.mk rx ry rz) (jN.mk ra rb rc rd) rf (kM.mk ru rv))))) (d := (uZ (kJ.mk (jT.mk rx ry rz) (jN.mk ra rb rc rd) rf (kM.mk ru rv)))) rfl rfl xX rfl rfl .nil), ?_⟩
  rw [← hsd, h1]; rfl
 ·refine jD <| jA <| kx [] [(1, some (bx (uZ (kJ.mk (jT.mk lx ly lz) (jN.mk la lb lc ld) lf (kM.mk lu lv)))))] (zE (kU fo47_0) <| zE (kU nO) <| zR (kA xX) <| zT (kR xX) <| zZ) ?_
  refine jG ⟨_, (qB (cs := (bx (uZ (kJ.mk (jT.mk lx ly lz) (jN.mk la lb lc ld) lf (kM.mk lu lv))))) (d := (uZ (kJ.mk (jT.mk lx ly lz) (jN.mk la lb lc ld) lf (kM.mk lu lv)))) rfl rfl xX rfl rfl .nil), ?_⟩
  rw [← hsd, h1]; rfl
theorem q_coo (lx ly lz la lb lc ld lf lu lv rx ry rz ra rb rc rd rf ru rv : Int) (b0 b1 b2 e00 e01 e02 e10 e11 e12 e20 e21 e22 : Rat) (zW : QL b0 3) (zV : QL b1 3) (zU : QL b2 3) (vF : QL e00 400) (vG : QL e01 400) (vE : QL e02 400) (vL : QL e10 400) (vM : QL e11 400) (vN : QL e12 400) (vA : QL e20 400) (vB : QL e21 400) (vC : QL e22 400) (w0 w1 w2 : Rat) (hw0 : QL w0 1000000) (hw1 : QL w1 1000000) (hw2 : QL w2 1000000) (hd : ¬ (yT (jM e20 e21 e22 w0 w1 w2)) ≤ 0) : kF Tryz.prog 95 [(.cptr 1000001 (qF.cells (eG (RRp.mk (kJ.mk (jT.mk lx ly lz) (jN.mk la lb lc ld) lf (kM.mk lu lv)) (kJ.mk (jT.mk rx ry rz) (jN.mk ra rb rc rd) rf (kM.mk ru rv)) (A3.mk (jC b0) (jC b1) (jC b2)) (A3.mk (A3.mk (jC e00) (jC e01) (jC e02)) (A3.mk (jC e10) (jC e11) (jC e12)) (A3.mk (jC e20) (jC e21) (jC e22)))))) 0), (jY (A3.mk (jC w0) (jC w1) (jC w2)))] (.tup [(kI (qI.mk (jC ((jM e00 e01 e02 w0 w1 w2) / (jM e20 e21 e22 w0 w1 w2))) (jC ((jM e10 e11 e12 w0 w1 w2) / (jM e20 e21 e22 w0 w1 w2))))), (jO (jC (jM e20 e21 e22 w0 w1 w2))), (.val (.bool (true)))]) := by
 refine jL Tryz.func95 rfl cb95 rfl ?_
 show uK _ _ _ _ ⟨[(0, (.d (.cptr 1000001 (qF.cells (eG (RRp.mk (kJ.mk (jT.mk lx ly lz) (jN.mk la lb lc ld) lf (kM.mk lu lv)) (kJ.mk (jT.mk rx ry rz) (jN.mk ra rb rc rd) rf (kM.mk ru rv)) (A3.mk (jC b0) (jC b1) (jC b2)) (A3.mk (A3.mk (jC e00) (jC e01) (jC e02)) (A3.mk (jC e10) (jC e11) (jC e12)) (A3.mk (jC e20) (jC e21) (jC e22)))))) 0))), (1, (.d (jY (A3.mk (jC w0) (jC w1) (jC w2)))))], []⟩
 refine jA <| kx [(3, (.ref 0 0)), (4, (.ref 1 0)), (5, (.ref 2 0))] [(0, some (bx (jY (A3.mk (jC w0) (jC w1) (jC w2))))), (1, some (bx (kI (qI.mk (kG.mk (jF.mk false []) (jF.mk false [])) (kG.mk (jF.mk false []) (jF.mk false [])))))), (2, some (bx (jO (kG.mk (jF.mk false []) (jF.mk false [])))))] (zN (uX 0) <| zN (qH 1 ze56 zo56) <| zN (qH 2 qM qR) <| zM <| zZ) ?_
 refine jA ?_
 have bn1 : QL (jM e00 e01 e02 w0 w1 w2) 6000002 := (jR (n := 1000000) (k := 6000002) (qu vF) (qu vG) (qu vE) hw0 hw1 hw2 (by decide))
 have bn2 : QL (jM e10 e11 e12 w0 w1 w2) 6000002 := (jR (n := 1000000) (k := 6000002) (qu vL) (qu vM) (qu vN) hw0 hw1 hw2 (by decide))
 have bn3 : QL (jM e20 e21 e22 w0 w1 w2) 6000002 := (jR (n := 1000000) (k := 6000002) (qu vA) (qu vB) (qu vC) hw0 hw1 hw2 (by decide))
 refine kd [(7, (.ref 3 0))] [(3, some (bx (jY (A3.mk (jC (jM e00 e01 e02 w0 w1 w2)) (jC (jM e10 e11 e12 w0 w1 w2)) (jC (jM e20 e21 e22 w0 w1 w2))))))] mo (wM <| wE oNd <| wE (oFc cW) <| wE (gZ hC) <| wR (kA uN) <| wE (kC (q_times e00 e01 e02 e10 e11 e12 e20 e21 e22 (qu vF) (qu vG) (qu vE) (qu vL) (qu vM) (qu vN) (qu vA) (qu vB) (qu vC) w0 w1 w2 (qu hw0) (qu hw1) (qu hw2))) <| wN (qH 3 cH cG) <| wT (kR uN) <| wZ) ?_
 refine jA <| jA <| kx [(21, (vb false))] [] (zE (uJ uP 2) <| zR (kA jS) <| zE (kC (f_sign (jC (jM e20 e21 e22 w0 w1 w2)) (jM e20 e21 e22 w0 w1 w2) (kH (kL bn3) (by decide)))) <| zE (qY false oLe (by exact decide_eq_false hd)) <| zZ) ?_
 refine kO ?_
 refine jD <| jA <| kx [(8, (.ref 4 0))] [(4, some (bx (jO (jC ((jM e00 e01 e02 w0 w1 w2) / (jM e20 e21 e22 w0 w1 w2))))))] (zE (uJ uP 0) <| zR (kA jS) <| zE (uJ uP 2) <| zR (kA jS) <| zE (kC (by have h := f_divide (jC (jM e00 e01 e02 w0 w1 w2)) (jC (jM e20 e21 e22 w0 w1 w2)) (jM e00 e01 e02 w0 w1 w2) (jM e20 e21 e22 w0 w1 w2) (kH (kL bn1) (by decide)) (kH (kL bn3) (by decide)); rw [divR_ne (aE hd), divC_ne (aE hd)] at h; exact h)) <| zM <| zE uH <| zE uH <| zN (qH 4 qM qR) <| zT (kR jS) <| zM <| zZ) ?_
 refine jA <| kx [(10, (.ref 5 0))] [(5, some (bx (jO (jC ((jM e10 e11 e12 w0 w1 w2) / (jM e20 e21 e22 w0 w1 w2))))))] (zE (uJ uP 1) <| zR (kA jS) <| zE (uJ uP 2) <| zR (kA jS) <| zE (kC (by have h := f_divide (jC (jM e10 e11 e12 w0 w1 w2)) (jC (jM e20 e21 e22 w0 w1 w2)) (jM e10 e11 e12 w0 w1 w2) (jM e20 e21 e22 w0 w1 w2) (kH (kL bn2) (by decide)) (kH (kL bn3) (by decide)); rw [divR_ne (aE hd), divC_ne (aE hd)] at h; exact h)) <| zM <| zE uH <| zE uH <| zN (qH 5 qM qR) <| zT (kR jS) <| zM <| zZ) ?_
 refine jA <| kd [(6, (vb true))] [(1, some (bx (kI (qI.mk (jC ((jM e00 e01 e02 w0 w1 w2) / (jM e20 e21 e22 w0 w1 w2))) (jC ((jM e10 e11 e12 w0 w1 w2) / (jM e20 e21 e22 w0 w1 w2))))))), (2, some (bx (jO (jC (jM e20 e21 e22 w0 w1 w2)))))] mo (wR (kA jS) <| wR (kA jS) <| wE (oBd pl56 ze56 zo56) <| wE (uJ uP 2) <| wR (kA jS) <| wT (kR nH) <| wT (kR jS) <| wM <| wZ) ?_
 refine jG ⟨_, (qB (cs := (bx (kI (qI.mk (jC ((jM e00 e01 e02 w0 w1 w2) / (jM e20 e21 e22 w0 w1 w2))) (jC ((jM e10 e11 e12 w0 w1 w2) / (jM e20 e21 e22 w0 w1 w2))))))) (d := (kI (qI.mk (jC ((jM e00 e01 e02 w0 w1 w2) / (jM e20 e21 e22 w0 w1 w2))) (jC ((jM e10 e11 e12 w0 w1 w2) / (jM e20 e21 e22 w0 w1 w2)))))) rfl rfl nH rfl rfl (qB (cs := (bx (jO (jC (jM e20 e21 e22 w0 w1 w2))))) (d := (jO (jC (jM e20 e21 e22 w0 w1 w2)))) rfl rfl jS rfl rfl (.tmp (d := (.val (.bool (true)))) rfl .nil))), ?_⟩
 rfl
theorem qs_cooN (lx ly lz la lb lc ld lf lu lv rx ry rz ra rb rc rd rf ru rv : Int) (b0 b1 b2 e00 e01 e02 e10 e11 e12 e20 e21 e22 : Rat) (zW : QL b0 3) (zV : QL b1 3) (zU : QL b2 3) (vF : QL e00 400) (vG : QL e01 400) (vE : QL e02 400) (vL : QL e10 400) (vM : QL e11 400) (vN : QL e12 400) (vA : QL e20 400) (vB : QL e21 400) (vC : QL e22 400) (w0 w1 w2 : Rat) (hw0 : QL w0 1000000) (hw1 : QL w1 1000000) (hw2 : QL w2 1000000) (hd : yT (jM e20 e21 e22 w0 w1 w2) ≤ 0) : kF Tryz.prog 33 [(yE (RLp.mk (kY.mk (kJ.mk (jT.mk lx ly lz) (jN.mk la lb lc ld) lf (kM.mk lu lv)) (kJ.mk (jT.mk rx ry rz) (jN.mk ra rb rc rd) rf (kM.mk ru rv))) (A3.mk (jC b0) (jC b1) (jC b2)) (A3.mk (A3.mk (jC e00) (jC e01) (jC e02)) (A3.mk (jC e10) (jC e11) (jC e12)) (A3.mk (jC e20) (jC e21) (jC e22))))), (jY (A3.mk (jC w0) (jC w1) (jC w2)))] (.tup [(kI (qI.mk (kG.mk (jF.mk false []) (jF.mk false [])) (kG.mk (jF.mk false []) (jF.mk false [])))), (.val (.int .i64 (20)))]) := by
 let y1 := (yE (RLp.mk (kY.mk (kJ.mk (jT.mk lx ly lz) (jN.mk la lb lc ld) lf (kM.mk lu lv)) (kJ.mk (jT.mk rx ry rz) (jN.mk ra rb rc rd) rf (kM.mk ru rv))) (A3.mk (jC b0) (jC b1) (jC b2)) (A3.mk (A3.mk (jC e00) (jC e01) (jC e02)) (A3.mk (jC e10) (jC e11) (jC e12)) (A3.mk (jC e20) (jC e21) (jC e22)))))
 refine jL Tryz.func33 rfl cb33 rfl ?_
 show uK _ _ _ _ ⟨[(0, (.d y1)), (1, (.d (jY (A3.mk (jC w0) (jC w1) (jC w2)))))], []⟩
 refine jA <| kx [(2, (.ref 0 0)), (3, (.ref 1 0)), (4, (.ref 2 0))] [(0, some (bx y1)), (1, some (bx (jY (A3.mk (jC w0) (jC w1) (jC w2))))), (2, some (bx (kI (qI.mk (kG.mk (jF.mk false []) (jF.mk false [])) (kG.mk (jF.mk false []) (jF.mk false []))))))] (zN (uX 0) <| zN (uX 1) <| zN (qH 2 ze56 zo56) <| zM <| zZ) ?_
 refine jA ?_
 have bn1 : QL (jM e20 e21 e22 w0 w1 w2) 6000002 := (jR (n := 1000000) (k := 6000002) (qu vA) (qu vB) (qu vC) hw0 hw1 hw2 (by decide))
 refine kx [(6, (.ref 3 0))] [(3, some (bx (jO (jC (jM e20 e21 e22 w0 w1 w2)))))] (zE (kU aY) <| zE (uJ ar45 2) <| zR (kA xR) <| zR (kA xR) <| zE (kC (qs_dot e20 e21 e22 (qu vA) (qu vB) (qu vC) w0 w1 w2 (qu hw0) (qu hw1) (qu hw2))) <| zN (qH 3 qM qR) <| zT (kR jS) <| zZ) ?_
 refine jA <| jA <| kx [(18, (vb true))] [] (zR (kA jS) <| zE (kC (g_sign (jC (jM e20 e21 e22 w0 w1 w2)) (jM e20 e21 e22 w0 w1 w2) (kH (kL bn1) (by decide)))) <| zE (qY true oLe (by exact decide_eq_true hd)) <| zZ) ?_
 refine kD ?_
 refine jA <| kx [(5, (kE 20))] [(2, some (bx (kI (qI.mk (kG.mk (jF.mk false []) (jF.mk false [])) (kG.mk (jF.mk false []) (jF.mk false []))))))] (zE (oBd pl56 ze56 zo56) <| zT (kR nH) <| zM <| zZ) ?_
 refine jG ⟨_, (qB (cs := (bx (kI (qI.mk (kG.mk (jF.mk false []) (jF.mk false [])) (kG.mk (jF.mk false []) (jF.mk false [])))))) (d := (kI (qI.mk (kG.mk (jF.mk false []) (jF.mk false [])) (kG.mk (jF.mk false []) (jF.mk false []))))) rfl rfl nH rfl rfl (.tmp (d := (.val (.int .i64 (((20 : Nat) : Int))))) rfl .nil)), ?_⟩
 rfl
theorem qs_coo (lx ly lz la lb lc ld lf lu lv rx ry rz ra rb rc rd rf ru rv : Int) (b0 b1 b2 e00 e01 e02 e10 e11 e12 e20 e21 e22 : Rat) (zW : QL b0 3) (zV : QL b1 3) (zU : QL b2 3) (vF : QL e00 400) (vG : QL e01 400) (vE : QL e02 400) (vL : QL e10 400) (vM : QL e11 400) (vN : QL e12 400) (vA : QL e20 400) (vB : QL e21 400) (vC : QL e22 400) (w0 w1 w2 : Rat) (hw0 : QL w0 1000000) (hw1 : QL w1 1000000) (hw2 : QL w2 1000000) (hd : ¬ (yT (jM e20 e21 e22 w0 w1 w2)) ≤ 0) : kF Tryz.prog 33 [(yE (RLp.mk (kY.mk (kJ.mk (jT.mk lx ly lz) (jN.mk la lb lc ld) lf (kM.mk lu lv)) (kJ.mk (jT.mk rx ry rz) (jN.mk ra rb rc rd) rf (kM.mk ru rv))) (A3.mk (jC b0) (jC b1) (jC b2)) (A3.mk (A3.mk (jC e00) (jC e01) (jC e02)) (A3.mk (jC e10) (jC e11) (jC e12)) (A3.mk (jC e20) (jC e21) (jC e22))))), (jY (A3.mk (jC w0) (jC w1) (jC w2)))] (.tup [(kI (qI.mk (jC ((jM e00 e01 e02 w0 w1 w2) / (jM e20 e21 e22 w0 w1 w2))) (jC ((jM e10 e11 e12 w0 w1 w2) / (jM e20 e21 e22 w0 w1 w2))))), (.val (.int .i64 (0)))]) := by
 let y1 := (yE (RLp.mk (kY.mk (kJ.mk (jT.mk lx ly lz) (jN.mk la lb lc ld) lf (kM.mk lu lv)) (kJ.mk (jT.mk rx ry rz) (jN.mk ra rb rc rd) rf (kM.mk ru rv))) (A3.mk (jC b0) (jC b1) (jC b2)) (A3.mk (A3.mk (jC e00) (jC e01) (jC e02)) (A3.mk (jC e10) (jC e11) (jC e12)) (A3.mk (jC e20) (jC e21) (jC e22)))))
 refine jL Tryz.func33 rfl cb33 rfl ?_
 show uK _ _ _ _ ⟨[(0, (.d y1)), (1, (.d (jY (A3.mk (jC w0) (jC w1) (jC w2)))))], []⟩
 refine jA <| kx [(2, (.ref 0 0)), (3, (.ref 1 0)), (4, (.ref 2 0))] [(0, some (bx y1)), (1, some (bx (jY (A3.mk (jC w0) (jC w1) (jC w2))))), (2, some (bx (kI (qI.mk (kG.mk (jF.mk false []) (jF.mk false [])) (kG.mk (jF.mk false []) (jF.mk false []))))))] (zN (uX 0) <| zN (uX 1) <| zN (qH 2 ze56 zo56) <| zM <| zZ) ?_
 refine jA ?_
 have bn1 : QL (jM e20 e21 e22 w0 w1 w2) 6000002 := (jR (n := 1000000) (k := 6000002) (qu vA) (qu vB) (qu vC) hw0 hw1 hw2 (by decide))
 refine kx [(6, (.ref 3 0))] [(3, some (bx (jO (jC (jM e20 e21 e22 w0 w1 w2)))))] (zE (kU aY) <| zE (uJ ar45 2) <| zR (kA xR) <| zR (kA xR) <| zE (kC (qs_dot e20 e21 e22 (qu vA) (qu vB) (qu vC) w0 w1 w2 (qu hw0) (qu hw1) (qu hw2))) <| zN (qH 3 qM qR) <| zT (kR jS) <| zZ) ?_
 refine jA <| jA <| kx [(18, (vb false))] [] (zR (kA jS) <| zE (kC (g_sign (jC (jM e20 e21 e22 w0 w1 w2)) (jM e20 e21 e22 w0 w1 w2) (kH (kL bn1) (by decide)))) <| zE (qY false oLe (by exact decide_eq_false hd)) <| zZ) ?_
 refine kO ?_
 refine jD <| jA ?_
 have bn2 : QL (jM e00 e01 e02 w0 w1 w2) 6000002 := (jR (n := 1000000) (k := 6000002) (qu vF) (qu vG) (qu vE) hw0 hw1 hw2 (by decide))
 refine kd [(7, (.ref 4 0))] [(4, some (bx (jO (jC ((jM e00 e01 e02 w0 w1 w2) / (jM e20 e21 e22 w0 w1 w2))))))] mo (wE (kU aY) <| wE (uJ ar45 0) <| wR (kA xR) <| wR (kA xR) <| wE (kC (qs_dot e00 e01 e02 (qu vF) (qu vG) (qu vE) w0 w1 w2 (qu hw0) (qu hw1) (qu hw2))) <| wR (kA jS) <| wE (kC (by have h := g_divide (jC (jM e00 e01 e02 w0 w1 w2)) (jC (jM e20 e21 e22 w0 w1 w2)) (jM e00 e01 e02 w0 w1 w2) (jM e20 e21 e22 w0 w1 w2) (kH (kL bn2) (by decide)) (kH (kL bn1) (by decide)); rw [divR_ne (aE hd), divC_ne (aE hd)] at h; exact h)) <| wM <| wE uH <| wE uH <| wN (qH 4 qM qR) <| wT (kR jS) <| wM <| wZ) ?_
 refine jA ?_
 have bn3 : QL (jM e10 e11 e12 w0 w1 w2) 6000002 := (jR (n := 1000000) (k := 6000002) (qu vL) (qu vM) (qu vN) hw0 hw1 hw2 (by decide))
 refine kd [(9, (.ref 5 0))] [(5, some (bx (jO (jC ((jM e10 e11 e12 w0 w1 w2) / (jM e20 e21 e22 w0 w1 w2))))))] mo (wE (kU aY) <| wE (uJ ar45 1) <| wR (kA xR) <| wR (kA xR) <| wE (kC (qs_dot e10 e11 e12 (qu vL) (qu vM) (qu vN) w0 w1 w2 (qu hw0) (qu hw1) (qu hw2))) <| wR (kA jS) <| wE (kC (by have h := g_divide (jC (jM e10 e11 e12 w0 w1 w2)) (jC (jM e20 e21 e22 w0 w1 w2)) (jM e10 e11 e12 w0 w1 w2) (jM e20 e21 e22 w0 w1 w2) (kH (kL bn3) (by decide)) (kH (kL bn1) (by decide)); rw [divR_ne (aE hd), divC_ne (aE hd)] at h; exact h)) <| wM <| wE uH <| wE uH <| wN (qH 5 qM qR) <| wT (kR jS) <| wM <| wZ) ?_
 refine jA <| kx [(5, (kE 0))] [(2, some (bx (kI (qI.mk (jC ((jM e00 e01 e02 w0 w1 w2) / (jM e20 e21 e22 w0 w1 w2))) (jC ((jM e10 e11 e12 w0 w1 w2) / (jM e20 e21 e22 w0 w1 w2)))))))] (zR (kA jS) <| zR (kA jS) <| zE (oBd pl56 ze56 zo56) <| zT (kR nH) <| zM <| zZ) ?_
 refine jG ⟨_, (qB (cs := (bx (kI (qI.mk (jC ((jM e00 e01 e02 w0 w1 w2) / (jM e20 e21 e22 w0 w1 w2))) (jC ((jM e10 e11 e12 w0 w1 w2) / (jM e20 e21 e22 w0 w1 w2))))))) (d := (kI (qI.mk (jC ((jM e00 e01 e02 w0 w1 w2) / (jM e20 e21 e22 w0 w1 w2))) (jC ((jM e10 e11 e12 w0 w1 w2) / (jM e20 e21 e22 w0 w1 w2)))))) rfl rfl nH rfl rfl (.tmp (d := (.val (.int .i64 (((0 : Nat) : Int))))) rfl .nil)), ?_⟩
 rfl
end Go.Proofs.YtbecgnplakngdaaGreat
namespace Go.Proofs.YtbecgnplakngdaaGreat
open Go.Fid
set_option maxRecDepth 4000
set_option linter.unusedVariables false
set_option linter.unusedSimpArgs false
theorem cb31 : callB Tryz.prog 31 = true := by kernel_rfl
theorem cb40 : callB Tryz.prog 40 = true := by kernel_rfl
theorem cb42 : callB Tryz.prog 42 = true := by kernel_rfl
theorem qs_canT (x y : Rat) (hx : QL x 1000000) (hy : QL y 1000000) : kF Tryz.prog 42 [(kI (qI.mk (jC x) (jC y)))] (.val (.int .i64 (0))) := by
 refine jL Tryz.func42 rfl cb42 rfl ?_
 show uK _ _ _ _ ⟨[(0, (.d (kI (qI.mk (jC x) (jC y)))))], []⟩
 refine jA <| kx [(1, (.ref 0 0))] [(0, some (bx (kI (qI.mk (jC x) (jC y)))))] (zN (uX 0) <| zM <| zZ) ?_
 refine jA <| jA <| kx [(12, (vb false))] [] (zE (kU bC) <| zR (kA jS) <| zE (qY true (kC (iI (jC x) x (kH (kL hx) (by decide)))) (by exact (yH x))) <| zE eX <| zM <| zE (kU bA) <| zR (kA jS) <| zE (qY true (kC (iI (jC y) y (kH (kL hy) (by decide)))) (by exact (yH y))) <| zE eX <| zE fC <| zZ) ?_
 refine kO ?_
 refine jD <| jA <| kx [(2, (kE 0))] [] (zM <| zZ) ?_
 refine jG ⟨_, (.tmp (d := (.val (.int .i64 (((0 : Nat) : Int))))) rfl .nil), ?_⟩
 rfl
theorem qs_canF (p : qI) (x y : Rat) (hx : eT p.x x 1000000) (hy : eT p.y y 1000000) (hv : (uV p.x && uV p.y) = false) : kF Tryz.prog 42 [(kI p)] (.val (.int .i64 (1))) := by
 refine jL Tryz.func42 rfl cb42 rfl ?_
 show uK _ _ _ _ ⟨[(0, (.d (kI p)))], []⟩
 refine jA <| kx [(1, (.ref 0 0))] [(0, some (bx (kI p)))] (zN (uX 0) <| zM <| zZ) ?_
 refine jA <| jA <| kx [(12, (vb (!(uV p.x) || !(uV p.y))))] [] ?_ ?_
 ·refine zE (kU bC) <| zR (kA jS) <| zE (kC (iI p.x x (kH hx (by decide)))) <| zE eX <| zE (oV (vb (!(uV p.x))) (xD (by kernel_rfl))) <| ?_
  rcases hb1 : (!(uV p.x)) with _ | _
  ·exact zE (kU bA) <| zR (kA jS) <| zE (kC (iI p.y y (kH hy (by decide)))) <| zE eX <| zE oPo <| zZ
  ·exact zK <| zK <| zK <| zK <| zE bG <| zZ
 refine jQ (b := (!(uV p.x) || !(uV p.y))) rfl (fun h2 => ?_) (fun h2 => ?_)
 ·refine jA <| kx [(2, (kE 1))] [] (zM <| zZ) ?_
  refine jG ⟨_, (.tmp (d := (.val (.int .i64 (((1 : Nat) : Int))))) rfl .nil), ?_⟩
  first | rfl | (rw [hv]; rfl) | (exfalso; revert h2 hv; cases uV p.x <;> cases uV p.y <;> simp)
 ·refine jD <| jA <| kx [(2, (kE 0))] [] (zM <| zZ) ?_
  refine jG ⟨_, (.tmp (d := (.val (.int .i64 (((0 : Nat) : Int))))) rfl .nil), ?_⟩
  first | rfl | (rw [hv]; rfl) | (exfalso; revert h2 hv; cases uV p.x <;> cases uV p.y <;> simp)
theorem bY (p : qI) (x y : Rat) (hx : eT p.x x 140737488355328) (hy : eT p.y y 140737488355328) : kF Tryz.prog 40 [(kI p)] (.val (.bool ((bM p.x p.y)))) := by
 refine jL Tryz.func40 rfl cb40 rfl ?_
 show uK _ _ _ _ ⟨[(0, (.d (kI p)))], []⟩
 refine jA <| kx [(1, (.ref 0 0))] [(0, some (bx (kI p)))] (zN (uX 0) <| zM <| zZ) ?_
 refine jA <| kx [(2, (vb (decide ((((digR p.x) : Nat) : Int) ≤ 8) && decide ((((digR p.y) : Nat) : Int) ≤ 8))))] [] ?_ ?_
 ·refine zE (kU bC) <| zR (kA jS) <| zE (kC (g_digits p.x x hx)) <| zE oLe <| zE (oV (vb (decide ((((digR p.x) : Nat) : Int) ≤ 8))) (xD (by kernel_rfl))) <| ?_
  rcases hb1 : (decide ((((digR p.x) : Nat) : Int) ≤ 8)) with _ | _
  ·replace hb1 := of_decide_eq_false hb1
   exact zK <| zK <| zK <| zK <| zE fC <| zM <| zZ
  ·replace hb1 := of_decide_eq_true hb1
   exact zE (kU bA) <| zR (kA jS) <| zE (kC (g_digits p.y y hy)) <| zE oLe <| zE oPa <| zM <| zZ
 refine jG ⟨_, (.tmp (d := (.val (.bool ((decide ((((digR p.x) : Nat) : Int) ≤ 8) && decide ((((digR p.y) : Nat) : Int) ≤ 8)))))) rfl .nil), ?_⟩
 rfl
theorem qs_samep (x y : Rat) (hx : QL x 1000000) (hy : QL y 1000000) (u v : Rat) (hu : QL u 1000000) (hv : QL v 1000000) (hxu : x = u) (hyv : y = v) : kF Tryz.prog 31 [(kI (qI.mk (jC x) (jC y))), (kI (qI.mk (jC u) (jC v)))] (.val (.bool (true))) := by
 refine jL Tryz.func31 rfl cb31 rfl ?_
 show uK _ _ _ _ ⟨[(0, (.d (kI (qI.mk (jC x) (jC y))))), (1, (.d (kI (qI.mk (jC u) (jC v)))))], []⟩
 refine jA <| kx [(2, (.ref 0 0)), (3, (.ref 1 0))] [(0, some (bx (kI (qI.mk (jC x) (jC y))))), (1, some (bx (kI (qI.mk (jC u) (jC v)))))] (zN (uX 0) <| zN (uX 1) <| zM <| zZ) ?_
 refine jA <| kx [(4, (vb true))] [] (zE (kU bC) <| zR (kA jS) <| zE (kU bC) <| zR (kA jS) <| zE (qY true (kC (by have h := g_same (jC x) (jC u) x u (kH (kL hx) (by decide)) (kH (kL hu) (by decide)); rw [sameR_of] at h; exact h)) (by exact decide_eq_true hxu)) <| zM <| zE (kU bA) <| zR (kA jS) <| zE (kU bA) <| zR (kA jS) <| zE (qY true (kC (by have h := g_same (jC y) (jC v) y v (kH (kL hy) (by decide)) (kH (kL hv) (by decide)); rw [sameR_of] at h; exact h)) (by exact decide_eq_true hyv)) <| zE bG <| zM <| zZ) ?_
 refine jG ⟨_, (.tmp (d := (.val (.bool (true)))) rfl .nil), ?_⟩
 rfl
end Go.Proofs.YtbecgnplakngdaaGreat
namespace Go.Proofs.YtbecgnplakngdaaGreat
open Go.Fid
set_option maxRecDepth 4000
set_option linter.unusedVariables false
set_option linter.unusedSimpArgs false
theorem cb29 : callB Tryz.prog 29 = true := by kernel_rfl
theorem q_prj (lx ly lz la lb lc ld lf lu lv rx ry rz ra rb rc rd rf ru rv : Int) (px py pz : Int) (hpx : -1048576 ≤ px ∧ px ≤ 1048576) (hpy : -1048576 ≤ py ∧ py ≤ 1048576) (hpz : -1048576 ≤ pz ∧ pz ≤ 1048576) (b0 b1 b2 e00 e01 e02 e10 e11 e12 e20 e21 e22 : Rat) (hF : RFr lx ly lz la lb lc ld rx ry rz ra rb rc rd b0 b1 b2 e00 e01 e02 e10 e11 e12 e20 e21 e22) (zW : QL b0 3) (zV : QL b1 3) (zU : QL b2 3) (vF : QL e00 400) (vG : QL e01 400) (vE : QL e02 400) (vL : QL e10 400) (vM : QL e11 400) (vN : QL e12 400) (vA : QL e20 400) (vB : QL e21 400) (vC : QL e22 400) (r0 : Rat) (hr0 : ((px - lx : Int) : Rat) = r0) (r1 : Rat) (hr1 : ((py - ly : Int) : Rat) = r1) (r2 : Rat) (hr2 : ((pz - lz : Int) : Rat) = r2) (hl : uL lx ly lz lu lv lf la lb lc ld = 0) (hr : uL rx ry rz ru rv rf ra rb rc rd = 0) (hup : upV la lb lc ld ra rb rc rd b0 b1 b2 = false) (hd : ¬ (yT (jM e20 e21 e22 r0 r1 r2)) ≤ 0) : kF Tryz.prog 29 [(qP (kY.mk (kJ.mk (jT.mk lx ly lz) (jN.mk la lb lc ld) lf (kM.mk lu lv)) (kJ.mk (jT.mk rx ry rz) (jN.mk ra rb rc rd) rf (kM.mk ru rv)))), (fR (jT.mk px py pz))] (.tup [(kI (qI.mk (jC ((jM e00 e01 e02 r0 r1 r2) / (jM e20 e21 e22 r0 r1 r2))) (jC ((jM e10 e11 e12 r0 r1 r2) / (jM e20 e21 e22 r0 r1 r2))))), (jO (jC ((jM e00 e01 e02 b0 b1 b2) / (jM e20 e21 e22 r0 r1 r2)))), (.val (.int .i64 (0)))]) := by
 have hbl := xF hl
 have hbr := xF hr
 obtain ⟨hlx, hly, hlz, hlu, hlv, hlf, hlq⟩ := hbl
 obtain ⟨hrx, hry, hrz, hru, hrv, hrf, hrq⟩ := hbr
 obtain ⟨hla, hlb, hlc, hld, -⟩ := xG hlq
 obtain ⟨hra, hrb, hrc, hrd, -⟩ := xG hrq
 have hnl := nA hla hlb hlc hld
 have hnr := nA hra hrb hrc hrd
 have hz0 := fr_z0 hF hup
 have hz1 := fr_z1 hF hup
 have hz2 := fr_z2 hF hup
 let y3 := (kG.mk (jF.mk false []) (jF.mk false []))
 let y2 := (qP (kY.mk (kJ.mk (jT.mk lx ly lz) (jN.mk la lb lc ld) lf (kM.mk lu lv)) (kJ.mk (jT.mk rx ry rz) (jN.mk ra rb rc rd) rf (kM.mk ru rv))))
 let y1 := (eG (RRp.mk (kJ.mk (jT.mk lx ly lz) (jN.mk la lb lc ld) lf (kM.mk lu lv)) (kJ.mk (jT.mk rx ry rz) (jN.mk ra rb rc rd) rf (kM.mk ru rv)) (A3.mk (jC b0) (jC b1) (jC b2)) (A3.mk (A3.mk (jC e00) (jC e01) (jC e02)) (A3.mk (jC e10) (jC e11) (jC e12)) (A3.mk (jC e20) (jC e21) (jC e22)))))
 refine jL Tryz.func29 rfl cb29 rfl ?_
 show uK _ _ _ _ ⟨[(0, (.d y2)), (1, (.d (fR (jT.mk px py pz))))], []⟩
 refine jA <| kx [(2, (.ref 0 0)), (3, (.ref 1 0)), (4, (.ref 2 0)), (5, (.ref 3 0))] [(0, some (bx y2)), (1, some (bx (fR (jT.mk px py pz)))), (2, some (bx (kI (qI.mk y3 y3)))), (3, some (bx (jO y3)))] (zN (uX 0) <| zN (uX 1) <| zN (qH 2 ze56 zo56) <| zN (qH 3 qM qR) <| zM <| zZ) ?_
 refine jA <| kx [(7, (.d (.cptr 1000001 (qF.cells y1) 0))), (8, (vi 0))] [] (zR (kA bQ) <| zE (kC (q_rec lx ly lz la lb lc ld lf lu lv rx ry rz ra rb rc rd rf ru rv b0 b1 b2 e00 e01 e02 e10 e11 e12 e20 e21 e22 hF zW zV zU vF vG vE vL vM vN vA vB vC hl hr hup)) <| zM <| zE uH <| zE uH <| zM <| zM <| zZ) ?_
 refine jA <| jA <| kx [(23, (vb false))] [] (zM <| zE mR <| zZ) ?_
 refine kO ?_
 refine jD <| jA <| jA <| kx [(33, (vl 3 1 mW [px, py, pz])), (34, (kE 3)), (35, (kE 0))] [] (zE (kU cO) <| zR (uM vW) <| zE (kU dE) <| zR (uM vW) <| zE (kU dI) <| zR (uM vW) <| zE (cP nB ze3 zo3) <| zE (fT nB 3) <| zM <| zZ) ?_
 refine jE <| qE 20 ?_
 refine qK <| jA <| kx [(36, (vb true))] [] (zE (qY true qS) <| zZ) ?_
 refine jA <| kD ?_
 refine jD <| jA <| jE <| jA <| kx [(10, (vi px))] [] (zE (zD nB 0) <| zE (yN vW) <| zM <| zZ) ?_
 refine jA <| kx [(44, (vb false))] [] (zM <| zE (qY false qS (by exact decide_eq_false (by omega))) <| zM <| zM <| zE (qY false bO (by exact decide_eq_false (by omega))) <| zE fC <| zZ) ?_
 refine kO ?_
 refine jD <| kx [(35, (kE 1))] [] (zE (qQ 1 (hr := by decide)) <| zM <| zZ) ?_
 refine jJ (jZ.refl _) ?_
 refine jA <| kx [(36, (vb true))] [] (zE (qY true qS) <| zZ) ?_
 refine jA <| kD ?_
 refine jD <| jA <| jE <| jA <| kx [(10, (vi py))] [] (zE (zD nB 1) <| zE (yN vW) <| zM <| zZ) ?_
 refine jA <| kx [(44, (vb false))] [] (zM <| zE (qY false qS (by exact decide_eq_false (by omega))) <| zM <| zM <| zE (qY false bO (by exact decide_eq_false (by omega))) <| zE fC <| zZ) ?_
 refine kO ?_
 refine jD <| kx [(35, (kE 2))] [] (zE (qQ 2 (hr := by decide)) <| zM <| zZ) ?_
 refine jJ (jZ.refl _) ?_
 refine jA <| kx [(36, (vb true))] [] (zE (qY true qS) <| zZ) ?_
 refine jA <| kD ?_
 refine jD <| jA <| jE <| jA <| kx [(10, (vi pz))] [] (zE (zD nB 2) <| zE (yN vW) <| zM <| zZ) ?_
 refine jA <| kX (wk (l := [(3, (.ref 1 0)), (4, (.ref 2 0)), (5, (.ref 3 0)), (7, (.d (.cptr 1000001 (qF.cells y1) 0))), (10, (vi pz)), (33, (vl 3 1 mW [px, py, pz])), (34, (kE 3)), (35, (kE 2))]) (b := [(1, some (bx (fR (jT.mk px py pz)))), (2, some (bx (kI (qI.mk y3 y3)))), (3, some (bx (jO y3)))])) ?_
 refine kx [(44, (vb false))] [] (zM <| zE (qY false qS (by exact decide_eq_false (by omega))) <| zM <| zM <| zE (qY false bO (by exact decide_eq_false (by omega))) <| zE fC <| zZ) ?_
 refine kO ?_
 refine jD <| kx [(35, (kE 3))] [] (zE (qQ 3 (hr := by decide)) <| zM <| zZ) ?_
 refine jJ (jZ.refl _) ?_
 refine jA <| kx [(36, (vb false))] [] (zE (qY false qS) <| zZ) ?_
 refine jA <| kO ?_
 refine kQ <| jA <| kx [(11, (.ref 4 0))] [(4, some (bx (fR (jT.mk lx ly lz))))] (zM <| zE oNd <| zE (oFc fo134_0) <| zE (oFc yZ) <| zE (gZ sh23) <| zN (qH 4 ze23 zo23) <| zT (kR sh23) <| zZ) ?_
 refine jA ?_
 have bn1 : QL r0 3 := (jX (Eq.symm hr0) (qi (px - lx)))
 have bn2 : QL r1 3 := (jX (Eq.symm hr1) (qi (py - ly)))
 have bn3 : QL r2 3 := (jX (Eq.symm hr2) (qi (pz - lz)))
 have bn4 : QL ((jM e00 e01 e02 r0 r1 r2) / (jM e20 e21 e22 r0 r1 r2)) 4804 := (lC (k := 4804) (jR (n := 400) (k := 2402) vF vG vE (qu bn1) (qu bn2) (qu bn3) (by decide)) (jR (n := 400) (k := 2402) vA vB vC (qu bn1) (qu bn2) (qu bn3) (by decide)) (by decide))
 have bn5 : QL ((jM e10 e11 e12 r0 r1 r2) / (jM e20 e21 e22 r0 r1 r2)) 4804 := (lC (k := 4804) (jR (n := 400) (k := 2402) vL vM vN (qu bn1) (qu bn2) (qu bn3) (by decide)) (jR (n := 400) (k := 2402) vA vB vC (qu bn1) (qu bn2) (qu bn3) (by decide)) (by decide))
 have bn6 : QL (jM e20 e21 e22 r0 r1 r2) 2402 := (jR (n := 400) (k := 2402) vA vB vC (qu bn1) (qu bn2) (qu bn3) (by decide))
 refine kx [(12, (.ref 5 0)), (13, (.ref 6 0)), (14, (vb true))] [(5, some (bx (kI (qI.mk (jC ((jM e00 e01 e02 r0 r1 r2) / (jM e20 e21 e22 r0 r1 r2))) (jC ((jM e10 e11 e12 r0 r1 r2) / (jM e20 e21 e22 r0 r1 r2))))))), (6, some (bx (jO (jC (jM e20 e21 e22 r0 r1 r2)))))] (zM <| zE (kU cO) <| zR (uM vW) <| zE (kU cO) <| zR (uM vW) <| zE (aF (px - lx) (hr := by exact (qV rfl (by simp only [xM]; omega) (by simp only [xN]; omega)))) <| zE (kU dE) <| zR (uM vW) <| zE (kU dE) <| zR (uM vW) <| zE (aF (py - ly) (hr := by exact (qV rfl (by simp only [xM]; omega) (by simp only [xN]; omega)))) <| zE (kU dI) <| zR (uM vW) <| zE (kU dI) <| zR (uM vW) <| zE (aF (pz - lz) (hr := by exact (qV rfl (by simp only [xM]; omega) (by simp only [xN]; omega)))) <| zE (kC (by have h := q_whole (px - lx) (by omega) (by omega) (py - ly) (by omega) (by omega) (pz - lz) (by omega) (by omega); rw [hr0, hr1, hr2] at h; exact h)) <| zE (kC (q_coo lx ly lz la lb lc ld lf lu lv rx ry rz ra rb rc rd rf ru rv b0 b1 b2 e00 e01 e02 e10 e11 e12 e20 e21 e22 zW zV zU vF vG vE vL vM vN vA vB vC r0 r1 r2 (qu bn1) (qu bn2) (qu bn3) hd)) <| zM <| zE uH <| zE uH <| zE uH <| zN (qH 5 ze56 zo56) <| zN (qH 6 qM qR) <| zT (kR nH) <| zT (kR jS) <| zM <| zZ) ?_
 refine jA <| jA <| kx [(76, (vb false))] [] (zM <| zE eX <| zZ) ?_
 refine kO ?_
 refine jD <| jA ?_
 have bn7 : QL (jM e00 e01 e02 b0 b1 b2) 2402 := (jR (n := 400) (k := 2402) vF vG vE (qu zW) (qu zV) (qu zU) (by decide))
 refine kd [(15, (.ref 7 0))] [(7, some (bx (jO (jC ((jM e00 e01 e02 b0 b1 b2) / (jM e20 e21 e22 r0 r1 r2))))))] mo (wM <| wE oNd <| wE (oFc cW) <| wE (oXc vY 0) <| wE (gZ uN) <| wM <| wE oNd <| wE (oFc aN) <| wE (gZ uN) <| wE (kC (q_dot e00 e01 e02 (qu vF) (qu vG) (qu vE) b0 b1 b2 (qu zW) (qu zV) (qu zU))) <| wR (kA jS) <| wE (kC (by have h := f_divide (jC (jM e00 e01 e02 b0 b1 b2)) (jC (jM e20 e21 e22 r0 r1 r2)) (jM e00 e01 e02 b0 b1 b2) (jM e20 e21 e22 r0 r1 r2) (kH (kL bn7) (by decide)) (kH (kL bn6) (by decide)); rw [divR_ne (aE hd), divC_ne (aE hd)] at h; exact h)) <| wM <| wE uH <| wE uH <| wN (qH 7 qM qR) <| wT (kR jS) <| wM <| wZ) ?_
 refine jA <| kd [(6, (kE 0))] [(2, some (bx (kI (qI.mk (jC ((jM e00 e01 e02 r0 r1 r2) / (jM e20 e21 e22 r0 r1 r2))) (jC ((jM e10 e11 e12 r0 r1 r2) / (jM e20 e21 e22 r0 r1 r2))))))), (3, some (bx (jO (jC ((jM e00 e01 e02 b0 b1 b2) / (jM e20 e21 e22 r0 r1 r2))))))] mo (wR (kA nH) <| wR (kA jS) <| wT (kR nH) <| wT (kR jS) <| wM <| wZ) ?_
 refine jG ⟨_, (qB (cs := (bx (kI (qI.mk (jC ((jM e00 e01 e02 r0 r1 r2) / (jM e20 e21 e22 r0 r1 r2))) (jC ((jM e10 e11 e12 r0 r1 r2) / (jM e20 e21 e22 r0 r1 r2))))))) (d := (kI (qI.mk (jC ((jM e00 e01 e02 r0 r1 r2) / (jM e20 e21 e22 r0 r1 r2))) (jC ((jM e10 e11 e12 r0 r1 r2) / (jM e20 e21 e22 r0 r1 r2)))))) rfl rfl nH rfl rfl (qB (cs := (bx (jO (jC ((jM e00 e01 e02 b0 b1 b2) / (jM e20 e21 e22 r0 r1 r2)))))) (d := (jO (jC ((jM e00 e01 e02 b0 b1 b2) / (jM e20 e21 e22 r0 r1 r2))))) rfl rfl jS rfl rfl (.tmp (d := (.val (.int .i64 (((0 : Nat) : Int))))) rfl .nil))), ?_⟩
 rfl
end Go.Proofs.YtbecgnplakngdaaGreat
