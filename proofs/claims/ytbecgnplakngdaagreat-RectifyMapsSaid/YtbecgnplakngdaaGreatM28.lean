/- Part 28 of a proof: rules, plain facts, and functions walked. -/
import Derived.Test.YtbecgnplakngdaaGreatM26
import Derived.Test.YtbecgnplakngdaaGreatM19
import Derived.Test.YtbecgnplakngdaaGreatM27
namespace Go.Proofs.YtbecgnplakngdaaGreat
open Go.Fid
set_option maxRecDepth 4000
set_option linter.unusedVariables false
set_option linter.unusedSimpArgs false
theorem cb33 : callB Tryz.prog 33 = true := by kernel_rfl
theorem cb46 : callB Tryz.prog 46 = true := by kernel_rfl
theorem cb50 : callB Tryz.prog 50 = true := by kernel_rfl
theorem cb95 : callB Tryz.prog 95 = true := by kernel_rfl
theorem cb100 : callB Tryz.prog 100 = true := by kernel_rfl
theorem cb108 : callB Tryz.prog 108 = true := by kernel_rfl
theorem fo47_0 : xE Tryz.prog 47 0 = some 0 := by kernel_rfl
theorem fo134_0 : xE Tryz.prog 134 0 = some 0 := by kernel_rfl
theorem fo134_1 : xE Tryz.prog 134 1 = some 10 := by kernel_rfl
theorem q_side (lx ly lz la lb lc ld lf lu lv rx ry rz ra rb rc rd rf ru rv : Int) (b0 b1 b2 e00 e01 e02 e10 e11 e12 e20 e21 e22 : Rat) (uR : QL b0 3) (uP : QL b1 3) (uQ : QL b2 3) (kM : QL e00 400) (kK : QL e01 400) (kL : QL e02 400) (kO : QL e10 400) (kP : QL e11 400) (kN : QL e12 400) (kH : QL e20 400) (kG : QL e21 400) (kI : QL e22 400) (right : Bool) (tx ty tz ta tb tc td tf tu tv : Int) (hsd : (bif right then (jX.mk (jM.mk rx ry rz) (jK.mk ra rb rc rd) rf (jZ.mk ru rv)) else (jX.mk (jM.mk lx ly lz) (jK.mk la lb lc ld) lf (jZ.mk lu lv))) = (jX.mk (jM.mk tx ty tz) (jK.mk ta tb tc td) tf (jZ.mk tu tv))) : kE Tryz.prog 100 [(.cptr 1000001 (qH.cells (yZ (RRp.mk (jX.mk (jM.mk lx ly lz) (jK.mk la lb lc ld) lf (jZ.mk lu lv)) (jX.mk (jM.mk rx ry rz) (jK.mk ra rb rc rd) rf (jZ.mk ru rv)) (A3.mk (jB b0) (jB b1) (jB b2)) (A3.mk (A3.mk (jB e00) (jB e01) (jB e02)) (A3.mk (jB e10) (jB e11) (jB e12)) (A3.mk (jB e20) (jB e21) (jB e22)))))) 0), (.val (.bool (right)))] (uI (jX.mk (jM.mk tx ty tz) (jK.mk ta tb tc td) tf (jZ.mk tu tv))) := by
 refine jN Tryz.func100 rfl cb100 rfl ?_
 show uT _ _ _ _ ⟨[(0, (.d (.cptr 1000001 (qH.cells (yZ (RRp.mk (jX.mk (jM.mk lx ly lz) (jK.mk la lb lc ld) lf (jZ.mk lu lv)) (jX.mk (jM.mk rx ry rz) (jK.mk ra rb rc rd) rf (jZ.mk ru rv)) (A3.mk (jB b0) (jB b1) (jB b2)) (A3.mk (A3.mk (jB e00) (jB e01) (jB e02)) (A3.mk (jB e10) (jB e11) (jB e12)) (A3.mk (jB e20) (jB e21) (jB e22)))))) 0))), (1, (vb right))], []⟩
 refine jA <| kx [(4, (.ref 0 0))] [(0, some (bx (uI (jX.mk (jM.mk 0 0 0) (jK.mk 0 0 0 0) 0 (jZ.mk 0 0)))))] (zN (qS 0 eL eH) <| zZ) ?_
 refine jA <| jA <| kx [(5, (vb right))] [] (zM <| zZ) ?_
 refine jY (b := right) rfl (fun h1 => ?_) (fun h1 => ?_)
 ·refine jA <| kx [] [(0, some (bx (uI (jX.mk (jM.mk rx ry rz) (jK.mk ra rb rc rd) rf (jZ.mk ru rv)))))] (zM <| zE oNd <| zE (oFc fo134_1) <| zE (cG xK) <| zT (qB xK) <| zZ) ?_
  refine jJ ⟨_, (qI (cs := (bx (uI (jX.mk (jM.mk rx ry rz) (jK.mk ra rb rc rd) rf (jZ.mk ru rv))))) (d := (uI (jX.mk (jM.mk rx ry rz) (jK.mk ra rb rc rd) rf (jZ.mk ru rv)))) rfl rfl xK rfl rfl .nil), ?_⟩
  rw [← hsd, h1]; rfl
 ·refine jE <| jA <| kx [] [(0, some (bx (uI (jX.mk (jM.mk lx ly lz) (jK.mk la lb lc ld) lf (jZ.mk lu lv)))))] (zM <| zE oNd <| zE (oFc fo134_0) <| zE (cG xK) <| zT (qB xK) <| zZ) ?_
  refine jJ ⟨_, (qI (cs := (bx (uI (jX.mk (jM.mk lx ly lz) (jK.mk la lb lc ld) lf (jZ.mk lu lv))))) (d := (uI (jX.mk (jM.mk lx ly lz) (jK.mk la lb lc ld) lf (jZ.mk lu lv)))) rfl rfl xK rfl rfl .nil), ?_⟩
  rw [← hsd, h1]; rfl
theorem qs_side (lx ly lz la lb lc ld lf lu lv rx ry rz ra rb rc rd rf ru rv : Int) (b0 b1 b2 e00 e01 e02 e10 e11 e12 e20 e21 e22 : Rat) (uR : QL b0 3) (uP : QL b1 3) (uQ : QL b2 3) (kM : QL e00 400) (kK : QL e01 400) (kL : QL e02 400) (kO : QL e10 400) (kP : QL e11 400) (kN : QL e12 400) (kH : QL e20 400) (kG : QL e21 400) (kI : QL e22 400) (right : Bool) (tx ty tz ta tb tc td tf tu tv : Int) (hsd : (bif right then (jX.mk (jM.mk rx ry rz) (jK.mk ra rb rc rd) rf (jZ.mk ru rv)) else (jX.mk (jM.mk lx ly lz) (jK.mk la lb lc ld) lf (jZ.mk lu lv))) = (jX.mk (jM.mk tx ty tz) (jK.mk ta tb tc td) tf (jZ.mk tu tv))) : kE Tryz.prog 50 [(xX (aH.mk (kV.mk (jX.mk (jM.mk lx ly lz) (jK.mk la lb lc ld) lf (jZ.mk lu lv)) (jX.mk (jM.mk rx ry rz) (jK.mk ra rb rc rd) rf (jZ.mk ru rv))) (A3.mk (jB b0) (jB b1) (jB b2)) (A3.mk (A3.mk (jB e00) (jB e01) (jB e02)) (A3.mk (jB e10) (jB e11) (jB e12)) (A3.mk (jB e20) (jB e21) (jB e22))))), (.val (.bool (right)))] (uI (jX.mk (jM.mk tx ty tz) (jK.mk ta tb tc td) tf (jZ.mk tu tv))) := by
 let y1 := (xX (aH.mk (kV.mk (jX.mk (jM.mk lx ly lz) (jK.mk la lb lc ld) lf (jZ.mk lu lv)) (jX.mk (jM.mk rx ry rz) (jK.mk ra rb rc rd) rf (jZ.mk ru rv))) (A3.mk (jB b0) (jB b1) (jB b2)) (A3.mk (A3.mk (jB e00) (jB e01) (jB e02)) (A3.mk (jB e10) (jB e11) (jB e12)) (A3.mk (jB e20) (jB e21) (jB e22)))))
 refine jN Tryz.func50 rfl cb50 rfl ?_
 show uT _ _ _ _ ⟨[(0, (.d y1)), (1, (vb right))], []⟩
 refine jA <| kx [(2, (.ref 0 0)), (4, (.ref 1 0))] [(0, some (bx y1)), (1, some (bx (uI (jX.mk (jM.mk 0 0 0) (jK.mk 0 0 0 0) 0 (jZ.mk 0 0)))))] (zN (uX 0) <| zN (qS 1 eL eH) <| zZ) ?_
 refine jA <| jA <| kx [(5, (vb right))] [] (zM <| zZ) ?_
 refine jY (b := right) rfl (fun h1 => ?_) (fun h1 => ?_)
 ·refine jA <| kx [] [(1, some (bx (uI (jX.mk (jM.mk rx ry rz) (jK.mk ra rb rc rd) rf (jZ.mk ru rv)))))] (zE (qE fo47_0) <| zE (qE nG) <| zR (kC xK) <| zT (qB xK) <| zZ) ?_
  refine jJ ⟨_, (qI (cs := (bx (uI (jX.mk (jM.mk rx ry rz) (jK.mk ra rb rc rd) rf (jZ.mk ru rv))))) (d := (uI (jX.mk (jM.mk rx ry rz) (jK.mk ra rb rc rd) rf (jZ.mk ru rv)))) rfl rfl xK rfl rfl .nil), ?_⟩
  rw [← hsd, h1]; rfl
 ·refine jE <| jA <| kx [] [(1, some (bx (uI (jX.mk (jM.mk lx ly lz) (jK.mk la lb lc ld) lf (jZ.mk lu lv)))))] (zE (qE fo47_0) <| zE (qE nF) <| zR (kC xK) <| zT (qB xK) <| zZ) ?_
  refine jJ ⟨_, (qI (cs := (bx (uI (jX.mk (jM.mk lx ly lz) (jK.mk la lb lc ld) lf (jZ.mk lu lv))))) (d := (uI (jX.mk (jM.mk lx ly lz) (jK.mk la lb lc ld) lf (jZ.mk lu lv)))) rfl rfl xK rfl rfl .nil), ?_⟩
  rw [← hsd, h1]; rfl
theorem q_cooN (lx ly lz la lb lc ld lf lu lv rx ry rz ra rb rc rd rf ru rv : Int) (b0 b1 b2 e00 e01 e02 e10 e11 e12 e20 e21 e22 : Rat) (uR : QL b0 3) (uP : QL b1 3) (uQ : QL b2 3) (kM : QL e00 400) (kK : QL e01 400) (kL : QL e02 400) (kO : QL e10 400) (kP : QL e11 400) (kN : QL e12 400) (kH : QL e20 400) (kG : QL e21 400) (kI : QL e22 400) (w0 w1 w2 : Rat) (hw0 : QL w0 1000000) (hw1 : QL w1 1000000) (hw2 : QL w2 1000000) (hd : vJ (jD e20 e21 e22 w0 w1 w2) ≤ 0) : kE Tryz.prog 95 [(.cptr 1000001 (qH.cells (yZ (RRp.mk (jX.mk (jM.mk lx ly lz) (jK.mk la lb lc ld) lf (jZ.mk lu lv)) (jX.mk (jM.mk rx ry rz) (jK.mk ra rb rc rd) rf (jZ.mk ru rv)) (A3.mk (jB b0) (jB b1) (jB b2)) (A3.mk (A3.mk (jB e00) (jB e01) (jB e02)) (A3.mk (jB e10) (jB e11) (jB e12)) (A3.mk (jB e20) (jB e21) (jB e22)))))) 0), (jP (A3.mk (jB w0) (jB w1) (jB w2)))] (.tup [(jI (jS.mk (jQ.mk (jF.mk false []) (jF.mk false [])) (jQ.mk (jF.mk false []) (jF.mk false [])))), (jR (jQ.mk (jF.mk false []) (jF.mk false []))), (.val (.bool (false)))]) := by
 let y1 := (jQ.mk (jF.mk false []) (jF.mk false []))
 refine jN Tryz.func95 rfl cb95 rfl ?_
 show uT _ _ _ _ ⟨[(0, (.d (.cptr 1000001 (qH.cells (yZ (RRp.mk (jX.mk (jM.mk lx ly lz) (jK.mk la lb lc ld) lf (jZ.mk lu lv)) (jX.mk (jM.mk rx ry rz) (jK.mk ra rb rc rd) rf (jZ.mk ru rv)) (A3.mk (jB b0) (jB b1) (jB b2)) (A3.mk (A3.mk (jB e00) (jB e01) (jB e02)) (A3.mk (jB e10) (jB e11) (jB e12)) (A3.mk (jB e20) (jB e21) (jB e22)))))) 0))), (1, (.d (jP (A3.mk (jB w0) (jB w1) (jB w2)))))], []⟩
 refine jA <| kx [(3, (.ref 0 0)), (4, (.ref 1 0)), (5, (.ref 2 0))] [(0, some (bx (jP (A3.mk (jB w0) (jB w1) (jB w2))))), (1, some (bx (jI (jS.mk y1 y1)))), (2, some (bx (jR y1)))] (zN (uX 0) <| zN (qS 1 xN xL) <| zN (qS 2 qR qY) <| zM <| zZ) ?_
 refine jA ?_
 have bn1 : QL (jD e00 e01 e02 w0 w1 w2) 6000002 := (jL (n := 1000000) (k := 6000002) (qu kM) (qu kK) (qu kL) hw0 hw1 hw2 (by decide))
 have bn2 : QL (jD e10 e11 e12 w0 w1 w2) 6000002 := (jL (n := 1000000) (k := 6000002) (qu kO) (qu kP) (qu kN) hw0 hw1 hw2 (by decide))
 have bn3 : QL (jD e20 e21 e22 w0 w1 w2) 6000002 := (jL (n := 1000000) (k := 6000002) (qu kH) (qu kG) (qu kI) hw0 hw1 hw2 (by decide))
 refine kd [(7, (.ref 3 0))] [(3, some (bx (jP (A3.mk (jB (jD e00 e01 e02 w0 w1 w2)) (jB (jD e10 e11 e12 w0 w1 w2)) (jB (jD e20 e21 e22 w0 w1 w2))))))] mo (wM <| wE oNd <| wE (oFc yJ) <| wE (cG gJ) <| wR (kC qO) <| wE (kA (mZ e00 e01 e02 e10 e11 e12 e20 e21 e22 (qu kM) (qu kK) (qu kL) (qu kO) (qu kP) (qu kN) (qu kH) (qu kG) (qu kI) w0 w1 w2 (qu hw0) (qu hw1) (qu hw2))) <| wN (qS 3 yN yO) <| wT (qB qO) <| wZ) ?_
 refine jA <| jA <| kx [(21, (vb true))] [] (zE (vF uE 2) <| zR (kC jT) <| zE (kA (f_sign (jB (jD e20 e21 e22 w0 w1 w2)) (jD e20 e21 e22 w0 w1 w2) (jU (kD bn3) (by decide)))) <| zE (vB true oLe (by exact decide_eq_true hd)) <| zZ) ?_
 refine kS ?_
 refine jA <| kx [(6, (vb false))] [(1, some (bx (jI (jS.mk y1 y1)))), (2, some (bx (jR y1)))] (zE (fK pl56 xN xL) <| zE (fK pl42 qR qY) <| zT (qB qN) <| zT (qB jT) <| zM <| zZ) ?_
 refine jJ ⟨_, (qI (cs := (bx (jI (jS.mk (jQ.mk (jF.mk false []) (jF.mk false [])) (jQ.mk (jF.mk false []) (jF.mk false [])))))) (d := (jI (jS.mk (jQ.mk (jF.mk false []) (jF.mk false [])) (jQ.mk (jF.mk false []) (jF.mk false []))))) rfl rfl qN rfl rfl (qI (cs := (bx (jR (jQ.mk (jF.mk false []) (jF.mk false []))))) (d := (jR (jQ.mk (jF.mk false []) (jF.mk false [])))) rfl rfl jT rfl rfl (.tmp (d := (.val (.bool (false)))) rfl .nil))), ?_⟩
 rfl
theorem q_coo (lx ly lz la lb lc ld lf lu lv rx ry rz ra rb rc rd rf ru rv : Int) (b0 b1 b2 e00 e01 e02 e10 e11 e12 e20 e21 e22 : Rat) (uR : QL b0 3) (uP : QL b1 3) (uQ : QL b2 3) (kM : QL e00 400) (kK : QL e01 400) (kL : QL e02 400) (kO : QL e10 400) (kP : QL e11 400) (kN : QL e12 400) (kH : QL e20 400) (kG : QL e21 400) (kI : QL e22 400) (w0 w1 w2 : Rat) (hw0 : QL w0 1000000) (hw1 : QL w1 1000000) (hw2 : QL w2 1000000) (hd : ¬ (vJ (jD e20 e21 e22 w0 w1 w2)) ≤ 0) : kE Tryz.prog 95 [(.cptr 1000001 (qH.cells (yZ (RRp.mk (jX.mk (jM.mk lx ly lz) (jK.mk la lb lc ld) lf (jZ.mk lu lv)) (jX.mk (jM.mk rx ry rz) (jK.mk ra rb rc rd) rf (jZ.mk ru rv)) (A3.mk (jB b0) (jB b1) (jB b2)) (A3.mk (A3.mk (jB e00) (jB e01) (jB e02)) (A3.mk (jB e10) (jB e11) (jB e12)) (A3.mk (jB e20) (jB e21) (jB e22)))))) 0), (jP (A3.mk (jB w0) (jB w1) (jB w2)))] (.tup [(jI (jS.mk (jB ((jD e00 e01 e02 w0 w1 w2) / (jD e20 e21 e22 w0 w1 w2))) (jB ((jD e10 e11 e12 w0 w1 w2) / (jD e20 e21 e22 w0 w1 w2))))), (jR (jB (jD e20 e21 e22 w0 w1 w2))), (.val (.bool (true)))]) := by
 refine jN Tryz.func95 rfl cb95 rfl ?_
 show uT _ _ _ _ ⟨[(0, (.d (.cptr 1000001 (qH.cells (yZ (RRp.mk (jX.mk (jM.mk lx ly lz) (jK.mk la lb lc ld) lf (jZ.mk lu lv)) (jX.mk (jM.mk rx ry rz) (jK.mk ra rb rc rd) rf (jZ.mk ru rv)) (A3.mk (jB b0) (jB b1) (jB b2)) (A3.mk (A3.mk (jB e00) (jB e01) (jB e02)) (A3.mk (jB e10) (jB e11) (jB e12)) (A3.mk (jB e20) (jB e21) (jB e22)))))) 0))), (1, (.d (jP (A3.mk (jB w0) (jB w1) (jB w2)))))], []⟩
 refine jA <| kx [(3, (.ref 0 0)), (4, (.ref 1 0)), (5, (.ref 2 0))] [(0, some (bx (jP (A3.mk (jB w0) (jB w1) (jB w2))))), (1, some (bx (jI (jS.mk (jQ.mk (jF.mk false []) (jF.mk false [])) (jQ.mk (jF.mk false []) (jF.mk false [])))))), (2, some (bx (jR (jQ.mk (jF.mk false []) (jF.mk false [])))))] (zN (uX 0) <| zN (qS 1 xN xL) <| zN (qS 2 qR qY) <| zM <| zZ) ?_
 refine jA ?_
 have bn1 : QL (jD e00 e01 e02 w0 w1 w2) 6000002 := (jL (n := 1000000) (k := 6000002) (qu kM) (qu kK) (qu kL) hw0 hw1 hw2 (by decide))
 have bn2 : QL (jD e10 e11 e12 w0 w1 w2) 6000002 := (jL (n := 1000000) (k := 6000002) (qu kO) (qu kP) (qu kN) hw0 hw1 hw2 (by decide))
 have bn3 : QL (jD e20 e21 e22 w0 w1 w2) 6000002 := (jL (n := 1000000) (k := 6000002) (qu kH) (qu kG) (qu kI) hw0 hw1 hw2 (by decide))
 refine kd [(7, (.ref 3 0))] [(3, some (bx (jP (A3.mk (jB (jD e00 e01 e02 w0 w1 w2)) (jB (jD e10 e11 e12 w0 w1 w2)) (jB (jD e20 e21 e22 w0 w1 w2))))))] mo (wM <| wE oNd <| wE (oFc yJ) <| wE (cG gJ) <| wR (kC qO) <| wE (kA (mZ e00 e01 e02 e10 e11 e12 e20 e21 e22 (qu kM) (qu kK) (qu kL) (qu kO) (qu kP) (qu kN) (qu kH) (qu kG) (qu kI) w0 w1 w2 (qu hw0) (qu hw1) (qu hw2))) <| wN (qS 3 yN yO) <| wT (qB qO) <| wZ) ?_
 refine jA <| jA <| kx [(21, (vb false))] [] (zE (vF uE 2) <| zR (kC jT) <| zE (kA (f_sign (jB (jD e20 e21 e22 w0 w1 w2)) (jD e20 e21 e22 w0 w1 w2) (jU (kD bn3) (by decide)))) <| zE (vB false oLe (by exact decide_eq_false hd)) <| zZ) ?_
 refine kY ?_
 refine jE <| jA <| kx [(8, (.ref 4 0))] [(4, some (bx (jR (jB ((jD e00 e01 e02 w0 w1 w2) / (jD e20 e21 e22 w0 w1 w2))))))] (zE (vF uE 0) <| zR (kC jT) <| zE (vF uE 2) <| zR (kC jT) <| zE (kA (by have h := fD (jB (jD e00 e01 e02 w0 w1 w2)) (jB (jD e20 e21 e22 w0 w1 w2)) (jD e00 e01 e02 w0 w1 w2) (jD e20 e21 e22 w0 w1 w2) (jU (kD bn1) (by decide)) (jU (kD bn3) (by decide)); rw [nD (hH hd), nC (hH hd)] at h; exact h)) <| zM <| zE uH <| zE uH <| zN (qS 4 qR qY) <| zT (qB jT) <| zM <| zZ) ?_
 refine jA <| kx [(10, (.ref 5 0))] [(5, some (bx (jR (jB ((jD e10 e11 e12 w0 w1 w2) / (jD e20 e21 e22 w0 w1 w2))))))] (zE (vF uE 1) <| zR (kC jT) <| zE (vF uE 2) <| zR (kC jT) <| zE (kA (by have h := fD (jB (jD e10 e11 e12 w0 w1 w2)) (jB (jD e20 e21 e22 w0 w1 w2)) (jD e10 e11 e12 w0 w1 w2) (jD e20 e21 e22 w0 w1 w2) (jU (kD bn2) (by decide)) (jU (kD bn3) (by decide)); rw [nD (hH hd), nC (hH hd)] at h; exact h)) <| zM <| zE uH <| zE uH <| zN (qS 5 qR qY) <| zT (qB jT) <| zM <| zZ) ?_
 refine jA <| kd [(6, (vb true))] [(1, some (bx (jI (jS.mk (jB ((jD e00 e01 e02 w0 w1 w2) / (jD e20 e21 e22 w0 w1 w2))) (jB ((jD e10 e11 e12 w0 w1 w2) / (jD e20 e21 e22 w0 w1 w2))))))), (2, some (bx (jR (jB (jD e20 e21 e22 w0 w1 w2)))))] mo (wR (kC jT) <| wR (kC jT) <| wE (fK pl56 xN xL) <| wE (vF uE 2) <| wR (kC jT) <| wT (qB qN) <| wT (qB jT) <| wM <| wZ) ?_
 refine jJ ⟨_, (qI (cs := (bx (jI (jS.mk (jB ((jD e00 e01 e02 w0 w1 w2) / (jD e20 e21 e22 w0 w1 w2))) (jB ((jD e10 e11 e12 w0 w1 w2) / (jD e20 e21 e22 w0 w1 w2))))))) (d := (jI (jS.mk (jB ((jD e00 e01 e02 w0 w1 w2) / (jD e20 e21 e22 w0 w1 w2))) (jB ((jD e10 e11 e12 w0 w1 w2) / (jD e20 e21 e22 w0 w1 w2)))))) rfl rfl qN rfl rfl (qI (cs := (bx (jR (jB (jD e20 e21 e22 w0 w1 w2))))) (d := (jR (jB (jD e20 e21 e22 w0 w1 w2)))) rfl rfl jT rfl rfl (.tmp (d := (.val (.bool (true)))) rfl .nil))), ?_⟩
 rfl
theorem qs_cooN (lx ly lz la lb lc ld lf lu lv rx ry rz ra rb rc rd rf ru rv : Int) (b0 b1 b2 e00 e01 e02 e10 e11 e12 e20 e21 e22 : Rat) (uR : QL b0 3) (uP : QL b1 3) (uQ : QL b2 3) (kM : QL e00 400) (kK : QL e01 400) (kL : QL e02 400) (kO : QL e10 400) (kP : QL e11 400) (kN : QL e12 400) (kH : QL e20 400) (kG : QL e21 400) (kI : QL e22 400) (w0 w1 w2 : Rat) (hw0 : QL w0 1000000) (hw1 : QL w1 1000000) (hw2 : QL w2 1000000) (hd : vJ (jD e20 e21 e22 w0 w1 w2) ≤ 0) : kE Tryz.prog 33 [(xX (aH.mk (kV.mk (jX.mk (jM.mk lx ly lz) (jK.mk la lb lc ld) lf (jZ.mk lu lv)) (jX.mk (jM.mk rx ry rz) (jK.mk ra rb rc rd) rf (jZ.mk ru rv))) (A3.mk (jB b0) (jB b1) (jB b2)) (A3.mk (A3.mk (jB e00) (jB e01) (jB e02)) (A3.mk (jB e10) (jB e11) (jB e12)) (A3.mk (jB e20) (jB e21) (jB e22))))), (jP (A3.mk (jB w0) (jB w1) (jB w2)))] (.tup [(jI (jS.mk (jQ.mk (jF.mk false []) (jF.mk false [])) (jQ.mk (jF.mk false []) (jF.mk false [])))), (.val (.int .i64 (20)))]) := by
 let y1 := (xX (aH.mk (kV.mk (jX.mk (jM.mk lx ly lz) (jK.mk la lb lc ld) lf (jZ.mk lu lv)) (jX.mk (jM.mk rx ry rz) (jK.mk ra rb rc rd) rf (jZ.mk ru rv))) (A3.mk (jB b0) (jB b1) (jB b2)) (A3.mk (A3.mk (jB e00) (jB e01) (jB e02)) (A3.mk (jB e10) (jB e11) (jB e12)) (A3.mk (jB e20) (jB e21) (jB e22)))))
 refine jN Tryz.func33 rfl cb33 rfl ?_
 show uT _ _ _ _ ⟨[(0, (.d y1)), (1, (.d (jP (A3.mk (jB w0) (jB w1) (jB w2)))))], []⟩
 refine jA <| kx [(2, (.ref 0 0)), (3, (.ref 1 0)), (4, (.ref 2 0))] [(0, some (bx y1)), (1, some (bx (jP (A3.mk (jB w0) (jB w1) (jB w2))))), (2, some (bx (jI (jS.mk (jQ.mk (jF.mk false []) (jF.mk false [])) (jQ.mk (jF.mk false []) (jF.mk false []))))))] (zN (uX 0) <| zN (uX 1) <| zN (qS 2 xN xL) <| zM <| zZ) ?_
 refine jA ?_
 have bn1 : QL (jD e20 e21 e22 w0 w1 w2) 6000002 := (jL (n := 1000000) (k := 6000002) (qu kH) (qu kG) (qu kI) hw0 hw1 hw2 (by decide))
 refine kx [(6, (.ref 3 0))] [(3, some (bx (jR (jB (jD e20 e21 e22 w0 w1 w2)))))] (zE (qE gY) <| zE (vF mU 2) <| zR (kC vC) <| zR (kC vC) <| zE (kA (aA e20 e21 e22 (qu kH) (qu kG) (qu kI) w0 w1 w2 (qu hw0) (qu hw1) (qu hw2))) <| zN (qS 3 qR qY) <| zT (qB jT) <| zZ) ?_
 refine jA <| jA <| kx [(18, (vb true))] [] (zR (kC jT) <| zE (kA (g_sign (jB (jD e20 e21 e22 w0 w1 w2)) (jD e20 e21 e22 w0 w1 w2) (jU (kD bn1) (by decide)))) <| zE (vB true oLe (by exact decide_eq_true hd)) <| zZ) ?_
 refine kS ?_
 refine jA <| kx [(5, (kX 20))] [(2, some (bx (jI (jS.mk (jQ.mk (jF.mk false []) (jF.mk false [])) (jQ.mk (jF.mk false []) (jF.mk false []))))))] (zE (fK pl56 xN xL) <| zT (qB qN) <| zM <| zZ) ?_
 refine jJ ⟨_, (qI (cs := (bx (jI (jS.mk (jQ.mk (jF.mk false []) (jF.mk false [])) (jQ.mk (jF.mk false []) (jF.mk false [])))))) (d := (jI (jS.mk (jQ.mk (jF.mk false []) (jF.mk false [])) (jQ.mk (jF.mk false []) (jF.mk false []))))) rfl rfl qN rfl rfl (.tmp (d := (.val (.int .i64 (((20 : Nat) : Int))))) rfl .nil)), ?_⟩
 rfl
theorem qs_coo (lx ly lz la lb lc ld lf lu lv rx ry rz ra rb rc rd rf ru rv : Int) (b0 b1 b2 e00 e01 e02 e10 e11 e12 e20 e21 e22 : Rat) (uR : QL b0 3) (uP : QL b1 3) (uQ : QL b2 3) (kM : QL e00 400) (kK : QL e01 400) (kL : QL e02 400) (kO : QL e10 400) (kP : QL e11 400) (kN : QL e12 400) (kH : QL e20 400) (kG : QL e21 400) (kI : QL e22 400) (w0 w1 w2 : Rat) (hw0 : QL w0 1000000) (hw1 : QL w1 1000000) (hw2 : QL w2 1000000) (hd : ¬ (vJ (jD e20 e21 e22 w0 w1 w2)) ≤ 0) : kE Tryz.prog 33 [(xX (aH.mk (kV.mk (jX.mk (jM.mk lx ly lz) (jK.mk la lb lc ld) lf (jZ.mk lu lv)) (jX.mk (jM.mk rx ry rz) (jK.mk ra rb rc rd) rf (jZ.mk ru rv))) (A3.mk (jB b0) (jB b1) (jB b2)) (A3.mk (A3.mk (jB e00) (jB e01) (jB e02)) (A3.mk (jB e10) (jB e11) (jB e12)) (A3.mk (jB e20) (jB e21) (jB e22))))), (jP (A3.mk (jB w0) (jB w1) (jB w2)))] (.tup [(jI (jS.mk (jB ((jD e00 e01 e02 w0 w1 w2) / (jD e20 e21 e22 w0 w1 w2))) (jB ((jD e10 e11 e12 w0 w1 w2) / (jD e20 e21 e22 w0 w1 w2))))), (.val (.int .i64 (0)))]) := by
 let y1 := (xX (aH.mk (kV.mk (jX.mk (jM.mk lx ly lz) (jK.mk la lb lc ld) lf (jZ.mk lu lv)) (jX.mk (jM.mk rx ry rz) (jK.mk ra rb rc rd) rf (jZ.mk ru rv))) (A3.mk (jB b0) (jB b1) (jB b2)) (A3.mk (A3.mk (jB e00) (jB e01) (jB e02)) (A3.mk (jB e10) (jB e11) (jB e12)) (A3.mk (jB e20) (jB e21) (jB e22)))))
 refine jN Tryz.func33 rfl cb33 rfl ?_
 show uT _ _ _ _ ⟨[(0, (.d y1)), (1, (.d (jP (A3.mk (jB w0) (jB w1) (jB w2)))))], []⟩
 refine jA <| kx [(2, (.ref 0 0)), (3, (.ref 1 0)), (4, (.ref 2 0))] [(0, some (bx y1)), (1, some (bx (jP (A3.mk (jB w0) (jB w1) (jB w2))))), (2, some (bx (jI (jS.mk (jQ.mk (jF.mk false []) (jF.mk false [])) (jQ.mk (jF.mk false []) (jF.mk false []))))))] (zN (uX 0) <| zN (uX 1) <| zN (qS 2 xN xL) <| zM <| zZ) ?_
 refine jA ?_
 have bn1 : QL (jD e20 e21 e22 w0 w1 w2) 6000002 := (jL (n := 1000000) (k := 6000002) (qu kH) (qu kG) (qu kI) hw0 hw1 hw2 (by decide))
 refine kx [(6, (.ref 3 0))] [(3, some (bx (jR (jB (jD e20 e21 e22 w0 w1 w2)))))] (zE (qE gY) <| zE (vF mU 2) <| zR (kC vC) <| zR (kC vC) <| zE (kA (aA e20 e21 e22 (qu kH) (qu kG) (qu kI) w0 w1 w2 (qu hw0) (qu hw1) (qu hw2))) <| zN (qS 3 qR qY) <| zT (qB jT) <| zZ) ?_
 refine jA <| jA <| kx [(18, (vb false))] [] (zR (kC jT) <| zE (kA (g_sign (jB (jD e20 e21 e22 w0 w1 w2)) (jD e20 e21 e22 w0 w1 w2) (jU (kD bn1) (by decide)))) <| zE (vB false oLe (by exact decide_eq_false hd)) <| zZ) ?_
 refine kY ?_
 refine jE <| jA ?_
 have bn2 : QL (jD e00 e01 e02 w0 w1 w2) 6000002 := (jL (n := 1000000) (k := 6000002) (qu kM) (qu kK) (qu kL) hw0 hw1 hw2 (by decide))
 refine kd [(7, (.ref 4 0))] [(4, some (bx (jR (jB ((jD e00 e01 e02 w0 w1 w2) / (jD e20 e21 e22 w0 w1 w2))))))] mo (wE (qE gY) <| wE (vF mU 0) <| wR (kC vC) <| wR (kC vC) <| wE (kA (aA e00 e01 e02 (qu kM) (qu kK) (qu kL) w0 w1 w2 (qu hw0) (qu hw1) (qu hw2))) <| wR (kC jT) <| wE (kA (by have h := aI (jB (jD e00 e01 e02 w0 w1 w2)) (jB (jD e20 e21 e22 w0 w1 w2)) (jD e00 e01 e02 w0 w1 w2) (jD e20 e21 e22 w0 w1 w2) (jU (kD bn2) (by decide)) (jU (kD bn1) (by decide)); rw [nD (hH hd), nC (hH hd)] at h; exact h)) <| wM <| wE uH <| wE uH <| wN (qS 4 qR qY) <| wT (qB jT) <| wM <| wZ) ?_
 refine jA ?_
 have bn3 : QL (jD e10 e11 e12 w0 w1 w2) 6000002 := (jL (n := 1000000) (k := 6000002) (qu kO) (qu kP) (qu kN) hw0 hw1 hw2 (by decide))
 refine kd [(9, (.ref 5 0))] [(5, some (bx (jR (jB ((jD e10 e11 e12 w0 w1 w2) / (jD e20 e21 e22 w0 w1 w2))))))] mo (wE (qE gY) <| wE (vF mU 1) <| wR (kC vC) <| wR (kC vC) <| wE (kA (aA e10 e11 e12 (qu kO) (qu kP) (qu kN) w0 w1 w2 (qu hw0) (qu hw1) (qu hw2))) <| wR (kC jT) <| wE (kA (by have h := aI (jB (jD e10 e11 e12 w0 w1 w2)) (jB (jD e20 e21 e22 w0 w1 w2)) (jD e10 e11 e12 w0 w1 w2) (jD e20 e21 e22 w0 w1 w2) (jU (kD bn3) (by decide)) (jU (kD bn1) (by decide)); rw [nD (hH hd), nC (hH hd)] at h; exact h)) <| wM <| wE uH <| wE uH <| wN (qS 5 qR qY) <| wT (qB jT) <| wM <| wZ) ?_
 refine jA <| kx [(5, (kX 0))] [(2, some (bx (jI (jS.mk (jB ((jD e00 e01 e02 w0 w1 w2) / (jD e20 e21 e22 w0 w1 w2))) (jB ((jD e10 e11 e12 w0 w1 w2) / (jD e20 e21 e22 w0 w1 w2)))))))] (zR (kC jT) <| zR (kC jT) <| zE (fK pl56 xN xL) <| zT (qB qN) <| zM <| zZ) ?_
 refine jJ ⟨_, (qI (cs := (bx (jI (jS.mk (jB ((jD e00 e01 e02 w0 w1 w2) / (jD e20 e21 e22 w0 w1 w2))) (jB ((jD e10 e11 e12 w0 w1 w2) / (jD e20 e21 e22 w0 w1 w2))))))) (d := (jI (jS.mk (jB ((jD e00 e01 e02 w0 w1 w2) / (jD e20 e21 e22 w0 w1 w2))) (jB ((jD e10 e11 e12 w0 w1 w2) / (jD e20 e21 e22 w0 w1 w2)))))) rfl rfl qN rfl rfl (.tmp (d := (.val (.int .i64 (((0 : Nat) : Int))))) rfl .nil)), ?_⟩
 rfl
theorem q_dir (lx ly lz la lb lc ld lf lu lv rx ry rz ra rb rc rd rf ru rv : Int) (b0 b1 b2 e00 e01 e02 e10 e11 e12 e20 e21 e22 : Rat) (uR : QL b0 3) (uP : QL b1 3) (uQ : QL b2 3) (kM : QL e00 400) (kK : QL e01 400) (kL : QL e02 400) (kO : QL e10 400) (kP : QL e11 400) (kN : QL e12 400) (kH : QL e20 400) (kG : QL e21 400) (kI : QL e22 400) (x y : Rat) (hx : QL x 1000000) (hy : QL y 1000000) (hz0 : xM e00 e01 e02 = false) (hz1 : xM e10 e11 e12 = false) (hz2 : xM e20 e21 e22 = false) : kE Tryz.prog 108 [(.cptr 1000001 (qH.cells (yZ (RRp.mk (jX.mk (jM.mk lx ly lz) (jK.mk la lb lc ld) lf (jZ.mk lu lv)) (jX.mk (jM.mk rx ry rz) (jK.mk ra rb rc rd) rf (jZ.mk ru rv)) (A3.mk (jB b0) (jB b1) (jB b2)) (A3.mk (A3.mk (jB e00) (jB e01) (jB e02)) (A3.mk (jB e10) (jB e11) (jB e12)) (A3.mk (jB e20) (jB e21) (jB e22)))))) 0), (jI (jS.mk (jB x) (jB y)))] (jP (A3.mk (jB (((e00 * (x / (jD e00 e01 e02 e00 e01 e02))) + (e10 * (y / (jD e10 e11 e12 e10 e11 e12)))) + (e20 * (((1 : Int) : Rat) / (jD e20 e21 e22 e20 e21 e22))))) (jB (((e01 * (x / (jD e00 e01 e02 e00 e01 e02))) + (e11 * (y / (jD e10 e11 e12 e10 e11 e12)))) + (e21 * (((1 : Int) : Rat) / (jD e20 e21 e22 e20 e21 e22))))) (jB (((e02 * (x / (jD e00 e01 e02 e00 e01 e02))) + (e12 * (y / (jD e10 e11 e12 e10 e11 e12)))) + (e22 * (((1 : Int) : Rat) / (jD e20 e21 e22 e20 e21 e22))))))) := by
 let y5 := (bx (jP (A3.mk (jQ.mk (jF.mk false []) (jF.mk false [])) (jQ.mk (jF.mk false []) (jF.mk false [])) (jQ.mk (jF.mk false []) (jF.mk false [])))))
 let y4 := (bx (jP (A3.mk (jB (e10 * (y / (jD e10 e11 e12 e10 e11 e12)))) (jB (e11 * (y / (jD e10 e11 e12 e10 e11 e12)))) (jB (e12 * (y / (jD e10 e11 e12 e10 e11 e12)))))))
 let y3 := (bx (jP (A3.mk (jB (e00 * (x / (jD e00 e01 e02 e00 e01 e02)))) (jB (e01 * (x / (jD e00 e01 e02 e00 e01 e02)))) (jB (e02 * (x / (jD e00 e01 e02 e00 e01 e02)))))))
 let y2 := (yZ (RRp.mk (jX.mk (jM.mk lx ly lz) (jK.mk la lb lc ld) lf (jZ.mk lu lv)) (jX.mk (jM.mk rx ry rz) (jK.mk ra rb rc rd) rf (jZ.mk ru rv)) (A3.mk (jB b0) (jB b1) (jB b2)) (A3.mk (A3.mk (jB e00) (jB e01) (jB e02)) (A3.mk (jB e10) (jB e11) (jB e12)) (A3.mk (jB e20) (jB e21) (jB e22)))))
 let y1 := (bx (jP (A3.mk (jB (((e00 * (x / (jD e00 e01 e02 e00 e01 e02))) + (e10 * (y / (jD e10 e11 e12 e10 e11 e12)))) + (e20 * (((1 : Int) : Rat) / (jD e20 e21 e22 e20 e21 e22))))) (jB (((e01 * (x / (jD e00 e01 e02 e00 e01 e02))) + (e11 * (y / (jD e10 e11 e12 e10 e11 e12)))) + (e21 * (((1 : Int) : Rat) / (jD e20 e21 e22 e20 e21 e22))))) (jB (((e02 * (x / (jD e00 e01 e02 e00 e01 e02))) + (e12 * (y / (jD e10 e11 e12 e10 e11 e12)))) + (e22 * (((1 : Int) : Rat) / (jD e20 e21 e22 e20 e21 e22))))))))
 refine jN Tryz.func108 rfl cb108 rfl ?_
 show uT _ _ _ _ ⟨[(0, (.d (.cptr 1000001 (qH.cells y2) 0))), (1, (.d (jI (jS.mk (jB x) (jB y)))))], []⟩
 refine jA <| kx [(3, (.ref 0 0)), (4, (.ref 1 0))] [(0, some (bx (jI (jS.mk (jB x) (jB y))))), (1, some y5)] (zN (uX 0) <| zN (qS 1 yN yO) <| zZ) ?_
 refine jA <| kx [(5, (.ref 2 0))] [(2, some y5)] (zN (qS 2 yN yO) <| zZ) ?_
 refine jA <| jA ?_
 have bn1 : QL ((1 : Int) : Rat) 1 := (kQ (z := 1) (vK (by decide)) (by decide))
 refine kd [(16, (.d (jP (A3.mk (jB x) (jB y) (jB ((1 : Int) : Rat)))))), (17, (kX 0))] [] mo (wE (qE cB) <| wR (kC jT) <| wE (qE cC) <| wR (kC jT) <| wE (kA (gX 1 (by decide) (by decide))) <| wE (oBf uE yN yO) <| wM <| wZ) ?_
 refine jG <| qU 20 ?_
 refine uF <| jA <| kx [(18, (vb true))] [] (zE (vB true uW) <| zZ) ?_
 refine jA <| kS ?_
 refine jE <| jA <| jG <| jA <| kx [(6, (kX 0)), (7, (.ref 3 0))] [(3, some (bx (jR (jB x))))] (zM <| zE (oXa uE jT (fun h => by cases h) 0) <| zN (qS 3 qR qY) <| zM <| zT (qB jT) <| zZ) ?_
 refine jA ?_
 have bn2 : QL (jD e00 e01 e02 e00 e01 e02) 2402 := (jL (n := 400) (k := 2402) kM kK kL kM kK kL (by decide))
 refine kd [(8, (.ref 4 0))] [(4, some (bx (jR (jB (x / (jD e00 e01 e02 e00 e01 e02))))))] mo (wR (kC jT) <| wM <| wM <| wE oNd <| wE (oFc yJ) <| wE (oXc vH 0) <| wE (cG qO) <| wM <| wM <| wE oNd <| wE (oFc yJ) <| wE (oXc vH 0) <| wE (cG qO) <| wE (kA (q_dot e00 e01 e02 (qu kM) (qu kK) (qu kL) e00 e01 e02 (qu kM) (qu kK) (qu kL))) <| wE (kA (by have h := fD (jB x) (jB (jD e00 e01 e02 e00 e01 e02)) x (jD e00 e01 e02 e00 e01 e02) (jU (kD hx) (by decide)) (jU (kD bn2) (by decide)); rw [nD (yE hz0), nC (yE hz0)] at h; exact h)) <| wM <| wE uH <| wE uH <| wN (qS 4 qR qY) <| wT (qB jT) <| wM <| wZ) ?_
 refine jA ?_
 have bn3 : QL (e00 * (x / (jD e00 e01 e02 e00 e01 e02))) 1002802 := (jH (k := 1002802) kM (kF (k := 1002402) hx bn2 (by decide)) (by decide))
 have bn4 : QL (e01 * (x / (jD e00 e01 e02 e00 e01 e02))) 1002802 := (jH (k := 1002802) kK (kF (k := 1002402) hx bn2 (by decide)) (by decide))
 have bn5 : QL (e02 * (x / (jD e00 e01 e02 e00 e01 e02))) 1002802 := (jH (k := 1002802) kL (kF (k := 1002402) hx bn2 (by decide)) (by decide))
 refine kd [(10, (.ref 5 0))] [(5, some y3)] mo (wM <| wM <| wE oNd <| wE (oFc yJ) <| wE (oXc vH 0) <| wE (cG qO) <| wR (kC jT) <| wE (kA (nJ e00 e01 e02 (qu kM) (qu kK) (qu kL) (x / (jD e00 e01 e02 e00 e01 e02)) (kJ (kF (k := 1002402) hx bn2 (by decide)) (by decide)))) <| wN (qS 5 yN yO) <| wT (qB qO) <| wZ) ?_
 refine jA <| kx [(48, (vb true))] [] (zM <| zE fA <| zZ) ?_
 refine kS ?_
 refine kx [] [(2, some y3)] (zR (kC qO) <| zT (qB qO) <| zZ) ?_
 refine kx [(17, (kX 1))] [] (zE (uZ 1 (hr := by decide)) <| zM <| zZ) ?_
 refine jV (kU.refl _) ?_
 refine jA <| kx [(18, (vb true))] [] (zE (vB true uW) <| zZ) ?_
 refine jA <| kS ?_
 refine jE <| jA <| jG <| jA <| kx [(6, (kX 1)), (7, (.ref 6 0))] [(6, some (bx (jR (jB y))))] (zM <| zE (oXa uE jT (fun h => by cases h) 1) <| zN (qS 6 qR qY) <| zM <| zT (qB jT) <| zZ) ?_
 refine jA ?_
 have bn6 : QL (jD e10 e11 e12 e10 e11 e12) 2402 := (jL (n := 400) (k := 2402) kO kP kN kO kP kN (by decide))
 refine kd [(8, (.ref 7 0))] [(7, some (bx (jR (jB (y / (jD e10 e11 e12 e10 e11 e12))))))] mo (wR (kC jT) <| wM <| wM <| wE oNd <| wE (oFc yJ) <| wE (oXc vH 1) <| wE (cG qO) <| wM <| wM <| wE oNd <| wE (oFc yJ) <| wE (oXc vH 1) <| wE (cG qO) <| wE (kA (q_dot e10 e11 e12 (qu kO) (qu kP) (qu kN) e10 e11 e12 (qu kO) (qu kP) (qu kN))) <| wE (kA (by have h := fD (jB y) (jB (jD e10 e11 e12 e10 e11 e12)) y (jD e10 e11 e12 e10 e11 e12) (jU (kD hy) (by decide)) (jU (kD bn6) (by decide)); rw [nD (yE hz1), nC (yE hz1)] at h; exact h)) <| wM <| wE uH <| wE uH <| wN (qS 7 qR qY) <| wT (qB jT) <| wM <| wZ) ?_
 refine jA ?_
 have bn7 : QL (e10 * (y / (jD e10 e11 e12 e10 e11 e12))) 1002802 := (jH (k := 1002802) kO (kF (k := 1002402) hy bn6 (by decide)) (by decide))
 have bn8 : QL (e11 * (y / (jD e10 e11 e12 e10 e11 e12))) 1002802 := (jH (k := 1002802) kP (kF (k := 1002402) hy bn6 (by decide)) (by decide))
 have bn9 : QL (e12 * (y / (jD e10 e11 e12 e10 e11 e12))) 1002802 := (jH (k := 1002802) kN (kF (k := 1002402) hy bn6 (by decide)) (by decide))
 refine kd [(10, (.ref 8 0))] [(8, some y4)] mo (wM <| wM <| wE oNd <| wE (oFc yJ) <| wE (oXc vH 1) <| wE (cG qO) <| wR (kC jT) <| wE (kA (nJ e10 e11 e12 (qu kO) (qu kP) (qu kN) (y / (jD e10 e11 e12 e10 e11 e12)) (kJ (kF (k := 1002402) hy bn6 (by decide)) (by decide)))) <| wN (qS 8 yN yO) <| wT (qB qO) <| wZ) ?_
 refine jA <| qM (wk (l := [(0, (.d (.cptr 1000001 (qH.cells y2) 0))), (4, (.ref 1 0)), (5, (.ref 2 0)), (6, (kX 1)), (10, (.ref 8 0)), (16, (.d (jP (A3.mk (jB x) (jB y) (jB ((1 : Int) : Rat)))))), (17, (kX 1))]) (b := [(1, some y5), (2, some y3), (8, some y4)])) ?_
 refine kx [(48, (vb false))] [] (zM <| zE fA <| zZ) ?_
 refine kY ?_
 refine kx [] [(2, some (bx (jP (A3.mk (jB ((e00 * (x / (jD e00 e01 e02 e00 e01 e02))) + (e10 * (y / (jD e10 e11 e12 e10 e11 e12))))) (jB ((e01 * (x / (jD e00 e01 e02 e00 e01 e02))) + (e11 * (y / (jD e10 e11 e12 e10 e11 e12))))) (jB ((e02 * (x / (jD e00 e01 e02 e00 e01 e02))) + (e12 * (y / (jD e10 e11 e12 e10 e11 e12)))))))))] (zR (kC qO) <| zR (kC qO) <| zE (kA (q_sum (e00 * (x / (jD e00 e01 e02 e00 e01 e02))) (e01 * (x / (jD e00 e01 e02 e00 e01 e02))) (e02 * (x / (jD e00 e01 e02 e00 e01 e02))) (qu bn3) (qu bn4) (qu bn5) (e10 * (y / (jD e10 e11 e12 e10 e11 e12))) (e11 * (y / (jD e10 e11 e12 e10 e11 e12))) (e12 * (y / (jD e10 e11 e12 e10 e11 e12))) (qu bn7) (qu bn8) (qu bn9))) <| zT (qB qO) <| zZ) ?_
 refine kx [(17, (kX 2))] [] (zE (uZ 2 (hr := by decide)) <| zM <| zZ) ?_
 refine jV (kU.refl _) ?_
 refine jA <| kx [(18, (vb true))] [] (zE (vB true uW) <| zZ) ?_
 refine jA <| kS ?_
 refine jE <| jA <| jG <| jA <| kx [(6, (kX 2)), (7, (.ref 9 0))] [(9, some (bx (jR (jB ((1 : Int) : Rat)))))] (zM <| zE (oXa uE jT (fun h => by cases h) 2) <| zN (qS 9 qR qY) <| zM <| zT (qB jT) <| zZ) ?_
 refine jA ?_
 have bn10 : QL (jD e20 e21 e22 e20 e21 e22) 2402 := (jL (n := 400) (k := 2402) kH kG kI kH kG kI (by decide))
 refine kd [(8, (.ref 10 0))] [(10, some (bx (jR (jB (((1 : Int) : Rat) / (jD e20 e21 e22 e20 e21 e22))))))] mo (wR (kC jT) <| wM <| wM <| wE oNd <| wE (oFc yJ) <| wE (oXc vH 2) <| wE (cG qO) <| wM <| wM <| wE oNd <| wE (oFc yJ) <| wE (oXc vH 2) <| wE (cG qO) <| wE (kA (q_dot e20 e21 e22 (qu kH) (qu kG) (qu kI) e20 e21 e22 (qu kH) (qu kG) (qu kI))) <| wE (kA (by have h := fD (jB ((1 : Int) : Rat)) (jB (jD e20 e21 e22 e20 e21 e22)) ((1 : Int) : Rat) (jD e20 e21 e22 e20 e21 e22) (jU (kD bn1) (by decide)) (jU (kD bn10) (by decide)); rw [nD (yE hz2), nC (yE hz2)] at h; exact h)) <| wM <| wE uH <| wE uH <| wN (qS 10 qR qY) <| wT (qB jT) <| wM <| wZ) ?_
 refine jA ?_
 have bn11 : QL (e20 * (((1 : Int) : Rat) / (jD e20 e21 e22 e20 e21 e22))) 2803 := (jH (k := 2803) kH (kF (k := 2403) bn1 bn10 (by decide)) (by decide))
 have bn12 : QL (e21 * (((1 : Int) : Rat) / (jD e20 e21 e22 e20 e21 e22))) 2803 := (jH (k := 2803) kG (kF (k := 2403) bn1 bn10 (by decide)) (by decide))
 have bn13 : QL (e22 * (((1 : Int) : Rat) / (jD e20 e21 e22 e20 e21 e22))) 2803 := (jH (k := 2803) kI (kF (k := 2403) bn1 bn10 (by decide)) (by decide))
 refine kd [(10, (.ref 11 0))] [(11, some (bx (jP (A3.mk (jB (e20 * (((1 : Int) : Rat) / (jD e20 e21 e22 e20 e21 e22)))) (jB (e21 * (((1 : Int) : Rat) / (jD e20 e21 e22 e20 e21 e22)))) (jB (e22 * (((1 : Int) : Rat) / (jD e20 e21 e22 e20 e21 e22))))))))] mo (wM <| wM <| wE oNd <| wE (oFc yJ) <| wE (oXc vH 2) <| wE (cG qO) <| wR (kC jT) <| wE (kA (nJ e20 e21 e22 (qu kH) (qu kG) (qu kI) (((1 : Int) : Rat) / (jD e20 e21 e22 e20 e21 e22)) (kJ (kF (k := 2403) bn1 bn10 (by decide)) (by decide)))) <| wN (qS 11 yN yO) <| wT (qB qO) <| wZ) ?_
 refine jA <| kx [(48, (vb false))] [] (zM <| zE fA <| zZ) ?_
 refine kY ?_
 have bn14 : QL (((e00 * (x / (jD e00 e01 e02 e00 e01 e02))) + (e10 * (y / (jD e10 e11 e12 e10 e11 e12)))) + (e20 * (((1 : Int) : Rat) / (jD e20 e21 e22 e20 e21 e22)))) 2008409 := (kR (k := 2008409) (kR (k := 2005605) bn3 bn7 (by decide)) bn11 (by decide))
 have bn15 : QL (((e01 * (x / (jD e00 e01 e02 e00 e01 e02))) + (e11 * (y / (jD e10 e11 e12 e10 e11 e12)))) + (e21 * (((1 : Int) : Rat) / (jD e20 e21 e22 e20 e21 e22)))) 2008409 := (kR (k := 2008409) (kR (k := 2005605) bn4 bn8 (by decide)) bn12 (by decide))
 have bn16 : QL (((e02 * (x / (jD e00 e01 e02 e00 e01 e02))) + (e12 * (y / (jD e10 e11 e12 e10 e11 e12)))) + (e22 * (((1 : Int) : Rat) / (jD e20 e21 e22 e20 e21 e22)))) 2008409 := (kR (k := 2008409) (kR (k := 2005605) bn5 bn9 (by decide)) bn13 (by decide))
 refine kx [] [(2, some y1)] (zR (kC qO) <| zR (kC qO) <| zE (kA (q_sum ((e00 * (x / (jD e00 e01 e02 e00 e01 e02))) + (e10 * (y / (jD e10 e11 e12 e10 e11 e12)))) ((e01 * (x / (jD e00 e01 e02 e00 e01 e02))) + (e11 * (y / (jD e10 e11 e12 e10 e11 e12)))) ((e02 * (x / (jD e00 e01 e02 e00 e01 e02))) + (e12 * (y / (jD e10 e11 e12 e10 e11 e12)))) (kJ (kR (k := 2005605) bn3 bn7 (by decide)) (by decide)) (kJ (kR (k := 2005605) bn4 bn8 (by decide)) (by decide)) (kJ (kR (k := 2005605) bn5 bn9 (by decide)) (by decide)) (e20 * (((1 : Int) : Rat) / (jD e20 e21 e22 e20 e21 e22))) (e21 * (((1 : Int) : Rat) / (jD e20 e21 e22 e20 e21 e22))) (e22 * (((1 : Int) : Rat) / (jD e20 e21 e22 e20 e21 e22))) (qu bn11) (qu bn12) (qu bn13))) <| zT (qB qO) <| zZ) ?_
 refine kx [(17, (kX 3))] [] (zE (uZ 3 (hr := by decide)) <| zM <| zZ) ?_
 refine jV (kU.refl _) ?_
 refine jA <| kx [(18, (vb false))] [] (zE (vB false uW) <| zZ) ?_
 refine jA <| kY ?_
 refine qF <| jA <| kx [] [(1, some y1)] (zR (kC qO) <| zT (qB qO) <| zZ) ?_
 refine jJ ⟨_, (qI (cs := (bx (jP (A3.mk (jB (((e00 * (x / (jD e00 e01 e02 e00 e01 e02))) + (e10 * (y / (jD e10 e11 e12 e10 e11 e12)))) + (e20 * (((1 : Int) : Rat) / (jD e20 e21 e22 e20 e21 e22))))) (jB (((e01 * (x / (jD e00 e01 e02 e00 e01 e02))) + (e11 * (y / (jD e10 e11 e12 e10 e11 e12)))) + (e21 * (((1 : Int) : Rat) / (jD e20 e21 e22 e20 e21 e22))))) (jB (((e02 * (x / (jD e00 e01 e02 e00 e01 e02))) + (e12 * (y / (jD e10 e11 e12 e10 e11 e12)))) + (e22 * (((1 : Int) : Rat) / (jD e20 e21 e22 e20 e21 e22))))))))) (d := (jP (A3.mk (jB (((e00 * (x / (jD e00 e01 e02 e00 e01 e02))) + (e10 * (y / (jD e10 e11 e12 e10 e11 e12)))) + (e20 * (((1 : Int) : Rat) / (jD e20 e21 e22 e20 e21 e22))))) (jB (((e01 * (x / (jD e00 e01 e02 e00 e01 e02))) + (e11 * (y / (jD e10 e11 e12 e10 e11 e12)))) + (e21 * (((1 : Int) : Rat) / (jD e20 e21 e22 e20 e21 e22))))) (jB (((e02 * (x / (jD e00 e01 e02 e00 e01 e02))) + (e12 * (y / (jD e10 e11 e12 e10 e11 e12)))) + (e22 * (((1 : Int) : Rat) / (jD e20 e21 e22 e20 e21 e22)))))))) rfl rfl qO rfl rfl .nil), ?_⟩
 rfl
theorem qs_ray (lx ly lz la lb lc ld lf lu lv rx ry rz ra rb rc rd rf ru rv : Int) (b0 b1 b2 e00 e01 e02 e10 e11 e12 e20 e21 e22 : Rat) (uR : QL b0 3) (uP : QL b1 3) (uQ : QL b2 3) (kM : QL e00 400) (kK : QL e01 400) (kL : QL e02 400) (kO : QL e10 400) (kP : QL e11 400) (kN : QL e12 400) (kH : QL e20 400) (kG : QL e21 400) (kI : QL e22 400) (x y : Rat) (hx : QL x 1000000) (hy : QL y 1000000) (hz0 : xM e00 e01 e02 = false) (hz1 : xM e10 e11 e12 = false) (hz2 : xM e20 e21 e22 = false) : kE Tryz.prog 46 [(xX (aH.mk (kV.mk (jX.mk (jM.mk lx ly lz) (jK.mk la lb lc ld) lf (jZ.mk lu lv)) (jX.mk (jM.mk rx ry rz) (jK.mk ra rb rc rd) rf (jZ.mk ru rv))) (A3.mk (jB b0) (jB b1) (jB b2)) (A3.mk (A3.mk (jB e00) (jB e01) (jB e02)) (A3.mk (jB e10) (jB e11) (jB e12)) (A3.mk (jB e20) (jB e21) (jB e22))))), (jI (jS.mk (jB x) (jB y)))] (jP (A3.mk (jB (((e00 * (x / (jD e00 e01 e02 e00 e01 e02))) + (e10 * (y / (jD e10 e11 e12 e10 e11 e12)))) + (e20 * (((1 : Int) : Rat) / (jD e20 e21 e22 e20 e21 e22))))) (jB (((e01 * (x / (jD e00 e01 e02 e00 e01 e02))) + (e11 * (y / (jD e10 e11 e12 e10 e11 e12)))) + (e21 * (((1 : Int) : Rat) / (jD e20 e21 e22 e20 e21 e22))))) (jB (((e02 * (x / (jD e00 e01 e02 e00 e01 e02))) + (e12 * (y / (jD e10 e11 e12 e10 e11 e12)))) + (e22 * (((1 : Int) : Rat) / (jD e20 e21 e22 e20 e21 e22))))))) := by
 let y5 := (jQ.mk (jF.mk false []) (jF.mk false []))
 let y4 := (bx (jP (A3.mk (jB ((e00 * (x / (jD e00 e01 e02 e00 e01 e02))) + (e10 * (y / (jD e10 e11 e12 e10 e11 e12))))) (jB ((e01 * (x / (jD e00 e01 e02 e00 e01 e02))) + (e11 * (y / (jD e10 e11 e12 e10 e11 e12))))) (jB ((e02 * (x / (jD e00 e01 e02 e00 e01 e02))) + (e12 * (y / (jD e10 e11 e12 e10 e11 e12))))))))
 let y3 := (xX (aH.mk (kV.mk (jX.mk (jM.mk lx ly lz) (jK.mk la lb lc ld) lf (jZ.mk lu lv)) (jX.mk (jM.mk rx ry rz) (jK.mk ra rb rc rd) rf (jZ.mk ru rv))) (A3.mk (jB b0) (jB b1) (jB b2)) (A3.mk (A3.mk (jB e00) (jB e01) (jB e02)) (A3.mk (jB e10) (jB e11) (jB e12)) (A3.mk (jB e20) (jB e21) (jB e22)))))
 let y2 := (bx y3)
 let y1 := (bx (jP (A3.mk (jB (((e00 * (x / (jD e00 e01 e02 e00 e01 e02))) + (e10 * (y / (jD e10 e11 e12 e10 e11 e12)))) + (e20 * (((1 : Int) : Rat) / (jD e20 e21 e22 e20 e21 e22))))) (jB (((e01 * (x / (jD e00 e01 e02 e00 e01 e02))) + (e11 * (y / (jD e10 e11 e12 e10 e11 e12)))) + (e21 * (((1 : Int) : Rat) / (jD e20 e21 e22 e20 e21 e22))))) (jB (((e02 * (x / (jD e00 e01 e02 e00 e01 e02))) + (e12 * (y / (jD e10 e11 e12 e10 e11 e12)))) + (e22 * (((1 : Int) : Rat) / (jD e20 e21 e22 e20 e21 e22))))))))
 refine jN Tryz.func46 rfl cb46 rfl ?_
 show uT _ _ _ _ ⟨[(0, (.d y3)), (1, (.d (jI (jS.mk (jB x) (jB y)))))], []⟩
 refine jA <| kx [(2, (.ref 0 0)), (3, (.ref 1 0)), (4, (.ref 2 0))] [(0, some y2), (1, some (bx (jI (jS.mk (jB x) (jB y))))), (2, some (bx (jP (A3.mk y5 y5 y5))))] (zN (uX 0) <| zN (uX 1) <| zN (qS 2 dX dW) <| zZ) ?_
 refine jA ?_
 have bn1 : QL ((1 : Int) : Rat) 1 := (kQ (z := 1) (vK (by decide)) (by decide))
 refine kx [(5, (.ref 3 0))] [(3, some (bx (jR (jB ((1 : Int) : Rat)))))] (zE (kA (gD 1 (by decide) (by decide))) <| zN (qS 3 qR qY) <| zT (qB jT) <| zZ) ?_
 refine jA ?_
 have bn2 : QL ((0 : Int) : Rat) 3 := (qi 0)
 refine kx [(6, (.ref 4 0))] [(4, some (bx (jP (A3.mk (jB ((0 : Int) : Rat)) (jB ((0 : Int) : Rat)) (jB ((0 : Int) : Rat))))))] (zE (kA (qs_whole ((0 : Nat) : Int) (by omega) (by omega) ((0 : Nat) : Int) (by omega) (by omega) ((0 : Nat) : Int) (by omega) (by omega))) <| zN (qS 4 dX dW) <| zT (qB vC) <| zZ) ?_
 refine jA <| jA <| kx [(18, (vl 42 4 jR [(jB x), (jB y), (jB ((1 : Int) : Rat))])), (19, (kX 3)), (20, (kX 0))] [] (zE (qE cB) <| zR (kC jT) <| zE (qE cC) <| zR (kC jT) <| zR (kC jT) <| zE (cH vT qR qY) <| zE (oLn vT 3) <| zM <| zZ) ?_
 refine jG <| qU 20 ?_
 refine uF <| jA <| kx [(21, (vb true))] [] (zE (vB true uW) <| zZ) ?_
 refine jA <| kS ?_
 refine jE <| jA <| jG <| jA <| kx [(7, (kX 0)), (8, (.ref 5 0))] [(5, some (bx (jR (jB x))))] (zM <| zE (gL vT 0) <| zE (cG jT) <| zN (qS 5 qR qY) <| zM <| zT (qB jT) <| zZ) ?_
 refine jA ?_
 have bn3 : QL (jD e00 e01 e02 e00 e01 e02) 2402 := (jL (n := 400) (k := 2402) kM kK kL kM kK kL (by decide))
 refine kd [(9, (.ref 6 0))] [(6, some (bx (jR (jB (x / (jD e00 e01 e02 e00 e01 e02))))))] mo (wR (kC jT) <| wM <| wE (qE gY) <| wE (vF mU 0) <| wR (kC vC) <| wM <| wE (qE gY) <| wE (vF mU 0) <| wR (kC vC) <| wE (kA (aA e00 e01 e02 (qu kM) (qu kK) (qu kL) e00 e01 e02 (qu kM) (qu kK) (qu kL))) <| wE (kA (by have h := aI (jB x) (jB (jD e00 e01 e02 e00 e01 e02)) x (jD e00 e01 e02 e00 e01 e02) (jU (kD hx) (by decide)) (jU (kD bn3) (by decide)); rw [nD (yE hz0), nC (yE hz0)] at h; exact h)) <| wM <| wE uH <| wE uH <| wN (qS 6 qR qY) <| wT (qB jT) <| wM <| wZ) ?_
 have bn4 : QL (e00 * (x / (jD e00 e01 e02 e00 e01 e02))) 1002802 := (jH (k := 1002802) kM (kF (k := 1002402) hx bn3 (by decide)) (by decide))
 have bn5 : QL (e01 * (x / (jD e00 e01 e02 e00 e01 e02))) 1002802 := (jH (k := 1002802) kK (kF (k := 1002402) hx bn3 (by decide)) (by decide))
 have bn6 : QL (e02 * (x / (jD e00 e01 e02 e00 e01 e02))) 1002802 := (jH (k := 1002802) kL (kF (k := 1002402) hx bn3 (by decide)) (by decide))
 have bn7 : QL (e00 * (x / (jD e00 e01 e02 e00 e01 e02))) 1002806 := (jW (Eq.symm (zaddq (e00 * (x / (jD e00 e01 e02 e00 e01 e02))))) (kR (k := 1002806) bn2 bn4 (by decide)))
 have bn8 : QL (e01 * (x / (jD e00 e01 e02 e00 e01 e02))) 1002806 := (jW (Eq.symm (zaddq (e01 * (x / (jD e00 e01 e02 e00 e01 e02))))) (kR (k := 1002806) bn2 bn5 (by decide)))
 have bn9 : QL (e02 * (x / (jD e00 e01 e02 e00 e01 e02))) 1002806 := (jW (Eq.symm (zaddq (e02 * (x / (jD e00 e01 e02 e00 e01 e02))))) (kR (k := 1002806) bn2 bn6 (by decide)))
 refine kd [] [(4, some (bx (jP (A3.mk (jB (e00 * (x / (jD e00 e01 e02 e00 e01 e02)))) (jB (e01 * (x / (jD e00 e01 e02 e00 e01 e02)))) (jB (e02 * (x / (jD e00 e01 e02 e00 e01 e02))))))))] mo (wR (kC vC) <| wM <| wE (qE gY) <| wE (vF mU 0) <| wR (kC vC) <| wR (kC jT) <| wE (kA (yL e00 e01 e02 (qu kM) (qu kK) (qu kL) (x / (jD e00 e01 e02 e00 e01 e02)) (kJ (kF (k := 1002402) hx bn3 (by decide)) (by decide)))) <| wE (kA (by have h := qs_sum ((0 : Int) : Rat) ((0 : Int) : Rat) ((0 : Int) : Rat) (qu bn2) (qu bn2) (qu bn2) (e00 * (x / (jD e00 e01 e02 e00 e01 e02))) (e01 * (x / (jD e00 e01 e02 e00 e01 e02))) (e02 * (x / (jD e00 e01 e02 e00 e01 e02))) (qu bn4) (qu bn5) (qu bn6); rw [(zaddq (e00 * (x / (jD e00 e01 e02 e00 e01 e02)))), (zaddq (e01 * (x / (jD e00 e01 e02 e00 e01 e02)))), (zaddq (e02 * (x / (jD e00 e01 e02 e00 e01 e02))))] at h; exact h)) <| wT (qB vC) <| wZ) ?_
 refine kx [(20, (kX 1))] [] (zE (uZ 1 (hr := by decide)) <| zM <| zZ) ?_
 refine jV (kU.refl _) ?_
 refine jA <| kx [(21, (vb true))] [] (zE (vB true uW) <| zZ) ?_
 refine jA <| kS ?_
 refine jE <| jA <| jG <| jA <| kx [(7, (kX 1)), (8, (.ref 7 0))] [(7, some (bx (jR (jB y))))] (zM <| zE (gL vT 1) <| zE (cG jT) <| zN (qS 7 qR qY) <| zM <| zT (qB jT) <| zZ) ?_
 refine jA ?_
 have bn10 : QL (jD e10 e11 e12 e10 e11 e12) 2402 := (jL (n := 400) (k := 2402) kO kP kN kO kP kN (by decide))
 refine kd [(9, (.ref 8 0))] [(8, some (bx (jR (jB (y / (jD e10 e11 e12 e10 e11 e12))))))] mo (wR (kC jT) <| wM <| wE (qE gY) <| wE (vF mU 1) <| wR (kC vC) <| wM <| wE (qE gY) <| wE (vF mU 1) <| wR (kC vC) <| wE (kA (aA e10 e11 e12 (qu kO) (qu kP) (qu kN) e10 e11 e12 (qu kO) (qu kP) (qu kN))) <| wE (kA (by have h := aI (jB y) (jB (jD e10 e11 e12 e10 e11 e12)) y (jD e10 e11 e12 e10 e11 e12) (jU (kD hy) (by decide)) (jU (kD bn10) (by decide)); rw [nD (yE hz1), nC (yE hz1)] at h; exact h)) <| wM <| wE uH <| wE uH <| wN (qS 8 qR qY) <| wT (qB jT) <| wM <| wZ) ?_
 have bn11 : QL (e10 * (y / (jD e10 e11 e12 e10 e11 e12))) 1002802 := (jH (k := 1002802) kO (kF (k := 1002402) hy bn10 (by decide)) (by decide))
 have bn12 : QL (e11 * (y / (jD e10 e11 e12 e10 e11 e12))) 1002802 := (jH (k := 1002802) kP (kF (k := 1002402) hy bn10 (by decide)) (by decide))
 have bn13 : QL (e12 * (y / (jD e10 e11 e12 e10 e11 e12))) 1002802 := (jH (k := 1002802) kN (kF (k := 1002402) hy bn10 (by decide)) (by decide))
 refine kd [] [(4, some y4)] mo (wR (kC vC) <| wM <| wE (qE gY) <| wE (vF mU 1) <| wR (kC vC) <| wR (kC jT) <| wE (kA (yL e10 e11 e12 (qu kO) (qu kP) (qu kN) (y / (jD e10 e11 e12 e10 e11 e12)) (kJ (kF (k := 1002402) hy bn10 (by decide)) (by decide)))) <| wE (kA (qs_sum (e00 * (x / (jD e00 e01 e02 e00 e01 e02))) (e01 * (x / (jD e00 e01 e02 e00 e01 e02))) (e02 * (x / (jD e00 e01 e02 e00 e01 e02))) (qu bn7) (qu bn8) (qu bn9) (e10 * (y / (jD e10 e11 e12 e10 e11 e12))) (e11 * (y / (jD e10 e11 e12 e10 e11 e12))) (e12 * (y / (jD e10 e11 e12 e10 e11 e12))) (qu bn11) (qu bn12) (qu bn13))) <| wT (qB vC) <| wZ) ?_
 refine kx [(20, (kX 2))] [] (zE (uZ 2 (hr := by decide)) <| zM <| zZ) ?_
 refine jV (kU.refl _) ?_
 refine jA <| qM (wk (l := [(2, (.ref 0 0)), (4, (.ref 2 0)), (6, (.ref 4 0)), (18, (vl 42 4 jR [(jB x), (jB y), (jB ((1 : Int) : Rat))])), (19, (kX 3)), (20, (kX 2))]) (b := [(0, some y2), (2, some (bx (jP (A3.mk y5 y5 y5)))), (4, some y4)])) ?_
 refine kx [(21, (vb true))] [] (zE (vB true uW) <| zZ) ?_
 refine jA <| kS ?_
 refine jE <| jA <| jG <| jA <| kx [(7, (kX 2)), (8, (.ref 9 0))] [(9, some (bx (jR (jB ((1 : Int) : Rat)))))] (zM <| zE (gL vT 2) <| zE (cG jT) <| zN (qS 9 qR qY) <| zM <| zT (qB jT) <| zZ) ?_
 refine jA ?_
 have bn14 : QL (jD e20 e21 e22 e20 e21 e22) 2402 := (jL (n := 400) (k := 2402) kH kG kI kH kG kI (by decide))
 refine kd [(9, (.ref 10 0))] [(10, some (bx (jR (jB (((1 : Int) : Rat) / (jD e20 e21 e22 e20 e21 e22))))))] mo (wR (kC jT) <| wM <| wE (qE gY) <| wE (vF mU 2) <| wR (kC vC) <| wM <| wE (qE gY) <| wE (vF mU 2) <| wR (kC vC) <| wE (kA (aA e20 e21 e22 (qu kH) (qu kG) (qu kI) e20 e21 e22 (qu kH) (qu kG) (qu kI))) <| wE (kA (by have h := aI (jB ((1 : Int) : Rat)) (jB (jD e20 e21 e22 e20 e21 e22)) ((1 : Int) : Rat) (jD e20 e21 e22 e20 e21 e22) (jU (kD bn1) (by decide)) (jU (kD bn14) (by decide)); rw [nD (yE hz2), nC (yE hz2)] at h; exact h)) <| wM <| wE uH <| wE uH <| wN (qS 10 qR qY) <| wT (qB jT) <| wM <| wZ) ?_
 have bn15 : QL (e20 * (((1 : Int) : Rat) / (jD e20 e21 e22 e20 e21 e22))) 2803 := (jH (k := 2803) kH (kF (k := 2403) bn1 bn14 (by decide)) (by decide))
 have bn16 : QL (e21 * (((1 : Int) : Rat) / (jD e20 e21 e22 e20 e21 e22))) 2803 := (jH (k := 2803) kG (kF (k := 2403) bn1 bn14 (by decide)) (by decide))
 have bn17 : QL (e22 * (((1 : Int) : Rat) / (jD e20 e21 e22 e20 e21 e22))) 2803 := (jH (k := 2803) kI (kF (k := 2403) bn1 bn14 (by decide)) (by decide))
 have bn18 : QL (((e00 * (x / (jD e00 e01 e02 e00 e01 e02))) + (e10 * (y / (jD e10 e11 e12 e10 e11 e12)))) + (e20 * (((1 : Int) : Rat) / (jD e20 e21 e22 e20 e21 e22)))) 2008413 := (kR (k := 2008413) (kR (k := 2005609) bn7 bn11 (by decide)) bn15 (by decide))
 have bn19 : QL (((e01 * (x / (jD e00 e01 e02 e00 e01 e02))) + (e11 * (y / (jD e10 e11 e12 e10 e11 e12)))) + (e21 * (((1 : Int) : Rat) / (jD e20 e21 e22 e20 e21 e22)))) 2008413 := (kR (k := 2008413) (kR (k := 2005609) bn8 bn12 (by decide)) bn16 (by decide))
 have bn20 : QL (((e02 * (x / (jD e00 e01 e02 e00 e01 e02))) + (e12 * (y / (jD e10 e11 e12 e10 e11 e12)))) + (e22 * (((1 : Int) : Rat) / (jD e20 e21 e22 e20 e21 e22)))) 2008413 := (kR (k := 2008413) (kR (k := 2005609) bn9 bn13 (by decide)) bn17 (by decide))
 refine kd [] [(4, some y1)] mo (wR (kC vC) <| wM <| wE (qE gY) <| wE (vF mU 2) <| wR (kC vC) <| wR (kC jT) <| wE (kA (yL e20 e21 e22 (qu kH) (qu kG) (qu kI) (((1 : Int) : Rat) / (jD e20 e21 e22 e20 e21 e22)) (kJ (kF (k := 2403) bn1 bn14 (by decide)) (by decide)))) <| wE (kA (qs_sum ((e00 * (x / (jD e00 e01 e02 e00 e01 e02))) + (e10 * (y / (jD e10 e11 e12 e10 e11 e12)))) ((e01 * (x / (jD e00 e01 e02 e00 e01 e02))) + (e11 * (y / (jD e10 e11 e12 e10 e11 e12)))) ((e02 * (x / (jD e00 e01 e02 e00 e01 e02))) + (e12 * (y / (jD e10 e11 e12 e10 e11 e12)))) (kJ (kR (k := 2005609) bn7 bn11 (by decide)) (by decide)) (kJ (kR (k := 2005609) bn8 bn12 (by decide)) (by decide)) (kJ (kR (k := 2005609) bn9 bn13 (by decide)) (by decide)) (e20 * (((1 : Int) : Rat) / (jD e20 e21 e22 e20 e21 e22))) (e21 * (((1 : Int) : Rat) / (jD e20 e21 e22 e20 e21 e22))) (e22 * (((1 : Int) : Rat) / (jD e20 e21 e22 e20 e21 e22))) (qu bn15) (qu bn16) (qu bn17))) <| wT (qB vC) <| wZ) ?_
 refine kx [(20, (kX 3))] [] (zE (uZ 3 (hr := by decide)) <| zM <| zZ) ?_
 refine jV (kU.refl _) ?_
 refine jA <| kx [(21, (vb false))] [] (zE (vB false uW) <| zZ) ?_
 refine jA <| kY ?_
 refine qF <| jA <| kx [] [(2, some y1)] (zR (kC vC) <| zT (qB vC) <| zZ) ?_
 refine jJ ⟨_, (qI (cs := (bx (jP (A3.mk (jB (((e00 * (x / (jD e00 e01 e02 e00 e01 e02))) + (e10 * (y / (jD e10 e11 e12 e10 e11 e12)))) + (e20 * (((1 : Int) : Rat) / (jD e20 e21 e22 e20 e21 e22))))) (jB (((e01 * (x / (jD e00 e01 e02 e00 e01 e02))) + (e11 * (y / (jD e10 e11 e12 e10 e11 e12)))) + (e21 * (((1 : Int) : Rat) / (jD e20 e21 e22 e20 e21 e22))))) (jB (((e02 * (x / (jD e00 e01 e02 e00 e01 e02))) + (e12 * (y / (jD e10 e11 e12 e10 e11 e12)))) + (e22 * (((1 : Int) : Rat) / (jD e20 e21 e22 e20 e21 e22))))))))) (d := (jP (A3.mk (jB (((e00 * (x / (jD e00 e01 e02 e00 e01 e02))) + (e10 * (y / (jD e10 e11 e12 e10 e11 e12)))) + (e20 * (((1 : Int) : Rat) / (jD e20 e21 e22 e20 e21 e22))))) (jB (((e01 * (x / (jD e00 e01 e02 e00 e01 e02))) + (e11 * (y / (jD e10 e11 e12 e10 e11 e12)))) + (e21 * (((1 : Int) : Rat) / (jD e20 e21 e22 e20 e21 e22))))) (jB (((e02 * (x / (jD e00 e01 e02 e00 e01 e02))) + (e12 * (y / (jD e10 e11 e12 e10 e11 e12)))) + (e22 * (((1 : Int) : Rat) / (jD e20 e21 e22 e20 e21 e22)))))))) rfl rfl vC rfl rfl .nil), ?_⟩
 rfl
end Go.Proofs.YtbecgnplakngdaaGreat
