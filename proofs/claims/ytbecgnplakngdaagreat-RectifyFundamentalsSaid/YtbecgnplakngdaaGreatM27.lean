/- Part 27 of a proof: rules, plain facts, and functions walked. -/
import Derived.Test.YtbecgnplakngdaaGreatM22
import Derived.Test.YtbecgnplakngdaaGreatM26
import Derived.Test.YtbecgnplakngdaaGreatM19
set_option linter.unusedVariables false
set_option linter.unusedSimpArgs false
namespace Go.Fid
theorem eB {q : Rat} (h : ¬ uI q ≤ 0) : q ≠ 0 := fun e => h (by rw [show uI q = 0 from nX.2 e]; decide)
theorem gR (a b c x y z : Rat) : a * x + b * y + c * z = jG a b c x y z := rfl
theorem div_mul_q (f v x : Rat) : f / v * x = f * x / v := by rw [Rat.div_def, Rat.div_def]; grind
theorem skew0 (b0 b1 b2 p q r : Rat) : p * (b1 * ((0 : Int) : Rat) - b2 * ((0 : Int) : Rat)) + q * (b1 * ((0 : Int) : Rat) - b2 * ((1 : Int) : Rat)) + r * (b1 * ((1 : Int) : Rat) - b2 * ((0 : Int) : Rat)) = b1 * r - b2 * q := by
  rw [Rat.intCast_one, Rat.intCast_zero]; grind
theorem skew1 (b0 b1 b2 p q r : Rat) : p * (b2 * ((1 : Int) : Rat) - b0 * ((0 : Int) : Rat)) + q * (b2 * ((0 : Int) : Rat) - b0 * ((0 : Int) : Rat)) + r * (b2 * ((0 : Int) : Rat) - b0 * ((1 : Int) : Rat)) = b2 * p - b0 * r := by
  rw [Rat.intCast_one, Rat.intCast_zero]; grind
theorem skew2 (b0 b1 b2 p q r : Rat) : p * (b0 * ((0 : Int) : Rat) - b1 * ((1 : Int) : Rat)) + q * (b0 * ((1 : Int) : Rat) - b1 * ((0 : Int) : Rat)) + r * (b0 * ((0 : Int) : Rat) - b1 * ((0 : Int) : Rat)) = b0 * q - b1 * p := by
  rw [Rat.intCast_one, Rat.intCast_zero]; grind
end Go.Fid
namespace Go.Proofs.YtbecgnplakngdaaGreat
open Go.Fid
set_option maxRecDepth 4000
set_option linter.unusedVariables false
set_option linter.unusedSimpArgs false
theorem cb95 : callB Tryz.prog 95 = true := by kernel_rfl
theorem fo47_0 : xH Tryz.prog 47 0 = some 0 := by kernel_rfl
theorem fo134_0 : xH Tryz.prog 134 0 = some 0 := by kernel_rfl
theorem fo134_1 : xH Tryz.prog 134 1 = some 10 := by kernel_rfl
theorem q_coo (lx ly lz la lb lc ld lf lu lv rx ry rz ra rb rc rd rf ru rv : Int) (b0 b1 b2 e00 e01 e02 e10 e11 e12 e20 e21 e22 : Rat) (uM : QL b0 3) (uN : QL b1 3) (uO : QL b2 3) (xU : QL e00 400) (xW : QL e01 400) (xS : QL e02 400) (xY : QL e10 400) (xZ : QL e11 400) (zB : QL e12 400) (xV : QL e20 400) (xR : QL e21 400) (xT : QL e22 400) (w0 w1 w2 : Rat) (hw0 : QL w0 1000000) (hw1 : QL w1 1000000) (hw2 : QL w2 1000000) (hd : ¬ (uI (jG e20 e21 e22 w0 w1 w2)) ≤ 0) : kH Tryz.prog 95 [(.cptr 1000001 (qE.cells (bG (RRp.mk (kO.mk (jW.mk lx ly lz) (jU.mk la lb lc ld) lf (kP.mk lu lv)) (kO.mk (jW.mk rx ry rz) (jU.mk ra rb rc rd) rf (kP.mk ru rv)) (A3.mk (jB b0) (jB b1) (jB b2)) (A3.mk (A3.mk (jB e00) (jB e01) (jB e02)) (A3.mk (jB e10) (jB e11) (jB e12)) (A3.mk (jB e20) (jB e21) (jB e22)))))) 0), (jR (A3.mk (jB w0) (jB w1) (jB w2)))] (.tup [(uA (vU.mk (jB ((jG e00 e01 e02 w0 w1 w2) / (jG e20 e21 e22 w0 w1 w2))) (jB ((jG e10 e11 e12 w0 w1 w2) / (jG e20 e21 e22 w0 w1 w2))))), (jM (jB (jG e20 e21 e22 w0 w1 w2))), (.val (.bool (true)))]) := by
 refine jP Tryz.func95 rfl cb95 rfl ?_
 show uK _ _ _ _ ⟨[(0, (.d (.cptr 1000001 (qE.cells (bG (RRp.mk (kO.mk (jW.mk lx ly lz) (jU.mk la lb lc ld) lf (kP.mk lu lv)) (kO.mk (jW.mk rx ry rz) (jU.mk ra rb rc rd) rf (kP.mk ru rv)) (A3.mk (jB b0) (jB b1) (jB b2)) (A3.mk (A3.mk (jB e00) (jB e01) (jB e02)) (A3.mk (jB e10) (jB e11) (jB e12)) (A3.mk (jB e20) (jB e21) (jB e22)))))) 0))), (1, (.d (jR (A3.mk (jB w0) (jB w1) (jB w2)))))], []⟩
 refine jA <| kx [(3, (.ref 0 0)), (4, (.ref 1 0)), (5, (.ref 2 0))] [(0, some (bx (jR (A3.mk (jB w0) (jB w1) (jB w2))))), (1, some (bx (uA (vU.mk (kC.mk (jK.mk false []) (jK.mk false [])) (kC.mk (jK.mk false []) (jK.mk false [])))))), (2, some (bx (jM (kC.mk (jK.mk false []) (jK.mk false [])))))] (zN (vS 0) <| zN (qW 1 ze56 zo56) <| zN (qW 2 qA qH) <| zM <| zZ) ?_
 refine jA ?_
 have bn1 : QL (jG e00 e01 e02 w0 w1 w2) 6000002 := (jL (n := 1000000) (k := 6000002) (qu xU) (qu xW) (qu xS) hw0 hw1 hw2 (by decide))
 have bn2 : QL (jG e10 e11 e12 w0 w1 w2) 6000002 := (jL (n := 1000000) (k := 6000002) (qu xY) (qu xZ) (qu zB) hw0 hw1 hw2 (by decide))
 have bn3 : QL (jG e20 e21 e22 w0 w1 w2) 6000002 := (jL (n := 1000000) (k := 6000002) (qu xV) (qu xR) (qu xT) hw0 hw1 hw2 (by decide))
 refine kd [(7, (.ref 3 0))] [(3, some (bx (jR (A3.mk (jB (jG e00 e01 e02 w0 w1 w2)) (jB (jG e10 e11 e12 w0 w1 w2)) (jB (jG e20 e21 e22 w0 w1 w2))))))] mo (wM <| wE oNd <| wE (oFc eW) <| wE (nL nT) <| wR (kF uC) <| wE (kA (q_times e00 e01 e02 e10 e11 e12 e20 e21 e22 (qu xU) (qu xW) (qu xS) (qu xY) (qu xZ) (qu zB) (qu xV) (qu xR) (qu xT) w0 w1 w2 (qu hw0) (qu hw1) (qu hw2))) <| wN (qW 3 dG dJ) <| wT (kW uC) <| wZ) ?_
 refine jA <| jA <| kx [(21, (vb false))] [] (zE (uH uD 2) <| zR (kF jO) <| zE (kA (f_sign (jB (jG e20 e21 e22 w0 w1 w2)) (jG e20 e21 e22 w0 w1 w2) (jX (jY bn3) (by decide)))) <| zE (qL false oLe (by exact decide_eq_false hd)) <| zZ) ?_
 refine kG ?_
 refine jE <| jA <| kx [(8, (.ref 4 0))] [(4, some (bx (jM (jB ((jG e00 e01 e02 w0 w1 w2) / (jG e20 e21 e22 w0 w1 w2))))))] (zE (uH uD 0) <| zR (kF jO) <| zE (uH uD 2) <| zR (kF jO) <| zE (kA (by have h := f_divide (jB (jG e00 e01 e02 w0 w1 w2)) (jB (jG e20 e21 e22 w0 w1 w2)) (jG e00 e01 e02 w0 w1 w2) (jG e20 e21 e22 w0 w1 w2) (jX (jY bn1) (by decide)) (jX (jY bn3) (by decide)); rw [divR_ne (eB hd), divC_ne (eB hd)] at h; exact h)) <| zM <| zE uZ <| zE uZ <| zN (qW 4 qA qH) <| zT (kW jO) <| zM <| zZ) ?_
 refine jA <| kx [(10, (.ref 5 0))] [(5, some (bx (jM (jB ((jG e10 e11 e12 w0 w1 w2) / (jG e20 e21 e22 w0 w1 w2))))))] (zE (uH uD 1) <| zR (kF jO) <| zE (uH uD 2) <| zR (kF jO) <| zE (kA (by have h := f_divide (jB (jG e10 e11 e12 w0 w1 w2)) (jB (jG e20 e21 e22 w0 w1 w2)) (jG e10 e11 e12 w0 w1 w2) (jG e20 e21 e22 w0 w1 w2) (jX (jY bn2) (by decide)) (jX (jY bn3) (by decide)); rw [divR_ne (eB hd), divC_ne (eB hd)] at h; exact h)) <| zM <| zE uZ <| zE uZ <| zN (qW 5 qA qH) <| zT (kW jO) <| zM <| zZ) ?_
 refine jA <| kd [(6, (vb true))] [(1, some (bx (uA (vU.mk (jB ((jG e00 e01 e02 w0 w1 w2) / (jG e20 e21 e22 w0 w1 w2))) (jB ((jG e10 e11 e12 w0 w1 w2) / (jG e20 e21 e22 w0 w1 w2))))))), (2, some (bx (jM (jB (jG e20 e21 e22 w0 w1 w2)))))] mo (wR (kF jO) <| wR (kF jO) <| wE (oBd pl56 ze56 zo56) <| wE (uH uD 2) <| wR (kF jO) <| wT (kW iG) <| wT (kW jO) <| wM <| wZ) ?_
 refine jJ ⟨_, (qC (cs := (bx (uA (vU.mk (jB ((jG e00 e01 e02 w0 w1 w2) / (jG e20 e21 e22 w0 w1 w2))) (jB ((jG e10 e11 e12 w0 w1 w2) / (jG e20 e21 e22 w0 w1 w2))))))) (d := (uA (vU.mk (jB ((jG e00 e01 e02 w0 w1 w2) / (jG e20 e21 e22 w0 w1 w2))) (jB ((jG e10 e11 e12 w0 w1 w2) / (jG e20 e21 e22 w0 w1 w2)))))) rfl rfl iG rfl rfl (qC (cs := (bx (jM (jB (jG e20 e21 e22 w0 w1 w2))))) (d := (jM (jB (jG e20 e21 e22 w0 w1 w2)))) rfl rfl jO rfl rfl (.tmp (d := (.val (.bool (true)))) rfl .nil))), ?_⟩
 rfl
end Go.Proofs.YtbecgnplakngdaaGreat
namespace Go.Proofs.YtbecgnplakngdaaGreat
open Go.Fid
set_option maxRecDepth 4000
set_option linter.unusedVariables false
set_option linter.unusedSimpArgs false
theorem cb19 : callB Tryz.prog 19 = true := by kernel_rfl
theorem cb20 : callB Tryz.prog 20 = true := by kernel_rfl
theorem cb31 : callB Tryz.prog 31 = true := by kernel_rfl
theorem qs_shownN (tx ty tz ta tb tc td tf tu tv : Int) (w0 w1 w2 : Rat) (hw0 : QL w0 100000) (hw1 : QL w1 100000) (hw2 : QL w2 100000) (hst : uB tx ty tz tu tv tf ta tb tc td = 0) (hs2 : (uI (jG (qN ta tb tc td) (qO ta tb tc td) (qQ ta tb tc td) w0 w1 w2)) ≤ 0) : kH Tryz.prog 19 [(vL (kO.mk (jW.mk tx ty tz) (jU.mk ta tb tc td) tf (kP.mk tu tv))), (jR (A3.mk (jB w0) (jB w1) (jB w2)))] (.tup [(uA (vU.mk (kC.mk (jK.mk false []) (jK.mk false [])) (kC.mk (jK.mk false []) (jK.mk false [])))), (.val (.int .i64 (20)))]) := by
 obtain ⟨htx, hty, htz, htu, htv, htf, htq⟩ := xD hst
 obtain ⟨hta, htb, htc, htd, -⟩ := xA htq
 have hnt := nU hta htb htc htd
 refine jP Tryz.func19 rfl cb19 rfl ?_
 show uK _ _ _ _ ⟨[(0, (.d (vL (kO.mk (jW.mk tx ty tz) (jU.mk ta tb tc td) tf (kP.mk tu tv))))), (1, (.d (jR (A3.mk (jB w0) (jB w1) (jB w2)))))], []⟩
 refine jA <| kx [(2, (.ref 0 0)), (3, (.ref 1 0)), (4, (.ref 2 0))] [(0, some (bx (vL (kO.mk (jW.mk tx ty tz) (jU.mk ta tb tc td) tf (kP.mk tu tv))))), (1, some (bx (jR (A3.mk (jB w0) (jB w1) (jB w2))))), (2, some (bx (uA (vU.mk (kC.mk (jK.mk false []) (jK.mk false [])) (kC.mk (jK.mk false []) (jK.mk false []))))))] (zN (vS 0) <| zN (vS 1) <| zN (qW 2 ze56 zo56) <| zM <| zZ) ?_
 refine jA ?_
 have bn1 : QL (uY ta tb tc td) 3 := (gC)
 have bn2 : QL (vA ta tb tc td) 3 := (gG)
 have bn3 : QL (qN ta tb tc td) 3 := (yO)
 have bn4 : QL (vD ta tb tc td) 3 := (gB)
 have bn5 : QL (vC ta tb tc td) 3 := (gE)
 have bn6 : QL (qO ta tb tc td) 3 := (yN)
 have bn7 : QL (vH ta tb tc td) 3 := (gF)
 have bn8 : QL (vG ta tb tc td) 3 := (gD)
 have bn9 : QL (qQ ta tb tc td) 3 := (yL)
 have bn10 : QL (jG (uY ta tb tc td) (vD ta tb tc td) (vH ta tb tc td) w0 w1 w2) 300011 := (jH (Eq.symm (gR (uY ta tb tc td) (vD ta tb tc td) (vH ta tb tc td) w0 w1 w2)) (kE (k := 300011) (kE (k := 200007) (jD (k := 100003) bn1 hw0 (by decide)) (jD (k := 100003) bn4 hw1 (by decide)) (by decide)) (jD (k := 100003) bn7 hw2 (by decide)) (by decide)))
 have bn11 : QL (jG (vA ta tb tc td) (vC ta tb tc td) (vG ta tb tc td) w0 w1 w2) 300011 := (jH (Eq.symm (gR (vA ta tb tc td) (vC ta tb tc td) (vG ta tb tc td) w0 w1 w2)) (kE (k := 300011) (kE (k := 200007) (jD (k := 100003) bn2 hw0 (by decide)) (jD (k := 100003) bn5 hw1 (by decide)) (by decide)) (jD (k := 100003) bn8 hw2 (by decide)) (by decide)))
 have bn12 : QL (jG (qN ta tb tc td) (qO ta tb tc td) (qQ ta tb tc td) w0 w1 w2) 300011 := (jH (Eq.symm (gR (qN ta tb tc td) (qO ta tb tc td) (qQ ta tb tc td) w0 w1 w2)) (kE (k := 300011) (kE (k := 200007) (jD (k := 100003) bn3 hw0 (by decide)) (jD (k := 100003) bn6 hw1 (by decide)) (by decide)) (jD (k := 100003) bn9 hw2 (by decide)) (by decide)))
 refine kd [(6, (.ref 3 0))] [(3, some (bx (jR (A3.mk (jB (jG (uY ta tb tc td) (vD ta tb tc td) (vH ta tb tc td) w0 w1 w2)) (jB (jG (vA ta tb tc td) (vC ta tb tc td) (vG ta tb tc td) w0 w1 w2)) (jB (jG (qN ta tb tc td) (qO ta tb tc td) (qQ ta tb tc td) w0 w1 w2))))))] mo (wE (kS yW) <| wR (kF yF) <| wE (kA (qs_mat ta tb tc td (by omega) (by omega) (by omega) (by omega) htq)) <| wR (kF vX) <| wE (kA (by have h := qs_back (uY ta tb tc td) (vA ta tb tc td) (qN ta tb tc td) (vD ta tb tc td) (vC ta tb tc td) (qO ta tb tc td) (vH ta tb tc td) (vG ta tb tc td) (qQ ta tb tc td) (qu bn1) (qu bn2) (qu bn3) (qu bn4) (qu bn5) (qu bn6) (qu bn7) (qu bn8) (qu bn9) w0 w1 w2 (qu hw0) (qu hw1) (qu hw2); rw [(gR (uY ta tb tc td) (vD ta tb tc td) (vH ta tb tc td) w0 w1 w2), (gR (vA ta tb tc td) (vC ta tb tc td) (vG ta tb tc td) w0 w1 w2), (gR (qN ta tb tc td) (qO ta tb tc td) (qQ ta tb tc td) w0 w1 w2)] at h; exact h)) <| wN (qW 3 aM aO) <| wT (kW vX) <| wZ) ?_
 refine jA <| jA <| kx [(17, (vb true))] [] (zE (uH vE 2) <| zR (kF jO) <| zE (kA (gQ (jB (jG (qN ta tb tc td) (qO ta tb tc td) (qQ ta tb tc td) w0 w1 w2)) (jG (qN ta tb tc td) (qO ta tb tc td) (qQ ta tb tc td) w0 w1 w2) (jX (jY bn12) (by decide)))) <| zE (qL true oLe (by exact decide_eq_true hs2)) <| zZ) ?_
 refine jS ?_
 refine jA <| kx [(5, (kD 20))] [(2, some (bx (uA (vU.mk (kC.mk (jK.mk false []) (jK.mk false [])) (kC.mk (jK.mk false []) (jK.mk false []))))))] (zE (oBd pl56 ze56 zo56) <| zT (kW iG) <| zM <| zZ) ?_
 refine jJ ⟨_, (qC (cs := (bx (uA (vU.mk (kC.mk (jK.mk false []) (jK.mk false [])) (kC.mk (jK.mk false []) (jK.mk false [])))))) (d := (uA (vU.mk (kC.mk (jK.mk false []) (jK.mk false [])) (kC.mk (jK.mk false []) (jK.mk false []))))) rfl rfl iG rfl rfl (.tmp (d := (.val (.int .i64 (((20 : Nat) : Int))))) rfl .nil)), ?_⟩
 rfl
theorem qs_shown (tx ty tz ta tb tc td tf tu tv : Int) (w0 w1 w2 : Rat) (hw0 : QL w0 100000) (hw1 : QL w1 100000) (hw2 : QL w2 100000) (hst : uB tx ty tz tu tv tf ta tb tc td = 0) (hs2 : ¬ (uI (jG (qN ta tb tc td) (qO ta tb tc td) (qQ ta tb tc td) w0 w1 w2)) ≤ 0) : kH Tryz.prog 19 [(vL (kO.mk (jW.mk tx ty tz) (jU.mk ta tb tc td) tf (kP.mk tu tv))), (jR (A3.mk (jB w0) (jB w1) (jB w2)))] (.tup [(uA (vU.mk (jB (((tu : Int) : Rat) + ((((tf : Int) : Rat) * (jG (uY ta tb tc td) (vD ta tb tc td) (vH ta tb tc td) w0 w1 w2)) / (jG (qN ta tb tc td) (qO ta tb tc td) (qQ ta tb tc td) w0 w1 w2)))) (jB (((tv : Int) : Rat) + ((((tf : Int) : Rat) * (jG (vA ta tb tc td) (vC ta tb tc td) (vG ta tb tc td) w0 w1 w2)) / (jG (qN ta tb tc td) (qO ta tb tc td) (qQ ta tb tc td) w0 w1 w2)))))), (.val (.int .i64 (0)))]) := by
 obtain ⟨htx, hty, htz, htu, htv, htf, htq⟩ := xD hst
 obtain ⟨hta, htb, htc, htd, -⟩ := xA htq
 have hnt := nU hta htb htc htd
 let y1 := (jB (((tf : Int) : Rat) / (jG (qN ta tb tc td) (qO ta tb tc td) (qQ ta tb tc td) w0 w1 w2)))
 refine jP Tryz.func19 rfl cb19 rfl ?_
 show uK _ _ _ _ ⟨[(0, (.d (vL (kO.mk (jW.mk tx ty tz) (jU.mk ta tb tc td) tf (kP.mk tu tv))))), (1, (.d (jR (A3.mk (jB w0) (jB w1) (jB w2)))))], []⟩
 refine jA <| kx [(2, (.ref 0 0)), (3, (.ref 1 0)), (4, (.ref 2 0))] [(0, some (bx (vL (kO.mk (jW.mk tx ty tz) (jU.mk ta tb tc td) tf (kP.mk tu tv))))), (1, some (bx (jR (A3.mk (jB w0) (jB w1) (jB w2))))), (2, some (bx (uA (vU.mk (kC.mk (jK.mk false []) (jK.mk false [])) (kC.mk (jK.mk false []) (jK.mk false []))))))] (zN (vS 0) <| zN (vS 1) <| zN (qW 2 ze56 zo56) <| zM <| zZ) ?_
 refine jA ?_
 have bn1 : QL (uY ta tb tc td) 3 := (gC)
 have bn2 : QL (vA ta tb tc td) 3 := (gG)
 have bn3 : QL (qN ta tb tc td) 3 := (yO)
 have bn4 : QL (vD ta tb tc td) 3 := (gB)
 have bn5 : QL (vC ta tb tc td) 3 := (gE)
 have bn6 : QL (qO ta tb tc td) 3 := (yN)
 have bn7 : QL (vH ta tb tc td) 3 := (gF)
 have bn8 : QL (vG ta tb tc td) 3 := (gD)
 have bn9 : QL (qQ ta tb tc td) 3 := (yL)
 have bn10 : QL (jG (uY ta tb tc td) (vD ta tb tc td) (vH ta tb tc td) w0 w1 w2) 300011 := (jH (Eq.symm (gR (uY ta tb tc td) (vD ta tb tc td) (vH ta tb tc td) w0 w1 w2)) (kE (k := 300011) (kE (k := 200007) (jD (k := 100003) bn1 hw0 (by decide)) (jD (k := 100003) bn4 hw1 (by decide)) (by decide)) (jD (k := 100003) bn7 hw2 (by decide)) (by decide)))
 have bn11 : QL (jG (vA ta tb tc td) (vC ta tb tc td) (vG ta tb tc td) w0 w1 w2) 300011 := (jH (Eq.symm (gR (vA ta tb tc td) (vC ta tb tc td) (vG ta tb tc td) w0 w1 w2)) (kE (k := 300011) (kE (k := 200007) (jD (k := 100003) bn2 hw0 (by decide)) (jD (k := 100003) bn5 hw1 (by decide)) (by decide)) (jD (k := 100003) bn8 hw2 (by decide)) (by decide)))
 have bn12 : QL (jG (qN ta tb tc td) (qO ta tb tc td) (qQ ta tb tc td) w0 w1 w2) 300011 := (jH (Eq.symm (gR (qN ta tb tc td) (qO ta tb tc td) (qQ ta tb tc td) w0 w1 w2)) (kE (k := 300011) (kE (k := 200007) (jD (k := 100003) bn3 hw0 (by decide)) (jD (k := 100003) bn6 hw1 (by decide)) (by decide)) (jD (k := 100003) bn9 hw2 (by decide)) (by decide)))
 refine kd [(6, (.ref 3 0))] [(3, some (bx (jR (A3.mk (jB (jG (uY ta tb tc td) (vD ta tb tc td) (vH ta tb tc td) w0 w1 w2)) (jB (jG (vA ta tb tc td) (vC ta tb tc td) (vG ta tb tc td) w0 w1 w2)) (jB (jG (qN ta tb tc td) (qO ta tb tc td) (qQ ta tb tc td) w0 w1 w2))))))] mo (wE (kS yW) <| wR (kF yF) <| wE (kA (qs_mat ta tb tc td (by omega) (by omega) (by omega) (by omega) htq)) <| wR (kF vX) <| wE (kA (by have h := qs_back (uY ta tb tc td) (vA ta tb tc td) (qN ta tb tc td) (vD ta tb tc td) (vC ta tb tc td) (qO ta tb tc td) (vH ta tb tc td) (vG ta tb tc td) (qQ ta tb tc td) (qu bn1) (qu bn2) (qu bn3) (qu bn4) (qu bn5) (qu bn6) (qu bn7) (qu bn8) (qu bn9) w0 w1 w2 (qu hw0) (qu hw1) (qu hw2); rw [(gR (uY ta tb tc td) (vD ta tb tc td) (vH ta tb tc td) w0 w1 w2), (gR (vA ta tb tc td) (vC ta tb tc td) (vG ta tb tc td) w0 w1 w2), (gR (qN ta tb tc td) (qO ta tb tc td) (qQ ta tb tc td) w0 w1 w2)] at h; exact h)) <| wN (qW 3 aM aO) <| wT (kW vX) <| wZ) ?_
 refine jA <| jA <| kx [(17, (vb false))] [] (zE (uH vE 2) <| zR (kF jO) <| zE (kA (gQ (jB (jG (qN ta tb tc td) (qO ta tb tc td) (qQ ta tb tc td) w0 w1 w2)) (jG (qN ta tb tc td) (qO ta tb tc td) (qQ ta tb tc td) w0 w1 w2) (jX (jY bn12) (by decide)))) <| zE (qL false oLe (by exact decide_eq_false hs2)) <| zZ) ?_
 refine kG ?_
 refine jE <| jA ?_
 have bn13 : QL ((tf : Int) : Rat) 3 := (kV (z := tf) (jQ (by omega) (by omega)) (by decide))
 refine kd [(7, (.ref 4 0))] [(4, some (bx (jM y1)))] mo (wE (kS fo29_2) <| wR (uF uQ) <| wE (kA (cV tf (by omega) (by omega))) <| wE (uH vE 2) <| wR (kF jO) <| wE (kA (by have h := g_divide (jB ((tf : Int) : Rat)) (jB (jG (qN ta tb tc td) (qO ta tb tc td) (qQ ta tb tc td) w0 w1 w2)) ((tf : Int) : Rat) (jG (qN ta tb tc td) (qO ta tb tc td) (qQ ta tb tc td) w0 w1 w2) (jX (jY bn13) (by decide)) (jX (jY bn12) (by decide)); rw [divR_ne (eB hs2), divC_ne (eB hs2)] at h; exact h)) <| wM <| wE uZ <| wE uZ <| wN (qW 4 qA qH) <| wT (kW jO) <| wM <| wZ) ?_
 refine jA ?_
 have bn14 : QL ((tu : Int) : Rat) 3 := (kV (z := tu) (jQ (by omega) (by omega)) (by decide))
 have bn15 : QL ((((tf : Int) : Rat) * (jG (uY ta tb tc td) (vD ta tb tc td) (vH ta tb tc td) w0 w1 w2)) / (jG (qN ta tb tc td) (qO ta tb tc td) (qQ ta tb tc td) w0 w1 w2)) 600025 := (jH (Eq.symm (div_mul_q ((tf : Int) : Rat) (jG (qN ta tb tc td) (qO ta tb tc td) (qQ ta tb tc td) w0 w1 w2) (jG (uY ta tb tc td) (vD ta tb tc td) (vH ta tb tc td) w0 w1 w2))) (jD (k := 600025) (cG (k := 300014) bn13 bn12 (by decide)) bn10 (by decide)))
 have bn16 : QL ((tv : Int) : Rat) 3 := (kV (z := tv) (jQ (by omega) (by omega)) (by decide))
 have bn17 : QL ((((tf : Int) : Rat) * (jG (vA ta tb tc td) (vC ta tb tc td) (vG ta tb tc td) w0 w1 w2)) / (jG (qN ta tb tc td) (qO ta tb tc td) (qQ ta tb tc td) w0 w1 w2)) 600025 := (jH (Eq.symm (div_mul_q ((tf : Int) : Rat) (jG (qN ta tb tc td) (qO ta tb tc td) (qQ ta tb tc td) w0 w1 w2) (jG (vA ta tb tc td) (vC ta tb tc td) (vG ta tb tc td) w0 w1 w2))) (jD (k := 600025) (cG (k := 300014) bn13 bn12 (by decide)) bn11 (by decide)))
 refine kd [(5, (kD 0))] [(2, some (bx (uA (vU.mk (jB (((tu : Int) : Rat) + ((((tf : Int) : Rat) * (jG (uY ta tb tc td) (vD ta tb tc td) (vH ta tb tc td) w0 w1 w2)) / (jG (qN ta tb tc td) (qO ta tb tc td) (qQ ta tb tc td) w0 w1 w2)))) (jB (((tv : Int) : Rat) + ((((tf : Int) : Rat) * (jG (vA ta tb tc td) (vC ta tb tc td) (vG ta tb tc td) w0 w1 w2)) / (jG (qN ta tb tc td) (qO ta tb tc td) (qQ ta tb tc td) w0 w1 w2))))))))] mo (wE (kS bN) <| wE (kS fo27_0) <| wR (uF uQ) <| wE (kA (cV tu (by omega) (by omega))) <| wR (kF jO) <| wE (uH vE 0) <| wR (kF jO) <| wE (kA (by have h := mZ y1 (jB (jG (uY ta tb tc td) (vD ta tb tc td) (vH ta tb tc td) w0 w1 w2)) (((tf : Int) : Rat) / (jG (qN ta tb tc td) (qO ta tb tc td) (qQ ta tb tc td) w0 w1 w2)) (jG (uY ta tb tc td) (vD ta tb tc td) (vH ta tb tc td) w0 w1 w2) (jX (jY (cG (k := 300014) bn13 bn12 (by decide))) (by decide)) (jX (jY bn10) (by decide)); rw [(div_mul_q ((tf : Int) : Rat) (jG (qN ta tb tc td) (qO ta tb tc td) (qQ ta tb tc td) w0 w1 w2) (jG (uY ta tb tc td) (vD ta tb tc td) (vH ta tb tc td) w0 w1 w2))] at h; exact h)) <| wE (kA (eA (jB ((tu : Int) : Rat)) (jB ((((tf : Int) : Rat) * (jG (uY ta tb tc td) (vD ta tb tc td) (vH ta tb tc td) w0 w1 w2)) / (jG (qN ta tb tc td) (qO ta tb tc td) (qQ ta tb tc td) w0 w1 w2))) ((tu : Int) : Rat) ((((tf : Int) : Rat) * (jG (uY ta tb tc td) (vD ta tb tc td) (vH ta tb tc td) w0 w1 w2)) / (jG (qN ta tb tc td) (qO ta tb tc td) (qQ ta tb tc td) w0 w1 w2)) (jX (jY bn14) (by decide)) (jX (jY bn15) (by decide)))) <| wE (kS bN) <| wE (kS fo27_1) <| wR (uF uQ) <| wE (kA (cV tv (by omega) (by omega))) <| wR (kF jO) <| wE (uH vE 1) <| wR (kF jO) <| wE (kA (by have h := mZ y1 (jB (jG (vA ta tb tc td) (vC ta tb tc td) (vG ta tb tc td) w0 w1 w2)) (((tf : Int) : Rat) / (jG (qN ta tb tc td) (qO ta tb tc td) (qQ ta tb tc td) w0 w1 w2)) (jG (vA ta tb tc td) (vC ta tb tc td) (vG ta tb tc td) w0 w1 w2) (jX (jY (cG (k := 300014) bn13 bn12 (by decide))) (by decide)) (jX (jY bn11) (by decide)); rw [(div_mul_q ((tf : Int) : Rat) (jG (qN ta tb tc td) (qO ta tb tc td) (qQ ta tb tc td) w0 w1 w2) (jG (vA ta tb tc td) (vC ta tb tc td) (vG ta tb tc td) w0 w1 w2))] at h; exact h)) <| wE (kA (eA (jB ((tv : Int) : Rat)) (jB ((((tf : Int) : Rat) * (jG (vA ta tb tc td) (vC ta tb tc td) (vG ta tb tc td) w0 w1 w2)) / (jG (qN ta tb tc td) (qO ta tb tc td) (qQ ta tb tc td) w0 w1 w2))) ((tv : Int) : Rat) ((((tf : Int) : Rat) * (jG (vA ta tb tc td) (vC ta tb tc td) (vG ta tb tc td) w0 w1 w2)) / (jG (qN ta tb tc td) (qO ta tb tc td) (qQ ta tb tc td) w0 w1 w2)) (jX (jY bn16) (by decide)) (jX (jY bn17) (by decide)))) <| wE (oBd pl56 ze56 zo56) <| wT (kW iG) <| wM <| wZ) ?_
 refine jJ ⟨_, (qC (cs := (bx (uA (vU.mk (jB (((tu : Int) : Rat) + ((((tf : Int) : Rat) * (jG (uY ta tb tc td) (vD ta tb tc td) (vH ta tb tc td) w0 w1 w2)) / (jG (qN ta tb tc td) (qO ta tb tc td) (qQ ta tb tc td) w0 w1 w2)))) (jB (((tv : Int) : Rat) + ((((tf : Int) : Rat) * (jG (vA ta tb tc td) (vC ta tb tc td) (vG ta tb tc td) w0 w1 w2)) / (jG (qN ta tb tc td) (qO ta tb tc td) (qQ ta tb tc td) w0 w1 w2)))))))) (d := (uA (vU.mk (jB (((tu : Int) : Rat) + ((((tf : Int) : Rat) * (jG (uY ta tb tc td) (vD ta tb tc td) (vH ta tb tc td) w0 w1 w2)) / (jG (qN ta tb tc td) (qO ta tb tc td) (qQ ta tb tc td) w0 w1 w2)))) (jB (((tv : Int) : Rat) + ((((tf : Int) : Rat) * (jG (vA ta tb tc td) (vC ta tb tc td) (vG ta tb tc td) w0 w1 w2)) / (jG (qN ta tb tc td) (qO ta tb tc td) (qQ ta tb tc td) w0 w1 w2))))))) rfl rfl iG rfl rfl (.tmp (d := (.val (.int .i64 (((0 : Nat) : Int))))) rfl .nil)), ?_⟩
 rfl
theorem bI (sx sy sz sa sb sc sd sf su sv : Int) (hsx : -1048576 ≤ sx ∧ sx ≤ 1048576) (hsy : -1048576 ≤ sy ∧ sy ≤ 1048576) (hsz : -1048576 ≤ sz ∧ sz ≤ 1048576) (px py pz : Int) (hpx : -1048576 ≤ px ∧ px ≤ 1048576) (hpy : -1048576 ≤ py ∧ py ≤ 1048576) (hpz : -1048576 ≤ pz ∧ pz ≤ 1048576) : kH Tryz.prog 20 [(vL (kO.mk (jW.mk sx sy sz) (jU.mk sa sb sc sd) sf (kP.mk su sv))), (uX (jW.mk px py pz))] (jR (A3.mk (jB ((px - sx : Int) : Rat)) (jB ((py - sy : Int) : Rat)) (jB ((pz - sz : Int) : Rat)))) := by
 refine jP Tryz.func20 rfl cb20 rfl ?_
 show uK _ _ _ _ ⟨[(0, (.d (vL (kO.mk (jW.mk sx sy sz) (jU.mk sa sb sc sd) sf (kP.mk su sv))))), (1, (.d (uX (jW.mk px py pz))))], []⟩
 refine jA <| kx [(2, (.ref 0 0)), (3, (.ref 1 0)), (4, (.ref 2 0))] [(0, some (bx (vL (kO.mk (jW.mk sx sy sz) (jU.mk sa sb sc sd) sf (kP.mk su sv))))), (1, some (bx (uX (jW.mk px py pz)))), (2, some (bx (jR (A3.mk (kC.mk (jK.mk false []) (jK.mk false [])) (kC.mk (jK.mk false []) (jK.mk false [])) (kC.mk (jK.mk false []) (jK.mk false []))))))] (zN (vS 0) <| zN (vS 1) <| zN (qW 2 aM aO) <| zZ) ?_
 refine jA ?_
 have bn1 : QL ((px - sx : Int) : Rat) 3 := (qi (px - sx))
 have bn2 : QL ((py - sy : Int) : Rat) 3 := (qi (py - sy))
 have bn3 : QL ((pz - sz : Int) : Rat) 3 := (qi (pz - sz))
 refine kx [] [(2, some (bx (jR (A3.mk (jB ((px - sx : Int) : Rat)) (jB ((py - sy : Int) : Rat)) (jB ((pz - sz : Int) : Rat))))))] (zE (kS yH) <| zR (uF uQ) <| zE (kS yC) <| zE (kS yH) <| zR (uF uQ) <| zE (fT (px - sx) (hr := by exact (qK rfl (by simp only [xC]; omega) (by simp only [xF]; omega)))) <| zE (kS yT) <| zR (uF uQ) <| zE (kS yC) <| zE (kS yT) <| zR (uF uQ) <| zE (fT (py - sy) (hr := by exact (qK rfl (by simp only [xC]; omega) (by simp only [xF]; omega)))) <| zE (kS yV) <| zR (uF uQ) <| zE (kS yC) <| zE (kS yV) <| zR (uF uQ) <| zE (fT (pz - sz) (hr := by exact (qK rfl (by simp only [xC]; omega) (by simp only [xF]; omega)))) <| zE (kA (cE (px - sx) (by omega) (by omega) (py - sy) (by omega) (by omega) (pz - sz) (by omega) (by omega))) <| zT (kW vX) <| zZ) ?_
 refine jJ ⟨_, (qC (cs := (bx (jR (A3.mk (jB ((px - sx : Int) : Rat)) (jB ((py - sy : Int) : Rat)) (jB ((pz - sz : Int) : Rat)))))) (d := (jR (A3.mk (jB ((px - sx : Int) : Rat)) (jB ((py - sy : Int) : Rat)) (jB ((pz - sz : Int) : Rat))))) rfl rfl vX rfl rfl .nil), ?_⟩
 rfl
theorem qs_samep (x y : Rat) (hx : QL x 1000000) (hy : QL y 1000000) (u v : Rat) (hu : QL u 1000000) (hv : QL v 1000000) (hxu : x = u) (hyv : y = v) : kH Tryz.prog 31 [(uA (vU.mk (jB x) (jB y))), (uA (vU.mk (jB u) (jB v)))] (.val (.bool (true))) := by
 refine jP Tryz.func31 rfl cb31 rfl ?_
 show uK _ _ _ _ ⟨[(0, (.d (uA (vU.mk (jB x) (jB y))))), (1, (.d (uA (vU.mk (jB u) (jB v)))))], []⟩
 refine jA <| kx [(2, (.ref 0 0)), (3, (.ref 1 0))] [(0, some (bx (uA (vU.mk (jB x) (jB y))))), (1, some (bx (uA (vU.mk (jB u) (jB v)))))] (zN (vS 0) <| zN (vS 1) <| zM <| zZ) ?_
 refine jA <| kx [(4, (vb true))] [] (zE (kS fo56_0) <| zR (kF jO) <| zE (kS fo56_0) <| zR (kF jO) <| zE (qL true (kA (by have h := g_same (jB x) (jB u) x u (jX (jY hx) (by decide)) (jX (jY hu) (by decide)); rw [aF] at h; exact h)) (by exact decide_eq_true hxu)) <| zM <| zE (kS fo56_1) <| zR (kF jO) <| zE (kS fo56_1) <| zR (kF jO) <| zE (qL true (kA (by have h := g_same (jB y) (jB v) y v (jX (jY hy) (by decide)) (jX (jY hv) (by decide)); rw [aF] at h; exact h)) (by exact decide_eq_true hyv)) <| zE bW <| zM <| zZ) ?_
 refine jJ ⟨_, (.tmp (d := (.val (.bool (true)))) rfl .nil), ?_⟩
 rfl
end Go.Proofs.YtbecgnplakngdaaGreat
namespace Go.Proofs.YtbecgnplakngdaaGreat
open Go.Fid
set_option maxRecDepth 4000
set_option linter.unusedVariables false
set_option linter.unusedSimpArgs false
theorem cb29 : callB Tryz.prog 29 = true := by kernel_rfl
theorem q_prj (lx ly lz la lb lc ld lf lu lv rx ry rz ra rb rc rd rf ru rv : Int) (px py pz : Int) (hpx : -1048576 ≤ px ∧ px ≤ 1048576) (hpy : -1048576 ≤ py ∧ py ≤ 1048576) (hpz : -1048576 ≤ pz ∧ pz ≤ 1048576) (b0 b1 b2 e00 e01 e02 e10 e11 e12 e20 e21 e22 : Rat) (hF : RFr lx ly lz la lb lc ld rx ry rz ra rb rc rd b0 b1 b2 e00 e01 e02 e10 e11 e12 e20 e21 e22) (uM : QL b0 3) (uN : QL b1 3) (uO : QL b2 3) (xU : QL e00 400) (xW : QL e01 400) (xS : QL e02 400) (xY : QL e10 400) (xZ : QL e11 400) (zB : QL e12 400) (xV : QL e20 400) (xR : QL e21 400) (xT : QL e22 400) (r0 : Rat) (hr0 : ((px - lx : Int) : Rat) = r0) (r1 : Rat) (hr1 : ((py - ly : Int) : Rat) = r1) (r2 : Rat) (hr2 : ((pz - lz : Int) : Rat) = r2) (hl : uB lx ly lz lu lv lf la lb lc ld = 0) (hr : uB rx ry rz ru rv rf ra rb rc rd = 0) (hup : upV la lb lc ld ra rb rc rd b0 b1 b2 = false) (hd : ¬ (uI (jG e20 e21 e22 r0 r1 r2)) ≤ 0) : kH Tryz.prog 29 [(qJ (kX.mk (kO.mk (jW.mk lx ly lz) (jU.mk la lb lc ld) lf (kP.mk lu lv)) (kO.mk (jW.mk rx ry rz) (jU.mk ra rb rc rd) rf (kP.mk ru rv)))), (uX (jW.mk px py pz))] (.tup [(uA (vU.mk (jB ((jG e00 e01 e02 r0 r1 r2) / (jG e20 e21 e22 r0 r1 r2))) (jB ((jG e10 e11 e12 r0 r1 r2) / (jG e20 e21 e22 r0 r1 r2))))), (jM (jB ((jG e00 e01 e02 b0 b1 b2) / (jG e20 e21 e22 r0 r1 r2)))), (.val (.int .i64 (0)))]) := by
 have hbl := xD hl
 have hbr := xD hr
 obtain ⟨hlx, hly, hlz, hlu, hlv, hlf, hlq⟩ := hbl
 obtain ⟨hrx, hry, hrz, hru, hrv, hrf, hrq⟩ := hbr
 obtain ⟨hla, hlb, hlc, hld, -⟩ := xA hlq
 obtain ⟨hra, hrb, hrc, hrd, -⟩ := xA hrq
 have hnl := nU hla hlb hlc hld
 have hnr := nU hra hrb hrc hrd
 have hz0 := fr_z0 hF hup
 have hz1 := fr_z1 hF hup
 have hz2 := fr_z2 hF hup
 let y3 := (kC.mk (jK.mk false []) (jK.mk false []))
 let y2 := (qJ (kX.mk (kO.mk (jW.mk lx ly lz) (jU.mk la lb lc ld) lf (kP.mk lu lv)) (kO.mk (jW.mk rx ry rz) (jU.mk ra rb rc rd) rf (kP.mk ru rv))))
 let y1 := (bG (RRp.mk (kO.mk (jW.mk lx ly lz) (jU.mk la lb lc ld) lf (kP.mk lu lv)) (kO.mk (jW.mk rx ry rz) (jU.mk ra rb rc rd) rf (kP.mk ru rv)) (A3.mk (jB b0) (jB b1) (jB b2)) (A3.mk (A3.mk (jB e00) (jB e01) (jB e02)) (A3.mk (jB e10) (jB e11) (jB e12)) (A3.mk (jB e20) (jB e21) (jB e22)))))
 refine jP Tryz.func29 rfl cb29 rfl ?_
 show uK _ _ _ _ ⟨[(0, (.d y2)), (1, (.d (uX (jW.mk px py pz))))], []⟩
 refine jA <| kx [(2, (.ref 0 0)), (3, (.ref 1 0)), (4, (.ref 2 0)), (5, (.ref 3 0))] [(0, some (bx y2)), (1, some (bx (uX (jW.mk px py pz)))), (2, some (bx (uA (vU.mk y3 y3)))), (3, some (bx (jM y3)))] (zN (vS 0) <| zN (vS 1) <| zN (qW 2 ze56 zo56) <| zN (qW 3 qA qH) <| zM <| zZ) ?_
 refine jA <| kx [(7, (.d (.cptr 1000001 (qE.cells y1) 0))), (8, (vi 0))] [] (zR (kF aJ) <| zE (kA (q_rec lx ly lz la lb lc ld lf lu lv rx ry rz ra rb rc rd rf ru rv b0 b1 b2 e00 e01 e02 e10 e11 e12 e20 e21 e22 hF uM uN uO xU xW xS xY xZ zB xV xR xT hl hr hup)) <| zM <| zE uZ <| zE uZ <| zM <| zM <| zZ) ?_
 refine jA <| jA <| kx [(23, (vb false))] [] (zM <| zE mE <| zZ) ?_
 refine kG ?_
 refine jE <| jA <| jA <| kx [(33, (vl 3 1 cW [px, py, pz])), (34, (kD 3)), (35, (kD 0))] [] (zE (kS yH) <| zR (uF uQ) <| zE (kS yT) <| zR (uF uQ) <| zE (kS yV) <| zR (uF uQ) <| zE (nO nV ze3 zo3) <| zE (yK nV 3) <| zM <| zZ) ?_
 refine jF <| kN 20 ?_
 refine kU <| jA <| kx [(36, (vb true))] [] (zE (qL true qI) <| zZ) ?_
 refine jA <| jS ?_
 refine jE <| jA <| jF <| jA <| kx [(10, (vi px))] [] (zE (vM nV 0) <| zE (xX uQ) <| zM <| zZ) ?_
 refine jA <| kx [(44, (vb false))] [] (zM <| zE (qL false qI (by exact decide_eq_false (by omega))) <| zM <| zM <| zE (qL false aG (by exact decide_eq_false (by omega))) <| zE iL <| zZ) ?_
 refine kG ?_
 refine jE <| kx [(35, (kD 1))] [] (zE (qP 1 (hr := by decide)) <| zM <| zZ) ?_
 refine jI (jT.refl _) ?_
 refine jA <| kx [(36, (vb true))] [] (zE (qL true qI) <| zZ) ?_
 refine jA <| jS ?_
 refine jE <| jA <| jF <| jA <| kx [(10, (vi py))] [] (zE (vM nV 1) <| zE (xX uQ) <| zM <| zZ) ?_
 refine jA <| kx [(44, (vb false))] [] (zM <| zE (qL false qI (by exact decide_eq_false (by omega))) <| zM <| zM <| zE (qL false aG (by exact decide_eq_false (by omega))) <| zE iL <| zZ) ?_
 refine kG ?_
 refine jE <| kx [(35, (kD 2))] [] (zE (qP 2 (hr := by decide)) <| zM <| zZ) ?_
 refine jI (jT.refl _) ?_
 refine jA <| kx [(36, (vb true))] [] (zE (qL true qI) <| zZ) ?_
 refine jA <| jS ?_
 refine jE <| jA <| jF <| jA <| kx [(10, (vi pz))] [] (zE (vM nV 2) <| zE (xX uQ) <| zM <| zZ) ?_
 refine jA <| kJ (wk (l := [(3, (.ref 1 0)), (4, (.ref 2 0)), (5, (.ref 3 0)), (7, (.d (.cptr 1000001 (qE.cells y1) 0))), (10, (vi pz)), (33, (vl 3 1 cW [px, py, pz])), (34, (kD 3)), (35, (kD 2))]) (b := [(1, some (bx (uX (jW.mk px py pz)))), (2, some (bx (uA (vU.mk y3 y3)))), (3, some (bx (jM y3)))])) ?_
 refine kx [(44, (vb false))] [] (zM <| zE (qL false qI (by exact decide_eq_false (by omega))) <| zM <| zM <| zE (qL false aG (by exact decide_eq_false (by omega))) <| zE iL <| zZ) ?_
 refine kG ?_
 refine jE <| kx [(35, (kD 3))] [] (zE (qP 3 (hr := by decide)) <| zM <| zZ) ?_
 refine jI (jT.refl _) ?_
 refine jA <| kx [(36, (vb false))] [] (zE (qL false qI) <| zZ) ?_
 refine jA <| kG ?_
 refine kB <| jA <| kx [(11, (.ref 4 0))] [(4, some (bx (uX (jW.mk lx ly lz))))] (zM <| zE oNd <| zE (oFc fo134_0) <| zE (oFc yC) <| zE (nL aN) <| zN (qW 4 ze23 zo23) <| zT (kW aN) <| zZ) ?_
 refine jA ?_
 have bn1 : QL r0 3 := (jH (Eq.symm hr0) (qi (px - lx)))
 have bn2 : QL r1 3 := (jH (Eq.symm hr1) (qi (py - ly)))
 have bn3 : QL r2 3 := (jH (Eq.symm hr2) (qi (pz - lz)))
 have bn4 : QL ((jG e00 e01 e02 r0 r1 r2) / (jG e20 e21 e22 r0 r1 r2)) 4804 := (cG (k := 4804) (jL (n := 400) (k := 2402) xU xW xS (qu bn1) (qu bn2) (qu bn3) (by decide)) (jL (n := 400) (k := 2402) xV xR xT (qu bn1) (qu bn2) (qu bn3) (by decide)) (by decide))
 have bn5 : QL ((jG e10 e11 e12 r0 r1 r2) / (jG e20 e21 e22 r0 r1 r2)) 4804 := (cG (k := 4804) (jL (n := 400) (k := 2402) xY xZ zB (qu bn1) (qu bn2) (qu bn3) (by decide)) (jL (n := 400) (k := 2402) xV xR xT (qu bn1) (qu bn2) (qu bn3) (by decide)) (by decide))
 have bn6 : QL (jG e20 e21 e22 r0 r1 r2) 2402 := (jL (n := 400) (k := 2402) xV xR xT (qu bn1) (qu bn2) (qu bn3) (by decide))
 refine kx [(12, (.ref 5 0)), (13, (.ref 6 0)), (14, (vb true))] [(5, some (bx (uA (vU.mk (jB ((jG e00 e01 e02 r0 r1 r2) / (jG e20 e21 e22 r0 r1 r2))) (jB ((jG e10 e11 e12 r0 r1 r2) / (jG e20 e21 e22 r0 r1 r2))))))), (6, some (bx (jM (jB (jG e20 e21 e22 r0 r1 r2)))))] (zM <| zE (kS yH) <| zR (uF uQ) <| zE (kS yH) <| zR (uF uQ) <| zE (fT (px - lx) (hr := by exact (qK rfl (by simp only [xC]; omega) (by simp only [xF]; omega)))) <| zE (kS yT) <| zR (uF uQ) <| zE (kS yT) <| zR (uF uQ) <| zE (fT (py - ly) (hr := by exact (qK rfl (by simp only [xC]; omega) (by simp only [xF]; omega)))) <| zE (kS yV) <| zR (uF uQ) <| zE (kS yV) <| zR (uF uQ) <| zE (fT (pz - lz) (hr := by exact (qK rfl (by simp only [xC]; omega) (by simp only [xF]; omega)))) <| zE (kA (by have h := q_whole (px - lx) (by omega) (by omega) (py - ly) (by omega) (by omega) (pz - lz) (by omega) (by omega); rw [hr0, hr1, hr2] at h; exact h)) <| zE (kA (q_coo lx ly lz la lb lc ld lf lu lv rx ry rz ra rb rc rd rf ru rv b0 b1 b2 e00 e01 e02 e10 e11 e12 e20 e21 e22 uM uN uO xU xW xS xY xZ zB xV xR xT r0 r1 r2 (qu bn1) (qu bn2) (qu bn3) hd)) <| zM <| zE uZ <| zE uZ <| zE uZ <| zN (qW 5 ze56 zo56) <| zN (qW 6 qA qH) <| zT (kW iG) <| zT (kW jO) <| zM <| zZ) ?_
 refine jA <| jA <| kx [(76, (vb false))] [] (zM <| zE oNt <| zZ) ?_
 refine kG ?_
 refine jE <| jA ?_
 have bn7 : QL (jG e00 e01 e02 b0 b1 b2) 2402 := (jL (n := 400) (k := 2402) xU xW xS (qu uM) (qu uN) (qu uO) (by decide))
 refine kd [(15, (.ref 7 0))] [(7, some (bx (jM (jB ((jG e00 e01 e02 b0 b1 b2) / (jG e20 e21 e22 r0 r1 r2))))))] mo (wM <| wE oNd <| wE (oFc eW) <| wE (oXc vT 0) <| wE (nL uC) <| wM <| wE oNd <| wE (oFc aZ) <| wE (nL uC) <| wE (kA (q_dot e00 e01 e02 (qu xU) (qu xW) (qu xS) b0 b1 b2 (qu uM) (qu uN) (qu uO))) <| wR (kF jO) <| wE (kA (by have h := f_divide (jB (jG e00 e01 e02 b0 b1 b2)) (jB (jG e20 e21 e22 r0 r1 r2)) (jG e00 e01 e02 b0 b1 b2) (jG e20 e21 e22 r0 r1 r2) (jX (jY bn7) (by decide)) (jX (jY bn6) (by decide)); rw [divR_ne (eB hd), divC_ne (eB hd)] at h; exact h)) <| wM <| wE uZ <| wE uZ <| wN (qW 7 qA qH) <| wT (kW jO) <| wM <| wZ) ?_
 refine jA <| kd [(6, (kD 0))] [(2, some (bx (uA (vU.mk (jB ((jG e00 e01 e02 r0 r1 r2) / (jG e20 e21 e22 r0 r1 r2))) (jB ((jG e10 e11 e12 r0 r1 r2) / (jG e20 e21 e22 r0 r1 r2))))))), (3, some (bx (jM (jB ((jG e00 e01 e02 b0 b1 b2) / (jG e20 e21 e22 r0 r1 r2))))))] mo (wR (kF iG) <| wR (kF jO) <| wT (kW iG) <| wT (kW jO) <| wM <| wZ) ?_
 refine jJ ⟨_, (qC (cs := (bx (uA (vU.mk (jB ((jG e00 e01 e02 r0 r1 r2) / (jG e20 e21 e22 r0 r1 r2))) (jB ((jG e10 e11 e12 r0 r1 r2) / (jG e20 e21 e22 r0 r1 r2))))))) (d := (uA (vU.mk (jB ((jG e00 e01 e02 r0 r1 r2) / (jG e20 e21 e22 r0 r1 r2))) (jB ((jG e10 e11 e12 r0 r1 r2) / (jG e20 e21 e22 r0 r1 r2)))))) rfl rfl iG rfl rfl (qC (cs := (bx (jM (jB ((jG e00 e01 e02 b0 b1 b2) / (jG e20 e21 e22 r0 r1 r2)))))) (d := (jM (jB ((jG e00 e01 e02 b0 b1 b2) / (jG e20 e21 e22 r0 r1 r2))))) rfl rfl jO rfl rfl (.tmp (d := (.val (.int .i64 (((0 : Nat) : Int))))) rfl .nil))), ?_⟩
 rfl
end Go.Proofs.YtbecgnplakngdaaGreat
