/- Part 14 of a proof: rules, plain facts, and functions walked. -/
import Derived.Test.YtbecgnplakngdaaGreatM13
import Derived.Test.YtbecgnplakngdaaGreatM8
import Derived.Test.YtbecgnplakngdaaGreatM11
import Derived.Test.YtbecgnplakngdaaGreatM4
import Derived.Test.YtbecgnplakngdaaGreatM9
namespace Go.Proofs.YtbecgnplakngdaaGreat
open Go.Fid
set_option maxRecDepth 4000
set_option linter.unusedVariables false
set_option linter.unusedSimpArgs false
theorem cb29 : callB Tryz.prog 29 = true := by kernel_rfl
theorem q_prj (lx ly lz la lb lc ld lf lu lv rx ry rz ra rb rc rd rf ru rv : Int) (px py pz : Int) (hpx : -1048576 ≤ px ∧ px ≤ 1048576) (hpy : -1048576 ≤ py ∧ py ≤ 1048576) (hpz : -1048576 ≤ pz ∧ pz ≤ 1048576) (b0 b1 b2 e00 e01 e02 e10 e11 e12 e20 e21 e22 : Rat) (hF : RFr lx ly lz la lb lc ld rx ry rz ra rb rc rd b0 b1 b2 e00 e01 e02 e10 e11 e12 e20 e21 e22) (zV : QL b0 3) (zW : QL b1 3) (zU : QL b2 3) (vG : QL e00 400) (vE : QL e01 400) (vF : QL e02 400) (vN : QL e10 400) (vL : QL e11 400) (vM : QL e12 400) (vC : QL e20 400) (vA : QL e21 400) (vB : QL e22 400) (r0 : Rat) (hr0 : ((px - lx : Int) : Rat) = r0) (r1 : Rat) (hr1 : ((py - ly : Int) : Rat) = r1) (r2 : Rat) (hr2 : ((pz - lz : Int) : Rat) = r2) (hl : uL lx ly lz lu lv lf la lb lc ld = 0) (hr : uL rx ry rz ru rv rf ra rb rc rd = 0) (hup : upV la lb lc ld ra rb rc rd b0 b1 b2 = false) (hd : ¬ (yT (jM e20 e21 e22 r0 r1 r2)) ≤ 0) : kF Tryz.prog 29 [(qP (kY.mk (kJ.mk (jT.mk lx ly lz) (jN.mk la lb lc ld) lf (kM.mk lu lv)) (kJ.mk (jT.mk rx ry rz) (jN.mk ra rb rc rd) rf (kM.mk ru rv)))), (fO (jT.mk px py pz))] (.tup [(kI (qH.mk (jC ((jM e00 e01 e02 r0 r1 r2) / (jM e20 e21 e22 r0 r1 r2))) (jC ((jM e10 e11 e12 r0 r1 r2) / (jM e20 e21 e22 r0 r1 r2))))), (jO (jC ((jM e00 e01 e02 b0 b1 b2) / (jM e20 e21 e22 r0 r1 r2)))), (.val (.int .i64 (0)))]) := by
 have hbl := xE hl
 have hbr := xE hr
 obtain ⟨hlx, hly, hlz, hlu, hlv, hlf, hlq⟩ := hbl
 obtain ⟨hrx, hry, hrz, hru, hrv, hrf, hrq⟩ := hbr
 obtain ⟨hla, hlb, hlc, hld, -⟩ := xG hlq
 obtain ⟨hra, hrb, hrc, hrd, -⟩ := xG hrq
 have hnl := nB hla hlb hlc hld
 have hnr := nB hra hrb hrc hrd
 have hz0 := fr_z0 hF hup
 have hz1 := fr_z1 hF hup
 have hz2 := fr_z2 hF hup
 let y3 := (kG.mk (jF.mk false []) (jF.mk false []))
 let y2 := (qP (kY.mk (kJ.mk (jT.mk lx ly lz) (jN.mk la lb lc ld) lf (kM.mk lu lv)) (kJ.mk (jT.mk rx ry rz) (jN.mk ra rb rc rd) rf (kM.mk ru rv))))
 let y1 := (eG (RRp.mk (kJ.mk (jT.mk lx ly lz) (jN.mk la lb lc ld) lf (kM.mk lu lv)) (kJ.mk (jT.mk rx ry rz) (jN.mk ra rb rc rd) rf (kM.mk ru rv)) (A3.mk (jC b0) (jC b1) (jC b2)) (A3.mk (A3.mk (jC e00) (jC e01) (jC e02)) (A3.mk (jC e10) (jC e11) (jC e12)) (A3.mk (jC e20) (jC e21) (jC e22)))))
 refine jL Tryz.func29 rfl cb29 rfl ?_
 show uK _ _ _ _ ⟨[(0, (.d y2)), (1, (.d (fO (jT.mk px py pz))))], []⟩
 refine jA <| kx [(2, (.ref 0 0)), (3, (.ref 1 0)), (4, (.ref 2 0)), (5, (.ref 3 0))] [(0, some (bx y2)), (1, some (bx (fO (jT.mk px py pz)))), (2, some (bx (kI (qH.mk y3 y3)))), (3, some (bx (jO y3)))] (zN (uX 0) <| zN (uX 1) <| zN (qI 2 ze56 zo56) <| zN (qI 3 qM qR) <| zM <| zZ) ?_
 refine jA <| kx [(7, (.d (.cptr 1000001 (qF.cells y1) 0))), (8, (vi 0))] [] (zR (kA bZ) <| zE (kC (q_rec lx ly lz la lb lc ld lf lu lv rx ry rz ra rb rc rd rf ru rv b0 b1 b2 e00 e01 e02 e10 e11 e12 e20 e21 e22 hF zV zW zU vG vE vF vN vL vM vC vA vB hl hr hup)) <| zM <| zE uH <| zE uH <| zM <| zM <| zZ) ?_
 refine jA <| jA <| kx [(23, (vb false))] [] (zM <| zE mR <| zZ) ?_
 refine kO ?_
 refine jD <| jA <| jA <| kx [(33, (vl 3 1 mU [px, py, pz])), (34, (kE 3)), (35, (kE 0))] [] (zE (kU cP) <| zR (uM vW) <| zE (kU dG) <| zR (uM vW) <| zE (kU dD) <| zR (uM vW) <| zE (cX nA ze3 zo3) <| zE (fT nA 3) <| zM <| zZ) ?_
 refine jE <| qE 20 ?_
 refine qK <| jA <| kx [(36, (vb true))] [] (zE (qY true qS) <| zZ) ?_
 refine jA <| kD ?_
 refine jD <| jA <| jE <| jA <| kx [(10, (vi px))] [] (zE (zD nA 0) <| zE (yL vW) <| zM <| zZ) ?_
 refine jA <| kx [(44, (vb false))] [] (zM <| zE (qY false qS (by exact decide_eq_false (by omega))) <| zM <| zM <| zE (qY false bO (by exact decide_eq_false (by omega))) <| zE fC <| zZ) ?_
 refine kO ?_
 refine jD <| kx [(35, (kE 1))] [] (zE (qQ 1 (hr := by decide)) <| zM <| zZ) ?_
 refine jJ (jZ.refl _) ?_
 refine jA <| kx [(36, (vb true))] [] (zE (qY true qS) <| zZ) ?_
 refine jA <| kD ?_
 refine jD <| jA <| jE <| jA <| kx [(10, (vi py))] [] (zE (zD nA 1) <| zE (yL vW) <| zM <| zZ) ?_
 refine jA <| kx [(44, (vb false))] [] (zM <| zE (qY false qS (by exact decide_eq_false (by omega))) <| zM <| zM <| zE (qY false bO (by exact decide_eq_false (by omega))) <| zE fC <| zZ) ?_
 refine kO ?_
 refine jD <| kx [(35, (kE 2))] [] (zE (qQ 2 (hr := by decide)) <| zM <| zZ) ?_
 refine jJ (jZ.refl _) ?_
 refine jA <| kx [(36, (vb true))] [] (zE (qY true qS) <| zZ) ?_
 refine jA <| kD ?_
 refine jD <| jA <| jE <| jA <| kx [(10, (vi pz))] [] (zE (zD nA 2) <| zE (yL vW) <| zM <| zZ) ?_
 refine jA <| kX (wk (l := [(3, (.ref 1 0)), (4, (.ref 2 0)), (5, (.ref 3 0)), (7, (.d (.cptr 1000001 (qF.cells y1) 0))), (10, (vi pz)), (33, (vl 3 1 mU [px, py, pz])), (34, (kE 3)), (35, (kE 2))]) (b := [(1, some (bx (fO (jT.mk px py pz)))), (2, some (bx (kI (qH.mk y3 y3)))), (3, some (bx (jO y3)))])) ?_
 refine kx [(44, (vb false))] [] (zM <| zE (qY false qS (by exact decide_eq_false (by omega))) <| zM <| zM <| zE (qY false bO (by exact decide_eq_false (by omega))) <| zE fC <| zZ) ?_
 refine kO ?_
 refine jD <| kx [(35, (kE 3))] [] (zE (qQ 3 (hr := by decide)) <| zM <| zZ) ?_
 refine jJ (jZ.refl _) ?_
 refine jA <| kx [(36, (vb false))] [] (zE (qY false qS) <| zZ) ?_
 refine jA <| kO ?_
 refine kQ <| jA <| kx [(11, (.ref 4 0))] [(4, some (bx (fO (jT.mk lx ly lz))))] (zM <| zE oNd <| zE (oFc fo134_0) <| zE (oFc yY) <| zE (gY sh23) <| zN (qI 4 ze23 zo23) <| zT (kR sh23) <| zZ) ?_
 refine jA ?_
 have bn1 : QL r0 3 := (jX (Eq.symm hr0) (qi (px - lx)))
 have bn2 : QL r1 3 := (jX (Eq.symm hr1) (qi (py - ly)))
 have bn3 : QL r2 3 := (jX (Eq.symm hr2) (qi (pz - lz)))
 have bn4 : QL ((jM e00 e01 e02 r0 r1 r2) / (jM e20 e21 e22 r0 r1 r2)) 4804 := (iL (k := 4804) (jR (n := 400) (k := 2402) vG vE vF (qu bn1) (qu bn2) (qu bn3) (by decide)) (jR (n := 400) (k := 2402) vC vA vB (qu bn1) (qu bn2) (qu bn3) (by decide)) (by decide))
 have bn5 : QL ((jM e10 e11 e12 r0 r1 r2) / (jM e20 e21 e22 r0 r1 r2)) 4804 := (iL (k := 4804) (jR (n := 400) (k := 2402) vN vL vM (qu bn1) (qu bn2) (qu bn3) (by decide)) (jR (n := 400) (k := 2402) vC vA vB (qu bn1) (qu bn2) (qu bn3) (by decide)) (by decide))
 have bn6 : QL (jM e20 e21 e22 r0 r1 r2) 2402 := (jR (n := 400) (k := 2402) vC vA vB (qu bn1) (qu bn2) (qu bn3) (by decide))
 refine kx [(12, (.ref 5 0)), (13, (.ref 6 0)), (14, (vb true))] [(5, some (bx (kI (qH.mk (jC ((jM e00 e01 e02 r0 r1 r2) / (jM e20 e21 e22 r0 r1 r2))) (jC ((jM e10 e11 e12 r0 r1 r2) / (jM e20 e21 e22 r0 r1 r2))))))), (6, some (bx (jO (jC (jM e20 e21 e22 r0 r1 r2)))))] (zM <| zE (kU cP) <| zR (uM vW) <| zE (kU cP) <| zR (uM vW) <| zE (aH (px - lx) (hr := by exact (qV rfl (by simp only [xM]; omega) (by simp only [xN]; omega)))) <| zE (kU dG) <| zR (uM vW) <| zE (kU dG) <| zR (uM vW) <| zE (aH (py - ly) (hr := by exact (qV rfl (by simp only [xM]; omega) (by simp only [xN]; omega)))) <| zE (kU dD) <| zR (uM vW) <| zE (kU dD) <| zR (uM vW) <| zE (aH (pz - lz) (hr := by exact (qV rfl (by simp only [xM]; omega) (by simp only [xN]; omega)))) <| zE (kC (by have h := q_whole (px - lx) (by omega) (by omega) (py - ly) (by omega) (by omega) (pz - lz) (by omega) (by omega); rw [hr0, hr1, hr2] at h; exact h)) <| zE (kC (q_coo lx ly lz la lb lc ld lf lu lv rx ry rz ra rb rc rd rf ru rv b0 b1 b2 e00 e01 e02 e10 e11 e12 e20 e21 e22 zV zW zU vG vE vF vN vL vM vC vA vB r0 r1 r2 (qu bn1) (qu bn2) (qu bn3) hd)) <| zM <| zE uH <| zE uH <| zE uH <| zN (qI 5 ze56 zo56) <| zN (qI 6 qM qR) <| zT (kR nH) <| zT (kR jS) <| zM <| zZ) ?_
 refine jA <| jA <| kx [(76, (vb false))] [] (zM <| zE eX <| zZ) ?_
 refine kO ?_
 refine jD <| jA ?_
 have bn7 : QL (jM e00 e01 e02 b0 b1 b2) 2402 := (jR (n := 400) (k := 2402) vG vE vF (qu zV) (qu zW) (qu zU) (by decide))
 refine kd [(15, (.ref 7 0))] [(7, some (bx (jO (jC ((jM e00 e01 e02 b0 b1 b2) / (jM e20 e21 e22 r0 r1 r2))))))] mo (wM <| wE oNd <| wE (oFc cY) <| wE (oXc xA 0) <| wE (gY uN) <| wM <| wE oNd <| wE (oFc aU) <| wE (gY uN) <| wE (kC (q_dot e00 e01 e02 (qu vG) (qu vE) (qu vF) b0 b1 b2 (qu zV) (qu zW) (qu zU))) <| wR (kA jS) <| wE (kC (by have h := f_divide (jC (jM e00 e01 e02 b0 b1 b2)) (jC (jM e20 e21 e22 r0 r1 r2)) (jM e00 e01 e02 b0 b1 b2) (jM e20 e21 e22 r0 r1 r2) (kH (kL bn7) (by decide)) (kH (kL bn6) (by decide)); rw [divR_ne (aE hd), divC_ne (aE hd)] at h; exact h)) <| wM <| wE uH <| wE uH <| wN (qI 7 qM qR) <| wT (kR jS) <| wM <| wZ) ?_
 refine jA <| kd [(6, (kE 0))] [(2, some (bx (kI (qH.mk (jC ((jM e00 e01 e02 r0 r1 r2) / (jM e20 e21 e22 r0 r1 r2))) (jC ((jM e10 e11 e12 r0 r1 r2) / (jM e20 e21 e22 r0 r1 r2))))))), (3, some (bx (jO (jC ((jM e00 e01 e02 b0 b1 b2) / (jM e20 e21 e22 r0 r1 r2))))))] mo (wR (kA nH) <| wR (kA jS) <| wT (kR nH) <| wT (kR jS) <| wM <| wZ) ?_
 refine jG ⟨_, (qB (cs := (bx (kI (qH.mk (jC ((jM e00 e01 e02 r0 r1 r2) / (jM e20 e21 e22 r0 r1 r2))) (jC ((jM e10 e11 e12 r0 r1 r2) / (jM e20 e21 e22 r0 r1 r2))))))) (d := (kI (qH.mk (jC ((jM e00 e01 e02 r0 r1 r2) / (jM e20 e21 e22 r0 r1 r2))) (jC ((jM e10 e11 e12 r0 r1 r2) / (jM e20 e21 e22 r0 r1 r2)))))) rfl rfl nH rfl rfl (qB (cs := (bx (jO (jC ((jM e00 e01 e02 b0 b1 b2) / (jM e20 e21 e22 r0 r1 r2)))))) (d := (jO (jC ((jM e00 e01 e02 b0 b1 b2) / (jM e20 e21 e22 r0 r1 r2))))) rfl rfl jS rfl rfl (.tmp (d := (.val (.int .i64 (((0 : Nat) : Int))))) rfl .nil))), ?_⟩
 rfl
end Go.Proofs.YtbecgnplakngdaaGreat
namespace Go.Proofs.YtbecgnplakngdaaGreat
open Go.Fid
set_option maxRecDepth 4000
set_option linter.unusedVariables false
set_option linter.unusedSimpArgs false
theorem cb12 : callB Tryz.prog 12 = true := by kernel_rfl
theorem cb13 : callB Tryz.prog 13 = true := by kernel_rfl
theorem cb49 : callB Tryz.prog 49 = true := by kernel_rfl
theorem cb67 : callB Tryz.prog 67 = true := by kernel_rfl
theorem cb74 : callB Tryz.prog 74 = true := by kernel_rfl
theorem pl23 : mX Tryz.prog 23 = some [(0, 1), (1, 1), (2, 1)] := by kernel_rfl
theorem pl29 : mX Tryz.prog 29 = some [(0, 3), (3, 4), (7, 1), (8, 2)] := by kernel_rfl
theorem pl31 : mX Tryz.prog 31 = some [(0, 10), (10, 10)] := by kernel_rfl
theorem ze31 : xH Tryz.prog 31 = some [.int .i64 0, .int .i64 0, .int .i64 0, .int .i64 0, .int .i64 0, .int .i64 0, .int .i64 0, .int .i64 0, .int .i64 0, .int .i64 0, .int .i64 0, .int .i64 0, .int .i64 0, .int .i64 0, .int .i64 0, .int .i64 0, .int .i64 0, .int .i64 0, .int .i64 0, .int .i64 0] := by kernel_rfl
theorem zo31 : mP [.int .i64 0, .int .i64 0, .int .i64 0, .int .i64 0, .int .i64 0, .int .i64 0, .int .i64 0, .int .i64 0, .int .i64 0, .int .i64 0, .int .i64 0, .int .i64 0, .int .i64 0, .int .i64 0, .int .i64 0, .int .i64 0, .int .i64 0, .int .i64 0, .int .i64 0, .int .i64 0] [.val (.int .i64 0), .val (.int .i64 0), .val (.int .i64 0), .val (.int .i64 0), .val (.int .i64 0), .val (.int .i64 0), .val (.int .i64 0), .val (.int .i64 0), .val (.int .i64 0), .val (.int .i64 0), .val (.int .i64 0), .val (.int .i64 0), .val (.int .i64 0), .val (.int .i64 0), .val (.int .i64 0), .val (.int .i64 0), .val (.int .i64 0), .val (.int .i64 0), .val (.int .i64 0), .val (.int .i64 0)] := by simp [mP, Value.oneCell']
theorem q_tmat (m00 m01 m02 m10 m11 m12 m20 m21 m22 : Rat) (hm00 : QL m00 100000000) (hm01 : QL m01 100000000) (hm02 : QL m02 100000000) (hm10 : QL m10 100000000) (hm11 : QL m11 100000000) (hm12 : QL m12 100000000) (hm20 : QL m20 100000000) (hm21 : QL m21 100000000) (hm22 : QL m22 100000000) : kF Tryz.prog 74 [(qU (A3.mk (A3.mk (jC m00) (jC m01) (jC m02)) (A3.mk (jC m10) (jC m11) (jC m12)) (A3.mk (jC m20) (jC m21) (jC m22))))] (.sl 52 1 (List.map kP [[(jC m00), (jC m01), (jC m02)], [(jC m10), (jC m11), (jC m12)], [(jC m20), (jC m21), (jC m22)]])) := by
 let y1 := (qU (A3.mk (A3.mk (jC m00) (jC m01) (jC m02)) (A3.mk (jC m10) (jC m11) (jC m12)) (A3.mk (jC m20) (jC m21) (jC m22))))
 refine jL Tryz.func74 rfl cb74 rfl ?_
 show uK _ _ _ _ ⟨[(0, (.d y1))], []⟩
 refine jA <| kx [(1, (.ref 0 0))] [(0, some (bx y1))] (zN (uX 0) <| zE (oNl 52 1) <| zZ) ?_
 refine jA <| kx [(3, (.own 1 52 1 0))] [(1, some (bm kP []))] (zO 1 52 1 <| zZ) ?_
 refine jA <| jA <| kx [(6, (.d y1)), (7, (kE 0))] [] (zR (kA hC) <| zM <| zZ) ?_
 refine jE <| qE 20 ?_
 refine qK <| jA <| kx [(8, (vb true))] [] (zE (qY true qS) <| zZ) ?_
 refine jA <| kD ?_
 refine jD <| jA <| jE <| jA <| kx [(5, (.ref 2 0))] [(2, some (bx (jY (A3.mk (jC m00) (jC m01) (jC m02)))))] (zE (iF xA uN (fun h => by cases h) 0) <| zH (qI 2 cG cE) <| zT (kR uN) <| zZ) ?_
 refine kf [(3, (.own 1 52 1 (([] ++ [[(jC m00), (jC m01), (jC m02)]]).length)))] [(1, some (bm kP ([] ++ [[(jC m00), (jC m01), (jC m02)]])))] (zM <| zE (uJ uP 0) <| zR (kA jS) <| zE (uJ uP 1) <| zR (kA jS) <| zE (uJ uP 2) <| zR (kA jS) <| zE (cX uO qM qR) <| zE (cX yN iN zo52) <| zA kP [] [[(jC m00), (jC m01), (jC m02)]] rfl yN iN by52 (hbig := by exact (by simp +zetaDelta [maxLen] <;> omega)) (hbig' := by exact (by simp +zetaDelta <;> omega)) <| zM <| zF) ?_
 refine kx [(7, (kE 1))] [] (zE (qQ 1 (hr := by decide)) <| zM <| zZ) ?_
 refine jJ (jZ.refl _) ?_
 refine jA <| kx [(8, (vb true))] [] (zE (qY true qS) <| zZ) ?_
 refine jA <| kD ?_
 refine jD <| jA <| jE <| jA <| kx [(5, (.ref 3 0))] [(3, some (bx (jY (A3.mk (jC m10) (jC m11) (jC m12)))))] (zE (iF xA uN (fun h => by cases h) 1) <| zH (qI 3 cG cE) <| zT (kR uN) <| zZ) ?_
 refine kf [(3, (.own 1 52 1 ((([] ++ [[(jC m00), (jC m01), (jC m02)]]) ++ [[(jC m10), (jC m11), (jC m12)]]).length)))] [(1, some (bm kP (([] ++ [[(jC m00), (jC m01), (jC m02)]]) ++ [[(jC m10), (jC m11), (jC m12)]])))] (zM <| zE (uJ uP 0) <| zR (kA jS) <| zE (uJ uP 1) <| zR (kA jS) <| zE (uJ uP 2) <| zR (kA jS) <| zE (cX uO qM qR) <| zE (cX yN iN zo52) <| zA kP ([] ++ [[(jC m00), (jC m01), (jC m02)]]) [[(jC m10), (jC m11), (jC m12)]] rfl yN iN by52 (hbig := by exact (by simp +zetaDelta [maxLen] <;> omega)) (hbig' := by exact (by simp +zetaDelta <;> omega)) <| zM <| zF) ?_
 refine kx [(7, (kE 2))] [] (zE (qQ 2 (hr := by decide)) <| zM <| zZ) ?_
 refine jJ (jZ.refl _) ?_
 refine jA <| kx [(8, (vb true))] [] (zE (qY true qS) <| zZ) ?_
 refine jA <| kD ?_
 refine jD <| jA <| jE <| jA <| kx [(5, (.ref 4 0))] [(4, some (bx (jY (A3.mk (jC m20) (jC m21) (jC m22)))))] (zE (iF xA uN (fun h => by cases h) 2) <| zH (qI 4 cG cE) <| zT (kR uN) <| zZ) ?_
 refine kf [(3, (.own 1 52 1 (((([] ++ [[(jC m00), (jC m01), (jC m02)]]) ++ [[(jC m10), (jC m11), (jC m12)]]) ++ [[(jC m20), (jC m21), (jC m22)]]).length)))] [(1, some (bm kP ((([] ++ [[(jC m00), (jC m01), (jC m02)]]) ++ [[(jC m10), (jC m11), (jC m12)]]) ++ [[(jC m20), (jC m21), (jC m22)]])))] (zM <| zE (uJ uP 0) <| zR (kA jS) <| zE (uJ uP 1) <| zR (kA jS) <| zE (uJ uP 2) <| zR (kA jS) <| zE (cX uO qM qR) <| zE (cX yN iN zo52) <| zA kP (([] ++ [[(jC m00), (jC m01), (jC m02)]]) ++ [[(jC m10), (jC m11), (jC m12)]]) [[(jC m20), (jC m21), (jC m22)]] rfl yN iN by52 (hbig := by exact (by simp +zetaDelta [maxLen] <;> omega)) (hbig' := by exact (by simp +zetaDelta <;> omega)) <| zM <| zF) ?_
 refine kX (wk (l := [(3, (.own 1 52 1 (((([] ++ [[(jC m00), (jC m01), (jC m02)]]) ++ [[(jC m10), (jC m11), (jC m12)]]) ++ [[(jC m20), (jC m21), (jC m22)]]).length))), (6, (.d y1)), (7, (kE 2))]) (b := [(1, some (bm kP ((([] ++ [[(jC m00), (jC m01), (jC m02)]]) ++ [[(jC m10), (jC m11), (jC m12)]]) ++ [[(jC m20), (jC m21), (jC m22)]])))])) ?_
 refine kx [(7, (kE 3))] [] (zE (qQ 3 (hr := by decide)) <| zM <| zZ) ?_
 refine jJ (jZ.refl _) ?_
 refine jA <| kx [(8, (vb false))] [] (zE (qY false qS) <| zZ) ?_
 refine jA <| kO ?_
 refine kQ <| jA <| kX (xY (t := 3) (k := 1) (es := List.map kP ((([] ++ [[(jC m00), (jC m01), (jC m02)]]) ++ [[(jC m10), (jC m11), (jC m12)]]) ++ [[(jC m20), (jC m21), (jC m22)]])) rfl rfl (xV _ _ (fun _ => rfl)) (xU _ _ rfl) (yE _ _ (fun _ => rfl) rfl)) ?_
 refine kx [(2, (vl 52 1 kP ((([] ++ [[(jC m00), (jC m01), (jC m02)]]) ++ [[(jC m10), (jC m11), (jC m12)]]) ++ [[(jC m20), (jC m21), (jC m22)]])))] [] (zM <| zM <| zZ) ?_
 refine jG ⟨_, (.tmp (d := (.sl 52 1 (List.map kP ((([] ++ [[(jC m00), (jC m01), (jC m02)]]) ++ [[(jC m10), (jC m11), (jC m12)]]) ++ [[(jC m20), (jC m21), (jC m22)]])))) rfl .nil), ?_⟩
 rfl
theorem q_fun (lx ly lz la lb lc ld lf lu lv rx ry rz ra rb rc rd rf ru rv : Int) (b0 b1 b2 e00 e01 e02 e10 e11 e12 e20 e21 e22 : Rat) (hF : RFr lx ly lz la lb lc ld rx ry rz ra rb rc rd b0 b1 b2 e00 e01 e02 e10 e11 e12 e20 e21 e22) (zV : QL b0 3) (zW : QL b1 3) (zU : QL b2 3) (vG : QL e00 400) (vE : QL e01 400) (vF : QL e02 400) (vN : QL e10 400) (vL : QL e11 400) (vM : QL e12 400) (vC : QL e20 400) (vA : QL e21 400) (vB : QL e22 400) (p00 : Rat) (hp00 : (jM ((1 : Int) : Rat) ((0 : Int) : Rat) ((0 : Int) : Rat) (gD la lb lc ld) (gE la lb lc ld) (zJ la lb lc ld)) = p00) (p01 : Rat) (hp01 : (jM ((0 : Int) : Rat) ((1 : Int) : Rat) ((0 : Int) : Rat) (gD la lb lc ld) (gE la lb lc ld) (zJ la lb lc ld)) = p01) (p02 : Rat) (hp02 : (jM ((-lu : Int) : Rat) ((-lv : Int) : Rat) ((lf : Int) : Rat) (gD la lb lc ld) (gE la lb lc ld) (zJ la lb lc ld)) = p02) (p10 : Rat) (hp10 : (jM ((1 : Int) : Rat) ((0 : Int) : Rat) ((0 : Int) : Rat) (gL la lb lc ld) (gK la lb lc ld) (zY la lb lc ld)) = p10) (p11 : Rat) (hp11 : (jM ((0 : Int) : Rat) ((1 : Int) : Rat) ((0 : Int) : Rat) (gL la lb lc ld) (gK la lb lc ld) (zY la lb lc ld)) = p11) (p12 : Rat) (hp12 : (jM ((-lu : Int) : Rat) ((-lv : Int) : Rat) ((lf : Int) : Rat) (gL la lb lc ld) (gK la lb lc ld) (zY la lb lc ld)) = p12) (p20 : Rat) (hp20 : (jM ((1 : Int) : Rat) ((0 : Int) : Rat) ((0 : Int) : Rat) (gP la lb lc ld) (gO la lb lc ld) (yB la lb lc ld)) = p20) (p21 : Rat) (hp21 : (jM ((0 : Int) : Rat) ((1 : Int) : Rat) ((0 : Int) : Rat) (gP la lb lc ld) (gO la lb lc ld) (yB la lb lc ld)) = p21) (p22 : Rat) (hp22 : (jM ((-lu : Int) : Rat) ((-lv : Int) : Rat) ((lf : Int) : Rat) (gP la lb lc ld) (gO la lb lc ld) (yB la lb lc ld)) = p22) (q00 : Rat) (hq00 : (jM ((1 : Int) : Rat) ((0 : Int) : Rat) ((0 : Int) : Rat) (gD ra rb rc rd) (gE ra rb rc rd) (zJ ra rb rc rd)) = q00) (q01 : Rat) (hq01 : (jM ((0 : Int) : Rat) ((1 : Int) : Rat) ((0 : Int) : Rat) (gD ra rb rc rd) (gE ra rb rc rd) (zJ ra rb rc rd)) = q01) (q02 : Rat) (hq02 : (jM ((-ru : Int) : Rat) ((-rv : Int) : Rat) ((rf : Int) : Rat) (gD ra rb rc rd) (gE ra rb rc rd) (zJ ra rb rc rd)) = q02) (q10 : Rat) (hq10 : (jM ((1 : Int) : Rat) ((0 : Int) : Rat) ((0 : Int) : Rat) (gL ra rb rc rd) (gK ra rb rc rd) (zY ra rb rc rd)) = q10) (q11 : Rat) (hq11 : (jM ((0 : Int) : Rat) ((1 : Int) : Rat) ((0 : Int) : Rat) (gL ra rb rc rd) (gK ra rb rc rd) (zY ra rb rc rd)) = q11) (q12 : Rat) (hq12 : (jM ((-ru : Int) : Rat) ((-rv : Int) : Rat) ((rf : Int) : Rat) (gL ra rb rc rd) (gK ra rb rc rd) (zY ra rb rc rd)) = q12) (q20 : Rat) (hq20 : (jM ((1 : Int) : Rat) ((0 : Int) : Rat) ((0 : Int) : Rat) (gP ra rb rc rd) (gO ra rb rc rd) (yB ra rb rc rd)) = q20) (q21 : Rat) (hq21 : (jM ((0 : Int) : Rat) ((1 : Int) : Rat) ((0 : Int) : Rat) (gP ra rb rc rd) (gO ra rb rc rd) (yB ra rb rc rd)) = q21) (q22 : Rat) (hq22 : (jM ((-ru : Int) : Rat) ((-rv : Int) : Rat) ((rf : Int) : Rat) (gP ra rb rc rd) (gO ra rb rc rd) (yB ra rb rc rd)) = q22) (s00 : Rat) (hs00 : ((b1 * p20) - (b2 * p10)) = s00) (s01 : Rat) (hs01 : ((b1 * p21) - (b2 * p11)) = s01) (s02 : Rat) (hs02 : ((b1 * p22) - (b2 * p12)) = s02) (s10 : Rat) (hs10 : ((b2 * p00) - (b0 * p20)) = s10) (s11 : Rat) (hs11 : ((b2 * p01) - (b0 * p21)) = s11) (s12 : Rat) (hs12 : ((b2 * p02) - (b0 * p22)) = s12) (s20 : Rat) (hs20 : ((b0 * p10) - (b1 * p00)) = s20) (s21 : Rat) (hs21 : ((b0 * p11) - (b1 * p01)) = s21) (s22 : Rat) (hs22 : ((b0 * p12) - (b1 * p02)) = s22) (f00 : Rat) (hf00 : (jM s00 s10 s20 q00 q10 q20) = f00) (f01 : Rat) (hf01 : (jM s01 s11 s21 q00 q10 q20) = f01) (f02 : Rat) (hf02 : (jM s02 s12 s22 q00 q10 q20) = f02) (f10 : Rat) (hf10 : (jM s00 s10 s20 q01 q11 q21) = f10) (f11 : Rat) (hf11 : (jM s01 s11 s21 q01 q11 q21) = f11) (f12 : Rat) (hf12 : (jM s02 s12 s22 q01 q11 q21) = f12) (f20 : Rat) (hf20 : (jM s00 s10 s20 q02 q12 q22) = f20) (f21 : Rat) (hf21 : (jM s01 s11 s21 q02 q12 q22) = f21) (f22 : Rat) (hf22 : (jM s02 s12 s22 q02 q12 q22) = f22) (hl : uL lx ly lz lu lv lf la lb lc ld = 0) (hr : uL rx ry rz ru rv rf ra rb rc rd = 0) (hup : upV la lb lc ld ra rb rc rd b0 b1 b2 = false) : kF Tryz.prog 13 [(qP (kY.mk (kJ.mk (jT.mk lx ly lz) (jN.mk la lb lc ld) lf (kM.mk lu lv)) (kJ.mk (jT.mk rx ry rz) (jN.mk ra rb rc rd) rf (kM.mk ru rv))))] (.tup [(.sl 52 1 (List.map kP [[(jC f00), (jC f01), (jC f02)], [(jC f10), (jC f11), (jC f12)], [(jC f20), (jC f21), (jC f22)]])), (.val (.int .i64 (0)))]) := by
 have hbl := xE hl
 have hbr := xE hr
 obtain ⟨hlx, hly, hlz, hlu, hlv, hlf, hlq⟩ := hbl
 obtain ⟨hrx, hry, hrz, hru, hrv, hrf, hrq⟩ := hbr
 obtain ⟨hla, hlb, hlc, hld, -⟩ := xG hlq
 obtain ⟨hra, hrb, hrc, hrd, -⟩ := xG hrq
 have hnl := nB hla hlb hlc hld
 have hnr := nB hra hrb hrc hrd
 have hz0 := fr_z0 hF hup
 have hz1 := fr_z1 hF hup
 have hz2 := fr_z2 hF hup
 let y1 := (qP (kY.mk (kJ.mk (jT.mk lx ly lz) (jN.mk la lb lc ld) lf (kM.mk lu lv)) (kJ.mk (jT.mk rx ry rz) (jN.mk ra rb rc rd) rf (kM.mk ru rv))))
 refine jL Tryz.func13 rfl cb13 rfl ?_
 show uK _ _ _ _ ⟨[(0, (.d y1))], []⟩
 refine jA <| kx [(1, (.ref 0 0))] [(0, some (bx y1))] (zN (uX 0) <| zE (oNl 52 1) <| zM <| zZ) ?_
 refine jA <| kx [(4, (.d (.cptr 1000001 (qF.cells (eG (RRp.mk (kJ.mk (jT.mk lx ly lz) (jN.mk la lb lc ld) lf (kM.mk lu lv)) (kJ.mk (jT.mk rx ry rz) (jN.mk ra rb rc rd) rf (kM.mk ru rv)) (A3.mk (jC b0) (jC b1) (jC b2)) (A3.mk (A3.mk (jC e00) (jC e01) (jC e02)) (A3.mk (jC e10) (jC e11) (jC e12)) (A3.mk (jC e20) (jC e21) (jC e22)))))) 0))), (5, (vi 0))] [] (zR (kA bZ) <| zE (kC (q_rec lx ly lz la lb lc ld lf lu lv rx ry rz ra rb rc rd rf ru rv b0 b1 b2 e00 e01 e02 e10 e11 e12 e20 e21 e22 hF zV zW zU vG vE vF vN vL vM vC vA vB hl hr hup)) <| zM <| zE uH <| zE uH <| zM <| zM <| zZ) ?_
 refine jA <| jA <| kx [(15, (vb false))] [] (zM <| zE mR <| zZ) ?_
 refine kO ?_
 refine jD <| jA ?_
 have bn1 : QL (gD la lb lc ld) 3 := (fR)
 have bn2 : QL (gE la lb lc ld) 3 := (fM)
 have bn3 : QL (zJ la lb lc ld) 3 := (fJ)
 have bn4 : QL (gL la lb lc ld) 3 := (fP)
 have bn5 : QL (gK la lb lc ld) 3 := (fL)
 have bn6 : QL (zY la lb lc ld) 3 := (fA)
 have bn7 : QL (gP la lb lc ld) 3 := (fK)
 have bn8 : QL (gO la lb lc ld) 3 := (fN)
 have bn9 : QL (yB la lb lc ld) 3 := (fH)
 have bn10 : QL ((1 : Int) : Rat) 3 := (qi 1)
 have bn11 : QL ((0 : Int) : Rat) 3 := (qi 0)
 have bn12 : QL ((-lu : Int) : Rat) 3 := (qi (-lu))
 have bn13 : QL ((-lv : Int) : Rat) 3 := (qi (-lv))
 have bn14 : QL ((lf : Int) : Rat) 3 := (qi lf)
 have bn15 : QL p00 20 := (jX (Eq.symm hp00) (jR (n := 3) (k := 20) bn10 bn11 bn11 bn1 bn2 bn3 (by decide)))
 have bn16 : QL p01 20 := (jX (Eq.symm hp01) (jR (n := 3) (k := 20) bn11 bn10 bn11 bn1 bn2 bn3 (by decide)))
 have bn17 : QL p02 20 := (jX (Eq.symm hp02) (jR (n := 3) (k := 20) bn12 bn13 bn14 bn1 bn2 bn3 (by decide)))
 have bn18 : QL p10 20 := (jX (Eq.symm hp10) (jR (n := 3) (k := 20) bn10 bn11 bn11 bn4 bn5 bn6 (by decide)))
 have bn19 : QL p11 20 := (jX (Eq.symm hp11) (jR (n := 3) (k := 20) bn11 bn10 bn11 bn4 bn5 bn6 (by decide)))
 have bn20 : QL p12 20 := (jX (Eq.symm hp12) (jR (n := 3) (k := 20) bn12 bn13 bn14 bn4 bn5 bn6 (by decide)))
 have bn21 : QL p20 20 := (jX (Eq.symm hp20) (jR (n := 3) (k := 20) bn10 bn11 bn11 bn7 bn8 bn9 (by decide)))
 have bn22 : QL p21 20 := (jX (Eq.symm hp21) (jR (n := 3) (k := 20) bn11 bn10 bn11 bn7 bn8 bn9 (by decide)))
 have bn23 : QL p22 20 := (jX (Eq.symm hp22) (jR (n := 3) (k := 20) bn12 bn13 bn14 bn7 bn8 bn9 (by decide)))
 refine kd [(6, (.ref 1 0))] [(1, some (bx (qU (A3.mk (A3.mk (jC p00) (jC p10) (jC p20)) (A3.mk (jC p01) (jC p11) (jC p21)) (A3.mk (jC p02) (jC p12) (jC p22))))))] mo (wM <| wE oNd <| wE (oFc fo134_0) <| wE (oFc gF) <| wE (gY yO) <| wE (kC (q_turn la lb lc ld (by omega) (by omega) (by omega) (by omega) hlq)) <| wM <| wE oNd <| wE (oFc fo134_0) <| wE (gY xW) <| wE (kC (q_inner lx ly lz la lb lc ld lf lu lv (by omega) (by omega) (by omega))) <| wE (kC (by have h := q_mul (gD la lb lc ld) (gE la lb lc ld) (zJ la lb lc ld) (gL la lb lc ld) (gK la lb lc ld) (zY la lb lc ld) (gP la lb lc ld) (gO la lb lc ld) (yB la lb lc ld) (qu bn1) (qu bn2) (qu bn3) (qu bn4) (qu bn5) (qu bn6) (qu bn7) (qu bn8) (qu bn9) ((1 : Int) : Rat) ((0 : Int) : Rat) ((-lu : Int) : Rat) ((0 : Int) : Rat) ((1 : Int) : Rat) ((-lv : Int) : Rat) ((0 : Int) : Rat) ((0 : Int) : Rat) ((lf : Int) : Rat) (qu bn10) (qu bn11) (qu bn12) (qu bn11) (qu bn10) (qu bn13) (qu bn11) (qu bn11) (qu bn14); rw [hp00, hp01, hp02, hp10, hp11, hp12, hp20, hp21, hp22] at h; exact h)) <| wE (kC (eQ p00 p01 p02 p10 p11 p12 p20 p21 p22 (qu bn15) (qu bn16) (qu bn17) (qu bn18) (qu bn19) (qu bn20) (qu bn21) (qu bn22) (qu bn23))) <| wN (qI 1 eJ eH) <| wT (kR hC) <| wZ) ?_
 refine jA ?_
 have bn24 : QL (gD ra rb rc rd) 3 := (fR)
 have bn25 : QL (gE ra rb rc rd) 3 := (fM)
 have bn26 : QL (zJ ra rb rc rd) 3 := (fJ)
 have bn27 : QL (gL ra rb rc rd) 3 := (fP)
 have bn28 : QL (gK ra rb rc rd) 3 := (fL)
 have bn29 : QL (zY ra rb rc rd) 3 := (fA)
 have bn30 : QL (gP ra rb rc rd) 3 := (fK)
 have bn31 : QL (gO ra rb rc rd) 3 := (fN)
 have bn32 : QL (yB ra rb rc rd) 3 := (fH)
 have bn33 : QL ((-ru : Int) : Rat) 3 := (qi (-ru))
 have bn34 : QL ((-rv : Int) : Rat) 3 := (qi (-rv))
 have bn35 : QL ((rf : Int) : Rat) 3 := (qi rf)
 have bn36 : QL q00 20 := (jX (Eq.symm hq00) (jR (n := 3) (k := 20) bn10 bn11 bn11 bn24 bn25 bn26 (by decide)))
 have bn37 : QL q01 20 := (jX (Eq.symm hq01) (jR (n := 3) (k := 20) bn11 bn10 bn11 bn24 bn25 bn26 (by decide)))
 have bn38 : QL q02 20 := (jX (Eq.symm hq02) (jR (n := 3) (k := 20) bn33 bn34 bn35 bn24 bn25 bn26 (by decide)))
 have bn39 : QL q10 20 := (jX (Eq.symm hq10) (jR (n := 3) (k := 20) bn10 bn11 bn11 bn27 bn28 bn29 (by decide)))
 have bn40 : QL q11 20 := (jX (Eq.symm hq11) (jR (n := 3) (k := 20) bn11 bn10 bn11 bn27 bn28 bn29 (by decide)))
 have bn41 : QL q12 20 := (jX (Eq.symm hq12) (jR (n := 3) (k := 20) bn33 bn34 bn35 bn27 bn28 bn29 (by decide)))
 have bn42 : QL q20 20 := (jX (Eq.symm hq20) (jR (n := 3) (k := 20) bn10 bn11 bn11 bn30 bn31 bn32 (by decide)))
 have bn43 : QL q21 20 := (jX (Eq.symm hq21) (jR (n := 3) (k := 20) bn11 bn10 bn11 bn30 bn31 bn32 (by decide)))
 have bn44 : QL q22 20 := (jX (Eq.symm hq22) (jR (n := 3) (k := 20) bn33 bn34 bn35 bn30 bn31 bn32 (by decide)))
 refine kd [(7, (.ref 2 0))] [(2, some (bx (qU (A3.mk (A3.mk (jC q00) (jC q10) (jC q20)) (A3.mk (jC q01) (jC q11) (jC q21)) (A3.mk (jC q02) (jC q12) (jC q22))))))] mo (wM <| wE oNd <| wE (oFc fo134_1) <| wE (oFc gF) <| wE (gY yO) <| wE (kC (q_turn ra rb rc rd (by omega) (by omega) (by omega) (by omega) hrq)) <| wM <| wE oNd <| wE (oFc fo134_1) <| wE (gY xW) <| wE (kC (q_inner rx ry rz ra rb rc rd rf ru rv (by omega) (by omega) (by omega))) <| wE (kC (by have h := q_mul (gD ra rb rc rd) (gE ra rb rc rd) (zJ ra rb rc rd) (gL ra rb rc rd) (gK ra rb rc rd) (zY ra rb rc rd) (gP ra rb rc rd) (gO ra rb rc rd) (yB ra rb rc rd) (qu bn24) (qu bn25) (qu bn26) (qu bn27) (qu bn28) (qu bn29) (qu bn30) (qu bn31) (qu bn32) ((1 : Int) : Rat) ((0 : Int) : Rat) ((-ru : Int) : Rat) ((0 : Int) : Rat) ((1 : Int) : Rat) ((-rv : Int) : Rat) ((0 : Int) : Rat) ((0 : Int) : Rat) ((rf : Int) : Rat) (qu bn10) (qu bn11) (qu bn33) (qu bn11) (qu bn10) (qu bn34) (qu bn11) (qu bn11) (qu bn35); rw [hq00, hq01, hq02, hq10, hq11, hq12, hq20, hq21, hq22] at h; exact h)) <| wE (kC (eQ q00 q01 q02 q10 q11 q12 q20 q21 q22 (qu bn36) (qu bn37) (qu bn38) (qu bn39) (qu bn40) (qu bn41) (qu bn42) (qu bn43) (qu bn44))) <| wN (qI 2 eJ eH) <| wT (kR hC) <| wZ) ?_
 refine jA ?_
 have bn45 : QL s00 47 := (jX (Eq.symm hs00) (qZ (k := 47) (jV (k := 23) zW bn21 (by decide)) (jV (k := 23) zU bn18 (by decide)) (by decide)))
 have bn46 : QL s10 47 := (jX (Eq.symm hs10) (qZ (k := 47) (jV (k := 23) zU bn15 (by decide)) (jV (k := 23) zV bn21 (by decide)) (by decide)))
 have bn47 : QL s20 47 := (jX (Eq.symm hs20) (qZ (k := 47) (jV (k := 23) zV bn18 (by decide)) (jV (k := 23) zW bn15 (by decide)) (by decide)))
 have bn48 : QL s01 47 := (jX (Eq.symm hs01) (qZ (k := 47) (jV (k := 23) zW bn22 (by decide)) (jV (k := 23) zU bn19 (by decide)) (by decide)))
 have bn49 : QL s11 47 := (jX (Eq.symm hs11) (qZ (k := 47) (jV (k := 23) zU bn16 (by decide)) (jV (k := 23) zV bn22 (by decide)) (by decide)))
 have bn50 : QL s21 47 := (jX (Eq.symm hs21) (qZ (k := 47) (jV (k := 23) zV bn19 (by decide)) (jV (k := 23) zW bn16 (by decide)) (by decide)))
 have bn51 : QL s02 47 := (jX (Eq.symm hs02) (qZ (k := 47) (jV (k := 23) zW bn23 (by decide)) (jV (k := 23) zU bn20 (by decide)) (by decide)))
 have bn52 : QL s12 47 := (jX (Eq.symm hs12) (qZ (k := 47) (jV (k := 23) zU bn17 (by decide)) (jV (k := 23) zV bn23 (by decide)) (by decide)))
 have bn53 : QL s22 47 := (jX (Eq.symm hs22) (qZ (k := 47) (jV (k := 23) zV bn20 (by decide)) (jV (k := 23) zW bn17 (by decide)) (by decide)))
 refine kd [(8, (.ref 3 0))] [(3, some (bx (qU (A3.mk (A3.mk (jC s00) (jC s01) (jC s02)) (A3.mk (jC s10) (jC s11) (jC s12)) (A3.mk (jC s20) (jC s21) (jC s22))))))] mo (wM <| wE oNd <| wE (oFc aU) <| wE (gY uN) <| wE (uJ xA 0) <| wR (kA uN) <| wE (kC (by have h := q_cross b0 b1 b2 (qu zV) (qu zW) (qu zU) p00 p10 p20 (qu bn15) (qu bn18) (qu bn21); rw [hs00, hs10, hs20] at h; exact h)) <| wM <| wE oNd <| wE (oFc aU) <| wE (gY uN) <| wE (uJ xA 1) <| wR (kA uN) <| wE (kC (by have h := q_cross b0 b1 b2 (qu zV) (qu zW) (qu zU) p01 p11 p21 (qu bn16) (qu bn19) (qu bn22); rw [hs01, hs11, hs21] at h; exact h)) <| wM <| wE oNd <| wE (oFc aU) <| wE (gY uN) <| wE (uJ xA 2) <| wR (kA uN) <| wE (kC (by have h := q_cross b0 b1 b2 (qu zV) (qu zW) (qu zU) p02 p12 p22 (qu bn17) (qu bn20) (qu bn23); rw [hs02, hs12, hs22] at h; exact h)) <| wE (oBf xA eJ eH) <| wE (kC (eQ s00 s10 s20 s01 s11 s21 s02 s12 s22 (qu bn45) (qu bn46) (qu bn47) (qu bn48) (qu bn49) (qu bn50) (qu bn51) (qu bn52) (qu bn53))) <| wN (qI 3 eJ eH) <| wT (kR hC) <| wZ) ?_
 refine jA ?_
 have bn54 : QL f00 284 := (jX (Eq.symm hf00) (jR (n := 47) (k := 284) bn45 bn46 bn47 (qu bn36) (qu bn39) (qu bn42) (by decide)))
 have bn55 : QL f01 284 := (jX (Eq.symm hf01) (jR (n := 47) (k := 284) bn48 bn49 bn50 (qu bn36) (qu bn39) (qu bn42) (by decide)))
 have bn56 : QL f02 284 := (jX (Eq.symm hf02) (jR (n := 47) (k := 284) bn51 bn52 bn53 (qu bn36) (qu bn39) (qu bn42) (by decide)))
 have bn57 : QL f10 284 := (jX (Eq.symm hf10) (jR (n := 47) (k := 284) bn45 bn46 bn47 (qu bn37) (qu bn40) (qu bn43) (by decide)))
 have bn58 : QL f11 284 := (jX (Eq.symm hf11) (jR (n := 47) (k := 284) bn48 bn49 bn50 (qu bn37) (qu bn40) (qu bn43) (by decide)))
 have bn59 : QL f12 284 := (jX (Eq.symm hf12) (jR (n := 47) (k := 284) bn51 bn52 bn53 (qu bn37) (qu bn40) (qu bn43) (by decide)))
 have bn60 : QL f20 284 := (jX (Eq.symm hf20) (jR (n := 47) (k := 284) bn45 bn46 bn47 (qu bn38) (qu bn41) (qu bn44) (by decide)))
 have bn61 : QL f21 284 := (jX (Eq.symm hf21) (jR (n := 47) (k := 284) bn48 bn49 bn50 (qu bn38) (qu bn41) (qu bn44) (by decide)))
 have bn62 : QL f22 284 := (jX (Eq.symm hf22) (jR (n := 47) (k := 284) bn51 bn52 bn53 (qu bn38) (qu bn41) (qu bn44) (by decide)))
 refine kx [(2, (vl 52 1 kP [[(jC f00), (jC f01), (jC f02)], [(jC f10), (jC f11), (jC f12)], [(jC f20), (jC f21), (jC f22)]])), (3, (kE 0))] [] (zR (kA hC) <| zR (kA hC) <| zE (kC (by have h := q_mul q00 q10 q20 q01 q11 q21 q02 q12 q22 (qu bn36) (qu bn39) (qu bn42) (qu bn37) (qu bn40) (qu bn43) (qu bn38) (qu bn41) (qu bn44) s00 s01 s02 s10 s11 s12 s20 s21 s22 (qu bn45) (qu bn48) (qu bn51) (qu bn46) (qu bn49) (qu bn52) (qu bn47) (qu bn50) (qu bn53); rw [hf00, hf01, hf02, hf10, hf11, hf12, hf20, hf21, hf22] at h; exact h)) <| zE (kC (q_tmat f00 f01 f02 f10 f11 f12 f20 f21 f22 (qu bn54) (qu bn55) (qu bn56) (qu bn57) (qu bn58) (qu bn59) (qu bn60) (qu bn61) (qu bn62))) <| zM <| zM <| zZ) ?_
 refine jG ⟨_, (.tmp (d := (.sl 52 1 (List.map kP [[(jC f00), (jC f01), (jC f02)], [(jC f10), (jC f11), (jC f12)], [(jC f20), (jC f21), (jC f22)]]))) rfl (.tmp (d := (.val (.int .i64 (((0 : Nat) : Int))))) rfl .nil)), ?_⟩
 rfl
theorem qs_exa  : kF Tryz.prog 67 [] (qP (kY.mk (kJ.mk (jT.mk 0 0 0) (jN.mk 1 0 0 0) 100 (kM.mk 0 0)) (kJ.mk (jT.mk 10 0 0) (jN.mk 1 0 0 0) 100 (kM.mk 0 0)))) := by
 refine jL Tryz.func67 rfl cb67 rfl ?_
 show uK _ _ _ _ ⟨[], []⟩
 refine jA <| kx [(0, (.ref 0 0))] [(0, some (bx (qP (kY.mk (kJ.mk (jT.mk 0 0 0) (jN.mk 0 0 0 0) 0 (kM.mk 0 0)) (kJ.mk (jT.mk 0 0 0) (jN.mk 0 0 0 0) 0 (kM.mk 0 0))))))] (zN (qI 0 ze31 zo31) <| zZ) ?_
 refine jA <| kx [(1, (.ref 1 0))] [(1, some (bx (uY (kJ.mk (jT.mk 0 0 0) (jN.mk 1 0 0 0) 100 (kM.mk 0 0)))))] (zE (oBd pl25 ze25 zo25) <| zE (oBd pl29 bC bI) <| zN (qI 1 bC bI) <| zT (kR xW) <| zZ) ?_
 refine jA <| kx [(2, (.ref 2 0))] [(2, some (bx (uY (kJ.mk (jT.mk 0 0 0) (jN.mk 1 0 0 0) 100 (kM.mk 0 0)))))] (zR (kA xW) <| zN (qI 2 bC bI) <| zT (kR xW) <| zZ) ?_
 refine jA <| kx [] [(2, some (bx (uY (kJ.mk (jT.mk 10 0 0) (jN.mk 1 0 0 0) 100 (kM.mk 0 0)))))] (zE (kU yY) <| zE (kU cP) <| zT (kR vW) <| zZ) ?_
 refine jA <| kx [] [(0, some (bx (qP (kY.mk (kJ.mk (jT.mk 0 0 0) (jN.mk 1 0 0 0) 100 (kM.mk 0 0)) (kJ.mk (jT.mk 10 0 0) (jN.mk 1 0 0 0) 100 (kM.mk 0 0))))))] (zR (kA xW) <| zR (kA xW) <| zE (oBd pl31 ze31 zo31) <| zT (kR bZ) <| zZ) ?_
 refine jG ⟨_, (qB (cs := (bx (qP (kY.mk (kJ.mk (jT.mk 0 0 0) (jN.mk 1 0 0 0) 100 (kM.mk 0 0)) (kJ.mk (jT.mk 10 0 0) (jN.mk 1 0 0 0) 100 (kM.mk 0 0)))))) (d := (qP (kY.mk (kJ.mk (jT.mk 0 0 0) (jN.mk 1 0 0 0) 100 (kM.mk 0 0)) (kJ.mk (jT.mk 10 0 0) (jN.mk 1 0 0 0) 100 (kM.mk 0 0))))) rfl rfl bZ rfl rfl .nil), ?_⟩
 rfl
set_option maxHeartbeats 4000000 in
theorem bS  : kF Tryz.prog 12 [] (.val (.bool (true))) := by
 let y1 := (jC ((jM ((1 : Int) : Rat) ((0 : Int) : Rat) ((0 : Int) : Rat) ((10 : Int) : Rat) ((0 : Int) : Rat) ((0 : Int) : Rat)) / (jM ((0 : Int) : Rat) ((0 : Int) : Rat) ((1 : Int) : Rat) ((20 : Int) : Rat) ((30 : Int) : Rat) ((1000 : Int) : Rat))))
 refine jL Tryz.func12 rfl cb12 rfl ?_
 show uK _ _ _ _ ⟨[], []⟩
 refine jA <| kx [] [] (zM <| zZ) ?_
 refine jA ?_
 have bn1 : QL ((jM ((1 : Int) : Rat) ((0 : Int) : Rat) ((0 : Int) : Rat) ((20 : Int) : Rat) ((30 : Int) : Rat) ((1000 : Int) : Rat)) / (jM ((0 : Int) : Rat) ((0 : Int) : Rat) ((1 : Int) : Rat) ((20 : Int) : Rat) ((30 : Int) : Rat) ((1000 : Int) : Rat))) 4804 := (iL (k := 4804) (jR (n := 400) (k := 2402) (qC (z := 1) (n := 400) (Nat.le_trans (jU (by decide) (by decide)) (by decide)) (by decide)) (qC (z := 0) (n := 400) (Nat.le_trans (jU (by decide) (by decide)) (by decide)) (by decide)) (qC (z := 0) (n := 400) (Nat.le_trans (jU (by decide) (by decide)) (by decide)) (by decide)) (kB (qC (z := 20) (n := 3) (Nat.le_trans (vZ (by decide)) (by decide)) (by decide)) (by decide)) (kB (qC (z := 30) (n := 3) (Nat.le_trans (vZ (by decide)) (by decide)) (by decide)) (by decide)) (kB (qC (z := 1000) (n := 3) (Nat.le_trans (vZ (by decide)) (by decide)) (by decide)) (by decide)) (by decide)) (jR (n := 400) (k := 2402) (qC (z := 0) (n := 400) (Nat.le_trans (jU (by decide) (by decide)) (by decide)) (by decide)) (qC (z := 0) (n := 400) (Nat.le_trans (jU (by decide) (by decide)) (by decide)) (by decide)) (qC (z := 1) (n := 400) (Nat.le_trans (jU (by decide) (by decide)) (by decide)) (by decide)) (kB (qC (z := 20) (n := 3) (Nat.le_trans (vZ (by decide)) (by decide)) (by decide)) (by decide)) (kB (qC (z := 30) (n := 3) (Nat.le_trans (vZ (by decide)) (by decide)) (by decide)) (by decide)) (kB (qC (z := 1000) (n := 3) (Nat.le_trans (vZ (by decide)) (by decide)) (by decide)) (by decide)) (by decide)) (by decide))
 have bn2 : QL ((jM ((0 : Int) : Rat) ((1 : Int) : Rat) ((0 : Int) : Rat) ((20 : Int) : Rat) ((30 : Int) : Rat) ((1000 : Int) : Rat)) / (jM ((0 : Int) : Rat) ((0 : Int) : Rat) ((1 : Int) : Rat) ((20 : Int) : Rat) ((30 : Int) : Rat) ((1000 : Int) : Rat))) 4804 := (iL (k := 4804) (jR (n := 400) (k := 2402) (qC (z := 0) (n := 400) (Nat.le_trans (jU (by decide) (by decide)) (by decide)) (by decide)) (qC (z := 1) (n := 400) (Nat.le_trans (jU (by decide) (by decide)) (by decide)) (by decide)) (qC (z := 0) (n := 400) (Nat.le_trans (jU (by decide) (by decide)) (by decide)) (by decide)) (kB (qC (z := 20) (n := 3) (Nat.le_trans (vZ (by decide)) (by decide)) (by decide)) (by decide)) (kB (qC (z := 30) (n := 3) (Nat.le_trans (vZ (by decide)) (by decide)) (by decide)) (by decide)) (kB (qC (z := 1000) (n := 3) (Nat.le_trans (vZ (by decide)) (by decide)) (by decide)) (by decide)) (by decide)) (jR (n := 400) (k := 2402) (qC (z := 0) (n := 400) (Nat.le_trans (jU (by decide) (by decide)) (by decide)) (by decide)) (qC (z := 0) (n := 400) (Nat.le_trans (jU (by decide) (by decide)) (by decide)) (by decide)) (qC (z := 1) (n := 400) (Nat.le_trans (jU (by decide) (by decide)) (by decide)) (by decide)) (kB (qC (z := 20) (n := 3) (Nat.le_trans (vZ (by decide)) (by decide)) (by decide)) (by decide)) (kB (qC (z := 30) (n := 3) (Nat.le_trans (vZ (by decide)) (by decide)) (by decide)) (by decide)) (kB (qC (z := 1000) (n := 3) (Nat.le_trans (vZ (by decide)) (by decide)) (by decide)) (by decide)) (by decide)) (by decide))
 have bn3 : QL ((jM ((1 : Int) : Rat) ((0 : Int) : Rat) ((0 : Int) : Rat) ((10 : Int) : Rat) ((0 : Int) : Rat) ((0 : Int) : Rat)) / (jM ((0 : Int) : Rat) ((0 : Int) : Rat) ((1 : Int) : Rat) ((20 : Int) : Rat) ((30 : Int) : Rat) ((1000 : Int) : Rat))) 4804 := (iL (k := 4804) (jR (n := 400) (k := 2402) (qC (z := 1) (n := 400) (Nat.le_trans (jU (by decide) (by decide)) (by decide)) (by decide)) (qC (z := 0) (n := 400) (Nat.le_trans (jU (by decide) (by decide)) (by decide)) (by decide)) (qC (z := 0) (n := 400) (Nat.le_trans (jU (by decide) (by decide)) (by decide)) (by decide)) (kB (qC (z := 10) (n := 3) (jU (by decide) (by decide)) (by decide)) (by decide)) (kB (qC (z := 0) (n := 3) (jU (by decide) (by decide)) (by decide)) (by decide)) (kB (qC (z := 0) (n := 3) (jU (by decide) (by decide)) (by decide)) (by decide)) (by decide)) (jR (n := 400) (k := 2402) (qC (z := 0) (n := 400) (Nat.le_trans (jU (by decide) (by decide)) (by decide)) (by decide)) (qC (z := 0) (n := 400) (Nat.le_trans (jU (by decide) (by decide)) (by decide)) (by decide)) (qC (z := 1) (n := 400) (Nat.le_trans (jU (by decide) (by decide)) (by decide)) (by decide)) (kB (qC (z := 20) (n := 3) (Nat.le_trans (vZ (by decide)) (by decide)) (by decide)) (by decide)) (kB (qC (z := 30) (n := 3) (Nat.le_trans (vZ (by decide)) (by decide)) (by decide)) (by decide)) (kB (qC (z := 1000) (n := 3) (Nat.le_trans (vZ (by decide)) (by decide)) (by decide)) (by decide)) (by decide)) (by decide))
 refine kx [(1, (.ref 0 0)), (2, (.ref 1 0)), (3, (vi 0))] [(0, some (bx (kI (qH.mk (jC ((jM ((1 : Int) : Rat) ((0 : Int) : Rat) ((0 : Int) : Rat) ((20 : Int) : Rat) ((30 : Int) : Rat) ((1000 : Int) : Rat)) / (jM ((0 : Int) : Rat) ((0 : Int) : Rat) ((1 : Int) : Rat) ((20 : Int) : Rat) ((30 : Int) : Rat) ((1000 : Int) : Rat)))) (jC ((jM ((0 : Int) : Rat) ((1 : Int) : Rat) ((0 : Int) : Rat) ((20 : Int) : Rat) ((30 : Int) : Rat) ((1000 : Int) : Rat)) / (jM ((0 : Int) : Rat) ((0 : Int) : Rat) ((1 : Int) : Rat) ((20 : Int) : Rat) ((30 : Int) : Rat) ((1000 : Int) : Rat)))))))), (1, some (bx (jO y1)))] (zE (kC qs_exa) <| zE (oBd pl23 ze23 zo23) <| zE (kC (q_prj 0 0 0 1 0 0 0 100 0 0 10 0 0 1 0 0 0 100 0 0 ((20 : Nat) : Int) ((30 : Nat) : Int) ((1000 : Nat) : Int) (by omega) (by omega) (by omega) ((10 : Int) : Rat) ((0 : Int) : Rat) ((0 : Int) : Rat) ((1 : Int) : Rat) ((0 : Int) : Rat) ((0 : Int) : Rat) ((0 : Int) : Rat) ((1 : Int) : Rat) ((0 : Int) : Rat) ((0 : Int) : Rat) ((0 : Int) : Rat) ((1 : Int) : Rat) (by decide +kernel) (qC (z := 10) (n := 3) (jU (by decide) (by decide)) (by decide)) (qC (z := 0) (n := 3) (jU (by decide) (by decide)) (by decide)) (qC (z := 0) (n := 3) (jU (by decide) (by decide)) (by decide)) (qC (z := 1) (n := 400) (Nat.le_trans (jU (by decide) (by decide)) (by decide)) (by decide)) (qC (z := 0) (n := 400) (Nat.le_trans (jU (by decide) (by decide)) (by decide)) (by decide)) (qC (z := 0) (n := 400) (Nat.le_trans (jU (by decide) (by decide)) (by decide)) (by decide)) (qC (z := 0) (n := 400) (Nat.le_trans (jU (by decide) (by decide)) (by decide)) (by decide)) (qC (z := 1) (n := 400) (Nat.le_trans (jU (by decide) (by decide)) (by decide)) (by decide)) (qC (z := 0) (n := 400) (Nat.le_trans (jU (by decide) (by decide)) (by decide)) (by decide)) (qC (z := 0) (n := 400) (Nat.le_trans (jU (by decide) (by decide)) (by decide)) (by decide)) (qC (z := 0) (n := 400) (Nat.le_trans (jU (by decide) (by decide)) (by decide)) (by decide)) (qC (z := 1) (n := 400) (Nat.le_trans (jU (by decide) (by decide)) (by decide)) (by decide)) ((20 : Int) : Rat) (by decide +kernel) ((30 : Int) : Rat) (by decide +kernel) ((1000 : Int) : Rat) (by decide +kernel) (by decide +kernel) (by decide +kernel) (by decide +kernel) (by decide +kernel))) <| zM <| zE uH <| zE uH <| zE uH <| zN (qI 0 ze56 zo56) <| zN (qI 1 qM qR) <| zT (kR nH) <| zT (kR jS) <| zM <| zZ) ?_
 refine jA ?_
 have bn4 : QL (Rat.divInt 1 50) 3 := (qO (n := 3) (jU (by omega) (by omega)) (jU (by omega) (by omega)) (by decide))
 refine kx [(4, (.ref 2 0))] [(2, some (bx (jO (jC (Rat.divInt 1 50)))))] (zE (kC (qs_of ((1 : Nat) : Int) (by omega) (by omega) ((50 : Nat) : Int) (by omega) (by omega) (by decide +kernel))) <| zM <| zE uH <| zE uH <| zN (qI 2 qM qR) <| zT (kR jS) <| zM <| zZ) ?_
 refine jA ?_
 have bn5 : QL (Rat.divInt 3 100) 3 := (qO (n := 3) (jU (by omega) (by omega)) (jU (by omega) (by omega)) (by decide))
 refine kx [(6, (.ref 3 0))] [(3, some (bx (jO (jC (Rat.divInt 3 100)))))] (zE (kC (qs_of ((3 : Nat) : Int) (by omega) (by omega) ((100 : Nat) : Int) (by omega) (by omega) (by decide +kernel))) <| zM <| zE uH <| zE uH <| zN (qI 3 qM qR) <| zT (kR jS) <| zM <| zZ) ?_
 refine jA ?_
 have bn6 : QL (Rat.divInt 1 100) 3 := (qO (n := 3) (jU (by omega) (by omega)) (jU (by omega) (by omega)) (by decide))
 refine kx [(8, (.ref 4 0))] [(4, some (bx (jO (jC (Rat.divInt 1 100)))))] (zE (kC (qs_of ((1 : Nat) : Int) (by omega) (by omega) ((100 : Nat) : Int) (by omega) (by omega) (by decide +kernel))) <| zM <| zE uH <| zE uH <| zN (qI 4 qM qR) <| zT (kR jS) <| zM <| zZ) ?_
 refine jA ?_
 have bn7 : QL ((0 : Int) : Rat) 3 := (qC (z := 0) (n := 3) (Nat.le_trans (vZ (by decide)) (by decide)) (by decide))
 have bn8 : QL (((-1000) : Int) : Rat) 3 := (qC (z := (-1000)) (n := 3) (Nat.le_trans (vZ (by decide)) (by decide)) (by decide))
 have bn9 : QL ((1000 : Int) : Rat) 3 := (qC (z := 1000) (n := 3) (Nat.le_trans (vZ (by decide)) (by decide)) (by decide))
 refine kx [(10, (vl 52 1 kP [[(jC ((0 : Int) : Rat)), (jC ((0 : Int) : Rat)), (jC ((0 : Int) : Rat))], [(jC ((0 : Int) : Rat)), (jC ((0 : Int) : Rat)), (jC (((-1000) : Int) : Rat))], [(jC ((0 : Int) : Rat)), (jC ((1000 : Int) : Rat)), (jC ((0 : Int) : Rat))]])), (11, (vi 0))] [] (zE (kC qs_exa) <| zE (kC (q_fun 0 0 0 1 0 0 0 100 0 0 10 0 0 1 0 0 0 100 0 0 ((10 : Int) : Rat) ((0 : Int) : Rat) ((0 : Int) : Rat) ((1 : Int) : Rat) ((0 : Int) : Rat) ((0 : Int) : Rat) ((0 : Int) : Rat) ((1 : Int) : Rat) ((0 : Int) : Rat) ((0 : Int) : Rat) ((0 : Int) : Rat) ((1 : Int) : Rat) (by decide +kernel) (qC (z := 10) (n := 3) (jU (by decide) (by decide)) (by decide)) (qC (z := 0) (n := 3) (jU (by decide) (by decide)) (by decide)) (qC (z := 0) (n := 3) (jU (by decide) (by decide)) (by decide)) (qC (z := 1) (n := 400) (Nat.le_trans (jU (by decide) (by decide)) (by decide)) (by decide)) (qC (z := 0) (n := 400) (Nat.le_trans (jU (by decide) (by decide)) (by decide)) (by decide)) (qC (z := 0) (n := 400) (Nat.le_trans (jU (by decide) (by decide)) (by decide)) (by decide)) (qC (z := 0) (n := 400) (Nat.le_trans (jU (by decide) (by decide)) (by decide)) (by decide)) (qC (z := 1) (n := 400) (Nat.le_trans (jU (by decide) (by decide)) (by decide)) (by decide)) (qC (z := 0) (n := 400) (Nat.le_trans (jU (by decide) (by decide)) (by decide)) (by decide)) (qC (z := 0) (n := 400) (Nat.le_trans (jU (by decide) (by decide)) (by decide)) (by decide)) (qC (z := 0) (n := 400) (Nat.le_trans (jU (by decide) (by decide)) (by decide)) (by decide)) (qC (z := 1) (n := 400) (Nat.le_trans (jU (by decide) (by decide)) (by decide)) (by decide)) ((1 : Int) : Rat) (by decide +kernel) ((0 : Int) : Rat) (by decide +kernel) ((0 : Int) : Rat) (by decide +kernel) ((0 : Int) : Rat) (by decide +kernel) ((1 : Int) : Rat) (by decide +kernel) ((0 : Int) : Rat) (by decide +kernel) ((0 : Int) : Rat) (by decide +kernel) ((0 : Int) : Rat) (by decide +kernel) ((100 : Int) : Rat) (by decide +kernel) ((1 : Int) : Rat) (by decide +kernel) ((0 : Int) : Rat) (by decide +kernel) ((0 : Int) : Rat) (by decide +kernel) ((0 : Int) : Rat) (by decide +kernel) ((1 : Int) : Rat) (by decide +kernel) ((0 : Int) : Rat) (by decide +kernel) ((0 : Int) : Rat) (by decide +kernel) ((0 : Int) : Rat) (by decide +kernel) ((100 : Int) : Rat) (by decide +kernel) ((0 : Int) : Rat) (by decide +kernel) ((0 : Int) : Rat) (by decide +kernel) ((0 : Int) : Rat) (by decide +kernel) ((0 : Int) : Rat) (by decide +kernel) ((0 : Int) : Rat) (by decide +kernel) (((-1000) : Int) : Rat) (by decide +kernel) ((0 : Int) : Rat) (by decide +kernel) ((10 : Int) : Rat) (by decide +kernel) ((0 : Int) : Rat) (by decide +kernel) ((0 : Int) : Rat) (by decide +kernel) ((0 : Int) : Rat) (by decide +kernel) ((0 : Int) : Rat) (by decide +kernel) ((0 : Int) : Rat) (by decide +kernel) ((0 : Int) : Rat) (by decide +kernel) (((-1000) : Int) : Rat) (by decide +kernel) ((0 : Int) : Rat) (by decide +kernel) ((1000 : Int) : Rat) (by decide +kernel) ((0 : Int) : Rat) (by decide +kernel) (by decide +kernel) (by decide +kernel) (by decide +kernel))) <| zM <| zE uH <| zE uH <| zM <| zM <| zZ) ?_
 refine jA ?_
 have bn10 : QL ((-1000 : Int) : Rat) 1 := (qC (z := (-1000)) (vZ (by decide)) (by decide))
 refine kd [(0, (vb true))] [] mo (wM <| wE aL <| wM <| wM <| wE aL <| wE bD <| wM <| wR (kA nH) <| wR (kA jS) <| wR (kA jS) <| wE (oBd pl56 ze56 zo56) <| wE (kC (qs_samep ((jM ((1 : Int) : Rat) ((0 : Int) : Rat) ((0 : Int) : Rat) ((20 : Int) : Rat) ((30 : Int) : Rat) ((1000 : Int) : Rat)) / (jM ((0 : Int) : Rat) ((0 : Int) : Rat) ((1 : Int) : Rat) ((20 : Int) : Rat) ((30 : Int) : Rat) ((1000 : Int) : Rat))) ((jM ((0 : Int) : Rat) ((1 : Int) : Rat) ((0 : Int) : Rat) ((20 : Int) : Rat) ((30 : Int) : Rat) ((1000 : Int) : Rat)) / (jM ((0 : Int) : Rat) ((0 : Int) : Rat) ((1 : Int) : Rat) ((20 : Int) : Rat) ((30 : Int) : Rat) ((1000 : Int) : Rat))) (qu bn1) (qu bn2) (Rat.divInt 1 50) (Rat.divInt 3 100) (qu bn4) (qu bn5) (by decide +kernel) (by decide +kernel))) <| wE bD <| wM <| wR (kA jS) <| wR (kA jS) <| wE (qY true (kC (by have h := g_same y1 (jC (Rat.divInt 1 100)) ((jM ((1 : Int) : Rat) ((0 : Int) : Rat) ((0 : Int) : Rat) ((10 : Int) : Rat) ((0 : Int) : Rat) ((0 : Int) : Rat)) / (jM ((0 : Int) : Rat) ((0 : Int) : Rat) ((1 : Int) : Rat) ((20 : Int) : Rat) ((30 : Int) : Rat) ((1000 : Int) : Rat))) (Rat.divInt 1 100) (kH (kL bn3) (by decide)) (kH (kL bn6) (by decide)); rw [sameR_of] at h; exact h)) (by exact (by decide +kernel))) <| wE bD <| wM <| wM <| wE (fT yN 3) <| wE aL <| wE bD <| wM <| wM <| wE (zD yN 1) <| wE (yL cL) <| wE (fT uO 3) <| wE aL <| wE bD <| wM <| wM <| wE (zD yN 1) <| wE (yL cL) <| wE (zD uO 2) <| wE (gY jS) <| wE (kC (mK (-1000) (by decide) (by decide))) <| wE (qY true (kC (by have h := g_same (jC (((-1000) : Int) : Rat)) (jC ((-1000 : Int) : Rat)) (((-1000) : Int) : Rat) ((-1000 : Int) : Rat) (kH (kL bn8) (by decide)) (kH (kL bn10) (by decide)); rw [sameR_of] at h; exact h)) (by exact (by decide +kernel))) <| wE bD <| wM <| wZ) ?_
 refine jG ⟨_, (.tmp (d := (.val (.bool (true)))) rfl .nil), ?_⟩
 rfl
theorem qs_recN (lx ly lz la lb lc ld lf lu lv rx ry rz ra rb rc rd rf ru rv : Int) (b0 b1 b2 e00 e01 e02 e10 e11 e12 e20 e21 e22 : Rat) (zV : QL b0 3) (zW : QL b1 3) (zU : QL b2 3) (vG : QL e00 400) (vE : QL e01 400) (vF : QL e02 400) (vN : QL e10 400) (vL : QL e11 400) (vM : QL e12 400) (vC : QL e20 400) (vA : QL e21 400) (vB : QL e22 400) (right : Bool) (x y : Rat) (hx : QL x 5000) (hy : QL y 5000) (tx ty tz ta tb tc td tf tu tv : Int) (w0 : Rat) (hw0 : (jM (gD ta tb tc td) (gE ta tb tc td) (zJ ta tb tc td) (x - ((tu : Int) : Rat)) (y - ((tv : Int) : Rat)) ((tf : Int) : Rat)) = w0) (w1 : Rat) (hw1 : (jM (gL ta tb tc td) (gK ta tb tc td) (zY ta tb tc td) (x - ((tu : Int) : Rat)) (y - ((tv : Int) : Rat)) ((tf : Int) : Rat)) = w1) (w2 : Rat) (hw2 : (jM (gP ta tb tc td) (gO ta tb tc td) (yB ta tb tc td) (x - ((tu : Int) : Rat)) (y - ((tv : Int) : Rat)) ((tf : Int) : Rat)) = w2) (hsd : (bif right then (kJ.mk (jT.mk rx ry rz) (jN.mk ra rb rc rd) rf (kM.mk ru rv)) else (kJ.mk (jT.mk lx ly lz) (jN.mk la lb lc ld) lf (kM.mk lu lv))) = (kJ.mk (jT.mk tx ty tz) (jN.mk ta tb tc td) tf (kM.mk tu tv))) (hst : uL tx ty tz tu tv tf ta tb tc td = 0) (hd : (yT (jM e20 e21 e22 w0 w1 w2)) ≤ 0) : kF Tryz.prog 49 [(yF (RLp.mk (kY.mk (kJ.mk (jT.mk lx ly lz) (jN.mk la lb lc ld) lf (kM.mk lu lv)) (kJ.mk (jT.mk rx ry rz) (jN.mk ra rb rc rd) rf (kM.mk ru rv))) (A3.mk (jC b0) (jC b1) (jC b2)) (A3.mk (A3.mk (jC e00) (jC e01) (jC e02)) (A3.mk (jC e10) (jC e11) (jC e12)) (A3.mk (jC e20) (jC e21) (jC e22))))), (.val (.bool (right))), (kI (qH.mk (jC x) (jC y)))] (.tup [(kI (qH.mk (kG.mk (jF.mk false []) (jF.mk false [])) (kG.mk (jF.mk false []) (jF.mk false [])))), (.val (.int .i64 (20)))]) := by
 obtain ⟨htx, hty, htz, htu, htv, htf, htq⟩ := xE hst
 obtain ⟨hta, htb, htc, htd, -⟩ := xG htq
 have hnt := nB hta htb htc htd
 let y1 := (yF (RLp.mk (kY.mk (kJ.mk (jT.mk lx ly lz) (jN.mk la lb lc ld) lf (kM.mk lu lv)) (kJ.mk (jT.mk rx ry rz) (jN.mk ra rb rc rd) rf (kM.mk ru rv))) (A3.mk (jC b0) (jC b1) (jC b2)) (A3.mk (A3.mk (jC e00) (jC e01) (jC e02)) (A3.mk (jC e10) (jC e11) (jC e12)) (A3.mk (jC e20) (jC e21) (jC e22)))))
 refine jL Tryz.func49 rfl cb49 rfl ?_
 show uK _ _ _ _ ⟨[(0, (.d y1)), (1, (vb right)), (2, (.d (kI (qH.mk (jC x) (jC y)))))], []⟩
 refine jA <| kx [(3, (.ref 0 0)), (5, (.ref 1 0)), (6, (.ref 2 0))] [(0, some (bx y1)), (1, some (bx (kI (qH.mk (jC x) (jC y))))), (2, some (bx (kI (qH.mk (kG.mk (jF.mk false []) (jF.mk false [])) (kG.mk (jF.mk false []) (jF.mk false []))))))] (zN (uX 0) <| zN (uX 1) <| zN (qI 2 ze56 zo56) <| zM <| zZ) ?_
 refine jA <| kx [(8, (.ref 3 0))] [(3, some (bx (uY (kJ.mk (jT.mk tx ty tz) (jN.mk ta tb tc td) tf (kM.mk tu tv)))))] (zR (kA eI) <| zM <| zE (kC (qs_side lx ly lz la lb lc ld lf lu lv rx ry rz ra rb rc rd rf ru rv b0 b1 b2 e00 e01 e02 e10 e11 e12 e20 e21 e22 zV zW zU vG vE vF vN vL vM vC vA vB right tx ty tz ta tb tc td tf tu tv hsd)) <| zN (qI 3 bC bI) <| zT (kR xW) <| zZ) ?_
 refine jA ?_
 have bn1 : QL ((tu : Int) : Rat) 3 := (qC (z := tu) (jU (by omega) (by omega)) (by decide))
 have bn2 : QL ((tv : Int) : Rat) 3 := (qC (z := tv) (jU (by omega) (by omega)) (by decide))
 have bn3 : QL ((tf : Int) : Rat) 3 := (qC (z := tf) (jU (by omega) (by omega)) (by decide))
 refine kd [(9, (.ref 4 0))] [(4, some (bx (jY (A3.mk (jC (x - ((tu : Int) : Rat))) (jC (y - ((tv : Int) : Rat))) (jC ((tf : Int) : Rat))))))] mo (wE (kU bA) <| wR (kA jS) <| wE (kU bL) <| wE (kU fo27_0) <| wR (uM vW) <| wE (kC (mK tu (by omega) (by omega))) <| wE (kC (g_sub (jC x) (jC ((tu : Int) : Rat)) x ((tu : Int) : Rat) (kH (kL hx) (by decide)) (kH (kL bn1) (by decide)))) <| wE (kU bG) <| wR (kA jS) <| wE (kU bL) <| wE (kU fo27_1) <| wR (uM vW) <| wE (kC (mK tv (by omega) (by omega))) <| wE (kC (g_sub (jC y) (jC ((tv : Int) : Rat)) y ((tv : Int) : Rat) (kH (kL hy) (by decide)) (kH (kL bn2) (by decide)))) <| wE (kU fo29_2) <| wR (uM vW) <| wE (kC (mK tf (by omega) (by omega))) <| wE (oBf gN bX iC) <| wN (qI 4 bX iC) <| wT (kR xQ) <| wZ) ?_
 refine jA ?_
 have bn4 : QL (gD ta tb tc td) 3 := (fR)
 have bn5 : QL (gE ta tb tc td) 3 := (fM)
 have bn6 : QL (zJ ta tb tc td) 3 := (fJ)
 have bn7 : QL (gL ta tb tc td) 3 := (fP)
 have bn8 : QL (gK ta tb tc td) 3 := (fL)
 have bn9 : QL (zY ta tb tc td) 3 := (fA)
 have bn10 : QL (gP ta tb tc td) 3 := (fK)
 have bn11 : QL (gO ta tb tc td) 3 := (fN)
 have bn12 : QL (yB ta tb tc td) 3 := (fH)
 have bn13 : QL w0 30026 := (jX (Eq.symm hw0) (jR (n := 5004) (k := 30026) (qu bn4) (qu bn5) (qu bn6) (qZ (k := 5004) hx bn1 (by decide)) (qZ (k := 5004) hy bn2 (by decide)) (qu bn3) (by decide)))
 have bn14 : QL w1 30026 := (jX (Eq.symm hw1) (jR (n := 5004) (k := 30026) (qu bn7) (qu bn8) (qu bn9) (qZ (k := 5004) hx bn1 (by decide)) (qZ (k := 5004) hy bn2 (by decide)) (qu bn3) (by decide)))
 have bn15 : QL w2 30026 := (jX (Eq.symm hw2) (jR (n := 5004) (k := 30026) (qu bn10) (qu bn11) (qu bn12) (qZ (k := 5004) hx bn1 (by decide)) (qZ (k := 5004) hy bn2 (by decide)) (qu bn3) (by decide)))
 refine kd [(7, (vi 20))] [(2, some (bx (kI (qH.mk (kG.mk (jF.mk false []) (jF.mk false [])) (kG.mk (jF.mk false []) (jF.mk false []))))))] mo (wR (kA eI) <| wE (kU gF) <| wR (kA yO) <| wE (kC (qs_mat ta tb tc td (by omega) (by omega) (by omega) (by omega) htq)) <| wR (kA xQ) <| wE (kC (by have h := fU (gD ta tb tc td) (gE ta tb tc td) (zJ ta tb tc td) (gL ta tb tc td) (gK ta tb tc td) (zY ta tb tc td) (gP ta tb tc td) (gO ta tb tc td) (yB ta tb tc td) (qu bn4) (qu bn5) (qu bn6) (qu bn7) (qu bn8) (qu bn9) (qu bn10) (qu bn11) (qu bn12) (x - ((tu : Int) : Rat)) (y - ((tv : Int) : Rat)) ((tf : Int) : Rat) (kB (qZ (k := 5004) hx bn1 (by decide)) (by decide)) (kB (qZ (k := 5004) hy bn2 (by decide)) (by decide)) (qu bn3); rw [hw0, hw1, hw2] at h; exact h)) <| wE (kC (qs_cooN lx ly lz la lb lc ld lf lu lv rx ry rz ra rb rc rd rf ru rv b0 b1 b2 e00 e01 e02 e10 e11 e12 e20 e21 e22 zV zW zU vG vE vF vN vL vM vC vA vB w0 w1 w2 (qu bn13) (qu bn14) (qu bn15) hd)) <| wE uH <| wE uH <| wT (kR nH) <| wM <| wZ) ?_
 refine jG ⟨_, (qB (cs := (bx (kI (qH.mk (kG.mk (jF.mk false []) (jF.mk false [])) (kG.mk (jF.mk false []) (jF.mk false [])))))) (d := (kI (qH.mk (kG.mk (jF.mk false []) (jF.mk false [])) (kG.mk (jF.mk false []) (jF.mk false []))))) rfl rfl nH rfl rfl (.tmp (d := (.val (.int .i64 (20)))) rfl .nil)), ?_⟩
 rfl
theorem qs_rec (lx ly lz la lb lc ld lf lu lv rx ry rz ra rb rc rd rf ru rv : Int) (b0 b1 b2 e00 e01 e02 e10 e11 e12 e20 e21 e22 : Rat) (zV : QL b0 3) (zW : QL b1 3) (zU : QL b2 3) (vG : QL e00 400) (vE : QL e01 400) (vF : QL e02 400) (vN : QL e10 400) (vL : QL e11 400) (vM : QL e12 400) (vC : QL e20 400) (vA : QL e21 400) (vB : QL e22 400) (right : Bool) (x y : Rat) (hx : QL x 5000) (hy : QL y 5000) (tx ty tz ta tb tc td tf tu tv : Int) (w0 : Rat) (hw0 : (jM (gD ta tb tc td) (gE ta tb tc td) (zJ ta tb tc td) (x - ((tu : Int) : Rat)) (y - ((tv : Int) : Rat)) ((tf : Int) : Rat)) = w0) (w1 : Rat) (hw1 : (jM (gL ta tb tc td) (gK ta tb tc td) (zY ta tb tc td) (x - ((tu : Int) : Rat)) (y - ((tv : Int) : Rat)) ((tf : Int) : Rat)) = w1) (w2 : Rat) (hw2 : (jM (gP ta tb tc td) (gO ta tb tc td) (yB ta tb tc td) (x - ((tu : Int) : Rat)) (y - ((tv : Int) : Rat)) ((tf : Int) : Rat)) = w2) (hsd : (bif right then (kJ.mk (jT.mk rx ry rz) (jN.mk ra rb rc rd) rf (kM.mk ru rv)) else (kJ.mk (jT.mk lx ly lz) (jN.mk la lb lc ld) lf (kM.mk lu lv))) = (kJ.mk (jT.mk tx ty tz) (jN.mk ta tb tc td) tf (kM.mk tu tv))) (hst : uL tx ty tz tu tv tf ta tb tc td = 0) (hd : ¬ (yT (jM e20 e21 e22 w0 w1 w2)) ≤ 0) : kF Tryz.prog 49 [(yF (RLp.mk (kY.mk (kJ.mk (jT.mk lx ly lz) (jN.mk la lb lc ld) lf (kM.mk lu lv)) (kJ.mk (jT.mk rx ry rz) (jN.mk ra rb rc rd) rf (kM.mk ru rv))) (A3.mk (jC b0) (jC b1) (jC b2)) (A3.mk (A3.mk (jC e00) (jC e01) (jC e02)) (A3.mk (jC e10) (jC e11) (jC e12)) (A3.mk (jC e20) (jC e21) (jC e22))))), (.val (.bool (right))), (kI (qH.mk (jC x) (jC y)))] (.tup [(kI (qH.mk (jC ((jM e00 e01 e02 w0 w1 w2) / (jM e20 e21 e22 w0 w1 w2))) (jC ((jM e10 e11 e12 w0 w1 w2) / (jM e20 e21 e22 w0 w1 w2))))), (.val (.int .i64 (0)))]) := by
 obtain ⟨htx, hty, htz, htu, htv, htf, htq⟩ := xE hst
 obtain ⟨hta, htb, htc, htd, -⟩ := xG htq
 have hnt := nB hta htb htc htd
 let y1 := (yF (RLp.mk (kY.mk (kJ.mk (jT.mk lx ly lz) (jN.mk la lb lc ld) lf (kM.mk lu lv)) (kJ.mk (jT.mk rx ry rz) (jN.mk ra rb rc rd) rf (kM.mk ru rv))) (A3.mk (jC b0) (jC b1) (jC b2)) (A3.mk (A3.mk (jC e00) (jC e01) (jC e02)) (A3.mk (jC e10) (jC e11) (jC e12)) (A3.mk (jC e20) (jC e21) (jC e22)))))
 refine jL Tryz.func49 rfl cb49 rfl ?_
 show uK _ _ _ _ ⟨[(0, (.d y1)), (1, (vb right)), (2, (.d (kI (qH.mk (jC x) (jC y)))))], []⟩
 refine jA <| kx [(3, (.ref 0 0)), (5, (.ref 1 0)), (6, (.ref 2 0))] [(0, some (bx y1)), (1, some (bx (kI (qH.mk (jC x) (jC y))))), (2, some (bx (kI (qH.mk (kG.mk (jF.mk false []) (jF.mk false [])) (kG.mk (jF.mk false []) (jF.mk false []))))))] (zN (uX 0) <| zN (uX 1) <| zN (qI 2 ze56 zo56) <| zM <| zZ) ?_
 refine jA <| kx [(8, (.ref 3 0))] [(3, some (bx (uY (kJ.mk (jT.mk tx ty tz) (jN.mk ta tb tc td) tf (kM.mk tu tv)))))] (zR (kA eI) <| zM <| zE (kC (qs_side lx ly lz la lb lc ld lf lu lv rx ry rz ra rb rc rd rf ru rv b0 b1 b2 e00 e01 e02 e10 e11 e12 e20 e21 e22 zV zW zU vG vE vF vN vL vM vC vA vB right tx ty tz ta tb tc td tf tu tv hsd)) <| zN (qI 3 bC bI) <| zT (kR xW) <| zZ) ?_
 refine jA ?_
 have bn1 : QL ((tu : Int) : Rat) 3 := (qC (z := tu) (jU (by omega) (by omega)) (by decide))
 have bn2 : QL ((tv : Int) : Rat) 3 := (qC (z := tv) (jU (by omega) (by omega)) (by decide))
 have bn3 : QL ((tf : Int) : Rat) 3 := (qC (z := tf) (jU (by omega) (by omega)) (by decide))
 refine kd [(9, (.ref 4 0))] [(4, some (bx (jY (A3.mk (jC (x - ((tu : Int) : Rat))) (jC (y - ((tv : Int) : Rat))) (jC ((tf : Int) : Rat))))))] mo (wE (kU bA) <| wR (kA jS) <| wE (kU bL) <| wE (kU fo27_0) <| wR (uM vW) <| wE (kC (mK tu (by omega) (by omega))) <| wE (kC (g_sub (jC x) (jC ((tu : Int) : Rat)) x ((tu : Int) : Rat) (kH (kL hx) (by decide)) (kH (kL bn1) (by decide)))) <| wE (kU bG) <| wR (kA jS) <| wE (kU bL) <| wE (kU fo27_1) <| wR (uM vW) <| wE (kC (mK tv (by omega) (by omega))) <| wE (kC (g_sub (jC y) (jC ((tv : Int) : Rat)) y ((tv : Int) : Rat) (kH (kL hy) (by decide)) (kH (kL bn2) (by decide)))) <| wE (kU fo29_2) <| wR (uM vW) <| wE (kC (mK tf (by omega) (by omega))) <| wE (oBf gN bX iC) <| wN (qI 4 bX iC) <| wT (kR xQ) <| wZ) ?_
 refine jA ?_
 have bn4 : QL (gD ta tb tc td) 3 := (fR)
 have bn5 : QL (gE ta tb tc td) 3 := (fM)
 have bn6 : QL (zJ ta tb tc td) 3 := (fJ)
 have bn7 : QL (gL ta tb tc td) 3 := (fP)
 have bn8 : QL (gK ta tb tc td) 3 := (fL)
 have bn9 : QL (zY ta tb tc td) 3 := (fA)
 have bn10 : QL (gP ta tb tc td) 3 := (fK)
 have bn11 : QL (gO ta tb tc td) 3 := (fN)
 have bn12 : QL (yB ta tb tc td) 3 := (fH)
 have bn13 : QL w0 30026 := (jX (Eq.symm hw0) (jR (n := 5004) (k := 30026) (qu bn4) (qu bn5) (qu bn6) (qZ (k := 5004) hx bn1 (by decide)) (qZ (k := 5004) hy bn2 (by decide)) (qu bn3) (by decide)))
 have bn14 : QL w1 30026 := (jX (Eq.symm hw1) (jR (n := 5004) (k := 30026) (qu bn7) (qu bn8) (qu bn9) (qZ (k := 5004) hx bn1 (by decide)) (qZ (k := 5004) hy bn2 (by decide)) (qu bn3) (by decide)))
 have bn15 : QL w2 30026 := (jX (Eq.symm hw2) (jR (n := 5004) (k := 30026) (qu bn10) (qu bn11) (qu bn12) (qZ (k := 5004) hx bn1 (by decide)) (qZ (k := 5004) hy bn2 (by decide)) (qu bn3) (by decide)))
 have bn16 : QL ((jM e00 e01 e02 w0 w1 w2) / (jM e20 e21 e22 w0 w1 w2)) 360316 := (iL (k := 360316) (jR (n := 30026) (k := 180158) (qu vG) (qu vE) (qu vF) bn13 bn14 bn15 (by decide)) (jR (n := 30026) (k := 180158) (qu vC) (qu vA) (qu vB) bn13 bn14 bn15 (by decide)) (by decide))
 have bn17 : QL ((jM e10 e11 e12 w0 w1 w2) / (jM e20 e21 e22 w0 w1 w2)) 360316 := (iL (k := 360316) (jR (n := 30026) (k := 180158) (qu vN) (qu vL) (qu vM) bn13 bn14 bn15 (by decide)) (jR (n := 30026) (k := 180158) (qu vC) (qu vA) (qu vB) bn13 bn14 bn15 (by decide)) (by decide))
 refine kd [(7, (vi 0))] [(2, some (bx (kI (qH.mk (jC ((jM e00 e01 e02 w0 w1 w2) / (jM e20 e21 e22 w0 w1 w2))) (jC ((jM e10 e11 e12 w0 w1 w2) / (jM e20 e21 e22 w0 w1 w2)))))))] mo (wR (kA eI) <| wE (kU gF) <| wR (kA yO) <| wE (kC (qs_mat ta tb tc td (by omega) (by omega) (by omega) (by omega) htq)) <| wR (kA xQ) <| wE (kC (by have h := fU (gD ta tb tc td) (gE ta tb tc td) (zJ ta tb tc td) (gL ta tb tc td) (gK ta tb tc td) (zY ta tb tc td) (gP ta tb tc td) (gO ta tb tc td) (yB ta tb tc td) (qu bn4) (qu bn5) (qu bn6) (qu bn7) (qu bn8) (qu bn9) (qu bn10) (qu bn11) (qu bn12) (x - ((tu : Int) : Rat)) (y - ((tv : Int) : Rat)) ((tf : Int) : Rat) (kB (qZ (k := 5004) hx bn1 (by decide)) (by decide)) (kB (qZ (k := 5004) hy bn2 (by decide)) (by decide)) (qu bn3); rw [hw0, hw1, hw2] at h; exact h)) <| wE (kC (qs_coo lx ly lz la lb lc ld lf lu lv rx ry rz ra rb rc rd rf ru rv b0 b1 b2 e00 e01 e02 e10 e11 e12 e20 e21 e22 zV zW zU vG vE vF vN vL vM vC vA vB w0 w1 w2 (qu bn13) (qu bn14) (qu bn15) hd)) <| wE uH <| wE uH <| wT (kR nH) <| wM <| wZ) ?_
 refine jG ⟨_, (qB (cs := (bx (kI (qH.mk (jC ((jM e00 e01 e02 w0 w1 w2) / (jM e20 e21 e22 w0 w1 w2))) (jC ((jM e10 e11 e12 w0 w1 w2) / (jM e20 e21 e22 w0 w1 w2))))))) (d := (kI (qH.mk (jC ((jM e00 e01 e02 w0 w1 w2) / (jM e20 e21 e22 w0 w1 w2))) (jC ((jM e10 e11 e12 w0 w1 w2) / (jM e20 e21 e22 w0 w1 w2)))))) rfl rfl nH rfl rfl (.tmp (d := (.val (.int .i64 (0)))) rfl .nil)), ?_⟩
 rfl
end Go.Proofs.YtbecgnplakngdaaGreat
namespace Go.Proofs.YtbecgnplakngdaaGreat
open Go.Fid
set_option maxRecDepth 4000
set_option linter.unusedVariables false
set_option linter.unusedSimpArgs false
end Go.Proofs.YtbecgnplakngdaaGreat
set_option linter.unusedVariables false
set_option linter.unusedSimpArgs false
namespace Go.Fid
variable {P : Program} {o : Oper} {S : Nat → SV}
end Go.Fid
set_option linter.unusedVariables false
set_option linter.unusedSimpArgs false
namespace Go.Fid
section
variable {lx ly lz la lb lc ld rx ry rz ra rb rc rd : Int} {b0 b1 b2 e00 e01 e02 e10 e11 e12 e20 e21 e22 : Rat}
end
theorem Rcast (a b c d : Int) : gD a b c d = ((a : Rat) * a + b * b - c * c - d * d) ∧ gE a b c d = 2 * ((b : Rat) * c - a * d) ∧ zJ a b c d = 2 * ((b : Rat) * d + a * c) ∧ gL a b c d = 2 * ((b : Rat) * c + a * d) ∧ gK a b c d = ((a : Rat) * a - b * b + c * c - d * d) ∧ zY a b c d = 2 * ((c : Rat) * d - a * b) ∧ gP a b c d = 2 * ((b : Rat) * d - a * c) ∧ gO a b c d = 2 * ((c : Rat) * d + a * b) ∧ yB a b c d = ((a : Rat) * a - b * b - c * c + d * d) ∧ N4 a b c d = ((a : Rat) * a + b * b + c * c + d * d) := by
  unfold gD gE zJ gL gK zY gP gO yB N4 r00 r01 r02 r10 r11 r12 r20 r21 r22 nq
  simp only [Rat.intCast_add, Rat.intCast_sub, Rat.intCast_mul, Rat.intCast_ofNat, and_self]
theorem N4_pos {a b c d : Int} (h : gS a b c d = 0) : 0 < N4 a b c d := by
  unfold N4
  exact Rat.intCast_pos.2 (nq_pos h)
section
variable {lx ly lz la lb lc ld rx ry rz ra rb rc rd : Int} {b0 b1 b2 e00 e01 e02 e10 e11 e12 e20 e21 e22 : Rat}
end
theorem ql_dq0 {a b c d p q r s : Int} (h : gS a b c d = 0) (h2 : gS p q r s = 0) : QL (cK a b c d p q r s) 13 ∧ QL (cM a b c d p q r s) 13 ∧ QL (cJ a b c d p q r s) 13 := by
  obtain ⟨ha, hb, hc, hd, -⟩ := xG h
  obtain ⟨hp, hq, hr, hs, -⟩ := xG h2
  have n1 := ql_N4 ha hb hc hd; have n2 := ql_N4 hp hq hr hs
  refine ⟨?_, ?_, ?_⟩
  · exact yX (jV (k := 6) (ql_R02 ha hb hc hd) n2 (by decide)) (jV (k := 6) (ql_R02 hp hq hr hs) n1 (by decide)) (by decide)
  · exact yX (jV (k := 6) (ql_R12 ha hb hc hd) n2 (by decide)) (jV (k := 6) (ql_R12 hp hq hr hs) n1 (by decide)) (by decide)
  · exact yX (jV (k := 6) (ql_R22 ha hb hc hd) n2 (by decide)) (jV (k := 6) (ql_R22 hp hq hr hs) n1 (by decide)) (by decide)
theorem ql_cr {a b c d : Rat} {m n k : Nat} (ha : QL a m) (hb : QL b n) (hc : QL c m) (hd : QL d n) (h : (m + n) + (m + n) + 1 ≤ k) : QL (a * b - c * d) k :=
  qZ (jV ha hb (Nat.le_refl _)) (jV hc hd (Nat.le_refl _)) h
theorem pair_cases (lx ly lz la lb lc ld lf lu lv rx ry rz ra rb rc rd rf ru rv : Int) :
    (∃ c, stn2 (uL lx ly lz lu lv lf la lb lc ld) (uL rx ry rz ru rv rf ra rb rc rd) = c ∧ c ≠ 0) ∨
    (uL lx ly lz lu lv lf la lb lc ld = 0 ∧ uL rx ry rz ru rv rf ra rb rc rd = 0 ∧ ∃ b0 b1 b2 : Rat, (((rx - lx : Int) : Rat) = b0 ∧ ((ry - ly : Int) : Rat) = b1 ∧ ((rz - lz : Int) : Rat) = b2) ∧ (QL b0 3 ∧ QL b1 3 ∧ QL b2 3) ∧ upV la lb lc ld ra rb rc rd b0 b1 b2 = true) ∨
    (uL lx ly lz lu lv lf la lb lc ld = 0 ∧ uL rx ry rz ru rv rf ra rb rc rd = 0 ∧ ∃ b0 b1 b2 e00 e01 e02 e10 e11 e12 e20 e21 e22 : Rat, RFr lx ly lz la lb lc ld rx ry rz ra rb rc rd b0 b1 b2 e00 e01 e02 e10 e11 e12 e20 e21 e22 ∧ upV la lb lc ld ra rb rc rd b0 b1 b2 = false ∧ (QL b0 3 ∧ QL b1 3 ∧ QL b2 3) ∧ (QL e00 400 ∧ QL e01 400 ∧ QL e02 400 ∧ QL e10 400 ∧ QL e11 400 ∧ QL e12 400 ∧ QL e20 400 ∧ QL e21 400 ∧ QL e22 400)) := by
  by_cases hl : uL lx ly lz lu lv lf la lb lc ld = 0
  · by_cases hr : uL rx ry rz ru rv rf ra rb rc rd = 0
    · have hl2 := xE hl; have hr2 := xE hr
      have qb0 : QL ((rx - lx : Int) : Rat) 3 := qC (jU (by omega) (by omega)) (by decide)
      have qb1 : QL ((ry - ly : Int) : Rat) 3 := qC (jU (by omega) (by omega)) (by decide)
      have qb2 : QL ((rz - lz : Int) : Rat) 3 := qC (jU (by omega) (by omega)) (by decide)
      rcases hup : upV la lb lc ld ra rb rc rd ((rx - lx : Int) : Rat) ((ry - ly : Int) : Rat) ((rz - lz : Int) : Rat) with _ | _
      · obtain ⟨d0, d1, d2⟩ := ql_dq0 hl2.2.2.2.2.2.2 hr2.2.2.2.2.2.2
        have k0 := zC qb0 qb1 qb2 (Nat.le_refl _) (by decide)
        have e0 := jV (k := 6) qb0 k0 (by decide)
        have e1 := jV (k := 6) qb1 k0 (by decide)
        have e2 := jV (k := 6) qb2 k0 (by decide)
        have s0 := ql_cr (k := 39) d1 e2 d2 e1 (by decide)
        have s1 := ql_cr (k := 39) d2 e0 d0 e2 (by decide)
        have s2 := ql_cr (k := 39) d0 e1 d1 e0 (by decide)
        have k1 := zC s0 s1 s2 (Nat.le_refl _) (by decide)
        have f0 := jV (k := 78) s0 k1 (by decide)
        have f1 := jV (k := 78) s1 k1 (by decide)
        have f2 := jV (k := 78) s2 k1 (by decide)
        have t0 := ql_cr (k := 169) e1 f2 e2 f1 (by decide)
        have t1 := ql_cr (k := 169) e2 f0 e0 f2 (by decide)
        have t2 := ql_cr (k := 169) e0 f1 e1 f0 (by decide)
        have k2 := zC t0 t1 t2 (Nat.le_refl _) (by decide)
        have g0 := jV (k := 338) t0 k2 (by decide)
        have g1 := jV (k := 338) t1 k2 (by decide)
        have g2 := jV (k := 338) t2 k2 (by decide)
        exact .inr (.inr ⟨hl, hr, _, _, _, _, _, _, _, _, _, _, _, _, ⟨rfl, rfl, rfl, rfl, rfl, rfl, rfl, rfl, rfl, rfl, rfl, rfl⟩, hup, ⟨qb0, qb1, qb2⟩, kB e0 (by decide), kB e1 (by decide), kB e2 (by decide), kB f0 (by decide), kB f1 (by decide), kB f2 (by decide), kB g0 (by decide), kB g1 (by decide), kB g2 (by decide)⟩)
      · exact .inr (.inl ⟨hl, hr, _, _, _, ⟨rfl, rfl, rfl⟩, ⟨qb0, qb1, qb2⟩, hup⟩)
    · exact .inl ⟨_, rfl, by unfold stn2; rw [if_pos hl]; exact hr⟩
  · exact .inl ⟨_, rfl, by unfold stn2; rw [if_neg hl]; exact hl⟩
end Go.Fid
set_option linter.unusedVariables false
set_option linter.unusedSimpArgs false
namespace Go.Fid
theorem briefP_ok {x y : kG} (h : bJ x y = true) : eV x (toQ x) 8 ∧ eV y (toQ y) 8 := by
  unfold bJ digR at h
  simp only [Bool.and_eq_true, decide_eq_true_eq] at h
  exact ⟨aN (by decide) (by omega) (by omega), aN (by decide) (by omega) (by omega)⟩
theorem valid_ex {x : kG} {n : Nat} (h : uV x = true) (h2 : eV x (toQ x) n) : ∃ q : Rat, x = jC q ∧ QL q n := ⟨toQ x, (ofQ_toQ h).symm, h2.ql⟩
def xX (q : Rat) : Prop := ∃ z : Int, q = (z : Rat)
theorem xX.of (z : Int) : xX (z : Rat) := ⟨z, rfl⟩
theorem xX.mul {p q : Rat} (h : xX p) (h2 : xX q) : xX (p * q) := by
  obtain ⟨a, rfl⟩ := h; obtain ⟨b, rfl⟩ := h2; exact ⟨a * b, (Rat.intCast_mul a b).symm⟩
theorem xX.add {p q : Rat} (h : xX p) (h2 : xX q) : xX (p + q) := by
  obtain ⟨a, rfl⟩ := h; obtain ⟨b, rfl⟩ := h2; exact ⟨a + b, (Rat.intCast_add a b).symm⟩
theorem xX.sub {p q : Rat} (h : xX p) (h2 : xX q) : xX (p - q) := by
  obtain ⟨a, rfl⟩ := h; obtain ⟨b, rfl⟩ := h2; exact ⟨a - b, (Rat.intCast_sub a b).symm⟩
theorem red_z {a g : Int} (h : g ∣ a) : xX ((a : Rat) * Rat.divInt 1 g) := by
  obtain ⟨k, rfl⟩ := h
  by_cases hg : g = 0
  · subst hg; exact ⟨0, by rw [Int.zero_mul]; simp⟩
  · refine ⟨k, ?_⟩
    rw [Rat.divInt_eq_div, Rat.intCast_mul, Rat.intCast_one]
    have h2 : ((g : Int) : Rat) ≠ 0 := fun q => hg (Rat.intCast_eq_zero_iff.1 q)
    grind
theorem xX.red {a b c : Rat} (ha : xX a) (hb : xX b) (hc : xX c) : xX (a * yC a b c) ∧ xX (b * yC a b c) ∧ xX (c * yC a b c) := by
  obtain ⟨x, rfl⟩ := ha; obtain ⟨y, rfl⟩ := hb; obtain ⟨z, rfl⟩ := hc
  unfold yC eU
  rw [Rat.num_intCast, Rat.num_intCast, Rat.num_intCast]
  have h1 : ((Int.gcd x ((Int.gcd y z : Nat) : Int) : Nat) : Int) ∣ x := Int.gcd_dvd_left ..
  have h2 : ((Int.gcd x ((Int.gcd y z : Nat) : Int) : Nat) : Int) ∣ ((Int.gcd y z : Nat) : Int) := Int.gcd_dvd_right ..
  exact ⟨red_z h1, red_z (Int.dvd_trans h2 (Int.gcd_dvd_left ..)), red_z (Int.dvd_trans h2 (Int.gcd_dvd_right ..))⟩
theorem xX.cr {a b c d : Rat} (ha : xX a) (hb : xX b) (hc : xX c) (hd : xX d) : xX (a * b - c * d) := (ha.mul hb).sub (hc.mul hd)
theorem isz_dq (a b c d p q r s : Int) : xX (cK a b c d p q r s) ∧ xX (cM a b c d p q r s) ∧ xX (cJ a b c d p q r s) :=
  ⟨((xX.of _).mul (.of _)).add ((xX.of _).mul (.of _)), ((xX.of _).mul (.of _)).add ((xX.of _).mul (.of _)), ((xX.of _).mul (.of _)).add ((xX.of _).mul (.of _))⟩
section
variable {lx ly lz la lb lc ld rx ry rz ra rb rc rd : Int} {b0 b1 b2 e00 e01 e02 e10 e11 e12 e20 e21 e22 : Rat}
theorem fr_isz (hF : RFr lx ly lz la lb lc ld rx ry rz ra rb rc rd b0 b1 b2 e00 e01 e02 e10 e11 e12 e20 e21 e22) : xX e00 ∧ xX e01 ∧ xX e02 ∧ xX e10 ∧ xX e11 ∧ xX e12 ∧ xX e20 ∧ xX e21 ∧ xX e22 := by
  obtain ⟨rfl, rfl, rfl, h00, h01, h02, h10, h11, h12, h20, h21, h22⟩ := hF
  obtain ⟨d0, d1, d2⟩ := isz_dq la lb lc ld ra rb rc rd
  obtain ⟨e0, e1, e2⟩ := (xX.of (rx - lx)).red (.of (ry - ly)) (.of (rz - lz))
  rw [h00] at e0; rw [h01] at e1; rw [h02] at e2
  obtain ⟨f0, f1, f2⟩ := (d1.cr e2 d2 e1).red (d2.cr e0 d0 e2) (d0.cr e1 d1 e0)
  rw [h10] at f0; rw [h11] at f1; rw [h12] at f2
  obtain ⟨g0, g1, g2⟩ := (e1.cr f2 e2 f1).red (e2.cr f0 e0 f2) (e0.cr f1 e1 f0)
  rw [h20] at g0; rw [h21] at g1; rw [h22] at g2
  exact ⟨e0, e1, e2, f0, f1, f2, g0, g1, g2⟩
end
end Go.Fid
set_option linter.unusedVariables false
set_option linter.unusedSimpArgs false
namespace Go.Fid
section
variable {lx ly lz la lb lc ld rx ry rz ra rb rc rd : Int} {b0 b1 b2 e00 e01 e02 e10 e11 e12 e20 e21 e22 : Rat}
end
end Go.Fid
set_option linter.unusedVariables false
set_option linter.unusedSimpArgs false
namespace Go.Fid
def det2Q (a b c d : Rat) : Rat := a * d - b * c
def cQ (a b c d e f g h i : Rat) : Rat := a * det2Q e f h i - b * det2Q d f g i + c * det2Q d e g h
section
variable {a b c d e f g h i : Rat}
end
section
variable {b0 b1 b2 p00 p01 p02 p10 p11 p12 p20 p21 p22 q00 q01 q02 q10 q11 q12 q20 q21 q22 s00 s01 s02 s10 s11 s12 s20 s21 s22 f00 f01 f02 f10 f11 f12 f20 f21 f22 : Rat}
theorem det_mul (q00 q01 q02 q10 q11 q12 q20 q21 q22 s00 s01 s02 s10 s11 s12 s20 s21 s22 : Rat) :
    cQ (jM s00 s10 s20 q00 q10 q20) (jM s01 s11 s21 q00 q10 q20) (jM s02 s12 s22 q00 q10 q20) (jM s00 s10 s20 q01 q11 q21) (jM s01 s11 s21 q01 q11 q21) (jM s02 s12 s22 q01 q11 q21) (jM s00 s10 s20 q02 q12 q22) (jM s01 s11 s21 q02 q12 q22) (jM s02 s12 s22 q02 q12 q22)
      = cQ q00 q01 q02 q10 q11 q12 q20 q21 q22 * cQ s00 s01 s02 s10 s11 s12 s20 s21 s22 := by
  unfold cQ det2Q jM; grind
theorem lens_v (m0 m1 m2 x y : Rat) (u v f : Int) : jM (jM ((1 : Int) : Rat) ((0 : Int) : Rat) ((0 : Int) : Rat) m0 m1 m2) (jM ((0 : Int) : Rat) ((1 : Int) : Rat) ((0 : Int) : Rat) m0 m1 m2) (jM ((-u : Int) : Rat) ((-v : Int) : Rat) ((f : Int) : Rat) m0 m1 m2) x y ((1 : Int) : Rat) = jM m0 m1 m2 (x - ((u : Int) : Rat)) (y - ((v : Int) : Rat)) ((f : Int) : Rat) := by
  rw [Rat.intCast_zero, Rat.intCast_one, Rat.intCast_neg, Rat.intCast_neg]; unfold jM; grind
end
end Go.Fid
namespace Go.Proofs.YtbecgnplakngdaaGreat
open Go.Fid
set_option maxRecDepth 4000
set_option linter.unusedVariables false
set_option linter.unusedSimpArgs false
end Go.Proofs.YtbecgnplakngdaaGreat
set_option linter.unusedVariables false
set_option linter.unusedSimpArgs false
namespace Go.Fid
end Go.Fid
set_option linter.unusedVariables false
set_option linter.unusedSimpArgs false
namespace Go.Fid
end Go.Fid
namespace Go.Proofs.YtbecgnplakngdaaGreat
open Go.Fid
theorem take_all {α : Type} {f : α → Bool} {l : List α} {i : Nat} {d : α} (h : i < l.length) : (l.take (i + 1)).all f = ((l.take i).all f && f (l.getD i d)) := by
  rw [List.getD_eq_getElem?_getD, List.getElem?_eq_getElem h, List.take_succ_eq_append_getElem h, List.all_append]
  simp
end Go.Proofs.YtbecgnplakngdaaGreat
namespace Go.Proofs.YtbecgnplakngdaaGreat
open Go.Fid
set_option maxRecDepth 4000
set_option linter.unusedVariables false
set_option linter.unusedSimpArgs false
theorem cb112 : callB Tryz.prog 112 = true := by kernel_rfl
theorem yN : vX Tryz.prog 34 = some (52, 1) := by kernel_rfl
theorem uO : vX Tryz.prog 52 = some (42, 4) := by kernel_rfl
theorem cL : uG Tryz.prog 52 = some (false, 1) := by kernel_rfl
end Go.Proofs.YtbecgnplakngdaaGreat
