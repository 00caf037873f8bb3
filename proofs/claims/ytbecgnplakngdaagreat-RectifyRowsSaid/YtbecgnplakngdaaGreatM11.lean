/- Part 11 of a proof: rules, plain facts, and functions walked. -/
import Derived.Test.YtbecgnplakngdaaGreatM10
import Derived.Test.YtbecgnplakngdaaGreatM9
import Derived.Test.YtbecgnplakngdaaGreatM7
namespace Go.Proofs.YtbecgnplakngdaaGreat
open Go.Fid
set_option maxRecDepth 4000
set_option linter.unusedVariables false
set_option linter.unusedSimpArgs false
theorem cb14 : callB Tryz.prog 14 = true := by kernel_rfl
theorem cb68 : callB Tryz.prog 68 = true := by kernel_rfl
theorem el140 : xO Tryz.prog 140 = some (29, 10) := by kernel_rfl
theorem eqs23 : eqsB Tryz.prog 23 = some 3 := by kernel_rfl
theorem yA : xD Tryz.prog 31 0 = some 0 := by kernel_rfl
theorem zY : xD Tryz.prog 31 1 = some 10 := by kernel_rfl
theorem fo47_1 : xD Tryz.prog 47 1 = some 20 := by kernel_rfl
theorem fo47_2 : xD Tryz.prog 47 2 = some 32 := by kernel_rfl
theorem fo134_2 : xD Tryz.prog 134 2 = some 20 := by kernel_rfl
theorem dI : xD Tryz.prog 134 3 = some 32 := by kernel_rfl
theorem pl47 : nT Tryz.prog 47 = some [(0, 20), (20, 12), (32, 36)] := by kernel_rfl
theorem pl134 : nT Tryz.prog 134 = some [(0, 10), (10, 10), (20, 12), (32, 36)] := by kernel_rfl
theorem nC : qY Tryz.prog 23 = some (true, 3) := by kernel_rfl
theorem vK : qY Tryz.prog 29 = some (true, 10) := by kernel_rfl
theorem mE : qY Tryz.prog 31 = some (true, 20) := by kernel_rfl
theorem cV : qY Tryz.prog 47 = some (true, 68) := by kernel_rfl
theorem ze23 : xC Tryz.prog 23 = some [.int .i64 0, .int .i64 0, .int .i64 0] := by kernel_rfl
theorem ze29 : xC Tryz.prog 29 = some [.int .i64 0, .int .i64 0, .int .i64 0, .int .i64 0, .int .i64 0, .int .i64 0, .int .i64 0, .int .i64 0, .int .i64 0, .int .i64 0] := by kernel_rfl
theorem fL : xC Tryz.prog 47 = some [.int .i64 0, .int .i64 0, .int .i64 0, .int .i64 0, .int .i64 0, .int .i64 0, .int .i64 0, .int .i64 0, .int .i64 0, .int .i64 0, .int .i64 0, .int .i64 0, .int .i64 0, .int .i64 0, .int .i64 0, .int .i64 0, .int .i64 0, .int .i64 0, .int .i64 0, .int .i64 0, .bool false, .slice none 0 0, .bool false, .slice none 0 0, .bool false, .slice none 0 0, .bool false, .slice none 0 0, .bool false, .slice none 0 0, .bool false, .slice none 0 0, .bool false, .slice none 0 0, .bool false, .slice none 0 0, .bool false, .slice none 0 0, .bool false, .slice none 0 0, .bool false, .slice none 0 0, .bool false, .slice none 0 0, .bool false, .slice none 0 0, .bool false, .slice none 0 0, .bool false, .slice none 0 0, .bool false, .slice none 0 0, .bool false, .slice none 0 0, .bool false, .slice none 0 0, .bool false, .slice none 0 0, .bool false, .slice none 0 0, .bool false, .slice none 0 0, .bool false, .slice none 0 0, .bool false, .slice none 0 0, .bool false, .slice none 0 0] := by kernel_rfl
theorem ze134 : xC Tryz.prog 134 = some [.int .i64 0, .int .i64 0, .int .i64 0, .int .i64 0, .int .i64 0, .int .i64 0, .int .i64 0, .int .i64 0, .int .i64 0, .int .i64 0, .int .i64 0, .int .i64 0, .int .i64 0, .int .i64 0, .int .i64 0, .int .i64 0, .int .i64 0, .int .i64 0, .int .i64 0, .int .i64 0, .bool false, .slice none 0 0, .bool false, .slice none 0 0, .bool false, .slice none 0 0, .bool false, .slice none 0 0, .bool false, .slice none 0 0, .bool false, .slice none 0 0, .bool false, .slice none 0 0, .bool false, .slice none 0 0, .bool false, .slice none 0 0, .bool false, .slice none 0 0, .bool false, .slice none 0 0, .bool false, .slice none 0 0, .bool false, .slice none 0 0, .bool false, .slice none 0 0, .bool false, .slice none 0 0, .bool false, .slice none 0 0, .bool false, .slice none 0 0, .bool false, .slice none 0 0, .bool false, .slice none 0 0, .bool false, .slice none 0 0, .bool false, .slice none 0 0, .bool false, .slice none 0 0, .bool false, .slice none 0 0, .bool false, .slice none 0 0] := by kernel_rfl
theorem zo23 : nV [.int .i64 0, .int .i64 0, .int .i64 0] [.val (.int .i64 0), .val (.int .i64 0), .val (.int .i64 0)] := by simp [nV, Value.oneCell']
theorem zo29 : nV [.int .i64 0, .int .i64 0, .int .i64 0, .int .i64 0, .int .i64 0, .int .i64 0, .int .i64 0, .int .i64 0, .int .i64 0, .int .i64 0] [.val (.int .i64 0), .val (.int .i64 0), .val (.int .i64 0), .val (.int .i64 0), .val (.int .i64 0), .val (.int .i64 0), .val (.int .i64 0), .val (.int .i64 0), .val (.int .i64 0), .val (.int .i64 0)] := by simp [nV, Value.oneCell']
theorem fX : nV [.int .i64 0, .int .i64 0, .int .i64 0, .int .i64 0, .int .i64 0, .int .i64 0, .int .i64 0, .int .i64 0, .int .i64 0, .int .i64 0, .int .i64 0, .int .i64 0, .int .i64 0, .int .i64 0, .int .i64 0, .int .i64 0, .int .i64 0, .int .i64 0, .int .i64 0, .int .i64 0, .bool false, .slice none 0 0, .bool false, .slice none 0 0, .bool false, .slice none 0 0, .bool false, .slice none 0 0, .bool false, .slice none 0 0, .bool false, .slice none 0 0, .bool false, .slice none 0 0, .bool false, .slice none 0 0, .bool false, .slice none 0 0, .bool false, .slice none 0 0, .bool false, .slice none 0 0, .bool false, .slice none 0 0, .bool false, .slice none 0 0, .bool false, .slice none 0 0, .bool false, .slice none 0 0, .bool false, .slice none 0 0, .bool false, .slice none 0 0, .bool false, .slice none 0 0, .bool false, .slice none 0 0, .bool false, .slice none 0 0, .bool false, .slice none 0 0, .bool false, .slice none 0 0, .bool false, .slice none 0 0, .bool false, .slice none 0 0] [.val (.int .i64 0), .val (.int .i64 0), .val (.int .i64 0), .val (.int .i64 0), .val (.int .i64 0), .val (.int .i64 0), .val (.int .i64 0), .val (.int .i64 0), .val (.int .i64 0), .val (.int .i64 0), .val (.int .i64 0), .val (.int .i64 0), .val (.int .i64 0), .val (.int .i64 0), .val (.int .i64 0), .val (.int .i64 0), .val (.int .i64 0), .val (.int .i64 0), .val (.int .i64 0), .val (.int .i64 0), .val (.bool false), .sl 152 1 [], .val (.bool false), .sl 152 1 [], .val (.bool false), .sl 152 1 [], .val (.bool false), .sl 152 1 [], .val (.bool false), .sl 152 1 [], .val (.bool false), .sl 152 1 [], .val (.bool false), .sl 152 1 [], .val (.bool false), .sl 152 1 [], .val (.bool false), .sl 152 1 [], .val (.bool false), .sl 152 1 [], .val (.bool false), .sl 152 1 [], .val (.bool false), .sl 152 1 [], .val (.bool false), .sl 152 1 [], .val (.bool false), .sl 152 1 [], .val (.bool false), .sl 152 1 [], .val (.bool false), .sl 152 1 [], .val (.bool false), .sl 152 1 [], .val (.bool false), .sl 152 1 [], .val (.bool false), .sl 152 1 [], .val (.bool false), .sl 152 1 [], .val (.bool false), .sl 152 1 [], .val (.bool false), .sl 152 1 [], .val (.bool false), .sl 152 1 [], .val (.bool false), .sl 152 1 []] := by simp [nV, Value.oneCell']
theorem zo134 : nV [.int .i64 0, .int .i64 0, .int .i64 0, .int .i64 0, .int .i64 0, .int .i64 0, .int .i64 0, .int .i64 0, .int .i64 0, .int .i64 0, .int .i64 0, .int .i64 0, .int .i64 0, .int .i64 0, .int .i64 0, .int .i64 0, .int .i64 0, .int .i64 0, .int .i64 0, .int .i64 0, .bool false, .slice none 0 0, .bool false, .slice none 0 0, .bool false, .slice none 0 0, .bool false, .slice none 0 0, .bool false, .slice none 0 0, .bool false, .slice none 0 0, .bool false, .slice none 0 0, .bool false, .slice none 0 0, .bool false, .slice none 0 0, .bool false, .slice none 0 0, .bool false, .slice none 0 0, .bool false, .slice none 0 0, .bool false, .slice none 0 0, .bool false, .slice none 0 0, .bool false, .slice none 0 0, .bool false, .slice none 0 0, .bool false, .slice none 0 0, .bool false, .slice none 0 0, .bool false, .slice none 0 0, .bool false, .slice none 0 0, .bool false, .slice none 0 0, .bool false, .slice none 0 0, .bool false, .slice none 0 0, .bool false, .slice none 0 0] [.val (.int .i64 0), .val (.int .i64 0), .val (.int .i64 0), .val (.int .i64 0), .val (.int .i64 0), .val (.int .i64 0), .val (.int .i64 0), .val (.int .i64 0), .val (.int .i64 0), .val (.int .i64 0), .val (.int .i64 0), .val (.int .i64 0), .val (.int .i64 0), .val (.int .i64 0), .val (.int .i64 0), .val (.int .i64 0), .val (.int .i64 0), .val (.int .i64 0), .val (.int .i64 0), .val (.int .i64 0), .val (.bool false), .sl 152 1 [], .val (.bool false), .sl 152 1 [], .val (.bool false), .sl 152 1 [], .val (.bool false), .sl 152 1 [], .val (.bool false), .sl 152 1 [], .val (.bool false), .sl 152 1 [], .val (.bool false), .sl 152 1 [], .val (.bool false), .sl 152 1 [], .val (.bool false), .sl 152 1 [], .val (.bool false), .sl 152 1 [], .val (.bool false), .sl 152 1 [], .val (.bool false), .sl 152 1 [], .val (.bool false), .sl 152 1 [], .val (.bool false), .sl 152 1 [], .val (.bool false), .sl 152 1 [], .val (.bool false), .sl 152 1 [], .val (.bool false), .sl 152 1 [], .val (.bool false), .sl 152 1 [], .val (.bool false), .sl 152 1 [], .val (.bool false), .sl 152 1 [], .val (.bool false), .sl 152 1 [], .val (.bool false), .sl 152 1 [], .val (.bool false), .sl 152 1 [], .val (.bool false), .sl 152 1 []] := by simp [nV, Value.oneCell']
theorem q_rec (lx ly lz la lb lc ld lf lu lv rx ry rz ra rb rc rd rf ru rv : Int) (b0 b1 b2 e00 e01 e02 e10 e11 e12 e20 e21 e22 : Rat) (hF : RFr lx ly lz la lb lc ld rx ry rz ra rb rc rd b0 b1 b2 e00 e01 e02 e10 e11 e12 e20 e21 e22) (vJ : QL b0 3) (vH : QL b1 3) (vI : QL b2 3) (qV : QL e00 400) (qW : QL e01 400) (qU : QL e02 400) (uC : QL e10 400) (uE : QL e11 400) (uD : QL e12 400) (qJ : QL e20 400) (qI : QL e21 400) (qK : QL e22 400) (hl : uP lx ly lz lu lv lf la lb lc ld = 0) (hr : uP rx ry rz ru rv rf ra rb rc rd = 0) (hup : upV la lb lc ld ra rb rc rd b0 b1 b2 = false) : kD Tryz.prog 68 [(qA (kT.mk (kH.mk (jL.mk lx ly lz) (jO.mk la lb lc ld) lf (kI.mk lu lv)) (kH.mk (jL.mk rx ry rz) (jO.mk ra rb rc rd) rf (kI.mk ru rv))))] (.tup [(.cptr 1000001 (kY.cells (cU (RRp.mk (kH.mk (jL.mk lx ly lz) (jO.mk la lb lc ld) lf (kI.mk lu lv)) (kH.mk (jL.mk rx ry rz) (jO.mk ra rb rc rd) rf (kI.mk ru rv)) (A3.mk (jC b0) (jC b1) (jC b2)) (A3.mk (A3.mk (jC e00) (jC e01) (jC e02)) (A3.mk (jC e10) (jC e11) (jC e12)) (A3.mk (jC e20) (jC e21) (jC e22)))))) 0), (.val (.int .i64 (0)))]) := by
 have hbl := uS hl
 have hbr := uS hr
 obtain ⟨hlx, hly, hlz, hlu, hlv, hlf, hlq⟩ := hbl
 obtain ⟨hrx, hry, hrz, hru, hrv, hrf, hrq⟩ := hbr
 obtain ⟨hla, hlb, hlc, hld, -⟩ := uW hlq
 obtain ⟨hra, hrb, hrc, hrd, -⟩ := uW hrq
 have hnl := yN hla hlb hlc hld
 have hnr := yN hra hrb hrc hrd
 have hF2 := hF
 unfold RFr at hF2
 obtain ⟨hb0, hb1, hb2, he00, he01, he02, he10, he11, he12, he20, he21, he22⟩ := hF2
 have hzb := fr_zb hF hup
 have hzs := fr_zs hF hup
 have hzt := fr_zt hF hup
 let y6 := (A3.mk (jV.mk (jG.mk false []) (jG.mk false [])) (jV.mk (jG.mk false []) (jG.mk false [])) (jV.mk (jG.mk false []) (jG.mk false [])))
 let y5 := (qA (kT.mk (kH.mk (jL.mk lx ly lz) (jO.mk la lb lc ld) lf (kI.mk lu lv)) (kH.mk (jL.mk rx ry rz) (jO.mk ra rb rc rd) rf (kI.mk ru rv))))
 let y4 := (bx (jN (A3.mk (jC (((cY la lb lc ld ra rb rc rd) * e02) - ((dA la lb lc ld ra rb rc rd) * e01))) (jC (((dA la lb lc ld ra rb rc rd) * e00) - ((dC la lb lc ld ra rb rc rd) * e02))) (jC (((dC la lb lc ld ra rb rc rd) * e01) - ((cY la lb lc ld ra rb rc rd) * e00))))))
 let y3 := (cU (RRp.mk (kH.mk (jL.mk lx ly lz) (jO.mk la lb lc ld) lf (kI.mk lu lv)) (kH.mk (jL.mk rx ry rz) (jO.mk ra rb rc rd) rf (kI.mk ru rv)) (A3.mk (jC b0) (jC b1) (jC b2)) (A3.mk (A3.mk (jC e00) (jC e01) (jC e02)) (A3.mk (jC e10) (jC e11) (jC e12)) (A3.mk (jC e20) (jC e21) (jC e22)))))
 let y2 := (A3.mk y6 y6 y6)
 let y1 := (bx (cU (RRp.mk (kH.mk (jL.mk lx ly lz) (jO.mk la lb lc ld) lf (kI.mk lu lv)) (kH.mk (jL.mk rx ry rz) (jO.mk ra rb rc rd) rf (kI.mk ru rv)) (A3.mk (jC b0) (jC b1) (jC b2)) (A3.mk (A3.mk (jC e00) (jC e01) (jC e02)) y6 y6))))
 refine jK Tryz.func68 rfl cb68 rfl ?_
 show uY _ _ _ _ ⟨[(0, (.d y5))], []⟩
 refine jA <| kx [(1, (.ref 0 0))] [(0, some (bx y5))] (zN (vN 0) <| zM <| zM <| zZ) ?_
 refine jA <| jA <| kx [(4, (kE (uP lx ly lz lu lv lf la lb lc ld)))] [] (zE (kO yA) <| zR (jZ vK) <| zE (jX (q_stn lx ly lz la lb lc ld lf lu lv)) <| zM <| zZ) ?_
 refine jA <| kx [(17, (vb false))] [] (zM <| zE (qN false dL (by exact bne_eq_false_iff_eq.2 (by rw [show (uP lx ly lz lu lv lf la lb lc ld) = 0 from hl]; rfl))) <| zZ) ?_
 refine kG ?_
 refine jD <| jA <| jA <| kx [(5, (kE (uP rx ry rz ru rv rf ra rb rc rd)))] [] (zE (kO zY) <| zR (jZ vK) <| zE (jX (q_stn rx ry rz ra rb rc rd rf ru rv)) <| zM <| zZ) ?_
 refine jA <| kx [(23, (vb false))] [] (zM <| zE (qN false dL (by exact bne_eq_false_iff_eq.2 (by rw [show (uP rx ry rz ru rv rf ra rb rc rd) = 0 from hr]; rfl))) <| zZ) ?_
 refine kG ?_
 refine jD <| jA <| kx [(6, (.ref 1 0))] [(1, some (bx (cU (RRp.mk (kH.mk (jL.mk lx ly lz) (jO.mk la lb lc ld) lf (kI.mk lu lv)) (kH.mk (jL.mk rx ry rz) (jO.mk ra rb rc rd) rf (kI.mk ru rv)) y6 y2))))] (zE (kO yA) <| zR (jZ vK) <| zE (kO zY) <| zR (jZ vK) <| zE (oBd pl134 ze134 zo134) <| zN (vN 1) <| zM <| zZ) ?_
 refine jA <| kd [(7, (.ref 2 0)), (8, (.ref 3 0))] [(2, some (bx (qE (jL.mk lx ly lz)))), (3, some (bx (qE (jL.mk rx ry rz))))] mo (wE (kO yA) <| wE (kO yC) <| wR (jZ nC) <| wE (kO zY) <| wE (kO yC) <| wR (jZ nC) <| wN (qP 2 ze23 zo23) <| wN (qP 3 ze23 zo23) <| wT (kU nC) <| wT (kU nC) <| wZ) ?_
 refine jA ?_
 have bn1 : QL b0 3 := (jT (Eq.symm hb0) (qi (rx - lx)))
 have bn2 : QL b1 3 := (jT (Eq.symm hb1) (qi (ry - ly)))
 have bn3 : QL b2 3 := (jT (Eq.symm hb2) (qi (rz - lz)))
 refine kx [] [(1, some (bx (cU (RRp.mk (kH.mk (jL.mk lx ly lz) (jO.mk la lb lc ld) lf (kI.mk lu lv)) (kH.mk (jL.mk rx ry rz) (jO.mk ra rb rc rd) rf (kI.mk ru rv)) (A3.mk (jC b0) (jC b1) (jC b2)) y2))))] (zM <| zE (kO yB) <| zR (uM uH) <| zE (kO yB) <| zR (uM uH) <| zE (dJ (rx - lx) (hr := by exact (qG rfl (by simp only [vY]; omega) (by simp only [vZ]; omega)))) <| zE (kO yK) <| zR (uM uH) <| zE (kO yK) <| zR (uM uH) <| zE (dJ (ry - ly) (hr := by exact (qG rfl (by simp only [vY]; omega) (by simp only [vZ]; omega)))) <| zE (kO yL) <| zR (uM uH) <| zE (kO yL) <| zR (uM uH) <| zE (dJ (rz - lz) (hr := by exact (qG rfl (by simp only [vY]; omega) (by simp only [vZ]; omega)))) <| zE (jX (by have h := q_whole (rx - lx) (by omega) (by omega) (ry - ly) (by omega) (by omega) (rz - lz) (by omega) (by omega); rw [hb0, hb1, hb2] at h; exact h)) <| zE oNc <| zE (kO fo134_2) <| zT (kU uQ) <| zZ) ?_
 refine jA <| jA <| kx [(58, (vb (decide ([lx, ly, lz] = [rx, ry, rz]))))] [] (zR (jZ nC) <| zR (jZ nC) <| zE (oEs eqs23 .i64 [lx, ly, lz] [rx, ry, rz]) <| zZ) ?_
 refine jS (b := (decide ([lx, ly, lz] = [rx, ry, rz]))) rfl (fun h1 => ?_) (fun h1 => ?_)
 ·replace h1 := of_decide_eq_true h1
  exact absurd (zb_eq hb0 hb1 hb2 h1) (by rw [hzb]; decide)
 ·replace h1 := of_decide_eq_false h1
  refine jD <| jA ?_
  have bn4 : QL (xY la lb lc ld) 3 := (eZ)
  have bn5 : QL (xW la lb lc ld) 3 := (fC)
  have bn6 : QL (uK la lb lc ld) 3 := (mG)
  have bn7 : QL (zC la lb lc ld) 3 := (eW)
  have bn8 : QL (zD la lb lc ld) 3 := (fF)
  have bn9 : QL (uL la lb lc ld) 3 := (mT)
  have bn10 : QL (zI la lb lc ld) 3 := (fD)
  have bn11 : QL (zG la lb lc ld) 3 := (eX)
  have bn12 : QL (uO la lb lc ld) 3 := (mS)
  have bn13 : QL (xY ra rb rc rd) 3 := (eZ)
  have bn14 : QL (xW ra rb rc rd) 3 := (fC)
  have bn15 : QL (uK ra rb rc rd) 3 := (mG)
  have bn16 : QL (zC ra rb rc rd) 3 := (eW)
  have bn17 : QL (zD ra rb rc rd) 3 := (fF)
  have bn18 : QL (uL ra rb rc rd) 3 := (mT)
  have bn19 : QL (zI ra rb rc rd) 3 := (fD)
  have bn20 : QL (zG ra rb rc rd) 3 := (eX)
  have bn21 : QL (uO ra rb rc rd) 3 := (mS)
  refine kd [(9, (.ref 4 0)), (10, (.ref 5 0))] [(4, some (bx (qH (A3.mk (A3.mk (jC (xY la lb lc ld)) (jC (zC la lb lc ld)) (jC (zI la lb lc ld))) (A3.mk (jC (xW la lb lc ld)) (jC (zD la lb lc ld)) (jC (zG la lb lc ld))) (A3.mk (jC (uK la lb lc ld)) (jC (uL la lb lc ld)) (jC (uO la lb lc ld))))))), (5, some (bx (qH (A3.mk (A3.mk (jC (xY ra rb rc rd)) (jC (zC ra rb rc rd)) (jC (zI ra rb rc rd))) (A3.mk (jC (xW ra rb rc rd)) (jC (zD ra rb rc rd)) (jC (zG ra rb rc rd))) (A3.mk (jC (uK ra rb rc rd)) (jC (uL ra rb rc rd)) (jC (uO ra rb rc rd)))))))] mo (wE (kO yA) <| wE (kO gU) <| wR (jZ yR) <| wE (jX (q_turn la lb lc ld (by omega) (by omega) (by omega) (by omega) hlq)) <| wE (jX (fR (xY la lb lc ld) (xW la lb lc ld) (uK la lb lc ld) (zC la lb lc ld) (zD la lb lc ld) (uL la lb lc ld) (zI la lb lc ld) (zG la lb lc ld) (uO la lb lc ld) (qu bn4) (qu bn5) (qu bn6) (qu bn7) (qu bn8) (qu bn9) (qu bn10) (qu bn11) (qu bn12))) <| wE (kO zY) <| wE (kO gU) <| wR (jZ yR) <| wE (jX (q_turn ra rb rc rd (by omega) (by omega) (by omega) (by omega) hrq)) <| wE (jX (fR (xY ra rb rc rd) (xW ra rb rc rd) (uK ra rb rc rd) (zC ra rb rc rd) (zD ra rb rc rd) (uL ra rb rc rd) (zI ra rb rc rd) (zG ra rb rc rd) (uO ra rb rc rd) (qu bn13) (qu bn14) (qu bn15) (qu bn16) (qu bn17) (qu bn18) (qu bn19) (qu bn20) (qu bn21))) <| wN (qP 4 dZ eC) <| wN (qP 5 dZ eC) <| wT (kU gS) <| wT (kU gS) <| wZ) ?_
  refine jA ?_
  have bn22 : QL (N4 ra rb rc rd) 3 := (jT (Eq.symm (show ((nq ra rb rc rd : Int) : Rat) = (N4 ra rb rc rd) from rfl)) (kQ (z := (nq ra rb rc rd)) (jP (by omega) (by omega)) (by decide)))
  have bn23 : QL (N4 la lb lc ld) 3 := (jT (Eq.symm (show ((nq la lb lc ld : Int) : Rat) = (N4 la lb lc ld) from rfl)) (kQ (z := (nq la lb lc ld)) (jP (by omega) (by omega)) (by decide)))
  have bn24 : QL (dC la lb lc ld ra rb rc rd) 13 := (jT (Eq.symm (dq0_eq la lb lc ld ra rb rc rd)) (uF (k := 13) (jI (k := 6) bn6 bn22 (by decide)) (jI (k := 6) bn15 bn23 (by decide)) (by decide)))
  have bn25 : QL (cY la lb lc ld ra rb rc rd) 13 := (jT (Eq.symm (dq1_eq la lb lc ld ra rb rc rd)) (uF (k := 13) (jI (k := 6) bn9 bn22 (by decide)) (jI (k := 6) bn18 bn23 (by decide)) (by decide)))
  have bn26 : QL (dA la lb lc ld ra rb rc rd) 13 := (jT (Eq.symm (dq2_eq la lb lc ld ra rb rc rd)) (uF (k := 13) (jI (k := 6) bn12 bn22 (by decide)) (jI (k := 6) bn21 bn23 (by decide)) (by decide)))
  refine kd [(11, (.ref 6 0))] [(6, some (bx (jN (A3.mk (jC (dC la lb lc ld ra rb rc rd)) (jC (cY la lb lc ld ra rb rc rd)) (jC (dA la lb lc ld ra rb rc rd))))))] mo (wE (vM xA 2) <| wR (jZ uQ) <| wE (kO zY) <| wE (kO gU) <| wR (jZ yR) <| wE (jX (q_norm ra rb rc rd (by omega) (by omega) (by omega) (by omega))) <| wE (jX (by have h := dM (nq ra rb rc rd) (by omega) (by omega); rw [(show ((nq ra rb rc rd : Int) : Rat) = (N4 ra rb rc rd) from rfl)] at h; exact h)) <| wE (jX (fO (uK la lb lc ld) (uL la lb lc ld) (uO la lb lc ld) (qu bn6) (qu bn9) (qu bn12) (N4 ra rb rc rd) (qu bn22))) <| wE (vM xA 2) <| wR (jZ uQ) <| wE (kO yA) <| wE (kO gU) <| wR (jZ yR) <| wE (jX (q_norm la lb lc ld (by omega) (by omega) (by omega) (by omega))) <| wE (jX (by have h := dM (nq la lb lc ld) (by omega) (by omega); rw [(show ((nq la lb lc ld : Int) : Rat) = (N4 la lb lc ld) from rfl)] at h; exact h)) <| wE (jX (fO (uK ra rb rc rd) (uL ra rb rc rd) (uO ra rb rc rd) (qu bn15) (qu bn18) (qu bn21) (N4 la lb lc ld) (qu bn23))) <| wE (jX (by have h := q_sum ((uK la lb lc ld) * (N4 ra rb rc rd)) ((uL la lb lc ld) * (N4 ra rb rc rd)) ((uO la lb lc ld) * (N4 ra rb rc rd)) (qS (jI (k := 6) bn6 bn22 (by decide)) (by decide)) (qS (jI (k := 6) bn9 bn22 (by decide)) (by decide)) (qS (jI (k := 6) bn12 bn22 (by decide)) (by decide)) ((uK ra rb rc rd) * (N4 la lb lc ld)) ((uL ra rb rc rd) * (N4 la lb lc ld)) ((uO ra rb rc rd) * (N4 la lb lc ld)) (qS (jI (k := 6) bn15 bn23 (by decide)) (by decide)) (qS (jI (k := 6) bn18 bn23 (by decide)) (by decide)) (qS (jI (k := 6) bn21 bn23 (by decide)) (by decide)); rw [(dq0_eq la lb lc ld ra rb rc rd), (dq1_eq la lb lc ld ra rb rc rd), (dq2_eq la lb lc ld ra rb rc rd)] at h; exact h)) <| wN (qP 6 nO nN) <| wT (kU uQ) <| wZ) ?_
  refine jA ?_
  have bn27 : QL e00 6 := (jT (Eq.symm he00) (jI (k := 6) bn1 (zU (n := 3) (k := 3) bn1 bn2 bn3 (by decide) (by decide)) (by decide)))
  have bn28 : QL e01 6 := (jT (Eq.symm he01) (jI (k := 6) bn2 (zU (n := 3) (k := 3) bn1 bn2 bn3 (by decide) (by decide)) (by decide)))
  have bn29 : QL e02 6 := (jT (Eq.symm he02) (jI (k := 6) bn3 (zU (n := 3) (k := 3) bn1 bn2 bn3 (by decide) (by decide)) (by decide)))
  refine kd [] [(1, some y1)] mo (wM <| wM <| wE oNc <| wE (kO fo134_2) <| wR (jZ uQ) <| wE (jX (by have h := q_red b0 b1 b2 (qu bn1) (qu bn2) (qu bn3) hzb; rw [he00, he01, he02] at h; exact h)) <| wE oNc <| wE (kO dI) <| wE (vM xA 0) <| wT (kU uQ) <| wZ) ?_
  refine jA ?_
  have bn30 : QL (((cY la lb lc ld ra rb rc rd) * e02) - ((dA la lb lc ld ra rb rc rd) * e01)) 39 := (uV (k := 39) (jI (k := 19) bn25 bn29 (by decide)) (jI (k := 19) bn26 bn28 (by decide)) (by decide))
  have bn31 : QL (((dA la lb lc ld ra rb rc rd) * e00) - ((dC la lb lc ld ra rb rc rd) * e02)) 39 := (uV (k := 39) (jI (k := 19) bn26 bn27 (by decide)) (jI (k := 19) bn24 bn29 (by decide)) (by decide))
  have bn32 : QL (((dC la lb lc ld ra rb rc rd) * e01) - ((cY la lb lc ld ra rb rc rd) * e00)) 39 := (uV (k := 39) (jI (k := 19) bn24 bn28 (by decide)) (jI (k := 19) bn25 bn27 (by decide)) (by decide))
  refine kd [(12, (.ref 7 0))] [(7, some y4)] mo (wR (jZ uQ) <| wM <| wE oNc <| wE (kO dI) <| wE (vM xA 0) <| wR (jZ uQ) <| wE (jX (q_cross (dC la lb lc ld ra rb rc rd) (cY la lb lc ld ra rb rc rd) (dA la lb lc ld ra rb rc rd) (qu bn24) (qu bn25) (qu bn26) e00 e01 e02 (qu bn27) (qu bn28) (qu bn29))) <| wN (qP 7 nO nN) <| wT (kU uQ) <| wZ) ?_
  refine jA <| jA <| kx [(103, (vb false))] [] (zR (jZ uQ) <| zE (qN false (jX (q_isz (((cY la lb lc ld ra rb rc rd) * e02) - ((dA la lb lc ld ra rb rc rd) * e01)) (((dA la lb lc ld ra rb rc rd) * e00) - ((dC la lb lc ld ra rb rc rd) * e02)) (((dC la lb lc ld ra rb rc rd) * e01) - ((cY la lb lc ld ra rb rc rd) * e00)) (qu bn30) (qu bn31) (qu bn32))) (by exact hzs)) <| zZ) ?_
  refine kG ?_
  refine jD <| jA <| kV (wk (l := [(6, (.ref 1 0)), (12, (.ref 7 0)), (103, (vb false))]) (b := [(1, some y1), (7, some y4)])) ?_
  have bn33 : QL e10 78 := (jT (Eq.symm he10) (jI (k := 78) bn30 (zU (n := 39) (k := 39) bn30 bn31 bn32 (by decide) (by decide)) (by decide)))
  have bn34 : QL e11 78 := (jT (Eq.symm he11) (jI (k := 78) bn31 (zU (n := 39) (k := 39) bn30 bn31 bn32 (by decide) (by decide)) (by decide)))
  have bn35 : QL e12 78 := (jT (Eq.symm he12) (jI (k := 78) bn32 (zU (n := 39) (k := 39) bn30 bn31 bn32 (by decide) (by decide)) (by decide)))
  refine kd [] [(1, some (bx (cU (RRp.mk (kH.mk (jL.mk lx ly lz) (jO.mk la lb lc ld) lf (kI.mk lu lv)) (kH.mk (jL.mk rx ry rz) (jO.mk ra rb rc rd) rf (kI.mk ru rv)) (A3.mk (jC b0) (jC b1) (jC b2)) (A3.mk (A3.mk (jC e00) (jC e01) (jC e02)) (A3.mk (jC e10) (jC e11) (jC e12)) y6)))))] mo (wM <| wR (jZ uQ) <| wE (jX (by have h := q_red (((cY la lb lc ld ra rb rc rd) * e02) - ((dA la lb lc ld ra rb rc rd) * e01)) (((dA la lb lc ld ra rb rc rd) * e00) - ((dC la lb lc ld ra rb rc rd) * e02)) (((dC la lb lc ld ra rb rc rd) * e01) - ((cY la lb lc ld ra rb rc rd) * e00)) (qu bn30) (qu bn31) (qu bn32) hzs; rw [he10, he11, he12] at h; exact h)) <| wE oNc <| wE (kO dI) <| wE (vM xA 1) <| wT (kU uQ) <| wZ) ?_
  refine jA ?_
  have bn36 : QL ((e01 * e12) - (e02 * e11)) 169 := (uV (k := 169) (jI (k := 84) bn28 bn35 (by decide)) (jI (k := 84) bn29 bn34 (by decide)) (by decide))
  have bn37 : QL ((e02 * e10) - (e00 * e12)) 169 := (uV (k := 169) (jI (k := 84) bn29 bn33 (by decide)) (jI (k := 84) bn27 bn35 (by decide)) (by decide))
  have bn38 : QL ((e00 * e11) - (e01 * e10)) 169 := (uV (k := 169) (jI (k := 84) bn27 bn34 (by decide)) (jI (k := 84) bn28 bn33 (by decide)) (by decide))
  have bn39 : QL e20 338 := (jT (Eq.symm he20) (jI (k := 338) bn36 (zU (n := 169) (k := 169) bn36 bn37 bn38 (by decide) (by decide)) (by decide)))
  have bn40 : QL e21 338 := (jT (Eq.symm he21) (jI (k := 338) bn37 (zU (n := 169) (k := 169) bn36 bn37 bn38 (by decide) (by decide)) (by decide)))
  have bn41 : QL e22 338 := (jT (Eq.symm he22) (jI (k := 338) bn38 (zU (n := 169) (k := 169) bn36 bn37 bn38 (by decide) (by decide)) (by decide)))
  refine kd [] [(1, some (bx y3))] mo (wM <| wM <| wE oNc <| wE (kO dI) <| wE (vM xA 0) <| wR (jZ uQ) <| wM <| wE oNc <| wE (kO dI) <| wE (vM xA 1) <| wR (jZ uQ) <| wE (jX (q_cross e00 e01 e02 (qu bn27) (qu bn28) (qu bn29) e10 e11 e12 (qu bn33) (qu bn34) (qu bn35))) <| wE (jX (by have h := q_red ((e01 * e12) - (e02 * e11)) ((e02 * e10) - (e00 * e12)) ((e00 * e11) - (e01 * e10)) (qu bn36) (qu bn37) (qu bn38) hzt; rw [he20, he21, he22] at h; exact h)) <| wE oNc <| wE (kO dI) <| wE (vM xA 2) <| wT (kU uQ) <| wZ) ?_
  refine jA <| kV (publishP (t := 6) (k := 1) (o := 0) (T := 1000001) (cs := (kY.cells y3)) rfl rfl) ?_
  refine kx [(2, (.d (.cptr 1000001 (kY.cells y3) 0))), (3, (kE 0))] [] (zM <| zM <| zM <| zZ) ?_
  refine jH ⟨_, (.tmp (d := (.cptr 1000001 (kY.cells (cU (RRp.mk (kH.mk (jL.mk lx ly lz) (jO.mk la lb lc ld) lf (kI.mk lu lv)) (kH.mk (jL.mk rx ry rz) (jO.mk ra rb rc rd) rf (kI.mk ru rv)) (A3.mk (jC b0) (jC b1) (jC b2)) (A3.mk (A3.mk (jC e00) (jC e01) (jC e02)) (A3.mk (jC e10) (jC e11) (jC e12)) (A3.mk (jC e20) (jC e21) (jC e22)))))) 0)) rfl (.tmp (d := (.val (.int .i64 (((0 : Nat) : Int))))) rfl .nil)), ?_⟩
  rfl
theorem qs_preE1 (lx ly lz la lb lc ld lf lu lv rx ry rz ra rb rc rd rf ru rv : Int) (c : Nat) (hc : stn2 (uP lx ly lz lu lv lf la lb lc ld) (uP rx ry rz ru rv rf ra rb rc rd) = c) (hc0 : c ≠ 0) : kD Tryz.prog 14 [(qA (kT.mk (kH.mk (jL.mk lx ly lz) (jO.mk la lb lc ld) lf (kI.mk lu lv)) (kH.mk (jL.mk rx ry rz) (jO.mk ra rb rc rd) rf (kI.mk ru rv))))] (.tup [(nH (RLp.mk (kT.mk (kH.mk (jL.mk lx ly lz) (jO.mk la lb lc ld) lf (kI.mk lu lv)) (kH.mk (jL.mk rx ry rz) (jO.mk ra rb rc rd) rf (kI.mk ru rv))) (A3.mk (jV.mk (jG.mk false []) (jG.mk false [])) (jV.mk (jG.mk false []) (jG.mk false [])) (jV.mk (jG.mk false []) (jG.mk false []))) (A3.mk (A3.mk (jV.mk (jG.mk false []) (jG.mk false [])) (jV.mk (jG.mk false []) (jG.mk false [])) (jV.mk (jG.mk false []) (jG.mk false []))) (A3.mk (jV.mk (jG.mk false []) (jG.mk false [])) (jV.mk (jG.mk false []) (jG.mk false [])) (jV.mk (jG.mk false []) (jG.mk false []))) (A3.mk (jV.mk (jG.mk false []) (jG.mk false [])) (jV.mk (jG.mk false []) (jG.mk false [])) (jV.mk (jG.mk false []) (jG.mk false [])))))), (.val (.int .i64 (((c : Nat) : Int))))]) := by
 let y4 := (A3.mk (jV.mk (jG.mk false []) (jG.mk false [])) (jV.mk (jG.mk false []) (jG.mk false [])) (jV.mk (jG.mk false []) (jG.mk false [])))
 let y3 := (qA (kT.mk (kH.mk (jL.mk lx ly lz) (jO.mk la lb lc ld) lf (kI.mk lu lv)) (kH.mk (jL.mk rx ry rz) (jO.mk ra rb rc rd) rf (kI.mk ru rv))))
 let y2 := (A3.mk y4 y4 y4)
 let y1 := (bx (nH (RLp.mk (kT.mk (kH.mk (jL.mk lx ly lz) (jO.mk la lb lc ld) lf (kI.mk lu lv)) (kH.mk (jL.mk rx ry rz) (jO.mk ra rb rc rd) rf (kI.mk ru rv))) y4 y2)))
 refine jK Tryz.func14 rfl cb14 rfl ?_
 show uY _ _ _ _ ⟨[(0, (.d y3))], []⟩
 refine jA <| kx [(1, (.ref 0 0)), (2, (.ref 1 0))] [(0, some (bx y3)), (1, some (bx (nH (RLp.mk (kT.mk (kH.mk (jL.mk 0 0 0) (jO.mk 0 0 0 0) 0 (kI.mk 0 0)) (kH.mk (jL.mk 0 0 0) (jO.mk 0 0 0 0) 0 (kI.mk 0 0))) y4 y2))))] (zN (vN 0) <| zN (qP 1 fL fX) <| zM <| zZ) ?_
 refine jA <| kx [(4, (.ref 2 0))] [(2, some y1)] (zR (jZ mE) <| zE (oBd pl47 fL fX) <| zN (qP 2 fL fX) <| zT (kU cV) <| zZ) ?_
 refine jA <| jA <| kx [(19, (vl 29 10 uX [(kH.mk (jL.mk lx ly lz) (jO.mk la lb lc ld) lf (kI.mk lu lv)), (kH.mk (jL.mk rx ry rz) (jO.mk ra rb rc rd) rf (kI.mk ru rv))])), (20, (kE 2)), (21, (kE 0))] [] (zE (kO yA) <| zR (jZ vK) <| zE (kO zY) <| zR (jZ vK) <| zE (nM el140 ze29 zo29) <| zE (oLn el140 2) <| zM <| zZ) ?_
 refine jE <| kW 20 ?_
 refine qC <| jA <| kx [(22, (vb true))] [] (zE (qN true qM) <| zZ) ?_
 refine jA <| jY ?_
 refine jD <| jA <| jE <| jA <| kx [(6, (.ref 3 0))] [(3, some (bx (uX (kH.mk (jL.mk lx ly lz) (jO.mk la lb lc ld) lf (kI.mk lu lv)))))] (zE (zS el140 0) <| zE (eD vK) <| zN (qP 3 ze29 zo29) <| zT (kU vK) <| zZ) ?_
 refine jA <| kx [(7, (kE (uP lx ly lz lu lv lf la lb lc ld)))] [] (zR (jZ vK) <| zE (jX (qs_stn lx ly lz la lb lc ld lf lu lv)) <| zM <| zZ) ?_
 refine jA <| kx [(28, (vb ((((uP lx ly lz lu lv lf la lb lc ld) : Nat) : Int) != ((0 : Nat) : Int))))] [] (zM <| zE dL <| zZ) ?_
 refine jS rfl (fun h1 => ?_) (fun h1 => ?_)
 ·replace h1 := bne_iff_ne.1 h1
  refine jA <| kx [(3, (kE (uP lx ly lz lu lv lf la lb lc ld)))] [(1, some y1)] (zR (jZ cV) <| zM <| zT (kU cV) <| zM <| zZ) ?_
  refine jH ⟨_, (kZ (cs := (bx (nH (RLp.mk (kT.mk (kH.mk (jL.mk lx ly lz) (jO.mk la lb lc ld) lf (kI.mk lu lv)) (kH.mk (jL.mk rx ry rz) (jO.mk ra rb rc rd) rf (kI.mk ru rv))) (A3.mk (jV.mk (jG.mk false []) (jG.mk false [])) (jV.mk (jG.mk false []) (jG.mk false [])) (jV.mk (jG.mk false []) (jG.mk false []))) (A3.mk (A3.mk (jV.mk (jG.mk false []) (jG.mk false [])) (jV.mk (jG.mk false []) (jG.mk false [])) (jV.mk (jG.mk false []) (jG.mk false []))) (A3.mk (jV.mk (jG.mk false []) (jG.mk false [])) (jV.mk (jG.mk false []) (jG.mk false [])) (jV.mk (jG.mk false []) (jG.mk false []))) (A3.mk (jV.mk (jG.mk false []) (jG.mk false [])) (jV.mk (jG.mk false []) (jG.mk false [])) (jV.mk (jG.mk false []) (jG.mk false [])))))))) (d := (nH (RLp.mk (kT.mk (kH.mk (jL.mk lx ly lz) (jO.mk la lb lc ld) lf (kI.mk lu lv)) (kH.mk (jL.mk rx ry rz) (jO.mk ra rb rc rd) rf (kI.mk ru rv))) (A3.mk (jV.mk (jG.mk false []) (jG.mk false [])) (jV.mk (jG.mk false []) (jG.mk false [])) (jV.mk (jG.mk false []) (jG.mk false []))) (A3.mk (A3.mk (jV.mk (jG.mk false []) (jG.mk false [])) (jV.mk (jG.mk false []) (jG.mk false [])) (jV.mk (jG.mk false []) (jG.mk false []))) (A3.mk (jV.mk (jG.mk false []) (jG.mk false [])) (jV.mk (jG.mk false []) (jG.mk false [])) (jV.mk (jG.mk false []) (jG.mk false []))) (A3.mk (jV.mk (jG.mk false []) (jG.mk false [])) (jV.mk (jG.mk false []) (jG.mk false [])) (jV.mk (jG.mk false []) (jG.mk false []))))))) rfl rfl cV rfl rfl (.tmp (d := (.val (.int .i64 ((((uP lx ly lz lu lv lf la lb lc ld) : Nat) : Int))))) rfl .nil)), ?_⟩
  rw [stn2_l h1 hc]; rfl
 ·replace h1 := bne_eq_false_iff_eq.1 h1
  refine jD <| kx [(21, (kE 1))] [] (zE (uI 1 (hr := by decide)) <| zM <| zZ) ?_
  refine jJ (jW.refl _) ?_
  refine jA <| kx [(22, (vb true))] [] (zE (qN true qM) <| zZ) ?_
  refine jA <| jY ?_
  refine jD <| jA <| jE <| jA <| kx [(6, (.ref 4 0))] [(4, some (bx (uX (kH.mk (jL.mk rx ry rz) (jO.mk ra rb rc rd) rf (kI.mk ru rv)))))] (zE (zS el140 1) <| zE (eD vK) <| zN (qP 4 ze29 zo29) <| zT (kU vK) <| zZ) ?_
  refine jA <| kx [(7, (kE (uP rx ry rz ru rv rf ra rb rc rd)))] [] (zR (jZ vK) <| zE (jX (qs_stn rx ry rz ra rb rc rd rf ru rv)) <| zM <| zZ) ?_
  refine jA <| kx [(28, (vb ((((uP rx ry rz ru rv rf ra rb rc rd) : Nat) : Int) != ((0 : Nat) : Int))))] [] (zM <| zE dL <| zZ) ?_
  refine jS rfl (fun h2 => ?_) (fun h2 => ?_)
  ·replace h2 := bne_iff_ne.1 h2
   refine jA <| kx [(3, (kE (uP rx ry rz ru rv rf ra rb rc rd)))] [(1, some y1)] (zR (jZ cV) <| zM <| zT (kU cV) <| zM <| zZ) ?_
   refine jH ⟨_, (kZ (cs := (bx (nH (RLp.mk (kT.mk (kH.mk (jL.mk lx ly lz) (jO.mk la lb lc ld) lf (kI.mk lu lv)) (kH.mk (jL.mk rx ry rz) (jO.mk ra rb rc rd) rf (kI.mk ru rv))) (A3.mk (jV.mk (jG.mk false []) (jG.mk false [])) (jV.mk (jG.mk false []) (jG.mk false [])) (jV.mk (jG.mk false []) (jG.mk false []))) (A3.mk (A3.mk (jV.mk (jG.mk false []) (jG.mk false [])) (jV.mk (jG.mk false []) (jG.mk false [])) (jV.mk (jG.mk false []) (jG.mk false []))) (A3.mk (jV.mk (jG.mk false []) (jG.mk false [])) (jV.mk (jG.mk false []) (jG.mk false [])) (jV.mk (jG.mk false []) (jG.mk false []))) (A3.mk (jV.mk (jG.mk false []) (jG.mk false [])) (jV.mk (jG.mk false []) (jG.mk false [])) (jV.mk (jG.mk false []) (jG.mk false [])))))))) (d := (nH (RLp.mk (kT.mk (kH.mk (jL.mk lx ly lz) (jO.mk la lb lc ld) lf (kI.mk lu lv)) (kH.mk (jL.mk rx ry rz) (jO.mk ra rb rc rd) rf (kI.mk ru rv))) (A3.mk (jV.mk (jG.mk false []) (jG.mk false [])) (jV.mk (jG.mk false []) (jG.mk false [])) (jV.mk (jG.mk false []) (jG.mk false []))) (A3.mk (A3.mk (jV.mk (jG.mk false []) (jG.mk false [])) (jV.mk (jG.mk false []) (jG.mk false [])) (jV.mk (jG.mk false []) (jG.mk false []))) (A3.mk (jV.mk (jG.mk false []) (jG.mk false [])) (jV.mk (jG.mk false []) (jG.mk false [])) (jV.mk (jG.mk false []) (jG.mk false []))) (A3.mk (jV.mk (jG.mk false []) (jG.mk false [])) (jV.mk (jG.mk false []) (jG.mk false [])) (jV.mk (jG.mk false []) (jG.mk false []))))))) rfl rfl cV rfl rfl (.tmp (d := (.val (.int .i64 ((((uP rx ry rz ru rv rf ra rb rc rd) : Nat) : Int))))) rfl .nil)), ?_⟩
   rw [stn2_r h1 hc]; rfl
  ·replace h2 := bne_eq_false_iff_eq.1 h2
   exact absurd (stn2_0 (by simpa using h1) (by simpa using h2) hc) hc0
theorem qs_preE2 (lx ly lz la lb lc ld lf lu lv rx ry rz ra rb rc rd rf ru rv : Int) (b0 b1 b2 : Rat) (vJ : QL b0 3) (vH : QL b1 3) (vI : QL b2 3) (hl : uP lx ly lz lu lv lf la lb lc ld = 0) (hr : uP rx ry rz ru rv rf ra rb rc rd = 0) (hb0 : ((rx - lx : Int) : Rat) = b0) (hb1 : ((ry - ly : Int) : Rat) = b1) (hb2 : ((rz - lz : Int) : Rat) = b2) (hup : upV la lb lc ld ra rb rc rd b0 b1 b2 = true) : kD Tryz.prog 14 [(qA (kT.mk (kH.mk (jL.mk lx ly lz) (jO.mk la lb lc ld) lf (kI.mk lu lv)) (kH.mk (jL.mk rx ry rz) (jO.mk ra rb rc rd) rf (kI.mk ru rv))))] (.tup [(nH (RLp.mk (kT.mk (kH.mk (jL.mk lx ly lz) (jO.mk la lb lc ld) lf (kI.mk lu lv)) (kH.mk (jL.mk rx ry rz) (jO.mk ra rb rc rd) rf (kI.mk ru rv))) (A3.mk (jC b0) (jC b1) (jC b2)) (A3.mk (A3.mk (jV.mk (jG.mk false []) (jG.mk false [])) (jV.mk (jG.mk false []) (jG.mk false [])) (jV.mk (jG.mk false []) (jG.mk false []))) (A3.mk (jV.mk (jG.mk false []) (jG.mk false [])) (jV.mk (jG.mk false []) (jG.mk false [])) (jV.mk (jG.mk false []) (jG.mk false []))) (A3.mk (jV.mk (jG.mk false []) (jG.mk false [])) (jV.mk (jG.mk false []) (jG.mk false [])) (jV.mk (jG.mk false []) (jG.mk false [])))))), (.val (.int .i64 (13)))]) := by
 have hbl := uS hl
 have hbr := uS hr
 obtain ⟨hlx, hly, hlz, hlu, hlv, hlf, hlq⟩ := hbl
 obtain ⟨hrx, hry, hrz, hru, hrv, hrf, hrq⟩ := hbr
 obtain ⟨hla, hlb, hlc, hld, -⟩ := uW hlq
 obtain ⟨hra, hrb, hrc, hrd, -⟩ := uW hrq
 have hnl := yN hla hlb hlc hld
 have hnr := yN hra hrb hrc hrd
 let y7 := (A3.mk (jV.mk (jG.mk false []) (jG.mk false [])) (jV.mk (jG.mk false []) (jG.mk false [])) (jV.mk (jG.mk false []) (jG.mk false [])))
 let y6 := (qA (kT.mk (kH.mk (jL.mk lx ly lz) (jO.mk la lb lc ld) lf (kI.mk lu lv)) (kH.mk (jL.mk rx ry rz) (jO.mk ra rb rc rd) rf (kI.mk ru rv))))
 let y5 := (bx y6)
 let y4 := (A3.mk y7 y7 y7)
 let y3 := (bx (nH (RLp.mk (kT.mk (kH.mk (jL.mk lx ly lz) (jO.mk la lb lc ld) lf (kI.mk lu lv)) (kH.mk (jL.mk rx ry rz) (jO.mk ra rb rc rd) rf (kI.mk ru rv))) (A3.mk (jC b0) (jC b1) (jC b2)) y4)))
 let y2 := (bx (nH (RLp.mk (kT.mk (kH.mk (jL.mk 0 0 0) (jO.mk 0 0 0 0) 0 (kI.mk 0 0)) (kH.mk (jL.mk 0 0 0) (jO.mk 0 0 0 0) 0 (kI.mk 0 0))) y7 y4)))
 let y1 := (bx (nH (RLp.mk (kT.mk (kH.mk (jL.mk lx ly lz) (jO.mk la lb lc ld) lf (kI.mk lu lv)) (kH.mk (jL.mk rx ry rz) (jO.mk ra rb rc rd) rf (kI.mk ru rv))) y7 y4)))
 refine jK Tryz.func14 rfl cb14 rfl ?_
 show uY _ _ _ _ ⟨[(0, (.d y6))], []⟩
 refine jA <| kx [(1, (.ref 0 0)), (2, (.ref 1 0))] [(0, some y5), (1, some y2)] (zN (vN 0) <| zN (qP 1 fL fX) <| zM <| zZ) ?_
 refine jA <| kx [(4, (.ref 2 0))] [(2, some y1)] (zR (jZ mE) <| zE (oBd pl47 fL fX) <| zN (qP 2 fL fX) <| zT (kU cV) <| zZ) ?_
 refine jA <| jA <| kx [(19, (vl 29 10 uX [(kH.mk (jL.mk lx ly lz) (jO.mk la lb lc ld) lf (kI.mk lu lv)), (kH.mk (jL.mk rx ry rz) (jO.mk ra rb rc rd) rf (kI.mk ru rv))])), (20, (kE 2)), (21, (kE 0))] [] (zE (kO yA) <| zR (jZ vK) <| zE (kO zY) <| zR (jZ vK) <| zE (nM el140 ze29 zo29) <| zE (oLn el140 2) <| zM <| zZ) ?_
 refine jE <| kW 20 ?_
 refine qC <| jA <| kx [(22, (vb true))] [] (zE (qN true qM) <| zZ) ?_
 refine jA <| jY ?_
 refine jD <| jA <| jE <| jA <| kx [(6, (.ref 3 0))] [(3, some (bx (uX (kH.mk (jL.mk lx ly lz) (jO.mk la lb lc ld) lf (kI.mk lu lv)))))] (zE (zS el140 0) <| zE (eD vK) <| zN (qP 3 ze29 zo29) <| zT (kU vK) <| zZ) ?_
 refine jA <| kx [(7, (kE (uP lx ly lz lu lv lf la lb lc ld)))] [] (zR (jZ vK) <| zE (jX (qs_stn lx ly lz la lb lc ld lf lu lv)) <| zM <| zZ) ?_
 refine jA <| kx [(28, (vb false))] [] (zM <| zE (qN false dL (by exact bne_eq_false_iff_eq.2 (by rw [show (uP lx ly lz lu lv lf la lb lc ld) = 0 from hl]; rfl))) <| zZ) ?_
 refine kG ?_
 refine jD <| kx [(21, (kE 1))] [] (zE (uI 1 (hr := by decide)) <| zM <| zZ) ?_
 refine jJ (jW.refl _) ?_
 refine jA <| kx [(22, (vb true))] [] (zE (qN true qM) <| zZ) ?_
 refine jA <| jY ?_
 refine jD <| jA <| jE <| jA <| kx [(6, (.ref 4 0))] [(4, some (bx (uX (kH.mk (jL.mk rx ry rz) (jO.mk ra rb rc rd) rf (kI.mk ru rv)))))] (zE (zS el140 1) <| zE (eD vK) <| zN (qP 4 ze29 zo29) <| zT (kU vK) <| zZ) ?_
 refine jA <| kx [(7, (kE (uP rx ry rz ru rv rf ra rb rc rd)))] [] (zR (jZ vK) <| zE (jX (qs_stn rx ry rz ra rb rc rd rf ru rv)) <| zM <| zZ) ?_
 refine jA <| kx [(28, (vb false))] [] (zM <| zE (qN false dL (by exact bne_eq_false_iff_eq.2 (by rw [show (uP rx ry rz ru rv rf ra rb rc rd) = 0 from hr]; rfl))) <| zZ) ?_
 refine kG ?_
 refine jD <| kx [(21, (kE 2))] [] (zE (uI 2 (hr := by decide)) <| zM <| zZ) ?_
 refine jJ (jW.refl _) ?_
 refine jA <| kx [(22, (vb false))] [] (zE (qN false qM) <| zZ) ?_
 refine jA <| kG ?_
 refine kK <| jA <| kV (wk (l := [(1, (.ref 0 0)), (2, (.ref 1 0)), (4, (.ref 2 0)), (19, (vl 29 10 uX [(kH.mk (jL.mk lx ly lz) (jO.mk la lb lc ld) lf (kI.mk lu lv)), (kH.mk (jL.mk rx ry rz) (jO.mk ra rb rc rd) rf (kI.mk ru rv))])), (20, (kE 2)), (21, (kE 2)), (22, (vb false))]) (b := [(0, some y5), (1, some y2), (2, some y1)])) ?_
 refine kd [(8, (.ref 5 0)), (9, (.ref 6 0))] [(5, some (bx (uX (kH.mk (jL.mk lx ly lz) (jO.mk la lb lc ld) lf (kI.mk lu lv))))), (6, some (bx (uX (kH.mk (jL.mk rx ry rz) (jO.mk ra rb rc rd) rf (kI.mk ru rv)))))] mo (wE (kO yA) <| wR (jZ vK) <| wE (kO zY) <| wR (jZ vK) <| wN (qP 5 ze29 zo29) <| wN (qP 6 ze29 zo29) <| wT (kU vK) <| wT (kU vK) <| wZ) ?_
 refine jA ?_
 have bn1 : QL b0 3 := (jT (Eq.symm hb0) (qi (rx - lx)))
 have bn2 : QL b1 3 := (jT (Eq.symm hb1) (qi (ry - ly)))
 have bn3 : QL b2 3 := (jT (Eq.symm hb2) (qi (rz - lz)))
 refine kx [] [(2, some y3)] (zE (kO yC) <| zE (kO yB) <| zR (uM uH) <| zE (kO yC) <| zE (kO yB) <| zR (uM uH) <| zE (dJ (rx - lx) (hr := by exact (qG rfl (by simp only [vY]; omega) (by simp only [vZ]; omega)))) <| zE (kO yC) <| zE (kO yK) <| zR (uM uH) <| zE (kO yC) <| zE (kO yK) <| zR (uM uH) <| zE (dJ (ry - ly) (hr := by exact (qG rfl (by simp only [vY]; omega) (by simp only [vZ]; omega)))) <| zE (kO yC) <| zE (kO yL) <| zR (uM uH) <| zE (kO yC) <| zE (kO yL) <| zR (uM uH) <| zE (dJ (rz - lz) (hr := by exact (qG rfl (by simp only [vY]; omega) (by simp only [vZ]; omega)))) <| zE (jX (by have h := qs_whole (rx - lx) (by omega) (by omega) (ry - ly) (by omega) (by omega) (rz - lz) (by omega) (by omega); rw [hb0, hb1, hb2] at h; exact h)) <| zE (kO fo47_1) <| zT (kU xJ) <| zZ) ?_
 refine jA ?_
 have bn4 : QL ((0 : Int) : Rat) 3 := (qi 0)
 have bn5 : QL ((1 : Int) : Rat) 3 := (qi 1)
 refine kx [(10, (.ref 7 0))] [(7, some (bx (jN (A3.mk (jC ((0 : Int) : Rat)) (jC ((0 : Int) : Rat)) (jC ((1 : Int) : Rat))))))] (zE (jX (qs_whole ((0 : Nat) : Int) (by omega) (by omega) ((0 : Nat) : Int) (by omega) (by omega) ((1 : Nat) : Int) (by omega) (by omega))) <| zN (qP 7 fN fP) <| zT (kU xJ) <| zZ) ?_
 refine jA ?_
 have bn6 : QL (xY la lb lc ld) 3 := (eZ)
 have bn7 : QL (xW la lb lc ld) 3 := (fC)
 have bn8 : QL (uK la lb lc ld) 3 := (mG)
 have bn9 : QL (zC la lb lc ld) 3 := (eW)
 have bn10 : QL (zD la lb lc ld) 3 := (fF)
 have bn11 : QL (uL la lb lc ld) 3 := (mT)
 have bn12 : QL (zI la lb lc ld) 3 := (fD)
 have bn13 : QL (zG la lb lc ld) 3 := (eX)
 have bn14 : QL (uO la lb lc ld) 3 := (mS)
 have bn15 : QL (uK la lb lc ld) 20 := (jT (Eq.symm (vW (xY la lb lc ld) (xW la lb lc ld) (uK la lb lc ld))) (jQ (n := 3) (k := 20) bn6 bn7 bn8 bn4 bn4 bn5 (by decide)))
 have bn16 : QL (uL la lb lc ld) 20 := (jT (Eq.symm (vW (zC la lb lc ld) (zD la lb lc ld) (uL la lb lc ld))) (jQ (n := 3) (k := 20) bn9 bn10 bn11 bn4 bn4 bn5 (by decide)))
 have bn17 : QL (uO la lb lc ld) 20 := (jT (Eq.symm (vW (zI la lb lc ld) (zG la lb lc ld) (uO la lb lc ld))) (jQ (n := 3) (k := 20) bn12 bn13 bn14 bn4 bn4 bn5 (by decide)))
 have bn18 : QL (N4 ra rb rc rd) 3 := (kN4)
 have bn19 : QL (xY ra rb rc rd) 3 := (eZ)
 have bn20 : QL (xW ra rb rc rd) 3 := (fC)
 have bn21 : QL (uK ra rb rc rd) 3 := (mG)
 have bn22 : QL (zC ra rb rc rd) 3 := (eW)
 have bn23 : QL (zD ra rb rc rd) 3 := (fF)
 have bn24 : QL (uL ra rb rc rd) 3 := (mT)
 have bn25 : QL (zI ra rb rc rd) 3 := (fD)
 have bn26 : QL (zG ra rb rc rd) 3 := (eX)
 have bn27 : QL (uO ra rb rc rd) 3 := (mS)
 have bn28 : QL (uK ra rb rc rd) 20 := (jT (Eq.symm (vW (xY ra rb rc rd) (xW ra rb rc rd) (uK ra rb rc rd))) (jQ (n := 3) (k := 20) bn19 bn20 bn21 bn4 bn4 bn5 (by decide)))
 have bn29 : QL (uL ra rb rc rd) 20 := (jT (Eq.symm (vW (zC ra rb rc rd) (zD ra rb rc rd) (uL ra rb rc rd))) (jQ (n := 3) (k := 20) bn22 bn23 bn24 bn4 bn4 bn5 (by decide)))
 have bn30 : QL (uO ra rb rc rd) 20 := (jT (Eq.symm (vW (zI ra rb rc rd) (zG ra rb rc rd) (uO ra rb rc rd))) (jQ (n := 3) (k := 20) bn25 bn26 bn27 bn4 bn4 bn5 (by decide)))
 have bn31 : QL (N4 la lb lc ld) 3 := (kN4)
 have bn32 : QL (dC la lb lc ld ra rb rc rd) 47 := (jT (Eq.symm (dq0_eq la lb lc ld ra rb rc rd)) (uF (k := 47) (jI (k := 23) bn15 bn18 (by decide)) (jI (k := 23) bn28 bn31 (by decide)) (by decide)))
 have bn33 : QL (cY la lb lc ld ra rb rc rd) 47 := (jT (Eq.symm (dq1_eq la lb lc ld ra rb rc rd)) (uF (k := 47) (jI (k := 23) bn16 bn18 (by decide)) (jI (k := 23) bn29 bn31 (by decide)) (by decide)))
 have bn34 : QL (dA la lb lc ld ra rb rc rd) 47 := (jT (Eq.symm (dq2_eq la lb lc ld ra rb rc rd)) (uF (k := 47) (jI (k := 23) bn17 bn18 (by decide)) (jI (k := 23) bn30 bn31 (by decide)) (by decide)))
 refine kd [(11, (.ref 8 0))] [(8, some (bx (jN (A3.mk (jC (dC la lb lc ld ra rb rc rd)) (jC (cY la lb lc ld ra rb rc rd)) (jC (dA la lb lc ld ra rb rc rd))))))] mo (wE (kO gU) <| wR (jZ yR) <| wE (jX (qs_mat la lb lc ld (by omega) (by omega) (by omega) (by omega) hlq)) <| wR (jZ xJ) <| wE (jX (by have h := qs_turned (xY la lb lc ld) (xW la lb lc ld) (uK la lb lc ld) (zC la lb lc ld) (zD la lb lc ld) (uL la lb lc ld) (zI la lb lc ld) (zG la lb lc ld) (uO la lb lc ld) (qu bn6) (qu bn7) (qu bn8) (qu bn9) (qu bn10) (qu bn11) (qu bn12) (qu bn13) (qu bn14) ((0 : Int) : Rat) ((0 : Int) : Rat) ((1 : Int) : Rat) (qu bn4) (qu bn4) (qu bn5); rw [(vW (xY la lb lc ld) (xW la lb lc ld) (uK la lb lc ld)), (vW (zC la lb lc ld) (zD la lb lc ld) (uL la lb lc ld)), (vW (zI la lb lc ld) (zG la lb lc ld) (uO la lb lc ld))] at h; exact h)) <| wE (kO gU) <| wR (jZ yR) <| wE (jX (aP ra rb rc rd (by omega) (by omega) (by omega) (by omega))) <| wE (jX (gP (uK la lb lc ld) (uL la lb lc ld) (uO la lb lc ld) (qu bn15) (qu bn16) (qu bn17) (N4 ra rb rc rd) (qu bn18))) <| wE (kO gU) <| wR (jZ yR) <| wE (jX (qs_mat ra rb rc rd (by omega) (by omega) (by omega) (by omega) hrq)) <| wR (jZ xJ) <| wE (jX (by have h := qs_turned (xY ra rb rc rd) (xW ra rb rc rd) (uK ra rb rc rd) (zC ra rb rc rd) (zD ra rb rc rd) (uL ra rb rc rd) (zI ra rb rc rd) (zG ra rb rc rd) (uO ra rb rc rd) (qu bn19) (qu bn20) (qu bn21) (qu bn22) (qu bn23) (qu bn24) (qu bn25) (qu bn26) (qu bn27) ((0 : Int) : Rat) ((0 : Int) : Rat) ((1 : Int) : Rat) (qu bn4) (qu bn4) (qu bn5); rw [(vW (xY ra rb rc rd) (xW ra rb rc rd) (uK ra rb rc rd)), (vW (zC ra rb rc rd) (zD ra rb rc rd) (uL ra rb rc rd)), (vW (zI ra rb rc rd) (zG ra rb rc rd) (uO ra rb rc rd))] at h; exact h)) <| wE (kO gU) <| wR (jZ yR) <| wE (jX (aP la lb lc ld (by omega) (by omega) (by omega) (by omega))) <| wE (jX (gP (uK ra rb rc rd) (uL ra rb rc rd) (uO ra rb rc rd) (qu bn28) (qu bn29) (qu bn30) (N4 la lb lc ld) (qu bn31))) <| wE (jX (by have h := qs_sum ((uK la lb lc ld) * (N4 ra rb rc rd)) ((uL la lb lc ld) * (N4 ra rb rc rd)) ((uO la lb lc ld) * (N4 ra rb rc rd)) (qS (jI (k := 23) bn15 bn18 (by decide)) (by decide)) (qS (jI (k := 23) bn16 bn18 (by decide)) (by decide)) (qS (jI (k := 23) bn17 bn18 (by decide)) (by decide)) ((uK ra rb rc rd) * (N4 la lb lc ld)) ((uL ra rb rc rd) * (N4 la lb lc ld)) ((uO ra rb rc rd) * (N4 la lb lc ld)) (qS (jI (k := 23) bn28 bn31 (by decide)) (by decide)) (qS (jI (k := 23) bn29 bn31 (by decide)) (by decide)) (qS (jI (k := 23) bn30 bn31 (by decide)) (by decide)); rw [(dq0_eq la lb lc ld ra rb rc rd), (dq1_eq la lb lc ld ra rb rc rd), (dq2_eq la lb lc ld ra rb rc rd)] at h; exact h)) <| wN (qP 8 fN fP) <| wT (kU xJ) <| wZ) ?_
 refine jA ?_
 have bn35 : QL (((cY la lb lc ld ra rb rc rd) * b2) - ((dA la lb lc ld ra rb rc rd) * b1)) 101 := (uV (k := 101) (jI (k := 50) bn33 bn3 (by decide)) (jI (k := 50) bn34 bn2 (by decide)) (by decide))
 have bn36 : QL (((dA la lb lc ld ra rb rc rd) * b0) - ((dC la lb lc ld ra rb rc rd) * b2)) 101 := (uV (k := 101) (jI (k := 50) bn34 bn1 (by decide)) (jI (k := 50) bn32 bn3 (by decide)) (by decide))
 have bn37 : QL (((dC la lb lc ld ra rb rc rd) * b1) - ((cY la lb lc ld ra rb rc rd) * b0)) 101 := (uV (k := 101) (jI (k := 50) bn32 bn2 (by decide)) (jI (k := 50) bn33 bn1 (by decide)) (by decide))
 refine kx [(12, (.ref 9 0))] [(9, some (bx (jN (A3.mk (jC (((cY la lb lc ld ra rb rc rd) * b2) - ((dA la lb lc ld ra rb rc rd) * b1))) (jC (((dA la lb lc ld ra rb rc rd) * b0) - ((dC la lb lc ld ra rb rc rd) * b2))) (jC (((dC la lb lc ld ra rb rc rd) * b1) - ((cY la lb lc ld ra rb rc rd) * b0)))))))] (zR (jZ xJ) <| zE (kO fo47_1) <| zR (jZ xJ) <| zE (jX (qs_cross (dC la lb lc ld ra rb rc rd) (cY la lb lc ld ra rb rc rd) (dA la lb lc ld ra rb rc rd) (qu bn32) (qu bn33) (qu bn34) b0 b1 b2 (qu bn1) (qu bn2) (qu bn3))) <| zN (qP 9 fN fP) <| zT (kU xJ) <| zZ) ?_
 refine jA <| jA <| kx [(84, (vb true))] [] (zR (jZ xJ) <| zE (qN true (jX (qs_zero (((cY la lb lc ld ra rb rc rd) * b2) - ((dA la lb lc ld ra rb rc rd) * b1)) (((dA la lb lc ld ra rb rc rd) * b0) - ((dC la lb lc ld ra rb rc rd) * b2)) (((dC la lb lc ld ra rb rc rd) * b1) - ((cY la lb lc ld ra rb rc rd) * b0)) (qu bn35) (qu bn36) (qu bn37))) (by exact hup)) <| zZ) ?_
 refine jY ?_
 refine jA <| kx [(3, (kE 13))] [(1, some y3)] (zR (jZ cV) <| zT (kU cV) <| zM <| zZ) ?_
 refine jH ⟨_, (kZ (cs := (bx (nH (RLp.mk (kT.mk (kH.mk (jL.mk lx ly lz) (jO.mk la lb lc ld) lf (kI.mk lu lv)) (kH.mk (jL.mk rx ry rz) (jO.mk ra rb rc rd) rf (kI.mk ru rv))) (A3.mk (jC b0) (jC b1) (jC b2)) (A3.mk (A3.mk (jV.mk (jG.mk false []) (jG.mk false [])) (jV.mk (jG.mk false []) (jG.mk false [])) (jV.mk (jG.mk false []) (jG.mk false []))) (A3.mk (jV.mk (jG.mk false []) (jG.mk false [])) (jV.mk (jG.mk false []) (jG.mk false [])) (jV.mk (jG.mk false []) (jG.mk false []))) (A3.mk (jV.mk (jG.mk false []) (jG.mk false [])) (jV.mk (jG.mk false []) (jG.mk false [])) (jV.mk (jG.mk false []) (jG.mk false [])))))))) (d := (nH (RLp.mk (kT.mk (kH.mk (jL.mk lx ly lz) (jO.mk la lb lc ld) lf (kI.mk lu lv)) (kH.mk (jL.mk rx ry rz) (jO.mk ra rb rc rd) rf (kI.mk ru rv))) (A3.mk (jC b0) (jC b1) (jC b2)) (A3.mk (A3.mk (jV.mk (jG.mk false []) (jG.mk false [])) (jV.mk (jG.mk false []) (jG.mk false [])) (jV.mk (jG.mk false []) (jG.mk false []))) (A3.mk (jV.mk (jG.mk false []) (jG.mk false [])) (jV.mk (jG.mk false []) (jG.mk false [])) (jV.mk (jG.mk false []) (jG.mk false []))) (A3.mk (jV.mk (jG.mk false []) (jG.mk false [])) (jV.mk (jG.mk false []) (jG.mk false [])) (jV.mk (jG.mk false []) (jG.mk false []))))))) rfl rfl cV rfl rfl (.tmp (d := (.val (.int .i64 (((13 : Nat) : Int))))) rfl .nil)), ?_⟩
 rfl
theorem aH (lx ly lz la lb lc ld lf lu lv rx ry rz ra rb rc rd rf ru rv : Int) (b0 b1 b2 e00 e01 e02 e10 e11 e12 e20 e21 e22 : Rat) (hF : RFr lx ly lz la lb lc ld rx ry rz ra rb rc rd b0 b1 b2 e00 e01 e02 e10 e11 e12 e20 e21 e22) (vJ : QL b0 3) (vH : QL b1 3) (vI : QL b2 3) (qV : QL e00 400) (qW : QL e01 400) (qU : QL e02 400) (uC : QL e10 400) (uE : QL e11 400) (uD : QL e12 400) (qJ : QL e20 400) (qI : QL e21 400) (qK : QL e22 400) (hl : uP lx ly lz lu lv lf la lb lc ld = 0) (hr : uP rx ry rz ru rv rf ra rb rc rd = 0) (hup : upV la lb lc ld ra rb rc rd b0 b1 b2 = false) : kD Tryz.prog 14 [(qA (kT.mk (kH.mk (jL.mk lx ly lz) (jO.mk la lb lc ld) lf (kI.mk lu lv)) (kH.mk (jL.mk rx ry rz) (jO.mk ra rb rc rd) rf (kI.mk ru rv))))] (.tup [(nH (RLp.mk (kT.mk (kH.mk (jL.mk lx ly lz) (jO.mk la lb lc ld) lf (kI.mk lu lv)) (kH.mk (jL.mk rx ry rz) (jO.mk ra rb rc rd) rf (kI.mk ru rv))) (A3.mk (jC b0) (jC b1) (jC b2)) (A3.mk (A3.mk (jC e00) (jC e01) (jC e02)) (A3.mk (jC e10) (jC e11) (jC e12)) (A3.mk (jC e20) (jC e21) (jC e22))))), (.val (.int .i64 (0)))]) := by
 have hbl := uS hl
 have hbr := uS hr
 obtain ⟨hlx, hly, hlz, hlu, hlv, hlf, hlq⟩ := hbl
 obtain ⟨hrx, hry, hrz, hru, hrv, hrf, hrq⟩ := hbr
 obtain ⟨hla, hlb, hlc, hld, -⟩ := uW hlq
 obtain ⟨hra, hrb, hrc, hrd, -⟩ := uW hrq
 have hnl := yN hla hlb hlc hld
 have hnr := yN hra hrb hrc hrd
 have hF2 := hF
 unfold RFr at hF2
 obtain ⟨hb0, hb1, hb2, he00, he01, he02, he10, he11, he12, he20, he21, he22⟩ := hF2
 have hzb := fr_zb hF hup
 have hzs := fr_zs hF hup
 have hzt := fr_zt hF hup
 let y7 := (A3.mk (jV.mk (jG.mk false []) (jG.mk false [])) (jV.mk (jG.mk false []) (jG.mk false [])) (jV.mk (jG.mk false []) (jG.mk false [])))
 let y6 := (qA (kT.mk (kH.mk (jL.mk lx ly lz) (jO.mk la lb lc ld) lf (kI.mk lu lv)) (kH.mk (jL.mk rx ry rz) (jO.mk ra rb rc rd) rf (kI.mk ru rv))))
 let y5 := (bx y6)
 let y4 := (bx (nH (RLp.mk (kT.mk (kH.mk (jL.mk lx ly lz) (jO.mk la lb lc ld) lf (kI.mk lu lv)) (kH.mk (jL.mk rx ry rz) (jO.mk ra rb rc rd) rf (kI.mk ru rv))) (A3.mk (jC b0) (jC b1) (jC b2)) (A3.mk (A3.mk (jC e00) (jC e01) (jC e02)) (A3.mk (jC e10) (jC e11) (jC e12)) (A3.mk (jC e20) (jC e21) (jC e22))))))
 let y3 := (A3.mk y7 y7 y7)
 let y2 := (bx (nH (RLp.mk (kT.mk (kH.mk (jL.mk 0 0 0) (jO.mk 0 0 0 0) 0 (kI.mk 0 0)) (kH.mk (jL.mk 0 0 0) (jO.mk 0 0 0 0) 0 (kI.mk 0 0))) y7 y3)))
 let y1 := (bx (nH (RLp.mk (kT.mk (kH.mk (jL.mk lx ly lz) (jO.mk la lb lc ld) lf (kI.mk lu lv)) (kH.mk (jL.mk rx ry rz) (jO.mk ra rb rc rd) rf (kI.mk ru rv))) y7 y3)))
 refine jK Tryz.func14 rfl cb14 rfl ?_
 show uY _ _ _ _ ⟨[(0, (.d y6))], []⟩
 refine jA <| kx [(1, (.ref 0 0)), (2, (.ref 1 0))] [(0, some y5), (1, some y2)] (zN (vN 0) <| zN (qP 1 fL fX) <| zM <| zZ) ?_
 refine jA <| kx [(4, (.ref 2 0))] [(2, some y1)] (zR (jZ mE) <| zE (oBd pl47 fL fX) <| zN (qP 2 fL fX) <| zT (kU cV) <| zZ) ?_
 refine jA <| jA <| kx [(19, (vl 29 10 uX [(kH.mk (jL.mk lx ly lz) (jO.mk la lb lc ld) lf (kI.mk lu lv)), (kH.mk (jL.mk rx ry rz) (jO.mk ra rb rc rd) rf (kI.mk ru rv))])), (20, (kE 2)), (21, (kE 0))] [] (zE (kO yA) <| zR (jZ vK) <| zE (kO zY) <| zR (jZ vK) <| zE (nM el140 ze29 zo29) <| zE (oLn el140 2) <| zM <| zZ) ?_
 refine jE <| kW 20 ?_
 refine qC <| jA <| kx [(22, (vb true))] [] (zE (qN true qM) <| zZ) ?_
 refine jA <| jY ?_
 refine jD <| jA <| jE <| jA <| kx [(6, (.ref 3 0))] [(3, some (bx (uX (kH.mk (jL.mk lx ly lz) (jO.mk la lb lc ld) lf (kI.mk lu lv)))))] (zE (zS el140 0) <| zE (eD vK) <| zN (qP 3 ze29 zo29) <| zT (kU vK) <| zZ) ?_
 refine jA <| kx [(7, (kE (uP lx ly lz lu lv lf la lb lc ld)))] [] (zR (jZ vK) <| zE (jX (qs_stn lx ly lz la lb lc ld lf lu lv)) <| zM <| zZ) ?_
 refine jA <| kx [(28, (vb false))] [] (zM <| zE (qN false dL (by exact bne_eq_false_iff_eq.2 (by rw [show (uP lx ly lz lu lv lf la lb lc ld) = 0 from hl]; rfl))) <| zZ) ?_
 refine kG ?_
 refine jD <| kx [(21, (kE 1))] [] (zE (uI 1 (hr := by decide)) <| zM <| zZ) ?_
 refine jJ (jW.refl _) ?_
 refine jA <| kx [(22, (vb true))] [] (zE (qN true qM) <| zZ) ?_
 refine jA <| jY ?_
 refine jD <| jA <| jE <| jA <| kx [(6, (.ref 4 0))] [(4, some (bx (uX (kH.mk (jL.mk rx ry rz) (jO.mk ra rb rc rd) rf (kI.mk ru rv)))))] (zE (zS el140 1) <| zE (eD vK) <| zN (qP 4 ze29 zo29) <| zT (kU vK) <| zZ) ?_
 refine jA <| kx [(7, (kE (uP rx ry rz ru rv rf ra rb rc rd)))] [] (zR (jZ vK) <| zE (jX (qs_stn rx ry rz ra rb rc rd rf ru rv)) <| zM <| zZ) ?_
 refine jA <| kx [(28, (vb false))] [] (zM <| zE (qN false dL (by exact bne_eq_false_iff_eq.2 (by rw [show (uP rx ry rz ru rv rf ra rb rc rd) = 0 from hr]; rfl))) <| zZ) ?_
 refine kG ?_
 refine jD <| kx [(21, (kE 2))] [] (zE (uI 2 (hr := by decide)) <| zM <| zZ) ?_
 refine jJ (jW.refl _) ?_
 refine jA <| kx [(22, (vb false))] [] (zE (qN false qM) <| zZ) ?_
 refine jA <| kG ?_
 refine kK <| jA <| kV (wk (l := [(1, (.ref 0 0)), (2, (.ref 1 0)), (4, (.ref 2 0)), (19, (vl 29 10 uX [(kH.mk (jL.mk lx ly lz) (jO.mk la lb lc ld) lf (kI.mk lu lv)), (kH.mk (jL.mk rx ry rz) (jO.mk ra rb rc rd) rf (kI.mk ru rv))])), (20, (kE 2)), (21, (kE 2)), (22, (vb false))]) (b := [(0, some y5), (1, some y2), (2, some y1)])) ?_
 refine kd [(8, (.ref 5 0)), (9, (.ref 6 0))] [(5, some (bx (uX (kH.mk (jL.mk lx ly lz) (jO.mk la lb lc ld) lf (kI.mk lu lv))))), (6, some (bx (uX (kH.mk (jL.mk rx ry rz) (jO.mk ra rb rc rd) rf (kI.mk ru rv)))))] mo (wE (kO yA) <| wR (jZ vK) <| wE (kO zY) <| wR (jZ vK) <| wN (qP 5 ze29 zo29) <| wN (qP 6 ze29 zo29) <| wT (kU vK) <| wT (kU vK) <| wZ) ?_
 refine jA ?_
 have bn1 : QL b0 3 := (jT (Eq.symm hb0) (qi (rx - lx)))
 have bn2 : QL b1 3 := (jT (Eq.symm hb1) (qi (ry - ly)))
 have bn3 : QL b2 3 := (jT (Eq.symm hb2) (qi (rz - lz)))
 refine kx [] [(2, some (bx (nH (RLp.mk (kT.mk (kH.mk (jL.mk lx ly lz) (jO.mk la lb lc ld) lf (kI.mk lu lv)) (kH.mk (jL.mk rx ry rz) (jO.mk ra rb rc rd) rf (kI.mk ru rv))) (A3.mk (jC b0) (jC b1) (jC b2)) y3))))] (zE (kO yC) <| zE (kO yB) <| zR (uM uH) <| zE (kO yC) <| zE (kO yB) <| zR (uM uH) <| zE (dJ (rx - lx) (hr := by exact (qG rfl (by simp only [vY]; omega) (by simp only [vZ]; omega)))) <| zE (kO yC) <| zE (kO yK) <| zR (uM uH) <| zE (kO yC) <| zE (kO yK) <| zR (uM uH) <| zE (dJ (ry - ly) (hr := by exact (qG rfl (by simp only [vY]; omega) (by simp only [vZ]; omega)))) <| zE (kO yC) <| zE (kO yL) <| zR (uM uH) <| zE (kO yC) <| zE (kO yL) <| zR (uM uH) <| zE (dJ (rz - lz) (hr := by exact (qG rfl (by simp only [vY]; omega) (by simp only [vZ]; omega)))) <| zE (jX (by have h := qs_whole (rx - lx) (by omega) (by omega) (ry - ly) (by omega) (by omega) (rz - lz) (by omega) (by omega); rw [hb0, hb1, hb2] at h; exact h)) <| zE (kO fo47_1) <| zT (kU xJ) <| zZ) ?_
 refine jA ?_
 have bn4 : QL ((0 : Int) : Rat) 3 := (qi 0)
 have bn5 : QL ((1 : Int) : Rat) 3 := (qi 1)
 refine kx [(10, (.ref 7 0))] [(7, some (bx (jN (A3.mk (jC ((0 : Int) : Rat)) (jC ((0 : Int) : Rat)) (jC ((1 : Int) : Rat))))))] (zE (jX (qs_whole ((0 : Nat) : Int) (by omega) (by omega) ((0 : Nat) : Int) (by omega) (by omega) ((1 : Nat) : Int) (by omega) (by omega))) <| zN (qP 7 fN fP) <| zT (kU xJ) <| zZ) ?_
 refine jA ?_
 have bn6 : QL (xY la lb lc ld) 3 := (eZ)
 have bn7 : QL (xW la lb lc ld) 3 := (fC)
 have bn8 : QL (uK la lb lc ld) 3 := (mG)
 have bn9 : QL (zC la lb lc ld) 3 := (eW)
 have bn10 : QL (zD la lb lc ld) 3 := (fF)
 have bn11 : QL (uL la lb lc ld) 3 := (mT)
 have bn12 : QL (zI la lb lc ld) 3 := (fD)
 have bn13 : QL (zG la lb lc ld) 3 := (eX)
 have bn14 : QL (uO la lb lc ld) 3 := (mS)
 have bn15 : QL (uK la lb lc ld) 20 := (jT (Eq.symm (vW (xY la lb lc ld) (xW la lb lc ld) (uK la lb lc ld))) (jQ (n := 3) (k := 20) bn6 bn7 bn8 bn4 bn4 bn5 (by decide)))
 have bn16 : QL (uL la lb lc ld) 20 := (jT (Eq.symm (vW (zC la lb lc ld) (zD la lb lc ld) (uL la lb lc ld))) (jQ (n := 3) (k := 20) bn9 bn10 bn11 bn4 bn4 bn5 (by decide)))
 have bn17 : QL (uO la lb lc ld) 20 := (jT (Eq.symm (vW (zI la lb lc ld) (zG la lb lc ld) (uO la lb lc ld))) (jQ (n := 3) (k := 20) bn12 bn13 bn14 bn4 bn4 bn5 (by decide)))
 have bn18 : QL (N4 ra rb rc rd) 3 := (kN4)
 have bn19 : QL (xY ra rb rc rd) 3 := (eZ)
 have bn20 : QL (xW ra rb rc rd) 3 := (fC)
 have bn21 : QL (uK ra rb rc rd) 3 := (mG)
 have bn22 : QL (zC ra rb rc rd) 3 := (eW)
 have bn23 : QL (zD ra rb rc rd) 3 := (fF)
 have bn24 : QL (uL ra rb rc rd) 3 := (mT)
 have bn25 : QL (zI ra rb rc rd) 3 := (fD)
 have bn26 : QL (zG ra rb rc rd) 3 := (eX)
 have bn27 : QL (uO ra rb rc rd) 3 := (mS)
 have bn28 : QL (uK ra rb rc rd) 20 := (jT (Eq.symm (vW (xY ra rb rc rd) (xW ra rb rc rd) (uK ra rb rc rd))) (jQ (n := 3) (k := 20) bn19 bn20 bn21 bn4 bn4 bn5 (by decide)))
 have bn29 : QL (uL ra rb rc rd) 20 := (jT (Eq.symm (vW (zC ra rb rc rd) (zD ra rb rc rd) (uL ra rb rc rd))) (jQ (n := 3) (k := 20) bn22 bn23 bn24 bn4 bn4 bn5 (by decide)))
 have bn30 : QL (uO ra rb rc rd) 20 := (jT (Eq.symm (vW (zI ra rb rc rd) (zG ra rb rc rd) (uO ra rb rc rd))) (jQ (n := 3) (k := 20) bn25 bn26 bn27 bn4 bn4 bn5 (by decide)))
 have bn31 : QL (N4 la lb lc ld) 3 := (kN4)
 have bn32 : QL (dC la lb lc ld ra rb rc rd) 47 := (jT (Eq.symm (dq0_eq la lb lc ld ra rb rc rd)) (uF (k := 47) (jI (k := 23) bn15 bn18 (by decide)) (jI (k := 23) bn28 bn31 (by decide)) (by decide)))
 have bn33 : QL (cY la lb lc ld ra rb rc rd) 47 := (jT (Eq.symm (dq1_eq la lb lc ld ra rb rc rd)) (uF (k := 47) (jI (k := 23) bn16 bn18 (by decide)) (jI (k := 23) bn29 bn31 (by decide)) (by decide)))
 have bn34 : QL (dA la lb lc ld ra rb rc rd) 47 := (jT (Eq.symm (dq2_eq la lb lc ld ra rb rc rd)) (uF (k := 47) (jI (k := 23) bn17 bn18 (by decide)) (jI (k := 23) bn30 bn31 (by decide)) (by decide)))
 refine kd [(11, (.ref 8 0))] [(8, some (bx (jN (A3.mk (jC (dC la lb lc ld ra rb rc rd)) (jC (cY la lb lc ld ra rb rc rd)) (jC (dA la lb lc ld ra rb rc rd))))))] mo (wE (kO gU) <| wR (jZ yR) <| wE (jX (qs_mat la lb lc ld (by omega) (by omega) (by omega) (by omega) hlq)) <| wR (jZ xJ) <| wE (jX (by have h := qs_turned (xY la lb lc ld) (xW la lb lc ld) (uK la lb lc ld) (zC la lb lc ld) (zD la lb lc ld) (uL la lb lc ld) (zI la lb lc ld) (zG la lb lc ld) (uO la lb lc ld) (qu bn6) (qu bn7) (qu bn8) (qu bn9) (qu bn10) (qu bn11) (qu bn12) (qu bn13) (qu bn14) ((0 : Int) : Rat) ((0 : Int) : Rat) ((1 : Int) : Rat) (qu bn4) (qu bn4) (qu bn5); rw [(vW (xY la lb lc ld) (xW la lb lc ld) (uK la lb lc ld)), (vW (zC la lb lc ld) (zD la lb lc ld) (uL la lb lc ld)), (vW (zI la lb lc ld) (zG la lb lc ld) (uO la lb lc ld))] at h; exact h)) <| wE (kO gU) <| wR (jZ yR) <| wE (jX (aP ra rb rc rd (by omega) (by omega) (by omega) (by omega))) <| wE (jX (gP (uK la lb lc ld) (uL la lb lc ld) (uO la lb lc ld) (qu bn15) (qu bn16) (qu bn17) (N4 ra rb rc rd) (qu bn18))) <| wE (kO gU) <| wR (jZ yR) <| wE (jX (qs_mat ra rb rc rd (by omega) (by omega) (by omega) (by omega) hrq)) <| wR (jZ xJ) <| wE (jX (by have h := qs_turned (xY ra rb rc rd) (xW ra rb rc rd) (uK ra rb rc rd) (zC ra rb rc rd) (zD ra rb rc rd) (uL ra rb rc rd) (zI ra rb rc rd) (zG ra rb rc rd) (uO ra rb rc rd) (qu bn19) (qu bn20) (qu bn21) (qu bn22) (qu bn23) (qu bn24) (qu bn25) (qu bn26) (qu bn27) ((0 : Int) : Rat) ((0 : Int) : Rat) ((1 : Int) : Rat) (qu bn4) (qu bn4) (qu bn5); rw [(vW (xY ra rb rc rd) (xW ra rb rc rd) (uK ra rb rc rd)), (vW (zC ra rb rc rd) (zD ra rb rc rd) (uL ra rb rc rd)), (vW (zI ra rb rc rd) (zG ra rb rc rd) (uO ra rb rc rd))] at h; exact h)) <| wE (kO gU) <| wR (jZ yR) <| wE (jX (aP la lb lc ld (by omega) (by omega) (by omega) (by omega))) <| wE (jX (gP (uK ra rb rc rd) (uL ra rb rc rd) (uO ra rb rc rd) (qu bn28) (qu bn29) (qu bn30) (N4 la lb lc ld) (qu bn31))) <| wE (jX (by have h := qs_sum ((uK la lb lc ld) * (N4 ra rb rc rd)) ((uL la lb lc ld) * (N4 ra rb rc rd)) ((uO la lb lc ld) * (N4 ra rb rc rd)) (qS (jI (k := 23) bn15 bn18 (by decide)) (by decide)) (qS (jI (k := 23) bn16 bn18 (by decide)) (by decide)) (qS (jI (k := 23) bn17 bn18 (by decide)) (by decide)) ((uK ra rb rc rd) * (N4 la lb lc ld)) ((uL ra rb rc rd) * (N4 la lb lc ld)) ((uO ra rb rc rd) * (N4 la lb lc ld)) (qS (jI (k := 23) bn28 bn31 (by decide)) (by decide)) (qS (jI (k := 23) bn29 bn31 (by decide)) (by decide)) (qS (jI (k := 23) bn30 bn31 (by decide)) (by decide)); rw [(dq0_eq la lb lc ld ra rb rc rd), (dq1_eq la lb lc ld ra rb rc rd), (dq2_eq la lb lc ld ra rb rc rd)] at h; exact h)) <| wN (qP 8 fN fP) <| wT (kU xJ) <| wZ) ?_
 refine jA ?_
 have bn35 : QL (((cY la lb lc ld ra rb rc rd) * b2) - ((dA la lb lc ld ra rb rc rd) * b1)) 101 := (uV (k := 101) (jI (k := 50) bn33 bn3 (by decide)) (jI (k := 50) bn34 bn2 (by decide)) (by decide))
 have bn36 : QL (((dA la lb lc ld ra rb rc rd) * b0) - ((dC la lb lc ld ra rb rc rd) * b2)) 101 := (uV (k := 101) (jI (k := 50) bn34 bn1 (by decide)) (jI (k := 50) bn32 bn3 (by decide)) (by decide))
 have bn37 : QL (((dC la lb lc ld ra rb rc rd) * b1) - ((cY la lb lc ld ra rb rc rd) * b0)) 101 := (uV (k := 101) (jI (k := 50) bn32 bn2 (by decide)) (jI (k := 50) bn33 bn1 (by decide)) (by decide))
 refine kx [(12, (.ref 9 0))] [(9, some (bx (jN (A3.mk (jC (((cY la lb lc ld ra rb rc rd) * b2) - ((dA la lb lc ld ra rb rc rd) * b1))) (jC (((dA la lb lc ld ra rb rc rd) * b0) - ((dC la lb lc ld ra rb rc rd) * b2))) (jC (((dC la lb lc ld ra rb rc rd) * b1) - ((cY la lb lc ld ra rb rc rd) * b0)))))))] (zR (jZ xJ) <| zE (kO fo47_1) <| zR (jZ xJ) <| zE (jX (qs_cross (dC la lb lc ld ra rb rc rd) (cY la lb lc ld ra rb rc rd) (dA la lb lc ld ra rb rc rd) (qu bn32) (qu bn33) (qu bn34) b0 b1 b2 (qu bn1) (qu bn2) (qu bn3))) <| zN (qP 9 fN fP) <| zT (kU xJ) <| zZ) ?_
 refine jA <| jA <| kx [(84, (vb false))] [] (zR (jZ xJ) <| zE (qN false (jX (qs_zero (((cY la lb lc ld ra rb rc rd) * b2) - ((dA la lb lc ld ra rb rc rd) * b1)) (((dA la lb lc ld ra rb rc rd) * b0) - ((dC la lb lc ld ra rb rc rd) * b2)) (((dC la lb lc ld ra rb rc rd) * b1) - ((cY la lb lc ld ra rb rc rd) * b0)) (qu bn35) (qu bn36) (qu bn37))) (by exact hup)) <| zZ) ?_
 refine kG ?_
 refine jD <| jA ?_
 have bn38 : QL e00 6 := (jT (Eq.symm he00) (jI (k := 6) bn1 (zU (n := 3) (k := 3) bn1 bn2 bn3 (by decide) (by decide)) (by decide)))
 have bn39 : QL e01 6 := (jT (Eq.symm he01) (jI (k := 6) bn2 (zU (n := 3) (k := 3) bn1 bn2 bn3 (by decide) (by decide)) (by decide)))
 have bn40 : QL e02 6 := (jT (Eq.symm he02) (jI (k := 6) bn3 (zU (n := 3) (k := 3) bn1 bn2 bn3 (by decide) (by decide)) (by decide)))
 refine kx [] [(2, some (bx (nH (RLp.mk (kT.mk (kH.mk (jL.mk lx ly lz) (jO.mk la lb lc ld) lf (kI.mk lu lv)) (kH.mk (jL.mk rx ry rz) (jO.mk ra rb rc rd) rf (kI.mk ru rv))) (A3.mk (jC b0) (jC b1) (jC b2)) (A3.mk (A3.mk (jC e00) (jC e01) (jC e02)) y7 y7)))))] (zE (kO fo47_1) <| zR (jZ xJ) <| zE (jX (by have h := qs_red b0 b1 b2 (qu bn1) (qu bn2) (qu bn3) hzb; rw [he00, he01, he02] at h; exact h)) <| zE (kO fo47_2) <| zE (vM ar45 0) <| zT (kU xJ) <| zZ) ?_
 refine jA ?_
 have bn41 : QL (((cY la lb lc ld ra rb rc rd) * e02) - ((dA la lb lc ld ra rb rc rd) * e01)) 107 := (uV (k := 107) (jI (k := 53) bn33 bn40 (by decide)) (jI (k := 53) bn34 bn39 (by decide)) (by decide))
 have bn42 : QL (((dA la lb lc ld ra rb rc rd) * e00) - ((dC la lb lc ld ra rb rc rd) * e02)) 107 := (uV (k := 107) (jI (k := 53) bn34 bn38 (by decide)) (jI (k := 53) bn32 bn40 (by decide)) (by decide))
 have bn43 : QL (((dC la lb lc ld ra rb rc rd) * e01) - ((cY la lb lc ld ra rb rc rd) * e00)) 107 := (uV (k := 107) (jI (k := 53) bn32 bn39 (by decide)) (jI (k := 53) bn33 bn38 (by decide)) (by decide))
 have bn44 : QL e10 214 := (jT (Eq.symm he10) (jI (k := 214) bn41 (zU (n := 107) (k := 107) bn41 bn42 bn43 (by decide) (by decide)) (by decide)))
 have bn45 : QL e11 214 := (jT (Eq.symm he11) (jI (k := 214) bn42 (zU (n := 107) (k := 107) bn41 bn42 bn43 (by decide) (by decide)) (by decide)))
 have bn46 : QL e12 214 := (jT (Eq.symm he12) (jI (k := 214) bn43 (zU (n := 107) (k := 107) bn41 bn42 bn43 (by decide) (by decide)) (by decide)))
 refine kx [] [(2, some (bx (nH (RLp.mk (kT.mk (kH.mk (jL.mk lx ly lz) (jO.mk la lb lc ld) lf (kI.mk lu lv)) (kH.mk (jL.mk rx ry rz) (jO.mk ra rb rc rd) rf (kI.mk ru rv))) (A3.mk (jC b0) (jC b1) (jC b2)) (A3.mk (A3.mk (jC e00) (jC e01) (jC e02)) (A3.mk (jC e10) (jC e11) (jC e12)) y7)))))] (zR (jZ xJ) <| zE (kO fo47_2) <| zE (vM ar45 0) <| zR (jZ xJ) <| zE (jX (qs_cross (dC la lb lc ld ra rb rc rd) (cY la lb lc ld ra rb rc rd) (dA la lb lc ld ra rb rc rd) (qu bn32) (qu bn33) (qu bn34) e00 e01 e02 (qu bn38) (qu bn39) (qu bn40))) <| zE (jX (by have h := qs_red (((cY la lb lc ld ra rb rc rd) * e02) - ((dA la lb lc ld ra rb rc rd) * e01)) (((dA la lb lc ld ra rb rc rd) * e00) - ((dC la lb lc ld ra rb rc rd) * e02)) (((dC la lb lc ld ra rb rc rd) * e01) - ((cY la lb lc ld ra rb rc rd) * e00)) (qu bn41) (qu bn42) (qu bn43) hzs; rw [he10, he11, he12] at h; exact h)) <| zE (kO fo47_2) <| zE (vM ar45 1) <| zT (kU xJ) <| zZ) ?_
 refine jA ?_
 have bn47 : QL ((e01 * e12) - (e02 * e11)) 441 := (uV (k := 441) (jI (k := 220) bn39 bn46 (by decide)) (jI (k := 220) bn40 bn45 (by decide)) (by decide))
 have bn48 : QL ((e02 * e10) - (e00 * e12)) 441 := (uV (k := 441) (jI (k := 220) bn40 bn44 (by decide)) (jI (k := 220) bn38 bn46 (by decide)) (by decide))
 have bn49 : QL ((e00 * e11) - (e01 * e10)) 441 := (uV (k := 441) (jI (k := 220) bn38 bn45 (by decide)) (jI (k := 220) bn39 bn44 (by decide)) (by decide))
 have bn50 : QL e20 882 := (jT (Eq.symm he20) (jI (k := 882) bn47 (zU (n := 441) (k := 441) bn47 bn48 bn49 (by decide) (by decide)) (by decide)))
 have bn51 : QL e21 882 := (jT (Eq.symm he21) (jI (k := 882) bn48 (zU (n := 441) (k := 441) bn47 bn48 bn49 (by decide) (by decide)) (by decide)))
 have bn52 : QL e22 882 := (jT (Eq.symm he22) (jI (k := 882) bn49 (zU (n := 441) (k := 441) bn47 bn48 bn49 (by decide) (by decide)) (by decide)))
 refine kx [] [(2, some y4)] (zE (kO fo47_2) <| zE (vM ar45 0) <| zR (jZ xJ) <| zE (kO fo47_2) <| zE (vM ar45 1) <| zR (jZ xJ) <| zE (jX (qs_cross e00 e01 e02 (qu bn38) (qu bn39) (qu bn40) e10 e11 e12 (qu bn44) (qu bn45) (qu bn46))) <| zE (jX (by have h := qs_red ((e01 * e12) - (e02 * e11)) ((e02 * e10) - (e00 * e12)) ((e00 * e11) - (e01 * e10)) (qu bn47) (qu bn48) (qu bn49) hzt; rw [he20, he21, he22] at h; exact h)) <| zE (kO fo47_2) <| zE (vM ar45 2) <| zT (kU xJ) <| zZ) ?_
 refine jA <| kx [(3, (kE 0))] [(1, some y4)] (zR (jZ cV) <| zT (kU cV) <| zM <| zZ) ?_
 refine jH ⟨_, (kZ (cs := (bx (nH (RLp.mk (kT.mk (kH.mk (jL.mk lx ly lz) (jO.mk la lb lc ld) lf (kI.mk lu lv)) (kH.mk (jL.mk rx ry rz) (jO.mk ra rb rc rd) rf (kI.mk ru rv))) (A3.mk (jC b0) (jC b1) (jC b2)) (A3.mk (A3.mk (jC e00) (jC e01) (jC e02)) (A3.mk (jC e10) (jC e11) (jC e12)) (A3.mk (jC e20) (jC e21) (jC e22))))))) (d := (nH (RLp.mk (kT.mk (kH.mk (jL.mk lx ly lz) (jO.mk la lb lc ld) lf (kI.mk lu lv)) (kH.mk (jL.mk rx ry rz) (jO.mk ra rb rc rd) rf (kI.mk ru rv))) (A3.mk (jC b0) (jC b1) (jC b2)) (A3.mk (A3.mk (jC e00) (jC e01) (jC e02)) (A3.mk (jC e10) (jC e11) (jC e12)) (A3.mk (jC e20) (jC e21) (jC e22)))))) rfl rfl cV rfl rfl (.tmp (d := (.val (.int .i64 (((0 : Nat) : Int))))) rfl .nil)), ?_⟩
 rfl
end Go.Proofs.YtbecgnplakngdaaGreat
set_option linter.unusedVariables false
set_option linter.unusedSimpArgs false
namespace Go.Fid
theorem nY {q : Rat} (h : ¬ qZ q ≤ 0) : q ≠ 0 := fun e => h (by rw [show qZ q = 0 from nZ.2 e]; decide)
theorem sgn_pos {q : Rat} : ¬ qZ q ≤ 0 ↔ 0 < q := by
  unfold qZ; rw [signI_le]
  have h := Rat.num_nonneg (q := -q)
  rw [Rat.neg_num] at h
  refine ⟨fun h1 => Rat.not_le.1 (fun h2 => h1 ?_), fun h1 h2 => ?_⟩
  · have h3 := h.2 (by grind); omega
  · have h3 := h.1 (by omega); grind
theorem dot3_ne {a b c : Rat} (h : yJ a b c = false) : jF a b c a b c ≠ 0 := fun e => fG h (dR.1 e)
theorem yZ (a b c x y z : Rat) : a * x + b * y + c * z = jF a b c x y z := rfl
theorem div_mul_q (f v x : Rat) : f / v * x = f * x / v := by rw [Rat.div_def, Rat.div_def]; grind
theorem lens0 (x y : Rat) (u : Int) : jF ((1 : Int) : Rat) ((0 : Int) : Rat) ((-u : Int) : Rat) x y ((1 : Int) : Rat) = x - ((u : Int) : Rat) := by
  unfold jF; rw [Rat.intCast_neg, Rat.intCast_one, Rat.intCast_zero]; grind
theorem lens1 (x y : Rat) (u : Int) : jF ((0 : Int) : Rat) ((1 : Int) : Rat) ((-u : Int) : Rat) x y ((1 : Int) : Rat) = y - ((u : Int) : Rat) := by
  unfold jF; rw [Rat.intCast_neg, Rat.intCast_one, Rat.intCast_zero]; grind
theorem lens2 (x y : Rat) (f : Int) : jF ((0 : Int) : Rat) ((0 : Int) : Rat) ((f : Int) : Rat) x y ((1 : Int) : Rat) = ((f : Int) : Rat) := by
  unfold jF; rw [Rat.intCast_one, Rat.intCast_zero]; grind
def spotB (x y z : Int) : Bool := decide ((-1048576 ≤ x ∧ x ≤ 1048576) ∧ (-1048576 ≤ y ∧ y ≤ 1048576) ∧ (-1048576 ≤ z ∧ z ≤ 1048576))
theorem spotB_of {x y z : Int} (h1 : -1048576 ≤ x ∧ x ≤ 1048576) (h2 : -1048576 ≤ y ∧ y ≤ 1048576) (h3 : -1048576 ≤ z ∧ z ≤ 1048576) : spotB x y z = true := decide_eq_true ⟨h1, h2, h3⟩
theorem spotB_abs {x y z : Int} (h : spotB x y z = false) (h1 : (decide (x < -1048576) || decide (((1048576 : Nat) : Int) < x)) = false) (h2 : (decide (y < -1048576) || decide (((1048576 : Nat) : Int) < y)) = false) (h3 : (decide (z < -1048576) || decide (((1048576 : Nat) : Int) < z)) = false) : False := by
  simp only [Bool.or_eq_false_iff, decide_eq_false_iff_not] at h1 h2 h3
  rw [spotB_of ⟨by omega, by omega⟩ ⟨by omega, by omega⟩ ⟨by omega, by omega⟩] at h
  cases h
end Go.Fid
namespace Go.Proofs.YtbecgnplakngdaaGreat
open Go.Fid
set_option maxRecDepth 4000
set_option linter.unusedVariables false
set_option linter.unusedSimpArgs false
theorem cb95 : callB Tryz.prog 95 = true := by kernel_rfl
theorem cb100 : callB Tryz.prog 100 = true := by kernel_rfl
theorem fo134_0 : xD Tryz.prog 134 0 = some 0 := by kernel_rfl
theorem fo134_1 : xD Tryz.prog 134 1 = some 10 := by kernel_rfl
theorem q_side (lx ly lz la lb lc ld lf lu lv rx ry rz ra rb rc rd rf ru rv : Int) (b0 b1 b2 e00 e01 e02 e10 e11 e12 e20 e21 e22 : Rat) (vJ : QL b0 3) (vH : QL b1 3) (vI : QL b2 3) (qV : QL e00 400) (qW : QL e01 400) (qU : QL e02 400) (uC : QL e10 400) (uE : QL e11 400) (uD : QL e12 400) (qJ : QL e20 400) (qI : QL e21 400) (qK : QL e22 400) (right : Bool) (tx ty tz ta tb tc td tf tu tv : Int) (hsd : (bif right then (kH.mk (jL.mk rx ry rz) (jO.mk ra rb rc rd) rf (kI.mk ru rv)) else (kH.mk (jL.mk lx ly lz) (jO.mk la lb lc ld) lf (kI.mk lu lv))) = (kH.mk (jL.mk tx ty tz) (jO.mk ta tb tc td) tf (kI.mk tu tv))) : kD Tryz.prog 100 [(.cptr 1000001 (kY.cells (cU (RRp.mk (kH.mk (jL.mk lx ly lz) (jO.mk la lb lc ld) lf (kI.mk lu lv)) (kH.mk (jL.mk rx ry rz) (jO.mk ra rb rc rd) rf (kI.mk ru rv)) (A3.mk (jC b0) (jC b1) (jC b2)) (A3.mk (A3.mk (jC e00) (jC e01) (jC e02)) (A3.mk (jC e10) (jC e11) (jC e12)) (A3.mk (jC e20) (jC e21) (jC e22)))))) 0), (.val (.bool (right)))] (uX (kH.mk (jL.mk tx ty tz) (jO.mk ta tb tc td) tf (kI.mk tu tv))) := by
 refine jK Tryz.func100 rfl cb100 rfl ?_
 show uY _ _ _ _ ⟨[(0, (.d (.cptr 1000001 (kY.cells (cU (RRp.mk (kH.mk (jL.mk lx ly lz) (jO.mk la lb lc ld) lf (kI.mk lu lv)) (kH.mk (jL.mk rx ry rz) (jO.mk ra rb rc rd) rf (kI.mk ru rv)) (A3.mk (jC b0) (jC b1) (jC b2)) (A3.mk (A3.mk (jC e00) (jC e01) (jC e02)) (A3.mk (jC e10) (jC e11) (jC e12)) (A3.mk (jC e20) (jC e21) (jC e22)))))) 0))), (1, (vb right))], []⟩
 refine jA <| kx [(4, (.ref 0 0))] [(0, some (bx (uX (kH.mk (jL.mk 0 0 0) (jO.mk 0 0 0 0) 0 (kI.mk 0 0)))))] (zN (qP 0 ze29 zo29) <| zZ) ?_
 refine jA <| jA <| kx [(5, (vb right))] [] (zM <| zZ) ?_
 refine jS (b := right) rfl (fun h1 => ?_) (fun h1 => ?_)
 ·refine jA <| kx [] [(0, some (bx (uX (kH.mk (jL.mk rx ry rz) (jO.mk ra rb rc rd) rf (kI.mk ru rv)))))] (zM <| zE oNd <| zE (oFc fo134_1) <| zE (eD vK) <| zT (kU vK) <| zZ) ?_
  refine jH ⟨_, (kZ (cs := (bx (uX (kH.mk (jL.mk rx ry rz) (jO.mk ra rb rc rd) rf (kI.mk ru rv))))) (d := (uX (kH.mk (jL.mk rx ry rz) (jO.mk ra rb rc rd) rf (kI.mk ru rv)))) rfl rfl vK rfl rfl .nil), ?_⟩
  rw [← hsd, h1]; rfl
 ·refine jD <| jA <| kx [] [(0, some (bx (uX (kH.mk (jL.mk lx ly lz) (jO.mk la lb lc ld) lf (kI.mk lu lv)))))] (zM <| zE oNd <| zE (oFc fo134_0) <| zE (eD vK) <| zT (kU vK) <| zZ) ?_
  refine jH ⟨_, (kZ (cs := (bx (uX (kH.mk (jL.mk lx ly lz) (jO.mk la lb lc ld) lf (kI.mk lu lv))))) (d := (uX (kH.mk (jL.mk lx ly lz) (jO.mk la lb lc ld) lf (kI.mk lu lv)))) rfl rfl vK rfl rfl .nil), ?_⟩
  rw [← hsd, h1]; rfl
theorem q_cooN (lx ly lz la lb lc ld lf lu lv rx ry rz ra rb rc rd rf ru rv : Int) (b0 b1 b2 e00 e01 e02 e10 e11 e12 e20 e21 e22 : Rat) (vJ : QL b0 3) (vH : QL b1 3) (vI : QL b2 3) (qV : QL e00 400) (qW : QL e01 400) (qU : QL e02 400) (uC : QL e10 400) (uE : QL e11 400) (uD : QL e12 400) (qJ : QL e20 400) (qI : QL e21 400) (qK : QL e22 400) (w0 w1 w2 : Rat) (hw0 : QL w0 1000000) (hw1 : QL w1 1000000) (hw2 : QL w2 1000000) (hd : qZ (jF e20 e21 e22 w0 w1 w2) ≤ 0) : kD Tryz.prog 95 [(.cptr 1000001 (kY.cells (cU (RRp.mk (kH.mk (jL.mk lx ly lz) (jO.mk la lb lc ld) lf (kI.mk lu lv)) (kH.mk (jL.mk rx ry rz) (jO.mk ra rb rc rd) rf (kI.mk ru rv)) (A3.mk (jC b0) (jC b1) (jC b2)) (A3.mk (A3.mk (jC e00) (jC e01) (jC e02)) (A3.mk (jC e10) (jC e11) (jC e12)) (A3.mk (jC e20) (jC e21) (jC e22)))))) 0), (jN (A3.mk (jC w0) (jC w1) (jC w2)))] (.tup [(kJ (qD.mk (jV.mk (jG.mk false []) (jG.mk false [])) (jV.mk (jG.mk false []) (jG.mk false [])))), (jM (jV.mk (jG.mk false []) (jG.mk false []))), (.val (.bool (false)))]) := by
 let y1 := (jV.mk (jG.mk false []) (jG.mk false []))
 refine jK Tryz.func95 rfl cb95 rfl ?_
 show uY _ _ _ _ ⟨[(0, (.d (.cptr 1000001 (kY.cells (cU (RRp.mk (kH.mk (jL.mk lx ly lz) (jO.mk la lb lc ld) lf (kI.mk lu lv)) (kH.mk (jL.mk rx ry rz) (jO.mk ra rb rc rd) rf (kI.mk ru rv)) (A3.mk (jC b0) (jC b1) (jC b2)) (A3.mk (A3.mk (jC e00) (jC e01) (jC e02)) (A3.mk (jC e10) (jC e11) (jC e12)) (A3.mk (jC e20) (jC e21) (jC e22)))))) 0))), (1, (.d (jN (A3.mk (jC w0) (jC w1) (jC w2)))))], []⟩
 refine jA <| kx [(3, (.ref 0 0)), (4, (.ref 1 0)), (5, (.ref 2 0))] [(0, some (bx (jN (A3.mk (jC w0) (jC w1) (jC w2))))), (1, some (bx (kJ (qD.mk y1 y1)))), (2, some (bx (jM y1)))] (zN (vN 0) <| zN (qP 1 gG gE) <| zN (qP 2 qF qQ) <| zM <| zZ) ?_
 refine jA ?_
 have bn1 : QL (jF e00 e01 e02 w0 w1 w2) 6000002 := (jQ (n := 1000000) (k := 6000002) (qu qV) (qu qW) (qu qU) hw0 hw1 hw2 (by decide))
 have bn2 : QL (jF e10 e11 e12 w0 w1 w2) 6000002 := (jQ (n := 1000000) (k := 6000002) (qu uC) (qu uE) (qu uD) hw0 hw1 hw2 (by decide))
 have bn3 : QL (jF e20 e21 e22 w0 w1 w2) 6000002 := (jQ (n := 1000000) (k := 6000002) (qu qJ) (qu qI) (qu qK) hw0 hw1 hw2 (by decide))
 refine kd [(7, (.ref 3 0))] [(3, some (bx (jN (A3.mk (jC (jF e00 e01 e02 w0 w1 w2)) (jC (jF e10 e11 e12 w0 w1 w2)) (jC (jF e20 e21 e22 w0 w1 w2))))))] mo (wM <| wE oNd <| wE (oFc dI) <| wE (eD gS) <| wR (jZ uQ) <| wE (jX (aB e00 e01 e02 e10 e11 e12 e20 e21 e22 (qu qV) (qu qW) (qu qU) (qu uC) (qu uE) (qu uD) (qu qJ) (qu qI) (qu qK) w0 w1 w2 (qu hw0) (qu hw1) (qu hw2))) <| wN (qP 3 nO nN) <| wT (kU uQ) <| wZ) ?_
 refine jA <| jA <| kx [(21, (vb true))] [] (zE (vM uB 2) <| zR (jZ jR) <| zE (jX (f_sign (jC (jF e20 e21 e22 w0 w1 w2)) (jF e20 e21 e22 w0 w1 w2) (kB (kC bn3) (by decide)))) <| zE (qN true oLe (by exact decide_eq_true hd)) <| zZ) ?_
 refine jY ?_
 refine jA <| kx [(6, (vb false))] [(1, some (bx (kJ (qD.mk y1 y1)))), (2, some (bx (jM y1)))] (zE (oBd pl56 gG gE) <| zE (oBd pl42 qF qQ) <| zT (kU yF) <| zT (kU jR) <| zM <| zZ) ?_
 refine jH ⟨_, (kZ (cs := (bx (kJ (qD.mk (jV.mk (jG.mk false []) (jG.mk false [])) (jV.mk (jG.mk false []) (jG.mk false [])))))) (d := (kJ (qD.mk (jV.mk (jG.mk false []) (jG.mk false [])) (jV.mk (jG.mk false []) (jG.mk false []))))) rfl rfl yF rfl rfl (kZ (cs := (bx (jM (jV.mk (jG.mk false []) (jG.mk false []))))) (d := (jM (jV.mk (jG.mk false []) (jG.mk false [])))) rfl rfl jR rfl rfl (.tmp (d := (.val (.bool (false)))) rfl .nil))), ?_⟩
 rfl
theorem q_coo (lx ly lz la lb lc ld lf lu lv rx ry rz ra rb rc rd rf ru rv : Int) (b0 b1 b2 e00 e01 e02 e10 e11 e12 e20 e21 e22 : Rat) (vJ : QL b0 3) (vH : QL b1 3) (vI : QL b2 3) (qV : QL e00 400) (qW : QL e01 400) (qU : QL e02 400) (uC : QL e10 400) (uE : QL e11 400) (uD : QL e12 400) (qJ : QL e20 400) (qI : QL e21 400) (qK : QL e22 400) (w0 w1 w2 : Rat) (hw0 : QL w0 1000000) (hw1 : QL w1 1000000) (hw2 : QL w2 1000000) (hd : ¬ (qZ (jF e20 e21 e22 w0 w1 w2)) ≤ 0) : kD Tryz.prog 95 [(.cptr 1000001 (kY.cells (cU (RRp.mk (kH.mk (jL.mk lx ly lz) (jO.mk la lb lc ld) lf (kI.mk lu lv)) (kH.mk (jL.mk rx ry rz) (jO.mk ra rb rc rd) rf (kI.mk ru rv)) (A3.mk (jC b0) (jC b1) (jC b2)) (A3.mk (A3.mk (jC e00) (jC e01) (jC e02)) (A3.mk (jC e10) (jC e11) (jC e12)) (A3.mk (jC e20) (jC e21) (jC e22)))))) 0), (jN (A3.mk (jC w0) (jC w1) (jC w2)))] (.tup [(kJ (qD.mk (jC ((jF e00 e01 e02 w0 w1 w2) / (jF e20 e21 e22 w0 w1 w2))) (jC ((jF e10 e11 e12 w0 w1 w2) / (jF e20 e21 e22 w0 w1 w2))))), (jM (jC (jF e20 e21 e22 w0 w1 w2))), (.val (.bool (true)))]) := by
 refine jK Tryz.func95 rfl cb95 rfl ?_
 show uY _ _ _ _ ⟨[(0, (.d (.cptr 1000001 (kY.cells (cU (RRp.mk (kH.mk (jL.mk lx ly lz) (jO.mk la lb lc ld) lf (kI.mk lu lv)) (kH.mk (jL.mk rx ry rz) (jO.mk ra rb rc rd) rf (kI.mk ru rv)) (A3.mk (jC b0) (jC b1) (jC b2)) (A3.mk (A3.mk (jC e00) (jC e01) (jC e02)) (A3.mk (jC e10) (jC e11) (jC e12)) (A3.mk (jC e20) (jC e21) (jC e22)))))) 0))), (1, (.d (jN (A3.mk (jC w0) (jC w1) (jC w2)))))], []⟩
 refine jA <| kx [(3, (.ref 0 0)), (4, (.ref 1 0)), (5, (.ref 2 0))] [(0, some (bx (jN (A3.mk (jC w0) (jC w1) (jC w2))))), (1, some (bx (kJ (qD.mk (jV.mk (jG.mk false []) (jG.mk false [])) (jV.mk (jG.mk false []) (jG.mk false [])))))), (2, some (bx (jM (jV.mk (jG.mk false []) (jG.mk false [])))))] (zN (vN 0) <| zN (qP 1 gG gE) <| zN (qP 2 qF qQ) <| zM <| zZ) ?_
 refine jA ?_
 have bn1 : QL (jF e00 e01 e02 w0 w1 w2) 6000002 := (jQ (n := 1000000) (k := 6000002) (qu qV) (qu qW) (qu qU) hw0 hw1 hw2 (by decide))
 have bn2 : QL (jF e10 e11 e12 w0 w1 w2) 6000002 := (jQ (n := 1000000) (k := 6000002) (qu uC) (qu uE) (qu uD) hw0 hw1 hw2 (by decide))
 have bn3 : QL (jF e20 e21 e22 w0 w1 w2) 6000002 := (jQ (n := 1000000) (k := 6000002) (qu qJ) (qu qI) (qu qK) hw0 hw1 hw2 (by decide))
 refine kd [(7, (.ref 3 0))] [(3, some (bx (jN (A3.mk (jC (jF e00 e01 e02 w0 w1 w2)) (jC (jF e10 e11 e12 w0 w1 w2)) (jC (jF e20 e21 e22 w0 w1 w2))))))] mo (wM <| wE oNd <| wE (oFc dI) <| wE (eD gS) <| wR (jZ uQ) <| wE (jX (aB e00 e01 e02 e10 e11 e12 e20 e21 e22 (qu qV) (qu qW) (qu qU) (qu uC) (qu uE) (qu uD) (qu qJ) (qu qI) (qu qK) w0 w1 w2 (qu hw0) (qu hw1) (qu hw2))) <| wN (qP 3 nO nN) <| wT (kU uQ) <| wZ) ?_
 refine jA <| jA <| kx [(21, (vb false))] [] (zE (vM uB 2) <| zR (jZ jR) <| zE (jX (f_sign (jC (jF e20 e21 e22 w0 w1 w2)) (jF e20 e21 e22 w0 w1 w2) (kB (kC bn3) (by decide)))) <| zE (qN false oLe (by exact decide_eq_false hd)) <| zZ) ?_
 refine kG ?_
 refine jD <| jA <| kx [(8, (.ref 4 0))] [(4, some (bx (jM (jC ((jF e00 e01 e02 w0 w1 w2) / (jF e20 e21 e22 w0 w1 w2))))))] (zE (vM uB 0) <| zR (jZ jR) <| zE (vM uB 2) <| zR (jZ jR) <| zE (jX (by have h := f_divide (jC (jF e00 e01 e02 w0 w1 w2)) (jC (jF e20 e21 e22 w0 w1 w2)) (jF e00 e01 e02 w0 w1 w2) (jF e20 e21 e22 w0 w1 w2) (kB (kC bn1) (by decide)) (kB (kC bn3) (by decide)); rw [divR_ne (nY hd), divC_ne (nY hd)] at h; exact h)) <| zM <| zE uG <| zE uG <| zN (qP 4 qF qQ) <| zT (kU jR) <| zM <| zZ) ?_
 refine jA <| kx [(10, (.ref 5 0))] [(5, some (bx (jM (jC ((jF e10 e11 e12 w0 w1 w2) / (jF e20 e21 e22 w0 w1 w2))))))] (zE (vM uB 1) <| zR (jZ jR) <| zE (vM uB 2) <| zR (jZ jR) <| zE (jX (by have h := f_divide (jC (jF e10 e11 e12 w0 w1 w2)) (jC (jF e20 e21 e22 w0 w1 w2)) (jF e10 e11 e12 w0 w1 w2) (jF e20 e21 e22 w0 w1 w2) (kB (kC bn2) (by decide)) (kB (kC bn3) (by decide)); rw [divR_ne (nY hd), divC_ne (nY hd)] at h; exact h)) <| zM <| zE uG <| zE uG <| zN (qP 5 qF qQ) <| zT (kU jR) <| zM <| zZ) ?_
 refine jA <| kd [(6, (vb true))] [(1, some (bx (kJ (qD.mk (jC ((jF e00 e01 e02 w0 w1 w2) / (jF e20 e21 e22 w0 w1 w2))) (jC ((jF e10 e11 e12 w0 w1 w2) / (jF e20 e21 e22 w0 w1 w2))))))), (2, some (bx (jM (jC (jF e20 e21 e22 w0 w1 w2)))))] mo (wR (jZ jR) <| wR (jZ jR) <| wE (oBd pl56 gG gE) <| wE (vM uB 2) <| wR (jZ jR) <| wT (kU yF) <| wT (kU jR) <| wM <| wZ) ?_
 refine jH ⟨_, (kZ (cs := (bx (kJ (qD.mk (jC ((jF e00 e01 e02 w0 w1 w2) / (jF e20 e21 e22 w0 w1 w2))) (jC ((jF e10 e11 e12 w0 w1 w2) / (jF e20 e21 e22 w0 w1 w2))))))) (d := (kJ (qD.mk (jC ((jF e00 e01 e02 w0 w1 w2) / (jF e20 e21 e22 w0 w1 w2))) (jC ((jF e10 e11 e12 w0 w1 w2) / (jF e20 e21 e22 w0 w1 w2)))))) rfl rfl yF rfl rfl (kZ (cs := (bx (jM (jC (jF e20 e21 e22 w0 w1 w2))))) (d := (jM (jC (jF e20 e21 e22 w0 w1 w2)))) rfl rfl jR rfl rfl (.tmp (d := (.val (.bool (true)))) rfl .nil))), ?_⟩
 rfl
end Go.Proofs.YtbecgnplakngdaaGreat
namespace Go.Proofs.YtbecgnplakngdaaGreat
open Go.Fid
set_option maxRecDepth 4000
set_option linter.unusedVariables false
set_option linter.unusedSimpArgs false
theorem cb19 : callB Tryz.prog 19 = true := by kernel_rfl
theorem cb20 : callB Tryz.prog 20 = true := by kernel_rfl
theorem cb31 : callB Tryz.prog 31 = true := by kernel_rfl
theorem cb99 : callB Tryz.prog 99 = true := by kernel_rfl
theorem mA (tx ty tz ta tb tc td tf tu tv : Int) (w0 w1 w2 : Rat) (hw0 : QL w0 100000) (hw1 : QL w1 100000) (hw2 : QL w2 100000) (hst : uP tx ty tz tu tv tf ta tb tc td = 0) (hs2 : (qZ (jF (uK ta tb tc td) (uL ta tb tc td) (uO ta tb tc td) w0 w1 w2)) ≤ 0) : kD Tryz.prog 19 [(uX (kH.mk (jL.mk tx ty tz) (jO.mk ta tb tc td) tf (kI.mk tu tv))), (jN (A3.mk (jC w0) (jC w1) (jC w2)))] (.tup [(kJ (qD.mk (jV.mk (jG.mk false []) (jG.mk false [])) (jV.mk (jG.mk false []) (jG.mk false [])))), (.val (.int .i64 (20)))]) := by
 obtain ⟨htx, hty, htz, htu, htv, htf, htq⟩ := uS hst
 obtain ⟨hta, htb, htc, htd, -⟩ := uW htq
 have hnt := yN hta htb htc htd
 refine jK Tryz.func19 rfl cb19 rfl ?_
 show uY _ _ _ _ ⟨[(0, (.d (uX (kH.mk (jL.mk tx ty tz) (jO.mk ta tb tc td) tf (kI.mk tu tv))))), (1, (.d (jN (A3.mk (jC w0) (jC w1) (jC w2)))))], []⟩
 refine jA <| kx [(2, (.ref 0 0)), (3, (.ref 1 0)), (4, (.ref 2 0))] [(0, some (bx (uX (kH.mk (jL.mk tx ty tz) (jO.mk ta tb tc td) tf (kI.mk tu tv))))), (1, some (bx (jN (A3.mk (jC w0) (jC w1) (jC w2))))), (2, some (bx (kJ (qD.mk (jV.mk (jG.mk false []) (jG.mk false [])) (jV.mk (jG.mk false []) (jG.mk false []))))))] (zN (vN 0) <| zN (vN 1) <| zN (qP 2 gG gE) <| zM <| zZ) ?_
 refine jA ?_
 have bn1 : QL (xY ta tb tc td) 3 := (eZ)
 have bn2 : QL (xW ta tb tc td) 3 := (fC)
 have bn3 : QL (uK ta tb tc td) 3 := (mG)
 have bn4 : QL (zC ta tb tc td) 3 := (eW)
 have bn5 : QL (zD ta tb tc td) 3 := (fF)
 have bn6 : QL (uL ta tb tc td) 3 := (mT)
 have bn7 : QL (zI ta tb tc td) 3 := (fD)
 have bn8 : QL (zG ta tb tc td) 3 := (eX)
 have bn9 : QL (uO ta tb tc td) 3 := (mS)
 have bn10 : QL (jF (xY ta tb tc td) (zC ta tb tc td) (zI ta tb tc td) w0 w1 w2) 300011 := (jT (Eq.symm (yZ (xY ta tb tc td) (zC ta tb tc td) (zI ta tb tc td) w0 w1 w2)) (uF (k := 300011) (uF (k := 200007) (jI (k := 100003) bn1 hw0 (by decide)) (jI (k := 100003) bn4 hw1 (by decide)) (by decide)) (jI (k := 100003) bn7 hw2 (by decide)) (by decide)))
 have bn11 : QL (jF (xW ta tb tc td) (zD ta tb tc td) (zG ta tb tc td) w0 w1 w2) 300011 := (jT (Eq.symm (yZ (xW ta tb tc td) (zD ta tb tc td) (zG ta tb tc td) w0 w1 w2)) (uF (k := 300011) (uF (k := 200007) (jI (k := 100003) bn2 hw0 (by decide)) (jI (k := 100003) bn5 hw1 (by decide)) (by decide)) (jI (k := 100003) bn8 hw2 (by decide)) (by decide)))
 have bn12 : QL (jF (uK ta tb tc td) (uL ta tb tc td) (uO ta tb tc td) w0 w1 w2) 300011 := (jT (Eq.symm (yZ (uK ta tb tc td) (uL ta tb tc td) (uO ta tb tc td) w0 w1 w2)) (uF (k := 300011) (uF (k := 200007) (jI (k := 100003) bn3 hw0 (by decide)) (jI (k := 100003) bn6 hw1 (by decide)) (by decide)) (jI (k := 100003) bn9 hw2 (by decide)) (by decide)))
 refine kd [(6, (.ref 3 0))] [(3, some (bx (jN (A3.mk (jC (jF (xY ta tb tc td) (zC ta tb tc td) (zI ta tb tc td) w0 w1 w2)) (jC (jF (xW ta tb tc td) (zD ta tb tc td) (zG ta tb tc td) w0 w1 w2)) (jC (jF (uK ta tb tc td) (uL ta tb tc td) (uO ta tb tc td) w0 w1 w2))))))] mo (wE (kO gU) <| wR (jZ yR) <| wE (jX (qs_mat ta tb tc td (by omega) (by omega) (by omega) (by omega) htq)) <| wR (jZ xJ) <| wE (jX (by have h := qs_back (xY ta tb tc td) (xW ta tb tc td) (uK ta tb tc td) (zC ta tb tc td) (zD ta tb tc td) (uL ta tb tc td) (zI ta tb tc td) (zG ta tb tc td) (uO ta tb tc td) (qu bn1) (qu bn2) (qu bn3) (qu bn4) (qu bn5) (qu bn6) (qu bn7) (qu bn8) (qu bn9) w0 w1 w2 (qu hw0) (qu hw1) (qu hw2); rw [(yZ (xY ta tb tc td) (zC ta tb tc td) (zI ta tb tc td) w0 w1 w2), (yZ (xW ta tb tc td) (zD ta tb tc td) (zG ta tb tc td) w0 w1 w2), (yZ (uK ta tb tc td) (uL ta tb tc td) (uO ta tb tc td) w0 w1 w2)] at h; exact h)) <| wN (qP 3 fN fP) <| wT (kU xJ) <| wZ) ?_
 refine jA <| jA <| kx [(17, (vb true))] [] (zE (vM yE 2) <| zR (jZ jR) <| zE (jX (g_sign (jC (jF (uK ta tb tc td) (uL ta tb tc td) (uO ta tb tc td) w0 w1 w2)) (jF (uK ta tb tc td) (uL ta tb tc td) (uO ta tb tc td) w0 w1 w2) (kB (kC bn12) (by decide)))) <| zE (qN true oLe (by exact decide_eq_true hs2)) <| zZ) ?_
 refine jY ?_
 refine jA <| kx [(5, (kE 20))] [(2, some (bx (kJ (qD.mk (jV.mk (jG.mk false []) (jG.mk false [])) (jV.mk (jG.mk false []) (jG.mk false []))))))] (zE (oBd pl56 gG gE) <| zT (kU yF) <| zM <| zZ) ?_
 refine jH ⟨_, (kZ (cs := (bx (kJ (qD.mk (jV.mk (jG.mk false []) (jG.mk false [])) (jV.mk (jG.mk false []) (jG.mk false [])))))) (d := (kJ (qD.mk (jV.mk (jG.mk false []) (jG.mk false [])) (jV.mk (jG.mk false []) (jG.mk false []))))) rfl rfl yF rfl rfl (.tmp (d := (.val (.int .i64 (((20 : Nat) : Int))))) rfl .nil)), ?_⟩
 rfl
theorem cR (tx ty tz ta tb tc td tf tu tv : Int) (w0 w1 w2 : Rat) (hw0 : QL w0 100000) (hw1 : QL w1 100000) (hw2 : QL w2 100000) (hst : uP tx ty tz tu tv tf ta tb tc td = 0) (hs2 : ¬ (qZ (jF (uK ta tb tc td) (uL ta tb tc td) (uO ta tb tc td) w0 w1 w2)) ≤ 0) : kD Tryz.prog 19 [(uX (kH.mk (jL.mk tx ty tz) (jO.mk ta tb tc td) tf (kI.mk tu tv))), (jN (A3.mk (jC w0) (jC w1) (jC w2)))] (.tup [(kJ (qD.mk (jC (((tu : Int) : Rat) + ((((tf : Int) : Rat) * (jF (xY ta tb tc td) (zC ta tb tc td) (zI ta tb tc td) w0 w1 w2)) / (jF (uK ta tb tc td) (uL ta tb tc td) (uO ta tb tc td) w0 w1 w2)))) (jC (((tv : Int) : Rat) + ((((tf : Int) : Rat) * (jF (xW ta tb tc td) (zD ta tb tc td) (zG ta tb tc td) w0 w1 w2)) / (jF (uK ta tb tc td) (uL ta tb tc td) (uO ta tb tc td) w0 w1 w2)))))), (.val (.int .i64 (0)))]) := by
 obtain ⟨htx, hty, htz, htu, htv, htf, htq⟩ := uS hst
 obtain ⟨hta, htb, htc, htd, -⟩ := uW htq
 have hnt := yN hta htb htc htd
 let y1 := (jC (((tf : Int) : Rat) / (jF (uK ta tb tc td) (uL ta tb tc td) (uO ta tb tc td) w0 w1 w2)))
 refine jK Tryz.func19 rfl cb19 rfl ?_
 show uY _ _ _ _ ⟨[(0, (.d (uX (kH.mk (jL.mk tx ty tz) (jO.mk ta tb tc td) tf (kI.mk tu tv))))), (1, (.d (jN (A3.mk (jC w0) (jC w1) (jC w2)))))], []⟩
 refine jA <| kx [(2, (.ref 0 0)), (3, (.ref 1 0)), (4, (.ref 2 0))] [(0, some (bx (uX (kH.mk (jL.mk tx ty tz) (jO.mk ta tb tc td) tf (kI.mk tu tv))))), (1, some (bx (jN (A3.mk (jC w0) (jC w1) (jC w2))))), (2, some (bx (kJ (qD.mk (jV.mk (jG.mk false []) (jG.mk false [])) (jV.mk (jG.mk false []) (jG.mk false []))))))] (zN (vN 0) <| zN (vN 1) <| zN (qP 2 gG gE) <| zM <| zZ) ?_
 refine jA ?_
 have bn1 : QL (xY ta tb tc td) 3 := (eZ)
 have bn2 : QL (xW ta tb tc td) 3 := (fC)
 have bn3 : QL (uK ta tb tc td) 3 := (mG)
 have bn4 : QL (zC ta tb tc td) 3 := (eW)
 have bn5 : QL (zD ta tb tc td) 3 := (fF)
 have bn6 : QL (uL ta tb tc td) 3 := (mT)
 have bn7 : QL (zI ta tb tc td) 3 := (fD)
 have bn8 : QL (zG ta tb tc td) 3 := (eX)
 have bn9 : QL (uO ta tb tc td) 3 := (mS)
 have bn10 : QL (jF (xY ta tb tc td) (zC ta tb tc td) (zI ta tb tc td) w0 w1 w2) 300011 := (jT (Eq.symm (yZ (xY ta tb tc td) (zC ta tb tc td) (zI ta tb tc td) w0 w1 w2)) (uF (k := 300011) (uF (k := 200007) (jI (k := 100003) bn1 hw0 (by decide)) (jI (k := 100003) bn4 hw1 (by decide)) (by decide)) (jI (k := 100003) bn7 hw2 (by decide)) (by decide)))
 have bn11 : QL (jF (xW ta tb tc td) (zD ta tb tc td) (zG ta tb tc td) w0 w1 w2) 300011 := (jT (Eq.symm (yZ (xW ta tb tc td) (zD ta tb tc td) (zG ta tb tc td) w0 w1 w2)) (uF (k := 300011) (uF (k := 200007) (jI (k := 100003) bn2 hw0 (by decide)) (jI (k := 100003) bn5 hw1 (by decide)) (by decide)) (jI (k := 100003) bn8 hw2 (by decide)) (by decide)))
 have bn12 : QL (jF (uK ta tb tc td) (uL ta tb tc td) (uO ta tb tc td) w0 w1 w2) 300011 := (jT (Eq.symm (yZ (uK ta tb tc td) (uL ta tb tc td) (uO ta tb tc td) w0 w1 w2)) (uF (k := 300011) (uF (k := 200007) (jI (k := 100003) bn3 hw0 (by decide)) (jI (k := 100003) bn6 hw1 (by decide)) (by decide)) (jI (k := 100003) bn9 hw2 (by decide)) (by decide)))
 refine kd [(6, (.ref 3 0))] [(3, some (bx (jN (A3.mk (jC (jF (xY ta tb tc td) (zC ta tb tc td) (zI ta tb tc td) w0 w1 w2)) (jC (jF (xW ta tb tc td) (zD ta tb tc td) (zG ta tb tc td) w0 w1 w2)) (jC (jF (uK ta tb tc td) (uL ta tb tc td) (uO ta tb tc td) w0 w1 w2))))))] mo (wE (kO gU) <| wR (jZ yR) <| wE (jX (qs_mat ta tb tc td (by omega) (by omega) (by omega) (by omega) htq)) <| wR (jZ xJ) <| wE (jX (by have h := qs_back (xY ta tb tc td) (xW ta tb tc td) (uK ta tb tc td) (zC ta tb tc td) (zD ta tb tc td) (uL ta tb tc td) (zI ta tb tc td) (zG ta tb tc td) (uO ta tb tc td) (qu bn1) (qu bn2) (qu bn3) (qu bn4) (qu bn5) (qu bn6) (qu bn7) (qu bn8) (qu bn9) w0 w1 w2 (qu hw0) (qu hw1) (qu hw2); rw [(yZ (xY ta tb tc td) (zC ta tb tc td) (zI ta tb tc td) w0 w1 w2), (yZ (xW ta tb tc td) (zD ta tb tc td) (zG ta tb tc td) w0 w1 w2), (yZ (uK ta tb tc td) (uL ta tb tc td) (uO ta tb tc td) w0 w1 w2)] at h; exact h)) <| wN (qP 3 fN fP) <| wT (kU xJ) <| wZ) ?_
 refine jA <| jA <| kx [(17, (vb false))] [] (zE (vM yE 2) <| zR (jZ jR) <| zE (jX (g_sign (jC (jF (uK ta tb tc td) (uL ta tb tc td) (uO ta tb tc td) w0 w1 w2)) (jF (uK ta tb tc td) (uL ta tb tc td) (uO ta tb tc td) w0 w1 w2) (kB (kC bn12) (by decide)))) <| zE (qN false oLe (by exact decide_eq_false hs2)) <| zZ) ?_
 refine kG ?_
 refine jD <| jA ?_
 have bn13 : QL ((tf : Int) : Rat) 3 := (kQ (z := tf) (jP (by omega) (by omega)) (by decide))
 refine kd [(7, (.ref 4 0))] [(4, some (bx (jM y1)))] mo (wE (kO fo29_2) <| wR (uM uH) <| wE (jX (cN tf (by omega) (by omega))) <| wE (vM yE 2) <| wR (jZ jR) <| wE (jX (by have h := g_divide (jC ((tf : Int) : Rat)) (jC (jF (uK ta tb tc td) (uL ta tb tc td) (uO ta tb tc td) w0 w1 w2)) ((tf : Int) : Rat) (jF (uK ta tb tc td) (uL ta tb tc td) (uO ta tb tc td) w0 w1 w2) (kB (kC bn13) (by decide)) (kB (kC bn12) (by decide)); rw [divR_ne (nY hs2), divC_ne (nY hs2)] at h; exact h)) <| wM <| wE uG <| wE uG <| wN (qP 4 qF qQ) <| wT (kU jR) <| wM <| wZ) ?_
 refine jA ?_
 have bn14 : QL ((tu : Int) : Rat) 3 := (kQ (z := tu) (jP (by omega) (by omega)) (by decide))
 have bn15 : QL ((((tf : Int) : Rat) * (jF (xY ta tb tc td) (zC ta tb tc td) (zI ta tb tc td) w0 w1 w2)) / (jF (uK ta tb tc td) (uL ta tb tc td) (uO ta tb tc td) w0 w1 w2)) 600025 := (jT (Eq.symm (div_mul_q ((tf : Int) : Rat) (jF (uK ta tb tc td) (uL ta tb tc td) (uO ta tb tc td) w0 w1 w2) (jF (xY ta tb tc td) (zC ta tb tc td) (zI ta tb tc td) w0 w1 w2))) (jI (k := 600025) (vE (k := 300014) bn13 bn12 (by decide)) bn10 (by decide)))
 have bn16 : QL ((tv : Int) : Rat) 3 := (kQ (z := tv) (jP (by omega) (by omega)) (by decide))
 have bn17 : QL ((((tf : Int) : Rat) * (jF (xW ta tb tc td) (zD ta tb tc td) (zG ta tb tc td) w0 w1 w2)) / (jF (uK ta tb tc td) (uL ta tb tc td) (uO ta tb tc td) w0 w1 w2)) 600025 := (jT (Eq.symm (div_mul_q ((tf : Int) : Rat) (jF (uK ta tb tc td) (uL ta tb tc td) (uO ta tb tc td) w0 w1 w2) (jF (xW ta tb tc td) (zD ta tb tc td) (zG ta tb tc td) w0 w1 w2))) (jI (k := 600025) (vE (k := 300014) bn13 bn12 (by decide)) bn11 (by decide)))
 refine kd [(5, (kE 0))] [(2, some (bx (kJ (qD.mk (jC (((tu : Int) : Rat) + ((((tf : Int) : Rat) * (jF (xY ta tb tc td) (zC ta tb tc td) (zI ta tb tc td) w0 w1 w2)) / (jF (uK ta tb tc td) (uL ta tb tc td) (uO ta tb tc td) w0 w1 w2)))) (jC (((tv : Int) : Rat) + ((((tf : Int) : Rat) * (jF (xW ta tb tc td) (zD ta tb tc td) (zG ta tb tc td) w0 w1 w2)) / (jF (uK ta tb tc td) (uL ta tb tc td) (uO ta tb tc td) w0 w1 w2))))))))] mo (wE (kO fo29_3) <| wE (kO fo27_0) <| wR (uM uH) <| wE (jX (cN tu (by omega) (by omega))) <| wR (jZ jR) <| wE (vM yE 0) <| wR (jZ jR) <| wE (jX (by have h := eP y1 (jC (jF (xY ta tb tc td) (zC ta tb tc td) (zI ta tb tc td) w0 w1 w2)) (((tf : Int) : Rat) / (jF (uK ta tb tc td) (uL ta tb tc td) (uO ta tb tc td) w0 w1 w2)) (jF (xY ta tb tc td) (zC ta tb tc td) (zI ta tb tc td) w0 w1 w2) (kB (kC (vE (k := 300014) bn13 bn12 (by decide))) (by decide)) (kB (kC bn10) (by decide)); rw [(div_mul_q ((tf : Int) : Rat) (jF (uK ta tb tc td) (uL ta tb tc td) (uO ta tb tc td) w0 w1 w2) (jF (xY ta tb tc td) (zC ta tb tc td) (zI ta tb tc td) w0 w1 w2))] at h; exact h)) <| wE (jX (g_add (jC ((tu : Int) : Rat)) (jC ((((tf : Int) : Rat) * (jF (xY ta tb tc td) (zC ta tb tc td) (zI ta tb tc td) w0 w1 w2)) / (jF (uK ta tb tc td) (uL ta tb tc td) (uO ta tb tc td) w0 w1 w2))) ((tu : Int) : Rat) ((((tf : Int) : Rat) * (jF (xY ta tb tc td) (zC ta tb tc td) (zI ta tb tc td) w0 w1 w2)) / (jF (uK ta tb tc td) (uL ta tb tc td) (uO ta tb tc td) w0 w1 w2)) (kB (kC bn14) (by decide)) (kB (kC bn15) (by decide)))) <| wE (kO fo29_3) <| wE (kO fo27_1) <| wR (uM uH) <| wE (jX (cN tv (by omega) (by omega))) <| wR (jZ jR) <| wE (vM yE 1) <| wR (jZ jR) <| wE (jX (by have h := eP y1 (jC (jF (xW ta tb tc td) (zD ta tb tc td) (zG ta tb tc td) w0 w1 w2)) (((tf : Int) : Rat) / (jF (uK ta tb tc td) (uL ta tb tc td) (uO ta tb tc td) w0 w1 w2)) (jF (xW ta tb tc td) (zD ta tb tc td) (zG ta tb tc td) w0 w1 w2) (kB (kC (vE (k := 300014) bn13 bn12 (by decide))) (by decide)) (kB (kC bn11) (by decide)); rw [(div_mul_q ((tf : Int) : Rat) (jF (uK ta tb tc td) (uL ta tb tc td) (uO ta tb tc td) w0 w1 w2) (jF (xW ta tb tc td) (zD ta tb tc td) (zG ta tb tc td) w0 w1 w2))] at h; exact h)) <| wE (jX (g_add (jC ((tv : Int) : Rat)) (jC ((((tf : Int) : Rat) * (jF (xW ta tb tc td) (zD ta tb tc td) (zG ta tb tc td) w0 w1 w2)) / (jF (uK ta tb tc td) (uL ta tb tc td) (uO ta tb tc td) w0 w1 w2))) ((tv : Int) : Rat) ((((tf : Int) : Rat) * (jF (xW ta tb tc td) (zD ta tb tc td) (zG ta tb tc td) w0 w1 w2)) / (jF (uK ta tb tc td) (uL ta tb tc td) (uO ta tb tc td) w0 w1 w2)) (kB (kC bn16) (by decide)) (kB (kC bn17) (by decide)))) <| wE (oBd pl56 gG gE) <| wT (kU yF) <| wM <| wZ) ?_
 refine jH ⟨_, (kZ (cs := (bx (kJ (qD.mk (jC (((tu : Int) : Rat) + ((((tf : Int) : Rat) * (jF (xY ta tb tc td) (zC ta tb tc td) (zI ta tb tc td) w0 w1 w2)) / (jF (uK ta tb tc td) (uL ta tb tc td) (uO ta tb tc td) w0 w1 w2)))) (jC (((tv : Int) : Rat) + ((((tf : Int) : Rat) * (jF (xW ta tb tc td) (zD ta tb tc td) (zG ta tb tc td) w0 w1 w2)) / (jF (uK ta tb tc td) (uL ta tb tc td) (uO ta tb tc td) w0 w1 w2)))))))) (d := (kJ (qD.mk (jC (((tu : Int) : Rat) + ((((tf : Int) : Rat) * (jF (xY ta tb tc td) (zC ta tb tc td) (zI ta tb tc td) w0 w1 w2)) / (jF (uK ta tb tc td) (uL ta tb tc td) (uO ta tb tc td) w0 w1 w2)))) (jC (((tv : Int) : Rat) + ((((tf : Int) : Rat) * (jF (xW ta tb tc td) (zD ta tb tc td) (zG ta tb tc td) w0 w1 w2)) / (jF (uK ta tb tc td) (uL ta tb tc td) (uO ta tb tc td) w0 w1 w2))))))) rfl rfl yF rfl rfl (.tmp (d := (.val (.int .i64 (((0 : Nat) : Int))))) rfl .nil)), ?_⟩
 rfl
theorem gK (sx sy sz sa sb sc sd sf su sv : Int) (hsx : -1048576 ≤ sx ∧ sx ≤ 1048576) (hsy : -1048576 ≤ sy ∧ sy ≤ 1048576) (hsz : -1048576 ≤ sz ∧ sz ≤ 1048576) (px py pz : Int) (hpx : -1048576 ≤ px ∧ px ≤ 1048576) (hpy : -1048576 ≤ py ∧ py ≤ 1048576) (hpz : -1048576 ≤ pz ∧ pz ≤ 1048576) : kD Tryz.prog 20 [(uX (kH.mk (jL.mk sx sy sz) (jO.mk sa sb sc sd) sf (kI.mk su sv))), (qE (jL.mk px py pz))] (jN (A3.mk (jC ((px - sx : Int) : Rat)) (jC ((py - sy : Int) : Rat)) (jC ((pz - sz : Int) : Rat)))) := by
 refine jK Tryz.func20 rfl cb20 rfl ?_
 show uY _ _ _ _ ⟨[(0, (.d (uX (kH.mk (jL.mk sx sy sz) (jO.mk sa sb sc sd) sf (kI.mk su sv))))), (1, (.d (qE (jL.mk px py pz))))], []⟩
 refine jA <| kx [(2, (.ref 0 0)), (3, (.ref 1 0)), (4, (.ref 2 0))] [(0, some (bx (uX (kH.mk (jL.mk sx sy sz) (jO.mk sa sb sc sd) sf (kI.mk su sv))))), (1, some (bx (qE (jL.mk px py pz)))), (2, some (bx (jN (A3.mk (jV.mk (jG.mk false []) (jG.mk false [])) (jV.mk (jG.mk false []) (jG.mk false [])) (jV.mk (jG.mk false []) (jG.mk false []))))))] (zN (vN 0) <| zN (vN 1) <| zN (qP 2 fN fP) <| zZ) ?_
 refine jA ?_
 have bn1 : QL ((px - sx : Int) : Rat) 3 := (qi (px - sx))
 have bn2 : QL ((py - sy : Int) : Rat) 3 := (qi (py - sy))
 have bn3 : QL ((pz - sz : Int) : Rat) 3 := (qi (pz - sz))
 refine kx [] [(2, some (bx (jN (A3.mk (jC ((px - sx : Int) : Rat)) (jC ((py - sy : Int) : Rat)) (jC ((pz - sz : Int) : Rat))))))] (zE (kO yB) <| zR (uM uH) <| zE (kO yC) <| zE (kO yB) <| zR (uM uH) <| zE (dJ (px - sx) (hr := by exact (qG rfl (by simp only [vY]; omega) (by simp only [vZ]; omega)))) <| zE (kO yK) <| zR (uM uH) <| zE (kO yC) <| zE (kO yK) <| zR (uM uH) <| zE (dJ (py - sy) (hr := by exact (qG rfl (by simp only [vY]; omega) (by simp only [vZ]; omega)))) <| zE (kO yL) <| zR (uM uH) <| zE (kO yC) <| zE (kO yL) <| zR (uM uH) <| zE (dJ (pz - sz) (hr := by exact (qG rfl (by simp only [vY]; omega) (by simp only [vZ]; omega)))) <| zE (jX (qs_whole (px - sx) (by omega) (by omega) (py - sy) (by omega) (by omega) (pz - sz) (by omega) (by omega))) <| zT (kU xJ) <| zZ) ?_
 refine jH ⟨_, (kZ (cs := (bx (jN (A3.mk (jC ((px - sx : Int) : Rat)) (jC ((py - sy : Int) : Rat)) (jC ((pz - sz : Int) : Rat)))))) (d := (jN (A3.mk (jC ((px - sx : Int) : Rat)) (jC ((py - sy : Int) : Rat)) (jC ((pz - sz : Int) : Rat))))) rfl rfl xJ rfl rfl .nil), ?_⟩
 rfl
theorem q_canT (x y : Rat) (hx : QL x 1000000) (hy : QL y 1000000) : kD Tryz.prog 99 [(kJ (qD.mk (jC x) (jC y)))] (.val (.bool (true))) := by
 refine jK Tryz.func99 rfl cb99 rfl ?_
 show uY _ _ _ _ ⟨[(0, (.d (kJ (qD.mk (jC x) (jC y)))))], []⟩
 refine jA <| kx [(1, (.ref 0 0))] [(0, some (bx (kJ (qD.mk (jC x) (jC y)))))] (zN (vN 0) <| zM <| zZ) ?_
 refine jA <| kx [(2, (vb true))] [] (zE (kO fo56_0) <| zR (jZ jR) <| zE (qN true (jX (f_valid (jC x) x (kB (kC hx) (by decide)))) (by exact (aJ x))) <| zM <| zE (kO fo56_1) <| zR (jZ jR) <| zE (qN true (jX (f_valid (jC y) y (kB (kC hy) (by decide)))) (by exact (aJ y))) <| zE mX <| zM <| zZ) ?_
 refine jH ⟨_, (.tmp (d := (.val (.bool (true)))) rfl .nil), ?_⟩
 rfl
theorem qs_samep (x y : Rat) (hx : QL x 1000000) (hy : QL y 1000000) (u v : Rat) (hu : QL u 1000000) (hv : QL v 1000000) (hxu : x = u) (hyv : y = v) : kD Tryz.prog 31 [(kJ (qD.mk (jC x) (jC y))), (kJ (qD.mk (jC u) (jC v)))] (.val (.bool (true))) := by
 refine jK Tryz.func31 rfl cb31 rfl ?_
 show uY _ _ _ _ ⟨[(0, (.d (kJ (qD.mk (jC x) (jC y))))), (1, (.d (kJ (qD.mk (jC u) (jC v)))))], []⟩
 refine jA <| kx [(2, (.ref 0 0)), (3, (.ref 1 0))] [(0, some (bx (kJ (qD.mk (jC x) (jC y))))), (1, some (bx (kJ (qD.mk (jC u) (jC v)))))] (zN (vN 0) <| zN (vN 1) <| zM <| zZ) ?_
 refine jA <| kx [(4, (vb true))] [] (zE (kO fo56_0) <| zR (jZ jR) <| zE (kO fo56_0) <| zR (jZ jR) <| zE (qN true (jX (by have h := g_same (jC x) (jC u) x u (kB (kC hx) (by decide)) (kB (kC hu) (by decide)); rw [fW] at h; exact h)) (by exact decide_eq_true hxu)) <| zM <| zE (kO fo56_1) <| zR (jZ jR) <| zE (kO fo56_1) <| zR (jZ jR) <| zE (qN true (jX (by have h := g_same (jC y) (jC v) y v (kB (kC hy) (by decide)) (kB (kC hv) (by decide)); rw [fW] at h; exact h)) (by exact decide_eq_true hyv)) <| zE mX <| zM <| zZ) ?_
 refine jH ⟨_, (.tmp (d := (.val (.bool (true)))) rfl .nil), ?_⟩
 rfl
end Go.Proofs.YtbecgnplakngdaaGreat
