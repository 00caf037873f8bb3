/- Part 30 of a proof: rules, plain facts, and functions walked. -/
import Derived.Test.YtbecgnplakngdaaGreatM29
namespace Go.Proofs.YtbecgnplakngdaaGreat
open Go.Fid
set_option maxRecDepth 4000
set_option linter.unusedVariables false
set_option linter.unusedSimpArgs false
theorem cb14 : callB Tryz.prog 14 = true := by kernel_rfl
theorem cb68 : callB Tryz.prog 68 = true := by kernel_rfl
theorem el140 : vX Tryz.prog 140 = some (29, 10) := by kernel_rfl
theorem eqs23 : eqsB Tryz.prog 23 = some 3 := by kernel_rfl
theorem nO : xJ Tryz.prog 31 0 = some 0 := by kernel_rfl
theorem nR : xJ Tryz.prog 31 1 = some 10 := by kernel_rfl
theorem fo47_1 : xJ Tryz.prog 47 1 = some 20 := by kernel_rfl
theorem aY : xJ Tryz.prog 47 2 = some 32 := by kernel_rfl
theorem aN : xJ Tryz.prog 134 2 = some 20 := by kernel_rfl
theorem cW : xJ Tryz.prog 134 3 = some 32 := by kernel_rfl
theorem pl47 : mV Tryz.prog 47 = some [(0, 20), (20, 12), (32, 36)] := by kernel_rfl
theorem pl134 : mV Tryz.prog 134 = some [(0, 10), (10, 10), (20, 12), (32, 36)] := by kernel_rfl
theorem sh23 : uF Tryz.prog 23 = some (true, 3) := by kernel_rfl
theorem xX : uF Tryz.prog 29 = some (true, 10) := by kernel_rfl
theorem bQ : uF Tryz.prog 31 = some (true, 20) := by kernel_rfl
theorem eO : uF Tryz.prog 47 = some (true, 68) := by kernel_rfl
theorem ze23 : xH Tryz.prog 23 = some [.int .i64 0, .int .i64 0, .int .i64 0] := by kernel_rfl
theorem aZ : xH Tryz.prog 29 = some [.int .i64 0, .int .i64 0, .int .i64 0, .int .i64 0, .int .i64 0, .int .i64 0, .int .i64 0, .int .i64 0, .int .i64 0, .int .i64 0] := by kernel_rfl
theorem ze47 : xH Tryz.prog 47 = some [.int .i64 0, .int .i64 0, .int .i64 0, .int .i64 0, .int .i64 0, .int .i64 0, .int .i64 0, .int .i64 0, .int .i64 0, .int .i64 0, .int .i64 0, .int .i64 0, .int .i64 0, .int .i64 0, .int .i64 0, .int .i64 0, .int .i64 0, .int .i64 0, .int .i64 0, .int .i64 0, .bool false, .slice none 0 0, .bool false, .slice none 0 0, .bool false, .slice none 0 0, .bool false, .slice none 0 0, .bool false, .slice none 0 0, .bool false, .slice none 0 0, .bool false, .slice none 0 0, .bool false, .slice none 0 0, .bool false, .slice none 0 0, .bool false, .slice none 0 0, .bool false, .slice none 0 0, .bool false, .slice none 0 0, .bool false, .slice none 0 0, .bool false, .slice none 0 0, .bool false, .slice none 0 0, .bool false, .slice none 0 0, .bool false, .slice none 0 0, .bool false, .slice none 0 0, .bool false, .slice none 0 0, .bool false, .slice none 0 0, .bool false, .slice none 0 0, .bool false, .slice none 0 0, .bool false, .slice none 0 0, .bool false, .slice none 0 0] := by kernel_rfl
theorem ze134 : xH Tryz.prog 134 = some [.int .i64 0, .int .i64 0, .int .i64 0, .int .i64 0, .int .i64 0, .int .i64 0, .int .i64 0, .int .i64 0, .int .i64 0, .int .i64 0, .int .i64 0, .int .i64 0, .int .i64 0, .int .i64 0, .int .i64 0, .int .i64 0, .int .i64 0, .int .i64 0, .int .i64 0, .int .i64 0, .bool false, .slice none 0 0, .bool false, .slice none 0 0, .bool false, .slice none 0 0, .bool false, .slice none 0 0, .bool false, .slice none 0 0, .bool false, .slice none 0 0, .bool false, .slice none 0 0, .bool false, .slice none 0 0, .bool false, .slice none 0 0, .bool false, .slice none 0 0, .bool false, .slice none 0 0, .bool false, .slice none 0 0, .bool false, .slice none 0 0, .bool false, .slice none 0 0, .bool false, .slice none 0 0, .bool false, .slice none 0 0, .bool false, .slice none 0 0, .bool false, .slice none 0 0, .bool false, .slice none 0 0, .bool false, .slice none 0 0, .bool false, .slice none 0 0, .bool false, .slice none 0 0, .bool false, .slice none 0 0, .bool false, .slice none 0 0] := by kernel_rfl
theorem zo23 : mP [.int .i64 0, .int .i64 0, .int .i64 0] [.val (.int .i64 0), .val (.int .i64 0), .val (.int .i64 0)] := by simp [mP, Value.oneCell']
theorem bE : mP [.int .i64 0, .int .i64 0, .int .i64 0, .int .i64 0, .int .i64 0, .int .i64 0, .int .i64 0, .int .i64 0, .int .i64 0, .int .i64 0] [.val (.int .i64 0), .val (.int .i64 0), .val (.int .i64 0), .val (.int .i64 0), .val (.int .i64 0), .val (.int .i64 0), .val (.int .i64 0), .val (.int .i64 0), .val (.int .i64 0), .val (.int .i64 0)] := by simp [mP, Value.oneCell']
theorem zo47 : mP [.int .i64 0, .int .i64 0, .int .i64 0, .int .i64 0, .int .i64 0, .int .i64 0, .int .i64 0, .int .i64 0, .int .i64 0, .int .i64 0, .int .i64 0, .int .i64 0, .int .i64 0, .int .i64 0, .int .i64 0, .int .i64 0, .int .i64 0, .int .i64 0, .int .i64 0, .int .i64 0, .bool false, .slice none 0 0, .bool false, .slice none 0 0, .bool false, .slice none 0 0, .bool false, .slice none 0 0, .bool false, .slice none 0 0, .bool false, .slice none 0 0, .bool false, .slice none 0 0, .bool false, .slice none 0 0, .bool false, .slice none 0 0, .bool false, .slice none 0 0, .bool false, .slice none 0 0, .bool false, .slice none 0 0, .bool false, .slice none 0 0, .bool false, .slice none 0 0, .bool false, .slice none 0 0, .bool false, .slice none 0 0, .bool false, .slice none 0 0, .bool false, .slice none 0 0, .bool false, .slice none 0 0, .bool false, .slice none 0 0, .bool false, .slice none 0 0, .bool false, .slice none 0 0, .bool false, .slice none 0 0, .bool false, .slice none 0 0] [.val (.int .i64 0), .val (.int .i64 0), .val (.int .i64 0), .val (.int .i64 0), .val (.int .i64 0), .val (.int .i64 0), .val (.int .i64 0), .val (.int .i64 0), .val (.int .i64 0), .val (.int .i64 0), .val (.int .i64 0), .val (.int .i64 0), .val (.int .i64 0), .val (.int .i64 0), .val (.int .i64 0), .val (.int .i64 0), .val (.int .i64 0), .val (.int .i64 0), .val (.int .i64 0), .val (.int .i64 0), .val (.bool false), .sl 152 1 [], .val (.bool false), .sl 152 1 [], .val (.bool false), .sl 152 1 [], .val (.bool false), .sl 152 1 [], .val (.bool false), .sl 152 1 [], .val (.bool false), .sl 152 1 [], .val (.bool false), .sl 152 1 [], .val (.bool false), .sl 152 1 [], .val (.bool false), .sl 152 1 [], .val (.bool false), .sl 152 1 [], .val (.bool false), .sl 152 1 [], .val (.bool false), .sl 152 1 [], .val (.bool false), .sl 152 1 [], .val (.bool false), .sl 152 1 [], .val (.bool false), .sl 152 1 [], .val (.bool false), .sl 152 1 [], .val (.bool false), .sl 152 1 [], .val (.bool false), .sl 152 1 [], .val (.bool false), .sl 152 1 [], .val (.bool false), .sl 152 1 [], .val (.bool false), .sl 152 1 [], .val (.bool false), .sl 152 1 [], .val (.bool false), .sl 152 1 [], .val (.bool false), .sl 152 1 []] := by simp [mP, Value.oneCell']
theorem zo134 : mP [.int .i64 0, .int .i64 0, .int .i64 0, .int .i64 0, .int .i64 0, .int .i64 0, .int .i64 0, .int .i64 0, .int .i64 0, .int .i64 0, .int .i64 0, .int .i64 0, .int .i64 0, .int .i64 0, .int .i64 0, .int .i64 0, .int .i64 0, .int .i64 0, .int .i64 0, .int .i64 0, .bool false, .slice none 0 0, .bool false, .slice none 0 0, .bool false, .slice none 0 0, .bool false, .slice none 0 0, .bool false, .slice none 0 0, .bool false, .slice none 0 0, .bool false, .slice none 0 0, .bool false, .slice none 0 0, .bool false, .slice none 0 0, .bool false, .slice none 0 0, .bool false, .slice none 0 0, .bool false, .slice none 0 0, .bool false, .slice none 0 0, .bool false, .slice none 0 0, .bool false, .slice none 0 0, .bool false, .slice none 0 0, .bool false, .slice none 0 0, .bool false, .slice none 0 0, .bool false, .slice none 0 0, .bool false, .slice none 0 0, .bool false, .slice none 0 0, .bool false, .slice none 0 0, .bool false, .slice none 0 0, .bool false, .slice none 0 0] [.val (.int .i64 0), .val (.int .i64 0), .val (.int .i64 0), .val (.int .i64 0), .val (.int .i64 0), .val (.int .i64 0), .val (.int .i64 0), .val (.int .i64 0), .val (.int .i64 0), .val (.int .i64 0), .val (.int .i64 0), .val (.int .i64 0), .val (.int .i64 0), .val (.int .i64 0), .val (.int .i64 0), .val (.int .i64 0), .val (.int .i64 0), .val (.int .i64 0), .val (.int .i64 0), .val (.int .i64 0), .val (.bool false), .sl 152 1 [], .val (.bool false), .sl 152 1 [], .val (.bool false), .sl 152 1 [], .val (.bool false), .sl 152 1 [], .val (.bool false), .sl 152 1 [], .val (.bool false), .sl 152 1 [], .val (.bool false), .sl 152 1 [], .val (.bool false), .sl 152 1 [], .val (.bool false), .sl 152 1 [], .val (.bool false), .sl 152 1 [], .val (.bool false), .sl 152 1 [], .val (.bool false), .sl 152 1 [], .val (.bool false), .sl 152 1 [], .val (.bool false), .sl 152 1 [], .val (.bool false), .sl 152 1 [], .val (.bool false), .sl 152 1 [], .val (.bool false), .sl 152 1 [], .val (.bool false), .sl 152 1 [], .val (.bool false), .sl 152 1 [], .val (.bool false), .sl 152 1 [], .val (.bool false), .sl 152 1 [], .val (.bool false), .sl 152 1 [], .val (.bool false), .sl 152 1 [], .val (.bool false), .sl 152 1 []] := by simp [mP, Value.oneCell']
theorem q_recE1 (lx ly lz la lb lc ld lf lu lv rx ry rz ra rb rc rd rf ru rv : Int) (c : Nat) (hc : stn2 (uL lx ly lz lu lv lf la lb lc ld) (uL rx ry rz ru rv rf ra rb rc rd) = c) (hc0 : c ≠ 0) : kF Tryz.prog 68 [(qP (kY.mk (kJ.mk (jT.mk lx ly lz) (jN.mk la lb lc ld) lf (kM.mk lu lv)) (kJ.mk (jT.mk rx ry rz) (jN.mk ra rb rc rd) rf (kM.mk ru rv))))] (.tup [(.val (.pointer none)), (.val (.int .i64 (((c : Nat) : Int))))]) := by
 let y1 := (qP (kY.mk (kJ.mk (jT.mk lx ly lz) (jN.mk la lb lc ld) lf (kM.mk lu lv)) (kJ.mk (jT.mk rx ry rz) (jN.mk ra rb rc rd) rf (kM.mk ru rv))))
 refine jL Tryz.func68 rfl cb68 rfl ?_
 show uK _ _ _ _ ⟨[(0, (.d y1))], []⟩
 refine jA <| kx [(1, (.ref 0 0))] [(0, some (bx y1))] (zN (uX 0) <| zM <| zM <| zZ) ?_
 refine jA <| jA <| kx [(4, (kE (uL lx ly lz lu lv lf la lb lc ld)))] [] (zE (kU nO) <| zR (kA xX) <| zE (kC (q_stn lx ly lz la lb lc ld lf lu lv)) <| zM <| zZ) ?_
 refine jA <| kx [(17, (vb ((((uL lx ly lz lu lv lf la lb lc ld) : Nat) : Int) != 0)))] [] (zM <| zE mR <| zZ) ?_
 refine jQ rfl (fun h1 => ?_) (fun h1 => ?_)
 ·replace h1 := bne_iff_ne.1 h1
  refine jA <| kx [(2, (.d (.val (.pointer none)))), (3, (kE (uL lx ly lz lu lv lf la lb lc ld)))] [] (zM <| zM <| zM <| zZ) ?_
  refine jG ⟨_, (.tmp (d := (.val (.pointer none))) rfl (.tmp (d := (.val (.int .i64 ((((uL lx ly lz lu lv lf la lb lc ld) : Nat) : Int))))) rfl .nil)), ?_⟩
  rw [stn2_l h1 hc]; rfl
 ·replace h1 := bne_eq_false_iff_eq.1 h1
  refine jD <| jA <| jA <| kx [(5, (kE (uL rx ry rz ru rv rf ra rb rc rd)))] [] (zE (kU nR) <| zR (kA xX) <| zE (kC (q_stn rx ry rz ra rb rc rd rf ru rv)) <| zM <| zZ) ?_
  refine jA <| kx [(23, (vb ((((uL rx ry rz ru rv rf ra rb rc rd) : Nat) : Int) != 0)))] [] (zM <| zE mR <| zZ) ?_
  refine jQ rfl (fun h2 => ?_) (fun h2 => ?_)
  ·replace h2 := bne_iff_ne.1 h2
   refine jA <| kx [(2, (.d (.val (.pointer none)))), (3, (kE (uL rx ry rz ru rv rf ra rb rc rd)))] [] (zM <| zM <| zM <| zZ) ?_
   refine jG ⟨_, (.tmp (d := (.val (.pointer none))) rfl (.tmp (d := (.val (.int .i64 ((((uL rx ry rz ru rv rf ra rb rc rd) : Nat) : Int))))) rfl .nil)), ?_⟩
   rw [stn2_r h1 hc]; rfl
  ·replace h2 := bne_eq_false_iff_eq.1 h2
   exact absurd (stn2_0 (by simpa using h1) (by simpa using h2) hc) hc0
theorem q_recE2 (lx ly lz la lb lc ld lf lu lv rx ry rz ra rb rc rd rf ru rv : Int) (b0 b1 b2 : Rat) (zW : QL b0 3) (zV : QL b1 3) (zU : QL b2 3) (hl : uL lx ly lz lu lv lf la lb lc ld = 0) (hr : uL rx ry rz ru rv rf ra rb rc rd = 0) (hb0 : ((rx - lx : Int) : Rat) = b0) (hb1 : ((ry - ly : Int) : Rat) = b1) (hb2 : ((rz - lz : Int) : Rat) = b2) (hup : upV la lb lc ld ra rb rc rd b0 b1 b2 = true) : kF Tryz.prog 68 [(qP (kY.mk (kJ.mk (jT.mk lx ly lz) (jN.mk la lb lc ld) lf (kM.mk lu lv)) (kJ.mk (jT.mk rx ry rz) (jN.mk ra rb rc rd) rf (kM.mk ru rv))))] (.tup [(.val (.pointer none)), (.val (.int .i64 (13)))]) := by
 have hbl := xF hl
 have hbr := xF hr
 obtain ⟨hlx, hly, hlz, hlu, hlv, hlf, hlq⟩ := hbl
 obtain ⟨hrx, hry, hrz, hru, hrv, hrf, hrq⟩ := hbr
 obtain ⟨hla, hlb, hlc, hld, -⟩ := xG hlq
 obtain ⟨hra, hrb, hrc, hrd, -⟩ := xG hrq
 have hnl := nA hla hlb hlc hld
 have hnr := nA hra hrb hrc hrd
 let y5 := (A3.mk (kG.mk (jF.mk false []) (jF.mk false [])) (kG.mk (jF.mk false []) (jF.mk false [])) (kG.mk (jF.mk false []) (jF.mk false [])))
 let y4 := (qP (kY.mk (kJ.mk (jT.mk lx ly lz) (jN.mk la lb lc ld) lf (kM.mk lu lv)) (kJ.mk (jT.mk rx ry rz) (jN.mk ra rb rc rd) rf (kM.mk ru rv))))
 let y3 := (bx (jY (A3.mk (jC (((cJ la lb lc ld ra rb rc rd) * (b2 * (yC b0 b1 b2))) - ((cM la lb lc ld ra rb rc rd) * (b1 * (yC b0 b1 b2))))) (jC (((cM la lb lc ld ra rb rc rd) * (b0 * (yC b0 b1 b2))) - ((cK la lb lc ld ra rb rc rd) * (b2 * (yC b0 b1 b2))))) (jC (((cK la lb lc ld ra rb rc rd) * (b1 * (yC b0 b1 b2))) - ((cJ la lb lc ld ra rb rc rd) * (b0 * (yC b0 b1 b2))))))))
 let y2 := (A3.mk y5 y5 y5)
 let y1 := (bx (eG (RRp.mk (kJ.mk (jT.mk lx ly lz) (jN.mk la lb lc ld) lf (kM.mk lu lv)) (kJ.mk (jT.mk rx ry rz) (jN.mk ra rb rc rd) rf (kM.mk ru rv)) (A3.mk (jC b0) (jC b1) (jC b2)) (A3.mk (A3.mk (jC (b0 * (yC b0 b1 b2))) (jC (b1 * (yC b0 b1 b2))) (jC (b2 * (yC b0 b1 b2)))) y5 y5))))
 refine jL Tryz.func68 rfl cb68 rfl ?_
 show uK _ _ _ _ ⟨[(0, (.d y4))], []⟩
 refine jA <| kx [(1, (.ref 0 0))] [(0, some (bx y4))] (zN (uX 0) <| zM <| zM <| zZ) ?_
 refine jA <| jA <| kx [(4, (kE (uL lx ly lz lu lv lf la lb lc ld)))] [] (zE (kU nO) <| zR (kA xX) <| zE (kC (q_stn lx ly lz la lb lc ld lf lu lv)) <| zM <| zZ) ?_
 refine jA <| kx [(17, (vb false))] [] (zM <| zE (qY false mR (by exact bne_eq_false_iff_eq.2 (by rw [show (uL lx ly lz lu lv lf la lb lc ld) = 0 from hl]; rfl))) <| zZ) ?_
 refine kO ?_
 refine jD <| jA <| jA <| kx [(5, (kE (uL rx ry rz ru rv rf ra rb rc rd)))] [] (zE (kU nR) <| zR (kA xX) <| zE (kC (q_stn rx ry rz ra rb rc rd rf ru rv)) <| zM <| zZ) ?_
 refine jA <| kx [(23, (vb false))] [] (zM <| zE (qY false mR (by exact bne_eq_false_iff_eq.2 (by rw [show (uL rx ry rz ru rv rf ra rb rc rd) = 0 from hr]; rfl))) <| zZ) ?_
 refine kO ?_
 refine jD <| jA <| kx [(6, (.ref 1 0))] [(1, some (bx (eG (RRp.mk (kJ.mk (jT.mk lx ly lz) (jN.mk la lb lc ld) lf (kM.mk lu lv)) (kJ.mk (jT.mk rx ry rz) (jN.mk ra rb rc rd) rf (kM.mk ru rv)) y5 y2))))] (zE (kU nO) <| zR (kA xX) <| zE (kU nR) <| zR (kA xX) <| zE (oBd pl134 ze134 zo134) <| zN (uX 1) <| zM <| zZ) ?_
 refine jA <| kd [(7, (.ref 2 0)), (8, (.ref 3 0))] [(2, some (bx (fR (jT.mk lx ly lz)))), (3, some (bx (fR (jT.mk rx ry rz))))] mo (wE (kU nO) <| wE (kU yZ) <| wR (kA sh23) <| wE (kU nR) <| wE (kU yZ) <| wR (kA sh23) <| wN (qH 2 ze23 zo23) <| wN (qH 3 ze23 zo23) <| wT (kR sh23) <| wT (kR sh23) <| wZ) ?_
 refine jA ?_
 have bn1 : QL b0 3 := (jX (Eq.symm hb0) (qi (rx - lx)))
 have bn2 : QL b1 3 := (jX (Eq.symm hb1) (qi (ry - ly)))
 have bn3 : QL b2 3 := (jX (Eq.symm hb2) (qi (rz - lz)))
 refine kx [] [(1, some (bx (eG (RRp.mk (kJ.mk (jT.mk lx ly lz) (jN.mk la lb lc ld) lf (kM.mk lu lv)) (kJ.mk (jT.mk rx ry rz) (jN.mk ra rb rc rd) rf (kM.mk ru rv)) (A3.mk (jC b0) (jC b1) (jC b2)) y2))))] (zM <| zE (kU cO) <| zR (uM vW) <| zE (kU cO) <| zR (uM vW) <| zE (aF (rx - lx) (hr := by exact (qV rfl (by simp only [xM]; omega) (by simp only [xN]; omega)))) <| zE (kU dE) <| zR (uM vW) <| zE (kU dE) <| zR (uM vW) <| zE (aF (ry - ly) (hr := by exact (qV rfl (by simp only [xM]; omega) (by simp only [xN]; omega)))) <| zE (kU dI) <| zR (uM vW) <| zE (kU dI) <| zR (uM vW) <| zE (aF (rz - lz) (hr := by exact (qV rfl (by simp only [xM]; omega) (by simp only [xN]; omega)))) <| zE (kC (by have h := q_whole (rx - lx) (by omega) (by omega) (ry - ly) (by omega) (by omega) (rz - lz) (by omega) (by omega); rw [hb0, hb1, hb2] at h; exact h)) <| zE oNc <| zE (kU aN) <| zT (kR uN) <| zZ) ?_
 refine jA <| jA <| kx [(58, (vb (decide ([lx, ly, lz] = [rx, ry, rz]))))] [] (zR (kA sh23) <| zR (kA sh23) <| zE (oEs eqs23 .i64 [lx, ly, lz] [rx, ry, rz]) <| zZ) ?_
 refine jQ (b := (decide ([lx, ly, lz] = [rx, ry, rz]))) rfl (fun h1 => ?_) (fun h1 => ?_)
 ·replace h1 := of_decide_eq_true h1
  refine jA <| kx [(2, (.d (.val (.pointer none)))), (3, (kE 13))] [] (zM <| zM <| zZ) ?_
  refine jG ⟨_, (.tmp (d := (.val (.pointer none))) rfl (.tmp (d := (.val (.int .i64 (((13 : Nat) : Int))))) rfl .nil)), ?_⟩
  rfl
 ·replace h1 := of_decide_eq_false h1
  have hzb := zb_ne hb0 hb1 hb2 h1
  have hzs := up_zs hzb hup
  refine jD <| jA ?_
  have bn4 : QL (gD la lb lc ld) 3 := (fM)
  have bn5 : QL (gE la lb lc ld) 3 := (fO)
  have bn6 : QL (zJ la lb lc ld) 3 := (fJ)
  have bn7 : QL (gK la lb lc ld) 3 := (eZ)
  have bn8 : QL (gJ la lb lc ld) 3 := (fG)
  have bn9 : QL (yA la lb lc ld) 3 := (fA)
  have bn10 : QL (gO la lb lc ld) 3 := (fH)
  have bn11 : QL (gP la lb lc ld) 3 := (fP)
  have bn12 : QL (yB la lb lc ld) 3 := (fF)
  have bn13 : QL (gD ra rb rc rd) 3 := (fM)
  have bn14 : QL (gE ra rb rc rd) 3 := (fO)
  have bn15 : QL (zJ ra rb rc rd) 3 := (fJ)
  have bn16 : QL (gK ra rb rc rd) 3 := (eZ)
  have bn17 : QL (gJ ra rb rc rd) 3 := (fG)
  have bn18 : QL (yA ra rb rc rd) 3 := (fA)
  have bn19 : QL (gO ra rb rc rd) 3 := (fH)
  have bn20 : QL (gP ra rb rc rd) 3 := (fP)
  have bn21 : QL (yB ra rb rc rd) 3 := (fF)
  refine kd [(9, (.ref 4 0)), (10, (.ref 5 0))] [(4, some (bx (qU (A3.mk (A3.mk (jC (gD la lb lc ld)) (jC (gK la lb lc ld)) (jC (gO la lb lc ld))) (A3.mk (jC (gE la lb lc ld)) (jC (gJ la lb lc ld)) (jC (gP la lb lc ld))) (A3.mk (jC (zJ la lb lc ld)) (jC (yA la lb lc ld)) (jC (yB la lb lc ld))))))), (5, some (bx (qU (A3.mk (A3.mk (jC (gD ra rb rc rd)) (jC (gK ra rb rc rd)) (jC (gO ra rb rc rd))) (A3.mk (jC (gE ra rb rc rd)) (jC (gJ ra rb rc rd)) (jC (gP ra rb rc rd))) (A3.mk (jC (zJ ra rb rc rd)) (jC (yA ra rb rc rd)) (jC (yB ra rb rc rd)))))))] mo (wE (kU nO) <| wE (kU gF) <| wR (kA yO) <| wE (kC (q_turn la lb lc ld (by omega) (by omega) (by omega) (by omega) hlq)) <| wE (kC (eM (gD la lb lc ld) (gE la lb lc ld) (zJ la lb lc ld) (gK la lb lc ld) (gJ la lb lc ld) (yA la lb lc ld) (gO la lb lc ld) (gP la lb lc ld) (yB la lb lc ld) (qu bn4) (qu bn5) (qu bn6) (qu bn7) (qu bn8) (qu bn9) (qu bn10) (qu bn11) (qu bn12))) <| wE (kU nR) <| wE (kU gF) <| wR (kA yO) <| wE (kC (q_turn ra rb rc rd (by omega) (by omega) (by omega) (by omega) hrq)) <| wE (kC (eM (gD ra rb rc rd) (gE ra rb rc rd) (zJ ra rb rc rd) (gK ra rb rc rd) (gJ ra rb rc rd) (yA ra rb rc rd) (gO ra rb rc rd) (gP ra rb rc rd) (yB ra rb rc rd) (qu bn13) (qu bn14) (qu bn15) (qu bn16) (qu bn17) (qu bn18) (qu bn19) (qu bn20) (qu bn21))) <| wN (qH 4 eL eF) <| wN (qH 5 eL eF) <| wT (kR hC) <| wT (kR hC) <| wZ) ?_
  refine jA ?_
  have bn22 : QL (N4 ra rb rc rd) 3 := (jX (Eq.symm (show ((nq ra rb rc rd : Int) : Rat) = (N4 ra rb rc rd) from rfl)) (qC (z := (nq ra rb rc rd)) (jU (by omega) (by omega)) (by decide)))
  have bn23 : QL (N4 la lb lc ld) 3 := (jX (Eq.symm (show ((nq la lb lc ld : Int) : Rat) = (N4 la lb lc ld) from rfl)) (qC (z := (nq la lb lc ld)) (jU (by omega) (by omega)) (by decide)))
  have bn24 : QL (cK la lb lc ld ra rb rc rd) 13 := (jX (Eq.symm (dq0_eq la lb lc ld ra rb rc rd)) (yX (k := 13) (jV (k := 6) bn6 bn22 (by decide)) (jV (k := 6) bn15 bn23 (by decide)) (by decide)))
  have bn25 : QL (cJ la lb lc ld ra rb rc rd) 13 := (jX (Eq.symm (dq1_eq la lb lc ld ra rb rc rd)) (yX (k := 13) (jV (k := 6) bn9 bn22 (by decide)) (jV (k := 6) bn18 bn23 (by decide)) (by decide)))
  have bn26 : QL (cM la lb lc ld ra rb rc rd) 13 := (jX (Eq.symm (dq2_eq la lb lc ld ra rb rc rd)) (yX (k := 13) (jV (k := 6) bn12 bn22 (by decide)) (jV (k := 6) bn21 bn23 (by decide)) (by decide)))
  refine kd [(11, (.ref 6 0))] [(6, some (bx (jY (A3.mk (jC (cK la lb lc ld ra rb rc rd)) (jC (cJ la lb lc ld ra rb rc rd)) (jC (cM la lb lc ld ra rb rc rd))))))] mo (wE (uJ vY 2) <| wR (kA uN) <| wE (kU nR) <| wE (kU gF) <| wR (kA yO) <| wE (kC (q_norm ra rb rc rd (by omega) (by omega) (by omega) (by omega))) <| wE (kC (by have h := eD (nq ra rb rc rd) (by omega) (by omega); rw [(show ((nq ra rb rc rd : Int) : Rat) = (N4 ra rb rc rd) from rfl)] at h; exact h)) <| wE (kC (eJ (zJ la lb lc ld) (yA la lb lc ld) (yB la lb lc ld) (qu bn6) (qu bn9) (qu bn12) (N4 ra rb rc rd) (qu bn22))) <| wE (uJ vY 2) <| wR (kA uN) <| wE (kU nO) <| wE (kU gF) <| wR (kA yO) <| wE (kC (q_norm la lb lc ld (by omega) (by omega) (by omega) (by omega))) <| wE (kC (by have h := eD (nq la lb lc ld) (by omega) (by omega); rw [(show ((nq la lb lc ld : Int) : Rat) = (N4 la lb lc ld) from rfl)] at h; exact h)) <| wE (kC (eJ (zJ ra rb rc rd) (yA ra rb rc rd) (yB ra rb rc rd) (qu bn15) (qu bn18) (qu bn21) (N4 la lb lc ld) (qu bn23))) <| wE (kC (by have h := q_sum ((zJ la lb lc ld) * (N4 ra rb rc rd)) ((yA la lb lc ld) * (N4 ra rb rc rd)) ((yB la lb lc ld) * (N4 ra rb rc rd)) (kB (jV (k := 6) bn6 bn22 (by decide)) (by decide)) (kB (jV (k := 6) bn9 bn22 (by decide)) (by decide)) (kB (jV (k := 6) bn12 bn22 (by decide)) (by decide)) ((zJ ra rb rc rd) * (N4 la lb lc ld)) ((yA ra rb rc rd) * (N4 la lb lc ld)) ((yB ra rb rc rd) * (N4 la lb lc ld)) (kB (jV (k := 6) bn15 bn23 (by decide)) (by decide)) (kB (jV (k := 6) bn18 bn23 (by decide)) (by decide)) (kB (jV (k := 6) bn21 bn23 (by decide)) (by decide)); rw [(dq0_eq la lb lc ld ra rb rc rd), (dq1_eq la lb lc ld ra rb rc rd), (dq2_eq la lb lc ld ra rb rc rd)] at h; exact h)) <| wN (qH 6 cH cG) <| wT (kR uN) <| wZ) ?_
  refine jA ?_
  have bn27 : QL (b0 * (yC b0 b1 b2)) 6 := (jV (k := 6) bn1 (zC (n := 3) (k := 3) bn1 bn2 bn3 (by decide) (by decide)) (by decide))
  have bn28 : QL (b1 * (yC b0 b1 b2)) 6 := (jV (k := 6) bn2 (zC (n := 3) (k := 3) bn1 bn2 bn3 (by decide) (by decide)) (by decide))
  have bn29 : QL (b2 * (yC b0 b1 b2)) 6 := (jV (k := 6) bn3 (zC (n := 3) (k := 3) bn1 bn2 bn3 (by decide) (by decide)) (by decide))
  refine kd [] [(1, some y1)] mo (wM <| wM <| wE oNc <| wE (kU aN) <| wR (kA uN) <| wE (kC (q_red b0 b1 b2 (qu bn1) (qu bn2) (qu bn3) hzb)) <| wE oNc <| wE (kU cW) <| wE (uJ vY 0) <| wT (kR uN) <| wZ) ?_
  refine jA ?_
  have bn30 : QL (((cJ la lb lc ld ra rb rc rd) * (b2 * (yC b0 b1 b2))) - ((cM la lb lc ld ra rb rc rd) * (b1 * (yC b0 b1 b2)))) 39 := (qZ (k := 39) (jV (k := 19) bn25 bn29 (by decide)) (jV (k := 19) bn26 bn28 (by decide)) (by decide))
  have bn31 : QL (((cM la lb lc ld ra rb rc rd) * (b0 * (yC b0 b1 b2))) - ((cK la lb lc ld ra rb rc rd) * (b2 * (yC b0 b1 b2)))) 39 := (qZ (k := 39) (jV (k := 19) bn26 bn27 (by decide)) (jV (k := 19) bn24 bn29 (by decide)) (by decide))
  have bn32 : QL (((cK la lb lc ld ra rb rc rd) * (b1 * (yC b0 b1 b2))) - ((cJ la lb lc ld ra rb rc rd) * (b0 * (yC b0 b1 b2)))) 39 := (qZ (k := 39) (jV (k := 19) bn24 bn28 (by decide)) (jV (k := 19) bn25 bn27 (by decide)) (by decide))
  refine kd [(12, (.ref 7 0))] [(7, some y3)] mo (wR (kA uN) <| wM <| wE oNc <| wE (kU cW) <| wE (uJ vY 0) <| wR (kA uN) <| wE (kC (q_cross (cK la lb lc ld ra rb rc rd) (cJ la lb lc ld ra rb rc rd) (cM la lb lc ld ra rb rc rd) (qu bn24) (qu bn25) (qu bn26) (b0 * (yC b0 b1 b2)) (b1 * (yC b0 b1 b2)) (b2 * (yC b0 b1 b2)) (qu bn27) (qu bn28) (qu bn29))) <| wN (qH 7 cH cG) <| wT (kR uN) <| wZ) ?_
  refine jA <| jA <| kx [(103, (vb true))] [] (zR (kA uN) <| zE (qY true (kC (q_isz (((cJ la lb lc ld ra rb rc rd) * (b2 * (yC b0 b1 b2))) - ((cM la lb lc ld ra rb rc rd) * (b1 * (yC b0 b1 b2)))) (((cM la lb lc ld ra rb rc rd) * (b0 * (yC b0 b1 b2))) - ((cK la lb lc ld ra rb rc rd) * (b2 * (yC b0 b1 b2)))) (((cK la lb lc ld ra rb rc rd) * (b1 * (yC b0 b1 b2))) - ((cJ la lb lc ld ra rb rc rd) * (b0 * (yC b0 b1 b2)))) (qu bn30) (qu bn31) (qu bn32))) (by exact hzs)) <| zZ) ?_
  refine kD ?_
  refine jA <| kX (wk (l := [(6, (.ref 1 0)), (12, (.ref 7 0)), (103, (vb true))]) (b := [(1, some y1), (7, some y3)])) ?_
  refine kx [(2, (.d (.val (.pointer none)))), (3, (kE 13))] [] (zM <| zM <| zZ) ?_
  refine jG ⟨_, (.tmp (d := (.val (.pointer none))) rfl (.tmp (d := (.val (.int .i64 (((13 : Nat) : Int))))) rfl .nil)), ?_⟩
  rfl
theorem q_rec (lx ly lz la lb lc ld lf lu lv rx ry rz ra rb rc rd rf ru rv : Int) (b0 b1 b2 e00 e01 e02 e10 e11 e12 e20 e21 e22 : Rat) (hF : RFr lx ly lz la lb lc ld rx ry rz ra rb rc rd b0 b1 b2 e00 e01 e02 e10 e11 e12 e20 e21 e22) (zW : QL b0 3) (zV : QL b1 3) (zU : QL b2 3) (vF : QL e00 400) (vG : QL e01 400) (vE : QL e02 400) (vL : QL e10 400) (vM : QL e11 400) (vN : QL e12 400) (vA : QL e20 400) (vB : QL e21 400) (vC : QL e22 400) (hl : uL lx ly lz lu lv lf la lb lc ld = 0) (hr : uL rx ry rz ru rv rf ra rb rc rd = 0) (hup : upV la lb lc ld ra rb rc rd b0 b1 b2 = false) : kF Tryz.prog 68 [(qP (kY.mk (kJ.mk (jT.mk lx ly lz) (jN.mk la lb lc ld) lf (kM.mk lu lv)) (kJ.mk (jT.mk rx ry rz) (jN.mk ra rb rc rd) rf (kM.mk ru rv))))] (.tup [(.cptr 1000001 (qF.cells (eG (RRp.mk (kJ.mk (jT.mk lx ly lz) (jN.mk la lb lc ld) lf (kM.mk lu lv)) (kJ.mk (jT.mk rx ry rz) (jN.mk ra rb rc rd) rf (kM.mk ru rv)) (A3.mk (jC b0) (jC b1) (jC b2)) (A3.mk (A3.mk (jC e00) (jC e01) (jC e02)) (A3.mk (jC e10) (jC e11) (jC e12)) (A3.mk (jC e20) (jC e21) (jC e22)))))) 0), (.val (.int .i64 (0)))]) := by
 have hbl := xF hl
 have hbr := xF hr
 obtain ⟨hlx, hly, hlz, hlu, hlv, hlf, hlq⟩ := hbl
 obtain ⟨hrx, hry, hrz, hru, hrv, hrf, hrq⟩ := hbr
 obtain ⟨hla, hlb, hlc, hld, -⟩ := xG hlq
 obtain ⟨hra, hrb, hrc, hrd, -⟩ := xG hrq
 have hnl := nA hla hlb hlc hld
 have hnr := nA hra hrb hrc hrd
 have hF2 := hF
 unfold RFr at hF2
 obtain ⟨hb0, hb1, hb2, he00, he01, he02, he10, he11, he12, he20, he21, he22⟩ := hF2
 have hzb := fr_zb hF hup
 have hzs := fr_zs hF hup
 have hzt := fr_zt hF hup
 let y6 := (A3.mk (kG.mk (jF.mk false []) (jF.mk false [])) (kG.mk (jF.mk false []) (jF.mk false [])) (kG.mk (jF.mk false []) (jF.mk false [])))
 let y5 := (qP (kY.mk (kJ.mk (jT.mk lx ly lz) (jN.mk la lb lc ld) lf (kM.mk lu lv)) (kJ.mk (jT.mk rx ry rz) (jN.mk ra rb rc rd) rf (kM.mk ru rv))))
 let y4 := (bx (jY (A3.mk (jC (((cJ la lb lc ld ra rb rc rd) * e02) - ((cM la lb lc ld ra rb rc rd) * e01))) (jC (((cM la lb lc ld ra rb rc rd) * e00) - ((cK la lb lc ld ra rb rc rd) * e02))) (jC (((cK la lb lc ld ra rb rc rd) * e01) - ((cJ la lb lc ld ra rb rc rd) * e00))))))
 let y3 := (eG (RRp.mk (kJ.mk (jT.mk lx ly lz) (jN.mk la lb lc ld) lf (kM.mk lu lv)) (kJ.mk (jT.mk rx ry rz) (jN.mk ra rb rc rd) rf (kM.mk ru rv)) (A3.mk (jC b0) (jC b1) (jC b2)) (A3.mk (A3.mk (jC e00) (jC e01) (jC e02)) (A3.mk (jC e10) (jC e11) (jC e12)) (A3.mk (jC e20) (jC e21) (jC e22)))))
 let y2 := (A3.mk y6 y6 y6)
 let y1 := (bx (eG (RRp.mk (kJ.mk (jT.mk lx ly lz) (jN.mk la lb lc ld) lf (kM.mk lu lv)) (kJ.mk (jT.mk rx ry rz) (jN.mk ra rb rc rd) rf (kM.mk ru rv)) (A3.mk (jC b0) (jC b1) (jC b2)) (A3.mk (A3.mk (jC e00) (jC e01) (jC e02)) y6 y6))))
 refine jL Tryz.func68 rfl cb68 rfl ?_
 show uK _ _ _ _ ⟨[(0, (.d y5))], []⟩
 refine jA <| kx [(1, (.ref 0 0))] [(0, some (bx y5))] (zN (uX 0) <| zM <| zM <| zZ) ?_
 refine jA <| jA <| kx [(4, (kE (uL lx ly lz lu lv lf la lb lc ld)))] [] (zE (kU nO) <| zR (kA xX) <| zE (kC (q_stn lx ly lz la lb lc ld lf lu lv)) <| zM <| zZ) ?_
 refine jA <| kx [(17, (vb false))] [] (zM <| zE (qY false mR (by exact bne_eq_false_iff_eq.2 (by rw [show (uL lx ly lz lu lv lf la lb lc ld) = 0 from hl]; rfl))) <| zZ) ?_
 refine kO ?_
 refine jD <| jA <| jA <| kx [(5, (kE (uL rx ry rz ru rv rf ra rb rc rd)))] [] (zE (kU nR) <| zR (kA xX) <| zE (kC (q_stn rx ry rz ra rb rc rd rf ru rv)) <| zM <| zZ) ?_
 refine jA <| kx [(23, (vb false))] [] (zM <| zE (qY false mR (by exact bne_eq_false_iff_eq.2 (by rw [show (uL rx ry rz ru rv rf ra rb rc rd) = 0 from hr]; rfl))) <| zZ) ?_
 refine kO ?_
 refine jD <| jA <| kx [(6, (.ref 1 0))] [(1, some (bx (eG (RRp.mk (kJ.mk (jT.mk lx ly lz) (jN.mk la lb lc ld) lf (kM.mk lu lv)) (kJ.mk (jT.mk rx ry rz) (jN.mk ra rb rc rd) rf (kM.mk ru rv)) y6 y2))))] (zE (kU nO) <| zR (kA xX) <| zE (kU nR) <| zR (kA xX) <| zE (oBd pl134 ze134 zo134) <| zN (uX 1) <| zM <| zZ) ?_
 refine jA <| kd [(7, (.ref 2 0)), (8, (.ref 3 0))] [(2, some (bx (fR (jT.mk lx ly lz)))), (3, some (bx (fR (jT.mk rx ry rz))))] mo (wE (kU nO) <| wE (kU yZ) <| wR (kA sh23) <| wE (kU nR) <| wE (kU yZ) <| wR (kA sh23) <| wN (qH 2 ze23 zo23) <| wN (qH 3 ze23 zo23) <| wT (kR sh23) <| wT (kR sh23) <| wZ) ?_
 refine jA ?_
 have bn1 : QL b0 3 := (jX (Eq.symm hb0) (qi (rx - lx)))
 have bn2 : QL b1 3 := (jX (Eq.symm hb1) (qi (ry - ly)))
 have bn3 : QL b2 3 := (jX (Eq.symm hb2) (qi (rz - lz)))
 refine kx [] [(1, some (bx (eG (RRp.mk (kJ.mk (jT.mk lx ly lz) (jN.mk la lb lc ld) lf (kM.mk lu lv)) (kJ.mk (jT.mk rx ry rz) (jN.mk ra rb rc rd) rf (kM.mk ru rv)) (A3.mk (jC b0) (jC b1) (jC b2)) y2))))] (zM <| zE (kU cO) <| zR (uM vW) <| zE (kU cO) <| zR (uM vW) <| zE (aF (rx - lx) (hr := by exact (qV rfl (by simp only [xM]; omega) (by simp only [xN]; omega)))) <| zE (kU dE) <| zR (uM vW) <| zE (kU dE) <| zR (uM vW) <| zE (aF (ry - ly) (hr := by exact (qV rfl (by simp only [xM]; omega) (by simp only [xN]; omega)))) <| zE (kU dI) <| zR (uM vW) <| zE (kU dI) <| zR (uM vW) <| zE (aF (rz - lz) (hr := by exact (qV rfl (by simp only [xM]; omega) (by simp only [xN]; omega)))) <| zE (kC (by have h := q_whole (rx - lx) (by omega) (by omega) (ry - ly) (by omega) (by omega) (rz - lz) (by omega) (by omega); rw [hb0, hb1, hb2] at h; exact h)) <| zE oNc <| zE (kU aN) <| zT (kR uN) <| zZ) ?_
 refine jA <| jA <| kx [(58, (vb (decide ([lx, ly, lz] = [rx, ry, rz]))))] [] (zR (kA sh23) <| zR (kA sh23) <| zE (oEs eqs23 .i64 [lx, ly, lz] [rx, ry, rz]) <| zZ) ?_
 refine jQ (b := (decide ([lx, ly, lz] = [rx, ry, rz]))) rfl (fun h1 => ?_) (fun h1 => ?_)
 ·replace h1 := of_decide_eq_true h1
  exact absurd (zb_eq hb0 hb1 hb2 h1) (by rw [hzb]; decide)
 ·replace h1 := of_decide_eq_false h1
  refine jD <| jA ?_
  have bn4 : QL (gD la lb lc ld) 3 := (fM)
  have bn5 : QL (gE la lb lc ld) 3 := (fO)
  have bn6 : QL (zJ la lb lc ld) 3 := (fJ)
  have bn7 : QL (gK la lb lc ld) 3 := (eZ)
  have bn8 : QL (gJ la lb lc ld) 3 := (fG)
  have bn9 : QL (yA la lb lc ld) 3 := (fA)
  have bn10 : QL (gO la lb lc ld) 3 := (fH)
  have bn11 : QL (gP la lb lc ld) 3 := (fP)
  have bn12 : QL (yB la lb lc ld) 3 := (fF)
  have bn13 : QL (gD ra rb rc rd) 3 := (fM)
  have bn14 : QL (gE ra rb rc rd) 3 := (fO)
  have bn15 : QL (zJ ra rb rc rd) 3 := (fJ)
  have bn16 : QL (gK ra rb rc rd) 3 := (eZ)
  have bn17 : QL (gJ ra rb rc rd) 3 := (fG)
  have bn18 : QL (yA ra rb rc rd) 3 := (fA)
  have bn19 : QL (gO ra rb rc rd) 3 := (fH)
  have bn20 : QL (gP ra rb rc rd) 3 := (fP)
  have bn21 : QL (yB ra rb rc rd) 3 := (fF)
  refine kd [(9, (.ref 4 0)), (10, (.ref 5 0))] [(4, some (bx (qU (A3.mk (A3.mk (jC (gD la lb lc ld)) (jC (gK la lb lc ld)) (jC (gO la lb lc ld))) (A3.mk (jC (gE la lb lc ld)) (jC (gJ la lb lc ld)) (jC (gP la lb lc ld))) (A3.mk (jC (zJ la lb lc ld)) (jC (yA la lb lc ld)) (jC (yB la lb lc ld))))))), (5, some (bx (qU (A3.mk (A3.mk (jC (gD ra rb rc rd)) (jC (gK ra rb rc rd)) (jC (gO ra rb rc rd))) (A3.mk (jC (gE ra rb rc rd)) (jC (gJ ra rb rc rd)) (jC (gP ra rb rc rd))) (A3.mk (jC (zJ ra rb rc rd)) (jC (yA ra rb rc rd)) (jC (yB ra rb rc rd)))))))] mo (wE (kU nO) <| wE (kU gF) <| wR (kA yO) <| wE (kC (q_turn la lb lc ld (by omega) (by omega) (by omega) (by omega) hlq)) <| wE (kC (eM (gD la lb lc ld) (gE la lb lc ld) (zJ la lb lc ld) (gK la lb lc ld) (gJ la lb lc ld) (yA la lb lc ld) (gO la lb lc ld) (gP la lb lc ld) (yB la lb lc ld) (qu bn4) (qu bn5) (qu bn6) (qu bn7) (qu bn8) (qu bn9) (qu bn10) (qu bn11) (qu bn12))) <| wE (kU nR) <| wE (kU gF) <| wR (kA yO) <| wE (kC (q_turn ra rb rc rd (by omega) (by omega) (by omega) (by omega) hrq)) <| wE (kC (eM (gD ra rb rc rd) (gE ra rb rc rd) (zJ ra rb rc rd) (gK ra rb rc rd) (gJ ra rb rc rd) (yA ra rb rc rd) (gO ra rb rc rd) (gP ra rb rc rd) (yB ra rb rc rd) (qu bn13) (qu bn14) (qu bn15) (qu bn16) (qu bn17) (qu bn18) (qu bn19) (qu bn20) (qu bn21))) <| wN (qH 4 eL eF) <| wN (qH 5 eL eF) <| wT (kR hC) <| wT (kR hC) <| wZ) ?_
  refine jA ?_
  have bn22 : QL (N4 ra rb rc rd) 3 := (jX (Eq.symm (show ((nq ra rb rc rd : Int) : Rat) = (N4 ra rb rc rd) from rfl)) (qC (z := (nq ra rb rc rd)) (jU (by omega) (by omega)) (by decide)))
  have bn23 : QL (N4 la lb lc ld) 3 := (jX (Eq.symm (show ((nq la lb lc ld : Int) : Rat) = (N4 la lb lc ld) from rfl)) (qC (z := (nq la lb lc ld)) (jU (by omega) (by omega)) (by decide)))
  have bn24 : QL (cK la lb lc ld ra rb rc rd) 13 := (jX (Eq.symm (dq0_eq la lb lc ld ra rb rc rd)) (yX (k := 13) (jV (k := 6) bn6 bn22 (by decide)) (jV (k := 6) bn15 bn23 (by decide)) (by decide)))
  have bn25 : QL (cJ la lb lc ld ra rb rc rd) 13 := (jX (Eq.symm (dq1_eq la lb lc ld ra rb rc rd)) (yX (k := 13) (jV (k := 6) bn9 bn22 (by decide)) (jV (k := 6) bn18 bn23 (by decide)) (by decide)))
  have bn26 : QL (cM la lb lc ld ra rb rc rd) 13 := (jX (Eq.symm (dq2_eq la lb lc ld ra rb rc rd)) (yX (k := 13) (jV (k := 6) bn12 bn22 (by decide)) (jV (k := 6) bn21 bn23 (by decide)) (by decide)))
  refine kd [(11, (.ref 6 0))] [(6, some (bx (jY (A3.mk (jC (cK la lb lc ld ra rb rc rd)) (jC (cJ la lb lc ld ra rb rc rd)) (jC (cM la lb lc ld ra rb rc rd))))))] mo (wE (uJ vY 2) <| wR (kA uN) <| wE (kU nR) <| wE (kU gF) <| wR (kA yO) <| wE (kC (q_norm ra rb rc rd (by omega) (by omega) (by omega) (by omega))) <| wE (kC (by have h := eD (nq ra rb rc rd) (by omega) (by omega); rw [(show ((nq ra rb rc rd : Int) : Rat) = (N4 ra rb rc rd) from rfl)] at h; exact h)) <| wE (kC (eJ (zJ la lb lc ld) (yA la lb lc ld) (yB la lb lc ld) (qu bn6) (qu bn9) (qu bn12) (N4 ra rb rc rd) (qu bn22))) <| wE (uJ vY 2) <| wR (kA uN) <| wE (kU nO) <| wE (kU gF) <| wR (kA yO) <| wE (kC (q_norm la lb lc ld (by omega) (by omega) (by omega) (by omega))) <| wE (kC (by have h := eD (nq la lb lc ld) (by omega) (by omega); rw [(show ((nq la lb lc ld : Int) : Rat) = (N4 la lb lc ld) from rfl)] at h; exact h)) <| wE (kC (eJ (zJ ra rb rc rd) (yA ra rb rc rd) (yB ra rb rc rd) (qu bn15) (qu bn18) (qu bn21) (N4 la lb lc ld) (qu bn23))) <| wE (kC (by have h := q_sum ((zJ la lb lc ld) * (N4 ra rb rc rd)) ((yA la lb lc ld) * (N4 ra rb rc rd)) ((yB la lb lc ld) * (N4 ra rb rc rd)) (kB (jV (k := 6) bn6 bn22 (by decide)) (by decide)) (kB (jV (k := 6) bn9 bn22 (by decide)) (by decide)) (kB (jV (k := 6) bn12 bn22 (by decide)) (by decide)) ((zJ ra rb rc rd) * (N4 la lb lc ld)) ((yA ra rb rc rd) * (N4 la lb lc ld)) ((yB ra rb rc rd) * (N4 la lb lc ld)) (kB (jV (k := 6) bn15 bn23 (by decide)) (by decide)) (kB (jV (k := 6) bn18 bn23 (by decide)) (by decide)) (kB (jV (k := 6) bn21 bn23 (by decide)) (by decide)); rw [(dq0_eq la lb lc ld ra rb rc rd), (dq1_eq la lb lc ld ra rb rc rd), (dq2_eq la lb lc ld ra rb rc rd)] at h; exact h)) <| wN (qH 6 cH cG) <| wT (kR uN) <| wZ) ?_
  refine jA ?_
  have bn27 : QL e00 6 := (jX (Eq.symm he00) (jV (k := 6) bn1 (zC (n := 3) (k := 3) bn1 bn2 bn3 (by decide) (by decide)) (by decide)))
  have bn28 : QL e01 6 := (jX (Eq.symm he01) (jV (k := 6) bn2 (zC (n := 3) (k := 3) bn1 bn2 bn3 (by decide) (by decide)) (by decide)))
  have bn29 : QL e02 6 := (jX (Eq.symm he02) (jV (k := 6) bn3 (zC (n := 3) (k := 3) bn1 bn2 bn3 (by decide) (by decide)) (by decide)))
  refine kd [] [(1, some y1)] mo (wM <| wM <| wE oNc <| wE (kU aN) <| wR (kA uN) <| wE (kC (by have h := q_red b0 b1 b2 (qu bn1) (qu bn2) (qu bn3) hzb; rw [he00, he01, he02] at h; exact h)) <| wE oNc <| wE (kU cW) <| wE (uJ vY 0) <| wT (kR uN) <| wZ) ?_
  refine jA ?_
  have bn30 : QL (((cJ la lb lc ld ra rb rc rd) * e02) - ((cM la lb lc ld ra rb rc rd) * e01)) 39 := (qZ (k := 39) (jV (k := 19) bn25 bn29 (by decide)) (jV (k := 19) bn26 bn28 (by decide)) (by decide))
  have bn31 : QL (((cM la lb lc ld ra rb rc rd) * e00) - ((cK la lb lc ld ra rb rc rd) * e02)) 39 := (qZ (k := 39) (jV (k := 19) bn26 bn27 (by decide)) (jV (k := 19) bn24 bn29 (by decide)) (by decide))
  have bn32 : QL (((cK la lb lc ld ra rb rc rd) * e01) - ((cJ la lb lc ld ra rb rc rd) * e00)) 39 := (qZ (k := 39) (jV (k := 19) bn24 bn28 (by decide)) (jV (k := 19) bn25 bn27 (by decide)) (by decide))
  refine kd [(12, (.ref 7 0))] [(7, some y4)] mo (wR (kA uN) <| wM <| wE oNc <| wE (kU cW) <| wE (uJ vY 0) <| wR (kA uN) <| wE (kC (q_cross (cK la lb lc ld ra rb rc rd) (cJ la lb lc ld ra rb rc rd) (cM la lb lc ld ra rb rc rd) (qu bn24) (qu bn25) (qu bn26) e00 e01 e02 (qu bn27) (qu bn28) (qu bn29))) <| wN (qH 7 cH cG) <| wT (kR uN) <| wZ) ?_
  refine jA <| jA <| kx [(103, (vb false))] [] (zR (kA uN) <| zE (qY false (kC (q_isz (((cJ la lb lc ld ra rb rc rd) * e02) - ((cM la lb lc ld ra rb rc rd) * e01)) (((cM la lb lc ld ra rb rc rd) * e00) - ((cK la lb lc ld ra rb rc rd) * e02)) (((cK la lb lc ld ra rb rc rd) * e01) - ((cJ la lb lc ld ra rb rc rd) * e00)) (qu bn30) (qu bn31) (qu bn32))) (by exact hzs)) <| zZ) ?_
  refine kO ?_
  refine jD <| jA <| kX (wk (l := [(6, (.ref 1 0)), (12, (.ref 7 0)), (103, (vb false))]) (b := [(1, some y1), (7, some y4)])) ?_
  have bn33 : QL e10 78 := (jX (Eq.symm he10) (jV (k := 78) bn30 (zC (n := 39) (k := 39) bn30 bn31 bn32 (by decide) (by decide)) (by decide)))
  have bn34 : QL e11 78 := (jX (Eq.symm he11) (jV (k := 78) bn31 (zC (n := 39) (k := 39) bn30 bn31 bn32 (by decide) (by decide)) (by decide)))
  have bn35 : QL e12 78 := (jX (Eq.symm he12) (jV (k := 78) bn32 (zC (n := 39) (k := 39) bn30 bn31 bn32 (by decide) (by decide)) (by decide)))
  refine kd [] [(1, some (bx (eG (RRp.mk (kJ.mk (jT.mk lx ly lz) (jN.mk la lb lc ld) lf (kM.mk lu lv)) (kJ.mk (jT.mk rx ry rz) (jN.mk ra rb rc rd) rf (kM.mk ru rv)) (A3.mk (jC b0) (jC b1) (jC b2)) (A3.mk (A3.mk (jC e00) (jC e01) (jC e02)) (A3.mk (jC e10) (jC e11) (jC e12)) y6)))))] mo (wM <| wR (kA uN) <| wE (kC (by have h := q_red (((cJ la lb lc ld ra rb rc rd) * e02) - ((cM la lb lc ld ra rb rc rd) * e01)) (((cM la lb lc ld ra rb rc rd) * e00) - ((cK la lb lc ld ra rb rc rd) * e02)) (((cK la lb lc ld ra rb rc rd) * e01) - ((cJ la lb lc ld ra rb rc rd) * e00)) (qu bn30) (qu bn31) (qu bn32) hzs; rw [he10, he11, he12] at h; exact h)) <| wE oNc <| wE (kU cW) <| wE (uJ vY 1) <| wT (kR uN) <| wZ) ?_
  refine jA ?_
  have bn36 : QL ((e01 * e12) - (e02 * e11)) 169 := (qZ (k := 169) (jV (k := 84) bn28 bn35 (by decide)) (jV (k := 84) bn29 bn34 (by decide)) (by decide))
  have bn37 : QL ((e02 * e10) - (e00 * e12)) 169 := (qZ (k := 169) (jV (k := 84) bn29 bn33 (by decide)) (jV (k := 84) bn27 bn35 (by decide)) (by decide))
  have bn38 : QL ((e00 * e11) - (e01 * e10)) 169 := (qZ (k := 169) (jV (k := 84) bn27 bn34 (by decide)) (jV (k := 84) bn28 bn33 (by decide)) (by decide))
  have bn39 : QL e20 338 := (jX (Eq.symm he20) (jV (k := 338) bn36 (zC (n := 169) (k := 169) bn36 bn37 bn38 (by decide) (by decide)) (by decide)))
  have bn40 : QL e21 338 := (jX (Eq.symm he21) (jV (k := 338) bn37 (zC (n := 169) (k := 169) bn36 bn37 bn38 (by decide) (by decide)) (by decide)))
  have bn41 : QL e22 338 := (jX (Eq.symm he22) (jV (k := 338) bn38 (zC (n := 169) (k := 169) bn36 bn37 bn38 (by decide) (by decide)) (by decide)))
  refine kd [] [(1, some (bx y3))] mo (wM <| wM <| wE oNc <| wE (kU cW) <| wE (uJ vY 0) <| wR (kA uN) <| wM <| wE oNc <| wE (kU cW) <| wE (uJ vY 1) <| wR (kA uN) <| wE (kC (q_cross e00 e01 e02 (qu bn27) (qu bn28) (qu bn29) e10 e11 e12 (qu bn33) (qu bn34) (qu bn35))) <| wE (kC (by have h := q_red ((e01 * e12) - (e02 * e11)) ((e02 * e10) - (e00 * e12)) ((e00 * e11) - (e01 * e10)) (qu bn36) (qu bn37) (qu bn38) hzt; rw [he20, he21, he22] at h; exact h)) <| wE oNc <| wE (kU cW) <| wE (uJ vY 2) <| wT (kR uN) <| wZ) ?_
  refine jA <| kX (publishP (t := 6) (k := 1) (o := 0) (T := 1000001) (cs := (qF.cells y3)) rfl rfl) ?_
  refine kx [(2, (.d (.cptr 1000001 (qF.cells y3) 0))), (3, (kE 0))] [] (zM <| zM <| zM <| zZ) ?_
  refine jG ⟨_, (.tmp (d := (.cptr 1000001 (qF.cells (eG (RRp.mk (kJ.mk (jT.mk lx ly lz) (jN.mk la lb lc ld) lf (kM.mk lu lv)) (kJ.mk (jT.mk rx ry rz) (jN.mk ra rb rc rd) rf (kM.mk ru rv)) (A3.mk (jC b0) (jC b1) (jC b2)) (A3.mk (A3.mk (jC e00) (jC e01) (jC e02)) (A3.mk (jC e10) (jC e11) (jC e12)) (A3.mk (jC e20) (jC e21) (jC e22)))))) 0)) rfl (.tmp (d := (.val (.int .i64 (((0 : Nat) : Int))))) rfl .nil)), ?_⟩
  rfl
theorem qs_preE1 (lx ly lz la lb lc ld lf lu lv rx ry rz ra rb rc rd rf ru rv : Int) (c : Nat) (hc : stn2 (uL lx ly lz lu lv lf la lb lc ld) (uL rx ry rz ru rv rf ra rb rc rd) = c) (hc0 : c ≠ 0) : kF Tryz.prog 14 [(qP (kY.mk (kJ.mk (jT.mk lx ly lz) (jN.mk la lb lc ld) lf (kM.mk lu lv)) (kJ.mk (jT.mk rx ry rz) (jN.mk ra rb rc rd) rf (kM.mk ru rv))))] (.tup [(yE (RLp.mk (kY.mk (kJ.mk (jT.mk lx ly lz) (jN.mk la lb lc ld) lf (kM.mk lu lv)) (kJ.mk (jT.mk rx ry rz) (jN.mk ra rb rc rd) rf (kM.mk ru rv))) (A3.mk (kG.mk (jF.mk false []) (jF.mk false [])) (kG.mk (jF.mk false []) (jF.mk false [])) (kG.mk (jF.mk false []) (jF.mk false []))) (A3.mk (A3.mk (kG.mk (jF.mk false []) (jF.mk false [])) (kG.mk (jF.mk false []) (jF.mk false [])) (kG.mk (jF.mk false []) (jF.mk false []))) (A3.mk (kG.mk (jF.mk false []) (jF.mk false [])) (kG.mk (jF.mk false []) (jF.mk false [])) (kG.mk (jF.mk false []) (jF.mk false []))) (A3.mk (kG.mk (jF.mk false []) (jF.mk false [])) (kG.mk (jF.mk false []) (jF.mk false [])) (kG.mk (jF.mk false []) (jF.mk false [])))))), (.val (.int .i64 (((c : Nat) : Int))))]) := by
 let y4 := (A3.mk (kG.mk (jF.mk false []) (jF.mk false [])) (kG.mk (jF.mk false []) (jF.mk false [])) (kG.mk (jF.mk false []) (jF.mk false [])))
 let y3 := (qP (kY.mk (kJ.mk (jT.mk lx ly lz) (jN.mk la lb lc ld) lf (kM.mk lu lv)) (kJ.mk (jT.mk rx ry rz) (jN.mk ra rb rc rd) rf (kM.mk ru rv))))
 let y2 := (A3.mk y4 y4 y4)
 let y1 := (bx (yE (RLp.mk (kY.mk (kJ.mk (jT.mk lx ly lz) (jN.mk la lb lc ld) lf (kM.mk lu lv)) (kJ.mk (jT.mk rx ry rz) (jN.mk ra rb rc rd) rf (kM.mk ru rv))) y4 y2)))
 refine jL Tryz.func14 rfl cb14 rfl ?_
 show uK _ _ _ _ ⟨[(0, (.d y3))], []⟩
 refine jA <| kx [(1, (.ref 0 0)), (2, (.ref 1 0))] [(0, some (bx y3)), (1, some (bx (yE (RLp.mk (kY.mk (kJ.mk (jT.mk 0 0 0) (jN.mk 0 0 0 0) 0 (kM.mk 0 0)) (kJ.mk (jT.mk 0 0 0) (jN.mk 0 0 0 0) 0 (kM.mk 0 0))) y4 y2))))] (zN (uX 0) <| zN (qH 1 ze47 zo47) <| zM <| zZ) ?_
 refine jA <| kx [(4, (.ref 2 0))] [(2, some y1)] (zR (kA bQ) <| zE (oBd pl47 ze47 zo47) <| zN (qH 2 ze47 zo47) <| zT (kR eO) <| zZ) ?_
 refine jA <| jA <| kx [(19, (vl 29 10 uZ [(kJ.mk (jT.mk lx ly lz) (jN.mk la lb lc ld) lf (kM.mk lu lv)), (kJ.mk (jT.mk rx ry rz) (jN.mk ra rb rc rd) rf (kM.mk ru rv))])), (20, (kE 2)), (21, (kE 0))] [] (zE (kU nO) <| zR (kA xX) <| zE (kU nR) <| zR (kA xX) <| zE (cP el140 aZ bE) <| zE (fT el140 2) <| zM <| zZ) ?_
 refine jE <| qE 20 ?_
 refine qK <| jA <| kx [(22, (vb true))] [] (zE (qY true qS) <| zZ) ?_
 refine jA <| kD ?_
 refine jD <| jA <| jE <| jA <| kx [(6, (.ref 3 0))] [(3, some (bx (uZ (kJ.mk (jT.mk lx ly lz) (jN.mk la lb lc ld) lf (kM.mk lu lv)))))] (zE (zD el140 0) <| zE (gZ xX) <| zN (qH 3 aZ bE) <| zT (kR xX) <| zZ) ?_
 refine jA <| kx [(7, (kE (uL lx ly lz lu lv lf la lb lc ld)))] [] (zR (kA xX) <| zE (kC (qs_stn lx ly lz la lb lc ld lf lu lv)) <| zM <| zZ) ?_
 refine jA <| kx [(28, (vb ((((uL lx ly lz lu lv lf la lb lc ld) : Nat) : Int) != ((0 : Nat) : Int))))] [] (zM <| zE mR <| zZ) ?_
 refine jQ rfl (fun h1 => ?_) (fun h1 => ?_)
 ·replace h1 := bne_iff_ne.1 h1
  refine jA <| kx [(3, (kE (uL lx ly lz lu lv lf la lb lc ld)))] [(1, some y1)] (zR (kA eO) <| zM <| zT (kR eO) <| zM <| zZ) ?_
  refine jG ⟨_, (qB (cs := (bx (yE (RLp.mk (kY.mk (kJ.mk (jT.mk lx ly lz) (jN.mk la lb lc ld) lf (kM.mk lu lv)) (kJ.mk (jT.mk rx ry rz) (jN.mk ra rb rc rd) rf (kM.mk ru rv))) (A3.mk (kG.mk (jF.mk false []) (jF.mk false [])) (kG.mk (jF.mk false []) (jF.mk false [])) (kG.mk (jF.mk false []) (jF.mk false []))) (A3.mk (A3.mk (kG.mk (jF.mk false []) (jF.mk false [])) (kG.mk (jF.mk false []) (jF.mk false [])) (kG.mk (jF.mk false []) (jF.mk false []))) (A3.mk (kG.mk (jF.mk false []) (jF.mk false [])) (kG.mk (jF.mk false []) (jF.mk false [])) (kG.mk (jF.mk false []) (jF.mk false []))) (A3.mk (kG.mk (jF.mk false []) (jF.mk false [])) (kG.mk (jF.mk false []) (jF.mk false [])) (kG.mk (jF.mk false []) (jF.mk false [])))))))) (d := (yE (RLp.mk (kY.mk (kJ.mk (jT.mk lx ly lz) (jN.mk la lb lc ld) lf (kM.mk lu lv)) (kJ.mk (jT.mk rx ry rz) (jN.mk ra rb rc rd) rf (kM.mk ru rv))) (A3.mk (kG.mk (jF.mk false []) (jF.mk false [])) (kG.mk (jF.mk false []) (jF.mk false [])) (kG.mk (jF.mk false []) (jF.mk false []))) (A3.mk (A3.mk (kG.mk (jF.mk false []) (jF.mk false [])) (kG.mk (jF.mk false []) (jF.mk false [])) (kG.mk (jF.mk false []) (jF.mk false []))) (A3.mk (kG.mk (jF.mk false []) (jF.mk false [])) (kG.mk (jF.mk false []) (jF.mk false [])) (kG.mk (jF.mk false []) (jF.mk false []))) (A3.mk (kG.mk (jF.mk false []) (jF.mk false [])) (kG.mk (jF.mk false []) (jF.mk false [])) (kG.mk (jF.mk false []) (jF.mk false []))))))) rfl rfl eO rfl rfl (.tmp (d := (.val (.int .i64 ((((uL lx ly lz lu lv lf la lb lc ld) : Nat) : Int))))) rfl .nil)), ?_⟩
  rw [stn2_l h1 hc]; rfl
 ·replace h1 := bne_eq_false_iff_eq.1 h1
  refine jD <| kx [(21, (kE 1))] [] (zE (qQ 1 (hr := by decide)) <| zM <| zZ) ?_
  refine jJ (jZ.refl _) ?_
  refine jA <| kx [(22, (vb true))] [] (zE (qY true qS) <| zZ) ?_
  refine jA <| kD ?_
  refine jD <| jA <| jE <| jA <| kx [(6, (.ref 4 0))] [(4, some (bx (uZ (kJ.mk (jT.mk rx ry rz) (jN.mk ra rb rc rd) rf (kM.mk ru rv)))))] (zE (zD el140 1) <| zE (gZ xX) <| zN (qH 4 aZ bE) <| zT (kR xX) <| zZ) ?_
  refine jA <| kx [(7, (kE (uL rx ry rz ru rv rf ra rb rc rd)))] [] (zR (kA xX) <| zE (kC (qs_stn rx ry rz ra rb rc rd rf ru rv)) <| zM <| zZ) ?_
  refine jA <| kx [(28, (vb ((((uL rx ry rz ru rv rf ra rb rc rd) : Nat) : Int) != ((0 : Nat) : Int))))] [] (zM <| zE mR <| zZ) ?_
  refine jQ rfl (fun h2 => ?_) (fun h2 => ?_)
  ·replace h2 := bne_iff_ne.1 h2
   refine jA <| kx [(3, (kE (uL rx ry rz ru rv rf ra rb rc rd)))] [(1, some y1)] (zR (kA eO) <| zM <| zT (kR eO) <| zM <| zZ) ?_
   refine jG ⟨_, (qB (cs := (bx (yE (RLp.mk (kY.mk (kJ.mk (jT.mk lx ly lz) (jN.mk la lb lc ld) lf (kM.mk lu lv)) (kJ.mk (jT.mk rx ry rz) (jN.mk ra rb rc rd) rf (kM.mk ru rv))) (A3.mk (kG.mk (jF.mk false []) (jF.mk false [])) (kG.mk (jF.mk false []) (jF.mk false [])) (kG.mk (jF.mk false []) (jF.mk false []))) (A3.mk (A3.mk (kG.mk (jF.mk false []) (jF.mk false [])) (kG.mk (jF.mk false []) (jF.mk false [])) (kG.mk (jF.mk false []) (jF.mk false []))) (A3.mk (kG.mk (jF.mk false []) (jF.mk false [])) (kG.mk (jF.mk false []) (jF.mk false [])) (kG.mk (jF.mk false []) (jF.mk false []))) (A3.mk (kG.mk (jF.mk false []) (jF.mk false [])) (kG.mk (jF.mk false []) (jF.mk false [])) (kG.mk (jF.mk false []) (jF.mk false [])))))))) (d := (yE (RLp.mk (kY.mk (kJ.mk (jT.mk lx ly lz) (jN.mk la lb lc ld) lf (kM.mk lu lv)) (kJ.mk (jT.mk rx ry rz) (jN.mk ra rb rc rd) rf (kM.mk ru rv))) (A3.mk (kG.mk (jF.mk false []) (jF.mk false [])) (kG.mk (jF.mk false []) (jF.mk false [])) (kG.mk (jF.mk false []) (jF.mk false []))) (A3.mk (A3.mk (kG.mk (jF.mk false []) (jF.mk false [])) (kG.mk (jF.mk false []) (jF.mk false [])) (kG.mk (jF.mk false []) (jF.mk false []))) (A3.mk (kG.mk (jF.mk false []) (jF.mk false [])) (kG.mk (jF.mk false []) (jF.mk false [])) (kG.mk (jF.mk false []) (jF.mk false []))) (A3.mk (kG.mk (jF.mk false []) (jF.mk false [])) (kG.mk (jF.mk false []) (jF.mk false [])) (kG.mk (jF.mk false []) (jF.mk false []))))))) rfl rfl eO rfl rfl (.tmp (d := (.val (.int .i64 ((((uL rx ry rz ru rv rf ra rb rc rd) : Nat) : Int))))) rfl .nil)), ?_⟩
   rw [stn2_r h1 hc]; rfl
  ·replace h2 := bne_eq_false_iff_eq.1 h2
   exact absurd (stn2_0 (by simpa using h1) (by simpa using h2) hc) hc0
theorem qs_preE2 (lx ly lz la lb lc ld lf lu lv rx ry rz ra rb rc rd rf ru rv : Int) (b0 b1 b2 : Rat) (zW : QL b0 3) (zV : QL b1 3) (zU : QL b2 3) (hl : uL lx ly lz lu lv lf la lb lc ld = 0) (hr : uL rx ry rz ru rv rf ra rb rc rd = 0) (hb0 : ((rx - lx : Int) : Rat) = b0) (hb1 : ((ry - ly : Int) : Rat) = b1) (hb2 : ((rz - lz : Int) : Rat) = b2) (hup : upV la lb lc ld ra rb rc rd b0 b1 b2 = true) : kF Tryz.prog 14 [(qP (kY.mk (kJ.mk (jT.mk lx ly lz) (jN.mk la lb lc ld) lf (kM.mk lu lv)) (kJ.mk (jT.mk rx ry rz) (jN.mk ra rb rc rd) rf (kM.mk ru rv))))] (.tup [(yE (RLp.mk (kY.mk (kJ.mk (jT.mk lx ly lz) (jN.mk la lb lc ld) lf (kM.mk lu lv)) (kJ.mk (jT.mk rx ry rz) (jN.mk ra rb rc rd) rf (kM.mk ru rv))) (A3.mk (jC b0) (jC b1) (jC b2)) (A3.mk (A3.mk (kG.mk (jF.mk false []) (jF.mk false [])) (kG.mk (jF.mk false []) (jF.mk false [])) (kG.mk (jF.mk false []) (jF.mk false []))) (A3.mk (kG.mk (jF.mk false []) (jF.mk false [])) (kG.mk (jF.mk false []) (jF.mk false [])) (kG.mk (jF.mk false []) (jF.mk false []))) (A3.mk (kG.mk (jF.mk false []) (jF.mk false [])) (kG.mk (jF.mk false []) (jF.mk false [])) (kG.mk (jF.mk false []) (jF.mk false [])))))), (.val (.int .i64 (13)))]) := by
 have hbl := xF hl
 have hbr := xF hr
 obtain ⟨hlx, hly, hlz, hlu, hlv, hlf, hlq⟩ := hbl
 obtain ⟨hrx, hry, hrz, hru, hrv, hrf, hrq⟩ := hbr
 obtain ⟨hla, hlb, hlc, hld, -⟩ := xG hlq
 obtain ⟨hra, hrb, hrc, hrd, -⟩ := xG hrq
 have hnl := nA hla hlb hlc hld
 have hnr := nA hra hrb hrc hrd
 let y7 := (A3.mk (kG.mk (jF.mk false []) (jF.mk false [])) (kG.mk (jF.mk false []) (jF.mk false [])) (kG.mk (jF.mk false []) (jF.mk false [])))
 let y6 := (qP (kY.mk (kJ.mk (jT.mk lx ly lz) (jN.mk la lb lc ld) lf (kM.mk lu lv)) (kJ.mk (jT.mk rx ry rz) (jN.mk ra rb rc rd) rf (kM.mk ru rv))))
 let y5 := (bx y6)
 let y4 := (A3.mk y7 y7 y7)
 let y3 := (bx (yE (RLp.mk (kY.mk (kJ.mk (jT.mk lx ly lz) (jN.mk la lb lc ld) lf (kM.mk lu lv)) (kJ.mk (jT.mk rx ry rz) (jN.mk ra rb rc rd) rf (kM.mk ru rv))) (A3.mk (jC b0) (jC b1) (jC b2)) y4)))
 let y2 := (bx (yE (RLp.mk (kY.mk (kJ.mk (jT.mk 0 0 0) (jN.mk 0 0 0 0) 0 (kM.mk 0 0)) (kJ.mk (jT.mk 0 0 0) (jN.mk 0 0 0 0) 0 (kM.mk 0 0))) y7 y4)))
 let y1 := (bx (yE (RLp.mk (kY.mk (kJ.mk (jT.mk lx ly lz) (jN.mk la lb lc ld) lf (kM.mk lu lv)) (kJ.mk (jT.mk rx ry rz) (jN.mk ra rb rc rd) rf (kM.mk ru rv))) y7 y4)))
 refine jL Tryz.func14 rfl cb14 rfl ?_
 show uK _ _ _ _ ⟨[(0, (.d y6))], []⟩
 refine jA <| kx [(1, (.ref 0 0)), (2, (.ref 1 0))] [(0, some y5), (1, some y2)] (zN (uX 0) <| zN (qH 1 ze47 zo47) <| zM <| zZ) ?_
 refine jA <| kx [(4, (.ref 2 0))] [(2, some y1)] (zR (kA bQ) <| zE (oBd pl47 ze47 zo47) <| zN (qH 2 ze47 zo47) <| zT (kR eO) <| zZ) ?_
 refine jA <| jA <| kx [(19, (vl 29 10 uZ [(kJ.mk (jT.mk lx ly lz) (jN.mk la lb lc ld) lf (kM.mk lu lv)), (kJ.mk (jT.mk rx ry rz) (jN.mk ra rb rc rd) rf (kM.mk ru rv))])), (20, (kE 2)), (21, (kE 0))] [] (zE (kU nO) <| zR (kA xX) <| zE (kU nR) <| zR (kA xX) <| zE (cP el140 aZ bE) <| zE (fT el140 2) <| zM <| zZ) ?_
 refine jE <| qE 20 ?_
 refine qK <| jA <| kx [(22, (vb true))] [] (zE (qY true qS) <| zZ) ?_
 refine jA <| kD ?_
 refine jD <| jA <| jE <| jA <| kx [(6, (.ref 3 0))] [(3, some (bx (uZ (kJ.mk (jT.mk lx ly lz) (jN.mk la lb lc ld) lf (kM.mk lu lv)))))] (zE (zD el140 0) <| zE (gZ xX) <| zN (qH 3 aZ bE) <| zT (kR xX) <| zZ) ?_
 refine jA <| kx [(7, (kE (uL lx ly lz lu lv lf la lb lc ld)))] [] (zR (kA xX) <| zE (kC (qs_stn lx ly lz la lb lc ld lf lu lv)) <| zM <| zZ) ?_
 refine jA <| kx [(28, (vb false))] [] (zM <| zE (qY false mR (by exact bne_eq_false_iff_eq.2 (by rw [show (uL lx ly lz lu lv lf la lb lc ld) = 0 from hl]; rfl))) <| zZ) ?_
 refine kO ?_
 refine jD <| kx [(21, (kE 1))] [] (zE (qQ 1 (hr := by decide)) <| zM <| zZ) ?_
 refine jJ (jZ.refl _) ?_
 refine jA <| kx [(22, (vb true))] [] (zE (qY true qS) <| zZ) ?_
 refine jA <| kD ?_
 refine jD <| jA <| jE <| jA <| kx [(6, (.ref 4 0))] [(4, some (bx (uZ (kJ.mk (jT.mk rx ry rz) (jN.mk ra rb rc rd) rf (kM.mk ru rv)))))] (zE (zD el140 1) <| zE (gZ xX) <| zN (qH 4 aZ bE) <| zT (kR xX) <| zZ) ?_
 refine jA <| kx [(7, (kE (uL rx ry rz ru rv rf ra rb rc rd)))] [] (zR (kA xX) <| zE (kC (qs_stn rx ry rz ra rb rc rd rf ru rv)) <| zM <| zZ) ?_
 refine jA <| kx [(28, (vb false))] [] (zM <| zE (qY false mR (by exact bne_eq_false_iff_eq.2 (by rw [show (uL rx ry rz ru rv rf ra rb rc rd) = 0 from hr]; rfl))) <| zZ) ?_
 refine kO ?_
 refine jD <| kx [(21, (kE 2))] [] (zE (qQ 2 (hr := by decide)) <| zM <| zZ) ?_
 refine jJ (jZ.refl _) ?_
 refine jA <| kx [(22, (vb false))] [] (zE (qY false qS) <| zZ) ?_
 refine jA <| kO ?_
 refine kQ <| jA <| kX (wk (l := [(1, (.ref 0 0)), (2, (.ref 1 0)), (4, (.ref 2 0)), (19, (vl 29 10 uZ [(kJ.mk (jT.mk lx ly lz) (jN.mk la lb lc ld) lf (kM.mk lu lv)), (kJ.mk (jT.mk rx ry rz) (jN.mk ra rb rc rd) rf (kM.mk ru rv))])), (20, (kE 2)), (21, (kE 2)), (22, (vb false))]) (b := [(0, some y5), (1, some y2), (2, some y1)])) ?_
 refine kd [(8, (.ref 5 0)), (9, (.ref 6 0))] [(5, some (bx (uZ (kJ.mk (jT.mk lx ly lz) (jN.mk la lb lc ld) lf (kM.mk lu lv))))), (6, some (bx (uZ (kJ.mk (jT.mk rx ry rz) (jN.mk ra rb rc rd) rf (kM.mk ru rv)))))] mo (wE (kU nO) <| wR (kA xX) <| wE (kU nR) <| wR (kA xX) <| wN (qH 5 aZ bE) <| wN (qH 6 aZ bE) <| wT (kR xX) <| wT (kR xX) <| wZ) ?_
 refine jA ?_
 have bn1 : QL b0 3 := (jX (Eq.symm hb0) (qi (rx - lx)))
 have bn2 : QL b1 3 := (jX (Eq.symm hb1) (qi (ry - ly)))
 have bn3 : QL b2 3 := (jX (Eq.symm hb2) (qi (rz - lz)))
 refine kx [] [(2, some y3)] (zE (kU yZ) <| zE (kU cO) <| zR (uM vW) <| zE (kU yZ) <| zE (kU cO) <| zR (uM vW) <| zE (aF (rx - lx) (hr := by exact (qV rfl (by simp only [xM]; omega) (by simp only [xN]; omega)))) <| zE (kU yZ) <| zE (kU dE) <| zR (uM vW) <| zE (kU yZ) <| zE (kU dE) <| zR (uM vW) <| zE (aF (ry - ly) (hr := by exact (qV rfl (by simp only [xM]; omega) (by simp only [xN]; omega)))) <| zE (kU yZ) <| zE (kU dI) <| zR (uM vW) <| zE (kU yZ) <| zE (kU dI) <| zR (uM vW) <| zE (aF (rz - lz) (hr := by exact (qV rfl (by simp only [xM]; omega) (by simp only [xN]; omega)))) <| zE (kC (by have h := qs_whole (rx - lx) (by omega) (by omega) (ry - ly) (by omega) (by omega) (rz - lz) (by omega) (by omega); rw [hb0, hb1, hb2] at h; exact h)) <| zE (kU fo47_1) <| zT (kR xR) <| zZ) ?_
 refine jA ?_
 have bn4 : QL ((0 : Int) : Rat) 3 := (qi 0)
 have bn5 : QL ((1 : Int) : Rat) 3 := (qi 1)
 refine kx [(10, (.ref 7 0))] [(7, some (bx (jY (A3.mk (jC ((0 : Int) : Rat)) (jC ((0 : Int) : Rat)) (jC ((1 : Int) : Rat))))))] (zE (kC (qs_whole ((0 : Nat) : Int) (by omega) (by omega) ((0 : Nat) : Int) (by omega) (by omega) ((1 : Nat) : Int) (by omega) (by omega))) <| zN (qH 7 iE bV) <| zT (kR xR) <| zZ) ?_
 refine jA ?_
 have bn6 : QL (gD la lb lc ld) 3 := (fM)
 have bn7 : QL (gE la lb lc ld) 3 := (fO)
 have bn8 : QL (zJ la lb lc ld) 3 := (fJ)
 have bn9 : QL (gK la lb lc ld) 3 := (eZ)
 have bn10 : QL (gJ la lb lc ld) 3 := (fG)
 have bn11 : QL (yA la lb lc ld) 3 := (fA)
 have bn12 : QL (gO la lb lc ld) 3 := (fH)
 have bn13 : QL (gP la lb lc ld) 3 := (fP)
 have bn14 : QL (yB la lb lc ld) 3 := (fF)
 have bn15 : QL (zJ la lb lc ld) 20 := (jX (Eq.symm (xE (gD la lb lc ld) (gE la lb lc ld) (zJ la lb lc ld))) (jR (n := 3) (k := 20) bn6 bn7 bn8 bn4 bn4 bn5 (by decide)))
 have bn16 : QL (yA la lb lc ld) 20 := (jX (Eq.symm (xE (gK la lb lc ld) (gJ la lb lc ld) (yA la lb lc ld))) (jR (n := 3) (k := 20) bn9 bn10 bn11 bn4 bn4 bn5 (by decide)))
 have bn17 : QL (yB la lb lc ld) 20 := (jX (Eq.symm (xE (gO la lb lc ld) (gP la lb lc ld) (yB la lb lc ld))) (jR (n := 3) (k := 20) bn12 bn13 bn14 bn4 bn4 bn5 (by decide)))
 have bn18 : QL (N4 ra rb rc rd) 3 := (kN4)
 have bn19 : QL (gD ra rb rc rd) 3 := (fM)
 have bn20 : QL (gE ra rb rc rd) 3 := (fO)
 have bn21 : QL (zJ ra rb rc rd) 3 := (fJ)
 have bn22 : QL (gK ra rb rc rd) 3 := (eZ)
 have bn23 : QL (gJ ra rb rc rd) 3 := (fG)
 have bn24 : QL (yA ra rb rc rd) 3 := (fA)
 have bn25 : QL (gO ra rb rc rd) 3 := (fH)
 have bn26 : QL (gP ra rb rc rd) 3 := (fP)
 have bn27 : QL (yB ra rb rc rd) 3 := (fF)
 have bn28 : QL (zJ ra rb rc rd) 20 := (jX (Eq.symm (xE (gD ra rb rc rd) (gE ra rb rc rd) (zJ ra rb rc rd))) (jR (n := 3) (k := 20) bn19 bn20 bn21 bn4 bn4 bn5 (by decide)))
 have bn29 : QL (yA ra rb rc rd) 20 := (jX (Eq.symm (xE (gK ra rb rc rd) (gJ ra rb rc rd) (yA ra rb rc rd))) (jR (n := 3) (k := 20) bn22 bn23 bn24 bn4 bn4 bn5 (by decide)))
 have bn30 : QL (yB ra rb rc rd) 20 := (jX (Eq.symm (xE (gO ra rb rc rd) (gP ra rb rc rd) (yB ra rb rc rd))) (jR (n := 3) (k := 20) bn25 bn26 bn27 bn4 bn4 bn5 (by decide)))
 have bn31 : QL (N4 la lb lc ld) 3 := (kN4)
 have bn32 : QL (cK la lb lc ld ra rb rc rd) 47 := (jX (Eq.symm (dq0_eq la lb lc ld ra rb rc rd)) (yX (k := 47) (jV (k := 23) bn15 bn18 (by decide)) (jV (k := 23) bn28 bn31 (by decide)) (by decide)))
 have bn33 : QL (cJ la lb lc ld ra rb rc rd) 47 := (jX (Eq.symm (dq1_eq la lb lc ld ra rb rc rd)) (yX (k := 47) (jV (k := 23) bn16 bn18 (by decide)) (jV (k := 23) bn29 bn31 (by decide)) (by decide)))
 have bn34 : QL (cM la lb lc ld ra rb rc rd) 47 := (jX (Eq.symm (dq2_eq la lb lc ld ra rb rc rd)) (yX (k := 47) (jV (k := 23) bn17 bn18 (by decide)) (jV (k := 23) bn30 bn31 (by decide)) (by decide)))
 refine kd [(11, (.ref 8 0))] [(8, some (bx (jY (A3.mk (jC (cK la lb lc ld ra rb rc rd)) (jC (cJ la lb lc ld ra rb rc rd)) (jC (cM la lb lc ld ra rb rc rd))))))] mo (wE (kU gF) <| wR (kA yO) <| wE (kC (qs_mat la lb lc ld (by omega) (by omega) (by omega) (by omega) hlq)) <| wR (kA xR) <| wE (kC (by have h := fU (gD la lb lc ld) (gE la lb lc ld) (zJ la lb lc ld) (gK la lb lc ld) (gJ la lb lc ld) (yA la lb lc ld) (gO la lb lc ld) (gP la lb lc ld) (yB la lb lc ld) (qu bn6) (qu bn7) (qu bn8) (qu bn9) (qu bn10) (qu bn11) (qu bn12) (qu bn13) (qu bn14) ((0 : Int) : Rat) ((0 : Int) : Rat) ((1 : Int) : Rat) (qu bn4) (qu bn4) (qu bn5); rw [(xE (gD la lb lc ld) (gE la lb lc ld) (zJ la lb lc ld)), (xE (gK la lb lc ld) (gJ la lb lc ld) (yA la lb lc ld)), (xE (gO la lb lc ld) (gP la lb lc ld) (yB la lb lc ld))] at h; exact h)) <| wE (kU gF) <| wR (kA yO) <| wE (kC (iH ra rb rc rd (by omega) (by omega) (by omega) (by omega))) <| wE (kC (cD (zJ la lb lc ld) (yA la lb lc ld) (yB la lb lc ld) (qu bn15) (qu bn16) (qu bn17) (N4 ra rb rc rd) (qu bn18))) <| wE (kU gF) <| wR (kA yO) <| wE (kC (qs_mat ra rb rc rd (by omega) (by omega) (by omega) (by omega) hrq)) <| wR (kA xR) <| wE (kC (by have h := fU (gD ra rb rc rd) (gE ra rb rc rd) (zJ ra rb rc rd) (gK ra rb rc rd) (gJ ra rb rc rd) (yA ra rb rc rd) (gO ra rb rc rd) (gP ra rb rc rd) (yB ra rb rc rd) (qu bn19) (qu bn20) (qu bn21) (qu bn22) (qu bn23) (qu bn24) (qu bn25) (qu bn26) (qu bn27) ((0 : Int) : Rat) ((0 : Int) : Rat) ((1 : Int) : Rat) (qu bn4) (qu bn4) (qu bn5); rw [(xE (gD ra rb rc rd) (gE ra rb rc rd) (zJ ra rb rc rd)), (xE (gK ra rb rc rd) (gJ ra rb rc rd) (yA ra rb rc rd)), (xE (gO ra rb rc rd) (gP ra rb rc rd) (yB ra rb rc rd))] at h; exact h)) <| wE (kU gF) <| wR (kA yO) <| wE (kC (iH la lb lc ld (by omega) (by omega) (by omega) (by omega))) <| wE (kC (cD (zJ ra rb rc rd) (yA ra rb rc rd) (yB ra rb rc rd) (qu bn28) (qu bn29) (qu bn30) (N4 la lb lc ld) (qu bn31))) <| wE (kC (by have h := qs_sum ((zJ la lb lc ld) * (N4 ra rb rc rd)) ((yA la lb lc ld) * (N4 ra rb rc rd)) ((yB la lb lc ld) * (N4 ra rb rc rd)) (kB (jV (k := 23) bn15 bn18 (by decide)) (by decide)) (kB (jV (k := 23) bn16 bn18 (by decide)) (by decide)) (kB (jV (k := 23) bn17 bn18 (by decide)) (by decide)) ((zJ ra rb rc rd) * (N4 la lb lc ld)) ((yA ra rb rc rd) * (N4 la lb lc ld)) ((yB ra rb rc rd) * (N4 la lb lc ld)) (kB (jV (k := 23) bn28 bn31 (by decide)) (by decide)) (kB (jV (k := 23) bn29 bn31 (by decide)) (by decide)) (kB (jV (k := 23) bn30 bn31 (by decide)) (by decide)); rw [(dq0_eq la lb lc ld ra rb rc rd), (dq1_eq la lb lc ld ra rb rc rd), (dq2_eq la lb lc ld ra rb rc rd)] at h; exact h)) <| wN (qH 8 iE bV) <| wT (kR xR) <| wZ) ?_
 refine jA ?_
 have bn35 : QL (((cJ la lb lc ld ra rb rc rd) * b2) - ((cM la lb lc ld ra rb rc rd) * b1)) 101 := (qZ (k := 101) (jV (k := 50) bn33 bn3 (by decide)) (jV (k := 50) bn34 bn2 (by decide)) (by decide))
 have bn36 : QL (((cM la lb lc ld ra rb rc rd) * b0) - ((cK la lb lc ld ra rb rc rd) * b2)) 101 := (qZ (k := 101) (jV (k := 50) bn34 bn1 (by decide)) (jV (k := 50) bn32 bn3 (by decide)) (by decide))
 have bn37 : QL (((cK la lb lc ld ra rb rc rd) * b1) - ((cJ la lb lc ld ra rb rc rd) * b0)) 101 := (qZ (k := 101) (jV (k := 50) bn32 bn2 (by decide)) (jV (k := 50) bn33 bn1 (by decide)) (by decide))
 refine kx [(12, (.ref 9 0))] [(9, some (bx (jY (A3.mk (jC (((cJ la lb lc ld ra rb rc rd) * b2) - ((cM la lb lc ld ra rb rc rd) * b1))) (jC (((cM la lb lc ld ra rb rc rd) * b0) - ((cK la lb lc ld ra rb rc rd) * b2))) (jC (((cK la lb lc ld ra rb rc rd) * b1) - ((cJ la lb lc ld ra rb rc rd) * b0)))))))] (zR (kA xR) <| zE (kU fo47_1) <| zR (kA xR) <| zE (kC (qs_cross (cK la lb lc ld ra rb rc rd) (cJ la lb lc ld ra rb rc rd) (cM la lb lc ld ra rb rc rd) (qu bn32) (qu bn33) (qu bn34) b0 b1 b2 (qu bn1) (qu bn2) (qu bn3))) <| zN (qH 9 iE bV) <| zT (kR xR) <| zZ) ?_
 refine jA <| jA <| kx [(84, (vb true))] [] (zR (kA xR) <| zE (qY true (kC (qs_zero (((cJ la lb lc ld ra rb rc rd) * b2) - ((cM la lb lc ld ra rb rc rd) * b1)) (((cM la lb lc ld ra rb rc rd) * b0) - ((cK la lb lc ld ra rb rc rd) * b2)) (((cK la lb lc ld ra rb rc rd) * b1) - ((cJ la lb lc ld ra rb rc rd) * b0)) (qu bn35) (qu bn36) (qu bn37))) (by exact hup)) <| zZ) ?_
 refine kD ?_
 refine jA <| kx [(3, (kE 13))] [(1, some y3)] (zR (kA eO) <| zT (kR eO) <| zM <| zZ) ?_
 refine jG ⟨_, (qB (cs := (bx (yE (RLp.mk (kY.mk (kJ.mk (jT.mk lx ly lz) (jN.mk la lb lc ld) lf (kM.mk lu lv)) (kJ.mk (jT.mk rx ry rz) (jN.mk ra rb rc rd) rf (kM.mk ru rv))) (A3.mk (jC b0) (jC b1) (jC b2)) (A3.mk (A3.mk (kG.mk (jF.mk false []) (jF.mk false [])) (kG.mk (jF.mk false []) (jF.mk false [])) (kG.mk (jF.mk false []) (jF.mk false []))) (A3.mk (kG.mk (jF.mk false []) (jF.mk false [])) (kG.mk (jF.mk false []) (jF.mk false [])) (kG.mk (jF.mk false []) (jF.mk false []))) (A3.mk (kG.mk (jF.mk false []) (jF.mk false [])) (kG.mk (jF.mk false []) (jF.mk false [])) (kG.mk (jF.mk false []) (jF.mk false [])))))))) (d := (yE (RLp.mk (kY.mk (kJ.mk (jT.mk lx ly lz) (jN.mk la lb lc ld) lf (kM.mk lu lv)) (kJ.mk (jT.mk rx ry rz) (jN.mk ra rb rc rd) rf (kM.mk ru rv))) (A3.mk (jC b0) (jC b1) (jC b2)) (A3.mk (A3.mk (kG.mk (jF.mk false []) (jF.mk false [])) (kG.mk (jF.mk false []) (jF.mk false [])) (kG.mk (jF.mk false []) (jF.mk false []))) (A3.mk (kG.mk (jF.mk false []) (jF.mk false [])) (kG.mk (jF.mk false []) (jF.mk false [])) (kG.mk (jF.mk false []) (jF.mk false []))) (A3.mk (kG.mk (jF.mk false []) (jF.mk false [])) (kG.mk (jF.mk false []) (jF.mk false [])) (kG.mk (jF.mk false []) (jF.mk false []))))))) rfl rfl eO rfl rfl (.tmp (d := (.val (.int .i64 (((13 : Nat) : Int))))) rfl .nil)), ?_⟩
 rfl
theorem qs_pre (lx ly lz la lb lc ld lf lu lv rx ry rz ra rb rc rd rf ru rv : Int) (b0 b1 b2 e00 e01 e02 e10 e11 e12 e20 e21 e22 : Rat) (hF : RFr lx ly lz la lb lc ld rx ry rz ra rb rc rd b0 b1 b2 e00 e01 e02 e10 e11 e12 e20 e21 e22) (zW : QL b0 3) (zV : QL b1 3) (zU : QL b2 3) (vF : QL e00 400) (vG : QL e01 400) (vE : QL e02 400) (vL : QL e10 400) (vM : QL e11 400) (vN : QL e12 400) (vA : QL e20 400) (vB : QL e21 400) (vC : QL e22 400) (hl : uL lx ly lz lu lv lf la lb lc ld = 0) (hr : uL rx ry rz ru rv rf ra rb rc rd = 0) (hup : upV la lb lc ld ra rb rc rd b0 b1 b2 = false) : kF Tryz.prog 14 [(qP (kY.mk (kJ.mk (jT.mk lx ly lz) (jN.mk la lb lc ld) lf (kM.mk lu lv)) (kJ.mk (jT.mk rx ry rz) (jN.mk ra rb rc rd) rf (kM.mk ru rv))))] (.tup [(yE (RLp.mk (kY.mk (kJ.mk (jT.mk lx ly lz) (jN.mk la lb lc ld) lf (kM.mk lu lv)) (kJ.mk (jT.mk rx ry rz) (jN.mk ra rb rc rd) rf (kM.mk ru rv))) (A3.mk (jC b0) (jC b1) (jC b2)) (A3.mk (A3.mk (jC e00) (jC e01) (jC e02)) (A3.mk (jC e10) (jC e11) (jC e12)) (A3.mk (jC e20) (jC e21) (jC e22))))), (.val (.int .i64 (0)))]) := by
 have hbl := xF hl
 have hbr := xF hr
 obtain ⟨hlx, hly, hlz, hlu, hlv, hlf, hlq⟩ := hbl
 obtain ⟨hrx, hry, hrz, hru, hrv, hrf, hrq⟩ := hbr
 obtain ⟨hla, hlb, hlc, hld, -⟩ := xG hlq
 obtain ⟨hra, hrb, hrc, hrd, -⟩ := xG hrq
 have hnl := nA hla hlb hlc hld
 have hnr := nA hra hrb hrc hrd
 have hF2 := hF
 unfold RFr at hF2
 obtain ⟨hb0, hb1, hb2, he00, he01, he02, he10, he11, he12, he20, he21, he22⟩ := hF2
 have hzb := fr_zb hF hup
 have hzs := fr_zs hF hup
 have hzt := fr_zt hF hup
 let y7 := (A3.mk (kG.mk (jF.mk false []) (jF.mk false [])) (kG.mk (jF.mk false []) (jF.mk false [])) (kG.mk (jF.mk false []) (jF.mk false [])))
 let y6 := (qP (kY.mk (kJ.mk (jT.mk lx ly lz) (jN.mk la lb lc ld) lf (kM.mk lu lv)) (kJ.mk (jT.mk rx ry rz) (jN.mk ra rb rc rd) rf (kM.mk ru rv))))
 let y5 := (bx y6)
 let y4 := (bx (yE (RLp.mk (kY.mk (kJ.mk (jT.mk lx ly lz) (jN.mk la lb lc ld) lf (kM.mk lu lv)) (kJ.mk (jT.mk rx ry rz) (jN.mk ra rb rc rd) rf (kM.mk ru rv))) (A3.mk (jC b0) (jC b1) (jC b2)) (A3.mk (A3.mk (jC e00) (jC e01) (jC e02)) (A3.mk (jC e10) (jC e11) (jC e12)) (A3.mk (jC e20) (jC e21) (jC e22))))))
 let y3 := (A3.mk y7 y7 y7)
 let y2 := (bx (yE (RLp.mk (kY.mk (kJ.mk (jT.mk 0 0 0) (jN.mk 0 0 0 0) 0 (kM.mk 0 0)) (kJ.mk (jT.mk 0 0 0) (jN.mk 0 0 0 0) 0 (kM.mk 0 0))) y7 y3)))
 let y1 := (bx (yE (RLp.mk (kY.mk (kJ.mk (jT.mk lx ly lz) (jN.mk la lb lc ld) lf (kM.mk lu lv)) (kJ.mk (jT.mk rx ry rz) (jN.mk ra rb rc rd) rf (kM.mk ru rv))) y7 y3)))
 refine jL Tryz.func14 rfl cb14 rfl ?_
 show uK _ _ _ _ ⟨[(0, (.d y6))], []⟩
 refine jA <| kx [(1, (.ref 0 0)), (2, (.ref 1 0))] [(0, some y5), (1, some y2)] (zN (uX 0) <| zN (qH 1 ze47 zo47) <| zM <| zZ) ?_
 refine jA <| kx [(4, (.ref 2 0))] [(2, some y1)] (zR (kA bQ) <| zE (oBd pl47 ze47 zo47) <| zN (qH 2 ze47 zo47) <| zT (kR eO) <| zZ) ?_
 refine jA <| jA <| kx [(19, (vl 29 10 uZ [(kJ.mk (jT.mk lx ly lz) (jN.mk la lb lc ld) lf (kM.mk lu lv)), (kJ.mk (jT.mk rx ry rz) (jN.mk ra rb rc rd) rf (kM.mk ru rv))])), (20, (kE 2)), (21, (kE 0))] [] (zE (kU nO) <| zR (kA xX) <| zE (kU nR) <| zR (kA xX) <| zE (cP el140 aZ bE) <| zE (fT el140 2) <| zM <| zZ) ?_
 refine jE <| qE 20 ?_
 refine qK <| jA <| kx [(22, (vb true))] [] (zE (qY true qS) <| zZ) ?_
 refine jA <| kD ?_
 refine jD <| jA <| jE <| jA <| kx [(6, (.ref 3 0))] [(3, some (bx (uZ (kJ.mk (jT.mk lx ly lz) (jN.mk la lb lc ld) lf (kM.mk lu lv)))))] (zE (zD el140 0) <| zE (gZ xX) <| zN (qH 3 aZ bE) <| zT (kR xX) <| zZ) ?_
 refine jA <| kx [(7, (kE (uL lx ly lz lu lv lf la lb lc ld)))] [] (zR (kA xX) <| zE (kC (qs_stn lx ly lz la lb lc ld lf lu lv)) <| zM <| zZ) ?_
 refine jA <| kx [(28, (vb false))] [] (zM <| zE (qY false mR (by exact bne_eq_false_iff_eq.2 (by rw [show (uL lx ly lz lu lv lf la lb lc ld) = 0 from hl]; rfl))) <| zZ) ?_
 refine kO ?_
 refine jD <| kx [(21, (kE 1))] [] (zE (qQ 1 (hr := by decide)) <| zM <| zZ) ?_
 refine jJ (jZ.refl _) ?_
 refine jA <| kx [(22, (vb true))] [] (zE (qY true qS) <| zZ) ?_
 refine jA <| kD ?_
 refine jD <| jA <| jE <| jA <| kx [(6, (.ref 4 0))] [(4, some (bx (uZ (kJ.mk (jT.mk rx ry rz) (jN.mk ra rb rc rd) rf (kM.mk ru rv)))))] (zE (zD el140 1) <| zE (gZ xX) <| zN (qH 4 aZ bE) <| zT (kR xX) <| zZ) ?_
 refine jA <| kx [(7, (kE (uL rx ry rz ru rv rf ra rb rc rd)))] [] (zR (kA xX) <| zE (kC (qs_stn rx ry rz ra rb rc rd rf ru rv)) <| zM <| zZ) ?_
 refine jA <| kx [(28, (vb false))] [] (zM <| zE (qY false mR (by exact bne_eq_false_iff_eq.2 (by rw [show (uL rx ry rz ru rv rf ra rb rc rd) = 0 from hr]; rfl))) <| zZ) ?_
 refine kO ?_
 refine jD <| kx [(21, (kE 2))] [] (zE (qQ 2 (hr := by decide)) <| zM <| zZ) ?_
 refine jJ (jZ.refl _) ?_
 refine jA <| kx [(22, (vb false))] [] (zE (qY false qS) <| zZ) ?_
 refine jA <| kO ?_
 refine kQ <| jA <| kX (wk (l := [(1, (.ref 0 0)), (2, (.ref 1 0)), (4, (.ref 2 0)), (19, (vl 29 10 uZ [(kJ.mk (jT.mk lx ly lz) (jN.mk la lb lc ld) lf (kM.mk lu lv)), (kJ.mk (jT.mk rx ry rz) (jN.mk ra rb rc rd) rf (kM.mk ru rv))])), (20, (kE 2)), (21, (kE 2)), (22, (vb false))]) (b := [(0, some y5), (1, some y2), (2, some y1)])) ?_
 refine kd [(8, (.ref 5 0)), (9, (.ref 6 0))] [(5, some (bx (uZ (kJ.mk (jT.mk lx ly lz) (jN.mk la lb lc ld) lf (kM.mk lu lv))))), (6, some (bx (uZ (kJ.mk (jT.mk rx ry rz) (jN.mk ra rb rc rd) rf (kM.mk ru rv)))))] mo (wE (kU nO) <| wR (kA xX) <| wE (kU nR) <| wR (kA xX) <| wN (qH 5 aZ bE) <| wN (qH 6 aZ bE) <| wT (kR xX) <| wT (kR xX) <| wZ) ?_
 refine jA ?_
 have bn1 : QL b0 3 := (jX (Eq.symm hb0) (qi (rx - lx)))
 have bn2 : QL b1 3 := (jX (Eq.symm hb1) (qi (ry - ly)))
 have bn3 : QL b2 3 := (jX (Eq.symm hb2) (qi (rz - lz)))
 refine kx [] [(2, some (bx (yE (RLp.mk (kY.mk (kJ.mk (jT.mk lx ly lz) (jN.mk la lb lc ld) lf (kM.mk lu lv)) (kJ.mk (jT.mk rx ry rz) (jN.mk ra rb rc rd) rf (kM.mk ru rv))) (A3.mk (jC b0) (jC b1) (jC b2)) y3))))] (zE (kU yZ) <| zE (kU cO) <| zR (uM vW) <| zE (kU yZ) <| zE (kU cO) <| zR (uM vW) <| zE (aF (rx - lx) (hr := by exact (qV rfl (by simp only [xM]; omega) (by simp only [xN]; omega)))) <| zE (kU yZ) <| zE (kU dE) <| zR (uM vW) <| zE (kU yZ) <| zE (kU dE) <| zR (uM vW) <| zE (aF (ry - ly) (hr := by exact (qV rfl (by simp only [xM]; omega) (by simp only [xN]; omega)))) <| zE (kU yZ) <| zE (kU dI) <| zR (uM vW) <| zE (kU yZ) <| zE (kU dI) <| zR (uM vW) <| zE (aF (rz - lz) (hr := by exact (qV rfl (by simp only [xM]; omega) (by simp only [xN]; omega)))) <| zE (kC (by have h := qs_whole (rx - lx) (by omega) (by omega) (ry - ly) (by omega) (by omega) (rz - lz) (by omega) (by omega); rw [hb0, hb1, hb2] at h; exact h)) <| zE (kU fo47_1) <| zT (kR xR) <| zZ) ?_
 refine jA ?_
 have bn4 : QL ((0 : Int) : Rat) 3 := (qi 0)
 have bn5 : QL ((1 : Int) : Rat) 3 := (qi 1)
 refine kx [(10, (.ref 7 0))] [(7, some (bx (jY (A3.mk (jC ((0 : Int) : Rat)) (jC ((0 : Int) : Rat)) (jC ((1 : Int) : Rat))))))] (zE (kC (qs_whole ((0 : Nat) : Int) (by omega) (by omega) ((0 : Nat) : Int) (by omega) (by omega) ((1 : Nat) : Int) (by omega) (by omega))) <| zN (qH 7 iE bV) <| zT (kR xR) <| zZ) ?_
 refine jA ?_
 have bn6 : QL (gD la lb lc ld) 3 := (fM)
 have bn7 : QL (gE la lb lc ld) 3 := (fO)
 have bn8 : QL (zJ la lb lc ld) 3 := (fJ)
 have bn9 : QL (gK la lb lc ld) 3 := (eZ)
 have bn10 : QL (gJ la lb lc ld) 3 := (fG)
 have bn11 : QL (yA la lb lc ld) 3 := (fA)
 have bn12 : QL (gO la lb lc ld) 3 := (fH)
 have bn13 : QL (gP la lb lc ld) 3 := (fP)
 have bn14 : QL (yB la lb lc ld) 3 := (fF)
 have bn15 : QL (zJ la lb lc ld) 20 := (jX (Eq.symm (xE (gD la lb lc ld) (gE la lb lc ld) (zJ la lb lc ld))) (jR (n := 3) (k := 20) bn6 bn7 bn8 bn4 bn4 bn5 (by decide)))
 have bn16 : QL (yA la lb lc ld) 20 := (jX (Eq.symm (xE (gK la lb lc ld) (gJ la lb lc ld) (yA la lb lc ld))) (jR (n := 3) (k := 20) bn9 bn10 bn11 bn4 bn4 bn5 (by decide)))
 have bn17 : QL (yB la lb lc ld) 20 := (jX (Eq.symm (xE (gO la lb lc ld) (gP la lb lc ld) (yB la lb lc ld))) (jR (n := 3) (k := 20) bn12 bn13 bn14 bn4 bn4 bn5 (by decide)))
 have bn18 : QL (N4 ra rb rc rd) 3 := (kN4)
 have bn19 : QL (gD ra rb rc rd) 3 := (fM)
 have bn20 : QL (gE ra rb rc rd) 3 := (fO)
 have bn21 : QL (zJ ra rb rc rd) 3 := (fJ)
 have bn22 : QL (gK ra rb rc rd) 3 := (eZ)
 have bn23 : QL (gJ ra rb rc rd) 3 := (fG)
 have bn24 : QL (yA ra rb rc rd) 3 := (fA)
 have bn25 : QL (gO ra rb rc rd) 3 := (fH)
 have bn26 : QL (gP ra rb rc rd) 3 := (fP)
 have bn27 : QL (yB ra rb rc rd) 3 := (fF)
 have bn28 : QL (zJ ra rb rc rd) 20 := (jX (Eq.symm (xE (gD ra rb rc rd) (gE ra rb rc rd) (zJ ra rb rc rd))) (jR (n := 3) (k := 20) bn19 bn20 bn21 bn4 bn4 bn5 (by decide)))
 have bn29 : QL (yA ra rb rc rd) 20 := (jX (Eq.symm (xE (gK ra rb rc rd) (gJ ra rb rc rd) (yA ra rb rc rd))) (jR (n := 3) (k := 20) bn22 bn23 bn24 bn4 bn4 bn5 (by decide)))
 have bn30 : QL (yB ra rb rc rd) 20 := (jX (Eq.symm (xE (gO ra rb rc rd) (gP ra rb rc rd) (yB ra rb rc rd))) (jR (n := 3) (k := 20) bn25 bn26 bn27 bn4 bn4 bn5 (by decide)))
 have bn31 : QL (N4 la lb lc ld) 3 := (kN4)
 have bn32 : QL (cK la lb lc ld ra rb rc rd) 47 := (jX (Eq.symm (dq0_eq la lb lc ld ra rb rc rd)) (yX (k := 47) (jV (k := 23) bn15 bn18 (by decide)) (jV (k := 23) bn28 bn31 (by decide)) (by decide)))
 have bn33 : QL (cJ la lb lc ld ra rb rc rd) 47 := (jX (Eq.symm (dq1_eq la lb lc ld ra rb rc rd)) (yX (k := 47) (jV (k := 23) bn16 bn18 (by decide)) (jV (k := 23) bn29 bn31 (by decide)) (by decide)))
 have bn34 : QL (cM la lb lc ld ra rb rc rd) 47 := (jX (Eq.symm (dq2_eq la lb lc ld ra rb rc rd)) (yX (k := 47) (jV (k := 23) bn17 bn18 (by decide)) (jV (k := 23) bn30 bn31 (by decide)) (by decide)))
 refine kd [(11, (.ref 8 0))] [(8, some (bx (jY (A3.mk (jC (cK la lb lc ld ra rb rc rd)) (jC (cJ la lb lc ld ra rb rc rd)) (jC (cM la lb lc ld ra rb rc rd))))))] mo (wE (kU gF) <| wR (kA yO) <| wE (kC (qs_mat la lb lc ld (by omega) (by omega) (by omega) (by omega) hlq)) <| wR (kA xR) <| wE (kC (by have h := fU (gD la lb lc ld) (gE la lb lc ld) (zJ la lb lc ld) (gK la lb lc ld) (gJ la lb lc ld) (yA la lb lc ld) (gO la lb lc ld) (gP la lb lc ld) (yB la lb lc ld) (qu bn6) (qu bn7) (qu bn8) (qu bn9) (qu bn10) (qu bn11) (qu bn12) (qu bn13) (qu bn14) ((0 : Int) : Rat) ((0 : Int) : Rat) ((1 : Int) : Rat) (qu bn4) (qu bn4) (qu bn5); rw [(xE (gD la lb lc ld) (gE la lb lc ld) (zJ la lb lc ld)), (xE (gK la lb lc ld) (gJ la lb lc ld) (yA la lb lc ld)), (xE (gO la lb lc ld) (gP la lb lc ld) (yB la lb lc ld))] at h; exact h)) <| wE (kU gF) <| wR (kA yO) <| wE (kC (iH ra rb rc rd (by omega) (by omega) (by omega) (by omega))) <| wE (kC (cD (zJ la lb lc ld) (yA la lb lc ld) (yB la lb lc ld) (qu bn15) (qu bn16) (qu bn17) (N4 ra rb rc rd) (qu bn18))) <| wE (kU gF) <| wR (kA yO) <| wE (kC (qs_mat ra rb rc rd (by omega) (by omega) (by omega) (by omega) hrq)) <| wR (kA xR) <| wE (kC (by have h := fU (gD ra rb rc rd) (gE ra rb rc rd) (zJ ra rb rc rd) (gK ra rb rc rd) (gJ ra rb rc rd) (yA ra rb rc rd) (gO ra rb rc rd) (gP ra rb rc rd) (yB ra rb rc rd) (qu bn19) (qu bn20) (qu bn21) (qu bn22) (qu bn23) (qu bn24) (qu bn25) (qu bn26) (qu bn27) ((0 : Int) : Rat) ((0 : Int) : Rat) ((1 : Int) : Rat) (qu bn4) (qu bn4) (qu bn5); rw [(xE (gD ra rb rc rd) (gE ra rb rc rd) (zJ ra rb rc rd)), (xE (gK ra rb rc rd) (gJ ra rb rc rd) (yA ra rb rc rd)), (xE (gO ra rb rc rd) (gP ra rb rc rd) (yB ra rb rc rd))] at h; exact h)) <| wE (kU gF) <| wR (kA yO) <| wE (kC (iH la lb lc ld (by omega) (by omega) (by omega) (by omega))) <| wE (kC (cD (zJ ra rb rc rd) (yA ra rb rc rd) (yB ra rb rc rd) (qu bn28) (qu bn29) (qu bn30) (N4 la lb lc ld) (qu bn31))) <| wE (kC (by have h := qs_sum ((zJ la lb lc ld) * (N4 ra rb rc rd)) ((yA la lb lc ld) * (N4 ra rb rc rd)) ((yB la lb lc ld) * (N4 ra rb rc rd)) (kB (jV (k := 23) bn15 bn18 (by decide)) (by decide)) (kB (jV (k := 23) bn16 bn18 (by decide)) (by decide)) (kB (jV (k := 23) bn17 bn18 (by decide)) (by decide)) ((zJ ra rb rc rd) * (N4 la lb lc ld)) ((yA ra rb rc rd) * (N4 la lb lc ld)) ((yB ra rb rc rd) * (N4 la lb lc ld)) (kB (jV (k := 23) bn28 bn31 (by decide)) (by decide)) (kB (jV (k := 23) bn29 bn31 (by decide)) (by decide)) (kB (jV (k := 23) bn30 bn31 (by decide)) (by decide)); rw [(dq0_eq la lb lc ld ra rb rc rd), (dq1_eq la lb lc ld ra rb rc rd), (dq2_eq la lb lc ld ra rb rc rd)] at h; exact h)) <| wN (qH 8 iE bV) <| wT (kR xR) <| wZ) ?_
 refine jA ?_
 have bn35 : QL (((cJ la lb lc ld ra rb rc rd) * b2) - ((cM la lb lc ld ra rb rc rd) * b1)) 101 := (qZ (k := 101) (jV (k := 50) bn33 bn3 (by decide)) (jV (k := 50) bn34 bn2 (by decide)) (by decide))
 have bn36 : QL (((cM la lb lc ld ra rb rc rd) * b0) - ((cK la lb lc ld ra rb rc rd) * b2)) 101 := (qZ (k := 101) (jV (k := 50) bn34 bn1 (by decide)) (jV (k := 50) bn32 bn3 (by decide)) (by decide))
 have bn37 : QL (((cK la lb lc ld ra rb rc rd) * b1) - ((cJ la lb lc ld ra rb rc rd) * b0)) 101 := (qZ (k := 101) (jV (k := 50) bn32 bn2 (by decide)) (jV (k := 50) bn33 bn1 (by decide)) (by decide))
 refine kx [(12, (.ref 9 0))] [(9, some (bx (jY (A3.mk (jC (((cJ la lb lc ld ra rb rc rd) * b2) - ((cM la lb lc ld ra rb rc rd) * b1))) (jC (((cM la lb lc ld ra rb rc rd) * b0) - ((cK la lb lc ld ra rb rc rd) * b2))) (jC (((cK la lb lc ld ra rb rc rd) * b1) - ((cJ la lb lc ld ra rb rc rd) * b0)))))))] (zR (kA xR) <| zE (kU fo47_1) <| zR (kA xR) <| zE (kC (qs_cross (cK la lb lc ld ra rb rc rd) (cJ la lb lc ld ra rb rc rd) (cM la lb lc ld ra rb rc rd) (qu bn32) (qu bn33) (qu bn34) b0 b1 b2 (qu bn1) (qu bn2) (qu bn3))) <| zN (qH 9 iE bV) <| zT (kR xR) <| zZ) ?_
 refine jA <| jA <| kx [(84, (vb false))] [] (zR (kA xR) <| zE (qY false (kC (qs_zero (((cJ la lb lc ld ra rb rc rd) * b2) - ((cM la lb lc ld ra rb rc rd) * b1)) (((cM la lb lc ld ra rb rc rd) * b0) - ((cK la lb lc ld ra rb rc rd) * b2)) (((cK la lb lc ld ra rb rc rd) * b1) - ((cJ la lb lc ld ra rb rc rd) * b0)) (qu bn35) (qu bn36) (qu bn37))) (by exact hup)) <| zZ) ?_
 refine kO ?_
 refine jD <| jA ?_
 have bn38 : QL e00 6 := (jX (Eq.symm he00) (jV (k := 6) bn1 (zC (n := 3) (k := 3) bn1 bn2 bn3 (by decide) (by decide)) (by decide)))
 have bn39 : QL e01 6 := (jX (Eq.symm he01) (jV (k := 6) bn2 (zC (n := 3) (k := 3) bn1 bn2 bn3 (by decide) (by decide)) (by decide)))
 have bn40 : QL e02 6 := (jX (Eq.symm he02) (jV (k := 6) bn3 (zC (n := 3) (k := 3) bn1 bn2 bn3 (by decide) (by decide)) (by decide)))
 refine kx [] [(2, some (bx (yE (RLp.mk (kY.mk (kJ.mk (jT.mk lx ly lz) (jN.mk la lb lc ld) lf (kM.mk lu lv)) (kJ.mk (jT.mk rx ry rz) (jN.mk ra rb rc rd) rf (kM.mk ru rv))) (A3.mk (jC b0) (jC b1) (jC b2)) (A3.mk (A3.mk (jC e00) (jC e01) (jC e02)) y7 y7)))))] (zE (kU fo47_1) <| zR (kA xR) <| zE (kC (by have h := qs_red b0 b1 b2 (qu bn1) (qu bn2) (qu bn3) hzb; rw [he00, he01, he02] at h; exact h)) <| zE (kU aY) <| zE (uJ ar45 0) <| zT (kR xR) <| zZ) ?_
 refine jA ?_
 have bn41 : QL (((cJ la lb lc ld ra rb rc rd) * e02) - ((cM la lb lc ld ra rb rc rd) * e01)) 107 := (qZ (k := 107) (jV (k := 53) bn33 bn40 (by decide)) (jV (k := 53) bn34 bn39 (by decide)) (by decide))
 have bn42 : QL (((cM la lb lc ld ra rb rc rd) * e00) - ((cK la lb lc ld ra rb rc rd) * e02)) 107 := (qZ (k := 107) (jV (k := 53) bn34 bn38 (by decide)) (jV (k := 53) bn32 bn40 (by decide)) (by decide))
 have bn43 : QL (((cK la lb lc ld ra rb rc rd) * e01) - ((cJ la lb lc ld ra rb rc rd) * e00)) 107 := (qZ (k := 107) (jV (k := 53) bn32 bn39 (by decide)) (jV (k := 53) bn33 bn38 (by decide)) (by decide))
 have bn44 : QL e10 214 := (jX (Eq.symm he10) (jV (k := 214) bn41 (zC (n := 107) (k := 107) bn41 bn42 bn43 (by decide) (by decide)) (by decide)))
 have bn45 : QL e11 214 := (jX (Eq.symm he11) (jV (k := 214) bn42 (zC (n := 107) (k := 107) bn41 bn42 bn43 (by decide) (by decide)) (by decide)))
 have bn46 : QL e12 214 := (jX (Eq.symm he12) (jV (k := 214) bn43 (zC (n := 107) (k := 107) bn41 bn42 bn43 (by decide) (by decide)) (by decide)))
 refine kx [] [(2, some (bx (yE (RLp.mk (kY.mk (kJ.mk (jT.mk lx ly lz) (jN.mk la lb lc ld) lf (kM.mk lu lv)) (kJ.mk (jT.mk rx ry rz) (jN.mk ra rb rc rd) rf (kM.mk ru rv))) (A3.mk (jC b0) (jC b1) (jC b2)) (A3.mk (A3.mk (jC e00) (jC e01) (jC e02)) (A3.mk (jC e10) (jC e11) (jC e12)) y7)))))] (zR (kA xR) <| zE (kU aY) <| zE (uJ ar45 0) <| zR (kA xR) <| zE (kC (qs_cross (cK la lb lc ld ra rb rc rd) (cJ la lb lc ld ra rb rc rd) (cM la lb lc ld ra rb rc rd) (qu bn32) (qu bn33) (qu bn34) e00 e01 e02 (qu bn38) (qu bn39) (qu bn40))) <| zE (kC (by have h := qs_red (((cJ la lb lc ld ra rb rc rd) * e02) - ((cM la lb lc ld ra rb rc rd) * e01)) (((cM la lb lc ld ra rb rc rd) * e00) - ((cK la lb lc ld ra rb rc rd) * e02)) (((cK la lb lc ld ra rb rc rd) * e01) - ((cJ la lb lc ld ra rb rc rd) * e00)) (qu bn41) (qu bn42) (qu bn43) hzs; rw [he10, he11, he12] at h; exact h)) <| zE (kU aY) <| zE (uJ ar45 1) <| zT (kR xR) <| zZ) ?_
 refine jA ?_
 have bn47 : QL ((e01 * e12) - (e02 * e11)) 441 := (qZ (k := 441) (jV (k := 220) bn39 bn46 (by decide)) (jV (k := 220) bn40 bn45 (by decide)) (by decide))
 have bn48 : QL ((e02 * e10) - (e00 * e12)) 441 := (qZ (k := 441) (jV (k := 220) bn40 bn44 (by decide)) (jV (k := 220) bn38 bn46 (by decide)) (by decide))
 have bn49 : QL ((e00 * e11) - (e01 * e10)) 441 := (qZ (k := 441) (jV (k := 220) bn38 bn45 (by decide)) (jV (k := 220) bn39 bn44 (by decide)) (by decide))
 have bn50 : QL e20 882 := (jX (Eq.symm he20) (jV (k := 882) bn47 (zC (n := 441) (k := 441) bn47 bn48 bn49 (by decide) (by decide)) (by decide)))
 have bn51 : QL e21 882 := (jX (Eq.symm he21) (jV (k := 882) bn48 (zC (n := 441) (k := 441) bn47 bn48 bn49 (by decide) (by decide)) (by decide)))
 have bn52 : QL e22 882 := (jX (Eq.symm he22) (jV (k := 882) bn49 (zC (n := 441) (k := 441) bn47 bn48 bn49 (by decide) (by decide)) (by decide)))
 refine kx [] [(2, some y4)] (zE (kU aY) <| zE (uJ ar45 0) <| zR (kA xR) <| zE (kU aY) <| zE (uJ ar45 1) <| zR (kA xR) <| zE (kC (qs_cross e00 e01 e02 (qu bn38) (qu bn39) (qu bn40) e10 e11 e12 (qu bn44) (qu bn45) (qu bn46))) <| zE (kC (by have h := qs_red ((e01 * e12) - (e02 * e11)) ((e02 * e10) - (e00 * e12)) ((e00 * e11) - (e01 * e10)) (qu bn47) (qu bn48) (qu bn49) hzt; rw [he20, he21, he22] at h; exact h)) <| zE (kU aY) <| zE (uJ ar45 2) <| zT (kR xR) <| zZ) ?_
 refine jA <| kx [(3, (kE 0))] [(1, some y4)] (zR (kA eO) <| zT (kR eO) <| zM <| zZ) ?_
 refine jG ⟨_, (qB (cs := (bx (yE (RLp.mk (kY.mk (kJ.mk (jT.mk lx ly lz) (jN.mk la lb lc ld) lf (kM.mk lu lv)) (kJ.mk (jT.mk rx ry rz) (jN.mk ra rb rc rd) rf (kM.mk ru rv))) (A3.mk (jC b0) (jC b1) (jC b2)) (A3.mk (A3.mk (jC e00) (jC e01) (jC e02)) (A3.mk (jC e10) (jC e11) (jC e12)) (A3.mk (jC e20) (jC e21) (jC e22))))))) (d := (yE (RLp.mk (kY.mk (kJ.mk (jT.mk lx ly lz) (jN.mk la lb lc ld) lf (kM.mk lu lv)) (kJ.mk (jT.mk rx ry rz) (jN.mk ra rb rc rd) rf (kM.mk ru rv))) (A3.mk (jC b0) (jC b1) (jC b2)) (A3.mk (A3.mk (jC e00) (jC e01) (jC e02)) (A3.mk (jC e10) (jC e11) (jC e12)) (A3.mk (jC e20) (jC e21) (jC e22)))))) rfl rfl eO rfl rfl (.tmp (d := (.val (.int .i64 (((0 : Nat) : Int))))) rfl .nil)), ?_⟩
 rfl
end Go.Proofs.YtbecgnplakngdaaGreat
