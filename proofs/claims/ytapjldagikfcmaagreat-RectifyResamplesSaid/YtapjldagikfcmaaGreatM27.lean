/- Part 27 of a proof: rules, plain facts, and functions walked. -/
import Derived.Test.YtapjldagikfcmaaGreatM26
namespace Go.Proofs.YtapjldagikfcmaaGreat
open Go.Fid
set_option maxRecDepth 4000
set_option linter.unusedVariables false
set_option linter.unusedSimpArgs false
theorem cb47 : callB Tryz.prog 47 = true := by kernel_rfl
theorem cb131 : callB Tryz.prog 131 = true := by kernel_rfl
theorem el44 : zJ Tryz.prog 44 = some (56, 10) := by kernel_rfl
theorem eqs52 : eqsB Tryz.prog 52 = some 3 := by kernel_rfl
theorem mI : vN Tryz.prog 97 0 = some 0 := by kernel_rfl
theorem mG : vN Tryz.prog 97 1 = some 10 := by kernel_rfl
theorem fo104_1 : vN Tryz.prog 104 1 = some 20 := by kernel_rfl
theorem nS : vN Tryz.prog 104 2 = some 32 := by kernel_rfl
theorem aG : vN Tryz.prog 225 2 = some 20 := by kernel_rfl
theorem gA : vN Tryz.prog 225 3 = some 32 := by kernel_rfl
theorem pl104 : cJ Tryz.prog 104 = some [(0, 20), (20, 12), (32, 36)] := by kernel_rfl
theorem pl225 : cJ Tryz.prog 225 = some [(0, 10), (10, 10), (20, 12), (32, 36)] := by kernel_rfl
theorem sh52 : uJ Tryz.prog 52 = some (true, 3) := by kernel_rfl
theorem zW : uJ Tryz.prog 56 = some (true, 10) := by kernel_rfl
theorem dE : uJ Tryz.prog 97 = some (true, 20) := by kernel_rfl
theorem nP : uJ Tryz.prog 104 = some (true, 68) := by kernel_rfl
theorem ze52 : xL Tryz.prog 52 = some [.int .i64 0, .int .i64 0, .int .i64 0] := by kernel_rfl
theorem aY : xL Tryz.prog 56 = some [.int .i64 0, .int .i64 0, .int .i64 0, .int .i64 0, .int .i64 0, .int .i64 0, .int .i64 0, .int .i64 0, .int .i64 0, .int .i64 0] := by kernel_rfl
theorem fN : xL Tryz.prog 104 = some [.int .i64 0, .int .i64 0, .int .i64 0, .int .i64 0, .int .i64 0, .int .i64 0, .int .i64 0, .int .i64 0, .int .i64 0, .int .i64 0, .int .i64 0, .int .i64 0, .int .i64 0, .int .i64 0, .int .i64 0, .int .i64 0, .int .i64 0, .int .i64 0, .int .i64 0, .int .i64 0, .bool false, .slice none 0 0, .bool false, .slice none 0 0, .bool false, .slice none 0 0, .bool false, .slice none 0 0, .bool false, .slice none 0 0, .bool false, .slice none 0 0, .bool false, .slice none 0 0, .bool false, .slice none 0 0, .bool false, .slice none 0 0, .bool false, .slice none 0 0, .bool false, .slice none 0 0, .bool false, .slice none 0 0, .bool false, .slice none 0 0, .bool false, .slice none 0 0, .bool false, .slice none 0 0, .bool false, .slice none 0 0, .bool false, .slice none 0 0, .bool false, .slice none 0 0, .bool false, .slice none 0 0, .bool false, .slice none 0 0, .bool false, .slice none 0 0, .bool false, .slice none 0 0, .bool false, .slice none 0 0, .bool false, .slice none 0 0] := by kernel_rfl
theorem ze225 : xL Tryz.prog 225 = some [.int .i64 0, .int .i64 0, .int .i64 0, .int .i64 0, .int .i64 0, .int .i64 0, .int .i64 0, .int .i64 0, .int .i64 0, .int .i64 0, .int .i64 0, .int .i64 0, .int .i64 0, .int .i64 0, .int .i64 0, .int .i64 0, .int .i64 0, .int .i64 0, .int .i64 0, .int .i64 0, .bool false, .slice none 0 0, .bool false, .slice none 0 0, .bool false, .slice none 0 0, .bool false, .slice none 0 0, .bool false, .slice none 0 0, .bool false, .slice none 0 0, .bool false, .slice none 0 0, .bool false, .slice none 0 0, .bool false, .slice none 0 0, .bool false, .slice none 0 0, .bool false, .slice none 0 0, .bool false, .slice none 0 0, .bool false, .slice none 0 0, .bool false, .slice none 0 0, .bool false, .slice none 0 0, .bool false, .slice none 0 0, .bool false, .slice none 0 0, .bool false, .slice none 0 0, .bool false, .slice none 0 0, .bool false, .slice none 0 0, .bool false, .slice none 0 0, .bool false, .slice none 0 0, .bool false, .slice none 0 0, .bool false, .slice none 0 0] := by kernel_rfl
theorem zo52 : cD [.int .i64 0, .int .i64 0, .int .i64 0] [.val (.int .i64 0), .val (.int .i64 0), .val (.int .i64 0)] := by simp [cD, Value.oneCell']
theorem aZ : cD [.int .i64 0, .int .i64 0, .int .i64 0, .int .i64 0, .int .i64 0, .int .i64 0, .int .i64 0, .int .i64 0, .int .i64 0, .int .i64 0] [.val (.int .i64 0), .val (.int .i64 0), .val (.int .i64 0), .val (.int .i64 0), .val (.int .i64 0), .val (.int .i64 0), .val (.int .i64 0), .val (.int .i64 0), .val (.int .i64 0), .val (.int .i64 0)] := by simp [cD, Value.oneCell']
theorem fM : cD [.int .i64 0, .int .i64 0, .int .i64 0, .int .i64 0, .int .i64 0, .int .i64 0, .int .i64 0, .int .i64 0, .int .i64 0, .int .i64 0, .int .i64 0, .int .i64 0, .int .i64 0, .int .i64 0, .int .i64 0, .int .i64 0, .int .i64 0, .int .i64 0, .int .i64 0, .int .i64 0, .bool false, .slice none 0 0, .bool false, .slice none 0 0, .bool false, .slice none 0 0, .bool false, .slice none 0 0, .bool false, .slice none 0 0, .bool false, .slice none 0 0, .bool false, .slice none 0 0, .bool false, .slice none 0 0, .bool false, .slice none 0 0, .bool false, .slice none 0 0, .bool false, .slice none 0 0, .bool false, .slice none 0 0, .bool false, .slice none 0 0, .bool false, .slice none 0 0, .bool false, .slice none 0 0, .bool false, .slice none 0 0, .bool false, .slice none 0 0, .bool false, .slice none 0 0, .bool false, .slice none 0 0, .bool false, .slice none 0 0, .bool false, .slice none 0 0, .bool false, .slice none 0 0, .bool false, .slice none 0 0, .bool false, .slice none 0 0] [.val (.int .i64 0), .val (.int .i64 0), .val (.int .i64 0), .val (.int .i64 0), .val (.int .i64 0), .val (.int .i64 0), .val (.int .i64 0), .val (.int .i64 0), .val (.int .i64 0), .val (.int .i64 0), .val (.int .i64 0), .val (.int .i64 0), .val (.int .i64 0), .val (.int .i64 0), .val (.int .i64 0), .val (.int .i64 0), .val (.int .i64 0), .val (.int .i64 0), .val (.int .i64 0), .val (.int .i64 0), .val (.bool false), .sl 181 1 [], .val (.bool false), .sl 181 1 [], .val (.bool false), .sl 181 1 [], .val (.bool false), .sl 181 1 [], .val (.bool false), .sl 181 1 [], .val (.bool false), .sl 181 1 [], .val (.bool false), .sl 181 1 [], .val (.bool false), .sl 181 1 [], .val (.bool false), .sl 181 1 [], .val (.bool false), .sl 181 1 [], .val (.bool false), .sl 181 1 [], .val (.bool false), .sl 181 1 [], .val (.bool false), .sl 181 1 [], .val (.bool false), .sl 181 1 [], .val (.bool false), .sl 181 1 [], .val (.bool false), .sl 181 1 [], .val (.bool false), .sl 181 1 [], .val (.bool false), .sl 181 1 [], .val (.bool false), .sl 181 1 [], .val (.bool false), .sl 181 1 [], .val (.bool false), .sl 181 1 [], .val (.bool false), .sl 181 1 [], .val (.bool false), .sl 181 1 [], .val (.bool false), .sl 181 1 []] := by simp [cD, Value.oneCell']
theorem zo225 : cD [.int .i64 0, .int .i64 0, .int .i64 0, .int .i64 0, .int .i64 0, .int .i64 0, .int .i64 0, .int .i64 0, .int .i64 0, .int .i64 0, .int .i64 0, .int .i64 0, .int .i64 0, .int .i64 0, .int .i64 0, .int .i64 0, .int .i64 0, .int .i64 0, .int .i64 0, .int .i64 0, .bool false, .slice none 0 0, .bool false, .slice none 0 0, .bool false, .slice none 0 0, .bool false, .slice none 0 0, .bool false, .slice none 0 0, .bool false, .slice none 0 0, .bool false, .slice none 0 0, .bool false, .slice none 0 0, .bool false, .slice none 0 0, .bool false, .slice none 0 0, .bool false, .slice none 0 0, .bool false, .slice none 0 0, .bool false, .slice none 0 0, .bool false, .slice none 0 0, .bool false, .slice none 0 0, .bool false, .slice none 0 0, .bool false, .slice none 0 0, .bool false, .slice none 0 0, .bool false, .slice none 0 0, .bool false, .slice none 0 0, .bool false, .slice none 0 0, .bool false, .slice none 0 0, .bool false, .slice none 0 0, .bool false, .slice none 0 0] [.val (.int .i64 0), .val (.int .i64 0), .val (.int .i64 0), .val (.int .i64 0), .val (.int .i64 0), .val (.int .i64 0), .val (.int .i64 0), .val (.int .i64 0), .val (.int .i64 0), .val (.int .i64 0), .val (.int .i64 0), .val (.int .i64 0), .val (.int .i64 0), .val (.int .i64 0), .val (.int .i64 0), .val (.int .i64 0), .val (.int .i64 0), .val (.int .i64 0), .val (.int .i64 0), .val (.int .i64 0), .val (.bool false), .sl 181 1 [], .val (.bool false), .sl 181 1 [], .val (.bool false), .sl 181 1 [], .val (.bool false), .sl 181 1 [], .val (.bool false), .sl 181 1 [], .val (.bool false), .sl 181 1 [], .val (.bool false), .sl 181 1 [], .val (.bool false), .sl 181 1 [], .val (.bool false), .sl 181 1 [], .val (.bool false), .sl 181 1 [], .val (.bool false), .sl 181 1 [], .val (.bool false), .sl 181 1 [], .val (.bool false), .sl 181 1 [], .val (.bool false), .sl 181 1 [], .val (.bool false), .sl 181 1 [], .val (.bool false), .sl 181 1 [], .val (.bool false), .sl 181 1 [], .val (.bool false), .sl 181 1 [], .val (.bool false), .sl 181 1 [], .val (.bool false), .sl 181 1 [], .val (.bool false), .sl 181 1 [], .val (.bool false), .sl 181 1 [], .val (.bool false), .sl 181 1 [], .val (.bool false), .sl 181 1 []] := by simp [cD, Value.oneCell']
theorem q_recE1 (lx ly lz la lb lc ld lf lu lv rx ry rz ra rb rc rd rf ru rv : Int) (c : Nat) (hc : stn2 (uQ lx ly lz lu lv lf la lb lc ld) (uQ rx ry rz ru rv rf ra rb rc rd) = c) (hc0 : c ≠ 0) : kH Tryz.prog 131 [(qQ (kT.mk (kG.mk (jQ.mk lx ly lz) (jL.mk la lb lc ld) lf (jU.mk lu lv)) (kG.mk (jQ.mk rx ry rz) (jL.mk ra rb rc rd) rf (jU.mk ru rv))))] (.tup [(.val (.pointer none)), (.val (.int .i64 (((c : Nat) : Int))))]) := by
 let y1 := (qQ (kT.mk (kG.mk (jQ.mk lx ly lz) (jL.mk la lb lc ld) lf (jU.mk lu lv)) (kG.mk (jQ.mk rx ry rz) (jL.mk ra rb rc rd) rf (jU.mk ru rv))))
 refine jM Tryz.func131 rfl cb131 rfl ?_
 show uY _ _ _ _ ⟨[(0, (.d y1))], []⟩
 refine jA <| kx [(1, (.ref 0 0))] [(0, some (bx y1))] (zN (vD 0) <| zM <| zM <| zZ) ?_
 refine jA <| jA <| kx [(4, (kD (uQ lx ly lz lu lv lf la lb lc ld)))] [] (zE (kE mI) <| zR (kC zW) <| zE (kB (q_stn lx ly lz la lb lc ld lf lu lv)) <| zM <| zZ) ?_
 refine jA <| kx [(17, (vb ((((uQ lx ly lz lu lv lf la lb lc ld) : Nat) : Int) != 0)))] [] (zM <| zE eS <| zZ) ?_
 refine jO rfl (fun h1 => ?_) (fun h1 => ?_)
 ·replace h1 := bne_iff_ne.1 h1
  refine jA <| kx [(2, (.d (.val (.pointer none)))), (3, (kD (uQ lx ly lz lu lv lf la lb lc ld)))] [] (zM <| zM <| zM <| zZ) ?_
  refine jF ⟨_, (.tmp (d := (.val (.pointer none))) rfl (.tmp (d := (.val (.int .i64 ((((uQ lx ly lz lu lv lf la lb lc ld) : Nat) : Int))))) rfl .nil)), ?_⟩
  rw [stn2_l h1 hc]; rfl
 ·replace h1 := bne_eq_false_iff_eq.1 h1
  refine jB <| jA <| jA <| kx [(5, (kD (uQ rx ry rz ru rv rf ra rb rc rd)))] [] (zE (kE mG) <| zR (kC zW) <| zE (kB (q_stn rx ry rz ra rb rc rd rf ru rv)) <| zM <| zZ) ?_
  refine jA <| kx [(23, (vb ((((uQ rx ry rz ru rv rf ra rb rc rd) : Nat) : Int) != 0)))] [] (zM <| zE eS <| zZ) ?_
  refine jO rfl (fun h2 => ?_) (fun h2 => ?_)
  ·replace h2 := bne_iff_ne.1 h2
   refine jA <| kx [(2, (.d (.val (.pointer none)))), (3, (kD (uQ rx ry rz ru rv rf ra rb rc rd)))] [] (zM <| zM <| zM <| zZ) ?_
   refine jF ⟨_, (.tmp (d := (.val (.pointer none))) rfl (.tmp (d := (.val (.int .i64 ((((uQ rx ry rz ru rv rf ra rb rc rd) : Nat) : Int))))) rfl .nil)), ?_⟩
   rw [stn2_r h1 hc]; rfl
  ·replace h2 := bne_eq_false_iff_eq.1 h2
   exact absurd (stn2_0 (by simpa using h1) (by simpa using h2) hc) hc0
theorem q_recE2 (lx ly lz la lb lc ld lf lu lv rx ry rz ra rb rc rd rf ru rv : Int) (b0 b1 b2 : Rat) (xI : QL b0 3) (xH : QL b1 3) (xJ : QL b2 3) (hl : uQ lx ly lz lu lv lf la lb lc ld = 0) (hr : uQ rx ry rz ru rv rf ra rb rc rd = 0) (hb0 : ((rx - lx : Int) : Rat) = b0) (hb1 : ((ry - ly : Int) : Rat) = b1) (hb2 : ((rz - lz : Int) : Rat) = b2) (hup : upV la lb lc ld ra rb rc rd b0 b1 b2 = true) : kH Tryz.prog 131 [(qQ (kT.mk (kG.mk (jQ.mk lx ly lz) (jL.mk la lb lc ld) lf (jU.mk lu lv)) (kG.mk (jQ.mk rx ry rz) (jL.mk ra rb rc rd) rf (jU.mk ru rv))))] (.tup [(.val (.pointer none)), (.val (.int .i64 (13)))]) := by
 have hbl := vU hl
 have hbr := vU hr
 obtain ⟨hlx, hly, hlz, hlu, hlv, hlf, hlq⟩ := hbl
 obtain ⟨hrx, hry, hrz, hru, hrv, hrf, hrq⟩ := hbr
 obtain ⟨hla, hlb, hlc, hld, -⟩ := vQ hlq
 obtain ⟨hra, hrb, hrc, hrd, -⟩ := vQ hrq
 have hnl := gX hla hlb hlc hld
 have hnr := gX hra hrb hrc hrd
 let y5 := (A3.mk (jZ.mk (jI.mk false []) (jI.mk false [])) (jZ.mk (jI.mk false []) (jI.mk false [])) (jZ.mk (jI.mk false []) (jI.mk false [])))
 let y4 := (qQ (kT.mk (kG.mk (jQ.mk lx ly lz) (jL.mk la lb lc ld) lf (jU.mk lu lv)) (kG.mk (jQ.mk rx ry rz) (jL.mk ra rb rc rd) rf (jU.mk ru rv))))
 let y3 := (bx (jK (A3.mk (jD (((cT la lb lc ld ra rb rc rd) * (b2 * (yQ b0 b1 b2))) - ((cS la lb lc ld ra rb rc rd) * (b1 * (yQ b0 b1 b2))))) (jD (((cS la lb lc ld ra rb rc rd) * (b0 * (yQ b0 b1 b2))) - ((cQ la lb lc ld ra rb rc rd) * (b2 * (yQ b0 b1 b2))))) (jD (((cQ la lb lc ld ra rb rc rd) * (b1 * (yQ b0 b1 b2))) - ((cT la lb lc ld ra rb rc rd) * (b0 * (yQ b0 b1 b2))))))))
 let y2 := (A3.mk y5 y5 y5)
 let y1 := (bx (mA (RRp.mk (kG.mk (jQ.mk lx ly lz) (jL.mk la lb lc ld) lf (jU.mk lu lv)) (kG.mk (jQ.mk rx ry rz) (jL.mk ra rb rc rd) rf (jU.mk ru rv)) (A3.mk (jD b0) (jD b1) (jD b2)) (A3.mk (A3.mk (jD (b0 * (yQ b0 b1 b2))) (jD (b1 * (yQ b0 b1 b2))) (jD (b2 * (yQ b0 b1 b2)))) y5 y5))))
 refine jM Tryz.func131 rfl cb131 rfl ?_
 show uY _ _ _ _ ⟨[(0, (.d y4))], []⟩
 refine jA <| kx [(1, (.ref 0 0))] [(0, some (bx y4))] (zN (vD 0) <| zM <| zM <| zZ) ?_
 refine jA <| jA <| kx [(4, (kD (uQ lx ly lz lu lv lf la lb lc ld)))] [] (zE (kE mI) <| zR (kC zW) <| zE (kB (q_stn lx ly lz la lb lc ld lf lu lv)) <| zM <| zZ) ?_
 refine jA <| kx [(17, (vb false))] [] (zM <| zE (kR false eS (by exact bne_eq_false_iff_eq.2 (by rw [show (uQ lx ly lz lu lv lf la lb lc ld) = 0 from hl]; rfl))) <| zZ) ?_
 refine jT ?_
 refine jB <| jA <| jA <| kx [(5, (kD (uQ rx ry rz ru rv rf ra rb rc rd)))] [] (zE (kE mG) <| zR (kC zW) <| zE (kB (q_stn rx ry rz ra rb rc rd rf ru rv)) <| zM <| zZ) ?_
 refine jA <| kx [(23, (vb false))] [] (zM <| zE (kR false eS (by exact bne_eq_false_iff_eq.2 (by rw [show (uQ rx ry rz ru rv rf ra rb rc rd) = 0 from hr]; rfl))) <| zZ) ?_
 refine jT ?_
 refine jB <| jA <| kx [(6, (.ref 1 0))] [(1, some (bx (mA (RRp.mk (kG.mk (jQ.mk lx ly lz) (jL.mk la lb lc ld) lf (jU.mk lu lv)) (kG.mk (jQ.mk rx ry rz) (jL.mk ra rb rc rd) rf (jU.mk ru rv)) y5 y2))))] (zE (kE mI) <| zR (kC zW) <| zE (kE mG) <| zR (kC zW) <| zE (oBd pl225 ze225 zo225) <| zN (vD 1) <| zM <| zZ) ?_
 refine jA <| kd [(7, (.ref 2 0)), (8, (.ref 3 0))] [(2, some (bx (eZ (jQ.mk lx ly lz)))), (3, some (bx (eZ (jQ.mk rx ry rz))))] mo (wE (kE mI) <| wE (kE gE) <| wR (kC sh52) <| wE (kE mG) <| wE (kE gE) <| wR (kC sh52) <| wN (uK 2 ze52 zo52) <| wN (uK 3 ze52 zo52) <| wT (qG sh52) <| wT (qG sh52) <| wZ) ?_
 refine jA ?_
 have bn1 : QL b0 3 := (kF (Eq.symm hb0) (qi (rx - lx)))
 have bn2 : QL b1 3 := (kF (Eq.symm hb1) (qi (ry - ly)))
 have bn3 : QL b2 3 := (kF (Eq.symm hb2) (qi (rz - lz)))
 refine kx [] [(1, some (bx (mA (RRp.mk (kG.mk (jQ.mk lx ly lz) (jL.mk la lb lc ld) lf (jU.mk lu lv)) (kG.mk (jQ.mk rx ry rz) (jL.mk ra rb rc rd) rf (jU.mk ru rv)) (A3.mk (jD b0) (jD b1) (jD b2)) y2))))] (zM <| zE (kE dF) <| zR (qR qP) <| zE (kE dF) <| zR (qR qP) <| zE (cR (rx - lx) (hr := by exact (qO rfl (by simp only [vP]; omega) (by simp only [vS]; omega)))) <| zE (kE dM) <| zR (qR qP) <| zE (kE dM) <| zR (qR qP) <| zE (cR (ry - ly) (hr := by exact (qO rfl (by simp only [vP]; omega) (by simp only [vS]; omega)))) <| zE (kE dL) <| zR (qR qP) <| zE (kE dL) <| zR (qR qP) <| zE (cR (rz - lz) (hr := by exact (qO rfl (by simp only [vP]; omega) (by simp only [vS]; omega)))) <| zE (kB (by have h := q_whole (rx - lx) (by omega) (by omega) (ry - ly) (by omega) (by omega) (rz - lz) (by omega) (by omega); rw [hb0, hb1, hb2] at h; exact h)) <| zE oNc <| zE (kE aG) <| zT (qG qX) <| zZ) ?_
 refine jA <| jA <| kx [(58, (vb (decide ([lx, ly, lz] = [rx, ry, rz]))))] [] (zR (kC sh52) <| zR (kC sh52) <| zE (oEs eqs52 .i64 [lx, ly, lz] [rx, ry, rz]) <| zZ) ?_
 refine jO (b := (decide ([lx, ly, lz] = [rx, ry, rz]))) rfl (fun h1 => ?_) (fun h1 => ?_)
 ·replace h1 := of_decide_eq_true h1
  refine jA <| kx [(2, (.d (.val (.pointer none)))), (3, (kD 13))] [] (zM <| zM <| zZ) ?_
  refine jF ⟨_, (.tmp (d := (.val (.pointer none))) rfl (.tmp (d := (.val (.int .i64 (((13 : Nat) : Int))))) rfl .nil)), ?_⟩
  rfl
 ·replace h1 := of_decide_eq_false h1
  have hzb := zb_ne hb0 hb1 hb2 h1
  have hzs := up_zs hzb hup
  refine jB <| jA ?_
  have bn4 : QL (yX la lb lc ld) 3 := (kR00)
  have bn5 : QL (yW la lb lc ld) 3 := (kR01)
  have bn6 : QL (vX la lb lc ld) 3 := (kR02)
  have bn7 : QL (gC la lb lc ld) 3 := (kR10)
  have bn8 : QL (gD la lb lc ld) 3 := (kR11)
  have bn9 : QL (xD la lb lc ld) 3 := (kR12)
  have bn10 : QL (gI la lb lc ld) 3 := (kR20)
  have bn11 : QL (gJ la lb lc ld) 3 := (kR21)
  have bn12 : QL (xF la lb lc ld) 3 := (kR22)
  have bn13 : QL (yX ra rb rc rd) 3 := (kR00)
  have bn14 : QL (yW ra rb rc rd) 3 := (kR01)
  have bn15 : QL (vX ra rb rc rd) 3 := (kR02)
  have bn16 : QL (gC ra rb rc rd) 3 := (kR10)
  have bn17 : QL (gD ra rb rc rd) 3 := (kR11)
  have bn18 : QL (xD ra rb rc rd) 3 := (kR12)
  have bn19 : QL (gI ra rb rc rd) 3 := (kR20)
  have bn20 : QL (gJ ra rb rc rd) 3 := (kR21)
  have bn21 : QL (xF ra rb rc rd) 3 := (kR22)
  refine kd [(9, (.ref 4 0)), (10, (.ref 5 0))] [(4, some (bx (uA (A3.mk (A3.mk (jD (yX la lb lc ld)) (jD (gC la lb lc ld)) (jD (gI la lb lc ld))) (A3.mk (jD (yW la lb lc ld)) (jD (gD la lb lc ld)) (jD (gJ la lb lc ld))) (A3.mk (jD (vX la lb lc ld)) (jD (xD la lb lc ld)) (jD (xF la lb lc ld))))))), (5, some (bx (uA (A3.mk (A3.mk (jD (yX ra rb rc rd)) (jD (gC ra rb rc rd)) (jD (gI ra rb rc rd))) (A3.mk (jD (yW ra rb rc rd)) (jD (gD ra rb rc rd)) (jD (gJ ra rb rc rd))) (A3.mk (jD (vX ra rb rc rd)) (jD (xD ra rb rc rd)) (jD (xF ra rb rc rd)))))))] mo (wE (kE mI) <| wE (kE gB) <| wR (kC yP) <| wE (kB (q_turn la lb lc ld (by omega) (by omega) (by omega) (by omega) hlq)) <| wE (kB (cB (yX la lb lc ld) (yW la lb lc ld) (vX la lb lc ld) (gC la lb lc ld) (gD la lb lc ld) (xD la lb lc ld) (gI la lb lc ld) (gJ la lb lc ld) (xF la lb lc ld) (qu bn4) (qu bn5) (qu bn6) (qu bn7) (qu bn8) (qu bn9) (qu bn10) (qu bn11) (qu bn12))) <| wE (kE mG) <| wE (kE gB) <| wR (kC yP) <| wE (kB (q_turn ra rb rc rd (by omega) (by omega) (by omega) (by omega) hrq)) <| wE (kB (cB (yX ra rb rc rd) (yW ra rb rc rd) (vX ra rb rc rd) (gC ra rb rc rd) (gD ra rb rc rd) (xD ra rb rc rd) (gI ra rb rc rd) (gJ ra rb rc rd) (xF ra rb rc rd) (qu bn13) (qu bn14) (qu bn15) (qu bn16) (qu bn17) (qu bn18) (qu bn19) (qu bn20) (qu bn21))) <| wN (uK 4 eI eK) <| wN (uK 5 eI eK) <| wT (qG nK) <| wT (qG nK) <| wZ) ?_
  refine jA ?_
  have bn22 : QL (N4 ra rb rc rd) 3 := (kF (Eq.symm (show ((nq ra rb rc rd : Int) : Rat) = (N4 ra rb rc rd) from rfl)) (kL (z := (nq ra rb rc rd)) (jN (by omega) (by omega)) (by decide)))
  have bn23 : QL (N4 la lb lc ld) 3 := (kF (Eq.symm (show ((nq la lb lc ld : Int) : Rat) = (N4 la lb lc ld) from rfl)) (kL (z := (nq la lb lc ld)) (jN (by omega) (by omega)) (by decide)))
  have bn24 : QL (cQ la lb lc ld ra rb rc rd) 13 := (kF (Eq.symm (dq0_eq la lb lc ld ra rb rc rd)) (kQ (k := 13) (jG (k := 6) bn6 bn22 (by decide)) (jG (k := 6) bn15 bn23 (by decide)) (by decide)))
  have bn25 : QL (cT la lb lc ld ra rb rc rd) 13 := (kF (Eq.symm (dq1_eq la lb lc ld ra rb rc rd)) (kQ (k := 13) (jG (k := 6) bn9 bn22 (by decide)) (jG (k := 6) bn18 bn23 (by decide)) (by decide)))
  have bn26 : QL (cS la lb lc ld ra rb rc rd) 13 := (kF (Eq.symm (dq2_eq la lb lc ld ra rb rc rd)) (kQ (k := 13) (jG (k := 6) bn12 bn22 (by decide)) (jG (k := 6) bn21 bn23 (by decide)) (by decide)))
  refine kd [(11, (.ref 6 0))] [(6, some (bx (jK (A3.mk (jD (cQ la lb lc ld ra rb rc rd)) (jD (cT la lb lc ld ra rb rc rd)) (jD (cS la lb lc ld ra rb rc rd))))))] mo (wE (vL vK 2) <| wR (kC qX) <| wE (kE mG) <| wE (kE gB) <| wR (kC yP) <| wE (kB (q_norm ra rb rc rd (by omega) (by omega) (by omega) (by omega))) <| wE (kB (by have h := gQ (nq ra rb rc rd) (by omega) (by omega); rw [(show ((nq ra rb rc rd : Int) : Rat) = (N4 ra rb rc rd) from rfl)] at h; exact h)) <| wE (kB (mH (vX la lb lc ld) (xD la lb lc ld) (xF la lb lc ld) (qu bn6) (qu bn9) (qu bn12) (N4 ra rb rc rd) (qu bn22))) <| wE (vL vK 2) <| wR (kC qX) <| wE (kE mI) <| wE (kE gB) <| wR (kC yP) <| wE (kB (q_norm la lb lc ld (by omega) (by omega) (by omega) (by omega))) <| wE (kB (by have h := gQ (nq la lb lc ld) (by omega) (by omega); rw [(show ((nq la lb lc ld : Int) : Rat) = (N4 la lb lc ld) from rfl)] at h; exact h)) <| wE (kB (mH (vX ra rb rc rd) (xD ra rb rc rd) (xF ra rb rc rd) (qu bn15) (qu bn18) (qu bn21) (N4 la lb lc ld) (qu bn23))) <| wE (kB (by have h := q_sum ((vX la lb lc ld) * (N4 ra rb rc rd)) ((xD la lb lc ld) * (N4 ra rb rc rd)) ((xF la lb lc ld) * (N4 ra rb rc rd)) (qV (jG (k := 6) bn6 bn22 (by decide)) (by decide)) (qV (jG (k := 6) bn9 bn22 (by decide)) (by decide)) (qV (jG (k := 6) bn12 bn22 (by decide)) (by decide)) ((vX ra rb rc rd) * (N4 la lb lc ld)) ((xD ra rb rc rd) * (N4 la lb lc ld)) ((xF ra rb rc rd) * (N4 la lb lc ld)) (qV (jG (k := 6) bn15 bn23 (by decide)) (by decide)) (qV (jG (k := 6) bn18 bn23 (by decide)) (by decide)) (qV (jG (k := 6) bn21 bn23 (by decide)) (by decide)); rw [(dq0_eq la lb lc ld ra rb rc rd), (dq1_eq la lb lc ld ra rb rc rd), (dq2_eq la lb lc ld ra rb rc rd)] at h; exact h)) <| wN (uK 6 nD nC) <| wT (qG qX) <| wZ) ?_
  refine jA ?_
  have bn27 : QL (b0 * (yQ b0 b1 b2)) 6 := (jG (k := 6) bn1 (yA (n := 3) (k := 3) bn1 bn2 bn3 (by decide) (by decide)) (by decide))
  have bn28 : QL (b1 * (yQ b0 b1 b2)) 6 := (jG (k := 6) bn2 (yA (n := 3) (k := 3) bn1 bn2 bn3 (by decide) (by decide)) (by decide))
  have bn29 : QL (b2 * (yQ b0 b1 b2)) 6 := (jG (k := 6) bn3 (yA (n := 3) (k := 3) bn1 bn2 bn3 (by decide) (by decide)) (by decide))
  refine kd [] [(1, some y1)] mo (wM <| wM <| wE oNc <| wE (kE aG) <| wR (kC qX) <| wE (kB (q_red b0 b1 b2 (qu bn1) (qu bn2) (qu bn3) hzb)) <| wE oNc <| wE (kE gA) <| wE (vL vK 0) <| wT (qG qX) <| wZ) ?_
  refine jA ?_
  have bn30 : QL (((cT la lb lc ld ra rb rc rd) * (b2 * (yQ b0 b1 b2))) - ((cS la lb lc ld ra rb rc rd) * (b1 * (yQ b0 b1 b2)))) 39 := (xG (k := 39) (jG (k := 19) bn25 bn29 (by decide)) (jG (k := 19) bn26 bn28 (by decide)) (by decide))
  have bn31 : QL (((cS la lb lc ld ra rb rc rd) * (b0 * (yQ b0 b1 b2))) - ((cQ la lb lc ld ra rb rc rd) * (b2 * (yQ b0 b1 b2)))) 39 := (xG (k := 39) (jG (k := 19) bn26 bn27 (by decide)) (jG (k := 19) bn24 bn29 (by decide)) (by decide))
  have bn32 : QL (((cQ la lb lc ld ra rb rc rd) * (b1 * (yQ b0 b1 b2))) - ((cT la lb lc ld ra rb rc rd) * (b0 * (yQ b0 b1 b2)))) 39 := (xG (k := 39) (jG (k := 19) bn24 bn28 (by decide)) (jG (k := 19) bn25 bn27 (by decide)) (by decide))
  refine kd [(12, (.ref 7 0))] [(7, some y3)] mo (wR (kC qX) <| wM <| wE oNc <| wE (kE gA) <| wE (vL vK 0) <| wR (kC qX) <| wE (kB (q_cross (cQ la lb lc ld ra rb rc rd) (cT la lb lc ld ra rb rc rd) (cS la lb lc ld ra rb rc rd) (qu bn24) (qu bn25) (qu bn26) (b0 * (yQ b0 b1 b2)) (b1 * (yQ b0 b1 b2)) (b2 * (yQ b0 b1 b2)) (qu bn27) (qu bn28) (qu bn29))) <| wN (uK 7 nD nC) <| wT (qG qX) <| wZ) ?_
  refine jA <| jA <| kx [(103, (vb true))] [] (zR (kC qX) <| zE (kR true (kB (q_isz (((cT la lb lc ld ra rb rc rd) * (b2 * (yQ b0 b1 b2))) - ((cS la lb lc ld ra rb rc rd) * (b1 * (yQ b0 b1 b2)))) (((cS la lb lc ld ra rb rc rd) * (b0 * (yQ b0 b1 b2))) - ((cQ la lb lc ld ra rb rc rd) * (b2 * (yQ b0 b1 b2)))) (((cQ la lb lc ld ra rb rc rd) * (b1 * (yQ b0 b1 b2))) - ((cT la lb lc ld ra rb rc rd) * (b0 * (yQ b0 b1 b2)))) (qu bn30) (qu bn31) (qu bn32))) (by exact hzs)) <| zZ) ?_
  refine jX ?_
  refine jA <| kP (wk (l := [(6, (.ref 1 0)), (12, (.ref 7 0)), (103, (vb true))]) (b := [(1, some y1), (7, some y3)])) ?_
  refine kx [(2, (.d (.val (.pointer none)))), (3, (kD 13))] [] (zM <| zM <| zZ) ?_
  refine jF ⟨_, (.tmp (d := (.val (.pointer none))) rfl (.tmp (d := (.val (.int .i64 (((13 : Nat) : Int))))) rfl .nil)), ?_⟩
  rfl
theorem q_rec (lx ly lz la lb lc ld lf lu lv rx ry rz ra rb rc rd rf ru rv : Int) (b0 b1 b2 e00 e01 e02 e10 e11 e12 e20 e21 e22 : Rat) (hF : RFr lx ly lz la lb lc ld rx ry rz ra rb rc rd b0 b1 b2 e00 e01 e02 e10 e11 e12 e20 e21 e22) (xI : QL b0 3) (xH : QL b1 3) (xJ : QL b2 3) (qE : QL e00 400) (kZ : QL e01 400) (qA : QL e02 400) (qJ : QL e10 400) (qK : QL e11 400) (qI : QL e12 400) (qD : QL e20 400) (qB : QL e21 400) (qC : QL e22 400) (hl : uQ lx ly lz lu lv lf la lb lc ld = 0) (hr : uQ rx ry rz ru rv rf ra rb rc rd = 0) (hup : upV la lb lc ld ra rb rc rd b0 b1 b2 = false) : kH Tryz.prog 131 [(qQ (kT.mk (kG.mk (jQ.mk lx ly lz) (jL.mk la lb lc ld) lf (jU.mk lu lv)) (kG.mk (jQ.mk rx ry rz) (jL.mk ra rb rc rd) rf (jU.mk ru rv))))] (.tup [(.cptr 1000001 (kX.cells (mA (RRp.mk (kG.mk (jQ.mk lx ly lz) (jL.mk la lb lc ld) lf (jU.mk lu lv)) (kG.mk (jQ.mk rx ry rz) (jL.mk ra rb rc rd) rf (jU.mk ru rv)) (A3.mk (jD b0) (jD b1) (jD b2)) (A3.mk (A3.mk (jD e00) (jD e01) (jD e02)) (A3.mk (jD e10) (jD e11) (jD e12)) (A3.mk (jD e20) (jD e21) (jD e22)))))) 0), (.val (.int .i64 (0)))]) := by
 have hbl := vU hl
 have hbr := vU hr
 obtain ⟨hlx, hly, hlz, hlu, hlv, hlf, hlq⟩ := hbl
 obtain ⟨hrx, hry, hrz, hru, hrv, hrf, hrq⟩ := hbr
 obtain ⟨hla, hlb, hlc, hld, -⟩ := vQ hlq
 obtain ⟨hra, hrb, hrc, hrd, -⟩ := vQ hrq
 have hnl := gX hla hlb hlc hld
 have hnr := gX hra hrb hrc hrd
 have hF2 := hF
 unfold RFr at hF2
 obtain ⟨hb0, hb1, hb2, he00, he01, he02, he10, he11, he12, he20, he21, he22⟩ := hF2
 have hzb := fr_zb hF hup
 have hzs := fr_zs hF hup
 have hzt := fr_zt hF hup
 let y6 := (A3.mk (jZ.mk (jI.mk false []) (jI.mk false [])) (jZ.mk (jI.mk false []) (jI.mk false [])) (jZ.mk (jI.mk false []) (jI.mk false [])))
 let y5 := (qQ (kT.mk (kG.mk (jQ.mk lx ly lz) (jL.mk la lb lc ld) lf (jU.mk lu lv)) (kG.mk (jQ.mk rx ry rz) (jL.mk ra rb rc rd) rf (jU.mk ru rv))))
 let y4 := (bx (jK (A3.mk (jD (((cT la lb lc ld ra rb rc rd) * e02) - ((cS la lb lc ld ra rb rc rd) * e01))) (jD (((cS la lb lc ld ra rb rc rd) * e00) - ((cQ la lb lc ld ra rb rc rd) * e02))) (jD (((cQ la lb lc ld ra rb rc rd) * e01) - ((cT la lb lc ld ra rb rc rd) * e00))))))
 let y3 := (mA (RRp.mk (kG.mk (jQ.mk lx ly lz) (jL.mk la lb lc ld) lf (jU.mk lu lv)) (kG.mk (jQ.mk rx ry rz) (jL.mk ra rb rc rd) rf (jU.mk ru rv)) (A3.mk (jD b0) (jD b1) (jD b2)) (A3.mk (A3.mk (jD e00) (jD e01) (jD e02)) (A3.mk (jD e10) (jD e11) (jD e12)) (A3.mk (jD e20) (jD e21) (jD e22)))))
 let y2 := (A3.mk y6 y6 y6)
 let y1 := (bx (mA (RRp.mk (kG.mk (jQ.mk lx ly lz) (jL.mk la lb lc ld) lf (jU.mk lu lv)) (kG.mk (jQ.mk rx ry rz) (jL.mk ra rb rc rd) rf (jU.mk ru rv)) (A3.mk (jD b0) (jD b1) (jD b2)) (A3.mk (A3.mk (jD e00) (jD e01) (jD e02)) y6 y6))))
 refine jM Tryz.func131 rfl cb131 rfl ?_
 show uY _ _ _ _ ⟨[(0, (.d y5))], []⟩
 refine jA <| kx [(1, (.ref 0 0))] [(0, some (bx y5))] (zN (vD 0) <| zM <| zM <| zZ) ?_
 refine jA <| jA <| kx [(4, (kD (uQ lx ly lz lu lv lf la lb lc ld)))] [] (zE (kE mI) <| zR (kC zW) <| zE (kB (q_stn lx ly lz la lb lc ld lf lu lv)) <| zM <| zZ) ?_
 refine jA <| kx [(17, (vb false))] [] (zM <| zE (kR false eS (by exact bne_eq_false_iff_eq.2 (by rw [show (uQ lx ly lz lu lv lf la lb lc ld) = 0 from hl]; rfl))) <| zZ) ?_
 refine jT ?_
 refine jB <| jA <| jA <| kx [(5, (kD (uQ rx ry rz ru rv rf ra rb rc rd)))] [] (zE (kE mG) <| zR (kC zW) <| zE (kB (q_stn rx ry rz ra rb rc rd rf ru rv)) <| zM <| zZ) ?_
 refine jA <| kx [(23, (vb false))] [] (zM <| zE (kR false eS (by exact bne_eq_false_iff_eq.2 (by rw [show (uQ rx ry rz ru rv rf ra rb rc rd) = 0 from hr]; rfl))) <| zZ) ?_
 refine jT ?_
 refine jB <| jA <| kx [(6, (.ref 1 0))] [(1, some (bx (mA (RRp.mk (kG.mk (jQ.mk lx ly lz) (jL.mk la lb lc ld) lf (jU.mk lu lv)) (kG.mk (jQ.mk rx ry rz) (jL.mk ra rb rc rd) rf (jU.mk ru rv)) y6 y2))))] (zE (kE mI) <| zR (kC zW) <| zE (kE mG) <| zR (kC zW) <| zE (oBd pl225 ze225 zo225) <| zN (vD 1) <| zM <| zZ) ?_
 refine jA <| kd [(7, (.ref 2 0)), (8, (.ref 3 0))] [(2, some (bx (eZ (jQ.mk lx ly lz)))), (3, some (bx (eZ (jQ.mk rx ry rz))))] mo (wE (kE mI) <| wE (kE gE) <| wR (kC sh52) <| wE (kE mG) <| wE (kE gE) <| wR (kC sh52) <| wN (uK 2 ze52 zo52) <| wN (uK 3 ze52 zo52) <| wT (qG sh52) <| wT (qG sh52) <| wZ) ?_
 refine jA ?_
 have bn1 : QL b0 3 := (kF (Eq.symm hb0) (qi (rx - lx)))
 have bn2 : QL b1 3 := (kF (Eq.symm hb1) (qi (ry - ly)))
 have bn3 : QL b2 3 := (kF (Eq.symm hb2) (qi (rz - lz)))
 refine kx [] [(1, some (bx (mA (RRp.mk (kG.mk (jQ.mk lx ly lz) (jL.mk la lb lc ld) lf (jU.mk lu lv)) (kG.mk (jQ.mk rx ry rz) (jL.mk ra rb rc rd) rf (jU.mk ru rv)) (A3.mk (jD b0) (jD b1) (jD b2)) y2))))] (zM <| zE (kE dF) <| zR (qR qP) <| zE (kE dF) <| zR (qR qP) <| zE (cR (rx - lx) (hr := by exact (qO rfl (by simp only [vP]; omega) (by simp only [vS]; omega)))) <| zE (kE dM) <| zR (qR qP) <| zE (kE dM) <| zR (qR qP) <| zE (cR (ry - ly) (hr := by exact (qO rfl (by simp only [vP]; omega) (by simp only [vS]; omega)))) <| zE (kE dL) <| zR (qR qP) <| zE (kE dL) <| zR (qR qP) <| zE (cR (rz - lz) (hr := by exact (qO rfl (by simp only [vP]; omega) (by simp only [vS]; omega)))) <| zE (kB (by have h := q_whole (rx - lx) (by omega) (by omega) (ry - ly) (by omega) (by omega) (rz - lz) (by omega) (by omega); rw [hb0, hb1, hb2] at h; exact h)) <| zE oNc <| zE (kE aG) <| zT (qG qX) <| zZ) ?_
 refine jA <| jA <| kx [(58, (vb (decide ([lx, ly, lz] = [rx, ry, rz]))))] [] (zR (kC sh52) <| zR (kC sh52) <| zE (oEs eqs52 .i64 [lx, ly, lz] [rx, ry, rz]) <| zZ) ?_
 refine jO (b := (decide ([lx, ly, lz] = [rx, ry, rz]))) rfl (fun h1 => ?_) (fun h1 => ?_)
 ·replace h1 := of_decide_eq_true h1
  exact absurd (zb_eq hb0 hb1 hb2 h1) (by rw [hzb]; decide)
 ·replace h1 := of_decide_eq_false h1
  refine jB <| jA ?_
  have bn4 : QL (yX la lb lc ld) 3 := (kR00)
  have bn5 : QL (yW la lb lc ld) 3 := (kR01)
  have bn6 : QL (vX la lb lc ld) 3 := (kR02)
  have bn7 : QL (gC la lb lc ld) 3 := (kR10)
  have bn8 : QL (gD la lb lc ld) 3 := (kR11)
  have bn9 : QL (xD la lb lc ld) 3 := (kR12)
  have bn10 : QL (gI la lb lc ld) 3 := (kR20)
  have bn11 : QL (gJ la lb lc ld) 3 := (kR21)
  have bn12 : QL (xF la lb lc ld) 3 := (kR22)
  have bn13 : QL (yX ra rb rc rd) 3 := (kR00)
  have bn14 : QL (yW ra rb rc rd) 3 := (kR01)
  have bn15 : QL (vX ra rb rc rd) 3 := (kR02)
  have bn16 : QL (gC ra rb rc rd) 3 := (kR10)
  have bn17 : QL (gD ra rb rc rd) 3 := (kR11)
  have bn18 : QL (xD ra rb rc rd) 3 := (kR12)
  have bn19 : QL (gI ra rb rc rd) 3 := (kR20)
  have bn20 : QL (gJ ra rb rc rd) 3 := (kR21)
  have bn21 : QL (xF ra rb rc rd) 3 := (kR22)
  refine kd [(9, (.ref 4 0)), (10, (.ref 5 0))] [(4, some (bx (uA (A3.mk (A3.mk (jD (yX la lb lc ld)) (jD (gC la lb lc ld)) (jD (gI la lb lc ld))) (A3.mk (jD (yW la lb lc ld)) (jD (gD la lb lc ld)) (jD (gJ la lb lc ld))) (A3.mk (jD (vX la lb lc ld)) (jD (xD la lb lc ld)) (jD (xF la lb lc ld))))))), (5, some (bx (uA (A3.mk (A3.mk (jD (yX ra rb rc rd)) (jD (gC ra rb rc rd)) (jD (gI ra rb rc rd))) (A3.mk (jD (yW ra rb rc rd)) (jD (gD ra rb rc rd)) (jD (gJ ra rb rc rd))) (A3.mk (jD (vX ra rb rc rd)) (jD (xD ra rb rc rd)) (jD (xF ra rb rc rd)))))))] mo (wE (kE mI) <| wE (kE gB) <| wR (kC yP) <| wE (kB (q_turn la lb lc ld (by omega) (by omega) (by omega) (by omega) hlq)) <| wE (kB (cB (yX la lb lc ld) (yW la lb lc ld) (vX la lb lc ld) (gC la lb lc ld) (gD la lb lc ld) (xD la lb lc ld) (gI la lb lc ld) (gJ la lb lc ld) (xF la lb lc ld) (qu bn4) (qu bn5) (qu bn6) (qu bn7) (qu bn8) (qu bn9) (qu bn10) (qu bn11) (qu bn12))) <| wE (kE mG) <| wE (kE gB) <| wR (kC yP) <| wE (kB (q_turn ra rb rc rd (by omega) (by omega) (by omega) (by omega) hrq)) <| wE (kB (cB (yX ra rb rc rd) (yW ra rb rc rd) (vX ra rb rc rd) (gC ra rb rc rd) (gD ra rb rc rd) (xD ra rb rc rd) (gI ra rb rc rd) (gJ ra rb rc rd) (xF ra rb rc rd) (qu bn13) (qu bn14) (qu bn15) (qu bn16) (qu bn17) (qu bn18) (qu bn19) (qu bn20) (qu bn21))) <| wN (uK 4 eI eK) <| wN (uK 5 eI eK) <| wT (qG nK) <| wT (qG nK) <| wZ) ?_
  refine jA ?_
  have bn22 : QL (N4 ra rb rc rd) 3 := (kF (Eq.symm (show ((nq ra rb rc rd : Int) : Rat) = (N4 ra rb rc rd) from rfl)) (kL (z := (nq ra rb rc rd)) (jN (by omega) (by omega)) (by decide)))
  have bn23 : QL (N4 la lb lc ld) 3 := (kF (Eq.symm (show ((nq la lb lc ld : Int) : Rat) = (N4 la lb lc ld) from rfl)) (kL (z := (nq la lb lc ld)) (jN (by omega) (by omega)) (by decide)))
  have bn24 : QL (cQ la lb lc ld ra rb rc rd) 13 := (kF (Eq.symm (dq0_eq la lb lc ld ra rb rc rd)) (kQ (k := 13) (jG (k := 6) bn6 bn22 (by decide)) (jG (k := 6) bn15 bn23 (by decide)) (by decide)))
  have bn25 : QL (cT la lb lc ld ra rb rc rd) 13 := (kF (Eq.symm (dq1_eq la lb lc ld ra rb rc rd)) (kQ (k := 13) (jG (k := 6) bn9 bn22 (by decide)) (jG (k := 6) bn18 bn23 (by decide)) (by decide)))
  have bn26 : QL (cS la lb lc ld ra rb rc rd) 13 := (kF (Eq.symm (dq2_eq la lb lc ld ra rb rc rd)) (kQ (k := 13) (jG (k := 6) bn12 bn22 (by decide)) (jG (k := 6) bn21 bn23 (by decide)) (by decide)))
  refine kd [(11, (.ref 6 0))] [(6, some (bx (jK (A3.mk (jD (cQ la lb lc ld ra rb rc rd)) (jD (cT la lb lc ld ra rb rc rd)) (jD (cS la lb lc ld ra rb rc rd))))))] mo (wE (vL vK 2) <| wR (kC qX) <| wE (kE mG) <| wE (kE gB) <| wR (kC yP) <| wE (kB (q_norm ra rb rc rd (by omega) (by omega) (by omega) (by omega))) <| wE (kB (by have h := gQ (nq ra rb rc rd) (by omega) (by omega); rw [(show ((nq ra rb rc rd : Int) : Rat) = (N4 ra rb rc rd) from rfl)] at h; exact h)) <| wE (kB (mH (vX la lb lc ld) (xD la lb lc ld) (xF la lb lc ld) (qu bn6) (qu bn9) (qu bn12) (N4 ra rb rc rd) (qu bn22))) <| wE (vL vK 2) <| wR (kC qX) <| wE (kE mI) <| wE (kE gB) <| wR (kC yP) <| wE (kB (q_norm la lb lc ld (by omega) (by omega) (by omega) (by omega))) <| wE (kB (by have h := gQ (nq la lb lc ld) (by omega) (by omega); rw [(show ((nq la lb lc ld : Int) : Rat) = (N4 la lb lc ld) from rfl)] at h; exact h)) <| wE (kB (mH (vX ra rb rc rd) (xD ra rb rc rd) (xF ra rb rc rd) (qu bn15) (qu bn18) (qu bn21) (N4 la lb lc ld) (qu bn23))) <| wE (kB (by have h := q_sum ((vX la lb lc ld) * (N4 ra rb rc rd)) ((xD la lb lc ld) * (N4 ra rb rc rd)) ((xF la lb lc ld) * (N4 ra rb rc rd)) (qV (jG (k := 6) bn6 bn22 (by decide)) (by decide)) (qV (jG (k := 6) bn9 bn22 (by decide)) (by decide)) (qV (jG (k := 6) bn12 bn22 (by decide)) (by decide)) ((vX ra rb rc rd) * (N4 la lb lc ld)) ((xD ra rb rc rd) * (N4 la lb lc ld)) ((xF ra rb rc rd) * (N4 la lb lc ld)) (qV (jG (k := 6) bn15 bn23 (by decide)) (by decide)) (qV (jG (k := 6) bn18 bn23 (by decide)) (by decide)) (qV (jG (k := 6) bn21 bn23 (by decide)) (by decide)); rw [(dq0_eq la lb lc ld ra rb rc rd), (dq1_eq la lb lc ld ra rb rc rd), (dq2_eq la lb lc ld ra rb rc rd)] at h; exact h)) <| wN (uK 6 nD nC) <| wT (qG qX) <| wZ) ?_
  refine jA ?_
  have bn27 : QL e00 6 := (kF (Eq.symm he00) (jG (k := 6) bn1 (yA (n := 3) (k := 3) bn1 bn2 bn3 (by decide) (by decide)) (by decide)))
  have bn28 : QL e01 6 := (kF (Eq.symm he01) (jG (k := 6) bn2 (yA (n := 3) (k := 3) bn1 bn2 bn3 (by decide) (by decide)) (by decide)))
  have bn29 : QL e02 6 := (kF (Eq.symm he02) (jG (k := 6) bn3 (yA (n := 3) (k := 3) bn1 bn2 bn3 (by decide) (by decide)) (by decide)))
  refine kd [] [(1, some y1)] mo (wM <| wM <| wE oNc <| wE (kE aG) <| wR (kC qX) <| wE (kB (by have h := q_red b0 b1 b2 (qu bn1) (qu bn2) (qu bn3) hzb; rw [he00, he01, he02] at h; exact h)) <| wE oNc <| wE (kE gA) <| wE (vL vK 0) <| wT (qG qX) <| wZ) ?_
  refine jA ?_
  have bn30 : QL (((cT la lb lc ld ra rb rc rd) * e02) - ((cS la lb lc ld ra rb rc rd) * e01)) 39 := (xG (k := 39) (jG (k := 19) bn25 bn29 (by decide)) (jG (k := 19) bn26 bn28 (by decide)) (by decide))
  have bn31 : QL (((cS la lb lc ld ra rb rc rd) * e00) - ((cQ la lb lc ld ra rb rc rd) * e02)) 39 := (xG (k := 39) (jG (k := 19) bn26 bn27 (by decide)) (jG (k := 19) bn24 bn29 (by decide)) (by decide))
  have bn32 : QL (((cQ la lb lc ld ra rb rc rd) * e01) - ((cT la lb lc ld ra rb rc rd) * e00)) 39 := (xG (k := 39) (jG (k := 19) bn24 bn28 (by decide)) (jG (k := 19) bn25 bn27 (by decide)) (by decide))
  refine kd [(12, (.ref 7 0))] [(7, some y4)] mo (wR (kC qX) <| wM <| wE oNc <| wE (kE gA) <| wE (vL vK 0) <| wR (kC qX) <| wE (kB (q_cross (cQ la lb lc ld ra rb rc rd) (cT la lb lc ld ra rb rc rd) (cS la lb lc ld ra rb rc rd) (qu bn24) (qu bn25) (qu bn26) e00 e01 e02 (qu bn27) (qu bn28) (qu bn29))) <| wN (uK 7 nD nC) <| wT (qG qX) <| wZ) ?_
  refine jA <| jA <| kx [(103, (vb false))] [] (zR (kC qX) <| zE (kR false (kB (q_isz (((cT la lb lc ld ra rb rc rd) * e02) - ((cS la lb lc ld ra rb rc rd) * e01)) (((cS la lb lc ld ra rb rc rd) * e00) - ((cQ la lb lc ld ra rb rc rd) * e02)) (((cQ la lb lc ld ra rb rc rd) * e01) - ((cT la lb lc ld ra rb rc rd) * e00)) (qu bn30) (qu bn31) (qu bn32))) (by exact hzs)) <| zZ) ?_
  refine jT ?_
  refine jB <| jA <| kP (wk (l := [(6, (.ref 1 0)), (12, (.ref 7 0)), (103, (vb false))]) (b := [(1, some y1), (7, some y4)])) ?_
  have bn33 : QL e10 78 := (kF (Eq.symm he10) (jG (k := 78) bn30 (yA (n := 39) (k := 39) bn30 bn31 bn32 (by decide) (by decide)) (by decide)))
  have bn34 : QL e11 78 := (kF (Eq.symm he11) (jG (k := 78) bn31 (yA (n := 39) (k := 39) bn30 bn31 bn32 (by decide) (by decide)) (by decide)))
  have bn35 : QL e12 78 := (kF (Eq.symm he12) (jG (k := 78) bn32 (yA (n := 39) (k := 39) bn30 bn31 bn32 (by decide) (by decide)) (by decide)))
  refine kd [] [(1, some (bx (mA (RRp.mk (kG.mk (jQ.mk lx ly lz) (jL.mk la lb lc ld) lf (jU.mk lu lv)) (kG.mk (jQ.mk rx ry rz) (jL.mk ra rb rc rd) rf (jU.mk ru rv)) (A3.mk (jD b0) (jD b1) (jD b2)) (A3.mk (A3.mk (jD e00) (jD e01) (jD e02)) (A3.mk (jD e10) (jD e11) (jD e12)) y6)))))] mo (wM <| wR (kC qX) <| wE (kB (by have h := q_red (((cT la lb lc ld ra rb rc rd) * e02) - ((cS la lb lc ld ra rb rc rd) * e01)) (((cS la lb lc ld ra rb rc rd) * e00) - ((cQ la lb lc ld ra rb rc rd) * e02)) (((cQ la lb lc ld ra rb rc rd) * e01) - ((cT la lb lc ld ra rb rc rd) * e00)) (qu bn30) (qu bn31) (qu bn32) hzs; rw [he10, he11, he12] at h; exact h)) <| wE oNc <| wE (kE gA) <| wE (vL vK 1) <| wT (qG qX) <| wZ) ?_
  refine jA ?_
  have bn36 : QL ((e01 * e12) - (e02 * e11)) 169 := (xG (k := 169) (jG (k := 84) bn28 bn35 (by decide)) (jG (k := 84) bn29 bn34 (by decide)) (by decide))
  have bn37 : QL ((e02 * e10) - (e00 * e12)) 169 := (xG (k := 169) (jG (k := 84) bn29 bn33 (by decide)) (jG (k := 84) bn27 bn35 (by decide)) (by decide))
  have bn38 : QL ((e00 * e11) - (e01 * e10)) 169 := (xG (k := 169) (jG (k := 84) bn27 bn34 (by decide)) (jG (k := 84) bn28 bn33 (by decide)) (by decide))
  have bn39 : QL e20 338 := (kF (Eq.symm he20) (jG (k := 338) bn36 (yA (n := 169) (k := 169) bn36 bn37 bn38 (by decide) (by decide)) (by decide)))
  have bn40 : QL e21 338 := (kF (Eq.symm he21) (jG (k := 338) bn37 (yA (n := 169) (k := 169) bn36 bn37 bn38 (by decide) (by decide)) (by decide)))
  have bn41 : QL e22 338 := (kF (Eq.symm he22) (jG (k := 338) bn38 (yA (n := 169) (k := 169) bn36 bn37 bn38 (by decide) (by decide)) (by decide)))
  refine kd [] [(1, some (bx y3))] mo (wM <| wM <| wE oNc <| wE (kE gA) <| wE (vL vK 0) <| wR (kC qX) <| wM <| wE oNc <| wE (kE gA) <| wE (vL vK 1) <| wR (kC qX) <| wE (kB (q_cross e00 e01 e02 (qu bn27) (qu bn28) (qu bn29) e10 e11 e12 (qu bn33) (qu bn34) (qu bn35))) <| wE (kB (by have h := q_red ((e01 * e12) - (e02 * e11)) ((e02 * e10) - (e00 * e12)) ((e00 * e11) - (e01 * e10)) (qu bn36) (qu bn37) (qu bn38) hzt; rw [he20, he21, he22] at h; exact h)) <| wE oNc <| wE (kE gA) <| wE (vL vK 2) <| wT (qG qX) <| wZ) ?_
  refine jA <| kP (publishP (t := 6) (k := 1) (o := 0) (T := 1000001) (cs := (kX.cells y3)) rfl rfl) ?_
  refine kx [(2, (.d (.cptr 1000001 (kX.cells y3) 0))), (3, (kD 0))] [] (zM <| zM <| zM <| zZ) ?_
  refine jF ⟨_, (.tmp (d := (.cptr 1000001 (kX.cells (mA (RRp.mk (kG.mk (jQ.mk lx ly lz) (jL.mk la lb lc ld) lf (jU.mk lu lv)) (kG.mk (jQ.mk rx ry rz) (jL.mk ra rb rc rd) rf (jU.mk ru rv)) (A3.mk (jD b0) (jD b1) (jD b2)) (A3.mk (A3.mk (jD e00) (jD e01) (jD e02)) (A3.mk (jD e10) (jD e11) (jD e12)) (A3.mk (jD e20) (jD e21) (jD e22)))))) 0)) rfl (.tmp (d := (.val (.int .i64 (((0 : Nat) : Int))))) rfl .nil)), ?_⟩
  rfl
theorem qs_preE1 (lx ly lz la lb lc ld lf lu lv rx ry rz ra rb rc rd rf ru rv : Int) (c : Nat) (hc : stn2 (uQ lx ly lz lu lv lf la lb lc ld) (uQ rx ry rz ru rv rf ra rb rc rd) = c) (hc0 : c ≠ 0) : kH Tryz.prog 47 [(qQ (kT.mk (kG.mk (jQ.mk lx ly lz) (jL.mk la lb lc ld) lf (jU.mk lu lv)) (kG.mk (jQ.mk rx ry rz) (jL.mk ra rb rc rd) rf (jU.mk ru rv))))] (.tup [(yU (RLp.mk (kT.mk (kG.mk (jQ.mk lx ly lz) (jL.mk la lb lc ld) lf (jU.mk lu lv)) (kG.mk (jQ.mk rx ry rz) (jL.mk ra rb rc rd) rf (jU.mk ru rv))) (A3.mk (jZ.mk (jI.mk false []) (jI.mk false [])) (jZ.mk (jI.mk false []) (jI.mk false [])) (jZ.mk (jI.mk false []) (jI.mk false []))) (A3.mk (A3.mk (jZ.mk (jI.mk false []) (jI.mk false [])) (jZ.mk (jI.mk false []) (jI.mk false [])) (jZ.mk (jI.mk false []) (jI.mk false []))) (A3.mk (jZ.mk (jI.mk false []) (jI.mk false [])) (jZ.mk (jI.mk false []) (jI.mk false [])) (jZ.mk (jI.mk false []) (jI.mk false []))) (A3.mk (jZ.mk (jI.mk false []) (jI.mk false [])) (jZ.mk (jI.mk false []) (jI.mk false [])) (jZ.mk (jI.mk false []) (jI.mk false [])))))), (.val (.int .i64 (((c : Nat) : Int))))]) := by
 let y4 := (A3.mk (jZ.mk (jI.mk false []) (jI.mk false [])) (jZ.mk (jI.mk false []) (jI.mk false [])) (jZ.mk (jI.mk false []) (jI.mk false [])))
 let y3 := (qQ (kT.mk (kG.mk (jQ.mk lx ly lz) (jL.mk la lb lc ld) lf (jU.mk lu lv)) (kG.mk (jQ.mk rx ry rz) (jL.mk ra rb rc rd) rf (jU.mk ru rv))))
 let y2 := (A3.mk y4 y4 y4)
 let y1 := (bx (yU (RLp.mk (kT.mk (kG.mk (jQ.mk lx ly lz) (jL.mk la lb lc ld) lf (jU.mk lu lv)) (kG.mk (jQ.mk rx ry rz) (jL.mk ra rb rc rd) rf (jU.mk ru rv))) y4 y2)))
 refine jM Tryz.func47 rfl cb47 rfl ?_
 show uY _ _ _ _ ⟨[(0, (.d y3))], []⟩
 refine jA <| kx [(1, (.ref 0 0)), (2, (.ref 1 0))] [(0, some (bx y3)), (1, some (bx (yU (RLp.mk (kT.mk (kG.mk (jQ.mk 0 0 0) (jL.mk 0 0 0 0) 0 (jU.mk 0 0)) (kG.mk (jQ.mk 0 0 0) (jL.mk 0 0 0 0) 0 (jU.mk 0 0))) y4 y2))))] (zN (vD 0) <| zN (uK 1 fN fM) <| zM <| zZ) ?_
 refine jA <| kx [(4, (.ref 2 0))] [(2, some y1)] (zR (kC dE) <| zE (oBd pl104 fN fM) <| zN (uK 2 fN fM) <| zT (qG nP) <| zZ) ?_
 refine jA <| jA <| kx [(19, (vl 56 10 uT [(kG.mk (jQ.mk lx ly lz) (jL.mk la lb lc ld) lf (jU.mk lu lv)), (kG.mk (jQ.mk rx ry rz) (jL.mk ra rb rc rd) rf (jU.mk ru rv))])), (20, (kD 2)), (21, (kD 0))] [] (zE (kE mI) <| zR (kC zW) <| zE (kE mG) <| zR (kC zW) <| zE (mC el44 aY aZ) <| zE (bJ el44 2) <| zM <| zZ) ?_
 refine jE <| qF 20 ?_
 refine qU <| jA <| kx [(22, (vb true))] [] (zE (kR true qY) <| zZ) ?_
 refine jA <| jX ?_
 refine jB <| jA <| jE <| jA <| kx [(6, (.ref 3 0))] [(3, some (bx (uT (kG.mk (jQ.mk lx ly lz) (jL.mk la lb lc ld) lf (jU.mk lu lv)))))] (zE (zS el44 0) <| zE (dH zW) <| zN (uK 3 aY aZ) <| zT (qG zW) <| zZ) ?_
 refine jA <| kx [(7, (kD (uQ lx ly lz lu lv lf la lb lc ld)))] [] (zR (kC zW) <| zE (kB (qs_stn lx ly lz la lb lc ld lf lu lv)) <| zM <| zZ) ?_
 refine jA <| kx [(28, (vb ((((uQ lx ly lz lu lv lf la lb lc ld) : Nat) : Int) != ((0 : Nat) : Int))))] [] (zM <| zE eS <| zZ) ?_
 refine jO rfl (fun h1 => ?_) (fun h1 => ?_)
 ·replace h1 := bne_iff_ne.1 h1
  refine jA <| kx [(3, (kD (uQ lx ly lz lu lv lf la lb lc ld)))] [(1, some y1)] (zR (kC nP) <| zM <| zT (qG nP) <| zM <| zZ) ?_
  refine jF ⟨_, (qS (cs := (bx (yU (RLp.mk (kT.mk (kG.mk (jQ.mk lx ly lz) (jL.mk la lb lc ld) lf (jU.mk lu lv)) (kG.mk (jQ.mk rx ry rz) (jL.mk ra rb rc rd) rf (jU.mk ru rv))) (A3.mk (jZ.mk (jI.mk false []) (jI.mk false [])) (jZ.mk (jI.mk false []) (jI.mk false [])) (jZ.mk (jI.mk false []) (jI.mk false []))) (A3.mk (A3.mk (jZ.mk (jI.mk false []) (jI.mk false [])) (jZ.mk (jI.mk false []) (jI.mk false [])) (jZ.mk (jI.mk false []) (jI.mk false []))) (A3.mk (jZ.mk (jI.mk false []) (jI.mk false [])) (jZ.mk (jI.mk false []) (jI.mk false [])) (jZ.mk (jI.mk false []) (jI.mk false []))) (A3.mk (jZ.mk (jI.mk false []) (jI.mk false [])) (jZ.mk (jI.mk false []) (jI.mk false [])) (jZ.mk (jI.mk false []) (jI.mk false [])))))))) (d := (yU (RLp.mk (kT.mk (kG.mk (jQ.mk lx ly lz) (jL.mk la lb lc ld) lf (jU.mk lu lv)) (kG.mk (jQ.mk rx ry rz) (jL.mk ra rb rc rd) rf (jU.mk ru rv))) (A3.mk (jZ.mk (jI.mk false []) (jI.mk false [])) (jZ.mk (jI.mk false []) (jI.mk false [])) (jZ.mk (jI.mk false []) (jI.mk false []))) (A3.mk (A3.mk (jZ.mk (jI.mk false []) (jI.mk false [])) (jZ.mk (jI.mk false []) (jI.mk false [])) (jZ.mk (jI.mk false []) (jI.mk false []))) (A3.mk (jZ.mk (jI.mk false []) (jI.mk false [])) (jZ.mk (jI.mk false []) (jI.mk false [])) (jZ.mk (jI.mk false []) (jI.mk false []))) (A3.mk (jZ.mk (jI.mk false []) (jI.mk false [])) (jZ.mk (jI.mk false []) (jI.mk false [])) (jZ.mk (jI.mk false []) (jI.mk false []))))))) rfl rfl nP rfl rfl (.tmp (d := (.val (.int .i64 ((((uQ lx ly lz lu lv lf la lb lc ld) : Nat) : Int))))) rfl .nil)), ?_⟩
  rw [stn2_l h1 hc]; rfl
 ·replace h1 := bne_eq_false_iff_eq.1 h1
  refine jB <| kx [(21, (kD 1))] [] (zE (uE 1 (hr := by decide)) <| zM <| zZ) ?_
  refine jJ (jW.refl _) ?_
  refine jA <| kx [(22, (vb true))] [] (zE (kR true qY) <| zZ) ?_
  refine jA <| jX ?_
  refine jB <| jA <| jE <| jA <| kx [(6, (.ref 4 0))] [(4, some (bx (uT (kG.mk (jQ.mk rx ry rz) (jL.mk ra rb rc rd) rf (jU.mk ru rv)))))] (zE (zS el44 1) <| zE (dH zW) <| zN (uK 4 aY aZ) <| zT (qG zW) <| zZ) ?_
  refine jA <| kx [(7, (kD (uQ rx ry rz ru rv rf ra rb rc rd)))] [] (zR (kC zW) <| zE (kB (qs_stn rx ry rz ra rb rc rd rf ru rv)) <| zM <| zZ) ?_
  refine jA <| kx [(28, (vb ((((uQ rx ry rz ru rv rf ra rb rc rd) : Nat) : Int) != ((0 : Nat) : Int))))] [] (zM <| zE eS <| zZ) ?_
  refine jO rfl (fun h2 => ?_) (fun h2 => ?_)
  ·replace h2 := bne_iff_ne.1 h2
   refine jA <| kx [(3, (kD (uQ rx ry rz ru rv rf ra rb rc rd)))] [(1, some y1)] (zR (kC nP) <| zM <| zT (qG nP) <| zM <| zZ) ?_
   refine jF ⟨_, (qS (cs := (bx (yU (RLp.mk (kT.mk (kG.mk (jQ.mk lx ly lz) (jL.mk la lb lc ld) lf (jU.mk lu lv)) (kG.mk (jQ.mk rx ry rz) (jL.mk ra rb rc rd) rf (jU.mk ru rv))) (A3.mk (jZ.mk (jI.mk false []) (jI.mk false [])) (jZ.mk (jI.mk false []) (jI.mk false [])) (jZ.mk (jI.mk false []) (jI.mk false []))) (A3.mk (A3.mk (jZ.mk (jI.mk false []) (jI.mk false [])) (jZ.mk (jI.mk false []) (jI.mk false [])) (jZ.mk (jI.mk false []) (jI.mk false []))) (A3.mk (jZ.mk (jI.mk false []) (jI.mk false [])) (jZ.mk (jI.mk false []) (jI.mk false [])) (jZ.mk (jI.mk false []) (jI.mk false []))) (A3.mk (jZ.mk (jI.mk false []) (jI.mk false [])) (jZ.mk (jI.mk false []) (jI.mk false [])) (jZ.mk (jI.mk false []) (jI.mk false [])))))))) (d := (yU (RLp.mk (kT.mk (kG.mk (jQ.mk lx ly lz) (jL.mk la lb lc ld) lf (jU.mk lu lv)) (kG.mk (jQ.mk rx ry rz) (jL.mk ra rb rc rd) rf (jU.mk ru rv))) (A3.mk (jZ.mk (jI.mk false []) (jI.mk false [])) (jZ.mk (jI.mk false []) (jI.mk false [])) (jZ.mk (jI.mk false []) (jI.mk false []))) (A3.mk (A3.mk (jZ.mk (jI.mk false []) (jI.mk false [])) (jZ.mk (jI.mk false []) (jI.mk false [])) (jZ.mk (jI.mk false []) (jI.mk false []))) (A3.mk (jZ.mk (jI.mk false []) (jI.mk false [])) (jZ.mk (jI.mk false []) (jI.mk false [])) (jZ.mk (jI.mk false []) (jI.mk false []))) (A3.mk (jZ.mk (jI.mk false []) (jI.mk false [])) (jZ.mk (jI.mk false []) (jI.mk false [])) (jZ.mk (jI.mk false []) (jI.mk false []))))))) rfl rfl nP rfl rfl (.tmp (d := (.val (.int .i64 ((((uQ rx ry rz ru rv rf ra rb rc rd) : Nat) : Int))))) rfl .nil)), ?_⟩
   rw [stn2_r h1 hc]; rfl
  ·replace h2 := bne_eq_false_iff_eq.1 h2
   exact absurd (stn2_0 (by simpa using h1) (by simpa using h2) hc) hc0
theorem qs_preE2 (lx ly lz la lb lc ld lf lu lv rx ry rz ra rb rc rd rf ru rv : Int) (b0 b1 b2 : Rat) (xI : QL b0 3) (xH : QL b1 3) (xJ : QL b2 3) (hl : uQ lx ly lz lu lv lf la lb lc ld = 0) (hr : uQ rx ry rz ru rv rf ra rb rc rd = 0) (hb0 : ((rx - lx : Int) : Rat) = b0) (hb1 : ((ry - ly : Int) : Rat) = b1) (hb2 : ((rz - lz : Int) : Rat) = b2) (hup : upV la lb lc ld ra rb rc rd b0 b1 b2 = true) : kH Tryz.prog 47 [(qQ (kT.mk (kG.mk (jQ.mk lx ly lz) (jL.mk la lb lc ld) lf (jU.mk lu lv)) (kG.mk (jQ.mk rx ry rz) (jL.mk ra rb rc rd) rf (jU.mk ru rv))))] (.tup [(yU (RLp.mk (kT.mk (kG.mk (jQ.mk lx ly lz) (jL.mk la lb lc ld) lf (jU.mk lu lv)) (kG.mk (jQ.mk rx ry rz) (jL.mk ra rb rc rd) rf (jU.mk ru rv))) (A3.mk (jD b0) (jD b1) (jD b2)) (A3.mk (A3.mk (jZ.mk (jI.mk false []) (jI.mk false [])) (jZ.mk (jI.mk false []) (jI.mk false [])) (jZ.mk (jI.mk false []) (jI.mk false []))) (A3.mk (jZ.mk (jI.mk false []) (jI.mk false [])) (jZ.mk (jI.mk false []) (jI.mk false [])) (jZ.mk (jI.mk false []) (jI.mk false []))) (A3.mk (jZ.mk (jI.mk false []) (jI.mk false [])) (jZ.mk (jI.mk false []) (jI.mk false [])) (jZ.mk (jI.mk false []) (jI.mk false [])))))), (.val (.int .i64 (13)))]) := by
 have hbl := vU hl
 have hbr := vU hr
 obtain ⟨hlx, hly, hlz, hlu, hlv, hlf, hlq⟩ := hbl
 obtain ⟨hrx, hry, hrz, hru, hrv, hrf, hrq⟩ := hbr
 obtain ⟨hla, hlb, hlc, hld, -⟩ := vQ hlq
 obtain ⟨hra, hrb, hrc, hrd, -⟩ := vQ hrq
 have hnl := gX hla hlb hlc hld
 have hnr := gX hra hrb hrc hrd
 let y7 := (A3.mk (jZ.mk (jI.mk false []) (jI.mk false [])) (jZ.mk (jI.mk false []) (jI.mk false [])) (jZ.mk (jI.mk false []) (jI.mk false [])))
 let y6 := (qQ (kT.mk (kG.mk (jQ.mk lx ly lz) (jL.mk la lb lc ld) lf (jU.mk lu lv)) (kG.mk (jQ.mk rx ry rz) (jL.mk ra rb rc rd) rf (jU.mk ru rv))))
 let y5 := (bx y6)
 let y4 := (A3.mk y7 y7 y7)
 let y3 := (bx (yU (RLp.mk (kT.mk (kG.mk (jQ.mk lx ly lz) (jL.mk la lb lc ld) lf (jU.mk lu lv)) (kG.mk (jQ.mk rx ry rz) (jL.mk ra rb rc rd) rf (jU.mk ru rv))) (A3.mk (jD b0) (jD b1) (jD b2)) y4)))
 let y2 := (bx (yU (RLp.mk (kT.mk (kG.mk (jQ.mk 0 0 0) (jL.mk 0 0 0 0) 0 (jU.mk 0 0)) (kG.mk (jQ.mk 0 0 0) (jL.mk 0 0 0 0) 0 (jU.mk 0 0))) y7 y4)))
 let y1 := (bx (yU (RLp.mk (kT.mk (kG.mk (jQ.mk lx ly lz) (jL.mk la lb lc ld) lf (jU.mk lu lv)) (kG.mk (jQ.mk rx ry rz) (jL.mk ra rb rc rd) rf (jU.mk ru rv))) y7 y4)))
 refine jM Tryz.func47 rfl cb47 rfl ?_
 show uY _ _ _ _ ⟨[(0, (.d y6))], []⟩
 refine jA <| kx [(1, (.ref 0 0)), (2, (.ref 1 0))] [(0, some y5), (1, some y2)] (zN (vD 0) <| zN (uK 1 fN fM) <| zM <| zZ) ?_
 refine jA <| kx [(4, (.ref 2 0))] [(2, some y1)] (zR (kC dE) <| zE (oBd pl104 fN fM) <| zN (uK 2 fN fM) <| zT (qG nP) <| zZ) ?_
 refine jA <| jA <| kx [(19, (vl 56 10 uT [(kG.mk (jQ.mk lx ly lz) (jL.mk la lb lc ld) lf (jU.mk lu lv)), (kG.mk (jQ.mk rx ry rz) (jL.mk ra rb rc rd) rf (jU.mk ru rv))])), (20, (kD 2)), (21, (kD 0))] [] (zE (kE mI) <| zR (kC zW) <| zE (kE mG) <| zR (kC zW) <| zE (mC el44 aY aZ) <| zE (bJ el44 2) <| zM <| zZ) ?_
 refine jE <| qF 20 ?_
 refine qU <| jA <| kx [(22, (vb true))] [] (zE (kR true qY) <| zZ) ?_
 refine jA <| jX ?_
 refine jB <| jA <| jE <| jA <| kx [(6, (.ref 3 0))] [(3, some (bx (uT (kG.mk (jQ.mk lx ly lz) (jL.mk la lb lc ld) lf (jU.mk lu lv)))))] (zE (zS el44 0) <| zE (dH zW) <| zN (uK 3 aY aZ) <| zT (qG zW) <| zZ) ?_
 refine jA <| kx [(7, (kD (uQ lx ly lz lu lv lf la lb lc ld)))] [] (zR (kC zW) <| zE (kB (qs_stn lx ly lz la lb lc ld lf lu lv)) <| zM <| zZ) ?_
 refine jA <| kx [(28, (vb false))] [] (zM <| zE (kR false eS (by exact bne_eq_false_iff_eq.2 (by rw [show (uQ lx ly lz lu lv lf la lb lc ld) = 0 from hl]; rfl))) <| zZ) ?_
 refine jT ?_
 refine jB <| kx [(21, (kD 1))] [] (zE (uE 1 (hr := by decide)) <| zM <| zZ) ?_
 refine jJ (jW.refl _) ?_
 refine jA <| kx [(22, (vb true))] [] (zE (kR true qY) <| zZ) ?_
 refine jA <| jX ?_
 refine jB <| jA <| jE <| jA <| kx [(6, (.ref 4 0))] [(4, some (bx (uT (kG.mk (jQ.mk rx ry rz) (jL.mk ra rb rc rd) rf (jU.mk ru rv)))))] (zE (zS el44 1) <| zE (dH zW) <| zN (uK 4 aY aZ) <| zT (qG zW) <| zZ) ?_
 refine jA <| kx [(7, (kD (uQ rx ry rz ru rv rf ra rb rc rd)))] [] (zR (kC zW) <| zE (kB (qs_stn rx ry rz ra rb rc rd rf ru rv)) <| zM <| zZ) ?_
 refine jA <| kx [(28, (vb false))] [] (zM <| zE (kR false eS (by exact bne_eq_false_iff_eq.2 (by rw [show (uQ rx ry rz ru rv rf ra rb rc rd) = 0 from hr]; rfl))) <| zZ) ?_
 refine jT ?_
 refine jB <| kx [(21, (kD 2))] [] (zE (uE 2 (hr := by decide)) <| zM <| zZ) ?_
 refine jJ (jW.refl _) ?_
 refine jA <| kx [(22, (vb false))] [] (zE (kR false qY) <| zZ) ?_
 refine jA <| jT ?_
 refine kJ <| jA <| kP (wk (l := [(1, (.ref 0 0)), (2, (.ref 1 0)), (4, (.ref 2 0)), (19, (vl 56 10 uT [(kG.mk (jQ.mk lx ly lz) (jL.mk la lb lc ld) lf (jU.mk lu lv)), (kG.mk (jQ.mk rx ry rz) (jL.mk ra rb rc rd) rf (jU.mk ru rv))])), (20, (kD 2)), (21, (kD 2)), (22, (vb false))]) (b := [(0, some y5), (1, some y2), (2, some y1)])) ?_
 refine kd [(8, (.ref 5 0)), (9, (.ref 6 0))] [(5, some (bx (uT (kG.mk (jQ.mk lx ly lz) (jL.mk la lb lc ld) lf (jU.mk lu lv))))), (6, some (bx (uT (kG.mk (jQ.mk rx ry rz) (jL.mk ra rb rc rd) rf (jU.mk ru rv)))))] mo (wE (kE mI) <| wR (kC zW) <| wE (kE mG) <| wR (kC zW) <| wN (uK 5 aY aZ) <| wN (uK 6 aY aZ) <| wT (qG zW) <| wT (qG zW) <| wZ) ?_
 refine jA ?_
 have bn1 : QL b0 3 := (kF (Eq.symm hb0) (qi (rx - lx)))
 have bn2 : QL b1 3 := (kF (Eq.symm hb1) (qi (ry - ly)))
 have bn3 : QL b2 3 := (kF (Eq.symm hb2) (qi (rz - lz)))
 refine kx [] [(2, some y3)] (zE (kE gE) <| zE (kE dF) <| zR (qR qP) <| zE (kE gE) <| zE (kE dF) <| zR (qR qP) <| zE (cR (rx - lx) (hr := by exact (qO rfl (by simp only [vP]; omega) (by simp only [vS]; omega)))) <| zE (kE gE) <| zE (kE dM) <| zR (qR qP) <| zE (kE gE) <| zE (kE dM) <| zR (qR qP) <| zE (cR (ry - ly) (hr := by exact (qO rfl (by simp only [vP]; omega) (by simp only [vS]; omega)))) <| zE (kE gE) <| zE (kE dL) <| zR (qR qP) <| zE (kE gE) <| zE (kE dL) <| zR (qR qP) <| zE (cR (rz - lz) (hr := by exact (qO rfl (by simp only [vP]; omega) (by simp only [vS]; omega)))) <| zE (kB (by have h := qs_whole (rx - lx) (by omega) (by omega) (ry - ly) (by omega) (by omega) (rz - lz) (by omega) (by omega); rw [hb0, hb1, hb2] at h; exact h)) <| zE (kE fo104_1) <| zT (qG uG) <| zZ) ?_
 refine jA ?_
 have bn4 : QL ((0 : Int) : Rat) 3 := (qi 0)
 have bn5 : QL ((1 : Int) : Rat) 3 := (qi 1)
 refine kx [(10, (.ref 7 0))] [(7, some (bx (jK (A3.mk (jD ((0 : Int) : Rat)) (jD ((0 : Int) : Rat)) (jD ((1 : Int) : Rat))))))] (zE (kB (qs_whole ((0 : Nat) : Int) (by omega) (by omega) ((0 : Nat) : Int) (by omega) (by omega) ((1 : Nat) : Int) (by omega) (by omega))) <| zN (uK 7 mY cC) <| zT (qG uG) <| zZ) ?_
 refine jA ?_
 have bn6 : QL (yX la lb lc ld) 3 := (kR00)
 have bn7 : QL (yW la lb lc ld) 3 := (kR01)
 have bn8 : QL (vX la lb lc ld) 3 := (kR02)
 have bn9 : QL (gC la lb lc ld) 3 := (kR10)
 have bn10 : QL (gD la lb lc ld) 3 := (kR11)
 have bn11 : QL (xD la lb lc ld) 3 := (kR12)
 have bn12 : QL (gI la lb lc ld) 3 := (kR20)
 have bn13 : QL (gJ la lb lc ld) 3 := (kR21)
 have bn14 : QL (xF la lb lc ld) 3 := (kR22)
 have bn15 : QL (vX la lb lc ld) 20 := (kF (Eq.symm (xM (yX la lb lc ld) (yW la lb lc ld) (vX la lb lc ld))) (jS (n := 3) (k := 20) bn6 bn7 bn8 bn4 bn4 bn5 (by decide)))
 have bn16 : QL (xD la lb lc ld) 20 := (kF (Eq.symm (xM (gC la lb lc ld) (gD la lb lc ld) (xD la lb lc ld))) (jS (n := 3) (k := 20) bn9 bn10 bn11 bn4 bn4 bn5 (by decide)))
 have bn17 : QL (xF la lb lc ld) 20 := (kF (Eq.symm (xM (gI la lb lc ld) (gJ la lb lc ld) (xF la lb lc ld))) (jS (n := 3) (k := 20) bn12 bn13 bn14 bn4 bn4 bn5 (by decide)))
 have bn18 : QL (N4 ra rb rc rd) 3 := (kN4)
 have bn19 : QL (yX ra rb rc rd) 3 := (kR00)
 have bn20 : QL (yW ra rb rc rd) 3 := (kR01)
 have bn21 : QL (vX ra rb rc rd) 3 := (kR02)
 have bn22 : QL (gC ra rb rc rd) 3 := (kR10)
 have bn23 : QL (gD ra rb rc rd) 3 := (kR11)
 have bn24 : QL (xD ra rb rc rd) 3 := (kR12)
 have bn25 : QL (gI ra rb rc rd) 3 := (kR20)
 have bn26 : QL (gJ ra rb rc rd) 3 := (kR21)
 have bn27 : QL (xF ra rb rc rd) 3 := (kR22)
 have bn28 : QL (vX ra rb rc rd) 20 := (kF (Eq.symm (xM (yX ra rb rc rd) (yW ra rb rc rd) (vX ra rb rc rd))) (jS (n := 3) (k := 20) bn19 bn20 bn21 bn4 bn4 bn5 (by decide)))
 have bn29 : QL (xD ra rb rc rd) 20 := (kF (Eq.symm (xM (gC ra rb rc rd) (gD ra rb rc rd) (xD ra rb rc rd))) (jS (n := 3) (k := 20) bn22 bn23 bn24 bn4 bn4 bn5 (by decide)))
 have bn30 : QL (xF ra rb rc rd) 20 := (kF (Eq.symm (xM (gI ra rb rc rd) (gJ ra rb rc rd) (xF ra rb rc rd))) (jS (n := 3) (k := 20) bn25 bn26 bn27 bn4 bn4 bn5 (by decide)))
 have bn31 : QL (N4 la lb lc ld) 3 := (kN4)
 have bn32 : QL (cQ la lb lc ld ra rb rc rd) 47 := (kF (Eq.symm (dq0_eq la lb lc ld ra rb rc rd)) (kQ (k := 47) (jG (k := 23) bn15 bn18 (by decide)) (jG (k := 23) bn28 bn31 (by decide)) (by decide)))
 have bn33 : QL (cT la lb lc ld ra rb rc rd) 47 := (kF (Eq.symm (dq1_eq la lb lc ld ra rb rc rd)) (kQ (k := 47) (jG (k := 23) bn16 bn18 (by decide)) (jG (k := 23) bn29 bn31 (by decide)) (by decide)))
 have bn34 : QL (cS la lb lc ld ra rb rc rd) 47 := (kF (Eq.symm (dq2_eq la lb lc ld ra rb rc rd)) (kQ (k := 47) (jG (k := 23) bn17 bn18 (by decide)) (jG (k := 23) bn30 bn31 (by decide)) (by decide)))
 refine kd [(11, (.ref 8 0))] [(8, some (bx (jK (A3.mk (jD (cQ la lb lc ld ra rb rc rd)) (jD (cT la lb lc ld ra rb rc rd)) (jD (cS la lb lc ld ra rb rc rd))))))] mo (wE (kE gB) <| wR (kC yP) <| wE (kB (qs_mat la lb lc ld (by omega) (by omega) (by omega) (by omega) hlq)) <| wR (kC uG) <| wE (kB (by have h := qs_turned (yX la lb lc ld) (yW la lb lc ld) (vX la lb lc ld) (gC la lb lc ld) (gD la lb lc ld) (xD la lb lc ld) (gI la lb lc ld) (gJ la lb lc ld) (xF la lb lc ld) (qu bn6) (qu bn7) (qu bn8) (qu bn9) (qu bn10) (qu bn11) (qu bn12) (qu bn13) (qu bn14) ((0 : Int) : Rat) ((0 : Int) : Rat) ((1 : Int) : Rat) (qu bn4) (qu bn4) (qu bn5); rw [(xM (yX la lb lc ld) (yW la lb lc ld) (vX la lb lc ld)), (xM (gC la lb lc ld) (gD la lb lc ld) (xD la lb lc ld)), (xM (gI la lb lc ld) (gJ la lb lc ld) (xF la lb lc ld))] at h; exact h)) <| wE (kE gB) <| wR (kC yP) <| wE (kB (bR ra rb rc rd (by omega) (by omega) (by omega) (by omega))) <| wE (kB (yS (vX la lb lc ld) (xD la lb lc ld) (xF la lb lc ld) (qu bn15) (qu bn16) (qu bn17) (N4 ra rb rc rd) (qu bn18))) <| wE (kE gB) <| wR (kC yP) <| wE (kB (qs_mat ra rb rc rd (by omega) (by omega) (by omega) (by omega) hrq)) <| wR (kC uG) <| wE (kB (by have h := qs_turned (yX ra rb rc rd) (yW ra rb rc rd) (vX ra rb rc rd) (gC ra rb rc rd) (gD ra rb rc rd) (xD ra rb rc rd) (gI ra rb rc rd) (gJ ra rb rc rd) (xF ra rb rc rd) (qu bn19) (qu bn20) (qu bn21) (qu bn22) (qu bn23) (qu bn24) (qu bn25) (qu bn26) (qu bn27) ((0 : Int) : Rat) ((0 : Int) : Rat) ((1 : Int) : Rat) (qu bn4) (qu bn4) (qu bn5); rw [(xM (yX ra rb rc rd) (yW ra rb rc rd) (vX ra rb rc rd)), (xM (gC ra rb rc rd) (gD ra rb rc rd) (xD ra rb rc rd)), (xM (gI ra rb rc rd) (gJ ra rb rc rd) (xF ra rb rc rd))] at h; exact h)) <| wE (kE gB) <| wR (kC yP) <| wE (kB (bR la lb lc ld (by omega) (by omega) (by omega) (by omega))) <| wE (kB (yS (vX ra rb rc rd) (xD ra rb rc rd) (xF ra rb rc rd) (qu bn28) (qu bn29) (qu bn30) (N4 la lb lc ld) (qu bn31))) <| wE (kB (by have h := qs_sum ((vX la lb lc ld) * (N4 ra rb rc rd)) ((xD la lb lc ld) * (N4 ra rb rc rd)) ((xF la lb lc ld) * (N4 ra rb rc rd)) (qV (jG (k := 23) bn15 bn18 (by decide)) (by decide)) (qV (jG (k := 23) bn16 bn18 (by decide)) (by decide)) (qV (jG (k := 23) bn17 bn18 (by decide)) (by decide)) ((vX ra rb rc rd) * (N4 la lb lc ld)) ((xD ra rb rc rd) * (N4 la lb lc ld)) ((xF ra rb rc rd) * (N4 la lb lc ld)) (qV (jG (k := 23) bn28 bn31 (by decide)) (by decide)) (qV (jG (k := 23) bn29 bn31 (by decide)) (by decide)) (qV (jG (k := 23) bn30 bn31 (by decide)) (by decide)); rw [(dq0_eq la lb lc ld ra rb rc rd), (dq1_eq la lb lc ld ra rb rc rd), (dq2_eq la lb lc ld ra rb rc rd)] at h; exact h)) <| wN (uK 8 mY cC) <| wT (qG uG) <| wZ) ?_
 refine jA ?_
 have bn35 : QL (((cT la lb lc ld ra rb rc rd) * b2) - ((cS la lb lc ld ra rb rc rd) * b1)) 101 := (xG (k := 101) (jG (k := 50) bn33 bn3 (by decide)) (jG (k := 50) bn34 bn2 (by decide)) (by decide))
 have bn36 : QL (((cS la lb lc ld ra rb rc rd) * b0) - ((cQ la lb lc ld ra rb rc rd) * b2)) 101 := (xG (k := 101) (jG (k := 50) bn34 bn1 (by decide)) (jG (k := 50) bn32 bn3 (by decide)) (by decide))
 have bn37 : QL (((cQ la lb lc ld ra rb rc rd) * b1) - ((cT la lb lc ld ra rb rc rd) * b0)) 101 := (xG (k := 101) (jG (k := 50) bn32 bn2 (by decide)) (jG (k := 50) bn33 bn1 (by decide)) (by decide))
 refine kx [(12, (.ref 9 0))] [(9, some (bx (jK (A3.mk (jD (((cT la lb lc ld ra rb rc rd) * b2) - ((cS la lb lc ld ra rb rc rd) * b1))) (jD (((cS la lb lc ld ra rb rc rd) * b0) - ((cQ la lb lc ld ra rb rc rd) * b2))) (jD (((cQ la lb lc ld ra rb rc rd) * b1) - ((cT la lb lc ld ra rb rc rd) * b0)))))))] (zR (kC uG) <| zE (kE fo104_1) <| zR (kC uG) <| zE (kB (qs_cross (cQ la lb lc ld ra rb rc rd) (cT la lb lc ld ra rb rc rd) (cS la lb lc ld ra rb rc rd) (qu bn32) (qu bn33) (qu bn34) b0 b1 b2 (qu bn1) (qu bn2) (qu bn3))) <| zN (uK 9 mY cC) <| zT (qG uG) <| zZ) ?_
 refine jA <| jA <| kx [(84, (vb true))] [] (zR (kC uG) <| zE (kR true (kB (qs_zero (((cT la lb lc ld ra rb rc rd) * b2) - ((cS la lb lc ld ra rb rc rd) * b1)) (((cS la lb lc ld ra rb rc rd) * b0) - ((cQ la lb lc ld ra rb rc rd) * b2)) (((cQ la lb lc ld ra rb rc rd) * b1) - ((cT la lb lc ld ra rb rc rd) * b0)) (qu bn35) (qu bn36) (qu bn37))) (by exact hup)) <| zZ) ?_
 refine jX ?_
 refine jA <| kx [(3, (kD 13))] [(1, some y3)] (zR (kC nP) <| zT (qG nP) <| zM <| zZ) ?_
 refine jF ⟨_, (qS (cs := (bx (yU (RLp.mk (kT.mk (kG.mk (jQ.mk lx ly lz) (jL.mk la lb lc ld) lf (jU.mk lu lv)) (kG.mk (jQ.mk rx ry rz) (jL.mk ra rb rc rd) rf (jU.mk ru rv))) (A3.mk (jD b0) (jD b1) (jD b2)) (A3.mk (A3.mk (jZ.mk (jI.mk false []) (jI.mk false [])) (jZ.mk (jI.mk false []) (jI.mk false [])) (jZ.mk (jI.mk false []) (jI.mk false []))) (A3.mk (jZ.mk (jI.mk false []) (jI.mk false [])) (jZ.mk (jI.mk false []) (jI.mk false [])) (jZ.mk (jI.mk false []) (jI.mk false []))) (A3.mk (jZ.mk (jI.mk false []) (jI.mk false [])) (jZ.mk (jI.mk false []) (jI.mk false [])) (jZ.mk (jI.mk false []) (jI.mk false [])))))))) (d := (yU (RLp.mk (kT.mk (kG.mk (jQ.mk lx ly lz) (jL.mk la lb lc ld) lf (jU.mk lu lv)) (kG.mk (jQ.mk rx ry rz) (jL.mk ra rb rc rd) rf (jU.mk ru rv))) (A3.mk (jD b0) (jD b1) (jD b2)) (A3.mk (A3.mk (jZ.mk (jI.mk false []) (jI.mk false [])) (jZ.mk (jI.mk false []) (jI.mk false [])) (jZ.mk (jI.mk false []) (jI.mk false []))) (A3.mk (jZ.mk (jI.mk false []) (jI.mk false [])) (jZ.mk (jI.mk false []) (jI.mk false [])) (jZ.mk (jI.mk false []) (jI.mk false []))) (A3.mk (jZ.mk (jI.mk false []) (jI.mk false [])) (jZ.mk (jI.mk false []) (jI.mk false [])) (jZ.mk (jI.mk false []) (jI.mk false []))))))) rfl rfl nP rfl rfl (.tmp (d := (.val (.int .i64 (((13 : Nat) : Int))))) rfl .nil)), ?_⟩
 rfl
theorem qs_pre (lx ly lz la lb lc ld lf lu lv rx ry rz ra rb rc rd rf ru rv : Int) (b0 b1 b2 e00 e01 e02 e10 e11 e12 e20 e21 e22 : Rat) (hF : RFr lx ly lz la lb lc ld rx ry rz ra rb rc rd b0 b1 b2 e00 e01 e02 e10 e11 e12 e20 e21 e22) (xI : QL b0 3) (xH : QL b1 3) (xJ : QL b2 3) (qE : QL e00 400) (kZ : QL e01 400) (qA : QL e02 400) (qJ : QL e10 400) (qK : QL e11 400) (qI : QL e12 400) (qD : QL e20 400) (qB : QL e21 400) (qC : QL e22 400) (hl : uQ lx ly lz lu lv lf la lb lc ld = 0) (hr : uQ rx ry rz ru rv rf ra rb rc rd = 0) (hup : upV la lb lc ld ra rb rc rd b0 b1 b2 = false) : kH Tryz.prog 47 [(qQ (kT.mk (kG.mk (jQ.mk lx ly lz) (jL.mk la lb lc ld) lf (jU.mk lu lv)) (kG.mk (jQ.mk rx ry rz) (jL.mk ra rb rc rd) rf (jU.mk ru rv))))] (.tup [(yU (RLp.mk (kT.mk (kG.mk (jQ.mk lx ly lz) (jL.mk la lb lc ld) lf (jU.mk lu lv)) (kG.mk (jQ.mk rx ry rz) (jL.mk ra rb rc rd) rf (jU.mk ru rv))) (A3.mk (jD b0) (jD b1) (jD b2)) (A3.mk (A3.mk (jD e00) (jD e01) (jD e02)) (A3.mk (jD e10) (jD e11) (jD e12)) (A3.mk (jD e20) (jD e21) (jD e22))))), (.val (.int .i64 (0)))]) := by
 have hbl := vU hl
 have hbr := vU hr
 obtain ⟨hlx, hly, hlz, hlu, hlv, hlf, hlq⟩ := hbl
 obtain ⟨hrx, hry, hrz, hru, hrv, hrf, hrq⟩ := hbr
 obtain ⟨hla, hlb, hlc, hld, -⟩ := vQ hlq
 obtain ⟨hra, hrb, hrc, hrd, -⟩ := vQ hrq
 have hnl := gX hla hlb hlc hld
 have hnr := gX hra hrb hrc hrd
 have hF2 := hF
 unfold RFr at hF2
 obtain ⟨hb0, hb1, hb2, he00, he01, he02, he10, he11, he12, he20, he21, he22⟩ := hF2
 have hzb := fr_zb hF hup
 have hzs := fr_zs hF hup
 have hzt := fr_zt hF hup
 let y7 := (A3.mk (jZ.mk (jI.mk false []) (jI.mk false [])) (jZ.mk (jI.mk false []) (jI.mk false [])) (jZ.mk (jI.mk false []) (jI.mk false [])))
 let y6 := (qQ (kT.mk (kG.mk (jQ.mk lx ly lz) (jL.mk la lb lc ld) lf (jU.mk lu lv)) (kG.mk (jQ.mk rx ry rz) (jL.mk ra rb rc rd) rf (jU.mk ru rv))))
 let y5 := (bx y6)
 let y4 := (bx (yU (RLp.mk (kT.mk (kG.mk (jQ.mk lx ly lz) (jL.mk la lb lc ld) lf (jU.mk lu lv)) (kG.mk (jQ.mk rx ry rz) (jL.mk ra rb rc rd) rf (jU.mk ru rv))) (A3.mk (jD b0) (jD b1) (jD b2)) (A3.mk (A3.mk (jD e00) (jD e01) (jD e02)) (A3.mk (jD e10) (jD e11) (jD e12)) (A3.mk (jD e20) (jD e21) (jD e22))))))
 let y3 := (A3.mk y7 y7 y7)
 let y2 := (bx (yU (RLp.mk (kT.mk (kG.mk (jQ.mk 0 0 0) (jL.mk 0 0 0 0) 0 (jU.mk 0 0)) (kG.mk (jQ.mk 0 0 0) (jL.mk 0 0 0 0) 0 (jU.mk 0 0))) y7 y3)))
 let y1 := (bx (yU (RLp.mk (kT.mk (kG.mk (jQ.mk lx ly lz) (jL.mk la lb lc ld) lf (jU.mk lu lv)) (kG.mk (jQ.mk rx ry rz) (jL.mk ra rb rc rd) rf (jU.mk ru rv))) y7 y3)))
 refine jM Tryz.func47 rfl cb47 rfl ?_
 show uY _ _ _ _ ⟨[(0, (.d y6))], []⟩
 refine jA <| kx [(1, (.ref 0 0)), (2, (.ref 1 0))] [(0, some y5), (1, some y2)] (zN (vD 0) <| zN (uK 1 fN fM) <| zM <| zZ) ?_
 refine jA <| kx [(4, (.ref 2 0))] [(2, some y1)] (zR (kC dE) <| zE (oBd pl104 fN fM) <| zN (uK 2 fN fM) <| zT (qG nP) <| zZ) ?_
 refine jA <| jA <| kx [(19, (vl 56 10 uT [(kG.mk (jQ.mk lx ly lz) (jL.mk la lb lc ld) lf (jU.mk lu lv)), (kG.mk (jQ.mk rx ry rz) (jL.mk ra rb rc rd) rf (jU.mk ru rv))])), (20, (kD 2)), (21, (kD 0))] [] (zE (kE mI) <| zR (kC zW) <| zE (kE mG) <| zR (kC zW) <| zE (mC el44 aY aZ) <| zE (bJ el44 2) <| zM <| zZ) ?_
 refine jE <| qF 20 ?_
 refine qU <| jA <| kx [(22, (vb true))] [] (zE (kR true qY) <| zZ) ?_
 refine jA <| jX ?_
 refine jB <| jA <| jE <| jA <| kx [(6, (.ref 3 0))] [(3, some (bx (uT (kG.mk (jQ.mk lx ly lz) (jL.mk la lb lc ld) lf (jU.mk lu lv)))))] (zE (zS el44 0) <| zE (dH zW) <| zN (uK 3 aY aZ) <| zT (qG zW) <| zZ) ?_
 refine jA <| kx [(7, (kD (uQ lx ly lz lu lv lf la lb lc ld)))] [] (zR (kC zW) <| zE (kB (qs_stn lx ly lz la lb lc ld lf lu lv)) <| zM <| zZ) ?_
 refine jA <| kx [(28, (vb false))] [] (zM <| zE (kR false eS (by exact bne_eq_false_iff_eq.2 (by rw [show (uQ lx ly lz lu lv lf la lb lc ld) = 0 from hl]; rfl))) <| zZ) ?_
 refine jT ?_
 refine jB <| kx [(21, (kD 1))] [] (zE (uE 1 (hr := by decide)) <| zM <| zZ) ?_
 refine jJ (jW.refl _) ?_
 refine jA <| kx [(22, (vb true))] [] (zE (kR true qY) <| zZ) ?_
 refine jA <| jX ?_
 refine jB <| jA <| jE <| jA <| kx [(6, (.ref 4 0))] [(4, some (bx (uT (kG.mk (jQ.mk rx ry rz) (jL.mk ra rb rc rd) rf (jU.mk ru rv)))))] (zE (zS el44 1) <| zE (dH zW) <| zN (uK 4 aY aZ) <| zT (qG zW) <| zZ) ?_
 refine jA <| kx [(7, (kD (uQ rx ry rz ru rv rf ra rb rc rd)))] [] (zR (kC zW) <| zE (kB (qs_stn rx ry rz ra rb rc rd rf ru rv)) <| zM <| zZ) ?_
 refine jA <| kx [(28, (vb false))] [] (zM <| zE (kR false eS (by exact bne_eq_false_iff_eq.2 (by rw [show (uQ rx ry rz ru rv rf ra rb rc rd) = 0 from hr]; rfl))) <| zZ) ?_
 refine jT ?_
 refine jB <| kx [(21, (kD 2))] [] (zE (uE 2 (hr := by decide)) <| zM <| zZ) ?_
 refine jJ (jW.refl _) ?_
 refine jA <| kx [(22, (vb false))] [] (zE (kR false qY) <| zZ) ?_
 refine jA <| jT ?_
 refine kJ <| jA <| kP (wk (l := [(1, (.ref 0 0)), (2, (.ref 1 0)), (4, (.ref 2 0)), (19, (vl 56 10 uT [(kG.mk (jQ.mk lx ly lz) (jL.mk la lb lc ld) lf (jU.mk lu lv)), (kG.mk (jQ.mk rx ry rz) (jL.mk ra rb rc rd) rf (jU.mk ru rv))])), (20, (kD 2)), (21, (kD 2)), (22, (vb false))]) (b := [(0, some y5), (1, some y2), (2, some y1)])) ?_
 refine kd [(8, (.ref 5 0)), (9, (.ref 6 0))] [(5, some (bx (uT (kG.mk (jQ.mk lx ly lz) (jL.mk la lb lc ld) lf (jU.mk lu lv))))), (6, some (bx (uT (kG.mk (jQ.mk rx ry rz) (jL.mk ra rb rc rd) rf (jU.mk ru rv)))))] mo (wE (kE mI) <| wR (kC zW) <| wE (kE mG) <| wR (kC zW) <| wN (uK 5 aY aZ) <| wN (uK 6 aY aZ) <| wT (qG zW) <| wT (qG zW) <| wZ) ?_
 refine jA ?_
 have bn1 : QL b0 3 := (kF (Eq.symm hb0) (qi (rx - lx)))
 have bn2 : QL b1 3 := (kF (Eq.symm hb1) (qi (ry - ly)))
 have bn3 : QL b2 3 := (kF (Eq.symm hb2) (qi (rz - lz)))
 refine kx [] [(2, some (bx (yU (RLp.mk (kT.mk (kG.mk (jQ.mk lx ly lz) (jL.mk la lb lc ld) lf (jU.mk lu lv)) (kG.mk (jQ.mk rx ry rz) (jL.mk ra rb rc rd) rf (jU.mk ru rv))) (A3.mk (jD b0) (jD b1) (jD b2)) y3))))] (zE (kE gE) <| zE (kE dF) <| zR (qR qP) <| zE (kE gE) <| zE (kE dF) <| zR (qR qP) <| zE (cR (rx - lx) (hr := by exact (qO rfl (by simp only [vP]; omega) (by simp only [vS]; omega)))) <| zE (kE gE) <| zE (kE dM) <| zR (qR qP) <| zE (kE gE) <| zE (kE dM) <| zR (qR qP) <| zE (cR (ry - ly) (hr := by exact (qO rfl (by simp only [vP]; omega) (by simp only [vS]; omega)))) <| zE (kE gE) <| zE (kE dL) <| zR (qR qP) <| zE (kE gE) <| zE (kE dL) <| zR (qR qP) <| zE (cR (rz - lz) (hr := by exact (qO rfl (by simp only [vP]; omega) (by simp only [vS]; omega)))) <| zE (kB (by have h := qs_whole (rx - lx) (by omega) (by omega) (ry - ly) (by omega) (by omega) (rz - lz) (by omega) (by omega); rw [hb0, hb1, hb2] at h; exact h)) <| zE (kE fo104_1) <| zT (qG uG) <| zZ) ?_
 refine jA ?_
 have bn4 : QL ((0 : Int) : Rat) 3 := (qi 0)
 have bn5 : QL ((1 : Int) : Rat) 3 := (qi 1)
 refine kx [(10, (.ref 7 0))] [(7, some (bx (jK (A3.mk (jD ((0 : Int) : Rat)) (jD ((0 : Int) : Rat)) (jD ((1 : Int) : Rat))))))] (zE (kB (qs_whole ((0 : Nat) : Int) (by omega) (by omega) ((0 : Nat) : Int) (by omega) (by omega) ((1 : Nat) : Int) (by omega) (by omega))) <| zN (uK 7 mY cC) <| zT (qG uG) <| zZ) ?_
 refine jA ?_
 have bn6 : QL (yX la lb lc ld) 3 := (kR00)
 have bn7 : QL (yW la lb lc ld) 3 := (kR01)
 have bn8 : QL (vX la lb lc ld) 3 := (kR02)
 have bn9 : QL (gC la lb lc ld) 3 := (kR10)
 have bn10 : QL (gD la lb lc ld) 3 := (kR11)
 have bn11 : QL (xD la lb lc ld) 3 := (kR12)
 have bn12 : QL (gI la lb lc ld) 3 := (kR20)
 have bn13 : QL (gJ la lb lc ld) 3 := (kR21)
 have bn14 : QL (xF la lb lc ld) 3 := (kR22)
 have bn15 : QL (vX la lb lc ld) 20 := (kF (Eq.symm (xM (yX la lb lc ld) (yW la lb lc ld) (vX la lb lc ld))) (jS (n := 3) (k := 20) bn6 bn7 bn8 bn4 bn4 bn5 (by decide)))
 have bn16 : QL (xD la lb lc ld) 20 := (kF (Eq.symm (xM (gC la lb lc ld) (gD la lb lc ld) (xD la lb lc ld))) (jS (n := 3) (k := 20) bn9 bn10 bn11 bn4 bn4 bn5 (by decide)))
 have bn17 : QL (xF la lb lc ld) 20 := (kF (Eq.symm (xM (gI la lb lc ld) (gJ la lb lc ld) (xF la lb lc ld))) (jS (n := 3) (k := 20) bn12 bn13 bn14 bn4 bn4 bn5 (by decide)))
 have bn18 : QL (N4 ra rb rc rd) 3 := (kN4)
 have bn19 : QL (yX ra rb rc rd) 3 := (kR00)
 have bn20 : QL (yW ra rb rc rd) 3 := (kR01)
 have bn21 : QL (vX ra rb rc rd) 3 := (kR02)
 have bn22 : QL (gC ra rb rc rd) 3 := (kR10)
 have bn23 : QL (gD ra rb rc rd) 3 := (kR11)
 have bn24 : QL (xD ra rb rc rd) 3 := (kR12)
 have bn25 : QL (gI ra rb rc rd) 3 := (kR20)
 have bn26 : QL (gJ ra rb rc rd) 3 := (kR21)
 have bn27 : QL (xF ra rb rc rd) 3 := (kR22)
 have bn28 : QL (vX ra rb rc rd) 20 := (kF (Eq.symm (xM (yX ra rb rc rd) (yW ra rb rc rd) (vX ra rb rc rd))) (jS (n := 3) (k := 20) bn19 bn20 bn21 bn4 bn4 bn5 (by decide)))
 have bn29 : QL (xD ra rb rc rd) 20 := (kF (Eq.symm (xM (gC ra rb rc rd) (gD ra rb rc rd) (xD ra rb rc rd))) (jS (n := 3) (k := 20) bn22 bn23 bn24 bn4 bn4 bn5 (by decide)))
 have bn30 : QL (xF ra rb rc rd) 20 := (kF (Eq.symm (xM (gI ra rb rc rd) (gJ ra rb rc rd) (xF ra rb rc rd))) (jS (n := 3) (k := 20) bn25 bn26 bn27 bn4 bn4 bn5 (by decide)))
 have bn31 : QL (N4 la lb lc ld) 3 := (kN4)
 have bn32 : QL (cQ la lb lc ld ra rb rc rd) 47 := (kF (Eq.symm (dq0_eq la lb lc ld ra rb rc rd)) (kQ (k := 47) (jG (k := 23) bn15 bn18 (by decide)) (jG (k := 23) bn28 bn31 (by decide)) (by decide)))
 have bn33 : QL (cT la lb lc ld ra rb rc rd) 47 := (kF (Eq.symm (dq1_eq la lb lc ld ra rb rc rd)) (kQ (k := 47) (jG (k := 23) bn16 bn18 (by decide)) (jG (k := 23) bn29 bn31 (by decide)) (by decide)))
 have bn34 : QL (cS la lb lc ld ra rb rc rd) 47 := (kF (Eq.symm (dq2_eq la lb lc ld ra rb rc rd)) (kQ (k := 47) (jG (k := 23) bn17 bn18 (by decide)) (jG (k := 23) bn30 bn31 (by decide)) (by decide)))
 refine kd [(11, (.ref 8 0))] [(8, some (bx (jK (A3.mk (jD (cQ la lb lc ld ra rb rc rd)) (jD (cT la lb lc ld ra rb rc rd)) (jD (cS la lb lc ld ra rb rc rd))))))] mo (wE (kE gB) <| wR (kC yP) <| wE (kB (qs_mat la lb lc ld (by omega) (by omega) (by omega) (by omega) hlq)) <| wR (kC uG) <| wE (kB (by have h := qs_turned (yX la lb lc ld) (yW la lb lc ld) (vX la lb lc ld) (gC la lb lc ld) (gD la lb lc ld) (xD la lb lc ld) (gI la lb lc ld) (gJ la lb lc ld) (xF la lb lc ld) (qu bn6) (qu bn7) (qu bn8) (qu bn9) (qu bn10) (qu bn11) (qu bn12) (qu bn13) (qu bn14) ((0 : Int) : Rat) ((0 : Int) : Rat) ((1 : Int) : Rat) (qu bn4) (qu bn4) (qu bn5); rw [(xM (yX la lb lc ld) (yW la lb lc ld) (vX la lb lc ld)), (xM (gC la lb lc ld) (gD la lb lc ld) (xD la lb lc ld)), (xM (gI la lb lc ld) (gJ la lb lc ld) (xF la lb lc ld))] at h; exact h)) <| wE (kE gB) <| wR (kC yP) <| wE (kB (bR ra rb rc rd (by omega) (by omega) (by omega) (by omega))) <| wE (kB (yS (vX la lb lc ld) (xD la lb lc ld) (xF la lb lc ld) (qu bn15) (qu bn16) (qu bn17) (N4 ra rb rc rd) (qu bn18))) <| wE (kE gB) <| wR (kC yP) <| wE (kB (qs_mat ra rb rc rd (by omega) (by omega) (by omega) (by omega) hrq)) <| wR (kC uG) <| wE (kB (by have h := qs_turned (yX ra rb rc rd) (yW ra rb rc rd) (vX ra rb rc rd) (gC ra rb rc rd) (gD ra rb rc rd) (xD ra rb rc rd) (gI ra rb rc rd) (gJ ra rb rc rd) (xF ra rb rc rd) (qu bn19) (qu bn20) (qu bn21) (qu bn22) (qu bn23) (qu bn24) (qu bn25) (qu bn26) (qu bn27) ((0 : Int) : Rat) ((0 : Int) : Rat) ((1 : Int) : Rat) (qu bn4) (qu bn4) (qu bn5); rw [(xM (yX ra rb rc rd) (yW ra rb rc rd) (vX ra rb rc rd)), (xM (gC ra rb rc rd) (gD ra rb rc rd) (xD ra rb rc rd)), (xM (gI ra rb rc rd) (gJ ra rb rc rd) (xF ra rb rc rd))] at h; exact h)) <| wE (kE gB) <| wR (kC yP) <| wE (kB (bR la lb lc ld (by omega) (by omega) (by omega) (by omega))) <| wE (kB (yS (vX ra rb rc rd) (xD ra rb rc rd) (xF ra rb rc rd) (qu bn28) (qu bn29) (qu bn30) (N4 la lb lc ld) (qu bn31))) <| wE (kB (by have h := qs_sum ((vX la lb lc ld) * (N4 ra rb rc rd)) ((xD la lb lc ld) * (N4 ra rb rc rd)) ((xF la lb lc ld) * (N4 ra rb rc rd)) (qV (jG (k := 23) bn15 bn18 (by decide)) (by decide)) (qV (jG (k := 23) bn16 bn18 (by decide)) (by decide)) (qV (jG (k := 23) bn17 bn18 (by decide)) (by decide)) ((vX ra rb rc rd) * (N4 la lb lc ld)) ((xD ra rb rc rd) * (N4 la lb lc ld)) ((xF ra rb rc rd) * (N4 la lb lc ld)) (qV (jG (k := 23) bn28 bn31 (by decide)) (by decide)) (qV (jG (k := 23) bn29 bn31 (by decide)) (by decide)) (qV (jG (k := 23) bn30 bn31 (by decide)) (by decide)); rw [(dq0_eq la lb lc ld ra rb rc rd), (dq1_eq la lb lc ld ra rb rc rd), (dq2_eq la lb lc ld ra rb rc rd)] at h; exact h)) <| wN (uK 8 mY cC) <| wT (qG uG) <| wZ) ?_
 refine jA ?_
 have bn35 : QL (((cT la lb lc ld ra rb rc rd) * b2) - ((cS la lb lc ld ra rb rc rd) * b1)) 101 := (xG (k := 101) (jG (k := 50) bn33 bn3 (by decide)) (jG (k := 50) bn34 bn2 (by decide)) (by decide))
 have bn36 : QL (((cS la lb lc ld ra rb rc rd) * b0) - ((cQ la lb lc ld ra rb rc rd) * b2)) 101 := (xG (k := 101) (jG (k := 50) bn34 bn1 (by decide)) (jG (k := 50) bn32 bn3 (by decide)) (by decide))
 have bn37 : QL (((cQ la lb lc ld ra rb rc rd) * b1) - ((cT la lb lc ld ra rb rc rd) * b0)) 101 := (xG (k := 101) (jG (k := 50) bn32 bn2 (by decide)) (jG (k := 50) bn33 bn1 (by decide)) (by decide))
 refine kx [(12, (.ref 9 0))] [(9, some (bx (jK (A3.mk (jD (((cT la lb lc ld ra rb rc rd) * b2) - ((cS la lb lc ld ra rb rc rd) * b1))) (jD (((cS la lb lc ld ra rb rc rd) * b0) - ((cQ la lb lc ld ra rb rc rd) * b2))) (jD (((cQ la lb lc ld ra rb rc rd) * b1) - ((cT la lb lc ld ra rb rc rd) * b0)))))))] (zR (kC uG) <| zE (kE fo104_1) <| zR (kC uG) <| zE (kB (qs_cross (cQ la lb lc ld ra rb rc rd) (cT la lb lc ld ra rb rc rd) (cS la lb lc ld ra rb rc rd) (qu bn32) (qu bn33) (qu bn34) b0 b1 b2 (qu bn1) (qu bn2) (qu bn3))) <| zN (uK 9 mY cC) <| zT (qG uG) <| zZ) ?_
 refine jA <| jA <| kx [(84, (vb false))] [] (zR (kC uG) <| zE (kR false (kB (qs_zero (((cT la lb lc ld ra rb rc rd) * b2) - ((cS la lb lc ld ra rb rc rd) * b1)) (((cS la lb lc ld ra rb rc rd) * b0) - ((cQ la lb lc ld ra rb rc rd) * b2)) (((cQ la lb lc ld ra rb rc rd) * b1) - ((cT la lb lc ld ra rb rc rd) * b0)) (qu bn35) (qu bn36) (qu bn37))) (by exact hup)) <| zZ) ?_
 refine jT ?_
 refine jB <| jA ?_
 have bn38 : QL e00 6 := (kF (Eq.symm he00) (jG (k := 6) bn1 (yA (n := 3) (k := 3) bn1 bn2 bn3 (by decide) (by decide)) (by decide)))
 have bn39 : QL e01 6 := (kF (Eq.symm he01) (jG (k := 6) bn2 (yA (n := 3) (k := 3) bn1 bn2 bn3 (by decide) (by decide)) (by decide)))
 have bn40 : QL e02 6 := (kF (Eq.symm he02) (jG (k := 6) bn3 (yA (n := 3) (k := 3) bn1 bn2 bn3 (by decide) (by decide)) (by decide)))
 refine kx [] [(2, some (bx (yU (RLp.mk (kT.mk (kG.mk (jQ.mk lx ly lz) (jL.mk la lb lc ld) lf (jU.mk lu lv)) (kG.mk (jQ.mk rx ry rz) (jL.mk ra rb rc rd) rf (jU.mk ru rv))) (A3.mk (jD b0) (jD b1) (jD b2)) (A3.mk (A3.mk (jD e00) (jD e01) (jD e02)) y7 y7)))))] (zE (kE fo104_1) <| zR (kC uG) <| zE (kB (by have h := qs_red b0 b1 b2 (qu bn1) (qu bn2) (qu bn3) hzb; rw [he00, he01, he02] at h; exact h)) <| zE (kE nS) <| zE (vL nV 0) <| zT (qG uG) <| zZ) ?_
 refine jA ?_
 have bn41 : QL (((cT la lb lc ld ra rb rc rd) * e02) - ((cS la lb lc ld ra rb rc rd) * e01)) 107 := (xG (k := 107) (jG (k := 53) bn33 bn40 (by decide)) (jG (k := 53) bn34 bn39 (by decide)) (by decide))
 have bn42 : QL (((cS la lb lc ld ra rb rc rd) * e00) - ((cQ la lb lc ld ra rb rc rd) * e02)) 107 := (xG (k := 107) (jG (k := 53) bn34 bn38 (by decide)) (jG (k := 53) bn32 bn40 (by decide)) (by decide))
 have bn43 : QL (((cQ la lb lc ld ra rb rc rd) * e01) - ((cT la lb lc ld ra rb rc rd) * e00)) 107 := (xG (k := 107) (jG (k := 53) bn32 bn39 (by decide)) (jG (k := 53) bn33 bn38 (by decide)) (by decide))
 have bn44 : QL e10 214 := (kF (Eq.symm he10) (jG (k := 214) bn41 (yA (n := 107) (k := 107) bn41 bn42 bn43 (by decide) (by decide)) (by decide)))
 have bn45 : QL e11 214 := (kF (Eq.symm he11) (jG (k := 214) bn42 (yA (n := 107) (k := 107) bn41 bn42 bn43 (by decide) (by decide)) (by decide)))
 have bn46 : QL e12 214 := (kF (Eq.symm he12) (jG (k := 214) bn43 (yA (n := 107) (k := 107) bn41 bn42 bn43 (by decide) (by decide)) (by decide)))
 refine kx [] [(2, some (bx (yU (RLp.mk (kT.mk (kG.mk (jQ.mk lx ly lz) (jL.mk la lb lc ld) lf (jU.mk lu lv)) (kG.mk (jQ.mk rx ry rz) (jL.mk ra rb rc rd) rf (jU.mk ru rv))) (A3.mk (jD b0) (jD b1) (jD b2)) (A3.mk (A3.mk (jD e00) (jD e01) (jD e02)) (A3.mk (jD e10) (jD e11) (jD e12)) y7)))))] (zR (kC uG) <| zE (kE nS) <| zE (vL nV 0) <| zR (kC uG) <| zE (kB (qs_cross (cQ la lb lc ld ra rb rc rd) (cT la lb lc ld ra rb rc rd) (cS la lb lc ld ra rb rc rd) (qu bn32) (qu bn33) (qu bn34) e00 e01 e02 (qu bn38) (qu bn39) (qu bn40))) <| zE (kB (by have h := qs_red (((cT la lb lc ld ra rb rc rd) * e02) - ((cS la lb lc ld ra rb rc rd) * e01)) (((cS la lb lc ld ra rb rc rd) * e00) - ((cQ la lb lc ld ra rb rc rd) * e02)) (((cQ la lb lc ld ra rb rc rd) * e01) - ((cT la lb lc ld ra rb rc rd) * e00)) (qu bn41) (qu bn42) (qu bn43) hzs; rw [he10, he11, he12] at h; exact h)) <| zE (kE nS) <| zE (vL nV 1) <| zT (qG uG) <| zZ) ?_
 refine jA ?_
 have bn47 : QL ((e01 * e12) - (e02 * e11)) 441 := (xG (k := 441) (jG (k := 220) bn39 bn46 (by decide)) (jG (k := 220) bn40 bn45 (by decide)) (by decide))
 have bn48 : QL ((e02 * e10) - (e00 * e12)) 441 := (xG (k := 441) (jG (k := 220) bn40 bn44 (by decide)) (jG (k := 220) bn38 bn46 (by decide)) (by decide))
 have bn49 : QL ((e00 * e11) - (e01 * e10)) 441 := (xG (k := 441) (jG (k := 220) bn38 bn45 (by decide)) (jG (k := 220) bn39 bn44 (by decide)) (by decide))
 have bn50 : QL e20 882 := (kF (Eq.symm he20) (jG (k := 882) bn47 (yA (n := 441) (k := 441) bn47 bn48 bn49 (by decide) (by decide)) (by decide)))
 have bn51 : QL e21 882 := (kF (Eq.symm he21) (jG (k := 882) bn48 (yA (n := 441) (k := 441) bn47 bn48 bn49 (by decide) (by decide)) (by decide)))
 have bn52 : QL e22 882 := (kF (Eq.symm he22) (jG (k := 882) bn49 (yA (n := 441) (k := 441) bn47 bn48 bn49 (by decide) (by decide)) (by decide)))
 refine kx [] [(2, some y4)] (zE (kE nS) <| zE (vL nV 0) <| zR (kC uG) <| zE (kE nS) <| zE (vL nV 1) <| zR (kC uG) <| zE (kB (qs_cross e00 e01 e02 (qu bn38) (qu bn39) (qu bn40) e10 e11 e12 (qu bn44) (qu bn45) (qu bn46))) <| zE (kB (by have h := qs_red ((e01 * e12) - (e02 * e11)) ((e02 * e10) - (e00 * e12)) ((e00 * e11) - (e01 * e10)) (qu bn47) (qu bn48) (qu bn49) hzt; rw [he20, he21, he22] at h; exact h)) <| zE (kE nS) <| zE (vL nV 2) <| zT (qG uG) <| zZ) ?_
 refine jA <| kx [(3, (kD 0))] [(1, some y4)] (zR (kC nP) <| zT (qG nP) <| zM <| zZ) ?_
 refine jF ⟨_, (qS (cs := (bx (yU (RLp.mk (kT.mk (kG.mk (jQ.mk lx ly lz) (jL.mk la lb lc ld) lf (jU.mk lu lv)) (kG.mk (jQ.mk rx ry rz) (jL.mk ra rb rc rd) rf (jU.mk ru rv))) (A3.mk (jD b0) (jD b1) (jD b2)) (A3.mk (A3.mk (jD e00) (jD e01) (jD e02)) (A3.mk (jD e10) (jD e11) (jD e12)) (A3.mk (jD e20) (jD e21) (jD e22))))))) (d := (yU (RLp.mk (kT.mk (kG.mk (jQ.mk lx ly lz) (jL.mk la lb lc ld) lf (jU.mk lu lv)) (kG.mk (jQ.mk rx ry rz) (jL.mk ra rb rc rd) rf (jU.mk ru rv))) (A3.mk (jD b0) (jD b1) (jD b2)) (A3.mk (A3.mk (jD e00) (jD e01) (jD e02)) (A3.mk (jD e10) (jD e11) (jD e12)) (A3.mk (jD e20) (jD e21) (jD e22)))))) rfl rfl nP rfl rfl (.tmp (d := (.val (.int .i64 (((0 : Nat) : Int))))) rfl .nil)), ?_⟩
 rfl
end Go.Proofs.YtapjldagikfcmaaGreat
