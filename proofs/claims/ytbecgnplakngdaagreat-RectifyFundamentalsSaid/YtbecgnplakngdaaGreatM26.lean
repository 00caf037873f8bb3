/- Part 26 of a proof: rules, plain facts, and functions walked. -/
import Derived.Test.YtbecgnplakngdaaGreatM25
namespace Go.Proofs.YtbecgnplakngdaaGreat
open Go.Fid
set_option maxRecDepth 4000
set_option linter.unusedVariables false
set_option linter.unusedSimpArgs false
theorem cb14 : callB Tryz.prog 14 = true := by kernel_rfl
theorem cb68 : callB Tryz.prog 68 = true := by kernel_rfl
theorem el140 : zD Tryz.prog 140 = some (29, 10) := by kernel_rfl
theorem eqs23 : eqsB Tryz.prog 23 = some 3 := by kernel_rfl
theorem yI : xH Tryz.prog 31 0 = some 0 := by kernel_rfl
theorem yJ : xH Tryz.prog 31 1 = some 10 := by kernel_rfl
theorem fo47_1 : xH Tryz.prog 47 1 = some 20 := by kernel_rfl
theorem fo47_2 : xH Tryz.prog 47 2 = some 32 := by kernel_rfl
theorem aZ : xH Tryz.prog 134 2 = some 20 := by kernel_rfl
theorem eW : xH Tryz.prog 134 3 = some 32 := by kernel_rfl
theorem pl47 : cY Tryz.prog 47 = some [(0, 20), (20, 12), (32, 36)] := by kernel_rfl
theorem pl134 : cY Tryz.prog 134 = some [(0, 10), (10, 10), (20, 12), (32, 36)] := by kernel_rfl
theorem aN : qY Tryz.prog 23 = some (true, 3) := by kernel_rfl
theorem xN : qY Tryz.prog 29 = some (true, 10) := by kernel_rfl
theorem aJ : qY Tryz.prog 31 = some (true, 20) := by kernel_rfl
theorem eO : qY Tryz.prog 47 = some (true, 68) := by kernel_rfl
theorem ze23 : xJ Tryz.prog 23 = some [.int .i64 0, .int .i64 0, .int .i64 0] := by kernel_rfl
theorem ze29 : xJ Tryz.prog 29 = some [.int .i64 0, .int .i64 0, .int .i64 0, .int .i64 0, .int .i64 0, .int .i64 0, .int .i64 0, .int .i64 0, .int .i64 0, .int .i64 0] := by kernel_rfl
theorem ze47 : xJ Tryz.prog 47 = some [.int .i64 0, .int .i64 0, .int .i64 0, .int .i64 0, .int .i64 0, .int .i64 0, .int .i64 0, .int .i64 0, .int .i64 0, .int .i64 0, .int .i64 0, .int .i64 0, .int .i64 0, .int .i64 0, .int .i64 0, .int .i64 0, .int .i64 0, .int .i64 0, .int .i64 0, .int .i64 0, .bool false, .slice none 0 0, .bool false, .slice none 0 0, .bool false, .slice none 0 0, .bool false, .slice none 0 0, .bool false, .slice none 0 0, .bool false, .slice none 0 0, .bool false, .slice none 0 0, .bool false, .slice none 0 0, .bool false, .slice none 0 0, .bool false, .slice none 0 0, .bool false, .slice none 0 0, .bool false, .slice none 0 0, .bool false, .slice none 0 0, .bool false, .slice none 0 0, .bool false, .slice none 0 0, .bool false, .slice none 0 0, .bool false, .slice none 0 0, .bool false, .slice none 0 0, .bool false, .slice none 0 0, .bool false, .slice none 0 0, .bool false, .slice none 0 0, .bool false, .slice none 0 0, .bool false, .slice none 0 0, .bool false, .slice none 0 0] := by kernel_rfl
theorem ze134 : xJ Tryz.prog 134 = some [.int .i64 0, .int .i64 0, .int .i64 0, .int .i64 0, .int .i64 0, .int .i64 0, .int .i64 0, .int .i64 0, .int .i64 0, .int .i64 0, .int .i64 0, .int .i64 0, .int .i64 0, .int .i64 0, .int .i64 0, .int .i64 0, .int .i64 0, .int .i64 0, .int .i64 0, .int .i64 0, .bool false, .slice none 0 0, .bool false, .slice none 0 0, .bool false, .slice none 0 0, .bool false, .slice none 0 0, .bool false, .slice none 0 0, .bool false, .slice none 0 0, .bool false, .slice none 0 0, .bool false, .slice none 0 0, .bool false, .slice none 0 0, .bool false, .slice none 0 0, .bool false, .slice none 0 0, .bool false, .slice none 0 0, .bool false, .slice none 0 0, .bool false, .slice none 0 0, .bool false, .slice none 0 0, .bool false, .slice none 0 0, .bool false, .slice none 0 0, .bool false, .slice none 0 0, .bool false, .slice none 0 0, .bool false, .slice none 0 0, .bool false, .slice none 0 0, .bool false, .slice none 0 0, .bool false, .slice none 0 0, .bool false, .slice none 0 0] := by kernel_rfl
theorem zo23 : dB [.int .i64 0, .int .i64 0, .int .i64 0] [.val (.int .i64 0), .val (.int .i64 0), .val (.int .i64 0)] := by simp [dB, Value.oneCell']
theorem zo29 : dB [.int .i64 0, .int .i64 0, .int .i64 0, .int .i64 0, .int .i64 0, .int .i64 0, .int .i64 0, .int .i64 0, .int .i64 0, .int .i64 0] [.val (.int .i64 0), .val (.int .i64 0), .val (.int .i64 0), .val (.int .i64 0), .val (.int .i64 0), .val (.int .i64 0), .val (.int .i64 0), .val (.int .i64 0), .val (.int .i64 0), .val (.int .i64 0)] := by simp [dB, Value.oneCell']
theorem zo47 : dB [.int .i64 0, .int .i64 0, .int .i64 0, .int .i64 0, .int .i64 0, .int .i64 0, .int .i64 0, .int .i64 0, .int .i64 0, .int .i64 0, .int .i64 0, .int .i64 0, .int .i64 0, .int .i64 0, .int .i64 0, .int .i64 0, .int .i64 0, .int .i64 0, .int .i64 0, .int .i64 0, .bool false, .slice none 0 0, .bool false, .slice none 0 0, .bool false, .slice none 0 0, .bool false, .slice none 0 0, .bool false, .slice none 0 0, .bool false, .slice none 0 0, .bool false, .slice none 0 0, .bool false, .slice none 0 0, .bool false, .slice none 0 0, .bool false, .slice none 0 0, .bool false, .slice none 0 0, .bool false, .slice none 0 0, .bool false, .slice none 0 0, .bool false, .slice none 0 0, .bool false, .slice none 0 0, .bool false, .slice none 0 0, .bool false, .slice none 0 0, .bool false, .slice none 0 0, .bool false, .slice none 0 0, .bool false, .slice none 0 0, .bool false, .slice none 0 0, .bool false, .slice none 0 0, .bool false, .slice none 0 0, .bool false, .slice none 0 0] [.val (.int .i64 0), .val (.int .i64 0), .val (.int .i64 0), .val (.int .i64 0), .val (.int .i64 0), .val (.int .i64 0), .val (.int .i64 0), .val (.int .i64 0), .val (.int .i64 0), .val (.int .i64 0), .val (.int .i64 0), .val (.int .i64 0), .val (.int .i64 0), .val (.int .i64 0), .val (.int .i64 0), .val (.int .i64 0), .val (.int .i64 0), .val (.int .i64 0), .val (.int .i64 0), .val (.int .i64 0), .val (.bool false), .sl 152 1 [], .val (.bool false), .sl 152 1 [], .val (.bool false), .sl 152 1 [], .val (.bool false), .sl 152 1 [], .val (.bool false), .sl 152 1 [], .val (.bool false), .sl 152 1 [], .val (.bool false), .sl 152 1 [], .val (.bool false), .sl 152 1 [], .val (.bool false), .sl 152 1 [], .val (.bool false), .sl 152 1 [], .val (.bool false), .sl 152 1 [], .val (.bool false), .sl 152 1 [], .val (.bool false), .sl 152 1 [], .val (.bool false), .sl 152 1 [], .val (.bool false), .sl 152 1 [], .val (.bool false), .sl 152 1 [], .val (.bool false), .sl 152 1 [], .val (.bool false), .sl 152 1 [], .val (.bool false), .sl 152 1 [], .val (.bool false), .sl 152 1 [], .val (.bool false), .sl 152 1 [], .val (.bool false), .sl 152 1 [], .val (.bool false), .sl 152 1 [], .val (.bool false), .sl 152 1 []] := by simp [dB, Value.oneCell']
theorem zo134 : dB [.int .i64 0, .int .i64 0, .int .i64 0, .int .i64 0, .int .i64 0, .int .i64 0, .int .i64 0, .int .i64 0, .int .i64 0, .int .i64 0, .int .i64 0, .int .i64 0, .int .i64 0, .int .i64 0, .int .i64 0, .int .i64 0, .int .i64 0, .int .i64 0, .int .i64 0, .int .i64 0, .bool false, .slice none 0 0, .bool false, .slice none 0 0, .bool false, .slice none 0 0, .bool false, .slice none 0 0, .bool false, .slice none 0 0, .bool false, .slice none 0 0, .bool false, .slice none 0 0, .bool false, .slice none 0 0, .bool false, .slice none 0 0, .bool false, .slice none 0 0, .bool false, .slice none 0 0, .bool false, .slice none 0 0, .bool false, .slice none 0 0, .bool false, .slice none 0 0, .bool false, .slice none 0 0, .bool false, .slice none 0 0, .bool false, .slice none 0 0, .bool false, .slice none 0 0, .bool false, .slice none 0 0, .bool false, .slice none 0 0, .bool false, .slice none 0 0, .bool false, .slice none 0 0, .bool false, .slice none 0 0, .bool false, .slice none 0 0] [.val (.int .i64 0), .val (.int .i64 0), .val (.int .i64 0), .val (.int .i64 0), .val (.int .i64 0), .val (.int .i64 0), .val (.int .i64 0), .val (.int .i64 0), .val (.int .i64 0), .val (.int .i64 0), .val (.int .i64 0), .val (.int .i64 0), .val (.int .i64 0), .val (.int .i64 0), .val (.int .i64 0), .val (.int .i64 0), .val (.int .i64 0), .val (.int .i64 0), .val (.int .i64 0), .val (.int .i64 0), .val (.bool false), .sl 152 1 [], .val (.bool false), .sl 152 1 [], .val (.bool false), .sl 152 1 [], .val (.bool false), .sl 152 1 [], .val (.bool false), .sl 152 1 [], .val (.bool false), .sl 152 1 [], .val (.bool false), .sl 152 1 [], .val (.bool false), .sl 152 1 [], .val (.bool false), .sl 152 1 [], .val (.bool false), .sl 152 1 [], .val (.bool false), .sl 152 1 [], .val (.bool false), .sl 152 1 [], .val (.bool false), .sl 152 1 [], .val (.bool false), .sl 152 1 [], .val (.bool false), .sl 152 1 [], .val (.bool false), .sl 152 1 [], .val (.bool false), .sl 152 1 [], .val (.bool false), .sl 152 1 [], .val (.bool false), .sl 152 1 [], .val (.bool false), .sl 152 1 [], .val (.bool false), .sl 152 1 [], .val (.bool false), .sl 152 1 [], .val (.bool false), .sl 152 1 [], .val (.bool false), .sl 152 1 []] := by simp [dB, Value.oneCell']
theorem q_recE1 (lx ly lz la lb lc ld lf lu lv rx ry rz ra rb rc rd rf ru rv : Int) (c : Nat) (hc : stn2 (uB lx ly lz lu lv lf la lb lc ld) (uB rx ry rz ru rv rf ra rb rc rd) = c) (hc0 : c ≠ 0) : kH Tryz.prog 68 [(qJ (kX.mk (kO.mk (jW.mk lx ly lz) (jU.mk la lb lc ld) lf (kP.mk lu lv)) (kO.mk (jW.mk rx ry rz) (jU.mk ra rb rc rd) rf (kP.mk ru rv))))] (.tup [(.val (.pointer none)), (.val (.int .i64 (((c : Nat) : Int))))]) := by
 let y1 := (qJ (kX.mk (kO.mk (jW.mk lx ly lz) (jU.mk la lb lc ld) lf (kP.mk lu lv)) (kO.mk (jW.mk rx ry rz) (jU.mk ra rb rc rd) rf (kP.mk ru rv))))
 refine jP Tryz.func68 rfl cb68 rfl ?_
 show uK _ _ _ _ ⟨[(0, (.d y1))], []⟩
 refine jA <| kx [(1, (.ref 0 0))] [(0, some (bx y1))] (zN (vS 0) <| zM <| zM <| zZ) ?_
 refine jA <| jA <| kx [(4, (kD (uB lx ly lz lu lv lf la lb lc ld)))] [] (zE (kS yI) <| zR (kF xN) <| zE (kA (q_stn lx ly lz la lb lc ld lf lu lv)) <| zM <| zZ) ?_
 refine jA <| kx [(17, (vb ((((uB lx ly lz lu lv lf la lb lc ld) : Nat) : Int) != 0)))] [] (zM <| zE mE <| zZ) ?_
 refine jV rfl (fun h1 => ?_) (fun h1 => ?_)
 ·replace h1 := bne_iff_ne.1 h1
  refine jA <| kx [(2, (.d (.val (.pointer none)))), (3, (kD (uB lx ly lz lu lv lf la lb lc ld)))] [] (zM <| zM <| zM <| zZ) ?_
  refine jJ ⟨_, (.tmp (d := (.val (.pointer none))) rfl (.tmp (d := (.val (.int .i64 ((((uB lx ly lz lu lv lf la lb lc ld) : Nat) : Int))))) rfl .nil)), ?_⟩
  rw [stn2_l h1 hc]; rfl
 ·replace h1 := bne_eq_false_iff_eq.1 h1
  refine jE <| jA <| jA <| kx [(5, (kD (uB rx ry rz ru rv rf ra rb rc rd)))] [] (zE (kS yJ) <| zR (kF xN) <| zE (kA (q_stn rx ry rz ra rb rc rd rf ru rv)) <| zM <| zZ) ?_
  refine jA <| kx [(23, (vb ((((uB rx ry rz ru rv rf ra rb rc rd) : Nat) : Int) != 0)))] [] (zM <| zE mE <| zZ) ?_
  refine jV rfl (fun h2 => ?_) (fun h2 => ?_)
  ·replace h2 := bne_iff_ne.1 h2
   refine jA <| kx [(2, (.d (.val (.pointer none)))), (3, (kD (uB rx ry rz ru rv rf ra rb rc rd)))] [] (zM <| zM <| zM <| zZ) ?_
   refine jJ ⟨_, (.tmp (d := (.val (.pointer none))) rfl (.tmp (d := (.val (.int .i64 ((((uB rx ry rz ru rv rf ra rb rc rd) : Nat) : Int))))) rfl .nil)), ?_⟩
   rw [stn2_r h1 hc]; rfl
  ·replace h2 := bne_eq_false_iff_eq.1 h2
   exact absurd (stn2_0 (by simpa using h1) (by simpa using h2) hc) hc0
theorem q_recE2 (lx ly lz la lb lc ld lf lu lv rx ry rz ra rb rc rd rf ru rv : Int) (b0 b1 b2 : Rat) (uM : QL b0 3) (uN : QL b1 3) (uO : QL b2 3) (hl : uB lx ly lz lu lv lf la lb lc ld = 0) (hr : uB rx ry rz ru rv rf ra rb rc rd = 0) (hb0 : ((rx - lx : Int) : Rat) = b0) (hb1 : ((ry - ly : Int) : Rat) = b1) (hb2 : ((rz - lz : Int) : Rat) = b2) (hup : upV la lb lc ld ra rb rc rd b0 b1 b2 = true) : kH Tryz.prog 68 [(qJ (kX.mk (kO.mk (jW.mk lx ly lz) (jU.mk la lb lc ld) lf (kP.mk lu lv)) (kO.mk (jW.mk rx ry rz) (jU.mk ra rb rc rd) rf (kP.mk ru rv))))] (.tup [(.val (.pointer none)), (.val (.int .i64 (13)))]) := by
 have hbl := xD hl
 have hbr := xD hr
 obtain ⟨hlx, hly, hlz, hlu, hlv, hlf, hlq⟩ := hbl
 obtain ⟨hrx, hry, hrz, hru, hrv, hrf, hrq⟩ := hbr
 obtain ⟨hla, hlb, hlc, hld, -⟩ := xA hlq
 obtain ⟨hra, hrb, hrc, hrd, -⟩ := xA hrq
 have hnl := nU hla hlb hlc hld
 have hnr := nU hra hrb hrc hrd
 let y5 := (A3.mk (kC.mk (jK.mk false []) (jK.mk false [])) (kC.mk (jK.mk false []) (jK.mk false [])) (kC.mk (jK.mk false []) (jK.mk false [])))
 let y4 := (qJ (kX.mk (kO.mk (jW.mk lx ly lz) (jU.mk la lb lc ld) lf (kP.mk lu lv)) (kO.mk (jW.mk rx ry rz) (jU.mk ra rb rc rd) rf (kP.mk ru rv))))
 let y3 := (bx (jR (A3.mk (jB (((dM la lb lc ld ra rb rc rd) * (b2 * (yM b0 b1 b2))) - ((dN la lb lc ld ra rb rc rd) * (b1 * (yM b0 b1 b2))))) (jB (((dN la lb lc ld ra rb rc rd) * (b0 * (yM b0 b1 b2))) - ((dL la lb lc ld ra rb rc rd) * (b2 * (yM b0 b1 b2))))) (jB (((dL la lb lc ld ra rb rc rd) * (b1 * (yM b0 b1 b2))) - ((dM la lb lc ld ra rb rc rd) * (b0 * (yM b0 b1 b2))))))))
 let y2 := (A3.mk y5 y5 y5)
 let y1 := (bx (bG (RRp.mk (kO.mk (jW.mk lx ly lz) (jU.mk la lb lc ld) lf (kP.mk lu lv)) (kO.mk (jW.mk rx ry rz) (jU.mk ra rb rc rd) rf (kP.mk ru rv)) (A3.mk (jB b0) (jB b1) (jB b2)) (A3.mk (A3.mk (jB (b0 * (yM b0 b1 b2))) (jB (b1 * (yM b0 b1 b2))) (jB (b2 * (yM b0 b1 b2)))) y5 y5))))
 refine jP Tryz.func68 rfl cb68 rfl ?_
 show uK _ _ _ _ ⟨[(0, (.d y4))], []⟩
 refine jA <| kx [(1, (.ref 0 0))] [(0, some (bx y4))] (zN (vS 0) <| zM <| zM <| zZ) ?_
 refine jA <| jA <| kx [(4, (kD (uB lx ly lz lu lv lf la lb lc ld)))] [] (zE (kS yI) <| zR (kF xN) <| zE (kA (q_stn lx ly lz la lb lc ld lf lu lv)) <| zM <| zZ) ?_
 refine jA <| kx [(17, (vb false))] [] (zM <| zE (qL false mE (by exact bne_eq_false_iff_eq.2 (by rw [show (uB lx ly lz lu lv lf la lb lc ld) = 0 from hl]; rfl))) <| zZ) ?_
 refine kG ?_
 refine jE <| jA <| jA <| kx [(5, (kD (uB rx ry rz ru rv rf ra rb rc rd)))] [] (zE (kS yJ) <| zR (kF xN) <| zE (kA (q_stn rx ry rz ra rb rc rd rf ru rv)) <| zM <| zZ) ?_
 refine jA <| kx [(23, (vb false))] [] (zM <| zE (qL false mE (by exact bne_eq_false_iff_eq.2 (by rw [show (uB rx ry rz ru rv rf ra rb rc rd) = 0 from hr]; rfl))) <| zZ) ?_
 refine kG ?_
 refine jE <| jA <| kx [(6, (.ref 1 0))] [(1, some (bx (bG (RRp.mk (kO.mk (jW.mk lx ly lz) (jU.mk la lb lc ld) lf (kP.mk lu lv)) (kO.mk (jW.mk rx ry rz) (jU.mk ra rb rc rd) rf (kP.mk ru rv)) y5 y2))))] (zE (kS yI) <| zR (kF xN) <| zE (kS yJ) <| zR (kF xN) <| zE (oBd pl134 ze134 zo134) <| zN (vS 1) <| zM <| zZ) ?_
 refine jA <| kd [(7, (.ref 2 0)), (8, (.ref 3 0))] [(2, some (bx (uX (jW.mk lx ly lz)))), (3, some (bx (uX (jW.mk rx ry rz))))] mo (wE (kS yI) <| wE (kS yC) <| wR (kF aN) <| wE (kS yJ) <| wE (kS yC) <| wR (kF aN) <| wN (qW 2 ze23 zo23) <| wN (qW 3 ze23 zo23) <| wT (kW aN) <| wT (kW aN) <| wZ) ?_
 refine jA ?_
 have bn1 : QL b0 3 := (jH (Eq.symm hb0) (qi (rx - lx)))
 have bn2 : QL b1 3 := (jH (Eq.symm hb1) (qi (ry - ly)))
 have bn3 : QL b2 3 := (jH (Eq.symm hb2) (qi (rz - lz)))
 refine kx [] [(1, some (bx (bG (RRp.mk (kO.mk (jW.mk lx ly lz) (jU.mk la lb lc ld) lf (kP.mk lu lv)) (kO.mk (jW.mk rx ry rz) (jU.mk ra rb rc rd) rf (kP.mk ru rv)) (A3.mk (jB b0) (jB b1) (jB b2)) y2))))] (zM <| zE (kS yH) <| zR (uF uQ) <| zE (kS yH) <| zR (uF uQ) <| zE (fT (rx - lx) (hr := by exact (qK rfl (by simp only [xC]; omega) (by simp only [xF]; omega)))) <| zE (kS yT) <| zR (uF uQ) <| zE (kS yT) <| zR (uF uQ) <| zE (fT (ry - ly) (hr := by exact (qK rfl (by simp only [xC]; omega) (by simp only [xF]; omega)))) <| zE (kS yV) <| zR (uF uQ) <| zE (kS yV) <| zR (uF uQ) <| zE (fT (rz - lz) (hr := by exact (qK rfl (by simp only [xC]; omega) (by simp only [xF]; omega)))) <| zE (kA (by have h := q_whole (rx - lx) (by omega) (by omega) (ry - ly) (by omega) (by omega) (rz - lz) (by omega) (by omega); rw [hb0, hb1, hb2] at h; exact h)) <| zE oNc <| zE (kS aZ) <| zT (kW uC) <| zZ) ?_
 refine jA <| jA <| kx [(58, (vb (decide ([lx, ly, lz] = [rx, ry, rz]))))] [] (zR (kF aN) <| zR (kF aN) <| zE (oEs eqs23 .i64 [lx, ly, lz] [rx, ry, rz]) <| zZ) ?_
 refine jV (b := (decide ([lx, ly, lz] = [rx, ry, rz]))) rfl (fun h1 => ?_) (fun h1 => ?_)
 ·replace h1 := of_decide_eq_true h1
  refine jA <| kx [(2, (.d (.val (.pointer none)))), (3, (kD 13))] [] (zM <| zM <| zZ) ?_
  refine jJ ⟨_, (.tmp (d := (.val (.pointer none))) rfl (.tmp (d := (.val (.int .i64 (((13 : Nat) : Int))))) rfl .nil)), ?_⟩
  rfl
 ·replace h1 := of_decide_eq_false h1
  have hzb := zb_ne hb0 hb1 hb2 h1
  have hzs := up_zs hzb hup
  refine jE <| jA ?_
  have bn4 : QL (uY la lb lc ld) 3 := (gC)
  have bn5 : QL (vA la lb lc ld) 3 := (gG)
  have bn6 : QL (qN la lb lc ld) 3 := (yO)
  have bn7 : QL (vD la lb lc ld) 3 := (gB)
  have bn8 : QL (vC la lb lc ld) 3 := (gE)
  have bn9 : QL (qO la lb lc ld) 3 := (yN)
  have bn10 : QL (vH la lb lc ld) 3 := (gF)
  have bn11 : QL (vG la lb lc ld) 3 := (gD)
  have bn12 : QL (qQ la lb lc ld) 3 := (yL)
  have bn13 : QL (uY ra rb rc rd) 3 := (gC)
  have bn14 : QL (vA ra rb rc rd) 3 := (gG)
  have bn15 : QL (qN ra rb rc rd) 3 := (yO)
  have bn16 : QL (vD ra rb rc rd) 3 := (gB)
  have bn17 : QL (vC ra rb rc rd) 3 := (gE)
  have bn18 : QL (qO ra rb rc rd) 3 := (yN)
  have bn19 : QL (vH ra rb rc rd) 3 := (gF)
  have bn20 : QL (vG ra rb rc rd) 3 := (gD)
  have bn21 : QL (qQ ra rb rc rd) 3 := (yL)
  refine kd [(9, (.ref 4 0)), (10, (.ref 5 0))] [(4, some (bx (qM (A3.mk (A3.mk (jB (uY la lb lc ld)) (jB (vD la lb lc ld)) (jB (vH la lb lc ld))) (A3.mk (jB (vA la lb lc ld)) (jB (vC la lb lc ld)) (jB (vG la lb lc ld))) (A3.mk (jB (qN la lb lc ld)) (jB (qO la lb lc ld)) (jB (qQ la lb lc ld))))))), (5, some (bx (qM (A3.mk (A3.mk (jB (uY ra rb rc rd)) (jB (vD ra rb rc rd)) (jB (vH ra rb rc rd))) (A3.mk (jB (vA ra rb rc rd)) (jB (vC ra rb rc rd)) (jB (vG ra rb rc rd))) (A3.mk (jB (qN ra rb rc rd)) (jB (qO ra rb rc rd)) (jB (qQ ra rb rc rd)))))))] mo (wE (kS yI) <| wE (kS yW) <| wR (kF yF) <| wE (kA (q_turn la lb lc ld (by omega) (by omega) (by omega) (by omega) hlq)) <| wE (kA (fG (uY la lb lc ld) (vA la lb lc ld) (qN la lb lc ld) (vD la lb lc ld) (vC la lb lc ld) (qO la lb lc ld) (vH la lb lc ld) (vG la lb lc ld) (qQ la lb lc ld) (qu bn4) (qu bn5) (qu bn6) (qu bn7) (qu bn8) (qu bn9) (qu bn10) (qu bn11) (qu bn12))) <| wE (kS yJ) <| wE (kS yW) <| wR (kF yF) <| wE (kA (q_turn ra rb rc rd (by omega) (by omega) (by omega) (by omega) hrq)) <| wE (kA (fG (uY ra rb rc rd) (vA ra rb rc rd) (qN ra rb rc rd) (vD ra rb rc rd) (vC ra rb rc rd) (qO ra rb rc rd) (vH ra rb rc rd) (vG ra rb rc rd) (qQ ra rb rc rd) (qu bn13) (qu bn14) (qu bn15) (qu bn16) (qu bn17) (qu bn18) (qu bn19) (qu bn20) (qu bn21))) <| wN (qW 4 fC fE) <| wN (qW 5 fC fE) <| wT (kW nT) <| wT (kW nT) <| wZ) ?_
  refine jA ?_
  have bn22 : QL (N4 ra rb rc rd) 3 := (jH (Eq.symm (show ((nq ra rb rc rd : Int) : Rat) = (N4 ra rb rc rd) from rfl)) (kV (z := (nq ra rb rc rd)) (jQ (by omega) (by omega)) (by decide)))
  have bn23 : QL (N4 la lb lc ld) 3 := (jH (Eq.symm (show ((nq la lb lc ld : Int) : Rat) = (N4 la lb lc ld) from rfl)) (kV (z := (nq la lb lc ld)) (jQ (by omega) (by omega)) (by decide)))
  have bn24 : QL (dL la lb lc ld ra rb rc rd) 13 := (jH (Eq.symm (dq0_eq la lb lc ld ra rb rc rd)) (kE (k := 13) (jD (k := 6) bn6 bn22 (by decide)) (jD (k := 6) bn15 bn23 (by decide)) (by decide)))
  have bn25 : QL (dM la lb lc ld ra rb rc rd) 13 := (jH (Eq.symm (dq1_eq la lb lc ld ra rb rc rd)) (kE (k := 13) (jD (k := 6) bn9 bn22 (by decide)) (jD (k := 6) bn18 bn23 (by decide)) (by decide)))
  have bn26 : QL (dN la lb lc ld ra rb rc rd) 13 := (jH (Eq.symm (dq2_eq la lb lc ld ra rb rc rd)) (kE (k := 13) (jD (k := 6) bn12 bn22 (by decide)) (jD (k := 6) bn21 bn23 (by decide)) (by decide)))
  refine kd [(11, (.ref 6 0))] [(6, some (bx (jR (A3.mk (jB (dL la lb lc ld ra rb rc rd)) (jB (dM la lb lc ld ra rb rc rd)) (jB (dN la lb lc ld ra rb rc rd))))))] mo (wE (uH vT 2) <| wR (kF uC) <| wE (kS yJ) <| wE (kS yW) <| wR (kF yF) <| wE (kA (q_norm ra rb rc rd (by omega) (by omega) (by omega) (by omega))) <| wE (kA (by have h := eU (nq ra rb rc rd) (by omega) (by omega); rw [(show ((nq ra rb rc rd : Int) : Rat) = (N4 ra rb rc rd) from rfl)] at h; exact h)) <| wE (kA (fF (qN la lb lc ld) (qO la lb lc ld) (qQ la lb lc ld) (qu bn6) (qu bn9) (qu bn12) (N4 ra rb rc rd) (qu bn22))) <| wE (uH vT 2) <| wR (kF uC) <| wE (kS yI) <| wE (kS yW) <| wR (kF yF) <| wE (kA (q_norm la lb lc ld (by omega) (by omega) (by omega) (by omega))) <| wE (kA (by have h := eU (nq la lb lc ld) (by omega) (by omega); rw [(show ((nq la lb lc ld : Int) : Rat) = (N4 la lb lc ld) from rfl)] at h; exact h)) <| wE (kA (fF (qN ra rb rc rd) (qO ra rb rc rd) (qQ ra rb rc rd) (qu bn15) (qu bn18) (qu bn21) (N4 la lb lc ld) (qu bn23))) <| wE (kA (by have h := q_sum ((qN la lb lc ld) * (N4 ra rb rc rd)) ((qO la lb lc ld) * (N4 ra rb rc rd)) ((qQ la lb lc ld) * (N4 ra rb rc rd)) (uR (jD (k := 6) bn6 bn22 (by decide)) (by decide)) (uR (jD (k := 6) bn9 bn22 (by decide)) (by decide)) (uR (jD (k := 6) bn12 bn22 (by decide)) (by decide)) ((qN ra rb rc rd) * (N4 la lb lc ld)) ((qO ra rb rc rd) * (N4 la lb lc ld)) ((qQ ra rb rc rd) * (N4 la lb lc ld)) (uR (jD (k := 6) bn15 bn23 (by decide)) (by decide)) (uR (jD (k := 6) bn18 bn23 (by decide)) (by decide)) (uR (jD (k := 6) bn21 bn23 (by decide)) (by decide)); rw [(dq0_eq la lb lc ld ra rb rc rd), (dq1_eq la lb lc ld ra rb rc rd), (dq2_eq la lb lc ld ra rb rc rd)] at h; exact h)) <| wN (qW 6 dG dJ) <| wT (kW uC) <| wZ) ?_
  refine jA ?_
  have bn27 : QL (b0 * (yM b0 b1 b2)) 6 := (jD (k := 6) bn1 (zI (n := 3) (k := 3) bn1 bn2 bn3 (by decide) (by decide)) (by decide))
  have bn28 : QL (b1 * (yM b0 b1 b2)) 6 := (jD (k := 6) bn2 (zI (n := 3) (k := 3) bn1 bn2 bn3 (by decide) (by decide)) (by decide))
  have bn29 : QL (b2 * (yM b0 b1 b2)) 6 := (jD (k := 6) bn3 (zI (n := 3) (k := 3) bn1 bn2 bn3 (by decide) (by decide)) (by decide))
  refine kd [] [(1, some y1)] mo (wM <| wM <| wE oNc <| wE (kS aZ) <| wR (kF uC) <| wE (kA (q_red b0 b1 b2 (qu bn1) (qu bn2) (qu bn3) hzb)) <| wE oNc <| wE (kS eW) <| wE (uH vT 0) <| wT (kW uC) <| wZ) ?_
  refine jA ?_
  have bn30 : QL (((dM la lb lc ld ra rb rc rd) * (b2 * (yM b0 b1 b2))) - ((dN la lb lc ld ra rb rc rd) * (b1 * (yM b0 b1 b2)))) 39 := (kL (k := 39) (jD (k := 19) bn25 bn29 (by decide)) (jD (k := 19) bn26 bn28 (by decide)) (by decide))
  have bn31 : QL (((dN la lb lc ld ra rb rc rd) * (b0 * (yM b0 b1 b2))) - ((dL la lb lc ld ra rb rc rd) * (b2 * (yM b0 b1 b2)))) 39 := (kL (k := 39) (jD (k := 19) bn26 bn27 (by decide)) (jD (k := 19) bn24 bn29 (by decide)) (by decide))
  have bn32 : QL (((dL la lb lc ld ra rb rc rd) * (b1 * (yM b0 b1 b2))) - ((dM la lb lc ld ra rb rc rd) * (b0 * (yM b0 b1 b2)))) 39 := (kL (k := 39) (jD (k := 19) bn24 bn28 (by decide)) (jD (k := 19) bn25 bn27 (by decide)) (by decide))
  refine kd [(12, (.ref 7 0))] [(7, some y3)] mo (wR (kF uC) <| wM <| wE oNc <| wE (kS eW) <| wE (uH vT 0) <| wR (kF uC) <| wE (kA (q_cross (dL la lb lc ld ra rb rc rd) (dM la lb lc ld ra rb rc rd) (dN la lb lc ld ra rb rc rd) (qu bn24) (qu bn25) (qu bn26) (b0 * (yM b0 b1 b2)) (b1 * (yM b0 b1 b2)) (b2 * (yM b0 b1 b2)) (qu bn27) (qu bn28) (qu bn29))) <| wN (qW 7 dG dJ) <| wT (kW uC) <| wZ) ?_
  refine jA <| jA <| kx [(103, (vb true))] [] (zR (kF uC) <| zE (qL true (kA (q_isz (((dM la lb lc ld ra rb rc rd) * (b2 * (yM b0 b1 b2))) - ((dN la lb lc ld ra rb rc rd) * (b1 * (yM b0 b1 b2)))) (((dN la lb lc ld ra rb rc rd) * (b0 * (yM b0 b1 b2))) - ((dL la lb lc ld ra rb rc rd) * (b2 * (yM b0 b1 b2)))) (((dL la lb lc ld ra rb rc rd) * (b1 * (yM b0 b1 b2))) - ((dM la lb lc ld ra rb rc rd) * (b0 * (yM b0 b1 b2)))) (qu bn30) (qu bn31) (qu bn32))) (by exact hzs)) <| zZ) ?_
  refine jS ?_
  refine jA <| kJ (wk (l := [(6, (.ref 1 0)), (12, (.ref 7 0)), (103, (vb true))]) (b := [(1, some y1), (7, some y3)])) ?_
  refine kx [(2, (.d (.val (.pointer none)))), (3, (kD 13))] [] (zM <| zM <| zZ) ?_
  refine jJ ⟨_, (.tmp (d := (.val (.pointer none))) rfl (.tmp (d := (.val (.int .i64 (((13 : Nat) : Int))))) rfl .nil)), ?_⟩
  rfl
theorem q_rec (lx ly lz la lb lc ld lf lu lv rx ry rz ra rb rc rd rf ru rv : Int) (b0 b1 b2 e00 e01 e02 e10 e11 e12 e20 e21 e22 : Rat) (hF : RFr lx ly lz la lb lc ld rx ry rz ra rb rc rd b0 b1 b2 e00 e01 e02 e10 e11 e12 e20 e21 e22) (uM : QL b0 3) (uN : QL b1 3) (uO : QL b2 3) (xU : QL e00 400) (xW : QL e01 400) (xS : QL e02 400) (xY : QL e10 400) (xZ : QL e11 400) (zB : QL e12 400) (xV : QL e20 400) (xR : QL e21 400) (xT : QL e22 400) (hl : uB lx ly lz lu lv lf la lb lc ld = 0) (hr : uB rx ry rz ru rv rf ra rb rc rd = 0) (hup : upV la lb lc ld ra rb rc rd b0 b1 b2 = false) : kH Tryz.prog 68 [(qJ (kX.mk (kO.mk (jW.mk lx ly lz) (jU.mk la lb lc ld) lf (kP.mk lu lv)) (kO.mk (jW.mk rx ry rz) (jU.mk ra rb rc rd) rf (kP.mk ru rv))))] (.tup [(.cptr 1000001 (qE.cells (bG (RRp.mk (kO.mk (jW.mk lx ly lz) (jU.mk la lb lc ld) lf (kP.mk lu lv)) (kO.mk (jW.mk rx ry rz) (jU.mk ra rb rc rd) rf (kP.mk ru rv)) (A3.mk (jB b0) (jB b1) (jB b2)) (A3.mk (A3.mk (jB e00) (jB e01) (jB e02)) (A3.mk (jB e10) (jB e11) (jB e12)) (A3.mk (jB e20) (jB e21) (jB e22)))))) 0), (.val (.int .i64 (0)))]) := by
 have hbl := xD hl
 have hbr := xD hr
 obtain ⟨hlx, hly, hlz, hlu, hlv, hlf, hlq⟩ := hbl
 obtain ⟨hrx, hry, hrz, hru, hrv, hrf, hrq⟩ := hbr
 obtain ⟨hla, hlb, hlc, hld, -⟩ := xA hlq
 obtain ⟨hra, hrb, hrc, hrd, -⟩ := xA hrq
 have hnl := nU hla hlb hlc hld
 have hnr := nU hra hrb hrc hrd
 have hF2 := hF
 unfold RFr at hF2
 obtain ⟨hb0, hb1, hb2, he00, he01, he02, he10, he11, he12, he20, he21, he22⟩ := hF2
 have hzb := fr_zb hF hup
 have hzs := fr_zs hF hup
 have hzt := fr_zt hF hup
 let y6 := (A3.mk (kC.mk (jK.mk false []) (jK.mk false [])) (kC.mk (jK.mk false []) (jK.mk false [])) (kC.mk (jK.mk false []) (jK.mk false [])))
 let y5 := (qJ (kX.mk (kO.mk (jW.mk lx ly lz) (jU.mk la lb lc ld) lf (kP.mk lu lv)) (kO.mk (jW.mk rx ry rz) (jU.mk ra rb rc rd) rf (kP.mk ru rv))))
 let y4 := (bx (jR (A3.mk (jB (((dM la lb lc ld ra rb rc rd) * e02) - ((dN la lb lc ld ra rb rc rd) * e01))) (jB (((dN la lb lc ld ra rb rc rd) * e00) - ((dL la lb lc ld ra rb rc rd) * e02))) (jB (((dL la lb lc ld ra rb rc rd) * e01) - ((dM la lb lc ld ra rb rc rd) * e00))))))
 let y3 := (bG (RRp.mk (kO.mk (jW.mk lx ly lz) (jU.mk la lb lc ld) lf (kP.mk lu lv)) (kO.mk (jW.mk rx ry rz) (jU.mk ra rb rc rd) rf (kP.mk ru rv)) (A3.mk (jB b0) (jB b1) (jB b2)) (A3.mk (A3.mk (jB e00) (jB e01) (jB e02)) (A3.mk (jB e10) (jB e11) (jB e12)) (A3.mk (jB e20) (jB e21) (jB e22)))))
 let y2 := (A3.mk y6 y6 y6)
 let y1 := (bx (bG (RRp.mk (kO.mk (jW.mk lx ly lz) (jU.mk la lb lc ld) lf (kP.mk lu lv)) (kO.mk (jW.mk rx ry rz) (jU.mk ra rb rc rd) rf (kP.mk ru rv)) (A3.mk (jB b0) (jB b1) (jB b2)) (A3.mk (A3.mk (jB e00) (jB e01) (jB e02)) y6 y6))))
 refine jP Tryz.func68 rfl cb68 rfl ?_
 show uK _ _ _ _ ⟨[(0, (.d y5))], []⟩
 refine jA <| kx [(1, (.ref 0 0))] [(0, some (bx y5))] (zN (vS 0) <| zM <| zM <| zZ) ?_
 refine jA <| jA <| kx [(4, (kD (uB lx ly lz lu lv lf la lb lc ld)))] [] (zE (kS yI) <| zR (kF xN) <| zE (kA (q_stn lx ly lz la lb lc ld lf lu lv)) <| zM <| zZ) ?_
 refine jA <| kx [(17, (vb false))] [] (zM <| zE (qL false mE (by exact bne_eq_false_iff_eq.2 (by rw [show (uB lx ly lz lu lv lf la lb lc ld) = 0 from hl]; rfl))) <| zZ) ?_
 refine kG ?_
 refine jE <| jA <| jA <| kx [(5, (kD (uB rx ry rz ru rv rf ra rb rc rd)))] [] (zE (kS yJ) <| zR (kF xN) <| zE (kA (q_stn rx ry rz ra rb rc rd rf ru rv)) <| zM <| zZ) ?_
 refine jA <| kx [(23, (vb false))] [] (zM <| zE (qL false mE (by exact bne_eq_false_iff_eq.2 (by rw [show (uB rx ry rz ru rv rf ra rb rc rd) = 0 from hr]; rfl))) <| zZ) ?_
 refine kG ?_
 refine jE <| jA <| kx [(6, (.ref 1 0))] [(1, some (bx (bG (RRp.mk (kO.mk (jW.mk lx ly lz) (jU.mk la lb lc ld) lf (kP.mk lu lv)) (kO.mk (jW.mk rx ry rz) (jU.mk ra rb rc rd) rf (kP.mk ru rv)) y6 y2))))] (zE (kS yI) <| zR (kF xN) <| zE (kS yJ) <| zR (kF xN) <| zE (oBd pl134 ze134 zo134) <| zN (vS 1) <| zM <| zZ) ?_
 refine jA <| kd [(7, (.ref 2 0)), (8, (.ref 3 0))] [(2, some (bx (uX (jW.mk lx ly lz)))), (3, some (bx (uX (jW.mk rx ry rz))))] mo (wE (kS yI) <| wE (kS yC) <| wR (kF aN) <| wE (kS yJ) <| wE (kS yC) <| wR (kF aN) <| wN (qW 2 ze23 zo23) <| wN (qW 3 ze23 zo23) <| wT (kW aN) <| wT (kW aN) <| wZ) ?_
 refine jA ?_
 have bn1 : QL b0 3 := (jH (Eq.symm hb0) (qi (rx - lx)))
 have bn2 : QL b1 3 := (jH (Eq.symm hb1) (qi (ry - ly)))
 have bn3 : QL b2 3 := (jH (Eq.symm hb2) (qi (rz - lz)))
 refine kx [] [(1, some (bx (bG (RRp.mk (kO.mk (jW.mk lx ly lz) (jU.mk la lb lc ld) lf (kP.mk lu lv)) (kO.mk (jW.mk rx ry rz) (jU.mk ra rb rc rd) rf (kP.mk ru rv)) (A3.mk (jB b0) (jB b1) (jB b2)) y2))))] (zM <| zE (kS yH) <| zR (uF uQ) <| zE (kS yH) <| zR (uF uQ) <| zE (fT (rx - lx) (hr := by exact (qK rfl (by simp only [xC]; omega) (by simp only [xF]; omega)))) <| zE (kS yT) <| zR (uF uQ) <| zE (kS yT) <| zR (uF uQ) <| zE (fT (ry - ly) (hr := by exact (qK rfl (by simp only [xC]; omega) (by simp only [xF]; omega)))) <| zE (kS yV) <| zR (uF uQ) <| zE (kS yV) <| zR (uF uQ) <| zE (fT (rz - lz) (hr := by exact (qK rfl (by simp only [xC]; omega) (by simp only [xF]; omega)))) <| zE (kA (by have h := q_whole (rx - lx) (by omega) (by omega) (ry - ly) (by omega) (by omega) (rz - lz) (by omega) (by omega); rw [hb0, hb1, hb2] at h; exact h)) <| zE oNc <| zE (kS aZ) <| zT (kW uC) <| zZ) ?_
 refine jA <| jA <| kx [(58, (vb (decide ([lx, ly, lz] = [rx, ry, rz]))))] [] (zR (kF aN) <| zR (kF aN) <| zE (oEs eqs23 .i64 [lx, ly, lz] [rx, ry, rz]) <| zZ) ?_
 refine jV (b := (decide ([lx, ly, lz] = [rx, ry, rz]))) rfl (fun h1 => ?_) (fun h1 => ?_)
 ·replace h1 := of_decide_eq_true h1
  exact absurd (zb_eq hb0 hb1 hb2 h1) (by rw [hzb]; decide)
 ·replace h1 := of_decide_eq_false h1
  refine jE <| jA ?_
  have bn4 : QL (uY la lb lc ld) 3 := (gC)
  have bn5 : QL (vA la lb lc ld) 3 := (gG)
  have bn6 : QL (qN la lb lc ld) 3 := (yO)
  have bn7 : QL (vD la lb lc ld) 3 := (gB)
  have bn8 : QL (vC la lb lc ld) 3 := (gE)
  have bn9 : QL (qO la lb lc ld) 3 := (yN)
  have bn10 : QL (vH la lb lc ld) 3 := (gF)
  have bn11 : QL (vG la lb lc ld) 3 := (gD)
  have bn12 : QL (qQ la lb lc ld) 3 := (yL)
  have bn13 : QL (uY ra rb rc rd) 3 := (gC)
  have bn14 : QL (vA ra rb rc rd) 3 := (gG)
  have bn15 : QL (qN ra rb rc rd) 3 := (yO)
  have bn16 : QL (vD ra rb rc rd) 3 := (gB)
  have bn17 : QL (vC ra rb rc rd) 3 := (gE)
  have bn18 : QL (qO ra rb rc rd) 3 := (yN)
  have bn19 : QL (vH ra rb rc rd) 3 := (gF)
  have bn20 : QL (vG ra rb rc rd) 3 := (gD)
  have bn21 : QL (qQ ra rb rc rd) 3 := (yL)
  refine kd [(9, (.ref 4 0)), (10, (.ref 5 0))] [(4, some (bx (qM (A3.mk (A3.mk (jB (uY la lb lc ld)) (jB (vD la lb lc ld)) (jB (vH la lb lc ld))) (A3.mk (jB (vA la lb lc ld)) (jB (vC la lb lc ld)) (jB (vG la lb lc ld))) (A3.mk (jB (qN la lb lc ld)) (jB (qO la lb lc ld)) (jB (qQ la lb lc ld))))))), (5, some (bx (qM (A3.mk (A3.mk (jB (uY ra rb rc rd)) (jB (vD ra rb rc rd)) (jB (vH ra rb rc rd))) (A3.mk (jB (vA ra rb rc rd)) (jB (vC ra rb rc rd)) (jB (vG ra rb rc rd))) (A3.mk (jB (qN ra rb rc rd)) (jB (qO ra rb rc rd)) (jB (qQ ra rb rc rd)))))))] mo (wE (kS yI) <| wE (kS yW) <| wR (kF yF) <| wE (kA (q_turn la lb lc ld (by omega) (by omega) (by omega) (by omega) hlq)) <| wE (kA (fG (uY la lb lc ld) (vA la lb lc ld) (qN la lb lc ld) (vD la lb lc ld) (vC la lb lc ld) (qO la lb lc ld) (vH la lb lc ld) (vG la lb lc ld) (qQ la lb lc ld) (qu bn4) (qu bn5) (qu bn6) (qu bn7) (qu bn8) (qu bn9) (qu bn10) (qu bn11) (qu bn12))) <| wE (kS yJ) <| wE (kS yW) <| wR (kF yF) <| wE (kA (q_turn ra rb rc rd (by omega) (by omega) (by omega) (by omega) hrq)) <| wE (kA (fG (uY ra rb rc rd) (vA ra rb rc rd) (qN ra rb rc rd) (vD ra rb rc rd) (vC ra rb rc rd) (qO ra rb rc rd) (vH ra rb rc rd) (vG ra rb rc rd) (qQ ra rb rc rd) (qu bn13) (qu bn14) (qu bn15) (qu bn16) (qu bn17) (qu bn18) (qu bn19) (qu bn20) (qu bn21))) <| wN (qW 4 fC fE) <| wN (qW 5 fC fE) <| wT (kW nT) <| wT (kW nT) <| wZ) ?_
  refine jA ?_
  have bn22 : QL (N4 ra rb rc rd) 3 := (jH (Eq.symm (show ((nq ra rb rc rd : Int) : Rat) = (N4 ra rb rc rd) from rfl)) (kV (z := (nq ra rb rc rd)) (jQ (by omega) (by omega)) (by decide)))
  have bn23 : QL (N4 la lb lc ld) 3 := (jH (Eq.symm (show ((nq la lb lc ld : Int) : Rat) = (N4 la lb lc ld) from rfl)) (kV (z := (nq la lb lc ld)) (jQ (by omega) (by omega)) (by decide)))
  have bn24 : QL (dL la lb lc ld ra rb rc rd) 13 := (jH (Eq.symm (dq0_eq la lb lc ld ra rb rc rd)) (kE (k := 13) (jD (k := 6) bn6 bn22 (by decide)) (jD (k := 6) bn15 bn23 (by decide)) (by decide)))
  have bn25 : QL (dM la lb lc ld ra rb rc rd) 13 := (jH (Eq.symm (dq1_eq la lb lc ld ra rb rc rd)) (kE (k := 13) (jD (k := 6) bn9 bn22 (by decide)) (jD (k := 6) bn18 bn23 (by decide)) (by decide)))
  have bn26 : QL (dN la lb lc ld ra rb rc rd) 13 := (jH (Eq.symm (dq2_eq la lb lc ld ra rb rc rd)) (kE (k := 13) (jD (k := 6) bn12 bn22 (by decide)) (jD (k := 6) bn21 bn23 (by decide)) (by decide)))
  refine kd [(11, (.ref 6 0))] [(6, some (bx (jR (A3.mk (jB (dL la lb lc ld ra rb rc rd)) (jB (dM la lb lc ld ra rb rc rd)) (jB (dN la lb lc ld ra rb rc rd))))))] mo (wE (uH vT 2) <| wR (kF uC) <| wE (kS yJ) <| wE (kS yW) <| wR (kF yF) <| wE (kA (q_norm ra rb rc rd (by omega) (by omega) (by omega) (by omega))) <| wE (kA (by have h := eU (nq ra rb rc rd) (by omega) (by omega); rw [(show ((nq ra rb rc rd : Int) : Rat) = (N4 ra rb rc rd) from rfl)] at h; exact h)) <| wE (kA (fF (qN la lb lc ld) (qO la lb lc ld) (qQ la lb lc ld) (qu bn6) (qu bn9) (qu bn12) (N4 ra rb rc rd) (qu bn22))) <| wE (uH vT 2) <| wR (kF uC) <| wE (kS yI) <| wE (kS yW) <| wR (kF yF) <| wE (kA (q_norm la lb lc ld (by omega) (by omega) (by omega) (by omega))) <| wE (kA (by have h := eU (nq la lb lc ld) (by omega) (by omega); rw [(show ((nq la lb lc ld : Int) : Rat) = (N4 la lb lc ld) from rfl)] at h; exact h)) <| wE (kA (fF (qN ra rb rc rd) (qO ra rb rc rd) (qQ ra rb rc rd) (qu bn15) (qu bn18) (qu bn21) (N4 la lb lc ld) (qu bn23))) <| wE (kA (by have h := q_sum ((qN la lb lc ld) * (N4 ra rb rc rd)) ((qO la lb lc ld) * (N4 ra rb rc rd)) ((qQ la lb lc ld) * (N4 ra rb rc rd)) (uR (jD (k := 6) bn6 bn22 (by decide)) (by decide)) (uR (jD (k := 6) bn9 bn22 (by decide)) (by decide)) (uR (jD (k := 6) bn12 bn22 (by decide)) (by decide)) ((qN ra rb rc rd) * (N4 la lb lc ld)) ((qO ra rb rc rd) * (N4 la lb lc ld)) ((qQ ra rb rc rd) * (N4 la lb lc ld)) (uR (jD (k := 6) bn15 bn23 (by decide)) (by decide)) (uR (jD (k := 6) bn18 bn23 (by decide)) (by decide)) (uR (jD (k := 6) bn21 bn23 (by decide)) (by decide)); rw [(dq0_eq la lb lc ld ra rb rc rd), (dq1_eq la lb lc ld ra rb rc rd), (dq2_eq la lb lc ld ra rb rc rd)] at h; exact h)) <| wN (qW 6 dG dJ) <| wT (kW uC) <| wZ) ?_
  refine jA ?_
  have bn27 : QL e00 6 := (jH (Eq.symm he00) (jD (k := 6) bn1 (zI (n := 3) (k := 3) bn1 bn2 bn3 (by decide) (by decide)) (by decide)))
  have bn28 : QL e01 6 := (jH (Eq.symm he01) (jD (k := 6) bn2 (zI (n := 3) (k := 3) bn1 bn2 bn3 (by decide) (by decide)) (by decide)))
  have bn29 : QL e02 6 := (jH (Eq.symm he02) (jD (k := 6) bn3 (zI (n := 3) (k := 3) bn1 bn2 bn3 (by decide) (by decide)) (by decide)))
  refine kd [] [(1, some y1)] mo (wM <| wM <| wE oNc <| wE (kS aZ) <| wR (kF uC) <| wE (kA (by have h := q_red b0 b1 b2 (qu bn1) (qu bn2) (qu bn3) hzb; rw [he00, he01, he02] at h; exact h)) <| wE oNc <| wE (kS eW) <| wE (uH vT 0) <| wT (kW uC) <| wZ) ?_
  refine jA ?_
  have bn30 : QL (((dM la lb lc ld ra rb rc rd) * e02) - ((dN la lb lc ld ra rb rc rd) * e01)) 39 := (kL (k := 39) (jD (k := 19) bn25 bn29 (by decide)) (jD (k := 19) bn26 bn28 (by decide)) (by decide))
  have bn31 : QL (((dN la lb lc ld ra rb rc rd) * e00) - ((dL la lb lc ld ra rb rc rd) * e02)) 39 := (kL (k := 39) (jD (k := 19) bn26 bn27 (by decide)) (jD (k := 19) bn24 bn29 (by decide)) (by decide))
  have bn32 : QL (((dL la lb lc ld ra rb rc rd) * e01) - ((dM la lb lc ld ra rb rc rd) * e00)) 39 := (kL (k := 39) (jD (k := 19) bn24 bn28 (by decide)) (jD (k := 19) bn25 bn27 (by decide)) (by decide))
  refine kd [(12, (.ref 7 0))] [(7, some y4)] mo (wR (kF uC) <| wM <| wE oNc <| wE (kS eW) <| wE (uH vT 0) <| wR (kF uC) <| wE (kA (q_cross (dL la lb lc ld ra rb rc rd) (dM la lb lc ld ra rb rc rd) (dN la lb lc ld ra rb rc rd) (qu bn24) (qu bn25) (qu bn26) e00 e01 e02 (qu bn27) (qu bn28) (qu bn29))) <| wN (qW 7 dG dJ) <| wT (kW uC) <| wZ) ?_
  refine jA <| jA <| kx [(103, (vb false))] [] (zR (kF uC) <| zE (qL false (kA (q_isz (((dM la lb lc ld ra rb rc rd) * e02) - ((dN la lb lc ld ra rb rc rd) * e01)) (((dN la lb lc ld ra rb rc rd) * e00) - ((dL la lb lc ld ra rb rc rd) * e02)) (((dL la lb lc ld ra rb rc rd) * e01) - ((dM la lb lc ld ra rb rc rd) * e00)) (qu bn30) (qu bn31) (qu bn32))) (by exact hzs)) <| zZ) ?_
  refine kG ?_
  refine jE <| jA <| kJ (wk (l := [(6, (.ref 1 0)), (12, (.ref 7 0)), (103, (vb false))]) (b := [(1, some y1), (7, some y4)])) ?_
  have bn33 : QL e10 78 := (jH (Eq.symm he10) (jD (k := 78) bn30 (zI (n := 39) (k := 39) bn30 bn31 bn32 (by decide) (by decide)) (by decide)))
  have bn34 : QL e11 78 := (jH (Eq.symm he11) (jD (k := 78) bn31 (zI (n := 39) (k := 39) bn30 bn31 bn32 (by decide) (by decide)) (by decide)))
  have bn35 : QL e12 78 := (jH (Eq.symm he12) (jD (k := 78) bn32 (zI (n := 39) (k := 39) bn30 bn31 bn32 (by decide) (by decide)) (by decide)))
  refine kd [] [(1, some (bx (bG (RRp.mk (kO.mk (jW.mk lx ly lz) (jU.mk la lb lc ld) lf (kP.mk lu lv)) (kO.mk (jW.mk rx ry rz) (jU.mk ra rb rc rd) rf (kP.mk ru rv)) (A3.mk (jB b0) (jB b1) (jB b2)) (A3.mk (A3.mk (jB e00) (jB e01) (jB e02)) (A3.mk (jB e10) (jB e11) (jB e12)) y6)))))] mo (wM <| wR (kF uC) <| wE (kA (by have h := q_red (((dM la lb lc ld ra rb rc rd) * e02) - ((dN la lb lc ld ra rb rc rd) * e01)) (((dN la lb lc ld ra rb rc rd) * e00) - ((dL la lb lc ld ra rb rc rd) * e02)) (((dL la lb lc ld ra rb rc rd) * e01) - ((dM la lb lc ld ra rb rc rd) * e00)) (qu bn30) (qu bn31) (qu bn32) hzs; rw [he10, he11, he12] at h; exact h)) <| wE oNc <| wE (kS eW) <| wE (uH vT 1) <| wT (kW uC) <| wZ) ?_
  refine jA ?_
  have bn36 : QL ((e01 * e12) - (e02 * e11)) 169 := (kL (k := 169) (jD (k := 84) bn28 bn35 (by decide)) (jD (k := 84) bn29 bn34 (by decide)) (by decide))
  have bn37 : QL ((e02 * e10) - (e00 * e12)) 169 := (kL (k := 169) (jD (k := 84) bn29 bn33 (by decide)) (jD (k := 84) bn27 bn35 (by decide)) (by decide))
  have bn38 : QL ((e00 * e11) - (e01 * e10)) 169 := (kL (k := 169) (jD (k := 84) bn27 bn34 (by decide)) (jD (k := 84) bn28 bn33 (by decide)) (by decide))
  have bn39 : QL e20 338 := (jH (Eq.symm he20) (jD (k := 338) bn36 (zI (n := 169) (k := 169) bn36 bn37 bn38 (by decide) (by decide)) (by decide)))
  have bn40 : QL e21 338 := (jH (Eq.symm he21) (jD (k := 338) bn37 (zI (n := 169) (k := 169) bn36 bn37 bn38 (by decide) (by decide)) (by decide)))
  have bn41 : QL e22 338 := (jH (Eq.symm he22) (jD (k := 338) bn38 (zI (n := 169) (k := 169) bn36 bn37 bn38 (by decide) (by decide)) (by decide)))
  refine kd [] [(1, some (bx y3))] mo (wM <| wM <| wE oNc <| wE (kS eW) <| wE (uH vT 0) <| wR (kF uC) <| wM <| wE oNc <| wE (kS eW) <| wE (uH vT 1) <| wR (kF uC) <| wE (kA (q_cross e00 e01 e02 (qu bn27) (qu bn28) (qu bn29) e10 e11 e12 (qu bn33) (qu bn34) (qu bn35))) <| wE (kA (by have h := q_red ((e01 * e12) - (e02 * e11)) ((e02 * e10) - (e00 * e12)) ((e00 * e11) - (e01 * e10)) (qu bn36) (qu bn37) (qu bn38) hzt; rw [he20, he21, he22] at h; exact h)) <| wE oNc <| wE (kS eW) <| wE (uH vT 2) <| wT (kW uC) <| wZ) ?_
  refine jA <| kJ (iI (t := 6) (k := 1) (o := 0) (T := 1000001) (cs := (qE.cells y3)) rfl rfl) ?_
  refine kx [(2, (.d (.cptr 1000001 (qE.cells y3) 0))), (3, (kD 0))] [] (zM <| zM <| zM <| zZ) ?_
  refine jJ ⟨_, (.tmp (d := (.cptr 1000001 (qE.cells (bG (RRp.mk (kO.mk (jW.mk lx ly lz) (jU.mk la lb lc ld) lf (kP.mk lu lv)) (kO.mk (jW.mk rx ry rz) (jU.mk ra rb rc rd) rf (kP.mk ru rv)) (A3.mk (jB b0) (jB b1) (jB b2)) (A3.mk (A3.mk (jB e00) (jB e01) (jB e02)) (A3.mk (jB e10) (jB e11) (jB e12)) (A3.mk (jB e20) (jB e21) (jB e22)))))) 0)) rfl (.tmp (d := (.val (.int .i64 (((0 : Nat) : Int))))) rfl .nil)), ?_⟩
  rfl
theorem qs_preE1 (lx ly lz la lb lc ld lf lu lv rx ry rz ra rb rc rd rf ru rv : Int) (c : Nat) (hc : stn2 (uB lx ly lz lu lv lf la lb lc ld) (uB rx ry rz ru rv rf ra rb rc rd) = c) (hc0 : c ≠ 0) : kH Tryz.prog 14 [(qJ (kX.mk (kO.mk (jW.mk lx ly lz) (jU.mk la lb lc ld) lf (kP.mk lu lv)) (kO.mk (jW.mk rx ry rz) (jU.mk ra rb rc rd) rf (kP.mk ru rv))))] (.tup [(gJ (RLp.mk (kX.mk (kO.mk (jW.mk lx ly lz) (jU.mk la lb lc ld) lf (kP.mk lu lv)) (kO.mk (jW.mk rx ry rz) (jU.mk ra rb rc rd) rf (kP.mk ru rv))) (A3.mk (kC.mk (jK.mk false []) (jK.mk false [])) (kC.mk (jK.mk false []) (jK.mk false [])) (kC.mk (jK.mk false []) (jK.mk false []))) (A3.mk (A3.mk (kC.mk (jK.mk false []) (jK.mk false [])) (kC.mk (jK.mk false []) (jK.mk false [])) (kC.mk (jK.mk false []) (jK.mk false []))) (A3.mk (kC.mk (jK.mk false []) (jK.mk false [])) (kC.mk (jK.mk false []) (jK.mk false [])) (kC.mk (jK.mk false []) (jK.mk false []))) (A3.mk (kC.mk (jK.mk false []) (jK.mk false [])) (kC.mk (jK.mk false []) (jK.mk false [])) (kC.mk (jK.mk false []) (jK.mk false [])))))), (.val (.int .i64 (((c : Nat) : Int))))]) := by
 let y4 := (A3.mk (kC.mk (jK.mk false []) (jK.mk false [])) (kC.mk (jK.mk false []) (jK.mk false [])) (kC.mk (jK.mk false []) (jK.mk false [])))
 let y3 := (qJ (kX.mk (kO.mk (jW.mk lx ly lz) (jU.mk la lb lc ld) lf (kP.mk lu lv)) (kO.mk (jW.mk rx ry rz) (jU.mk ra rb rc rd) rf (kP.mk ru rv))))
 let y2 := (A3.mk y4 y4 y4)
 let y1 := (bx (gJ (RLp.mk (kX.mk (kO.mk (jW.mk lx ly lz) (jU.mk la lb lc ld) lf (kP.mk lu lv)) (kO.mk (jW.mk rx ry rz) (jU.mk ra rb rc rd) rf (kP.mk ru rv))) y4 y2)))
 refine jP Tryz.func14 rfl cb14 rfl ?_
 show uK _ _ _ _ ⟨[(0, (.d y3))], []⟩
 refine jA <| kx [(1, (.ref 0 0)), (2, (.ref 1 0))] [(0, some (bx y3)), (1, some (bx (gJ (RLp.mk (kX.mk (kO.mk (jW.mk 0 0 0) (jU.mk 0 0 0 0) 0 (kP.mk 0 0)) (kO.mk (jW.mk 0 0 0) (jU.mk 0 0 0 0) 0 (kP.mk 0 0))) y4 y2))))] (zN (vS 0) <| zN (qW 1 ze47 zo47) <| zM <| zZ) ?_
 refine jA <| kx [(4, (.ref 2 0))] [(2, some y1)] (zR (kF aJ) <| zE (oBd pl47 ze47 zo47) <| zN (qW 2 ze47 zo47) <| zT (kW eO) <| zZ) ?_
 refine jA <| jA <| kx [(19, (vl 29 10 vL [(kO.mk (jW.mk lx ly lz) (jU.mk la lb lc ld) lf (kP.mk lu lv)), (kO.mk (jW.mk rx ry rz) (jU.mk ra rb rc rd) rf (kP.mk ru rv))])), (20, (kD 2)), (21, (kD 0))] [] (zE (kS yI) <| zR (kF xN) <| zE (kS yJ) <| zR (kF xN) <| zE (nO el140 ze29 zo29) <| zE (yK el140 2) <| zM <| zZ) ?_
 refine jF <| kN 20 ?_
 refine kU <| jA <| kx [(22, (vb true))] [] (zE (qL true qI) <| zZ) ?_
 refine jA <| jS ?_
 refine jE <| jA <| jF <| jA <| kx [(6, (.ref 3 0))] [(3, some (bx (vL (kO.mk (jW.mk lx ly lz) (jU.mk la lb lc ld) lf (kP.mk lu lv)))))] (zE (vM el140 0) <| zE (nL xN) <| zN (qW 3 ze29 zo29) <| zT (kW xN) <| zZ) ?_
 refine jA <| kx [(7, (kD (uB lx ly lz lu lv lf la lb lc ld)))] [] (zR (kF xN) <| zE (kA (qs_stn lx ly lz la lb lc ld lf lu lv)) <| zM <| zZ) ?_
 refine jA <| kx [(28, (vb ((((uB lx ly lz lu lv lf la lb lc ld) : Nat) : Int) != ((0 : Nat) : Int))))] [] (zM <| zE mE <| zZ) ?_
 refine jV rfl (fun h1 => ?_) (fun h1 => ?_)
 ·replace h1 := bne_iff_ne.1 h1
  refine jA <| kx [(3, (kD (uB lx ly lz lu lv lf la lb lc ld)))] [(1, some y1)] (zR (kF eO) <| zM <| zT (kW eO) <| zM <| zZ) ?_
  refine jJ ⟨_, (qC (cs := (bx (gJ (RLp.mk (kX.mk (kO.mk (jW.mk lx ly lz) (jU.mk la lb lc ld) lf (kP.mk lu lv)) (kO.mk (jW.mk rx ry rz) (jU.mk ra rb rc rd) rf (kP.mk ru rv))) (A3.mk (kC.mk (jK.mk false []) (jK.mk false [])) (kC.mk (jK.mk false []) (jK.mk false [])) (kC.mk (jK.mk false []) (jK.mk false []))) (A3.mk (A3.mk (kC.mk (jK.mk false []) (jK.mk false [])) (kC.mk (jK.mk false []) (jK.mk false [])) (kC.mk (jK.mk false []) (jK.mk false []))) (A3.mk (kC.mk (jK.mk false []) (jK.mk false [])) (kC.mk (jK.mk false []) (jK.mk false [])) (kC.mk (jK.mk false []) (jK.mk false []))) (A3.mk (kC.mk (jK.mk false []) (jK.mk false [])) (kC.mk (jK.mk false []) (jK.mk false [])) (kC.mk (jK.mk false []) (jK.mk false [])))))))) (d := (gJ (RLp.mk (kX.mk (kO.mk (jW.mk lx ly lz) (jU.mk la lb lc ld) lf (kP.mk lu lv)) (kO.mk (jW.mk rx ry rz) (jU.mk ra rb rc rd) rf (kP.mk ru rv))) (A3.mk (kC.mk (jK.mk false []) (jK.mk false [])) (kC.mk (jK.mk false []) (jK.mk false [])) (kC.mk (jK.mk false []) (jK.mk false []))) (A3.mk (A3.mk (kC.mk (jK.mk false []) (jK.mk false [])) (kC.mk (jK.mk false []) (jK.mk false [])) (kC.mk (jK.mk false []) (jK.mk false []))) (A3.mk (kC.mk (jK.mk false []) (jK.mk false [])) (kC.mk (jK.mk false []) (jK.mk false [])) (kC.mk (jK.mk false []) (jK.mk false []))) (A3.mk (kC.mk (jK.mk false []) (jK.mk false [])) (kC.mk (jK.mk false []) (jK.mk false [])) (kC.mk (jK.mk false []) (jK.mk false []))))))) rfl rfl eO rfl rfl (.tmp (d := (.val (.int .i64 ((((uB lx ly lz lu lv lf la lb lc ld) : Nat) : Int))))) rfl .nil)), ?_⟩
  rw [stn2_l h1 hc]; rfl
 ·replace h1 := bne_eq_false_iff_eq.1 h1
  refine jE <| kx [(21, (kD 1))] [] (zE (qP 1 (hr := by decide)) <| zM <| zZ) ?_
  refine jI (jT.refl _) ?_
  refine jA <| kx [(22, (vb true))] [] (zE (qL true qI) <| zZ) ?_
  refine jA <| jS ?_
  refine jE <| jA <| jF <| jA <| kx [(6, (.ref 4 0))] [(4, some (bx (vL (kO.mk (jW.mk rx ry rz) (jU.mk ra rb rc rd) rf (kP.mk ru rv)))))] (zE (vM el140 1) <| zE (nL xN) <| zN (qW 4 ze29 zo29) <| zT (kW xN) <| zZ) ?_
  refine jA <| kx [(7, (kD (uB rx ry rz ru rv rf ra rb rc rd)))] [] (zR (kF xN) <| zE (kA (qs_stn rx ry rz ra rb rc rd rf ru rv)) <| zM <| zZ) ?_
  refine jA <| kx [(28, (vb ((((uB rx ry rz ru rv rf ra rb rc rd) : Nat) : Int) != ((0 : Nat) : Int))))] [] (zM <| zE mE <| zZ) ?_
  refine jV rfl (fun h2 => ?_) (fun h2 => ?_)
  ·replace h2 := bne_iff_ne.1 h2
   refine jA <| kx [(3, (kD (uB rx ry rz ru rv rf ra rb rc rd)))] [(1, some y1)] (zR (kF eO) <| zM <| zT (kW eO) <| zM <| zZ) ?_
   refine jJ ⟨_, (qC (cs := (bx (gJ (RLp.mk (kX.mk (kO.mk (jW.mk lx ly lz) (jU.mk la lb lc ld) lf (kP.mk lu lv)) (kO.mk (jW.mk rx ry rz) (jU.mk ra rb rc rd) rf (kP.mk ru rv))) (A3.mk (kC.mk (jK.mk false []) (jK.mk false [])) (kC.mk (jK.mk false []) (jK.mk false [])) (kC.mk (jK.mk false []) (jK.mk false []))) (A3.mk (A3.mk (kC.mk (jK.mk false []) (jK.mk false [])) (kC.mk (jK.mk false []) (jK.mk false [])) (kC.mk (jK.mk false []) (jK.mk false []))) (A3.mk (kC.mk (jK.mk false []) (jK.mk false [])) (kC.mk (jK.mk false []) (jK.mk false [])) (kC.mk (jK.mk false []) (jK.mk false []))) (A3.mk (kC.mk (jK.mk false []) (jK.mk false [])) (kC.mk (jK.mk false []) (jK.mk false [])) (kC.mk (jK.mk false []) (jK.mk false [])))))))) (d := (gJ (RLp.mk (kX.mk (kO.mk (jW.mk lx ly lz) (jU.mk la lb lc ld) lf (kP.mk lu lv)) (kO.mk (jW.mk rx ry rz) (jU.mk ra rb rc rd) rf (kP.mk ru rv))) (A3.mk (kC.mk (jK.mk false []) (jK.mk false [])) (kC.mk (jK.mk false []) (jK.mk false [])) (kC.mk (jK.mk false []) (jK.mk false []))) (A3.mk (A3.mk (kC.mk (jK.mk false []) (jK.mk false [])) (kC.mk (jK.mk false []) (jK.mk false [])) (kC.mk (jK.mk false []) (jK.mk false []))) (A3.mk (kC.mk (jK.mk false []) (jK.mk false [])) (kC.mk (jK.mk false []) (jK.mk false [])) (kC.mk (jK.mk false []) (jK.mk false []))) (A3.mk (kC.mk (jK.mk false []) (jK.mk false [])) (kC.mk (jK.mk false []) (jK.mk false [])) (kC.mk (jK.mk false []) (jK.mk false []))))))) rfl rfl eO rfl rfl (.tmp (d := (.val (.int .i64 ((((uB rx ry rz ru rv rf ra rb rc rd) : Nat) : Int))))) rfl .nil)), ?_⟩
   rw [stn2_r h1 hc]; rfl
  ·replace h2 := bne_eq_false_iff_eq.1 h2
   exact absurd (stn2_0 (by simpa using h1) (by simpa using h2) hc) hc0
theorem qs_preE2 (lx ly lz la lb lc ld lf lu lv rx ry rz ra rb rc rd rf ru rv : Int) (b0 b1 b2 : Rat) (uM : QL b0 3) (uN : QL b1 3) (uO : QL b2 3) (hl : uB lx ly lz lu lv lf la lb lc ld = 0) (hr : uB rx ry rz ru rv rf ra rb rc rd = 0) (hb0 : ((rx - lx : Int) : Rat) = b0) (hb1 : ((ry - ly : Int) : Rat) = b1) (hb2 : ((rz - lz : Int) : Rat) = b2) (hup : upV la lb lc ld ra rb rc rd b0 b1 b2 = true) : kH Tryz.prog 14 [(qJ (kX.mk (kO.mk (jW.mk lx ly lz) (jU.mk la lb lc ld) lf (kP.mk lu lv)) (kO.mk (jW.mk rx ry rz) (jU.mk ra rb rc rd) rf (kP.mk ru rv))))] (.tup [(gJ (RLp.mk (kX.mk (kO.mk (jW.mk lx ly lz) (jU.mk la lb lc ld) lf (kP.mk lu lv)) (kO.mk (jW.mk rx ry rz) (jU.mk ra rb rc rd) rf (kP.mk ru rv))) (A3.mk (jB b0) (jB b1) (jB b2)) (A3.mk (A3.mk (kC.mk (jK.mk false []) (jK.mk false [])) (kC.mk (jK.mk false []) (jK.mk false [])) (kC.mk (jK.mk false []) (jK.mk false []))) (A3.mk (kC.mk (jK.mk false []) (jK.mk false [])) (kC.mk (jK.mk false []) (jK.mk false [])) (kC.mk (jK.mk false []) (jK.mk false []))) (A3.mk (kC.mk (jK.mk false []) (jK.mk false [])) (kC.mk (jK.mk false []) (jK.mk false [])) (kC.mk (jK.mk false []) (jK.mk false [])))))), (.val (.int .i64 (13)))]) := by
 have hbl := xD hl
 have hbr := xD hr
 obtain ⟨hlx, hly, hlz, hlu, hlv, hlf, hlq⟩ := hbl
 obtain ⟨hrx, hry, hrz, hru, hrv, hrf, hrq⟩ := hbr
 obtain ⟨hla, hlb, hlc, hld, -⟩ := xA hlq
 obtain ⟨hra, hrb, hrc, hrd, -⟩ := xA hrq
 have hnl := nU hla hlb hlc hld
 have hnr := nU hra hrb hrc hrd
 let y7 := (A3.mk (kC.mk (jK.mk false []) (jK.mk false [])) (kC.mk (jK.mk false []) (jK.mk false [])) (kC.mk (jK.mk false []) (jK.mk false [])))
 let y6 := (qJ (kX.mk (kO.mk (jW.mk lx ly lz) (jU.mk la lb lc ld) lf (kP.mk lu lv)) (kO.mk (jW.mk rx ry rz) (jU.mk ra rb rc rd) rf (kP.mk ru rv))))
 let y5 := (bx y6)
 let y4 := (A3.mk y7 y7 y7)
 let y3 := (bx (gJ (RLp.mk (kX.mk (kO.mk (jW.mk lx ly lz) (jU.mk la lb lc ld) lf (kP.mk lu lv)) (kO.mk (jW.mk rx ry rz) (jU.mk ra rb rc rd) rf (kP.mk ru rv))) (A3.mk (jB b0) (jB b1) (jB b2)) y4)))
 let y2 := (bx (gJ (RLp.mk (kX.mk (kO.mk (jW.mk 0 0 0) (jU.mk 0 0 0 0) 0 (kP.mk 0 0)) (kO.mk (jW.mk 0 0 0) (jU.mk 0 0 0 0) 0 (kP.mk 0 0))) y7 y4)))
 let y1 := (bx (gJ (RLp.mk (kX.mk (kO.mk (jW.mk lx ly lz) (jU.mk la lb lc ld) lf (kP.mk lu lv)) (kO.mk (jW.mk rx ry rz) (jU.mk ra rb rc rd) rf (kP.mk ru rv))) y7 y4)))
 refine jP Tryz.func14 rfl cb14 rfl ?_
 show uK _ _ _ _ ⟨[(0, (.d y6))], []⟩
 refine jA <| kx [(1, (.ref 0 0)), (2, (.ref 1 0))] [(0, some y5), (1, some y2)] (zN (vS 0) <| zN (qW 1 ze47 zo47) <| zM <| zZ) ?_
 refine jA <| kx [(4, (.ref 2 0))] [(2, some y1)] (zR (kF aJ) <| zE (oBd pl47 ze47 zo47) <| zN (qW 2 ze47 zo47) <| zT (kW eO) <| zZ) ?_
 refine jA <| jA <| kx [(19, (vl 29 10 vL [(kO.mk (jW.mk lx ly lz) (jU.mk la lb lc ld) lf (kP.mk lu lv)), (kO.mk (jW.mk rx ry rz) (jU.mk ra rb rc rd) rf (kP.mk ru rv))])), (20, (kD 2)), (21, (kD 0))] [] (zE (kS yI) <| zR (kF xN) <| zE (kS yJ) <| zR (kF xN) <| zE (nO el140 ze29 zo29) <| zE (yK el140 2) <| zM <| zZ) ?_
 refine jF <| kN 20 ?_
 refine kU <| jA <| kx [(22, (vb true))] [] (zE (qL true qI) <| zZ) ?_
 refine jA <| jS ?_
 refine jE <| jA <| jF <| jA <| kx [(6, (.ref 3 0))] [(3, some (bx (vL (kO.mk (jW.mk lx ly lz) (jU.mk la lb lc ld) lf (kP.mk lu lv)))))] (zE (vM el140 0) <| zE (nL xN) <| zN (qW 3 ze29 zo29) <| zT (kW xN) <| zZ) ?_
 refine jA <| kx [(7, (kD (uB lx ly lz lu lv lf la lb lc ld)))] [] (zR (kF xN) <| zE (kA (qs_stn lx ly lz la lb lc ld lf lu lv)) <| zM <| zZ) ?_
 refine jA <| kx [(28, (vb false))] [] (zM <| zE (qL false mE (by exact bne_eq_false_iff_eq.2 (by rw [show (uB lx ly lz lu lv lf la lb lc ld) = 0 from hl]; rfl))) <| zZ) ?_
 refine kG ?_
 refine jE <| kx [(21, (kD 1))] [] (zE (qP 1 (hr := by decide)) <| zM <| zZ) ?_
 refine jI (jT.refl _) ?_
 refine jA <| kx [(22, (vb true))] [] (zE (qL true qI) <| zZ) ?_
 refine jA <| jS ?_
 refine jE <| jA <| jF <| jA <| kx [(6, (.ref 4 0))] [(4, some (bx (vL (kO.mk (jW.mk rx ry rz) (jU.mk ra rb rc rd) rf (kP.mk ru rv)))))] (zE (vM el140 1) <| zE (nL xN) <| zN (qW 4 ze29 zo29) <| zT (kW xN) <| zZ) ?_
 refine jA <| kx [(7, (kD (uB rx ry rz ru rv rf ra rb rc rd)))] [] (zR (kF xN) <| zE (kA (qs_stn rx ry rz ra rb rc rd rf ru rv)) <| zM <| zZ) ?_
 refine jA <| kx [(28, (vb false))] [] (zM <| zE (qL false mE (by exact bne_eq_false_iff_eq.2 (by rw [show (uB rx ry rz ru rv rf ra rb rc rd) = 0 from hr]; rfl))) <| zZ) ?_
 refine kG ?_
 refine jE <| kx [(21, (kD 2))] [] (zE (qP 2 (hr := by decide)) <| zM <| zZ) ?_
 refine jI (jT.refl _) ?_
 refine jA <| kx [(22, (vb false))] [] (zE (qL false qI) <| zZ) ?_
 refine jA <| kG ?_
 refine kB <| jA <| kJ (wk (l := [(1, (.ref 0 0)), (2, (.ref 1 0)), (4, (.ref 2 0)), (19, (vl 29 10 vL [(kO.mk (jW.mk lx ly lz) (jU.mk la lb lc ld) lf (kP.mk lu lv)), (kO.mk (jW.mk rx ry rz) (jU.mk ra rb rc rd) rf (kP.mk ru rv))])), (20, (kD 2)), (21, (kD 2)), (22, (vb false))]) (b := [(0, some y5), (1, some y2), (2, some y1)])) ?_
 refine kd [(8, (.ref 5 0)), (9, (.ref 6 0))] [(5, some (bx (vL (kO.mk (jW.mk lx ly lz) (jU.mk la lb lc ld) lf (kP.mk lu lv))))), (6, some (bx (vL (kO.mk (jW.mk rx ry rz) (jU.mk ra rb rc rd) rf (kP.mk ru rv)))))] mo (wE (kS yI) <| wR (kF xN) <| wE (kS yJ) <| wR (kF xN) <| wN (qW 5 ze29 zo29) <| wN (qW 6 ze29 zo29) <| wT (kW xN) <| wT (kW xN) <| wZ) ?_
 refine jA ?_
 have bn1 : QL b0 3 := (jH (Eq.symm hb0) (qi (rx - lx)))
 have bn2 : QL b1 3 := (jH (Eq.symm hb1) (qi (ry - ly)))
 have bn3 : QL b2 3 := (jH (Eq.symm hb2) (qi (rz - lz)))
 refine kx [] [(2, some y3)] (zE (kS yC) <| zE (kS yH) <| zR (uF uQ) <| zE (kS yC) <| zE (kS yH) <| zR (uF uQ) <| zE (fT (rx - lx) (hr := by exact (qK rfl (by simp only [xC]; omega) (by simp only [xF]; omega)))) <| zE (kS yC) <| zE (kS yT) <| zR (uF uQ) <| zE (kS yC) <| zE (kS yT) <| zR (uF uQ) <| zE (fT (ry - ly) (hr := by exact (qK rfl (by simp only [xC]; omega) (by simp only [xF]; omega)))) <| zE (kS yC) <| zE (kS yV) <| zR (uF uQ) <| zE (kS yC) <| zE (kS yV) <| zR (uF uQ) <| zE (fT (rz - lz) (hr := by exact (qK rfl (by simp only [xC]; omega) (by simp only [xF]; omega)))) <| zE (kA (by have h := cE (rx - lx) (by omega) (by omega) (ry - ly) (by omega) (by omega) (rz - lz) (by omega) (by omega); rw [hb0, hb1, hb2] at h; exact h)) <| zE (kS fo47_1) <| zT (kW vX) <| zZ) ?_
 refine jA ?_
 have bn4 : QL ((0 : Int) : Rat) 3 := (qi 0)
 have bn5 : QL ((1 : Int) : Rat) 3 := (qi 1)
 refine kx [(10, (.ref 7 0))] [(7, some (bx (jR (A3.mk (jB ((0 : Int) : Rat)) (jB ((0 : Int) : Rat)) (jB ((1 : Int) : Rat))))))] (zE (kA (cE ((0 : Nat) : Int) (by omega) (by omega) ((0 : Nat) : Int) (by omega) (by omega) ((1 : Nat) : Int) (by omega) (by omega))) <| zN (qW 7 aM aO) <| zT (kW vX) <| zZ) ?_
 refine jA ?_
 have bn6 : QL (uY la lb lc ld) 3 := (gC)
 have bn7 : QL (vA la lb lc ld) 3 := (gG)
 have bn8 : QL (qN la lb lc ld) 3 := (yO)
 have bn9 : QL (vD la lb lc ld) 3 := (gB)
 have bn10 : QL (vC la lb lc ld) 3 := (gE)
 have bn11 : QL (qO la lb lc ld) 3 := (yN)
 have bn12 : QL (vH la lb lc ld) 3 := (gF)
 have bn13 : QL (vG la lb lc ld) 3 := (gD)
 have bn14 : QL (qQ la lb lc ld) 3 := (yL)
 have bn15 : QL (qN la lb lc ld) 20 := (jH (Eq.symm (vZ (uY la lb lc ld) (vA la lb lc ld) (qN la lb lc ld))) (jL (n := 3) (k := 20) bn6 bn7 bn8 bn4 bn4 bn5 (by decide)))
 have bn16 : QL (qO la lb lc ld) 20 := (jH (Eq.symm (vZ (vD la lb lc ld) (vC la lb lc ld) (qO la lb lc ld))) (jL (n := 3) (k := 20) bn9 bn10 bn11 bn4 bn4 bn5 (by decide)))
 have bn17 : QL (qQ la lb lc ld) 20 := (jH (Eq.symm (vZ (vH la lb lc ld) (vG la lb lc ld) (qQ la lb lc ld))) (jL (n := 3) (k := 20) bn12 bn13 bn14 bn4 bn4 bn5 (by decide)))
 have bn18 : QL (N4 ra rb rc rd) 3 := (kN4)
 have bn19 : QL (uY ra rb rc rd) 3 := (gC)
 have bn20 : QL (vA ra rb rc rd) 3 := (gG)
 have bn21 : QL (qN ra rb rc rd) 3 := (yO)
 have bn22 : QL (vD ra rb rc rd) 3 := (gB)
 have bn23 : QL (vC ra rb rc rd) 3 := (gE)
 have bn24 : QL (qO ra rb rc rd) 3 := (yN)
 have bn25 : QL (vH ra rb rc rd) 3 := (gF)
 have bn26 : QL (vG ra rb rc rd) 3 := (gD)
 have bn27 : QL (qQ ra rb rc rd) 3 := (yL)
 have bn28 : QL (qN ra rb rc rd) 20 := (jH (Eq.symm (vZ (uY ra rb rc rd) (vA ra rb rc rd) (qN ra rb rc rd))) (jL (n := 3) (k := 20) bn19 bn20 bn21 bn4 bn4 bn5 (by decide)))
 have bn29 : QL (qO ra rb rc rd) 20 := (jH (Eq.symm (vZ (vD ra rb rc rd) (vC ra rb rc rd) (qO ra rb rc rd))) (jL (n := 3) (k := 20) bn22 bn23 bn24 bn4 bn4 bn5 (by decide)))
 have bn30 : QL (qQ ra rb rc rd) 20 := (jH (Eq.symm (vZ (vH ra rb rc rd) (vG ra rb rc rd) (qQ ra rb rc rd))) (jL (n := 3) (k := 20) bn25 bn26 bn27 bn4 bn4 bn5 (by decide)))
 have bn31 : QL (N4 la lb lc ld) 3 := (kN4)
 have bn32 : QL (dL la lb lc ld ra rb rc rd) 47 := (jH (Eq.symm (dq0_eq la lb lc ld ra rb rc rd)) (kE (k := 47) (jD (k := 23) bn15 bn18 (by decide)) (jD (k := 23) bn28 bn31 (by decide)) (by decide)))
 have bn33 : QL (dM la lb lc ld ra rb rc rd) 47 := (jH (Eq.symm (dq1_eq la lb lc ld ra rb rc rd)) (kE (k := 47) (jD (k := 23) bn16 bn18 (by decide)) (jD (k := 23) bn29 bn31 (by decide)) (by decide)))
 have bn34 : QL (dN la lb lc ld ra rb rc rd) 47 := (jH (Eq.symm (dq2_eq la lb lc ld ra rb rc rd)) (kE (k := 47) (jD (k := 23) bn17 bn18 (by decide)) (jD (k := 23) bn30 bn31 (by decide)) (by decide)))
 refine kd [(11, (.ref 8 0))] [(8, some (bx (jR (A3.mk (jB (dL la lb lc ld ra rb rc rd)) (jB (dM la lb lc ld ra rb rc rd)) (jB (dN la lb lc ld ra rb rc rd))))))] mo (wE (kS yW) <| wR (kF yF) <| wE (kA (qs_mat la lb lc ld (by omega) (by omega) (by omega) (by omega) hlq)) <| wR (kF vX) <| wE (kA (by have h := iF (uY la lb lc ld) (vA la lb lc ld) (qN la lb lc ld) (vD la lb lc ld) (vC la lb lc ld) (qO la lb lc ld) (vH la lb lc ld) (vG la lb lc ld) (qQ la lb lc ld) (qu bn6) (qu bn7) (qu bn8) (qu bn9) (qu bn10) (qu bn11) (qu bn12) (qu bn13) (qu bn14) ((0 : Int) : Rat) ((0 : Int) : Rat) ((1 : Int) : Rat) (qu bn4) (qu bn4) (qu bn5); rw [(vZ (uY la lb lc ld) (vA la lb lc ld) (qN la lb lc ld)), (vZ (vD la lb lc ld) (vC la lb lc ld) (qO la lb lc ld)), (vZ (vH la lb lc ld) (vG la lb lc ld) (qQ la lb lc ld))] at h; exact h)) <| wE (kS yW) <| wR (kF yF) <| wE (kA (iX ra rb rc rd (by omega) (by omega) (by omega) (by omega))) <| wE (kA (nQ (qN la lb lc ld) (qO la lb lc ld) (qQ la lb lc ld) (qu bn15) (qu bn16) (qu bn17) (N4 ra rb rc rd) (qu bn18))) <| wE (kS yW) <| wR (kF yF) <| wE (kA (qs_mat ra rb rc rd (by omega) (by omega) (by omega) (by omega) hrq)) <| wR (kF vX) <| wE (kA (by have h := iF (uY ra rb rc rd) (vA ra rb rc rd) (qN ra rb rc rd) (vD ra rb rc rd) (vC ra rb rc rd) (qO ra rb rc rd) (vH ra rb rc rd) (vG ra rb rc rd) (qQ ra rb rc rd) (qu bn19) (qu bn20) (qu bn21) (qu bn22) (qu bn23) (qu bn24) (qu bn25) (qu bn26) (qu bn27) ((0 : Int) : Rat) ((0 : Int) : Rat) ((1 : Int) : Rat) (qu bn4) (qu bn4) (qu bn5); rw [(vZ (uY ra rb rc rd) (vA ra rb rc rd) (qN ra rb rc rd)), (vZ (vD ra rb rc rd) (vC ra rb rc rd) (qO ra rb rc rd)), (vZ (vH ra rb rc rd) (vG ra rb rc rd) (qQ ra rb rc rd))] at h; exact h)) <| wE (kS yW) <| wR (kF yF) <| wE (kA (iX la lb lc ld (by omega) (by omega) (by omega) (by omega))) <| wE (kA (nQ (qN ra rb rc rd) (qO ra rb rc rd) (qQ ra rb rc rd) (qu bn28) (qu bn29) (qu bn30) (N4 la lb lc ld) (qu bn31))) <| wE (kA (by have h := qs_sum ((qN la lb lc ld) * (N4 ra rb rc rd)) ((qO la lb lc ld) * (N4 ra rb rc rd)) ((qQ la lb lc ld) * (N4 ra rb rc rd)) (uR (jD (k := 23) bn15 bn18 (by decide)) (by decide)) (uR (jD (k := 23) bn16 bn18 (by decide)) (by decide)) (uR (jD (k := 23) bn17 bn18 (by decide)) (by decide)) ((qN ra rb rc rd) * (N4 la lb lc ld)) ((qO ra rb rc rd) * (N4 la lb lc ld)) ((qQ ra rb rc rd) * (N4 la lb lc ld)) (uR (jD (k := 23) bn28 bn31 (by decide)) (by decide)) (uR (jD (k := 23) bn29 bn31 (by decide)) (by decide)) (uR (jD (k := 23) bn30 bn31 (by decide)) (by decide)); rw [(dq0_eq la lb lc ld ra rb rc rd), (dq1_eq la lb lc ld ra rb rc rd), (dq2_eq la lb lc ld ra rb rc rd)] at h; exact h)) <| wN (qW 8 aM aO) <| wT (kW vX) <| wZ) ?_
 refine jA ?_
 have bn35 : QL (((dM la lb lc ld ra rb rc rd) * b2) - ((dN la lb lc ld ra rb rc rd) * b1)) 101 := (kL (k := 101) (jD (k := 50) bn33 bn3 (by decide)) (jD (k := 50) bn34 bn2 (by decide)) (by decide))
 have bn36 : QL (((dN la lb lc ld ra rb rc rd) * b0) - ((dL la lb lc ld ra rb rc rd) * b2)) 101 := (kL (k := 101) (jD (k := 50) bn34 bn1 (by decide)) (jD (k := 50) bn32 bn3 (by decide)) (by decide))
 have bn37 : QL (((dL la lb lc ld ra rb rc rd) * b1) - ((dM la lb lc ld ra rb rc rd) * b0)) 101 := (kL (k := 101) (jD (k := 50) bn32 bn2 (by decide)) (jD (k := 50) bn33 bn1 (by decide)) (by decide))
 refine kx [(12, (.ref 9 0))] [(9, some (bx (jR (A3.mk (jB (((dM la lb lc ld ra rb rc rd) * b2) - ((dN la lb lc ld ra rb rc rd) * b1))) (jB (((dN la lb lc ld ra rb rc rd) * b0) - ((dL la lb lc ld ra rb rc rd) * b2))) (jB (((dL la lb lc ld ra rb rc rd) * b1) - ((dM la lb lc ld ra rb rc rd) * b0)))))))] (zR (kF vX) <| zE (kS fo47_1) <| zR (kF vX) <| zE (kA (aB (dL la lb lc ld ra rb rc rd) (dM la lb lc ld ra rb rc rd) (dN la lb lc ld ra rb rc rd) (qu bn32) (qu bn33) (qu bn34) b0 b1 b2 (qu bn1) (qu bn2) (qu bn3))) <| zN (qW 9 aM aO) <| zT (kW vX) <| zZ) ?_
 refine jA <| jA <| kx [(84, (vb true))] [] (zR (kF vX) <| zE (qL true (kA (qs_zero (((dM la lb lc ld ra rb rc rd) * b2) - ((dN la lb lc ld ra rb rc rd) * b1)) (((dN la lb lc ld ra rb rc rd) * b0) - ((dL la lb lc ld ra rb rc rd) * b2)) (((dL la lb lc ld ra rb rc rd) * b1) - ((dM la lb lc ld ra rb rc rd) * b0)) (qu bn35) (qu bn36) (qu bn37))) (by exact hup)) <| zZ) ?_
 refine jS ?_
 refine jA <| kx [(3, (kD 13))] [(1, some y3)] (zR (kF eO) <| zT (kW eO) <| zM <| zZ) ?_
 refine jJ ⟨_, (qC (cs := (bx (gJ (RLp.mk (kX.mk (kO.mk (jW.mk lx ly lz) (jU.mk la lb lc ld) lf (kP.mk lu lv)) (kO.mk (jW.mk rx ry rz) (jU.mk ra rb rc rd) rf (kP.mk ru rv))) (A3.mk (jB b0) (jB b1) (jB b2)) (A3.mk (A3.mk (kC.mk (jK.mk false []) (jK.mk false [])) (kC.mk (jK.mk false []) (jK.mk false [])) (kC.mk (jK.mk false []) (jK.mk false []))) (A3.mk (kC.mk (jK.mk false []) (jK.mk false [])) (kC.mk (jK.mk false []) (jK.mk false [])) (kC.mk (jK.mk false []) (jK.mk false []))) (A3.mk (kC.mk (jK.mk false []) (jK.mk false [])) (kC.mk (jK.mk false []) (jK.mk false [])) (kC.mk (jK.mk false []) (jK.mk false [])))))))) (d := (gJ (RLp.mk (kX.mk (kO.mk (jW.mk lx ly lz) (jU.mk la lb lc ld) lf (kP.mk lu lv)) (kO.mk (jW.mk rx ry rz) (jU.mk ra rb rc rd) rf (kP.mk ru rv))) (A3.mk (jB b0) (jB b1) (jB b2)) (A3.mk (A3.mk (kC.mk (jK.mk false []) (jK.mk false [])) (kC.mk (jK.mk false []) (jK.mk false [])) (kC.mk (jK.mk false []) (jK.mk false []))) (A3.mk (kC.mk (jK.mk false []) (jK.mk false [])) (kC.mk (jK.mk false []) (jK.mk false [])) (kC.mk (jK.mk false []) (jK.mk false []))) (A3.mk (kC.mk (jK.mk false []) (jK.mk false [])) (kC.mk (jK.mk false []) (jK.mk false [])) (kC.mk (jK.mk false []) (jK.mk false []))))))) rfl rfl eO rfl rfl (.tmp (d := (.val (.int .i64 (((13 : Nat) : Int))))) rfl .nil)), ?_⟩
 rfl
theorem qs_pre (lx ly lz la lb lc ld lf lu lv rx ry rz ra rb rc rd rf ru rv : Int) (b0 b1 b2 e00 e01 e02 e10 e11 e12 e20 e21 e22 : Rat) (hF : RFr lx ly lz la lb lc ld rx ry rz ra rb rc rd b0 b1 b2 e00 e01 e02 e10 e11 e12 e20 e21 e22) (uM : QL b0 3) (uN : QL b1 3) (uO : QL b2 3) (xU : QL e00 400) (xW : QL e01 400) (xS : QL e02 400) (xY : QL e10 400) (xZ : QL e11 400) (zB : QL e12 400) (xV : QL e20 400) (xR : QL e21 400) (xT : QL e22 400) (hl : uB lx ly lz lu lv lf la lb lc ld = 0) (hr : uB rx ry rz ru rv rf ra rb rc rd = 0) (hup : upV la lb lc ld ra rb rc rd b0 b1 b2 = false) : kH Tryz.prog 14 [(qJ (kX.mk (kO.mk (jW.mk lx ly lz) (jU.mk la lb lc ld) lf (kP.mk lu lv)) (kO.mk (jW.mk rx ry rz) (jU.mk ra rb rc rd) rf (kP.mk ru rv))))] (.tup [(gJ (RLp.mk (kX.mk (kO.mk (jW.mk lx ly lz) (jU.mk la lb lc ld) lf (kP.mk lu lv)) (kO.mk (jW.mk rx ry rz) (jU.mk ra rb rc rd) rf (kP.mk ru rv))) (A3.mk (jB b0) (jB b1) (jB b2)) (A3.mk (A3.mk (jB e00) (jB e01) (jB e02)) (A3.mk (jB e10) (jB e11) (jB e12)) (A3.mk (jB e20) (jB e21) (jB e22))))), (.val (.int .i64 (0)))]) := by
 have hbl := xD hl
 have hbr := xD hr
 obtain ⟨hlx, hly, hlz, hlu, hlv, hlf, hlq⟩ := hbl
 obtain ⟨hrx, hry, hrz, hru, hrv, hrf, hrq⟩ := hbr
 obtain ⟨hla, hlb, hlc, hld, -⟩ := xA hlq
 obtain ⟨hra, hrb, hrc, hrd, -⟩ := xA hrq
 have hnl := nU hla hlb hlc hld
 have hnr := nU hra hrb hrc hrd
 have hF2 := hF
 unfold RFr at hF2
 obtain ⟨hb0, hb1, hb2, he00, he01, he02, he10, he11, he12, he20, he21, he22⟩ := hF2
 have hzb := fr_zb hF hup
 have hzs := fr_zs hF hup
 have hzt := fr_zt hF hup
 let y7 := (A3.mk (kC.mk (jK.mk false []) (jK.mk false [])) (kC.mk (jK.mk false []) (jK.mk false [])) (kC.mk (jK.mk false []) (jK.mk false [])))
 let y6 := (qJ (kX.mk (kO.mk (jW.mk lx ly lz) (jU.mk la lb lc ld) lf (kP.mk lu lv)) (kO.mk (jW.mk rx ry rz) (jU.mk ra rb rc rd) rf (kP.mk ru rv))))
 let y5 := (bx y6)
 let y4 := (bx (gJ (RLp.mk (kX.mk (kO.mk (jW.mk lx ly lz) (jU.mk la lb lc ld) lf (kP.mk lu lv)) (kO.mk (jW.mk rx ry rz) (jU.mk ra rb rc rd) rf (kP.mk ru rv))) (A3.mk (jB b0) (jB b1) (jB b2)) (A3.mk (A3.mk (jB e00) (jB e01) (jB e02)) (A3.mk (jB e10) (jB e11) (jB e12)) (A3.mk (jB e20) (jB e21) (jB e22))))))
 let y3 := (A3.mk y7 y7 y7)
 let y2 := (bx (gJ (RLp.mk (kX.mk (kO.mk (jW.mk 0 0 0) (jU.mk 0 0 0 0) 0 (kP.mk 0 0)) (kO.mk (jW.mk 0 0 0) (jU.mk 0 0 0 0) 0 (kP.mk 0 0))) y7 y3)))
 let y1 := (bx (gJ (RLp.mk (kX.mk (kO.mk (jW.mk lx ly lz) (jU.mk la lb lc ld) lf (kP.mk lu lv)) (kO.mk (jW.mk rx ry rz) (jU.mk ra rb rc rd) rf (kP.mk ru rv))) y7 y3)))
 refine jP Tryz.func14 rfl cb14 rfl ?_
 show uK _ _ _ _ ⟨[(0, (.d y6))], []⟩
 refine jA <| kx [(1, (.ref 0 0)), (2, (.ref 1 0))] [(0, some y5), (1, some y2)] (zN (vS 0) <| zN (qW 1 ze47 zo47) <| zM <| zZ) ?_
 refine jA <| kx [(4, (.ref 2 0))] [(2, some y1)] (zR (kF aJ) <| zE (oBd pl47 ze47 zo47) <| zN (qW 2 ze47 zo47) <| zT (kW eO) <| zZ) ?_
 refine jA <| jA <| kx [(19, (vl 29 10 vL [(kO.mk (jW.mk lx ly lz) (jU.mk la lb lc ld) lf (kP.mk lu lv)), (kO.mk (jW.mk rx ry rz) (jU.mk ra rb rc rd) rf (kP.mk ru rv))])), (20, (kD 2)), (21, (kD 0))] [] (zE (kS yI) <| zR (kF xN) <| zE (kS yJ) <| zR (kF xN) <| zE (nO el140 ze29 zo29) <| zE (yK el140 2) <| zM <| zZ) ?_
 refine jF <| kN 20 ?_
 refine kU <| jA <| kx [(22, (vb true))] [] (zE (qL true qI) <| zZ) ?_
 refine jA <| jS ?_
 refine jE <| jA <| jF <| jA <| kx [(6, (.ref 3 0))] [(3, some (bx (vL (kO.mk (jW.mk lx ly lz) (jU.mk la lb lc ld) lf (kP.mk lu lv)))))] (zE (vM el140 0) <| zE (nL xN) <| zN (qW 3 ze29 zo29) <| zT (kW xN) <| zZ) ?_
 refine jA <| kx [(7, (kD (uB lx ly lz lu lv lf la lb lc ld)))] [] (zR (kF xN) <| zE (kA (qs_stn lx ly lz la lb lc ld lf lu lv)) <| zM <| zZ) ?_
 refine jA <| kx [(28, (vb false))] [] (zM <| zE (qL false mE (by exact bne_eq_false_iff_eq.2 (by rw [show (uB lx ly lz lu lv lf la lb lc ld) = 0 from hl]; rfl))) <| zZ) ?_
 refine kG ?_
 refine jE <| kx [(21, (kD 1))] [] (zE (qP 1 (hr := by decide)) <| zM <| zZ) ?_
 refine jI (jT.refl _) ?_
 refine jA <| kx [(22, (vb true))] [] (zE (qL true qI) <| zZ) ?_
 refine jA <| jS ?_
 refine jE <| jA <| jF <| jA <| kx [(6, (.ref 4 0))] [(4, some (bx (vL (kO.mk (jW.mk rx ry rz) (jU.mk ra rb rc rd) rf (kP.mk ru rv)))))] (zE (vM el140 1) <| zE (nL xN) <| zN (qW 4 ze29 zo29) <| zT (kW xN) <| zZ) ?_
 refine jA <| kx [(7, (kD (uB rx ry rz ru rv rf ra rb rc rd)))] [] (zR (kF xN) <| zE (kA (qs_stn rx ry rz ra rb rc rd rf ru rv)) <| zM <| zZ) ?_
 refine jA <| kx [(28, (vb false))] [] (zM <| zE (qL false mE (by exact bne_eq_false_iff_eq.2 (by rw [show (uB rx ry rz ru rv rf ra rb rc rd) = 0 from hr]; rfl))) <| zZ) ?_
 refine kG ?_
 refine jE <| kx [(21, (kD 2))] [] (zE (qP 2 (hr := by decide)) <| zM <| zZ) ?_
 refine jI (jT.refl _) ?_
 refine jA <| kx [(22, (vb false))] [] (zE (qL false qI) <| zZ) ?_
 refine jA <| kG ?_
 refine kB <| jA <| kJ (wk (l := [(1, (.ref 0 0)), (2, (.ref 1 0)), (4, (.ref 2 0)), (19, (vl 29 10 vL [(kO.mk (jW.mk lx ly lz) (jU.mk la lb lc ld) lf (kP.mk lu lv)), (kO.mk (jW.mk rx ry rz) (jU.mk ra rb rc rd) rf (kP.mk ru rv))])), (20, (kD 2)), (21, (kD 2)), (22, (vb false))]) (b := [(0, some y5), (1, some y2), (2, some y1)])) ?_
 refine kd [(8, (.ref 5 0)), (9, (.ref 6 0))] [(5, some (bx (vL (kO.mk (jW.mk lx ly lz) (jU.mk la lb lc ld) lf (kP.mk lu lv))))), (6, some (bx (vL (kO.mk (jW.mk rx ry rz) (jU.mk ra rb rc rd) rf (kP.mk ru rv)))))] mo (wE (kS yI) <| wR (kF xN) <| wE (kS yJ) <| wR (kF xN) <| wN (qW 5 ze29 zo29) <| wN (qW 6 ze29 zo29) <| wT (kW xN) <| wT (kW xN) <| wZ) ?_
 refine jA ?_
 have bn1 : QL b0 3 := (jH (Eq.symm hb0) (qi (rx - lx)))
 have bn2 : QL b1 3 := (jH (Eq.symm hb1) (qi (ry - ly)))
 have bn3 : QL b2 3 := (jH (Eq.symm hb2) (qi (rz - lz)))
 refine kx [] [(2, some (bx (gJ (RLp.mk (kX.mk (kO.mk (jW.mk lx ly lz) (jU.mk la lb lc ld) lf (kP.mk lu lv)) (kO.mk (jW.mk rx ry rz) (jU.mk ra rb rc rd) rf (kP.mk ru rv))) (A3.mk (jB b0) (jB b1) (jB b2)) y3))))] (zE (kS yC) <| zE (kS yH) <| zR (uF uQ) <| zE (kS yC) <| zE (kS yH) <| zR (uF uQ) <| zE (fT (rx - lx) (hr := by exact (qK rfl (by simp only [xC]; omega) (by simp only [xF]; omega)))) <| zE (kS yC) <| zE (kS yT) <| zR (uF uQ) <| zE (kS yC) <| zE (kS yT) <| zR (uF uQ) <| zE (fT (ry - ly) (hr := by exact (qK rfl (by simp only [xC]; omega) (by simp only [xF]; omega)))) <| zE (kS yC) <| zE (kS yV) <| zR (uF uQ) <| zE (kS yC) <| zE (kS yV) <| zR (uF uQ) <| zE (fT (rz - lz) (hr := by exact (qK rfl (by simp only [xC]; omega) (by simp only [xF]; omega)))) <| zE (kA (by have h := cE (rx - lx) (by omega) (by omega) (ry - ly) (by omega) (by omega) (rz - lz) (by omega) (by omega); rw [hb0, hb1, hb2] at h; exact h)) <| zE (kS fo47_1) <| zT (kW vX) <| zZ) ?_
 refine jA ?_
 have bn4 : QL ((0 : Int) : Rat) 3 := (qi 0)
 have bn5 : QL ((1 : Int) : Rat) 3 := (qi 1)
 refine kx [(10, (.ref 7 0))] [(7, some (bx (jR (A3.mk (jB ((0 : Int) : Rat)) (jB ((0 : Int) : Rat)) (jB ((1 : Int) : Rat))))))] (zE (kA (cE ((0 : Nat) : Int) (by omega) (by omega) ((0 : Nat) : Int) (by omega) (by omega) ((1 : Nat) : Int) (by omega) (by omega))) <| zN (qW 7 aM aO) <| zT (kW vX) <| zZ) ?_
 refine jA ?_
 have bn6 : QL (uY la lb lc ld) 3 := (gC)
 have bn7 : QL (vA la lb lc ld) 3 := (gG)
 have bn8 : QL (qN la lb lc ld) 3 := (yO)
 have bn9 : QL (vD la lb lc ld) 3 := (gB)
 have bn10 : QL (vC la lb lc ld) 3 := (gE)
 have bn11 : QL (qO la lb lc ld) 3 := (yN)
 have bn12 : QL (vH la lb lc ld) 3 := (gF)
 have bn13 : QL (vG la lb lc ld) 3 := (gD)
 have bn14 : QL (qQ la lb lc ld) 3 := (yL)
 have bn15 : QL (qN la lb lc ld) 20 := (jH (Eq.symm (vZ (uY la lb lc ld) (vA la lb lc ld) (qN la lb lc ld))) (jL (n := 3) (k := 20) bn6 bn7 bn8 bn4 bn4 bn5 (by decide)))
 have bn16 : QL (qO la lb lc ld) 20 := (jH (Eq.symm (vZ (vD la lb lc ld) (vC la lb lc ld) (qO la lb lc ld))) (jL (n := 3) (k := 20) bn9 bn10 bn11 bn4 bn4 bn5 (by decide)))
 have bn17 : QL (qQ la lb lc ld) 20 := (jH (Eq.symm (vZ (vH la lb lc ld) (vG la lb lc ld) (qQ la lb lc ld))) (jL (n := 3) (k := 20) bn12 bn13 bn14 bn4 bn4 bn5 (by decide)))
 have bn18 : QL (N4 ra rb rc rd) 3 := (kN4)
 have bn19 : QL (uY ra rb rc rd) 3 := (gC)
 have bn20 : QL (vA ra rb rc rd) 3 := (gG)
 have bn21 : QL (qN ra rb rc rd) 3 := (yO)
 have bn22 : QL (vD ra rb rc rd) 3 := (gB)
 have bn23 : QL (vC ra rb rc rd) 3 := (gE)
 have bn24 : QL (qO ra rb rc rd) 3 := (yN)
 have bn25 : QL (vH ra rb rc rd) 3 := (gF)
 have bn26 : QL (vG ra rb rc rd) 3 := (gD)
 have bn27 : QL (qQ ra rb rc rd) 3 := (yL)
 have bn28 : QL (qN ra rb rc rd) 20 := (jH (Eq.symm (vZ (uY ra rb rc rd) (vA ra rb rc rd) (qN ra rb rc rd))) (jL (n := 3) (k := 20) bn19 bn20 bn21 bn4 bn4 bn5 (by decide)))
 have bn29 : QL (qO ra rb rc rd) 20 := (jH (Eq.symm (vZ (vD ra rb rc rd) (vC ra rb rc rd) (qO ra rb rc rd))) (jL (n := 3) (k := 20) bn22 bn23 bn24 bn4 bn4 bn5 (by decide)))
 have bn30 : QL (qQ ra rb rc rd) 20 := (jH (Eq.symm (vZ (vH ra rb rc rd) (vG ra rb rc rd) (qQ ra rb rc rd))) (jL (n := 3) (k := 20) bn25 bn26 bn27 bn4 bn4 bn5 (by decide)))
 have bn31 : QL (N4 la lb lc ld) 3 := (kN4)
 have bn32 : QL (dL la lb lc ld ra rb rc rd) 47 := (jH (Eq.symm (dq0_eq la lb lc ld ra rb rc rd)) (kE (k := 47) (jD (k := 23) bn15 bn18 (by decide)) (jD (k := 23) bn28 bn31 (by decide)) (by decide)))
 have bn33 : QL (dM la lb lc ld ra rb rc rd) 47 := (jH (Eq.symm (dq1_eq la lb lc ld ra rb rc rd)) (kE (k := 47) (jD (k := 23) bn16 bn18 (by decide)) (jD (k := 23) bn29 bn31 (by decide)) (by decide)))
 have bn34 : QL (dN la lb lc ld ra rb rc rd) 47 := (jH (Eq.symm (dq2_eq la lb lc ld ra rb rc rd)) (kE (k := 47) (jD (k := 23) bn17 bn18 (by decide)) (jD (k := 23) bn30 bn31 (by decide)) (by decide)))
 refine kd [(11, (.ref 8 0))] [(8, some (bx (jR (A3.mk (jB (dL la lb lc ld ra rb rc rd)) (jB (dM la lb lc ld ra rb rc rd)) (jB (dN la lb lc ld ra rb rc rd))))))] mo (wE (kS yW) <| wR (kF yF) <| wE (kA (qs_mat la lb lc ld (by omega) (by omega) (by omega) (by omega) hlq)) <| wR (kF vX) <| wE (kA (by have h := iF (uY la lb lc ld) (vA la lb lc ld) (qN la lb lc ld) (vD la lb lc ld) (vC la lb lc ld) (qO la lb lc ld) (vH la lb lc ld) (vG la lb lc ld) (qQ la lb lc ld) (qu bn6) (qu bn7) (qu bn8) (qu bn9) (qu bn10) (qu bn11) (qu bn12) (qu bn13) (qu bn14) ((0 : Int) : Rat) ((0 : Int) : Rat) ((1 : Int) : Rat) (qu bn4) (qu bn4) (qu bn5); rw [(vZ (uY la lb lc ld) (vA la lb lc ld) (qN la lb lc ld)), (vZ (vD la lb lc ld) (vC la lb lc ld) (qO la lb lc ld)), (vZ (vH la lb lc ld) (vG la lb lc ld) (qQ la lb lc ld))] at h; exact h)) <| wE (kS yW) <| wR (kF yF) <| wE (kA (iX ra rb rc rd (by omega) (by omega) (by omega) (by omega))) <| wE (kA (nQ (qN la lb lc ld) (qO la lb lc ld) (qQ la lb lc ld) (qu bn15) (qu bn16) (qu bn17) (N4 ra rb rc rd) (qu bn18))) <| wE (kS yW) <| wR (kF yF) <| wE (kA (qs_mat ra rb rc rd (by omega) (by omega) (by omega) (by omega) hrq)) <| wR (kF vX) <| wE (kA (by have h := iF (uY ra rb rc rd) (vA ra rb rc rd) (qN ra rb rc rd) (vD ra rb rc rd) (vC ra rb rc rd) (qO ra rb rc rd) (vH ra rb rc rd) (vG ra rb rc rd) (qQ ra rb rc rd) (qu bn19) (qu bn20) (qu bn21) (qu bn22) (qu bn23) (qu bn24) (qu bn25) (qu bn26) (qu bn27) ((0 : Int) : Rat) ((0 : Int) : Rat) ((1 : Int) : Rat) (qu bn4) (qu bn4) (qu bn5); rw [(vZ (uY ra rb rc rd) (vA ra rb rc rd) (qN ra rb rc rd)), (vZ (vD ra rb rc rd) (vC ra rb rc rd) (qO ra rb rc rd)), (vZ (vH ra rb rc rd) (vG ra rb rc rd) (qQ ra rb rc rd))] at h; exact h)) <| wE (kS yW) <| wR (kF yF) <| wE (kA (iX la lb lc ld (by omega) (by omega) (by omega) (by omega))) <| wE (kA (nQ (qN ra rb rc rd) (qO ra rb rc rd) (qQ ra rb rc rd) (qu bn28) (qu bn29) (qu bn30) (N4 la lb lc ld) (qu bn31))) <| wE (kA (by have h := qs_sum ((qN la lb lc ld) * (N4 ra rb rc rd)) ((qO la lb lc ld) * (N4 ra rb rc rd)) ((qQ la lb lc ld) * (N4 ra rb rc rd)) (uR (jD (k := 23) bn15 bn18 (by decide)) (by decide)) (uR (jD (k := 23) bn16 bn18 (by decide)) (by decide)) (uR (jD (k := 23) bn17 bn18 (by decide)) (by decide)) ((qN ra rb rc rd) * (N4 la lb lc ld)) ((qO ra rb rc rd) * (N4 la lb lc ld)) ((qQ ra rb rc rd) * (N4 la lb lc ld)) (uR (jD (k := 23) bn28 bn31 (by decide)) (by decide)) (uR (jD (k := 23) bn29 bn31 (by decide)) (by decide)) (uR (jD (k := 23) bn30 bn31 (by decide)) (by decide)); rw [(dq0_eq la lb lc ld ra rb rc rd), (dq1_eq la lb lc ld ra rb rc rd), (dq2_eq la lb lc ld ra rb rc rd)] at h; exact h)) <| wN (qW 8 aM aO) <| wT (kW vX) <| wZ) ?_
 refine jA ?_
 have bn35 : QL (((dM la lb lc ld ra rb rc rd) * b2) - ((dN la lb lc ld ra rb rc rd) * b1)) 101 := (kL (k := 101) (jD (k := 50) bn33 bn3 (by decide)) (jD (k := 50) bn34 bn2 (by decide)) (by decide))
 have bn36 : QL (((dN la lb lc ld ra rb rc rd) * b0) - ((dL la lb lc ld ra rb rc rd) * b2)) 101 := (kL (k := 101) (jD (k := 50) bn34 bn1 (by decide)) (jD (k := 50) bn32 bn3 (by decide)) (by decide))
 have bn37 : QL (((dL la lb lc ld ra rb rc rd) * b1) - ((dM la lb lc ld ra rb rc rd) * b0)) 101 := (kL (k := 101) (jD (k := 50) bn32 bn2 (by decide)) (jD (k := 50) bn33 bn1 (by decide)) (by decide))
 refine kx [(12, (.ref 9 0))] [(9, some (bx (jR (A3.mk (jB (((dM la lb lc ld ra rb rc rd) * b2) - ((dN la lb lc ld ra rb rc rd) * b1))) (jB (((dN la lb lc ld ra rb rc rd) * b0) - ((dL la lb lc ld ra rb rc rd) * b2))) (jB (((dL la lb lc ld ra rb rc rd) * b1) - ((dM la lb lc ld ra rb rc rd) * b0)))))))] (zR (kF vX) <| zE (kS fo47_1) <| zR (kF vX) <| zE (kA (aB (dL la lb lc ld ra rb rc rd) (dM la lb lc ld ra rb rc rd) (dN la lb lc ld ra rb rc rd) (qu bn32) (qu bn33) (qu bn34) b0 b1 b2 (qu bn1) (qu bn2) (qu bn3))) <| zN (qW 9 aM aO) <| zT (kW vX) <| zZ) ?_
 refine jA <| jA <| kx [(84, (vb false))] [] (zR (kF vX) <| zE (qL false (kA (qs_zero (((dM la lb lc ld ra rb rc rd) * b2) - ((dN la lb lc ld ra rb rc rd) * b1)) (((dN la lb lc ld ra rb rc rd) * b0) - ((dL la lb lc ld ra rb rc rd) * b2)) (((dL la lb lc ld ra rb rc rd) * b1) - ((dM la lb lc ld ra rb rc rd) * b0)) (qu bn35) (qu bn36) (qu bn37))) (by exact hup)) <| zZ) ?_
 refine kG ?_
 refine jE <| jA ?_
 have bn38 : QL e00 6 := (jH (Eq.symm he00) (jD (k := 6) bn1 (zI (n := 3) (k := 3) bn1 bn2 bn3 (by decide) (by decide)) (by decide)))
 have bn39 : QL e01 6 := (jH (Eq.symm he01) (jD (k := 6) bn2 (zI (n := 3) (k := 3) bn1 bn2 bn3 (by decide) (by decide)) (by decide)))
 have bn40 : QL e02 6 := (jH (Eq.symm he02) (jD (k := 6) bn3 (zI (n := 3) (k := 3) bn1 bn2 bn3 (by decide) (by decide)) (by decide)))
 refine kx [] [(2, some (bx (gJ (RLp.mk (kX.mk (kO.mk (jW.mk lx ly lz) (jU.mk la lb lc ld) lf (kP.mk lu lv)) (kO.mk (jW.mk rx ry rz) (jU.mk ra rb rc rd) rf (kP.mk ru rv))) (A3.mk (jB b0) (jB b1) (jB b2)) (A3.mk (A3.mk (jB e00) (jB e01) (jB e02)) y7 y7)))))] (zE (kS fo47_1) <| zR (kF vX) <| zE (kA (by have h := qs_red b0 b1 b2 (qu bn1) (qu bn2) (qu bn3) hzb; rw [he00, he01, he02] at h; exact h)) <| zE (kS fo47_2) <| zE (uH zQ 0) <| zT (kW vX) <| zZ) ?_
 refine jA ?_
 have bn41 : QL (((dM la lb lc ld ra rb rc rd) * e02) - ((dN la lb lc ld ra rb rc rd) * e01)) 107 := (kL (k := 107) (jD (k := 53) bn33 bn40 (by decide)) (jD (k := 53) bn34 bn39 (by decide)) (by decide))
 have bn42 : QL (((dN la lb lc ld ra rb rc rd) * e00) - ((dL la lb lc ld ra rb rc rd) * e02)) 107 := (kL (k := 107) (jD (k := 53) bn34 bn38 (by decide)) (jD (k := 53) bn32 bn40 (by decide)) (by decide))
 have bn43 : QL (((dL la lb lc ld ra rb rc rd) * e01) - ((dM la lb lc ld ra rb rc rd) * e00)) 107 := (kL (k := 107) (jD (k := 53) bn32 bn39 (by decide)) (jD (k := 53) bn33 bn38 (by decide)) (by decide))
 have bn44 : QL e10 214 := (jH (Eq.symm he10) (jD (k := 214) bn41 (zI (n := 107) (k := 107) bn41 bn42 bn43 (by decide) (by decide)) (by decide)))
 have bn45 : QL e11 214 := (jH (Eq.symm he11) (jD (k := 214) bn42 (zI (n := 107) (k := 107) bn41 bn42 bn43 (by decide) (by decide)) (by decide)))
 have bn46 : QL e12 214 := (jH (Eq.symm he12) (jD (k := 214) bn43 (zI (n := 107) (k := 107) bn41 bn42 bn43 (by decide) (by decide)) (by decide)))
 refine kx [] [(2, some (bx (gJ (RLp.mk (kX.mk (kO.mk (jW.mk lx ly lz) (jU.mk la lb lc ld) lf (kP.mk lu lv)) (kO.mk (jW.mk rx ry rz) (jU.mk ra rb rc rd) rf (kP.mk ru rv))) (A3.mk (jB b0) (jB b1) (jB b2)) (A3.mk (A3.mk (jB e00) (jB e01) (jB e02)) (A3.mk (jB e10) (jB e11) (jB e12)) y7)))))] (zR (kF vX) <| zE (kS fo47_2) <| zE (uH zQ 0) <| zR (kF vX) <| zE (kA (aB (dL la lb lc ld ra rb rc rd) (dM la lb lc ld ra rb rc rd) (dN la lb lc ld ra rb rc rd) (qu bn32) (qu bn33) (qu bn34) e00 e01 e02 (qu bn38) (qu bn39) (qu bn40))) <| zE (kA (by have h := qs_red (((dM la lb lc ld ra rb rc rd) * e02) - ((dN la lb lc ld ra rb rc rd) * e01)) (((dN la lb lc ld ra rb rc rd) * e00) - ((dL la lb lc ld ra rb rc rd) * e02)) (((dL la lb lc ld ra rb rc rd) * e01) - ((dM la lb lc ld ra rb rc rd) * e00)) (qu bn41) (qu bn42) (qu bn43) hzs; rw [he10, he11, he12] at h; exact h)) <| zE (kS fo47_2) <| zE (uH zQ 1) <| zT (kW vX) <| zZ) ?_
 refine jA ?_
 have bn47 : QL ((e01 * e12) - (e02 * e11)) 441 := (kL (k := 441) (jD (k := 220) bn39 bn46 (by decide)) (jD (k := 220) bn40 bn45 (by decide)) (by decide))
 have bn48 : QL ((e02 * e10) - (e00 * e12)) 441 := (kL (k := 441) (jD (k := 220) bn40 bn44 (by decide)) (jD (k := 220) bn38 bn46 (by decide)) (by decide))
 have bn49 : QL ((e00 * e11) - (e01 * e10)) 441 := (kL (k := 441) (jD (k := 220) bn38 bn45 (by decide)) (jD (k := 220) bn39 bn44 (by decide)) (by decide))
 have bn50 : QL e20 882 := (jH (Eq.symm he20) (jD (k := 882) bn47 (zI (n := 441) (k := 441) bn47 bn48 bn49 (by decide) (by decide)) (by decide)))
 have bn51 : QL e21 882 := (jH (Eq.symm he21) (jD (k := 882) bn48 (zI (n := 441) (k := 441) bn47 bn48 bn49 (by decide) (by decide)) (by decide)))
 have bn52 : QL e22 882 := (jH (Eq.symm he22) (jD (k := 882) bn49 (zI (n := 441) (k := 441) bn47 bn48 bn49 (by decide) (by decide)) (by decide)))
 refine kx [] [(2, some y4)] (zE (kS fo47_2) <| zE (uH zQ 0) <| zR (kF vX) <| zE (kS fo47_2) <| zE (uH zQ 1) <| zR (kF vX) <| zE (kA (aB e00 e01 e02 (qu bn38) (qu bn39) (qu bn40) e10 e11 e12 (qu bn44) (qu bn45) (qu bn46))) <| zE (kA (by have h := qs_red ((e01 * e12) - (e02 * e11)) ((e02 * e10) - (e00 * e12)) ((e00 * e11) - (e01 * e10)) (qu bn47) (qu bn48) (qu bn49) hzt; rw [he20, he21, he22] at h; exact h)) <| zE (kS fo47_2) <| zE (uH zQ 2) <| zT (kW vX) <| zZ) ?_
 refine jA <| kx [(3, (kD 0))] [(1, some y4)] (zR (kF eO) <| zT (kW eO) <| zM <| zZ) ?_
 refine jJ ⟨_, (qC (cs := (bx (gJ (RLp.mk (kX.mk (kO.mk (jW.mk lx ly lz) (jU.mk la lb lc ld) lf (kP.mk lu lv)) (kO.mk (jW.mk rx ry rz) (jU.mk ra rb rc rd) rf (kP.mk ru rv))) (A3.mk (jB b0) (jB b1) (jB b2)) (A3.mk (A3.mk (jB e00) (jB e01) (jB e02)) (A3.mk (jB e10) (jB e11) (jB e12)) (A3.mk (jB e20) (jB e21) (jB e22))))))) (d := (gJ (RLp.mk (kX.mk (kO.mk (jW.mk lx ly lz) (jU.mk la lb lc ld) lf (kP.mk lu lv)) (kO.mk (jW.mk rx ry rz) (jU.mk ra rb rc rd) rf (kP.mk ru rv))) (A3.mk (jB b0) (jB b1) (jB b2)) (A3.mk (A3.mk (jB e00) (jB e01) (jB e02)) (A3.mk (jB e10) (jB e11) (jB e12)) (A3.mk (jB e20) (jB e21) (jB e22)))))) rfl rfl eO rfl rfl (.tmp (d := (.val (.int .i64 (((0 : Nat) : Int))))) rfl .nil)), ?_⟩
 rfl
end Go.Proofs.YtbecgnplakngdaaGreat
