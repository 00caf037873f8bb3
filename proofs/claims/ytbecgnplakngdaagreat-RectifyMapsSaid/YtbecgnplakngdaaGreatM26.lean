/- Part 26 of a proof: rules, plain facts, and functions walked. -/
import Derived.Test.YtbecgnplakngdaaGreatM25
namespace Go.Proofs.YtbecgnplakngdaaGreat
open Go.Fid
set_option maxRecDepth 4000
set_option linter.unusedVariables false
set_option linter.unusedSimpArgs false
theorem cb14 : callB Tryz.prog 14 = true := by kernel_rfl
theorem cb68 : callB Tryz.prog 68 = true := by kernel_rfl
theorem el140 : xW Tryz.prog 140 = some (29, 10) := by kernel_rfl
theorem eqs23 : eqsB Tryz.prog 23 = some 3 := by kernel_rfl
theorem nF : xE Tryz.prog 31 0 = some 0 := by kernel_rfl
theorem nG : xE Tryz.prog 31 1 = some 10 := by kernel_rfl
theorem fo47_1 : xE Tryz.prog 47 1 = some 20 := by kernel_rfl
theorem gY : xE Tryz.prog 47 2 = some 32 := by kernel_rfl
theorem fU : xE Tryz.prog 134 2 = some 20 := by kernel_rfl
theorem yJ : xE Tryz.prog 134 3 = some 32 := by kernel_rfl
theorem pl47 : mA Tryz.prog 47 = some [(0, 20), (20, 12), (32, 36)] := by kernel_rfl
theorem pl134 : mA Tryz.prog 134 = some [(0, 10), (10, 10), (20, 12), (32, 36)] := by kernel_rfl
theorem sh23 : uK Tryz.prog 23 = some (true, 3) := by kernel_rfl
theorem xK : uK Tryz.prog 29 = some (true, 10) := by kernel_rfl
theorem gV : uK Tryz.prog 31 = some (true, 20) := by kernel_rfl
theorem hN : uK Tryz.prog 47 = some (true, 68) := by kernel_rfl
theorem ze23 : xI Tryz.prog 23 = some [.int .i64 0, .int .i64 0, .int .i64 0] := by kernel_rfl
theorem eL : xI Tryz.prog 29 = some [.int .i64 0, .int .i64 0, .int .i64 0, .int .i64 0, .int .i64 0, .int .i64 0, .int .i64 0, .int .i64 0, .int .i64 0, .int .i64 0] := by kernel_rfl
theorem ze47 : xI Tryz.prog 47 = some [.int .i64 0, .int .i64 0, .int .i64 0, .int .i64 0, .int .i64 0, .int .i64 0, .int .i64 0, .int .i64 0, .int .i64 0, .int .i64 0, .int .i64 0, .int .i64 0, .int .i64 0, .int .i64 0, .int .i64 0, .int .i64 0, .int .i64 0, .int .i64 0, .int .i64 0, .int .i64 0, .bool false, .slice none 0 0, .bool false, .slice none 0 0, .bool false, .slice none 0 0, .bool false, .slice none 0 0, .bool false, .slice none 0 0, .bool false, .slice none 0 0, .bool false, .slice none 0 0, .bool false, .slice none 0 0, .bool false, .slice none 0 0, .bool false, .slice none 0 0, .bool false, .slice none 0 0, .bool false, .slice none 0 0, .bool false, .slice none 0 0, .bool false, .slice none 0 0, .bool false, .slice none 0 0, .bool false, .slice none 0 0, .bool false, .slice none 0 0, .bool false, .slice none 0 0, .bool false, .slice none 0 0, .bool false, .slice none 0 0, .bool false, .slice none 0 0, .bool false, .slice none 0 0, .bool false, .slice none 0 0, .bool false, .slice none 0 0] := by kernel_rfl
theorem ze134 : xI Tryz.prog 134 = some [.int .i64 0, .int .i64 0, .int .i64 0, .int .i64 0, .int .i64 0, .int .i64 0, .int .i64 0, .int .i64 0, .int .i64 0, .int .i64 0, .int .i64 0, .int .i64 0, .int .i64 0, .int .i64 0, .int .i64 0, .int .i64 0, .int .i64 0, .int .i64 0, .int .i64 0, .int .i64 0, .bool false, .slice none 0 0, .bool false, .slice none 0 0, .bool false, .slice none 0 0, .bool false, .slice none 0 0, .bool false, .slice none 0 0, .bool false, .slice none 0 0, .bool false, .slice none 0 0, .bool false, .slice none 0 0, .bool false, .slice none 0 0, .bool false, .slice none 0 0, .bool false, .slice none 0 0, .bool false, .slice none 0 0, .bool false, .slice none 0 0, .bool false, .slice none 0 0, .bool false, .slice none 0 0, .bool false, .slice none 0 0, .bool false, .slice none 0 0, .bool false, .slice none 0 0, .bool false, .slice none 0 0, .bool false, .slice none 0 0, .bool false, .slice none 0 0, .bool false, .slice none 0 0, .bool false, .slice none 0 0, .bool false, .slice none 0 0] := by kernel_rfl
theorem zo23 : mG [.int .i64 0, .int .i64 0, .int .i64 0] [.val (.int .i64 0), .val (.int .i64 0), .val (.int .i64 0)] := by simp [mG, Value.oneCell']
theorem eH : mG [.int .i64 0, .int .i64 0, .int .i64 0, .int .i64 0, .int .i64 0, .int .i64 0, .int .i64 0, .int .i64 0, .int .i64 0, .int .i64 0] [.val (.int .i64 0), .val (.int .i64 0), .val (.int .i64 0), .val (.int .i64 0), .val (.int .i64 0), .val (.int .i64 0), .val (.int .i64 0), .val (.int .i64 0), .val (.int .i64 0), .val (.int .i64 0)] := by simp [mG, Value.oneCell']
theorem zo47 : mG [.int .i64 0, .int .i64 0, .int .i64 0, .int .i64 0, .int .i64 0, .int .i64 0, .int .i64 0, .int .i64 0, .int .i64 0, .int .i64 0, .int .i64 0, .int .i64 0, .int .i64 0, .int .i64 0, .int .i64 0, .int .i64 0, .int .i64 0, .int .i64 0, .int .i64 0, .int .i64 0, .bool false, .slice none 0 0, .bool false, .slice none 0 0, .bool false, .slice none 0 0, .bool false, .slice none 0 0, .bool false, .slice none 0 0, .bool false, .slice none 0 0, .bool false, .slice none 0 0, .bool false, .slice none 0 0, .bool false, .slice none 0 0, .bool false, .slice none 0 0, .bool false, .slice none 0 0, .bool false, .slice none 0 0, .bool false, .slice none 0 0, .bool false, .slice none 0 0, .bool false, .slice none 0 0, .bool false, .slice none 0 0, .bool false, .slice none 0 0, .bool false, .slice none 0 0, .bool false, .slice none 0 0, .bool false, .slice none 0 0, .bool false, .slice none 0 0, .bool false, .slice none 0 0, .bool false, .slice none 0 0, .bool false, .slice none 0 0] [.val (.int .i64 0), .val (.int .i64 0), .val (.int .i64 0), .val (.int .i64 0), .val (.int .i64 0), .val (.int .i64 0), .val (.int .i64 0), .val (.int .i64 0), .val (.int .i64 0), .val (.int .i64 0), .val (.int .i64 0), .val (.int .i64 0), .val (.int .i64 0), .val (.int .i64 0), .val (.int .i64 0), .val (.int .i64 0), .val (.int .i64 0), .val (.int .i64 0), .val (.int .i64 0), .val (.int .i64 0), .val (.bool false), .sl 152 1 [], .val (.bool false), .sl 152 1 [], .val (.bool false), .sl 152 1 [], .val (.bool false), .sl 152 1 [], .val (.bool false), .sl 152 1 [], .val (.bool false), .sl 152 1 [], .val (.bool false), .sl 152 1 [], .val (.bool false), .sl 152 1 [], .val (.bool false), .sl 152 1 [], .val (.bool false), .sl 152 1 [], .val (.bool false), .sl 152 1 [], .val (.bool false), .sl 152 1 [], .val (.bool false), .sl 152 1 [], .val (.bool false), .sl 152 1 [], .val (.bool false), .sl 152 1 [], .val (.bool false), .sl 152 1 [], .val (.bool false), .sl 152 1 [], .val (.bool false), .sl 152 1 [], .val (.bool false), .sl 152 1 [], .val (.bool false), .sl 152 1 [], .val (.bool false), .sl 152 1 [], .val (.bool false), .sl 152 1 [], .val (.bool false), .sl 152 1 [], .val (.bool false), .sl 152 1 []] := by simp [mG, Value.oneCell']
theorem zo134 : mG [.int .i64 0, .int .i64 0, .int .i64 0, .int .i64 0, .int .i64 0, .int .i64 0, .int .i64 0, .int .i64 0, .int .i64 0, .int .i64 0, .int .i64 0, .int .i64 0, .int .i64 0, .int .i64 0, .int .i64 0, .int .i64 0, .int .i64 0, .int .i64 0, .int .i64 0, .int .i64 0, .bool false, .slice none 0 0, .bool false, .slice none 0 0, .bool false, .slice none 0 0, .bool false, .slice none 0 0, .bool false, .slice none 0 0, .bool false, .slice none 0 0, .bool false, .slice none 0 0, .bool false, .slice none 0 0, .bool false, .slice none 0 0, .bool false, .slice none 0 0, .bool false, .slice none 0 0, .bool false, .slice none 0 0, .bool false, .slice none 0 0, .bool false, .slice none 0 0, .bool false, .slice none 0 0, .bool false, .slice none 0 0, .bool false, .slice none 0 0, .bool false, .slice none 0 0, .bool false, .slice none 0 0, .bool false, .slice none 0 0, .bool false, .slice none 0 0, .bool false, .slice none 0 0, .bool false, .slice none 0 0, .bool false, .slice none 0 0] [.val (.int .i64 0), .val (.int .i64 0), .val (.int .i64 0), .val (.int .i64 0), .val (.int .i64 0), .val (.int .i64 0), .val (.int .i64 0), .val (.int .i64 0), .val (.int .i64 0), .val (.int .i64 0), .val (.int .i64 0), .val (.int .i64 0), .val (.int .i64 0), .val (.int .i64 0), .val (.int .i64 0), .val (.int .i64 0), .val (.int .i64 0), .val (.int .i64 0), .val (.int .i64 0), .val (.int .i64 0), .val (.bool false), .sl 152 1 [], .val (.bool false), .sl 152 1 [], .val (.bool false), .sl 152 1 [], .val (.bool false), .sl 152 1 [], .val (.bool false), .sl 152 1 [], .val (.bool false), .sl 152 1 [], .val (.bool false), .sl 152 1 [], .val (.bool false), .sl 152 1 [], .val (.bool false), .sl 152 1 [], .val (.bool false), .sl 152 1 [], .val (.bool false), .sl 152 1 [], .val (.bool false), .sl 152 1 [], .val (.bool false), .sl 152 1 [], .val (.bool false), .sl 152 1 [], .val (.bool false), .sl 152 1 [], .val (.bool false), .sl 152 1 [], .val (.bool false), .sl 152 1 [], .val (.bool false), .sl 152 1 [], .val (.bool false), .sl 152 1 [], .val (.bool false), .sl 152 1 [], .val (.bool false), .sl 152 1 [], .val (.bool false), .sl 152 1 [], .val (.bool false), .sl 152 1 [], .val (.bool false), .sl 152 1 []] := by simp [mG, Value.oneCell']
theorem q_recE1 (lx ly lz la lb lc ld lf lu lv rx ry rz ra rb rc rd rf ru rv : Int) (c : Nat) (hc : stn2 (qV lx ly lz lu lv lf la lb lc ld) (qV rx ry rz ru rv rf ra rb rc rd) = c) (hc0 : c ≠ 0) : kE Tryz.prog 68 [(qA (kV.mk (jX.mk (jM.mk lx ly lz) (jK.mk la lb lc ld) lf (jZ.mk lu lv)) (jX.mk (jM.mk rx ry rz) (jK.mk ra rb rc rd) rf (jZ.mk ru rv))))] (.tup [(.val (.pointer none)), (.val (.int .i64 (((c : Nat) : Int))))]) := by
 let y1 := (qA (kV.mk (jX.mk (jM.mk lx ly lz) (jK.mk la lb lc ld) lf (jZ.mk lu lv)) (jX.mk (jM.mk rx ry rz) (jK.mk ra rb rc rd) rf (jZ.mk ru rv))))
 refine jN Tryz.func68 rfl cb68 rfl ?_
 show uT _ _ _ _ ⟨[(0, (.d y1))], []⟩
 refine jA <| kx [(1, (.ref 0 0))] [(0, some (bx y1))] (zN (uX 0) <| zM <| zM <| zZ) ?_
 refine jA <| jA <| kx [(4, (kX (qV lx ly lz lu lv lf la lb lc ld)))] [] (zE (qE nF) <| zR (kC xK) <| zE (kA (q_stn lx ly lz la lb lc ld lf lu lv)) <| zM <| zZ) ?_
 refine jA <| kx [(17, (vb ((((qV lx ly lz lu lv lf la lb lc ld) : Nat) : Int) != 0)))] [] (zM <| zE eI <| zZ) ?_
 refine jY rfl (fun h1 => ?_) (fun h1 => ?_)
 ·replace h1 := bne_iff_ne.1 h1
  refine jA <| kx [(2, (.d (.val (.pointer none)))), (3, (kX (qV lx ly lz lu lv lf la lb lc ld)))] [] (zM <| zM <| zM <| zZ) ?_
  refine jJ ⟨_, (.tmp (d := (.val (.pointer none))) rfl (.tmp (d := (.val (.int .i64 ((((qV lx ly lz lu lv lf la lb lc ld) : Nat) : Int))))) rfl .nil)), ?_⟩
  rw [stn2_l h1 hc]; rfl
 ·replace h1 := bne_eq_false_iff_eq.1 h1
  refine jE <| jA <| jA <| kx [(5, (kX (qV rx ry rz ru rv rf ra rb rc rd)))] [] (zE (qE nG) <| zR (kC xK) <| zE (kA (q_stn rx ry rz ra rb rc rd rf ru rv)) <| zM <| zZ) ?_
  refine jA <| kx [(23, (vb ((((qV rx ry rz ru rv rf ra rb rc rd) : Nat) : Int) != 0)))] [] (zM <| zE eI <| zZ) ?_
  refine jY rfl (fun h2 => ?_) (fun h2 => ?_)
  ·replace h2 := bne_iff_ne.1 h2
   refine jA <| kx [(2, (.d (.val (.pointer none)))), (3, (kX (qV rx ry rz ru rv rf ra rb rc rd)))] [] (zM <| zM <| zM <| zZ) ?_
   refine jJ ⟨_, (.tmp (d := (.val (.pointer none))) rfl (.tmp (d := (.val (.int .i64 ((((qV rx ry rz ru rv rf ra rb rc rd) : Nat) : Int))))) rfl .nil)), ?_⟩
   rw [stn2_r h1 hc]; rfl
  ·replace h2 := bne_eq_false_iff_eq.1 h2
   exact absurd (stn2_0 (by simpa using h1) (by simpa using h2) hc) hc0
theorem q_recE2 (lx ly lz la lb lc ld lf lu lv rx ry rz ra rb rc rd rf ru rv : Int) (b0 b1 b2 : Rat) (uR : QL b0 3) (uP : QL b1 3) (uQ : QL b2 3) (hl : qV lx ly lz lu lv lf la lb lc ld = 0) (hr : qV rx ry rz ru rv rf ra rb rc rd = 0) (hb0 : ((rx - lx : Int) : Rat) = b0) (hb1 : ((ry - ly : Int) : Rat) = b1) (hb2 : ((rz - lz : Int) : Rat) = b2) (hup : upV la lb lc ld ra rb rc rd b0 b1 b2 = true) : kE Tryz.prog 68 [(qA (kV.mk (jX.mk (jM.mk lx ly lz) (jK.mk la lb lc ld) lf (jZ.mk lu lv)) (jX.mk (jM.mk rx ry rz) (jK.mk ra rb rc rd) rf (jZ.mk ru rv))))] (.tup [(.val (.pointer none)), (.val (.int .i64 (13)))]) := by
 have hbl := uB hl
 have hbr := uB hr
 obtain ⟨hlx, hly, hlz, hlu, hlv, hlf, hlq⟩ := hbl
 obtain ⟨hrx, hry, hrz, hru, hrv, hrf, hrq⟩ := hbr
 obtain ⟨hla, hlb, hlc, hld, -⟩ := uA hlq
 obtain ⟨hra, hrb, hrc, hrd, -⟩ := uA hrq
 have hnl := xV hla hlb hlc hld
 have hnr := xV hra hrb hrc hrd
 let y5 := (A3.mk (jQ.mk (jF.mk false []) (jF.mk false [])) (jQ.mk (jF.mk false []) (jF.mk false [])) (jQ.mk (jF.mk false []) (jF.mk false [])))
 let y4 := (qA (kV.mk (jX.mk (jM.mk lx ly lz) (jK.mk la lb lc ld) lf (jZ.mk lu lv)) (jX.mk (jM.mk rx ry rz) (jK.mk ra rb rc rd) rf (jZ.mk ru rv))))
 let y3 := (bx (jP (A3.mk (jB (((mN la lb lc ld ra rb rc rd) * (b2 * (yC b0 b1 b2))) - ((mM la lb lc ld ra rb rc rd) * (b1 * (yC b0 b1 b2))))) (jB (((mM la lb lc ld ra rb rc rd) * (b0 * (yC b0 b1 b2))) - ((mO la lb lc ld ra rb rc rd) * (b2 * (yC b0 b1 b2))))) (jB (((mO la lb lc ld ra rb rc rd) * (b1 * (yC b0 b1 b2))) - ((mN la lb lc ld ra rb rc rd) * (b0 * (yC b0 b1 b2))))))))
 let y2 := (A3.mk y5 y5 y5)
 let y1 := (bx (yZ (RRp.mk (jX.mk (jM.mk lx ly lz) (jK.mk la lb lc ld) lf (jZ.mk lu lv)) (jX.mk (jM.mk rx ry rz) (jK.mk ra rb rc rd) rf (jZ.mk ru rv)) (A3.mk (jB b0) (jB b1) (jB b2)) (A3.mk (A3.mk (jB (b0 * (yC b0 b1 b2))) (jB (b1 * (yC b0 b1 b2))) (jB (b2 * (yC b0 b1 b2)))) y5 y5))))
 refine jN Tryz.func68 rfl cb68 rfl ?_
 show uT _ _ _ _ ⟨[(0, (.d y4))], []⟩
 refine jA <| kx [(1, (.ref 0 0))] [(0, some (bx y4))] (zN (uX 0) <| zM <| zM <| zZ) ?_
 refine jA <| jA <| kx [(4, (kX (qV lx ly lz lu lv lf la lb lc ld)))] [] (zE (qE nF) <| zR (kC xK) <| zE (kA (q_stn lx ly lz la lb lc ld lf lu lv)) <| zM <| zZ) ?_
 refine jA <| kx [(17, (vb false))] [] (zM <| zE (vB false eI (by exact bne_eq_false_iff_eq.2 (by rw [show (qV lx ly lz lu lv lf la lb lc ld) = 0 from hl]; rfl))) <| zZ) ?_
 refine kY ?_
 refine jE <| jA <| jA <| kx [(5, (kX (qV rx ry rz ru rv rf ra rb rc rd)))] [] (zE (qE nG) <| zR (kC xK) <| zE (kA (q_stn rx ry rz ra rb rc rd rf ru rv)) <| zM <| zZ) ?_
 refine jA <| kx [(23, (vb false))] [] (zM <| zE (vB false eI (by exact bne_eq_false_iff_eq.2 (by rw [show (qV rx ry rz ru rv rf ra rb rc rd) = 0 from hr]; rfl))) <| zZ) ?_
 refine kY ?_
 refine jE <| jA <| kx [(6, (.ref 1 0))] [(1, some (bx (yZ (RRp.mk (jX.mk (jM.mk lx ly lz) (jK.mk la lb lc ld) lf (jZ.mk lu lv)) (jX.mk (jM.mk rx ry rz) (jK.mk ra rb rc rd) rf (jZ.mk ru rv)) y5 y2))))] (zE (qE nF) <| zR (kC xK) <| zE (qE nG) <| zR (kC xK) <| zE (fK pl134 ze134 zo134) <| zN (uX 1) <| zM <| zZ) ?_
 refine jA <| kd [(7, (.ref 2 0)), (8, (.ref 3 0))] [(2, some (bx (eQ (jM.mk lx ly lz)))), (3, some (bx (eQ (jM.mk rx ry rz))))] mo (wE (qE nF) <| wE (qE yP) <| wR (kC sh23) <| wE (qE nG) <| wE (qE yP) <| wR (kC sh23) <| wN (qS 2 ze23 zo23) <| wN (qS 3 ze23 zo23) <| wT (qB sh23) <| wT (qB sh23) <| wZ) ?_
 refine jA ?_
 have bn1 : QL b0 3 := (jW (Eq.symm hb0) (qi (rx - lx)))
 have bn2 : QL b1 3 := (jW (Eq.symm hb1) (qi (ry - ly)))
 have bn3 : QL b2 3 := (jW (Eq.symm hb2) (qi (rz - lz)))
 refine kx [] [(1, some (bx (yZ (RRp.mk (jX.mk (jM.mk lx ly lz) (jK.mk la lb lc ld) lf (jZ.mk lu lv)) (jX.mk (jM.mk rx ry rz) (jK.mk ra rb rc rd) rf (jZ.mk ru rv)) (A3.mk (jB b0) (jB b1) (jB b2)) y2))))] (zM <| zE (qE mV) <| zR (vD vQ) <| zE (qE mV) <| zR (vD vQ) <| zE (fJ (rx - lx) (hr := by exact (qX rfl (by simp only [xG]; omega) (by simp only [xJ]; omega)))) <| zE (qE cN) <| zR (vD vQ) <| zE (qE cN) <| zR (vD vQ) <| zE (fJ (ry - ly) (hr := by exact (qX rfl (by simp only [xG]; omega) (by simp only [xJ]; omega)))) <| zE (qE cL) <| zR (vD vQ) <| zE (qE cL) <| zR (vD vQ) <| zE (fJ (rz - lz) (hr := by exact (qX rfl (by simp only [xG]; omega) (by simp only [xJ]; omega)))) <| zE (kA (by have h := q_whole (rx - lx) (by omega) (by omega) (ry - ly) (by omega) (by omega) (rz - lz) (by omega) (by omega); rw [hb0, hb1, hb2] at h; exact h)) <| zE oNc <| zE (qE fU) <| zT (qB qO) <| zZ) ?_
 refine jA <| jA <| kx [(58, (vb (decide ([lx, ly, lz] = [rx, ry, rz]))))] [] (zR (kC sh23) <| zR (kC sh23) <| zE (oEs eqs23 .i64 [lx, ly, lz] [rx, ry, rz]) <| zZ) ?_
 refine jY (b := (decide ([lx, ly, lz] = [rx, ry, rz]))) rfl (fun h1 => ?_) (fun h1 => ?_)
 ·replace h1 := of_decide_eq_true h1
  refine jA <| kx [(2, (.d (.val (.pointer none)))), (3, (kX 13))] [] (zM <| zM <| zZ) ?_
  refine jJ ⟨_, (.tmp (d := (.val (.pointer none))) rfl (.tmp (d := (.val (.int .i64 (((13 : Nat) : Int))))) rfl .nil)), ?_⟩
  rfl
 ·replace h1 := of_decide_eq_false h1
  have hzb := zb_ne hb0 hb1 hb2 h1
  have hzs := up_zs hzb hup
  refine jE <| jA ?_
  have bn4 : QL (vY la lb lc ld) 3 := (cY)
  have bn5 : QL (vX la lb lc ld) 3 := (dC)
  have bn6 : QL (uL la lb lc ld) 3 := (nV)
  have bn7 : QL (xA la lb lc ld) 3 := (cT)
  have bn8 : QL (xB la lb lc ld) 3 := (dB)
  have bn9 : QL (uN la lb lc ld) 3 := (nW)
  have bn10 : QL (xD la lb lc ld) 3 := (cO)
  have bn11 : QL (xF la lb lc ld) 3 := (cX)
  have bn12 : QL (uO la lb lc ld) 3 := (nT)
  have bn13 : QL (vY ra rb rc rd) 3 := (cY)
  have bn14 : QL (vX ra rb rc rd) 3 := (dC)
  have bn15 : QL (uL ra rb rc rd) 3 := (nV)
  have bn16 : QL (xA ra rb rc rd) 3 := (cT)
  have bn17 : QL (xB ra rb rc rd) 3 := (dB)
  have bn18 : QL (uN ra rb rc rd) 3 := (nW)
  have bn19 : QL (xD ra rb rc rd) 3 := (cO)
  have bn20 : QL (xF ra rb rc rd) 3 := (cX)
  have bn21 : QL (uO ra rb rc rd) 3 := (nT)
  refine kd [(9, (.ref 4 0)), (10, (.ref 5 0))] [(4, some (bx (qW (A3.mk (A3.mk (jB (vY la lb lc ld)) (jB (xA la lb lc ld)) (jB (xD la lb lc ld))) (A3.mk (jB (vX la lb lc ld)) (jB (xB la lb lc ld)) (jB (xF la lb lc ld))) (A3.mk (jB (uL la lb lc ld)) (jB (uN la lb lc ld)) (jB (uO la lb lc ld))))))), (5, some (bx (qW (A3.mk (A3.mk (jB (vY ra rb rc rd)) (jB (xA ra rb rc rd)) (jB (xD ra rb rc rd))) (A3.mk (jB (vX ra rb rc rd)) (jB (xB ra rb rc rd)) (jB (xF ra rb rc rd))) (A3.mk (jB (uL ra rb rc rd)) (jB (uN ra rb rc rd)) (jB (uO ra rb rc rd)))))))] mo (wE (qE nF) <| wE (qE zY) <| wR (kC zV) <| wE (kA (fY la lb lc ld (by omega) (by omega) (by omega) (by omega) hlq)) <| wE (kA (nX (vY la lb lc ld) (vX la lb lc ld) (uL la lb lc ld) (xA la lb lc ld) (xB la lb lc ld) (uN la lb lc ld) (xD la lb lc ld) (xF la lb lc ld) (uO la lb lc ld) (qu bn4) (qu bn5) (qu bn6) (qu bn7) (qu bn8) (qu bn9) (qu bn10) (qu bn11) (qu bn12))) <| wE (qE nG) <| wE (qE zY) <| wR (kC zV) <| wE (kA (fY ra rb rc rd (by omega) (by omega) (by omega) (by omega) hrq)) <| wE (kA (nX (vY ra rb rc rd) (vX ra rb rc rd) (uL ra rb rc rd) (xA ra rb rc rd) (xB ra rb rc rd) (uN ra rb rc rd) (xD ra rb rc rd) (xF ra rb rc rd) (uO ra rb rc rd) (qu bn13) (qu bn14) (qu bn15) (qu bn16) (qu bn17) (qu bn18) (qu bn19) (qu bn20) (qu bn21))) <| wN (qS 4 dQ dM) <| wN (qS 5 dQ dM) <| wT (qB gJ) <| wT (qB gJ) <| wZ) ?_
  refine jA ?_
  have bn22 : QL (N4 ra rb rc rd) 3 := (jW (Eq.symm (show ((nq ra rb rc rd : Int) : Rat) = (N4 ra rb rc rd) from rfl)) (kQ (z := (nq ra rb rc rd)) (jO (by omega) (by omega)) (by decide)))
  have bn23 : QL (N4 la lb lc ld) 3 := (jW (Eq.symm (show ((nq la lb lc ld : Int) : Rat) = (N4 la lb lc ld) from rfl)) (kQ (z := (nq la lb lc ld)) (jO (by omega) (by omega)) (by decide)))
  have bn24 : QL (mO la lb lc ld ra rb rc rd) 13 := (jW (Eq.symm (dq0_eq la lb lc ld ra rb rc rd)) (kR (k := 13) (jH (k := 6) bn6 bn22 (by decide)) (jH (k := 6) bn15 bn23 (by decide)) (by decide)))
  have bn25 : QL (mN la lb lc ld ra rb rc rd) 13 := (jW (Eq.symm (dq1_eq la lb lc ld ra rb rc rd)) (kR (k := 13) (jH (k := 6) bn9 bn22 (by decide)) (jH (k := 6) bn18 bn23 (by decide)) (by decide)))
  have bn26 : QL (mM la lb lc ld ra rb rc rd) 13 := (jW (Eq.symm (dq2_eq la lb lc ld ra rb rc rd)) (kR (k := 13) (jH (k := 6) bn12 bn22 (by decide)) (jH (k := 6) bn21 bn23 (by decide)) (by decide)))
  refine kd [(11, (.ref 6 0))] [(6, some (bx (jP (A3.mk (jB (mO la lb lc ld ra rb rc rd)) (jB (mN la lb lc ld ra rb rc rd)) (jB (mM la lb lc ld ra rb rc rd))))))] mo (wE (vF vH 2) <| wR (kC qO) <| wE (qE nG) <| wE (qE zY) <| wR (kC zV) <| wE (kA (q_norm ra rb rc rd (by omega) (by omega) (by omega) (by omega))) <| wE (kA (by have h := gX (nq ra rb rc rd) (by omega) (by omega); rw [(show ((nq ra rb rc rd : Int) : Rat) = (N4 ra rb rc rd) from rfl)] at h; exact h)) <| wE (kA (nJ (uL la lb lc ld) (uN la lb lc ld) (uO la lb lc ld) (qu bn6) (qu bn9) (qu bn12) (N4 ra rb rc rd) (qu bn22))) <| wE (vF vH 2) <| wR (kC qO) <| wE (qE nF) <| wE (qE zY) <| wR (kC zV) <| wE (kA (q_norm la lb lc ld (by omega) (by omega) (by omega) (by omega))) <| wE (kA (by have h := gX (nq la lb lc ld) (by omega) (by omega); rw [(show ((nq la lb lc ld : Int) : Rat) = (N4 la lb lc ld) from rfl)] at h; exact h)) <| wE (kA (nJ (uL ra rb rc rd) (uN ra rb rc rd) (uO ra rb rc rd) (qu bn15) (qu bn18) (qu bn21) (N4 la lb lc ld) (qu bn23))) <| wE (kA (by have h := q_sum ((uL la lb lc ld) * (N4 ra rb rc rd)) ((uN la lb lc ld) * (N4 ra rb rc rd)) ((uO la lb lc ld) * (N4 ra rb rc rd)) (kJ (jH (k := 6) bn6 bn22 (by decide)) (by decide)) (kJ (jH (k := 6) bn9 bn22 (by decide)) (by decide)) (kJ (jH (k := 6) bn12 bn22 (by decide)) (by decide)) ((uL ra rb rc rd) * (N4 la lb lc ld)) ((uN ra rb rc rd) * (N4 la lb lc ld)) ((uO ra rb rc rd) * (N4 la lb lc ld)) (kJ (jH (k := 6) bn15 bn23 (by decide)) (by decide)) (kJ (jH (k := 6) bn18 bn23 (by decide)) (by decide)) (kJ (jH (k := 6) bn21 bn23 (by decide)) (by decide)); rw [(dq0_eq la lb lc ld ra rb rc rd), (dq1_eq la lb lc ld ra rb rc rd), (dq2_eq la lb lc ld ra rb rc rd)] at h; exact h)) <| wN (qS 6 yN yO) <| wT (qB qO) <| wZ) ?_
  refine jA ?_
  have bn27 : QL (b0 * (yC b0 b1 b2)) 6 := (jH (k := 6) bn1 (xZ (n := 3) (k := 3) bn1 bn2 bn3 (by decide) (by decide)) (by decide))
  have bn28 : QL (b1 * (yC b0 b1 b2)) 6 := (jH (k := 6) bn2 (xZ (n := 3) (k := 3) bn1 bn2 bn3 (by decide) (by decide)) (by decide))
  have bn29 : QL (b2 * (yC b0 b1 b2)) 6 := (jH (k := 6) bn3 (xZ (n := 3) (k := 3) bn1 bn2 bn3 (by decide) (by decide)) (by decide))
  refine kd [] [(1, some y1)] mo (wM <| wM <| wE oNc <| wE (qE fU) <| wR (kC qO) <| wE (kA (q_red b0 b1 b2 (qu bn1) (qu bn2) (qu bn3) hzb)) <| wE oNc <| wE (qE yJ) <| wE (vF vH 0) <| wT (qB qO) <| wZ) ?_
  refine jA ?_
  have bn30 : QL (((mN la lb lc ld ra rb rc rd) * (b2 * (yC b0 b1 b2))) - ((mM la lb lc ld ra rb rc rd) * (b1 * (yC b0 b1 b2)))) 39 := (qP (k := 39) (jH (k := 19) bn25 bn29 (by decide)) (jH (k := 19) bn26 bn28 (by decide)) (by decide))
  have bn31 : QL (((mM la lb lc ld ra rb rc rd) * (b0 * (yC b0 b1 b2))) - ((mO la lb lc ld ra rb rc rd) * (b2 * (yC b0 b1 b2)))) 39 := (qP (k := 39) (jH (k := 19) bn26 bn27 (by decide)) (jH (k := 19) bn24 bn29 (by decide)) (by decide))
  have bn32 : QL (((mO la lb lc ld ra rb rc rd) * (b1 * (yC b0 b1 b2))) - ((mN la lb lc ld ra rb rc rd) * (b0 * (yC b0 b1 b2)))) 39 := (qP (k := 39) (jH (k := 19) bn24 bn28 (by decide)) (jH (k := 19) bn25 bn27 (by decide)) (by decide))
  refine kd [(12, (.ref 7 0))] [(7, some y3)] mo (wR (kC qO) <| wM <| wE oNc <| wE (qE yJ) <| wE (vF vH 0) <| wR (kC qO) <| wE (kA (q_cross (mO la lb lc ld ra rb rc rd) (mN la lb lc ld ra rb rc rd) (mM la lb lc ld ra rb rc rd) (qu bn24) (qu bn25) (qu bn26) (b0 * (yC b0 b1 b2)) (b1 * (yC b0 b1 b2)) (b2 * (yC b0 b1 b2)) (qu bn27) (qu bn28) (qu bn29))) <| wN (qS 7 yN yO) <| wT (qB qO) <| wZ) ?_
  refine jA <| jA <| kx [(103, (vb true))] [] (zR (kC qO) <| zE (vB true (kA (q_isz (((mN la lb lc ld ra rb rc rd) * (b2 * (yC b0 b1 b2))) - ((mM la lb lc ld ra rb rc rd) * (b1 * (yC b0 b1 b2)))) (((mM la lb lc ld ra rb rc rd) * (b0 * (yC b0 b1 b2))) - ((mO la lb lc ld ra rb rc rd) * (b2 * (yC b0 b1 b2)))) (((mO la lb lc ld ra rb rc rd) * (b1 * (yC b0 b1 b2))) - ((mN la lb lc ld ra rb rc rd) * (b0 * (yC b0 b1 b2)))) (qu bn30) (qu bn31) (qu bn32))) (by exact hzs)) <| zZ) ?_
  refine kS ?_
  refine jA <| qM (wk (l := [(6, (.ref 1 0)), (12, (.ref 7 0)), (103, (vb true))]) (b := [(1, some y1), (7, some y3)])) ?_
  refine kx [(2, (.d (.val (.pointer none)))), (3, (kX 13))] [] (zM <| zM <| zZ) ?_
  refine jJ ⟨_, (.tmp (d := (.val (.pointer none))) rfl (.tmp (d := (.val (.int .i64 (((13 : Nat) : Int))))) rfl .nil)), ?_⟩
  rfl
theorem q_rec (lx ly lz la lb lc ld lf lu lv rx ry rz ra rb rc rd rf ru rv : Int) (b0 b1 b2 e00 e01 e02 e10 e11 e12 e20 e21 e22 : Rat) (hF : RFr lx ly lz la lb lc ld rx ry rz ra rb rc rd b0 b1 b2 e00 e01 e02 e10 e11 e12 e20 e21 e22) (uR : QL b0 3) (uP : QL b1 3) (uQ : QL b2 3) (kM : QL e00 400) (kK : QL e01 400) (kL : QL e02 400) (kO : QL e10 400) (kP : QL e11 400) (kN : QL e12 400) (kH : QL e20 400) (kG : QL e21 400) (kI : QL e22 400) (hl : qV lx ly lz lu lv lf la lb lc ld = 0) (hr : qV rx ry rz ru rv rf ra rb rc rd = 0) (hup : upV la lb lc ld ra rb rc rd b0 b1 b2 = false) : kE Tryz.prog 68 [(qA (kV.mk (jX.mk (jM.mk lx ly lz) (jK.mk la lb lc ld) lf (jZ.mk lu lv)) (jX.mk (jM.mk rx ry rz) (jK.mk ra rb rc rd) rf (jZ.mk ru rv))))] (.tup [(.cptr 1000001 (qH.cells (yZ (RRp.mk (jX.mk (jM.mk lx ly lz) (jK.mk la lb lc ld) lf (jZ.mk lu lv)) (jX.mk (jM.mk rx ry rz) (jK.mk ra rb rc rd) rf (jZ.mk ru rv)) (A3.mk (jB b0) (jB b1) (jB b2)) (A3.mk (A3.mk (jB e00) (jB e01) (jB e02)) (A3.mk (jB e10) (jB e11) (jB e12)) (A3.mk (jB e20) (jB e21) (jB e22)))))) 0), (.val (.int .i64 (0)))]) := by
 have hbl := uB hl
 have hbr := uB hr
 obtain ⟨hlx, hly, hlz, hlu, hlv, hlf, hlq⟩ := hbl
 obtain ⟨hrx, hry, hrz, hru, hrv, hrf, hrq⟩ := hbr
 obtain ⟨hla, hlb, hlc, hld, -⟩ := uA hlq
 obtain ⟨hra, hrb, hrc, hrd, -⟩ := uA hrq
 have hnl := xV hla hlb hlc hld
 have hnr := xV hra hrb hrc hrd
 have hF2 := hF
 unfold RFr at hF2
 obtain ⟨hb0, hb1, hb2, he00, he01, he02, he10, he11, he12, he20, he21, he22⟩ := hF2
 have hzb := fr_zb hF hup
 have hzs := fr_zs hF hup
 have hzt := fr_zt hF hup
 let y6 := (A3.mk (jQ.mk (jF.mk false []) (jF.mk false [])) (jQ.mk (jF.mk false []) (jF.mk false [])) (jQ.mk (jF.mk false []) (jF.mk false [])))
 let y5 := (qA (kV.mk (jX.mk (jM.mk lx ly lz) (jK.mk la lb lc ld) lf (jZ.mk lu lv)) (jX.mk (jM.mk rx ry rz) (jK.mk ra rb rc rd) rf (jZ.mk ru rv))))
 let y4 := (bx (jP (A3.mk (jB (((mN la lb lc ld ra rb rc rd) * e02) - ((mM la lb lc ld ra rb rc rd) * e01))) (jB (((mM la lb lc ld ra rb rc rd) * e00) - ((mO la lb lc ld ra rb rc rd) * e02))) (jB (((mO la lb lc ld ra rb rc rd) * e01) - ((mN la lb lc ld ra rb rc rd) * e00))))))
 let y3 := (yZ (RRp.mk (jX.mk (jM.mk lx ly lz) (jK.mk la lb lc ld) lf (jZ.mk lu lv)) (jX.mk (jM.mk rx ry rz) (jK.mk ra rb rc rd) rf (jZ.mk ru rv)) (A3.mk (jB b0) (jB b1) (jB b2)) (A3.mk (A3.mk (jB e00) (jB e01) (jB e02)) (A3.mk (jB e10) (jB e11) (jB e12)) (A3.mk (jB e20) (jB e21) (jB e22)))))
 let y2 := (A3.mk y6 y6 y6)
 let y1 := (bx (yZ (RRp.mk (jX.mk (jM.mk lx ly lz) (jK.mk la lb lc ld) lf (jZ.mk lu lv)) (jX.mk (jM.mk rx ry rz) (jK.mk ra rb rc rd) rf (jZ.mk ru rv)) (A3.mk (jB b0) (jB b1) (jB b2)) (A3.mk (A3.mk (jB e00) (jB e01) (jB e02)) y6 y6))))
 refine jN Tryz.func68 rfl cb68 rfl ?_
 show uT _ _ _ _ ⟨[(0, (.d y5))], []⟩
 refine jA <| kx [(1, (.ref 0 0))] [(0, some (bx y5))] (zN (uX 0) <| zM <| zM <| zZ) ?_
 refine jA <| jA <| kx [(4, (kX (qV lx ly lz lu lv lf la lb lc ld)))] [] (zE (qE nF) <| zR (kC xK) <| zE (kA (q_stn lx ly lz la lb lc ld lf lu lv)) <| zM <| zZ) ?_
 refine jA <| kx [(17, (vb false))] [] (zM <| zE (vB false eI (by exact bne_eq_false_iff_eq.2 (by rw [show (qV lx ly lz lu lv lf la lb lc ld) = 0 from hl]; rfl))) <| zZ) ?_
 refine kY ?_
 refine jE <| jA <| jA <| kx [(5, (kX (qV rx ry rz ru rv rf ra rb rc rd)))] [] (zE (qE nG) <| zR (kC xK) <| zE (kA (q_stn rx ry rz ra rb rc rd rf ru rv)) <| zM <| zZ) ?_
 refine jA <| kx [(23, (vb false))] [] (zM <| zE (vB false eI (by exact bne_eq_false_iff_eq.2 (by rw [show (qV rx ry rz ru rv rf ra rb rc rd) = 0 from hr]; rfl))) <| zZ) ?_
 refine kY ?_
 refine jE <| jA <| kx [(6, (.ref 1 0))] [(1, some (bx (yZ (RRp.mk (jX.mk (jM.mk lx ly lz) (jK.mk la lb lc ld) lf (jZ.mk lu lv)) (jX.mk (jM.mk rx ry rz) (jK.mk ra rb rc rd) rf (jZ.mk ru rv)) y6 y2))))] (zE (qE nF) <| zR (kC xK) <| zE (qE nG) <| zR (kC xK) <| zE (fK pl134 ze134 zo134) <| zN (uX 1) <| zM <| zZ) ?_
 refine jA <| kd [(7, (.ref 2 0)), (8, (.ref 3 0))] [(2, some (bx (eQ (jM.mk lx ly lz)))), (3, some (bx (eQ (jM.mk rx ry rz))))] mo (wE (qE nF) <| wE (qE yP) <| wR (kC sh23) <| wE (qE nG) <| wE (qE yP) <| wR (kC sh23) <| wN (qS 2 ze23 zo23) <| wN (qS 3 ze23 zo23) <| wT (qB sh23) <| wT (qB sh23) <| wZ) ?_
 refine jA ?_
 have bn1 : QL b0 3 := (jW (Eq.symm hb0) (qi (rx - lx)))
 have bn2 : QL b1 3 := (jW (Eq.symm hb1) (qi (ry - ly)))
 have bn3 : QL b2 3 := (jW (Eq.symm hb2) (qi (rz - lz)))
 refine kx [] [(1, some (bx (yZ (RRp.mk (jX.mk (jM.mk lx ly lz) (jK.mk la lb lc ld) lf (jZ.mk lu lv)) (jX.mk (jM.mk rx ry rz) (jK.mk ra rb rc rd) rf (jZ.mk ru rv)) (A3.mk (jB b0) (jB b1) (jB b2)) y2))))] (zM <| zE (qE mV) <| zR (vD vQ) <| zE (qE mV) <| zR (vD vQ) <| zE (fJ (rx - lx) (hr := by exact (qX rfl (by simp only [xG]; omega) (by simp only [xJ]; omega)))) <| zE (qE cN) <| zR (vD vQ) <| zE (qE cN) <| zR (vD vQ) <| zE (fJ (ry - ly) (hr := by exact (qX rfl (by simp only [xG]; omega) (by simp only [xJ]; omega)))) <| zE (qE cL) <| zR (vD vQ) <| zE (qE cL) <| zR (vD vQ) <| zE (fJ (rz - lz) (hr := by exact (qX rfl (by simp only [xG]; omega) (by simp only [xJ]; omega)))) <| zE (kA (by have h := q_whole (rx - lx) (by omega) (by omega) (ry - ly) (by omega) (by omega) (rz - lz) (by omega) (by omega); rw [hb0, hb1, hb2] at h; exact h)) <| zE oNc <| zE (qE fU) <| zT (qB qO) <| zZ) ?_
 refine jA <| jA <| kx [(58, (vb (decide ([lx, ly, lz] = [rx, ry, rz]))))] [] (zR (kC sh23) <| zR (kC sh23) <| zE (oEs eqs23 .i64 [lx, ly, lz] [rx, ry, rz]) <| zZ) ?_
 refine jY (b := (decide ([lx, ly, lz] = [rx, ry, rz]))) rfl (fun h1 => ?_) (fun h1 => ?_)
 ·replace h1 := of_decide_eq_true h1
  exact absurd (zb_eq hb0 hb1 hb2 h1) (by rw [hzb]; decide)
 ·replace h1 := of_decide_eq_false h1
  refine jE <| jA ?_
  have bn4 : QL (vY la lb lc ld) 3 := (cY)
  have bn5 : QL (vX la lb lc ld) 3 := (dC)
  have bn6 : QL (uL la lb lc ld) 3 := (nV)
  have bn7 : QL (xA la lb lc ld) 3 := (cT)
  have bn8 : QL (xB la lb lc ld) 3 := (dB)
  have bn9 : QL (uN la lb lc ld) 3 := (nW)
  have bn10 : QL (xD la lb lc ld) 3 := (cO)
  have bn11 : QL (xF la lb lc ld) 3 := (cX)
  have bn12 : QL (uO la lb lc ld) 3 := (nT)
  have bn13 : QL (vY ra rb rc rd) 3 := (cY)
  have bn14 : QL (vX ra rb rc rd) 3 := (dC)
  have bn15 : QL (uL ra rb rc rd) 3 := (nV)
  have bn16 : QL (xA ra rb rc rd) 3 := (cT)
  have bn17 : QL (xB ra rb rc rd) 3 := (dB)
  have bn18 : QL (uN ra rb rc rd) 3 := (nW)
  have bn19 : QL (xD ra rb rc rd) 3 := (cO)
  have bn20 : QL (xF ra rb rc rd) 3 := (cX)
  have bn21 : QL (uO ra rb rc rd) 3 := (nT)
  refine kd [(9, (.ref 4 0)), (10, (.ref 5 0))] [(4, some (bx (qW (A3.mk (A3.mk (jB (vY la lb lc ld)) (jB (xA la lb lc ld)) (jB (xD la lb lc ld))) (A3.mk (jB (vX la lb lc ld)) (jB (xB la lb lc ld)) (jB (xF la lb lc ld))) (A3.mk (jB (uL la lb lc ld)) (jB (uN la lb lc ld)) (jB (uO la lb lc ld))))))), (5, some (bx (qW (A3.mk (A3.mk (jB (vY ra rb rc rd)) (jB (xA ra rb rc rd)) (jB (xD ra rb rc rd))) (A3.mk (jB (vX ra rb rc rd)) (jB (xB ra rb rc rd)) (jB (xF ra rb rc rd))) (A3.mk (jB (uL ra rb rc rd)) (jB (uN ra rb rc rd)) (jB (uO ra rb rc rd)))))))] mo (wE (qE nF) <| wE (qE zY) <| wR (kC zV) <| wE (kA (fY la lb lc ld (by omega) (by omega) (by omega) (by omega) hlq)) <| wE (kA (nX (vY la lb lc ld) (vX la lb lc ld) (uL la lb lc ld) (xA la lb lc ld) (xB la lb lc ld) (uN la lb lc ld) (xD la lb lc ld) (xF la lb lc ld) (uO la lb lc ld) (qu bn4) (qu bn5) (qu bn6) (qu bn7) (qu bn8) (qu bn9) (qu bn10) (qu bn11) (qu bn12))) <| wE (qE nG) <| wE (qE zY) <| wR (kC zV) <| wE (kA (fY ra rb rc rd (by omega) (by omega) (by omega) (by omega) hrq)) <| wE (kA (nX (vY ra rb rc rd) (vX ra rb rc rd) (uL ra rb rc rd) (xA ra rb rc rd) (xB ra rb rc rd) (uN ra rb rc rd) (xD ra rb rc rd) (xF ra rb rc rd) (uO ra rb rc rd) (qu bn13) (qu bn14) (qu bn15) (qu bn16) (qu bn17) (qu bn18) (qu bn19) (qu bn20) (qu bn21))) <| wN (qS 4 dQ dM) <| wN (qS 5 dQ dM) <| wT (qB gJ) <| wT (qB gJ) <| wZ) ?_
  refine jA ?_
  have bn22 : QL (N4 ra rb rc rd) 3 := (jW (Eq.symm (show ((nq ra rb rc rd : Int) : Rat) = (N4 ra rb rc rd) from rfl)) (kQ (z := (nq ra rb rc rd)) (jO (by omega) (by omega)) (by decide)))
  have bn23 : QL (N4 la lb lc ld) 3 := (jW (Eq.symm (show ((nq la lb lc ld : Int) : Rat) = (N4 la lb lc ld) from rfl)) (kQ (z := (nq la lb lc ld)) (jO (by omega) (by omega)) (by decide)))
  have bn24 : QL (mO la lb lc ld ra rb rc rd) 13 := (jW (Eq.symm (dq0_eq la lb lc ld ra rb rc rd)) (kR (k := 13) (jH (k := 6) bn6 bn22 (by decide)) (jH (k := 6) bn15 bn23 (by decide)) (by decide)))
  have bn25 : QL (mN la lb lc ld ra rb rc rd) 13 := (jW (Eq.symm (dq1_eq la lb lc ld ra rb rc rd)) (kR (k := 13) (jH (k := 6) bn9 bn22 (by decide)) (jH (k := 6) bn18 bn23 (by decide)) (by decide)))
  have bn26 : QL (mM la lb lc ld ra rb rc rd) 13 := (jW (Eq.symm (dq2_eq la lb lc ld ra rb rc rd)) (kR (k := 13) (jH (k := 6) bn12 bn22 (by decide)) (jH (k := 6) bn21 bn23 (by decide)) (by decide)))
  refine kd [(11, (.ref 6 0))] [(6, some (bx (jP (A3.mk (jB (mO la lb lc ld ra rb rc rd)) (jB (mN la lb lc ld ra rb rc rd)) (jB (mM la lb lc ld ra rb rc rd))))))] mo (wE (vF vH 2) <| wR (kC qO) <| wE (qE nG) <| wE (qE zY) <| wR (kC zV) <| wE (kA (q_norm ra rb rc rd (by omega) (by omega) (by omega) (by omega))) <| wE (kA (by have h := gX (nq ra rb rc rd) (by omega) (by omega); rw [(show ((nq ra rb rc rd : Int) : Rat) = (N4 ra rb rc rd) from rfl)] at h; exact h)) <| wE (kA (nJ (uL la lb lc ld) (uN la lb lc ld) (uO la lb lc ld) (qu bn6) (qu bn9) (qu bn12) (N4 ra rb rc rd) (qu bn22))) <| wE (vF vH 2) <| wR (kC qO) <| wE (qE nF) <| wE (qE zY) <| wR (kC zV) <| wE (kA (q_norm la lb lc ld (by omega) (by omega) (by omega) (by omega))) <| wE (kA (by have h := gX (nq la lb lc ld) (by omega) (by omega); rw [(show ((nq la lb lc ld : Int) : Rat) = (N4 la lb lc ld) from rfl)] at h; exact h)) <| wE (kA (nJ (uL ra rb rc rd) (uN ra rb rc rd) (uO ra rb rc rd) (qu bn15) (qu bn18) (qu bn21) (N4 la lb lc ld) (qu bn23))) <| wE (kA (by have h := q_sum ((uL la lb lc ld) * (N4 ra rb rc rd)) ((uN la lb lc ld) * (N4 ra rb rc rd)) ((uO la lb lc ld) * (N4 ra rb rc rd)) (kJ (jH (k := 6) bn6 bn22 (by decide)) (by decide)) (kJ (jH (k := 6) bn9 bn22 (by decide)) (by decide)) (kJ (jH (k := 6) bn12 bn22 (by decide)) (by decide)) ((uL ra rb rc rd) * (N4 la lb lc ld)) ((uN ra rb rc rd) * (N4 la lb lc ld)) ((uO ra rb rc rd) * (N4 la lb lc ld)) (kJ (jH (k := 6) bn15 bn23 (by decide)) (by decide)) (kJ (jH (k := 6) bn18 bn23 (by decide)) (by decide)) (kJ (jH (k := 6) bn21 bn23 (by decide)) (by decide)); rw [(dq0_eq la lb lc ld ra rb rc rd), (dq1_eq la lb lc ld ra rb rc rd), (dq2_eq la lb lc ld ra rb rc rd)] at h; exact h)) <| wN (qS 6 yN yO) <| wT (qB qO) <| wZ) ?_
  refine jA ?_
  have bn27 : QL e00 6 := (jW (Eq.symm he00) (jH (k := 6) bn1 (xZ (n := 3) (k := 3) bn1 bn2 bn3 (by decide) (by decide)) (by decide)))
  have bn28 : QL e01 6 := (jW (Eq.symm he01) (jH (k := 6) bn2 (xZ (n := 3) (k := 3) bn1 bn2 bn3 (by decide) (by decide)) (by decide)))
  have bn29 : QL e02 6 := (jW (Eq.symm he02) (jH (k := 6) bn3 (xZ (n := 3) (k := 3) bn1 bn2 bn3 (by decide) (by decide)) (by decide)))
  refine kd [] [(1, some y1)] mo (wM <| wM <| wE oNc <| wE (qE fU) <| wR (kC qO) <| wE (kA (by have h := q_red b0 b1 b2 (qu bn1) (qu bn2) (qu bn3) hzb; rw [he00, he01, he02] at h; exact h)) <| wE oNc <| wE (qE yJ) <| wE (vF vH 0) <| wT (qB qO) <| wZ) ?_
  refine jA ?_
  have bn30 : QL (((mN la lb lc ld ra rb rc rd) * e02) - ((mM la lb lc ld ra rb rc rd) * e01)) 39 := (qP (k := 39) (jH (k := 19) bn25 bn29 (by decide)) (jH (k := 19) bn26 bn28 (by decide)) (by decide))
  have bn31 : QL (((mM la lb lc ld ra rb rc rd) * e00) - ((mO la lb lc ld ra rb rc rd) * e02)) 39 := (qP (k := 39) (jH (k := 19) bn26 bn27 (by decide)) (jH (k := 19) bn24 bn29 (by decide)) (by decide))
  have bn32 : QL (((mO la lb lc ld ra rb rc rd) * e01) - ((mN la lb lc ld ra rb rc rd) * e00)) 39 := (qP (k := 39) (jH (k := 19) bn24 bn28 (by decide)) (jH (k := 19) bn25 bn27 (by decide)) (by decide))
  refine kd [(12, (.ref 7 0))] [(7, some y4)] mo (wR (kC qO) <| wM <| wE oNc <| wE (qE yJ) <| wE (vF vH 0) <| wR (kC qO) <| wE (kA (q_cross (mO la lb lc ld ra rb rc rd) (mN la lb lc ld ra rb rc rd) (mM la lb lc ld ra rb rc rd) (qu bn24) (qu bn25) (qu bn26) e00 e01 e02 (qu bn27) (qu bn28) (qu bn29))) <| wN (qS 7 yN yO) <| wT (qB qO) <| wZ) ?_
  refine jA <| jA <| kx [(103, (vb false))] [] (zR (kC qO) <| zE (vB false (kA (q_isz (((mN la lb lc ld ra rb rc rd) * e02) - ((mM la lb lc ld ra rb rc rd) * e01)) (((mM la lb lc ld ra rb rc rd) * e00) - ((mO la lb lc ld ra rb rc rd) * e02)) (((mO la lb lc ld ra rb rc rd) * e01) - ((mN la lb lc ld ra rb rc rd) * e00)) (qu bn30) (qu bn31) (qu bn32))) (by exact hzs)) <| zZ) ?_
  refine kY ?_
  refine jE <| jA <| qM (wk (l := [(6, (.ref 1 0)), (12, (.ref 7 0)), (103, (vb false))]) (b := [(1, some y1), (7, some y4)])) ?_
  have bn33 : QL e10 78 := (jW (Eq.symm he10) (jH (k := 78) bn30 (xZ (n := 39) (k := 39) bn30 bn31 bn32 (by decide) (by decide)) (by decide)))
  have bn34 : QL e11 78 := (jW (Eq.symm he11) (jH (k := 78) bn31 (xZ (n := 39) (k := 39) bn30 bn31 bn32 (by decide) (by decide)) (by decide)))
  have bn35 : QL e12 78 := (jW (Eq.symm he12) (jH (k := 78) bn32 (xZ (n := 39) (k := 39) bn30 bn31 bn32 (by decide) (by decide)) (by decide)))
  refine kd [] [(1, some (bx (yZ (RRp.mk (jX.mk (jM.mk lx ly lz) (jK.mk la lb lc ld) lf (jZ.mk lu lv)) (jX.mk (jM.mk rx ry rz) (jK.mk ra rb rc rd) rf (jZ.mk ru rv)) (A3.mk (jB b0) (jB b1) (jB b2)) (A3.mk (A3.mk (jB e00) (jB e01) (jB e02)) (A3.mk (jB e10) (jB e11) (jB e12)) y6)))))] mo (wM <| wR (kC qO) <| wE (kA (by have h := q_red (((mN la lb lc ld ra rb rc rd) * e02) - ((mM la lb lc ld ra rb rc rd) * e01)) (((mM la lb lc ld ra rb rc rd) * e00) - ((mO la lb lc ld ra rb rc rd) * e02)) (((mO la lb lc ld ra rb rc rd) * e01) - ((mN la lb lc ld ra rb rc rd) * e00)) (qu bn30) (qu bn31) (qu bn32) hzs; rw [he10, he11, he12] at h; exact h)) <| wE oNc <| wE (qE yJ) <| wE (vF vH 1) <| wT (qB qO) <| wZ) ?_
  refine jA ?_
  have bn36 : QL ((e01 * e12) - (e02 * e11)) 169 := (qP (k := 169) (jH (k := 84) bn28 bn35 (by decide)) (jH (k := 84) bn29 bn34 (by decide)) (by decide))
  have bn37 : QL ((e02 * e10) - (e00 * e12)) 169 := (qP (k := 169) (jH (k := 84) bn29 bn33 (by decide)) (jH (k := 84) bn27 bn35 (by decide)) (by decide))
  have bn38 : QL ((e00 * e11) - (e01 * e10)) 169 := (qP (k := 169) (jH (k := 84) bn27 bn34 (by decide)) (jH (k := 84) bn28 bn33 (by decide)) (by decide))
  have bn39 : QL e20 338 := (jW (Eq.symm he20) (jH (k := 338) bn36 (xZ (n := 169) (k := 169) bn36 bn37 bn38 (by decide) (by decide)) (by decide)))
  have bn40 : QL e21 338 := (jW (Eq.symm he21) (jH (k := 338) bn37 (xZ (n := 169) (k := 169) bn36 bn37 bn38 (by decide) (by decide)) (by decide)))
  have bn41 : QL e22 338 := (jW (Eq.symm he22) (jH (k := 338) bn38 (xZ (n := 169) (k := 169) bn36 bn37 bn38 (by decide) (by decide)) (by decide)))
  refine kd [] [(1, some (bx y3))] mo (wM <| wM <| wE oNc <| wE (qE yJ) <| wE (vF vH 0) <| wR (kC qO) <| wM <| wE oNc <| wE (qE yJ) <| wE (vF vH 1) <| wR (kC qO) <| wE (kA (q_cross e00 e01 e02 (qu bn27) (qu bn28) (qu bn29) e10 e11 e12 (qu bn33) (qu bn34) (qu bn35))) <| wE (kA (by have h := q_red ((e01 * e12) - (e02 * e11)) ((e02 * e10) - (e00 * e12)) ((e00 * e11) - (e01 * e10)) (qu bn36) (qu bn37) (qu bn38) hzt; rw [he20, he21, he22] at h; exact h)) <| wE oNc <| wE (qE yJ) <| wE (vF vH 2) <| wT (qB qO) <| wZ) ?_
  refine jA <| qM (publishP (t := 6) (k := 1) (o := 0) (T := 1000001) (cs := (qH.cells y3)) rfl rfl) ?_
  refine kx [(2, (.d (.cptr 1000001 (qH.cells y3) 0))), (3, (kX 0))] [] (zM <| zM <| zM <| zZ) ?_
  refine jJ ⟨_, (.tmp (d := (.cptr 1000001 (qH.cells (yZ (RRp.mk (jX.mk (jM.mk lx ly lz) (jK.mk la lb lc ld) lf (jZ.mk lu lv)) (jX.mk (jM.mk rx ry rz) (jK.mk ra rb rc rd) rf (jZ.mk ru rv)) (A3.mk (jB b0) (jB b1) (jB b2)) (A3.mk (A3.mk (jB e00) (jB e01) (jB e02)) (A3.mk (jB e10) (jB e11) (jB e12)) (A3.mk (jB e20) (jB e21) (jB e22)))))) 0)) rfl (.tmp (d := (.val (.int .i64 (((0 : Nat) : Int))))) rfl .nil)), ?_⟩
  rfl
theorem qs_preE1 (lx ly lz la lb lc ld lf lu lv rx ry rz ra rb rc rd rf ru rv : Int) (c : Nat) (hc : stn2 (qV lx ly lz lu lv lf la lb lc ld) (qV rx ry rz ru rv rf ra rb rc rd) = c) (hc0 : c ≠ 0) : kE Tryz.prog 14 [(qA (kV.mk (jX.mk (jM.mk lx ly lz) (jK.mk la lb lc ld) lf (jZ.mk lu lv)) (jX.mk (jM.mk rx ry rz) (jK.mk ra rb rc rd) rf (jZ.mk ru rv))))] (.tup [(xX (aH.mk (kV.mk (jX.mk (jM.mk lx ly lz) (jK.mk la lb lc ld) lf (jZ.mk lu lv)) (jX.mk (jM.mk rx ry rz) (jK.mk ra rb rc rd) rf (jZ.mk ru rv))) (A3.mk (jQ.mk (jF.mk false []) (jF.mk false [])) (jQ.mk (jF.mk false []) (jF.mk false [])) (jQ.mk (jF.mk false []) (jF.mk false []))) (A3.mk (A3.mk (jQ.mk (jF.mk false []) (jF.mk false [])) (jQ.mk (jF.mk false []) (jF.mk false [])) (jQ.mk (jF.mk false []) (jF.mk false []))) (A3.mk (jQ.mk (jF.mk false []) (jF.mk false [])) (jQ.mk (jF.mk false []) (jF.mk false [])) (jQ.mk (jF.mk false []) (jF.mk false []))) (A3.mk (jQ.mk (jF.mk false []) (jF.mk false [])) (jQ.mk (jF.mk false []) (jF.mk false [])) (jQ.mk (jF.mk false []) (jF.mk false [])))))), (.val (.int .i64 (((c : Nat) : Int))))]) := by
 let y4 := (A3.mk (jQ.mk (jF.mk false []) (jF.mk false [])) (jQ.mk (jF.mk false []) (jF.mk false [])) (jQ.mk (jF.mk false []) (jF.mk false [])))
 let y3 := (qA (kV.mk (jX.mk (jM.mk lx ly lz) (jK.mk la lb lc ld) lf (jZ.mk lu lv)) (jX.mk (jM.mk rx ry rz) (jK.mk ra rb rc rd) rf (jZ.mk ru rv))))
 let y2 := (A3.mk y4 y4 y4)
 let y1 := (bx (xX (aH.mk (kV.mk (jX.mk (jM.mk lx ly lz) (jK.mk la lb lc ld) lf (jZ.mk lu lv)) (jX.mk (jM.mk rx ry rz) (jK.mk ra rb rc rd) rf (jZ.mk ru rv))) y4 y2)))
 refine jN Tryz.func14 rfl cb14 rfl ?_
 show uT _ _ _ _ ⟨[(0, (.d y3))], []⟩
 refine jA <| kx [(1, (.ref 0 0)), (2, (.ref 1 0))] [(0, some (bx y3)), (1, some (bx (xX (aH.mk (kV.mk (jX.mk (jM.mk 0 0 0) (jK.mk 0 0 0 0) 0 (jZ.mk 0 0)) (jX.mk (jM.mk 0 0 0) (jK.mk 0 0 0 0) 0 (jZ.mk 0 0))) y4 y2))))] (zN (uX 0) <| zN (qS 1 ze47 zo47) <| zM <| zZ) ?_
 refine jA <| kx [(4, (.ref 2 0))] [(2, some y1)] (zR (kC gV) <| zE (fK pl47 ze47 zo47) <| zN (qS 2 ze47 zo47) <| zT (qB hN) <| zZ) ?_
 refine jA <| jA <| kx [(19, (vl 29 10 uI [(jX.mk (jM.mk lx ly lz) (jK.mk la lb lc ld) lf (jZ.mk lu lv)), (jX.mk (jM.mk rx ry rz) (jK.mk ra rb rc rd) rf (jZ.mk ru rv))])), (20, (kX 2)), (21, (kX 0))] [] (zE (qE nF) <| zR (kC xK) <| zE (qE nG) <| zR (kC xK) <| zE (cH el140 eL eH) <| zE (oLn el140 2) <| zM <| zZ) ?_
 refine jG <| qU 20 ?_
 refine uF <| jA <| kx [(22, (vb true))] [] (zE (vB true uW) <| zZ) ?_
 refine jA <| kS ?_
 refine jE <| jA <| jG <| jA <| kx [(6, (.ref 3 0))] [(3, some (bx (uI (jX.mk (jM.mk lx ly lz) (jK.mk la lb lc ld) lf (jZ.mk lu lv)))))] (zE (gL el140 0) <| zE (cG xK) <| zN (qS 3 eL eH) <| zT (qB xK) <| zZ) ?_
 refine jA <| kx [(7, (kX (qV lx ly lz lu lv lf la lb lc ld)))] [] (zR (kC xK) <| zE (kA (qs_stn lx ly lz la lb lc ld lf lu lv)) <| zM <| zZ) ?_
 refine jA <| kx [(28, (vb ((((qV lx ly lz lu lv lf la lb lc ld) : Nat) : Int) != ((0 : Nat) : Int))))] [] (zM <| zE eI <| zZ) ?_
 refine jY rfl (fun h1 => ?_) (fun h1 => ?_)
 ·replace h1 := bne_iff_ne.1 h1
  refine jA <| kx [(3, (kX (qV lx ly lz lu lv lf la lb lc ld)))] [(1, some y1)] (zR (kC hN) <| zM <| zT (qB hN) <| zM <| zZ) ?_
  refine jJ ⟨_, (qI (cs := (bx (xX (aH.mk (kV.mk (jX.mk (jM.mk lx ly lz) (jK.mk la lb lc ld) lf (jZ.mk lu lv)) (jX.mk (jM.mk rx ry rz) (jK.mk ra rb rc rd) rf (jZ.mk ru rv))) (A3.mk (jQ.mk (jF.mk false []) (jF.mk false [])) (jQ.mk (jF.mk false []) (jF.mk false [])) (jQ.mk (jF.mk false []) (jF.mk false []))) (A3.mk (A3.mk (jQ.mk (jF.mk false []) (jF.mk false [])) (jQ.mk (jF.mk false []) (jF.mk false [])) (jQ.mk (jF.mk false []) (jF.mk false []))) (A3.mk (jQ.mk (jF.mk false []) (jF.mk false [])) (jQ.mk (jF.mk false []) (jF.mk false [])) (jQ.mk (jF.mk false []) (jF.mk false []))) (A3.mk (jQ.mk (jF.mk false []) (jF.mk false [])) (jQ.mk (jF.mk false []) (jF.mk false [])) (jQ.mk (jF.mk false []) (jF.mk false [])))))))) (d := (xX (aH.mk (kV.mk (jX.mk (jM.mk lx ly lz) (jK.mk la lb lc ld) lf (jZ.mk lu lv)) (jX.mk (jM.mk rx ry rz) (jK.mk ra rb rc rd) rf (jZ.mk ru rv))) (A3.mk (jQ.mk (jF.mk false []) (jF.mk false [])) (jQ.mk (jF.mk false []) (jF.mk false [])) (jQ.mk (jF.mk false []) (jF.mk false []))) (A3.mk (A3.mk (jQ.mk (jF.mk false []) (jF.mk false [])) (jQ.mk (jF.mk false []) (jF.mk false [])) (jQ.mk (jF.mk false []) (jF.mk false []))) (A3.mk (jQ.mk (jF.mk false []) (jF.mk false [])) (jQ.mk (jF.mk false []) (jF.mk false [])) (jQ.mk (jF.mk false []) (jF.mk false []))) (A3.mk (jQ.mk (jF.mk false []) (jF.mk false [])) (jQ.mk (jF.mk false []) (jF.mk false [])) (jQ.mk (jF.mk false []) (jF.mk false []))))))) rfl rfl hN rfl rfl (.tmp (d := (.val (.int .i64 ((((qV lx ly lz lu lv lf la lb lc ld) : Nat) : Int))))) rfl .nil)), ?_⟩
  rw [stn2_l h1 hc]; rfl
 ·replace h1 := bne_eq_false_iff_eq.1 h1
  refine jE <| kx [(21, (kX 1))] [] (zE (uZ 1 (hr := by decide)) <| zM <| zZ) ?_
  refine jV (kU.refl _) ?_
  refine jA <| kx [(22, (vb true))] [] (zE (vB true uW) <| zZ) ?_
  refine jA <| kS ?_
  refine jE <| jA <| jG <| jA <| kx [(6, (.ref 4 0))] [(4, some (bx (uI (jX.mk (jM.mk rx ry rz) (jK.mk ra rb rc rd) rf (jZ.mk ru rv)))))] (zE (gL el140 1) <| zE (cG xK) <| zN (qS 4 eL eH) <| zT (qB xK) <| zZ) ?_
  refine jA <| kx [(7, (kX (qV rx ry rz ru rv rf ra rb rc rd)))] [] (zR (kC xK) <| zE (kA (qs_stn rx ry rz ra rb rc rd rf ru rv)) <| zM <| zZ) ?_
  refine jA <| kx [(28, (vb ((((qV rx ry rz ru rv rf ra rb rc rd) : Nat) : Int) != ((0 : Nat) : Int))))] [] (zM <| zE eI <| zZ) ?_
  refine jY rfl (fun h2 => ?_) (fun h2 => ?_)
  ·replace h2 := bne_iff_ne.1 h2
   refine jA <| kx [(3, (kX (qV rx ry rz ru rv rf ra rb rc rd)))] [(1, some y1)] (zR (kC hN) <| zM <| zT (qB hN) <| zM <| zZ) ?_
   refine jJ ⟨_, (qI (cs := (bx (xX (aH.mk (kV.mk (jX.mk (jM.mk lx ly lz) (jK.mk la lb lc ld) lf (jZ.mk lu lv)) (jX.mk (jM.mk rx ry rz) (jK.mk ra rb rc rd) rf (jZ.mk ru rv))) (A3.mk (jQ.mk (jF.mk false []) (jF.mk false [])) (jQ.mk (jF.mk false []) (jF.mk false [])) (jQ.mk (jF.mk false []) (jF.mk false []))) (A3.mk (A3.mk (jQ.mk (jF.mk false []) (jF.mk false [])) (jQ.mk (jF.mk false []) (jF.mk false [])) (jQ.mk (jF.mk false []) (jF.mk false []))) (A3.mk (jQ.mk (jF.mk false []) (jF.mk false [])) (jQ.mk (jF.mk false []) (jF.mk false [])) (jQ.mk (jF.mk false []) (jF.mk false []))) (A3.mk (jQ.mk (jF.mk false []) (jF.mk false [])) (jQ.mk (jF.mk false []) (jF.mk false [])) (jQ.mk (jF.mk false []) (jF.mk false [])))))))) (d := (xX (aH.mk (kV.mk (jX.mk (jM.mk lx ly lz) (jK.mk la lb lc ld) lf (jZ.mk lu lv)) (jX.mk (jM.mk rx ry rz) (jK.mk ra rb rc rd) rf (jZ.mk ru rv))) (A3.mk (jQ.mk (jF.mk false []) (jF.mk false [])) (jQ.mk (jF.mk false []) (jF.mk false [])) (jQ.mk (jF.mk false []) (jF.mk false []))) (A3.mk (A3.mk (jQ.mk (jF.mk false []) (jF.mk false [])) (jQ.mk (jF.mk false []) (jF.mk false [])) (jQ.mk (jF.mk false []) (jF.mk false []))) (A3.mk (jQ.mk (jF.mk false []) (jF.mk false [])) (jQ.mk (jF.mk false []) (jF.mk false [])) (jQ.mk (jF.mk false []) (jF.mk false []))) (A3.mk (jQ.mk (jF.mk false []) (jF.mk false [])) (jQ.mk (jF.mk false []) (jF.mk false [])) (jQ.mk (jF.mk false []) (jF.mk false []))))))) rfl rfl hN rfl rfl (.tmp (d := (.val (.int .i64 ((((qV rx ry rz ru rv rf ra rb rc rd) : Nat) : Int))))) rfl .nil)), ?_⟩
   rw [stn2_r h1 hc]; rfl
  ·replace h2 := bne_eq_false_iff_eq.1 h2
   exact absurd (stn2_0 (by simpa using h1) (by simpa using h2) hc) hc0
theorem qs_preE2 (lx ly lz la lb lc ld lf lu lv rx ry rz ra rb rc rd rf ru rv : Int) (b0 b1 b2 : Rat) (uR : QL b0 3) (uP : QL b1 3) (uQ : QL b2 3) (hl : qV lx ly lz lu lv lf la lb lc ld = 0) (hr : qV rx ry rz ru rv rf ra rb rc rd = 0) (hb0 : ((rx - lx : Int) : Rat) = b0) (hb1 : ((ry - ly : Int) : Rat) = b1) (hb2 : ((rz - lz : Int) : Rat) = b2) (hup : upV la lb lc ld ra rb rc rd b0 b1 b2 = true) : kE Tryz.prog 14 [(qA (kV.mk (jX.mk (jM.mk lx ly lz) (jK.mk la lb lc ld) lf (jZ.mk lu lv)) (jX.mk (jM.mk rx ry rz) (jK.mk ra rb rc rd) rf (jZ.mk ru rv))))] (.tup [(xX (aH.mk (kV.mk (jX.mk (jM.mk lx ly lz) (jK.mk la lb lc ld) lf (jZ.mk lu lv)) (jX.mk (jM.mk rx ry rz) (jK.mk ra rb rc rd) rf (jZ.mk ru rv))) (A3.mk (jB b0) (jB b1) (jB b2)) (A3.mk (A3.mk (jQ.mk (jF.mk false []) (jF.mk false [])) (jQ.mk (jF.mk false []) (jF.mk false [])) (jQ.mk (jF.mk false []) (jF.mk false []))) (A3.mk (jQ.mk (jF.mk false []) (jF.mk false [])) (jQ.mk (jF.mk false []) (jF.mk false [])) (jQ.mk (jF.mk false []) (jF.mk false []))) (A3.mk (jQ.mk (jF.mk false []) (jF.mk false [])) (jQ.mk (jF.mk false []) (jF.mk false [])) (jQ.mk (jF.mk false []) (jF.mk false [])))))), (.val (.int .i64 (13)))]) := by
 have hbl := uB hl
 have hbr := uB hr
 obtain ⟨hlx, hly, hlz, hlu, hlv, hlf, hlq⟩ := hbl
 obtain ⟨hrx, hry, hrz, hru, hrv, hrf, hrq⟩ := hbr
 obtain ⟨hla, hlb, hlc, hld, -⟩ := uA hlq
 obtain ⟨hra, hrb, hrc, hrd, -⟩ := uA hrq
 have hnl := xV hla hlb hlc hld
 have hnr := xV hra hrb hrc hrd
 let y7 := (A3.mk (jQ.mk (jF.mk false []) (jF.mk false [])) (jQ.mk (jF.mk false []) (jF.mk false [])) (jQ.mk (jF.mk false []) (jF.mk false [])))
 let y6 := (qA (kV.mk (jX.mk (jM.mk lx ly lz) (jK.mk la lb lc ld) lf (jZ.mk lu lv)) (jX.mk (jM.mk rx ry rz) (jK.mk ra rb rc rd) rf (jZ.mk ru rv))))
 let y5 := (bx y6)
 let y4 := (A3.mk y7 y7 y7)
 let y3 := (bx (xX (aH.mk (kV.mk (jX.mk (jM.mk lx ly lz) (jK.mk la lb lc ld) lf (jZ.mk lu lv)) (jX.mk (jM.mk rx ry rz) (jK.mk ra rb rc rd) rf (jZ.mk ru rv))) (A3.mk (jB b0) (jB b1) (jB b2)) y4)))
 let y2 := (bx (xX (aH.mk (kV.mk (jX.mk (jM.mk 0 0 0) (jK.mk 0 0 0 0) 0 (jZ.mk 0 0)) (jX.mk (jM.mk 0 0 0) (jK.mk 0 0 0 0) 0 (jZ.mk 0 0))) y7 y4)))
 let y1 := (bx (xX (aH.mk (kV.mk (jX.mk (jM.mk lx ly lz) (jK.mk la lb lc ld) lf (jZ.mk lu lv)) (jX.mk (jM.mk rx ry rz) (jK.mk ra rb rc rd) rf (jZ.mk ru rv))) y7 y4)))
 refine jN Tryz.func14 rfl cb14 rfl ?_
 show uT _ _ _ _ ⟨[(0, (.d y6))], []⟩
 refine jA <| kx [(1, (.ref 0 0)), (2, (.ref 1 0))] [(0, some y5), (1, some y2)] (zN (uX 0) <| zN (qS 1 ze47 zo47) <| zM <| zZ) ?_
 refine jA <| kx [(4, (.ref 2 0))] [(2, some y1)] (zR (kC gV) <| zE (fK pl47 ze47 zo47) <| zN (qS 2 ze47 zo47) <| zT (qB hN) <| zZ) ?_
 refine jA <| jA <| kx [(19, (vl 29 10 uI [(jX.mk (jM.mk lx ly lz) (jK.mk la lb lc ld) lf (jZ.mk lu lv)), (jX.mk (jM.mk rx ry rz) (jK.mk ra rb rc rd) rf (jZ.mk ru rv))])), (20, (kX 2)), (21, (kX 0))] [] (zE (qE nF) <| zR (kC xK) <| zE (qE nG) <| zR (kC xK) <| zE (cH el140 eL eH) <| zE (oLn el140 2) <| zM <| zZ) ?_
 refine jG <| qU 20 ?_
 refine uF <| jA <| kx [(22, (vb true))] [] (zE (vB true uW) <| zZ) ?_
 refine jA <| kS ?_
 refine jE <| jA <| jG <| jA <| kx [(6, (.ref 3 0))] [(3, some (bx (uI (jX.mk (jM.mk lx ly lz) (jK.mk la lb lc ld) lf (jZ.mk lu lv)))))] (zE (gL el140 0) <| zE (cG xK) <| zN (qS 3 eL eH) <| zT (qB xK) <| zZ) ?_
 refine jA <| kx [(7, (kX (qV lx ly lz lu lv lf la lb lc ld)))] [] (zR (kC xK) <| zE (kA (qs_stn lx ly lz la lb lc ld lf lu lv)) <| zM <| zZ) ?_
 refine jA <| kx [(28, (vb false))] [] (zM <| zE (vB false eI (by exact bne_eq_false_iff_eq.2 (by rw [show (qV lx ly lz lu lv lf la lb lc ld) = 0 from hl]; rfl))) <| zZ) ?_
 refine kY ?_
 refine jE <| kx [(21, (kX 1))] [] (zE (uZ 1 (hr := by decide)) <| zM <| zZ) ?_
 refine jV (kU.refl _) ?_
 refine jA <| kx [(22, (vb true))] [] (zE (vB true uW) <| zZ) ?_
 refine jA <| kS ?_
 refine jE <| jA <| jG <| jA <| kx [(6, (.ref 4 0))] [(4, some (bx (uI (jX.mk (jM.mk rx ry rz) (jK.mk ra rb rc rd) rf (jZ.mk ru rv)))))] (zE (gL el140 1) <| zE (cG xK) <| zN (qS 4 eL eH) <| zT (qB xK) <| zZ) ?_
 refine jA <| kx [(7, (kX (qV rx ry rz ru rv rf ra rb rc rd)))] [] (zR (kC xK) <| zE (kA (qs_stn rx ry rz ra rb rc rd rf ru rv)) <| zM <| zZ) ?_
 refine jA <| kx [(28, (vb false))] [] (zM <| zE (vB false eI (by exact bne_eq_false_iff_eq.2 (by rw [show (qV rx ry rz ru rv rf ra rb rc rd) = 0 from hr]; rfl))) <| zZ) ?_
 refine kY ?_
 refine jE <| kx [(21, (kX 2))] [] (zE (uZ 2 (hr := by decide)) <| zM <| zZ) ?_
 refine jV (kU.refl _) ?_
 refine jA <| kx [(22, (vb false))] [] (zE (vB false uW) <| zZ) ?_
 refine jA <| kY ?_
 refine qF <| jA <| qM (wk (l := [(1, (.ref 0 0)), (2, (.ref 1 0)), (4, (.ref 2 0)), (19, (vl 29 10 uI [(jX.mk (jM.mk lx ly lz) (jK.mk la lb lc ld) lf (jZ.mk lu lv)), (jX.mk (jM.mk rx ry rz) (jK.mk ra rb rc rd) rf (jZ.mk ru rv))])), (20, (kX 2)), (21, (kX 2)), (22, (vb false))]) (b := [(0, some y5), (1, some y2), (2, some y1)])) ?_
 refine kd [(8, (.ref 5 0)), (9, (.ref 6 0))] [(5, some (bx (uI (jX.mk (jM.mk lx ly lz) (jK.mk la lb lc ld) lf (jZ.mk lu lv))))), (6, some (bx (uI (jX.mk (jM.mk rx ry rz) (jK.mk ra rb rc rd) rf (jZ.mk ru rv)))))] mo (wE (qE nF) <| wR (kC xK) <| wE (qE nG) <| wR (kC xK) <| wN (qS 5 eL eH) <| wN (qS 6 eL eH) <| wT (qB xK) <| wT (qB xK) <| wZ) ?_
 refine jA ?_
 have bn1 : QL b0 3 := (jW (Eq.symm hb0) (qi (rx - lx)))
 have bn2 : QL b1 3 := (jW (Eq.symm hb1) (qi (ry - ly)))
 have bn3 : QL b2 3 := (jW (Eq.symm hb2) (qi (rz - lz)))
 refine kx [] [(2, some y3)] (zE (qE yP) <| zE (qE mV) <| zR (vD vQ) <| zE (qE yP) <| zE (qE mV) <| zR (vD vQ) <| zE (fJ (rx - lx) (hr := by exact (qX rfl (by simp only [xG]; omega) (by simp only [xJ]; omega)))) <| zE (qE yP) <| zE (qE cN) <| zR (vD vQ) <| zE (qE yP) <| zE (qE cN) <| zR (vD vQ) <| zE (fJ (ry - ly) (hr := by exact (qX rfl (by simp only [xG]; omega) (by simp only [xJ]; omega)))) <| zE (qE yP) <| zE (qE cL) <| zR (vD vQ) <| zE (qE yP) <| zE (qE cL) <| zR (vD vQ) <| zE (fJ (rz - lz) (hr := by exact (qX rfl (by simp only [xG]; omega) (by simp only [xJ]; omega)))) <| zE (kA (by have h := qs_whole (rx - lx) (by omega) (by omega) (ry - ly) (by omega) (by omega) (rz - lz) (by omega) (by omega); rw [hb0, hb1, hb2] at h; exact h)) <| zE (qE fo47_1) <| zT (qB vC) <| zZ) ?_
 refine jA ?_
 have bn4 : QL ((0 : Int) : Rat) 3 := (qi 0)
 have bn5 : QL ((1 : Int) : Rat) 3 := (qi 1)
 refine kx [(10, (.ref 7 0))] [(7, some (bx (jP (A3.mk (jB ((0 : Int) : Rat)) (jB ((0 : Int) : Rat)) (jB ((1 : Int) : Rat))))))] (zE (kA (qs_whole ((0 : Nat) : Int) (by omega) (by omega) ((0 : Nat) : Int) (by omega) (by omega) ((1 : Nat) : Int) (by omega) (by omega))) <| zN (qS 7 dX dW) <| zT (qB vC) <| zZ) ?_
 refine jA ?_
 have bn6 : QL (vY la lb lc ld) 3 := (cY)
 have bn7 : QL (vX la lb lc ld) 3 := (dC)
 have bn8 : QL (uL la lb lc ld) 3 := (nV)
 have bn9 : QL (xA la lb lc ld) 3 := (cT)
 have bn10 : QL (xB la lb lc ld) 3 := (dB)
 have bn11 : QL (uN la lb lc ld) 3 := (nW)
 have bn12 : QL (xD la lb lc ld) 3 := (cO)
 have bn13 : QL (xF la lb lc ld) 3 := (cX)
 have bn14 : QL (uO la lb lc ld) 3 := (nT)
 have bn15 : QL (uL la lb lc ld) 20 := (jW (Eq.symm (vW (vY la lb lc ld) (vX la lb lc ld) (uL la lb lc ld))) (jL (n := 3) (k := 20) bn6 bn7 bn8 bn4 bn4 bn5 (by decide)))
 have bn16 : QL (uN la lb lc ld) 20 := (jW (Eq.symm (vW (xA la lb lc ld) (xB la lb lc ld) (uN la lb lc ld))) (jL (n := 3) (k := 20) bn9 bn10 bn11 bn4 bn4 bn5 (by decide)))
 have bn17 : QL (uO la lb lc ld) 20 := (jW (Eq.symm (vW (xD la lb lc ld) (xF la lb lc ld) (uO la lb lc ld))) (jL (n := 3) (k := 20) bn12 bn13 bn14 bn4 bn4 bn5 (by decide)))
 have bn18 : QL (N4 ra rb rc rd) 3 := (kN4)
 have bn19 : QL (vY ra rb rc rd) 3 := (cY)
 have bn20 : QL (vX ra rb rc rd) 3 := (dC)
 have bn21 : QL (uL ra rb rc rd) 3 := (nV)
 have bn22 : QL (xA ra rb rc rd) 3 := (cT)
 have bn23 : QL (xB ra rb rc rd) 3 := (dB)
 have bn24 : QL (uN ra rb rc rd) 3 := (nW)
 have bn25 : QL (xD ra rb rc rd) 3 := (cO)
 have bn26 : QL (xF ra rb rc rd) 3 := (cX)
 have bn27 : QL (uO ra rb rc rd) 3 := (nT)
 have bn28 : QL (uL ra rb rc rd) 20 := (jW (Eq.symm (vW (vY ra rb rc rd) (vX ra rb rc rd) (uL ra rb rc rd))) (jL (n := 3) (k := 20) bn19 bn20 bn21 bn4 bn4 bn5 (by decide)))
 have bn29 : QL (uN ra rb rc rd) 20 := (jW (Eq.symm (vW (xA ra rb rc rd) (xB ra rb rc rd) (uN ra rb rc rd))) (jL (n := 3) (k := 20) bn22 bn23 bn24 bn4 bn4 bn5 (by decide)))
 have bn30 : QL (uO ra rb rc rd) 20 := (jW (Eq.symm (vW (xD ra rb rc rd) (xF ra rb rc rd) (uO ra rb rc rd))) (jL (n := 3) (k := 20) bn25 bn26 bn27 bn4 bn4 bn5 (by decide)))
 have bn31 : QL (N4 la lb lc ld) 3 := (kN4)
 have bn32 : QL (mO la lb lc ld ra rb rc rd) 47 := (jW (Eq.symm (dq0_eq la lb lc ld ra rb rc rd)) (kR (k := 47) (jH (k := 23) bn15 bn18 (by decide)) (jH (k := 23) bn28 bn31 (by decide)) (by decide)))
 have bn33 : QL (mN la lb lc ld ra rb rc rd) 47 := (jW (Eq.symm (dq1_eq la lb lc ld ra rb rc rd)) (kR (k := 47) (jH (k := 23) bn16 bn18 (by decide)) (jH (k := 23) bn29 bn31 (by decide)) (by decide)))
 have bn34 : QL (mM la lb lc ld ra rb rc rd) 47 := (jW (Eq.symm (dq2_eq la lb lc ld ra rb rc rd)) (kR (k := 47) (jH (k := 23) bn17 bn18 (by decide)) (jH (k := 23) bn30 bn31 (by decide)) (by decide)))
 refine kd [(11, (.ref 8 0))] [(8, some (bx (jP (A3.mk (jB (mO la lb lc ld ra rb rc rd)) (jB (mN la lb lc ld ra rb rc rd)) (jB (mM la lb lc ld ra rb rc rd))))))] mo (wE (qE zY) <| wR (kC zV) <| wE (kA (qs_mat la lb lc ld (by omega) (by omega) (by omega) (by omega) hlq)) <| wR (kC vC) <| wE (kA (by have h := eV (vY la lb lc ld) (vX la lb lc ld) (uL la lb lc ld) (xA la lb lc ld) (xB la lb lc ld) (uN la lb lc ld) (xD la lb lc ld) (xF la lb lc ld) (uO la lb lc ld) (qu bn6) (qu bn7) (qu bn8) (qu bn9) (qu bn10) (qu bn11) (qu bn12) (qu bn13) (qu bn14) ((0 : Int) : Rat) ((0 : Int) : Rat) ((1 : Int) : Rat) (qu bn4) (qu bn4) (qu bn5); rw [(vW (vY la lb lc ld) (vX la lb lc ld) (uL la lb lc ld)), (vW (xA la lb lc ld) (xB la lb lc ld) (uN la lb lc ld)), (vW (xD la lb lc ld) (xF la lb lc ld) (uO la lb lc ld))] at h; exact h)) <| wE (qE zY) <| wR (kC zV) <| wE (kA (bG ra rb rc rd (by omega) (by omega) (by omega) (by omega))) <| wE (kA (yL (uL la lb lc ld) (uN la lb lc ld) (uO la lb lc ld) (qu bn15) (qu bn16) (qu bn17) (N4 ra rb rc rd) (qu bn18))) <| wE (qE zY) <| wR (kC zV) <| wE (kA (qs_mat ra rb rc rd (by omega) (by omega) (by omega) (by omega) hrq)) <| wR (kC vC) <| wE (kA (by have h := eV (vY ra rb rc rd) (vX ra rb rc rd) (uL ra rb rc rd) (xA ra rb rc rd) (xB ra rb rc rd) (uN ra rb rc rd) (xD ra rb rc rd) (xF ra rb rc rd) (uO ra rb rc rd) (qu bn19) (qu bn20) (qu bn21) (qu bn22) (qu bn23) (qu bn24) (qu bn25) (qu bn26) (qu bn27) ((0 : Int) : Rat) ((0 : Int) : Rat) ((1 : Int) : Rat) (qu bn4) (qu bn4) (qu bn5); rw [(vW (vY ra rb rc rd) (vX ra rb rc rd) (uL ra rb rc rd)), (vW (xA ra rb rc rd) (xB ra rb rc rd) (uN ra rb rc rd)), (vW (xD ra rb rc rd) (xF ra rb rc rd) (uO ra rb rc rd))] at h; exact h)) <| wE (qE zY) <| wR (kC zV) <| wE (kA (bG la lb lc ld (by omega) (by omega) (by omega) (by omega))) <| wE (kA (yL (uL ra rb rc rd) (uN ra rb rc rd) (uO ra rb rc rd) (qu bn28) (qu bn29) (qu bn30) (N4 la lb lc ld) (qu bn31))) <| wE (kA (by have h := qs_sum ((uL la lb lc ld) * (N4 ra rb rc rd)) ((uN la lb lc ld) * (N4 ra rb rc rd)) ((uO la lb lc ld) * (N4 ra rb rc rd)) (kJ (jH (k := 23) bn15 bn18 (by decide)) (by decide)) (kJ (jH (k := 23) bn16 bn18 (by decide)) (by decide)) (kJ (jH (k := 23) bn17 bn18 (by decide)) (by decide)) ((uL ra rb rc rd) * (N4 la lb lc ld)) ((uN ra rb rc rd) * (N4 la lb lc ld)) ((uO ra rb rc rd) * (N4 la lb lc ld)) (kJ (jH (k := 23) bn28 bn31 (by decide)) (by decide)) (kJ (jH (k := 23) bn29 bn31 (by decide)) (by decide)) (kJ (jH (k := 23) bn30 bn31 (by decide)) (by decide)); rw [(dq0_eq la lb lc ld ra rb rc rd), (dq1_eq la lb lc ld ra rb rc rd), (dq2_eq la lb lc ld ra rb rc rd)] at h; exact h)) <| wN (qS 8 dX dW) <| wT (qB vC) <| wZ) ?_
 refine jA ?_
 have bn35 : QL (((mN la lb lc ld ra rb rc rd) * b2) - ((mM la lb lc ld ra rb rc rd) * b1)) 101 := (qP (k := 101) (jH (k := 50) bn33 bn3 (by decide)) (jH (k := 50) bn34 bn2 (by decide)) (by decide))
 have bn36 : QL (((mM la lb lc ld ra rb rc rd) * b0) - ((mO la lb lc ld ra rb rc rd) * b2)) 101 := (qP (k := 101) (jH (k := 50) bn34 bn1 (by decide)) (jH (k := 50) bn32 bn3 (by decide)) (by decide))
 have bn37 : QL (((mO la lb lc ld ra rb rc rd) * b1) - ((mN la lb lc ld ra rb rc rd) * b0)) 101 := (qP (k := 101) (jH (k := 50) bn32 bn2 (by decide)) (jH (k := 50) bn33 bn1 (by decide)) (by decide))
 refine kx [(12, (.ref 9 0))] [(9, some (bx (jP (A3.mk (jB (((mN la lb lc ld ra rb rc rd) * b2) - ((mM la lb lc ld ra rb rc rd) * b1))) (jB (((mM la lb lc ld ra rb rc rd) * b0) - ((mO la lb lc ld ra rb rc rd) * b2))) (jB (((mO la lb lc ld ra rb rc rd) * b1) - ((mN la lb lc ld ra rb rc rd) * b0)))))))] (zR (kC vC) <| zE (qE fo47_1) <| zR (kC vC) <| zE (kA (qs_cross (mO la lb lc ld ra rb rc rd) (mN la lb lc ld ra rb rc rd) (mM la lb lc ld ra rb rc rd) (qu bn32) (qu bn33) (qu bn34) b0 b1 b2 (qu bn1) (qu bn2) (qu bn3))) <| zN (qS 9 dX dW) <| zT (qB vC) <| zZ) ?_
 refine jA <| jA <| kx [(84, (vb true))] [] (zR (kC vC) <| zE (vB true (kA (qs_zero (((mN la lb lc ld ra rb rc rd) * b2) - ((mM la lb lc ld ra rb rc rd) * b1)) (((mM la lb lc ld ra rb rc rd) * b0) - ((mO la lb lc ld ra rb rc rd) * b2)) (((mO la lb lc ld ra rb rc rd) * b1) - ((mN la lb lc ld ra rb rc rd) * b0)) (qu bn35) (qu bn36) (qu bn37))) (by exact hup)) <| zZ) ?_
 refine kS ?_
 refine jA <| kx [(3, (kX 13))] [(1, some y3)] (zR (kC hN) <| zT (qB hN) <| zM <| zZ) ?_
 refine jJ ⟨_, (qI (cs := (bx (xX (aH.mk (kV.mk (jX.mk (jM.mk lx ly lz) (jK.mk la lb lc ld) lf (jZ.mk lu lv)) (jX.mk (jM.mk rx ry rz) (jK.mk ra rb rc rd) rf (jZ.mk ru rv))) (A3.mk (jB b0) (jB b1) (jB b2)) (A3.mk (A3.mk (jQ.mk (jF.mk false []) (jF.mk false [])) (jQ.mk (jF.mk false []) (jF.mk false [])) (jQ.mk (jF.mk false []) (jF.mk false []))) (A3.mk (jQ.mk (jF.mk false []) (jF.mk false [])) (jQ.mk (jF.mk false []) (jF.mk false [])) (jQ.mk (jF.mk false []) (jF.mk false []))) (A3.mk (jQ.mk (jF.mk false []) (jF.mk false [])) (jQ.mk (jF.mk false []) (jF.mk false [])) (jQ.mk (jF.mk false []) (jF.mk false [])))))))) (d := (xX (aH.mk (kV.mk (jX.mk (jM.mk lx ly lz) (jK.mk la lb lc ld) lf (jZ.mk lu lv)) (jX.mk (jM.mk rx ry rz) (jK.mk ra rb rc rd) rf (jZ.mk ru rv))) (A3.mk (jB b0) (jB b1) (jB b2)) (A3.mk (A3.mk (jQ.mk (jF.mk false []) (jF.mk false [])) (jQ.mk (jF.mk false []) (jF.mk false [])) (jQ.mk (jF.mk false []) (jF.mk false []))) (A3.mk (jQ.mk (jF.mk false []) (jF.mk false [])) (jQ.mk (jF.mk false []) (jF.mk false [])) (jQ.mk (jF.mk false []) (jF.mk false []))) (A3.mk (jQ.mk (jF.mk false []) (jF.mk false [])) (jQ.mk (jF.mk false []) (jF.mk false [])) (jQ.mk (jF.mk false []) (jF.mk false []))))))) rfl rfl hN rfl rfl (.tmp (d := (.val (.int .i64 (((13 : Nat) : Int))))) rfl .nil)), ?_⟩
 rfl
theorem qs_pre (lx ly lz la lb lc ld lf lu lv rx ry rz ra rb rc rd rf ru rv : Int) (b0 b1 b2 e00 e01 e02 e10 e11 e12 e20 e21 e22 : Rat) (hF : RFr lx ly lz la lb lc ld rx ry rz ra rb rc rd b0 b1 b2 e00 e01 e02 e10 e11 e12 e20 e21 e22) (uR : QL b0 3) (uP : QL b1 3) (uQ : QL b2 3) (kM : QL e00 400) (kK : QL e01 400) (kL : QL e02 400) (kO : QL e10 400) (kP : QL e11 400) (kN : QL e12 400) (kH : QL e20 400) (kG : QL e21 400) (kI : QL e22 400) (hl : qV lx ly lz lu lv lf la lb lc ld = 0) (hr : qV rx ry rz ru rv rf ra rb rc rd = 0) (hup : upV la lb lc ld ra rb rc rd b0 b1 b2 = false) : kE Tryz.prog 14 [(qA (kV.mk (jX.mk (jM.mk lx ly lz) (jK.mk la lb lc ld) lf (jZ.mk lu lv)) (jX.mk (jM.mk rx ry rz) (jK.mk ra rb rc rd) rf (jZ.mk ru rv))))] (.tup [(xX (aH.mk (kV.mk (jX.mk (jM.mk lx ly lz) (jK.mk la lb lc ld) lf (jZ.mk lu lv)) (jX.mk (jM.mk rx ry rz) (jK.mk ra rb rc rd) rf (jZ.mk ru rv))) (A3.mk (jB b0) (jB b1) (jB b2)) (A3.mk (A3.mk (jB e00) (jB e01) (jB e02)) (A3.mk (jB e10) (jB e11) (jB e12)) (A3.mk (jB e20) (jB e21) (jB e22))))), (.val (.int .i64 (0)))]) := by
 have hbl := uB hl
 have hbr := uB hr
 obtain ⟨hlx, hly, hlz, hlu, hlv, hlf, hlq⟩ := hbl
 obtain ⟨hrx, hry, hrz, hru, hrv, hrf, hrq⟩ := hbr
 obtain ⟨hla, hlb, hlc, hld, -⟩ := uA hlq
 obtain ⟨hra, hrb, hrc, hrd, -⟩ := uA hrq
 have hnl := xV hla hlb hlc hld
 have hnr := xV hra hrb hrc hrd
 have hF2 := hF
 unfold RFr at hF2
 obtain ⟨hb0, hb1, hb2, he00, he01, he02, he10, he11, he12, he20, he21, he22⟩ := hF2
 have hzb := fr_zb hF hup
 have hzs := fr_zs hF hup
 have hzt := fr_zt hF hup
 let y7 := (A3.mk (jQ.mk (jF.mk false []) (jF.mk false [])) (jQ.mk (jF.mk false []) (jF.mk false [])) (jQ.mk (jF.mk false []) (jF.mk false [])))
 let y6 := (qA (kV.mk (jX.mk (jM.mk lx ly lz) (jK.mk la lb lc ld) lf (jZ.mk lu lv)) (jX.mk (jM.mk rx ry rz) (jK.mk ra rb rc rd) rf (jZ.mk ru rv))))
 let y5 := (bx y6)
 let y4 := (bx (xX (aH.mk (kV.mk (jX.mk (jM.mk lx ly lz) (jK.mk la lb lc ld) lf (jZ.mk lu lv)) (jX.mk (jM.mk rx ry rz) (jK.mk ra rb rc rd) rf (jZ.mk ru rv))) (A3.mk (jB b0) (jB b1) (jB b2)) (A3.mk (A3.mk (jB e00) (jB e01) (jB e02)) (A3.mk (jB e10) (jB e11) (jB e12)) (A3.mk (jB e20) (jB e21) (jB e22))))))
 let y3 := (A3.mk y7 y7 y7)
 let y2 := (bx (xX (aH.mk (kV.mk (jX.mk (jM.mk 0 0 0) (jK.mk 0 0 0 0) 0 (jZ.mk 0 0)) (jX.mk (jM.mk 0 0 0) (jK.mk 0 0 0 0) 0 (jZ.mk 0 0))) y7 y3)))
 let y1 := (bx (xX (aH.mk (kV.mk (jX.mk (jM.mk lx ly lz) (jK.mk la lb lc ld) lf (jZ.mk lu lv)) (jX.mk (jM.mk rx ry rz) (jK.mk ra rb rc rd) rf (jZ.mk ru rv))) y7 y3)))
 refine jN Tryz.func14 rfl cb14 rfl ?_
 show uT _ _ _ _ ⟨[(0, (.d y6))], []⟩
 refine jA <| kx [(1, (.ref 0 0)), (2, (.ref 1 0))] [(0, some y5), (1, some y2)] (zN (uX 0) <| zN (qS 1 ze47 zo47) <| zM <| zZ) ?_
 refine jA <| kx [(4, (.ref 2 0))] [(2, some y1)] (zR (kC gV) <| zE (fK pl47 ze47 zo47) <| zN (qS 2 ze47 zo47) <| zT (qB hN) <| zZ) ?_
 refine jA <| jA <| kx [(19, (vl 29 10 uI [(jX.mk (jM.mk lx ly lz) (jK.mk la lb lc ld) lf (jZ.mk lu lv)), (jX.mk (jM.mk rx ry rz) (jK.mk ra rb rc rd) rf (jZ.mk ru rv))])), (20, (kX 2)), (21, (kX 0))] [] (zE (qE nF) <| zR (kC xK) <| zE (qE nG) <| zR (kC xK) <| zE (cH el140 eL eH) <| zE (oLn el140 2) <| zM <| zZ) ?_
 refine jG <| qU 20 ?_
 refine uF <| jA <| kx [(22, (vb true))] [] (zE (vB true uW) <| zZ) ?_
 refine jA <| kS ?_
 refine jE <| jA <| jG <| jA <| kx [(6, (.ref 3 0))] [(3, some (bx (uI (jX.mk (jM.mk lx ly lz) (jK.mk la lb lc ld) lf (jZ.mk lu lv)))))] (zE (gL el140 0) <| zE (cG xK) <| zN (qS 3 eL eH) <| zT (qB xK) <| zZ) ?_
 refine jA <| kx [(7, (kX (qV lx ly lz lu lv lf la lb lc ld)))] [] (zR (kC xK) <| zE (kA (qs_stn lx ly lz la lb lc ld lf lu lv)) <| zM <| zZ) ?_
 refine jA <| kx [(28, (vb false))] [] (zM <| zE (vB false eI (by exact bne_eq_false_iff_eq.2 (by rw [show (qV lx ly lz lu lv lf la lb lc ld) = 0 from hl]; rfl))) <| zZ) ?_
 refine kY ?_
 refine jE <| kx [(21, (kX 1))] [] (zE (uZ 1 (hr := by decide)) <| zM <| zZ) ?_
 refine jV (kU.refl _) ?_
 refine jA <| kx [(22, (vb true))] [] (zE (vB true uW) <| zZ) ?_
 refine jA <| kS ?_
 refine jE <| jA <| jG <| jA <| kx [(6, (.ref 4 0))] [(4, some (bx (uI (jX.mk (jM.mk rx ry rz) (jK.mk ra rb rc rd) rf (jZ.mk ru rv)))))] (zE (gL el140 1) <| zE (cG xK) <| zN (qS 4 eL eH) <| zT (qB xK) <| zZ) ?_
 refine jA <| kx [(7, (kX (qV rx ry rz ru rv rf ra rb rc rd)))] [] (zR (kC xK) <| zE (kA (qs_stn rx ry rz ra rb rc rd rf ru rv)) <| zM <| zZ) ?_
 refine jA <| kx [(28, (vb false))] [] (zM <| zE (vB false eI (by exact bne_eq_false_iff_eq.2 (by rw [show (qV rx ry rz ru rv rf ra rb rc rd) = 0 from hr]; rfl))) <| zZ) ?_
 refine kY ?_
 refine jE <| kx [(21, (kX 2))] [] (zE (uZ 2 (hr := by decide)) <| zM <| zZ) ?_
 refine jV (kU.refl _) ?_
 refine jA <| kx [(22, (vb false))] [] (zE (vB false uW) <| zZ) ?_
 refine jA <| kY ?_
 refine qF <| jA <| qM (wk (l := [(1, (.ref 0 0)), (2, (.ref 1 0)), (4, (.ref 2 0)), (19, (vl 29 10 uI [(jX.mk (jM.mk lx ly lz) (jK.mk la lb lc ld) lf (jZ.mk lu lv)), (jX.mk (jM.mk rx ry rz) (jK.mk ra rb rc rd) rf (jZ.mk ru rv))])), (20, (kX 2)), (21, (kX 2)), (22, (vb false))]) (b := [(0, some y5), (1, some y2), (2, some y1)])) ?_
 refine kd [(8, (.ref 5 0)), (9, (.ref 6 0))] [(5, some (bx (uI (jX.mk (jM.mk lx ly lz) (jK.mk la lb lc ld) lf (jZ.mk lu lv))))), (6, some (bx (uI (jX.mk (jM.mk rx ry rz) (jK.mk ra rb rc rd) rf (jZ.mk ru rv)))))] mo (wE (qE nF) <| wR (kC xK) <| wE (qE nG) <| wR (kC xK) <| wN (qS 5 eL eH) <| wN (qS 6 eL eH) <| wT (qB xK) <| wT (qB xK) <| wZ) ?_
 refine jA ?_
 have bn1 : QL b0 3 := (jW (Eq.symm hb0) (qi (rx - lx)))
 have bn2 : QL b1 3 := (jW (Eq.symm hb1) (qi (ry - ly)))
 have bn3 : QL b2 3 := (jW (Eq.symm hb2) (qi (rz - lz)))
 refine kx [] [(2, some (bx (xX (aH.mk (kV.mk (jX.mk (jM.mk lx ly lz) (jK.mk la lb lc ld) lf (jZ.mk lu lv)) (jX.mk (jM.mk rx ry rz) (jK.mk ra rb rc rd) rf (jZ.mk ru rv))) (A3.mk (jB b0) (jB b1) (jB b2)) y3))))] (zE (qE yP) <| zE (qE mV) <| zR (vD vQ) <| zE (qE yP) <| zE (qE mV) <| zR (vD vQ) <| zE (fJ (rx - lx) (hr := by exact (qX rfl (by simp only [xG]; omega) (by simp only [xJ]; omega)))) <| zE (qE yP) <| zE (qE cN) <| zR (vD vQ) <| zE (qE yP) <| zE (qE cN) <| zR (vD vQ) <| zE (fJ (ry - ly) (hr := by exact (qX rfl (by simp only [xG]; omega) (by simp only [xJ]; omega)))) <| zE (qE yP) <| zE (qE cL) <| zR (vD vQ) <| zE (qE yP) <| zE (qE cL) <| zR (vD vQ) <| zE (fJ (rz - lz) (hr := by exact (qX rfl (by simp only [xG]; omega) (by simp only [xJ]; omega)))) <| zE (kA (by have h := qs_whole (rx - lx) (by omega) (by omega) (ry - ly) (by omega) (by omega) (rz - lz) (by omega) (by omega); rw [hb0, hb1, hb2] at h; exact h)) <| zE (qE fo47_1) <| zT (qB vC) <| zZ) ?_
 refine jA ?_
 have bn4 : QL ((0 : Int) : Rat) 3 := (qi 0)
 have bn5 : QL ((1 : Int) : Rat) 3 := (qi 1)
 refine kx [(10, (.ref 7 0))] [(7, some (bx (jP (A3.mk (jB ((0 : Int) : Rat)) (jB ((0 : Int) : Rat)) (jB ((1 : Int) : Rat))))))] (zE (kA (qs_whole ((0 : Nat) : Int) (by omega) (by omega) ((0 : Nat) : Int) (by omega) (by omega) ((1 : Nat) : Int) (by omega) (by omega))) <| zN (qS 7 dX dW) <| zT (qB vC) <| zZ) ?_
 refine jA ?_
 have bn6 : QL (vY la lb lc ld) 3 := (cY)
 have bn7 : QL (vX la lb lc ld) 3 := (dC)
 have bn8 : QL (uL la lb lc ld) 3 := (nV)
 have bn9 : QL (xA la lb lc ld) 3 := (cT)
 have bn10 : QL (xB la lb lc ld) 3 := (dB)
 have bn11 : QL (uN la lb lc ld) 3 := (nW)
 have bn12 : QL (xD la lb lc ld) 3 := (cO)
 have bn13 : QL (xF la lb lc ld) 3 := (cX)
 have bn14 : QL (uO la lb lc ld) 3 := (nT)
 have bn15 : QL (uL la lb lc ld) 20 := (jW (Eq.symm (vW (vY la lb lc ld) (vX la lb lc ld) (uL la lb lc ld))) (jL (n := 3) (k := 20) bn6 bn7 bn8 bn4 bn4 bn5 (by decide)))
 have bn16 : QL (uN la lb lc ld) 20 := (jW (Eq.symm (vW (xA la lb lc ld) (xB la lb lc ld) (uN la lb lc ld))) (jL (n := 3) (k := 20) bn9 bn10 bn11 bn4 bn4 bn5 (by decide)))
 have bn17 : QL (uO la lb lc ld) 20 := (jW (Eq.symm (vW (xD la lb lc ld) (xF la lb lc ld) (uO la lb lc ld))) (jL (n := 3) (k := 20) bn12 bn13 bn14 bn4 bn4 bn5 (by decide)))
 have bn18 : QL (N4 ra rb rc rd) 3 := (kN4)
 have bn19 : QL (vY ra rb rc rd) 3 := (cY)
 have bn20 : QL (vX ra rb rc rd) 3 := (dC)
 have bn21 : QL (uL ra rb rc rd) 3 := (nV)
 have bn22 : QL (xA ra rb rc rd) 3 := (cT)
 have bn23 : QL (xB ra rb rc rd) 3 := (dB)
 have bn24 : QL (uN ra rb rc rd) 3 := (nW)
 have bn25 : QL (xD ra rb rc rd) 3 := (cO)
 have bn26 : QL (xF ra rb rc rd) 3 := (cX)
 have bn27 : QL (uO ra rb rc rd) 3 := (nT)
 have bn28 : QL (uL ra rb rc rd) 20 := (jW (Eq.symm (vW (vY ra rb rc rd) (vX ra rb rc rd) (uL ra rb rc rd))) (jL (n := 3) (k := 20) bn19 bn20 bn21 bn4 bn4 bn5 (by decide)))
 have bn29 : QL (uN ra rb rc rd) 20 := (jW (Eq.symm (vW (xA ra rb rc rd) (xB ra rb rc rd) (uN ra rb rc rd))) (jL (n := 3) (k := 20) bn22 bn23 bn24 bn4 bn4 bn5 (by decide)))
 have bn30 : QL (uO ra rb rc rd) 20 := (jW (Eq.symm (vW (xD ra rb rc rd) (xF ra rb rc rd) (uO ra rb rc rd))) (jL (n := 3) (k := 20) bn25 bn26 bn27 bn4 bn4 bn5 (by decide)))
 have bn31 : QL (N4 la lb lc ld) 3 := (kN4)
 have bn32 : QL (mO la lb lc ld ra rb rc rd) 47 := (jW (Eq.symm (dq0_eq la lb lc ld ra rb rc rd)) (kR (k := 47) (jH (k := 23) bn15 bn18 (by decide)) (jH (k := 23) bn28 bn31 (by decide)) (by decide)))
 have bn33 : QL (mN la lb lc ld ra rb rc rd) 47 := (jW (Eq.symm (dq1_eq la lb lc ld ra rb rc rd)) (kR (k := 47) (jH (k := 23) bn16 bn18 (by decide)) (jH (k := 23) bn29 bn31 (by decide)) (by decide)))
 have bn34 : QL (mM la lb lc ld ra rb rc rd) 47 := (jW (Eq.symm (dq2_eq la lb lc ld ra rb rc rd)) (kR (k := 47) (jH (k := 23) bn17 bn18 (by decide)) (jH (k := 23) bn30 bn31 (by decide)) (by decide)))
 refine kd [(11, (.ref 8 0))] [(8, some (bx (jP (A3.mk (jB (mO la lb lc ld ra rb rc rd)) (jB (mN la lb lc ld ra rb rc rd)) (jB (mM la lb lc ld ra rb rc rd))))))] mo (wE (qE zY) <| wR (kC zV) <| wE (kA (qs_mat la lb lc ld (by omega) (by omega) (by omega) (by omega) hlq)) <| wR (kC vC) <| wE (kA (by have h := eV (vY la lb lc ld) (vX la lb lc ld) (uL la lb lc ld) (xA la lb lc ld) (xB la lb lc ld) (uN la lb lc ld) (xD la lb lc ld) (xF la lb lc ld) (uO la lb lc ld) (qu bn6) (qu bn7) (qu bn8) (qu bn9) (qu bn10) (qu bn11) (qu bn12) (qu bn13) (qu bn14) ((0 : Int) : Rat) ((0 : Int) : Rat) ((1 : Int) : Rat) (qu bn4) (qu bn4) (qu bn5); rw [(vW (vY la lb lc ld) (vX la lb lc ld) (uL la lb lc ld)), (vW (xA la lb lc ld) (xB la lb lc ld) (uN la lb lc ld)), (vW (xD la lb lc ld) (xF la lb lc ld) (uO la lb lc ld))] at h; exact h)) <| wE (qE zY) <| wR (kC zV) <| wE (kA (bG ra rb rc rd (by omega) (by omega) (by omega) (by omega))) <| wE (kA (yL (uL la lb lc ld) (uN la lb lc ld) (uO la lb lc ld) (qu bn15) (qu bn16) (qu bn17) (N4 ra rb rc rd) (qu bn18))) <| wE (qE zY) <| wR (kC zV) <| wE (kA (qs_mat ra rb rc rd (by omega) (by omega) (by omega) (by omega) hrq)) <| wR (kC vC) <| wE (kA (by have h := eV (vY ra rb rc rd) (vX ra rb rc rd) (uL ra rb rc rd) (xA ra rb rc rd) (xB ra rb rc rd) (uN ra rb rc rd) (xD ra rb rc rd) (xF ra rb rc rd) (uO ra rb rc rd) (qu bn19) (qu bn20) (qu bn21) (qu bn22) (qu bn23) (qu bn24) (qu bn25) (qu bn26) (qu bn27) ((0 : Int) : Rat) ((0 : Int) : Rat) ((1 : Int) : Rat) (qu bn4) (qu bn4) (qu bn5); rw [(vW (vY ra rb rc rd) (vX ra rb rc rd) (uL ra rb rc rd)), (vW (xA ra rb rc rd) (xB ra rb rc rd) (uN ra rb rc rd)), (vW (xD ra rb rc rd) (xF ra rb rc rd) (uO ra rb rc rd))] at h; exact h)) <| wE (qE zY) <| wR (kC zV) <| wE (kA (bG la lb lc ld (by omega) (by omega) (by omega) (by omega))) <| wE (kA (yL (uL ra rb rc rd) (uN ra rb rc rd) (uO ra rb rc rd) (qu bn28) (qu bn29) (qu bn30) (N4 la lb lc ld) (qu bn31))) <| wE (kA (by have h := qs_sum ((uL la lb lc ld) * (N4 ra rb rc rd)) ((uN la lb lc ld) * (N4 ra rb rc rd)) ((uO la lb lc ld) * (N4 ra rb rc rd)) (kJ (jH (k := 23) bn15 bn18 (by decide)) (by decide)) (kJ (jH (k := 23) bn16 bn18 (by decide)) (by decide)) (kJ (jH (k := 23) bn17 bn18 (by decide)) (by decide)) ((uL ra rb rc rd) * (N4 la lb lc ld)) ((uN ra rb rc rd) * (N4 la lb lc ld)) ((uO ra rb rc rd) * (N4 la lb lc ld)) (kJ (jH (k := 23) bn28 bn31 (by decide)) (by decide)) (kJ (jH (k := 23) bn29 bn31 (by decide)) (by decide)) (kJ (jH (k := 23) bn30 bn31 (by decide)) (by decide)); rw [(dq0_eq la lb lc ld ra rb rc rd), (dq1_eq la lb lc ld ra rb rc rd), (dq2_eq la lb lc ld ra rb rc rd)] at h; exact h)) <| wN (qS 8 dX dW) <| wT (qB vC) <| wZ) ?_
 refine jA ?_
 have bn35 : QL (((mN la lb lc ld ra rb rc rd) * b2) - ((mM la lb lc ld ra rb rc rd) * b1)) 101 := (qP (k := 101) (jH (k := 50) bn33 bn3 (by decide)) (jH (k := 50) bn34 bn2 (by decide)) (by decide))
 have bn36 : QL (((mM la lb lc ld ra rb rc rd) * b0) - ((mO la lb lc ld ra rb rc rd) * b2)) 101 := (qP (k := 101) (jH (k := 50) bn34 bn1 (by decide)) (jH (k := 50) bn32 bn3 (by decide)) (by decide))
 have bn37 : QL (((mO la lb lc ld ra rb rc rd) * b1) - ((mN la lb lc ld ra rb rc rd) * b0)) 101 := (qP (k := 101) (jH (k := 50) bn32 bn2 (by decide)) (jH (k := 50) bn33 bn1 (by decide)) (by decide))
 refine kx [(12, (.ref 9 0))] [(9, some (bx (jP (A3.mk (jB (((mN la lb lc ld ra rb rc rd) * b2) - ((mM la lb lc ld ra rb rc rd) * b1))) (jB (((mM la lb lc ld ra rb rc rd) * b0) - ((mO la lb lc ld ra rb rc rd) * b2))) (jB (((mO la lb lc ld ra rb rc rd) * b1) - ((mN la lb lc ld ra rb rc rd) * b0)))))))] (zR (kC vC) <| zE (qE fo47_1) <| zR (kC vC) <| zE (kA (qs_cross (mO la lb lc ld ra rb rc rd) (mN la lb lc ld ra rb rc rd) (mM la lb lc ld ra rb rc rd) (qu bn32) (qu bn33) (qu bn34) b0 b1 b2 (qu bn1) (qu bn2) (qu bn3))) <| zN (qS 9 dX dW) <| zT (qB vC) <| zZ) ?_
 refine jA <| jA <| kx [(84, (vb false))] [] (zR (kC vC) <| zE (vB false (kA (qs_zero (((mN la lb lc ld ra rb rc rd) * b2) - ((mM la lb lc ld ra rb rc rd) * b1)) (((mM la lb lc ld ra rb rc rd) * b0) - ((mO la lb lc ld ra rb rc rd) * b2)) (((mO la lb lc ld ra rb rc rd) * b1) - ((mN la lb lc ld ra rb rc rd) * b0)) (qu bn35) (qu bn36) (qu bn37))) (by exact hup)) <| zZ) ?_
 refine kY ?_
 refine jE <| jA ?_
 have bn38 : QL e00 6 := (jW (Eq.symm he00) (jH (k := 6) bn1 (xZ (n := 3) (k := 3) bn1 bn2 bn3 (by decide) (by decide)) (by decide)))
 have bn39 : QL e01 6 := (jW (Eq.symm he01) (jH (k := 6) bn2 (xZ (n := 3) (k := 3) bn1 bn2 bn3 (by decide) (by decide)) (by decide)))
 have bn40 : QL e02 6 := (jW (Eq.symm he02) (jH (k := 6) bn3 (xZ (n := 3) (k := 3) bn1 bn2 bn3 (by decide) (by decide)) (by decide)))
 refine kx [] [(2, some (bx (xX (aH.mk (kV.mk (jX.mk (jM.mk lx ly lz) (jK.mk la lb lc ld) lf (jZ.mk lu lv)) (jX.mk (jM.mk rx ry rz) (jK.mk ra rb rc rd) rf (jZ.mk ru rv))) (A3.mk (jB b0) (jB b1) (jB b2)) (A3.mk (A3.mk (jB e00) (jB e01) (jB e02)) y7 y7)))))] (zE (qE fo47_1) <| zR (kC vC) <| zE (kA (by have h := qs_red b0 b1 b2 (qu bn1) (qu bn2) (qu bn3) hzb; rw [he00, he01, he02] at h; exact h)) <| zE (qE gY) <| zE (vF mU 0) <| zT (qB vC) <| zZ) ?_
 refine jA ?_
 have bn41 : QL (((mN la lb lc ld ra rb rc rd) * e02) - ((mM la lb lc ld ra rb rc rd) * e01)) 107 := (qP (k := 107) (jH (k := 53) bn33 bn40 (by decide)) (jH (k := 53) bn34 bn39 (by decide)) (by decide))
 have bn42 : QL (((mM la lb lc ld ra rb rc rd) * e00) - ((mO la lb lc ld ra rb rc rd) * e02)) 107 := (qP (k := 107) (jH (k := 53) bn34 bn38 (by decide)) (jH (k := 53) bn32 bn40 (by decide)) (by decide))
 have bn43 : QL (((mO la lb lc ld ra rb rc rd) * e01) - ((mN la lb lc ld ra rb rc rd) * e00)) 107 := (qP (k := 107) (jH (k := 53) bn32 bn39 (by decide)) (jH (k := 53) bn33 bn38 (by decide)) (by decide))
 have bn44 : QL e10 214 := (jW (Eq.symm he10) (jH (k := 214) bn41 (xZ (n := 107) (k := 107) bn41 bn42 bn43 (by decide) (by decide)) (by decide)))
 have bn45 : QL e11 214 := (jW (Eq.symm he11) (jH (k := 214) bn42 (xZ (n := 107) (k := 107) bn41 bn42 bn43 (by decide) (by decide)) (by decide)))
 have bn46 : QL e12 214 := (jW (Eq.symm he12) (jH (k := 214) bn43 (xZ (n := 107) (k := 107) bn41 bn42 bn43 (by decide) (by decide)) (by decide)))
 refine kx [] [(2, some (bx (xX (aH.mk (kV.mk (jX.mk (jM.mk lx ly lz) (jK.mk la lb lc ld) lf (jZ.mk lu lv)) (jX.mk (jM.mk rx ry rz) (jK.mk ra rb rc rd) rf (jZ.mk ru rv))) (A3.mk (jB b0) (jB b1) (jB b2)) (A3.mk (A3.mk (jB e00) (jB e01) (jB e02)) (A3.mk (jB e10) (jB e11) (jB e12)) y7)))))] (zR (kC vC) <| zE (qE gY) <| zE (vF mU 0) <| zR (kC vC) <| zE (kA (qs_cross (mO la lb lc ld ra rb rc rd) (mN la lb lc ld ra rb rc rd) (mM la lb lc ld ra rb rc rd) (qu bn32) (qu bn33) (qu bn34) e00 e01 e02 (qu bn38) (qu bn39) (qu bn40))) <| zE (kA (by have h := qs_red (((mN la lb lc ld ra rb rc rd) * e02) - ((mM la lb lc ld ra rb rc rd) * e01)) (((mM la lb lc ld ra rb rc rd) * e00) - ((mO la lb lc ld ra rb rc rd) * e02)) (((mO la lb lc ld ra rb rc rd) * e01) - ((mN la lb lc ld ra rb rc rd) * e00)) (qu bn41) (qu bn42) (qu bn43) hzs; rw [he10, he11, he12] at h; exact h)) <| zE (qE gY) <| zE (vF mU 1) <| zT (qB vC) <| zZ) ?_
 refine jA ?_
 have bn47 : QL ((e01 * e12) - (e02 * e11)) 441 := (qP (k := 441) (jH (k := 220) bn39 bn46 (by decide)) (jH (k := 220) bn40 bn45 (by decide)) (by decide))
 have bn48 : QL ((e02 * e10) - (e00 * e12)) 441 := (qP (k := 441) (jH (k := 220) bn40 bn44 (by decide)) (jH (k := 220) bn38 bn46 (by decide)) (by decide))
 have bn49 : QL ((e00 * e11) - (e01 * e10)) 441 := (qP (k := 441) (jH (k := 220) bn38 bn45 (by decide)) (jH (k := 220) bn39 bn44 (by decide)) (by decide))
 have bn50 : QL e20 882 := (jW (Eq.symm he20) (jH (k := 882) bn47 (xZ (n := 441) (k := 441) bn47 bn48 bn49 (by decide) (by decide)) (by decide)))
 have bn51 : QL e21 882 := (jW (Eq.symm he21) (jH (k := 882) bn48 (xZ (n := 441) (k := 441) bn47 bn48 bn49 (by decide) (by decide)) (by decide)))
 have bn52 : QL e22 882 := (jW (Eq.symm he22) (jH (k := 882) bn49 (xZ (n := 441) (k := 441) bn47 bn48 bn49 (by decide) (by decide)) (by decide)))
 refine kx [] [(2, some y4)] (zE (qE gY) <| zE (vF mU 0) <| zR (kC vC) <| zE (qE gY) <| zE (vF mU 1) <| zR (kC vC) <| zE (kA (qs_cross e00 e01 e02 (qu bn38) (qu bn39) (qu bn40) e10 e11 e12 (qu bn44) (qu bn45) (qu bn46))) <| zE (kA (by have h := qs_red ((e01 * e12) - (e02 * e11)) ((e02 * e10) - (e00 * e12)) ((e00 * e11) - (e01 * e10)) (qu bn47) (qu bn48) (qu bn49) hzt; rw [he20, he21, he22] at h; exact h)) <| zE (qE gY) <| zE (vF mU 2) <| zT (qB vC) <| zZ) ?_
 refine jA <| kx [(3, (kX 0))] [(1, some y4)] (zR (kC hN) <| zT (qB hN) <| zM <| zZ) ?_
 refine jJ ⟨_, (qI (cs := (bx (xX (aH.mk (kV.mk (jX.mk (jM.mk lx ly lz) (jK.mk la lb lc ld) lf (jZ.mk lu lv)) (jX.mk (jM.mk rx ry rz) (jK.mk ra rb rc rd) rf (jZ.mk ru rv))) (A3.mk (jB b0) (jB b1) (jB b2)) (A3.mk (A3.mk (jB e00) (jB e01) (jB e02)) (A3.mk (jB e10) (jB e11) (jB e12)) (A3.mk (jB e20) (jB e21) (jB e22))))))) (d := (xX (aH.mk (kV.mk (jX.mk (jM.mk lx ly lz) (jK.mk la lb lc ld) lf (jZ.mk lu lv)) (jX.mk (jM.mk rx ry rz) (jK.mk ra rb rc rd) rf (jZ.mk ru rv))) (A3.mk (jB b0) (jB b1) (jB b2)) (A3.mk (A3.mk (jB e00) (jB e01) (jB e02)) (A3.mk (jB e10) (jB e11) (jB e12)) (A3.mk (jB e20) (jB e21) (jB e22)))))) rfl rfl hN rfl rfl (.tmp (d := (.val (.int .i64 (((0 : Nat) : Int))))) rfl .nil)), ?_⟩
 rfl
end Go.Proofs.YtbecgnplakngdaaGreat
