/- Part 13 of a proof: rules, plain facts, and functions walked. -/
import Derived.Test.YtbecgnplakngdaaGreatM12
import Derived.Test.YtbecgnplakngdaaGreatM11
namespace Go.Proofs.YtbecgnplakngdaaGreat
open Go.Fid
set_option maxRecDepth 4000
set_option linter.unusedVariables false
set_option linter.unusedSimpArgs false
theorem cb5 : callB Tryz.prog 5 = true := by kernel_rfl
theorem w_rowsE1 (lx ly lz la lb lc ld lf lu lv rx ry rz ra rb rc rd rf ru rv : Int) (px py pz : Int) (c : Nat) (hc : stn2 (uP lx ly lz lu lv lf la lb lc ld) (uP rx ry rz ru rv rf ra rb rc rd) = c) (hc0 : c ≠ 0) : kD Tryz.prog 5 [(qA (kT.mk (kH.mk (jL.mk lx ly lz) (jO.mk la lb lc ld) lf (kI.mk lu lv)) (kH.mk (jL.mk rx ry rz) (jO.mk ra rb rc rd) rf (kI.mk ru rv)))), (qE (jL.mk px py pz))] (.val (.bool (true))) := by
 let y1 := (qA (kT.mk (kH.mk (jL.mk lx ly lz) (jO.mk la lb lc ld) lf (kI.mk lu lv)) (kH.mk (jL.mk rx ry rz) (jO.mk ra rb rc rd) rf (kI.mk ru rv))))
 refine jK Tryz.func5 rfl cb5 rfl ?_
 show uY _ _ _ _ ⟨[(0, (.d y1)), (1, (.d (qE (jL.mk px py pz))))], []⟩
 refine jA <| kx [(2, (.ref 0 0)), (3, (.ref 1 0))] [(0, some (bx y1)), (1, some (bx (qE (jL.mk px py pz))))] (zN (vN 0) <| zN (vN 1) <| zM <| zZ) ?_
 refine jA <| jA <| kx [(19, (vb false))] [] (zE (jX hZ) <| zE oNt <| zZ) ?_
 refine kG ?_
 refine jD <| jA <| jA <| kx [(6, (kE c))] [(2, none)] (zR (jZ mE) <| zE (jX (qs_preE1 lx ly lz la lb lc ld lf lu lv rx ry rz ra rb rc rd rf ru rv c hc hc0)) <| zM <| zE uG <| zE uG <| zN (qP 2 fL fX) <| zT (kU cV) <| zM <| zZ) ?_
 refine jA <| kx [(26, (vb true))] [] (zM <| zE (qN true dL (by exact bne_iff_ne.2 (by have hx := hc0; omega))) <| zZ) ?_
 refine jY ?_
 refine jA <| kx [(4, (vb true))] [] (zM <| zZ) ?_
 refine jH ⟨_, (.tmp (d := (.val (.bool (true)))) rfl .nil), ?_⟩
 rfl
theorem w_rowsE2 (lx ly lz la lb lc ld lf lu lv rx ry rz ra rb rc rd rf ru rv : Int) (px py pz : Int) (b0 b1 b2 : Rat) (vJ : QL b0 3) (vH : QL b1 3) (vI : QL b2 3) (hl : uP lx ly lz lu lv lf la lb lc ld = 0) (hr : uP rx ry rz ru rv rf ra rb rc rd = 0) (hb0 : ((rx - lx : Int) : Rat) = b0) (hb1 : ((ry - ly : Int) : Rat) = b1) (hb2 : ((rz - lz : Int) : Rat) = b2) (hup : upV la lb lc ld ra rb rc rd b0 b1 b2 = true) : kD Tryz.prog 5 [(qA (kT.mk (kH.mk (jL.mk lx ly lz) (jO.mk la lb lc ld) lf (kI.mk lu lv)) (kH.mk (jL.mk rx ry rz) (jO.mk ra rb rc rd) rf (kI.mk ru rv)))), (qE (jL.mk px py pz))] (.val (.bool (true))) := by
 let y1 := (qA (kT.mk (kH.mk (jL.mk lx ly lz) (jO.mk la lb lc ld) lf (kI.mk lu lv)) (kH.mk (jL.mk rx ry rz) (jO.mk ra rb rc rd) rf (kI.mk ru rv))))
 refine jK Tryz.func5 rfl cb5 rfl ?_
 show uY _ _ _ _ ⟨[(0, (.d y1)), (1, (.d (qE (jL.mk px py pz))))], []⟩
 refine jA <| kx [(2, (.ref 0 0)), (3, (.ref 1 0))] [(0, some (bx y1)), (1, some (bx (qE (jL.mk px py pz))))] (zN (vN 0) <| zN (vN 1) <| zM <| zZ) ?_
 refine jA <| jA <| kx [(19, (vb false))] [] (zE (jX hZ) <| zE oNt <| zZ) ?_
 refine kG ?_
 refine jD <| jA <| jA <| kx [(6, (vi 13))] [(2, none)] (zR (jZ mE) <| zE (jX (qs_preE2 lx ly lz la lb lc ld lf lu lv rx ry rz ra rb rc rd rf ru rv b0 b1 b2 vJ vH vI hl hr hb0 hb1 hb2 hup)) <| zM <| zE uG <| zE uG <| zN (qP 2 fL fX) <| zT (kU cV) <| zM <| zZ) ?_
 refine jA <| kx [(26, (vb true))] [] (zM <| zE dL <| zZ) ?_
 refine jY ?_
 refine jA <| kx [(4, (vb true))] [] (zM <| zZ) ?_
 refine jH ⟨_, (.tmp (d := (.val (.bool (true)))) rfl .nil), ?_⟩
 rfl
theorem w_rowsR (lx ly lz la lb lc ld lf lu lv rx ry rz ra rb rc rd rf ru rv : Int) (px py pz : Int) (b0 b1 b2 e00 e01 e02 e10 e11 e12 e20 e21 e22 : Rat) (hF : RFr lx ly lz la lb lc ld rx ry rz ra rb rc rd b0 b1 b2 e00 e01 e02 e10 e11 e12 e20 e21 e22) (vJ : QL b0 3) (vH : QL b1 3) (vI : QL b2 3) (qV : QL e00 400) (qW : QL e01 400) (qU : QL e02 400) (uC : QL e10 400) (uE : QL e11 400) (uD : QL e12 400) (qJ : QL e20 400) (qI : QL e21 400) (qK : QL e22 400) (hl : uP lx ly lz lu lv lf la lb lc ld = 0) (hr : uP rx ry rz ru rv rf ra rb rc rd = 0) (hup : upV la lb lc ld ra rb rc rd b0 b1 b2 = false) (hr_ : spotB px py pz = false) : kD Tryz.prog 5 [(qA (kT.mk (kH.mk (jL.mk lx ly lz) (jO.mk la lb lc ld) lf (kI.mk lu lv)) (kH.mk (jL.mk rx ry rz) (jO.mk ra rb rc rd) rf (kI.mk ru rv)))), (qE (jL.mk px py pz))] (.val (.bool (true))) := by
 have hbl := uS hl
 have hbr := uS hr
 obtain ⟨hlx, hly, hlz, hlu, hlv, hlf, hlq⟩ := hbl
 obtain ⟨hrx, hry, hrz, hru, hrv, hrf, hrq⟩ := hbr
 obtain ⟨hla, hlb, hlc, hld, -⟩ := uW hlq
 obtain ⟨hra, hrb, hrc, hrd, -⟩ := uW hrq
 have hnl := yN hla hlb hlc hld
 have hnr := yN hra hrb hrc hrd
 have hz0 := eF hF hup
 have hz1 := eH hF hup
 have hz2 := fU hF hup
 let y2 := (qA (kT.mk (kH.mk (jL.mk lx ly lz) (jO.mk la lb lc ld) lf (kI.mk lu lv)) (kH.mk (jL.mk rx ry rz) (jO.mk ra rb rc rd) rf (kI.mk ru rv))))
 let y1 := (bx y2)
 refine jK Tryz.func5 rfl cb5 rfl ?_
 show uY _ _ _ _ ⟨[(0, (.d y2)), (1, (.d (qE (jL.mk px py pz))))], []⟩
 refine jA <| kx [(2, (.ref 0 0)), (3, (.ref 1 0))] [(0, some y1), (1, some (bx (qE (jL.mk px py pz))))] (zN (vN 0) <| zN (vN 1) <| zM <| zZ) ?_
 refine jA <| jA <| kx [(19, (vb false))] [] (zE (jX hZ) <| zE oNt <| zZ) ?_
 refine kG ?_
 refine jD <| jA <| jA <| kx [(6, (vi 0))] [(2, none)] (zR (jZ mE) <| zE (jX (aH lx ly lz la lb lc ld lf lu lv rx ry rz ra rb rc rd rf ru rv b0 b1 b2 e00 e01 e02 e10 e11 e12 e20 e21 e22 hF vJ vH vI qV qW qU uC uE uD qJ qI qK hl hr hup)) <| zM <| zE uG <| zE uG <| zN (qP 2 fL fX) <| zT (kU cV) <| zM <| zZ) ?_
 refine jA <| kx [(26, (vb false))] [] (zM <| zE dL <| zZ) ?_
 refine kG ?_
 refine jD <| jA <| jA <| kx [(33, (vl 3 1 vL [px, py, pz])), (34, (kE 3)), (35, (kE 0))] [] (zE (kO yB) <| zR (uM uH) <| zE (kO yK) <| zR (uM uH) <| zE (kO yL) <| zR (uM uH) <| zE (nM vB ze3 zo3) <| zE (oLn vB 3) <| zM <| zZ) ?_
 refine jE <| kW 20 ?_
 refine qC <| jA <| kx [(36, (vb true))] [] (zE (qN true qM) <| zZ) ?_
 refine jA <| jY ?_
 refine jD <| jA <| jE <| jA <| kx [(8, (vi px))] [] (zE (zS vB 0) <| zE (xT uH) <| zM <| zZ) ?_
 refine jA <| kx [(44, (vb (decide (px < -1048576) || decide (((1048576 : Nat) : Int) < px))))] [] ?_ ?_
 ·refine zM <| zE qM <| zE (oV (vb (decide (px < -1048576))) (vX (by kernel_rfl))) <| ?_
  rcases hb1 : (decide (px < -1048576)) with _ | _
  ·replace hb1 := of_decide_eq_false hb1
   exact zM <| zE hM <| zE oPo <| zZ
  ·replace hb1 := of_decide_eq_true hb1
   exact zK <| zK <| zE mX <| zZ
 refine jS rfl (fun h2 => ?_) (fun h2 => ?_)
 ·refine jA <| kx [(4, (vb true))] [] (zM <| zZ) ?_
  refine jH ⟨_, (.tmp (d := (.val (.bool (true)))) rfl .nil), ?_⟩
  rfl
 ·refine jD <| kx [(35, (kE 1))] [] (zE (uI 1 (hr := by decide)) <| zM <| zZ) ?_
  refine jJ (jW.refl _) ?_
  refine jA <| kx [(36, (vb true))] [] (zE (qN true qM) <| zZ) ?_
  refine jA <| jY ?_
  refine jD <| jA <| jE <| jA <| kx [(8, (vi py))] [] (zE (zS vB 1) <| zE (xT uH) <| zM <| zZ) ?_
  refine jA <| kx [(44, (vb (decide (py < -1048576) || decide (((1048576 : Nat) : Int) < py))))] [] ?_ ?_
  ·refine zM <| zE qM <| zE (oV (vb (decide (py < -1048576))) (vX (by kernel_rfl))) <| ?_
   rcases hb3 : (decide (py < -1048576)) with _ | _
   ·replace hb3 := of_decide_eq_false hb3
    exact zM <| zE hM <| zE oPo <| zZ
   ·replace hb3 := of_decide_eq_true hb3
    exact zK <| zK <| zE mX <| zZ
  refine jS rfl (fun h4 => ?_) (fun h4 => ?_)
  ·refine jA <| kx [(4, (vb true))] [] (zM <| zZ) ?_
   refine jH ⟨_, (.tmp (d := (.val (.bool (true)))) rfl .nil), ?_⟩
   rfl
  ·refine jD <| kx [(35, (kE 2))] [] (zE (uI 2 (hr := by decide)) <| zM <| zZ) ?_
   refine jJ (jW.refl _) ?_
   refine jA <| kx [(36, (vb true))] [] (zE (qN true qM) <| zZ) ?_
   refine jA <| jY ?_
   refine jD <| jA <| jE <| jA <| kV (wk (l := [(2, (.ref 0 0)), (3, (.ref 1 0)), (33, (vl 3 1 vL [px, py, pz])), (34, (kE 3)), (35, (kE 2)), (36, (vb true))]) (b := [(0, some y1), (1, some (bx (qE (jL.mk px py pz))))])) ?_
   refine kx [(8, (vi pz))] [] (zE (zS vB 2) <| zE (xT uH) <| zM <| zZ) ?_
   refine jA <| kx [(44, (vb (decide (pz < -1048576) || decide (((1048576 : Nat) : Int) < pz))))] [] ?_ ?_
   ·refine zM <| zE qM <| zE (oV (vb (decide (pz < -1048576))) (vX (by kernel_rfl))) <| ?_
    rcases hb5 : (decide (pz < -1048576)) with _ | _
    ·replace hb5 := of_decide_eq_false hb5
     exact zM <| zE hM <| zE oPo <| zZ
    ·replace hb5 := of_decide_eq_true hb5
     exact zK <| zK <| zE mX <| zZ
   refine jS rfl (fun h6 => ?_) (fun h6 => ?_)
   ·refine jA <| kx [(4, (vb true))] [] (zM <| zZ) ?_
    refine jH ⟨_, (.tmp (d := (.val (.bool (true)))) rfl .nil), ?_⟩
    rfl
   ·exact (spotB_abs hr_ h2 h4 h6).elim
theorem w_rows000 (lx ly lz la lb lc ld lf lu lv rx ry rz ra rb rc rd rf ru rv : Int) (px py pz : Int) (hpx : -1048576 ≤ px ∧ px ≤ 1048576) (hpy : -1048576 ≤ py ∧ py ≤ 1048576) (hpz : -1048576 ≤ pz ∧ pz ≤ 1048576) (b0 b1 b2 e00 e01 e02 e10 e11 e12 e20 e21 e22 : Rat) (hF : RFr lx ly lz la lb lc ld rx ry rz ra rb rc rd b0 b1 b2 e00 e01 e02 e10 e11 e12 e20 e21 e22) (vJ : QL b0 3) (vH : QL b1 3) (vI : QL b2 3) (qV : QL e00 400) (qW : QL e01 400) (qU : QL e02 400) (uC : QL e10 400) (uE : QL e11 400) (uD : QL e12 400) (qJ : QL e20 400) (qI : QL e21 400) (qK : QL e22 400) (r0 : Rat) (hr0 : ((px - lx : Int) : Rat) = r0) (r1 : Rat) (hr1 : ((py - ly : Int) : Rat) = r1) (r2 : Rat) (hr2 : ((pz - lz : Int) : Rat) = r2) (q0 : Rat) (hq0 : ((px - rx : Int) : Rat) = q0) (q1 : Rat) (hq1 : ((py - ry : Int) : Rat) = q1) (q2 : Rat) (hq2 : ((pz - rz : Int) : Rat) = q2) (hl : uP lx ly lz lu lv lf la lb lc ld = 0) (hr : uP rx ry rz ru rv rf ra rb rc rd = 0) (hup : upV la lb lc ld ra rb rc rd b0 b1 b2 = false) (hvl : (qZ (jF (uK la lb lc ld) (uL la lb lc ld) (uO la lb lc ld) r0 r1 r2)) ≤ 0) (hvr : (qZ (jF (uK ra rb rc rd) (uL ra rb rc rd) (uO ra rb rc rd) q0 q1 q2)) ≤ 0) (hd : (qZ (jF e20 e21 e22 r0 r1 r2)) ≤ 0) : kD Tryz.prog 5 [(qA (kT.mk (kH.mk (jL.mk lx ly lz) (jO.mk la lb lc ld) lf (kI.mk lu lv)) (kH.mk (jL.mk rx ry rz) (jO.mk ra rb rc rd) rf (kI.mk ru rv)))), (qE (jL.mk px py pz))] (.val (.bool (true))) := by
 have hbl := uS hl
 have hbr := uS hr
 obtain ⟨hlx, hly, hlz, hlu, hlv, hlf, hlq⟩ := hbl
 obtain ⟨hrx, hry, hrz, hru, hrv, hrf, hrq⟩ := hbr
 obtain ⟨hla, hlb, hlc, hld, -⟩ := uW hlq
 obtain ⟨hra, hrb, hrc, hrd, -⟩ := uW hrq
 have hnl := yN hla hlb hlc hld
 have hnr := yN hra hrb hrc hrd
 have hz0 := eF hF hup
 have hz1 := eH hF hup
 have hz2 := fU hF hup
 let y3 := (bx (kJ (qD.mk (jV.mk (jG.mk false []) (jG.mk false [])) (jV.mk (jG.mk false []) (jG.mk false [])))))
 let y2 := (qA (kT.mk (kH.mk (jL.mk lx ly lz) (jO.mk la lb lc ld) lf (kI.mk lu lv)) (kH.mk (jL.mk rx ry rz) (jO.mk ra rb rc rd) rf (kI.mk ru rv))))
 let y1 := (bx y2)
 refine jK Tryz.func5 rfl cb5 rfl ?_
 show uY _ _ _ _ ⟨[(0, (.d y2)), (1, (.d (qE (jL.mk px py pz))))], []⟩
 refine jA <| kx [(2, (.ref 0 0)), (3, (.ref 1 0))] [(0, some y1), (1, some (bx (qE (jL.mk px py pz))))] (zN (vN 0) <| zN (vN 1) <| zM <| zZ) ?_
 refine jA <| jA <| kx [(19, (vb false))] [] (zE (jX hZ) <| zE oNt <| zZ) ?_
 refine kG ?_
 refine jD <| jA <| jA <| kx [(6, (vi 0))] [(2, none)] (zR (jZ mE) <| zE (jX (aH lx ly lz la lb lc ld lf lu lv rx ry rz ra rb rc rd rf ru rv b0 b1 b2 e00 e01 e02 e10 e11 e12 e20 e21 e22 hF vJ vH vI qV qW qU uC uE uD qJ qI qK hl hr hup)) <| zM <| zE uG <| zE uG <| zN (qP 2 fL fX) <| zT (kU cV) <| zM <| zZ) ?_
 refine jA <| kx [(26, (vb false))] [] (zM <| zE dL <| zZ) ?_
 refine kG ?_
 refine jD <| jA <| jA <| kx [(33, (vl 3 1 vL [px, py, pz])), (34, (kE 3)), (35, (kE 0))] [] (zE (kO yB) <| zR (uM uH) <| zE (kO yK) <| zR (uM uH) <| zE (kO yL) <| zR (uM uH) <| zE (nM vB ze3 zo3) <| zE (oLn vB 3) <| zM <| zZ) ?_
 refine jE <| kW 20 ?_
 refine qC <| jA <| kx [(36, (vb true))] [] (zE (qN true qM) <| zZ) ?_
 refine jA <| jY ?_
 refine jD <| jA <| jE <| jA <| kx [(8, (vi px))] [] (zE (zS vB 0) <| zE (xT uH) <| zM <| zZ) ?_
 refine jA <| kx [(44, (vb false))] [] (zM <| zE (qN false qM (by exact decide_eq_false (by omega))) <| zM <| zM <| zE (qN false hM (by exact decide_eq_false (by omega))) <| zE mV <| zZ) ?_
 refine kG ?_
 refine jD <| kx [(35, (kE 1))] [] (zE (uI 1 (hr := by decide)) <| zM <| zZ) ?_
 refine jJ (jW.refl _) ?_
 refine jA <| kx [(36, (vb true))] [] (zE (qN true qM) <| zZ) ?_
 refine jA <| jY ?_
 refine jD <| jA <| jE <| jA <| kx [(8, (vi py))] [] (zE (zS vB 1) <| zE (xT uH) <| zM <| zZ) ?_
 refine jA <| kx [(44, (vb false))] [] (zM <| zE (qN false qM (by exact decide_eq_false (by omega))) <| zM <| zM <| zE (qN false hM (by exact decide_eq_false (by omega))) <| zE mV <| zZ) ?_
 refine kG ?_
 refine jD <| kx [(35, (kE 2))] [] (zE (uI 2 (hr := by decide)) <| zM <| zZ) ?_
 refine jJ (jW.refl _) ?_
 refine jA <| kx [(36, (vb true))] [] (zE (qN true qM) <| zZ) ?_
 refine jA <| jY ?_
 refine jD <| jA <| jE <| jA <| kV (wk (l := [(2, (.ref 0 0)), (3, (.ref 1 0)), (33, (vl 3 1 vL [px, py, pz])), (34, (kE 3)), (35, (kE 2)), (36, (vb true))]) (b := [(0, some y1), (1, some (bx (qE (jL.mk px py pz))))])) ?_
 refine kx [(8, (vi pz))] [] (zE (zS vB 2) <| zE (xT uH) <| zM <| zZ) ?_
 refine jA <| kx [(44, (vb false))] [] (zM <| zE (qN false qM (by exact decide_eq_false (by omega))) <| zM <| zM <| zE (qN false hM (by exact decide_eq_false (by omega))) <| zE mV <| zZ) ?_
 refine kG ?_
 refine jD <| kx [(35, (kE 3))] [] (zE (uI 3 (hr := by decide)) <| zM <| zZ) ?_
 refine jJ (jW.refl _) ?_
 refine jA <| kx [(36, (vb false))] [] (zE (qN false qM) <| zZ) ?_
 refine jA <| kG ?_
 refine kK <| jA ?_
 have bn1 : QL r0 3 := (jT (Eq.symm hr0) (qi (px - lx)))
 have bn2 : QL r1 3 := (jT (Eq.symm hr1) (qi (py - ly)))
 have bn3 : QL r2 3 := (jT (Eq.symm hr2) (qi (pz - lz)))
 refine kd [(9, (.ref 3 0)), (10, (vi 20))] [(3, some y3)] mo (wE (kO yA) <| wR (jZ vK) <| wE (kO yA) <| wR (jZ vK) <| wR (jZ nC) <| wE (jX (by have h := gK lx ly lz la lb lc ld lf lu lv (by omega) (by omega) (by omega) px py pz (by omega) (by omega) (by omega); rw [hr0, hr1, hr2] at h; exact h)) <| wE (jX (mA lx ly lz la lb lc ld lf lu lv r0 r1 r2 (qu bn1) (qu bn2) (qu bn3) hl hvl)) <| wM <| wE uG <| wE uG <| wN (qP 3 gG gE) <| wT (kU yF) <| wM <| wZ) ?_
 refine jA ?_
 have bn4 : QL q0 3 := (jT (Eq.symm hq0) (qi (px - rx)))
 have bn5 : QL q1 3 := (jT (Eq.symm hq1) (qi (py - ry)))
 have bn6 : QL q2 3 := (jT (Eq.symm hq2) (qi (pz - rz)))
 refine kd [(11, (.ref 4 0)), (12, (vi 20))] [(4, some y3)] mo (wE (kO zY) <| wR (jZ vK) <| wE (kO zY) <| wR (jZ vK) <| wR (jZ nC) <| wE (jX (by have h := gK rx ry rz ra rb rc rd rf ru rv (by omega) (by omega) (by omega) px py pz (by omega) (by omega) (by omega); rw [hq0, hq1, hq2] at h; exact h)) <| wE (jX (mA rx ry rz ra rb rc rd rf ru rv q0 q1 q2 (qu bn4) (qu bn5) (qu bn6) hr hvr)) <| wM <| wE uG <| wE uG <| wN (qP 4 gG gE) <| wT (kU yF) <| wM <| wZ) ?_
 refine jA <| kx [(13, (.ref 5 0)), (14, (.ref 6 0)), (15, (vi 20))] [(5, some y3), (6, some (bx (jM (jV.mk (jG.mk false []) (jG.mk false [])))))] (zR (jZ mE) <| zR (jZ nC) <| zE (jX (q_prjN lx ly lz la lb lc ld lf lu lv rx ry rz ra rb rc rd rf ru rv px py pz (by omega) (by omega) (by omega) b0 b1 b2 e00 e01 e02 e10 e11 e12 e20 e21 e22 hF vJ vH vI qV qW qU uC uE uD qJ qI qK r0 hr0 r1 hr1 r2 hr2 hl hr hup hd)) <| zM <| zE uG <| zE uG <| zE uG <| zN (qP 5 gG gE) <| zN (qP 6 qF qQ) <| zT (kU yF) <| zT (kU jR) <| zM <| zZ) ?_
 refine jA <| jA <| kx [(82, (vb true))] [] (zM <| zE dL <| zM <| zK <| zK <| zE mX <| zM <| zK <| zK <| zE mX <| zZ) ?_
 refine jY ?_
 refine jA <| kx [(4, (vb true))] [] (zM <| zZ) ?_
 refine jH ⟨_, (.tmp (d := (.val (.bool (true)))) rfl .nil), ?_⟩
 rfl
theorem w_rows001 (lx ly lz la lb lc ld lf lu lv rx ry rz ra rb rc rd rf ru rv : Int) (px py pz : Int) (hpx : -1048576 ≤ px ∧ px ≤ 1048576) (hpy : -1048576 ≤ py ∧ py ≤ 1048576) (hpz : -1048576 ≤ pz ∧ pz ≤ 1048576) (b0 b1 b2 e00 e01 e02 e10 e11 e12 e20 e21 e22 : Rat) (hF : RFr lx ly lz la lb lc ld rx ry rz ra rb rc rd b0 b1 b2 e00 e01 e02 e10 e11 e12 e20 e21 e22) (vJ : QL b0 3) (vH : QL b1 3) (vI : QL b2 3) (qV : QL e00 400) (qW : QL e01 400) (qU : QL e02 400) (uC : QL e10 400) (uE : QL e11 400) (uD : QL e12 400) (qJ : QL e20 400) (qI : QL e21 400) (qK : QL e22 400) (r0 : Rat) (hr0 : ((px - lx : Int) : Rat) = r0) (r1 : Rat) (hr1 : ((py - ly : Int) : Rat) = r1) (r2 : Rat) (hr2 : ((pz - lz : Int) : Rat) = r2) (q0 : Rat) (hq0 : ((px - rx : Int) : Rat) = q0) (q1 : Rat) (hq1 : ((py - ry : Int) : Rat) = q1) (q2 : Rat) (hq2 : ((pz - rz : Int) : Rat) = q2) (hl : uP lx ly lz lu lv lf la lb lc ld = 0) (hr : uP rx ry rz ru rv rf ra rb rc rd = 0) (hup : upV la lb lc ld ra rb rc rd b0 b1 b2 = false) (hvl : (qZ (jF (uK la lb lc ld) (uL la lb lc ld) (uO la lb lc ld) r0 r1 r2)) ≤ 0) (hvr : (qZ (jF (uK ra rb rc rd) (uL ra rb rc rd) (uO ra rb rc rd) q0 q1 q2)) ≤ 0) (hd : ¬ (qZ (jF e20 e21 e22 r0 r1 r2)) ≤ 0) : kD Tryz.prog 5 [(qA (kT.mk (kH.mk (jL.mk lx ly lz) (jO.mk la lb lc ld) lf (kI.mk lu lv)) (kH.mk (jL.mk rx ry rz) (jO.mk ra rb rc rd) rf (kI.mk ru rv)))), (qE (jL.mk px py pz))] (.val (.bool (true))) := by
 have hbl := uS hl
 have hbr := uS hr
 obtain ⟨hlx, hly, hlz, hlu, hlv, hlf, hlq⟩ := hbl
 obtain ⟨hrx, hry, hrz, hru, hrv, hrf, hrq⟩ := hbr
 obtain ⟨hla, hlb, hlc, hld, -⟩ := uW hlq
 obtain ⟨hra, hrb, hrc, hrd, -⟩ := uW hrq
 have hnl := yN hla hlb hlc hld
 have hnr := yN hra hrb hrc hrd
 have hz0 := eF hF hup
 have hz1 := eH hF hup
 have hz2 := fU hF hup
 let y2 := (qA (kT.mk (kH.mk (jL.mk lx ly lz) (jO.mk la lb lc ld) lf (kI.mk lu lv)) (kH.mk (jL.mk rx ry rz) (jO.mk ra rb rc rd) rf (kI.mk ru rv))))
 let y1 := (bx y2)
 refine jK Tryz.func5 rfl cb5 rfl ?_
 show uY _ _ _ _ ⟨[(0, (.d y2)), (1, (.d (qE (jL.mk px py pz))))], []⟩
 refine jA <| kx [(2, (.ref 0 0)), (3, (.ref 1 0))] [(0, some y1), (1, some (bx (qE (jL.mk px py pz))))] (zN (vN 0) <| zN (vN 1) <| zM <| zZ) ?_
 refine jA <| jA <| kx [(19, (vb false))] [] (zE (jX hZ) <| zE oNt <| zZ) ?_
 refine kG ?_
 refine jD <| jA <| jA <| kx [(6, (vi 0))] [(2, none)] (zR (jZ mE) <| zE (jX (aH lx ly lz la lb lc ld lf lu lv rx ry rz ra rb rc rd rf ru rv b0 b1 b2 e00 e01 e02 e10 e11 e12 e20 e21 e22 hF vJ vH vI qV qW qU uC uE uD qJ qI qK hl hr hup)) <| zM <| zE uG <| zE uG <| zN (qP 2 fL fX) <| zT (kU cV) <| zM <| zZ) ?_
 refine jA <| kx [(26, (vb false))] [] (zM <| zE dL <| zZ) ?_
 refine kG ?_
 refine jD <| jA <| jA <| kx [(33, (vl 3 1 vL [px, py, pz])), (34, (kE 3)), (35, (kE 0))] [] (zE (kO yB) <| zR (uM uH) <| zE (kO yK) <| zR (uM uH) <| zE (kO yL) <| zR (uM uH) <| zE (nM vB ze3 zo3) <| zE (oLn vB 3) <| zM <| zZ) ?_
 refine jE <| kW 20 ?_
 refine qC <| jA <| kx [(36, (vb true))] [] (zE (qN true qM) <| zZ) ?_
 refine jA <| jY ?_
 refine jD <| jA <| jE <| jA <| kx [(8, (vi px))] [] (zE (zS vB 0) <| zE (xT uH) <| zM <| zZ) ?_
 refine jA <| kx [(44, (vb false))] [] (zM <| zE (qN false qM (by exact decide_eq_false (by omega))) <| zM <| zM <| zE (qN false hM (by exact decide_eq_false (by omega))) <| zE mV <| zZ) ?_
 refine kG ?_
 refine jD <| kx [(35, (kE 1))] [] (zE (uI 1 (hr := by decide)) <| zM <| zZ) ?_
 refine jJ (jW.refl _) ?_
 refine jA <| kx [(36, (vb true))] [] (zE (qN true qM) <| zZ) ?_
 refine jA <| jY ?_
 refine jD <| jA <| jE <| jA <| kx [(8, (vi py))] [] (zE (zS vB 1) <| zE (xT uH) <| zM <| zZ) ?_
 refine jA <| kx [(44, (vb false))] [] (zM <| zE (qN false qM (by exact decide_eq_false (by omega))) <| zM <| zM <| zE (qN false hM (by exact decide_eq_false (by omega))) <| zE mV <| zZ) ?_
 refine kG ?_
 refine jD <| kx [(35, (kE 2))] [] (zE (uI 2 (hr := by decide)) <| zM <| zZ) ?_
 refine jJ (jW.refl _) ?_
 refine jA <| kx [(36, (vb true))] [] (zE (qN true qM) <| zZ) ?_
 refine jA <| jY ?_
 refine jD <| jA <| jE <| jA <| kV (wk (l := [(2, (.ref 0 0)), (3, (.ref 1 0)), (33, (vl 3 1 vL [px, py, pz])), (34, (kE 3)), (35, (kE 2)), (36, (vb true))]) (b := [(0, some y1), (1, some (bx (qE (jL.mk px py pz))))])) ?_
 refine kx [(8, (vi pz))] [] (zE (zS vB 2) <| zE (xT uH) <| zM <| zZ) ?_
 refine jA <| kx [(44, (vb false))] [] (zM <| zE (qN false qM (by exact decide_eq_false (by omega))) <| zM <| zM <| zE (qN false hM (by exact decide_eq_false (by omega))) <| zE mV <| zZ) ?_
 refine kG ?_
 refine jD <| kx [(35, (kE 3))] [] (zE (uI 3 (hr := by decide)) <| zM <| zZ) ?_
 refine jJ (jW.refl _) ?_
 refine jA <| kx [(36, (vb false))] [] (zE (qN false qM) <| zZ) ?_
 refine jA <| kG ?_
 refine kK <| jA ?_
 have bn1 : QL r0 3 := (jT (Eq.symm hr0) (qi (px - lx)))
 have bn2 : QL r1 3 := (jT (Eq.symm hr1) (qi (py - ly)))
 have bn3 : QL r2 3 := (jT (Eq.symm hr2) (qi (pz - lz)))
 refine kd [(9, (.ref 3 0)), (10, (vi 20))] [(3, some (bx (kJ (qD.mk (jV.mk (jG.mk false []) (jG.mk false [])) (jV.mk (jG.mk false []) (jG.mk false []))))))] mo (wE (kO yA) <| wR (jZ vK) <| wE (kO yA) <| wR (jZ vK) <| wR (jZ nC) <| wE (jX (by have h := gK lx ly lz la lb lc ld lf lu lv (by omega) (by omega) (by omega) px py pz (by omega) (by omega) (by omega); rw [hr0, hr1, hr2] at h; exact h)) <| wE (jX (mA lx ly lz la lb lc ld lf lu lv r0 r1 r2 (qu bn1) (qu bn2) (qu bn3) hl hvl)) <| wM <| wE uG <| wE uG <| wN (qP 3 gG gE) <| wT (kU yF) <| wM <| wZ) ?_
 refine jA ?_
 have bn4 : QL q0 3 := (jT (Eq.symm hq0) (qi (px - rx)))
 have bn5 : QL q1 3 := (jT (Eq.symm hq1) (qi (py - ry)))
 have bn6 : QL q2 3 := (jT (Eq.symm hq2) (qi (pz - rz)))
 refine kd [(11, (.ref 4 0)), (12, (vi 20))] [(4, some (bx (kJ (qD.mk (jV.mk (jG.mk false []) (jG.mk false [])) (jV.mk (jG.mk false []) (jG.mk false []))))))] mo (wE (kO zY) <| wR (jZ vK) <| wE (kO zY) <| wR (jZ vK) <| wR (jZ nC) <| wE (jX (by have h := gK rx ry rz ra rb rc rd rf ru rv (by omega) (by omega) (by omega) px py pz (by omega) (by omega) (by omega); rw [hq0, hq1, hq2] at h; exact h)) <| wE (jX (mA rx ry rz ra rb rc rd rf ru rv q0 q1 q2 (qu bn4) (qu bn5) (qu bn6) hr hvr)) <| wM <| wE uG <| wE uG <| wN (qP 4 gG gE) <| wT (kU yF) <| wM <| wZ) ?_
 refine jA ?_
 have bn7 : QL ((jF e00 e01 e02 r0 r1 r2) / (jF e20 e21 e22 r0 r1 r2)) 4804 := (vE (k := 4804) (jQ (n := 400) (k := 2402) qV qW qU (qu bn1) (qu bn2) (qu bn3) (by decide)) (jQ (n := 400) (k := 2402) qJ qI qK (qu bn1) (qu bn2) (qu bn3) (by decide)) (by decide))
 have bn8 : QL ((jF e10 e11 e12 r0 r1 r2) / (jF e20 e21 e22 r0 r1 r2)) 4804 := (vE (k := 4804) (jQ (n := 400) (k := 2402) uC uE uD (qu bn1) (qu bn2) (qu bn3) (by decide)) (jQ (n := 400) (k := 2402) qJ qI qK (qu bn1) (qu bn2) (qu bn3) (by decide)) (by decide))
 have bn9 : QL ((jF e00 e01 e02 b0 b1 b2) / (jF e20 e21 e22 r0 r1 r2)) 4804 := (vE (k := 4804) (jQ (n := 400) (k := 2402) qV qW qU (qu vJ) (qu vH) (qu vI) (by decide)) (jQ (n := 400) (k := 2402) qJ qI qK (qu bn1) (qu bn2) (qu bn3) (by decide)) (by decide))
 refine kx [(13, (.ref 5 0)), (14, (.ref 6 0)), (15, (vi 0))] [(5, some (bx (kJ (qD.mk (jC ((jF e00 e01 e02 r0 r1 r2) / (jF e20 e21 e22 r0 r1 r2))) (jC ((jF e10 e11 e12 r0 r1 r2) / (jF e20 e21 e22 r0 r1 r2))))))), (6, some (bx (jM (jC ((jF e00 e01 e02 b0 b1 b2) / (jF e20 e21 e22 r0 r1 r2))))))] (zR (jZ mE) <| zR (jZ nC) <| zE (jX (q_prj lx ly lz la lb lc ld lf lu lv rx ry rz ra rb rc rd rf ru rv px py pz (by omega) (by omega) (by omega) b0 b1 b2 e00 e01 e02 e10 e11 e12 e20 e21 e22 hF vJ vH vI qV qW qU uC uE uD qJ qI qK r0 hr0 r1 hr1 r2 hr2 hl hr hup hd)) <| zM <| zE uG <| zE uG <| zE uG <| zN (qP 5 gG gE) <| zN (qP 6 qF qQ) <| zT (kU yF) <| zT (kU jR) <| zM <| zZ) ?_
 refine jA <| jA <| kx [(82, (vb true))] [] (zM <| zE dL <| zM <| zK <| zK <| zE mX <| zM <| zK <| zK <| zE mX <| zZ) ?_
 refine jY ?_
 refine jA <| kx [(4, (vb true))] [] (zM <| zZ) ?_
 refine jH ⟨_, (.tmp (d := (.val (.bool (true)))) rfl .nil), ?_⟩
 rfl
theorem w_rows010 (lx ly lz la lb lc ld lf lu lv rx ry rz ra rb rc rd rf ru rv : Int) (px py pz : Int) (hpx : -1048576 ≤ px ∧ px ≤ 1048576) (hpy : -1048576 ≤ py ∧ py ≤ 1048576) (hpz : -1048576 ≤ pz ∧ pz ≤ 1048576) (b0 b1 b2 e00 e01 e02 e10 e11 e12 e20 e21 e22 : Rat) (hF : RFr lx ly lz la lb lc ld rx ry rz ra rb rc rd b0 b1 b2 e00 e01 e02 e10 e11 e12 e20 e21 e22) (vJ : QL b0 3) (vH : QL b1 3) (vI : QL b2 3) (qV : QL e00 400) (qW : QL e01 400) (qU : QL e02 400) (uC : QL e10 400) (uE : QL e11 400) (uD : QL e12 400) (qJ : QL e20 400) (qI : QL e21 400) (qK : QL e22 400) (r0 : Rat) (hr0 : ((px - lx : Int) : Rat) = r0) (r1 : Rat) (hr1 : ((py - ly : Int) : Rat) = r1) (r2 : Rat) (hr2 : ((pz - lz : Int) : Rat) = r2) (q0 : Rat) (hq0 : ((px - rx : Int) : Rat) = q0) (q1 : Rat) (hq1 : ((py - ry : Int) : Rat) = q1) (q2 : Rat) (hq2 : ((pz - rz : Int) : Rat) = q2) (hl : uP lx ly lz lu lv lf la lb lc ld = 0) (hr : uP rx ry rz ru rv rf ra rb rc rd = 0) (hup : upV la lb lc ld ra rb rc rd b0 b1 b2 = false) (hvl : (qZ (jF (uK la lb lc ld) (uL la lb lc ld) (uO la lb lc ld) r0 r1 r2)) ≤ 0) (hvr : ¬ (qZ (jF (uK ra rb rc rd) (uL ra rb rc rd) (uO ra rb rc rd) q0 q1 q2)) ≤ 0) (hd : (qZ (jF e20 e21 e22 r0 r1 r2)) ≤ 0) : kD Tryz.prog 5 [(qA (kT.mk (kH.mk (jL.mk lx ly lz) (jO.mk la lb lc ld) lf (kI.mk lu lv)) (kH.mk (jL.mk rx ry rz) (jO.mk ra rb rc rd) rf (kI.mk ru rv)))), (qE (jL.mk px py pz))] (.val (.bool (true))) := by
 have hbl := uS hl
 have hbr := uS hr
 obtain ⟨hlx, hly, hlz, hlu, hlv, hlf, hlq⟩ := hbl
 obtain ⟨hrx, hry, hrz, hru, hrv, hrf, hrq⟩ := hbr
 obtain ⟨hla, hlb, hlc, hld, -⟩ := uW hlq
 obtain ⟨hra, hrb, hrc, hrd, -⟩ := uW hrq
 have hnl := yN hla hlb hlc hld
 have hnr := yN hra hrb hrc hrd
 have hz0 := eF hF hup
 have hz1 := eH hF hup
 have hz2 := fU hF hup
 let y3 := (jV.mk (jG.mk false []) (jG.mk false []))
 let y2 := (qA (kT.mk (kH.mk (jL.mk lx ly lz) (jO.mk la lb lc ld) lf (kI.mk lu lv)) (kH.mk (jL.mk rx ry rz) (jO.mk ra rb rc rd) rf (kI.mk ru rv))))
 let y1 := (bx y2)
 refine jK Tryz.func5 rfl cb5 rfl ?_
 show uY _ _ _ _ ⟨[(0, (.d y2)), (1, (.d (qE (jL.mk px py pz))))], []⟩
 refine jA <| kx [(2, (.ref 0 0)), (3, (.ref 1 0))] [(0, some y1), (1, some (bx (qE (jL.mk px py pz))))] (zN (vN 0) <| zN (vN 1) <| zM <| zZ) ?_
 refine jA <| jA <| kx [(19, (vb false))] [] (zE (jX hZ) <| zE oNt <| zZ) ?_
 refine kG ?_
 refine jD <| jA <| jA <| kx [(6, (vi 0))] [(2, none)] (zR (jZ mE) <| zE (jX (aH lx ly lz la lb lc ld lf lu lv rx ry rz ra rb rc rd rf ru rv b0 b1 b2 e00 e01 e02 e10 e11 e12 e20 e21 e22 hF vJ vH vI qV qW qU uC uE uD qJ qI qK hl hr hup)) <| zM <| zE uG <| zE uG <| zN (qP 2 fL fX) <| zT (kU cV) <| zM <| zZ) ?_
 refine jA <| kx [(26, (vb false))] [] (zM <| zE dL <| zZ) ?_
 refine kG ?_
 refine jD <| jA <| jA <| kx [(33, (vl 3 1 vL [px, py, pz])), (34, (kE 3)), (35, (kE 0))] [] (zE (kO yB) <| zR (uM uH) <| zE (kO yK) <| zR (uM uH) <| zE (kO yL) <| zR (uM uH) <| zE (nM vB ze3 zo3) <| zE (oLn vB 3) <| zM <| zZ) ?_
 refine jE <| kW 20 ?_
 refine qC <| jA <| kx [(36, (vb true))] [] (zE (qN true qM) <| zZ) ?_
 refine jA <| jY ?_
 refine jD <| jA <| jE <| jA <| kx [(8, (vi px))] [] (zE (zS vB 0) <| zE (xT uH) <| zM <| zZ) ?_
 refine jA <| kx [(44, (vb false))] [] (zM <| zE (qN false qM (by exact decide_eq_false (by omega))) <| zM <| zM <| zE (qN false hM (by exact decide_eq_false (by omega))) <| zE mV <| zZ) ?_
 refine kG ?_
 refine jD <| kx [(35, (kE 1))] [] (zE (uI 1 (hr := by decide)) <| zM <| zZ) ?_
 refine jJ (jW.refl _) ?_
 refine jA <| kx [(36, (vb true))] [] (zE (qN true qM) <| zZ) ?_
 refine jA <| jY ?_
 refine jD <| jA <| jE <| jA <| kx [(8, (vi py))] [] (zE (zS vB 1) <| zE (xT uH) <| zM <| zZ) ?_
 refine jA <| kx [(44, (vb false))] [] (zM <| zE (qN false qM (by exact decide_eq_false (by omega))) <| zM <| zM <| zE (qN false hM (by exact decide_eq_false (by omega))) <| zE mV <| zZ) ?_
 refine kG ?_
 refine jD <| kx [(35, (kE 2))] [] (zE (uI 2 (hr := by decide)) <| zM <| zZ) ?_
 refine jJ (jW.refl _) ?_
 refine jA <| kx [(36, (vb true))] [] (zE (qN true qM) <| zZ) ?_
 refine jA <| jY ?_
 refine jD <| jA <| jE <| jA <| kV (wk (l := [(2, (.ref 0 0)), (3, (.ref 1 0)), (33, (vl 3 1 vL [px, py, pz])), (34, (kE 3)), (35, (kE 2)), (36, (vb true))]) (b := [(0, some y1), (1, some (bx (qE (jL.mk px py pz))))])) ?_
 refine kx [(8, (vi pz))] [] (zE (zS vB 2) <| zE (xT uH) <| zM <| zZ) ?_
 refine jA <| kx [(44, (vb false))] [] (zM <| zE (qN false qM (by exact decide_eq_false (by omega))) <| zM <| zM <| zE (qN false hM (by exact decide_eq_false (by omega))) <| zE mV <| zZ) ?_
 refine kG ?_
 refine jD <| kx [(35, (kE 3))] [] (zE (uI 3 (hr := by decide)) <| zM <| zZ) ?_
 refine jJ (jW.refl _) ?_
 refine jA <| kx [(36, (vb false))] [] (zE (qN false qM) <| zZ) ?_
 refine jA <| kG ?_
 refine kK <| jA ?_
 have bn1 : QL r0 3 := (jT (Eq.symm hr0) (qi (px - lx)))
 have bn2 : QL r1 3 := (jT (Eq.symm hr1) (qi (py - ly)))
 have bn3 : QL r2 3 := (jT (Eq.symm hr2) (qi (pz - lz)))
 refine kd [(9, (.ref 3 0)), (10, (vi 20))] [(3, some (bx (kJ (qD.mk y3 y3))))] mo (wE (kO yA) <| wR (jZ vK) <| wE (kO yA) <| wR (jZ vK) <| wR (jZ nC) <| wE (jX (by have h := gK lx ly lz la lb lc ld lf lu lv (by omega) (by omega) (by omega) px py pz (by omega) (by omega) (by omega); rw [hr0, hr1, hr2] at h; exact h)) <| wE (jX (mA lx ly lz la lb lc ld lf lu lv r0 r1 r2 (qu bn1) (qu bn2) (qu bn3) hl hvl)) <| wM <| wE uG <| wE uG <| wN (qP 3 gG gE) <| wT (kU yF) <| wM <| wZ) ?_
 refine jA ?_
 have bn4 : QL q0 3 := (jT (Eq.symm hq0) (qi (px - rx)))
 have bn5 : QL q1 3 := (jT (Eq.symm hq1) (qi (py - ry)))
 have bn6 : QL q2 3 := (jT (Eq.symm hq2) (qi (pz - rz)))
 have bn7 : QL (((ru : Int) : Rat) + ((((rf : Int) : Rat) * (jF (xY ra rb rc rd) (zC ra rb rc rd) (zI ra rb rc rd) q0 q1 q2)) / (jF (uK ra rb rc rd) (uL ra rb rc rd) (uO ra rb rc rd) q0 q1 q2))) 47 := (uF (k := 47) (qi ru) (vE (k := 43) (jI (k := 23) (qi rf) (jQ (n := 3) (k := 20) (eZ) (eW) (fD) bn4 bn5 bn6 (by decide)) (by decide)) (jQ (n := 3) (k := 20) (mG) (mT) (mS) bn4 bn5 bn6 (by decide)) (by decide)) (by decide))
 have bn8 : QL (((rv : Int) : Rat) + ((((rf : Int) : Rat) * (jF (xW ra rb rc rd) (zD ra rb rc rd) (zG ra rb rc rd) q0 q1 q2)) / (jF (uK ra rb rc rd) (uL ra rb rc rd) (uO ra rb rc rd) q0 q1 q2))) 47 := (uF (k := 47) (qi rv) (vE (k := 43) (jI (k := 23) (qi rf) (jQ (n := 3) (k := 20) (fC) (fF) (eX) bn4 bn5 bn6 (by decide)) (by decide)) (jQ (n := 3) (k := 20) (mG) (mT) (mS) bn4 bn5 bn6 (by decide)) (by decide)) (by decide))
 refine kd [(11, (.ref 4 0)), (12, (vi 0))] [(4, some (bx (kJ (qD.mk (jC (((ru : Int) : Rat) + ((((rf : Int) : Rat) * (jF (xY ra rb rc rd) (zC ra rb rc rd) (zI ra rb rc rd) q0 q1 q2)) / (jF (uK ra rb rc rd) (uL ra rb rc rd) (uO ra rb rc rd) q0 q1 q2)))) (jC (((rv : Int) : Rat) + ((((rf : Int) : Rat) * (jF (xW ra rb rc rd) (zD ra rb rc rd) (zG ra rb rc rd) q0 q1 q2)) / (jF (uK ra rb rc rd) (uL ra rb rc rd) (uO ra rb rc rd) q0 q1 q2))))))))] mo (wE (kO zY) <| wR (jZ vK) <| wE (kO zY) <| wR (jZ vK) <| wR (jZ nC) <| wE (jX (by have h := gK rx ry rz ra rb rc rd rf ru rv (by omega) (by omega) (by omega) px py pz (by omega) (by omega) (by omega); rw [hq0, hq1, hq2] at h; exact h)) <| wE (jX (cR rx ry rz ra rb rc rd rf ru rv q0 q1 q2 (qu bn4) (qu bn5) (qu bn6) hr hvr)) <| wM <| wE uG <| wE uG <| wN (qP 4 gG gE) <| wT (kU yF) <| wM <| wZ) ?_
 refine jA <| kx [(13, (.ref 5 0)), (14, (.ref 6 0)), (15, (vi 20))] [(5, some (bx (kJ (qD.mk y3 y3)))), (6, some (bx (jM y3)))] (zR (jZ mE) <| zR (jZ nC) <| zE (jX (q_prjN lx ly lz la lb lc ld lf lu lv rx ry rz ra rb rc rd rf ru rv px py pz (by omega) (by omega) (by omega) b0 b1 b2 e00 e01 e02 e10 e11 e12 e20 e21 e22 hF vJ vH vI qV qW qU uC uE uD qJ qI qK r0 hr0 r1 hr1 r2 hr2 hl hr hup hd)) <| zM <| zE uG <| zE uG <| zE uG <| zN (qP 5 gG gE) <| zN (qP 6 qF qQ) <| zT (kU yF) <| zT (kU jR) <| zM <| zZ) ?_
 refine jA <| jA <| kx [(82, (vb true))] [] (zM <| zE dL <| zM <| zK <| zK <| zE mX <| zM <| zK <| zK <| zE mX <| zZ) ?_
 refine jY ?_
 refine jA <| kx [(4, (vb true))] [] (zM <| zZ) ?_
 refine jH ⟨_, (.tmp (d := (.val (.bool (true)))) rfl .nil), ?_⟩
 rfl
theorem w_rows011 (lx ly lz la lb lc ld lf lu lv rx ry rz ra rb rc rd rf ru rv : Int) (px py pz : Int) (hpx : -1048576 ≤ px ∧ px ≤ 1048576) (hpy : -1048576 ≤ py ∧ py ≤ 1048576) (hpz : -1048576 ≤ pz ∧ pz ≤ 1048576) (b0 b1 b2 e00 e01 e02 e10 e11 e12 e20 e21 e22 : Rat) (hF : RFr lx ly lz la lb lc ld rx ry rz ra rb rc rd b0 b1 b2 e00 e01 e02 e10 e11 e12 e20 e21 e22) (vJ : QL b0 3) (vH : QL b1 3) (vI : QL b2 3) (qV : QL e00 400) (qW : QL e01 400) (qU : QL e02 400) (uC : QL e10 400) (uE : QL e11 400) (uD : QL e12 400) (qJ : QL e20 400) (qI : QL e21 400) (qK : QL e22 400) (r0 : Rat) (hr0 : ((px - lx : Int) : Rat) = r0) (r1 : Rat) (hr1 : ((py - ly : Int) : Rat) = r1) (r2 : Rat) (hr2 : ((pz - lz : Int) : Rat) = r2) (q0 : Rat) (hq0 : ((px - rx : Int) : Rat) = q0) (q1 : Rat) (hq1 : ((py - ry : Int) : Rat) = q1) (q2 : Rat) (hq2 : ((pz - rz : Int) : Rat) = q2) (hl : uP lx ly lz lu lv lf la lb lc ld = 0) (hr : uP rx ry rz ru rv rf ra rb rc rd = 0) (hup : upV la lb lc ld ra rb rc rd b0 b1 b2 = false) (hvl : (qZ (jF (uK la lb lc ld) (uL la lb lc ld) (uO la lb lc ld) r0 r1 r2)) ≤ 0) (hvr : ¬ (qZ (jF (uK ra rb rc rd) (uL ra rb rc rd) (uO ra rb rc rd) q0 q1 q2)) ≤ 0) (hd : ¬ (qZ (jF e20 e21 e22 r0 r1 r2)) ≤ 0) : kD Tryz.prog 5 [(qA (kT.mk (kH.mk (jL.mk lx ly lz) (jO.mk la lb lc ld) lf (kI.mk lu lv)) (kH.mk (jL.mk rx ry rz) (jO.mk ra rb rc rd) rf (kI.mk ru rv)))), (qE (jL.mk px py pz))] (.val (.bool (true))) := by
 have hbl := uS hl
 have hbr := uS hr
 obtain ⟨hlx, hly, hlz, hlu, hlv, hlf, hlq⟩ := hbl
 obtain ⟨hrx, hry, hrz, hru, hrv, hrf, hrq⟩ := hbr
 obtain ⟨hla, hlb, hlc, hld, -⟩ := uW hlq
 obtain ⟨hra, hrb, hrc, hrd, -⟩ := uW hrq
 have hnl := yN hla hlb hlc hld
 have hnr := yN hra hrb hrc hrd
 have hz0 := eF hF hup
 have hz1 := eH hF hup
 have hz2 := fU hF hup
 let y2 := (qA (kT.mk (kH.mk (jL.mk lx ly lz) (jO.mk la lb lc ld) lf (kI.mk lu lv)) (kH.mk (jL.mk rx ry rz) (jO.mk ra rb rc rd) rf (kI.mk ru rv))))
 let y1 := (bx y2)
 refine jK Tryz.func5 rfl cb5 rfl ?_
 show uY _ _ _ _ ⟨[(0, (.d y2)), (1, (.d (qE (jL.mk px py pz))))], []⟩
 refine jA <| kx [(2, (.ref 0 0)), (3, (.ref 1 0))] [(0, some y1), (1, some (bx (qE (jL.mk px py pz))))] (zN (vN 0) <| zN (vN 1) <| zM <| zZ) ?_
 refine jA <| jA <| kx [(19, (vb false))] [] (zE (jX hZ) <| zE oNt <| zZ) ?_
 refine kG ?_
 refine jD <| jA <| jA <| kx [(6, (vi 0))] [(2, none)] (zR (jZ mE) <| zE (jX (aH lx ly lz la lb lc ld lf lu lv rx ry rz ra rb rc rd rf ru rv b0 b1 b2 e00 e01 e02 e10 e11 e12 e20 e21 e22 hF vJ vH vI qV qW qU uC uE uD qJ qI qK hl hr hup)) <| zM <| zE uG <| zE uG <| zN (qP 2 fL fX) <| zT (kU cV) <| zM <| zZ) ?_
 refine jA <| kx [(26, (vb false))] [] (zM <| zE dL <| zZ) ?_
 refine kG ?_
 refine jD <| jA <| jA <| kx [(33, (vl 3 1 vL [px, py, pz])), (34, (kE 3)), (35, (kE 0))] [] (zE (kO yB) <| zR (uM uH) <| zE (kO yK) <| zR (uM uH) <| zE (kO yL) <| zR (uM uH) <| zE (nM vB ze3 zo3) <| zE (oLn vB 3) <| zM <| zZ) ?_
 refine jE <| kW 20 ?_
 refine qC <| jA <| kx [(36, (vb true))] [] (zE (qN true qM) <| zZ) ?_
 refine jA <| jY ?_
 refine jD <| jA <| jE <| jA <| kx [(8, (vi px))] [] (zE (zS vB 0) <| zE (xT uH) <| zM <| zZ) ?_
 refine jA <| kx [(44, (vb false))] [] (zM <| zE (qN false qM (by exact decide_eq_false (by omega))) <| zM <| zM <| zE (qN false hM (by exact decide_eq_false (by omega))) <| zE mV <| zZ) ?_
 refine kG ?_
 refine jD <| kx [(35, (kE 1))] [] (zE (uI 1 (hr := by decide)) <| zM <| zZ) ?_
 refine jJ (jW.refl _) ?_
 refine jA <| kx [(36, (vb true))] [] (zE (qN true qM) <| zZ) ?_
 refine jA <| jY ?_
 refine jD <| jA <| jE <| jA <| kx [(8, (vi py))] [] (zE (zS vB 1) <| zE (xT uH) <| zM <| zZ) ?_
 refine jA <| kx [(44, (vb false))] [] (zM <| zE (qN false qM (by exact decide_eq_false (by omega))) <| zM <| zM <| zE (qN false hM (by exact decide_eq_false (by omega))) <| zE mV <| zZ) ?_
 refine kG ?_
 refine jD <| kx [(35, (kE 2))] [] (zE (uI 2 (hr := by decide)) <| zM <| zZ) ?_
 refine jJ (jW.refl _) ?_
 refine jA <| kx [(36, (vb true))] [] (zE (qN true qM) <| zZ) ?_
 refine jA <| jY ?_
 refine jD <| jA <| jE <| jA <| kV (wk (l := [(2, (.ref 0 0)), (3, (.ref 1 0)), (33, (vl 3 1 vL [px, py, pz])), (34, (kE 3)), (35, (kE 2)), (36, (vb true))]) (b := [(0, some y1), (1, some (bx (qE (jL.mk px py pz))))])) ?_
 refine kx [(8, (vi pz))] [] (zE (zS vB 2) <| zE (xT uH) <| zM <| zZ) ?_
 refine jA <| kx [(44, (vb false))] [] (zM <| zE (qN false qM (by exact decide_eq_false (by omega))) <| zM <| zM <| zE (qN false hM (by exact decide_eq_false (by omega))) <| zE mV <| zZ) ?_
 refine kG ?_
 refine jD <| kx [(35, (kE 3))] [] (zE (uI 3 (hr := by decide)) <| zM <| zZ) ?_
 refine jJ (jW.refl _) ?_
 refine jA <| kx [(36, (vb false))] [] (zE (qN false qM) <| zZ) ?_
 refine jA <| kG ?_
 refine kK <| jA ?_
 have bn1 : QL r0 3 := (jT (Eq.symm hr0) (qi (px - lx)))
 have bn2 : QL r1 3 := (jT (Eq.symm hr1) (qi (py - ly)))
 have bn3 : QL r2 3 := (jT (Eq.symm hr2) (qi (pz - lz)))
 refine kd [(9, (.ref 3 0)), (10, (vi 20))] [(3, some (bx (kJ (qD.mk (jV.mk (jG.mk false []) (jG.mk false [])) (jV.mk (jG.mk false []) (jG.mk false []))))))] mo (wE (kO yA) <| wR (jZ vK) <| wE (kO yA) <| wR (jZ vK) <| wR (jZ nC) <| wE (jX (by have h := gK lx ly lz la lb lc ld lf lu lv (by omega) (by omega) (by omega) px py pz (by omega) (by omega) (by omega); rw [hr0, hr1, hr2] at h; exact h)) <| wE (jX (mA lx ly lz la lb lc ld lf lu lv r0 r1 r2 (qu bn1) (qu bn2) (qu bn3) hl hvl)) <| wM <| wE uG <| wE uG <| wN (qP 3 gG gE) <| wT (kU yF) <| wM <| wZ) ?_
 refine jA ?_
 have bn4 : QL q0 3 := (jT (Eq.symm hq0) (qi (px - rx)))
 have bn5 : QL q1 3 := (jT (Eq.symm hq1) (qi (py - ry)))
 have bn6 : QL q2 3 := (jT (Eq.symm hq2) (qi (pz - rz)))
 have bn7 : QL (((ru : Int) : Rat) + ((((rf : Int) : Rat) * (jF (xY ra rb rc rd) (zC ra rb rc rd) (zI ra rb rc rd) q0 q1 q2)) / (jF (uK ra rb rc rd) (uL ra rb rc rd) (uO ra rb rc rd) q0 q1 q2))) 47 := (uF (k := 47) (qi ru) (vE (k := 43) (jI (k := 23) (qi rf) (jQ (n := 3) (k := 20) (eZ) (eW) (fD) bn4 bn5 bn6 (by decide)) (by decide)) (jQ (n := 3) (k := 20) (mG) (mT) (mS) bn4 bn5 bn6 (by decide)) (by decide)) (by decide))
 have bn8 : QL (((rv : Int) : Rat) + ((((rf : Int) : Rat) * (jF (xW ra rb rc rd) (zD ra rb rc rd) (zG ra rb rc rd) q0 q1 q2)) / (jF (uK ra rb rc rd) (uL ra rb rc rd) (uO ra rb rc rd) q0 q1 q2))) 47 := (uF (k := 47) (qi rv) (vE (k := 43) (jI (k := 23) (qi rf) (jQ (n := 3) (k := 20) (fC) (fF) (eX) bn4 bn5 bn6 (by decide)) (by decide)) (jQ (n := 3) (k := 20) (mG) (mT) (mS) bn4 bn5 bn6 (by decide)) (by decide)) (by decide))
 refine kd [(11, (.ref 4 0)), (12, (vi 0))] [(4, some (bx (kJ (qD.mk (jC (((ru : Int) : Rat) + ((((rf : Int) : Rat) * (jF (xY ra rb rc rd) (zC ra rb rc rd) (zI ra rb rc rd) q0 q1 q2)) / (jF (uK ra rb rc rd) (uL ra rb rc rd) (uO ra rb rc rd) q0 q1 q2)))) (jC (((rv : Int) : Rat) + ((((rf : Int) : Rat) * (jF (xW ra rb rc rd) (zD ra rb rc rd) (zG ra rb rc rd) q0 q1 q2)) / (jF (uK ra rb rc rd) (uL ra rb rc rd) (uO ra rb rc rd) q0 q1 q2))))))))] mo (wE (kO zY) <| wR (jZ vK) <| wE (kO zY) <| wR (jZ vK) <| wR (jZ nC) <| wE (jX (by have h := gK rx ry rz ra rb rc rd rf ru rv (by omega) (by omega) (by omega) px py pz (by omega) (by omega) (by omega); rw [hq0, hq1, hq2] at h; exact h)) <| wE (jX (cR rx ry rz ra rb rc rd rf ru rv q0 q1 q2 (qu bn4) (qu bn5) (qu bn6) hr hvr)) <| wM <| wE uG <| wE uG <| wN (qP 4 gG gE) <| wT (kU yF) <| wM <| wZ) ?_
 refine jA ?_
 have bn9 : QL ((jF e00 e01 e02 r0 r1 r2) / (jF e20 e21 e22 r0 r1 r2)) 4804 := (vE (k := 4804) (jQ (n := 400) (k := 2402) qV qW qU (qu bn1) (qu bn2) (qu bn3) (by decide)) (jQ (n := 400) (k := 2402) qJ qI qK (qu bn1) (qu bn2) (qu bn3) (by decide)) (by decide))
 have bn10 : QL ((jF e10 e11 e12 r0 r1 r2) / (jF e20 e21 e22 r0 r1 r2)) 4804 := (vE (k := 4804) (jQ (n := 400) (k := 2402) uC uE uD (qu bn1) (qu bn2) (qu bn3) (by decide)) (jQ (n := 400) (k := 2402) qJ qI qK (qu bn1) (qu bn2) (qu bn3) (by decide)) (by decide))
 have bn11 : QL ((jF e00 e01 e02 b0 b1 b2) / (jF e20 e21 e22 r0 r1 r2)) 4804 := (vE (k := 4804) (jQ (n := 400) (k := 2402) qV qW qU (qu vJ) (qu vH) (qu vI) (by decide)) (jQ (n := 400) (k := 2402) qJ qI qK (qu bn1) (qu bn2) (qu bn3) (by decide)) (by decide))
 refine kx [(13, (.ref 5 0)), (14, (.ref 6 0)), (15, (vi 0))] [(5, some (bx (kJ (qD.mk (jC ((jF e00 e01 e02 r0 r1 r2) / (jF e20 e21 e22 r0 r1 r2))) (jC ((jF e10 e11 e12 r0 r1 r2) / (jF e20 e21 e22 r0 r1 r2))))))), (6, some (bx (jM (jC ((jF e00 e01 e02 b0 b1 b2) / (jF e20 e21 e22 r0 r1 r2))))))] (zR (jZ mE) <| zR (jZ nC) <| zE (jX (q_prj lx ly lz la lb lc ld lf lu lv rx ry rz ra rb rc rd rf ru rv px py pz (by omega) (by omega) (by omega) b0 b1 b2 e00 e01 e02 e10 e11 e12 e20 e21 e22 hF vJ vH vI qV qW qU uC uE uD qJ qI qK r0 hr0 r1 hr1 r2 hr2 hl hr hup hd)) <| zM <| zE uG <| zE uG <| zE uG <| zN (qP 5 gG gE) <| zN (qP 6 qF qQ) <| zT (kU yF) <| zT (kU jR) <| zM <| zZ) ?_
 refine jA <| jA <| kx [(82, (vb true))] [] (zM <| zE dL <| zM <| zK <| zK <| zE mX <| zM <| zK <| zK <| zE mX <| zZ) ?_
 refine jY ?_
 refine jA <| kx [(4, (vb true))] [] (zM <| zZ) ?_
 refine jH ⟨_, (.tmp (d := (.val (.bool (true)))) rfl .nil), ?_⟩
 rfl
theorem w_rows100 (lx ly lz la lb lc ld lf lu lv rx ry rz ra rb rc rd rf ru rv : Int) (px py pz : Int) (hpx : -1048576 ≤ px ∧ px ≤ 1048576) (hpy : -1048576 ≤ py ∧ py ≤ 1048576) (hpz : -1048576 ≤ pz ∧ pz ≤ 1048576) (b0 b1 b2 e00 e01 e02 e10 e11 e12 e20 e21 e22 : Rat) (hF : RFr lx ly lz la lb lc ld rx ry rz ra rb rc rd b0 b1 b2 e00 e01 e02 e10 e11 e12 e20 e21 e22) (vJ : QL b0 3) (vH : QL b1 3) (vI : QL b2 3) (qV : QL e00 400) (qW : QL e01 400) (qU : QL e02 400) (uC : QL e10 400) (uE : QL e11 400) (uD : QL e12 400) (qJ : QL e20 400) (qI : QL e21 400) (qK : QL e22 400) (r0 : Rat) (hr0 : ((px - lx : Int) : Rat) = r0) (r1 : Rat) (hr1 : ((py - ly : Int) : Rat) = r1) (r2 : Rat) (hr2 : ((pz - lz : Int) : Rat) = r2) (q0 : Rat) (hq0 : ((px - rx : Int) : Rat) = q0) (q1 : Rat) (hq1 : ((py - ry : Int) : Rat) = q1) (q2 : Rat) (hq2 : ((pz - rz : Int) : Rat) = q2) (hl : uP lx ly lz lu lv lf la lb lc ld = 0) (hr : uP rx ry rz ru rv rf ra rb rc rd = 0) (hup : upV la lb lc ld ra rb rc rd b0 b1 b2 = false) (hvl : ¬ (qZ (jF (uK la lb lc ld) (uL la lb lc ld) (uO la lb lc ld) r0 r1 r2)) ≤ 0) (hvr : (qZ (jF (uK ra rb rc rd) (uL ra rb rc rd) (uO ra rb rc rd) q0 q1 q2)) ≤ 0) (hd : (qZ (jF e20 e21 e22 r0 r1 r2)) ≤ 0) : kD Tryz.prog 5 [(qA (kT.mk (kH.mk (jL.mk lx ly lz) (jO.mk la lb lc ld) lf (kI.mk lu lv)) (kH.mk (jL.mk rx ry rz) (jO.mk ra rb rc rd) rf (kI.mk ru rv)))), (qE (jL.mk px py pz))] (.val (.bool (true))) := by
 have hbl := uS hl
 have hbr := uS hr
 obtain ⟨hlx, hly, hlz, hlu, hlv, hlf, hlq⟩ := hbl
 obtain ⟨hrx, hry, hrz, hru, hrv, hrf, hrq⟩ := hbr
 obtain ⟨hla, hlb, hlc, hld, -⟩ := uW hlq
 obtain ⟨hra, hrb, hrc, hrd, -⟩ := uW hrq
 have hnl := yN hla hlb hlc hld
 have hnr := yN hra hrb hrc hrd
 have hz0 := eF hF hup
 have hz1 := eH hF hup
 have hz2 := fU hF hup
 let y3 := (jV.mk (jG.mk false []) (jG.mk false []))
 let y2 := (qA (kT.mk (kH.mk (jL.mk lx ly lz) (jO.mk la lb lc ld) lf (kI.mk lu lv)) (kH.mk (jL.mk rx ry rz) (jO.mk ra rb rc rd) rf (kI.mk ru rv))))
 let y1 := (bx y2)
 refine jK Tryz.func5 rfl cb5 rfl ?_
 show uY _ _ _ _ ⟨[(0, (.d y2)), (1, (.d (qE (jL.mk px py pz))))], []⟩
 refine jA <| kx [(2, (.ref 0 0)), (3, (.ref 1 0))] [(0, some y1), (1, some (bx (qE (jL.mk px py pz))))] (zN (vN 0) <| zN (vN 1) <| zM <| zZ) ?_
 refine jA <| jA <| kx [(19, (vb false))] [] (zE (jX hZ) <| zE oNt <| zZ) ?_
 refine kG ?_
 refine jD <| jA <| jA <| kx [(6, (vi 0))] [(2, none)] (zR (jZ mE) <| zE (jX (aH lx ly lz la lb lc ld lf lu lv rx ry rz ra rb rc rd rf ru rv b0 b1 b2 e00 e01 e02 e10 e11 e12 e20 e21 e22 hF vJ vH vI qV qW qU uC uE uD qJ qI qK hl hr hup)) <| zM <| zE uG <| zE uG <| zN (qP 2 fL fX) <| zT (kU cV) <| zM <| zZ) ?_
 refine jA <| kx [(26, (vb false))] [] (zM <| zE dL <| zZ) ?_
 refine kG ?_
 refine jD <| jA <| jA <| kx [(33, (vl 3 1 vL [px, py, pz])), (34, (kE 3)), (35, (kE 0))] [] (zE (kO yB) <| zR (uM uH) <| zE (kO yK) <| zR (uM uH) <| zE (kO yL) <| zR (uM uH) <| zE (nM vB ze3 zo3) <| zE (oLn vB 3) <| zM <| zZ) ?_
 refine jE <| kW 20 ?_
 refine qC <| jA <| kx [(36, (vb true))] [] (zE (qN true qM) <| zZ) ?_
 refine jA <| jY ?_
 refine jD <| jA <| jE <| jA <| kx [(8, (vi px))] [] (zE (zS vB 0) <| zE (xT uH) <| zM <| zZ) ?_
 refine jA <| kx [(44, (vb false))] [] (zM <| zE (qN false qM (by exact decide_eq_false (by omega))) <| zM <| zM <| zE (qN false hM (by exact decide_eq_false (by omega))) <| zE mV <| zZ) ?_
 refine kG ?_
 refine jD <| kx [(35, (kE 1))] [] (zE (uI 1 (hr := by decide)) <| zM <| zZ) ?_
 refine jJ (jW.refl _) ?_
 refine jA <| kx [(36, (vb true))] [] (zE (qN true qM) <| zZ) ?_
 refine jA <| jY ?_
 refine jD <| jA <| jE <| jA <| kx [(8, (vi py))] [] (zE (zS vB 1) <| zE (xT uH) <| zM <| zZ) ?_
 refine jA <| kx [(44, (vb false))] [] (zM <| zE (qN false qM (by exact decide_eq_false (by omega))) <| zM <| zM <| zE (qN false hM (by exact decide_eq_false (by omega))) <| zE mV <| zZ) ?_
 refine kG ?_
 refine jD <| kx [(35, (kE 2))] [] (zE (uI 2 (hr := by decide)) <| zM <| zZ) ?_
 refine jJ (jW.refl _) ?_
 refine jA <| kx [(36, (vb true))] [] (zE (qN true qM) <| zZ) ?_
 refine jA <| jY ?_
 refine jD <| jA <| jE <| jA <| kV (wk (l := [(2, (.ref 0 0)), (3, (.ref 1 0)), (33, (vl 3 1 vL [px, py, pz])), (34, (kE 3)), (35, (kE 2)), (36, (vb true))]) (b := [(0, some y1), (1, some (bx (qE (jL.mk px py pz))))])) ?_
 refine kx [(8, (vi pz))] [] (zE (zS vB 2) <| zE (xT uH) <| zM <| zZ) ?_
 refine jA <| kx [(44, (vb false))] [] (zM <| zE (qN false qM (by exact decide_eq_false (by omega))) <| zM <| zM <| zE (qN false hM (by exact decide_eq_false (by omega))) <| zE mV <| zZ) ?_
 refine kG ?_
 refine jD <| kx [(35, (kE 3))] [] (zE (uI 3 (hr := by decide)) <| zM <| zZ) ?_
 refine jJ (jW.refl _) ?_
 refine jA <| kx [(36, (vb false))] [] (zE (qN false qM) <| zZ) ?_
 refine jA <| kG ?_
 refine kK <| jA ?_
 have bn1 : QL r0 3 := (jT (Eq.symm hr0) (qi (px - lx)))
 have bn2 : QL r1 3 := (jT (Eq.symm hr1) (qi (py - ly)))
 have bn3 : QL r2 3 := (jT (Eq.symm hr2) (qi (pz - lz)))
 have bn4 : QL (((lu : Int) : Rat) + ((((lf : Int) : Rat) * (jF (xY la lb lc ld) (zC la lb lc ld) (zI la lb lc ld) r0 r1 r2)) / (jF (uK la lb lc ld) (uL la lb lc ld) (uO la lb lc ld) r0 r1 r2))) 47 := (uF (k := 47) (qi lu) (vE (k := 43) (jI (k := 23) (qi lf) (jQ (n := 3) (k := 20) (eZ) (eW) (fD) bn1 bn2 bn3 (by decide)) (by decide)) (jQ (n := 3) (k := 20) (mG) (mT) (mS) bn1 bn2 bn3 (by decide)) (by decide)) (by decide))
 have bn5 : QL (((lv : Int) : Rat) + ((((lf : Int) : Rat) * (jF (xW la lb lc ld) (zD la lb lc ld) (zG la lb lc ld) r0 r1 r2)) / (jF (uK la lb lc ld) (uL la lb lc ld) (uO la lb lc ld) r0 r1 r2))) 47 := (uF (k := 47) (qi lv) (vE (k := 43) (jI (k := 23) (qi lf) (jQ (n := 3) (k := 20) (fC) (fF) (eX) bn1 bn2 bn3 (by decide)) (by decide)) (jQ (n := 3) (k := 20) (mG) (mT) (mS) bn1 bn2 bn3 (by decide)) (by decide)) (by decide))
 refine kd [(9, (.ref 3 0)), (10, (vi 0))] [(3, some (bx (kJ (qD.mk (jC (((lu : Int) : Rat) + ((((lf : Int) : Rat) * (jF (xY la lb lc ld) (zC la lb lc ld) (zI la lb lc ld) r0 r1 r2)) / (jF (uK la lb lc ld) (uL la lb lc ld) (uO la lb lc ld) r0 r1 r2)))) (jC (((lv : Int) : Rat) + ((((lf : Int) : Rat) * (jF (xW la lb lc ld) (zD la lb lc ld) (zG la lb lc ld) r0 r1 r2)) / (jF (uK la lb lc ld) (uL la lb lc ld) (uO la lb lc ld) r0 r1 r2))))))))] mo (wE (kO yA) <| wR (jZ vK) <| wE (kO yA) <| wR (jZ vK) <| wR (jZ nC) <| wE (jX (by have h := gK lx ly lz la lb lc ld lf lu lv (by omega) (by omega) (by omega) px py pz (by omega) (by omega) (by omega); rw [hr0, hr1, hr2] at h; exact h)) <| wE (jX (cR lx ly lz la lb lc ld lf lu lv r0 r1 r2 (qu bn1) (qu bn2) (qu bn3) hl hvl)) <| wM <| wE uG <| wE uG <| wN (qP 3 gG gE) <| wT (kU yF) <| wM <| wZ) ?_
 refine jA ?_
 have bn6 : QL q0 3 := (jT (Eq.symm hq0) (qi (px - rx)))
 have bn7 : QL q1 3 := (jT (Eq.symm hq1) (qi (py - ry)))
 have bn8 : QL q2 3 := (jT (Eq.symm hq2) (qi (pz - rz)))
 refine kd [(11, (.ref 4 0)), (12, (vi 20))] [(4, some (bx (kJ (qD.mk y3 y3))))] mo (wE (kO zY) <| wR (jZ vK) <| wE (kO zY) <| wR (jZ vK) <| wR (jZ nC) <| wE (jX (by have h := gK rx ry rz ra rb rc rd rf ru rv (by omega) (by omega) (by omega) px py pz (by omega) (by omega) (by omega); rw [hq0, hq1, hq2] at h; exact h)) <| wE (jX (mA rx ry rz ra rb rc rd rf ru rv q0 q1 q2 (qu bn6) (qu bn7) (qu bn8) hr hvr)) <| wM <| wE uG <| wE uG <| wN (qP 4 gG gE) <| wT (kU yF) <| wM <| wZ) ?_
 refine jA <| kx [(13, (.ref 5 0)), (14, (.ref 6 0)), (15, (vi 20))] [(5, some (bx (kJ (qD.mk y3 y3)))), (6, some (bx (jM y3)))] (zR (jZ mE) <| zR (jZ nC) <| zE (jX (q_prjN lx ly lz la lb lc ld lf lu lv rx ry rz ra rb rc rd rf ru rv px py pz (by omega) (by omega) (by omega) b0 b1 b2 e00 e01 e02 e10 e11 e12 e20 e21 e22 hF vJ vH vI qV qW qU uC uE uD qJ qI qK r0 hr0 r1 hr1 r2 hr2 hl hr hup hd)) <| zM <| zE uG <| zE uG <| zE uG <| zN (qP 5 gG gE) <| zN (qP 6 qF qQ) <| zT (kU yF) <| zT (kU jR) <| zM <| zZ) ?_
 refine jA <| jA <| kx [(82, (vb true))] [] (zM <| zE dL <| zM <| zM <| zE dL <| zE mV <| zM <| zK <| zK <| zE mX <| zZ) ?_
 refine jY ?_
 refine jA <| kx [(4, (vb true))] [] (zM <| zZ) ?_
 refine jH ⟨_, (.tmp (d := (.val (.bool (true)))) rfl .nil), ?_⟩
 rfl
theorem w_rows101 (lx ly lz la lb lc ld lf lu lv rx ry rz ra rb rc rd rf ru rv : Int) (px py pz : Int) (hpx : -1048576 ≤ px ∧ px ≤ 1048576) (hpy : -1048576 ≤ py ∧ py ≤ 1048576) (hpz : -1048576 ≤ pz ∧ pz ≤ 1048576) (b0 b1 b2 e00 e01 e02 e10 e11 e12 e20 e21 e22 : Rat) (hF : RFr lx ly lz la lb lc ld rx ry rz ra rb rc rd b0 b1 b2 e00 e01 e02 e10 e11 e12 e20 e21 e22) (vJ : QL b0 3) (vH : QL b1 3) (vI : QL b2 3) (qV : QL e00 400) (qW : QL e01 400) (qU : QL e02 400) (uC : QL e10 400) (uE : QL e11 400) (uD : QL e12 400) (qJ : QL e20 400) (qI : QL e21 400) (qK : QL e22 400) (r0 : Rat) (hr0 : ((px - lx : Int) : Rat) = r0) (r1 : Rat) (hr1 : ((py - ly : Int) : Rat) = r1) (r2 : Rat) (hr2 : ((pz - lz : Int) : Rat) = r2) (q0 : Rat) (hq0 : ((px - rx : Int) : Rat) = q0) (q1 : Rat) (hq1 : ((py - ry : Int) : Rat) = q1) (q2 : Rat) (hq2 : ((pz - rz : Int) : Rat) = q2) (hl : uP lx ly lz lu lv lf la lb lc ld = 0) (hr : uP rx ry rz ru rv rf ra rb rc rd = 0) (hup : upV la lb lc ld ra rb rc rd b0 b1 b2 = false) (hvl : ¬ (qZ (jF (uK la lb lc ld) (uL la lb lc ld) (uO la lb lc ld) r0 r1 r2)) ≤ 0) (hvr : (qZ (jF (uK ra rb rc rd) (uL ra rb rc rd) (uO ra rb rc rd) q0 q1 q2)) ≤ 0) (hd : ¬ (qZ (jF e20 e21 e22 r0 r1 r2)) ≤ 0) : kD Tryz.prog 5 [(qA (kT.mk (kH.mk (jL.mk lx ly lz) (jO.mk la lb lc ld) lf (kI.mk lu lv)) (kH.mk (jL.mk rx ry rz) (jO.mk ra rb rc rd) rf (kI.mk ru rv)))), (qE (jL.mk px py pz))] (.val (.bool (true))) := by
 have hbl := uS hl
 have hbr := uS hr
 obtain ⟨hlx, hly, hlz, hlu, hlv, hlf, hlq⟩ := hbl
 obtain ⟨hrx, hry, hrz, hru, hrv, hrf, hrq⟩ := hbr
 obtain ⟨hla, hlb, hlc, hld, -⟩ := uW hlq
 obtain ⟨hra, hrb, hrc, hrd, -⟩ := uW hrq
 have hnl := yN hla hlb hlc hld
 have hnr := yN hra hrb hrc hrd
 have hz0 := eF hF hup
 have hz1 := eH hF hup
 have hz2 := fU hF hup
 let y2 := (qA (kT.mk (kH.mk (jL.mk lx ly lz) (jO.mk la lb lc ld) lf (kI.mk lu lv)) (kH.mk (jL.mk rx ry rz) (jO.mk ra rb rc rd) rf (kI.mk ru rv))))
 let y1 := (bx y2)
 refine jK Tryz.func5 rfl cb5 rfl ?_
 show uY _ _ _ _ ⟨[(0, (.d y2)), (1, (.d (qE (jL.mk px py pz))))], []⟩
 refine jA <| kx [(2, (.ref 0 0)), (3, (.ref 1 0))] [(0, some y1), (1, some (bx (qE (jL.mk px py pz))))] (zN (vN 0) <| zN (vN 1) <| zM <| zZ) ?_
 refine jA <| jA <| kx [(19, (vb false))] [] (zE (jX hZ) <| zE oNt <| zZ) ?_
 refine kG ?_
 refine jD <| jA <| jA <| kx [(6, (vi 0))] [(2, none)] (zR (jZ mE) <| zE (jX (aH lx ly lz la lb lc ld lf lu lv rx ry rz ra rb rc rd rf ru rv b0 b1 b2 e00 e01 e02 e10 e11 e12 e20 e21 e22 hF vJ vH vI qV qW qU uC uE uD qJ qI qK hl hr hup)) <| zM <| zE uG <| zE uG <| zN (qP 2 fL fX) <| zT (kU cV) <| zM <| zZ) ?_
 refine jA <| kx [(26, (vb false))] [] (zM <| zE dL <| zZ) ?_
 refine kG ?_
 refine jD <| jA <| jA <| kx [(33, (vl 3 1 vL [px, py, pz])), (34, (kE 3)), (35, (kE 0))] [] (zE (kO yB) <| zR (uM uH) <| zE (kO yK) <| zR (uM uH) <| zE (kO yL) <| zR (uM uH) <| zE (nM vB ze3 zo3) <| zE (oLn vB 3) <| zM <| zZ) ?_
 refine jE <| kW 20 ?_
 refine qC <| jA <| kx [(36, (vb true))] [] (zE (qN true qM) <| zZ) ?_
 refine jA <| jY ?_
 refine jD <| jA <| jE <| jA <| kx [(8, (vi px))] [] (zE (zS vB 0) <| zE (xT uH) <| zM <| zZ) ?_
 refine jA <| kx [(44, (vb false))] [] (zM <| zE (qN false qM (by exact decide_eq_false (by omega))) <| zM <| zM <| zE (qN false hM (by exact decide_eq_false (by omega))) <| zE mV <| zZ) ?_
 refine kG ?_
 refine jD <| kx [(35, (kE 1))] [] (zE (uI 1 (hr := by decide)) <| zM <| zZ) ?_
 refine jJ (jW.refl _) ?_
 refine jA <| kx [(36, (vb true))] [] (zE (qN true qM) <| zZ) ?_
 refine jA <| jY ?_
 refine jD <| jA <| jE <| jA <| kx [(8, (vi py))] [] (zE (zS vB 1) <| zE (xT uH) <| zM <| zZ) ?_
 refine jA <| kx [(44, (vb false))] [] (zM <| zE (qN false qM (by exact decide_eq_false (by omega))) <| zM <| zM <| zE (qN false hM (by exact decide_eq_false (by omega))) <| zE mV <| zZ) ?_
 refine kG ?_
 refine jD <| kx [(35, (kE 2))] [] (zE (uI 2 (hr := by decide)) <| zM <| zZ) ?_
 refine jJ (jW.refl _) ?_
 refine jA <| kx [(36, (vb true))] [] (zE (qN true qM) <| zZ) ?_
 refine jA <| jY ?_
 refine jD <| jA <| jE <| jA <| kV (wk (l := [(2, (.ref 0 0)), (3, (.ref 1 0)), (33, (vl 3 1 vL [px, py, pz])), (34, (kE 3)), (35, (kE 2)), (36, (vb true))]) (b := [(0, some y1), (1, some (bx (qE (jL.mk px py pz))))])) ?_
 refine kx [(8, (vi pz))] [] (zE (zS vB 2) <| zE (xT uH) <| zM <| zZ) ?_
 refine jA <| kx [(44, (vb false))] [] (zM <| zE (qN false qM (by exact decide_eq_false (by omega))) <| zM <| zM <| zE (qN false hM (by exact decide_eq_false (by omega))) <| zE mV <| zZ) ?_
 refine kG ?_
 refine jD <| kx [(35, (kE 3))] [] (zE (uI 3 (hr := by decide)) <| zM <| zZ) ?_
 refine jJ (jW.refl _) ?_
 refine jA <| kx [(36, (vb false))] [] (zE (qN false qM) <| zZ) ?_
 refine jA <| kG ?_
 refine kK <| jA ?_
 have bn1 : QL r0 3 := (jT (Eq.symm hr0) (qi (px - lx)))
 have bn2 : QL r1 3 := (jT (Eq.symm hr1) (qi (py - ly)))
 have bn3 : QL r2 3 := (jT (Eq.symm hr2) (qi (pz - lz)))
 have bn4 : QL (((lu : Int) : Rat) + ((((lf : Int) : Rat) * (jF (xY la lb lc ld) (zC la lb lc ld) (zI la lb lc ld) r0 r1 r2)) / (jF (uK la lb lc ld) (uL la lb lc ld) (uO la lb lc ld) r0 r1 r2))) 47 := (uF (k := 47) (qi lu) (vE (k := 43) (jI (k := 23) (qi lf) (jQ (n := 3) (k := 20) (eZ) (eW) (fD) bn1 bn2 bn3 (by decide)) (by decide)) (jQ (n := 3) (k := 20) (mG) (mT) (mS) bn1 bn2 bn3 (by decide)) (by decide)) (by decide))
 have bn5 : QL (((lv : Int) : Rat) + ((((lf : Int) : Rat) * (jF (xW la lb lc ld) (zD la lb lc ld) (zG la lb lc ld) r0 r1 r2)) / (jF (uK la lb lc ld) (uL la lb lc ld) (uO la lb lc ld) r0 r1 r2))) 47 := (uF (k := 47) (qi lv) (vE (k := 43) (jI (k := 23) (qi lf) (jQ (n := 3) (k := 20) (fC) (fF) (eX) bn1 bn2 bn3 (by decide)) (by decide)) (jQ (n := 3) (k := 20) (mG) (mT) (mS) bn1 bn2 bn3 (by decide)) (by decide)) (by decide))
 refine kd [(9, (.ref 3 0)), (10, (vi 0))] [(3, some (bx (kJ (qD.mk (jC (((lu : Int) : Rat) + ((((lf : Int) : Rat) * (jF (xY la lb lc ld) (zC la lb lc ld) (zI la lb lc ld) r0 r1 r2)) / (jF (uK la lb lc ld) (uL la lb lc ld) (uO la lb lc ld) r0 r1 r2)))) (jC (((lv : Int) : Rat) + ((((lf : Int) : Rat) * (jF (xW la lb lc ld) (zD la lb lc ld) (zG la lb lc ld) r0 r1 r2)) / (jF (uK la lb lc ld) (uL la lb lc ld) (uO la lb lc ld) r0 r1 r2))))))))] mo (wE (kO yA) <| wR (jZ vK) <| wE (kO yA) <| wR (jZ vK) <| wR (jZ nC) <| wE (jX (by have h := gK lx ly lz la lb lc ld lf lu lv (by omega) (by omega) (by omega) px py pz (by omega) (by omega) (by omega); rw [hr0, hr1, hr2] at h; exact h)) <| wE (jX (cR lx ly lz la lb lc ld lf lu lv r0 r1 r2 (qu bn1) (qu bn2) (qu bn3) hl hvl)) <| wM <| wE uG <| wE uG <| wN (qP 3 gG gE) <| wT (kU yF) <| wM <| wZ) ?_
 refine jA ?_
 have bn6 : QL q0 3 := (jT (Eq.symm hq0) (qi (px - rx)))
 have bn7 : QL q1 3 := (jT (Eq.symm hq1) (qi (py - ry)))
 have bn8 : QL q2 3 := (jT (Eq.symm hq2) (qi (pz - rz)))
 refine kd [(11, (.ref 4 0)), (12, (vi 20))] [(4, some (bx (kJ (qD.mk (jV.mk (jG.mk false []) (jG.mk false [])) (jV.mk (jG.mk false []) (jG.mk false []))))))] mo (wE (kO zY) <| wR (jZ vK) <| wE (kO zY) <| wR (jZ vK) <| wR (jZ nC) <| wE (jX (by have h := gK rx ry rz ra rb rc rd rf ru rv (by omega) (by omega) (by omega) px py pz (by omega) (by omega) (by omega); rw [hq0, hq1, hq2] at h; exact h)) <| wE (jX (mA rx ry rz ra rb rc rd rf ru rv q0 q1 q2 (qu bn6) (qu bn7) (qu bn8) hr hvr)) <| wM <| wE uG <| wE uG <| wN (qP 4 gG gE) <| wT (kU yF) <| wM <| wZ) ?_
 refine jA ?_
 have bn9 : QL ((jF e00 e01 e02 r0 r1 r2) / (jF e20 e21 e22 r0 r1 r2)) 4804 := (vE (k := 4804) (jQ (n := 400) (k := 2402) qV qW qU (qu bn1) (qu bn2) (qu bn3) (by decide)) (jQ (n := 400) (k := 2402) qJ qI qK (qu bn1) (qu bn2) (qu bn3) (by decide)) (by decide))
 have bn10 : QL ((jF e10 e11 e12 r0 r1 r2) / (jF e20 e21 e22 r0 r1 r2)) 4804 := (vE (k := 4804) (jQ (n := 400) (k := 2402) uC uE uD (qu bn1) (qu bn2) (qu bn3) (by decide)) (jQ (n := 400) (k := 2402) qJ qI qK (qu bn1) (qu bn2) (qu bn3) (by decide)) (by decide))
 have bn11 : QL ((jF e00 e01 e02 b0 b1 b2) / (jF e20 e21 e22 r0 r1 r2)) 4804 := (vE (k := 4804) (jQ (n := 400) (k := 2402) qV qW qU (qu vJ) (qu vH) (qu vI) (by decide)) (jQ (n := 400) (k := 2402) qJ qI qK (qu bn1) (qu bn2) (qu bn3) (by decide)) (by decide))
 refine kx [(13, (.ref 5 0)), (14, (.ref 6 0)), (15, (vi 0))] [(5, some (bx (kJ (qD.mk (jC ((jF e00 e01 e02 r0 r1 r2) / (jF e20 e21 e22 r0 r1 r2))) (jC ((jF e10 e11 e12 r0 r1 r2) / (jF e20 e21 e22 r0 r1 r2))))))), (6, some (bx (jM (jC ((jF e00 e01 e02 b0 b1 b2) / (jF e20 e21 e22 r0 r1 r2))))))] (zR (jZ mE) <| zR (jZ nC) <| zE (jX (q_prj lx ly lz la lb lc ld lf lu lv rx ry rz ra rb rc rd rf ru rv px py pz (by omega) (by omega) (by omega) b0 b1 b2 e00 e01 e02 e10 e11 e12 e20 e21 e22 hF vJ vH vI qV qW qU uC uE uD qJ qI qK r0 hr0 r1 hr1 r2 hr2 hl hr hup hd)) <| zM <| zE uG <| zE uG <| zE uG <| zN (qP 5 gG gE) <| zN (qP 6 qF qQ) <| zT (kU yF) <| zT (kU jR) <| zM <| zZ) ?_
 refine jA <| jA <| kx [(82, (vb true))] [] (zM <| zE dL <| zM <| zM <| zE dL <| zE mV <| zM <| zK <| zK <| zE mX <| zZ) ?_
 refine jY ?_
 refine jA <| kx [(4, (vb true))] [] (zM <| zZ) ?_
 refine jH ⟨_, (.tmp (d := (.val (.bool (true)))) rfl .nil), ?_⟩
 rfl
theorem w_rows110 (lx ly lz la lb lc ld lf lu lv rx ry rz ra rb rc rd rf ru rv : Int) (px py pz : Int) (hpx : -1048576 ≤ px ∧ px ≤ 1048576) (hpy : -1048576 ≤ py ∧ py ≤ 1048576) (hpz : -1048576 ≤ pz ∧ pz ≤ 1048576) (b0 b1 b2 e00 e01 e02 e10 e11 e12 e20 e21 e22 : Rat) (hF : RFr lx ly lz la lb lc ld rx ry rz ra rb rc rd b0 b1 b2 e00 e01 e02 e10 e11 e12 e20 e21 e22) (vJ : QL b0 3) (vH : QL b1 3) (vI : QL b2 3) (qV : QL e00 400) (qW : QL e01 400) (qU : QL e02 400) (uC : QL e10 400) (uE : QL e11 400) (uD : QL e12 400) (qJ : QL e20 400) (qI : QL e21 400) (qK : QL e22 400) (r0 : Rat) (hr0 : ((px - lx : Int) : Rat) = r0) (r1 : Rat) (hr1 : ((py - ly : Int) : Rat) = r1) (r2 : Rat) (hr2 : ((pz - lz : Int) : Rat) = r2) (q0 : Rat) (hq0 : ((px - rx : Int) : Rat) = q0) (q1 : Rat) (hq1 : ((py - ry : Int) : Rat) = q1) (q2 : Rat) (hq2 : ((pz - rz : Int) : Rat) = q2) (hl : uP lx ly lz lu lv lf la lb lc ld = 0) (hr : uP rx ry rz ru rv rf ra rb rc rd = 0) (hup : upV la lb lc ld ra rb rc rd b0 b1 b2 = false) (hvl : ¬ (qZ (jF (uK la lb lc ld) (uL la lb lc ld) (uO la lb lc ld) r0 r1 r2)) ≤ 0) (hvr : ¬ (qZ (jF (uK ra rb rc rd) (uL ra rb rc rd) (uO ra rb rc rd) q0 q1 q2)) ≤ 0) (hd : (qZ (jF e20 e21 e22 r0 r1 r2)) ≤ 0) : kD Tryz.prog 5 [(qA (kT.mk (kH.mk (jL.mk lx ly lz) (jO.mk la lb lc ld) lf (kI.mk lu lv)) (kH.mk (jL.mk rx ry rz) (jO.mk ra rb rc rd) rf (kI.mk ru rv)))), (qE (jL.mk px py pz))] (.val (.bool (true))) := by
 have hbl := uS hl
 have hbr := uS hr
 obtain ⟨hlx, hly, hlz, hlu, hlv, hlf, hlq⟩ := hbl
 obtain ⟨hrx, hry, hrz, hru, hrv, hrf, hrq⟩ := hbr
 obtain ⟨hla, hlb, hlc, hld, -⟩ := uW hlq
 obtain ⟨hra, hrb, hrc, hrd, -⟩ := uW hrq
 have hnl := yN hla hlb hlc hld
 have hnr := yN hra hrb hrc hrd
 have hz0 := eF hF hup
 have hz1 := eH hF hup
 have hz2 := fU hF hup
 let y2 := (qA (kT.mk (kH.mk (jL.mk lx ly lz) (jO.mk la lb lc ld) lf (kI.mk lu lv)) (kH.mk (jL.mk rx ry rz) (jO.mk ra rb rc rd) rf (kI.mk ru rv))))
 let y1 := (bx y2)
 refine jK Tryz.func5 rfl cb5 rfl ?_
 show uY _ _ _ _ ⟨[(0, (.d y2)), (1, (.d (qE (jL.mk px py pz))))], []⟩
 refine jA <| kx [(2, (.ref 0 0)), (3, (.ref 1 0))] [(0, some y1), (1, some (bx (qE (jL.mk px py pz))))] (zN (vN 0) <| zN (vN 1) <| zM <| zZ) ?_
 refine jA <| jA <| kx [(19, (vb false))] [] (zE (jX hZ) <| zE oNt <| zZ) ?_
 refine kG ?_
 refine jD <| jA <| jA <| kx [(6, (vi 0))] [(2, none)] (zR (jZ mE) <| zE (jX (aH lx ly lz la lb lc ld lf lu lv rx ry rz ra rb rc rd rf ru rv b0 b1 b2 e00 e01 e02 e10 e11 e12 e20 e21 e22 hF vJ vH vI qV qW qU uC uE uD qJ qI qK hl hr hup)) <| zM <| zE uG <| zE uG <| zN (qP 2 fL fX) <| zT (kU cV) <| zM <| zZ) ?_
 refine jA <| kx [(26, (vb false))] [] (zM <| zE dL <| zZ) ?_
 refine kG ?_
 refine jD <| jA <| jA <| kx [(33, (vl 3 1 vL [px, py, pz])), (34, (kE 3)), (35, (kE 0))] [] (zE (kO yB) <| zR (uM uH) <| zE (kO yK) <| zR (uM uH) <| zE (kO yL) <| zR (uM uH) <| zE (nM vB ze3 zo3) <| zE (oLn vB 3) <| zM <| zZ) ?_
 refine jE <| kW 20 ?_
 refine qC <| jA <| kx [(36, (vb true))] [] (zE (qN true qM) <| zZ) ?_
 refine jA <| jY ?_
 refine jD <| jA <| jE <| jA <| kx [(8, (vi px))] [] (zE (zS vB 0) <| zE (xT uH) <| zM <| zZ) ?_
 refine jA <| kx [(44, (vb false))] [] (zM <| zE (qN false qM (by exact decide_eq_false (by omega))) <| zM <| zM <| zE (qN false hM (by exact decide_eq_false (by omega))) <| zE mV <| zZ) ?_
 refine kG ?_
 refine jD <| kx [(35, (kE 1))] [] (zE (uI 1 (hr := by decide)) <| zM <| zZ) ?_
 refine jJ (jW.refl _) ?_
 refine jA <| kx [(36, (vb true))] [] (zE (qN true qM) <| zZ) ?_
 refine jA <| jY ?_
 refine jD <| jA <| jE <| jA <| kx [(8, (vi py))] [] (zE (zS vB 1) <| zE (xT uH) <| zM <| zZ) ?_
 refine jA <| kx [(44, (vb false))] [] (zM <| zE (qN false qM (by exact decide_eq_false (by omega))) <| zM <| zM <| zE (qN false hM (by exact decide_eq_false (by omega))) <| zE mV <| zZ) ?_
 refine kG ?_
 refine jD <| kx [(35, (kE 2))] [] (zE (uI 2 (hr := by decide)) <| zM <| zZ) ?_
 refine jJ (jW.refl _) ?_
 refine jA <| kx [(36, (vb true))] [] (zE (qN true qM) <| zZ) ?_
 refine jA <| jY ?_
 refine jD <| jA <| jE <| jA <| kV (wk (l := [(2, (.ref 0 0)), (3, (.ref 1 0)), (33, (vl 3 1 vL [px, py, pz])), (34, (kE 3)), (35, (kE 2)), (36, (vb true))]) (b := [(0, some y1), (1, some (bx (qE (jL.mk px py pz))))])) ?_
 refine kx [(8, (vi pz))] [] (zE (zS vB 2) <| zE (xT uH) <| zM <| zZ) ?_
 refine jA <| kx [(44, (vb false))] [] (zM <| zE (qN false qM (by exact decide_eq_false (by omega))) <| zM <| zM <| zE (qN false hM (by exact decide_eq_false (by omega))) <| zE mV <| zZ) ?_
 refine kG ?_
 refine jD <| kx [(35, (kE 3))] [] (zE (uI 3 (hr := by decide)) <| zM <| zZ) ?_
 refine jJ (jW.refl _) ?_
 refine jA <| kx [(36, (vb false))] [] (zE (qN false qM) <| zZ) ?_
 refine jA <| kG ?_
 refine kK <| jA ?_
 have bn1 : QL r0 3 := (jT (Eq.symm hr0) (qi (px - lx)))
 have bn2 : QL r1 3 := (jT (Eq.symm hr1) (qi (py - ly)))
 have bn3 : QL r2 3 := (jT (Eq.symm hr2) (qi (pz - lz)))
 have bn4 : QL (((lu : Int) : Rat) + ((((lf : Int) : Rat) * (jF (xY la lb lc ld) (zC la lb lc ld) (zI la lb lc ld) r0 r1 r2)) / (jF (uK la lb lc ld) (uL la lb lc ld) (uO la lb lc ld) r0 r1 r2))) 47 := (uF (k := 47) (qi lu) (vE (k := 43) (jI (k := 23) (qi lf) (jQ (n := 3) (k := 20) (eZ) (eW) (fD) bn1 bn2 bn3 (by decide)) (by decide)) (jQ (n := 3) (k := 20) (mG) (mT) (mS) bn1 bn2 bn3 (by decide)) (by decide)) (by decide))
 have bn5 : QL (((lv : Int) : Rat) + ((((lf : Int) : Rat) * (jF (xW la lb lc ld) (zD la lb lc ld) (zG la lb lc ld) r0 r1 r2)) / (jF (uK la lb lc ld) (uL la lb lc ld) (uO la lb lc ld) r0 r1 r2))) 47 := (uF (k := 47) (qi lv) (vE (k := 43) (jI (k := 23) (qi lf) (jQ (n := 3) (k := 20) (fC) (fF) (eX) bn1 bn2 bn3 (by decide)) (by decide)) (jQ (n := 3) (k := 20) (mG) (mT) (mS) bn1 bn2 bn3 (by decide)) (by decide)) (by decide))
 refine kd [(9, (.ref 3 0)), (10, (vi 0))] [(3, some (bx (kJ (qD.mk (jC (((lu : Int) : Rat) + ((((lf : Int) : Rat) * (jF (xY la lb lc ld) (zC la lb lc ld) (zI la lb lc ld) r0 r1 r2)) / (jF (uK la lb lc ld) (uL la lb lc ld) (uO la lb lc ld) r0 r1 r2)))) (jC (((lv : Int) : Rat) + ((((lf : Int) : Rat) * (jF (xW la lb lc ld) (zD la lb lc ld) (zG la lb lc ld) r0 r1 r2)) / (jF (uK la lb lc ld) (uL la lb lc ld) (uO la lb lc ld) r0 r1 r2))))))))] mo (wE (kO yA) <| wR (jZ vK) <| wE (kO yA) <| wR (jZ vK) <| wR (jZ nC) <| wE (jX (by have h := gK lx ly lz la lb lc ld lf lu lv (by omega) (by omega) (by omega) px py pz (by omega) (by omega) (by omega); rw [hr0, hr1, hr2] at h; exact h)) <| wE (jX (cR lx ly lz la lb lc ld lf lu lv r0 r1 r2 (qu bn1) (qu bn2) (qu bn3) hl hvl)) <| wM <| wE uG <| wE uG <| wN (qP 3 gG gE) <| wT (kU yF) <| wM <| wZ) ?_
 refine jA ?_
 have bn6 : QL q0 3 := (jT (Eq.symm hq0) (qi (px - rx)))
 have bn7 : QL q1 3 := (jT (Eq.symm hq1) (qi (py - ry)))
 have bn8 : QL q2 3 := (jT (Eq.symm hq2) (qi (pz - rz)))
 have bn9 : QL (((ru : Int) : Rat) + ((((rf : Int) : Rat) * (jF (xY ra rb rc rd) (zC ra rb rc rd) (zI ra rb rc rd) q0 q1 q2)) / (jF (uK ra rb rc rd) (uL ra rb rc rd) (uO ra rb rc rd) q0 q1 q2))) 47 := (uF (k := 47) (qi ru) (vE (k := 43) (jI (k := 23) (qi rf) (jQ (n := 3) (k := 20) (eZ) (eW) (fD) bn6 bn7 bn8 (by decide)) (by decide)) (jQ (n := 3) (k := 20) (mG) (mT) (mS) bn6 bn7 bn8 (by decide)) (by decide)) (by decide))
 have bn10 : QL (((rv : Int) : Rat) + ((((rf : Int) : Rat) * (jF (xW ra rb rc rd) (zD ra rb rc rd) (zG ra rb rc rd) q0 q1 q2)) / (jF (uK ra rb rc rd) (uL ra rb rc rd) (uO ra rb rc rd) q0 q1 q2))) 47 := (uF (k := 47) (qi rv) (vE (k := 43) (jI (k := 23) (qi rf) (jQ (n := 3) (k := 20) (fC) (fF) (eX) bn6 bn7 bn8 (by decide)) (by decide)) (jQ (n := 3) (k := 20) (mG) (mT) (mS) bn6 bn7 bn8 (by decide)) (by decide)) (by decide))
 refine kd [(11, (.ref 4 0)), (12, (vi 0))] [(4, some (bx (kJ (qD.mk (jC (((ru : Int) : Rat) + ((((rf : Int) : Rat) * (jF (xY ra rb rc rd) (zC ra rb rc rd) (zI ra rb rc rd) q0 q1 q2)) / (jF (uK ra rb rc rd) (uL ra rb rc rd) (uO ra rb rc rd) q0 q1 q2)))) (jC (((rv : Int) : Rat) + ((((rf : Int) : Rat) * (jF (xW ra rb rc rd) (zD ra rb rc rd) (zG ra rb rc rd) q0 q1 q2)) / (jF (uK ra rb rc rd) (uL ra rb rc rd) (uO ra rb rc rd) q0 q1 q2))))))))] mo (wE (kO zY) <| wR (jZ vK) <| wE (kO zY) <| wR (jZ vK) <| wR (jZ nC) <| wE (jX (by have h := gK rx ry rz ra rb rc rd rf ru rv (by omega) (by omega) (by omega) px py pz (by omega) (by omega) (by omega); rw [hq0, hq1, hq2] at h; exact h)) <| wE (jX (cR rx ry rz ra rb rc rd rf ru rv q0 q1 q2 (qu bn6) (qu bn7) (qu bn8) hr hvr)) <| wM <| wE uG <| wE uG <| wN (qP 4 gG gE) <| wT (kU yF) <| wM <| wZ) ?_
 refine jA <| kx [(13, (.ref 5 0)), (14, (.ref 6 0)), (15, (vi 20))] [(5, some (bx (kJ (qD.mk (jV.mk (jG.mk false []) (jG.mk false [])) (jV.mk (jG.mk false []) (jG.mk false [])))))), (6, some (bx (jM (jV.mk (jG.mk false []) (jG.mk false [])))))] (zR (jZ mE) <| zR (jZ nC) <| zE (jX (q_prjN lx ly lz la lb lc ld lf lu lv rx ry rz ra rb rc rd rf ru rv px py pz (by omega) (by omega) (by omega) b0 b1 b2 e00 e01 e02 e10 e11 e12 e20 e21 e22 hF vJ vH vI qV qW qU uC uE uD qJ qI qK r0 hr0 r1 hr1 r2 hr2 hl hr hup hd)) <| zM <| zE uG <| zE uG <| zE uG <| zN (qP 5 gG gE) <| zN (qP 6 qF qQ) <| zT (kU yF) <| zT (kU jR) <| zM <| zZ) ?_
 refine jA <| jA <| kx [(82, (vb true))] [] (zM <| zE dL <| zM <| zM <| zE dL <| zE mV <| zM <| zM <| zE dL <| zE mV <| zZ) ?_
 refine jY ?_
 refine jA <| kx [(4, (vb true))] [] (zM <| zZ) ?_
 refine jH ⟨_, (.tmp (d := (.val (.bool (true)))) rfl .nil), ?_⟩
 rfl
theorem w_rows (lx ly lz la lb lc ld lf lu lv rx ry rz ra rb rc rd rf ru rv : Int) (px py pz : Int) (hpx : -1048576 ≤ px ∧ px ≤ 1048576) (hpy : -1048576 ≤ py ∧ py ≤ 1048576) (hpz : -1048576 ≤ pz ∧ pz ≤ 1048576) (b0 b1 b2 e00 e01 e02 e10 e11 e12 e20 e21 e22 : Rat) (hF : RFr lx ly lz la lb lc ld rx ry rz ra rb rc rd b0 b1 b2 e00 e01 e02 e10 e11 e12 e20 e21 e22) (vJ : QL b0 3) (vH : QL b1 3) (vI : QL b2 3) (qV : QL e00 400) (qW : QL e01 400) (qU : QL e02 400) (uC : QL e10 400) (uE : QL e11 400) (uD : QL e12 400) (qJ : QL e20 400) (qI : QL e21 400) (qK : QL e22 400) (r0 : Rat) (hr0 : ((px - lx : Int) : Rat) = r0) (r1 : Rat) (hr1 : ((py - ly : Int) : Rat) = r1) (r2 : Rat) (hr2 : ((pz - lz : Int) : Rat) = r2) (q0 : Rat) (hq0 : ((px - rx : Int) : Rat) = q0) (q1 : Rat) (hq1 : ((py - ry : Int) : Rat) = q1) (q2 : Rat) (hq2 : ((pz - rz : Int) : Rat) = q2) (m0 : Rat) (hm0 : (jF (xY la lb lc ld) (xW la lb lc ld) (uK la lb lc ld) ((((lu : Int) : Rat) + ((((lf : Int) : Rat) * (jF (xY la lb lc ld) (zC la lb lc ld) (zI la lb lc ld) r0 r1 r2)) / (jF (uK la lb lc ld) (uL la lb lc ld) (uO la lb lc ld) r0 r1 r2))) - ((lu : Int) : Rat)) ((((lv : Int) : Rat) + ((((lf : Int) : Rat) * (jF (xW la lb lc ld) (zD la lb lc ld) (zG la lb lc ld) r0 r1 r2)) / (jF (uK la lb lc ld) (uL la lb lc ld) (uO la lb lc ld) r0 r1 r2))) - ((lv : Int) : Rat)) ((lf : Int) : Rat)) = m0) (m1 : Rat) (hm1 : (jF (zC la lb lc ld) (zD la lb lc ld) (uL la lb lc ld) ((((lu : Int) : Rat) + ((((lf : Int) : Rat) * (jF (xY la lb lc ld) (zC la lb lc ld) (zI la lb lc ld) r0 r1 r2)) / (jF (uK la lb lc ld) (uL la lb lc ld) (uO la lb lc ld) r0 r1 r2))) - ((lu : Int) : Rat)) ((((lv : Int) : Rat) + ((((lf : Int) : Rat) * (jF (xW la lb lc ld) (zD la lb lc ld) (zG la lb lc ld) r0 r1 r2)) / (jF (uK la lb lc ld) (uL la lb lc ld) (uO la lb lc ld) r0 r1 r2))) - ((lv : Int) : Rat)) ((lf : Int) : Rat)) = m1) (m2 : Rat) (hm2 : (jF (zI la lb lc ld) (zG la lb lc ld) (uO la lb lc ld) ((((lu : Int) : Rat) + ((((lf : Int) : Rat) * (jF (xY la lb lc ld) (zC la lb lc ld) (zI la lb lc ld) r0 r1 r2)) / (jF (uK la lb lc ld) (uL la lb lc ld) (uO la lb lc ld) r0 r1 r2))) - ((lu : Int) : Rat)) ((((lv : Int) : Rat) + ((((lf : Int) : Rat) * (jF (xW la lb lc ld) (zD la lb lc ld) (zG la lb lc ld) r0 r1 r2)) / (jF (uK la lb lc ld) (uL la lb lc ld) (uO la lb lc ld) r0 r1 r2))) - ((lv : Int) : Rat)) ((lf : Int) : Rat)) = m2) (n0 : Rat) (hn0 : (jF (xY ra rb rc rd) (xW ra rb rc rd) (uK ra rb rc rd) ((((ru : Int) : Rat) + ((((rf : Int) : Rat) * (jF (xY ra rb rc rd) (zC ra rb rc rd) (zI ra rb rc rd) q0 q1 q2)) / (jF (uK ra rb rc rd) (uL ra rb rc rd) (uO ra rb rc rd) q0 q1 q2))) - ((ru : Int) : Rat)) ((((rv : Int) : Rat) + ((((rf : Int) : Rat) * (jF (xW ra rb rc rd) (zD ra rb rc rd) (zG ra rb rc rd) q0 q1 q2)) / (jF (uK ra rb rc rd) (uL ra rb rc rd) (uO ra rb rc rd) q0 q1 q2))) - ((rv : Int) : Rat)) ((rf : Int) : Rat)) = n0) (n1 : Rat) (hn1 : (jF (zC ra rb rc rd) (zD ra rb rc rd) (uL ra rb rc rd) ((((ru : Int) : Rat) + ((((rf : Int) : Rat) * (jF (xY ra rb rc rd) (zC ra rb rc rd) (zI ra rb rc rd) q0 q1 q2)) / (jF (uK ra rb rc rd) (uL ra rb rc rd) (uO ra rb rc rd) q0 q1 q2))) - ((ru : Int) : Rat)) ((((rv : Int) : Rat) + ((((rf : Int) : Rat) * (jF (xW ra rb rc rd) (zD ra rb rc rd) (zG ra rb rc rd) q0 q1 q2)) / (jF (uK ra rb rc rd) (uL ra rb rc rd) (uO ra rb rc rd) q0 q1 q2))) - ((rv : Int) : Rat)) ((rf : Int) : Rat)) = n1) (n2 : Rat) (hn2 : (jF (zI ra rb rc rd) (zG ra rb rc rd) (uO ra rb rc rd) ((((ru : Int) : Rat) + ((((rf : Int) : Rat) * (jF (xY ra rb rc rd) (zC ra rb rc rd) (zI ra rb rc rd) q0 q1 q2)) / (jF (uK ra rb rc rd) (uL ra rb rc rd) (uO ra rb rc rd) q0 q1 q2))) - ((ru : Int) : Rat)) ((((rv : Int) : Rat) + ((((rf : Int) : Rat) * (jF (xW ra rb rc rd) (zD ra rb rc rd) (zG ra rb rc rd) q0 q1 q2)) / (jF (uK ra rb rc rd) (uL ra rb rc rd) (uO ra rb rc rd) q0 q1 q2))) - ((rv : Int) : Rat)) ((rf : Int) : Rat)) = n2) (hl : uP lx ly lz lu lv lf la lb lc ld = 0) (hr : uP rx ry rz ru rv rf ra rb rc rd = 0) (hup : upV la lb lc ld ra rb rc rd b0 b1 b2 = false) (hvl : ¬ (qZ (jF (uK la lb lc ld) (uL la lb lc ld) (uO la lb lc ld) r0 r1 r2)) ≤ 0) (hvr : ¬ (qZ (jF (uK ra rb rc rd) (uL ra rb rc rd) (uO ra rb rc rd) q0 q1 q2)) ≤ 0) (hd : ¬ (qZ (jF e20 e21 e22 r0 r1 r2)) ≤ 0) (hdm : ¬ (qZ (jF e20 e21 e22 m0 m1 m2)) ≤ 0) (hdn : ¬ (qZ (jF e20 e21 e22 n0 n1 n2)) ≤ 0) (hx1 : ((jF e00 e01 e02 m0 m1 m2) / (jF e20 e21 e22 m0 m1 m2)) = ((jF e00 e01 e02 r0 r1 r2) / (jF e20 e21 e22 r0 r1 r2))) (hy1 : ((jF e10 e11 e12 m0 m1 m2) / (jF e20 e21 e22 m0 m1 m2)) = ((jF e10 e11 e12 r0 r1 r2) / (jF e20 e21 e22 r0 r1 r2))) (hy2 : ((jF e10 e11 e12 m0 m1 m2) / (jF e20 e21 e22 m0 m1 m2)) = ((jF e10 e11 e12 n0 n1 n2) / (jF e20 e21 e22 n0 n1 n2))) (hx2 : (((jF e00 e01 e02 m0 m1 m2) / (jF e20 e21 e22 m0 m1 m2)) - ((jF e00 e01 e02 n0 n1 n2) / (jF e20 e21 e22 n0 n1 n2))) = ((jF e00 e01 e02 b0 b1 b2) / (jF e20 e21 e22 r0 r1 r2))) (hdp : 0 < (qZ ((jF e00 e01 e02 b0 b1 b2) / (jF e20 e21 e22 r0 r1 r2)))) : kD Tryz.prog 5 [(qA (kT.mk (kH.mk (jL.mk lx ly lz) (jO.mk la lb lc ld) lf (kI.mk lu lv)) (kH.mk (jL.mk rx ry rz) (jO.mk ra rb rc rd) rf (kI.mk ru rv)))), (qE (jL.mk px py pz))] (.val (.bool (true))) := by
 have hbl := uS hl
 have hbr := uS hr
 obtain ⟨hlx, hly, hlz, hlu, hlv, hlf, hlq⟩ := hbl
 obtain ⟨hrx, hry, hrz, hru, hrv, hrf, hrq⟩ := hbr
 obtain ⟨hla, hlb, hlc, hld, -⟩ := uW hlq
 obtain ⟨hra, hrb, hrc, hrd, -⟩ := uW hrq
 have hnl := yN hla hlb hlc hld
 have hnr := yN hra hrb hrc hrd
 have hz0 := eF hF hup
 have hz1 := eH hF hup
 have hz2 := fU hF hup
 let y2 := (qA (kT.mk (kH.mk (jL.mk lx ly lz) (jO.mk la lb lc ld) lf (kI.mk lu lv)) (kH.mk (jL.mk rx ry rz) (jO.mk ra rb rc rd) rf (kI.mk ru rv))))
 let y1 := (bx y2)
 refine jK Tryz.func5 rfl cb5 rfl ?_
 show uY _ _ _ _ ⟨[(0, (.d y2)), (1, (.d (qE (jL.mk px py pz))))], []⟩
 refine jA <| kx [(2, (.ref 0 0)), (3, (.ref 1 0))] [(0, some y1), (1, some (bx (qE (jL.mk px py pz))))] (zN (vN 0) <| zN (vN 1) <| zM <| zZ) ?_
 refine jA <| jA <| kx [(19, (vb false))] [] (zE (jX hZ) <| zE oNt <| zZ) ?_
 refine kG ?_
 refine jD <| jA <| jA <| kx [(6, (vi 0))] [(2, none)] (zR (jZ mE) <| zE (jX (aH lx ly lz la lb lc ld lf lu lv rx ry rz ra rb rc rd rf ru rv b0 b1 b2 e00 e01 e02 e10 e11 e12 e20 e21 e22 hF vJ vH vI qV qW qU uC uE uD qJ qI qK hl hr hup)) <| zM <| zE uG <| zE uG <| zN (qP 2 fL fX) <| zT (kU cV) <| zM <| zZ) ?_
 refine jA <| kx [(26, (vb false))] [] (zM <| zE dL <| zZ) ?_
 refine kG ?_
 refine jD <| jA <| jA <| kx [(33, (vl 3 1 vL [px, py, pz])), (34, (kE 3)), (35, (kE 0))] [] (zE (kO yB) <| zR (uM uH) <| zE (kO yK) <| zR (uM uH) <| zE (kO yL) <| zR (uM uH) <| zE (nM vB ze3 zo3) <| zE (oLn vB 3) <| zM <| zZ) ?_
 refine jE <| kW 20 ?_
 refine qC <| jA <| kx [(36, (vb true))] [] (zE (qN true qM) <| zZ) ?_
 refine jA <| jY ?_
 refine jD <| jA <| jE <| jA <| kx [(8, (vi px))] [] (zE (zS vB 0) <| zE (xT uH) <| zM <| zZ) ?_
 refine jA <| kx [(44, (vb false))] [] (zM <| zE (qN false qM (by exact decide_eq_false (by omega))) <| zM <| zM <| zE (qN false hM (by exact decide_eq_false (by omega))) <| zE mV <| zZ) ?_
 refine kG ?_
 refine jD <| kx [(35, (kE 1))] [] (zE (uI 1 (hr := by decide)) <| zM <| zZ) ?_
 refine jJ (jW.refl _) ?_
 refine jA <| kx [(36, (vb true))] [] (zE (qN true qM) <| zZ) ?_
 refine jA <| jY ?_
 refine jD <| jA <| jE <| jA <| kx [(8, (vi py))] [] (zE (zS vB 1) <| zE (xT uH) <| zM <| zZ) ?_
 refine jA <| kx [(44, (vb false))] [] (zM <| zE (qN false qM (by exact decide_eq_false (by omega))) <| zM <| zM <| zE (qN false hM (by exact decide_eq_false (by omega))) <| zE mV <| zZ) ?_
 refine kG ?_
 refine jD <| kx [(35, (kE 2))] [] (zE (uI 2 (hr := by decide)) <| zM <| zZ) ?_
 refine jJ (jW.refl _) ?_
 refine jA <| kx [(36, (vb true))] [] (zE (qN true qM) <| zZ) ?_
 refine jA <| jY ?_
 refine jD <| jA <| jE <| jA <| kV (wk (l := [(2, (.ref 0 0)), (3, (.ref 1 0)), (33, (vl 3 1 vL [px, py, pz])), (34, (kE 3)), (35, (kE 2)), (36, (vb true))]) (b := [(0, some y1), (1, some (bx (qE (jL.mk px py pz))))])) ?_
 refine kx [(8, (vi pz))] [] (zE (zS vB 2) <| zE (xT uH) <| zM <| zZ) ?_
 refine jA <| kx [(44, (vb false))] [] (zM <| zE (qN false qM (by exact decide_eq_false (by omega))) <| zM <| zM <| zE (qN false hM (by exact decide_eq_false (by omega))) <| zE mV <| zZ) ?_
 refine kG ?_
 refine jD <| kx [(35, (kE 3))] [] (zE (uI 3 (hr := by decide)) <| zM <| zZ) ?_
 refine jJ (jW.refl _) ?_
 refine jA <| kx [(36, (vb false))] [] (zE (qN false qM) <| zZ) ?_
 refine jA <| kG ?_
 refine kK <| jA ?_
 have bn1 : QL r0 3 := (jT (Eq.symm hr0) (qi (px - lx)))
 have bn2 : QL r1 3 := (jT (Eq.symm hr1) (qi (py - ly)))
 have bn3 : QL r2 3 := (jT (Eq.symm hr2) (qi (pz - lz)))
 have bn4 : QL (((lu : Int) : Rat) + ((((lf : Int) : Rat) * (jF (xY la lb lc ld) (zC la lb lc ld) (zI la lb lc ld) r0 r1 r2)) / (jF (uK la lb lc ld) (uL la lb lc ld) (uO la lb lc ld) r0 r1 r2))) 47 := (uF (k := 47) (qi lu) (vE (k := 43) (jI (k := 23) (qi lf) (jQ (n := 3) (k := 20) (eZ) (eW) (fD) bn1 bn2 bn3 (by decide)) (by decide)) (jQ (n := 3) (k := 20) (mG) (mT) (mS) bn1 bn2 bn3 (by decide)) (by decide)) (by decide))
 have bn5 : QL (((lv : Int) : Rat) + ((((lf : Int) : Rat) * (jF (xW la lb lc ld) (zD la lb lc ld) (zG la lb lc ld) r0 r1 r2)) / (jF (uK la lb lc ld) (uL la lb lc ld) (uO la lb lc ld) r0 r1 r2))) 47 := (uF (k := 47) (qi lv) (vE (k := 43) (jI (k := 23) (qi lf) (jQ (n := 3) (k := 20) (fC) (fF) (eX) bn1 bn2 bn3 (by decide)) (by decide)) (jQ (n := 3) (k := 20) (mG) (mT) (mS) bn1 bn2 bn3 (by decide)) (by decide)) (by decide))
 refine kd [(9, (.ref 3 0)), (10, (vi 0))] [(3, some (bx (kJ (qD.mk (jC (((lu : Int) : Rat) + ((((lf : Int) : Rat) * (jF (xY la lb lc ld) (zC la lb lc ld) (zI la lb lc ld) r0 r1 r2)) / (jF (uK la lb lc ld) (uL la lb lc ld) (uO la lb lc ld) r0 r1 r2)))) (jC (((lv : Int) : Rat) + ((((lf : Int) : Rat) * (jF (xW la lb lc ld) (zD la lb lc ld) (zG la lb lc ld) r0 r1 r2)) / (jF (uK la lb lc ld) (uL la lb lc ld) (uO la lb lc ld) r0 r1 r2))))))))] mo (wE (kO yA) <| wR (jZ vK) <| wE (kO yA) <| wR (jZ vK) <| wR (jZ nC) <| wE (jX (by have h := gK lx ly lz la lb lc ld lf lu lv (by omega) (by omega) (by omega) px py pz (by omega) (by omega) (by omega); rw [hr0, hr1, hr2] at h; exact h)) <| wE (jX (cR lx ly lz la lb lc ld lf lu lv r0 r1 r2 (qu bn1) (qu bn2) (qu bn3) hl hvl)) <| wM <| wE uG <| wE uG <| wN (qP 3 gG gE) <| wT (kU yF) <| wM <| wZ) ?_
 refine jA ?_
 have bn6 : QL q0 3 := (jT (Eq.symm hq0) (qi (px - rx)))
 have bn7 : QL q1 3 := (jT (Eq.symm hq1) (qi (py - ry)))
 have bn8 : QL q2 3 := (jT (Eq.symm hq2) (qi (pz - rz)))
 have bn9 : QL (((ru : Int) : Rat) + ((((rf : Int) : Rat) * (jF (xY ra rb rc rd) (zC ra rb rc rd) (zI ra rb rc rd) q0 q1 q2)) / (jF (uK ra rb rc rd) (uL ra rb rc rd) (uO ra rb rc rd) q0 q1 q2))) 47 := (uF (k := 47) (qi ru) (vE (k := 43) (jI (k := 23) (qi rf) (jQ (n := 3) (k := 20) (eZ) (eW) (fD) bn6 bn7 bn8 (by decide)) (by decide)) (jQ (n := 3) (k := 20) (mG) (mT) (mS) bn6 bn7 bn8 (by decide)) (by decide)) (by decide))
 have bn10 : QL (((rv : Int) : Rat) + ((((rf : Int) : Rat) * (jF (xW ra rb rc rd) (zD ra rb rc rd) (zG ra rb rc rd) q0 q1 q2)) / (jF (uK ra rb rc rd) (uL ra rb rc rd) (uO ra rb rc rd) q0 q1 q2))) 47 := (uF (k := 47) (qi rv) (vE (k := 43) (jI (k := 23) (qi rf) (jQ (n := 3) (k := 20) (fC) (fF) (eX) bn6 bn7 bn8 (by decide)) (by decide)) (jQ (n := 3) (k := 20) (mG) (mT) (mS) bn6 bn7 bn8 (by decide)) (by decide)) (by decide))
 refine kd [(11, (.ref 4 0)), (12, (vi 0))] [(4, some (bx (kJ (qD.mk (jC (((ru : Int) : Rat) + ((((rf : Int) : Rat) * (jF (xY ra rb rc rd) (zC ra rb rc rd) (zI ra rb rc rd) q0 q1 q2)) / (jF (uK ra rb rc rd) (uL ra rb rc rd) (uO ra rb rc rd) q0 q1 q2)))) (jC (((rv : Int) : Rat) + ((((rf : Int) : Rat) * (jF (xW ra rb rc rd) (zD ra rb rc rd) (zG ra rb rc rd) q0 q1 q2)) / (jF (uK ra rb rc rd) (uL ra rb rc rd) (uO ra rb rc rd) q0 q1 q2))))))))] mo (wE (kO zY) <| wR (jZ vK) <| wE (kO zY) <| wR (jZ vK) <| wR (jZ nC) <| wE (jX (by have h := gK rx ry rz ra rb rc rd rf ru rv (by omega) (by omega) (by omega) px py pz (by omega) (by omega) (by omega); rw [hq0, hq1, hq2] at h; exact h)) <| wE (jX (cR rx ry rz ra rb rc rd rf ru rv q0 q1 q2 (qu bn6) (qu bn7) (qu bn8) hr hvr)) <| wM <| wE uG <| wE uG <| wN (qP 4 gG gE) <| wT (kU yF) <| wM <| wZ) ?_
 refine jA ?_
 have bn11 : QL ((jF e00 e01 e02 r0 r1 r2) / (jF e20 e21 e22 r0 r1 r2)) 4804 := (vE (k := 4804) (jQ (n := 400) (k := 2402) qV qW qU (qu bn1) (qu bn2) (qu bn3) (by decide)) (jQ (n := 400) (k := 2402) qJ qI qK (qu bn1) (qu bn2) (qu bn3) (by decide)) (by decide))
 have bn12 : QL ((jF e10 e11 e12 r0 r1 r2) / (jF e20 e21 e22 r0 r1 r2)) 4804 := (vE (k := 4804) (jQ (n := 400) (k := 2402) uC uE uD (qu bn1) (qu bn2) (qu bn3) (by decide)) (jQ (n := 400) (k := 2402) qJ qI qK (qu bn1) (qu bn2) (qu bn3) (by decide)) (by decide))
 have bn13 : QL ((jF e00 e01 e02 b0 b1 b2) / (jF e20 e21 e22 r0 r1 r2)) 4804 := (vE (k := 4804) (jQ (n := 400) (k := 2402) qV qW qU (qu vJ) (qu vH) (qu vI) (by decide)) (jQ (n := 400) (k := 2402) qJ qI qK (qu bn1) (qu bn2) (qu bn3) (by decide)) (by decide))
 refine kx [(13, (.ref 5 0)), (14, (.ref 6 0)), (15, (vi 0))] [(5, some (bx (kJ (qD.mk (jC ((jF e00 e01 e02 r0 r1 r2) / (jF e20 e21 e22 r0 r1 r2))) (jC ((jF e10 e11 e12 r0 r1 r2) / (jF e20 e21 e22 r0 r1 r2))))))), (6, some (bx (jM (jC ((jF e00 e01 e02 b0 b1 b2) / (jF e20 e21 e22 r0 r1 r2))))))] (zR (jZ mE) <| zR (jZ nC) <| zE (jX (q_prj lx ly lz la lb lc ld lf lu lv rx ry rz ra rb rc rd rf ru rv px py pz (by omega) (by omega) (by omega) b0 b1 b2 e00 e01 e02 e10 e11 e12 e20 e21 e22 hF vJ vH vI qV qW qU uC uE uD qJ qI qK r0 hr0 r1 hr1 r2 hr2 hl hr hup hd)) <| zM <| zE uG <| zE uG <| zE uG <| zN (qP 5 gG gE) <| zN (qP 6 qF qQ) <| zT (kU yF) <| zT (kU jR) <| zM <| zZ) ?_
 refine jA <| jA <| kx [(82, (vb false))] [] (zM <| zE dL <| zM <| zM <| zE dL <| zE mV <| zM <| zM <| zE dL <| zE mV <| zZ) ?_
 refine kG ?_
 refine jD <| jA ?_
 have bn14 : QL m0 308 := (jT (Eq.symm hm0) (jQ (n := 51) (k := 308) (qS (eZ) (by decide)) (qS (fC) (by decide)) (qS (mG) (by decide)) (uV (k := 51) bn4 (qi lu) (by decide)) (uV (k := 51) bn5 (qi lv) (by decide)) (qS (qi lf) (by decide)) (by decide)))
 have bn15 : QL m1 308 := (jT (Eq.symm hm1) (jQ (n := 51) (k := 308) (qS (eW) (by decide)) (qS (fF) (by decide)) (qS (mT) (by decide)) (uV (k := 51) bn4 (qi lu) (by decide)) (uV (k := 51) bn5 (qi lv) (by decide)) (qS (qi lf) (by decide)) (by decide)))
 have bn16 : QL m2 308 := (jT (Eq.symm hm2) (jQ (n := 51) (k := 308) (qS (fD) (by decide)) (qS (eX) (by decide)) (qS (mS) (by decide)) (uV (k := 51) bn4 (qi lu) (by decide)) (uV (k := 51) bn5 (qi lv) (by decide)) (qS (qi lf) (by decide)) (by decide)))
 have bn17 : QL ((jF e00 e01 e02 m0 m1 m2) / (jF e20 e21 e22 m0 m1 m2)) 4804 := (vE (k := 4804) (jQ (n := 400) (k := 2402) qV qW qU (qu bn14) (qu bn15) (qu bn16) (by decide)) (jQ (n := 400) (k := 2402) qJ qI qK (qu bn14) (qu bn15) (qu bn16) (by decide)) (by decide))
 have bn18 : QL ((jF e10 e11 e12 m0 m1 m2) / (jF e20 e21 e22 m0 m1 m2)) 4804 := (vE (k := 4804) (jQ (n := 400) (k := 2402) uC uE uD (qu bn14) (qu bn15) (qu bn16) (by decide)) (jQ (n := 400) (k := 2402) qJ qI qK (qu bn14) (qu bn15) (qu bn16) (by decide)) (by decide))
 refine kx [(10, (vi 0)), (16, (.ref 7 0))] [(7, some (bx (kJ (qD.mk (jC ((jF e00 e01 e02 m0 m1 m2) / (jF e20 e21 e22 m0 m1 m2))) (jC ((jF e10 e11 e12 m0 m1 m2) / (jF e20 e21 e22 m0 m1 m2)))))))] (zR (jZ mE) <| zR (jZ yF) <| zE (jX (q_map lx ly lz la lb lc ld lf lu lv rx ry rz ra rb rc rd rf ru rv false (((lu : Int) : Rat) + ((((lf : Int) : Rat) * (jF (xY la lb lc ld) (zC la lb lc ld) (zI la lb lc ld) r0 r1 r2)) / (jF (uK la lb lc ld) (uL la lb lc ld) (uO la lb lc ld) r0 r1 r2))) (((lv : Int) : Rat) + ((((lf : Int) : Rat) * (jF (xW la lb lc ld) (zD la lb lc ld) (zG la lb lc ld) r0 r1 r2)) / (jF (uK la lb lc ld) (uL la lb lc ld) (uO la lb lc ld) r0 r1 r2))) (qu bn4) (qu bn5) b0 b1 b2 e00 e01 e02 e10 e11 e12 e20 e21 e22 hF vJ vH vI qV qW qU uC uE uD qJ qI qK lx ly lz la lb lc ld lf lu lv m0 hm0 m1 hm1 m2 hm2 hl hr hup rfl hl hdm)) <| zM <| zE uG <| zE uG <| zN (qP 7 gG gE) <| zT (kU yF) <| zM <| zZ) ?_
 refine jA ?_
 have bn19 : QL n0 308 := (jT (Eq.symm hn0) (jQ (n := 51) (k := 308) (qS (eZ) (by decide)) (qS (fC) (by decide)) (qS (mG) (by decide)) (uV (k := 51) bn9 (qi ru) (by decide)) (uV (k := 51) bn10 (qi rv) (by decide)) (qS (qi rf) (by decide)) (by decide)))
 have bn20 : QL n1 308 := (jT (Eq.symm hn1) (jQ (n := 51) (k := 308) (qS (eW) (by decide)) (qS (fF) (by decide)) (qS (mT) (by decide)) (uV (k := 51) bn9 (qi ru) (by decide)) (uV (k := 51) bn10 (qi rv) (by decide)) (qS (qi rf) (by decide)) (by decide)))
 have bn21 : QL n2 308 := (jT (Eq.symm hn2) (jQ (n := 51) (k := 308) (qS (fD) (by decide)) (qS (eX) (by decide)) (qS (mS) (by decide)) (uV (k := 51) bn9 (qi ru) (by decide)) (uV (k := 51) bn10 (qi rv) (by decide)) (qS (qi rf) (by decide)) (by decide)))
 have bn22 : QL ((jF e00 e01 e02 n0 n1 n2) / (jF e20 e21 e22 n0 n1 n2)) 4804 := (vE (k := 4804) (jQ (n := 400) (k := 2402) qV qW qU (qu bn19) (qu bn20) (qu bn21) (by decide)) (jQ (n := 400) (k := 2402) qJ qI qK (qu bn19) (qu bn20) (qu bn21) (by decide)) (by decide))
 have bn23 : QL ((jF e10 e11 e12 n0 n1 n2) / (jF e20 e21 e22 n0 n1 n2)) 4804 := (vE (k := 4804) (jQ (n := 400) (k := 2402) uC uE uD (qu bn19) (qu bn20) (qu bn21) (by decide)) (jQ (n := 400) (k := 2402) qJ qI qK (qu bn19) (qu bn20) (qu bn21) (by decide)) (by decide))
 refine kx [(12, (vi 0)), (17, (.ref 8 0))] [(8, some (bx (kJ (qD.mk (jC ((jF e00 e01 e02 n0 n1 n2) / (jF e20 e21 e22 n0 n1 n2))) (jC ((jF e10 e11 e12 n0 n1 n2) / (jF e20 e21 e22 n0 n1 n2)))))))] (zR (jZ mE) <| zR (jZ yF) <| zE (jX (q_map lx ly lz la lb lc ld lf lu lv rx ry rz ra rb rc rd rf ru rv true (((ru : Int) : Rat) + ((((rf : Int) : Rat) * (jF (xY ra rb rc rd) (zC ra rb rc rd) (zI ra rb rc rd) q0 q1 q2)) / (jF (uK ra rb rc rd) (uL ra rb rc rd) (uO ra rb rc rd) q0 q1 q2))) (((rv : Int) : Rat) + ((((rf : Int) : Rat) * (jF (xW ra rb rc rd) (zD ra rb rc rd) (zG ra rb rc rd) q0 q1 q2)) / (jF (uK ra rb rc rd) (uL ra rb rc rd) (uO ra rb rc rd) q0 q1 q2))) (qu bn9) (qu bn10) b0 b1 b2 e00 e01 e02 e10 e11 e12 e20 e21 e22 hF vJ vH vI qV qW qU uC uE uD qJ qI qK rx ry rz ra rb rc rd rf ru rv n0 hn0 n1 hn1 n2 hn2 hl hr hup rfl hr hdn)) <| zM <| zE uG <| zE uG <| zN (qP 8 gG gE) <| zT (kU yF) <| zM <| zZ) ?_
 refine jA <| kd [(4, (vb true))] [] mo (wM <| wE oEq <| wM <| wM <| wE oEq <| wE mX <| wM <| wR (jZ yF) <| wR (jZ yF) <| wE (jX (qs_samep ((jF e00 e01 e02 m0 m1 m2) / (jF e20 e21 e22 m0 m1 m2)) ((jF e10 e11 e12 m0 m1 m2) / (jF e20 e21 e22 m0 m1 m2)) (qu bn17) (qu bn18) ((jF e00 e01 e02 r0 r1 r2) / (jF e20 e21 e22 r0 r1 r2)) ((jF e10 e11 e12 r0 r1 r2) / (jF e20 e21 e22 r0 r1 r2)) (qu bn11) (qu bn12) hx1 hy1)) <| wE mX <| wM <| wE (kO fo56_1) <| wR (jZ jR) <| wE (kO fo56_1) <| wR (jZ jR) <| wE (qN true (jX (by have h := g_same (jC ((jF e10 e11 e12 m0 m1 m2) / (jF e20 e21 e22 m0 m1 m2))) (jC ((jF e10 e11 e12 n0 n1 n2) / (jF e20 e21 e22 n0 n1 n2))) ((jF e10 e11 e12 m0 m1 m2) / (jF e20 e21 e22 m0 m1 m2)) ((jF e10 e11 e12 n0 n1 n2) / (jF e20 e21 e22 n0 n1 n2)) (kB (kC bn18) (by decide)) (kB (kC bn23) (by decide)); rw [fW] at h; exact h)) (by exact decide_eq_true hy2)) <| wE mX <| wM <| wE (kO fo56_0) <| wR (jZ jR) <| wE (kO fo56_0) <| wR (jZ jR) <| wE (jX (g_sub (jC ((jF e00 e01 e02 m0 m1 m2) / (jF e20 e21 e22 m0 m1 m2))) (jC ((jF e00 e01 e02 n0 n1 n2) / (jF e20 e21 e22 n0 n1 n2))) ((jF e00 e01 e02 m0 m1 m2) / (jF e20 e21 e22 m0 m1 m2)) ((jF e00 e01 e02 n0 n1 n2) / (jF e20 e21 e22 n0 n1 n2)) (kB (kC bn17) (by decide)) (kB (kC bn22) (by decide)))) <| wR (jZ jR) <| wE (qN true (jX (by have h := g_same (jC (((jF e00 e01 e02 m0 m1 m2) / (jF e20 e21 e22 m0 m1 m2)) - ((jF e00 e01 e02 n0 n1 n2) / (jF e20 e21 e22 n0 n1 n2)))) (jC ((jF e00 e01 e02 b0 b1 b2) / (jF e20 e21 e22 r0 r1 r2))) (((jF e00 e01 e02 m0 m1 m2) / (jF e20 e21 e22 m0 m1 m2)) - ((jF e00 e01 e02 n0 n1 n2) / (jF e20 e21 e22 n0 n1 n2))) ((jF e00 e01 e02 b0 b1 b2) / (jF e20 e21 e22 r0 r1 r2)) (kB (kC (uV (k := 9609) bn17 bn22 (by decide))) (by decide)) (kB (kC bn13) (by decide)); rw [fW] at h; exact h)) (by exact decide_eq_true hx2)) <| wE mX <| wM <| wR (jZ jR) <| wE (jX (g_sign (jC ((jF e00 e01 e02 b0 b1 b2) / (jF e20 e21 e22 r0 r1 r2))) ((jF e00 e01 e02 b0 b1 b2) / (jF e20 e21 e22 r0 r1 r2)) (kB (kC bn13) (by decide)))) <| wE (qN true hM (by exact decide_eq_true hdp)) <| wE mX <| wM <| wZ) ?_
 refine jH ⟨_, (.tmp (d := (.val (.bool (true)))) rfl .nil), ?_⟩
 rfl
end Go.Proofs.YtbecgnplakngdaaGreat
set_option linter.unusedVariables false
set_option linter.unusedSimpArgs false
namespace Go.Fid
section
variable {lx ly lz la lb lc ld rx ry rz ra rb rc rd : Int} {b0 b1 b2 e00 e01 e02 e10 e11 e12 e20 e21 e22 : Rat}
theorem fr_b (hF : RFr lx ly lz la lb lc ld rx ry rz ra rb rc rd b0 b1 b2 e00 e01 e02 e10 e11 e12 e20 e21 e22) (hup : upV la lb lc ld ra rb rc rd b0 b1 b2 = false) : ∃ k : Rat, k ≠ 0 ∧ b0 * k = e00 ∧ b1 * k = e01 ∧ b2 * k = e02 := by
  have h := upV_base hup
  obtain ⟨-, -, -, he0, he1, he2, -⟩ := hF
  exact ⟨_, redK_ne h, he0, he1, he2⟩
theorem dot_k0 {a b c x y z k : Rat} (hk : k ≠ 0) (h : jF (x * k) (y * k) (z * k) a b c = 0) : jF a b c x y z = 0 := by
  have h2 : jF a b c x y z * k = 0 := by rw [← h]; unfold jF; grind
  exact (Rat.mul_eq_zero.1 h2).resolve_right hk
theorem fr_1b (hF : RFr lx ly lz la lb lc ld rx ry rz ra rb rc rd b0 b1 b2 e00 e01 e02 e10 e11 e12 e20 e21 e22) (hup : upV la lb lc ld ra rb rc rd b0 b1 b2 = false) : jF e10 e11 e12 b0 b1 b2 = 0 := by
  obtain ⟨k, hk, h0, h1, h2⟩ := fr_b hF hup
  have h := fr_01 hF
  rw [← h0, ← h1, ← h2] at h
  exact dot_k0 hk h
theorem fr_2b (hF : RFr lx ly lz la lb lc ld rx ry rz ra rb rc rd b0 b1 b2 e00 e01 e02 e10 e11 e12 e20 e21 e22) (hup : upV la lb lc ld ra rb rc rd b0 b1 b2 = false) : jF e20 e21 e22 b0 b1 b2 = 0 := by
  obtain ⟨k, hk, h0, h1, h2⟩ := fr_b hF hup
  have h := fr_02 hF
  rw [← h0, ← h1, ← h2] at h
  exact dot_k0 hk h
end
theorem Rcast (a b c d : Int) : xY a b c d = ((a : Rat) * a + b * b - c * c - d * d) ∧ xW a b c d = 2 * ((b : Rat) * c - a * d) ∧ uK a b c d = 2 * ((b : Rat) * d + a * c) ∧ zC a b c d = 2 * ((b : Rat) * c + a * d) ∧ zD a b c d = ((a : Rat) * a - b * b + c * c - d * d) ∧ uL a b c d = 2 * ((c : Rat) * d - a * b) ∧ zI a b c d = 2 * ((b : Rat) * d - a * c) ∧ zG a b c d = 2 * ((c : Rat) * d + a * b) ∧ uO a b c d = ((a : Rat) * a - b * b - c * c + d * d) ∧ N4 a b c d = ((a : Rat) * a + b * b + c * c + d * d) := by
  unfold xY xW uK zC zD uL zI zG uO N4 r00 r01 r02 r10 r11 r12 r20 r21 r22 nq
  simp only [Rat.intCast_add, Rat.intCast_sub, Rat.intCast_mul, Rat.intCast_ofNat, and_self]
theorem rrt0 (a b c d : Int) (x y z : Rat) : jF (xY a b c d) (xW a b c d) (uK a b c d) (jF (xY a b c d) (zC a b c d) (zI a b c d) x y z) (jF (xW a b c d) (zD a b c d) (zG a b c d) x y z) (jF (uK a b c d) (uL a b c d) (uO a b c d) x y z) = N4 a b c d * N4 a b c d * x := by
  obtain ⟨h0, h1, h2, h3, h4, h5, h6, h7, h8, h9⟩ := Rcast a b c d
  unfold jF
  rw [h0, h1, h2, h3, h4, h5, h6, h7, h8, h9]
  grind
theorem rrt1 (a b c d : Int) (x y z : Rat) : jF (zC a b c d) (zD a b c d) (uL a b c d) (jF (xY a b c d) (zC a b c d) (zI a b c d) x y z) (jF (xW a b c d) (zD a b c d) (zG a b c d) x y z) (jF (uK a b c d) (uL a b c d) (uO a b c d) x y z) = N4 a b c d * N4 a b c d * y := by
  obtain ⟨h0, h1, h2, h3, h4, h5, h6, h7, h8, h9⟩ := Rcast a b c d
  unfold jF
  rw [h0, h1, h2, h3, h4, h5, h6, h7, h8, h9]
  grind
theorem rrt2 (a b c d : Int) (x y z : Rat) : jF (zI a b c d) (zG a b c d) (uO a b c d) (jF (xY a b c d) (zC a b c d) (zI a b c d) x y z) (jF (xW a b c d) (zD a b c d) (zG a b c d) x y z) (jF (uK a b c d) (uL a b c d) (uO a b c d) x y z) = N4 a b c d * N4 a b c d * z := by
  obtain ⟨h0, h1, h2, h3, h4, h5, h6, h7, h8, h9⟩ := Rcast a b c d
  unfold jF
  rw [h0, h1, h2, h3, h4, h5, h6, h7, h8, h9]
  grind
theorem N4_pos {a b c d : Int} (h : gC a b c d = 0) : 0 < N4 a b c d := by
  unfold N4
  exact Rat.intCast_pos.2 (nq_pos h)
theorem dot3_pos {a b c : Rat} (h : yJ a b c = false) : 0 < jF a b c a b c := by
  have h1 := dot3_ne h
  have ha := rsq_nn a; have hb := rsq_nn b; have hc := rsq_nn c
  unfold jF at *
  grind
section
variable {lx ly lz la lb lc ld rx ry rz ra rb rc rd : Int} {b0 b1 b2 e00 e01 e02 e10 e11 e12 e20 e21 e22 : Rat}
end
theorem ql_dq0 {a b c d p q r s : Int} (h : gC a b c d = 0) (h2 : gC p q r s = 0) : QL (dC a b c d p q r s) 13 ∧ QL (cY a b c d p q r s) 13 ∧ QL (dA a b c d p q r s) 13 := by
  obtain ⟨ha, hb, hc, hd, -⟩ := uW h
  obtain ⟨hp, hq, hr, hs, -⟩ := uW h2
  have n1 := ql_N4 ha hb hc hd; have n2 := ql_N4 hp hq hr hs
  refine ⟨?_, ?_, ?_⟩
  · exact uF (jI (k := 6) (ql_R02 ha hb hc hd) n2 (by decide)) (jI (k := 6) (ql_R02 hp hq hr hs) n1 (by decide)) (by decide)
  · exact uF (jI (k := 6) (ql_R12 ha hb hc hd) n2 (by decide)) (jI (k := 6) (ql_R12 hp hq hr hs) n1 (by decide)) (by decide)
  · exact uF (jI (k := 6) (ql_R22 ha hb hc hd) n2 (by decide)) (jI (k := 6) (ql_R22 hp hq hr hs) n1 (by decide)) (by decide)
theorem ql_cr {a b c d : Rat} {m n k : Nat} (ha : QL a m) (hb : QL b n) (hc : QL c m) (hd : QL d n) (h : (m + n) + (m + n) + 1 ≤ k) : QL (a * b - c * d) k :=
  uV (jI ha hb (Nat.le_refl _)) (jI hc hd (Nat.le_refl _)) h
theorem pair_cases (lx ly lz la lb lc ld lf lu lv rx ry rz ra rb rc rd rf ru rv : Int) :
    (∃ c, stn2 (uP lx ly lz lu lv lf la lb lc ld) (uP rx ry rz ru rv rf ra rb rc rd) = c ∧ c ≠ 0) ∨
    (uP lx ly lz lu lv lf la lb lc ld = 0 ∧ uP rx ry rz ru rv rf ra rb rc rd = 0 ∧ ∃ b0 b1 b2 : Rat, (((rx - lx : Int) : Rat) = b0 ∧ ((ry - ly : Int) : Rat) = b1 ∧ ((rz - lz : Int) : Rat) = b2) ∧ (QL b0 3 ∧ QL b1 3 ∧ QL b2 3) ∧ upV la lb lc ld ra rb rc rd b0 b1 b2 = true) ∨
    (uP lx ly lz lu lv lf la lb lc ld = 0 ∧ uP rx ry rz ru rv rf ra rb rc rd = 0 ∧ ∃ b0 b1 b2 e00 e01 e02 e10 e11 e12 e20 e21 e22 : Rat, RFr lx ly lz la lb lc ld rx ry rz ra rb rc rd b0 b1 b2 e00 e01 e02 e10 e11 e12 e20 e21 e22 ∧ upV la lb lc ld ra rb rc rd b0 b1 b2 = false ∧ (QL b0 3 ∧ QL b1 3 ∧ QL b2 3) ∧ (QL e00 400 ∧ QL e01 400 ∧ QL e02 400 ∧ QL e10 400 ∧ QL e11 400 ∧ QL e12 400 ∧ QL e20 400 ∧ QL e21 400 ∧ QL e22 400)) := by
  by_cases hl : uP lx ly lz lu lv lf la lb lc ld = 0
  · by_cases hr : uP rx ry rz ru rv rf ra rb rc rd = 0
    · have hl2 := uS hl; have hr2 := uS hr
      have qb0 : QL ((rx - lx : Int) : Rat) 3 := kQ (jP (by omega) (by omega)) (by decide)
      have qb1 : QL ((ry - ly : Int) : Rat) 3 := kQ (jP (by omega) (by omega)) (by decide)
      have qb2 : QL ((rz - lz : Int) : Rat) 3 := kQ (jP (by omega) (by omega)) (by decide)
      rcases hup : upV la lb lc ld ra rb rc rd ((rx - lx : Int) : Rat) ((ry - ly : Int) : Rat) ((rz - lz : Int) : Rat) with _ | _
      · obtain ⟨d0, d1, d2⟩ := ql_dq0 hl2.2.2.2.2.2.2 hr2.2.2.2.2.2.2
        have k0 := zU qb0 qb1 qb2 (Nat.le_refl _) (by decide)
        have e0 := jI (k := 6) qb0 k0 (by decide)
        have e1 := jI (k := 6) qb1 k0 (by decide)
        have e2 := jI (k := 6) qb2 k0 (by decide)
        have s0 := ql_cr (k := 39) d1 e2 d2 e1 (by decide)
        have s1 := ql_cr (k := 39) d2 e0 d0 e2 (by decide)
        have s2 := ql_cr (k := 39) d0 e1 d1 e0 (by decide)
        have k1 := zU s0 s1 s2 (Nat.le_refl _) (by decide)
        have f0 := jI (k := 78) s0 k1 (by decide)
        have f1 := jI (k := 78) s1 k1 (by decide)
        have f2 := jI (k := 78) s2 k1 (by decide)
        have t0 := ql_cr (k := 169) e1 f2 e2 f1 (by decide)
        have t1 := ql_cr (k := 169) e2 f0 e0 f2 (by decide)
        have t2 := ql_cr (k := 169) e0 f1 e1 f0 (by decide)
        have k2 := zU t0 t1 t2 (Nat.le_refl _) (by decide)
        have g0 := jI (k := 338) t0 k2 (by decide)
        have g1 := jI (k := 338) t1 k2 (by decide)
        have g2 := jI (k := 338) t2 k2 (by decide)
        exact .inr (.inr ⟨hl, hr, _, _, _, _, _, _, _, _, _, _, _, _, ⟨rfl, rfl, rfl, rfl, rfl, rfl, rfl, rfl, rfl, rfl, rfl, rfl⟩, hup, ⟨qb0, qb1, qb2⟩, qS e0 (by decide), qS e1 (by decide), qS e2 (by decide), qS f0 (by decide), qS f1 (by decide), qS f2 (by decide), qS g0 (by decide), qS g1 (by decide), qS g2 (by decide)⟩)
      · exact .inr (.inl ⟨hl, hr, _, _, _, ⟨rfl, rfl, rfl⟩, ⟨qb0, qb1, qb2⟩, hup⟩)
    · exact .inl ⟨_, rfl, by unfold stn2; rw [if_pos hl]; exact hr⟩
  · exact .inl ⟨_, rfl, by unfold stn2; rw [if_neg hl]; exact hl⟩
end Go.Fid
set_option linter.unusedVariables false
set_option linter.unusedSimpArgs false
namespace Go.Fid
theorem rdiv_pos {a b : Rat} (ha : 0 < a) (hb : 0 < b) : 0 < a / b := by rw [Rat.div_def]; exact Rat.mul_pos ha (Rat.inv_pos.2 hb)
def IsZ (q : Rat) : Prop := ∃ z : Int, q = (z : Rat)
theorem IsZ.of (z : Int) : IsZ (z : Rat) := ⟨z, rfl⟩
theorem IsZ.mul {p q : Rat} (h : IsZ p) (h2 : IsZ q) : IsZ (p * q) := by
  obtain ⟨a, rfl⟩ := h; obtain ⟨b, rfl⟩ := h2; exact ⟨a * b, (Rat.intCast_mul a b).symm⟩
theorem IsZ.add {p q : Rat} (h : IsZ p) (h2 : IsZ q) : IsZ (p + q) := by
  obtain ⟨a, rfl⟩ := h; obtain ⟨b, rfl⟩ := h2; exact ⟨a + b, (Rat.intCast_add a b).symm⟩
theorem IsZ.sub {p q : Rat} (h : IsZ p) (h2 : IsZ q) : IsZ (p - q) := by
  obtain ⟨a, rfl⟩ := h; obtain ⟨b, rfl⟩ := h2; exact ⟨a - b, (Rat.intCast_sub a b).symm⟩
section
variable {lx ly lz la lb lc ld rx ry rz ra rb rc rd : Int} {b0 b1 b2 e00 e01 e02 e10 e11 e12 e20 e21 e22 : Rat}
theorem redK_pos {a b c : Rat} (h : yJ a b c = false) : 0 < nW a b c := by
  have h1 := gcd3_ne h
  have h2 : 0 < cC a b c := by unfold cC at h1 ⊢; omega
  unfold nW
  rw [Rat.divInt_eq_div, Rat.intCast_one]
  have h3 : (0 : Rat) < ((cC a b c : Int) : Rat) := Rat.intCast_pos.2 h2
  exact rdiv_pos (by decide) h3
theorem fr_e0b (hF : RFr lx ly lz la lb lc ld rx ry rz ra rb rc rd b0 b1 b2 e00 e01 e02 e10 e11 e12 e20 e21 e22) (hup : upV la lb lc ld ra rb rc rd b0 b1 b2 = false) : 0 < (jF e00 e01 e02 b0 b1 b2) := by
  have h := upV_base hup
  obtain ⟨-, -, -, h0, h1, h2, -⟩ := hF
  have hk := redK_pos h
  have hb := dot3_pos h
  rw [← h0, ← h1, ← h2]
  have e : jF (b0 * nW b0 b1 b2) (b1 * nW b0 b1 b2) (b2 * nW b0 b1 b2) b0 b1 b2 = jF b0 b1 b2 b0 b1 b2 * nW b0 b1 b2 := by unfold jF; grind
  rw [e]
  exact Rat.mul_pos hb hk
end
end Go.Fid
set_option linter.unusedVariables false
set_option linter.unusedSimpArgs false
namespace Go.Fid
theorem seen_q {p q s u v f V0 V1 V2 n r : Rat} (h : jF p q s V0 V1 V2 = n * n * r) (h2 : V2 ≠ 0) : jF p q s ((u + ((f * V0) / V2)) - u) ((v + ((f * V1) / V2)) - v) f = (f * (n * n) / V2) * r := by
  unfold jF at *
  grind
theorem seen0 {a b c d u v f : Int} {r0 r1 r2 : Rat} (h : (jF (uK a b c d) (uL a b c d) (uO a b c d) r0 r1 r2) ≠ 0) : (jF (xY a b c d) (xW a b c d) (uK a b c d) ((((u : Int) : Rat) + ((((f : Int) : Rat) * (jF (xY a b c d) (zC a b c d) (zI a b c d) r0 r1 r2)) / (jF (uK a b c d) (uL a b c d) (uO a b c d) r0 r1 r2))) - ((u : Int) : Rat)) ((((v : Int) : Rat) + ((((f : Int) : Rat) * (jF (xW a b c d) (zD a b c d) (zG a b c d) r0 r1 r2)) / (jF (uK a b c d) (uL a b c d) (uO a b c d) r0 r1 r2))) - ((v : Int) : Rat)) ((f : Int) : Rat)) = (((f : Int) : Rat) * (N4 a b c d * N4 a b c d) / (jF (uK a b c d) (uL a b c d) (uO a b c d) r0 r1 r2)) * r0 := seen_q (rrt0 a b c d r0 r1 r2) h
theorem seen1 {a b c d u v f : Int} {r0 r1 r2 : Rat} (h : (jF (uK a b c d) (uL a b c d) (uO a b c d) r0 r1 r2) ≠ 0) : (jF (zC a b c d) (zD a b c d) (uL a b c d) ((((u : Int) : Rat) + ((((f : Int) : Rat) * (jF (xY a b c d) (zC a b c d) (zI a b c d) r0 r1 r2)) / (jF (uK a b c d) (uL a b c d) (uO a b c d) r0 r1 r2))) - ((u : Int) : Rat)) ((((v : Int) : Rat) + ((((f : Int) : Rat) * (jF (xW a b c d) (zD a b c d) (zG a b c d) r0 r1 r2)) / (jF (uK a b c d) (uL a b c d) (uO a b c d) r0 r1 r2))) - ((v : Int) : Rat)) ((f : Int) : Rat)) = (((f : Int) : Rat) * (N4 a b c d * N4 a b c d) / (jF (uK a b c d) (uL a b c d) (uO a b c d) r0 r1 r2)) * r1 := seen_q (rrt1 a b c d r0 r1 r2) h
theorem seen2 {a b c d u v f : Int} {r0 r1 r2 : Rat} (h : (jF (uK a b c d) (uL a b c d) (uO a b c d) r0 r1 r2) ≠ 0) : (jF (zI a b c d) (zG a b c d) (uO a b c d) ((((u : Int) : Rat) + ((((f : Int) : Rat) * (jF (xY a b c d) (zC a b c d) (zI a b c d) r0 r1 r2)) / (jF (uK a b c d) (uL a b c d) (uO a b c d) r0 r1 r2))) - ((u : Int) : Rat)) ((((v : Int) : Rat) + ((((f : Int) : Rat) * (jF (xW a b c d) (zD a b c d) (zG a b c d) r0 r1 r2)) / (jF (uK a b c d) (uL a b c d) (uO a b c d) r0 r1 r2))) - ((v : Int) : Rat)) ((f : Int) : Rat)) = (((f : Int) : Rat) * (N4 a b c d * N4 a b c d) / (jF (uK a b c d) (uL a b c d) (uO a b c d) r0 r1 r2)) * r2 := seen_q (rrt2 a b c d r0 r1 r2) h
theorem seenK {a b c d f : Int} {V : Rat} (hq : gC a b c d = 0) (hf : 1 ≤ f) (hV : ¬ (qZ V) ≤ 0) : 0 < ((f : Int) : Rat) * (N4 a b c d * N4 a b c d) / V :=
  rdiv_pos (Rat.mul_pos (Rat.intCast_pos.2 (by omega)) (Rat.mul_pos (N4_pos hq) (N4_pos hq))) (sgn_pos.1 hV)
theorem dot_K {a b c x y z x' y' z' k : Rat} (h0 : k * x = x') (h1 : k * y = y') (h2 : k * z = z') : jF a b c x' y' z' = k * jF a b c x y z := by
  rw [← h0, ← h1, ← h2]; unfold jF; grind
theorem ratio_K {k x y : Rat} (hk : 0 < k) : (k * x) / (k * y) = x / y := by
  by_cases h : y = 0
  · subst h; rw [Rat.mul_zero, rat_div_zero, rat_div_zero]
  · have hk2 : k ≠ 0 := by grind
    grind
theorem pos_K {k y : Rat} (hk : 0 < k) (hy : ¬ (qZ y) ≤ 0) : ¬ (qZ (k * y)) ≤ 0 := sgn_pos.2 (Rat.mul_pos hk (sgn_pos.1 hy))
theorem sgn_gt {q : Rat} (h : 0 < q) : 0 < qZ q := by have := sgn_pos.2 h; omega
section
variable {lx ly lz la lb lc ld rx ry rz ra rb rc rd : Int} {b0 b1 b2 e00 e01 e02 e10 e11 e12 e20 e21 e22 : Rat}
theorem rows_all (hF : RFr lx ly lz la lb lc ld rx ry rz ra rb rc rd b0 b1 b2 e00 e01 e02 e10 e11 e12 e20 e21 e22) (hup : upV la lb lc ld ra rb rc rd b0 b1 b2 = false) {r0 r1 r2 q0 q1 q2 m0 m1 m2 n0 n1 n2 j k : Rat} (hq0 : q0 = r0 - b0) (hq1 : q1 = r1 - b1) (hq2 : q2 = r2 - b2)
    (hj : 0 < j) (hk : 0 < k) (hm0 : j * r0 = m0) (hm1 : j * r1 = m1) (hm2 : j * r2 = m2) (hn0 : k * q0 = n0) (hn1 : k * q1 = n1) (hn2 : k * q2 = n2) (hd : ¬ (qZ (jF e20 e21 e22 r0 r1 r2)) ≤ 0) :
    ¬ (qZ (jF e20 e21 e22 m0 m1 m2)) ≤ 0 ∧ ¬ (qZ (jF e20 e21 e22 n0 n1 n2)) ≤ 0 ∧ (jF e00 e01 e02 m0 m1 m2) / (jF e20 e21 e22 m0 m1 m2) = (jF e00 e01 e02 r0 r1 r2) / (jF e20 e21 e22 r0 r1 r2) ∧ (jF e10 e11 e12 m0 m1 m2) / (jF e20 e21 e22 m0 m1 m2) = (jF e10 e11 e12 r0 r1 r2) / (jF e20 e21 e22 r0 r1 r2) ∧ (jF e10 e11 e12 m0 m1 m2) / (jF e20 e21 e22 m0 m1 m2) = (jF e10 e11 e12 n0 n1 n2) / (jF e20 e21 e22 n0 n1 n2) ∧ (jF e00 e01 e02 m0 m1 m2) / (jF e20 e21 e22 m0 m1 m2) - (jF e00 e01 e02 n0 n1 n2) / (jF e20 e21 e22 n0 n1 n2) = (jF e00 e01 e02 b0 b1 b2) / (jF e20 e21 e22 r0 r1 r2) ∧ 0 < (qZ ((jF e00 e01 e02 b0 b1 b2) / (jF e20 e21 e22 r0 r1 r2))) := by
  have h2 : (jF e20 e21 e22 q0 q1 q2) = (jF e20 e21 e22 r0 r1 r2) := by
    have h := fr_2b hF hup
    rw [hq0, hq1, hq2]; unfold jF at *; grind
  have h1 : (jF e10 e11 e12 q0 q1 q2) = (jF e10 e11 e12 r0 r1 r2) := by
    have h := fr_1b hF hup
    rw [hq0, hq1, hq2]; unfold jF at *; grind
  have h0 : (jF e00 e01 e02 q0 q1 q2) = (jF e00 e01 e02 r0 r1 r2) - (jF e00 e01 e02 b0 b1 b2) := by
    rw [hq0, hq1, hq2]; unfold jF; grind
  have hp := fr_e0b hF hup
  rw [dot_K hm0 hm1 hm2, dot_K hm0 hm1 hm2, dot_K hm0 hm1 hm2, dot_K hn0 hn1 hn2, dot_K hn0 hn1 hn2, dot_K hn0 hn1 hn2, ratio_K hj, ratio_K hj, ratio_K hk, ratio_K hk, h2, h1, h0]
  refine ⟨pos_K hj hd, pos_K hk hd, rfl, rfl, rfl, ?_, sgn_gt (rdiv_pos hp (sgn_pos.1 hd))⟩
  have h9 := nY hd
  grind
end
end Go.Fid
