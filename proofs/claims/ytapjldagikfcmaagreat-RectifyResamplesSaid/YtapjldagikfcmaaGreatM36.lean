/- Part 36 of a proof: rules, plain facts, and functions walked. -/
import Derived.Test.YtapjldagikfcmaaGreatM35
import Derived.Test.YtapjldagikfcmaaGreatM30
namespace Go.Proofs.YtapjldagikfcmaaGreat
open Go.Fid
set_option maxRecDepth 4000
set_option linter.unusedVariables false
set_option linter.unusedSimpArgs false
theorem cb8 : callB Tryz.prog 8 = true := by kernel_rfl
theorem dU : vN Tryz.prog 99 0 = some 0 := by kernel_rfl
theorem vH : vN Tryz.prog 99 1 = some 1 := by kernel_rfl
theorem vI : vN Tryz.prog 99 2 = some 3 := by kernel_rfl
theorem yK : vN Tryz.prog 99 3 = some 5 := by kernel_rfl
theorem fG : uJ Tryz.prog 26 = some (true, 2) := by kernel_rfl
theorem w_rsN1 (lx ly lz la lb lc ld lf lu lv rx ry rz ra rb rc rd rf ru rv : Int) (w h mx : Int) (px : List Int) (right : Bool) (wx wy : Int) (vx vy : Int) (z : jZ) (om : Rat) (hom : fW z om 140737488355328) (hpx : 100 < px.length) : kH Tryz.prog 8 [(qQ (kT.mk (kG.mk (jQ.mk lx ly lz) (jL.mk la lb lc ld) lf (jU.mk lu lv)) (kG.mk (jQ.mk rx ry rz) (jL.mk ra rb rc rd) rf (jU.mk ru rv)))), (qW (xA.mk w h mx px)), (gV (eO.mk right (jU.mk wx wy) (jU.mk vx vy) z))] (.val (.bool (true))) := by
 let y1 := (qQ (kT.mk (kG.mk (jQ.mk lx ly lz) (jL.mk la lb lc ld) lf (jU.mk lu lv)) (kG.mk (jQ.mk rx ry rz) (jL.mk ra rb rc rd) rf (jU.mk ru rv))))
 refine jM Tryz.func8 rfl cb8 rfl ?_
 show uY _ _ _ _ ⟨[(0, (.d y1)), (1, (.d (qW (xA.mk w h mx px)))), (2, (.d (gV (eO.mk right (jU.mk wx wy) (jU.mk vx vy) z))))], []⟩
 refine jA <| kx [(3, (.ref 0 0)), (4, (.ref 1 0)), (5, (.ref 2 0))] [(0, some (bx y1)), (1, some (bx (qW (xA.mk w h mx px)))), (2, some (bx (gV (eO.mk right (jU.mk wx wy) (jU.mk vx vy) z))))] (zN (vD 0) <| zN (vD 1) <| zN (vD 2) <| zM <| zZ) ?_
 refine jA <| jA <| kx [(18, (vb false))] [] (zE (kB eL) <| zE oNt <| zZ) ?_
 refine jT ?_
 refine jB <| jA <| jA <| kx [(28, (vb true))] [] (zE (kE mT) <| zR (qR dK) <| zE (nE uB) <| zE (kR true yZ (by exact decide_eq_true (show 100 < ((px.length : Nat) : Int) by omega))) <| zM <| zK <| zK <| zK <| zK <| zE yH <| zZ) ?_
 refine jX ?_
 refine jA <| kx [(6, (vb true))] [] (zM <| zZ) ?_
 refine jF ⟨_, (.tmp (d := (.val (.bool (true)))) rfl .nil), ?_⟩
 rfl
theorem w_rsN2 (lx ly lz la lb lc ld lf lu lv rx ry rz ra rb rc rd rf ru rv : Int) (w h mx : Int) (px : List Int) (right : Bool) (wx wy : Int) (vx vy : Int) (z : jZ) (om : Rat) (hom : fW z om 140737488355328) (hpx : ¬ 100 < px.length) (hdg : ((8 : Nat) : Int) < (((digR z) : Nat) : Int)) : kH Tryz.prog 8 [(qQ (kT.mk (kG.mk (jQ.mk lx ly lz) (jL.mk la lb lc ld) lf (jU.mk lu lv)) (kG.mk (jQ.mk rx ry rz) (jL.mk ra rb rc rd) rf (jU.mk ru rv)))), (qW (xA.mk w h mx px)), (gV (eO.mk right (jU.mk wx wy) (jU.mk vx vy) z))] (.val (.bool (true))) := by
 let y1 := (qQ (kT.mk (kG.mk (jQ.mk lx ly lz) (jL.mk la lb lc ld) lf (jU.mk lu lv)) (kG.mk (jQ.mk rx ry rz) (jL.mk ra rb rc rd) rf (jU.mk ru rv))))
 refine jM Tryz.func8 rfl cb8 rfl ?_
 show uY _ _ _ _ ⟨[(0, (.d y1)), (1, (.d (qW (xA.mk w h mx px)))), (2, (.d (gV (eO.mk right (jU.mk wx wy) (jU.mk vx vy) z))))], []⟩
 refine jA <| kx [(3, (.ref 0 0)), (4, (.ref 1 0)), (5, (.ref 2 0))] [(0, some (bx y1)), (1, some (bx (qW (xA.mk w h mx px)))), (2, some (bx (gV (eO.mk right (jU.mk wx wy) (jU.mk vx vy) z))))] (zN (vD 0) <| zN (vD 1) <| zN (vD 2) <| zM <| zZ) ?_
 refine jA <| jA <| kx [(18, (vb false))] [] (zE (kB eL) <| zE oNt <| zZ) ?_
 refine jT ?_
 refine jB <| jA <| jA <| kx [(28, (vb true))] [] (zE (kE mT) <| zR (qR dK) <| zE (nE uB) <| zE (kR false yZ (by exact decide_eq_false (show ¬ 100 < ((px.length : Nat) : Int) by omega))) <| zM <| zE (kE yK) <| zR (kC jR) <| zE (kB (fY z om hom)) <| zE (kR true yZ (by exact decide_eq_true hdg)) <| zE zU <| zZ) ?_
 refine jX ?_
 refine jA <| kx [(6, (vb true))] [] (zM <| zZ) ?_
 refine jF ⟨_, (.tmp (d := (.val (.bool (true)))) rfl .nil), ?_⟩
 rfl
theorem w_rsE1 (lx ly lz la lb lc ld lf lu lv rx ry rz ra rb rc rd rf ru rv : Int) (w h mx : Int) (px : List Int) (right : Bool) (wx wy : Int) (vx vy : Int) (z : jZ) (om : Rat) (hom : fW z om 8) (c : Nat) (hc : stn2 (uQ lx ly lz lu lv lf la lb lc ld) (uQ rx ry rz ru rv rf ra rb rc rd) = c) (hc0 : c ≠ 0) (hpx : ¬ 100 < px.length) (hdg : ¬ ((8 : Nat) : Int) < (((digR z) : Nat) : Int)) : kH Tryz.prog 8 [(qQ (kT.mk (kG.mk (jQ.mk lx ly lz) (jL.mk la lb lc ld) lf (jU.mk lu lv)) (kG.mk (jQ.mk rx ry rz) (jL.mk ra rb rc rd) rf (jU.mk ru rv)))), (qW (xA.mk w h mx px)), (gV (eO.mk right (jU.mk wx wy) (jU.mk vx vy) z))] (.val (.bool (true))) := by
 let y5 := (gV (eO.mk right (jU.mk wx wy) (jU.mk vx vy) z))
 let y4 := (A3.mk (jZ.mk (jI.mk false []) (jI.mk false [])) (jZ.mk (jI.mk false []) (jI.mk false [])) (jZ.mk (jI.mk false []) (jI.mk false [])))
 let y3 := (qQ (kT.mk (kG.mk (jQ.mk lx ly lz) (jL.mk la lb lc ld) lf (jU.mk lu lv)) (kG.mk (jQ.mk rx ry rz) (jL.mk ra rb rc rd) rf (jU.mk ru rv))))
 let y2 := (bx y3)
 let y1 := (bx (yU (RLp.mk (kT.mk (kG.mk (jQ.mk lx ly lz) (jL.mk la lb lc ld) lf (jU.mk lu lv)) (kG.mk (jQ.mk rx ry rz) (jL.mk ra rb rc rd) rf (jU.mk ru rv))) y4 (A3.mk y4 y4 y4))))
 refine jM Tryz.func8 rfl cb8 rfl ?_
 show uY _ _ _ _ ⟨[(0, (.d y3)), (1, (.d (qW (xA.mk w h mx px)))), (2, (.d y5))], []⟩
 refine jA <| kx [(3, (.ref 0 0)), (4, (.ref 1 0)), (5, (.ref 2 0))] [(0, some y2), (1, some (bx (qW (xA.mk w h mx px)))), (2, some (bx y5))] (zN (vD 0) <| zN (vD 1) <| zN (vD 2) <| zM <| zZ) ?_
 refine jA <| jA <| kx [(18, (vb false))] [] (zE (kB eL) <| zE oNt <| zZ) ?_
 refine jT ?_
 refine jB <| jA <| jA <| kx [(28, (vb false))] [] (zE (kE mT) <| zR (qR dK) <| zE (nE uB) <| zE (kR false yZ (by exact decide_eq_false (show ¬ 100 < ((px.length : Nat) : Int) by omega))) <| zM <| zE (kE yK) <| zR (kC jR) <| zE (kB (fY z om (jY hom (by decide)))) <| zE (kR false yZ (by exact decide_eq_false hdg)) <| zE zU <| zZ) ?_
 refine jT ?_
 refine jB <| jA <| kx [(7, (.ref 3 0)), (8, (kD c))] [(3, some y1)] (zR (kC dE) <| zE (kB (qs_preE1 lx ly lz la lb lc ld lf lu lv rx ry rz ra rb rc rd rf ru rv c hc hc0)) <| zM <| zE vA <| zE vA <| zN (uK 3 fN fM) <| zT (qG nP) <| zM <| zZ) ?_
 refine jA <| jA <| kx [(35, (vb false))] [] (zM <| zE (kR false xK (by exact beq_eq_false_iff_ne.2 (by have hx := hc0; omega))) <| zZ) ?_
 refine jT ?_
 refine jB <| jA <| jA <| kx [(45, (vb false))] [] (zM <| zE (kR false xK (by exact beq_eq_false_iff_ne.2 (by have hx := hc0; omega))) <| zM <| zK <| zK <| zK <| zK <| zE zU <| zZ) ?_
 refine jT ?_
 refine jB <| jA <| jA <| kx [(53, (vb false))] [] (zM <| zE (kR false xK (by exact beq_eq_false_iff_ne.2 (by have hx := hc0; omega))) <| zM <| zK <| zK <| zK <| zK <| zE zU <| zZ) ?_
 refine jT ?_
 refine jB <| jA <| jA <| kx [(66, (vl 3 1 qL [wx, wy, vx, vy])), (67, (kD 4)), (68, (kD 0))] [] (zE (kE vH) <| zE (kE uW) <| zR (qR qP) <| zE (kE vH) <| zE (kE uV) <| zR (qR qP) <| zE (kE vI) <| zE (kE uW) <| zR (qR qP) <| zE (kE vI) <| zE (kE uV) <| zR (qR qP) <| zE (mC uB ze3 zo3) <| zE (bJ uB 4) <| zM <| zZ) ?_
 refine jE <| qF 5 ?_
 refine qU <| jA <| kx [(69, (vb true))] [] (zE (kR true qY) <| zZ) ?_
 refine jA <| jX ?_
 refine jB <| jA <| jE <| jA <| kx [(10, (vi wx))] [] (zE (zS uB 0) <| zE (xN qP) <| zM <| zZ) ?_
 refine jA <| kx [(81, (vb false))] [] (zM <| zE (kR false xK (by exact beq_eq_false_iff_ne.2 (by have hx := hc0; omega))) <| zM <| zK <| zK <| zK <| zK <| zK <| zK <| zE zU <| zZ) ?_
 refine jT ?_
 refine jB <| kx [(68, (kD 1))] [] (zE (uE 1 (hr := by decide)) <| zM <| zZ) ?_
 refine jJ (jW.refl _) ?_
 refine jA <| kx [(69, (vb true))] [] (zE (kR true qY) <| zZ) ?_
 refine jA <| jX ?_
 refine jB <| jA <| jE <| jA <| kx [(10, (vi wy))] [] (zE (zS uB 1) <| zE (xN qP) <| zM <| zZ) ?_
 refine jA <| kP (wk (l := [(3, (.ref 0 0)), (4, (.ref 1 0)), (5, (.ref 2 0)), (7, (.ref 3 0)), (8, (kD c)), (10, (vi wy)), (66, (vl 3 1 qL [wx, wy, vx, vy])), (67, (kD 4)), (68, (kD 1))]) (b := [(0, some y2), (1, some (bx (qW (xA.mk w h mx px)))), (2, some (bx y5)), (3, some y1)])) ?_
 refine kx [(81, (vb false))] [] (zM <| zE (kR false xK (by exact beq_eq_false_iff_ne.2 (by have hx := hc0; omega))) <| zM <| zK <| zK <| zK <| zK <| zK <| zK <| zE zU <| zZ) ?_
 refine jT ?_
 refine jB <| kx [(68, (kD 2))] [] (zE (uE 2 (hr := by decide)) <| zM <| zZ) ?_
 refine jJ (jW.refl _) ?_
 refine jA <| kx [(69, (vb true))] [] (zE (kR true qY) <| zZ) ?_
 refine jA <| jX ?_
 refine jB <| jA <| jE <| jA <| kx [(10, (vi vx))] [] (zE (zS uB 2) <| zE (xN qP) <| zM <| zZ) ?_
 refine jA <| kx [(81, (vb false))] [] (zM <| zE (kR false xK (by exact beq_eq_false_iff_ne.2 (by have hx := hc0; omega))) <| zM <| zK <| zK <| zK <| zK <| zK <| zK <| zE zU <| zZ) ?_
 refine jT ?_
 refine jB <| kx [(68, (kD 3))] [] (zE (uE 3 (hr := by decide)) <| zM <| zZ) ?_
 refine jJ (jW.refl _) ?_
 refine jA <| kx [(69, (vb true))] [] (zE (kR true qY) <| zZ) ?_
 refine jA <| jX ?_
 refine jB <| jA <| jE <| jA <| kx [(10, (vi vy))] [] (zE (zS uB 3) <| zE (xN qP) <| zM <| zZ) ?_
 refine jA <| kx [(81, (vb false))] [] (zM <| zE (kR false xK (by exact beq_eq_false_iff_ne.2 (by have hx := hc0; omega))) <| zM <| zK <| zK <| zK <| zK <| zK <| zK <| zE zU <| zZ) ?_
 refine jT ?_
 refine jB <| kx [(68, (kD 4))] [] (zE (uE 4 (hr := by decide)) <| zM <| zZ) ?_
 refine jJ (jW.refl _) ?_
 refine jA <| kx [(69, (vb false))] [] (zE (kR false qY) <| zZ) ?_
 refine jA <| jT ?_
 refine kJ <| jA <| jA <| kx [(102, (vb false))] [] (zM <| zE (kR false xK (by exact beq_eq_false_iff_ne.2 (by have hx := hc0; omega))) <| zM <| zK <| zK <| zK <| zK <| zK <| zK <| zK <| zK <| zK <| zK <| zK <| zK <| zK <| zK <| zK <| zK <| zE zU <| zZ) ?_
 refine jT ?_
 refine jB <| jA <| jA <| kx [(124, (vb false))] [] (zM <| zE (kR false xK (by exact beq_eq_false_iff_ne.2 (by have hx := hc0; omega))) <| zM <| zK <| zK <| zK <| zK <| zK <| zK <| zK <| zK <| zK <| zK <| zK <| zK <| zK <| zK <| zK <| zK <| zK <| zK <| zE zU <| zZ) ?_
 refine jT ?_
 refine jB <| jA <| jA <| kx [(146, (vb false))] [] (zM <| zE (kR false xK (by exact beq_eq_false_iff_ne.2 (by have hx := hc0; omega))) <| zM <| zK <| zK <| zK <| zK <| zK <| zK <| zK <| zK <| zK <| zK <| zK <| zK <| zK <| zK <| zK <| zK <| zK <| zK <| zE zU <| zZ) ?_
 refine jT ?_
 refine jB <| jA <| kP (wk (l := [(3, (.ref 0 0)), (4, (.ref 1 0)), (5, (.ref 2 0)), (7, (.ref 3 0)), (8, (kD c)), (146, (vb false))]) (b := [(0, some y2), (1, some (bx (qW (xA.mk w h mx px)))), (2, some (bx y5)), (3, some y1)])) ?_
 refine kx [(11, (vl 22 1 kO [])), (12, (kD c))] [] (zR (kC dE) <| zE (kE dU) <| zR (qR dX) <| zR (kC bZ) <| zE (kE vH) <| zR (kC fG) <| zE (kE vI) <| zR (kC fG) <| zE (kE yK) <| zR (kC jR) <| zE (kB (q_rsE1 lx ly lz la lb lc ld lf lu lv rx ry rz ra rb rc rd rf ru rv right w h mx px wx wy vx vy z om hom c hc hc0)) <| zM <| zE vA <| zE vA <| zM <| zM <| zZ) ?_
 refine jA <| jA <| kx [(162, (vb true))] [] (zM <| zE (kR true eS (by exact bne_iff_ne.2 (by have hx := hc0; omega))) <| zZ) ?_
 refine jX ?_
 refine jA <| kx [(6, (vb true))] [] (zM <| zM <| zE (kR true xK (by exact beq_self_eq_true _)) <| zM <| zM <| zE (bJ gN 0) <| zE (kR true xK) <| zE yH <| zM <| zZ) ?_
 refine jF ⟨_, (.tmp (d := (.val (.bool (true)))) rfl .nil), ?_⟩
 rfl
theorem w_rsE2 (lx ly lz la lb lc ld lf lu lv rx ry rz ra rb rc rd rf ru rv : Int) (w h mx : Int) (px : List Int) (right : Bool) (wx wy : Int) (vx vy : Int) (z : jZ) (om : Rat) (hom : fW z om 8) (b0 b1 b2 : Rat) (xI : QL b0 3) (xH : QL b1 3) (xJ : QL b2 3) (hl : uQ lx ly lz lu lv lf la lb lc ld = 0) (hr : uQ rx ry rz ru rv rf ra rb rc rd = 0) (hb0 : ((rx - lx : Int) : Rat) = b0) (hb1 : ((ry - ly : Int) : Rat) = b1) (hb2 : ((rz - lz : Int) : Rat) = b2) (hup : upV la lb lc ld ra rb rc rd b0 b1 b2 = true) (hpx : ¬ 100 < px.length) (hdg : ¬ ((8 : Nat) : Int) < (((digR z) : Nat) : Int)) : kH Tryz.prog 8 [(qQ (kT.mk (kG.mk (jQ.mk lx ly lz) (jL.mk la lb lc ld) lf (jU.mk lu lv)) (kG.mk (jQ.mk rx ry rz) (jL.mk ra rb rc rd) rf (jU.mk ru rv)))), (qW (xA.mk w h mx px)), (gV (eO.mk right (jU.mk wx wy) (jU.mk vx vy) z))] (.val (.bool (true))) := by
 let y5 := (gV (eO.mk right (jU.mk wx wy) (jU.mk vx vy) z))
 let y4 := (A3.mk (jZ.mk (jI.mk false []) (jI.mk false [])) (jZ.mk (jI.mk false []) (jI.mk false [])) (jZ.mk (jI.mk false []) (jI.mk false [])))
 let y3 := (qQ (kT.mk (kG.mk (jQ.mk lx ly lz) (jL.mk la lb lc ld) lf (jU.mk lu lv)) (kG.mk (jQ.mk rx ry rz) (jL.mk ra rb rc rd) rf (jU.mk ru rv))))
 let y2 := (bx y3)
 let y1 := (bx (yU (RLp.mk (kT.mk (kG.mk (jQ.mk lx ly lz) (jL.mk la lb lc ld) lf (jU.mk lu lv)) (kG.mk (jQ.mk rx ry rz) (jL.mk ra rb rc rd) rf (jU.mk ru rv))) (A3.mk (jD b0) (jD b1) (jD b2)) (A3.mk y4 y4 y4))))
 refine jM Tryz.func8 rfl cb8 rfl ?_
 show uY _ _ _ _ ⟨[(0, (.d y3)), (1, (.d (qW (xA.mk w h mx px)))), (2, (.d y5))], []⟩
 refine jA <| kx [(3, (.ref 0 0)), (4, (.ref 1 0)), (5, (.ref 2 0))] [(0, some y2), (1, some (bx (qW (xA.mk w h mx px)))), (2, some (bx y5))] (zN (vD 0) <| zN (vD 1) <| zN (vD 2) <| zM <| zZ) ?_
 refine jA <| jA <| kx [(18, (vb false))] [] (zE (kB eL) <| zE oNt <| zZ) ?_
 refine jT ?_
 refine jB <| jA <| jA <| kx [(28, (vb false))] [] (zE (kE mT) <| zR (qR dK) <| zE (nE uB) <| zE (kR false yZ (by exact decide_eq_false (show ¬ 100 < ((px.length : Nat) : Int) by omega))) <| zM <| zE (kE yK) <| zR (kC jR) <| zE (kB (fY z om (jY hom (by decide)))) <| zE (kR false yZ (by exact decide_eq_false hdg)) <| zE zU <| zZ) ?_
 refine jT ?_
 refine jB <| jA <| kx [(7, (.ref 3 0)), (8, (vi 13))] [(3, some y1)] (zR (kC dE) <| zE (kB (qs_preE2 lx ly lz la lb lc ld lf lu lv rx ry rz ra rb rc rd rf ru rv b0 b1 b2 xI xH xJ hl hr hb0 hb1 hb2 hup)) <| zM <| zE vA <| zE vA <| zN (uK 3 fN fM) <| zT (qG nP) <| zM <| zZ) ?_
 refine jA <| jA <| kx [(35, (vb false))] [] (zM <| zE (kR false xK) <| zZ) ?_
 refine jT ?_
 refine jB <| jA <| jA <| kx [(45, (vb false))] [] (zM <| zE (kR false xK) <| zM <| zK <| zK <| zK <| zK <| zE zU <| zZ) ?_
 refine jT ?_
 refine jB <| jA <| jA <| kx [(53, (vb false))] [] (zM <| zE (kR false xK) <| zM <| zK <| zK <| zK <| zK <| zE zU <| zZ) ?_
 refine jT ?_
 refine jB <| jA <| jA <| kx [(66, (vl 3 1 qL [wx, wy, vx, vy])), (67, (kD 4)), (68, (kD 0))] [] (zE (kE vH) <| zE (kE uW) <| zR (qR qP) <| zE (kE vH) <| zE (kE uV) <| zR (qR qP) <| zE (kE vI) <| zE (kE uW) <| zR (qR qP) <| zE (kE vI) <| zE (kE uV) <| zR (qR qP) <| zE (mC uB ze3 zo3) <| zE (bJ uB 4) <| zM <| zZ) ?_
 refine jE <| qF 5 ?_
 refine qU <| jA <| kx [(69, (vb true))] [] (zE (kR true qY) <| zZ) ?_
 refine jA <| jX ?_
 refine jB <| jA <| jE <| jA <| kx [(10, (vi wx))] [] (zE (zS uB 0) <| zE (xN qP) <| zM <| zZ) ?_
 refine jA <| kx [(81, (vb false))] [] (zM <| zE (kR false xK) <| zM <| zK <| zK <| zK <| zK <| zK <| zK <| zE zU <| zZ) ?_
 refine jT ?_
 refine jB <| kx [(68, (kD 1))] [] (zE (uE 1 (hr := by decide)) <| zM <| zZ) ?_
 refine jJ (jW.refl _) ?_
 refine jA <| kx [(69, (vb true))] [] (zE (kR true qY) <| zZ) ?_
 refine jA <| jX ?_
 refine jB <| jA <| jE <| jA <| kx [(10, (vi wy))] [] (zE (zS uB 1) <| zE (xN qP) <| zM <| zZ) ?_
 refine jA <| kP (wk (l := [(3, (.ref 0 0)), (4, (.ref 1 0)), (5, (.ref 2 0)), (7, (.ref 3 0)), (8, (vi 13)), (10, (vi wy)), (66, (vl 3 1 qL [wx, wy, vx, vy])), (67, (kD 4)), (68, (kD 1))]) (b := [(0, some y2), (1, some (bx (qW (xA.mk w h mx px)))), (2, some (bx y5)), (3, some y1)])) ?_
 refine kx [(81, (vb false))] [] (zM <| zE (kR false xK) <| zM <| zK <| zK <| zK <| zK <| zK <| zK <| zE zU <| zZ) ?_
 refine jT ?_
 refine jB <| kx [(68, (kD 2))] [] (zE (uE 2 (hr := by decide)) <| zM <| zZ) ?_
 refine jJ (jW.refl _) ?_
 refine jA <| kx [(69, (vb true))] [] (zE (kR true qY) <| zZ) ?_
 refine jA <| jX ?_
 refine jB <| jA <| jE <| jA <| kx [(10, (vi vx))] [] (zE (zS uB 2) <| zE (xN qP) <| zM <| zZ) ?_
 refine jA <| kx [(81, (vb false))] [] (zM <| zE (kR false xK) <| zM <| zK <| zK <| zK <| zK <| zK <| zK <| zE zU <| zZ) ?_
 refine jT ?_
 refine jB <| kx [(68, (kD 3))] [] (zE (uE 3 (hr := by decide)) <| zM <| zZ) ?_
 refine jJ (jW.refl _) ?_
 refine jA <| kx [(69, (vb true))] [] (zE (kR true qY) <| zZ) ?_
 refine jA <| jX ?_
 refine jB <| jA <| jE <| jA <| kx [(10, (vi vy))] [] (zE (zS uB 3) <| zE (xN qP) <| zM <| zZ) ?_
 refine jA <| kx [(81, (vb false))] [] (zM <| zE (kR false xK) <| zM <| zK <| zK <| zK <| zK <| zK <| zK <| zE zU <| zZ) ?_
 refine jT ?_
 refine jB <| kx [(68, (kD 4))] [] (zE (uE 4 (hr := by decide)) <| zM <| zZ) ?_
 refine jJ (jW.refl _) ?_
 refine jA <| kx [(69, (vb false))] [] (zE (kR false qY) <| zZ) ?_
 refine jA <| jT ?_
 refine kJ <| jA <| jA <| kx [(102, (vb false))] [] (zM <| zE (kR false xK) <| zM <| zK <| zK <| zK <| zK <| zK <| zK <| zK <| zK <| zK <| zK <| zK <| zK <| zK <| zK <| zK <| zK <| zE zU <| zZ) ?_
 refine jT ?_
 refine jB <| jA <| jA <| kx [(124, (vb false))] [] (zM <| zE (kR false xK) <| zM <| zK <| zK <| zK <| zK <| zK <| zK <| zK <| zK <| zK <| zK <| zK <| zK <| zK <| zK <| zK <| zK <| zK <| zK <| zE zU <| zZ) ?_
 refine jT ?_
 refine jB <| jA <| jA <| kx [(146, (vb false))] [] (zM <| zE (kR false xK) <| zM <| zK <| zK <| zK <| zK <| zK <| zK <| zK <| zK <| zK <| zK <| zK <| zK <| zK <| zK <| zK <| zK <| zK <| zK <| zE zU <| zZ) ?_
 refine jT ?_
 refine jB <| jA <| kP (wk (l := [(3, (.ref 0 0)), (4, (.ref 1 0)), (5, (.ref 2 0)), (7, (.ref 3 0)), (8, (vi 13)), (146, (vb false))]) (b := [(0, some y2), (1, some (bx (qW (xA.mk w h mx px)))), (2, some (bx y5)), (3, some y1)])) ?_
 refine kx [(11, (vl 22 1 kO [])), (12, (vi 13))] [] (zR (kC dE) <| zE (kE dU) <| zR (qR dX) <| zR (kC bZ) <| zE (kE vH) <| zR (kC fG) <| zE (kE vI) <| zR (kC fG) <| zE (kE yK) <| zR (kC jR) <| zE (kB (q_rsE2 lx ly lz la lb lc ld lf lu lv rx ry rz ra rb rc rd rf ru rv right w h mx px wx wy vx vy z om hom b0 b1 b2 xI xH xJ hl hr hb0 hb1 hb2 hup)) <| zM <| zE vA <| zE vA <| zM <| zM <| zZ) ?_
 refine jA <| jA <| kx [(162, (vb true))] [] (zM <| zE (kR true eS) <| zZ) ?_
 refine jX ?_
 refine jA <| kx [(6, (vb true))] [] (zM <| zM <| zE (kR true xK) <| zM <| zM <| zE (bJ gN 0) <| zE (kR true xK) <| zE yH <| zM <| zZ) ?_
 refine jF ⟨_, (.tmp (d := (.val (.bool (true)))) rfl .nil), ?_⟩
 rfl
theorem w_rsC (lx ly lz la lb lc ld lf lu lv rx ry rz ra rb rc rd rf ru rv : Int) (w h mx : Int) (px : List Int) (right : Bool) (wx wy : Int) (vx vy : Int) (z : jZ) (om : Rat) (hom : fW z om 8) (b0 b1 b2 e00 e01 e02 e10 e11 e12 e20 e21 e22 : Rat) (hF : RFr lx ly lz la lb lc ld rx ry rz ra rb rc rd b0 b1 b2 e00 e01 e02 e10 e11 e12 e20 e21 e22) (xI : QL b0 3) (xH : QL b1 3) (xJ : QL b2 3) (qE : QL e00 400) (kZ : QL e01 400) (qA : QL e02 400) (qJ : QL e10 400) (qK : QL e11 400) (qI : QL e12 400) (qD : QL e20 400) (qB : QL e21 400) (qC : QL e22 400) (hl : uQ lx ly lz lu lv lf la lb lc ld = 0) (hr : uQ rx ry rz ru rv rf ra rb rc rd = 0) (hup : upV la lb lc ld ra rb rc rd b0 b1 b2 = false) (hpx : ¬ 100 < px.length) (hdg : ¬ ((8 : Nat) : Int) < (((digR z) : Nat) : Int)) (hck : gM w h mx px ≠ 0) (hck1 : gM w h mx px = 1) (hne : (xT w h mx px z om wx wy vx vy) ≠ 0) (hk : (xT w h mx px z om wx wy vx vy) = gM w h mx px) : kH Tryz.prog 8 [(qQ (kT.mk (kG.mk (jQ.mk lx ly lz) (jL.mk la lb lc ld) lf (jU.mk lu lv)) (kG.mk (jQ.mk rx ry rz) (jL.mk ra rb rc rd) rf (jU.mk ru rv)))), (qW (xA.mk w h mx px)), (gV (eO.mk right (jU.mk wx wy) (jU.mk vx vy) z))] (.val (.bool (true))) := by
 have hbl := vU hl
 have hbr := vU hr
 obtain ⟨hlx, hly, hlz, hlu, hlv, hlf, hlq⟩ := hbl
 obtain ⟨hrx, hry, hrz, hru, hrv, hrf, hrq⟩ := hbr
 obtain ⟨hla, hlb, hlc, hld, -⟩ := vQ hlq
 obtain ⟨hra, hrb, hrc, hrd, -⟩ := vQ hrq
 have hnl := gX hla hlb hlc hld
 have hnr := gX hra hrb hrc hrd
 have hz0 := fr_z0 hF hup
 have hz1 := fr_z1 hF hup
 have hz2 := fr_z2 hF hup
 let y4 := (gV (eO.mk right (jU.mk wx wy) (jU.mk vx vy) z))
 let y3 := (qQ (kT.mk (kG.mk (jQ.mk lx ly lz) (jL.mk la lb lc ld) lf (jU.mk lu lv)) (kG.mk (jQ.mk rx ry rz) (jL.mk ra rb rc rd) rf (jU.mk ru rv))))
 let y2 := (bx y3)
 let y1 := (bx (yU (RLp.mk (kT.mk (kG.mk (jQ.mk lx ly lz) (jL.mk la lb lc ld) lf (jU.mk lu lv)) (kG.mk (jQ.mk rx ry rz) (jL.mk ra rb rc rd) rf (jU.mk ru rv))) (A3.mk (jD b0) (jD b1) (jD b2)) (A3.mk (A3.mk (jD e00) (jD e01) (jD e02)) (A3.mk (jD e10) (jD e11) (jD e12)) (A3.mk (jD e20) (jD e21) (jD e22))))))
 refine jM Tryz.func8 rfl cb8 rfl ?_
 show uY _ _ _ _ ⟨[(0, (.d y3)), (1, (.d (qW (xA.mk w h mx px)))), (2, (.d y4))], []⟩
 refine jA <| kx [(3, (.ref 0 0)), (4, (.ref 1 0)), (5, (.ref 2 0))] [(0, some y2), (1, some (bx (qW (xA.mk w h mx px)))), (2, some (bx y4))] (zN (vD 0) <| zN (vD 1) <| zN (vD 2) <| zM <| zZ) ?_
 refine jA <| jA <| kx [(18, (vb false))] [] (zE (kB eL) <| zE oNt <| zZ) ?_
 refine jT ?_
 refine jB <| jA <| jA <| kx [(28, (vb false))] [] (zE (kE mT) <| zR (qR dK) <| zE (nE uB) <| zE (kR false yZ (by exact decide_eq_false (show ¬ 100 < ((px.length : Nat) : Int) by omega))) <| zM <| zE (kE yK) <| zR (kC jR) <| zE (kB (fY z om (jY hom (by decide)))) <| zE (kR false yZ (by exact decide_eq_false hdg)) <| zE zU <| zZ) ?_
 refine jT ?_
 refine jB <| jA <| kx [(7, (.ref 3 0)), (8, (vi 0))] [(3, some y1)] (zR (kC dE) <| zE (kB (qs_pre lx ly lz la lb lc ld lf lu lv rx ry rz ra rb rc rd rf ru rv b0 b1 b2 e00 e01 e02 e10 e11 e12 e20 e21 e22 hF xI xH xJ qE kZ qA qJ qK qI qD qB qC hl hr hup)) <| zM <| zE vA <| zE vA <| zN (uK 3 fN fM) <| zT (qG nP) <| zM <| zZ) ?_
 refine jA <| jA <| kx [(35, (vb true))] [] (zM <| zE (kR true xK) <| zZ) ?_
 refine jX ?_
 refine kx [(8, (vi (gM w h mx px)))] [] (zR (kC bZ) <| zE (kB (p_rchk w h mx px (by omega))) <| zM <| zZ) ?_
 refine jA <| jA <| kx [(45, (vb false))] [] (zM <| zE (kR false xK (by exact beq_eq_false_iff_ne.2 hck)) <| zM <| zK <| zK <| zK <| zK <| zE zU <| zZ) ?_
 refine jT ?_
 refine jB <| jA <| jA <| kx [(53, (vb false))] [] (zM <| zE (kR false xK (by exact beq_eq_false_iff_ne.2 hck)) <| zM <| zK <| zK <| zK <| zK <| zE zU <| zZ) ?_
 refine jT ?_
 refine jB <| jA <| jA <| kx [(66, (vl 3 1 qL [wx, wy, vx, vy])), (67, (kD 4)), (68, (kD 0))] [] (zE (kE vH) <| zE (kE uW) <| zR (qR qP) <| zE (kE vH) <| zE (kE uV) <| zR (qR qP) <| zE (kE vI) <| zE (kE uW) <| zR (qR qP) <| zE (kE vI) <| zE (kE uV) <| zR (qR qP) <| zE (mC uB ze3 zo3) <| zE (bJ uB 4) <| zM <| zZ) ?_
 refine jE <| qF 5 ?_
 refine qU <| jA <| kx [(69, (vb true))] [] (zE (kR true qY) <| zZ) ?_
 refine jA <| jX ?_
 refine jB <| jA <| jE <| jA <| kx [(10, (vi wx))] [] (zE (zS uB 0) <| zE (xN qP) <| zM <| zZ) ?_
 refine jA <| kx [(81, (vb false))] [] (zM <| zE (kR false xK (by exact beq_eq_false_iff_ne.2 hck)) <| zM <| zK <| zK <| zK <| zK <| zK <| zK <| zE zU <| zZ) ?_
 refine jT ?_
 refine jB <| kx [(68, (kD 1))] [] (zE (uE 1 (hr := by decide)) <| zM <| zZ) ?_
 refine jJ (jW.refl _) ?_
 refine jA <| kx [(69, (vb true))] [] (zE (kR true qY) <| zZ) ?_
 refine jA <| jX ?_
 refine jB <| jA <| jE <| jA <| kP (wk (l := [(3, (.ref 0 0)), (4, (.ref 1 0)), (5, (.ref 2 0)), (7, (.ref 3 0)), (8, (vi (gM w h mx px))), (66, (vl 3 1 qL [wx, wy, vx, vy])), (67, (kD 4)), (68, (kD 1)), (69, (vb true))]) (b := [(0, some y2), (1, some (bx (qW (xA.mk w h mx px)))), (2, some (bx y4)), (3, some y1)])) ?_
 refine kx [(10, (vi wy))] [] (zE (zS uB 1) <| zE (xN qP) <| zM <| zZ) ?_
 refine jA <| kx [(81, (vb false))] [] (zM <| zE (kR false xK (by exact beq_eq_false_iff_ne.2 hck)) <| zM <| zK <| zK <| zK <| zK <| zK <| zK <| zE zU <| zZ) ?_
 refine jT ?_
 refine jB <| kx [(68, (kD 2))] [] (zE (uE 2 (hr := by decide)) <| zM <| zZ) ?_
 refine jJ (jW.refl _) ?_
 refine jA <| kx [(69, (vb true))] [] (zE (kR true qY) <| zZ) ?_
 refine jA <| jX ?_
 refine jB <| jA <| jE <| jA <| kx [(10, (vi vx))] [] (zE (zS uB 2) <| zE (xN qP) <| zM <| zZ) ?_
 refine jA <| kx [(81, (vb false))] [] (zM <| zE (kR false xK (by exact beq_eq_false_iff_ne.2 hck)) <| zM <| zK <| zK <| zK <| zK <| zK <| zK <| zE zU <| zZ) ?_
 refine jT ?_
 refine jB <| kx [(68, (kD 3))] [] (zE (uE 3 (hr := by decide)) <| zM <| zZ) ?_
 refine jJ (jW.refl _) ?_
 refine jA <| kx [(69, (vb true))] [] (zE (kR true qY) <| zZ) ?_
 refine jA <| jX ?_
 refine jB <| jA <| jE <| jA <| kx [(10, (vi vy))] [] (zE (zS uB 3) <| zE (xN qP) <| zM <| zZ) ?_
 refine jA <| kx [(81, (vb false))] [] (zM <| zE (kR false xK (by exact beq_eq_false_iff_ne.2 hck)) <| zM <| zK <| zK <| zK <| zK <| zK <| zK <| zE zU <| zZ) ?_
 refine jT ?_
 refine jB <| kx [(68, (kD 4))] [] (zE (uE 4 (hr := by decide)) <| zM <| zZ) ?_
 refine jJ (jW.refl _) ?_
 refine jA <| kx [(69, (vb false))] [] (zE (kR false qY) <| zZ) ?_
 refine jA <| jT ?_
 refine kJ <| jA <| jA <| kx [(102, (vb false))] [] (zM <| zE (kR false xK (by exact beq_eq_false_iff_ne.2 hck)) <| zM <| zK <| zK <| zK <| zK <| zK <| zK <| zK <| zK <| zK <| zK <| zK <| zK <| zK <| zK <| zK <| zK <| zE zU <| zZ) ?_
 refine jT ?_
 refine jB <| jA <| jA <| kx [(124, (vb false))] [] (zM <| zE (kR false xK (by exact beq_eq_false_iff_ne.2 hck)) <| zM <| zK <| zK <| zK <| zK <| zK <| zK <| zK <| zK <| zK <| zK <| zK <| zK <| zK <| zK <| zK <| zK <| zK <| zK <| zE zU <| zZ) ?_
 refine jT ?_
 refine jB <| jA <| jA <| kP (wk (l := [(3, (.ref 0 0)), (4, (.ref 1 0)), (5, (.ref 2 0)), (7, (.ref 3 0)), (8, (vi (gM w h mx px))), (124, (vb false))]) (b := [(0, some y2), (1, some (bx (qW (xA.mk w h mx px)))), (2, some (bx y4)), (3, some y1)])) ?_
 refine kx [(146, (vb false))] [] (zM <| zE (kR false xK (by exact beq_eq_false_iff_ne.2 hck)) <| zM <| zK <| zK <| zK <| zK <| zK <| zK <| zK <| zK <| zK <| zK <| zK <| zK <| zK <| zK <| zK <| zK <| zK <| zK <| zE zU <| zZ) ?_
 refine jT ?_
 refine jB <| jA <| kx [(11, (vl 22 1 kO [])), (12, (vi (xT w h mx px z om wx wy vx vy)))] [] (zR (kC dE) <| zE (kE dU) <| zR (qR dX) <| zR (kC bZ) <| zE (kE vH) <| zR (kC fG) <| zE (kE vI) <| zR (kC fG) <| zE (kE yK) <| zR (kC jR) <| zE (kB (q_rsX lx ly lz la lb lc ld lf lu lv rx ry rz ra rb rc rd rf ru rv right w h mx px wx wy vx vy z om hom b0 b1 b2 e00 e01 e02 e10 e11 e12 e20 e21 e22 hF xI xH xJ qE kZ qA qJ qK qI qD qB qC hl hr hup (by omega) hne)) <| zM <| zE vA <| zE vA <| zM <| zM <| zZ) ?_
 refine jA <| jA <| kx [(162, (vb true))] [] (zM <| zE (kR true eS (by exact bne_iff_ne.2 hck)) <| zZ) ?_
 refine jX ?_
 refine jA <| kx [(6, (vb true))] [] (zM <| zM <| zE (kR true xK (by exact beq_iff_eq.2 hk)) <| zM <| zM <| zE (bJ gN 0) <| zE (kR true xK) <| zE yH <| zM <| zZ) ?_
 refine jF ⟨_, (.tmp (d := (.val (.bool (true)))) rfl .nil), ?_⟩
 first | rfl | (rw [hck1]; rfl)
theorem w_rsX (lx ly lz la lb lc ld lf lu lv rx ry rz ra rb rc rd rf ru rv : Int) (w h mx : Int) (px : List Int) (right : Bool) (wx wy : Int) (vx vy : Int) (z : jZ) (om : Rat) (hom : fW z om 8) (b0 b1 b2 e00 e01 e02 e10 e11 e12 e20 e21 e22 : Rat) (hF : RFr lx ly lz la lb lc ld rx ry rz ra rb rc rd b0 b1 b2 e00 e01 e02 e10 e11 e12 e20 e21 e22) (xI : QL b0 3) (xH : QL b1 3) (xJ : QL b2 3) (qE : QL e00 400) (kZ : QL e01 400) (qA : QL e02 400) (qJ : QL e10 400) (qK : QL e11 400) (qI : QL e12 400) (qD : QL e20 400) (qB : QL e21 400) (qC : QL e22 400) (hl : uQ lx ly lz lu lv lf la lb lc ld = 0) (hr : uQ rx ry rz ru rv rf ra rb rc rd = 0) (hup : upV la lb lc ld ra rb rc rd b0 b1 b2 = false) (hpx : ¬ 100 < px.length) (hdg : ¬ ((8 : Nat) : Int) < (((digR z) : Nat) : Int)) (hck : gM w h mx px = 0) (hne : (xT w h mx px z om wx wy vx vy) ≠ 0) : kH Tryz.prog 8 [(qQ (kT.mk (kG.mk (jQ.mk lx ly lz) (jL.mk la lb lc ld) lf (jU.mk lu lv)) (kG.mk (jQ.mk rx ry rz) (jL.mk ra rb rc rd) rf (jU.mk ru rv)))), (qW (xA.mk w h mx px)), (gV (eO.mk right (jU.mk wx wy) (jU.mk vx vy) z))] (.val (.bool (true))) := by
 have hbl := vU hl
 have hbr := vU hr
 obtain ⟨hlx, hly, hlz, hlu, hlv, hlf, hlq⟩ := hbl
 obtain ⟨hrx, hry, hrz, hru, hrv, hrf, hrq⟩ := hbr
 obtain ⟨hla, hlb, hlc, hld, -⟩ := vQ hlq
 obtain ⟨hra, hrb, hrc, hrd, -⟩ := vQ hrq
 have hnl := gX hla hlb hlc hld
 have hnr := gX hra hrb hrc hrd
 have hz0 := fr_z0 hF hup
 have hz1 := fr_z1 hF hup
 have hz2 := fr_z2 hF hup
 let y4 := (bx (gV (eO.mk right (jU.mk wx wy) (jU.mk vx vy) z)))
 let y3 := (qQ (kT.mk (kG.mk (jQ.mk lx ly lz) (jL.mk la lb lc ld) lf (jU.mk lu lv)) (kG.mk (jQ.mk rx ry rz) (jL.mk ra rb rc rd) rf (jU.mk ru rv))))
 let y2 := (bx y3)
 let y1 := (bx (yU (RLp.mk (kT.mk (kG.mk (jQ.mk lx ly lz) (jL.mk la lb lc ld) lf (jU.mk lu lv)) (kG.mk (jQ.mk rx ry rz) (jL.mk ra rb rc rd) rf (jU.mk ru rv))) (A3.mk (jD b0) (jD b1) (jD b2)) (A3.mk (A3.mk (jD e00) (jD e01) (jD e02)) (A3.mk (jD e10) (jD e11) (jD e12)) (A3.mk (jD e20) (jD e21) (jD e22))))))
 refine jM Tryz.func8 rfl cb8 rfl ?_
 show uY _ _ _ _ ⟨[(0, (.d y3)), (1, (.d (qW (xA.mk w h mx px)))), (2, (.d (gV (eO.mk right (jU.mk wx wy) (jU.mk vx vy) z))))], []⟩
 refine jA <| kx [(3, (.ref 0 0)), (4, (.ref 1 0)), (5, (.ref 2 0))] [(0, some y2), (1, some (bx (qW (xA.mk w h mx px)))), (2, some y4)] (zN (vD 0) <| zN (vD 1) <| zN (vD 2) <| zM <| zZ) ?_
 refine jA <| jA <| kx [(18, (vb false))] [] (zE (kB eL) <| zE oNt <| zZ) ?_
 refine jT ?_
 refine jB <| jA <| jA <| kx [(28, (vb false))] [] (zE (kE mT) <| zR (qR dK) <| zE (nE uB) <| zE (kR false yZ (by exact decide_eq_false (show ¬ 100 < ((px.length : Nat) : Int) by omega))) <| zM <| zE (kE yK) <| zR (kC jR) <| zE (kB (fY z om (jY hom (by decide)))) <| zE (kR false yZ (by exact decide_eq_false hdg)) <| zE zU <| zZ) ?_
 refine jT ?_
 refine jB <| jA <| kx [(7, (.ref 3 0)), (8, (vi 0))] [(3, some y1)] (zR (kC dE) <| zE (kB (qs_pre lx ly lz la lb lc ld lf lu lv rx ry rz ra rb rc rd rf ru rv b0 b1 b2 e00 e01 e02 e10 e11 e12 e20 e21 e22 hF xI xH xJ qE kZ qA qJ qK qI qD qB qC hl hr hup)) <| zM <| zE vA <| zE vA <| zN (uK 3 fN fM) <| zT (qG nP) <| zM <| zZ) ?_
 refine jA <| jA <| kx [(35, (vb true))] [] (zM <| zE (kR true xK) <| zZ) ?_
 refine jX ?_
 refine kx [(8, (vi (gM w h mx px)))] [] (zR (kC bZ) <| zE (kB (p_rchk w h mx px (by omega))) <| zM <| zZ) ?_
 refine jA <| jA <| kx [(45, (vb (true && !(vW z))))] [] (zM <| zE (kR true xK (by exact beq_iff_eq.2 hck)) <| zM <| zE (kE yK) <| zR (kC jR) <| zE (kB (g_valid z om (jY hom (by decide)))) <| zE oNt <| zE oPa <| zZ) ?_
 refine jO (b := (true && !(vW z))) rfl (fun h1 => ?_) (fun h1 => ?_)
 ·have hk : (xT w h mx px z om wx wy vx vy) = 1 := cd1 (by rw [hck]; exact h1)
  refine kx [(8, (kD 1))] [] (zM <| zZ) ?_
  refine jA <| jA <| kx [(53, (vb false))] [] (zM <| zE (kR false xK) <| zM <| zK <| zK <| zK <| zK <| zE zU <| zZ) ?_
  refine jT ?_
  refine jB <| jA <| jA <| kx [(66, (vl 3 1 qL [wx, wy, vx, vy])), (67, (kD 4)), (68, (kD 0))] [] (zE (kE vH) <| zE (kE uW) <| zR (qR qP) <| zE (kE vH) <| zE (kE uV) <| zR (qR qP) <| zE (kE vI) <| zE (kE uW) <| zR (qR qP) <| zE (kE vI) <| zE (kE uV) <| zR (qR qP) <| zE (mC uB ze3 zo3) <| zE (bJ uB 4) <| zM <| zZ) ?_
  refine jE <| qF 5 ?_
  refine qU <| jA <| kx [(69, (vb true))] [] (zE (kR true qY) <| zZ) ?_
  refine jA <| jX ?_
  refine jB <| jA <| jE <| jA <| kx [(10, (vi wx))] [] (zE (zS uB 0) <| zE (xN qP) <| zM <| zZ) ?_
  refine jA <| kx [(81, (vb false))] [] (zM <| zE (kR false xK) <| zM <| zK <| zK <| zK <| zK <| zK <| zK <| zE zU <| zZ) ?_
  refine jT ?_
  refine jB <| kx [(68, (kD 1))] [] (zE (uE 1 (hr := by decide)) <| zM <| zZ) ?_
  refine jJ (jW.refl _) ?_
  refine jA <| kP (wk (l := [(3, (.ref 0 0)), (4, (.ref 1 0)), (5, (.ref 2 0)), (7, (.ref 3 0)), (8, (kD 1)), (66, (vl 3 1 qL [wx, wy, vx, vy])), (67, (kD 4)), (68, (kD 1))]) (b := [(0, some y2), (1, some (bx (qW (xA.mk w h mx px)))), (2, some y4), (3, some y1)])) ?_
  refine kx [(69, (vb true))] [] (zE (kR true qY) <| zZ) ?_
  refine jA <| jX ?_
  refine jB <| jA <| jE <| jA <| kx [(10, (vi wy))] [] (zE (zS uB 1) <| zE (xN qP) <| zM <| zZ) ?_
  refine jA <| kx [(81, (vb false))] [] (zM <| zE (kR false xK) <| zM <| zK <| zK <| zK <| zK <| zK <| zK <| zE zU <| zZ) ?_
  refine jT ?_
  refine jB <| kx [(68, (kD 2))] [] (zE (uE 2 (hr := by decide)) <| zM <| zZ) ?_
  refine jJ (jW.refl _) ?_
  refine jA <| kx [(69, (vb true))] [] (zE (kR true qY) <| zZ) ?_
  refine jA <| jX ?_
  refine jB <| jA <| jE <| jA <| kx [(10, (vi vx))] [] (zE (zS uB 2) <| zE (xN qP) <| zM <| zZ) ?_
  refine jA <| kx [(81, (vb false))] [] (zM <| zE (kR false xK) <| zM <| zK <| zK <| zK <| zK <| zK <| zK <| zE zU <| zZ) ?_
  refine jT ?_
  refine jB <| kx [(68, (kD 3))] [] (zE (uE 3 (hr := by decide)) <| zM <| zZ) ?_
  refine jJ (jW.refl _) ?_
  refine jA <| kx [(69, (vb true))] [] (zE (kR true qY) <| zZ) ?_
  refine jA <| jX ?_
  refine jB <| jA <| jE <| jA <| kx [(10, (vi vy))] [] (zE (zS uB 3) <| zE (xN qP) <| zM <| zZ) ?_
  refine jA <| kx [(81, (vb false))] [] (zM <| zE (kR false xK) <| zM <| zK <| zK <| zK <| zK <| zK <| zK <| zE zU <| zZ) ?_
  refine jT ?_
  refine jB <| kx [(68, (kD 4))] [] (zE (uE 4 (hr := by decide)) <| zM <| zZ) ?_
  refine jJ (jW.refl _) ?_
  refine jA <| kx [(69, (vb false))] [] (zE (kR false qY) <| zZ) ?_
  refine jA <| jT ?_
  refine kJ <| jA <| jA <| kx [(102, (vb false))] [] (zM <| zE (kR false xK) <| zM <| zK <| zK <| zK <| zK <| zK <| zK <| zK <| zK <| zK <| zK <| zK <| zK <| zK <| zK <| zK <| zK <| zE zU <| zZ) ?_
  refine jT ?_
  refine jB <| jA <| jA <| kP (wk (l := [(3, (.ref 0 0)), (4, (.ref 1 0)), (5, (.ref 2 0)), (7, (.ref 3 0)), (8, (kD 1)), (102, (vb false))]) (b := [(0, some y2), (1, some (bx (qW (xA.mk w h mx px)))), (2, some y4), (3, some y1)])) ?_
  refine kx [(124, (vb false))] [] (zM <| zE (kR false xK) <| zM <| zK <| zK <| zK <| zK <| zK <| zK <| zK <| zK <| zK <| zK <| zK <| zK <| zK <| zK <| zK <| zK <| zK <| zK <| zE zU <| zZ) ?_
  refine jT ?_
  refine jB <| jA <| jA <| kx [(146, (vb false))] [] (zM <| zE (kR false xK) <| zM <| zK <| zK <| zK <| zK <| zK <| zK <| zK <| zK <| zK <| zK <| zK <| zK <| zK <| zK <| zK <| zK <| zK <| zK <| zE zU <| zZ) ?_
  refine jT ?_
  refine jB <| jA <| kx [(11, (vl 22 1 kO [])), (12, (vi (xT w h mx px z om wx wy vx vy)))] [] (zR (kC dE) <| zE (kE dU) <| zR (qR dX) <| zR (kC bZ) <| zE (kE vH) <| zR (kC fG) <| zE (kE vI) <| zR (kC fG) <| zE (kE yK) <| zR (kC jR) <| zE (kB (q_rsX lx ly lz la lb lc ld lf lu lv rx ry rz ra rb rc rd rf ru rv right w h mx px wx wy vx vy z om hom b0 b1 b2 e00 e01 e02 e10 e11 e12 e20 e21 e22 hF xI xH xJ qE kZ qA qJ qK qI qD qB qC hl hr hup (by omega) hne)) <| zM <| zE vA <| zE vA <| zM <| zM <| zZ) ?_
  refine jA <| jA <| kx [(162, (vb true))] [] (zM <| zE (kR true eS) <| zZ) ?_
  refine jX ?_
  refine jA <| kx [(6, (vb true))] [] (zM <| zM <| zE (kR true xK (by exact beq_iff_eq.2 hk)) <| zM <| zM <| zE (bJ gN 0) <| zE (kR true xK) <| zE yH <| zM <| zZ) ?_
  refine jF ⟨_, (.tmp (d := (.val (.bool (true)))) rfl .nil), ?_⟩
  rfl
 ·refine jB <| jA <| jA <| kx [(53, (vb (true && decide ((xV om) ≤ ((0 : Nat) : Int)))))] [] (zM <| zE (kR true xK (by exact beq_iff_eq.2 hck)) <| zM <| zE (kE yK) <| zR (kC jR) <| zE (kB (bN z om (jY hom (by decide)))) <| zE oLe <| zE oPa <| zZ) ?_
  refine jO rfl (fun h2 => ?_) (fun h2 => ?_)
  ·have hk : (xT w h mx px z om wx wy vx vy) = 2 := cd2 (by rw [hck]; exact h1) (or1 h2)
   refine kx [(8, (kD 2))] [] (zM <| zZ) ?_
   refine jA <| jA <| kx [(66, (vl 3 1 qL [wx, wy, vx, vy])), (67, (kD 4)), (68, (kD 0))] [] (zE (kE vH) <| zE (kE uW) <| zR (qR qP) <| zE (kE vH) <| zE (kE uV) <| zR (qR qP) <| zE (kE vI) <| zE (kE uW) <| zR (qR qP) <| zE (kE vI) <| zE (kE uV) <| zR (qR qP) <| zE (mC uB ze3 zo3) <| zE (bJ uB 4) <| zM <| zZ) ?_
   refine jE <| qF 5 ?_
   refine qU <| jA <| kx [(69, (vb true))] [] (zE (kR true qY) <| zZ) ?_
   refine jA <| jX ?_
   refine jB <| jA <| jE <| jA <| kx [(10, (vi wx))] [] (zE (zS uB 0) <| zE (xN qP) <| zM <| zZ) ?_
   refine jA <| kx [(81, (vb false))] [] (zM <| zE (kR false xK) <| zM <| zK <| zK <| zK <| zK <| zK <| zK <| zE zU <| zZ) ?_
   refine jT ?_
   refine jB <| kx [(68, (kD 1))] [] (zE (uE 1 (hr := by decide)) <| zM <| zZ) ?_
   refine jJ (jW.refl _) ?_
   refine jA <| kP (wk (l := [(3, (.ref 0 0)), (4, (.ref 1 0)), (5, (.ref 2 0)), (7, (.ref 3 0)), (8, (kD 2)), (66, (vl 3 1 qL [wx, wy, vx, vy])), (67, (kD 4)), (68, (kD 1))]) (b := [(0, some y2), (1, some (bx (qW (xA.mk w h mx px)))), (2, some y4), (3, some y1)])) ?_
   refine kx [(69, (vb true))] [] (zE (kR true qY) <| zZ) ?_
   refine jA <| jX ?_
   refine jB <| jA <| jE <| jA <| kx [(10, (vi wy))] [] (zE (zS uB 1) <| zE (xN qP) <| zM <| zZ) ?_
   refine jA <| kx [(81, (vb false))] [] (zM <| zE (kR false xK) <| zM <| zK <| zK <| zK <| zK <| zK <| zK <| zE zU <| zZ) ?_
   refine jT ?_
   refine jB <| kx [(68, (kD 2))] [] (zE (uE 2 (hr := by decide)) <| zM <| zZ) ?_
   refine jJ (jW.refl _) ?_
   refine jA <| kx [(69, (vb true))] [] (zE (kR true qY) <| zZ) ?_
   refine jA <| jX ?_
   refine jB <| jA <| jE <| jA <| kx [(10, (vi vx))] [] (zE (zS uB 2) <| zE (xN qP) <| zM <| zZ) ?_
   refine jA <| kx [(81, (vb false))] [] (zM <| zE (kR false xK) <| zM <| zK <| zK <| zK <| zK <| zK <| zK <| zE zU <| zZ) ?_
   refine jT ?_
   refine jB <| kx [(68, (kD 3))] [] (zE (uE 3 (hr := by decide)) <| zM <| zZ) ?_
   refine jJ (jW.refl _) ?_
   refine jA <| kx [(69, (vb true))] [] (zE (kR true qY) <| zZ) ?_
   refine jA <| jX ?_
   refine jB <| jA <| jE <| jA <| kx [(10, (vi vy))] [] (zE (zS uB 3) <| zE (xN qP) <| zM <| zZ) ?_
   refine jA <| kx [(81, (vb false))] [] (zM <| zE (kR false xK) <| zM <| zK <| zK <| zK <| zK <| zK <| zK <| zE zU <| zZ) ?_
   refine jT ?_
   refine jB <| kx [(68, (kD 4))] [] (zE (uE 4 (hr := by decide)) <| zM <| zZ) ?_
   refine jJ (jW.refl _) ?_
   refine jA <| kx [(69, (vb false))] [] (zE (kR false qY) <| zZ) ?_
   refine jA <| jT ?_
   refine kJ <| jA <| jA <| kx [(102, (vb false))] [] (zM <| zE (kR false xK) <| zM <| zK <| zK <| zK <| zK <| zK <| zK <| zK <| zK <| zK <| zK <| zK <| zK <| zK <| zK <| zK <| zK <| zE zU <| zZ) ?_
   refine jT ?_
   refine jB <| jA <| jA <| kP (wk (l := [(3, (.ref 0 0)), (4, (.ref 1 0)), (5, (.ref 2 0)), (7, (.ref 3 0)), (8, (kD 2)), (102, (vb false))]) (b := [(0, some y2), (1, some (bx (qW (xA.mk w h mx px)))), (2, some y4), (3, some y1)])) ?_
   refine kx [(124, (vb false))] [] (zM <| zE (kR false xK) <| zM <| zK <| zK <| zK <| zK <| zK <| zK <| zK <| zK <| zK <| zK <| zK <| zK <| zK <| zK <| zK <| zK <| zK <| zK <| zE zU <| zZ) ?_
   refine jT ?_
   refine jB <| jA <| jA <| kx [(146, (vb false))] [] (zM <| zE (kR false xK) <| zM <| zK <| zK <| zK <| zK <| zK <| zK <| zK <| zK <| zK <| zK <| zK <| zK <| zK <| zK <| zK <| zK <| zK <| zK <| zE zU <| zZ) ?_
   refine jT ?_
   refine jB <| jA <| kx [(11, (vl 22 1 kO [])), (12, (vi (xT w h mx px z om wx wy vx vy)))] [] (zR (kC dE) <| zE (kE dU) <| zR (qR dX) <| zR (kC bZ) <| zE (kE vH) <| zR (kC fG) <| zE (kE vI) <| zR (kC fG) <| zE (kE yK) <| zR (kC jR) <| zE (kB (q_rsX lx ly lz la lb lc ld lf lu lv rx ry rz ra rb rc rd rf ru rv right w h mx px wx wy vx vy z om hom b0 b1 b2 e00 e01 e02 e10 e11 e12 e20 e21 e22 hF xI xH xJ qE kZ qA qJ qK qI qD qB qC hl hr hup (by omega) hne)) <| zM <| zE vA <| zE vA <| zM <| zM <| zZ) ?_
   refine jA <| jA <| kx [(162, (vb true))] [] (zM <| zE (kR true eS) <| zZ) ?_
   refine jX ?_
   refine jA <| kx [(6, (vb true))] [] (zM <| zM <| zE (kR true xK (by exact beq_iff_eq.2 hk)) <| zM <| zM <| zE (bJ gN 0) <| zE (kR true xK) <| zE yH <| zM <| zZ) ?_
   refine jF ⟨_, (.tmp (d := (.val (.bool (true)))) rfl .nil), ?_⟩
   rfl
  ·refine jB <| jA <| jA <| kx [(66, (vl 3 1 qL [wx, wy, vx, vy])), (67, (kD 4)), (68, (kD 0))] [] (zE (kE vH) <| zE (kE uW) <| zR (qR qP) <| zE (kE vH) <| zE (kE uV) <| zR (qR qP) <| zE (kE vI) <| zE (kE uW) <| zR (qR qP) <| zE (kE vI) <| zE (kE uV) <| zR (qR qP) <| zE (mC uB ze3 zo3) <| zE (bJ uB 4) <| zM <| zZ) ?_
   refine jE <| qF 5 ?_
   refine qU <| jA <| kx [(69, (vb true))] [] (zE (kR true qY) <| zZ) ?_
   refine jA <| jX ?_
   refine jB <| jA <| jE <| jA <| kx [(10, (vi wx))] [] (zE (zS uB 0) <| zE (xN qP) <| zM <| zZ) ?_
   refine jA <| kx [(81, (vb (true && (decide (wx < -1048576) || decide (((1048576 : Nat) : Int) < wx)))))] [] ?_ ?_
   ·refine zM <| zE (kR true xK (by exact beq_iff_eq.2 hck)) <| zM <| zM <| zE qY <| zE (oV (vb (decide (wx < -1048576))) (uS (by kernel_rfl))) <| ?_
    rcases hb3 : (decide (wx < -1048576)) with _ | _
    ·replace hb3 := of_decide_eq_false hb3
     exact zM <| zE yZ <| zE eT <| zE oPa <| zZ
    ·replace hb3 := of_decide_eq_true hb3
     exact zK <| zK <| zE yH <| zE yH <| zZ
   refine jO rfl (fun h4 => ?_) (fun h4 => ?_)
   ·have hk : (xT w h mx px z om wx wy vx vy) = 2 := cd2 (by rw [hck]; exact h1) (or2 h4)
    refine kx [(8, (kD 2))] [] (zM <| zZ) ?_
    refine kx [(68, (kD 1))] [] (zE (uE 1 (hr := by decide)) <| zM <| zZ) ?_
    refine jJ (jW.refl _) ?_
    refine jA <| kP (wk (l := [(3, (.ref 0 0)), (4, (.ref 1 0)), (5, (.ref 2 0)), (7, (.ref 3 0)), (8, (kD 2)), (66, (vl 3 1 qL [wx, wy, vx, vy])), (67, (kD 4)), (68, (kD 1))]) (b := [(0, some y2), (1, some (bx (qW (xA.mk w h mx px)))), (2, some y4), (3, some y1)])) ?_
    refine kx [(69, (vb true))] [] (zE (kR true qY) <| zZ) ?_
    refine jA <| jX ?_
    refine jB <| jA <| jE <| jA <| kx [(10, (vi wy))] [] (zE (zS uB 1) <| zE (xN qP) <| zM <| zZ) ?_
    refine jA <| kx [(81, (vb false))] [] (zM <| zE (kR false xK) <| zM <| zK <| zK <| zK <| zK <| zK <| zK <| zE zU <| zZ) ?_
    refine jT ?_
    refine jB <| kx [(68, (kD 2))] [] (zE (uE 2 (hr := by decide)) <| zM <| zZ) ?_
    refine jJ (jW.refl _) ?_
    refine jA <| kx [(69, (vb true))] [] (zE (kR true qY) <| zZ) ?_
    refine jA <| jX ?_
    refine jB <| jA <| jE <| jA <| kx [(10, (vi vx))] [] (zE (zS uB 2) <| zE (xN qP) <| zM <| zZ) ?_
    refine jA <| kx [(81, (vb false))] [] (zM <| zE (kR false xK) <| zM <| zK <| zK <| zK <| zK <| zK <| zK <| zE zU <| zZ) ?_
    refine jT ?_
    refine jB <| kx [(68, (kD 3))] [] (zE (uE 3 (hr := by decide)) <| zM <| zZ) ?_
    refine jJ (jW.refl _) ?_
    refine jA <| kx [(69, (vb true))] [] (zE (kR true qY) <| zZ) ?_
    refine jA <| jX ?_
    refine jB <| jA <| jE <| jA <| kx [(10, (vi vy))] [] (zE (zS uB 3) <| zE (xN qP) <| zM <| zZ) ?_
    refine jA <| kx [(81, (vb false))] [] (zM <| zE (kR false xK) <| zM <| zK <| zK <| zK <| zK <| zK <| zK <| zE zU <| zZ) ?_
    refine jT ?_
    refine jB <| kx [(68, (kD 4))] [] (zE (uE 4 (hr := by decide)) <| zM <| zZ) ?_
    refine jJ (jW.refl _) ?_
    refine jA <| kx [(69, (vb false))] [] (zE (kR false qY) <| zZ) ?_
    refine jA <| jT ?_
    refine kJ <| jA <| jA <| kx [(102, (vb false))] [] (zM <| zE (kR false xK) <| zM <| zK <| zK <| zK <| zK <| zK <| zK <| zK <| zK <| zK <| zK <| zK <| zK <| zK <| zK <| zK <| zK <| zE zU <| zZ) ?_
    refine jT ?_
    refine jB <| jA <| jA <| kP (wk (l := [(3, (.ref 0 0)), (4, (.ref 1 0)), (5, (.ref 2 0)), (7, (.ref 3 0)), (8, (kD 2)), (102, (vb false))]) (b := [(0, some y2), (1, some (bx (qW (xA.mk w h mx px)))), (2, some y4), (3, some y1)])) ?_
    refine kx [(124, (vb false))] [] (zM <| zE (kR false xK) <| zM <| zK <| zK <| zK <| zK <| zK <| zK <| zK <| zK <| zK <| zK <| zK <| zK <| zK <| zK <| zK <| zK <| zK <| zK <| zE zU <| zZ) ?_
    refine jT ?_
    refine jB <| jA <| jA <| kx [(146, (vb false))] [] (zM <| zE (kR false xK) <| zM <| zK <| zK <| zK <| zK <| zK <| zK <| zK <| zK <| zK <| zK <| zK <| zK <| zK <| zK <| zK <| zK <| zK <| zK <| zE zU <| zZ) ?_
    refine jT ?_
    refine jB <| jA <| kx [(11, (vl 22 1 kO [])), (12, (vi (xT w h mx px z om wx wy vx vy)))] [] (zR (kC dE) <| zE (kE dU) <| zR (qR dX) <| zR (kC bZ) <| zE (kE vH) <| zR (kC fG) <| zE (kE vI) <| zR (kC fG) <| zE (kE yK) <| zR (kC jR) <| zE (kB (q_rsX lx ly lz la lb lc ld lf lu lv rx ry rz ra rb rc rd rf ru rv right w h mx px wx wy vx vy z om hom b0 b1 b2 e00 e01 e02 e10 e11 e12 e20 e21 e22 hF xI xH xJ qE kZ qA qJ qK qI qD qB qC hl hr hup (by omega) hne)) <| zM <| zE vA <| zE vA <| zM <| zM <| zZ) ?_
    refine jA <| jA <| kx [(162, (vb true))] [] (zM <| zE (kR true eS) <| zZ) ?_
    refine jX ?_
    refine jA <| kx [(6, (vb true))] [] (zM <| zM <| zE (kR true xK (by exact beq_iff_eq.2 hk)) <| zM <| zM <| zE (bJ gN 0) <| zE (kR true xK) <| zE yH <| zM <| zZ) ?_
    refine jF ⟨_, (.tmp (d := (.val (.bool (true)))) rfl .nil), ?_⟩
    rfl
   ·refine jB <| kx [(68, (kD 1))] [] (zE (uE 1 (hr := by decide)) <| zM <| zZ) ?_
    refine jJ (jW.refl _) ?_
    refine jA <| kx [(69, (vb true))] [] (zE (kR true qY) <| zZ) ?_
    refine jA <| jX ?_
    refine jB <| jA <| jE <| jA <| kP (wk (l := [(3, (.ref 0 0)), (4, (.ref 1 0)), (5, (.ref 2 0)), (7, (.ref 3 0)), (8, (vi (gM w h mx px))), (66, (vl 3 1 qL [wx, wy, vx, vy])), (67, (kD 4)), (68, (kD 1)), (69, (vb true))]) (b := [(0, some y2), (1, some (bx (qW (xA.mk w h mx px)))), (2, some y4), (3, some y1)])) ?_
    refine kx [(10, (vi wy))] [] (zE (zS uB 1) <| zE (xN qP) <| zM <| zZ) ?_
    refine jA <| kx [(81, (vb (true && (decide (wy < -1048576) || decide (((1048576 : Nat) : Int) < wy)))))] [] ?_ ?_
    ·refine zM <| zE (kR true xK (by exact beq_iff_eq.2 hck)) <| zM <| zM <| zE qY <| zE (oV (vb (decide (wy < -1048576))) (uS (by kernel_rfl))) <| ?_
     rcases hb5 : (decide (wy < -1048576)) with _ | _
     ·replace hb5 := of_decide_eq_false hb5
      exact zM <| zE yZ <| zE eT <| zE oPa <| zZ
     ·replace hb5 := of_decide_eq_true hb5
      exact zK <| zK <| zE yH <| zE yH <| zZ
    refine jO rfl (fun h6 => ?_) (fun h6 => ?_)
    ·have hk : (xT w h mx px z om wx wy vx vy) = 2 := cd2 (by rw [hck]; exact h1) (or3 h6)
     refine kx [(8, (kD 2))] [] (zM <| zZ) ?_
     refine kx [(68, (kD 2))] [] (zE (uE 2 (hr := by decide)) <| zM <| zZ) ?_
     refine jJ (jW.refl _) ?_
     refine jA <| kx [(69, (vb true))] [] (zE (kR true qY) <| zZ) ?_
     refine jA <| jX ?_
     refine jB <| jA <| jE <| jA <| kx [(10, (vi vx))] [] (zE (zS uB 2) <| zE (xN qP) <| zM <| zZ) ?_
     refine jA <| kx [(81, (vb false))] [] (zM <| zE (kR false xK) <| zM <| zK <| zK <| zK <| zK <| zK <| zK <| zE zU <| zZ) ?_
     refine jT ?_
     refine jB <| kx [(68, (kD 3))] [] (zE (uE 3 (hr := by decide)) <| zM <| zZ) ?_
     refine jJ (jW.refl _) ?_
     refine jA <| kx [(69, (vb true))] [] (zE (kR true qY) <| zZ) ?_
     refine jA <| jX ?_
     refine jB <| jA <| jE <| jA <| kx [(10, (vi vy))] [] (zE (zS uB 3) <| zE (xN qP) <| zM <| zZ) ?_
     refine jA <| kx [(81, (vb false))] [] (zM <| zE (kR false xK) <| zM <| zK <| zK <| zK <| zK <| zK <| zK <| zE zU <| zZ) ?_
     refine jT ?_
     refine jB <| kx [(68, (kD 4))] [] (zE (uE 4 (hr := by decide)) <| zM <| zZ) ?_
     refine jJ (jW.refl _) ?_
     refine jA <| kx [(69, (vb false))] [] (zE (kR false qY) <| zZ) ?_
     refine jA <| jT ?_
     refine kJ <| jA <| jA <| kx [(102, (vb false))] [] (zM <| zE (kR false xK) <| zM <| zK <| zK <| zK <| zK <| zK <| zK <| zK <| zK <| zK <| zK <| zK <| zK <| zK <| zK <| zK <| zK <| zE zU <| zZ) ?_
     refine jT ?_
     refine jB <| jA <| jA <| kP (wk (l := [(3, (.ref 0 0)), (4, (.ref 1 0)), (5, (.ref 2 0)), (7, (.ref 3 0)), (8, (kD 2)), (102, (vb false))]) (b := [(0, some y2), (1, some (bx (qW (xA.mk w h mx px)))), (2, some y4), (3, some y1)])) ?_
     refine kx [(124, (vb false))] [] (zM <| zE (kR false xK) <| zM <| zK <| zK <| zK <| zK <| zK <| zK <| zK <| zK <| zK <| zK <| zK <| zK <| zK <| zK <| zK <| zK <| zK <| zK <| zE zU <| zZ) ?_
     refine jT ?_
     refine jB <| jA <| jA <| kx [(146, (vb false))] [] (zM <| zE (kR false xK) <| zM <| zK <| zK <| zK <| zK <| zK <| zK <| zK <| zK <| zK <| zK <| zK <| zK <| zK <| zK <| zK <| zK <| zK <| zK <| zE zU <| zZ) ?_
     refine jT ?_
     refine jB <| jA <| kx [(11, (vl 22 1 kO [])), (12, (vi (xT w h mx px z om wx wy vx vy)))] [] (zR (kC dE) <| zE (kE dU) <| zR (qR dX) <| zR (kC bZ) <| zE (kE vH) <| zR (kC fG) <| zE (kE vI) <| zR (kC fG) <| zE (kE yK) <| zR (kC jR) <| zE (kB (q_rsX lx ly lz la lb lc ld lf lu lv rx ry rz ra rb rc rd rf ru rv right w h mx px wx wy vx vy z om hom b0 b1 b2 e00 e01 e02 e10 e11 e12 e20 e21 e22 hF xI xH xJ qE kZ qA qJ qK qI qD qB qC hl hr hup (by omega) hne)) <| zM <| zE vA <| zE vA <| zM <| zM <| zZ) ?_
     refine jA <| jA <| kx [(162, (vb true))] [] (zM <| zE (kR true eS) <| zZ) ?_
     refine jX ?_
     refine jA <| kx [(6, (vb true))] [] (zM <| zM <| zE (kR true xK (by exact beq_iff_eq.2 hk)) <| zM <| zM <| zE (bJ gN 0) <| zE (kR true xK) <| zE yH <| zM <| zZ) ?_
     refine jF ⟨_, (.tmp (d := (.val (.bool (true)))) rfl .nil), ?_⟩
     rfl
    ·refine jB <| kx [(68, (kD 2))] [] (zE (uE 2 (hr := by decide)) <| zM <| zZ) ?_
     refine jJ (jW.refl _) ?_
     refine jA <| kx [(69, (vb true))] [] (zE (kR true qY) <| zZ) ?_
     refine jA <| jX ?_
     refine jB <| jA <| jE <| jA <| kx [(10, (vi vx))] [] (zE (zS uB 2) <| zE (xN qP) <| zM <| zZ) ?_
     refine jA <| kx [(81, (vb (true && (decide (vx < -1048576) || decide (((1048576 : Nat) : Int) < vx)))))] [] ?_ ?_
     ·refine zM <| zE (kR true xK (by exact beq_iff_eq.2 hck)) <| zM <| zM <| zE qY <| zE (oV (vb (decide (vx < -1048576))) (uS (by kernel_rfl))) <| ?_
      rcases hb7 : (decide (vx < -1048576)) with _ | _
      ·replace hb7 := of_decide_eq_false hb7
       exact zM <| zE yZ <| zE eT <| zE oPa <| zZ
      ·replace hb7 := of_decide_eq_true hb7
       exact zK <| zK <| zE yH <| zE yH <| zZ
     refine jO rfl (fun h8 => ?_) (fun h8 => ?_)
     ·have hk : (xT w h mx px z om wx wy vx vy) = 2 := cd2 (by rw [hck]; exact h1) (or4 h8)
      refine kx [(8, (kD 2))] [] (zM <| zZ) ?_
      refine kx [(68, (kD 3))] [] (zE (uE 3 (hr := by decide)) <| zM <| zZ) ?_
      refine jJ (jW.refl _) ?_
      refine jA <| kx [(69, (vb true))] [] (zE (kR true qY) <| zZ) ?_
      refine jA <| jX ?_
      refine jB <| jA <| jE <| jA <| kx [(10, (vi vy))] [] (zE (zS uB 3) <| zE (xN qP) <| zM <| zZ) ?_
      refine jA <| kx [(81, (vb false))] [] (zM <| zE (kR false xK) <| zM <| zK <| zK <| zK <| zK <| zK <| zK <| zE zU <| zZ) ?_
      refine jT ?_
      refine jB <| kx [(68, (kD 4))] [] (zE (uE 4 (hr := by decide)) <| zM <| zZ) ?_
      refine jJ (jW.refl _) ?_
      refine jA <| kx [(69, (vb false))] [] (zE (kR false qY) <| zZ) ?_
      refine jA <| jT ?_
      refine kJ <| jA <| jA <| kx [(102, (vb false))] [] (zM <| zE (kR false xK) <| zM <| zK <| zK <| zK <| zK <| zK <| zK <| zK <| zK <| zK <| zK <| zK <| zK <| zK <| zK <| zK <| zK <| zE zU <| zZ) ?_
      refine jT ?_
      refine jB <| jA <| jA <| kP (wk (l := [(3, (.ref 0 0)), (4, (.ref 1 0)), (5, (.ref 2 0)), (7, (.ref 3 0)), (8, (kD 2)), (102, (vb false))]) (b := [(0, some y2), (1, some (bx (qW (xA.mk w h mx px)))), (2, some y4), (3, some y1)])) ?_
      refine kx [(124, (vb false))] [] (zM <| zE (kR false xK) <| zM <| zK <| zK <| zK <| zK <| zK <| zK <| zK <| zK <| zK <| zK <| zK <| zK <| zK <| zK <| zK <| zK <| zK <| zK <| zE zU <| zZ) ?_
      refine jT ?_
      refine jB <| jA <| jA <| kx [(146, (vb false))] [] (zM <| zE (kR false xK) <| zM <| zK <| zK <| zK <| zK <| zK <| zK <| zK <| zK <| zK <| zK <| zK <| zK <| zK <| zK <| zK <| zK <| zK <| zK <| zE zU <| zZ) ?_
      refine jT ?_
      refine jB <| jA <| kx [(11, (vl 22 1 kO [])), (12, (vi (xT w h mx px z om wx wy vx vy)))] [] (zR (kC dE) <| zE (kE dU) <| zR (qR dX) <| zR (kC bZ) <| zE (kE vH) <| zR (kC fG) <| zE (kE vI) <| zR (kC fG) <| zE (kE yK) <| zR (kC jR) <| zE (kB (q_rsX lx ly lz la lb lc ld lf lu lv rx ry rz ra rb rc rd rf ru rv right w h mx px wx wy vx vy z om hom b0 b1 b2 e00 e01 e02 e10 e11 e12 e20 e21 e22 hF xI xH xJ qE kZ qA qJ qK qI qD qB qC hl hr hup (by omega) hne)) <| zM <| zE vA <| zE vA <| zM <| zM <| zZ) ?_
      refine jA <| jA <| kx [(162, (vb true))] [] (zM <| zE (kR true eS) <| zZ) ?_
      refine jX ?_
      refine jA <| kx [(6, (vb true))] [] (zM <| zM <| zE (kR true xK (by exact beq_iff_eq.2 hk)) <| zM <| zM <| zE (bJ gN 0) <| zE (kR true xK) <| zE yH <| zM <| zZ) ?_
      refine jF ⟨_, (.tmp (d := (.val (.bool (true)))) rfl .nil), ?_⟩
      rfl
     ·refine jB <| kx [(68, (kD 3))] [] (zE (uE 3 (hr := by decide)) <| zM <| zZ) ?_
      refine jJ (jW.refl _) ?_
      refine jA <| kx [(69, (vb true))] [] (zE (kR true qY) <| zZ) ?_
      refine jA <| jX ?_
      refine jB <| jA <| jE <| jA <| kx [(10, (vi vy))] [] (zE (zS uB 3) <| zE (xN qP) <| zM <| zZ) ?_
      refine jA <| kx [(81, (vb (true && (decide (vy < -1048576) || decide (((1048576 : Nat) : Int) < vy)))))] [] ?_ ?_
      ·refine zM <| zE (kR true xK (by exact beq_iff_eq.2 hck)) <| zM <| zM <| zE qY <| zE (oV (vb (decide (vy < -1048576))) (uS (by kernel_rfl))) <| ?_
       rcases hb9 : (decide (vy < -1048576)) with _ | _
       ·replace hb9 := of_decide_eq_false hb9
        exact zM <| zE yZ <| zE eT <| zE oPa <| zZ
       ·replace hb9 := of_decide_eq_true hb9
        exact zK <| zK <| zE yH <| zE yH <| zZ
      refine jO rfl (fun h10 => ?_) (fun h10 => ?_)
      ·have hk : (xT w h mx px z om wx wy vx vy) = 2 := cd2 (by rw [hck]; exact h1) (or5 h10)
       refine kx [(8, (kD 2))] [] (zM <| zZ) ?_
       refine kx [(68, (kD 4))] [] (zE (uE 4 (hr := by decide)) <| zM <| zZ) ?_
       refine jJ (jW.refl _) ?_
       refine jA <| kx [(69, (vb false))] [] (zE (kR false qY) <| zZ) ?_
       refine jA <| jT ?_
       refine kJ <| jA <| jA <| kx [(102, (vb false))] [] (zM <| zE (kR false xK) <| zM <| zK <| zK <| zK <| zK <| zK <| zK <| zK <| zK <| zK <| zK <| zK <| zK <| zK <| zK <| zK <| zK <| zE zU <| zZ) ?_
       refine jT ?_
       refine jB <| jA <| jA <| kP (wk (l := [(3, (.ref 0 0)), (4, (.ref 1 0)), (5, (.ref 2 0)), (7, (.ref 3 0)), (8, (kD 2)), (102, (vb false))]) (b := [(0, some y2), (1, some (bx (qW (xA.mk w h mx px)))), (2, some y4), (3, some y1)])) ?_
       refine kx [(124, (vb false))] [] (zM <| zE (kR false xK) <| zM <| zK <| zK <| zK <| zK <| zK <| zK <| zK <| zK <| zK <| zK <| zK <| zK <| zK <| zK <| zK <| zK <| zK <| zK <| zE zU <| zZ) ?_
       refine jT ?_
       refine jB <| jA <| jA <| kx [(146, (vb false))] [] (zM <| zE (kR false xK) <| zM <| zK <| zK <| zK <| zK <| zK <| zK <| zK <| zK <| zK <| zK <| zK <| zK <| zK <| zK <| zK <| zK <| zK <| zK <| zE zU <| zZ) ?_
       refine jT ?_
       refine jB <| jA <| kx [(11, (vl 22 1 kO [])), (12, (vi (xT w h mx px z om wx wy vx vy)))] [] (zR (kC dE) <| zE (kE dU) <| zR (qR dX) <| zR (kC bZ) <| zE (kE vH) <| zR (kC fG) <| zE (kE vI) <| zR (kC fG) <| zE (kE yK) <| zR (kC jR) <| zE (kB (q_rsX lx ly lz la lb lc ld lf lu lv rx ry rz ra rb rc rd rf ru rv right w h mx px wx wy vx vy z om hom b0 b1 b2 e00 e01 e02 e10 e11 e12 e20 e21 e22 hF xI xH xJ qE kZ qA qJ qK qI qD qB qC hl hr hup (by omega) hne)) <| zM <| zE vA <| zE vA <| zM <| zM <| zZ) ?_
       refine jA <| jA <| kx [(162, (vb true))] [] (zM <| zE (kR true eS) <| zZ) ?_
       refine jX ?_
       refine jA <| kx [(6, (vb true))] [] (zM <| zM <| zE (kR true xK (by exact beq_iff_eq.2 hk)) <| zM <| zM <| zE (bJ gN 0) <| zE (kR true xK) <| zE yH <| zM <| zZ) ?_
       refine jF ⟨_, (.tmp (d := (.val (.bool (true)))) rfl .nil), ?_⟩
       rfl
      ·refine jB <| kx [(68, (kD 4))] [] (zE (uE 4 (hr := by decide)) <| zM <| zZ) ?_
       refine jJ (jW.refl _) ?_
       refine jA <| kx [(69, (vb false))] [] (zE (kR false qY) <| zZ) ?_
       refine jA <| jT ?_
       refine kJ <| jA <| jA <| kx [(102, (vb (true && (decide (vx < wx) || decide (vy < wy)))))] [] ?_ ?_
       ·refine zM <| zE (kR true xK (by exact beq_iff_eq.2 hck)) <| zM <| zE (kE vH) <| zE (kE uW) <| zR (qR qP) <| zE (kE vI) <| zE (kE uW) <| zR (qR qP) <| zE yZ <| zE (oV (vb (decide (vx < wx))) (uS (by kernel_rfl))) <| ?_
        rcases hb11 : (decide (vx < wx)) with _ | _
        ·replace hb11 := of_decide_eq_false hb11
         exact zE (kE vH) <| zE (kE uV) <| zR (qR qP) <| zE (kE vI) <| zE (kE uV) <| zR (qR qP) <| zE yZ <| zE eT <| zE oPa <| zZ
        ·replace hb11 := of_decide_eq_true hb11
         exact zK <| zK <| zK <| zK <| zK <| zK <| zK <| zE yH <| zE yH <| zZ
       refine jO rfl (fun h12 => ?_) (fun h12 => ?_)
       ·have hk : (xT w h mx px z om wx wy vx vy) = 2 := cd2 (by rw [hck]; exact h1) (or6 h12)
        refine kx [(8, (kD 2))] [] (zM <| zZ) ?_
        refine jA <| jA <| kP (wk (l := [(3, (.ref 0 0)), (4, (.ref 1 0)), (5, (.ref 2 0)), (7, (.ref 3 0)), (8, (kD 2))]) (b := [(0, some y2), (1, some (bx (qW (xA.mk w h mx px)))), (2, some y4), (3, some y1)])) ?_
        refine kx [(124, (vb false))] [] (zM <| zE (kR false xK) <| zM <| zK <| zK <| zK <| zK <| zK <| zK <| zK <| zK <| zK <| zK <| zK <| zK <| zK <| zK <| zK <| zK <| zK <| zK <| zE zU <| zZ) ?_
        refine jT ?_
        refine jB <| jA <| jA <| kx [(146, (vb false))] [] (zM <| zE (kR false xK) <| zM <| zK <| zK <| zK <| zK <| zK <| zK <| zK <| zK <| zK <| zK <| zK <| zK <| zK <| zK <| zK <| zK <| zK <| zK <| zE zU <| zZ) ?_
        refine jT ?_
        refine jB <| jA <| kx [(11, (vl 22 1 kO [])), (12, (vi (xT w h mx px z om wx wy vx vy)))] [] (zR (kC dE) <| zE (kE dU) <| zR (qR dX) <| zR (kC bZ) <| zE (kE vH) <| zR (kC fG) <| zE (kE vI) <| zR (kC fG) <| zE (kE yK) <| zR (kC jR) <| zE (kB (q_rsX lx ly lz la lb lc ld lf lu lv rx ry rz ra rb rc rd rf ru rv right w h mx px wx wy vx vy z om hom b0 b1 b2 e00 e01 e02 e10 e11 e12 e20 e21 e22 hF xI xH xJ qE kZ qA qJ qK qI qD qB qC hl hr hup (by omega) hne)) <| zM <| zE vA <| zE vA <| zM <| zM <| zZ) ?_
        refine jA <| jA <| kx [(162, (vb true))] [] (zM <| zE (kR true eS) <| zZ) ?_
        refine jX ?_
        refine jA <| kx [(6, (vb true))] [] (zM <| zM <| zE (kR true xK (by exact beq_iff_eq.2 hk)) <| zM <| zM <| zE (bJ gN 0) <| zE (kR true xK) <| zE yH <| zM <| zZ) ?_
        refine jF ⟨_, (.tmp (d := (.val (.bool (true)))) rfl .nil), ?_⟩
        rfl
       ·have rg3 := rng_of h4
        have rg4 := rng_of h6
        have rg5 := rng_of h8
        have rg6 := rng_of h10
        refine jB <| jA <| jA <| kx [(124, (vb (true && (decide (((64 : Nat) : Int) ≤ (vx - wx)) || decide (((64 : Nat) : Int) ≤ (vy - wy))))))] [] ?_ ?_
        ·refine zM <| zE (kR true xK (by exact beq_iff_eq.2 hck)) <| zM <| zE (kE vI) <| zE (kE uW) <| zR (qR qP) <| zE (kE vH) <| zE (kE uW) <| zR (qR qP) <| zE (cR (vx - wx) (hr := by exact (qO rfl (by simp only [vP]; omega) (by simp only [vS]; omega)))) <| zE oGe <| zE (oV (vb (decide (((64 : Nat) : Int) ≤ (vx - wx)))) (uS (by kernel_rfl))) <| ?_
         rcases hb13 : (decide (((64 : Nat) : Int) ≤ (vx - wx))) with _ | _
         ·replace hb13 := of_decide_eq_false hb13
          exact zE (kE vI) <| zE (kE uV) <| zR (qR qP) <| zE (kE vH) <| zE (kE uV) <| zR (qR qP) <| zE (cR (vy - wy) (hr := by exact (qO rfl (by simp only [vP]; omega) (by simp only [vS]; omega)))) <| zE oGe <| zE eT <| zE oPa <| zZ
         ·replace hb13 := of_decide_eq_true hb13
          exact zK <| zK <| zK <| zK <| zK <| zK <| zK <| zK <| zE yH <| zE yH <| zZ
        refine jO rfl (fun h14 => ?_) (fun h14 => ?_)
        ·have hk : (xT w h mx px z om wx wy vx vy) = 3 := cd3 (by rw [hck]; exact h1) (or0 h2 h4 h6 h8 h10 h12) h14
         refine kP (wk (l := [(3, (.ref 0 0)), (4, (.ref 1 0)), (5, (.ref 2 0)), (7, (.ref 3 0)), (8, (vi (gM w h mx px))), (124, (vb (true && (decide (((64 : Nat) : Int) ≤ (vx - wx)) || decide (((64 : Nat) : Int) ≤ (vy - wy))))))]) (b := [(0, some y2), (1, some (bx (qW (xA.mk w h mx px)))), (2, some y4), (3, some y1)])) ?_
         refine kx [(8, (kD 3))] [] (zM <| zZ) ?_
         refine jA <| jA <| kx [(146, (vb false))] [] (zM <| zE (kR false xK) <| zM <| zK <| zK <| zK <| zK <| zK <| zK <| zK <| zK <| zK <| zK <| zK <| zK <| zK <| zK <| zK <| zK <| zK <| zK <| zE zU <| zZ) ?_
         refine jT ?_
         refine jB <| jA <| kx [(11, (vl 22 1 kO [])), (12, (vi (xT w h mx px z om wx wy vx vy)))] [] (zR (kC dE) <| zE (kE dU) <| zR (qR dX) <| zR (kC bZ) <| zE (kE vH) <| zR (kC fG) <| zE (kE vI) <| zR (kC fG) <| zE (kE yK) <| zR (kC jR) <| zE (kB (q_rsX lx ly lz la lb lc ld lf lu lv rx ry rz ra rb rc rd rf ru rv right w h mx px wx wy vx vy z om hom b0 b1 b2 e00 e01 e02 e10 e11 e12 e20 e21 e22 hF xI xH xJ qE kZ qA qJ qK qI qD qB qC hl hr hup (by omega) hne)) <| zM <| zE vA <| zE vA <| zM <| zM <| zZ) ?_
         refine jA <| jA <| kx [(162, (vb true))] [] (zM <| zE (kR true eS) <| zZ) ?_
         refine jX ?_
         refine jA <| kx [(6, (vb true))] [] (zM <| zM <| zE (kR true xK (by exact beq_iff_eq.2 hk)) <| zM <| zM <| zE (bJ gN 0) <| zE (kR true xK) <| zE yH <| zM <| zZ) ?_
         refine jF ⟨_, (.tmp (d := (.val (.bool (true)))) rfl .nil), ?_⟩
         rfl
        ·exact (hne (cd0 (by rw [hck]; exact h1) (or0 h2 h4 h6 h8 h10 h12) h14)).elim
theorem w_rsB (lx ly lz la lb lc ld lf lu lv rx ry rz ra rb rc rd rf ru rv : Int) (w h : Nat) (mx : Int) (px : List Int) (right : Bool) (wx wy : Int) (vx vy : Int) (om : Rat) (hom : QL om 8) (b0 b1 b2 e00 e01 e02 e10 e11 e12 e20 e21 e22 : Rat) (hF : RFr lx ly lz la lb lc ld rx ry rz ra rb rc rd b0 b1 b2 e00 e01 e02 e10 e11 e12 e20 e21 e22) (xI : QL b0 3) (xH : QL b1 3) (xJ : QL b2 3) (qE : QL e00 400) (kZ : QL e01 400) (qA : QL e02 400) (qJ : QL e10 400) (qK : QL e11 400) (qI : QL e12 400) (qD : QL e20 400) (qB : QL e21 400) (qC : QL e22 400) (hl : uQ lx ly lz lu lv lf la lb lc ld = 0) (hr : uQ rx ry rz ru rv rf ra rb rc rd = 0) (hup : upV la lb lc ld ra rb rc rd b0 b1 b2 = false) (hpx : ¬ 100 < px.length) (hdg : ¬ ((8 : Nat) : Int) < (((digR (jD om)) : Nat) : Int)) (hck : gM ((w : Nat) : Int) ((h : Nat) : Int) mx px = 0) (hs : ¬ (xV om) ≤ 0) (hwwx : -1048576 ≤ wx ∧ wx ≤ 1048576) (hwwy : -1048576 ≤ wy ∧ wy ≤ 1048576) (hwvx : -1048576 ≤ vx ∧ vx ≤ 1048576) (hwvy : -1048576 ≤ vy ∧ vy ≤ 1048576) (hodx : wx ≤ vx) (hody : wy ≤ vy) (hlmx : vx - wx ≤ 63) (hlmy : vy - wy ≤ 63) (hcn : 100 < (((vx - wx) + 1) * ((vy - wy) + 1))) : kH Tryz.prog 8 [(qQ (kT.mk (kG.mk (jQ.mk lx ly lz) (jL.mk la lb lc ld) lf (jU.mk lu lv)) (kG.mk (jQ.mk rx ry rz) (jL.mk ra rb rc rd) rf (jU.mk ru rv)))), (qW (xA.mk ((w : Nat) : Int) ((h : Nat) : Int) mx px)), (gV (eO.mk right (jU.mk wx wy) (jU.mk vx vy) (jD om)))] (.val (.bool (true))) := by
 have hbl := vU hl
 have hbr := vU hr
 obtain ⟨hlx, hly, hlz, hlu, hlv, hlf, hlq⟩ := hbl
 obtain ⟨hrx, hry, hrz, hru, hrv, hrf, hrq⟩ := hbr
 obtain ⟨hla, hlb, hlc, hld, -⟩ := vQ hlq
 obtain ⟨hra, hrb, hrc, hrd, -⟩ := vQ hrq
 have hnl := gX hla hlb hlc hld
 have hnr := gX hra hrb hrc hrd
 have hz0 := fr_z0 hF hup
 have hz1 := fr_z1 hF hup
 have hz2 := fr_z2 hF hup
 let y5 := (qW (xA.mk ((w : Nat) : Int) ((h : Nat) : Int) mx px))
 let y4 := (gV (eO.mk right (jU.mk wx wy) (jU.mk vx vy) (jD om)))
 let y3 := (qQ (kT.mk (kG.mk (jQ.mk lx ly lz) (jL.mk la lb lc ld) lf (jU.mk lu lv)) (kG.mk (jQ.mk rx ry rz) (jL.mk ra rb rc rd) rf (jU.mk ru rv))))
 let y2 := (bx y3)
 let y1 := (bx (yU (RLp.mk (kT.mk (kG.mk (jQ.mk lx ly lz) (jL.mk la lb lc ld) lf (jU.mk lu lv)) (kG.mk (jQ.mk rx ry rz) (jL.mk ra rb rc rd) rf (jU.mk ru rv))) (A3.mk (jD b0) (jD b1) (jD b2)) (A3.mk (A3.mk (jD e00) (jD e01) (jD e02)) (A3.mk (jD e10) (jD e11) (jD e12)) (A3.mk (jD e20) (jD e21) (jD e22))))))
 refine jM Tryz.func8 rfl cb8 rfl ?_
 show uY _ _ _ _ ⟨[(0, (.d y3)), (1, (.d y5)), (2, (.d y4))], []⟩
 refine jA <| kx [(3, (.ref 0 0)), (4, (.ref 1 0)), (5, (.ref 2 0))] [(0, some y2), (1, some (bx y5)), (2, some (bx y4))] (zN (vD 0) <| zN (vD 1) <| zN (vD 2) <| zM <| zZ) ?_
 refine jA <| jA <| kx [(18, (vb false))] [] (zE (kB eL) <| zE oNt <| zZ) ?_
 refine jT ?_
 refine jB <| jA <| jA <| kx [(28, (vb false))] [] (zE (kE mT) <| zR (qR dK) <| zE (nE uB) <| zE (kR false yZ (by exact decide_eq_false (show ¬ 100 < ((px.length : Nat) : Int) by omega))) <| zM <| zE (kE yK) <| zR (kC jR) <| zE (kB (fY (jD om) om (jY (kA hom) (by decide)))) <| zE (kR false yZ (by exact decide_eq_false hdg)) <| zE zU <| zZ) ?_
 refine jT ?_
 refine jB <| jA <| kx [(7, (.ref 3 0)), (8, (vi 0))] [(3, some y1)] (zR (kC dE) <| zE (kB (qs_pre lx ly lz la lb lc ld lf lu lv rx ry rz ra rb rc rd rf ru rv b0 b1 b2 e00 e01 e02 e10 e11 e12 e20 e21 e22 hF xI xH xJ qE kZ qA qJ qK qI qD qB qC hl hr hup)) <| zM <| zE vA <| zE vA <| zN (uK 3 fN fM) <| zT (qG nP) <| zM <| zZ) ?_
 refine jA <| jA <| kx [(35, (vb true))] [] (zM <| zE (kR true xK) <| zZ) ?_
 refine jX ?_
 refine kx [(8, (vi (gM ((w : Nat) : Int) ((h : Nat) : Int) mx px)))] [] (zR (kC bZ) <| zE (kB (p_rchk ((w : Nat) : Int) ((h : Nat) : Int) mx px (by omega))) <| zM <| zZ) ?_
 refine jA <| jA <| kx [(45, (vb false))] [] (zM <| zE (kR true xK (by exact beq_iff_eq.2 hck)) <| zM <| zE (kE yK) <| zR (kC jR) <| zE (kR true (kB (g_valid (jD om) om (jY (kA hom) (by decide)))) (by exact (fX om))) <| zE oNt <| zE yH <| zZ) ?_
 refine jT ?_
 refine jB <| jA <| jA <| kx [(53, (vb false))] [] (zM <| zE (kR true xK (by exact beq_iff_eq.2 hck)) <| zM <| zE (kE yK) <| zR (kC jR) <| zE (kB (bN (jD om) om (jY (kA hom) (by decide)))) <| zE (kR false oLe (by exact decide_eq_false hs)) <| zE yH <| zZ) ?_
 refine jT ?_
 refine jB <| jA <| jA <| kx [(66, (vl 3 1 qL [wx, wy, vx, vy])), (67, (kD 4)), (68, (kD 0))] [] (zE (kE vH) <| zE (kE uW) <| zR (qR qP) <| zE (kE vH) <| zE (kE uV) <| zR (qR qP) <| zE (kE vI) <| zE (kE uW) <| zR (qR qP) <| zE (kE vI) <| zE (kE uV) <| zR (qR qP) <| zE (mC uB ze3 zo3) <| zE (bJ uB 4) <| zM <| zZ) ?_
 refine jE <| qF 5 ?_
 refine qU <| jA <| kx [(69, (vb true))] [] (zE (kR true qY) <| zZ) ?_
 refine jA <| jX ?_
 refine jB <| jA <| jE <| jA <| kx [(10, (vi wx))] [] (zE (zS uB 0) <| zE (xN qP) <| zM <| zZ) ?_
 refine jA <| kx [(81, (vb false))] [] (zM <| zE (kR true xK (by exact beq_iff_eq.2 hck)) <| zM <| zM <| zE (kR false qY (by exact decide_eq_false (by omega))) <| zM <| zM <| zE (kR false yZ (by exact decide_eq_false (by omega))) <| zE zU <| zE yH <| zZ) ?_
 refine jT ?_
 refine jB <| kx [(68, (kD 1))] [] (zE (uE 1 (hr := by decide)) <| zM <| zZ) ?_
 refine jJ (jW.refl _) ?_
 refine jA <| kx [(69, (vb true))] [] (zE (kR true qY) <| zZ) ?_
 refine jA <| jX ?_
 refine jB <| jA <| jE <| jA <| kP (wk (l := [(3, (.ref 0 0)), (4, (.ref 1 0)), (5, (.ref 2 0)), (7, (.ref 3 0)), (8, (vi (gM ((w : Nat) : Int) ((h : Nat) : Int) mx px))), (66, (vl 3 1 qL [wx, wy, vx, vy])), (67, (kD 4)), (68, (kD 1)), (69, (vb true))]) (b := [(0, some y2), (1, some (bx y5)), (2, some (bx y4)), (3, some y1)])) ?_
 refine kx [(10, (vi wy))] [] (zE (zS uB 1) <| zE (xN qP) <| zM <| zZ) ?_
 refine jA <| kx [(81, (vb false))] [] (zM <| zE (kR true xK (by exact beq_iff_eq.2 hck)) <| zM <| zM <| zE (kR false qY (by exact decide_eq_false (by omega))) <| zM <| zM <| zE (kR false yZ (by exact decide_eq_false (by omega))) <| zE zU <| zE yH <| zZ) ?_
 refine jT ?_
 refine jB <| kx [(68, (kD 2))] [] (zE (uE 2 (hr := by decide)) <| zM <| zZ) ?_
 refine jJ (jW.refl _) ?_
 refine jA <| kx [(69, (vb true))] [] (zE (kR true qY) <| zZ) ?_
 refine jA <| jX ?_
 refine jB <| jA <| jE <| jA <| kx [(10, (vi vx))] [] (zE (zS uB 2) <| zE (xN qP) <| zM <| zZ) ?_
 refine jA <| kx [(81, (vb false))] [] (zM <| zE (kR true xK (by exact beq_iff_eq.2 hck)) <| zM <| zM <| zE (kR false qY (by exact decide_eq_false (by omega))) <| zM <| zM <| zE (kR false yZ (by exact decide_eq_false (by omega))) <| zE zU <| zE yH <| zZ) ?_
 refine jT ?_
 refine jB <| kx [(68, (kD 3))] [] (zE (uE 3 (hr := by decide)) <| zM <| zZ) ?_
 refine jJ (jW.refl _) ?_
 refine jA <| kx [(69, (vb true))] [] (zE (kR true qY) <| zZ) ?_
 refine jA <| jX ?_
 refine jB <| jA <| jE <| jA <| kx [(10, (vi vy))] [] (zE (zS uB 3) <| zE (xN qP) <| zM <| zZ) ?_
 refine jA <| kx [(81, (vb false))] [] (zM <| zE (kR true xK (by exact beq_iff_eq.2 hck)) <| zM <| zM <| zE (kR false qY (by exact decide_eq_false (by omega))) <| zM <| zM <| zE (kR false yZ (by exact decide_eq_false (by omega))) <| zE zU <| zE yH <| zZ) ?_
 refine jT ?_
 refine jB <| kx [(68, (kD 4))] [] (zE (uE 4 (hr := by decide)) <| zM <| zZ) ?_
 refine jJ (jW.refl _) ?_
 refine jA <| kx [(69, (vb false))] [] (zE (kR false qY) <| zZ) ?_
 refine jA <| jT ?_
 refine kJ <| jA <| jA <| kx [(102, (vb false))] [] (zM <| zE (kR true xK (by exact beq_iff_eq.2 hck)) <| zM <| zE (kE vH) <| zE (kE uW) <| zR (qR qP) <| zE (kE vI) <| zE (kE uW) <| zR (qR qP) <| zE (kR false yZ (by exact decide_eq_false (show ¬ vx < wx by omega))) <| zM <| zE (kE vH) <| zE (kE uV) <| zR (qR qP) <| zE (kE vI) <| zE (kE uV) <| zR (qR qP) <| zE (kR false yZ (by exact decide_eq_false (show ¬ vy < wy by omega))) <| zE zU <| zE yH <| zZ) ?_
 refine jT ?_
 refine jB <| jA <| jA <| kx [(124, (vb false))] [] (zM <| zE (kR true xK (by exact beq_iff_eq.2 hck)) <| zM <| zE (kE vI) <| zE (kE uW) <| zR (qR qP) <| zE (kE vH) <| zE (kE uW) <| zR (qR qP) <| zE (cR (vx - wx) (hr := by exact (qO rfl (by simp only [vP]; omega) (by simp only [vS]; omega)))) <| zE (kR false oGe (by exact decide_eq_false (show ¬ 64 ≤ (vx - wx) by omega))) <| zM <| zE (kE vI) <| zE (kE uV) <| zR (qR qP) <| zE (kE vH) <| zE (kE uV) <| zR (qR qP) <| zE (cR (vy - wy) (hr := by exact (qO rfl (by simp only [vP]; omega) (by simp only [vS]; omega)))) <| zE (kR false oGe (by exact decide_eq_false (show ¬ 64 ≤ (vy - wy) by omega))) <| zE zU <| zE yH <| zZ) ?_
 refine jT ?_
 refine jB <| jA <| jA <| kP (wk (l := [(3, (.ref 0 0)), (4, (.ref 1 0)), (5, (.ref 2 0)), (7, (.ref 3 0)), (8, (vi (gM ((w : Nat) : Int) ((h : Nat) : Int) mx px))), (124, (vb false))]) (b := [(0, some y2), (1, some (bx y5)), (2, some (bx y4)), (3, some y1)])) ?_
 refine kx [(146, (vb true))] [] (zM <| zE (kR true xK (by exact beq_iff_eq.2 hck)) <| zM <| zE (kE vI) <| zE (kE uW) <| zR (qR qP) <| zE (kE vH) <| zE (kE uW) <| zR (qR qP) <| zE (cR (vx - wx) (hr := by exact (qO rfl (by simp only [vP]; omega) (by simp only [vS]; omega)))) <| zE (zAd ((vx - wx) + ((1 : Nat) : Int)) (hr := by exact (qO rfl (by simp only [vP]; omega) (by simp only [vS]; omega)))) <| zE (kE vI) <| zE (kE uV) <| zR (qR qP) <| zE (kE vH) <| zE (kE uV) <| zR (qR qP) <| zE (cR (vy - wy) (hr := by exact (qO rfl (by simp only [vP]; omega) (by simp only [vS]; omega)))) <| zE (zAd ((vy - wy) + ((1 : Nat) : Int)) (hr := by exact (qO rfl (by simp only [vP]; omega) (by simp only [vS]; omega)))) <| zE (nJ (((vx - wx) + ((1 : Nat) : Int)) * ((vy - wy) + ((1 : Nat) : Int))) (hr := by exact (qO (r := (((vx - wx) + 1) * ((vy - wy) + 1))) rfl (by have hq := mul64 (a := vx - wx + 1) (b := vy - wy + 1) (by omega) (by omega) (by omega) (by omega); simp only [vP]; omega) (by have hq := mul64 (a := vx - wx + 1) (b := vy - wy + 1) (by omega) (by omega) (by omega) (by omega); simp only [vS]; omega)))) <| zE (kR true yZ (by exact decide_eq_true hcn)) <| zE yH <| zZ) ?_
 refine jX ?_
 refine jA <| kx [(6, (vb true))] [] (zM <| zZ) ?_
 refine jF ⟨_, (.tmp (d := (.val (.bool (true)))) rfl .nil), ?_⟩
 rfl
theorem w_rs (lx ly lz la lb lc ld lf lu lv rx ry rz ra rb rc rd rf ru rv : Int) (w h : Nat) (mx : Int) (px : List Int) (right : Bool) (wx wy : Int) (vx vy : Int) (om : Rat) (hom : QL om 8) (b0 b1 b2 e00 e01 e02 e10 e11 e12 e20 e21 e22 : Rat) (hF : RFr lx ly lz la lb lc ld rx ry rz ra rb rc rd b0 b1 b2 e00 e01 e02 e10 e11 e12 e20 e21 e22) (xI : QL b0 3) (xH : QL b1 3) (xJ : QL b2 3) (qE : QL e00 400) (kZ : QL e01 400) (qA : QL e02 400) (qJ : QL e10 400) (qK : QL e11 400) (qI : QL e12 400) (qD : QL e20 400) (qB : QL e21 400) (qC : QL e22 400) (tx ty tz ta tb tc td tf tu tv : Int) (hl : uQ lx ly lz lu lv lf la lb lc ld = 0) (hr : uQ rx ry rz ru rv rf ra rb rc rd = 0) (hup : upV la lb lc ld ra rb rc rd b0 b1 b2 = false) (hsd : (bif right then (kG.mk (jQ.mk rx ry rz) (jL.mk ra rb rc rd) rf (jU.mk ru rv)) else (kG.mk (jQ.mk lx ly lz) (jL.mk la lb lc ld) lf (jU.mk lu lv))) = (kG.mk (jQ.mk tx ty tz) (jL.mk ta tb tc td) tf (jU.mk tu tv))) (hst : uQ tx ty tz tu tv tf ta tb tc td = 0) (hpx : ¬ 100 < px.length) (hdg : ¬ ((8 : Nat) : Int) < (((digR (jD om)) : Nat) : Int)) (hck : gM ((w : Nat) : Int) ((h : Nat) : Int) mx px = 0) (hv : RstOk w h px) (hs : ¬ (xV om) ≤ 0) (hwwx : -1048576 ≤ wx ∧ wx ≤ 1048576) (hwwy : -1048576 ≤ wy ∧ wy ≤ 1048576) (hwvx : -1048576 ≤ vx ∧ vx ≤ 1048576) (hwvy : -1048576 ≤ vy ∧ vy ≤ 1048576) (hodx : wx ≤ vx) (hody : wy ≤ vy) (hlmx : vx - wx ≤ 63) (hlmy : vy - wy ≤ 63) (hcn : ¬ 100 < (((vx - wx) + 1) * ((vy - wy) + 1))) : kH Tryz.prog 8 [(qQ (kT.mk (kG.mk (jQ.mk lx ly lz) (jL.mk la lb lc ld) lf (jU.mk lu lv)) (kG.mk (jQ.mk rx ry rz) (jL.mk ra rb rc rd) rf (jU.mk ru rv)))), (qW (xA.mk ((w : Nat) : Int) ((h : Nat) : Int) mx px)), (gV (eO.mk right (jU.mk wx wy) (jU.mk vx vy) (jD om)))] (.val (.bool (true))) := by
 have hbl := vU hl
 have hbr := vU hr
 obtain ⟨hlx, hly, hlz, hlu, hlv, hlf, hlq⟩ := hbl
 obtain ⟨hrx, hry, hrz, hru, hrv, hrf, hrq⟩ := hbr
 obtain ⟨hla, hlb, hlc, hld, -⟩ := vQ hlq
 obtain ⟨hra, hrb, hrc, hrd, -⟩ := vQ hrq
 have hnl := gX hla hlb hlc hld
 have hnr := gX hra hrb hrc hrd
 have hz0 := fr_z0 hF hup
 have hz1 := fr_z1 hF hup
 have hz2 := fr_z2 hF hup
 obtain ⟨htx, hty, htz, htu, htv, htf, htq⟩ := vU hst
 obtain ⟨hta, htb, htc, htd, -⟩ := vQ htq
 have hnt := gX hta htb htc htd
 have hv0 := hv
 obtain ⟨w1, w2, w3, w4, w5, w6⟩ := hv
 let y5 := (bx (qW (xA.mk ((w : Nat) : Int) ((h : Nat) : Int) mx px)))
 let y4 := (bx (gV (eO.mk right (jU.mk wx wy) (jU.mk vx vy) (jD om))))
 let y3 := (qQ (kT.mk (kG.mk (jQ.mk lx ly lz) (jL.mk la lb lc ld) lf (jU.mk lu lv)) (kG.mk (jQ.mk rx ry rz) (jL.mk ra rb rc rd) rf (jU.mk ru rv))))
 let y2 := (bx y3)
 let y1 := (bx (yU (RLp.mk (kT.mk (kG.mk (jQ.mk lx ly lz) (jL.mk la lb lc ld) lf (jU.mk lu lv)) (kG.mk (jQ.mk rx ry rz) (jL.mk ra rb rc rd) rf (jU.mk ru rv))) (A3.mk (jD b0) (jD b1) (jD b2)) (A3.mk (A3.mk (jD e00) (jD e01) (jD e02)) (A3.mk (jD e10) (jD e11) (jD e12)) (A3.mk (jD e20) (jD e21) (jD e22))))))
 refine jM Tryz.func8 rfl cb8 rfl ?_
 show uY _ _ _ _ ⟨[(0, (.d y3)), (1, (.d (qW (xA.mk ((w : Nat) : Int) ((h : Nat) : Int) mx px)))), (2, (.d (gV (eO.mk right (jU.mk wx wy) (jU.mk vx vy) (jD om)))))], []⟩
 refine jA <| kx [(3, (.ref 0 0)), (4, (.ref 1 0)), (5, (.ref 2 0))] [(0, some y2), (1, some y5), (2, some y4)] (zN (vD 0) <| zN (vD 1) <| zN (vD 2) <| zM <| zZ) ?_
 refine jA <| jA <| kx [(18, (vb false))] [] (zE (kB eL) <| zE oNt <| zZ) ?_
 refine jT ?_
 refine jB <| jA <| jA <| kx [(28, (vb false))] [] (zE (kE mT) <| zR (qR dK) <| zE (nE uB) <| zE (kR false yZ (by exact decide_eq_false (show ¬ 100 < ((px.length : Nat) : Int) by omega))) <| zM <| zE (kE yK) <| zR (kC jR) <| zE (kB (fY (jD om) om (jY (kA hom) (by decide)))) <| zE (kR false yZ (by exact decide_eq_false hdg)) <| zE zU <| zZ) ?_
 refine jT ?_
 refine jB <| jA <| kx [(7, (.ref 3 0)), (8, (vi 0))] [(3, some y1)] (zR (kC dE) <| zE (kB (qs_pre lx ly lz la lb lc ld lf lu lv rx ry rz ra rb rc rd rf ru rv b0 b1 b2 e00 e01 e02 e10 e11 e12 e20 e21 e22 hF xI xH xJ qE kZ qA qJ qK qI qD qB qC hl hr hup)) <| zM <| zE vA <| zE vA <| zN (uK 3 fN fM) <| zT (qG nP) <| zM <| zZ) ?_
 refine jA <| jA <| kx [(35, (vb true))] [] (zM <| zE (kR true xK) <| zZ) ?_
 refine jX ?_
 refine kx [(8, (vi (gM ((w : Nat) : Int) ((h : Nat) : Int) mx px)))] [] (zR (kC bZ) <| zE (kB (p_rchk ((w : Nat) : Int) ((h : Nat) : Int) mx px (by omega))) <| zM <| zZ) ?_
 refine jA <| jA <| kx [(45, (vb false))] [] (zM <| zE (kR true xK (by exact beq_iff_eq.2 hck)) <| zM <| zE (kE yK) <| zR (kC jR) <| zE (kR true (kB (g_valid (jD om) om (jY (kA hom) (by decide)))) (by exact (fX om))) <| zE oNt <| zE yH <| zZ) ?_
 refine jT ?_
 refine jB <| jA <| jA <| kx [(53, (vb false))] [] (zM <| zE (kR true xK (by exact beq_iff_eq.2 hck)) <| zM <| zE (kE yK) <| zR (kC jR) <| zE (kB (bN (jD om) om (jY (kA hom) (by decide)))) <| zE (kR false oLe (by exact decide_eq_false hs)) <| zE yH <| zZ) ?_
 refine jT ?_
 refine jB <| jA <| jA <| kx [(66, (vl 3 1 qL [wx, wy, vx, vy])), (67, (kD 4)), (68, (kD 0))] [] (zE (kE vH) <| zE (kE uW) <| zR (qR qP) <| zE (kE vH) <| zE (kE uV) <| zR (qR qP) <| zE (kE vI) <| zE (kE uW) <| zR (qR qP) <| zE (kE vI) <| zE (kE uV) <| zR (qR qP) <| zE (mC uB ze3 zo3) <| zE (bJ uB 4) <| zM <| zZ) ?_
 refine jE <| qF 5 ?_
 refine qU <| jA <| kx [(69, (vb true))] [] (zE (kR true qY) <| zZ) ?_
 refine jA <| jX ?_
 refine jB <| jA <| jE <| jA <| kx [(10, (vi wx))] [] (zE (zS uB 0) <| zE (xN qP) <| zM <| zZ) ?_
 refine jA <| kx [(81, (vb false))] [] (zM <| zE (kR true xK (by exact beq_iff_eq.2 hck)) <| zM <| zM <| zE (kR false qY (by exact decide_eq_false (by omega))) <| zM <| zM <| zE (kR false yZ (by exact decide_eq_false (by omega))) <| zE zU <| zE yH <| zZ) ?_
 refine jT ?_
 refine jB <| kx [(68, (kD 1))] [] (zE (uE 1 (hr := by decide)) <| zM <| zZ) ?_
 refine jJ (jW.refl _) ?_
 refine jA <| kx [(69, (vb true))] [] (zE (kR true qY) <| zZ) ?_
 refine jA <| jX ?_
 refine jB <| jA <| jE <| jA <| kP (wk (l := [(3, (.ref 0 0)), (4, (.ref 1 0)), (5, (.ref 2 0)), (7, (.ref 3 0)), (8, (vi (gM ((w : Nat) : Int) ((h : Nat) : Int) mx px))), (66, (vl 3 1 qL [wx, wy, vx, vy])), (67, (kD 4)), (68, (kD 1)), (69, (vb true))]) (b := [(0, some y2), (1, some y5), (2, some y4), (3, some y1)])) ?_
 refine kx [(10, (vi wy))] [] (zE (zS uB 1) <| zE (xN qP) <| zM <| zZ) ?_
 refine jA <| kx [(81, (vb false))] [] (zM <| zE (kR true xK (by exact beq_iff_eq.2 hck)) <| zM <| zM <| zE (kR false qY (by exact decide_eq_false (by omega))) <| zM <| zM <| zE (kR false yZ (by exact decide_eq_false (by omega))) <| zE zU <| zE yH <| zZ) ?_
 refine jT ?_
 refine jB <| kx [(68, (kD 2))] [] (zE (uE 2 (hr := by decide)) <| zM <| zZ) ?_
 refine jJ (jW.refl _) ?_
 refine jA <| kx [(69, (vb true))] [] (zE (kR true qY) <| zZ) ?_
 refine jA <| jX ?_
 refine jB <| jA <| jE <| jA <| kx [(10, (vi vx))] [] (zE (zS uB 2) <| zE (xN qP) <| zM <| zZ) ?_
 refine jA <| kx [(81, (vb false))] [] (zM <| zE (kR true xK (by exact beq_iff_eq.2 hck)) <| zM <| zM <| zE (kR false qY (by exact decide_eq_false (by omega))) <| zM <| zM <| zE (kR false yZ (by exact decide_eq_false (by omega))) <| zE zU <| zE yH <| zZ) ?_
 refine jT ?_
 refine jB <| kx [(68, (kD 3))] [] (zE (uE 3 (hr := by decide)) <| zM <| zZ) ?_
 refine jJ (jW.refl _) ?_
 refine jA <| kx [(69, (vb true))] [] (zE (kR true qY) <| zZ) ?_
 refine jA <| jX ?_
 refine jB <| jA <| jE <| jA <| kx [(10, (vi vy))] [] (zE (zS uB 3) <| zE (xN qP) <| zM <| zZ) ?_
 refine jA <| kx [(81, (vb false))] [] (zM <| zE (kR true xK (by exact beq_iff_eq.2 hck)) <| zM <| zM <| zE (kR false qY (by exact decide_eq_false (by omega))) <| zM <| zM <| zE (kR false yZ (by exact decide_eq_false (by omega))) <| zE zU <| zE yH <| zZ) ?_
 refine jT ?_
 refine jB <| kx [(68, (kD 4))] [] (zE (uE 4 (hr := by decide)) <| zM <| zZ) ?_
 refine jJ (jW.refl _) ?_
 refine jA <| kx [(69, (vb false))] [] (zE (kR false qY) <| zZ) ?_
 refine jA <| jT ?_
 refine kJ <| jA <| jA <| kx [(102, (vb false))] [] (zM <| zE (kR true xK (by exact beq_iff_eq.2 hck)) <| zM <| zE (kE vH) <| zE (kE uW) <| zR (qR qP) <| zE (kE vI) <| zE (kE uW) <| zR (qR qP) <| zE (kR false yZ (by exact decide_eq_false (show ¬ vx < wx by omega))) <| zM <| zE (kE vH) <| zE (kE uV) <| zR (qR qP) <| zE (kE vI) <| zE (kE uV) <| zR (qR qP) <| zE (kR false yZ (by exact decide_eq_false (show ¬ vy < wy by omega))) <| zE zU <| zE yH <| zZ) ?_
 refine jT ?_
 refine jB <| jA <| jA <| kx [(124, (vb false))] [] (zM <| zE (kR true xK (by exact beq_iff_eq.2 hck)) <| zM <| zE (kE vI) <| zE (kE uW) <| zR (qR qP) <| zE (kE vH) <| zE (kE uW) <| zR (qR qP) <| zE (cR (vx - wx) (hr := by exact (qO rfl (by simp only [vP]; omega) (by simp only [vS]; omega)))) <| zE (kR false oGe (by exact decide_eq_false (show ¬ 64 ≤ (vx - wx) by omega))) <| zM <| zE (kE vI) <| zE (kE uV) <| zR (qR qP) <| zE (kE vH) <| zE (kE uV) <| zR (qR qP) <| zE (cR (vy - wy) (hr := by exact (qO rfl (by simp only [vP]; omega) (by simp only [vS]; omega)))) <| zE (kR false oGe (by exact decide_eq_false (show ¬ 64 ≤ (vy - wy) by omega))) <| zE zU <| zE yH <| zZ) ?_
 refine jT ?_
 refine jB <| jA <| jA <| kP (wk (l := [(3, (.ref 0 0)), (4, (.ref 1 0)), (5, (.ref 2 0)), (7, (.ref 3 0)), (8, (vi (gM ((w : Nat) : Int) ((h : Nat) : Int) mx px))), (124, (vb false))]) (b := [(0, some y2), (1, some y5), (2, some y4), (3, some y1)])) ?_
 refine kx [(146, (vb false))] [] (zM <| zE (kR true xK (by exact beq_iff_eq.2 hck)) <| zM <| zE (kE vI) <| zE (kE uW) <| zR (qR qP) <| zE (kE vH) <| zE (kE uW) <| zR (qR qP) <| zE (cR (vx - wx) (hr := by exact (qO rfl (by simp only [vP]; omega) (by simp only [vS]; omega)))) <| zE (zAd ((vx - wx) + ((1 : Nat) : Int)) (hr := by exact (qO rfl (by simp only [vP]; omega) (by simp only [vS]; omega)))) <| zE (kE vI) <| zE (kE uV) <| zR (qR qP) <| zE (kE vH) <| zE (kE uV) <| zR (qR qP) <| zE (cR (vy - wy) (hr := by exact (qO rfl (by simp only [vP]; omega) (by simp only [vS]; omega)))) <| zE (zAd ((vy - wy) + ((1 : Nat) : Int)) (hr := by exact (qO rfl (by simp only [vP]; omega) (by simp only [vS]; omega)))) <| zE (nJ (((vx - wx) + ((1 : Nat) : Int)) * ((vy - wy) + ((1 : Nat) : Int))) (hr := by exact (qO (r := (((vx - wx) + 1) * ((vy - wy) + 1))) rfl (by have hq := mul64 (a := vx - wx + 1) (b := vy - wy + 1) (by omega) (by omega) (by omega) (by omega); simp only [vP]; omega) (by have hq := mul64 (a := vx - wx + 1) (b := vy - wy + 1) (by omega) (by omega) (by omega) (by omega); simp only [vS]; omega)))) <| zE (kR false yZ (by exact decide_eq_false hcn)) <| zE yH <| zZ) ?_
 refine jT ?_
 refine jB <| jA <| kx [(11, (vl 22 1 kO (rsTab (rsV e00 e01 e02 e10 e11 e12 e20 e21 e22 ta tb tc td tf tu tv w h px om) wx wy vx vy))), (12, (vi 0))] [] (zR (kC dE) <| zE (kE dU) <| zR (qR dX) <| zR (kC bZ) <| zE (kE vH) <| zR (kC fG) <| zE (kE vI) <| zR (kC fG) <| zE (kE yK) <| zR (kC jR) <| zE (kB (q_rs lx ly lz la lb lc ld lf lu lv rx ry rz ra rb rc rd rf ru rv right w h mx px wx wy vx vy om hom b0 b1 b2 e00 e01 e02 e10 e11 e12 e20 e21 e22 hF xI xH xJ qE kZ qA qJ qK qI qD qB qC tx ty tz ta tb tc td tf tu tv hl hr hup hsd hst (by omega) hck hv0 hs hwwx hwwy hwvx hwvy hodx hody hlmx hlmy)) <| zM <| zE vA <| zE vA <| zM <| zM <| zZ) ?_
 refine jA <| jA <| kx [(162, (vb false))] [] (zM <| zE (kR false eS (by exact bne_eq_false_iff_eq.2 hck)) <| zZ) ?_
 refine jT ?_
 refine jB <| jA <| kx [(13, (.own 4 22 1 0))] [(4, some (bm kO []))] (zN (oBo 4 gN ze22 zo22) <| zM <| zZ) ?_
 refine jA <| jA <| kx [(14, (vi wy))] [] (zE (kE vH) <| zE (kE uV) <| zR (qR qP) <| zM <| zZ) ?_
 refine jE <| uN (α := Nat × Int × List (List Int)) (fun (k, jj, out) => ⟨[(4, (.ref 1 0)), (5, (.ref 2 0)), (7, (.ref 3 0)), (11, (vl 22 1 kO (rsTab (rsV e00 e01 e02 e10 e11 e12 e20 e21 e22 ta tb tc td tf tu tv w h px om) wx wy vx vy))), (12, (vi 0)), (13, (.own 4 22 1 out.length)), (14, (vi jj))], [(1, some y5), (2, some y4), (3, some y1), (4, some (bm kO out))]⟩) (fun (k, jj, out) => k ≤ (vy - wy + 1).toNat ∧ jj = wy + ((k : Nat) : Int) ∧ out = (List.range k).map fun q => rsRow (rsV e00 e01 e02 e10 e11 e12 e20 e21 e22 ta tb tc td tf tu tv w h px om) wx vx (wy + ((q : Nat) : Int))) (fun (k, jj, out) => (vy - wy + 1).toNat - k) (0, wy, []) wk ⟨Nat.zero_le _, by simp, rfl⟩ ?_
 rintro ⟨k, jj, out⟩ ⟨hk, hjj, ho⟩
 have hol : out.length ≤ 64 := by rw [ho, List.length_map, List.length_range]; omega
 refine jA <| jA <| kx [(179, (vb (decide (jj ≤ vy))))] [] (zM <| zE (kE vI) <| zE (kE uV) <| zR (qR qP) <| zE oLe <| zZ) ?_
 refine jO (b := decide (jj ≤ vy)) rfl (fun h1 => ?_) (fun h1 => ?_)
 ·replace h1 := of_decide_eq_true h1
  refine jB <| jA <| jE <| jA <| kx [(15, (.own 5 3 1 0))] [(5, some (bm qL []))] (zH (oBo 5 uB ze3 zo3) <| zM <| zZ) ?_
  refine jA <| jA <| kx [(16, (vi wx))] [] (zE (kE vH) <| zE (kE uW) <| zR (qR qP) <| zM <| zZ) ?_
  refine jE <| uN (α := Nat × Int × List Int) (fun (i, ii, row) => ⟨[(4, (.ref 1 0)), (5, (.ref 2 0)), (7, (.ref 3 0)), (11, (vl 22 1 kO (rsTab (rsV e00 e01 e02 e10 e11 e12 e20 e21 e22 ta tb tc td tf tu tv w h px om) wx wy vx vy))), (12, (vi 0)), (13, (.own 4 22 1 out.length)), (14, (vi jj)), (15, (.own 5 3 1 row.length)), (16, (vi ii))], [(1, some y5), (2, some y4), (3, some y1), (4, some (bm kO out)), (5, some (bm qL row))]⟩) (fun (i, ii, row) => i ≤ (vx - wx + 1).toNat ∧ ii = wx + ((i : Nat) : Int) ∧ row = (List.range i).map fun q => (rsV e00 e01 e02 e10 e11 e12 e20 e21 e22 ta tb tc td tf tu tv w h px om) (wx + ((q : Nat) : Int)) jj) (fun (i, ii, row) => (vx - wx + 1).toNat - i) (0, wx, []) wk ⟨Nat.zero_le _, by simp, rfl⟩ ?_
  rintro ⟨i, ii, row⟩ ⟨hi, hii, hrow⟩
  have hrl : row.length ≤ 64 := by rw [hrow, List.length_map, List.length_range]; omega
  obtain ⟨d0, hd0⟩ : ∃ q : Rat, (((e00 * ((om * ((ii : Int) : Rat)) / (jH e00 e01 e02 e00 e01 e02))) + (e10 * ((om * ((jj : Int) : Rat)) / (jH e10 e11 e12 e10 e11 e12)))) + (e20 * (((1 : Int) : Rat) / (jH e20 e21 e22 e20 e21 e22)))) = q := ⟨_, rfl⟩
  obtain ⟨d1, hd1⟩ : ∃ q : Rat, (((e01 * ((om * ((ii : Int) : Rat)) / (jH e00 e01 e02 e00 e01 e02))) + (e11 * ((om * ((jj : Int) : Rat)) / (jH e10 e11 e12 e10 e11 e12)))) + (e21 * (((1 : Int) : Rat) / (jH e20 e21 e22 e20 e21 e22)))) = q := ⟨_, rfl⟩
  obtain ⟨d2, hd2⟩ : ∃ q : Rat, (((e02 * ((om * ((ii : Int) : Rat)) / (jH e00 e01 e02 e00 e01 e02))) + (e12 * ((om * ((jj : Int) : Rat)) / (jH e10 e11 e12 e10 e11 e12)))) + (e22 * (((1 : Int) : Rat) / (jH e20 e21 e22 e20 e21 e22)))) = q := ⟨_, rfl⟩
  refine jA <| jA <| kx [(190, (vb (decide (ii ≤ vx))))] [] (zM <| zE (kE vI) <| zE (kE uW) <| zR (qR qP) <| zE oLe <| zZ) ?_
  refine jO (b := decide (ii ≤ vx)) rfl (fun h2 => ?_) (fun h2 => ?_)
  ·replace h2 := of_decide_eq_true h2
   refine jB <| jA <| jE ?_
   have bn1 : QL ((ii : Int) : Rat) 3 := (kL (z := ii) (jN (by omega) (by omega)) (by decide))
   have bn2 : QL ((jj : Int) : Rat) 3 := (kL (z := jj) (jN (by omega) (by omega)) (by decide))
   have bn3 : QL d0 8433 := (kF (Eq.symm hd0) (kQ (k := 8433) (kQ (k := 5627) (jG (k := 2813) qE (kU (k := 2413) (jG (k := 11) hom bn1 (by decide)) (jS (n := 400) (k := 2402) qE kZ qA qE kZ qA (by decide)) (by decide)) (by decide)) (jG (k := 2813) qJ (kU (k := 2413) (jG (k := 11) hom bn2 (by decide)) (jS (n := 400) (k := 2402) qJ qK qI qJ qK qI (by decide)) (by decide)) (by decide)) (by decide)) (jG (k := 2805) qD (kU (k := 2405) (kL (z := 1) (n := 3) (jN (by decide) (by decide)) (by decide)) (jS (n := 400) (k := 2402) qD qB qC qD qB qC (by decide)) (by decide)) (by decide)) (by decide)))
   have bn4 : QL d1 8433 := (kF (Eq.symm hd1) (kQ (k := 8433) (kQ (k := 5627) (jG (k := 2813) kZ (kU (k := 2413) (jG (k := 11) hom bn1 (by decide)) (jS (n := 400) (k := 2402) qE kZ qA qE kZ qA (by decide)) (by decide)) (by decide)) (jG (k := 2813) qK (kU (k := 2413) (jG (k := 11) hom bn2 (by decide)) (jS (n := 400) (k := 2402) qJ qK qI qJ qK qI (by decide)) (by decide)) (by decide)) (by decide)) (jG (k := 2805) qB (kU (k := 2405) (kL (z := 1) (n := 3) (jN (by decide) (by decide)) (by decide)) (jS (n := 400) (k := 2402) qD qB qC qD qB qC (by decide)) (by decide)) (by decide)) (by decide)))
   have bn5 : QL d2 8433 := (kF (Eq.symm hd2) (kQ (k := 8433) (kQ (k := 5627) (jG (k := 2813) qA (kU (k := 2413) (jG (k := 11) hom bn1 (by decide)) (jS (n := 400) (k := 2402) qE kZ qA qE kZ qA (by decide)) (by decide)) (by decide)) (jG (k := 2813) qI (kU (k := 2413) (jG (k := 11) hom bn2 (by decide)) (jS (n := 400) (k := 2402) qJ qK qI qJ qK qI (by decide)) (by decide)) (by decide)) (by decide)) (jG (k := 2805) qC (kU (k := 2405) (kL (z := 1) (n := 3) (jN (by decide) (by decide)) (by decide)) (jS (n := 400) (k := 2402) qD qB qC qD qB qC (by decide)) (by decide)) (by decide)) (by decide)))
   refine kd [(15, (.own 6 3 1 ((row ++ [(rsAt ta tb tc td tf tu tv w h px d0 d1 d2)]).length)))] [(6, some (bm qL (row ++ [(rsAt ta tb tc td tf tu tv w h px d0 d1 d2)]))), (5, none)] mo (wM <| wR (kC nP) <| wE (kE dU) <| wR (qR dX) <| wR (kC bZ) <| wE (kE yK) <| wR (kC jR) <| wM <| wE (kB (nQ ii (by omega) (by omega))) <| wE (kB (eW (jD om) (jD ((ii : Int) : Rat)) om ((ii : Int) : Rat) (jY (kA hom) (by decide)) (jY (kA bn1) (by decide)))) <| wE (kE yK) <| wR (kC jR) <| wM <| wE (kB (nQ jj (by omega) (by omega))) <| wE (kB (eW (jD om) (jD ((jj : Int) : Rat)) om ((jj : Int) : Rat) (jY (kA hom) (by decide)) (jY (kA bn2) (by decide)))) <| wE (oBd pl113 cA mZ) <| wE (kB (qs_pix lx ly lz la lb lc ld lf lu lv rx ry rz ra rb rc rd rf ru rv b0 b1 b2 e00 e01 e02 e10 e11 e12 e20 e21 e22 xI xH xJ qE kZ qA qJ qK qI qD qB qC right w h mx px (om * ((ii : Int) : Rat)) (om * ((jj : Int) : Rat)) (qV (jG (k := 11) hom bn1 (by decide)) (by decide)) (qV (jG (k := 11) hom bn2 (by decide)) (by decide)) tx ty tz ta tb tc td tf tu tv d0 hd0 d1 hd1 d2 hd2 hz0 hz1 hz2 hsd hst hv0)) <| wE (mC uB ze3 zo3) <| wA (k := 5) 6 qL row [(rsAt ta tb tc td tf tu tv w h px d0 d1 d2)] rfl uB ze3 by3 <| wM <| wZ) ?_
   refine kP (sim_ren (S' := [(4, (.ref 1 0)), (5, (.ref 2 0)), (7, (.ref 3 0)), (11, (vl 22 1 kO (rsTab (rsV e00 e01 e02 e10 e11 e12 e20 e21 e22 ta tb tc td tf tu tv w h px om) wx wy vx vy))), (12, (vi 0)), (13, (.own 4 22 1 out.length)), (14, (vi jj)), (15, (.own 5 3 1 ((row ++ [(rsAt ta tb tc td tf tu tv w h px d0 d1 d2)]).length))), (16, (vi ii))]) (B' := [(1, some y5), (2, some y4), (3, some y1), (4, some (bm kO out)), (5, some (bm qL (row ++ [(rsAt ta tb tc td tf tu tv w h px d0 d1 d2)])))]) 5 6) ?_
   refine kx [(16, (vi (ii + ((1 : Nat) : Int))))] [] (zM <| zE (zAd (ii + ((1 : Nat) : Int)) (hr := by exact (qO rfl (by simp only [vP]; omega) (by simp only [vS]; omega)))) <| zM <| zZ) ?_
   exact ⟨(i + 1, ii + 1, row ++ [(rsAt ta tb tc td tf tu tv w h px d0 d1 d2)]), wk, ⟨by omega, by omega, rs_step hrow (by show _ = (rsV e00 e01 e02 e10 e11 e12 e20 e21 e22 ta tb tc td tf tu tv w h px om) (wx + ((i : Nat) : Int)) jj; rw [← hii]; subst hd0 hd1 hd2; exact rfl)⟩, (by first | omega | (dsimp only; omega))⟩
  ·replace h2 := of_decide_eq_false h2
   refine kJ <| kP (xY (t := 15) (k := 5) (es := List.map qL row) rfl rfl (vY _ _ (fun _ => rfl)) (xP _ _ rfl) (zB _ _ (fun _ => rfl) rfl)) ?_
   refine kf [(13, (.own 4 22 1 ((out ++ [row]).length)))] [(4, some (bm kO (out ++ [row])))] (zM <| zM <| zE (mC gN ze22 zo22) <| zA kO out [row] rfl gN ze22 by22 <| zM <| zF) ?_
   refine kx [(14, (vi (jj + ((1 : Nat) : Int))))] [] (zM <| zE (zAd (jj + ((1 : Nat) : Int)) (hr := by exact (qO rfl (by simp only [vP]; omega) (by simp only [vS]; omega)))) <| zM <| zZ) ?_
   exact ⟨(k + 1, jj + 1, out ++ [row]), wk, ⟨by omega, by omega, rs_step ho (by rw [hrow, hjj, show i = (vx - wx + 1).toNat by omega]; rfl)⟩, (by first | omega | (dsimp only; omega))⟩
 ·replace h1 := of_decide_eq_false h1
  have hte : (rsTab (rsV e00 e01 e02 e10 e11 e12 e20 e21 e22 ta tb tc td tf tu tv w h px om) wx wy vx vy) = out := by rw [ho, show k = (vy - wy + 1).toNat by omega]; rfl
  refine kJ <| jA <| kP (xY (t := 13) (k := 4) (es := List.map kO out) rfl rfl (vY _ _ (fun _ => rfl)) (xP _ _ rfl) (zB _ _ (fun _ => rfl) rfl)) ?_
  refine kx [(6, (vb true))] [] (zM <| zE (kR true xK) <| zM <| zM <| zM <| zE (kB (qs_eqf (rsTab (rsV e00 e01 e02 e10 e11 e12 e20 e21 e22 ta tb tc td tf tu tv w h px om) wx wy vx vy) out hte (rsTab_row (by omega)) (rsTab_len (by omega)))) <| zE yH <| zM <| zZ) ?_
  refine jF ⟨_, (.tmp (d := (.val (.bool (true)))) rfl .nil), ?_⟩
  rfl
end Go.Proofs.YtapjldagikfcmaaGreat
