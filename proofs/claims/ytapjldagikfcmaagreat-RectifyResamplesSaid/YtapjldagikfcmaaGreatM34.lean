/- Part 34 of a proof: rules, plain facts, and functions walked. -/
import Derived.Test.YtapjldagikfcmaaGreatM33
namespace Go.Proofs.YtapjldagikfcmaaGreat
open Go.Fid
set_option maxRecDepth 4000
set_option linter.unusedVariables false
set_option linter.unusedSimpArgs false
theorem by3 : hP Tryz.prog 3 = some 8 := by kernel_rfl
theorem by22 : hP Tryz.prog 22 = some 24 := by kernel_rfl
theorem cb49 : callB Tryz.prog 49 = true := by kernel_rfl
theorem bZ : uJ Tryz.prog 24 = some (true, 4) := by kernel_rfl
theorem q_rsE1 (lx ly lz la lb lc ld lf lu lv rx ry rz ra rb rc rd rf ru rv : Int) (right : Bool) (w h mx : Int) (px : List Int) (wx wy : Int) (vx vy : Int) (z : jZ) (om : Rat) (hom : fW z om 8) (c : Nat) (hc : stn2 (uQ lx ly lz lu lv lf la lb lc ld) (uQ rx ry rz ru rv rf ra rb rc rd) = c) (hc0 : c ≠ 0) : kH Tryz.prog 49 [(qQ (kT.mk (kG.mk (jQ.mk lx ly lz) (jL.mk la lb lc ld) lf (jU.mk lu lv)) (kG.mk (jQ.mk rx ry rz) (jL.mk ra rb rc rd) rf (jU.mk ru rv)))), (.val (.bool (right))), (qW (xA.mk w h mx px)), (xW (jU.mk wx wy)), (xW (jU.mk vx vy)), (jP z)] (.tup [(.sl 22 1 (List.map kO [])), (.val (.int .i64 (((c : Nat) : Int))))]) := by
 let y1 := (qQ (kT.mk (kG.mk (jQ.mk lx ly lz) (jL.mk la lb lc ld) lf (jU.mk lu lv)) (kG.mk (jQ.mk rx ry rz) (jL.mk ra rb rc rd) rf (jU.mk ru rv))))
 refine jM Tryz.func49 rfl cb49 rfl ?_
 show uY _ _ _ _ ⟨[(0, (.d y1)), (1, (vb right)), (2, (.d (qW (xA.mk w h mx px)))), (3, (.d (xW (jU.mk wx wy)))), (4, (.d (xW (jU.mk vx vy)))), (5, (.d (jP z)))], []⟩
 refine jA <| kx [(6, (.ref 0 0)), (8, (.ref 1 0)), (9, (.ref 2 0)), (10, (.ref 3 0)), (11, (.ref 4 0))] [(0, some (bx y1)), (1, some (bx (qW (xA.mk w h mx px)))), (2, some (bx (xW (jU.mk wx wy)))), (3, some (bx (xW (jU.mk vx vy)))), (4, some (bx (jP z)))] (zN (vD 0) <| zN (vD 1) <| zN (vD 2) <| zN (vD 3) <| zN (vD 4) <| zE (aX 22 1) <| zM <| zZ) ?_
 refine jA <| kx [(14, (.d (.val (.pointer none)))), (15, (kD c))] [] (zR (kC dE) <| zE (kB (q_recE1 lx ly lz la lb lc ld lf lu lv rx ry rz ra rb rc rd rf ru rv c hc hc0)) <| zM <| zE vA <| zE vA <| zM <| zM <| zZ) ?_
 refine jA <| jA <| kx [(37, (vb true))] [] (zM <| zE (kR true eS (by exact bne_iff_ne.2 (by have hx := hc0; omega))) <| zZ) ?_
 refine jX ?_
 refine jA <| kx [(12, (vl 22 1 kO [])), (13, (kD c))] [] (zM <| zE (aX 22 1) <| zM <| zZ) ?_
 refine jF ⟨_, (.tmp (d := (.sl 22 1 (List.map kO []))) rfl (.tmp (d := (.val (.int .i64 (((c : Nat) : Int))))) rfl .nil)), ?_⟩
 rfl
theorem q_rsE2 (lx ly lz la lb lc ld lf lu lv rx ry rz ra rb rc rd rf ru rv : Int) (right : Bool) (w h mx : Int) (px : List Int) (wx wy : Int) (vx vy : Int) (z : jZ) (om : Rat) (hom : fW z om 8) (b0 b1 b2 : Rat) (xI : QL b0 3) (xH : QL b1 3) (xJ : QL b2 3) (hl : uQ lx ly lz lu lv lf la lb lc ld = 0) (hr : uQ rx ry rz ru rv rf ra rb rc rd = 0) (hb0 : ((rx - lx : Int) : Rat) = b0) (hb1 : ((ry - ly : Int) : Rat) = b1) (hb2 : ((rz - lz : Int) : Rat) = b2) (hup : upV la lb lc ld ra rb rc rd b0 b1 b2 = true) : kH Tryz.prog 49 [(qQ (kT.mk (kG.mk (jQ.mk lx ly lz) (jL.mk la lb lc ld) lf (jU.mk lu lv)) (kG.mk (jQ.mk rx ry rz) (jL.mk ra rb rc rd) rf (jU.mk ru rv)))), (.val (.bool (right))), (qW (xA.mk w h mx px)), (xW (jU.mk wx wy)), (xW (jU.mk vx vy)), (jP z)] (.tup [(.sl 22 1 (List.map kO [])), (.val (.int .i64 (13)))]) := by
 let y1 := (qQ (kT.mk (kG.mk (jQ.mk lx ly lz) (jL.mk la lb lc ld) lf (jU.mk lu lv)) (kG.mk (jQ.mk rx ry rz) (jL.mk ra rb rc rd) rf (jU.mk ru rv))))
 refine jM Tryz.func49 rfl cb49 rfl ?_
 show uY _ _ _ _ ⟨[(0, (.d y1)), (1, (vb right)), (2, (.d (qW (xA.mk w h mx px)))), (3, (.d (xW (jU.mk wx wy)))), (4, (.d (xW (jU.mk vx vy)))), (5, (.d (jP z)))], []⟩
 refine jA <| kx [(6, (.ref 0 0)), (8, (.ref 1 0)), (9, (.ref 2 0)), (10, (.ref 3 0)), (11, (.ref 4 0))] [(0, some (bx y1)), (1, some (bx (qW (xA.mk w h mx px)))), (2, some (bx (xW (jU.mk wx wy)))), (3, some (bx (xW (jU.mk vx vy)))), (4, some (bx (jP z)))] (zN (vD 0) <| zN (vD 1) <| zN (vD 2) <| zN (vD 3) <| zN (vD 4) <| zE (aX 22 1) <| zM <| zZ) ?_
 refine jA <| kx [(14, (.d (.val (.pointer none)))), (15, (vi 13))] [] (zR (kC dE) <| zE (kB (q_recE2 lx ly lz la lb lc ld lf lu lv rx ry rz ra rb rc rd rf ru rv b0 b1 b2 xI xH xJ hl hr hb0 hb1 hb2 hup)) <| zM <| zE vA <| zE vA <| zM <| zM <| zZ) ?_
 refine jA <| jA <| kx [(37, (vb true))] [] (zM <| zE (kR true eS) <| zZ) ?_
 refine jX ?_
 refine jA <| kx [(12, (vl 22 1 kO [])), (13, (vi 13))] [] (zM <| zE (aX 22 1) <| zM <| zZ) ?_
 refine jF ⟨_, (.tmp (d := (.sl 22 1 (List.map kO []))) rfl (.tmp (d := (.val (.int .i64 (13)))) rfl .nil)), ?_⟩
 rfl
theorem q_rsX (lx ly lz la lb lc ld lf lu lv rx ry rz ra rb rc rd rf ru rv : Int) (right : Bool) (w h mx : Int) (px : List Int) (wx wy : Int) (vx vy : Int) (z : jZ) (om : Rat) (hom : fW z om 8) (b0 b1 b2 e00 e01 e02 e10 e11 e12 e20 e21 e22 : Rat) (hF : RFr lx ly lz la lb lc ld rx ry rz ra rb rc rd b0 b1 b2 e00 e01 e02 e10 e11 e12 e20 e21 e22) (xI : QL b0 3) (xH : QL b1 3) (xJ : QL b2 3) (qE : QL e00 400) (kZ : QL e01 400) (qA : QL e02 400) (qJ : QL e10 400) (qK : QL e11 400) (qI : QL e12 400) (qD : QL e20 400) (qB : QL e21 400) (qC : QL e22 400) (hl : uQ lx ly lz lu lv lf la lb lc ld = 0) (hr : uQ rx ry rz ru rv rf ra rb rc rd = 0) (hup : upV la lb lc ld ra rb rc rd b0 b1 b2 = false) (hb : px.length ≤ 1000000) (hne : (xT w h mx px z om wx wy vx vy) ≠ 0) : kH Tryz.prog 49 [(qQ (kT.mk (kG.mk (jQ.mk lx ly lz) (jL.mk la lb lc ld) lf (jU.mk lu lv)) (kG.mk (jQ.mk rx ry rz) (jL.mk ra rb rc rd) rf (jU.mk ru rv)))), (.val (.bool (right))), (qW (xA.mk w h mx px)), (xW (jU.mk wx wy)), (xW (jU.mk vx vy)), (jP z)] (.tup [(.sl 22 1 (List.map kO [])), (.val (.int .i64 ((xT w h mx px z om wx wy vx vy))))]) := by
 have hbl := vU hl
 have hbr := vU hr
 obtain ⟨hlx, hly, hlz, hlu, hlv, hlf, hlq⟩ := hbl
 obtain ⟨hrx, hry, hrz, hru, hrv, hrf, hrq⟩ := hbr
 obtain ⟨hla, hlb, hlc, hld, -⟩ := vQ hlq
 obtain ⟨hra, hrb, hrc, hrd, -⟩ := vQ hrq
 have hnl := gX hla hlb hlc hld
 have hnr := gX hra hrb hrc hrd
 have hz0 := fr_z0 hF hup
 have hz1 := fr_z1 hF hup
 have hz2 := fr_z2 hF hup
 let y2 := (qQ (kT.mk (kG.mk (jQ.mk lx ly lz) (jL.mk la lb lc ld) lf (jU.mk lu lv)) (kG.mk (jQ.mk rx ry rz) (jL.mk ra rb rc rd) rf (jU.mk ru rv))))
 let y1 := (mA (RRp.mk (kG.mk (jQ.mk lx ly lz) (jL.mk la lb lc ld) lf (jU.mk lu lv)) (kG.mk (jQ.mk rx ry rz) (jL.mk ra rb rc rd) rf (jU.mk ru rv)) (A3.mk (jD b0) (jD b1) (jD b2)) (A3.mk (A3.mk (jD e00) (jD e01) (jD e02)) (A3.mk (jD e10) (jD e11) (jD e12)) (A3.mk (jD e20) (jD e21) (jD e22)))))
 refine jM Tryz.func49 rfl cb49 rfl ?_
 show uY _ _ _ _ ⟨[(0, (.d y2)), (1, (vb right)), (2, (.d (qW (xA.mk w h mx px)))), (3, (.d (xW (jU.mk wx wy)))), (4, (.d (xW (jU.mk vx vy)))), (5, (.d (jP z)))], []⟩
 refine jA <| kx [(6, (.ref 0 0)), (8, (.ref 1 0)), (9, (.ref 2 0)), (10, (.ref 3 0)), (11, (.ref 4 0))] [(0, some (bx y2)), (1, some (bx (qW (xA.mk w h mx px)))), (2, some (bx (xW (jU.mk wx wy)))), (3, some (bx (xW (jU.mk vx vy)))), (4, some (bx (jP z)))] (zN (vD 0) <| zN (vD 1) <| zN (vD 2) <| zN (vD 3) <| zN (vD 4) <| zE (aX 22 1) <| zM <| zZ) ?_
 refine jA <| kx [(14, (.d (.cptr 1000001 (kX.cells y1) 0))), (15, (vi 0))] [] (zR (kC dE) <| zE (kB (q_rec lx ly lz la lb lc ld lf lu lv rx ry rz ra rb rc rd rf ru rv b0 b1 b2 e00 e01 e02 e10 e11 e12 e20 e21 e22 hF xI xH xJ qE kZ qA qJ qK qI qD qB qC hl hr hup)) <| zM <| zE vA <| zE vA <| zM <| zM <| zZ) ?_
 refine jA <| jA <| kx [(37, (vb false))] [] (zM <| zE (kR false eS) <| zZ) ?_
 refine jT ?_
 refine jB <| jA <| jA <| kx [(16, (vi (gM w h mx px)))] [] (zR (kC bZ) <| zE (kB (p_chk w h mx px hb)) <| zM <| zZ) ?_
 refine jA <| kx [(42, (vb ((gM w h mx px) != ((0 : Nat) : Int))))] [] (zM <| zE eS <| zZ) ?_
 refine jO (b := ((gM w h mx px) != ((0 : Nat) : Int))) rfl (fun h1 => ?_) (fun h1 => ?_)
 ·replace h1 := bne_iff_ne.1 h1
  refine jA <| kx [(12, (vl 22 1 kO [])), (13, (vi (gM w h mx px)))] [] (zM <| zE (aX 22 1) <| zM <| zZ) ?_
  refine jF ⟨_, (.tmp (d := (.sl 22 1 (List.map kO []))) rfl (.tmp (d := (.val (.int .i64 ((gM w h mx px))))) rfl .nil)), ?_⟩
  rw [show (xT w h mx px z om wx wy vx vy) = gM w h mx px from cdk h1]; rfl
 ·replace h1 := bne_eq_false_iff_eq.1 h1
  refine jB <| jA <| jA <| kx [(46, (vb (!(vW z))))] [] (zR (kC jR) <| zE (kB (f_valid z om (jY hom (by decide)))) <| zE oNt <| zZ) ?_
  refine jO (b := !(vW z)) rfl (fun h2 => ?_) (fun h2 => ?_)
  ·refine jA <| kx [(12, (vl 22 1 kO [])), (13, (kD 1))] [] (zE (aX 22 1) <| zM <| zZ) ?_
   refine jF ⟨_, (.tmp (d := (.sl 22 1 (List.map kO []))) rfl (.tmp (d := (.val (.int .i64 (((1 : Nat) : Int))))) rfl .nil)), ?_⟩
   rw [show (xT w h mx px z om wx wy vx vy) = 1 from cd1 (by simp [h2])]; rfl
  ·refine jB <| jA <| jA <| kx [(49, (vb (decide ((xV om) ≤ ((0 : Nat) : Int)))))] [] (zR (kC jR) <| zE (kB (f_sign z om (jY hom (by decide)))) <| zE oLe <| zZ) ?_
   refine jO (b := decide ((xV om) ≤ ((0 : Nat) : Int))) rfl (fun h3 => ?_) (fun h3 => ?_)
   ·replace h3 := of_decide_eq_true h3
    refine jA <| kx [(12, (vl 22 1 kO [])), (13, (kD 2))] [] (zE (aX 22 1) <| zM <| zZ) ?_
    refine jF ⟨_, (.tmp (d := (.sl 22 1 (List.map kO []))) rfl (.tmp (d := (.val (.int .i64 (((2 : Nat) : Int))))) rfl .nil)), ?_⟩
    rw [show (xT w h mx px z om wx wy vx vy) = 2 from cd2 (by simp [h1, h2]) (or1 (decide_eq_true h3))]; rfl
   ·replace h3 := of_decide_eq_false h3
    refine jB <| jA <| jA <| kx [(58, (vl 3 1 qL [wx, wy, vx, vy])), (59, (kD 4)), (60, (kD 0))] [] (zE (kE uW) <| zR (qR qP) <| zE (kE uV) <| zR (qR qP) <| zE (kE uW) <| zR (qR qP) <| zE (kE uV) <| zR (qR qP) <| zE (mC uB ze3 zo3) <| zE (bJ uB 4) <| zM <| zZ) ?_
    refine jE <| qF 5 ?_
    refine qU <| jA <| kx [(61, (vb true))] [] (zE (kR true qY) <| zZ) ?_
    refine jA <| jX ?_
    refine jB <| jA <| jE <| jA <| kx [(18, (vi wx))] [] (zE (zS uB 0) <| zE (xN qP) <| zM <| zZ) ?_
    refine jA <| kx [(69, (vb (decide (wx < -1048576) || decide (((1048576 : Nat) : Int) < wx))))] [] ?_ ?_
    ·refine zM <| zE qY <| zE (oV (vb (decide (wx < -1048576))) (uS (by kernel_rfl))) <| ?_
     rcases hb4 : (decide (wx < -1048576)) with _ | _
     ·replace hb4 := of_decide_eq_false hb4
      exact zM <| zE yZ <| zE eT <| zZ
     ·replace hb4 := of_decide_eq_true hb4
      exact zK <| zK <| zE yH <| zZ
    refine jO rfl (fun h5 => ?_) (fun h5 => ?_)
    ·refine jA <| kx [(12, (vl 22 1 kO [])), (13, (kD 2))] [] (zE (aX 22 1) <| zM <| zZ) ?_
     refine jF ⟨_, (.tmp (d := (.sl 22 1 (List.map kO []))) rfl (.tmp (d := (.val (.int .i64 (((2 : Nat) : Int))))) rfl .nil)), ?_⟩
     rw [show (xT w h mx px z om wx wy vx vy) = 2 from cd2 (by simp [h1, h2]) (or2 h5)]; rfl
    ·refine jB <| kx [(60, (kD 1))] [] (zE (uE 1 (hr := by decide)) <| zM <| zZ) ?_
     refine jJ (jW.refl _) ?_
     refine jA <| kx [(61, (vb true))] [] (zE (kR true qY) <| zZ) ?_
     refine jA <| jX ?_
     refine jB <| jA <| jE <| jA <| kx [(18, (vi wy))] [] (zE (zS uB 1) <| zE (xN qP) <| zM <| zZ) ?_
     refine jA <| kP (wk (l := [(1, (vb right)), (8, (.ref 1 0)), (9, (.ref 2 0)), (10, (.ref 3 0)), (11, (.ref 4 0)), (14, (.d (.cptr 1000001 (kX.cells y1) 0))), (18, (vi wy)), (58, (vl 3 1 qL [wx, wy, vx, vy])), (59, (kD 4)), (60, (kD 1))]) (b := [(1, some (bx (qW (xA.mk w h mx px)))), (2, some (bx (xW (jU.mk wx wy)))), (3, some (bx (xW (jU.mk vx vy)))), (4, some (bx (jP z)))])) ?_
     refine kx [(69, (vb (decide (wy < -1048576) || decide (((1048576 : Nat) : Int) < wy))))] [] ?_ ?_
     ·refine zM <| zE qY <| zE (oV (vb (decide (wy < -1048576))) (uS (by kernel_rfl))) <| ?_
      rcases hb6 : (decide (wy < -1048576)) with _ | _
      ·replace hb6 := of_decide_eq_false hb6
       exact zM <| zE yZ <| zE eT <| zZ
      ·replace hb6 := of_decide_eq_true hb6
       exact zK <| zK <| zE yH <| zZ
     refine jO rfl (fun h7 => ?_) (fun h7 => ?_)
     ·refine jA <| kx [(12, (vl 22 1 kO [])), (13, (kD 2))] [] (zE (aX 22 1) <| zM <| zZ) ?_
      refine jF ⟨_, (.tmp (d := (.sl 22 1 (List.map kO []))) rfl (.tmp (d := (.val (.int .i64 (((2 : Nat) : Int))))) rfl .nil)), ?_⟩
      rw [show (xT w h mx px z om wx wy vx vy) = 2 from cd2 (by simp [h1, h2]) (or3 h7)]; rfl
     ·refine jB <| kx [(60, (kD 2))] [] (zE (uE 2 (hr := by decide)) <| zM <| zZ) ?_
      refine jJ (jW.refl _) ?_
      refine jA <| kx [(61, (vb true))] [] (zE (kR true qY) <| zZ) ?_
      refine jA <| jX ?_
      refine jB <| jA <| jE <| jA <| kx [(18, (vi vx))] [] (zE (zS uB 2) <| zE (xN qP) <| zM <| zZ) ?_
      refine jA <| kx [(69, (vb (decide (vx < -1048576) || decide (((1048576 : Nat) : Int) < vx))))] [] ?_ ?_
      ·refine zM <| zE qY <| zE (oV (vb (decide (vx < -1048576))) (uS (by kernel_rfl))) <| ?_
       rcases hb8 : (decide (vx < -1048576)) with _ | _
       ·replace hb8 := of_decide_eq_false hb8
        exact zM <| zE yZ <| zE eT <| zZ
       ·replace hb8 := of_decide_eq_true hb8
        exact zK <| zK <| zE yH <| zZ
      refine jO rfl (fun h9 => ?_) (fun h9 => ?_)
      ·refine jA <| kx [(12, (vl 22 1 kO [])), (13, (kD 2))] [] (zE (aX 22 1) <| zM <| zZ) ?_
       refine jF ⟨_, (.tmp (d := (.sl 22 1 (List.map kO []))) rfl (.tmp (d := (.val (.int .i64 (((2 : Nat) : Int))))) rfl .nil)), ?_⟩
       rw [show (xT w h mx px z om wx wy vx vy) = 2 from cd2 (by simp [h1, h2]) (or4 h9)]; rfl
      ·refine jB <| kx [(60, (kD 3))] [] (zE (uE 3 (hr := by decide)) <| zM <| zZ) ?_
       refine jJ (jW.refl _) ?_
       refine jA <| kx [(61, (vb true))] [] (zE (kR true qY) <| zZ) ?_
       refine jA <| jX ?_
       refine jB <| jA <| jE <| jA <| kx [(18, (vi vy))] [] (zE (zS uB 3) <| zE (xN qP) <| zM <| zZ) ?_
       refine jA <| kx [(69, (vb (decide (vy < -1048576) || decide (((1048576 : Nat) : Int) < vy))))] [] ?_ ?_
       ·refine zM <| zE qY <| zE (oV (vb (decide (vy < -1048576))) (uS (by kernel_rfl))) <| ?_
        rcases hb10 : (decide (vy < -1048576)) with _ | _
        ·replace hb10 := of_decide_eq_false hb10
         exact zM <| zE yZ <| zE eT <| zZ
        ·replace hb10 := of_decide_eq_true hb10
         exact zK <| zK <| zE yH <| zZ
       refine jO rfl (fun h11 => ?_) (fun h11 => ?_)
       ·refine jA <| kx [(12, (vl 22 1 kO [])), (13, (kD 2))] [] (zE (aX 22 1) <| zM <| zZ) ?_
        refine jF ⟨_, (.tmp (d := (.sl 22 1 (List.map kO []))) rfl (.tmp (d := (.val (.int .i64 (((2 : Nat) : Int))))) rfl .nil)), ?_⟩
        rw [show (xT w h mx px z om wx wy vx vy) = 2 from cd2 (by simp [h1, h2]) (or5 h11)]; rfl
       ·refine jB <| kx [(60, (kD 4))] [] (zE (uE 4 (hr := by decide)) <| zM <| zZ) ?_
        refine jJ (jW.refl _) ?_
        refine jA <| kx [(61, (vb false))] [] (zE (kR false qY) <| zZ) ?_
        refine jA <| jT ?_
        refine kJ <| jA <| jA <| kx [(82, (vb (decide (vx < wx) || decide (vy < wy))))] [] ?_ ?_
        ·refine zE (kE uW) <| zR (qR qP) <| zE (kE uW) <| zR (qR qP) <| zE yZ <| zE (oV (vb (decide (vx < wx))) (uS (by kernel_rfl))) <| ?_
         rcases hb12 : (decide (vx < wx)) with _ | _
         ·replace hb12 := of_decide_eq_false hb12
          exact zE (kE uV) <| zR (qR qP) <| zE (kE uV) <| zR (qR qP) <| zE yZ <| zE eT <| zZ
         ·replace hb12 := of_decide_eq_true hb12
          exact zK <| zK <| zK <| zK <| zK <| zE yH <| zZ
        refine jO (b := (decide (vx < wx) || decide (vy < wy))) rfl (fun h13 => ?_) (fun h13 => ?_)
        ·refine jA <| kx [(12, (vl 22 1 kO [])), (13, (kD 2))] [] (zE (aX 22 1) <| zM <| zZ) ?_
         refine jF ⟨_, (.tmp (d := (.sl 22 1 (List.map kO []))) rfl (.tmp (d := (.val (.int .i64 (((2 : Nat) : Int))))) rfl .nil)), ?_⟩
         rw [show (xT w h mx px z om wx wy vx vy) = 2 from cd2 (by simp [h1, h2]) (or6 h13)]; rfl
        ·have rg3 := rng_of h5
         have rg4 := rng_of h7
         have rg5 := rng_of h9
         have rg6 := rng_of h11
         refine jB <| jA <| jA <| kx [(96, (vb (decide (((64 : Nat) : Int) ≤ (vx - wx)) || decide (((64 : Nat) : Int) ≤ (vy - wy)))))] [] ?_ ?_
         ·refine zE (kE uW) <| zR (qR qP) <| zE (kE uW) <| zR (qR qP) <| zE (cR (vx - wx) (hr := by exact (qO rfl (by simp only [vP]; omega) (by simp only [vS]; omega)))) <| zE oGe <| zE (oV (vb (decide (((64 : Nat) : Int) ≤ (vx - wx)))) (uS (by kernel_rfl))) <| ?_
          rcases hb14 : (decide (((64 : Nat) : Int) ≤ (vx - wx))) with _ | _
          ·replace hb14 := of_decide_eq_false hb14
           exact zE (kE uV) <| zR (qR qP) <| zE (kE uV) <| zR (qR qP) <| zE (cR (vy - wy) (hr := by exact (qO rfl (by simp only [vP]; omega) (by simp only [vS]; omega)))) <| zE oGe <| zE eT <| zZ
          ·replace hb14 := of_decide_eq_true hb14
           exact zK <| zK <| zK <| zK <| zK <| zK <| zE yH <| zZ
         refine jO rfl (fun h15 => ?_) (fun h15 => ?_)
         ·refine jA <| kx [(12, (vl 22 1 kO [])), (13, (kD 3))] [] (zE (aX 22 1) <| zM <| zZ) ?_
          refine jF ⟨_, (.tmp (d := (.sl 22 1 (List.map kO []))) rfl (.tmp (d := (.val (.int .i64 (((3 : Nat) : Int))))) rfl .nil)), ?_⟩
          rw [show (xT w h mx px z om wx wy vx vy) = 3 from cd3 (by simp [h1, h2]) (or0 (decide_eq_false h3) h5 h7 h9 h11 h13) h15]; rfl
         ·exact (hne (cd0 (by simp [h1, h2]) (or0 (decide_eq_false h3) h5 h7 h9 h11 h13) h15)).elim
theorem q_rs (lx ly lz la lb lc ld lf lu lv rx ry rz ra rb rc rd rf ru rv : Int) (right : Bool) (w h : Nat) (mx : Int) (px : List Int) (wx wy : Int) (vx vy : Int) (om : Rat) (hom : QL om 8) (b0 b1 b2 e00 e01 e02 e10 e11 e12 e20 e21 e22 : Rat) (hF : RFr lx ly lz la lb lc ld rx ry rz ra rb rc rd b0 b1 b2 e00 e01 e02 e10 e11 e12 e20 e21 e22) (xI : QL b0 3) (xH : QL b1 3) (xJ : QL b2 3) (qE : QL e00 400) (kZ : QL e01 400) (qA : QL e02 400) (qJ : QL e10 400) (qK : QL e11 400) (qI : QL e12 400) (qD : QL e20 400) (qB : QL e21 400) (qC : QL e22 400) (tx ty tz ta tb tc td tf tu tv : Int) (hl : uQ lx ly lz lu lv lf la lb lc ld = 0) (hr : uQ rx ry rz ru rv rf ra rb rc rd = 0) (hup : upV la lb lc ld ra rb rc rd b0 b1 b2 = false) (hsd : (bif right then (kG.mk (jQ.mk rx ry rz) (jL.mk ra rb rc rd) rf (jU.mk ru rv)) else (kG.mk (jQ.mk lx ly lz) (jL.mk la lb lc ld) lf (jU.mk lu lv))) = (kG.mk (jQ.mk tx ty tz) (jL.mk ta tb tc td) tf (jU.mk tu tv))) (hst : uQ tx ty tz tu tv tf ta tb tc td = 0) (hb : px.length ≤ 1000000) (hck : gM ((w : Nat) : Int) ((h : Nat) : Int) mx px = 0) (hv : RstOk w h px) (hs : ¬ (xV om) ≤ 0) (hwwx : -1048576 ≤ wx ∧ wx ≤ 1048576) (hwwy : -1048576 ≤ wy ∧ wy ≤ 1048576) (hwvx : -1048576 ≤ vx ∧ vx ≤ 1048576) (hwvy : -1048576 ≤ vy ∧ vy ≤ 1048576) (hodx : wx ≤ vx) (hody : wy ≤ vy) (hlmx : vx - wx ≤ 63) (hlmy : vy - wy ≤ 63) : kH Tryz.prog 49 [(qQ (kT.mk (kG.mk (jQ.mk lx ly lz) (jL.mk la lb lc ld) lf (jU.mk lu lv)) (kG.mk (jQ.mk rx ry rz) (jL.mk ra rb rc rd) rf (jU.mk ru rv)))), (.val (.bool (right))), (qW (xA.mk ((w : Nat) : Int) ((h : Nat) : Int) mx px)), (xW (jU.mk wx wy)), (xW (jU.mk vx vy)), (jP (jD om))] (.tup [(.sl 22 1 (List.map kO (rsTab (rsV e00 e01 e02 e10 e11 e12 e20 e21 e22 ta tb tc td tf tu tv w h px om) wx wy vx vy))), (.val (.int .i64 (0)))]) := by
 have hbl := vU hl
 have hbr := vU hr
 obtain ⟨hlx, hly, hlz, hlu, hlv, hlf, hlq⟩ := hbl
 obtain ⟨hrx, hry, hrz, hru, hrv, hrf, hrq⟩ := hbr
 obtain ⟨hla, hlb, hlc, hld, -⟩ := vQ hlq
 obtain ⟨hra, hrb, hrc, hrd, -⟩ := vQ hrq
 have hnl := gX hla hlb hlc hld
 have hnr := gX hra hrb hrc hrd
 have hz0 := fr_z0 hF hup
 have hz1 := fr_z1 hF hup
 have hz2 := fr_z2 hF hup
 obtain ⟨htx, hty, htz, htu, htv, htf, htq⟩ := vU hst
 obtain ⟨hta, htb, htc, htd, -⟩ := vQ htq
 have hnt := gX hta htb htc htd
 have hv0 := hv
 obtain ⟨w1, w2, w3, w4, w5, w6⟩ := hv
 let y3 := (bx (qW (xA.mk ((w : Nat) : Int) ((h : Nat) : Int) mx px)))
 let y2 := (qQ (kT.mk (kG.mk (jQ.mk lx ly lz) (jL.mk la lb lc ld) lf (jU.mk lu lv)) (kG.mk (jQ.mk rx ry rz) (jL.mk ra rb rc rd) rf (jU.mk ru rv))))
 let y1 := (mA (RRp.mk (kG.mk (jQ.mk lx ly lz) (jL.mk la lb lc ld) lf (jU.mk lu lv)) (kG.mk (jQ.mk rx ry rz) (jL.mk ra rb rc rd) rf (jU.mk ru rv)) (A3.mk (jD b0) (jD b1) (jD b2)) (A3.mk (A3.mk (jD e00) (jD e01) (jD e02)) (A3.mk (jD e10) (jD e11) (jD e12)) (A3.mk (jD e20) (jD e21) (jD e22)))))
 refine jM Tryz.func49 rfl cb49 rfl ?_
 show uY _ _ _ _ ⟨[(0, (.d y2)), (1, (vb right)), (2, (.d (qW (xA.mk ((w : Nat) : Int) ((h : Nat) : Int) mx px)))), (3, (.d (xW (jU.mk wx wy)))), (4, (.d (xW (jU.mk vx vy)))), (5, (.d (jP (jD om))))], []⟩
 refine jA <| kx [(6, (.ref 0 0)), (8, (.ref 1 0)), (9, (.ref 2 0)), (10, (.ref 3 0)), (11, (.ref 4 0))] [(0, some (bx y2)), (1, some y3), (2, some (bx (xW (jU.mk wx wy)))), (3, some (bx (xW (jU.mk vx vy)))), (4, some (bx (jP (jD om))))] (zN (vD 0) <| zN (vD 1) <| zN (vD 2) <| zN (vD 3) <| zN (vD 4) <| zE (aX 22 1) <| zM <| zZ) ?_
 refine jA <| kx [(14, (.d (.cptr 1000001 (kX.cells y1) 0))), (15, (vi 0))] [] (zR (kC dE) <| zE (kB (q_rec lx ly lz la lb lc ld lf lu lv rx ry rz ra rb rc rd rf ru rv b0 b1 b2 e00 e01 e02 e10 e11 e12 e20 e21 e22 hF xI xH xJ qE kZ qA qJ qK qI qD qB qC hl hr hup)) <| zM <| zE vA <| zE vA <| zM <| zM <| zZ) ?_
 refine jA <| jA <| kx [(37, (vb false))] [] (zM <| zE (kR false eS) <| zZ) ?_
 refine jT ?_
 refine jB <| jA <| jA <| kx [(16, (vi (gM ((w : Nat) : Int) ((h : Nat) : Int) mx px)))] [] (zR (kC bZ) <| zE (kB (p_chk ((w : Nat) : Int) ((h : Nat) : Int) mx px hb)) <| zM <| zZ) ?_
 refine jA <| kx [(42, (vb false))] [] (zM <| zE (kR false eS (by exact bne_eq_false_iff_eq.2 hck)) <| zZ) ?_
 refine jT ?_
 refine jB <| jA <| jA <| kx [(46, (vb false))] [] (zR (kC jR) <| zE (kR true (kB (f_valid (jD om) om (jY (kA hom) (by decide)))) (by exact (fX om))) <| zE oNt <| zZ) ?_
 refine jT ?_
 refine jB <| jA <| jA <| kx [(49, (vb false))] [] (zR (kC jR) <| zE (kB (f_sign (jD om) om (jY (kA hom) (by decide)))) <| zE (kR false oLe (by exact decide_eq_false hs)) <| zZ) ?_
 refine jT ?_
 refine jB <| jA <| jA <| kx [(58, (vl 3 1 qL [wx, wy, vx, vy])), (59, (kD 4)), (60, (kD 0))] [] (zE (kE uW) <| zR (qR qP) <| zE (kE uV) <| zR (qR qP) <| zE (kE uW) <| zR (qR qP) <| zE (kE uV) <| zR (qR qP) <| zE (mC uB ze3 zo3) <| zE (bJ uB 4) <| zM <| zZ) ?_
 refine jE <| qF 5 ?_
 refine qU <| jA <| kx [(61, (vb true))] [] (zE (kR true qY) <| zZ) ?_
 refine jA <| jX ?_
 refine jB <| jA <| jE <| jA <| kx [(18, (vi wx))] [] (zE (zS uB 0) <| zE (xN qP) <| zM <| zZ) ?_
 refine jA <| kx [(69, (vb false))] [] (zM <| zE (kR false qY (by exact decide_eq_false (by omega))) <| zM <| zM <| zE (kR false yZ (by exact decide_eq_false (by omega))) <| zE zU <| zZ) ?_
 refine jT ?_
 refine jB <| kx [(60, (kD 1))] [] (zE (uE 1 (hr := by decide)) <| zM <| zZ) ?_
 refine jJ (jW.refl _) ?_
 refine jA <| kx [(61, (vb true))] [] (zE (kR true qY) <| zZ) ?_
 refine jA <| jX ?_
 refine jB <| jA <| jE <| jA <| kx [(18, (vi wy))] [] (zE (zS uB 1) <| zE (xN qP) <| zM <| zZ) ?_
 refine jA <| kP (wk (l := [(1, (vb right)), (8, (.ref 1 0)), (9, (.ref 2 0)), (10, (.ref 3 0)), (11, (.ref 4 0)), (14, (.d (.cptr 1000001 (kX.cells y1) 0))), (18, (vi wy)), (58, (vl 3 1 qL [wx, wy, vx, vy])), (59, (kD 4)), (60, (kD 1))]) (b := [(1, some y3), (2, some (bx (xW (jU.mk wx wy)))), (3, some (bx (xW (jU.mk vx vy)))), (4, some (bx (jP (jD om))))])) ?_
 refine kx [(69, (vb false))] [] (zM <| zE (kR false qY (by exact decide_eq_false (by omega))) <| zM <| zM <| zE (kR false yZ (by exact decide_eq_false (by omega))) <| zE zU <| zZ) ?_
 refine jT ?_
 refine jB <| kx [(60, (kD 2))] [] (zE (uE 2 (hr := by decide)) <| zM <| zZ) ?_
 refine jJ (jW.refl _) ?_
 refine jA <| kx [(61, (vb true))] [] (zE (kR true qY) <| zZ) ?_
 refine jA <| jX ?_
 refine jB <| jA <| jE <| jA <| kx [(18, (vi vx))] [] (zE (zS uB 2) <| zE (xN qP) <| zM <| zZ) ?_
 refine jA <| kx [(69, (vb false))] [] (zM <| zE (kR false qY (by exact decide_eq_false (by omega))) <| zM <| zM <| zE (kR false yZ (by exact decide_eq_false (by omega))) <| zE zU <| zZ) ?_
 refine jT ?_
 refine jB <| kx [(60, (kD 3))] [] (zE (uE 3 (hr := by decide)) <| zM <| zZ) ?_
 refine jJ (jW.refl _) ?_
 refine jA <| kx [(61, (vb true))] [] (zE (kR true qY) <| zZ) ?_
 refine jA <| jX ?_
 refine jB <| jA <| jE <| jA <| kx [(18, (vi vy))] [] (zE (zS uB 3) <| zE (xN qP) <| zM <| zZ) ?_
 refine jA <| kx [(69, (vb false))] [] (zM <| zE (kR false qY (by exact decide_eq_false (by omega))) <| zM <| zM <| zE (kR false yZ (by exact decide_eq_false (by omega))) <| zE zU <| zZ) ?_
 refine jT ?_
 refine jB <| kx [(60, (kD 4))] [] (zE (uE 4 (hr := by decide)) <| zM <| zZ) ?_
 refine jJ (jW.refl _) ?_
 refine jA <| kx [(61, (vb false))] [] (zE (kR false qY) <| zZ) ?_
 refine jA <| jT ?_
 refine kJ <| jA <| jA <| kx [(82, (vb false))] [] (zE (kE uW) <| zR (qR qP) <| zE (kE uW) <| zR (qR qP) <| zE (kR false yZ (by exact decide_eq_false (show ¬ vx < wx by omega))) <| zM <| zE (kE uV) <| zR (qR qP) <| zE (kE uV) <| zR (qR qP) <| zE (kR false yZ (by exact decide_eq_false (show ¬ vy < wy by omega))) <| zE zU <| zZ) ?_
 refine jT ?_
 refine jB <| jA <| jA <| kx [(96, (vb false))] [] (zE (kE uW) <| zR (qR qP) <| zE (kE uW) <| zR (qR qP) <| zE (cR (vx - wx) (hr := by exact (qO rfl (by simp only [vP]; omega) (by simp only [vS]; omega)))) <| zE (kR false oGe (by exact decide_eq_false (show ¬ 64 ≤ (vx - wx) by omega))) <| zM <| zE (kE uV) <| zR (qR qP) <| zE (kE uV) <| zR (qR qP) <| zE (cR (vy - wy) (hr := by exact (qO rfl (by simp only [vP]; omega) (by simp only [vS]; omega)))) <| zE (kR false oGe (by exact decide_eq_false (show ¬ 64 ≤ (vy - wy) by omega))) <| zE zU <| zZ) ?_
 refine jT ?_
 refine jB <| jA <| kx [(19, (.d (.val (.func (.func 133) #[] #[]))))] [] (zM <| zZ) ?_
 refine jA <| kP (wk (l := [(1, (vb right)), (8, (.ref 1 0)), (9, (.ref 2 0)), (10, (.ref 3 0)), (11, (.ref 4 0)), (14, (.d (.cptr 1000001 (kX.cells y1) 0))), (19, (.d (.val (.func (.func 133) #[] #[]))))]) (b := [(1, some y3), (2, some (bx (xW (jU.mk wx wy)))), (3, some (bx (xW (jU.mk vx vy)))), (4, some (bx (jP (jD om))))])) ?_
 refine kx [(20, (.own 5 22 1 0))] [(5, some (bm kO []))] (zO 5 22 1 <| zZ) ?_
 refine jA <| jA <| kx [(21, (vi wy))] [] (zE (kE uV) <| zR (qR qP) <| zM <| zZ) ?_
 refine jE <| uN (α := Nat × Int × List (List Int)) (fun (k, jj, out) => ⟨[(1, (vb right)), (8, (.ref 1 0)), (9, (.ref 2 0)), (10, (.ref 3 0)), (11, (.ref 4 0)), (14, (.d (.cptr 1000001 (kX.cells y1) 0))), (19, (.d (.val (.func (.func 133) #[] #[])))), (20, (.own 5 22 1 out.length)), (21, (vi jj))], [(1, some y3), (2, some (bx (xW (jU.mk wx wy)))), (3, some (bx (xW (jU.mk vx vy)))), (4, some (bx (jP (jD om)))), (5, some (bm kO out))]⟩) (fun (k, jj, out) => k ≤ (vy - wy + 1).toNat ∧ jj = wy + ((k : Nat) : Int) ∧ out = (List.range k).map fun q => rsRow (rsV e00 e01 e02 e10 e11 e12 e20 e21 e22 ta tb tc td tf tu tv w h px om) wx vx (wy + ((q : Nat) : Int))) (fun (k, jj, out) => (vy - wy + 1).toNat - k) (0, wy, []) wk ⟨Nat.zero_le _, by simp, rfl⟩ ?_
 rintro ⟨k, jj, out⟩ ⟨hk, hjj, ho⟩
 have hol : out.length ≤ 64 := by rw [ho, List.length_map, List.length_range]; omega
 refine jA <| jA <| kx [(102, (vb (decide (jj ≤ vy))))] [] (zM <| zE (kE uV) <| zR (qR qP) <| zE oLe <| zZ) ?_
 refine jO (b := decide (jj ≤ vy)) rfl (fun h1 => ?_) (fun h1 => ?_)
 ·replace h1 := of_decide_eq_true h1
  refine jB <| jA <| jE <| jA <| kx [(22, (.own 6 3 1 0))] [(6, some (bm qL []))] (zOh 6 3 1 <| zZ) ?_
  refine jA <| jA <| kx [(23, (vi wx))] [] (zE (kE uW) <| zR (qR qP) <| zM <| zZ) ?_
  refine jE <| uN (α := Nat × Int × List Int) (fun (i, ii, row) => ⟨[(1, (vb right)), (8, (.ref 1 0)), (9, (.ref 2 0)), (10, (.ref 3 0)), (11, (.ref 4 0)), (14, (.d (.cptr 1000001 (kX.cells y1) 0))), (19, (.d (.val (.func (.func 133) #[] #[])))), (20, (.own 5 22 1 out.length)), (21, (vi jj)), (22, (.own 6 3 1 row.length)), (23, (vi ii))], [(1, some y3), (2, some (bx (xW (jU.mk wx wy)))), (3, some (bx (xW (jU.mk vx vy)))), (4, some (bx (jP (jD om)))), (5, some (bm kO out)), (6, some (bm qL row))]⟩) (fun (i, ii, row) => i ≤ (vx - wx + 1).toNat ∧ ii = wx + ((i : Nat) : Int) ∧ row = (List.range i).map fun q => (rsV e00 e01 e02 e10 e11 e12 e20 e21 e22 ta tb tc td tf tu tv w h px om) (wx + ((q : Nat) : Int)) jj) (fun (i, ii, row) => (vx - wx + 1).toNat - i) (0, wx, []) wk ⟨Nat.zero_le _, by simp, rfl⟩ ?_
  rintro ⟨i, ii, row⟩ ⟨hi, hii, hrow⟩
  have hrl : row.length ≤ 64 := by rw [hrow, List.length_map, List.length_range]; omega
  obtain ⟨d0, hd0⟩ : ∃ q : Rat, (((e00 * ((om * ((ii : Int) : Rat)) / (jH e00 e01 e02 e00 e01 e02))) + (e10 * ((om * ((jj : Int) : Rat)) / (jH e10 e11 e12 e10 e11 e12)))) + (e20 * (((1 : Int) : Rat) / (jH e20 e21 e22 e20 e21 e22)))) = q := ⟨_, rfl⟩
  obtain ⟨d1, hd1⟩ : ∃ q : Rat, (((e01 * ((om * ((ii : Int) : Rat)) / (jH e00 e01 e02 e00 e01 e02))) + (e11 * ((om * ((jj : Int) : Rat)) / (jH e10 e11 e12 e10 e11 e12)))) + (e21 * (((1 : Int) : Rat) / (jH e20 e21 e22 e20 e21 e22)))) = q := ⟨_, rfl⟩
  obtain ⟨d2, hd2⟩ : ∃ q : Rat, (((e02 * ((om * ((ii : Int) : Rat)) / (jH e00 e01 e02 e00 e01 e02))) + (e12 * ((om * ((jj : Int) : Rat)) / (jH e10 e11 e12 e10 e11 e12)))) + (e22 * (((1 : Int) : Rat) / (jH e20 e21 e22 e20 e21 e22)))) = q := ⟨_, rfl⟩
  obtain ⟨X, hX⟩ : ∃ q : Rat, (((tu : Int) : Rat) + ((((tf : Int) : Rat) * (jH (yX ta tb tc td) (gC ta tb tc td) (gI ta tb tc td) d0 d1 d2)) / (jH (vX ta tb tc td) (xD ta tb tc td) (xF ta tb tc td) d0 d1 d2))) = q := ⟨_, rfl⟩
  obtain ⟨Y, hY⟩ : ∃ q : Rat, (((tv : Int) : Rat) + ((((tf : Int) : Rat) * (jH (yW ta tb tc td) (gD ta tb tc td) (gJ ta tb tc td) d0 d1 d2)) / (jH (vX ta tb tc td) (xD ta tb tc td) (xF ta tb tc td) d0 d1 d2))) = q := ⟨_, rfl⟩
  refine jA <| jA <| kx [(110, (vb (decide (ii ≤ vx))))] [] (zM <| zE (kE uW) <| zR (qR qP) <| zE oLe <| zZ) ?_
  refine jO (b := decide (ii ≤ vx)) rfl (fun h2 => ?_) (fun h2 => ?_)
  ·replace h2 := of_decide_eq_true h2
   refine jB <| jA <| jE <| jA <| kx [(24, (vi (-1)))] [] (zM <| zZ) ?_
   refine jA <| jA ?_
   rcases hs2 : (decide ((xV (jH (vX ta tb tc td) (xD ta tb tc td) (xF ta tb tc td) d0 d1 d2)) ≤ 0)) with _ | _
   ·have bn1 : QL ((ii : Int) : Rat) 3 := (kL (z := ii) (jN (by omega) (by omega)) (by decide))
    have bn2 : QL (om * ((ii : Int) : Rat)) 11 := (kF (Eq.symm (Rat.mul_comm _ _)) (jG (k := 11) bn1 hom (by decide)))
    have bn3 : QL ((jj : Int) : Rat) 3 := (kL (z := jj) (jN (by omega) (by omega)) (by decide))
    have bn4 : QL (om * ((jj : Int) : Rat)) 11 := (kF (Eq.symm (Rat.mul_comm _ _)) (jG (k := 11) bn3 hom (by decide)))
    have bn5 : QL d0 8433 := (kF (Eq.symm hd0) (kQ (k := 8433) (kQ (k := 5627) (jG (k := 2813) qE (kU (k := 2413) bn2 (jS (n := 400) (k := 2402) qE kZ qA qE kZ qA (by decide)) (by decide)) (by decide)) (jG (k := 2813) qJ (kU (k := 2413) bn4 (jS (n := 400) (k := 2402) qJ qK qI qJ qK qI (by decide)) (by decide)) (by decide)) (by decide)) (jG (k := 2805) qD (kU (k := 2405) (kL (z := 1) (n := 3) (jN (by decide) (by decide)) (by decide)) (jS (n := 400) (k := 2402) qD qB qC qD qB qC (by decide)) (by decide)) (by decide)) (by decide)))
    have bn6 : QL d1 8433 := (kF (Eq.symm hd1) (kQ (k := 8433) (kQ (k := 5627) (jG (k := 2813) kZ (kU (k := 2413) bn2 (jS (n := 400) (k := 2402) qE kZ qA qE kZ qA (by decide)) (by decide)) (by decide)) (jG (k := 2813) qK (kU (k := 2413) bn4 (jS (n := 400) (k := 2402) qJ qK qI qJ qK qI (by decide)) (by decide)) (by decide)) (by decide)) (jG (k := 2805) qB (kU (k := 2405) (kL (z := 1) (n := 3) (jN (by decide) (by decide)) (by decide)) (jS (n := 400) (k := 2402) qD qB qC qD qB qC (by decide)) (by decide)) (by decide)) (by decide)))
    have bn7 : QL d2 8433 := (kF (Eq.symm hd2) (kQ (k := 8433) (kQ (k := 5627) (jG (k := 2813) qA (kU (k := 2413) bn2 (jS (n := 400) (k := 2402) qE kZ qA qE kZ qA (by decide)) (by decide)) (by decide)) (jG (k := 2813) qI (kU (k := 2413) bn4 (jS (n := 400) (k := 2402) qJ qK qI qJ qK qI (by decide)) (by decide)) (by decide)) (by decide)) (jG (k := 2805) qC (kU (k := 2405) (kL (z := 1) (n := 3) (jN (by decide) (by decide)) (by decide)) (jS (n := 400) (k := 2402) qD qB qC qD qB qC (by decide)) (by decide)) (by decide)) (by decide)))
    have bn8 : QL X 101207 := (kF (Eq.symm hX) (kQ (k := 101207) (qi tu) (kU (k := 101203) (jG (k := 50603) (qi tf) (jS (n := 8433) (k := 50600) (qV (kR00) (by decide)) (qV (kR10) (by decide)) (qV (kR20) (by decide)) bn5 bn6 bn7 (by decide)) (by decide)) (jS (n := 8433) (k := 50600) (qV (kR02) (by decide)) (qV (kR12) (by decide)) (qV (kR22) (by decide)) bn5 bn6 bn7 (by decide)) (by decide)) (by decide)))
    have bn9 : QL Y 101207 := (kF (Eq.symm hY) (kQ (k := 101207) (qi tv) (kU (k := 101203) (jG (k := 50603) (qi tf) (jS (n := 8433) (k := 50600) (qV (kR01) (by decide)) (qV (kR11) (by decide)) (qV (kR21) (by decide)) bn5 bn6 bn7 (by decide)) (by decide)) (jS (n := 8433) (k := 50600) (qV (kR02) (by decide)) (qV (kR12) (by decide)) (qV (kR22) (by decide)) bn5 bn6 bn7 (by decide)) (by decide)) (by decide)))
    refine kd [(25, (.ref 7 0)), (26, (vb true))] [(7, some (bx (qM (uP.mk (jD X) (jD Y)))))] mo (wM <| wM <| wM <| wE (kB (gQ ii (by omega) (by omega))) <| wR (kC jR) <| wE (kB (by have h := eM (jD ((ii : Int) : Rat)) (jD om) ((ii : Int) : Rat) om (jY (kA bn1) (by decide)) (jY (kA hom) (by decide)); rw [(Rat.mul_comm _ _)] at h; exact h)) <| wM <| wE (kB (gQ jj (by omega) (by omega))) <| wR (kC jR) <| wE (kB (by have h := eM (jD ((jj : Int) : Rat)) (jD om) ((jj : Int) : Rat) om (jY (kA bn3) (by decide)) (jY (kA hom) (by decide)); rw [(Rat.mul_comm _ _)] at h; exact h)) <| wE (oBd pl113 cA mZ) <| wE (kB (by have h := q_unm lx ly lz la lb lc ld lf lu lv rx ry rz ra rb rc rd rf ru rv b0 b1 b2 e00 e01 e02 e10 e11 e12 e20 e21 e22 xI xH xJ qE kZ qA qJ qK qI qD qB qC right (om * ((ii : Int) : Rat)) (om * ((jj : Int) : Rat)) (qu bn2) (qu bn4) tx ty tz ta tb tc td tf tu tv d0 hd0 d1 hd1 d2 hd2 hz0 hz1 hz2 hsd hst (of_decide_eq_false hs2); rw [hX, hY] at h; exact h)) <| wM <| wE vA <| wE vA <| wH (hc := by kernel_rfl) (uK 7 cA mZ) <| wT (qG mB) <| wM <| wZ) ?_
    refine jA <| kx [(128, (vb true))] [] (zM <| zZ) ?_
    refine jX ?_
    refine jA <| kx [(27, (vi (uM (gU (X / ((64 : Int) : Rat)))))), (28, (vb (yO (gU (X / ((64 : Int) : Rat))))))] [] (zM <| zE (kE fo113_0) <| zR (kC jR) <| zE (kB (q_rpix X (qu bn8))) <| zM <| zE vA <| zE vA <| zM <| zM <| zZ) ?_
    refine jA <| kx [(29, (vi (uM (gU (Y / ((64 : Int) : Rat)))))), (30, (vb (yO (gU (Y / ((64 : Int) : Rat))))))] [] (zM <| zE (kE fo113_1) <| zR (kC jR) <| zE (kB (q_rpix Y (qu bn9))) <| zM <| zE vA <| zE vA <| zM <| zM <| zZ) ?_
    refine jA <| kx [(166, (vb ((((((yO (gU (X / ((64 : Int) : Rat)))) && (yO (gU (Y / ((64 : Int) : Rat))))) && decide (((0 : Nat) : Int) ≤ (uM (gU (X / ((64 : Int) : Rat)))))) && decide ((uM (gU (X / ((64 : Int) : Rat)))) < ((w : Nat) : Int))) && decide (((0 : Nat) : Int) ≤ (uM (gU (Y / ((64 : Int) : Rat)))))) && decide ((uM (gU (Y / ((64 : Int) : Rat)))) < ((h : Nat) : Int)))))] [] ?_ ?_
    ·refine zM <| zE (oV (vb (yO (gU (X / ((64 : Int) : Rat))))) (uS (by kernel_rfl))) <| ?_
     rcases hb3 : (yO (gU (X / ((64 : Int) : Rat)))) with _ | _
     ·exact zK <| zE zU <| zM <| zK <| zK <| zE zU <| zM <| zK <| zK <| zK <| zK <| zE zU <| zM <| zK <| zK <| zE zU <| zM <| zK <| zK <| zK <| zK <| zE zU <| zZ
     ·refine zM <| zE oPa <| zE (oV (vb (true && (yO (gU (Y / ((64 : Int) : Rat)))))) (uS (by kernel_rfl))) <| ?_
      rcases hb4 : (true && (yO (gU (Y / ((64 : Int) : Rat))))) with _ | _
      ·exact zK <| zK <| zE zU <| zM <| zK <| zK <| zK <| zK <| zE zU <| zM <| zK <| zK <| zE zU <| zM <| zK <| zK <| zK <| zK <| zE zU <| zZ
      ·refine zM <| zE oGe <| zE oPa <| zE (oV (vb (true && decide (((0 : Nat) : Int) ≤ (uM (gU (X / ((64 : Int) : Rat))))))) (uS (by kernel_rfl))) <| ?_
       rcases hb5 : (true && decide (((0 : Nat) : Int) ≤ (uM (gU (X / ((64 : Int) : Rat)))))) with _ | _
       ·replace hb5 := of_decide_eq_false (p := (((0 : Nat) : Int) ≤ (uM (gU (X / ((64 : Int) : Rat)))))) hb5
        exact zK <| zK <| zK <| zK <| zE zU <| zM <| zK <| zK <| zE zU <| zM <| zK <| zK <| zK <| zK <| zE zU <| zZ
       ·replace hb5 := of_decide_eq_true (p := (((0 : Nat) : Int) ≤ (uM (gU (X / ((64 : Int) : Rat)))))) hb5
        refine zM <| zE (kE aP) <| zR (qR qP) <| zE qY <| zE oPa <| zE (oV (vb (true && decide ((uM (gU (X / ((64 : Int) : Rat)))) < ((w : Nat) : Int)))) (uS (by kernel_rfl))) <| ?_
        rcases hb6 : (true && decide ((uM (gU (X / ((64 : Int) : Rat)))) < ((w : Nat) : Int))) with _ | _
        ·replace hb6 := of_decide_eq_false (p := ((uM (gU (X / ((64 : Int) : Rat)))) < ((w : Nat) : Int))) hb6
         exact zK <| zK <| zE zU <| zM <| zK <| zK <| zK <| zK <| zE zU <| zZ
        ·replace hb6 := of_decide_eq_true (p := ((uM (gU (X / ((64 : Int) : Rat)))) < ((w : Nat) : Int))) hb6
         refine zM <| zE oGe <| zE oPa <| zE (oV (vb (true && decide (((0 : Nat) : Int) ≤ (uM (gU (Y / ((64 : Int) : Rat))))))) (uS (by kernel_rfl))) <| ?_
         rcases hb7 : (true && decide (((0 : Nat) : Int) ≤ (uM (gU (Y / ((64 : Int) : Rat)))))) with _ | _
         ·replace hb7 := of_decide_eq_false (p := (((0 : Nat) : Int) ≤ (uM (gU (Y / ((64 : Int) : Rat)))))) hb7
          exact zK <| zK <| zK <| zK <| zE zU <| zZ
         ·replace hb7 := of_decide_eq_true (p := (((0 : Nat) : Int) ≤ (uM (gU (Y / ((64 : Int) : Rat)))))) hb7
          exact zM <| zE (kE fo24_1) <| zR (qR qP) <| zE qY <| zE oPa <| zZ
    refine jO rfl (fun h8 => ?_) (fun h8 => ?_)
    ·obtain ⟨⟨i0, i1, i2, i3, i4⟩, q2⟩ := rs_in hv0 h8
     refine kx [(24, (vi (px.getD (((uM (gU (Y / ((64 : Int) : Rat)))) * ((w : Nat) : Int) + (uM (gU (X / ((64 : Int) : Rat))))).toNat) 0)))] [] (zE (kE mT) <| zR (qR dK) <| zM <| zE (kE aP) <| zR (qR qP) <| zE (nJ ((uM (gU (Y / ((64 : Int) : Rat)))) * ((w : Nat) : Int)) (hr := by exact (qO rfl (by simp only [vP]; omega) (by simp only [vS]; omega)))) <| zM <| zE (uE (((uM (gU (Y / ((64 : Int) : Rat)))) * ((w : Nat) : Int) + (uM (gU (X / ((64 : Int) : Rat))))).toNat) (hr := by exact (qO i2 (by simp only [vP]; omega) (by simp only [vS]; omega)))) <| zE (aC uB (((uM (gU (Y / ((64 : Int) : Rat)))) * ((w : Nat) : Int) + (uM (gU (X / ((64 : Int) : Rat))))).toNat) (0 : Int)) <| zE (xN qP) <| zM <| zZ) ?_
     refine kf [(22, (.own 6 3 1 ((row ++ [(px.getD (((uM (gU (Y / ((64 : Int) : Rat)))) * ((w : Nat) : Int) + (uM (gU (X / ((64 : Int) : Rat))))).toNat) 0)]).length)))] [(6, some (bm qL (row ++ [(px.getD (((uM (gU (Y / ((64 : Int) : Rat)))) * ((w : Nat) : Int) + (uM (gU (X / ((64 : Int) : Rat))))).toNat) 0)])))] (zM <| zM <| zE (mC uB ze3 zo3) <| zA qL row [(px.getD (((uM (gU (Y / ((64 : Int) : Rat)))) * ((w : Nat) : Int) + (uM (gU (X / ((64 : Int) : Rat))))).toNat) 0)] rfl uB ze3 by3 <| zM <| zF) ?_
     refine kx [(23, (vi (ii + ((1 : Nat) : Int))))] [] (zM <| zE (zAd (ii + ((1 : Nat) : Int)) (hr := by exact (qO rfl (by simp only [vP]; omega) (by simp only [vS]; omega)))) <| zM <| zZ) ?_
     exact ⟨(i + 1, ii + 1, row ++ [px.getD ((uM (gU (Y / ((64 : Int) : Rat)))) * ((w : Nat) : Int) + (uM (gU (X / ((64 : Int) : Rat))))).toNat 0]), wk, ⟨by omega, by omega, rs_step hrow (by show _ = (rsV e00 e01 e02 e10 e11 e12 e20 e21 e22 ta tb tc td tf tu tv w h px om) (wx + ((i : Nat) : Int)) jj; rw [← hii]; subst hX hY hd0 hd1 hd2; exact (q2.trans (rsAt_p (of_decide_eq_false hs2)).symm))⟩, (by first | omega | (dsimp only; omega))⟩
    ·refine jB <| kf [(22, (.own 6 3 1 ((row ++ [-1]).length)))] [(6, some (bm qL (row ++ [-1])))] (zM <| zM <| zE (mC uB ze3 zo3) <| zA qL row [-1] rfl uB ze3 by3 <| zM <| zF) ?_
     refine kx [(23, (vi (ii + ((1 : Nat) : Int))))] [] (zM <| zE (zAd (ii + ((1 : Nat) : Int)) (hr := by exact (qO rfl (by simp only [vP]; omega) (by simp only [vS]; omega)))) <| zM <| zZ) ?_
     exact ⟨(i + 1, ii + 1, row ++ [-1]), wk, ⟨by omega, by omega, rs_step hrow (by show _ = (rsV e00 e01 e02 e10 e11 e12 e20 e21 e22 ta tb tc td tf tu tv w h px om) (wx + ((i : Nat) : Int)) jj; rw [← hii]; subst hX hY hd0 hd1 hd2; exact ((rs_out hv0 h8).trans (rsAt_p (of_decide_eq_false hs2)).symm))⟩, (by first | omega | (dsimp only; omega))⟩
   ·have bn10 : QL ((ii : Int) : Rat) 3 := (kL (z := ii) (jN (by omega) (by omega)) (by decide))
    have bn11 : QL (om * ((ii : Int) : Rat)) 11 := (kF (Eq.symm (Rat.mul_comm _ _)) (jG (k := 11) bn10 hom (by decide)))
    have bn12 : QL ((jj : Int) : Rat) 3 := (kL (z := jj) (jN (by omega) (by omega)) (by decide))
    have bn13 : QL (om * ((jj : Int) : Rat)) 11 := (kF (Eq.symm (Rat.mul_comm _ _)) (jG (k := 11) bn12 hom (by decide)))
    have bn14 : QL d0 8433 := (kF (Eq.symm hd0) (kQ (k := 8433) (kQ (k := 5627) (jG (k := 2813) qE (kU (k := 2413) bn11 (jS (n := 400) (k := 2402) qE kZ qA qE kZ qA (by decide)) (by decide)) (by decide)) (jG (k := 2813) qJ (kU (k := 2413) bn13 (jS (n := 400) (k := 2402) qJ qK qI qJ qK qI (by decide)) (by decide)) (by decide)) (by decide)) (jG (k := 2805) qD (kU (k := 2405) (kL (z := 1) (n := 3) (jN (by decide) (by decide)) (by decide)) (jS (n := 400) (k := 2402) qD qB qC qD qB qC (by decide)) (by decide)) (by decide)) (by decide)))
    have bn15 : QL d1 8433 := (kF (Eq.symm hd1) (kQ (k := 8433) (kQ (k := 5627) (jG (k := 2813) kZ (kU (k := 2413) bn11 (jS (n := 400) (k := 2402) qE kZ qA qE kZ qA (by decide)) (by decide)) (by decide)) (jG (k := 2813) qK (kU (k := 2413) bn13 (jS (n := 400) (k := 2402) qJ qK qI qJ qK qI (by decide)) (by decide)) (by decide)) (by decide)) (jG (k := 2805) qB (kU (k := 2405) (kL (z := 1) (n := 3) (jN (by decide) (by decide)) (by decide)) (jS (n := 400) (k := 2402) qD qB qC qD qB qC (by decide)) (by decide)) (by decide)) (by decide)))
    have bn16 : QL d2 8433 := (kF (Eq.symm hd2) (kQ (k := 8433) (kQ (k := 5627) (jG (k := 2813) qA (kU (k := 2413) bn11 (jS (n := 400) (k := 2402) qE kZ qA qE kZ qA (by decide)) (by decide)) (by decide)) (jG (k := 2813) qI (kU (k := 2413) bn13 (jS (n := 400) (k := 2402) qJ qK qI qJ qK qI (by decide)) (by decide)) (by decide)) (by decide)) (jG (k := 2805) qC (kU (k := 2405) (kL (z := 1) (n := 3) (jN (by decide) (by decide)) (by decide)) (jS (n := 400) (k := 2402) qD qB qC qD qB qC (by decide)) (by decide)) (by decide)) (by decide)))
    refine kd [(25, (.ref 7 0)), (26, (vb false))] [(7, some (bx (qM (uP.mk (jZ.mk (jI.mk false []) (jI.mk false [])) (jZ.mk (jI.mk false []) (jI.mk false []))))))] mo (wM <| wM <| wM <| wE (kB (gQ ii (by omega) (by omega))) <| wR (kC jR) <| wE (kB (by have h := eM (jD ((ii : Int) : Rat)) (jD om) ((ii : Int) : Rat) om (jY (kA bn10) (by decide)) (jY (kA hom) (by decide)); rw [(Rat.mul_comm _ _)] at h; exact h)) <| wM <| wE (kB (gQ jj (by omega) (by omega))) <| wR (kC jR) <| wE (kB (by have h := eM (jD ((jj : Int) : Rat)) (jD om) ((jj : Int) : Rat) om (jY (kA bn12) (by decide)) (jY (kA hom) (by decide)); rw [(Rat.mul_comm _ _)] at h; exact h)) <| wE (oBd pl113 cA mZ) <| wE (kB (q_unmN lx ly lz la lb lc ld lf lu lv rx ry rz ra rb rc rd rf ru rv b0 b1 b2 e00 e01 e02 e10 e11 e12 e20 e21 e22 xI xH xJ qE kZ qA qJ qK qI qD qB qC right (om * ((ii : Int) : Rat)) (om * ((jj : Int) : Rat)) (qu bn11) (qu bn13) tx ty tz ta tb tc td tf tu tv d0 hd0 d1 hd1 d2 hd2 hz0 hz1 hz2 hsd hst (of_decide_eq_true hs2))) <| wM <| wE vA <| wE vA <| wH (hc := by kernel_rfl) (uK 7 cA mZ) <| wT (qG mB) <| wM <| wZ) ?_
    refine jA <| kx [(128, (vb false))] [] (zM <| zZ) ?_
    refine jT ?_
    refine jB <| kf [(22, (.own 6 3 1 ((row ++ [-1]).length)))] [(6, some (bm qL (row ++ [-1])))] (zM <| zM <| zE (mC uB ze3 zo3) <| zA qL row [-1] rfl uB ze3 by3 <| zM <| zF) ?_
    refine kx [(23, (vi (ii + ((1 : Nat) : Int))))] [] (zM <| zE (zAd (ii + ((1 : Nat) : Int)) (hr := by exact (qO rfl (by simp only [vP]; omega) (by simp only [vS]; omega)))) <| zM <| zZ) ?_
    exact ⟨(i + 1, ii + 1, row ++ [-1]), wk, ⟨by omega, by omega, rs_step hrow (by show _ = (rsV e00 e01 e02 e10 e11 e12 e20 e21 e22 ta tb tc td tf tu tv w h px om) (wx + ((i : Nat) : Int)) jj; rw [← hii]; subst hX hY hd0 hd1 hd2; exact (rsAt_n (of_decide_eq_true hs2)).symm)⟩, (by first | omega | (dsimp only; omega))⟩
  ·replace h2 := of_decide_eq_false h2
   refine kJ <| kP (xY (t := 22) (k := 6) (es := List.map qL row) rfl rfl (vY _ _ (fun _ => rfl)) (xP _ _ rfl) (zB _ _ (fun _ => rfl) rfl)) ?_
   refine kf [(20, (.own 5 22 1 ((out ++ [row]).length)))] [(5, some (bm kO (out ++ [row])))] (zM <| zM <| zE (mC gN ze22 zo22) <| zA kO out [row] rfl gN ze22 by22 <| zM <| zF) ?_
   refine kx [(21, (vi (jj + ((1 : Nat) : Int))))] [] (zM <| zE (zAd (jj + ((1 : Nat) : Int)) (hr := by exact (qO rfl (by simp only [vP]; omega) (by simp only [vS]; omega)))) <| zM <| zZ) ?_
   exact ⟨(k + 1, jj + 1, out ++ [row]), wk, ⟨by omega, by omega, rs_step ho (by rw [hrow, hjj, show i = (vx - wx + 1).toNat by omega]; rfl)⟩, (by first | omega | (dsimp only; omega))⟩
 ·replace h1 := of_decide_eq_false h1
  refine kJ <| jA <| kx [(12, (.own 5 22 1 out.length)), (13, (kD 0))] [] (zM <| zM <| zM <| zZ) ?_
  refine kP (xY (t := 12) (k := 5) (es := List.map kO out) rfl rfl (vY _ _ (fun _ => rfl)) (xP _ _ rfl) (zB _ _ (fun _ => rfl) rfl)) ?_
  refine jF ⟨_, (.tmp (d := (.sl 22 1 (List.map kO out))) rfl (.tmp (d := (.val (.int .i64 (((0 : Nat) : Int))))) rfl .nil)), ?_⟩
  rw [ho, show k = (vy - wy + 1).toNat by omega]; rfl
end Go.Proofs.YtapjldagikfcmaaGreat
