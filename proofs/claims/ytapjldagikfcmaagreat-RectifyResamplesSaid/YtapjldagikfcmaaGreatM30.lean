/- Part 30 of a proof: rules, plain facts, and functions walked. -/
import Derived.Test.YtapjldagikfcmaaGreatM29
import Derived.Test.YtapjldagikfcmaaGreatM11
namespace Go.Proofs.YtapjldagikfcmaaGreat
open Go.Fid
set_option maxRecDepth 4000
set_option linter.unusedVariables false
set_option linter.unusedSimpArgs false
theorem cb45 : callB Tryz.prog 45 = true := by kernel_rfl
theorem cb115 : callB Tryz.prog 115 = true := by kernel_rfl
theorem cb116 : callB Tryz.prog 116 = true := by kernel_rfl
theorem cb212 : callB Tryz.prog 212 = true := by kernel_rfl
theorem pl52 : cJ Tryz.prog 52 = some [(0, 1), (1, 1), (2, 1)] := by kernel_rfl
theorem pl56 : cJ Tryz.prog 56 = some [(0, 3), (3, 4), (7, 1), (8, 2)] := by kernel_rfl
theorem pl97 : cJ Tryz.prog 97 = some [(0, 10), (10, 10)] := by kernel_rfl
theorem ze97 : xL Tryz.prog 97 = some [.int .i64 0, .int .i64 0, .int .i64 0, .int .i64 0, .int .i64 0, .int .i64 0, .int .i64 0, .int .i64 0, .int .i64 0, .int .i64 0, .int .i64 0, .int .i64 0, .int .i64 0, .int .i64 0, .int .i64 0, .int .i64 0, .int .i64 0, .int .i64 0, .int .i64 0, .int .i64 0] := by kernel_rfl
theorem zo97 : cD [.int .i64 0, .int .i64 0, .int .i64 0, .int .i64 0, .int .i64 0, .int .i64 0, .int .i64 0, .int .i64 0, .int .i64 0, .int .i64 0, .int .i64 0, .int .i64 0, .int .i64 0, .int .i64 0, .int .i64 0, .int .i64 0, .int .i64 0, .int .i64 0, .int .i64 0, .int .i64 0] [.val (.int .i64 0), .val (.int .i64 0), .val (.int .i64 0), .val (.int .i64 0), .val (.int .i64 0), .val (.int .i64 0), .val (.int .i64 0), .val (.int .i64 0), .val (.int .i64 0), .val (.int .i64 0), .val (.int .i64 0), .val (.int .i64 0), .val (.int .i64 0), .val (.int .i64 0), .val (.int .i64 0), .val (.int .i64 0), .val (.int .i64 0), .val (.int .i64 0), .val (.int .i64 0), .val (.int .i64 0)] := by simp [cD, Value.oneCell']
theorem q_tmat (m00 m01 m02 m10 m11 m12 m20 m21 m22 : Rat) (hm00 : QL m00 100000000) (hm01 : QL m01 100000000) (hm02 : QL m02 100000000) (hm10 : QL m10 100000000) (hm11 : QL m11 100000000) (hm12 : QL m12 100000000) (hm20 : QL m20 100000000) (hm21 : QL m21 100000000) (hm22 : QL m22 100000000) : kH Tryz.prog 212 [(uA (A3.mk (A3.mk (jD m00) (jD m01) (jD m02)) (A3.mk (jD m10) (jD m11) (jD m12)) (A3.mk (jD m20) (jD m21) (jD m22))))] (.sl 62 1 (List.map qH [[(jD m00), (jD m01), (jD m02)], [(jD m10), (jD m11), (jD m12)], [(jD m20), (jD m21), (jD m22)]])) := by
 let y1 := (uA (A3.mk (A3.mk (jD m00) (jD m01) (jD m02)) (A3.mk (jD m10) (jD m11) (jD m12)) (A3.mk (jD m20) (jD m21) (jD m22))))
 refine jM Tryz.func212 rfl cb212 rfl ?_
 show uY _ _ _ _ ⟨[(0, (.d y1))], []⟩
 refine jA <| kx [(1, (.ref 0 0))] [(0, some (bx y1))] (zN (vD 0) <| zE (aX 62 1) <| zZ) ?_
 refine jA <| kx [(3, (.own 1 62 1 0))] [(1, some (bm qH []))] (zO 1 62 1 <| zZ) ?_
 refine jA <| jA <| kx [(6, (.d y1)), (7, (kD 0))] [] (zR (kC nK) <| zM <| zZ) ?_
 refine jE <| qF 20 ?_
 refine qU <| jA <| kx [(8, (vb true))] [] (zE (kR true qY) <| zZ) ?_
 refine jA <| jX ?_
 refine jB <| jA <| jE <| jA <| kx [(5, (.ref 2 0))] [(2, some (bx (jK (A3.mk (jD m00) (jD m01) (jD m02)))))] (zE (oXa vK qX (fun h => by cases h) 0) <| zH (uK 2 nD nC) <| zT (qG qX) <| zZ) ?_
 refine kf [(3, (.own 1 62 1 (([] ++ [[(jD m00), (jD m01), (jD m02)]]).length)))] [(1, some (bm qH ([] ++ [[(jD m00), (jD m01), (jD m02)]])))] (zM <| zE (vL uI 0) <| zR (kC jR) <| zE (vL uI 1) <| zR (kC jR) <| zE (vL uI 2) <| zR (kC jR) <| zE (mC vZ qZ uF) <| zE (mC yT bW zo62) <| zA qH [] [[(jD m00), (jD m01), (jD m02)]] rfl yT bW by62 (hbig := by exact (by simp +zetaDelta [maxLen] <;> omega)) (hbig' := by exact (by simp +zetaDelta <;> omega)) <| zM <| zF) ?_
 refine kx [(7, (kD 1))] [] (zE (uE 1 (hr := by decide)) <| zM <| zZ) ?_
 refine jJ (jW.refl _) ?_
 refine jA <| kx [(8, (vb true))] [] (zE (kR true qY) <| zZ) ?_
 refine jA <| jX ?_
 refine jB <| jA <| jE <| jA <| kx [(5, (.ref 3 0))] [(3, some (bx (jK (A3.mk (jD m10) (jD m11) (jD m12)))))] (zE (oXa vK qX (fun h => by cases h) 1) <| zH (uK 3 nD nC) <| zT (qG qX) <| zZ) ?_
 refine kf [(3, (.own 1 62 1 ((([] ++ [[(jD m00), (jD m01), (jD m02)]]) ++ [[(jD m10), (jD m11), (jD m12)]]).length)))] [(1, some (bm qH (([] ++ [[(jD m00), (jD m01), (jD m02)]]) ++ [[(jD m10), (jD m11), (jD m12)]])))] (zM <| zE (vL uI 0) <| zR (kC jR) <| zE (vL uI 1) <| zR (kC jR) <| zE (vL uI 2) <| zR (kC jR) <| zE (mC vZ qZ uF) <| zE (mC yT bW zo62) <| zA qH ([] ++ [[(jD m00), (jD m01), (jD m02)]]) [[(jD m10), (jD m11), (jD m12)]] rfl yT bW by62 (hbig := by exact (by simp +zetaDelta [maxLen] <;> omega)) (hbig' := by exact (by simp +zetaDelta <;> omega)) <| zM <| zF) ?_
 refine kx [(7, (kD 2))] [] (zE (uE 2 (hr := by decide)) <| zM <| zZ) ?_
 refine jJ (jW.refl _) ?_
 refine jA <| kx [(8, (vb true))] [] (zE (kR true qY) <| zZ) ?_
 refine jA <| jX ?_
 refine jB <| jA <| jE <| jA <| kx [(5, (.ref 4 0))] [(4, some (bx (jK (A3.mk (jD m20) (jD m21) (jD m22)))))] (zE (oXa vK qX (fun h => by cases h) 2) <| zH (uK 4 nD nC) <| zT (qG qX) <| zZ) ?_
 refine kf [(3, (.own 1 62 1 (((([] ++ [[(jD m00), (jD m01), (jD m02)]]) ++ [[(jD m10), (jD m11), (jD m12)]]) ++ [[(jD m20), (jD m21), (jD m22)]]).length)))] [(1, some (bm qH ((([] ++ [[(jD m00), (jD m01), (jD m02)]]) ++ [[(jD m10), (jD m11), (jD m12)]]) ++ [[(jD m20), (jD m21), (jD m22)]])))] (zM <| zE (vL uI 0) <| zR (kC jR) <| zE (vL uI 1) <| zR (kC jR) <| zE (vL uI 2) <| zR (kC jR) <| zE (mC vZ qZ uF) <| zE (mC yT bW zo62) <| zA qH (([] ++ [[(jD m00), (jD m01), (jD m02)]]) ++ [[(jD m10), (jD m11), (jD m12)]]) [[(jD m20), (jD m21), (jD m22)]] rfl yT bW by62 (hbig := by exact (by simp +zetaDelta [maxLen] <;> omega)) (hbig' := by exact (by simp +zetaDelta <;> omega)) <| zM <| zF) ?_
 refine kP (wk (l := [(3, (.own 1 62 1 (((([] ++ [[(jD m00), (jD m01), (jD m02)]]) ++ [[(jD m10), (jD m11), (jD m12)]]) ++ [[(jD m20), (jD m21), (jD m22)]]).length))), (6, (.d y1)), (7, (kD 2))]) (b := [(1, some (bm qH ((([] ++ [[(jD m00), (jD m01), (jD m02)]]) ++ [[(jD m10), (jD m11), (jD m12)]]) ++ [[(jD m20), (jD m21), (jD m22)]])))])) ?_
 refine kx [(7, (kD 3))] [] (zE (uE 3 (hr := by decide)) <| zM <| zZ) ?_
 refine jJ (jW.refl _) ?_
 refine jA <| kx [(8, (vb false))] [] (zE (kR false qY) <| zZ) ?_
 refine jA <| jT ?_
 refine kJ <| jA <| kP (xY (t := 3) (k := 1) (es := List.map qH ((([] ++ [[(jD m00), (jD m01), (jD m02)]]) ++ [[(jD m10), (jD m11), (jD m12)]]) ++ [[(jD m20), (jD m21), (jD m22)]])) rfl rfl (vY _ _ (fun _ => rfl)) (xP _ _ rfl) (zB _ _ (fun _ => rfl) rfl)) ?_
 refine kx [(2, (vl 62 1 qH ((([] ++ [[(jD m00), (jD m01), (jD m02)]]) ++ [[(jD m10), (jD m11), (jD m12)]]) ++ [[(jD m20), (jD m21), (jD m22)]])))] [] (zM <| zM <| zZ) ?_
 refine jF ⟨_, (.tmp (d := (.sl 62 1 (List.map qH ((([] ++ [[(jD m00), (jD m01), (jD m02)]]) ++ [[(jD m10), (jD m11), (jD m12)]]) ++ [[(jD m20), (jD m21), (jD m22)]])))) rfl .nil), ?_⟩
 rfl
theorem q_fun (lx ly lz la lb lc ld lf lu lv rx ry rz ra rb rc rd rf ru rv : Int) (b0 b1 b2 e00 e01 e02 e10 e11 e12 e20 e21 e22 : Rat) (hF : RFr lx ly lz la lb lc ld rx ry rz ra rb rc rd b0 b1 b2 e00 e01 e02 e10 e11 e12 e20 e21 e22) (xI : QL b0 3) (xH : QL b1 3) (xJ : QL b2 3) (qE : QL e00 400) (kZ : QL e01 400) (qA : QL e02 400) (qJ : QL e10 400) (qK : QL e11 400) (qI : QL e12 400) (qD : QL e20 400) (qB : QL e21 400) (qC : QL e22 400) (p00 : Rat) (hp00 : (jH ((1 : Int) : Rat) ((0 : Int) : Rat) ((0 : Int) : Rat) (yX la lb lc ld) (yW la lb lc ld) (vX la lb lc ld)) = p00) (p01 : Rat) (hp01 : (jH ((0 : Int) : Rat) ((1 : Int) : Rat) ((0 : Int) : Rat) (yX la lb lc ld) (yW la lb lc ld) (vX la lb lc ld)) = p01) (p02 : Rat) (hp02 : (jH ((-lu : Int) : Rat) ((-lv : Int) : Rat) ((lf : Int) : Rat) (yX la lb lc ld) (yW la lb lc ld) (vX la lb lc ld)) = p02) (p10 : Rat) (hp10 : (jH ((1 : Int) : Rat) ((0 : Int) : Rat) ((0 : Int) : Rat) (gC la lb lc ld) (gD la lb lc ld) (xD la lb lc ld)) = p10) (p11 : Rat) (hp11 : (jH ((0 : Int) : Rat) ((1 : Int) : Rat) ((0 : Int) : Rat) (gC la lb lc ld) (gD la lb lc ld) (xD la lb lc ld)) = p11) (p12 : Rat) (hp12 : (jH ((-lu : Int) : Rat) ((-lv : Int) : Rat) ((lf : Int) : Rat) (gC la lb lc ld) (gD la lb lc ld) (xD la lb lc ld)) = p12) (p20 : Rat) (hp20 : (jH ((1 : Int) : Rat) ((0 : Int) : Rat) ((0 : Int) : Rat) (gI la lb lc ld) (gJ la lb lc ld) (xF la lb lc ld)) = p20) (p21 : Rat) (hp21 : (jH ((0 : Int) : Rat) ((1 : Int) : Rat) ((0 : Int) : Rat) (gI la lb lc ld) (gJ la lb lc ld) (xF la lb lc ld)) = p21) (p22 : Rat) (hp22 : (jH ((-lu : Int) : Rat) ((-lv : Int) : Rat) ((lf : Int) : Rat) (gI la lb lc ld) (gJ la lb lc ld) (xF la lb lc ld)) = p22) (q00 : Rat) (hq00 : (jH ((1 : Int) : Rat) ((0 : Int) : Rat) ((0 : Int) : Rat) (yX ra rb rc rd) (yW ra rb rc rd) (vX ra rb rc rd)) = q00) (q01 : Rat) (hq01 : (jH ((0 : Int) : Rat) ((1 : Int) : Rat) ((0 : Int) : Rat) (yX ra rb rc rd) (yW ra rb rc rd) (vX ra rb rc rd)) = q01) (q02 : Rat) (hq02 : (jH ((-ru : Int) : Rat) ((-rv : Int) : Rat) ((rf : Int) : Rat) (yX ra rb rc rd) (yW ra rb rc rd) (vX ra rb rc rd)) = q02) (q10 : Rat) (hq10 : (jH ((1 : Int) : Rat) ((0 : Int) : Rat) ((0 : Int) : Rat) (gC ra rb rc rd) (gD ra rb rc rd) (xD ra rb rc rd)) = q10) (q11 : Rat) (hq11 : (jH ((0 : Int) : Rat) ((1 : Int) : Rat) ((0 : Int) : Rat) (gC ra rb rc rd) (gD ra rb rc rd) (xD ra rb rc rd)) = q11) (q12 : Rat) (hq12 : (jH ((-ru : Int) : Rat) ((-rv : Int) : Rat) ((rf : Int) : Rat) (gC ra rb rc rd) (gD ra rb rc rd) (xD ra rb rc rd)) = q12) (q20 : Rat) (hq20 : (jH ((1 : Int) : Rat) ((0 : Int) : Rat) ((0 : Int) : Rat) (gI ra rb rc rd) (gJ ra rb rc rd) (xF ra rb rc rd)) = q20) (q21 : Rat) (hq21 : (jH ((0 : Int) : Rat) ((1 : Int) : Rat) ((0 : Int) : Rat) (gI ra rb rc rd) (gJ ra rb rc rd) (xF ra rb rc rd)) = q21) (q22 : Rat) (hq22 : (jH ((-ru : Int) : Rat) ((-rv : Int) : Rat) ((rf : Int) : Rat) (gI ra rb rc rd) (gJ ra rb rc rd) (xF ra rb rc rd)) = q22) (s00 : Rat) (hs00 : ((b1 * p20) - (b2 * p10)) = s00) (s01 : Rat) (hs01 : ((b1 * p21) - (b2 * p11)) = s01) (s02 : Rat) (hs02 : ((b1 * p22) - (b2 * p12)) = s02) (s10 : Rat) (hs10 : ((b2 * p00) - (b0 * p20)) = s10) (s11 : Rat) (hs11 : ((b2 * p01) - (b0 * p21)) = s11) (s12 : Rat) (hs12 : ((b2 * p02) - (b0 * p22)) = s12) (s20 : Rat) (hs20 : ((b0 * p10) - (b1 * p00)) = s20) (s21 : Rat) (hs21 : ((b0 * p11) - (b1 * p01)) = s21) (s22 : Rat) (hs22 : ((b0 * p12) - (b1 * p02)) = s22) (f00 : Rat) (hf00 : (jH s00 s10 s20 q00 q10 q20) = f00) (f01 : Rat) (hf01 : (jH s01 s11 s21 q00 q10 q20) = f01) (f02 : Rat) (hf02 : (jH s02 s12 s22 q00 q10 q20) = f02) (f10 : Rat) (hf10 : (jH s00 s10 s20 q01 q11 q21) = f10) (f11 : Rat) (hf11 : (jH s01 s11 s21 q01 q11 q21) = f11) (f12 : Rat) (hf12 : (jH s02 s12 s22 q01 q11 q21) = f12) (f20 : Rat) (hf20 : (jH s00 s10 s20 q02 q12 q22) = f20) (f21 : Rat) (hf21 : (jH s01 s11 s21 q02 q12 q22) = f21) (f22 : Rat) (hf22 : (jH s02 s12 s22 q02 q12 q22) = f22) (hl : uQ lx ly lz lu lv lf la lb lc ld = 0) (hr : uQ rx ry rz ru rv rf ra rb rc rd = 0) (hup : upV la lb lc ld ra rb rc rd b0 b1 b2 = false) : kH Tryz.prog 116 [(qQ (kT.mk (kG.mk (jQ.mk lx ly lz) (jL.mk la lb lc ld) lf (jU.mk lu lv)) (kG.mk (jQ.mk rx ry rz) (jL.mk ra rb rc rd) rf (jU.mk ru rv))))] (.tup [(.sl 62 1 (List.map qH [[(jD f00), (jD f01), (jD f02)], [(jD f10), (jD f11), (jD f12)], [(jD f20), (jD f21), (jD f22)]])), (.val (.int .i64 (0)))]) := by
 have hbl := vU hl
 have hbr := vU hr
 obtain ⟨hlx, hly, hlz, hlu, hlv, hlf, hlq⟩ := hbl
 obtain ⟨hrx, hry, hrz, hru, hrv, hrf, hrq⟩ := hbr
 obtain ⟨hla, hlb, hlc, hld, -⟩ := vQ hlq
 obtain ⟨hra, hrb, hrc, hrd, -⟩ := vQ hrq
 have hnl := gX hla hlb hlc hld
 have hnr := gX hra hrb hrc hrd
 have hz0 := fr_z0 hF hup
 have hz1 := fr_z1 hF hup
 have hz2 := fr_z2 hF hup
 let y1 := (qQ (kT.mk (kG.mk (jQ.mk lx ly lz) (jL.mk la lb lc ld) lf (jU.mk lu lv)) (kG.mk (jQ.mk rx ry rz) (jL.mk ra rb rc rd) rf (jU.mk ru rv))))
 refine jM Tryz.func116 rfl cb116 rfl ?_
 show uY _ _ _ _ ⟨[(0, (.d y1))], []⟩
 refine jA <| kx [(1, (.ref 0 0))] [(0, some (bx y1))] (zN (vD 0) <| zE (aX 62 1) <| zM <| zZ) ?_
 refine jA <| kx [(4, (.d (.cptr 1000001 (kX.cells (mA (RRp.mk (kG.mk (jQ.mk lx ly lz) (jL.mk la lb lc ld) lf (jU.mk lu lv)) (kG.mk (jQ.mk rx ry rz) (jL.mk ra rb rc rd) rf (jU.mk ru rv)) (A3.mk (jD b0) (jD b1) (jD b2)) (A3.mk (A3.mk (jD e00) (jD e01) (jD e02)) (A3.mk (jD e10) (jD e11) (jD e12)) (A3.mk (jD e20) (jD e21) (jD e22)))))) 0))), (5, (vi 0))] [] (zR (kC dE) <| zE (kB (q_rec lx ly lz la lb lc ld lf lu lv rx ry rz ra rb rc rd rf ru rv b0 b1 b2 e00 e01 e02 e10 e11 e12 e20 e21 e22 hF xI xH xJ qE kZ qA qJ qK qI qD qB qC hl hr hup)) <| zM <| zE vA <| zE vA <| zM <| zM <| zZ) ?_
 refine jA <| jA <| kx [(15, (vb false))] [] (zM <| zE (kR false eS) <| zZ) ?_
 refine jT ?_
 refine jB <| jA ?_
 have bn1 : QL (yX la lb lc ld) 3 := (kR00)
 have bn2 : QL (yW la lb lc ld) 3 := (kR01)
 have bn3 : QL (vX la lb lc ld) 3 := (kR02)
 have bn4 : QL (gC la lb lc ld) 3 := (kR10)
 have bn5 : QL (gD la lb lc ld) 3 := (kR11)
 have bn6 : QL (xD la lb lc ld) 3 := (kR12)
 have bn7 : QL (gI la lb lc ld) 3 := (kR20)
 have bn8 : QL (gJ la lb lc ld) 3 := (kR21)
 have bn9 : QL (xF la lb lc ld) 3 := (kR22)
 have bn10 : QL ((1 : Int) : Rat) 3 := (qi 1)
 have bn11 : QL ((0 : Int) : Rat) 3 := (qi 0)
 have bn12 : QL ((-lu : Int) : Rat) 3 := (qi (-lu))
 have bn13 : QL ((-lv : Int) : Rat) 3 := (qi (-lv))
 have bn14 : QL ((lf : Int) : Rat) 3 := (qi lf)
 have bn15 : QL p00 20 := (kF (Eq.symm hp00) (jS (n := 3) (k := 20) bn10 bn11 bn11 bn1 bn2 bn3 (by decide)))
 have bn16 : QL p01 20 := (kF (Eq.symm hp01) (jS (n := 3) (k := 20) bn11 bn10 bn11 bn1 bn2 bn3 (by decide)))
 have bn17 : QL p02 20 := (kF (Eq.symm hp02) (jS (n := 3) (k := 20) bn12 bn13 bn14 bn1 bn2 bn3 (by decide)))
 have bn18 : QL p10 20 := (kF (Eq.symm hp10) (jS (n := 3) (k := 20) bn10 bn11 bn11 bn4 bn5 bn6 (by decide)))
 have bn19 : QL p11 20 := (kF (Eq.symm hp11) (jS (n := 3) (k := 20) bn11 bn10 bn11 bn4 bn5 bn6 (by decide)))
 have bn20 : QL p12 20 := (kF (Eq.symm hp12) (jS (n := 3) (k := 20) bn12 bn13 bn14 bn4 bn5 bn6 (by decide)))
 have bn21 : QL p20 20 := (kF (Eq.symm hp20) (jS (n := 3) (k := 20) bn10 bn11 bn11 bn7 bn8 bn9 (by decide)))
 have bn22 : QL p21 20 := (kF (Eq.symm hp21) (jS (n := 3) (k := 20) bn11 bn10 bn11 bn7 bn8 bn9 (by decide)))
 have bn23 : QL p22 20 := (kF (Eq.symm hp22) (jS (n := 3) (k := 20) bn12 bn13 bn14 bn7 bn8 bn9 (by decide)))
 refine kd [(6, (.ref 1 0))] [(1, some (bx (uA (A3.mk (A3.mk (jD p00) (jD p10) (jD p20)) (A3.mk (jD p01) (jD p11) (jD p21)) (A3.mk (jD p02) (jD p12) (jD p22))))))] mo (wM <| wE oNd <| wE (oFc fo225_0) <| wE (oFc gB) <| wE (dH yP) <| wE (kB (q_turn la lb lc ld (by omega) (by omega) (by omega) (by omega) hlq)) <| wM <| wE oNd <| wE (oFc fo225_0) <| wE (dH zW) <| wE (kB (q_inner lx ly lz la lb lc ld lf lu lv (by omega) (by omega) (by omega))) <| wE (kB (by have h := q_mul (yX la lb lc ld) (yW la lb lc ld) (vX la lb lc ld) (gC la lb lc ld) (gD la lb lc ld) (xD la lb lc ld) (gI la lb lc ld) (gJ la lb lc ld) (xF la lb lc ld) (qu bn1) (qu bn2) (qu bn3) (qu bn4) (qu bn5) (qu bn6) (qu bn7) (qu bn8) (qu bn9) ((1 : Int) : Rat) ((0 : Int) : Rat) ((-lu : Int) : Rat) ((0 : Int) : Rat) ((1 : Int) : Rat) ((-lv : Int) : Rat) ((0 : Int) : Rat) ((0 : Int) : Rat) ((lf : Int) : Rat) (qu bn10) (qu bn11) (qu bn12) (qu bn11) (qu bn10) (qu bn13) (qu bn11) (qu bn11) (qu bn14); rw [hp00, hp01, hp02, hp10, hp11, hp12, hp20, hp21, hp22] at h; exact h)) <| wE (kB (cB p00 p01 p02 p10 p11 p12 p20 p21 p22 (qu bn15) (qu bn16) (qu bn17) (qu bn18) (qu bn19) (qu bn20) (qu bn21) (qu bn22) (qu bn23))) <| wN (uK 1 eI eK) <| wT (qG nK) <| wZ) ?_
 refine jA ?_
 have bn24 : QL (yX ra rb rc rd) 3 := (kR00)
 have bn25 : QL (yW ra rb rc rd) 3 := (kR01)
 have bn26 : QL (vX ra rb rc rd) 3 := (kR02)
 have bn27 : QL (gC ra rb rc rd) 3 := (kR10)
 have bn28 : QL (gD ra rb rc rd) 3 := (kR11)
 have bn29 : QL (xD ra rb rc rd) 3 := (kR12)
 have bn30 : QL (gI ra rb rc rd) 3 := (kR20)
 have bn31 : QL (gJ ra rb rc rd) 3 := (kR21)
 have bn32 : QL (xF ra rb rc rd) 3 := (kR22)
 have bn33 : QL ((-ru : Int) : Rat) 3 := (qi (-ru))
 have bn34 : QL ((-rv : Int) : Rat) 3 := (qi (-rv))
 have bn35 : QL ((rf : Int) : Rat) 3 := (qi rf)
 have bn36 : QL q00 20 := (kF (Eq.symm hq00) (jS (n := 3) (k := 20) bn10 bn11 bn11 bn24 bn25 bn26 (by decide)))
 have bn37 : QL q01 20 := (kF (Eq.symm hq01) (jS (n := 3) (k := 20) bn11 bn10 bn11 bn24 bn25 bn26 (by decide)))
 have bn38 : QL q02 20 := (kF (Eq.symm hq02) (jS (n := 3) (k := 20) bn33 bn34 bn35 bn24 bn25 bn26 (by decide)))
 have bn39 : QL q10 20 := (kF (Eq.symm hq10) (jS (n := 3) (k := 20) bn10 bn11 bn11 bn27 bn28 bn29 (by decide)))
 have bn40 : QL q11 20 := (kF (Eq.symm hq11) (jS (n := 3) (k := 20) bn11 bn10 bn11 bn27 bn28 bn29 (by decide)))
 have bn41 : QL q12 20 := (kF (Eq.symm hq12) (jS (n := 3) (k := 20) bn33 bn34 bn35 bn27 bn28 bn29 (by decide)))
 have bn42 : QL q20 20 := (kF (Eq.symm hq20) (jS (n := 3) (k := 20) bn10 bn11 bn11 bn30 bn31 bn32 (by decide)))
 have bn43 : QL q21 20 := (kF (Eq.symm hq21) (jS (n := 3) (k := 20) bn11 bn10 bn11 bn30 bn31 bn32 (by decide)))
 have bn44 : QL q22 20 := (kF (Eq.symm hq22) (jS (n := 3) (k := 20) bn33 bn34 bn35 bn30 bn31 bn32 (by decide)))
 refine kd [(7, (.ref 2 0))] [(2, some (bx (uA (A3.mk (A3.mk (jD q00) (jD q10) (jD q20)) (A3.mk (jD q01) (jD q11) (jD q21)) (A3.mk (jD q02) (jD q12) (jD q22))))))] mo (wM <| wE oNd <| wE (oFc fo225_1) <| wE (oFc gB) <| wE (dH yP) <| wE (kB (q_turn ra rb rc rd (by omega) (by omega) (by omega) (by omega) hrq)) <| wM <| wE oNd <| wE (oFc fo225_1) <| wE (dH zW) <| wE (kB (q_inner rx ry rz ra rb rc rd rf ru rv (by omega) (by omega) (by omega))) <| wE (kB (by have h := q_mul (yX ra rb rc rd) (yW ra rb rc rd) (vX ra rb rc rd) (gC ra rb rc rd) (gD ra rb rc rd) (xD ra rb rc rd) (gI ra rb rc rd) (gJ ra rb rc rd) (xF ra rb rc rd) (qu bn24) (qu bn25) (qu bn26) (qu bn27) (qu bn28) (qu bn29) (qu bn30) (qu bn31) (qu bn32) ((1 : Int) : Rat) ((0 : Int) : Rat) ((-ru : Int) : Rat) ((0 : Int) : Rat) ((1 : Int) : Rat) ((-rv : Int) : Rat) ((0 : Int) : Rat) ((0 : Int) : Rat) ((rf : Int) : Rat) (qu bn10) (qu bn11) (qu bn33) (qu bn11) (qu bn10) (qu bn34) (qu bn11) (qu bn11) (qu bn35); rw [hq00, hq01, hq02, hq10, hq11, hq12, hq20, hq21, hq22] at h; exact h)) <| wE (kB (cB q00 q01 q02 q10 q11 q12 q20 q21 q22 (qu bn36) (qu bn37) (qu bn38) (qu bn39) (qu bn40) (qu bn41) (qu bn42) (qu bn43) (qu bn44))) <| wN (uK 2 eI eK) <| wT (qG nK) <| wZ) ?_
 refine jA ?_
 have bn45 : QL s00 47 := (kF (Eq.symm hs00) (xG (k := 47) (jG (k := 23) xH bn21 (by decide)) (jG (k := 23) xJ bn18 (by decide)) (by decide)))
 have bn46 : QL s10 47 := (kF (Eq.symm hs10) (xG (k := 47) (jG (k := 23) xJ bn15 (by decide)) (jG (k := 23) xI bn21 (by decide)) (by decide)))
 have bn47 : QL s20 47 := (kF (Eq.symm hs20) (xG (k := 47) (jG (k := 23) xI bn18 (by decide)) (jG (k := 23) xH bn15 (by decide)) (by decide)))
 have bn48 : QL s01 47 := (kF (Eq.symm hs01) (xG (k := 47) (jG (k := 23) xH bn22 (by decide)) (jG (k := 23) xJ bn19 (by decide)) (by decide)))
 have bn49 : QL s11 47 := (kF (Eq.symm hs11) (xG (k := 47) (jG (k := 23) xJ bn16 (by decide)) (jG (k := 23) xI bn22 (by decide)) (by decide)))
 have bn50 : QL s21 47 := (kF (Eq.symm hs21) (xG (k := 47) (jG (k := 23) xI bn19 (by decide)) (jG (k := 23) xH bn16 (by decide)) (by decide)))
 have bn51 : QL s02 47 := (kF (Eq.symm hs02) (xG (k := 47) (jG (k := 23) xH bn23 (by decide)) (jG (k := 23) xJ bn20 (by decide)) (by decide)))
 have bn52 : QL s12 47 := (kF (Eq.symm hs12) (xG (k := 47) (jG (k := 23) xJ bn17 (by decide)) (jG (k := 23) xI bn23 (by decide)) (by decide)))
 have bn53 : QL s22 47 := (kF (Eq.symm hs22) (xG (k := 47) (jG (k := 23) xI bn20 (by decide)) (jG (k := 23) xH bn17 (by decide)) (by decide)))
 refine kd [(8, (.ref 3 0))] [(3, some (bx (uA (A3.mk (A3.mk (jD s00) (jD s01) (jD s02)) (A3.mk (jD s10) (jD s11) (jD s12)) (A3.mk (jD s20) (jD s21) (jD s22))))))] mo (wM <| wE oNd <| wE (oFc aG) <| wE (dH qX) <| wE (vL vK 0) <| wR (kC qX) <| wE (kB (by have h := q_cross b0 b1 b2 (qu xI) (qu xH) (qu xJ) p00 p10 p20 (qu bn15) (qu bn18) (qu bn21); rw [hs00, hs10, hs20] at h; exact h)) <| wM <| wE oNd <| wE (oFc aG) <| wE (dH qX) <| wE (vL vK 1) <| wR (kC qX) <| wE (kB (by have h := q_cross b0 b1 b2 (qu xI) (qu xH) (qu xJ) p01 p11 p21 (qu bn16) (qu bn19) (qu bn22); rw [hs01, hs11, hs21] at h; exact h)) <| wM <| wE oNd <| wE (oFc aG) <| wE (dH qX) <| wE (vL vK 2) <| wR (kC qX) <| wE (kB (by have h := q_cross b0 b1 b2 (qu xI) (qu xH) (qu xJ) p02 p12 p22 (qu bn17) (qu bn20) (qu bn23); rw [hs02, hs12, hs22] at h; exact h)) <| wE (oBf vK eI eK) <| wE (kB (cB s00 s10 s20 s01 s11 s21 s02 s12 s22 (qu bn45) (qu bn46) (qu bn47) (qu bn48) (qu bn49) (qu bn50) (qu bn51) (qu bn52) (qu bn53))) <| wN (uK 3 eI eK) <| wT (qG nK) <| wZ) ?_
 refine jA ?_
 have bn54 : QL f00 284 := (kF (Eq.symm hf00) (jS (n := 47) (k := 284) bn45 bn46 bn47 (qu bn36) (qu bn39) (qu bn42) (by decide)))
 have bn55 : QL f01 284 := (kF (Eq.symm hf01) (jS (n := 47) (k := 284) bn48 bn49 bn50 (qu bn36) (qu bn39) (qu bn42) (by decide)))
 have bn56 : QL f02 284 := (kF (Eq.symm hf02) (jS (n := 47) (k := 284) bn51 bn52 bn53 (qu bn36) (qu bn39) (qu bn42) (by decide)))
 have bn57 : QL f10 284 := (kF (Eq.symm hf10) (jS (n := 47) (k := 284) bn45 bn46 bn47 (qu bn37) (qu bn40) (qu bn43) (by decide)))
 have bn58 : QL f11 284 := (kF (Eq.symm hf11) (jS (n := 47) (k := 284) bn48 bn49 bn50 (qu bn37) (qu bn40) (qu bn43) (by decide)))
 have bn59 : QL f12 284 := (kF (Eq.symm hf12) (jS (n := 47) (k := 284) bn51 bn52 bn53 (qu bn37) (qu bn40) (qu bn43) (by decide)))
 have bn60 : QL f20 284 := (kF (Eq.symm hf20) (jS (n := 47) (k := 284) bn45 bn46 bn47 (qu bn38) (qu bn41) (qu bn44) (by decide)))
 have bn61 : QL f21 284 := (kF (Eq.symm hf21) (jS (n := 47) (k := 284) bn48 bn49 bn50 (qu bn38) (qu bn41) (qu bn44) (by decide)))
 have bn62 : QL f22 284 := (kF (Eq.symm hf22) (jS (n := 47) (k := 284) bn51 bn52 bn53 (qu bn38) (qu bn41) (qu bn44) (by decide)))
 refine kx [(2, (vl 62 1 qH [[(jD f00), (jD f01), (jD f02)], [(jD f10), (jD f11), (jD f12)], [(jD f20), (jD f21), (jD f22)]])), (3, (kD 0))] [] (zR (kC nK) <| zR (kC nK) <| zE (kB (by have h := q_mul q00 q10 q20 q01 q11 q21 q02 q12 q22 (qu bn36) (qu bn39) (qu bn42) (qu bn37) (qu bn40) (qu bn43) (qu bn38) (qu bn41) (qu bn44) s00 s01 s02 s10 s11 s12 s20 s21 s22 (qu bn45) (qu bn48) (qu bn51) (qu bn46) (qu bn49) (qu bn52) (qu bn47) (qu bn50) (qu bn53); rw [hf00, hf01, hf02, hf10, hf11, hf12, hf20, hf21, hf22] at h; exact h)) <| zE (kB (q_tmat f00 f01 f02 f10 f11 f12 f20 f21 f22 (qu bn54) (qu bn55) (qu bn56) (qu bn57) (qu bn58) (qu bn59) (qu bn60) (qu bn61) (qu bn62))) <| zM <| zM <| zZ) ?_
 refine jF ⟨_, (.tmp (d := (.sl 62 1 (List.map qH [[(jD f00), (jD f01), (jD f02)], [(jD f10), (jD f11), (jD f12)], [(jD f20), (jD f21), (jD f22)]]))) rfl (.tmp (d := (.val (.int .i64 (((0 : Nat) : Int))))) rfl .nil)), ?_⟩
 rfl
theorem qs_exa  : kH Tryz.prog 115 [] (qQ (kT.mk (kG.mk (jQ.mk 0 0 0) (jL.mk 1 0 0 0) 100 (jU.mk 0 0)) (kG.mk (jQ.mk 10 0 0) (jL.mk 1 0 0 0) 100 (jU.mk 0 0)))) := by
 refine jM Tryz.func115 rfl cb115 rfl ?_
 show uY _ _ _ _ ⟨[], []⟩
 refine jA <| kx [(0, (.ref 0 0))] [(0, some (bx (qQ (kT.mk (kG.mk (jQ.mk 0 0 0) (jL.mk 0 0 0 0) 0 (jU.mk 0 0)) (kG.mk (jQ.mk 0 0 0) (jL.mk 0 0 0 0) 0 (jU.mk 0 0))))))] (zN (uK 0 ze97 zo97) <| zZ) ?_
 refine jA <| kx [(1, (.ref 1 0))] [(1, some (bx (uT (kG.mk (jQ.mk 0 0 0) (jL.mk 1 0 0 0) 100 (jU.mk 0 0)))))] (zE (oBd pl50 ze50 zo50) <| zE (oBd pl56 aY aZ) <| zN (uK 1 aY aZ) <| zT (qG zW) <| zZ) ?_
 refine jA <| kx [(2, (.ref 2 0))] [(2, some (bx (uT (kG.mk (jQ.mk 0 0 0) (jL.mk 1 0 0 0) 100 (jU.mk 0 0)))))] (zR (kC zW) <| zN (uK 2 aY aZ) <| zT (qG zW) <| zZ) ?_
 refine jA <| kx [] [(2, some (bx (uT (kG.mk (jQ.mk 10 0 0) (jL.mk 1 0 0 0) 100 (jU.mk 0 0)))))] (zE (kE gE) <| zE (kE dF) <| zT (qG qP) <| zZ) ?_
 refine jA <| kx [] [(0, some (bx (qQ (kT.mk (kG.mk (jQ.mk 0 0 0) (jL.mk 1 0 0 0) 100 (jU.mk 0 0)) (kG.mk (jQ.mk 10 0 0) (jL.mk 1 0 0 0) 100 (jU.mk 0 0))))))] (zR (kC zW) <| zR (kC zW) <| zE (oBd pl97 ze97 zo97) <| zT (qG dE) <| zZ) ?_
 refine jF ⟨_, (qS (cs := (bx (qQ (kT.mk (kG.mk (jQ.mk 0 0 0) (jL.mk 1 0 0 0) 100 (jU.mk 0 0)) (kG.mk (jQ.mk 10 0 0) (jL.mk 1 0 0 0) 100 (jU.mk 0 0)))))) (d := (qQ (kT.mk (kG.mk (jQ.mk 0 0 0) (jL.mk 1 0 0 0) 100 (jU.mk 0 0)) (kG.mk (jQ.mk 10 0 0) (jL.mk 1 0 0 0) 100 (jU.mk 0 0))))) rfl rfl dE rfl rfl .nil), ?_⟩
 rfl
set_option maxHeartbeats 4000000 in
theorem eL  : kH Tryz.prog 45 [] (.val (.bool (true))) := by
 let y1 := (jD ((jH ((1 : Int) : Rat) ((0 : Int) : Rat) ((0 : Int) : Rat) ((10 : Int) : Rat) ((0 : Int) : Rat) ((0 : Int) : Rat)) / (jH ((0 : Int) : Rat) ((0 : Int) : Rat) ((1 : Int) : Rat) ((20 : Int) : Rat) ((30 : Int) : Rat) ((1000 : Int) : Rat))))
 refine jM Tryz.func45 rfl cb45 rfl ?_
 show uY _ _ _ _ ⟨[], []⟩
 refine jA <| kx [] [] (zM <| zZ) ?_
 refine jA ?_
 have bn1 : QL ((jH ((1 : Int) : Rat) ((0 : Int) : Rat) ((0 : Int) : Rat) ((20 : Int) : Rat) ((30 : Int) : Rat) ((1000 : Int) : Rat)) / (jH ((0 : Int) : Rat) ((0 : Int) : Rat) ((1 : Int) : Rat) ((20 : Int) : Rat) ((30 : Int) : Rat) ((1000 : Int) : Rat))) 4804 := (kU (k := 4804) (jS (n := 400) (k := 2402) (kL (z := 1) (n := 400) (Nat.le_trans (jN (by decide) (by decide)) (by decide)) (by decide)) (kL (z := 0) (n := 400) (Nat.le_trans (jN (by decide) (by decide)) (by decide)) (by decide)) (kL (z := 0) (n := 400) (Nat.le_trans (jN (by decide) (by decide)) (by decide)) (by decide)) (qV (kL (z := 20) (n := 3) (Nat.le_trans (vR (by decide)) (by decide)) (by decide)) (by decide)) (qV (kL (z := 30) (n := 3) (Nat.le_trans (vR (by decide)) (by decide)) (by decide)) (by decide)) (qV (kL (z := 1000) (n := 3) (Nat.le_trans (vR (by decide)) (by decide)) (by decide)) (by decide)) (by decide)) (jS (n := 400) (k := 2402) (kL (z := 0) (n := 400) (Nat.le_trans (jN (by decide) (by decide)) (by decide)) (by decide)) (kL (z := 0) (n := 400) (Nat.le_trans (jN (by decide) (by decide)) (by decide)) (by decide)) (kL (z := 1) (n := 400) (Nat.le_trans (jN (by decide) (by decide)) (by decide)) (by decide)) (qV (kL (z := 20) (n := 3) (Nat.le_trans (vR (by decide)) (by decide)) (by decide)) (by decide)) (qV (kL (z := 30) (n := 3) (Nat.le_trans (vR (by decide)) (by decide)) (by decide)) (by decide)) (qV (kL (z := 1000) (n := 3) (Nat.le_trans (vR (by decide)) (by decide)) (by decide)) (by decide)) (by decide)) (by decide))
 have bn2 : QL ((jH ((0 : Int) : Rat) ((1 : Int) : Rat) ((0 : Int) : Rat) ((20 : Int) : Rat) ((30 : Int) : Rat) ((1000 : Int) : Rat)) / (jH ((0 : Int) : Rat) ((0 : Int) : Rat) ((1 : Int) : Rat) ((20 : Int) : Rat) ((30 : Int) : Rat) ((1000 : Int) : Rat))) 4804 := (kU (k := 4804) (jS (n := 400) (k := 2402) (kL (z := 0) (n := 400) (Nat.le_trans (jN (by decide) (by decide)) (by decide)) (by decide)) (kL (z := 1) (n := 400) (Nat.le_trans (jN (by decide) (by decide)) (by decide)) (by decide)) (kL (z := 0) (n := 400) (Nat.le_trans (jN (by decide) (by decide)) (by decide)) (by decide)) (qV (kL (z := 20) (n := 3) (Nat.le_trans (vR (by decide)) (by decide)) (by decide)) (by decide)) (qV (kL (z := 30) (n := 3) (Nat.le_trans (vR (by decide)) (by decide)) (by decide)) (by decide)) (qV (kL (z := 1000) (n := 3) (Nat.le_trans (vR (by decide)) (by decide)) (by decide)) (by decide)) (by decide)) (jS (n := 400) (k := 2402) (kL (z := 0) (n := 400) (Nat.le_trans (jN (by decide) (by decide)) (by decide)) (by decide)) (kL (z := 0) (n := 400) (Nat.le_trans (jN (by decide) (by decide)) (by decide)) (by decide)) (kL (z := 1) (n := 400) (Nat.le_trans (jN (by decide) (by decide)) (by decide)) (by decide)) (qV (kL (z := 20) (n := 3) (Nat.le_trans (vR (by decide)) (by decide)) (by decide)) (by decide)) (qV (kL (z := 30) (n := 3) (Nat.le_trans (vR (by decide)) (by decide)) (by decide)) (by decide)) (qV (kL (z := 1000) (n := 3) (Nat.le_trans (vR (by decide)) (by decide)) (by decide)) (by decide)) (by decide)) (by decide))
 have bn3 : QL ((jH ((1 : Int) : Rat) ((0 : Int) : Rat) ((0 : Int) : Rat) ((10 : Int) : Rat) ((0 : Int) : Rat) ((0 : Int) : Rat)) / (jH ((0 : Int) : Rat) ((0 : Int) : Rat) ((1 : Int) : Rat) ((20 : Int) : Rat) ((30 : Int) : Rat) ((1000 : Int) : Rat))) 4804 := (kU (k := 4804) (jS (n := 400) (k := 2402) (kL (z := 1) (n := 400) (Nat.le_trans (jN (by decide) (by decide)) (by decide)) (by decide)) (kL (z := 0) (n := 400) (Nat.le_trans (jN (by decide) (by decide)) (by decide)) (by decide)) (kL (z := 0) (n := 400) (Nat.le_trans (jN (by decide) (by decide)) (by decide)) (by decide)) (qV (kL (z := 10) (n := 3) (jN (by decide) (by decide)) (by decide)) (by decide)) (qV (kL (z := 0) (n := 3) (jN (by decide) (by decide)) (by decide)) (by decide)) (qV (kL (z := 0) (n := 3) (jN (by decide) (by decide)) (by decide)) (by decide)) (by decide)) (jS (n := 400) (k := 2402) (kL (z := 0) (n := 400) (Nat.le_trans (jN (by decide) (by decide)) (by decide)) (by decide)) (kL (z := 0) (n := 400) (Nat.le_trans (jN (by decide) (by decide)) (by decide)) (by decide)) (kL (z := 1) (n := 400) (Nat.le_trans (jN (by decide) (by decide)) (by decide)) (by decide)) (qV (kL (z := 20) (n := 3) (Nat.le_trans (vR (by decide)) (by decide)) (by decide)) (by decide)) (qV (kL (z := 30) (n := 3) (Nat.le_trans (vR (by decide)) (by decide)) (by decide)) (by decide)) (qV (kL (z := 1000) (n := 3) (Nat.le_trans (vR (by decide)) (by decide)) (by decide)) (by decide)) (by decide)) (by decide))
 refine kx [(1, (.ref 0 0)), (2, (.ref 1 0)), (3, (vi 0))] [(0, some (bx (qM (uP.mk (jD ((jH ((1 : Int) : Rat) ((0 : Int) : Rat) ((0 : Int) : Rat) ((20 : Int) : Rat) ((30 : Int) : Rat) ((1000 : Int) : Rat)) / (jH ((0 : Int) : Rat) ((0 : Int) : Rat) ((1 : Int) : Rat) ((20 : Int) : Rat) ((30 : Int) : Rat) ((1000 : Int) : Rat)))) (jD ((jH ((0 : Int) : Rat) ((1 : Int) : Rat) ((0 : Int) : Rat) ((20 : Int) : Rat) ((30 : Int) : Rat) ((1000 : Int) : Rat)) / (jH ((0 : Int) : Rat) ((0 : Int) : Rat) ((1 : Int) : Rat) ((20 : Int) : Rat) ((30 : Int) : Rat) ((1000 : Int) : Rat)))))))), (1, some (bx (jP y1)))] (zE (kB qs_exa) <| zE (oBd pl52 ze52 zo52) <| zE (kB (q_prj 0 0 0 1 0 0 0 100 0 0 10 0 0 1 0 0 0 100 0 0 ((20 : Nat) : Int) ((30 : Nat) : Int) ((1000 : Nat) : Int) (by omega) (by omega) (by omega) ((10 : Int) : Rat) ((0 : Int) : Rat) ((0 : Int) : Rat) ((1 : Int) : Rat) ((0 : Int) : Rat) ((0 : Int) : Rat) ((0 : Int) : Rat) ((1 : Int) : Rat) ((0 : Int) : Rat) ((0 : Int) : Rat) ((0 : Int) : Rat) ((1 : Int) : Rat) (by decide +kernel) (kL (z := 10) (n := 3) (jN (by decide) (by decide)) (by decide)) (kL (z := 0) (n := 3) (jN (by decide) (by decide)) (by decide)) (kL (z := 0) (n := 3) (jN (by decide) (by decide)) (by decide)) (kL (z := 1) (n := 400) (Nat.le_trans (jN (by decide) (by decide)) (by decide)) (by decide)) (kL (z := 0) (n := 400) (Nat.le_trans (jN (by decide) (by decide)) (by decide)) (by decide)) (kL (z := 0) (n := 400) (Nat.le_trans (jN (by decide) (by decide)) (by decide)) (by decide)) (kL (z := 0) (n := 400) (Nat.le_trans (jN (by decide) (by decide)) (by decide)) (by decide)) (kL (z := 1) (n := 400) (Nat.le_trans (jN (by decide) (by decide)) (by decide)) (by decide)) (kL (z := 0) (n := 400) (Nat.le_trans (jN (by decide) (by decide)) (by decide)) (by decide)) (kL (z := 0) (n := 400) (Nat.le_trans (jN (by decide) (by decide)) (by decide)) (by decide)) (kL (z := 0) (n := 400) (Nat.le_trans (jN (by decide) (by decide)) (by decide)) (by decide)) (kL (z := 1) (n := 400) (Nat.le_trans (jN (by decide) (by decide)) (by decide)) (by decide)) ((20 : Int) : Rat) (by decide +kernel) ((30 : Int) : Rat) (by decide +kernel) ((1000 : Int) : Rat) (by decide +kernel) (by decide +kernel) (by decide +kernel) (by decide +kernel) (by decide +kernel))) <| zM <| zE vA <| zE vA <| zE vA <| zN (uK 0 cA mZ) <| zN (uK 1 qZ uF) <| zT (qG mB) <| zT (qG jR) <| zM <| zZ) ?_
 refine jA ?_
 have bn4 : QL (Rat.divInt 1 50) 3 := (uC (n := 3) (jN (by omega) (by omega)) (jN (by omega) (by omega)) (by decide))
 refine kx [(4, (.ref 2 0))] [(2, some (bx (jP (jD (Rat.divInt 1 50)))))] (zE (kB (qs_of ((1 : Nat) : Int) (by omega) (by omega) ((50 : Nat) : Int) (by omega) (by omega) (by decide +kernel))) <| zM <| zE vA <| zE vA <| zN (uK 2 qZ uF) <| zT (qG jR) <| zM <| zZ) ?_
 refine jA ?_
 have bn5 : QL (Rat.divInt 3 100) 3 := (uC (n := 3) (jN (by omega) (by omega)) (jN (by omega) (by omega)) (by decide))
 refine kx [(6, (.ref 3 0))] [(3, some (bx (jP (jD (Rat.divInt 3 100)))))] (zE (kB (qs_of ((3 : Nat) : Int) (by omega) (by omega) ((100 : Nat) : Int) (by omega) (by omega) (by decide +kernel))) <| zM <| zE vA <| zE vA <| zN (uK 3 qZ uF) <| zT (qG jR) <| zM <| zZ) ?_
 refine jA ?_
 have bn6 : QL (Rat.divInt 1 100) 3 := (uC (n := 3) (jN (by omega) (by omega)) (jN (by omega) (by omega)) (by decide))
 refine kx [(8, (.ref 4 0))] [(4, some (bx (jP (jD (Rat.divInt 1 100)))))] (zE (kB (qs_of ((1 : Nat) : Int) (by omega) (by omega) ((100 : Nat) : Int) (by omega) (by omega) (by decide +kernel))) <| zM <| zE vA <| zE vA <| zN (uK 4 qZ uF) <| zT (qG jR) <| zM <| zZ) ?_
 refine jA ?_
 have bn7 : QL ((0 : Int) : Rat) 3 := (kL (z := 0) (n := 3) (Nat.le_trans (vR (by decide)) (by decide)) (by decide))
 have bn8 : QL (((-1000) : Int) : Rat) 3 := (kL (z := (-1000)) (n := 3) (Nat.le_trans (vR (by decide)) (by decide)) (by decide))
 have bn9 : QL ((1000 : Int) : Rat) 3 := (kL (z := 1000) (n := 3) (Nat.le_trans (vR (by decide)) (by decide)) (by decide))
 refine kx [(10, (vl 62 1 qH [[(jD ((0 : Int) : Rat)), (jD ((0 : Int) : Rat)), (jD ((0 : Int) : Rat))], [(jD ((0 : Int) : Rat)), (jD ((0 : Int) : Rat)), (jD (((-1000) : Int) : Rat))], [(jD ((0 : Int) : Rat)), (jD ((1000 : Int) : Rat)), (jD ((0 : Int) : Rat))]])), (11, (vi 0))] [] (zE (kB qs_exa) <| zE (kB (q_fun 0 0 0 1 0 0 0 100 0 0 10 0 0 1 0 0 0 100 0 0 ((10 : Int) : Rat) ((0 : Int) : Rat) ((0 : Int) : Rat) ((1 : Int) : Rat) ((0 : Int) : Rat) ((0 : Int) : Rat) ((0 : Int) : Rat) ((1 : Int) : Rat) ((0 : Int) : Rat) ((0 : Int) : Rat) ((0 : Int) : Rat) ((1 : Int) : Rat) (by decide +kernel) (kL (z := 10) (n := 3) (jN (by decide) (by decide)) (by decide)) (kL (z := 0) (n := 3) (jN (by decide) (by decide)) (by decide)) (kL (z := 0) (n := 3) (jN (by decide) (by decide)) (by decide)) (kL (z := 1) (n := 400) (Nat.le_trans (jN (by decide) (by decide)) (by decide)) (by decide)) (kL (z := 0) (n := 400) (Nat.le_trans (jN (by decide) (by decide)) (by decide)) (by decide)) (kL (z := 0) (n := 400) (Nat.le_trans (jN (by decide) (by decide)) (by decide)) (by decide)) (kL (z := 0) (n := 400) (Nat.le_trans (jN (by decide) (by decide)) (by decide)) (by decide)) (kL (z := 1) (n := 400) (Nat.le_trans (jN (by decide) (by decide)) (by decide)) (by decide)) (kL (z := 0) (n := 400) (Nat.le_trans (jN (by decide) (by decide)) (by decide)) (by decide)) (kL (z := 0) (n := 400) (Nat.le_trans (jN (by decide) (by decide)) (by decide)) (by decide)) (kL (z := 0) (n := 400) (Nat.le_trans (jN (by decide) (by decide)) (by decide)) (by decide)) (kL (z := 1) (n := 400) (Nat.le_trans (jN (by decide) (by decide)) (by decide)) (by decide)) ((1 : Int) : Rat) (by decide +kernel) ((0 : Int) : Rat) (by decide +kernel) ((0 : Int) : Rat) (by decide +kernel) ((0 : Int) : Rat) (by decide +kernel) ((1 : Int) : Rat) (by decide +kernel) ((0 : Int) : Rat) (by decide +kernel) ((0 : Int) : Rat) (by decide +kernel) ((0 : Int) : Rat) (by decide +kernel) ((100 : Int) : Rat) (by decide +kernel) ((1 : Int) : Rat) (by decide +kernel) ((0 : Int) : Rat) (by decide +kernel) ((0 : Int) : Rat) (by decide +kernel) ((0 : Int) : Rat) (by decide +kernel) ((1 : Int) : Rat) (by decide +kernel) ((0 : Int) : Rat) (by decide +kernel) ((0 : Int) : Rat) (by decide +kernel) ((0 : Int) : Rat) (by decide +kernel) ((100 : Int) : Rat) (by decide +kernel) ((0 : Int) : Rat) (by decide +kernel) ((0 : Int) : Rat) (by decide +kernel) ((0 : Int) : Rat) (by decide +kernel) ((0 : Int) : Rat) (by decide +kernel) ((0 : Int) : Rat) (by decide +kernel) (((-1000) : Int) : Rat) (by decide +kernel) ((0 : Int) : Rat) (by decide +kernel) ((10 : Int) : Rat) (by decide +kernel) ((0 : Int) : Rat) (by decide +kernel) ((0 : Int) : Rat) (by decide +kernel) ((0 : Int) : Rat) (by decide +kernel) ((0 : Int) : Rat) (by decide +kernel) ((0 : Int) : Rat) (by decide +kernel) ((0 : Int) : Rat) (by decide +kernel) (((-1000) : Int) : Rat) (by decide +kernel) ((0 : Int) : Rat) (by decide +kernel) ((1000 : Int) : Rat) (by decide +kernel) ((0 : Int) : Rat) (by decide +kernel) (by decide +kernel) (by decide +kernel) (by decide +kernel))) <| zM <| zE vA <| zE vA <| zM <| zM <| zZ) ?_
 refine jA ?_
 have bn10 : QL ((-1000 : Int) : Rat) 1 := (kL (z := (-1000)) (vR (by decide)) (by decide))
 refine kd [(0, (vb true))] [] mo (wM <| wE (kR true xK) <| wM <| wM <| wE (kR true xK) <| wE yH <| wM <| wR (kC mB) <| wR (kC jR) <| wR (kC jR) <| wE (oBd pl113 cA mZ) <| wE (kB (qs_samep ((jH ((1 : Int) : Rat) ((0 : Int) : Rat) ((0 : Int) : Rat) ((20 : Int) : Rat) ((30 : Int) : Rat) ((1000 : Int) : Rat)) / (jH ((0 : Int) : Rat) ((0 : Int) : Rat) ((1 : Int) : Rat) ((20 : Int) : Rat) ((30 : Int) : Rat) ((1000 : Int) : Rat))) ((jH ((0 : Int) : Rat) ((1 : Int) : Rat) ((0 : Int) : Rat) ((20 : Int) : Rat) ((30 : Int) : Rat) ((1000 : Int) : Rat)) / (jH ((0 : Int) : Rat) ((0 : Int) : Rat) ((1 : Int) : Rat) ((20 : Int) : Rat) ((30 : Int) : Rat) ((1000 : Int) : Rat))) (qu bn1) (qu bn2) (Rat.divInt 1 50) (Rat.divInt 3 100) (qu bn4) (qu bn5) (by decide +kernel) (by decide +kernel))) <| wE yH <| wM <| wR (kC jR) <| wR (kC jR) <| wE (kR true (kB (by have h := g_same y1 (jD (Rat.divInt 1 100)) ((jH ((1 : Int) : Rat) ((0 : Int) : Rat) ((0 : Int) : Rat) ((10 : Int) : Rat) ((0 : Int) : Rat) ((0 : Int) : Rat)) / (jH ((0 : Int) : Rat) ((0 : Int) : Rat) ((1 : Int) : Rat) ((20 : Int) : Rat) ((30 : Int) : Rat) ((1000 : Int) : Rat))) (Rat.divInt 1 100) (jY (kA bn3) (by decide)) (jY (kA bn6) (by decide)); rw [sameR_of] at h; exact h)) (by exact (by decide +kernel))) <| wE yH <| wM <| wM <| wE (bJ yT 3) <| wE (kR true xK) <| wE yH <| wM <| wM <| wE (zS yT 1) <| wE (xN sh62) <| wE (bJ vZ 3) <| wE (kR true xK) <| wE yH <| wM <| wM <| wE (zS yT 1) <| wE (xN sh62) <| wE (zS vZ 2) <| wE (dH jR) <| wE (kB (nQ (-1000) (by decide) (by decide))) <| wE (kR true (kB (by have h := g_same (jD (((-1000) : Int) : Rat)) (jD ((-1000 : Int) : Rat)) (((-1000) : Int) : Rat) ((-1000 : Int) : Rat) (jY (kA bn8) (by decide)) (jY (kA bn10) (by decide)); rw [sameR_of] at h; exact h)) (by exact (by decide +kernel))) <| wE yH <| wM <| wZ) ?_
 refine jF ⟨_, (.tmp (d := (.val (.bool (true)))) rfl .nil), ?_⟩
 rfl
end Go.Proofs.YtapjldagikfcmaaGreat
namespace Go.Proofs.YtapjldagikfcmaaGreat
open Go.Fid
set_option maxRecDepth 4000
set_option linter.unusedVariables false
set_option linter.unusedSimpArgs false
end Go.Proofs.YtapjldagikfcmaaGreat
set_option linter.unusedVariables false
set_option linter.unusedSimpArgs false
namespace Go.Fid
def Bd (n : Int) (l : List Int) : Prop := ∀ x ∈ l, -n ≤ x ∧ x ≤ n
theorem Bd.get {n : Int} {l : List Int} (h : Bd n l) (hn : 0 ≤ n) (i : Nat) : -n ≤ l.getD i 0 ∧ l.getD i 0 ≤ n := by
  rw [List.getD_eq_getElem?_getD]
  cases e : l[i]? with
  | none => simp; omega
  | some x => exact h x (List.mem_of_getElem? e)
theorem Bd.up {m n : Int} {l : List Int} (h : Bd m l) (hm : m ≤ n) : Bd n l := fun x hx => by have := h x hx; omega
theorem take_one {l : List Int} {i : Nat} (h : i < l.length) : l.take (i + 1) = l.take i ++ [l.getD i 0] := by
  rw [List.take_add_one, List.getD_eq_getElem?_getD, List.getElem?_eq_getElem h]
  rfl
def nU (f : Int → Bool) : List Int → Nat → Int
  | [], _ => -1
  | x :: r, i => bif f x then ((i : Nat) : Int) else nU f r (i + 1)
theorem firstIx_step (f : Int → Bool) (l : List Int) (k : Nat) (h : k < l.length) (hf : f (l.getD k 0) = false) : nU f (l.drop k) k = nU f (l.drop (k + 1)) (k + 1) := by
  rw [List.drop_eq_getElem_cons h, nU, show f l[k] = false by rw [← hf, List.getD_eq_getElem?_getD, List.getElem?_eq_getElem h]; rfl]; rfl
theorem firstIx_at (f : Int → Bool) (l : List Int) (k : Nat) (h : k < l.length) (hf : f (l.getD k 0) = true) : nU f (l.drop k) k = ((k : Nat) : Int) := by
  rw [List.drop_eq_getElem_cons h, nU, show f l[k] = true by rw [← hf, List.getD_eq_getElem?_getD, List.getElem?_eq_getElem h]; rfl]; rfl
theorem firstIx_end (f : Int → Bool) (l : List Int) (k : Nat) (h : l.length ≤ k) : nU f (l.drop k) k = -1 := by rw [List.drop_eq_nil_of_le h]; rfl
theorem firstIx_any (f : Int → Bool) : ∀ (l : List Int) (i : Nat), decide (0 ≤ nU f l i) = l.any f
  | [], i => by simp [nU]
  | x :: r, i => by
    rw [nU, List.any_cons]
    cases hx : f x with
    | true => simp
    | false => simp only [cond_false, Bool.false_or]; exact firstIx_any f r (i + 1)
def mX (mx n : Int) : Bool := decide (n < 0) || decide (mx < n)
theorem wh_bd {w h : Int} (w1 : 1 ≤ w) (w2 : w ≤ 64) (w3 : 1 ≤ h) (w4 : h ≤ 64) : -4096 ≤ w * h ∧ w * h ≤ 4096 := by
  have h1 : w * h ≤ 64 * 64 := Int.mul_le_mul w2 w4 (by omega) (by decide)
  have h2 : 0 ≤ w * h := Int.mul_nonneg (by omega) (by omega)
  omega
def chkB (w h mx : Int) (px : List Int) : Bool := ((decide ((min (min w h) mx) < 1) || decide (64 < (max w h))) || decide (65535 < mx)) || (((px.length : Nat) : Int) != (w * h))
def gM (w h mx : Int) (px : List Int) : Int := bif chkB w h mx px || px.any (mX mx) then 1 else 0
theorem chk_1 {w h mx : Int} {px : List Int} (hc : chkB w h mx px = true) : gM w h mx px = 1 := by simp [gM, hc]
theorem chk_2 {w h mx : Int} {px : List Int} (hc : px.any (mX mx) = true) : gM w h mx px = 1 := by simp [gM, hc]
theorem chk_3 {w h mx : Int} {px : List Int} (h1 : chkB w h mx px = false) (h2 : px.any (mX mx) = false) : gM w h mx px = 0 := by simp [gM, h1, h2]
theorem chk_ok {w h mx : Int} {px : List Int} (hc : gM w h mx px = 0) : ∃ a b : Nat, w = a ∧ h = b ∧ 1 ≤ a ∧ a ≤ 64 ∧ 1 ≤ b ∧ b ≤ 64 ∧ 1 ≤ mx ∧ mx ≤ 65535 ∧ px.length = a * b ∧ ∀ x ∈ px, 0 ≤ x ∧ x ≤ mx := by
  have h1 : chkB w h mx px = false := by
    cases h : chkB w h mx px with
    | false => rfl
    | true => rw [chk_1 h] at hc; cases hc
  have h2 : px.any (mX mx) = false := by
    cases h : px.any (mX mx) with
    | false => rfl
    | true => rw [chk_2 h] at hc; cases hc
  simp only [chkB, Bool.or_eq_false_iff, decide_eq_false_iff_not, bne_eq_false_iff_eq] at h1
  obtain ⟨⟨⟨q1, q2⟩, q3⟩, q4⟩ := h1
  refine ⟨w.toNat, h.toNat, by omega, by omega, by omega, by omega, by omega, by omega, by omega, by omega, ?_, fun x hx => ?_⟩
  · have e1 : w = ((w.toNat : Nat) : Int) := by omega
    have e2 : h = ((h.toNat : Nat) : Int) := by omega
    rw [e1, e2, ← Int.natCast_mul] at q4
    exact Int.ofNat.inj q4
  · have := List.any_eq_false.1 h2 x hx
    simp only [mX, Bool.or_eq_true, decide_eq_true_eq, not_or] at this
    omega
theorem chk_ko {w h mx : Int} {px : List Int} (hc : gM w h mx px ≠ 0) : gM w h mx px = 1 := by
  unfold gM at hc ⊢
  cases hx : chkB w h mx px || px.any (mX mx) with
  | true => rfl
  | false => rw [hx] at hc; exact absurd rfl hc
def RstOk (w h : Nat) (px : List Int) : Prop := 1 ≤ w ∧ w ≤ 64 ∧ 1 ≤ h ∧ h ≤ 64 ∧ px.length = w * h ∧ Bd 65535 px
def chkB2 (w h mx : Int) (px : List Int) : Bool := (((((decide (w < 1) || decide (64 < w)) || decide (h < 1)) || decide (64 < h)) || decide (mx < 1)) || decide (65535 < mx)) || (((px.length : Nat) : Int) != (w * h))
theorem chkB2_eq (w h mx : Int) (px : List Int) : chkB2 w h mx px = chkB w h mx px := by
  unfold chkB2 chkB
  rw [Bool.eq_iff_iff]
  simp only [Bool.or_eq_true, decide_eq_true_eq, bne_iff_ne]
  constructor <;> intro hq <;> omega
theorem py_any_at {f : Int → Bool} {l : List Int} {k : Nat} (h : k < l.length) (hf : f (l.getD k 0) = true) : l.any f = true := by
  rw [List.getD_eq_getElem?_getD, List.getElem?_eq_getElem h] at hf
  exact List.any_eq_true.2 ⟨l[k], List.getElem_mem h, hf⟩
theorem py_any_step {f : Int → Bool} {l : List Int} {k : Nat} (hv : (l.take k).any f = false) (h : k < l.length) (hf : f (l.getD k 0) = false) : (l.take (k + 1)).any f = false := by
  rw [take_one h, List.any_append, hv, List.any_cons, hf]; rfl
theorem py_any_end {f : Int → Bool} {l : List Int} {k : Nat} (hv : (l.take k).any f = false) (h : l.length ≤ k) : l.any f = false := by rw [List.take_of_length_le h] at hv; exact hv
theorem py_eq_len {l m : List Int} (h : ((l.length : Nat) : Int) ≠ ((m.length : Nat) : Int)) : (l == m) = false := by
  rw [beq_eq_false_iff_ne]; intro e; subst e; exact h rfl
theorem py_eq_at {l m : List Int} {k : Nat} (h : l.getD k 0 ≠ m.getD k 0) : (l == m) = false := by
  rw [beq_eq_false_iff_ne]; intro e; subst e; exact h rfl
theorem py_eq_step {l m : List Int} {k : Nat} (hv : l.take k = m.take k) (h1 : k < l.length) (h2 : l.length = m.length) (h : l.getD k 0 = m.getD k 0) : l.take (k + 1) = m.take (k + 1) := by
  rw [take_one h1, take_one (h2 ▸ h1), hv, h]
theorem py_eq_end {l m : List Int} {k : Nat} (hv : l.take k = m.take k) (h1 : l.length ≤ k) (h2 : l.length = m.length) : (l == m) = true := by
  rw [List.take_of_length_le h1, List.take_of_length_le (h2 ▸ h1)] at hv; rw [hv]; exact beq_self_eq_true m
theorem chk_rst {w h mx : Int} {px : List Int} (hc : gM w h mx px = 0) : ∃ a b : Nat, w = a ∧ h = b ∧ RstOk a b px ∧ 1 ≤ mx ∧ mx ≤ 65535 ∧ ∀ x ∈ px, 0 ≤ x ∧ x ≤ mx := by
  obtain ⟨a, b, h1, h2, h3, h4, h5, h6, h7, h8, h9, h10⟩ := chk_ok hc
  exact ⟨a, b, h1, h2, ⟨h3, h4, h5, h6, h9, fun x hx => by have := h10 x hx; omega⟩, h7, h8, h10⟩
end Go.Fid
