/- Part 14 of a proof: rules, plain facts, and functions walked. -/
import Derived.Test.YtbecgnplakngdaaGreatM13
namespace Go.Proofs.YtbecgnplakngdaaGreat
open Go.Fid
set_option maxRecDepth 4000
set_option linter.unusedVariables false
set_option linter.unusedSimpArgs false
theorem cb12 : callB Tryz.prog 12 = true := by kernel_rfl
theorem cb13 : callB Tryz.prog 13 = true := by kernel_rfl
theorem cb67 : callB Tryz.prog 67 = true := by kernel_rfl
theorem cb74 : callB Tryz.prog 74 = true := by kernel_rfl
theorem pl23 : placesB Tryz.prog 23 = some [(0, 1), (1, 1), (2, 1)] := by kernel_rfl
theorem pl29 : placesB Tryz.prog 29 = some [(0, 3), (3, 4), (7, 1), (8, 2)] := by kernel_rfl
theorem pl31 : placesB Tryz.prog 31 = some [(0, 10), (10, 10)] := by kernel_rfl
theorem ze31 : zeroB Tryz.prog 31 = some [.int .i64 0, .int .i64 0, .int .i64 0, .int .i64 0, .int .i64 0, .int .i64 0, .int .i64 0, .int .i64 0, .int .i64 0, .int .i64 0, .int .i64 0, .int .i64 0, .int .i64 0, .int .i64 0, .int .i64 0, .int .i64 0, .int .i64 0, .int .i64 0, .int .i64 0, .int .i64 0] := by kernel_rfl
theorem zo31 : ZOk [.int .i64 0, .int .i64 0, .int .i64 0, .int .i64 0, .int .i64 0, .int .i64 0, .int .i64 0, .int .i64 0, .int .i64 0, .int .i64 0, .int .i64 0, .int .i64 0, .int .i64 0, .int .i64 0, .int .i64 0, .int .i64 0, .int .i64 0, .int .i64 0, .int .i64 0, .int .i64 0] [.val (.int .i64 0), .val (.int .i64 0), .val (.int .i64 0), .val (.int .i64 0), .val (.int .i64 0), .val (.int .i64 0), .val (.int .i64 0), .val (.int .i64 0), .val (.int .i64 0), .val (.int .i64 0), .val (.int .i64 0), .val (.int .i64 0), .val (.int .i64 0), .val (.int .i64 0), .val (.int .i64 0), .val (.int .i64 0), .val (.int .i64 0), .val (.int .i64 0), .val (.int .i64 0), .val (.int .i64 0)] := by simp [ZOk, Value.oneCell']
theorem q_tmat (m00 m01 m02 m10 m11 m12 m20 m21 m22 : Rat) (hm00 : QL m00 100000000) (hm01 : QL m01 100000000) (hm02 : QL m02 100000000) (hm10 : QL m10 100000000) (hm11 : QL m11 100000000) (hm12 : QL m12 100000000) (hm20 : QL m20 100000000) (hm21 : QL m21 100000000) (hm22 : QL m22 100000000) : Takes Tryz.prog 74 [(encA130 (A3.mk (A3.mk (ofQ m00) (ofQ m01) (ofQ m02)) (A3.mk (ofQ m10) (ofQ m11) (ofQ m12)) (A3.mk (ofQ m20) (ofQ m21) (ofQ m22))))] (.sl 52 1 (List.map enc_sl_52 [[(ofQ m00), (ofQ m01), (ofQ m02)], [(ofQ m10), (ofQ m11), (ofQ m12)], [(ofQ m20), (ofQ m21), (ofQ m22)]])) := by
  let y1 := (encA130 (A3.mk (A3.mk (ofQ m00) (ofQ m01) (ofQ m02)) (A3.mk (ofQ m10) (ofQ m11) (ofQ m12)) (A3.mk (ofQ m20) (ofQ m21) (ofQ m22))))
  refine fn_intro Tryz.func74 rfl cb74 rfl ?_
  show PWp _ _ _ _ ⟨[(0, (.d y1))], []⟩
  refine pwp_seq <| kx [(1, (.ref 0 0))] [(0, some (bx y1))] (zN (oBx 0) <| zE (oNl 52 1) <| zZ) ?_
  refine pwp_seq <| kx [(3, (.own 1 52 1 0))] [(1, some (bm enc_sl_52 []))] (zO 1 52 1 <| zZ) ?_
  refine pwp_seq <| pwp_seq <| kx [(6, (.d y1)), (7, (vin 0))] [] (zR (oLa sh131) <| zM <| zZ) ?_
  refine pwp_block <| pwp_rounds 20 ?_
  refine pwp_round <| pwp_seq <| kx [(8, (vb true))] [] (zE (oBk true oLt) <| zZ) ?_
  refine pwp_seq <| pwp_cond (b := true) (by kernel_rfl) (fun _ => ?_) (fun h => by cases h)
  refine pwp_skip <| pwp_seq <| pwp_block <| pwp_seq <| kx [(5, (.ref 2 0))] [(2, some (bx (encA43 (A3.mk (ofQ m00) (ofQ m01) (ofQ m02)))))] (zE (oXa ar131 sh129 (fun h => by cases h) 0) <| zH (oAl 2 ze129 zo129) <| zT (oSt sh129) <| zZ) ?_
  refine kf [(3, (.own 1 52 1 (([] ++ [[(ofQ m00), (ofQ m01), (ofQ m02)]]).length)))] [(1, some (bm enc_sl_52 ([] ++ [[(ofQ m00), (ofQ m01), (ofQ m02)]])))] (zM <| zE (oXr ar129 0) <| zR (oLa sh42) <| zE (oXr ar129 1) <| zR (oLa sh42) <| zE (oXr ar129 2) <| zR (oLa sh42) <| zE (oBs el52 ze42 zo42) <| zE (oBs el34 ze52 zo52) <| zA enc_sl_52 [] [[(ofQ m00), (ofQ m01), (ofQ m02)]] rfl el34 ze52 by52 (hbig := by exact (by simp +zetaDelta [maxLen] <;> omega)) (hbig' := by exact (by simp +zetaDelta <;> omega)) <| zM <| zF) ?_
  refine kx [(7, (vin 1))] [] (zE (oAd 1 (hr := by decide)) <| zM <| zZ) ?_
  refine pwp_again (SimImp.refl _) ?_
  refine pwp_seq <| kx [(8, (vb true))] [] (zE (oBk true oLt) <| zZ) ?_
  refine pwp_seq <| pwp_cond (b := true) (by kernel_rfl) (fun _ => ?_) (fun h => by cases h)
  refine pwp_skip <| pwp_seq <| pwp_block <| pwp_seq <| kx [(5, (.ref 3 0))] [(3, some (bx (encA43 (A3.mk (ofQ m10) (ofQ m11) (ofQ m12)))))] (zE (oXa ar131 sh129 (fun h => by cases h) 1) <| zH (oAl 3 ze129 zo129) <| zT (oSt sh129) <| zZ) ?_
  refine kf [(3, (.own 1 52 1 ((([] ++ [[(ofQ m00), (ofQ m01), (ofQ m02)]]) ++ [[(ofQ m10), (ofQ m11), (ofQ m12)]]).length)))] [(1, some (bm enc_sl_52 (([] ++ [[(ofQ m00), (ofQ m01), (ofQ m02)]]) ++ [[(ofQ m10), (ofQ m11), (ofQ m12)]])))] (zM <| zE (oXr ar129 0) <| zR (oLa sh42) <| zE (oXr ar129 1) <| zR (oLa sh42) <| zE (oXr ar129 2) <| zR (oLa sh42) <| zE (oBs el52 ze42 zo42) <| zE (oBs el34 ze52 zo52) <| zA enc_sl_52 ([] ++ [[(ofQ m00), (ofQ m01), (ofQ m02)]]) [[(ofQ m10), (ofQ m11), (ofQ m12)]] rfl el34 ze52 by52 (hbig := by exact (by simp +zetaDelta [maxLen] <;> omega)) (hbig' := by exact (by simp +zetaDelta <;> omega)) <| zM <| zF) ?_
  refine kx [(7, (vin 2))] [] (zE (oAd 2 (hr := by decide)) <| zM <| zZ) ?_
  refine pwp_again (SimImp.refl _) ?_
  refine pwp_seq <| kx [(8, (vb true))] [] (zE (oBk true oLt) <| zZ) ?_
  refine pwp_seq <| pwp_cond (b := true) (by kernel_rfl) (fun _ => ?_) (fun h => by cases h)
  refine pwp_skip <| pwp_seq <| pwp_block <| pwp_seq <| kx [(5, (.ref 4 0))] [(4, some (bx (encA43 (A3.mk (ofQ m20) (ofQ m21) (ofQ m22)))))] (zE (oXa ar131 sh129 (fun h => by cases h) 2) <| zH (oAl 4 ze129 zo129) <| zT (oSt sh129) <| zZ) ?_
  refine kf [(3, (.own 1 52 1 (((([] ++ [[(ofQ m00), (ofQ m01), (ofQ m02)]]) ++ [[(ofQ m10), (ofQ m11), (ofQ m12)]]) ++ [[(ofQ m20), (ofQ m21), (ofQ m22)]]).length)))] [(1, some (bm enc_sl_52 ((([] ++ [[(ofQ m00), (ofQ m01), (ofQ m02)]]) ++ [[(ofQ m10), (ofQ m11), (ofQ m12)]]) ++ [[(ofQ m20), (ofQ m21), (ofQ m22)]])))] (zM <| zE (oXr ar129 0) <| zR (oLa sh42) <| zE (oXr ar129 1) <| zR (oLa sh42) <| zE (oXr ar129 2) <| zR (oLa sh42) <| zE (oBs el52 ze42 zo42) <| zE (oBs el34 ze52 zo52) <| zA enc_sl_52 (([] ++ [[(ofQ m00), (ofQ m01), (ofQ m02)]]) ++ [[(ofQ m10), (ofQ m11), (ofQ m12)]]) [[(ofQ m20), (ofQ m21), (ofQ m22)]] rfl el34 ze52 by52 (hbig := by exact (by simp +zetaDelta [maxLen] <;> omega)) (hbig' := by exact (by simp +zetaDelta <;> omega)) <| zM <| zF) ?_
  refine pwp_sim (wk (l := [(3, (.own 1 52 1 (((([] ++ [[(ofQ m00), (ofQ m01), (ofQ m02)]]) ++ [[(ofQ m10), (ofQ m11), (ofQ m12)]]) ++ [[(ofQ m20), (ofQ m21), (ofQ m22)]]).length))), (6, (.d y1)), (7, (vin 2))]) (b := [(1, some (bm enc_sl_52 ((([] ++ [[(ofQ m00), (ofQ m01), (ofQ m02)]]) ++ [[(ofQ m10), (ofQ m11), (ofQ m12)]]) ++ [[(ofQ m20), (ofQ m21), (ofQ m22)]])))])) ?_
  refine kx [(7, (vin 3))] [] (zE (oAd 3 (hr := by decide)) <| zM <| zZ) ?_
  refine pwp_again (SimImp.refl _) ?_
  refine pwp_seq <| kx [(8, (vb false))] [] (zE (oBk false oLt) <| zZ) ?_
  refine pwp_seq <| pwp_cond (b := false) (by kernel_rfl) (fun h => by cases h) (fun _ => ?_)
  refine pwp_exit <| pwp_seq <| pwp_sim (publish (t := 3) (k := 1) (es := List.map enc_sl_52 ((([] ++ [[(ofQ m00), (ofQ m01), (ofQ m02)]]) ++ [[(ofQ m10), (ofQ m11), (ofQ m12)]]) ++ [[(ofQ m20), (ofQ m21), (ofQ m22)]])) rfl rfl (pub_cells _ _ (fun _ => rfl)) (map_len _ _ rfl) (pub_take _ _ (fun _ => rfl) rfl)) ?_
  refine kx [(2, (vl 52 1 enc_sl_52 ((([] ++ [[(ofQ m00), (ofQ m01), (ofQ m02)]]) ++ [[(ofQ m10), (ofQ m11), (ofQ m12)]]) ++ [[(ofQ m20), (ofQ m21), (ofQ m22)]])))] [] (zM <| zM <| zZ) ?_
  refine pwp_ret ⟨_, (.tmp (d := (.sl 52 1 (List.map enc_sl_52 ((([] ++ [[(ofQ m00), (ofQ m01), (ofQ m02)]]) ++ [[(ofQ m10), (ofQ m11), (ofQ m12)]]) ++ [[(ofQ m20), (ofQ m21), (ofQ m22)]])))) rfl .nil), ?_⟩
  rfl
theorem q_fun (lx ly lz la lb lc ld lf lu lv rx ry rz ra rb rc rd rf ru rv : Int) (b0 b1 b2 e00 e01 e02 e10 e11 e12 e20 e21 e22 : Rat) (hF : RFr lx ly lz la lb lc ld rx ry rz ra rb rc rd b0 b1 b2 e00 e01 e02 e10 e11 e12 e20 e21 e22) (hqb0 : QL b0 3) (hqb1 : QL b1 3) (hqb2 : QL b2 3) (hqe00 : QL e00 400) (hqe01 : QL e01 400) (hqe02 : QL e02 400) (hqe10 : QL e10 400) (hqe11 : QL e11 400) (hqe12 : QL e12 400) (hqe20 : QL e20 400) (hqe21 : QL e21 400) (hqe22 : QL e22 400) (p00 : Rat) (hp00 : (dot3 ((1 : Int) : Rat) ((0 : Int) : Rat) ((0 : Int) : Rat) (R00 la lb lc ld) (R01 la lb lc ld) (R02 la lb lc ld)) = p00) (p01 : Rat) (hp01 : (dot3 ((0 : Int) : Rat) ((1 : Int) : Rat) ((0 : Int) : Rat) (R00 la lb lc ld) (R01 la lb lc ld) (R02 la lb lc ld)) = p01) (p02 : Rat) (hp02 : (dot3 ((-lu : Int) : Rat) ((-lv : Int) : Rat) ((lf : Int) : Rat) (R00 la lb lc ld) (R01 la lb lc ld) (R02 la lb lc ld)) = p02) (p10 : Rat) (hp10 : (dot3 ((1 : Int) : Rat) ((0 : Int) : Rat) ((0 : Int) : Rat) (R10 la lb lc ld) (R11 la lb lc ld) (R12 la lb lc ld)) = p10) (p11 : Rat) (hp11 : (dot3 ((0 : Int) : Rat) ((1 : Int) : Rat) ((0 : Int) : Rat) (R10 la lb lc ld) (R11 la lb lc ld) (R12 la lb lc ld)) = p11) (p12 : Rat) (hp12 : (dot3 ((-lu : Int) : Rat) ((-lv : Int) : Rat) ((lf : Int) : Rat) (R10 la lb lc ld) (R11 la lb lc ld) (R12 la lb lc ld)) = p12) (p20 : Rat) (hp20 : (dot3 ((1 : Int) : Rat) ((0 : Int) : Rat) ((0 : Int) : Rat) (R20 la lb lc ld) (R21 la lb lc ld) (R22 la lb lc ld)) = p20) (p21 : Rat) (hp21 : (dot3 ((0 : Int) : Rat) ((1 : Int) : Rat) ((0 : Int) : Rat) (R20 la lb lc ld) (R21 la lb lc ld) (R22 la lb lc ld)) = p21) (p22 : Rat) (hp22 : (dot3 ((-lu : Int) : Rat) ((-lv : Int) : Rat) ((lf : Int) : Rat) (R20 la lb lc ld) (R21 la lb lc ld) (R22 la lb lc ld)) = p22) (q00 : Rat) (hq00 : (dot3 ((1 : Int) : Rat) ((0 : Int) : Rat) ((0 : Int) : Rat) (R00 ra rb rc rd) (R01 ra rb rc rd) (R02 ra rb rc rd)) = q00) (q01 : Rat) (hq01 : (dot3 ((0 : Int) : Rat) ((1 : Int) : Rat) ((0 : Int) : Rat) (R00 ra rb rc rd) (R01 ra rb rc rd) (R02 ra rb rc rd)) = q01) (q02 : Rat) (hq02 : (dot3 ((-ru : Int) : Rat) ((-rv : Int) : Rat) ((rf : Int) : Rat) (R00 ra rb rc rd) (R01 ra rb rc rd) (R02 ra rb rc rd)) = q02) (q10 : Rat) (hq10 : (dot3 ((1 : Int) : Rat) ((0 : Int) : Rat) ((0 : Int) : Rat) (R10 ra rb rc rd) (R11 ra rb rc rd) (R12 ra rb rc rd)) = q10) (q11 : Rat) (hq11 : (dot3 ((0 : Int) : Rat) ((1 : Int) : Rat) ((0 : Int) : Rat) (R10 ra rb rc rd) (R11 ra rb rc rd) (R12 ra rb rc rd)) = q11) (q12 : Rat) (hq12 : (dot3 ((-ru : Int) : Rat) ((-rv : Int) : Rat) ((rf : Int) : Rat) (R10 ra rb rc rd) (R11 ra rb rc rd) (R12 ra rb rc rd)) = q12) (q20 : Rat) (hq20 : (dot3 ((1 : Int) : Rat) ((0 : Int) : Rat) ((0 : Int) : Rat) (R20 ra rb rc rd) (R21 ra rb rc rd) (R22 ra rb rc rd)) = q20) (q21 : Rat) (hq21 : (dot3 ((0 : Int) : Rat) ((1 : Int) : Rat) ((0 : Int) : Rat) (R20 ra rb rc rd) (R21 ra rb rc rd) (R22 ra rb rc rd)) = q21) (q22 : Rat) (hq22 : (dot3 ((-ru : Int) : Rat) ((-rv : Int) : Rat) ((rf : Int) : Rat) (R20 ra rb rc rd) (R21 ra rb rc rd) (R22 ra rb rc rd)) = q22) (s00 : Rat) (hs00 : ((b1 * p20) - (b2 * p10)) = s00) (s01 : Rat) (hs01 : ((b1 * p21) - (b2 * p11)) = s01) (s02 : Rat) (hs02 : ((b1 * p22) - (b2 * p12)) = s02) (s10 : Rat) (hs10 : ((b2 * p00) - (b0 * p20)) = s10) (s11 : Rat) (hs11 : ((b2 * p01) - (b0 * p21)) = s11) (s12 : Rat) (hs12 : ((b2 * p02) - (b0 * p22)) = s12) (s20 : Rat) (hs20 : ((b0 * p10) - (b1 * p00)) = s20) (s21 : Rat) (hs21 : ((b0 * p11) - (b1 * p01)) = s21) (s22 : Rat) (hs22 : ((b0 * p12) - (b1 * p02)) = s22) (f00 : Rat) (hf00 : (dot3 s00 s10 s20 q00 q10 q20) = f00) (f01 : Rat) (hf01 : (dot3 s01 s11 s21 q00 q10 q20) = f01) (f02 : Rat) (hf02 : (dot3 s02 s12 s22 q00 q10 q20) = f02) (f10 : Rat) (hf10 : (dot3 s00 s10 s20 q01 q11 q21) = f10) (f11 : Rat) (hf11 : (dot3 s01 s11 s21 q01 q11 q21) = f11) (f12 : Rat) (hf12 : (dot3 s02 s12 s22 q01 q11 q21) = f12) (f20 : Rat) (hf20 : (dot3 s00 s10 s20 q02 q12 q22) = f20) (f21 : Rat) (hf21 : (dot3 s01 s11 s21 q02 q12 q22) = f21) (f22 : Rat) (hf22 : (dot3 s02 s12 s22 q02 q12 q22) = f22) (hl : stnC lx ly lz lu lv lf la lb lc ld = 0) (hr : stnC rx ry rz ru rv rf ra rb rc rd = 0) (hup : upV la lb lc ld ra rb rc rd b0 b1 b2 = false) : Takes Tryz.prog 13 [(encStereo (RStereo.mk (RStn.mk (RSpot.mk lx ly lz) (RQuat.mk la lb lc ld) lf (RPix.mk lu lv)) (RStn.mk (RSpot.mk rx ry rz) (RQuat.mk ra rb rc rd) rf (RPix.mk ru rv))))] (.tup [(.sl 52 1 (List.map enc_sl_52 [[(ofQ f00), (ofQ f01), (ofQ f02)], [(ofQ f10), (ofQ f11), (ofQ f12)], [(ofQ f20), (ofQ f21), (ofQ f22)]])), (.val (.int .i64 (0)))]) := by
  have hbl := stnC_ok hl
  have hbr := stnC_ok hr
  obtain ⟨hlx, hly, hlz, hlu, hlv, hlf, hlq⟩ := hbl
  obtain ⟨hrx, hry, hrz, hru, hrv, hrf, hrq⟩ := hbr
  obtain ⟨hla, hlb, hlc, hld, -⟩ := rotC_ok hlq
  obtain ⟨hra, hrb, hrc, hrd, -⟩ := rotC_ok hrq
  have hnl := nq_b hla hlb hlc hld
  have hnr := nq_b hra hrb hrc hrd
  have hz0 := fr_z0 hF hup
  have hz1 := fr_z1 hF hup
  have hz2 := fr_z2 hF hup
  let y1 := (encStereo (RStereo.mk (RStn.mk (RSpot.mk lx ly lz) (RQuat.mk la lb lc ld) lf (RPix.mk lu lv)) (RStn.mk (RSpot.mk rx ry rz) (RQuat.mk ra rb rc rd) rf (RPix.mk ru rv))))
  refine fn_intro Tryz.func13 rfl cb13 rfl ?_
  show PWp _ _ _ _ ⟨[(0, (.d y1))], []⟩
  refine pwp_seq <| kx [(1, (.ref 0 0))] [(0, some (bx y1))] (zN (oBx 0) <| zE (oNl 52 1) <| zM <| zZ) ?_
  refine pwp_seq <| kx [(4, (.d (.cptr 1000001 (Dat.cells (encRp (RRp.mk (RStn.mk (RSpot.mk lx ly lz) (RQuat.mk la lb lc ld) lf (RPix.mk lu lv)) (RStn.mk (RSpot.mk rx ry rz) (RQuat.mk ra rb rc rd) rf (RPix.mk ru rv)) (A3.mk (ofQ b0) (ofQ b1) (ofQ b2)) (A3.mk (A3.mk (ofQ e00) (ofQ e01) (ofQ e02)) (A3.mk (ofQ e10) (ofQ e11) (ofQ e12)) (A3.mk (ofQ e20) (ofQ e21) (ofQ e22)))))) 0))), (5, (vi 0))] [] (zR (oLa sh31) <| zE (oCl (q_rec lx ly lz la lb lc ld lf lu lv rx ry rz ra rb rc rd rf ru rv b0 b1 b2 e00 e01 e02 e10 e11 e12 e20 e21 e22 hF hqb0 hqb1 hqb2 hqe00 hqe01 hqe02 hqe10 hqe11 hqe12 hqe20 hqe21 hqe22 hl hr hup)) <| zM <| zE oEx <| zE oEx <| zM <| zM <| zZ) ?_
  refine pwp_seq <| pwp_seq <| kx [(15, (vb false))] [] (zM <| zE oNe <| zZ) ?_
  refine pwp_cond (b := false) (by kernel_rfl) (fun h => by cases h) (fun _ => ?_)
  refine pwp_skip <| pwp_seq ?_
  have bn1 : QL (R00 la lb lc ld) 3 := (ql_R00 (by first | assumption | omega) (by first | assumption | omega) (by first | assumption | omega) (by first | assumption | omega))
  have bn2 : QL (R01 la lb lc ld) 3 := (ql_R01 (by first | assumption | omega) (by first | assumption | omega) (by first | assumption | omega) (by first | assumption | omega))
  have bn3 : QL (R02 la lb lc ld) 3 := (ql_R02 (by first | assumption | omega) (by first | assumption | omega) (by first | assumption | omega) (by first | assumption | omega))
  have bn4 : QL (R10 la lb lc ld) 3 := (ql_R10 (by first | assumption | omega) (by first | assumption | omega) (by first | assumption | omega) (by first | assumption | omega))
  have bn5 : QL (R11 la lb lc ld) 3 := (ql_R11 (by first | assumption | omega) (by first | assumption | omega) (by first | assumption | omega) (by first | assumption | omega))
  have bn6 : QL (R12 la lb lc ld) 3 := (ql_R12 (by first | assumption | omega) (by first | assumption | omega) (by first | assumption | omega) (by first | assumption | omega))
  have bn7 : QL (R20 la lb lc ld) 3 := (ql_R20 (by first | assumption | omega) (by first | assumption | omega) (by first | assumption | omega) (by first | assumption | omega))
  have bn8 : QL (R21 la lb lc ld) 3 := (ql_R21 (by first | assumption | omega) (by first | assumption | omega) (by first | assumption | omega) (by first | assumption | omega))
  have bn9 : QL (R22 la lb lc ld) 3 := (ql_R22 (by first | assumption | omega) (by first | assumption | omega) (by first | assumption | omega) (by first | assumption | omega))
  have bn10 : QL ((1 : Int) : Rat) 3 := (ql_int (z := 1) (n := 3) (lenZ_int (by omega) (by omega)) (by decide))
  have bn11 : QL ((0 : Int) : Rat) 3 := (ql_int (z := 0) (n := 3) (lenZ_int (by omega) (by omega)) (by decide))
  have bn12 : QL ((-lu : Int) : Rat) 3 := (ql_int (z := (-lu)) (n := 3) (lenZ_int (by omega) (by omega)) (by decide))
  have bn13 : QL ((-lv : Int) : Rat) 3 := (ql_int (z := (-lv)) (n := 3) (lenZ_int (by omega) (by omega)) (by decide))
  have bn14 : QL ((lf : Int) : Rat) 3 := (ql_int (z := lf) (n := 3) (lenZ_int (by omega) (by omega)) (by decide))
  have bn15 : QL p00 20 := (ql_eqz (Eq.symm hp00) (ql_dot3 (n := 3) (k := 20) bn10 bn11 bn11 bn1 bn2 bn3 (by decide)))
  have bn16 : QL p01 20 := (ql_eqz (Eq.symm hp01) (ql_dot3 (n := 3) (k := 20) bn11 bn10 bn11 bn1 bn2 bn3 (by decide)))
  have bn17 : QL p02 20 := (ql_eqz (Eq.symm hp02) (ql_dot3 (n := 3) (k := 20) bn12 bn13 bn14 bn1 bn2 bn3 (by decide)))
  have bn18 : QL p10 20 := (ql_eqz (Eq.symm hp10) (ql_dot3 (n := 3) (k := 20) bn10 bn11 bn11 bn4 bn5 bn6 (by decide)))
  have bn19 : QL p11 20 := (ql_eqz (Eq.symm hp11) (ql_dot3 (n := 3) (k := 20) bn11 bn10 bn11 bn4 bn5 bn6 (by decide)))
  have bn20 : QL p12 20 := (ql_eqz (Eq.symm hp12) (ql_dot3 (n := 3) (k := 20) bn12 bn13 bn14 bn4 bn5 bn6 (by decide)))
  have bn21 : QL p20 20 := (ql_eqz (Eq.symm hp20) (ql_dot3 (n := 3) (k := 20) bn10 bn11 bn11 bn7 bn8 bn9 (by decide)))
  have bn22 : QL p21 20 := (ql_eqz (Eq.symm hp21) (ql_dot3 (n := 3) (k := 20) bn11 bn10 bn11 bn7 bn8 bn9 (by decide)))
  have bn23 : QL p22 20 := (ql_eqz (Eq.symm hp22) (ql_dot3 (n := 3) (k := 20) bn12 bn13 bn14 bn7 bn8 bn9 (by decide)))
  refine kd [(6, (.ref 1 0))] [(1, some (bx (encA130 (A3.mk (A3.mk (ofQ p00) (ofQ p10) (ofQ p20)) (A3.mk (ofQ p01) (ofQ p11) (ofQ p21)) (A3.mk (ofQ p02) (ofQ p12) (ofQ p22))))))] mo (wM <| wE oNd <| wE (oFc fo134_0) <| wE (oFc fo29_1) <| wE (oCa sh25) <| wE (oCl (q_turn la lb lc ld (by omega) (by omega) (by omega) (by omega) hlq)) <| wM <| wE oNd <| wE (oFc fo134_0) <| wE (oCa sh29) <| wE (oCl (q_inner lx ly lz la lb lc ld lf lu lv (by omega) (by omega) (by omega))) <| wE (oCl (by have h := q_mul (R00 la lb lc ld) (R01 la lb lc ld) (R02 la lb lc ld) (R10 la lb lc ld) (R11 la lb lc ld) (R12 la lb lc ld) (R20 la lb lc ld) (R21 la lb lc ld) (R22 la lb lc ld) (ql_up bn1 (by decide)) (ql_up bn2 (by decide)) (ql_up bn3 (by decide)) (ql_up bn4 (by decide)) (ql_up bn5 (by decide)) (ql_up bn6 (by decide)) (ql_up bn7 (by decide)) (ql_up bn8 (by decide)) (ql_up bn9 (by decide)) ((1 : Int) : Rat) ((0 : Int) : Rat) ((-lu : Int) : Rat) ((0 : Int) : Rat) ((1 : Int) : Rat) ((-lv : Int) : Rat) ((0 : Int) : Rat) ((0 : Int) : Rat) ((lf : Int) : Rat) (ql_up bn10 (by decide)) (ql_up bn11 (by decide)) (ql_up bn12 (by decide)) (ql_up bn11 (by decide)) (ql_up bn10 (by decide)) (ql_up bn13 (by decide)) (ql_up bn11 (by decide)) (ql_up bn11 (by decide)) (ql_up bn14 (by decide)); rw [hp00, hp01, hp02, hp10, hp11, hp12, hp20, hp21, hp22] at h; exact h)) <| wE (oCl (q_transp p00 p01 p02 p10 p11 p12 p20 p21 p22 (ql_up bn15 (by decide)) (ql_up bn16 (by decide)) (ql_up bn17 (by decide)) (ql_up bn18 (by decide)) (ql_up bn19 (by decide)) (ql_up bn20 (by decide)) (ql_up bn21 (by decide)) (ql_up bn22 (by decide)) (ql_up bn23 (by decide)))) <| wN (oAl 1 ze131 zo131) <| wT (oSt sh131) <| wZ) ?_
  refine pwp_seq ?_
  have bn24 : QL (R00 ra rb rc rd) 3 := (ql_R00 (by first | assumption | omega) (by first | assumption | omega) (by first | assumption | omega) (by first | assumption | omega))
  have bn25 : QL (R01 ra rb rc rd) 3 := (ql_R01 (by first | assumption | omega) (by first | assumption | omega) (by first | assumption | omega) (by first | assumption | omega))
  have bn26 : QL (R02 ra rb rc rd) 3 := (ql_R02 (by first | assumption | omega) (by first | assumption | omega) (by first | assumption | omega) (by first | assumption | omega))
  have bn27 : QL (R10 ra rb rc rd) 3 := (ql_R10 (by first | assumption | omega) (by first | assumption | omega) (by first | assumption | omega) (by first | assumption | omega))
  have bn28 : QL (R11 ra rb rc rd) 3 := (ql_R11 (by first | assumption | omega) (by first | assumption | omega) (by first | assumption | omega) (by first | assumption | omega))
  have bn29 : QL (R12 ra rb rc rd) 3 := (ql_R12 (by first | assumption | omega) (by first | assumption | omega) (by first | assumption | omega) (by first | assumption | omega))
  have bn30 : QL (R20 ra rb rc rd) 3 := (ql_R20 (by first | assumption | omega) (by first | assumption | omega) (by first | assumption | omega) (by first | assumption | omega))
  have bn31 : QL (R21 ra rb rc rd) 3 := (ql_R21 (by first | assumption | omega) (by first | assumption | omega) (by first | assumption | omega) (by first | assumption | omega))
  have bn32 : QL (R22 ra rb rc rd) 3 := (ql_R22 (by first | assumption | omega) (by first | assumption | omega) (by first | assumption | omega) (by first | assumption | omega))
  have bn33 : QL ((-ru : Int) : Rat) 3 := (ql_int (z := (-ru)) (n := 3) (lenZ_int (by omega) (by omega)) (by decide))
  have bn34 : QL ((-rv : Int) : Rat) 3 := (ql_int (z := (-rv)) (n := 3) (lenZ_int (by omega) (by omega)) (by decide))
  have bn35 : QL ((rf : Int) : Rat) 3 := (ql_int (z := rf) (n := 3) (lenZ_int (by omega) (by omega)) (by decide))
  have bn36 : QL q00 20 := (ql_eqz (Eq.symm hq00) (ql_dot3 (n := 3) (k := 20) bn10 bn11 bn11 bn24 bn25 bn26 (by decide)))
  have bn37 : QL q01 20 := (ql_eqz (Eq.symm hq01) (ql_dot3 (n := 3) (k := 20) bn11 bn10 bn11 bn24 bn25 bn26 (by decide)))
  have bn38 : QL q02 20 := (ql_eqz (Eq.symm hq02) (ql_dot3 (n := 3) (k := 20) bn33 bn34 bn35 bn24 bn25 bn26 (by decide)))
  have bn39 : QL q10 20 := (ql_eqz (Eq.symm hq10) (ql_dot3 (n := 3) (k := 20) bn10 bn11 bn11 bn27 bn28 bn29 (by decide)))
  have bn40 : QL q11 20 := (ql_eqz (Eq.symm hq11) (ql_dot3 (n := 3) (k := 20) bn11 bn10 bn11 bn27 bn28 bn29 (by decide)))
  have bn41 : QL q12 20 := (ql_eqz (Eq.symm hq12) (ql_dot3 (n := 3) (k := 20) bn33 bn34 bn35 bn27 bn28 bn29 (by decide)))
  have bn42 : QL q20 20 := (ql_eqz (Eq.symm hq20) (ql_dot3 (n := 3) (k := 20) bn10 bn11 bn11 bn30 bn31 bn32 (by decide)))
  have bn43 : QL q21 20 := (ql_eqz (Eq.symm hq21) (ql_dot3 (n := 3) (k := 20) bn11 bn10 bn11 bn30 bn31 bn32 (by decide)))
  have bn44 : QL q22 20 := (ql_eqz (Eq.symm hq22) (ql_dot3 (n := 3) (k := 20) bn33 bn34 bn35 bn30 bn31 bn32 (by decide)))
  refine kd [(7, (.ref 2 0))] [(2, some (bx (encA130 (A3.mk (A3.mk (ofQ q00) (ofQ q10) (ofQ q20)) (A3.mk (ofQ q01) (ofQ q11) (ofQ q21)) (A3.mk (ofQ q02) (ofQ q12) (ofQ q22))))))] mo (wM <| wE oNd <| wE (oFc fo134_1) <| wE (oFc fo29_1) <| wE (oCa sh25) <| wE (oCl (q_turn ra rb rc rd (by omega) (by omega) (by omega) (by omega) hrq)) <| wM <| wE oNd <| wE (oFc fo134_1) <| wE (oCa sh29) <| wE (oCl (q_inner rx ry rz ra rb rc rd rf ru rv (by omega) (by omega) (by omega))) <| wE (oCl (by have h := q_mul (R00 ra rb rc rd) (R01 ra rb rc rd) (R02 ra rb rc rd) (R10 ra rb rc rd) (R11 ra rb rc rd) (R12 ra rb rc rd) (R20 ra rb rc rd) (R21 ra rb rc rd) (R22 ra rb rc rd) (ql_up bn24 (by decide)) (ql_up bn25 (by decide)) (ql_up bn26 (by decide)) (ql_up bn27 (by decide)) (ql_up bn28 (by decide)) (ql_up bn29 (by decide)) (ql_up bn30 (by decide)) (ql_up bn31 (by decide)) (ql_up bn32 (by decide)) ((1 : Int) : Rat) ((0 : Int) : Rat) ((-ru : Int) : Rat) ((0 : Int) : Rat) ((1 : Int) : Rat) ((-rv : Int) : Rat) ((0 : Int) : Rat) ((0 : Int) : Rat) ((rf : Int) : Rat) (ql_up bn10 (by decide)) (ql_up bn11 (by decide)) (ql_up bn33 (by decide)) (ql_up bn11 (by decide)) (ql_up bn10 (by decide)) (ql_up bn34 (by decide)) (ql_up bn11 (by decide)) (ql_up bn11 (by decide)) (ql_up bn35 (by decide)); rw [hq00, hq01, hq02, hq10, hq11, hq12, hq20, hq21, hq22] at h; exact h)) <| wE (oCl (q_transp q00 q01 q02 q10 q11 q12 q20 q21 q22 (ql_up bn36 (by decide)) (ql_up bn37 (by decide)) (ql_up bn38 (by decide)) (ql_up bn39 (by decide)) (ql_up bn40 (by decide)) (ql_up bn41 (by decide)) (ql_up bn42 (by decide)) (ql_up bn43 (by decide)) (ql_up bn44 (by decide)))) <| wN (oAl 2 ze131 zo131) <| wT (oSt sh131) <| wZ) ?_
  refine pwp_seq ?_
  have bn45 : QL s00 47 := (ql_eqz (Eq.symm hs00) (ql_sub (k := 47) (ql_mul (k := 23) hqb1 bn21 (by decide)) (ql_mul (k := 23) hqb2 bn18 (by decide)) (by decide)))
  have bn46 : QL s10 47 := (ql_eqz (Eq.symm hs10) (ql_sub (k := 47) (ql_mul (k := 23) hqb2 bn15 (by decide)) (ql_mul (k := 23) hqb0 bn21 (by decide)) (by decide)))
  have bn47 : QL s20 47 := (ql_eqz (Eq.symm hs20) (ql_sub (k := 47) (ql_mul (k := 23) hqb0 bn18 (by decide)) (ql_mul (k := 23) hqb1 bn15 (by decide)) (by decide)))
  have bn48 : QL s01 47 := (ql_eqz (Eq.symm hs01) (ql_sub (k := 47) (ql_mul (k := 23) hqb1 bn22 (by decide)) (ql_mul (k := 23) hqb2 bn19 (by decide)) (by decide)))
  have bn49 : QL s11 47 := (ql_eqz (Eq.symm hs11) (ql_sub (k := 47) (ql_mul (k := 23) hqb2 bn16 (by decide)) (ql_mul (k := 23) hqb0 bn22 (by decide)) (by decide)))
  have bn50 : QL s21 47 := (ql_eqz (Eq.symm hs21) (ql_sub (k := 47) (ql_mul (k := 23) hqb0 bn19 (by decide)) (ql_mul (k := 23) hqb1 bn16 (by decide)) (by decide)))
  have bn51 : QL s02 47 := (ql_eqz (Eq.symm hs02) (ql_sub (k := 47) (ql_mul (k := 23) hqb1 bn23 (by decide)) (ql_mul (k := 23) hqb2 bn20 (by decide)) (by decide)))
  have bn52 : QL s12 47 := (ql_eqz (Eq.symm hs12) (ql_sub (k := 47) (ql_mul (k := 23) hqb2 bn17 (by decide)) (ql_mul (k := 23) hqb0 bn23 (by decide)) (by decide)))
  have bn53 : QL s22 47 := (ql_eqz (Eq.symm hs22) (ql_sub (k := 47) (ql_mul (k := 23) hqb0 bn20 (by decide)) (ql_mul (k := 23) hqb1 bn17 (by decide)) (by decide)))
  refine kd [(8, (.ref 3 0))] [(3, some (bx (encA130 (A3.mk (A3.mk (ofQ s00) (ofQ s01) (ofQ s02)) (A3.mk (ofQ s10) (ofQ s11) (ofQ s12)) (A3.mk (ofQ s20) (ofQ s21) (ofQ s22))))))] mo (wM <| wE oNd <| wE (oFc fo134_2) <| wE (oCa sh129) <| wE (oXr ar131 0) <| wR (oLa sh129) <| wE (oCl (by have h := q_cross b0 b1 b2 (ql_up hqb0 (by decide)) (ql_up hqb1 (by decide)) (ql_up hqb2 (by decide)) p00 p10 p20 (ql_up bn15 (by decide)) (ql_up bn18 (by decide)) (ql_up bn21 (by decide)); rw [hs00, hs10, hs20] at h; exact h)) <| wM <| wE oNd <| wE (oFc fo134_2) <| wE (oCa sh129) <| wE (oXr ar131 1) <| wR (oLa sh129) <| wE (oCl (by have h := q_cross b0 b1 b2 (ql_up hqb0 (by decide)) (ql_up hqb1 (by decide)) (ql_up hqb2 (by decide)) p01 p11 p21 (ql_up bn16 (by decide)) (ql_up bn19 (by decide)) (ql_up bn22 (by decide)); rw [hs01, hs11, hs21] at h; exact h)) <| wM <| wE oNd <| wE (oFc fo134_2) <| wE (oCa sh129) <| wE (oXr ar131 2) <| wR (oLa sh129) <| wE (oCl (by have h := q_cross b0 b1 b2 (ql_up hqb0 (by decide)) (ql_up hqb1 (by decide)) (ql_up hqb2 (by decide)) p02 p12 p22 (ql_up bn17 (by decide)) (ql_up bn20 (by decide)) (ql_up bn23 (by decide)); rw [hs02, hs12, hs22] at h; exact h)) <| wE (oBf ar131 ze131 zo131) <| wE (oCl (q_transp s00 s10 s20 s01 s11 s21 s02 s12 s22 (ql_up bn45 (by decide)) (ql_up bn46 (by decide)) (ql_up bn47 (by decide)) (ql_up bn48 (by decide)) (ql_up bn49 (by decide)) (ql_up bn50 (by decide)) (ql_up bn51 (by decide)) (ql_up bn52 (by decide)) (ql_up bn53 (by decide)))) <| wN (oAl 3 ze131 zo131) <| wT (oSt sh131) <| wZ) ?_
  refine pwp_seq ?_
  have bn54 : QL f00 284 := (ql_eqz (Eq.symm hf00) (ql_dot3 (n := 47) (k := 284) bn45 bn46 bn47 (ql_up bn36 (by decide)) (ql_up bn39 (by decide)) (ql_up bn42 (by decide)) (by decide)))
  have bn55 : QL f01 284 := (ql_eqz (Eq.symm hf01) (ql_dot3 (n := 47) (k := 284) bn48 bn49 bn50 (ql_up bn36 (by decide)) (ql_up bn39 (by decide)) (ql_up bn42 (by decide)) (by decide)))
  have bn56 : QL f02 284 := (ql_eqz (Eq.symm hf02) (ql_dot3 (n := 47) (k := 284) bn51 bn52 bn53 (ql_up bn36 (by decide)) (ql_up bn39 (by decide)) (ql_up bn42 (by decide)) (by decide)))
  have bn57 : QL f10 284 := (ql_eqz (Eq.symm hf10) (ql_dot3 (n := 47) (k := 284) bn45 bn46 bn47 (ql_up bn37 (by decide)) (ql_up bn40 (by decide)) (ql_up bn43 (by decide)) (by decide)))
  have bn58 : QL f11 284 := (ql_eqz (Eq.symm hf11) (ql_dot3 (n := 47) (k := 284) bn48 bn49 bn50 (ql_up bn37 (by decide)) (ql_up bn40 (by decide)) (ql_up bn43 (by decide)) (by decide)))
  have bn59 : QL f12 284 := (ql_eqz (Eq.symm hf12) (ql_dot3 (n := 47) (k := 284) bn51 bn52 bn53 (ql_up bn37 (by decide)) (ql_up bn40 (by decide)) (ql_up bn43 (by decide)) (by decide)))
  have bn60 : QL f20 284 := (ql_eqz (Eq.symm hf20) (ql_dot3 (n := 47) (k := 284) bn45 bn46 bn47 (ql_up bn38 (by decide)) (ql_up bn41 (by decide)) (ql_up bn44 (by decide)) (by decide)))
  have bn61 : QL f21 284 := (ql_eqz (Eq.symm hf21) (ql_dot3 (n := 47) (k := 284) bn48 bn49 bn50 (ql_up bn38 (by decide)) (ql_up bn41 (by decide)) (ql_up bn44 (by decide)) (by decide)))
  have bn62 : QL f22 284 := (ql_eqz (Eq.symm hf22) (ql_dot3 (n := 47) (k := 284) bn51 bn52 bn53 (ql_up bn38 (by decide)) (ql_up bn41 (by decide)) (ql_up bn44 (by decide)) (by decide)))
  refine kx [(2, (vl 52 1 enc_sl_52 [[(ofQ f00), (ofQ f01), (ofQ f02)], [(ofQ f10), (ofQ f11), (ofQ f12)], [(ofQ f20), (ofQ f21), (ofQ f22)]])), (3, (vin 0))] [] (zR (oLa sh131) <| zR (oLa sh131) <| zE (oCl (by have h := q_mul q00 q10 q20 q01 q11 q21 q02 q12 q22 (ql_up bn36 (by decide)) (ql_up bn39 (by decide)) (ql_up bn42 (by decide)) (ql_up bn37 (by decide)) (ql_up bn40 (by decide)) (ql_up bn43 (by decide)) (ql_up bn38 (by decide)) (ql_up bn41 (by decide)) (ql_up bn44 (by decide)) s00 s01 s02 s10 s11 s12 s20 s21 s22 (ql_up bn45 (by decide)) (ql_up bn48 (by decide)) (ql_up bn51 (by decide)) (ql_up bn46 (by decide)) (ql_up bn49 (by decide)) (ql_up bn52 (by decide)) (ql_up bn47 (by decide)) (ql_up bn50 (by decide)) (ql_up bn53 (by decide)); rw [hf00, hf01, hf02, hf10, hf11, hf12, hf20, hf21, hf22] at h; exact h)) <| zE (oCl (q_tmat f00 f01 f02 f10 f11 f12 f20 f21 f22 (ql_up bn54 (by decide)) (ql_up bn55 (by decide)) (ql_up bn56 (by decide)) (ql_up bn57 (by decide)) (ql_up bn58 (by decide)) (ql_up bn59 (by decide)) (ql_up bn60 (by decide)) (ql_up bn61 (by decide)) (ql_up bn62 (by decide)))) <| zM <| zM <| zZ) ?_
  refine pwp_ret ⟨_, (.tmp (d := (.sl 52 1 (List.map enc_sl_52 [[(ofQ f00), (ofQ f01), (ofQ f02)], [(ofQ f10), (ofQ f11), (ofQ f12)], [(ofQ f20), (ofQ f21), (ofQ f22)]]))) rfl (.tmp (d := (.val (.int .i64 (((0 : Nat) : Int))))) rfl .nil)), ?_⟩
  rfl
theorem qs_exa  : Takes Tryz.prog 67 [] (encStereo (RStereo.mk (RStn.mk (RSpot.mk 0 0 0) (RQuat.mk 1 0 0 0) 100 (RPix.mk 0 0)) (RStn.mk (RSpot.mk 10 0 0) (RQuat.mk 1 0 0 0) 100 (RPix.mk 0 0)))) := by
  refine fn_intro Tryz.func67 rfl cb67 rfl ?_
  show PWp _ _ _ _ ⟨[], []⟩
  refine pwp_seq <| kx [(0, (.ref 0 0))] [(0, some (bx (encStereo (RStereo.mk (RStn.mk (RSpot.mk 0 0 0) (RQuat.mk 0 0 0 0) 0 (RPix.mk 0 0)) (RStn.mk (RSpot.mk 0 0 0) (RQuat.mk 0 0 0 0) 0 (RPix.mk 0 0))))))] (zN (oAl 0 ze31 zo31) <| zZ) ?_
  refine pwp_seq <| kx [(1, (.ref 1 0))] [(1, some (bx (encStn (RStn.mk (RSpot.mk 0 0 0) (RQuat.mk 1 0 0 0) 100 (RPix.mk 0 0)))))] (zE (oBd pl25 ze25 zo25) <| zE (oBd pl29 ze29 zo29) <| zN (oAl 1 ze29 zo29) <| zT (oSt sh29) <| zZ) ?_
  refine pwp_seq <| kx [(2, (.ref 2 0))] [(2, some (bx (encStn (RStn.mk (RSpot.mk 0 0 0) (RQuat.mk 1 0 0 0) 100 (RPix.mk 0 0)))))] (zR (oLa sh29) <| zN (oAl 2 ze29 zo29) <| zT (oSt sh29) <| zZ) ?_
  refine pwp_seq <| kx [] [(2, some (bx (encStn (RStn.mk (RSpot.mk 10 0 0) (RQuat.mk 1 0 0 0) 100 (RPix.mk 0 0)))))] (zE (oFr fo29_0) <| zE (oFr fo23_0) <| zT (oSt sh3) <| zZ) ?_
  refine pwp_seq <| kx [] [(0, some (bx (encStereo (RStereo.mk (RStn.mk (RSpot.mk 0 0 0) (RQuat.mk 1 0 0 0) 100 (RPix.mk 0 0)) (RStn.mk (RSpot.mk 10 0 0) (RQuat.mk 1 0 0 0) 100 (RPix.mk 0 0))))))] (zR (oLa sh29) <| zR (oLa sh29) <| zE (oBd pl31 ze31 zo31) <| zT (oSt sh31) <| zZ) ?_
  refine pwp_ret ⟨_, (res_a (cs := (bx (encStereo (RStereo.mk (RStn.mk (RSpot.mk 0 0 0) (RQuat.mk 1 0 0 0) 100 (RPix.mk 0 0)) (RStn.mk (RSpot.mk 10 0 0) (RQuat.mk 1 0 0 0) 100 (RPix.mk 0 0)))))) (d := (encStereo (RStereo.mk (RStn.mk (RSpot.mk 0 0 0) (RQuat.mk 1 0 0 0) 100 (RPix.mk 0 0)) (RStn.mk (RSpot.mk 10 0 0) (RQuat.mk 1 0 0 0) 100 (RPix.mk 0 0))))) rfl rfl sh31 rfl rfl .nil), ?_⟩
  rfl
set_option maxHeartbeats 4000000 in
theorem qs_known  : Takes Tryz.prog 12 [] (.val (.bool (true))) := by
  let y1 := (ofQ ((dot3 ((1 : Int) : Rat) ((0 : Int) : Rat) ((0 : Int) : Rat) ((10 : Int) : Rat) ((0 : Int) : Rat) ((0 : Int) : Rat)) / (dot3 ((0 : Int) : Rat) ((0 : Int) : Rat) ((1 : Int) : Rat) ((20 : Int) : Rat) ((30 : Int) : Rat) ((1000 : Int) : Rat))))
  refine fn_intro Tryz.func12 rfl cb12 rfl ?_
  show PWp _ _ _ _ ⟨[], []⟩
  refine pwp_seq <| kx [] [] (zM <| zZ) ?_
  refine pwp_seq ?_
  have bn1 : QL ((dot3 ((1 : Int) : Rat) ((0 : Int) : Rat) ((0 : Int) : Rat) ((20 : Int) : Rat) ((30 : Int) : Rat) ((1000 : Int) : Rat)) / (dot3 ((0 : Int) : Rat) ((0 : Int) : Rat) ((1 : Int) : Rat) ((20 : Int) : Rat) ((30 : Int) : Rat) ((1000 : Int) : Rat))) 4804 := (ql_div (k := 4804) (ql_dot3 (n := 400) (k := 2402) (ql_int (z := 1) (n := 400) (Nat.le_trans (lenZ_int (by decide) (by decide)) (by decide)) (by decide)) (ql_int (z := 0) (n := 400) (Nat.le_trans (lenZ_int (by decide) (by decide)) (by decide)) (by decide)) (ql_int (z := 0) (n := 400) (Nat.le_trans (lenZ_int (by decide) (by decide)) (by decide)) (by decide)) (ql_up (ql_int (z := 20) (n := 3) (Nat.le_trans (lenZ_one (by decide)) (by decide)) (by decide)) (by decide)) (ql_up (ql_int (z := 30) (n := 3) (Nat.le_trans (lenZ_one (by decide)) (by decide)) (by decide)) (by decide)) (ql_up (ql_int (z := 1000) (n := 3) (Nat.le_trans (lenZ_one (by decide)) (by decide)) (by decide)) (by decide)) (by decide)) (ql_dot3 (n := 400) (k := 2402) (ql_int (z := 0) (n := 400) (Nat.le_trans (lenZ_int (by decide) (by decide)) (by decide)) (by decide)) (ql_int (z := 0) (n := 400) (Nat.le_trans (lenZ_int (by decide) (by decide)) (by decide)) (by decide)) (ql_int (z := 1) (n := 400) (Nat.le_trans (lenZ_int (by decide) (by decide)) (by decide)) (by decide)) (ql_up (ql_int (z := 20) (n := 3) (Nat.le_trans (lenZ_one (by decide)) (by decide)) (by decide)) (by decide)) (ql_up (ql_int (z := 30) (n := 3) (Nat.le_trans (lenZ_one (by decide)) (by decide)) (by decide)) (by decide)) (ql_up (ql_int (z := 1000) (n := 3) (Nat.le_trans (lenZ_one (by decide)) (by decide)) (by decide)) (by decide)) (by decide)) (by decide))
  have bn2 : QL ((dot3 ((0 : Int) : Rat) ((1 : Int) : Rat) ((0 : Int) : Rat) ((20 : Int) : Rat) ((30 : Int) : Rat) ((1000 : Int) : Rat)) / (dot3 ((0 : Int) : Rat) ((0 : Int) : Rat) ((1 : Int) : Rat) ((20 : Int) : Rat) ((30 : Int) : Rat) ((1000 : Int) : Rat))) 4804 := (ql_div (k := 4804) (ql_dot3 (n := 400) (k := 2402) (ql_int (z := 0) (n := 400) (Nat.le_trans (lenZ_int (by decide) (by decide)) (by decide)) (by decide)) (ql_int (z := 1) (n := 400) (Nat.le_trans (lenZ_int (by decide) (by decide)) (by decide)) (by decide)) (ql_int (z := 0) (n := 400) (Nat.le_trans (lenZ_int (by decide) (by decide)) (by decide)) (by decide)) (ql_up (ql_int (z := 20) (n := 3) (Nat.le_trans (lenZ_one (by decide)) (by decide)) (by decide)) (by decide)) (ql_up (ql_int (z := 30) (n := 3) (Nat.le_trans (lenZ_one (by decide)) (by decide)) (by decide)) (by decide)) (ql_up (ql_int (z := 1000) (n := 3) (Nat.le_trans (lenZ_one (by decide)) (by decide)) (by decide)) (by decide)) (by decide)) (ql_dot3 (n := 400) (k := 2402) (ql_int (z := 0) (n := 400) (Nat.le_trans (lenZ_int (by decide) (by decide)) (by decide)) (by decide)) (ql_int (z := 0) (n := 400) (Nat.le_trans (lenZ_int (by decide) (by decide)) (by decide)) (by decide)) (ql_int (z := 1) (n := 400) (Nat.le_trans (lenZ_int (by decide) (by decide)) (by decide)) (by decide)) (ql_up (ql_int (z := 20) (n := 3) (Nat.le_trans (lenZ_one (by decide)) (by decide)) (by decide)) (by decide)) (ql_up (ql_int (z := 30) (n := 3) (Nat.le_trans (lenZ_one (by decide)) (by decide)) (by decide)) (by decide)) (ql_up (ql_int (z := 1000) (n := 3) (Nat.le_trans (lenZ_one (by decide)) (by decide)) (by decide)) (by decide)) (by decide)) (by decide))
  have bn3 : QL ((dot3 ((1 : Int) : Rat) ((0 : Int) : Rat) ((0 : Int) : Rat) ((10 : Int) : Rat) ((0 : Int) : Rat) ((0 : Int) : Rat)) / (dot3 ((0 : Int) : Rat) ((0 : Int) : Rat) ((1 : Int) : Rat) ((20 : Int) : Rat) ((30 : Int) : Rat) ((1000 : Int) : Rat))) 4804 := (ql_div (k := 4804) (ql_dot3 (n := 400) (k := 2402) (ql_int (z := 1) (n := 400) (Nat.le_trans (lenZ_int (by decide) (by decide)) (by decide)) (by decide)) (ql_int (z := 0) (n := 400) (Nat.le_trans (lenZ_int (by decide) (by decide)) (by decide)) (by decide)) (ql_int (z := 0) (n := 400) (Nat.le_trans (lenZ_int (by decide) (by decide)) (by decide)) (by decide)) (ql_up (ql_int (z := 10) (n := 3) (lenZ_int (by decide) (by decide)) (by decide)) (by decide)) (ql_up (ql_int (z := 0) (n := 3) (lenZ_int (by decide) (by decide)) (by decide)) (by decide)) (ql_up (ql_int (z := 0) (n := 3) (lenZ_int (by decide) (by decide)) (by decide)) (by decide)) (by decide)) (ql_dot3 (n := 400) (k := 2402) (ql_int (z := 0) (n := 400) (Nat.le_trans (lenZ_int (by decide) (by decide)) (by decide)) (by decide)) (ql_int (z := 0) (n := 400) (Nat.le_trans (lenZ_int (by decide) (by decide)) (by decide)) (by decide)) (ql_int (z := 1) (n := 400) (Nat.le_trans (lenZ_int (by decide) (by decide)) (by decide)) (by decide)) (ql_up (ql_int (z := 20) (n := 3) (Nat.le_trans (lenZ_one (by decide)) (by decide)) (by decide)) (by decide)) (ql_up (ql_int (z := 30) (n := 3) (Nat.le_trans (lenZ_one (by decide)) (by decide)) (by decide)) (by decide)) (ql_up (ql_int (z := 1000) (n := 3) (Nat.le_trans (lenZ_one (by decide)) (by decide)) (by decide)) (by decide)) (by decide)) (by decide))
  refine kx [(1, (.ref 0 0)), (2, (.ref 1 0)), (3, (vi 0))] [(0, some (bx (encPlace (RPlace.mk (ofQ ((dot3 ((1 : Int) : Rat) ((0 : Int) : Rat) ((0 : Int) : Rat) ((20 : Int) : Rat) ((30 : Int) : Rat) ((1000 : Int) : Rat)) / (dot3 ((0 : Int) : Rat) ((0 : Int) : Rat) ((1 : Int) : Rat) ((20 : Int) : Rat) ((30 : Int) : Rat) ((1000 : Int) : Rat)))) (ofQ ((dot3 ((0 : Int) : Rat) ((1 : Int) : Rat) ((0 : Int) : Rat) ((20 : Int) : Rat) ((30 : Int) : Rat) ((1000 : Int) : Rat)) / (dot3 ((0 : Int) : Rat) ((0 : Int) : Rat) ((1 : Int) : Rat) ((20 : Int) : Rat) ((30 : Int) : Rat) ((1000 : Int) : Rat)))))))), (1, some (bx (encR y1)))] (zE (oCl qs_exa) <| zE (oBd pl23 ze23 zo23) <| zE (oCl (q_prj 0 0 0 1 0 0 0 100 0 0 10 0 0 1 0 0 0 100 0 0 ((20 : Nat) : Int) ((30 : Nat) : Int) ((1000 : Nat) : Int) (by omega) (by omega) (by omega) ((10 : Int) : Rat) ((0 : Int) : Rat) ((0 : Int) : Rat) ((1 : Int) : Rat) ((0 : Int) : Rat) ((0 : Int) : Rat) ((0 : Int) : Rat) ((1 : Int) : Rat) ((0 : Int) : Rat) ((0 : Int) : Rat) ((0 : Int) : Rat) ((1 : Int) : Rat) (by decide +kernel) (ql_int (z := 10) (n := 3) (lenZ_int (by decide) (by decide)) (by decide)) (ql_int (z := 0) (n := 3) (lenZ_int (by decide) (by decide)) (by decide)) (ql_int (z := 0) (n := 3) (lenZ_int (by decide) (by decide)) (by decide)) (ql_int (z := 1) (n := 400) (Nat.le_trans (lenZ_int (by decide) (by decide)) (by decide)) (by decide)) (ql_int (z := 0) (n := 400) (Nat.le_trans (lenZ_int (by decide) (by decide)) (by decide)) (by decide)) (ql_int (z := 0) (n := 400) (Nat.le_trans (lenZ_int (by decide) (by decide)) (by decide)) (by decide)) (ql_int (z := 0) (n := 400) (Nat.le_trans (lenZ_int (by decide) (by decide)) (by decide)) (by decide)) (ql_int (z := 1) (n := 400) (Nat.le_trans (lenZ_int (by decide) (by decide)) (by decide)) (by decide)) (ql_int (z := 0) (n := 400) (Nat.le_trans (lenZ_int (by decide) (by decide)) (by decide)) (by decide)) (ql_int (z := 0) (n := 400) (Nat.le_trans (lenZ_int (by decide) (by decide)) (by decide)) (by decide)) (ql_int (z := 0) (n := 400) (Nat.le_trans (lenZ_int (by decide) (by decide)) (by decide)) (by decide)) (ql_int (z := 1) (n := 400) (Nat.le_trans (lenZ_int (by decide) (by decide)) (by decide)) (by decide)) ((20 : Int) : Rat) (by decide +kernel) ((30 : Int) : Rat) (by decide +kernel) ((1000 : Int) : Rat) (by decide +kernel) (by decide +kernel) (by decide +kernel) (by decide +kernel) (by decide +kernel))) <| zM <| zE oEx <| zE oEx <| zE oEx <| zN (oAl 0 ze56 zo56) <| zN (oAl 1 ze42 zo42) <| zT (oSt sh56) <| zT (oSt sh42) <| zM <| zZ) ?_
  refine pwp_seq ?_
  have bn4 : QL (Rat.divInt 1 50) 3 := (ql_divInt (n := 3) (lenZ_int (by omega) (by omega)) (lenZ_int (by omega) (by omega)) (by decide))
  refine kx [(4, (.ref 2 0))] [(2, some (bx (encR (ofQ (Rat.divInt 1 50)))))] (zE (oCl (qs_of ((1 : Nat) : Int) (by omega) (by omega) ((50 : Nat) : Int) (by omega) (by omega) (by decide +kernel))) <| zM <| zE oEx <| zE oEx <| zN (oAl 2 ze42 zo42) <| zT (oSt sh42) <| zM <| zZ) ?_
  refine pwp_seq ?_
  have bn5 : QL (Rat.divInt 3 100) 3 := (ql_divInt (n := 3) (lenZ_int (by omega) (by omega)) (lenZ_int (by omega) (by omega)) (by decide))
  refine kx [(6, (.ref 3 0))] [(3, some (bx (encR (ofQ (Rat.divInt 3 100)))))] (zE (oCl (qs_of ((3 : Nat) : Int) (by omega) (by omega) ((100 : Nat) : Int) (by omega) (by omega) (by decide +kernel))) <| zM <| zE oEx <| zE oEx <| zN (oAl 3 ze42 zo42) <| zT (oSt sh42) <| zM <| zZ) ?_
  refine pwp_seq ?_
  have bn6 : QL (Rat.divInt 1 100) 3 := (ql_divInt (n := 3) (lenZ_int (by omega) (by omega)) (lenZ_int (by omega) (by omega)) (by decide))
  refine kx [(8, (.ref 4 0))] [(4, some (bx (encR (ofQ (Rat.divInt 1 100)))))] (zE (oCl (qs_of ((1 : Nat) : Int) (by omega) (by omega) ((100 : Nat) : Int) (by omega) (by omega) (by decide +kernel))) <| zM <| zE oEx <| zE oEx <| zN (oAl 4 ze42 zo42) <| zT (oSt sh42) <| zM <| zZ) ?_
  refine pwp_seq ?_
  have bn7 : QL ((0 : Int) : Rat) 3 := (ql_int (z := 0) (n := 3) (Nat.le_trans (lenZ_one (by decide)) (by decide)) (by decide))
  have bn8 : QL (((-1000) : Int) : Rat) 3 := (ql_int (z := (-1000)) (n := 3) (Nat.le_trans (lenZ_one (by decide)) (by decide)) (by decide))
  have bn9 : QL ((1000 : Int) : Rat) 3 := (ql_int (z := 1000) (n := 3) (Nat.le_trans (lenZ_one (by decide)) (by decide)) (by decide))
  refine kx [(10, (vl 52 1 enc_sl_52 [[(ofQ ((0 : Int) : Rat)), (ofQ ((0 : Int) : Rat)), (ofQ ((0 : Int) : Rat))], [(ofQ ((0 : Int) : Rat)), (ofQ ((0 : Int) : Rat)), (ofQ (((-1000) : Int) : Rat))], [(ofQ ((0 : Int) : Rat)), (ofQ ((1000 : Int) : Rat)), (ofQ ((0 : Int) : Rat))]])), (11, (vi 0))] [] (zE (oCl qs_exa) <| zE (oCl (q_fun 0 0 0 1 0 0 0 100 0 0 10 0 0 1 0 0 0 100 0 0 ((10 : Int) : Rat) ((0 : Int) : Rat) ((0 : Int) : Rat) ((1 : Int) : Rat) ((0 : Int) : Rat) ((0 : Int) : Rat) ((0 : Int) : Rat) ((1 : Int) : Rat) ((0 : Int) : Rat) ((0 : Int) : Rat) ((0 : Int) : Rat) ((1 : Int) : Rat) (by decide +kernel) (ql_int (z := 10) (n := 3) (lenZ_int (by decide) (by decide)) (by decide)) (ql_int (z := 0) (n := 3) (lenZ_int (by decide) (by decide)) (by decide)) (ql_int (z := 0) (n := 3) (lenZ_int (by decide) (by decide)) (by decide)) (ql_int (z := 1) (n := 400) (Nat.le_trans (lenZ_int (by decide) (by decide)) (by decide)) (by decide)) (ql_int (z := 0) (n := 400) (Nat.le_trans (lenZ_int (by decide) (by decide)) (by decide)) (by decide)) (ql_int (z := 0) (n := 400) (Nat.le_trans (lenZ_int (by decide) (by decide)) (by decide)) (by decide)) (ql_int (z := 0) (n := 400) (Nat.le_trans (lenZ_int (by decide) (by decide)) (by decide)) (by decide)) (ql_int (z := 1) (n := 400) (Nat.le_trans (lenZ_int (by decide) (by decide)) (by decide)) (by decide)) (ql_int (z := 0) (n := 400) (Nat.le_trans (lenZ_int (by decide) (by decide)) (by decide)) (by decide)) (ql_int (z := 0) (n := 400) (Nat.le_trans (lenZ_int (by decide) (by decide)) (by decide)) (by decide)) (ql_int (z := 0) (n := 400) (Nat.le_trans (lenZ_int (by decide) (by decide)) (by decide)) (by decide)) (ql_int (z := 1) (n := 400) (Nat.le_trans (lenZ_int (by decide) (by decide)) (by decide)) (by decide)) ((1 : Int) : Rat) (by decide +kernel) ((0 : Int) : Rat) (by decide +kernel) ((0 : Int) : Rat) (by decide +kernel) ((0 : Int) : Rat) (by decide +kernel) ((1 : Int) : Rat) (by decide +kernel) ((0 : Int) : Rat) (by decide +kernel) ((0 : Int) : Rat) (by decide +kernel) ((0 : Int) : Rat) (by decide +kernel) ((100 : Int) : Rat) (by decide +kernel) ((1 : Int) : Rat) (by decide +kernel) ((0 : Int) : Rat) (by decide +kernel) ((0 : Int) : Rat) (by decide +kernel) ((0 : Int) : Rat) (by decide +kernel) ((1 : Int) : Rat) (by decide +kernel) ((0 : Int) : Rat) (by decide +kernel) ((0 : Int) : Rat) (by decide +kernel) ((0 : Int) : Rat) (by decide +kernel) ((100 : Int) : Rat) (by decide +kernel) ((0 : Int) : Rat) (by decide +kernel) ((0 : Int) : Rat) (by decide +kernel) ((0 : Int) : Rat) (by decide +kernel) ((0 : Int) : Rat) (by decide +kernel) ((0 : Int) : Rat) (by decide +kernel) (((-1000) : Int) : Rat) (by decide +kernel) ((0 : Int) : Rat) (by decide +kernel) ((10 : Int) : Rat) (by decide +kernel) ((0 : Int) : Rat) (by decide +kernel) ((0 : Int) : Rat) (by decide +kernel) ((0 : Int) : Rat) (by decide +kernel) ((0 : Int) : Rat) (by decide +kernel) ((0 : Int) : Rat) (by decide +kernel) ((0 : Int) : Rat) (by decide +kernel) (((-1000) : Int) : Rat) (by decide +kernel) ((0 : Int) : Rat) (by decide +kernel) ((1000 : Int) : Rat) (by decide +kernel) ((0 : Int) : Rat) (by decide +kernel) (by decide +kernel) (by decide +kernel) (by decide +kernel))) <| zM <| zE oEx <| zE oEx <| zM <| zM <| zZ) ?_
  refine pwp_seq ?_
  have bn10 : QL ((-1000 : Int) : Rat) 1 := (ql_int (z := (-1000)) (lenZ_one (by decide)) (by decide))
  refine kd [(0, (vb true))] [] mo (wM <| wE oEq <| wM <| wM <| wE oEq <| wE oPt <| wM <| wR (oLa sh56) <| wR (oLa sh42) <| wR (oLa sh42) <| wE (oBd pl56 ze56 zo56) <| wE (oCl (qs_samep ((dot3 ((1 : Int) : Rat) ((0 : Int) : Rat) ((0 : Int) : Rat) ((20 : Int) : Rat) ((30 : Int) : Rat) ((1000 : Int) : Rat)) / (dot3 ((0 : Int) : Rat) ((0 : Int) : Rat) ((1 : Int) : Rat) ((20 : Int) : Rat) ((30 : Int) : Rat) ((1000 : Int) : Rat))) ((dot3 ((0 : Int) : Rat) ((1 : Int) : Rat) ((0 : Int) : Rat) ((20 : Int) : Rat) ((30 : Int) : Rat) ((1000 : Int) : Rat)) / (dot3 ((0 : Int) : Rat) ((0 : Int) : Rat) ((1 : Int) : Rat) ((20 : Int) : Rat) ((30 : Int) : Rat) ((1000 : Int) : Rat))) (ql_up bn1 (by decide)) (ql_up bn2 (by decide)) (Rat.divInt 1 50) (Rat.divInt 3 100) (ql_up bn4 (by decide)) (ql_up bn5 (by decide)) (by decide +kernel) (by decide +kernel))) <| wE oPt <| wM <| wR (oLa sh42) <| wR (oLa sh42) <| wE (oBk true (oCl (by have h := g_same y1 (ofQ (Rat.divInt 1 100)) ((dot3 ((1 : Int) : Rat) ((0 : Int) : Rat) ((0 : Int) : Rat) ((10 : Int) : Rat) ((0 : Int) : Rat) ((0 : Int) : Rat)) / (dot3 ((0 : Int) : Rat) ((0 : Int) : Rat) ((1 : Int) : Rat) ((20 : Int) : Rat) ((30 : Int) : Rat) ((1000 : Int) : Rat))) (Rat.divInt 1 100) (qok_up (qok_of bn3) (by decide)) (qok_up (qok_of bn6) (by decide)); rw [sameR_of] at h; exact h)) (by exact (by decide +kernel))) <| wE oPt <| wM <| wM <| wE (oLn el34 3) <| wE oEq <| wE oPt <| wM <| wM <| wE (oXs el34 1) <| wE (oC1 sh52) <| wE (oLn el52 3) <| wE oEq <| wE oPt <| wM <| wM <| wE (oXs el34 1) <| wE (oC1 sh52) <| wE (oXs el52 2) <| wE (oCa sh42) <| wE (oCl (g_whole (-1000) (by decide) (by decide))) <| wE (oBk true (oCl (by have h := g_same (ofQ (((-1000) : Int) : Rat)) (ofQ ((-1000 : Int) : Rat)) (((-1000) : Int) : Rat) ((-1000 : Int) : Rat) (qok_up (qok_of bn8) (by decide)) (qok_up (qok_of bn10) (by decide)); rw [sameR_of] at h; exact h)) (by exact (by decide +kernel))) <| wE oPt <| wM <| wZ) ?_
  refine pwp_ret ⟨_, (.tmp (d := (.val (.bool (true)))) rfl .nil), ?_⟩
  rfl
end Go.Proofs.YtbecgnplakngdaaGreat
namespace Go.Proofs.YtbecgnplakngdaaGreat
open Go.Fid
set_option maxRecDepth 4000
set_option linter.unusedVariables false
set_option linter.unusedSimpArgs false
theorem cb39 : callB Tryz.prog 39 = true := by kernel_rfl
theorem g_sameL3 (taa : Nat) (a0 a1 a2 : Rat) (ha0 : QL a0 1000000) (ha1 : QL a1 1000000) (ha2 : QL a2 1000000) (tbb : Nat) (b0 b1 b2 : Rat) (hb0 : QL b0 1000000) (hb1 : QL b1 1000000) (hb2 : QL b2 1000000) (hab0 : a0 = b0) (hab1 : a1 = b1) (hab2 : a2 = b2) : Takes Tryz.prog 39 [(.sl taa 4 (List.map encR [(ofQ a0), (ofQ a1), (ofQ a2)])), (.sl tbb 4 (List.map encR [(ofQ b0), (ofQ b1), (ofQ b2)]))] (.val (.bool (true))) := by
  refine fn_intro Tryz.func39 rfl cb39 rfl ?_
  show PWp _ _ _ _ ⟨[(0, (vl taa 4 encR [(ofQ a0), (ofQ a1), (ofQ a2)])), (1, (vl tbb 4 encR [(ofQ b0), (ofQ b1), (ofQ b2)]))], []⟩
  refine pwp_seq <| kx [] [] (zM <| zZ) ?_
  refine pwp_seq <| pwp_seq <| kx [(10, (vb false))] [] (zM <| zE (oLn el52 3) <| zM <| zE (oLn el52 3) <| zE oNe <| zZ) ?_
  refine pwp_cond (b := false) (by kernel_rfl) (fun h => by cases h) (fun _ => ?_)
  refine pwp_skip <| pwp_seq <| pwp_seq <| kx [(5, (vin 0))] [] (zM <| zZ) ?_
  refine pwp_block <| pwp_rounds 20 ?_
  refine pwp_round <| pwp_seq <| pwp_seq <| kx [(14, (vb true))] [] (zM <| zM <| zE (oLn el52 3) <| zE (oBk true oLt) <| zZ) ?_
  refine pwp_cond (b := true) (by kernel_rfl) (fun _ => ?_) (fun h => by cases h)
  refine pwp_skip <| pwp_seq <| pwp_block <| pwp_seq <| kd [(26, (vb false))] [] mo (wM <| wM <| wE (oXs el52 0) <| wE (oCa sh42) <| wM <| wM <| wE (oXs el52 0) <| wE (oCa sh42) <| wE (oBk true (oCl (by have h := g_same (ofQ a0) (ofQ b0) a0 b0 (qok_up (qok_of ha0) (by decide)) (qok_up (qok_of hb0) (by decide)); rw [sameR_of] at h; exact h)) (by exact decide_eq_true hab0)) <| wE oNt <| wZ) ?_
  refine pwp_cond (b := false) (by kernel_rfl) (fun h => by cases h) (fun _ => ?_)
  refine pwp_skip <| kx [(5, (vin 1))] [] (zM <| zE (oAd 1 (hr := by decide)) <| zM <| zZ) ?_
  refine pwp_again (SimImp.refl _) ?_
  refine pwp_seq <| pwp_seq <| kx [(14, (vb true))] [] (zM <| zM <| zE (oLn el52 3) <| zE (oBk true oLt) <| zZ) ?_
  refine pwp_cond (b := true) (by kernel_rfl) (fun _ => ?_) (fun h => by cases h)
  refine pwp_skip <| pwp_seq <| pwp_block <| pwp_seq <| kd [(26, (vb false))] [] mo (wM <| wM <| wE (oXs el52 1) <| wE (oCa sh42) <| wM <| wM <| wE (oXs el52 1) <| wE (oCa sh42) <| wE (oBk true (oCl (by have h := g_same (ofQ a1) (ofQ b1) a1 b1 (qok_up (qok_of ha1) (by decide)) (qok_up (qok_of hb1) (by decide)); rw [sameR_of] at h; exact h)) (by exact decide_eq_true hab1)) <| wE oNt <| wZ) ?_
  refine pwp_cond (b := false) (by kernel_rfl) (fun h => by cases h) (fun _ => ?_)
  refine pwp_skip <| kx [(5, (vin 2))] [] (zM <| zE (oAd 2 (hr := by decide)) <| zM <| zZ) ?_
  refine pwp_again (SimImp.refl _) ?_
  refine pwp_seq <| pwp_seq <| kx [(14, (vb true))] [] (zM <| zM <| zE (oLn el52 3) <| zE (oBk true oLt) <| zZ) ?_
  refine pwp_cond (b := true) (by kernel_rfl) (fun _ => ?_) (fun h => by cases h)
  refine pwp_skip <| pwp_seq <| pwp_block <| pwp_seq <| kd [(26, (vb false))] [] mo (wM <| wM <| wE (oXs el52 2) <| wE (oCa sh42) <| wM <| wM <| wE (oXs el52 2) <| wE (oCa sh42) <| wE (oBk true (oCl (by have h := g_same (ofQ a2) (ofQ b2) a2 b2 (qok_up (qok_of ha2) (by decide)) (qok_up (qok_of hb2) (by decide)); rw [sameR_of] at h; exact h)) (by exact decide_eq_true hab2)) <| wE oNt <| wZ) ?_
  refine pwp_cond (b := false) (by kernel_rfl) (fun h => by cases h) (fun _ => ?_)
  refine pwp_skip <| kx [(5, (vin 3))] [] (zM <| zE (oAd 3 (hr := by decide)) <| zM <| zZ) ?_
  refine pwp_again (SimImp.refl _) ?_
  refine pwp_seq <| pwp_seq <| kx [(14, (vb false))] [] (zM <| zM <| zE (oLn el52 3) <| zE (oBk false oLt) <| zZ) ?_
  refine pwp_cond (b := false) (by kernel_rfl) (fun h => by cases h) (fun _ => ?_)
  refine pwp_exit <| pwp_seq <| kx [(4, (vb true))] [] (zM <| zZ) ?_
  refine pwp_ret ⟨_, (.tmp (d := (.val (.bool (true)))) rfl .nil), ?_⟩
  rfl
end Go.Proofs.YtbecgnplakngdaaGreat
namespace Go.Proofs.YtbecgnplakngdaaGreat
open Go.Fid
set_option maxRecDepth 4000
set_option linter.unusedVariables false
set_option linter.unusedSimpArgs false
theorem cb6 : callB Tryz.prog 6 = true := by kernel_rfl
theorem w_ptsE1 (lx ly lz la lb lc ld lf lu lv rx ry rz ra rb rc rd rf ru rv : Int) (px py pz : Int) (c : Nat) (hc : stn2 (stnC lx ly lz lu lv lf la lb lc ld) (stnC rx ry rz ru rv rf ra rb rc rd) = c) (hc0 : c ≠ 0) : Takes Tryz.prog 6 [(encStereo (RStereo.mk (RStn.mk (RSpot.mk lx ly lz) (RQuat.mk la lb lc ld) lf (RPix.mk lu lv)) (RStn.mk (RSpot.mk rx ry rz) (RQuat.mk ra rb rc rd) rf (RPix.mk ru rv)))), (encSpot (RSpot.mk px py pz))] (.val (.bool (true))) := by
  let y6 := (RRat.mk (RInt.mk false []) (RInt.mk false []))
  let y5 := (bx (encPlace (RPlace.mk y6 y6)))
  let y4 := (A3.mk y6 y6 y6)
  let y3 := (encStereo (RStereo.mk (RStn.mk (RSpot.mk lx ly lz) (RQuat.mk la lb lc ld) lf (RPix.mk lu lv)) (RStn.mk (RSpot.mk rx ry rz) (RQuat.mk ra rb rc rd) rf (RPix.mk ru rv))))
  let y2 := (bx y3)
  let y1 := (bx (encLp (RLp.mk (RStereo.mk (RStn.mk (RSpot.mk lx ly lz) (RQuat.mk la lb lc ld) lf (RPix.mk lu lv)) (RStn.mk (RSpot.mk rx ry rz) (RQuat.mk ra rb rc rd) rf (RPix.mk ru rv))) y4 (A3.mk y4 y4 y4))))
  refine fn_intro Tryz.func6 rfl cb6 rfl ?_
  show PWp _ _ _ _ ⟨[(0, (.d y3)), (1, (.d (encSpot (RSpot.mk px py pz))))], []⟩
  refine pwp_seq <| kx [(2, (.ref 0 0)), (3, (.ref 1 0))] [(0, some y2), (1, some (bx (encSpot (RSpot.mk px py pz))))] (zN (oBx 0) <| zN (oBx 1) <| zM <| zZ) ?_
  refine pwp_seq <| pwp_seq <| kx [(18, (vb false))] [] (zE (oCl qs_known) <| zE oNt <| zZ) ?_
  refine pwp_cond (b := false) (by kernel_rfl) (fun h => by cases h) (fun _ => ?_)
  refine pwp_skip <| pwp_seq <| kx [(5, (.ref 2 0)), (6, (.ref 3 0)), (7, (vin c))] [(2, some y5), (3, some (bx (encR y6)))] (zR (oLa sh31) <| zR (oLa sh23) <| zE (oCl (q_prjE1 lx ly lz la lb lc ld lf lu lv rx ry rz ra rb rc rd rf ru rv px py pz c hc hc0)) <| zM <| zE oEx <| zE oEx <| zE oEx <| zN (oAl 2 ze56 zo56) <| zN (oAl 3 ze42 zo42) <| zT (oSt sh56) <| zT (oSt sh42) <| zM <| zZ) ?_
  refine pwp_seq <| kx [(8, (.ref 4 0)), (9, (vin c))] [(4, some y1)] (zR (oLa sh31) <| zE (oCl (qs_preE1 lx ly lz la lb lc ld lf lu lv rx ry rz ra rb rc rd rf ru rv c hc hc0)) <| zM <| zE oEx <| zE oEx <| zN (oAl 4 ze47 zo47) <| zT (oSt sh47) <| zM <| zZ) ?_
  refine pwp_seq <| pwp_seq <| kx [(37, (vl 3 1 enc_i64 [px, py, pz])), (38, (vin 3)), (39, (vin 0))] [] (zE (oFr fo23_0) <| zR (oL1 sh3) <| zE (oFr fo23_1) <| zR (oL1 sh3) <| zE (oFr fo23_2) <| zR (oL1 sh3) <| zE (oBs el74 ze3 zo3) <| zE (oLn el74 3) <| zM <| zZ) ?_
  refine pwp_block <| pwp_rounds 20 ?_
  refine pwp_round <| pwp_seq <| kx [(40, (vb true))] [] (zE (oBk true oLt) <| zZ) ?_
  refine pwp_seq <| pwp_cond (b := true) (by kernel_rfl) (fun _ => ?_) (fun h => by cases h)
  refine pwp_skip <| pwp_seq <| pwp_block <| pwp_seq <| kx [(11, (vi px))] [] (zE (oXs el74 0) <| zE (oC1 sh3) <| zM <| zZ) ?_
  refine pwp_seq <| kx [(52, (vb false))] [] (zM <| zE (oBk false oEq (by exact beq_eq_false_iff_ne.2 (by have hx := hc0; omega))) <| zM <| zK <| zK <| zK <| zK <| zK <| zK <| zE oPf <| zZ) ?_
  refine pwp_cond (b := false) (by kernel_rfl) (fun h => by cases h) (fun _ => ?_)
  refine pwp_skip <| kx [(39, (vin 1))] [] (zE (oAd 1 (hr := by decide)) <| zM <| zZ) ?_
  refine pwp_again (SimImp.refl _) ?_
  refine pwp_seq <| kx [(40, (vb true))] [] (zE (oBk true oLt) <| zZ) ?_
  refine pwp_seq <| pwp_cond (b := true) (by kernel_rfl) (fun _ => ?_) (fun h => by cases h)
  refine pwp_skip <| pwp_seq <| pwp_block <| pwp_seq <| kx [(11, (vi py))] [] (zE (oXs el74 1) <| zE (oC1 sh3) <| zM <| zZ) ?_
  refine pwp_seq <| kx [(52, (vb false))] [] (zM <| zE (oBk false oEq (by exact beq_eq_false_iff_ne.2 (by have hx := hc0; omega))) <| zM <| zK <| zK <| zK <| zK <| zK <| zK <| zE oPf <| zZ) ?_
  refine pwp_cond (b := false) (by kernel_rfl) (fun h => by cases h) (fun _ => ?_)
  refine pwp_skip <| kx [(39, (vin 2))] [] (zE (oAd 2 (hr := by decide)) <| zM <| zZ) ?_
  refine pwp_again (SimImp.refl _) ?_
  refine pwp_seq <| kx [(40, (vb true))] [] (zE (oBk true oLt) <| zZ) ?_
  refine pwp_seq <| pwp_cond (b := true) (by kernel_rfl) (fun _ => ?_) (fun h => by cases h)
  refine pwp_skip <| pwp_seq <| pwp_block <| pwp_seq <| pwp_sim (wk (l := [(2, (.ref 0 0)), (3, (.ref 1 0)), (5, (.ref 2 0)), (6, (.ref 3 0)), (7, (vin c)), (8, (.ref 4 0)), (9, (vin c)), (37, (vl 3 1 enc_i64 [px, py, pz])), (38, (vin 3)), (39, (vin 2)), (40, (vb true))]) (b := [(0, some y2), (1, some (bx (encSpot (RSpot.mk px py pz)))), (2, some y5), (3, some (bx (encR y6))), (4, some y1)])) ?_
  refine kx [(11, (vi pz))] [] (zE (oXs el74 2) <| zE (oC1 sh3) <| zM <| zZ) ?_
  refine pwp_seq <| kx [(52, (vb false))] [] (zM <| zE (oBk false oEq (by exact beq_eq_false_iff_ne.2 (by have hx := hc0; omega))) <| zM <| zK <| zK <| zK <| zK <| zK <| zK <| zE oPf <| zZ) ?_
  refine pwp_cond (b := false) (by kernel_rfl) (fun h => by cases h) (fun _ => ?_)
  refine pwp_skip <| kx [(39, (vin 3))] [] (zE (oAd 3 (hr := by decide)) <| zM <| zZ) ?_
  refine pwp_again (SimImp.refl _) ?_
  refine pwp_seq <| kx [(40, (vb false))] [] (zE (oBk false oLt) <| zZ) ?_
  refine pwp_seq <| pwp_cond (b := false) (by kernel_rfl) (fun h => by cases h) (fun _ => ?_)
  refine pwp_exit <| pwp_seq <| kx [(12, (.ref 5 0)), (13, (.ref 6 0))] [(5, some y5), (6, some (bx (encR y6)))] (zE (oBd pl56 ze56 zo56) <| zE (oBd pl42 ze42 zo42) <| zN (oAl 5 ze56 zo56) <| zN (oAl 6 ze42 zo42) <| zT (oSt sh56) <| zT (oSt sh42) <| zZ) ?_
  refine pwp_seq <| pwp_seq <| kx [(57, (vb false))] [] (zM <| zE (oBk false oEq (by exact beq_eq_false_iff_ne.2 (by have hx := hc0; omega))) <| zZ) ?_
  refine pwp_cond (b := false) (by kernel_rfl) (fun h => by cases h) (fun _ => ?_)
  refine pwp_skip <| pwp_seq <| pwp_seq <| kx [(86, (vb true))] [] (zM <| zE (oBk true oNe (by exact bne_iff_ne.2 (by have hx := hc0; omega))) <| zZ) ?_
  refine pwp_cond (b := true) (by kernel_rfl) (fun _ => ?_) (fun h => by cases h)
  refine pwp_seq <| kx [(4, (vb true))] [] (zM <| zM <| zE (oBk true oEq (by exact beq_self_eq_true _)) <| zM <| zR (oLa sh56) <| zE (oCl qs_none) <| zE oPt <| zM <| zR (oLa sh42) <| zE (oCl g_zeroT) <| zE oPt <| zM <| zZ) ?_
  refine pwp_ret ⟨_, (.tmp (d := (.val (.bool (true)))) rfl .nil), ?_⟩
  rfl
theorem w_ptsE2 (lx ly lz la lb lc ld lf lu lv rx ry rz ra rb rc rd rf ru rv : Int) (px py pz : Int) (b0 b1 b2 : Rat) (hqb0 : QL b0 3) (hqb1 : QL b1 3) (hqb2 : QL b2 3) (hl : stnC lx ly lz lu lv lf la lb lc ld = 0) (hr : stnC rx ry rz ru rv rf ra rb rc rd = 0) (hb0 : ((rx - lx : Int) : Rat) = b0) (hb1 : ((ry - ly : Int) : Rat) = b1) (hb2 : ((rz - lz : Int) : Rat) = b2) (hup : upV la lb lc ld ra rb rc rd b0 b1 b2 = true) : Takes Tryz.prog 6 [(encStereo (RStereo.mk (RStn.mk (RSpot.mk lx ly lz) (RQuat.mk la lb lc ld) lf (RPix.mk lu lv)) (RStn.mk (RSpot.mk rx ry rz) (RQuat.mk ra rb rc rd) rf (RPix.mk ru rv)))), (encSpot (RSpot.mk px py pz))] (.val (.bool (true))) := by
  let y6 := (RRat.mk (RInt.mk false []) (RInt.mk false []))
  let y5 := (bx (encPlace (RPlace.mk y6 y6)))
  let y4 := (A3.mk y6 y6 y6)
  let y3 := (encStereo (RStereo.mk (RStn.mk (RSpot.mk lx ly lz) (RQuat.mk la lb lc ld) lf (RPix.mk lu lv)) (RStn.mk (RSpot.mk rx ry rz) (RQuat.mk ra rb rc rd) rf (RPix.mk ru rv))))
  let y2 := (bx y3)
  let y1 := (bx (encLp (RLp.mk (RStereo.mk (RStn.mk (RSpot.mk lx ly lz) (RQuat.mk la lb lc ld) lf (RPix.mk lu lv)) (RStn.mk (RSpot.mk rx ry rz) (RQuat.mk ra rb rc rd) rf (RPix.mk ru rv))) (A3.mk (ofQ b0) (ofQ b1) (ofQ b2)) (A3.mk y4 y4 y4))))
  refine fn_intro Tryz.func6 rfl cb6 rfl ?_
  show PWp _ _ _ _ ⟨[(0, (.d y3)), (1, (.d (encSpot (RSpot.mk px py pz))))], []⟩
  refine pwp_seq <| kx [(2, (.ref 0 0)), (3, (.ref 1 0))] [(0, some y2), (1, some (bx (encSpot (RSpot.mk px py pz))))] (zN (oBx 0) <| zN (oBx 1) <| zM <| zZ) ?_
  refine pwp_seq <| pwp_seq <| kx [(18, (vb false))] [] (zE (oCl qs_known) <| zE oNt <| zZ) ?_
  refine pwp_cond (b := false) (by kernel_rfl) (fun h => by cases h) (fun _ => ?_)
  refine pwp_skip <| pwp_seq <| kx [(5, (.ref 2 0)), (6, (.ref 3 0)), (7, (vi 13))] [(2, some y5), (3, some (bx (encR y6)))] (zR (oLa sh31) <| zR (oLa sh23) <| zE (oCl (q_prjE2 lx ly lz la lb lc ld lf lu lv rx ry rz ra rb rc rd rf ru rv px py pz b0 b1 b2 hqb0 hqb1 hqb2 hl hr hb0 hb1 hb2 hup)) <| zM <| zE oEx <| zE oEx <| zE oEx <| zN (oAl 2 ze56 zo56) <| zN (oAl 3 ze42 zo42) <| zT (oSt sh56) <| zT (oSt sh42) <| zM <| zZ) ?_
  refine pwp_seq <| kx [(8, (.ref 4 0)), (9, (vi 13))] [(4, some y1)] (zR (oLa sh31) <| zE (oCl (qs_preE2 lx ly lz la lb lc ld lf lu lv rx ry rz ra rb rc rd rf ru rv b0 b1 b2 hqb0 hqb1 hqb2 hl hr hb0 hb1 hb2 hup)) <| zM <| zE oEx <| zE oEx <| zN (oAl 4 ze47 zo47) <| zT (oSt sh47) <| zM <| zZ) ?_
  refine pwp_seq <| pwp_seq <| kx [(37, (vl 3 1 enc_i64 [px, py, pz])), (38, (vin 3)), (39, (vin 0))] [] (zE (oFr fo23_0) <| zR (oL1 sh3) <| zE (oFr fo23_1) <| zR (oL1 sh3) <| zE (oFr fo23_2) <| zR (oL1 sh3) <| zE (oBs el74 ze3 zo3) <| zE (oLn el74 3) <| zM <| zZ) ?_
  refine pwp_block <| pwp_rounds 20 ?_
  refine pwp_round <| pwp_seq <| kx [(40, (vb true))] [] (zE (oBk true oLt) <| zZ) ?_
  refine pwp_seq <| pwp_cond (b := true) (by kernel_rfl) (fun _ => ?_) (fun h => by cases h)
  refine pwp_skip <| pwp_seq <| pwp_block <| pwp_seq <| kx [(11, (vi px))] [] (zE (oXs el74 0) <| zE (oC1 sh3) <| zM <| zZ) ?_
  refine pwp_seq <| kx [(52, (vb false))] [] (zM <| zE oEq <| zM <| zK <| zK <| zK <| zK <| zK <| zK <| zE oPf <| zZ) ?_
  refine pwp_cond (b := false) (by kernel_rfl) (fun h => by cases h) (fun _ => ?_)
  refine pwp_skip <| kx [(39, (vin 1))] [] (zE (oAd 1 (hr := by decide)) <| zM <| zZ) ?_
  refine pwp_again (SimImp.refl _) ?_
  refine pwp_seq <| kx [(40, (vb true))] [] (zE (oBk true oLt) <| zZ) ?_
  refine pwp_seq <| pwp_cond (b := true) (by kernel_rfl) (fun _ => ?_) (fun h => by cases h)
  refine pwp_skip <| pwp_seq <| pwp_block <| pwp_seq <| kx [(11, (vi py))] [] (zE (oXs el74 1) <| zE (oC1 sh3) <| zM <| zZ) ?_
  refine pwp_seq <| kx [(52, (vb false))] [] (zM <| zE oEq <| zM <| zK <| zK <| zK <| zK <| zK <| zK <| zE oPf <| zZ) ?_
  refine pwp_cond (b := false) (by kernel_rfl) (fun h => by cases h) (fun _ => ?_)
  refine pwp_skip <| kx [(39, (vin 2))] [] (zE (oAd 2 (hr := by decide)) <| zM <| zZ) ?_
  refine pwp_again (SimImp.refl _) ?_
  refine pwp_seq <| kx [(40, (vb true))] [] (zE (oBk true oLt) <| zZ) ?_
  refine pwp_seq <| pwp_cond (b := true) (by kernel_rfl) (fun _ => ?_) (fun h => by cases h)
  refine pwp_skip <| pwp_seq <| pwp_block <| pwp_seq <| pwp_sim (wk (l := [(2, (.ref 0 0)), (3, (.ref 1 0)), (5, (.ref 2 0)), (6, (.ref 3 0)), (7, (vi 13)), (8, (.ref 4 0)), (9, (vi 13)), (37, (vl 3 1 enc_i64 [px, py, pz])), (38, (vin 3)), (39, (vin 2)), (40, (vb true))]) (b := [(0, some y2), (1, some (bx (encSpot (RSpot.mk px py pz)))), (2, some y5), (3, some (bx (encR y6))), (4, some y1)])) ?_
  refine kx [(11, (vi pz))] [] (zE (oXs el74 2) <| zE (oC1 sh3) <| zM <| zZ) ?_
  refine pwp_seq <| kx [(52, (vb false))] [] (zM <| zE oEq <| zM <| zK <| zK <| zK <| zK <| zK <| zK <| zE oPf <| zZ) ?_
  refine pwp_cond (b := false) (by kernel_rfl) (fun h => by cases h) (fun _ => ?_)
  refine pwp_skip <| kx [(39, (vin 3))] [] (zE (oAd 3 (hr := by decide)) <| zM <| zZ) ?_
  refine pwp_again (SimImp.refl _) ?_
  refine pwp_seq <| kx [(40, (vb false))] [] (zE (oBk false oLt) <| zZ) ?_
  refine pwp_seq <| pwp_cond (b := false) (by kernel_rfl) (fun h => by cases h) (fun _ => ?_)
  refine pwp_exit <| pwp_seq <| kx [(12, (.ref 5 0)), (13, (.ref 6 0))] [(5, some y5), (6, some (bx (encR y6)))] (zE (oBd pl56 ze56 zo56) <| zE (oBd pl42 ze42 zo42) <| zN (oAl 5 ze56 zo56) <| zN (oAl 6 ze42 zo42) <| zT (oSt sh56) <| zT (oSt sh42) <| zZ) ?_
  refine pwp_seq <| pwp_seq <| kx [(57, (vb false))] [] (zM <| zE oEq <| zZ) ?_
  refine pwp_cond (b := false) (by kernel_rfl) (fun h => by cases h) (fun _ => ?_)
  refine pwp_skip <| pwp_seq <| pwp_seq <| kx [(86, (vb true))] [] (zM <| zE oNe <| zZ) ?_
  refine pwp_cond (b := true) (by kernel_rfl) (fun _ => ?_) (fun h => by cases h)
  refine pwp_seq <| kx [(4, (vb true))] [] (zM <| zM <| zE oEq <| zM <| zR (oLa sh56) <| zE (oCl qs_none) <| zE oPt <| zM <| zR (oLa sh42) <| zE (oCl g_zeroT) <| zE oPt <| zM <| zZ) ?_
  refine pwp_ret ⟨_, (.tmp (d := (.val (.bool (true)))) rfl .nil), ?_⟩
  rfl
theorem w_ptsR (lx ly lz la lb lc ld lf lu lv rx ry rz ra rb rc rd rf ru rv : Int) (px py pz : Int) (b0 b1 b2 e00 e01 e02 e10 e11 e12 e20 e21 e22 : Rat) (hF : RFr lx ly lz la lb lc ld rx ry rz ra rb rc rd b0 b1 b2 e00 e01 e02 e10 e11 e12 e20 e21 e22) (hqb0 : QL b0 3) (hqb1 : QL b1 3) (hqb2 : QL b2 3) (hqe00 : QL e00 400) (hqe01 : QL e01 400) (hqe02 : QL e02 400) (hqe10 : QL e10 400) (hqe11 : QL e11 400) (hqe12 : QL e12 400) (hqe20 : QL e20 400) (hqe21 : QL e21 400) (hqe22 : QL e22 400) (hl : stnC lx ly lz lu lv lf la lb lc ld = 0) (hr : stnC rx ry rz ru rv rf ra rb rc rd = 0) (hup : upV la lb lc ld ra rb rc rd b0 b1 b2 = false) (hr_ : spotB px py pz = false) : Takes Tryz.prog 6 [(encStereo (RStereo.mk (RStn.mk (RSpot.mk lx ly lz) (RQuat.mk la lb lc ld) lf (RPix.mk lu lv)) (RStn.mk (RSpot.mk rx ry rz) (RQuat.mk ra rb rc rd) rf (RPix.mk ru rv)))), (encSpot (RSpot.mk px py pz))] (.val (.bool (true))) := by
  have hbl := stnC_ok hl
  have hbr := stnC_ok hr
  obtain ⟨hlx, hly, hlz, hlu, hlv, hlf, hlq⟩ := hbl
  obtain ⟨hrx, hry, hrz, hru, hrv, hrf, hrq⟩ := hbr
  obtain ⟨hla, hlb, hlc, hld, -⟩ := rotC_ok hlq
  obtain ⟨hra, hrb, hrc, hrd, -⟩ := rotC_ok hrq
  have hnl := nq_b hla hlb hlc hld
  have hnr := nq_b hra hrb hrc hrd
  have hz0 := fr_z0 hF hup
  have hz1 := fr_z1 hF hup
  have hz2 := fr_z2 hF hup
  let y5 := (bx (encR (RRat.mk (RInt.mk false []) (RInt.mk false []))))
  let y4 := (bx (encPlace (RPlace.mk (RRat.mk (RInt.mk false []) (RInt.mk false [])) (RRat.mk (RInt.mk false []) (RInt.mk false [])))))
  let y3 := (encStereo (RStereo.mk (RStn.mk (RSpot.mk lx ly lz) (RQuat.mk la lb lc ld) lf (RPix.mk lu lv)) (RStn.mk (RSpot.mk rx ry rz) (RQuat.mk ra rb rc rd) rf (RPix.mk ru rv))))
  let y2 := (bx y3)
  let y1 := (bx (encLp (RLp.mk (RStereo.mk (RStn.mk (RSpot.mk lx ly lz) (RQuat.mk la lb lc ld) lf (RPix.mk lu lv)) (RStn.mk (RSpot.mk rx ry rz) (RQuat.mk ra rb rc rd) rf (RPix.mk ru rv))) (A3.mk (ofQ b0) (ofQ b1) (ofQ b2)) (A3.mk (A3.mk (ofQ e00) (ofQ e01) (ofQ e02)) (A3.mk (ofQ e10) (ofQ e11) (ofQ e12)) (A3.mk (ofQ e20) (ofQ e21) (ofQ e22))))))
  refine fn_intro Tryz.func6 rfl cb6 rfl ?_
  show PWp _ _ _ _ ⟨[(0, (.d y3)), (1, (.d (encSpot (RSpot.mk px py pz))))], []⟩
  refine pwp_seq <| kx [(2, (.ref 0 0)), (3, (.ref 1 0))] [(0, some y2), (1, some (bx (encSpot (RSpot.mk px py pz))))] (zN (oBx 0) <| zN (oBx 1) <| zM <| zZ) ?_
  refine pwp_seq <| pwp_seq <| kx [(18, (vb false))] [] (zE (oCl qs_known) <| zE oNt <| zZ) ?_
  refine pwp_cond (b := false) (by kernel_rfl) (fun h => by cases h) (fun _ => ?_)
  refine pwp_skip <| pwp_seq <| kx [(5, (.ref 2 0)), (6, (.ref 3 0)), (7, (vi 2))] [(2, some y4), (3, some y5)] (zR (oLa sh31) <| zR (oLa sh23) <| zE (oCl (q_prjR lx ly lz la lb lc ld lf lu lv rx ry rz ra rb rc rd rf ru rv px py pz b0 b1 b2 e00 e01 e02 e10 e11 e12 e20 e21 e22 hF hqb0 hqb1 hqb2 hqe00 hqe01 hqe02 hqe10 hqe11 hqe12 hqe20 hqe21 hqe22 hl hr hup hr_)) <| zM <| zE oEx <| zE oEx <| zE oEx <| zN (oAl 2 ze56 zo56) <| zN (oAl 3 ze42 zo42) <| zT (oSt sh56) <| zT (oSt sh42) <| zM <| zZ) ?_
  refine pwp_seq <| kx [(8, (.ref 4 0)), (9, (vi 0))] [(4, some y1)] (zR (oLa sh31) <| zE (oCl (qs_pre lx ly lz la lb lc ld lf lu lv rx ry rz ra rb rc rd rf ru rv b0 b1 b2 e00 e01 e02 e10 e11 e12 e20 e21 e22 hF hqb0 hqb1 hqb2 hqe00 hqe01 hqe02 hqe10 hqe11 hqe12 hqe20 hqe21 hqe22 hl hr hup)) <| zM <| zE oEx <| zE oEx <| zN (oAl 4 ze47 zo47) <| zT (oSt sh47) <| zM <| zZ) ?_
  refine pwp_seq <| pwp_seq <| kx [(37, (vl 3 1 enc_i64 [px, py, pz])), (38, (vin 3)), (39, (vin 0))] [] (zE (oFr fo23_0) <| zR (oL1 sh3) <| zE (oFr fo23_1) <| zR (oL1 sh3) <| zE (oFr fo23_2) <| zR (oL1 sh3) <| zE (oBs el74 ze3 zo3) <| zE (oLn el74 3) <| zM <| zZ) ?_
  refine pwp_block <| pwp_rounds 20 ?_
  refine pwp_round <| pwp_seq <| kx [(40, (vb true))] [] (zE (oBk true oLt) <| zZ) ?_
  refine pwp_seq <| pwp_cond (b := true) (by kernel_rfl) (fun _ => ?_) (fun h => by cases h)
  refine pwp_skip <| pwp_seq <| pwp_block <| pwp_seq <| kx [(11, (vi px))] [] (zE (oXs el74 0) <| zE (oC1 sh3) <| zM <| zZ) ?_
  refine pwp_seq <| kx [(52, (vb (true && (decide (px < -1048576) || decide (((1048576 : Nat) : Int) < px)))))] [] ?_ ?_
  · refine zM <| zE oEq <| zM <| zM <| zE oLt <| zE (oV (vb (decide (px < -1048576))) (mv_ok (by kernel_rfl))) <| ?_
    rcases hb1 : (decide (px < -1048576)) with _ | _
    · replace hb1 := of_decide_eq_false hb1
      exact zM <| zE oGt <| zE oPo <| zE oPa <| zZ
    · replace hb1 := of_decide_eq_true hb1
      exact zK <| zK <| zE oPt <| zE oPt <| zZ
  refine pwp_cond rfl (fun h2 => ?_) (fun h2 => ?_)
  · refine kx [(9, (vin 2))] [] (zM <| zZ) ?_
    refine kx [(39, (vin 1))] [] (zE (oAd 1 (hr := by decide)) <| zM <| zZ) ?_
    refine pwp_again (SimImp.refl _) ?_
    refine pwp_seq <| kx [(40, (vb true))] [] (zE (oBk true oLt) <| zZ) ?_
    refine pwp_seq <| pwp_cond (b := true) (by kernel_rfl) (fun _ => ?_) (fun h => by cases h)
    refine pwp_skip <| pwp_seq <| pwp_block <| pwp_seq <| kx [(11, (vi py))] [] (zE (oXs el74 1) <| zE (oC1 sh3) <| zM <| zZ) ?_
    refine pwp_seq <| kx [(52, (vb false))] [] (zM <| zE oEq <| zM <| zK <| zK <| zK <| zK <| zK <| zK <| zE oPf <| zZ) ?_
    refine pwp_cond (b := false) (by kernel_rfl) (fun h => by cases h) (fun _ => ?_)
    refine pwp_skip <| kx [(39, (vin 2))] [] (zE (oAd 2 (hr := by decide)) <| zM <| zZ) ?_
    refine pwp_again (SimImp.refl _) ?_
    refine pwp_seq <| pwp_sim (wk (l := [(2, (.ref 0 0)), (3, (.ref 1 0)), (5, (.ref 2 0)), (6, (.ref 3 0)), (7, (vi 2)), (8, (.ref 4 0)), (9, (vin 2)), (37, (vl 3 1 enc_i64 [px, py, pz])), (38, (vin 3)), (39, (vin 2))]) (b := [(0, some y2), (1, some (bx (encSpot (RSpot.mk px py pz)))), (2, some y4), (3, some y5), (4, some y1)])) ?_
    refine kx [(40, (vb true))] [] (zE (oBk true oLt) <| zZ) ?_
    refine pwp_seq <| pwp_cond (b := true) (by kernel_rfl) (fun _ => ?_) (fun h => by cases h)
    refine pwp_skip <| pwp_seq <| pwp_block <| pwp_seq <| kx [(11, (vi pz))] [] (zE (oXs el74 2) <| zE (oC1 sh3) <| zM <| zZ) ?_
    refine pwp_seq <| kx [(52, (vb false))] [] (zM <| zE oEq <| zM <| zK <| zK <| zK <| zK <| zK <| zK <| zE oPf <| zZ) ?_
    refine pwp_cond (b := false) (by kernel_rfl) (fun h => by cases h) (fun _ => ?_)
    refine pwp_skip <| kx [(39, (vin 3))] [] (zE (oAd 3 (hr := by decide)) <| zM <| zZ) ?_
    refine pwp_again (SimImp.refl _) ?_
    refine pwp_seq <| kx [(40, (vb false))] [] (zE (oBk false oLt) <| zZ) ?_
    refine pwp_seq <| pwp_cond (b := false) (by kernel_rfl) (fun h => by cases h) (fun _ => ?_)
    refine pwp_exit <| pwp_seq <| kx [(12, (.ref 5 0)), (13, (.ref 6 0))] [(5, some y4), (6, some y5)] (zE (oBd pl56 ze56 zo56) <| zE (oBd pl42 ze42 zo42) <| zN (oAl 5 ze56 zo56) <| zN (oAl 6 ze42 zo42) <| zT (oSt sh56) <| zT (oSt sh42) <| zZ) ?_
    refine pwp_seq <| pwp_seq <| kx [(57, (vb false))] [] (zM <| zE oEq <| zZ) ?_
    refine pwp_cond (b := false) (by kernel_rfl) (fun h => by cases h) (fun _ => ?_)
    refine pwp_skip <| pwp_seq <| pwp_seq <| kx [(86, (vb true))] [] (zM <| zE oNe <| zZ) ?_
    refine pwp_cond (b := true) (by kernel_rfl) (fun _ => ?_) (fun h => by cases h)
    refine pwp_seq <| kx [(4, (vb true))] [] (zM <| zM <| zE oEq <| zM <| zR (oLa sh56) <| zE (oCl qs_none) <| zE oPt <| zM <| zR (oLa sh42) <| zE (oCl g_zeroT) <| zE oPt <| zM <| zZ) ?_
    refine pwp_ret ⟨_, (.tmp (d := (.val (.bool (true)))) rfl .nil), ?_⟩
    rfl
  · refine pwp_skip <| kx [(39, (vin 1))] [] (zE (oAd 1 (hr := by decide)) <| zM <| zZ) ?_
    refine pwp_again (SimImp.refl _) ?_
    refine pwp_seq <| kx [(40, (vb true))] [] (zE (oBk true oLt) <| zZ) ?_
    refine pwp_seq <| pwp_cond (b := true) (by kernel_rfl) (fun _ => ?_) (fun h => by cases h)
    refine pwp_skip <| pwp_seq <| pwp_block <| pwp_seq <| kx [(11, (vi py))] [] (zE (oXs el74 1) <| zE (oC1 sh3) <| zM <| zZ) ?_
    refine pwp_seq <| kx [(52, (vb (true && (decide (py < -1048576) || decide (((1048576 : Nat) : Int) < py)))))] [] ?_ ?_
    · refine zM <| zE oEq <| zM <| zM <| zE oLt <| zE (oV (vb (decide (py < -1048576))) (mv_ok (by kernel_rfl))) <| ?_
      rcases hb3 : (decide (py < -1048576)) with _ | _
      · replace hb3 := of_decide_eq_false hb3
        exact zM <| zE oGt <| zE oPo <| zE oPa <| zZ
      · replace hb3 := of_decide_eq_true hb3
        exact zK <| zK <| zE oPt <| zE oPt <| zZ
    refine pwp_cond rfl (fun h4 => ?_) (fun h4 => ?_)
    · refine kx [(9, (vin 2))] [] (zM <| zZ) ?_
      refine kx [(39, (vin 2))] [] (zE (oAd 2 (hr := by decide)) <| zM <| zZ) ?_
      refine pwp_again (SimImp.refl _) ?_
      refine pwp_seq <| pwp_sim (wk (l := [(2, (.ref 0 0)), (3, (.ref 1 0)), (5, (.ref 2 0)), (6, (.ref 3 0)), (7, (vi 2)), (8, (.ref 4 0)), (9, (vin 2)), (37, (vl 3 1 enc_i64 [px, py, pz])), (38, (vin 3)), (39, (vin 2))]) (b := [(0, some y2), (1, some (bx (encSpot (RSpot.mk px py pz)))), (2, some y4), (3, some y5), (4, some y1)])) ?_
      refine kx [(40, (vb true))] [] (zE (oBk true oLt) <| zZ) ?_
      refine pwp_seq <| pwp_cond (b := true) (by kernel_rfl) (fun _ => ?_) (fun h => by cases h)
      refine pwp_skip <| pwp_seq <| pwp_block <| pwp_seq <| kx [(11, (vi pz))] [] (zE (oXs el74 2) <| zE (oC1 sh3) <| zM <| zZ) ?_
      refine pwp_seq <| kx [(52, (vb false))] [] (zM <| zE oEq <| zM <| zK <| zK <| zK <| zK <| zK <| zK <| zE oPf <| zZ) ?_
      refine pwp_cond (b := false) (by kernel_rfl) (fun h => by cases h) (fun _ => ?_)
      refine pwp_skip <| kx [(39, (vin 3))] [] (zE (oAd 3 (hr := by decide)) <| zM <| zZ) ?_
      refine pwp_again (SimImp.refl _) ?_
      refine pwp_seq <| kx [(40, (vb false))] [] (zE (oBk false oLt) <| zZ) ?_
      refine pwp_seq <| pwp_cond (b := false) (by kernel_rfl) (fun h => by cases h) (fun _ => ?_)
      refine pwp_exit <| pwp_seq <| kx [(12, (.ref 7 0)), (13, (.ref 8 0))] [(7, some y4), (8, some y5)] (zE (oBd pl56 ze56 zo56) <| zE (oBd pl42 ze42 zo42) <| zN (oAl 7 ze56 zo56) <| zN (oAl 8 ze42 zo42) <| zT (oSt sh56) <| zT (oSt sh42) <| zZ) ?_
      refine pwp_seq <| pwp_seq <| kx [(57, (vb false))] [] (zM <| zE oEq <| zZ) ?_
      refine pwp_cond (b := false) (by kernel_rfl) (fun h => by cases h) (fun _ => ?_)
      refine pwp_skip <| pwp_seq <| pwp_seq <| kx [(86, (vb true))] [] (zM <| zE oNe <| zZ) ?_
      refine pwp_cond (b := true) (by kernel_rfl) (fun _ => ?_) (fun h => by cases h)
      refine pwp_seq <| kx [(4, (vb true))] [] (zM <| zM <| zE oEq <| zM <| zR (oLa sh56) <| zE (oCl qs_none) <| zE oPt <| zM <| zR (oLa sh42) <| zE (oCl g_zeroT) <| zE oPt <| zM <| zZ) ?_
      refine pwp_ret ⟨_, (.tmp (d := (.val (.bool (true)))) rfl .nil), ?_⟩
      rfl
    · refine pwp_skip <| kx [(39, (vin 2))] [] (zE (oAd 2 (hr := by decide)) <| zM <| zZ) ?_
      refine pwp_again (SimImp.refl _) ?_
      refine pwp_seq <| kx [(40, (vb true))] [] (zE (oBk true oLt) <| zZ) ?_
      refine pwp_seq <| pwp_cond (b := true) (by kernel_rfl) (fun _ => ?_) (fun h => by cases h)
      refine pwp_skip <| pwp_seq <| pwp_block <| pwp_seq <| pwp_sim (wk (l := [(2, (.ref 0 0)), (3, (.ref 1 0)), (5, (.ref 2 0)), (6, (.ref 3 0)), (7, (vi 2)), (8, (.ref 4 0)), (9, (vi 0)), (37, (vl 3 1 enc_i64 [px, py, pz])), (38, (vin 3)), (39, (vin 2)), (40, (vb true))]) (b := [(0, some y2), (1, some (bx (encSpot (RSpot.mk px py pz)))), (2, some y4), (3, some y5), (4, some y1)])) ?_
      refine kx [(11, (vi pz))] [] (zE (oXs el74 2) <| zE (oC1 sh3) <| zM <| zZ) ?_
      refine pwp_seq <| kx [(52, (vb (true && (decide (pz < -1048576) || decide (((1048576 : Nat) : Int) < pz)))))] [] ?_ ?_
      · refine zM <| zE oEq <| zM <| zM <| zE oLt <| zE (oV (vb (decide (pz < -1048576))) (mv_ok (by kernel_rfl))) <| ?_
        rcases hb5 : (decide (pz < -1048576)) with _ | _
        · replace hb5 := of_decide_eq_false hb5
          exact zM <| zE oGt <| zE oPo <| zE oPa <| zZ
        · replace hb5 := of_decide_eq_true hb5
          exact zK <| zK <| zE oPt <| zE oPt <| zZ
      refine pwp_cond rfl (fun h6 => ?_) (fun h6 => ?_)
      · refine kx [(9, (vin 2))] [] (zM <| zZ) ?_
        refine kx [(39, (vin 3))] [] (zE (oAd 3 (hr := by decide)) <| zM <| zZ) ?_
        refine pwp_again (SimImp.refl _) ?_
        refine pwp_seq <| kx [(40, (vb false))] [] (zE (oBk false oLt) <| zZ) ?_
        refine pwp_seq <| pwp_cond (b := false) (by kernel_rfl) (fun h => by cases h) (fun _ => ?_)
        refine pwp_exit <| pwp_seq <| kx [(12, (.ref 9 0)), (13, (.ref 10 0))] [(10, some y5), (9, some y4)] (zE (oBd pl56 ze56 zo56) <| zE (oBd pl42 ze42 zo42) <| zN (oAl 9 ze56 zo56) <| zN (oAl 10 ze42 zo42) <| zT (oSt sh56) <| zT (oSt sh42) <| zZ) ?_
        refine pwp_seq <| pwp_seq <| kx [(57, (vb false))] [] (zM <| zE oEq <| zZ) ?_
        refine pwp_cond (b := false) (by kernel_rfl) (fun h => by cases h) (fun _ => ?_)
        refine pwp_skip <| pwp_seq <| pwp_seq <| kx [(86, (vb true))] [] (zM <| zE oNe <| zZ) ?_
        refine pwp_cond (b := true) (by kernel_rfl) (fun _ => ?_) (fun h => by cases h)
        refine pwp_seq <| kx [(4, (vb true))] [] (zM <| zM <| zE oEq <| zM <| zR (oLa sh56) <| zE (oCl qs_none) <| zE oPt <| zM <| zR (oLa sh42) <| zE (oCl g_zeroT) <| zE oPt <| zM <| zZ) ?_
        refine pwp_ret ⟨_, (.tmp (d := (.val (.bool (true)))) rfl .nil), ?_⟩
        rfl
      · exact (spotB_abs hr_ h2 h4 h6).elim
theorem w_ptsN (lx ly lz la lb lc ld lf lu lv rx ry rz ra rb rc rd rf ru rv : Int) (px py pz : Int) (hpx : -1048576 ≤ px ∧ px ≤ 1048576) (hpy : -1048576 ≤ py ∧ py ≤ 1048576) (hpz : -1048576 ≤ pz ∧ pz ≤ 1048576) (b0 b1 b2 e00 e01 e02 e10 e11 e12 e20 e21 e22 : Rat) (hF : RFr lx ly lz la lb lc ld rx ry rz ra rb rc rd b0 b1 b2 e00 e01 e02 e10 e11 e12 e20 e21 e22) (hqb0 : QL b0 3) (hqb1 : QL b1 3) (hqb2 : QL b2 3) (hqe00 : QL e00 400) (hqe01 : QL e01 400) (hqe02 : QL e02 400) (hqe10 : QL e10 400) (hqe11 : QL e11 400) (hqe12 : QL e12 400) (hqe20 : QL e20 400) (hqe21 : QL e21 400) (hqe22 : QL e22 400) (r0 : Rat) (hr0 : ((px - lx : Int) : Rat) = r0) (r1 : Rat) (hr1 : ((py - ly : Int) : Rat) = r1) (r2 : Rat) (hr2 : ((pz - lz : Int) : Rat) = r2) (hl : stnC lx ly lz lu lv lf la lb lc ld = 0) (hr : stnC rx ry rz ru rv rf ra rb rc rd = 0) (hup : upV la lb lc ld ra rb rc rd b0 b1 b2 = false) (hd : (signQ (dot3 e20 e21 e22 r0 r1 r2)) ≤ 0) : Takes Tryz.prog 6 [(encStereo (RStereo.mk (RStn.mk (RSpot.mk lx ly lz) (RQuat.mk la lb lc ld) lf (RPix.mk lu lv)) (RStn.mk (RSpot.mk rx ry rz) (RQuat.mk ra rb rc rd) rf (RPix.mk ru rv)))), (encSpot (RSpot.mk px py pz))] (.val (.bool (true))) := by
  have hbl := stnC_ok hl
  have hbr := stnC_ok hr
  obtain ⟨hlx, hly, hlz, hlu, hlv, hlf, hlq⟩ := hbl
  obtain ⟨hrx, hry, hrz, hru, hrv, hrf, hrq⟩ := hbr
  obtain ⟨hla, hlb, hlc, hld, -⟩ := rotC_ok hlq
  obtain ⟨hra, hrb, hrc, hrd, -⟩ := rotC_ok hrq
  have hnl := nq_b hla hlb hlc hld
  have hnr := nq_b hra hrb hrc hrd
  have hz0 := fr_z0 hF hup
  have hz1 := fr_z1 hF hup
  have hz2 := fr_z2 hF hup
  let y5 := (RRat.mk (RInt.mk false []) (RInt.mk false []))
  let y4 := (bx (encPlace (RPlace.mk y5 y5)))
  let y3 := (encStereo (RStereo.mk (RStn.mk (RSpot.mk lx ly lz) (RQuat.mk la lb lc ld) lf (RPix.mk lu lv)) (RStn.mk (RSpot.mk rx ry rz) (RQuat.mk ra rb rc rd) rf (RPix.mk ru rv))))
  let y2 := (bx y3)
  let y1 := (bx (encLp (RLp.mk (RStereo.mk (RStn.mk (RSpot.mk lx ly lz) (RQuat.mk la lb lc ld) lf (RPix.mk lu lv)) (RStn.mk (RSpot.mk rx ry rz) (RQuat.mk ra rb rc rd) rf (RPix.mk ru rv))) (A3.mk (ofQ b0) (ofQ b1) (ofQ b2)) (A3.mk (A3.mk (ofQ e00) (ofQ e01) (ofQ e02)) (A3.mk (ofQ e10) (ofQ e11) (ofQ e12)) (A3.mk (ofQ e20) (ofQ e21) (ofQ e22))))))
  refine fn_intro Tryz.func6 rfl cb6 rfl ?_
  show PWp _ _ _ _ ⟨[(0, (.d y3)), (1, (.d (encSpot (RSpot.mk px py pz))))], []⟩
  refine pwp_seq <| kx [(2, (.ref 0 0)), (3, (.ref 1 0))] [(0, some y2), (1, some (bx (encSpot (RSpot.mk px py pz))))] (zN (oBx 0) <| zN (oBx 1) <| zM <| zZ) ?_
  refine pwp_seq <| pwp_seq <| kx [(18, (vb false))] [] (zE (oCl qs_known) <| zE oNt <| zZ) ?_
  refine pwp_cond (b := false) (by kernel_rfl) (fun h => by cases h) (fun _ => ?_)
  refine pwp_skip <| pwp_seq ?_
  have bn1 : QL r0 3 := (ql_eqz (Eq.symm hr0) (ql_int (z := (px - lx)) (n := 3) (lenZ_int (by omega) (by omega)) (by decide)))
  have bn2 : QL r1 3 := (ql_eqz (Eq.symm hr1) (ql_int (z := (py - ly)) (n := 3) (lenZ_int (by omega) (by omega)) (by decide)))
  have bn3 : QL r2 3 := (ql_eqz (Eq.symm hr2) (ql_int (z := (pz - lz)) (n := 3) (lenZ_int (by omega) (by omega)) (by decide)))
  refine kx [(5, (.ref 2 0)), (6, (.ref 3 0)), (7, (vi 20))] [(2, some y4), (3, some (bx (encR y5)))] (zR (oLa sh31) <| zR (oLa sh23) <| zE (oCl (q_prjN lx ly lz la lb lc ld lf lu lv rx ry rz ra rb rc rd rf ru rv px py pz (by omega) (by omega) (by omega) b0 b1 b2 e00 e01 e02 e10 e11 e12 e20 e21 e22 hF hqb0 hqb1 hqb2 hqe00 hqe01 hqe02 hqe10 hqe11 hqe12 hqe20 hqe21 hqe22 r0 hr0 r1 hr1 r2 hr2 hl hr hup hd)) <| zM <| zE oEx <| zE oEx <| zE oEx <| zN (oAl 2 ze56 zo56) <| zN (oAl 3 ze42 zo42) <| zT (oSt sh56) <| zT (oSt sh42) <| zM <| zZ) ?_
  refine pwp_seq <| kx [(8, (.ref 4 0)), (9, (vi 0))] [(4, some y1)] (zR (oLa sh31) <| zE (oCl (qs_pre lx ly lz la lb lc ld lf lu lv rx ry rz ra rb rc rd rf ru rv b0 b1 b2 e00 e01 e02 e10 e11 e12 e20 e21 e22 hF hqb0 hqb1 hqb2 hqe00 hqe01 hqe02 hqe10 hqe11 hqe12 hqe20 hqe21 hqe22 hl hr hup)) <| zM <| zE oEx <| zE oEx <| zN (oAl 4 ze47 zo47) <| zT (oSt sh47) <| zM <| zZ) ?_
  refine pwp_seq <| pwp_seq <| kx [(37, (vl 3 1 enc_i64 [px, py, pz])), (38, (vin 3)), (39, (vin 0))] [] (zE (oFr fo23_0) <| zR (oL1 sh3) <| zE (oFr fo23_1) <| zR (oL1 sh3) <| zE (oFr fo23_2) <| zR (oL1 sh3) <| zE (oBs el74 ze3 zo3) <| zE (oLn el74 3) <| zM <| zZ) ?_
  refine pwp_block <| pwp_rounds 20 ?_
  refine pwp_round <| pwp_seq <| kx [(40, (vb true))] [] (zE (oBk true oLt) <| zZ) ?_
  refine pwp_seq <| pwp_cond (b := true) (by kernel_rfl) (fun _ => ?_) (fun h => by cases h)
  refine pwp_skip <| pwp_seq <| pwp_block <| pwp_seq <| kx [(11, (vi px))] [] (zE (oXs el74 0) <| zE (oC1 sh3) <| zM <| zZ) ?_
  refine pwp_seq <| kx [(52, (vb false))] [] (zM <| zE oEq <| zM <| zM <| zE (oBk false oLt (by exact decide_eq_false (by omega))) <| zM <| zM <| zE (oBk false oGt (by exact decide_eq_false (by omega))) <| zE oPf <| zE oPt <| zZ) ?_
  refine pwp_cond (b := false) (by kernel_rfl) (fun h => by cases h) (fun _ => ?_)
  refine pwp_skip <| kx [(39, (vin 1))] [] (zE (oAd 1 (hr := by decide)) <| zM <| zZ) ?_
  refine pwp_again (SimImp.refl _) ?_
  refine pwp_seq <| kx [(40, (vb true))] [] (zE (oBk true oLt) <| zZ) ?_
  refine pwp_seq <| pwp_cond (b := true) (by kernel_rfl) (fun _ => ?_) (fun h => by cases h)
  refine pwp_skip <| pwp_seq <| pwp_block <| pwp_seq <| kx [(11, (vi py))] [] (zE (oXs el74 1) <| zE (oC1 sh3) <| zM <| zZ) ?_
  refine pwp_seq <| kx [(52, (vb false))] [] (zM <| zE oEq <| zM <| zM <| zE (oBk false oLt (by exact decide_eq_false (by omega))) <| zM <| zM <| zE (oBk false oGt (by exact decide_eq_false (by omega))) <| zE oPf <| zE oPt <| zZ) ?_
  refine pwp_cond (b := false) (by kernel_rfl) (fun h => by cases h) (fun _ => ?_)
  refine pwp_skip <| kx [(39, (vin 2))] [] (zE (oAd 2 (hr := by decide)) <| zM <| zZ) ?_
  refine pwp_again (SimImp.refl _) ?_
  refine pwp_seq <| kx [(40, (vb true))] [] (zE (oBk true oLt) <| zZ) ?_
  refine pwp_seq <| pwp_cond (b := true) (by kernel_rfl) (fun _ => ?_) (fun h => by cases h)
  refine pwp_skip <| pwp_seq <| pwp_block <| pwp_seq <| pwp_sim (wk (l := [(2, (.ref 0 0)), (3, (.ref 1 0)), (5, (.ref 2 0)), (6, (.ref 3 0)), (7, (vi 20)), (8, (.ref 4 0)), (9, (vi 0)), (37, (vl 3 1 enc_i64 [px, py, pz])), (38, (vin 3)), (39, (vin 2)), (40, (vb true))]) (b := [(0, some y2), (1, some (bx (encSpot (RSpot.mk px py pz)))), (2, some y4), (3, some (bx (encR y5))), (4, some y1)])) ?_
  refine kx [(11, (vi pz))] [] (zE (oXs el74 2) <| zE (oC1 sh3) <| zM <| zZ) ?_
  refine pwp_seq <| kx [(52, (vb false))] [] (zM <| zE oEq <| zM <| zM <| zE (oBk false oLt (by exact decide_eq_false (by omega))) <| zM <| zM <| zE (oBk false oGt (by exact decide_eq_false (by omega))) <| zE oPf <| zE oPt <| zZ) ?_
  refine pwp_cond (b := false) (by kernel_rfl) (fun h => by cases h) (fun _ => ?_)
  refine pwp_skip <| kx [(39, (vin 3))] [] (zE (oAd 3 (hr := by decide)) <| zM <| zZ) ?_
  refine pwp_again (SimImp.refl _) ?_
  refine pwp_seq <| kx [(40, (vb false))] [] (zE (oBk false oLt) <| zZ) ?_
  refine pwp_seq <| pwp_cond (b := false) (by kernel_rfl) (fun h => by cases h) (fun _ => ?_)
  refine pwp_exit <| pwp_seq <| kx [(12, (.ref 5 0)), (13, (.ref 6 0))] [(5, some y4), (6, some (bx (encR y5)))] (zE (oBd pl56 ze56 zo56) <| zE (oBd pl42 ze42 zo42) <| zN (oAl 5 ze56 zo56) <| zN (oAl 6 ze42 zo42) <| zT (oSt sh56) <| zT (oSt sh42) <| zZ) ?_
  refine pwp_seq <| pwp_seq <| kx [(57, (vb true))] [] (zM <| zE oEq <| zZ) ?_
  refine pwp_cond (b := true) (by kernel_rfl) (fun _ => ?_) (fun h => by cases h)
  refine pwp_seq <| kx [(14, (.ref 7 0))] [(7, some (bx (encA43 (A3.mk (ofQ r0) (ofQ r1) (ofQ r2)))))] (zE (oFr fo31_0) <| zR (oLa sh29) <| zR (oLa sh23) <| zE (oCl (by have h := qs_seen lx ly lz la lb lc ld lf lu lv (by omega) (by omega) (by omega) px py pz (by omega) (by omega) (by omega); rw [hr0, hr1, hr2] at h; exact h)) <| zN (oAl 7 ze44 zo44) <| zT (oSt sh44) <| zZ) ?_
  refine pwp_seq <| kx [(9, (vi 20))] [(5, some y4)] (zR (oLa sh47) <| zR (oLa sh44) <| zE (oCl (qs_cooN lx ly lz la lb lc ld lf lu lv rx ry rz ra rb rc rd rf ru rv b0 b1 b2 e00 e01 e02 e10 e11 e12 e20 e21 e22 hqb0 hqb1 hqb2 hqe00 hqe01 hqe02 hqe10 hqe11 hqe12 hqe20 hqe21 hqe22 r0 r1 r2 (ql_up bn1 (by decide)) (ql_up bn2 (by decide)) (ql_up bn3 (by decide)) hd)) <| zM <| zE oEx <| zE oEx <| zT (oSt sh56) <| zM <| zZ) ?_
  refine pwp_seq <| kx [(69, (vb false))] [] (zM <| zE oEq <| zZ) ?_
  refine pwp_cond (b := false) (by kernel_rfl) (fun h => by cases h) (fun _ => ?_)
  refine pwp_skip <| pwp_seq <| pwp_seq <| kx [(86, (vb true))] [] (zM <| zE oNe <| zZ) ?_
  refine pwp_cond (b := true) (by kernel_rfl) (fun _ => ?_) (fun h => by cases h)
  refine pwp_seq <| kx [(4, (vb true))] [] (zM <| zM <| zE oEq <| zM <| zR (oLa sh56) <| zE (oCl qs_none) <| zE oPt <| zM <| zR (oLa sh42) <| zE (oCl g_zeroT) <| zE oPt <| zM <| zZ) ?_
  refine pwp_ret ⟨_, (.tmp (d := (.val (.bool (true)))) rfl .nil), ?_⟩
  rfl
theorem w_pts (lx ly lz la lb lc ld lf lu lv rx ry rz ra rb rc rd rf ru rv : Int) (px py pz : Int) (hpx : -1048576 ≤ px ∧ px ≤ 1048576) (hpy : -1048576 ≤ py ∧ py ≤ 1048576) (hpz : -1048576 ≤ pz ∧ pz ≤ 1048576) (b0 b1 b2 e00 e01 e02 e10 e11 e12 e20 e21 e22 : Rat) (hF : RFr lx ly lz la lb lc ld rx ry rz ra rb rc rd b0 b1 b2 e00 e01 e02 e10 e11 e12 e20 e21 e22) (hqb0 : QL b0 3) (hqb1 : QL b1 3) (hqb2 : QL b2 3) (hqe00 : QL e00 400) (hqe01 : QL e01 400) (hqe02 : QL e02 400) (hqe10 : QL e10 400) (hqe11 : QL e11 400) (hqe12 : QL e12 400) (hqe20 : QL e20 400) (hqe21 : QL e21 400) (hqe22 : QL e22 400) (r0 : Rat) (hr0 : ((px - lx : Int) : Rat) = r0) (r1 : Rat) (hr1 : ((py - ly : Int) : Rat) = r1) (r2 : Rat) (hr2 : ((pz - lz : Int) : Rat) = r2) (g0 : Rat) (hg0 : (((e00 * (((dot3 e00 e01 e02 r0 r1 r2) / (dot3 e20 e21 e22 r0 r1 r2)) / (dot3 e00 e01 e02 e00 e01 e02))) + (e10 * (((dot3 e10 e11 e12 r0 r1 r2) / (dot3 e20 e21 e22 r0 r1 r2)) / (dot3 e10 e11 e12 e10 e11 e12)))) + (e20 * (((1 : Int) : Rat) / (dot3 e20 e21 e22 e20 e21 e22)))) = g0) (g1 : Rat) (hg1 : (((e01 * (((dot3 e00 e01 e02 r0 r1 r2) / (dot3 e20 e21 e22 r0 r1 r2)) / (dot3 e00 e01 e02 e00 e01 e02))) + (e11 * (((dot3 e10 e11 e12 r0 r1 r2) / (dot3 e20 e21 e22 r0 r1 r2)) / (dot3 e10 e11 e12 e10 e11 e12)))) + (e21 * (((1 : Int) : Rat) / (dot3 e20 e21 e22 e20 e21 e22)))) = g1) (g2 : Rat) (hg2 : (((e02 * (((dot3 e00 e01 e02 r0 r1 r2) / (dot3 e20 e21 e22 r0 r1 r2)) / (dot3 e00 e01 e02 e00 e01 e02))) + (e12 * (((dot3 e10 e11 e12 r0 r1 r2) / (dot3 e20 e21 e22 r0 r1 r2)) / (dot3 e10 e11 e12 e10 e11 e12)))) + (e22 * (((1 : Int) : Rat) / (dot3 e20 e21 e22 e20 e21 e22)))) = g2) (hl : stnC lx ly lz lu lv lf la lb lc ld = 0) (hr : stnC rx ry rz ru rv rf ra rb rc rd = 0) (hup : upV la lb lc ld ra rb rc rd b0 b1 b2 = false) (hd : ¬ (signQ (dot3 e20 e21 e22 r0 r1 r2)) ≤ 0) (hsd_ : ¬ (signQ ((dot3 e00 e01 e02 b0 b1 b2) / (dot3 e20 e21 e22 r0 r1 r2))) ≤ 0) (hpx_ : (((lx : Int) : Rat) + (g0 * ((dot3 e00 e01 e02 b0 b1 b2) / ((dot3 e00 e01 e02 b0 b1 b2) / (dot3 e20 e21 e22 r0 r1 r2))))) = ((px : Int) : Rat)) (hpy_ : (((ly : Int) : Rat) + (g1 * ((dot3 e00 e01 e02 b0 b1 b2) / ((dot3 e00 e01 e02 b0 b1 b2) / (dot3 e20 e21 e22 r0 r1 r2))))) = ((py : Int) : Rat)) (hpz_ : (((lz : Int) : Rat) + (g2 * ((dot3 e00 e01 e02 b0 b1 b2) / ((dot3 e00 e01 e02 b0 b1 b2) / (dot3 e20 e21 e22 r0 r1 r2))))) = ((pz : Int) : Rat)) : Takes Tryz.prog 6 [(encStereo (RStereo.mk (RStn.mk (RSpot.mk lx ly lz) (RQuat.mk la lb lc ld) lf (RPix.mk lu lv)) (RStn.mk (RSpot.mk rx ry rz) (RQuat.mk ra rb rc rd) rf (RPix.mk ru rv)))), (encSpot (RSpot.mk px py pz))] (.val (.bool (true))) := by
  have hbl := stnC_ok hl
  have hbr := stnC_ok hr
  obtain ⟨hlx, hly, hlz, hlu, hlv, hlf, hlq⟩ := hbl
  obtain ⟨hrx, hry, hrz, hru, hrv, hrf, hrq⟩ := hbr
  obtain ⟨hla, hlb, hlc, hld, -⟩ := rotC_ok hlq
  obtain ⟨hra, hrb, hrc, hrd, -⟩ := rotC_ok hrq
  have hnl := nq_b hla hlb hlc hld
  have hnr := nq_b hra hrb hrc hrd
  have hz0 := fr_z0 hF hup
  have hz1 := fr_z1 hF hup
  have hz2 := fr_z2 hF hup
  let y8 := (ofQ ((dot3 e00 e01 e02 b0 b1 b2) / (dot3 e20 e21 e22 r0 r1 r2)))
  let y7 := (encA43 (A3.mk (ofQ ((px : Int) : Rat)) (ofQ ((py : Int) : Rat)) (ofQ ((pz : Int) : Rat))))
  let y6 := (bx (encPlace (RPlace.mk (ofQ ((dot3 e00 e01 e02 r0 r1 r2) / (dot3 e20 e21 e22 r0 r1 r2))) (ofQ ((dot3 e10 e11 e12 r0 r1 r2) / (dot3 e20 e21 e22 r0 r1 r2))))))
  let y5 := (encStereo (RStereo.mk (RStn.mk (RSpot.mk lx ly lz) (RQuat.mk la lb lc ld) lf (RPix.mk lu lv)) (RStn.mk (RSpot.mk rx ry rz) (RQuat.mk ra rb rc rd) rf (RPix.mk ru rv))))
  let y4 := (bx y5)
  let y3 := (bx (encLp (RLp.mk (RStereo.mk (RStn.mk (RSpot.mk lx ly lz) (RQuat.mk la lb lc ld) lf (RPix.mk lu lv)) (RStn.mk (RSpot.mk rx ry rz) (RQuat.mk ra rb rc rd) rf (RPix.mk ru rv))) (A3.mk (ofQ b0) (ofQ b1) (ofQ b2)) (A3.mk (A3.mk (ofQ e00) (ofQ e01) (ofQ e02)) (A3.mk (ofQ e10) (ofQ e11) (ofQ e12)) (A3.mk (ofQ e20) (ofQ e21) (ofQ e22))))))
  let y2 := (encA43 (A3.mk (ofQ (((lx : Int) : Rat) + (g0 * ((dot3 e00 e01 e02 b0 b1 b2) / ((dot3 e00 e01 e02 b0 b1 b2) / (dot3 e20 e21 e22 r0 r1 r2)))))) (ofQ (((ly : Int) : Rat) + (g1 * ((dot3 e00 e01 e02 b0 b1 b2) / ((dot3 e00 e01 e02 b0 b1 b2) / (dot3 e20 e21 e22 r0 r1 r2)))))) (ofQ (((lz : Int) : Rat) + (g2 * ((dot3 e00 e01 e02 b0 b1 b2) / ((dot3 e00 e01 e02 b0 b1 b2) / (dot3 e20 e21 e22 r0 r1 r2))))))))
  let y1 := (bx y2)
  refine fn_intro Tryz.func6 rfl cb6 rfl ?_
  show PWp _ _ _ _ ⟨[(0, (.d y5)), (1, (.d (encSpot (RSpot.mk px py pz))))], []⟩
  refine pwp_seq <| kx [(2, (.ref 0 0)), (3, (.ref 1 0))] [(0, some y4), (1, some (bx (encSpot (RSpot.mk px py pz))))] (zN (oBx 0) <| zN (oBx 1) <| zM <| zZ) ?_
  refine pwp_seq <| pwp_seq <| kx [(18, (vb false))] [] (zE (oCl qs_known) <| zE oNt <| zZ) ?_
  refine pwp_cond (b := false) (by kernel_rfl) (fun h => by cases h) (fun _ => ?_)
  refine pwp_skip <| pwp_seq ?_
  have bn1 : QL r0 3 := (ql_eqz (Eq.symm hr0) (ql_int (z := (px - lx)) (n := 3) (lenZ_int (by omega) (by omega)) (by decide)))
  have bn2 : QL r1 3 := (ql_eqz (Eq.symm hr1) (ql_int (z := (py - ly)) (n := 3) (lenZ_int (by omega) (by omega)) (by decide)))
  have bn3 : QL r2 3 := (ql_eqz (Eq.symm hr2) (ql_int (z := (pz - lz)) (n := 3) (lenZ_int (by omega) (by omega)) (by decide)))
  have bn4 : QL ((dot3 e00 e01 e02 r0 r1 r2) / (dot3 e20 e21 e22 r0 r1 r2)) 4804 := (ql_div (k := 4804) (ql_dot3 (n := 400) (k := 2402) hqe00 hqe01 hqe02 (ql_up bn1 (by decide)) (ql_up bn2 (by decide)) (ql_up bn3 (by decide)) (by decide)) (ql_dot3 (n := 400) (k := 2402) hqe20 hqe21 hqe22 (ql_up bn1 (by decide)) (ql_up bn2 (by decide)) (ql_up bn3 (by decide)) (by decide)) (by decide))
  have bn5 : QL ((dot3 e10 e11 e12 r0 r1 r2) / (dot3 e20 e21 e22 r0 r1 r2)) 4804 := (ql_div (k := 4804) (ql_dot3 (n := 400) (k := 2402) hqe10 hqe11 hqe12 (ql_up bn1 (by decide)) (ql_up bn2 (by decide)) (ql_up bn3 (by decide)) (by decide)) (ql_dot3 (n := 400) (k := 2402) hqe20 hqe21 hqe22 (ql_up bn1 (by decide)) (ql_up bn2 (by decide)) (ql_up bn3 (by decide)) (by decide)) (by decide))
  have bn6 : QL ((dot3 e00 e01 e02 b0 b1 b2) / (dot3 e20 e21 e22 r0 r1 r2)) 4804 := (ql_div (k := 4804) (ql_dot3 (n := 400) (k := 2402) hqe00 hqe01 hqe02 (ql_up hqb0 (by decide)) (ql_up hqb1 (by decide)) (ql_up hqb2 (by decide)) (by decide)) (ql_dot3 (n := 400) (k := 2402) hqe20 hqe21 hqe22 (ql_up bn1 (by decide)) (ql_up bn2 (by decide)) (ql_up bn3 (by decide)) (by decide)) (by decide))
  refine kx [(5, (.ref 2 0)), (6, (.ref 3 0)), (7, (vi 0))] [(2, some y6), (3, some (bx (encR y8)))] (zR (oLa sh31) <| zR (oLa sh23) <| zE (oCl (q_prj lx ly lz la lb lc ld lf lu lv rx ry rz ra rb rc rd rf ru rv px py pz (by omega) (by omega) (by omega) b0 b1 b2 e00 e01 e02 e10 e11 e12 e20 e21 e22 hF hqb0 hqb1 hqb2 hqe00 hqe01 hqe02 hqe10 hqe11 hqe12 hqe20 hqe21 hqe22 r0 hr0 r1 hr1 r2 hr2 hl hr hup hd)) <| zM <| zE oEx <| zE oEx <| zE oEx <| zN (oAl 2 ze56 zo56) <| zN (oAl 3 ze42 zo42) <| zT (oSt sh56) <| zT (oSt sh42) <| zM <| zZ) ?_
  refine pwp_seq <| kx [(8, (.ref 4 0)), (9, (vi 0))] [(4, some y3)] (zR (oLa sh31) <| zE (oCl (qs_pre lx ly lz la lb lc ld lf lu lv rx ry rz ra rb rc rd rf ru rv b0 b1 b2 e00 e01 e02 e10 e11 e12 e20 e21 e22 hF hqb0 hqb1 hqb2 hqe00 hqe01 hqe02 hqe10 hqe11 hqe12 hqe20 hqe21 hqe22 hl hr hup)) <| zM <| zE oEx <| zE oEx <| zN (oAl 4 ze47 zo47) <| zT (oSt sh47) <| zM <| zZ) ?_
  refine pwp_seq <| pwp_seq <| kx [(37, (vl 3 1 enc_i64 [px, py, pz])), (38, (vin 3)), (39, (vin 0))] [] (zE (oFr fo23_0) <| zR (oL1 sh3) <| zE (oFr fo23_1) <| zR (oL1 sh3) <| zE (oFr fo23_2) <| zR (oL1 sh3) <| zE (oBs el74 ze3 zo3) <| zE (oLn el74 3) <| zM <| zZ) ?_
  refine pwp_block <| pwp_rounds 20 ?_
  refine pwp_round <| pwp_seq <| kx [(40, (vb true))] [] (zE (oBk true oLt) <| zZ) ?_
  refine pwp_seq <| pwp_cond (b := true) (by kernel_rfl) (fun _ => ?_) (fun h => by cases h)
  refine pwp_skip <| pwp_seq <| pwp_block <| pwp_seq <| kx [(11, (vi px))] [] (zE (oXs el74 0) <| zE (oC1 sh3) <| zM <| zZ) ?_
  refine pwp_seq <| kx [(52, (vb false))] [] (zM <| zE oEq <| zM <| zM <| zE (oBk false oLt (by exact decide_eq_false (by omega))) <| zM <| zM <| zE (oBk false oGt (by exact decide_eq_false (by omega))) <| zE oPf <| zE oPt <| zZ) ?_
  refine pwp_cond (b := false) (by kernel_rfl) (fun h => by cases h) (fun _ => ?_)
  refine pwp_skip <| kx [(39, (vin 1))] [] (zE (oAd 1 (hr := by decide)) <| zM <| zZ) ?_
  refine pwp_again (SimImp.refl _) ?_
  refine pwp_seq <| kx [(40, (vb true))] [] (zE (oBk true oLt) <| zZ) ?_
  refine pwp_seq <| pwp_cond (b := true) (by kernel_rfl) (fun _ => ?_) (fun h => by cases h)
  refine pwp_skip <| pwp_seq <| pwp_block <| pwp_seq <| kx [(11, (vi py))] [] (zE (oXs el74 1) <| zE (oC1 sh3) <| zM <| zZ) ?_
  refine pwp_seq <| kx [(52, (vb false))] [] (zM <| zE oEq <| zM <| zM <| zE (oBk false oLt (by exact decide_eq_false (by omega))) <| zM <| zM <| zE (oBk false oGt (by exact decide_eq_false (by omega))) <| zE oPf <| zE oPt <| zZ) ?_
  refine pwp_cond (b := false) (by kernel_rfl) (fun h => by cases h) (fun _ => ?_)
  refine pwp_skip <| kx [(39, (vin 2))] [] (zE (oAd 2 (hr := by decide)) <| zM <| zZ) ?_
  refine pwp_again (SimImp.refl _) ?_
  refine pwp_seq <| kx [(40, (vb true))] [] (zE (oBk true oLt) <| zZ) ?_
  refine pwp_seq <| pwp_cond (b := true) (by kernel_rfl) (fun _ => ?_) (fun h => by cases h)
  refine pwp_skip <| pwp_seq <| pwp_block <| pwp_seq <| pwp_sim (wk (l := [(2, (.ref 0 0)), (3, (.ref 1 0)), (5, (.ref 2 0)), (6, (.ref 3 0)), (7, (vi 0)), (8, (.ref 4 0)), (9, (vi 0)), (37, (vl 3 1 enc_i64 [px, py, pz])), (38, (vin 3)), (39, (vin 2)), (40, (vb true))]) (b := [(0, some y4), (1, some (bx (encSpot (RSpot.mk px py pz)))), (2, some y6), (3, some (bx (encR y8))), (4, some y3)])) ?_
  refine kx [(11, (vi pz))] [] (zE (oXs el74 2) <| zE (oC1 sh3) <| zM <| zZ) ?_
  refine pwp_seq <| kx [(52, (vb false))] [] (zM <| zE oEq <| zM <| zM <| zE (oBk false oLt (by exact decide_eq_false (by omega))) <| zM <| zM <| zE (oBk false oGt (by exact decide_eq_false (by omega))) <| zE oPf <| zE oPt <| zZ) ?_
  refine pwp_cond (b := false) (by kernel_rfl) (fun h => by cases h) (fun _ => ?_)
  refine pwp_skip <| kx [(39, (vin 3))] [] (zE (oAd 3 (hr := by decide)) <| zM <| zZ) ?_
  refine pwp_again (SimImp.refl _) ?_
  refine pwp_seq <| kx [(40, (vb false))] [] (zE (oBk false oLt) <| zZ) ?_
  refine pwp_seq <| pwp_cond (b := false) (by kernel_rfl) (fun h => by cases h) (fun _ => ?_)
  refine pwp_exit <| pwp_seq <| kx [(12, (.ref 5 0)), (13, (.ref 6 0))] [(5, some (bx (encPlace (RPlace.mk (RRat.mk (RInt.mk false []) (RInt.mk false [])) (RRat.mk (RInt.mk false []) (RInt.mk false [])))))), (6, some (bx (encR (RRat.mk (RInt.mk false []) (RInt.mk false [])))))] (zE (oBd pl56 ze56 zo56) <| zE (oBd pl42 ze42 zo42) <| zN (oAl 5 ze56 zo56) <| zN (oAl 6 ze42 zo42) <| zT (oSt sh56) <| zT (oSt sh42) <| zZ) ?_
  refine pwp_seq <| pwp_seq <| kx [(57, (vb true))] [] (zM <| zE oEq <| zZ) ?_
  refine pwp_cond (b := true) (by kernel_rfl) (fun _ => ?_) (fun h => by cases h)
  refine pwp_seq <| kx [(14, (.ref 7 0))] [(7, some (bx (encA43 (A3.mk (ofQ r0) (ofQ r1) (ofQ r2)))))] (zE (oFr fo31_0) <| zR (oLa sh29) <| zR (oLa sh23) <| zE (oCl (by have h := qs_seen lx ly lz la lb lc ld lf lu lv (by omega) (by omega) (by omega) px py pz (by omega) (by omega) (by omega); rw [hr0, hr1, hr2] at h; exact h)) <| zN (oAl 7 ze44 zo44) <| zT (oSt sh44) <| zZ) ?_
  refine pwp_seq <| kx [(9, (vi 0))] [(5, some y6)] (zR (oLa sh47) <| zR (oLa sh44) <| zE (oCl (qs_coo lx ly lz la lb lc ld lf lu lv rx ry rz ra rb rc rd rf ru rv b0 b1 b2 e00 e01 e02 e10 e11 e12 e20 e21 e22 hqb0 hqb1 hqb2 hqe00 hqe01 hqe02 hqe10 hqe11 hqe12 hqe20 hqe21 hqe22 r0 r1 r2 (ql_up bn1 (by decide)) (ql_up bn2 (by decide)) (ql_up bn3 (by decide)) hd)) <| zM <| zE oEx <| zE oEx <| zT (oSt sh56) <| zM <| zZ) ?_
  refine pwp_seq <| kx [(69, (vb true))] [] (zM <| zE oEq <| zZ) ?_
  refine pwp_cond (b := true) (by kernel_rfl) (fun _ => ?_) (fun h => by cases h)
  have bn7 : QL (dot3 e00 e01 e02 b0 b1 b2) 2402 := (ql_dot3 (n := 400) (k := 2402) hqe00 hqe01 hqe02 (ql_up hqb0 (by decide)) (ql_up hqb1 (by decide)) (ql_up hqb2 (by decide)) (by decide))
  have bn8 : QL (dot3 e20 e21 e22 r0 r1 r2) 2402 := (ql_dot3 (n := 400) (k := 2402) hqe20 hqe21 hqe22 (ql_up bn1 (by decide)) (ql_up bn2 (by decide)) (ql_up bn3 (by decide)) (by decide))
  refine kd [] [(6, some (bx (encR y8)))] mo (wE (oFr fo47_2) <| wE (oXr ar45 0) <| wR (oLa sh44) <| wE (oFr fo47_1) <| wR (oLa sh44) <| wE (oCl (qs_dot e00 e01 e02 (ql_up hqe00 (by decide)) (ql_up hqe01 (by decide)) (ql_up hqe02 (by decide)) b0 b1 b2 (ql_up hqb0 (by decide)) (ql_up hqb1 (by decide)) (ql_up hqb2 (by decide)))) <| wE (oFr fo47_2) <| wE (oXr ar45 2) <| wR (oLa sh44) <| wR (oLa sh44) <| wE (oCl (qs_dot e20 e21 e22 (ql_up hqe20 (by decide)) (ql_up hqe21 (by decide)) (ql_up hqe22 (by decide)) r0 r1 r2 (ql_up bn1 (by decide)) (ql_up bn2 (by decide)) (ql_up bn3 (by decide)))) <| wE (oCl (by have h := g_divide (ofQ (dot3 e00 e01 e02 b0 b1 b2)) (ofQ (dot3 e20 e21 e22 r0 r1 r2)) (dot3 e00 e01 e02 b0 b1 b2) (dot3 e20 e21 e22 r0 r1 r2) (qok_up (qok_of bn7) (by decide)) (qok_up (qok_of bn8) (by decide)); rw [divR_ne (sgn_ne hd), divC_ne (sgn_ne hd)] at h; exact h)) <| wM <| wE oEx <| wE oEx <| wT (oSt sh42) <| wZ) ?_
  refine pwp_seq <| pwp_seq <| kx [(86, (vb false))] [] (zM <| zE oNe <| zZ) ?_
  refine pwp_cond (b := false) (by kernel_rfl) (fun h => by cases h) (fun _ => ?_)
  refine pwp_skip <| pwp_seq <| pwp_seq <| kx [(111, (vb false))] [] (zM <| zE oNe <| zM <| zR (oLa sh56) <| zR (oLa sh56) <| zE (oCl (qs_samep ((dot3 e00 e01 e02 r0 r1 r2) / (dot3 e20 e21 e22 r0 r1 r2)) ((dot3 e10 e11 e12 r0 r1 r2) / (dot3 e20 e21 e22 r0 r1 r2)) (ql_up bn4 (by decide)) (ql_up bn5 (by decide)) ((dot3 e00 e01 e02 r0 r1 r2) / (dot3 e20 e21 e22 r0 r1 r2)) ((dot3 e10 e11 e12 r0 r1 r2) / (dot3 e20 e21 e22 r0 r1 r2)) (ql_up bn4 (by decide)) (ql_up bn5 (by decide)) rfl rfl)) <| zE oNt <| zE oPf <| zM <| zR (oLa sh42) <| zR (oLa sh42) <| zE (oBk true (oCl (by have h := g_same y8 y8 ((dot3 e00 e01 e02 b0 b1 b2) / (dot3 e20 e21 e22 r0 r1 r2)) ((dot3 e00 e01 e02 b0 b1 b2) / (dot3 e20 e21 e22 r0 r1 r2)) (qok_up (qok_of bn6) (by decide)) (qok_up (qok_of (ql_div (k := 4804) bn7 bn8 (by decide))) (by decide)); rw [sameR_of] at h; exact h)) (by exact decide_eq_true rfl)) <| zE oNt <| zE oPf <| zZ) ?_
  refine pwp_cond (b := false) (by kernel_rfl) (fun h => by cases h) (fun _ => ?_)
  refine pwp_skip <| pwp_seq ?_
  have bn9 : QL g0 18019 := (ql_eqz (Eq.symm hg0) (ql_add (k := 18019) (ql_add (k := 15213) (ql_mul (k := 7606) hqe00 (ql_div (k := 7206) bn4 (ql_dot3 (n := 400) (k := 2402) hqe00 hqe01 hqe02 hqe00 hqe01 hqe02 (by decide)) (by decide)) (by decide)) (ql_mul (k := 7606) hqe10 (ql_div (k := 7206) bn5 (ql_dot3 (n := 400) (k := 2402) hqe10 hqe11 hqe12 hqe10 hqe11 hqe12 (by decide)) (by decide)) (by decide)) (by decide)) (ql_mul (k := 2805) hqe20 (ql_div (k := 2405) (ql_int (z := 1) (n := 3) (lenZ_int (by decide) (by decide)) (by decide)) (ql_dot3 (n := 400) (k := 2402) hqe20 hqe21 hqe22 hqe20 hqe21 hqe22 (by decide)) (by decide)) (by decide)) (by decide)))
  have bn10 : QL g1 18019 := (ql_eqz (Eq.symm hg1) (ql_add (k := 18019) (ql_add (k := 15213) (ql_mul (k := 7606) hqe01 (ql_div (k := 7206) bn4 (ql_dot3 (n := 400) (k := 2402) hqe00 hqe01 hqe02 hqe00 hqe01 hqe02 (by decide)) (by decide)) (by decide)) (ql_mul (k := 7606) hqe11 (ql_div (k := 7206) bn5 (ql_dot3 (n := 400) (k := 2402) hqe10 hqe11 hqe12 hqe10 hqe11 hqe12 (by decide)) (by decide)) (by decide)) (by decide)) (ql_mul (k := 2805) hqe21 (ql_div (k := 2405) (ql_int (z := 1) (n := 3) (lenZ_int (by decide) (by decide)) (by decide)) (ql_dot3 (n := 400) (k := 2402) hqe20 hqe21 hqe22 hqe20 hqe21 hqe22 (by decide)) (by decide)) (by decide)) (by decide)))
  have bn11 : QL g2 18019 := (ql_eqz (Eq.symm hg2) (ql_add (k := 18019) (ql_add (k := 15213) (ql_mul (k := 7606) hqe02 (ql_div (k := 7206) bn4 (ql_dot3 (n := 400) (k := 2402) hqe00 hqe01 hqe02 hqe00 hqe01 hqe02 (by decide)) (by decide)) (by decide)) (ql_mul (k := 7606) hqe12 (ql_div (k := 7206) bn5 (ql_dot3 (n := 400) (k := 2402) hqe10 hqe11 hqe12 hqe10 hqe11 hqe12 (by decide)) (by decide)) (by decide)) (by decide)) (ql_mul (k := 2805) hqe22 (ql_div (k := 2405) (ql_int (z := 1) (n := 3) (lenZ_int (by decide) (by decide)) (by decide)) (ql_dot3 (n := 400) (k := 2402) hqe20 hqe21 hqe22 hqe20 hqe21 hqe22 (by decide)) (by decide)) (by decide)) (by decide)))
  have bn12 : QL (((lx : Int) : Rat) + (g0 * ((dot3 e00 e01 e02 b0 b1 b2) / ((dot3 e00 e01 e02 b0 b1 b2) / (dot3 e20 e21 e22 r0 r1 r2))))) 25229 := (ql_add (k := 25229) (ql_int (z := lx) (n := 3) (lenZ_int (by omega) (by omega)) (by decide)) (ql_mul (k := 25225) bn9 (ql_div (k := 7206) (ql_dot3 (n := 400) (k := 2402) hqe00 hqe01 hqe02 (ql_up hqb0 (by decide)) (ql_up hqb1 (by decide)) (ql_up hqb2 (by decide)) (by decide)) bn6 (by decide)) (by decide)) (by decide))
  have bn13 : QL (((ly : Int) : Rat) + (g1 * ((dot3 e00 e01 e02 b0 b1 b2) / ((dot3 e00 e01 e02 b0 b1 b2) / (dot3 e20 e21 e22 r0 r1 r2))))) 25229 := (ql_add (k := 25229) (ql_int (z := ly) (n := 3) (lenZ_int (by omega) (by omega)) (by decide)) (ql_mul (k := 25225) bn10 (ql_div (k := 7206) (ql_dot3 (n := 400) (k := 2402) hqe00 hqe01 hqe02 (ql_up hqb0 (by decide)) (ql_up hqb1 (by decide)) (ql_up hqb2 (by decide)) (by decide)) bn6 (by decide)) (by decide)) (by decide))
  have bn14 : QL (((lz : Int) : Rat) + (g2 * ((dot3 e00 e01 e02 b0 b1 b2) / ((dot3 e00 e01 e02 b0 b1 b2) / (dot3 e20 e21 e22 r0 r1 r2))))) 25229 := (ql_add (k := 25229) (ql_int (z := lz) (n := 3) (lenZ_int (by omega) (by omega)) (by decide)) (ql_mul (k := 25225) bn11 (ql_div (k := 7206) (ql_dot3 (n := 400) (k := 2402) hqe00 hqe01 hqe02 (ql_up hqb0 (by decide)) (ql_up hqb1 (by decide)) (ql_up hqb2 (by decide)) (by decide)) bn6 (by decide)) (by decide)) (by decide))
  refine kx [(7, (vi 0)), (15, (.ref 8 0))] [(8, some y1)] (zR (oLa sh31) <| zR (oLa sh56) <| zR (oLa sh42) <| zE (oCl (q_pt lx ly lz la lb lc ld lf lu lv rx ry rz ra rb rc rd rf ru rv ((dot3 e00 e01 e02 r0 r1 r2) / (dot3 e20 e21 e22 r0 r1 r2)) ((dot3 e10 e11 e12 r0 r1 r2) / (dot3 e20 e21 e22 r0 r1 r2)) (ql_up bn4 (by decide)) (ql_up bn5 (by decide)) ((dot3 e00 e01 e02 b0 b1 b2) / (dot3 e20 e21 e22 r0 r1 r2)) (ql_up bn6 (by decide)) b0 b1 b2 e00 e01 e02 e10 e11 e12 e20 e21 e22 hF hqb0 hqb1 hqb2 hqe00 hqe01 hqe02 hqe10 hqe11 hqe12 hqe20 hqe21 hqe22 g0 hg0 g1 hg1 g2 hg2 hl hr hup hsd_)) <| zM <| zE oEx <| zE oEx <| zN (oAl 8 ze43 zo43) <| zT (oSt sh43) <| zM <| zZ) ?_
  refine pwp_seq ?_
  have bn15 : QL ((px : Int) : Rat) 3 := (ql_int (z := px) (n := 3) (lenZ_int (by omega) (by omega)) (by decide))
  have bn16 : QL ((py : Int) : Rat) 3 := (ql_int (z := py) (n := 3) (lenZ_int (by omega) (by omega)) (by decide))
  have bn17 : QL ((pz : Int) : Rat) 3 := (ql_int (z := pz) (n := 3) (lenZ_int (by omega) (by omega)) (by decide))
  refine kx [(16, (.ref 9 0))] [(9, some (bx y7))] (zE (oFr fo23_0) <| zR (oL1 sh3) <| zE (oFr fo23_1) <| zR (oL1 sh3) <| zE (oFr fo23_2) <| zR (oL1 sh3) <| zE (oCl (qs_whole px (by omega) (by omega) py (by omega) (by omega) pz (by omega) (by omega))) <| zN (oAl 9 ze44 zo44) <| zT (oSt sh44) <| zZ) ?_
  refine pwp_seq <| pwp_sim (wk (l := [(7, (vi 0)), (15, (.ref 8 0)), (16, (.ref 9 0))]) (b := [(8, some y1), (9, some (bx y7))])) ?_
  refine kd [(4, (vb true))] [] mo (wM <| wE oEq <| wM <| wE (e_slv (by exact rfl) ar43 (by exact rfl) (by kernel_rfl) (by kernel_rfl)) <| wE (e_slv (by exact rfl) ar44 (by exact rfl) (by kernel_rfl) (by kernel_rfl)) <| wC (oCg [(8, (Dat.cells y2)), (9, (Dat.cells y7))] [(.view 8 0 3), (.view 9 0 3)] (g_sameL3 1000000 (((lx : Int) : Rat) + (g0 * ((dot3 e00 e01 e02 b0 b1 b2) / ((dot3 e00 e01 e02 b0 b1 b2) / (dot3 e20 e21 e22 r0 r1 r2))))) (((ly : Int) : Rat) + (g1 * ((dot3 e00 e01 e02 b0 b1 b2) / ((dot3 e00 e01 e02 b0 b1 b2) / (dot3 e20 e21 e22 r0 r1 r2))))) (((lz : Int) : Rat) + (g2 * ((dot3 e00 e01 e02 b0 b1 b2) / ((dot3 e00 e01 e02 b0 b1 b2) / (dot3 e20 e21 e22 r0 r1 r2))))) (ql_up bn12 (by decide)) (ql_up bn13 (by decide)) (ql_up bn14 (by decide)) 1000000 ((px : Int) : Rat) ((py : Int) : Rat) ((pz : Int) : Rat) (ql_up bn15 (by decide)) (ql_up bn16 (by decide)) (ql_up bn17 (by decide)) hpx_ hpy_ hpz_) (.v (es := List.map encR [(ofQ (((lx : Int) : Rat) + (g0 * ((dot3 e00 e01 e02 b0 b1 b2) / ((dot3 e00 e01 e02 b0 b1 b2) / (dot3 e20 e21 e22 r0 r1 r2)))))), (ofQ (((ly : Int) : Rat) + (g1 * ((dot3 e00 e01 e02 b0 b1 b2) / ((dot3 e00 e01 e02 b0 b1 b2) / (dot3 e20 e21 e22 r0 r1 r2)))))), (ofQ (((lz : Int) : Rat) + (g2 * ((dot3 e00 e01 e02 b0 b1 b2) / ((dot3 e00 e01 e02 b0 b1 b2) / (dot3 e20 e21 e22 r0 r1 r2))))))]) (.head _) (pubs_cells _ _ (fun _ => rfl)) (by kernel_rfl) (by kernel_rfl) (.v (es := List.map encR [(ofQ ((px : Int) : Rat)), (ofQ ((py : Int) : Rat)), (ofQ ((pz : Int) : Rat))]) (.tail _ (.head _)) (pubs_cells _ _ (fun _ => rfl)) (by kernel_rfl) (by kernel_rfl) .nil)) (.val _)) <| wE oPt <| wM <| wZ) ?_
  refine pwp_ret ⟨_, (.tmp (d := (.val (.bool (true)))) rfl .nil), ?_⟩
  rfl
end Go.Proofs.YtbecgnplakngdaaGreat
