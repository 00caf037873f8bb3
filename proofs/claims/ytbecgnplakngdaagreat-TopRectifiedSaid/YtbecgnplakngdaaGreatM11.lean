/- Part 11 of a proof: rules, plain facts, and functions walked. -/
import Derived.Test.YtbecgnplakngdaaGreatM10
import Derived.Test.YtbecgnplakngdaaGreatM8
import Derived.Test.YtbecgnplakngdaaGreatM2
namespace Go.Proofs.YtbecgnplakngdaaGreat
open Go.Fid
set_option maxRecDepth 4000
set_option linter.unusedVariables false
set_option linter.unusedSimpArgs false
theorem cb99 : callB Tryz.prog 99 = true := by kernel_rfl
theorem q_canT (x y : Rat) (hx : QL x 1000000) (hy : QL y 1000000) : Takes Tryz.prog 99 [(encPlace (RPlace.mk (ofQ x) (ofQ y)))] (.val (.bool (true))) := by
  refine fn_intro Tryz.func99 rfl cb99 rfl ?_
  show PWp _ _ _ _ ⟨[(0, (.d (encPlace (RPlace.mk (ofQ x) (ofQ y)))))], []⟩
  refine pwp_seq <| kx [(1, (.ref 0 0))] [(0, some (bx (encPlace (RPlace.mk (ofQ x) (ofQ y)))))] (zN (oBx 0) <| zM <| zZ) ?_
  refine pwp_seq <| kx [(2, (vb true))] [] (zE (oFr fo56_0) <| zR (oLa sh42) <| zE (oBk true (oCl (f_valid (ofQ x) x (qok_up (qok_of hx) (by decide)))) (by exact (validR_ofQ x))) <| zM <| zE (oFr fo56_1) <| zR (oLa sh42) <| zE (oBk true (oCl (f_valid (ofQ y) y (qok_up (qok_of hy) (by decide)))) (by exact (validR_ofQ y))) <| zE oPt <| zM <| zZ) ?_
  refine pwp_ret ⟨_, (.tmp (d := (.val (.bool (true)))) rfl .nil), ?_⟩
  rfl
end Go.Proofs.YtbecgnplakngdaaGreat
namespace Go.Proofs.YtbecgnplakngdaaGreat
open Go.Fid
set_option maxRecDepth 4000
set_option linter.unusedVariables false
set_option linter.unusedSimpArgs false
theorem ar43 : arrB Tryz.prog 43 = some (3, 42, 4) := by kernel_rfl
theorem cb29 : callB Tryz.prog 29 = true := by kernel_rfl
theorem cb37 : callB Tryz.prog 37 = true := by kernel_rfl
theorem sh43 : shapeB Tryz.prog 43 = some (true, 12) := by kernel_rfl
theorem ze43 : zeroB Tryz.prog 43 = some [.bool false, .slice none 0 0, .bool false, .slice none 0 0, .bool false, .slice none 0 0, .bool false, .slice none 0 0, .bool false, .slice none 0 0, .bool false, .slice none 0 0] := by kernel_rfl
theorem zo43 : ZOk [.bool false, .slice none 0 0, .bool false, .slice none 0 0, .bool false, .slice none 0 0, .bool false, .slice none 0 0, .bool false, .slice none 0 0, .bool false, .slice none 0 0] [.val (.bool false), .sl 152 1 [], .val (.bool false), .sl 152 1 [], .val (.bool false), .sl 152 1 [], .val (.bool false), .sl 152 1 [], .val (.bool false), .sl 152 1 [], .val (.bool false), .sl 152 1 []] := by simp [ZOk, Value.oneCell']
theorem q_prj (lx ly lz la lb lc ld lf lu lv rx ry rz ra rb rc rd rf ru rv : Int) (px py pz : Int) (hpx : -1048576 ≤ px ∧ px ≤ 1048576) (hpy : -1048576 ≤ py ∧ py ≤ 1048576) (hpz : -1048576 ≤ pz ∧ pz ≤ 1048576) (b0 b1 b2 e00 e01 e02 e10 e11 e12 e20 e21 e22 : Rat) (hF : RFr lx ly lz la lb lc ld rx ry rz ra rb rc rd b0 b1 b2 e00 e01 e02 e10 e11 e12 e20 e21 e22) (hqb0 : QL b0 3) (hqb1 : QL b1 3) (hqb2 : QL b2 3) (hqe00 : QL e00 400) (hqe01 : QL e01 400) (hqe02 : QL e02 400) (hqe10 : QL e10 400) (hqe11 : QL e11 400) (hqe12 : QL e12 400) (hqe20 : QL e20 400) (hqe21 : QL e21 400) (hqe22 : QL e22 400) (r0 : Rat) (hr0 : ((px - lx : Int) : Rat) = r0) (r1 : Rat) (hr1 : ((py - ly : Int) : Rat) = r1) (r2 : Rat) (hr2 : ((pz - lz : Int) : Rat) = r2) (hl : stnC lx ly lz lu lv lf la lb lc ld = 0) (hr : stnC rx ry rz ru rv rf ra rb rc rd = 0) (hup : upV la lb lc ld ra rb rc rd b0 b1 b2 = false) (hd : ¬ (signQ (dot3 e20 e21 e22 r0 r1 r2)) ≤ 0) : Takes Tryz.prog 29 [(encStereo (RStereo.mk (RStn.mk (RSpot.mk lx ly lz) (RQuat.mk la lb lc ld) lf (RPix.mk lu lv)) (RStn.mk (RSpot.mk rx ry rz) (RQuat.mk ra rb rc rd) rf (RPix.mk ru rv)))), (encSpot (RSpot.mk px py pz))] (.tup [(encPlace (RPlace.mk (ofQ ((dot3 e00 e01 e02 r0 r1 r2) / (dot3 e20 e21 e22 r0 r1 r2))) (ofQ ((dot3 e10 e11 e12 r0 r1 r2) / (dot3 e20 e21 e22 r0 r1 r2))))), (encR (ofQ ((dot3 e00 e01 e02 b0 b1 b2) / (dot3 e20 e21 e22 r0 r1 r2)))), (.val (.int .i64 (0)))]) := by
  have hbl := stnC_ok hl
  have hbr := stnC_ok hr
  obtain ⟨hlx, hly, hlz, hlu, hlv, hlf, hlq⟩ := hbl
  obtain ⟨hrx, hry, hrz, hru, hrv, hrf, hrq⟩ := hbr
  obtain ⟨hla, hlb, hlc, hld, -⟩ := rotC_ok hlq
  obtain ⟨hra, hrb, hrc, hrd, -⟩ := rotC_ok hrq
  have hnl := nq_b hla hlb hlc hld
  have hnr := nq_b hra hrb hrc hrd
  have hz0 := fr_z0 hF hup
  have hz1 := fr_z1 hF hup
  have hz2 := fr_z2 hF hup
  let y3 := (RRat.mk (RInt.mk false []) (RInt.mk false []))
  let y2 := (encStereo (RStereo.mk (RStn.mk (RSpot.mk lx ly lz) (RQuat.mk la lb lc ld) lf (RPix.mk lu lv)) (RStn.mk (RSpot.mk rx ry rz) (RQuat.mk ra rb rc rd) rf (RPix.mk ru rv))))
  let y1 := (encRp (RRp.mk (RStn.mk (RSpot.mk lx ly lz) (RQuat.mk la lb lc ld) lf (RPix.mk lu lv)) (RStn.mk (RSpot.mk rx ry rz) (RQuat.mk ra rb rc rd) rf (RPix.mk ru rv)) (A3.mk (ofQ b0) (ofQ b1) (ofQ b2)) (A3.mk (A3.mk (ofQ e00) (ofQ e01) (ofQ e02)) (A3.mk (ofQ e10) (ofQ e11) (ofQ e12)) (A3.mk (ofQ e20) (ofQ e21) (ofQ e22)))))
  refine fn_intro Tryz.func29 rfl cb29 rfl ?_
  show PWp _ _ _ _ ⟨[(0, (.d y2)), (1, (.d (encSpot (RSpot.mk px py pz))))], []⟩
  refine pwp_seq <| kx [(2, (.ref 0 0)), (3, (.ref 1 0)), (4, (.ref 2 0)), (5, (.ref 3 0))] [(0, some (bx y2)), (1, some (bx (encSpot (RSpot.mk px py pz)))), (2, some (bx (encPlace (RPlace.mk y3 y3)))), (3, some (bx (encR y3)))] (zN (oBx 0) <| zN (oBx 1) <| zN (oAl 2 ze56 zo56) <| zN (oAl 3 ze42 zo42) <| zM <| zZ) ?_
  refine pwp_seq <| kx [(7, (.d (.cptr 1000001 (Dat.cells y1) 0))), (8, (vi 0))] [] (zR (oLa sh31) <| zE (oCl (q_rec lx ly lz la lb lc ld lf lu lv rx ry rz ra rb rc rd rf ru rv b0 b1 b2 e00 e01 e02 e10 e11 e12 e20 e21 e22 hF hqb0 hqb1 hqb2 hqe00 hqe01 hqe02 hqe10 hqe11 hqe12 hqe20 hqe21 hqe22 hl hr hup)) <| zM <| zE oEx <| zE oEx <| zM <| zM <| zZ) ?_
  refine pwp_seq <| pwp_seq <| kx [(23, (vb false))] [] (zM <| zE oNe <| zZ) ?_
  refine pwp_cond (b := false) (by kernel_rfl) (fun h => by cases h) (fun _ => ?_)
  refine pwp_skip <| pwp_seq <| pwp_seq <| kx [(33, (vl 3 1 enc_i64 [px, py, pz])), (34, (vin 3)), (35, (vin 0))] [] (zE (oFr fo23_0) <| zR (oL1 sh3) <| zE (oFr fo23_1) <| zR (oL1 sh3) <| zE (oFr fo23_2) <| zR (oL1 sh3) <| zE (oBs el74 ze3 zo3) <| zE (oLn el74 3) <| zM <| zZ) ?_
  refine pwp_block <| pwp_rounds 20 ?_
  refine pwp_round <| pwp_seq <| kx [(36, (vb true))] [] (zE (oBk true oLt) <| zZ) ?_
  refine pwp_seq <| pwp_cond (b := true) (by kernel_rfl) (fun _ => ?_) (fun h => by cases h)
  refine pwp_skip <| pwp_seq <| pwp_block <| pwp_seq <| kx [(10, (vi px))] [] (zE (oXs el74 0) <| zE (oC1 sh3) <| zM <| zZ) ?_
  refine pwp_seq <| kx [(44, (vb false))] [] (zM <| zE (oBk false oLt (by exact decide_eq_false (by omega))) <| zM <| zM <| zE (oBk false oGt (by exact decide_eq_false (by omega))) <| zE oPf <| zZ) ?_
  refine pwp_cond (b := false) (by kernel_rfl) (fun h => by cases h) (fun _ => ?_)
  refine pwp_skip <| kx [(35, (vin 1))] [] (zE (oAd 1 (hr := by decide)) <| zM <| zZ) ?_
  refine pwp_again (SimImp.refl _) ?_
  refine pwp_seq <| kx [(36, (vb true))] [] (zE (oBk true oLt) <| zZ) ?_
  refine pwp_seq <| pwp_cond (b := true) (by kernel_rfl) (fun _ => ?_) (fun h => by cases h)
  refine pwp_skip <| pwp_seq <| pwp_block <| pwp_seq <| kx [(10, (vi py))] [] (zE (oXs el74 1) <| zE (oC1 sh3) <| zM <| zZ) ?_
  refine pwp_seq <| kx [(44, (vb false))] [] (zM <| zE (oBk false oLt (by exact decide_eq_false (by omega))) <| zM <| zM <| zE (oBk false oGt (by exact decide_eq_false (by omega))) <| zE oPf <| zZ) ?_
  refine pwp_cond (b := false) (by kernel_rfl) (fun h => by cases h) (fun _ => ?_)
  refine pwp_skip <| kx [(35, (vin 2))] [] (zE (oAd 2 (hr := by decide)) <| zM <| zZ) ?_
  refine pwp_again (SimImp.refl _) ?_
  refine pwp_seq <| kx [(36, (vb true))] [] (zE (oBk true oLt) <| zZ) ?_
  refine pwp_seq <| pwp_cond (b := true) (by kernel_rfl) (fun _ => ?_) (fun h => by cases h)
  refine pwp_skip <| pwp_seq <| pwp_block <| pwp_seq <| kx [(10, (vi pz))] [] (zE (oXs el74 2) <| zE (oC1 sh3) <| zM <| zZ) ?_
  refine pwp_seq <| pwp_sim (wk (l := [(3, (.ref 1 0)), (4, (.ref 2 0)), (5, (.ref 3 0)), (7, (.d (.cptr 1000001 (Dat.cells y1) 0))), (10, (vi pz)), (33, (vl 3 1 enc_i64 [px, py, pz])), (34, (vin 3)), (35, (vin 2))]) (b := [(1, some (bx (encSpot (RSpot.mk px py pz)))), (2, some (bx (encPlace (RPlace.mk y3 y3)))), (3, some (bx (encR y3)))])) ?_
  refine kx [(44, (vb false))] [] (zM <| zE (oBk false oLt (by exact decide_eq_false (by omega))) <| zM <| zM <| zE (oBk false oGt (by exact decide_eq_false (by omega))) <| zE oPf <| zZ) ?_
  refine pwp_cond (b := false) (by kernel_rfl) (fun h => by cases h) (fun _ => ?_)
  refine pwp_skip <| kx [(35, (vin 3))] [] (zE (oAd 3 (hr := by decide)) <| zM <| zZ) ?_
  refine pwp_again (SimImp.refl _) ?_
  refine pwp_seq <| kx [(36, (vb false))] [] (zE (oBk false oLt) <| zZ) ?_
  refine pwp_seq <| pwp_cond (b := false) (by kernel_rfl) (fun h => by cases h) (fun _ => ?_)
  refine pwp_exit <| pwp_seq <| kx [(11, (.ref 4 0))] [(4, some (bx (encSpot (RSpot.mk lx ly lz))))] (zM <| zE oNd <| zE (oFc fo134_0) <| zE (oFc fo29_0) <| zE (oCa sh23) <| zN (oAl 4 ze23 zo23) <| zT (oSt sh23) <| zZ) ?_
  refine pwp_seq ?_
  have bn1 : QL r0 3 := (ql_eqz (Eq.symm hr0) (ql_int (z := (px - lx)) (n := 3) (lenZ_int (by omega) (by omega)) (by decide)))
  have bn2 : QL r1 3 := (ql_eqz (Eq.symm hr1) (ql_int (z := (py - ly)) (n := 3) (lenZ_int (by omega) (by omega)) (by decide)))
  have bn3 : QL r2 3 := (ql_eqz (Eq.symm hr2) (ql_int (z := (pz - lz)) (n := 3) (lenZ_int (by omega) (by omega)) (by decide)))
  have bn4 : QL ((dot3 e00 e01 e02 r0 r1 r2) / (dot3 e20 e21 e22 r0 r1 r2)) 4804 := (ql_div (k := 4804) (ql_dot3 (n := 400) (k := 2402) hqe00 hqe01 hqe02 (ql_up bn1 (by decide)) (ql_up bn2 (by decide)) (ql_up bn3 (by decide)) (by decide)) (ql_dot3 (n := 400) (k := 2402) hqe20 hqe21 hqe22 (ql_up bn1 (by decide)) (ql_up bn2 (by decide)) (ql_up bn3 (by decide)) (by decide)) (by decide))
  have bn5 : QL ((dot3 e10 e11 e12 r0 r1 r2) / (dot3 e20 e21 e22 r0 r1 r2)) 4804 := (ql_div (k := 4804) (ql_dot3 (n := 400) (k := 2402) hqe10 hqe11 hqe12 (ql_up bn1 (by decide)) (ql_up bn2 (by decide)) (ql_up bn3 (by decide)) (by decide)) (ql_dot3 (n := 400) (k := 2402) hqe20 hqe21 hqe22 (ql_up bn1 (by decide)) (ql_up bn2 (by decide)) (ql_up bn3 (by decide)) (by decide)) (by decide))
  have bn6 : QL (dot3 e20 e21 e22 r0 r1 r2) 2402 := (ql_dot3 (n := 400) (k := 2402) hqe20 hqe21 hqe22 (ql_up bn1 (by decide)) (ql_up bn2 (by decide)) (ql_up bn3 (by decide)) (by decide))
  refine kx [(12, (.ref 5 0)), (13, (.ref 6 0)), (14, (vb true))] [(5, some (bx (encPlace (RPlace.mk (ofQ ((dot3 e00 e01 e02 r0 r1 r2) / (dot3 e20 e21 e22 r0 r1 r2))) (ofQ ((dot3 e10 e11 e12 r0 r1 r2) / (dot3 e20 e21 e22 r0 r1 r2))))))), (6, some (bx (encR (ofQ (dot3 e20 e21 e22 r0 r1 r2)))))] (zM <| zE (oFr fo23_0) <| zR (oL1 sh3) <| zE (oFr fo23_0) <| zR (oL1 sh3) <| zE (zSb (px - lx) (hr := by exact (wAny rfl (by simp only [kLo]; omega) (by simp only [kHi]; omega)))) <| zE (oFr fo23_1) <| zR (oL1 sh3) <| zE (oFr fo23_1) <| zR (oL1 sh3) <| zE (zSb (py - ly) (hr := by exact (wAny rfl (by simp only [kLo]; omega) (by simp only [kHi]; omega)))) <| zE (oFr fo23_2) <| zR (oL1 sh3) <| zE (oFr fo23_2) <| zR (oL1 sh3) <| zE (zSb (pz - lz) (hr := by exact (wAny rfl (by simp only [kLo]; omega) (by simp only [kHi]; omega)))) <| zE (oCl (by have h := q_whole (px - lx) (by omega) (by omega) (py - ly) (by omega) (by omega) (pz - lz) (by omega) (by omega); rw [hr0, hr1, hr2] at h; exact h)) <| zE (oCl (q_coo lx ly lz la lb lc ld lf lu lv rx ry rz ra rb rc rd rf ru rv b0 b1 b2 e00 e01 e02 e10 e11 e12 e20 e21 e22 hqb0 hqb1 hqb2 hqe00 hqe01 hqe02 hqe10 hqe11 hqe12 hqe20 hqe21 hqe22 r0 r1 r2 (ql_up bn1 (by decide)) (ql_up bn2 (by decide)) (ql_up bn3 (by decide)) hd)) <| zM <| zE oEx <| zE oEx <| zE oEx <| zN (oAl 5 ze56 zo56) <| zN (oAl 6 ze42 zo42) <| zT (oSt sh56) <| zT (oSt sh42) <| zM <| zZ) ?_
  refine pwp_seq <| pwp_seq <| kx [(76, (vb false))] [] (zM <| zE oNt <| zZ) ?_
  refine pwp_cond (b := false) (by kernel_rfl) (fun h => by cases h) (fun _ => ?_)
  refine pwp_skip <| pwp_seq ?_
  have bn7 : QL (dot3 e00 e01 e02 b0 b1 b2) 2402 := (ql_dot3 (n := 400) (k := 2402) hqe00 hqe01 hqe02 (ql_up hqb0 (by decide)) (ql_up hqb1 (by decide)) (ql_up hqb2 (by decide)) (by decide))
  refine kd [(15, (.ref 7 0))] [(7, some (bx (encR (ofQ ((dot3 e00 e01 e02 b0 b1 b2) / (dot3 e20 e21 e22 r0 r1 r2))))))] mo (wM <| wE oNd <| wE (oFc fo134_3) <| wE (oXc ar131 0) <| wE (oCa sh129) <| wM <| wE oNd <| wE (oFc fo134_2) <| wE (oCa sh129) <| wE (oCl (q_dot e00 e01 e02 (ql_up hqe00 (by decide)) (ql_up hqe01 (by decide)) (ql_up hqe02 (by decide)) b0 b1 b2 (ql_up hqb0 (by decide)) (ql_up hqb1 (by decide)) (ql_up hqb2 (by decide)))) <| wR (oLa sh42) <| wE (oCl (by have h := f_divide (ofQ (dot3 e00 e01 e02 b0 b1 b2)) (ofQ (dot3 e20 e21 e22 r0 r1 r2)) (dot3 e00 e01 e02 b0 b1 b2) (dot3 e20 e21 e22 r0 r1 r2) (qok_up (qok_of bn7) (by decide)) (qok_up (qok_of bn6) (by decide)); rw [divR_ne (sgn_ne hd), divC_ne (sgn_ne hd)] at h; exact h)) <| wM <| wE oEx <| wE oEx <| wN (oAl 7 ze42 zo42) <| wT (oSt sh42) <| wM <| wZ) ?_
  refine pwp_seq <| kd [(6, (vin 0))] [(2, some (bx (encPlace (RPlace.mk (ofQ ((dot3 e00 e01 e02 r0 r1 r2) / (dot3 e20 e21 e22 r0 r1 r2))) (ofQ ((dot3 e10 e11 e12 r0 r1 r2) / (dot3 e20 e21 e22 r0 r1 r2))))))), (3, some (bx (encR (ofQ ((dot3 e00 e01 e02 b0 b1 b2) / (dot3 e20 e21 e22 r0 r1 r2))))))] mo (wR (oLa sh56) <| wR (oLa sh42) <| wT (oSt sh56) <| wT (oSt sh42) <| wM <| wZ) ?_
  refine pwp_ret ⟨_, (res_a (cs := (bx (encPlace (RPlace.mk (ofQ ((dot3 e00 e01 e02 r0 r1 r2) / (dot3 e20 e21 e22 r0 r1 r2))) (ofQ ((dot3 e10 e11 e12 r0 r1 r2) / (dot3 e20 e21 e22 r0 r1 r2))))))) (d := (encPlace (RPlace.mk (ofQ ((dot3 e00 e01 e02 r0 r1 r2) / (dot3 e20 e21 e22 r0 r1 r2))) (ofQ ((dot3 e10 e11 e12 r0 r1 r2) / (dot3 e20 e21 e22 r0 r1 r2)))))) rfl rfl sh56 rfl rfl (res_a (cs := (bx (encR (ofQ ((dot3 e00 e01 e02 b0 b1 b2) / (dot3 e20 e21 e22 r0 r1 r2)))))) (d := (encR (ofQ ((dot3 e00 e01 e02 b0 b1 b2) / (dot3 e20 e21 e22 r0 r1 r2))))) rfl rfl sh42 rfl rfl (.tmp (d := (.val (.int .i64 (((0 : Nat) : Int))))) rfl .nil))), ?_⟩
  rfl
theorem q_pt (lx ly lz la lb lc ld lf lu lv rx ry rz ra rb rc rd rf ru rv : Int) (x y : Rat) (hx : QL x 5000) (hy : QL y 5000) (dl : Rat) (hdl : QL dl 10000) (b0 b1 b2 e00 e01 e02 e10 e11 e12 e20 e21 e22 : Rat) (hF : RFr lx ly lz la lb lc ld rx ry rz ra rb rc rd b0 b1 b2 e00 e01 e02 e10 e11 e12 e20 e21 e22) (hqb0 : QL b0 3) (hqb1 : QL b1 3) (hqb2 : QL b2 3) (hqe00 : QL e00 400) (hqe01 : QL e01 400) (hqe02 : QL e02 400) (hqe10 : QL e10 400) (hqe11 : QL e11 400) (hqe12 : QL e12 400) (hqe20 : QL e20 400) (hqe21 : QL e21 400) (hqe22 : QL e22 400) (d0 : Rat) (hd0 : (((e00 * (x / (dot3 e00 e01 e02 e00 e01 e02))) + (e10 * (y / (dot3 e10 e11 e12 e10 e11 e12)))) + (e20 * (((1 : Int) : Rat) / (dot3 e20 e21 e22 e20 e21 e22)))) = d0) (d1 : Rat) (hd1 : (((e01 * (x / (dot3 e00 e01 e02 e00 e01 e02))) + (e11 * (y / (dot3 e10 e11 e12 e10 e11 e12)))) + (e21 * (((1 : Int) : Rat) / (dot3 e20 e21 e22 e20 e21 e22)))) = d1) (d2 : Rat) (hd2 : (((e02 * (x / (dot3 e00 e01 e02 e00 e01 e02))) + (e12 * (y / (dot3 e10 e11 e12 e10 e11 e12)))) + (e22 * (((1 : Int) : Rat) / (dot3 e20 e21 e22 e20 e21 e22)))) = d2) (hl : stnC lx ly lz lu lv lf la lb lc ld = 0) (hr : stnC rx ry rz ru rv rf ra rb rc rd = 0) (hup : upV la lb lc ld ra rb rc rd b0 b1 b2 = false) (hs : ¬ (signQ dl) ≤ 0) : Takes Tryz.prog 37 [(encStereo (RStereo.mk (RStn.mk (RSpot.mk lx ly lz) (RQuat.mk la lb lc ld) lf (RPix.mk lu lv)) (RStn.mk (RSpot.mk rx ry rz) (RQuat.mk ra rb rc rd) rf (RPix.mk ru rv)))), (encPlace (RPlace.mk (ofQ x) (ofQ y))), (encR (ofQ dl))] (.tup [(encA43 (A3.mk (ofQ (((lx : Int) : Rat) + (d0 * ((dot3 e00 e01 e02 b0 b1 b2) / dl)))) (ofQ (((ly : Int) : Rat) + (d1 * ((dot3 e00 e01 e02 b0 b1 b2) / dl)))) (ofQ (((lz : Int) : Rat) + (d2 * ((dot3 e00 e01 e02 b0 b1 b2) / dl)))))), (.val (.int .i64 (0)))]) := by
  have hbl := stnC_ok hl
  have hbr := stnC_ok hr
  obtain ⟨hlx, hly, hlz, hlu, hlv, hlf, hlq⟩ := hbl
  obtain ⟨hrx, hry, hrz, hru, hrv, hrf, hrq⟩ := hbr
  obtain ⟨hla, hlb, hlc, hld, -⟩ := rotC_ok hlq
  obtain ⟨hra, hrb, hrc, hrd, -⟩ := rotC_ok hrq
  have hnl := nq_b hla hlb hlc hld
  have hnr := nq_b hra hrb hrc hrd
  have hz0 := fr_z0 hF hup
  have hz1 := fr_z1 hF hup
  have hz2 := fr_z2 hF hup
  let y1 := (encStereo (RStereo.mk (RStn.mk (RSpot.mk lx ly lz) (RQuat.mk la lb lc ld) lf (RPix.mk lu lv)) (RStn.mk (RSpot.mk rx ry rz) (RQuat.mk ra rb rc rd) rf (RPix.mk ru rv))))
  refine fn_intro Tryz.func37 rfl cb37 rfl ?_
  show PWp _ _ _ _ ⟨[(0, (.d y1)), (1, (.d (encPlace (RPlace.mk (ofQ x) (ofQ y))))), (2, (.d (encR (ofQ dl))))], []⟩
  refine pwp_seq <| kx [(3, (.ref 0 0)), (4, (.ref 1 0)), (5, (.ref 2 0)), (6, (.ref 3 0))] [(0, some (bx y1)), (1, some (bx (encPlace (RPlace.mk (ofQ x) (ofQ y))))), (2, some (bx (encR (ofQ dl)))), (3, some (bx (encA43 (A3.mk (RRat.mk (RInt.mk false []) (RInt.mk false [])) (RRat.mk (RInt.mk false []) (RInt.mk false [])) (RRat.mk (RInt.mk false []) (RInt.mk false []))))))] (zN (oBx 0) <| zN (oBx 1) <| zN (oBx 2) <| zN (oAl 3 ze43 zo43) <| zM <| zZ) ?_
  refine pwp_seq <| kx [(8, (.d (.cptr 1000001 (Dat.cells (encRp (RRp.mk (RStn.mk (RSpot.mk lx ly lz) (RQuat.mk la lb lc ld) lf (RPix.mk lu lv)) (RStn.mk (RSpot.mk rx ry rz) (RQuat.mk ra rb rc rd) rf (RPix.mk ru rv)) (A3.mk (ofQ b0) (ofQ b1) (ofQ b2)) (A3.mk (A3.mk (ofQ e00) (ofQ e01) (ofQ e02)) (A3.mk (ofQ e10) (ofQ e11) (ofQ e12)) (A3.mk (ofQ e20) (ofQ e21) (ofQ e22)))))) 0))), (9, (vi 0))] [] (zR (oLa sh31) <| zE (oCl (q_rec lx ly lz la lb lc ld lf lu lv rx ry rz ra rb rc rd rf ru rv b0 b1 b2 e00 e01 e02 e10 e11 e12 e20 e21 e22 hF hqb0 hqb1 hqb2 hqe00 hqe01 hqe02 hqe10 hqe11 hqe12 hqe20 hqe21 hqe22 hl hr hup)) <| zM <| zE oEx <| zE oEx <| zM <| zM <| zZ) ?_
  refine pwp_seq <| pwp_seq <| kx [(19, (vb false))] [] (zM <| zE oNe <| zZ) ?_
  refine pwp_cond (b := false) (by kernel_rfl) (fun h => by cases h) (fun _ => ?_)
  refine pwp_skip <| pwp_seq <| pwp_seq <| kx [(29, (vb false))] [] (zR (oLa sh56) <| zE (oCl (q_canT x y (ql_up hx (by decide)) (ql_up hy (by decide)))) <| zE oNt <| zM <| zR (oLa sh42) <| zE (oBk true (oCl (f_valid (ofQ dl) dl (qok_up (qok_of hdl) (by decide)))) (by exact (validR_ofQ dl))) <| zE oNt <| zE oPf <| zZ) ?_
  refine pwp_cond (b := false) (by kernel_rfl) (fun h => by cases h) (fun _ => ?_)
  refine pwp_skip <| pwp_seq <| pwp_seq <| kx [(33, (vb false))] [] (zR (oLa sh42) <| zE (oCl (f_sign (ofQ dl) dl (qok_up (qok_of hdl) (by decide)))) <| zE (oBk false oLe (by exact decide_eq_false hs)) <| zZ) ?_
  refine pwp_cond (b := false) (by kernel_rfl) (fun h => by cases h) (fun _ => ?_)
  refine pwp_skip <| pwp_seq ?_
  have bn1 : QL (dot3 e00 e01 e02 b0 b1 b2) 2402 := (ql_dot3 (n := 400) (k := 2402) hqe00 hqe01 hqe02 (ql_up hqb0 (by decide)) (ql_up hqb1 (by decide)) (ql_up hqb2 (by decide)) (by decide))
  refine kd [(10, (.ref 4 0))] [(4, some (bx (encR (ofQ ((dot3 e00 e01 e02 b0 b1 b2) / dl)))))] mo (wM <| wE oNd <| wE (oFc fo134_3) <| wE (oXc ar131 0) <| wE (oCa sh129) <| wM <| wE oNd <| wE (oFc fo134_2) <| wE (oCa sh129) <| wE (oCl (q_dot e00 e01 e02 (ql_up hqe00 (by decide)) (ql_up hqe01 (by decide)) (ql_up hqe02 (by decide)) b0 b1 b2 (ql_up hqb0 (by decide)) (ql_up hqb1 (by decide)) (ql_up hqb2 (by decide)))) <| wR (oLa sh42) <| wE (oCl (by have h := f_divide (ofQ (dot3 e00 e01 e02 b0 b1 b2)) (ofQ dl) (dot3 e00 e01 e02 b0 b1 b2) dl (qok_up (qok_of bn1) (by decide)) (qok_up (qok_of hdl) (by decide)); rw [divR_ne (sgn_ne hs), divC_ne (sgn_ne hs)] at h; exact h)) <| wM <| wE oEx <| wE oEx <| wN (oAl 4 ze42 zo42) <| wT (oSt sh42) <| wM <| wZ) ?_
  refine pwp_seq <| kx [(12, (.ref 5 0))] [(5, some (bx (encSpot (RSpot.mk lx ly lz))))] (zM <| zE oNd <| zE (oFc fo134_0) <| zE (oFc fo29_0) <| zE (oCa sh23) <| zN (oAl 5 ze23 zo23) <| zT (oSt sh23) <| zZ) ?_
  refine pwp_seq ?_
  have bn2 : QL ((lx : Int) : Rat) 3 := (ql_int (z := lx) (n := 3) (lenZ_int (by omega) (by omega)) (by decide))
  have bn3 : QL ((ly : Int) : Rat) 3 := (ql_int (z := ly) (n := 3) (lenZ_int (by omega) (by omega)) (by decide))
  have bn4 : QL ((lz : Int) : Rat) 3 := (ql_int (z := lz) (n := 3) (lenZ_int (by omega) (by omega)) (by decide))
  have bn5 : QL d0 18411 := (ql_eqz (Eq.symm hd0) (ql_add (k := 18411) (ql_add (k := 15605) (ql_mul (k := 7802) hqe00 (ql_div (k := 7402) hx (ql_dot3 (n := 400) (k := 2402) hqe00 hqe01 hqe02 hqe00 hqe01 hqe02 (by decide)) (by decide)) (by decide)) (ql_mul (k := 7802) hqe10 (ql_div (k := 7402) hy (ql_dot3 (n := 400) (k := 2402) hqe10 hqe11 hqe12 hqe10 hqe11 hqe12 (by decide)) (by decide)) (by decide)) (by decide)) (ql_mul (k := 2805) hqe20 (ql_div (k := 2405) (ql_int (z := 1) (n := 3) (lenZ_int (by decide) (by decide)) (by decide)) (ql_dot3 (n := 400) (k := 2402) hqe20 hqe21 hqe22 hqe20 hqe21 hqe22 (by decide)) (by decide)) (by decide)) (by decide)))
  have bn6 : QL d1 18411 := (ql_eqz (Eq.symm hd1) (ql_add (k := 18411) (ql_add (k := 15605) (ql_mul (k := 7802) hqe01 (ql_div (k := 7402) hx (ql_dot3 (n := 400) (k := 2402) hqe00 hqe01 hqe02 hqe00 hqe01 hqe02 (by decide)) (by decide)) (by decide)) (ql_mul (k := 7802) hqe11 (ql_div (k := 7402) hy (ql_dot3 (n := 400) (k := 2402) hqe10 hqe11 hqe12 hqe10 hqe11 hqe12 (by decide)) (by decide)) (by decide)) (by decide)) (ql_mul (k := 2805) hqe21 (ql_div (k := 2405) (ql_int (z := 1) (n := 3) (lenZ_int (by decide) (by decide)) (by decide)) (ql_dot3 (n := 400) (k := 2402) hqe20 hqe21 hqe22 hqe20 hqe21 hqe22 (by decide)) (by decide)) (by decide)) (by decide)))
  have bn7 : QL d2 18411 := (ql_eqz (Eq.symm hd2) (ql_add (k := 18411) (ql_add (k := 15605) (ql_mul (k := 7802) hqe02 (ql_div (k := 7402) hx (ql_dot3 (n := 400) (k := 2402) hqe00 hqe01 hqe02 hqe00 hqe01 hqe02 (by decide)) (by decide)) (by decide)) (ql_mul (k := 7802) hqe12 (ql_div (k := 7402) hy (ql_dot3 (n := 400) (k := 2402) hqe10 hqe11 hqe12 hqe10 hqe11 hqe12 (by decide)) (by decide)) (by decide)) (by decide)) (ql_mul (k := 2805) hqe22 (ql_div (k := 2405) (ql_int (z := 1) (n := 3) (lenZ_int (by decide) (by decide)) (by decide)) (ql_dot3 (n := 400) (k := 2402) hqe20 hqe21 hqe22 hqe20 hqe21 hqe22 (by decide)) (by decide)) (by decide)) (by decide)))
  have bn8 : QL (d0 * ((dot3 e00 e01 e02 b0 b1 b2) / dl)) 30813 := (ql_mul (k := 30813) bn5 (ql_div (k := 12402) bn1 hdl (by decide)) (by decide))
  have bn9 : QL (d1 * ((dot3 e00 e01 e02 b0 b1 b2) / dl)) 30813 := (ql_mul (k := 30813) bn6 (ql_div (k := 12402) bn1 hdl (by decide)) (by decide))
  have bn10 : QL (d2 * ((dot3 e00 e01 e02 b0 b1 b2) / dl)) 30813 := (ql_mul (k := 30813) bn7 (ql_div (k := 12402) bn1 hdl (by decide)) (by decide))
  refine kd [(7, (vin 0))] [(3, some (bx (encA43 (A3.mk (ofQ (((lx : Int) : Rat) + (d0 * ((dot3 e00 e01 e02 b0 b1 b2) / dl)))) (ofQ (((ly : Int) : Rat) + (d1 * ((dot3 e00 e01 e02 b0 b1 b2) / dl)))) (ofQ (((lz : Int) : Rat) + (d2 * ((dot3 e00 e01 e02 b0 b1 b2) / dl))))))))] mo (wE (oFr fo23_0) <| wR (oL1 sh3) <| wE (oFr fo23_1) <| wR (oL1 sh3) <| wE (oFr fo23_2) <| wR (oL1 sh3) <| wE (oCl (q_whole lx (by omega) (by omega) ly (by omega) (by omega) lz (by omega) (by omega))) <| wM <| wR (oLa sh56) <| wE (oCl (by have h := q_dir lx ly lz la lb lc ld lf lu lv rx ry rz ra rb rc rd rf ru rv b0 b1 b2 e00 e01 e02 e10 e11 e12 e20 e21 e22 hqb0 hqb1 hqb2 hqe00 hqe01 hqe02 hqe10 hqe11 hqe12 hqe20 hqe21 hqe22 x y (ql_up hx (by decide)) (ql_up hy (by decide)) hz0 hz1 hz2; rw [hd0, hd1, hd2] at h; exact h)) <| wR (oLa sh42) <| wE (oCl (q_scaled d0 d1 d2 (ql_up bn5 (by decide)) (ql_up bn6 (by decide)) (ql_up bn7 (by decide)) ((dot3 e00 e01 e02 b0 b1 b2) / dl) (ql_up (ql_div (k := 12402) bn1 hdl (by decide)) (by decide)))) <| wE (oCl (q_sum ((lx : Int) : Rat) ((ly : Int) : Rat) ((lz : Int) : Rat) (ql_up bn2 (by decide)) (ql_up bn3 (by decide)) (ql_up bn4 (by decide)) (d0 * ((dot3 e00 e01 e02 b0 b1 b2) / dl)) (d1 * ((dot3 e00 e01 e02 b0 b1 b2) / dl)) (d2 * ((dot3 e00 e01 e02 b0 b1 b2) / dl)) (ql_up bn8 (by decide)) (ql_up bn9 (by decide)) (ql_up bn10 (by decide)))) <| wT (oSt sh43) <| wM <| wZ) ?_
  refine pwp_ret ⟨_, (res_a (cs := (bx (encA43 (A3.mk (ofQ (((lx : Int) : Rat) + (d0 * ((dot3 e00 e01 e02 b0 b1 b2) / dl)))) (ofQ (((ly : Int) : Rat) + (d1 * ((dot3 e00 e01 e02 b0 b1 b2) / dl)))) (ofQ (((lz : Int) : Rat) + (d2 * ((dot3 e00 e01 e02 b0 b1 b2) / dl)))))))) (d := (encA43 (A3.mk (ofQ (((lx : Int) : Rat) + (d0 * ((dot3 e00 e01 e02 b0 b1 b2) / dl)))) (ofQ (((ly : Int) : Rat) + (d1 * ((dot3 e00 e01 e02 b0 b1 b2) / dl)))) (ofQ (((lz : Int) : Rat) + (d2 * ((dot3 e00 e01 e02 b0 b1 b2) / dl))))))) rfl rfl sh43 rfl rfl (.tmp (d := (.val (.int .i64 (((0 : Nat) : Int))))) rfl .nil)), ?_⟩
  rfl
end Go.Proofs.YtbecgnplakngdaaGreat
namespace Go.Proofs.YtbecgnplakngdaaGreat
open Go.Fid
set_option maxRecDepth 4000
set_option linter.unusedVariables false
set_option linter.unusedSimpArgs false
theorem pl23 : placesB Tryz.prog 23 = some [(0, 1), (1, 1), (2, 1)] := by kernel_rfl
theorem pl29 : placesB Tryz.prog 29 = some [(0, 3), (3, 4), (7, 1), (8, 2)] := by kernel_rfl
theorem pl31 : placesB Tryz.prog 31 = some [(0, 10), (10, 10)] := by kernel_rfl
theorem ze31 : zeroB Tryz.prog 31 = some [.int .i64 0, .int .i64 0, .int .i64 0, .int .i64 0, .int .i64 0, .int .i64 0, .int .i64 0, .int .i64 0, .int .i64 0, .int .i64 0, .int .i64 0, .int .i64 0, .int .i64 0, .int .i64 0, .int .i64 0, .int .i64 0, .int .i64 0, .int .i64 0, .int .i64 0, .int .i64 0] := by kernel_rfl
theorem zo31 : ZOk [.int .i64 0, .int .i64 0, .int .i64 0, .int .i64 0, .int .i64 0, .int .i64 0, .int .i64 0, .int .i64 0, .int .i64 0, .int .i64 0, .int .i64 0, .int .i64 0, .int .i64 0, .int .i64 0, .int .i64 0, .int .i64 0, .int .i64 0, .int .i64 0, .int .i64 0, .int .i64 0] [.val (.int .i64 0), .val (.int .i64 0), .val (.int .i64 0), .val (.int .i64 0), .val (.int .i64 0), .val (.int .i64 0), .val (.int .i64 0), .val (.int .i64 0), .val (.int .i64 0), .val (.int .i64 0), .val (.int .i64 0), .val (.int .i64 0), .val (.int .i64 0), .val (.int .i64 0), .val (.int .i64 0), .val (.int .i64 0), .val (.int .i64 0), .val (.int .i64 0), .val (.int .i64 0), .val (.int .i64 0)] := by simp [ZOk, Value.oneCell']
end Go.Proofs.YtbecgnplakngdaaGreat
namespace Go.Proofs.YtbecgnplakngdaaGreat
open Go.Fid
set_option maxRecDepth 4000
set_option linter.unusedVariables false
set_option linter.unusedSimpArgs false
theorem cb39 : callB Tryz.prog 39 = true := by kernel_rfl
theorem g_sameL3 (taa : Nat) (a0 a1 a2 : Rat) (ha0 : QL a0 1000000) (ha1 : QL a1 1000000) (ha2 : QL a2 1000000) (tbb : Nat) (b0 b1 b2 : Rat) (hb0 : QL b0 1000000) (hb1 : QL b1 1000000) (hb2 : QL b2 1000000) (hab0 : a0 = b0) (hab1 : a1 = b1) (hab2 : a2 = b2) : Takes Tryz.prog 39 [(.sl taa 4 (List.map encR [(ofQ a0), (ofQ a1), (ofQ a2)])), (.sl tbb 4 (List.map encR [(ofQ b0), (ofQ b1), (ofQ b2)]))] (.val (.bool (true))) := by
  refine fn_intro Tryz.func39 rfl cb39 rfl ?_
  show PWp _ _ _ _ ⟨[(0, (vl taa 4 encR [(ofQ a0), (ofQ a1), (ofQ a2)])), (1, (vl tbb 4 encR [(ofQ b0), (ofQ b1), (ofQ b2)]))], []⟩
  refine pwp_seq <| kx [] [] (zM <| zZ) ?_
  refine pwp_seq <| pwp_seq <| kx [(10, (vb false))] [] (zM <| zE (oLn el52 3) <| zM <| zE (oLn el52 3) <| zE oNe <| zZ) ?_
  refine pwp_cond (b := false) (by kernel_rfl) (fun h => by cases h) (fun _ => ?_)
  refine pwp_skip <| pwp_seq <| pwp_seq <| kx [(5, (vin 0))] [] (zM <| zZ) ?_
  refine pwp_block <| pwp_rounds 20 ?_
  refine pwp_round <| pwp_seq <| pwp_seq <| kx [(14, (vb true))] [] (zM <| zM <| zE (oLn el52 3) <| zE (oBk true oLt) <| zZ) ?_
  refine pwp_cond (b := true) (by kernel_rfl) (fun _ => ?_) (fun h => by cases h)
  refine pwp_skip <| pwp_seq <| pwp_block <| pwp_seq <| kd [(26, (vb false))] [] mo (wM <| wM <| wE (oXs el52 0) <| wE (oCa sh42) <| wM <| wM <| wE (oXs el52 0) <| wE (oCa sh42) <| wE (oBk true (oCl (by have h := g_same (ofQ a0) (ofQ b0) a0 b0 (qok_up (qok_of ha0) (by decide)) (qok_up (qok_of hb0) (by decide)); rw [sameR_of] at h; exact h)) (by exact decide_eq_true hab0)) <| wE oNt <| wZ) ?_
  refine pwp_cond (b := false) (by kernel_rfl) (fun h => by cases h) (fun _ => ?_)
  refine pwp_skip <| kx [(5, (vin 1))] [] (zM <| zE (oAd 1 (hr := by decide)) <| zM <| zZ) ?_
  refine pwp_again (SimImp.refl _) ?_
  refine pwp_seq <| pwp_seq <| kx [(14, (vb true))] [] (zM <| zM <| zE (oLn el52 3) <| zE (oBk true oLt) <| zZ) ?_
  refine pwp_cond (b := true) (by kernel_rfl) (fun _ => ?_) (fun h => by cases h)
  refine pwp_skip <| pwp_seq <| pwp_block <| pwp_seq <| kd [(26, (vb false))] [] mo (wM <| wM <| wE (oXs el52 1) <| wE (oCa sh42) <| wM <| wM <| wE (oXs el52 1) <| wE (oCa sh42) <| wE (oBk true (oCl (by have h := g_same (ofQ a1) (ofQ b1) a1 b1 (qok_up (qok_of ha1) (by decide)) (qok_up (qok_of hb1) (by decide)); rw [sameR_of] at h; exact h)) (by exact decide_eq_true hab1)) <| wE oNt <| wZ) ?_
  refine pwp_cond (b := false) (by kernel_rfl) (fun h => by cases h) (fun _ => ?_)
  refine pwp_skip <| kx [(5, (vin 2))] [] (zM <| zE (oAd 2 (hr := by decide)) <| zM <| zZ) ?_
  refine pwp_again (SimImp.refl _) ?_
  refine pwp_seq <| pwp_seq <| kx [(14, (vb true))] [] (zM <| zM <| zE (oLn el52 3) <| zE (oBk true oLt) <| zZ) ?_
  refine pwp_cond (b := true) (by kernel_rfl) (fun _ => ?_) (fun h => by cases h)
  refine pwp_skip <| pwp_seq <| pwp_block <| pwp_seq <| kd [(26, (vb false))] [] mo (wM <| wM <| wE (oXs el52 2) <| wE (oCa sh42) <| wM <| wM <| wE (oXs el52 2) <| wE (oCa sh42) <| wE (oBk true (oCl (by have h := g_same (ofQ a2) (ofQ b2) a2 b2 (qok_up (qok_of ha2) (by decide)) (qok_up (qok_of hb2) (by decide)); rw [sameR_of] at h; exact h)) (by exact decide_eq_true hab2)) <| wE oNt <| wZ) ?_
  refine pwp_cond (b := false) (by kernel_rfl) (fun h => by cases h) (fun _ => ?_)
  refine pwp_skip <| kx [(5, (vin 3))] [] (zM <| zE (oAd 3 (hr := by decide)) <| zM <| zZ) ?_
  refine pwp_again (SimImp.refl _) ?_
  refine pwp_seq <| pwp_seq <| kx [(14, (vb false))] [] (zM <| zM <| zE (oLn el52 3) <| zE (oBk false oLt) <| zZ) ?_
  refine pwp_cond (b := false) (by kernel_rfl) (fun h => by cases h) (fun _ => ?_)
  refine pwp_exit <| pwp_seq <| kx [(4, (vb true))] [] (zM <| zZ) ?_
  refine pwp_ret ⟨_, (.tmp (d := (.val (.bool (true)))) rfl .nil), ?_⟩
  rfl
end Go.Proofs.YtbecgnplakngdaaGreat
set_option linter.unusedVariables false
set_option linter.unusedSimpArgs false
namespace Go.Fid
variable {P : Program} {o : Oper} {S : Nat → SV}
theorem oM3 {T T' T2 : TypeId} {x y z : Operand} {k : IntKind} {m n q : Int} (r : Int) (ho : o.op = .call { callee := .builtin .max, args := #[x, y, z], argTypes := #[T, T', T2] } := by exact rfl) (hx : ev S x = .d (.val (.int k m)) := by exact rfl) (hy : ev S y = .d (.val (.int k n)) := by exact rfl) (hz : ev S z = .d (.val (.int k q)) := by exact rfl)
    (hr : max (max m n) q = r := by omega) : EOk P o S [] (.d (.val (.int k r))) :=
  EOk.same fun a w D β hop _ => by
    have h1 := hop x (by simp [ho, Op.operands, Call.operands])
    have h2 := hop y (by simp [ho, Op.operands, Call.operands])
    have h3 := hop z (by simp [ho, Op.operands, Call.operands])
    rw [hx] at h1
    rw [hy] at h2
    rw [hz] at h3
    have e1 := rep_val h1
    have e2 := rep_val h2
    have e3 := rep_val h3
    have hr' : (if (if m < n then n else m) < q then q else (if m < n then n else m)) = r := by omega
    exact ⟨.int k (if (if m < n then n else m) < q then q else (if m < n then n else m)), by simp [execOp, ho, resolve, invoke, builtin, e1, e2, e3, Builtin.max_, Builtin.max2], by rw [hr']; exact .val _⟩
end Go.Fid
set_option linter.unusedVariables false
set_option linter.unusedSimpArgs false
namespace Go.Fid
section
variable {lx ly lz la lb lc ld rx ry rz ra rb rc rd : Int} {b0 b1 b2 e00 e01 e02 e10 e11 e12 e20 e21 e22 : Rat}
end
theorem expandP {a0 a1 a2 b0 b1 b2 : Rat} (h : dot3 a0 a1 a2 b0 b1 b2 = 0) (w0 w1 w2 : Rat) :
    dot3 a0 a1 a2 a0 a1 a2 * dot3 b0 b1 b2 b0 b1 b2 * w0 = dot3 b0 b1 b2 b0 b1 b2 * (a0 * dot3 a0 a1 a2 w0 w1 w2) + dot3 a0 a1 a2 a0 a1 a2 * (b0 * dot3 b0 b1 b2 w0 w1 w2) + (a1 * b2 - a2 * b1) * dot3 (a1 * b2 - a2 * b1) (a2 * b0 - a0 * b2) (a0 * b1 - a1 * b0) w0 w1 w2 := by
  unfold dot3 at *
  grind
theorem expandP1 {a0 a1 a2 b0 b1 b2 : Rat} (h : dot3 a0 a1 a2 b0 b1 b2 = 0) (w0 w1 w2 : Rat) :
    dot3 a0 a1 a2 a0 a1 a2 * dot3 b0 b1 b2 b0 b1 b2 * w1 = dot3 b0 b1 b2 b0 b1 b2 * (a1 * dot3 a0 a1 a2 w0 w1 w2) + dot3 a0 a1 a2 a0 a1 a2 * (b1 * dot3 b0 b1 b2 w0 w1 w2) + (a2 * b0 - a0 * b2) * dot3 (a1 * b2 - a2 * b1) (a2 * b0 - a0 * b2) (a0 * b1 - a1 * b0) w0 w1 w2 := by
  unfold dot3 at *
  grind
theorem expandP2 {a0 a1 a2 b0 b1 b2 : Rat} (h : dot3 a0 a1 a2 b0 b1 b2 = 0) (w0 w1 w2 : Rat) :
    dot3 a0 a1 a2 a0 a1 a2 * dot3 b0 b1 b2 b0 b1 b2 * w2 = dot3 b0 b1 b2 b0 b1 b2 * (a2 * dot3 a0 a1 a2 w0 w1 w2) + dot3 a0 a1 a2 a0 a1 a2 * (b2 * dot3 b0 b1 b2 w0 w1 w2) + (a0 * b1 - a1 * b0) * dot3 (a1 * b2 - a2 * b1) (a2 * b0 - a0 * b2) (a0 * b1 - a1 * b0) w0 w1 w2 := by
  unfold dot3 at *
  grind
theorem div3 {A B C L a b c X Y w : Rat} (hA : A ≠ 0) (hB : B ≠ 0) (hC : C ≠ 0) (hL : L ≠ 0) (h : A * B * C * w = B * C * (a * X) + A * C * (b * Y) + A * B * (c * L)) : a * (X / L / A) + b * (Y / L / B) + c * (((1 : Int) : Rat) / C) = w / L := by
  rw [Rat.intCast_one]
  grind
theorem dot3_pos {a b c : Rat} (h : zeroV a b c = false) : 0 < dot3 a b c a b c := by
  have h1 := dot3_ne h
  have ha := rsq_nn a; have hb := rsq_nn b; have hc := rsq_nn c
  unfold dot3 at *
  grind
section
variable {lx ly lz la lb lc ld rx ry rz ra rb rc rd : Int} {b0 b1 b2 e00 e01 e02 e10 e11 e12 e20 e21 e22 : Rat}
theorem dir_w0 (hF : RFr lx ly lz la lb lc ld rx ry rz ra rb rc rd b0 b1 b2 e00 e01 e02 e10 e11 e12 e20 e21 e22) (hup : upV la lb lc ld ra rb rc rd b0 b1 b2 = false) {w0 w1 w2 : Rat} (hL : (dot3 e20 e21 e22 w0 w1 w2) ≠ 0) : e00 * ((dot3 e00 e01 e02 w0 w1 w2) / (dot3 e20 e21 e22 w0 w1 w2) / (dot3 e00 e01 e02 e00 e01 e02)) + e10 * ((dot3 e10 e11 e12 w0 w1 w2) / (dot3 e20 e21 e22 w0 w1 w2) / (dot3 e10 e11 e12 e10 e11 e12)) + e20 * (((1 : Int) : Rat) / (dot3 e20 e21 e22 e20 e21 e22)) = w0 / (dot3 e20 e21 e22 w0 w1 w2) := by
  refine div3 (dot3_ne (fr_z0 hF hup)) (dot3_ne (fr_z1 hF hup)) (dot3_ne (fr_z2 hF hup)) hL ?_
  have h1 := expandP (fr_01 hF) w0 w1 w2
  have h2 := lagr e00 e01 e02 e10 e11 e12
  rw [fr_01 hF] at h2
  obtain ⟨-, -, -, -, -, -, -, -, -, he0, he1, he2⟩ := hF
  generalize redK ((e01 * e12) - (e02 * e11)) ((e02 * e10) - (e00 * e12)) ((e00 * e11) - (e01 * e10)) = k at he0 he1 he2
  subst he0; subst he1; subst he2
  unfold dot3 at *
  grind
theorem dir_w1 (hF : RFr lx ly lz la lb lc ld rx ry rz ra rb rc rd b0 b1 b2 e00 e01 e02 e10 e11 e12 e20 e21 e22) (hup : upV la lb lc ld ra rb rc rd b0 b1 b2 = false) {w0 w1 w2 : Rat} (hL : (dot3 e20 e21 e22 w0 w1 w2) ≠ 0) : e01 * ((dot3 e00 e01 e02 w0 w1 w2) / (dot3 e20 e21 e22 w0 w1 w2) / (dot3 e00 e01 e02 e00 e01 e02)) + e11 * ((dot3 e10 e11 e12 w0 w1 w2) / (dot3 e20 e21 e22 w0 w1 w2) / (dot3 e10 e11 e12 e10 e11 e12)) + e21 * (((1 : Int) : Rat) / (dot3 e20 e21 e22 e20 e21 e22)) = w1 / (dot3 e20 e21 e22 w0 w1 w2) := by
  refine div3 (dot3_ne (fr_z0 hF hup)) (dot3_ne (fr_z1 hF hup)) (dot3_ne (fr_z2 hF hup)) hL ?_
  have h1 := expandP1 (fr_01 hF) w0 w1 w2
  have h2 := lagr e00 e01 e02 e10 e11 e12
  rw [fr_01 hF] at h2
  obtain ⟨-, -, -, -, -, -, -, -, -, he0, he1, he2⟩ := hF
  generalize redK ((e01 * e12) - (e02 * e11)) ((e02 * e10) - (e00 * e12)) ((e00 * e11) - (e01 * e10)) = k at he0 he1 he2
  subst he0; subst he1; subst he2
  unfold dot3 at *
  grind
theorem dir_w2 (hF : RFr lx ly lz la lb lc ld rx ry rz ra rb rc rd b0 b1 b2 e00 e01 e02 e10 e11 e12 e20 e21 e22) (hup : upV la lb lc ld ra rb rc rd b0 b1 b2 = false) {w0 w1 w2 : Rat} (hL : (dot3 e20 e21 e22 w0 w1 w2) ≠ 0) : e02 * ((dot3 e00 e01 e02 w0 w1 w2) / (dot3 e20 e21 e22 w0 w1 w2) / (dot3 e00 e01 e02 e00 e01 e02)) + e12 * ((dot3 e10 e11 e12 w0 w1 w2) / (dot3 e20 e21 e22 w0 w1 w2) / (dot3 e10 e11 e12 e10 e11 e12)) + e22 * (((1 : Int) : Rat) / (dot3 e20 e21 e22 e20 e21 e22)) = w2 / (dot3 e20 e21 e22 w0 w1 w2) := by
  refine div3 (dot3_ne (fr_z0 hF hup)) (dot3_ne (fr_z1 hF hup)) (dot3_ne (fr_z2 hF hup)) hL ?_
  have h1 := expandP2 (fr_01 hF) w0 w1 w2
  have h2 := lagr e00 e01 e02 e10 e11 e12
  rw [fr_01 hF] at h2
  obtain ⟨-, -, -, -, -, -, -, -, -, he0, he1, he2⟩ := hF
  generalize redK ((e01 * e12) - (e02 * e11)) ((e02 * e10) - (e00 * e12)) ((e00 * e11) - (e01 * e10)) = k at he0 he1 he2
  subst he0; subst he1; subst he2
  unfold dot3 at *
  grind
end
end Go.Fid
set_option linter.unusedVariables false
set_option linter.unusedSimpArgs false
namespace Go.Fid
theorem rdiv_pos {a b : Rat} (ha : 0 < a) (hb : 0 < b) : 0 < a / b := by rw [Rat.div_def]; exact Rat.mul_pos ha (Rat.inv_pos.2 hb)
def IsZ (q : Rat) : Prop := ∃ z : Int, q = (z : Rat)
theorem IsZ.of (z : Int) : IsZ (z : Rat) := ⟨z, rfl⟩
theorem IsZ.mul {p q : Rat} (h : IsZ p) (h2 : IsZ q) : IsZ (p * q) := by
  obtain ⟨a, rfl⟩ := h; obtain ⟨b, rfl⟩ := h2; exact ⟨a * b, (Rat.intCast_mul a b).symm⟩
theorem IsZ.add {p q : Rat} (h : IsZ p) (h2 : IsZ q) : IsZ (p + q) := by
  obtain ⟨a, rfl⟩ := h; obtain ⟨b, rfl⟩ := h2; exact ⟨a + b, (Rat.intCast_add a b).symm⟩
theorem IsZ.sub {p q : Rat} (h : IsZ p) (h2 : IsZ q) : IsZ (p - q) := by
  obtain ⟨a, rfl⟩ := h; obtain ⟨b, rfl⟩ := h2; exact ⟨a - b, (Rat.intCast_sub a b).symm⟩
section
variable {lx ly lz la lb lc ld rx ry rz ra rb rc rd : Int} {b0 b1 b2 e00 e01 e02 e10 e11 e12 e20 e21 e22 : Rat}
theorem redK_pos {a b c : Rat} (h : zeroV a b c = false) : 0 < redK a b c := by
  have h1 := gcd3_ne h
  have h2 : 0 < gcd3 a b c := by unfold gcd3 at h1 ⊢; omega
  unfold redK
  rw [Rat.divInt_eq_div, Rat.intCast_one]
  have h3 : (0 : Rat) < ((gcd3 a b c : Int) : Rat) := Rat.intCast_pos.2 h2
  exact rdiv_pos (by decide) h3
theorem fr_e0b (hF : RFr lx ly lz la lb lc ld rx ry rz ra rb rc rd b0 b1 b2 e00 e01 e02 e10 e11 e12 e20 e21 e22) (hup : upV la lb lc ld ra rb rc rd b0 b1 b2 = false) : 0 < (dot3 e00 e01 e02 b0 b1 b2) := by
  have h := upV_base hup
  obtain ⟨-, -, -, h0, h1, h2, -⟩ := hF
  have hk := redK_pos h
  have hb := dot3_pos h
  rw [← h0, ← h1, ← h2]
  have e : dot3 (b0 * redK b0 b1 b2) (b1 * redK b0 b1 b2) (b2 * redK b0 b1 b2) b0 b1 b2 = dot3 b0 b1 b2 b0 b1 b2 * redK b0 b1 b2 := by unfold dot3; grind
  rw [e]
  exact Rat.mul_pos hb hk
theorem pts_x (hF : RFr lx ly lz la lb lc ld rx ry rz ra rb rc rd b0 b1 b2 e00 e01 e02 e10 e11 e12 e20 e21 e22) (hup : upV la lb lc ld ra rb rc rd b0 b1 b2 = false) {px py pz : Int} {r0 r1 r2 g : Rat} (hr : ((px - lx : Int) : Rat) = r0) (hL : (dot3 e20 e21 e22 r0 r1 r2) ≠ 0) (hg : (((e00 * (((dot3 e00 e01 e02 r0 r1 r2) / (dot3 e20 e21 e22 r0 r1 r2)) / (dot3 e00 e01 e02 e00 e01 e02))) + (e10 * (((dot3 e10 e11 e12 r0 r1 r2) / (dot3 e20 e21 e22 r0 r1 r2)) / (dot3 e10 e11 e12 e10 e11 e12)))) + (e20 * (((1 : Int) : Rat) / (dot3 e20 e21 e22 e20 e21 e22)))) = g) : ((lx : Int) : Rat) + g * ((dot3 e00 e01 e02 b0 b1 b2) / ((dot3 e00 e01 e02 b0 b1 b2) / (dot3 e20 e21 e22 r0 r1 r2))) = ((px : Int) : Rat) := by
  have h := dir_w0 hF hup (w0 := r0) (w1 := r1) (w2 := r2) hL
  have h2 := fr_e0b hF hup
  rw [h] at hg
  rw [← hg]
  have h3 : (dot3 e00 e01 e02 b0 b1 b2) ≠ 0 := by grind
  have h4 : r0 = ((px : Int) : Rat) - ((lx : Int) : Rat) := by rw [← hr, Rat.intCast_sub]
  grind
theorem pts_y (hF : RFr lx ly lz la lb lc ld rx ry rz ra rb rc rd b0 b1 b2 e00 e01 e02 e10 e11 e12 e20 e21 e22) (hup : upV la lb lc ld ra rb rc rd b0 b1 b2 = false) {px py pz : Int} {r0 r1 r2 g : Rat} (hr : ((py - ly : Int) : Rat) = r1) (hL : (dot3 e20 e21 e22 r0 r1 r2) ≠ 0) (hg : (((e01 * (((dot3 e00 e01 e02 r0 r1 r2) / (dot3 e20 e21 e22 r0 r1 r2)) / (dot3 e00 e01 e02 e00 e01 e02))) + (e11 * (((dot3 e10 e11 e12 r0 r1 r2) / (dot3 e20 e21 e22 r0 r1 r2)) / (dot3 e10 e11 e12 e10 e11 e12)))) + (e21 * (((1 : Int) : Rat) / (dot3 e20 e21 e22 e20 e21 e22)))) = g) : ((ly : Int) : Rat) + g * ((dot3 e00 e01 e02 b0 b1 b2) / ((dot3 e00 e01 e02 b0 b1 b2) / (dot3 e20 e21 e22 r0 r1 r2))) = ((py : Int) : Rat) := by
  have h := dir_w1 hF hup (w0 := r0) (w1 := r1) (w2 := r2) hL
  have h2 := fr_e0b hF hup
  rw [h] at hg
  rw [← hg]
  have h3 : (dot3 e00 e01 e02 b0 b1 b2) ≠ 0 := by grind
  have h4 : r1 = ((py : Int) : Rat) - ((ly : Int) : Rat) := by rw [← hr, Rat.intCast_sub]
  grind
theorem pts_z (hF : RFr lx ly lz la lb lc ld rx ry rz ra rb rc rd b0 b1 b2 e00 e01 e02 e10 e11 e12 e20 e21 e22) (hup : upV la lb lc ld ra rb rc rd b0 b1 b2 = false) {px py pz : Int} {r0 r1 r2 g : Rat} (hr : ((pz - lz : Int) : Rat) = r2) (hL : (dot3 e20 e21 e22 r0 r1 r2) ≠ 0) (hg : (((e02 * (((dot3 e00 e01 e02 r0 r1 r2) / (dot3 e20 e21 e22 r0 r1 r2)) / (dot3 e00 e01 e02 e00 e01 e02))) + (e12 * (((dot3 e10 e11 e12 r0 r1 r2) / (dot3 e20 e21 e22 r0 r1 r2)) / (dot3 e10 e11 e12 e10 e11 e12)))) + (e22 * (((1 : Int) : Rat) / (dot3 e20 e21 e22 e20 e21 e22)))) = g) : ((lz : Int) : Rat) + g * ((dot3 e00 e01 e02 b0 b1 b2) / ((dot3 e00 e01 e02 b0 b1 b2) / (dot3 e20 e21 e22 r0 r1 r2))) = ((pz : Int) : Rat) := by
  have h := dir_w2 hF hup (w0 := r0) (w1 := r1) (w2 := r2) hL
  have h2 := fr_e0b hF hup
  rw [h] at hg
  rw [← hg]
  have h3 : (dot3 e00 e01 e02 b0 b1 b2) ≠ 0 := by grind
  have h4 : r2 = ((pz : Int) : Rat) - ((lz : Int) : Rat) := by rw [← hr, Rat.intCast_sub]
  grind
theorem pos_div {a b : Rat} (ha : 0 < a) (hb : 0 < b) : ¬ (signQ (a / b)) ≤ 0 := sgn_pos.2 (rdiv_pos ha hb)
end
end Go.Fid
set_option linter.unusedVariables false
set_option linter.unusedSimpArgs false
namespace Go.Fid
section
variable {lx ly lz la lb lc ld rx ry rz ra rb rc rd : Int} {b0 b1 b2 e00 e01 e02 e10 e11 e12 e20 e21 e22 : Rat}
end
end Go.Fid
set_option linter.unusedVariables false
set_option linter.unusedSimpArgs false
namespace Go.Fid
theorem fb_b {a b : Int} (ha : 1 ≤ a ∧ a ≤ 1048576) (hb : 1 ≤ b ∧ b ≤ 1048576) : 0 ≤ a * b ∧ a * b ≤ 1099511627776 := by
  have h1 : 0 ≤ a * b := Int.mul_nonneg (by omega) (by omega)
  have h2 : a * b ≤ 1048576 * 1048576 := Int.mul_le_mul ha.2 hb.2 (by omega) (by omega)
  omega
theorem fb_b2 {a b : Int} (ha : 1 ≤ a ∧ a ≤ 32768) (hb : 1 ≤ b ∧ b ≤ 32768) : 0 ≤ a * b ∧ a * b ≤ 1073741824 := by
  have h1 : 0 ≤ a * b := Int.mul_nonneg (by omega) (by omega)
  have h2 : a * b ≤ 32768 * 32768 := Int.mul_le_mul ha.2 hb.2 (by omega) (by omega)
  omega
theorem rle_of {a c y : Rat} (hy : 0 < y) (h : a ≤ c * y) : a / y ≤ c := by
  rw [← Rat.not_lt, Rat.lt_div_iff hy, Rat.not_lt]; exact h
theorem le_rof {a c y : Rat} (hy : 0 < y) (h : c * y ≤ a) : c ≤ a / y := by
  have h1 : a / y * y = a := by rw [Rat.div_def, Rat.mul_assoc, Rat.inv_mul_cancel y (fun e => by rw [e] at hy; exact absurd hy (by decide)), Rat.mul_one]
  rw [← h1] at h
  exact Rat.le_of_mul_le_mul_right h hy
theorem top_redK {base : Int} (h : 1 ≤ base) : ((base : Int) : Rat) * redK ((base : Int) : Rat) ((0 : Int) : Rat) ((0 : Int) : Rat) = ((1 : Int) : Rat) := by
  have e : gcd3 ((base : Int) : Rat) ((0 : Int) : Rat) ((0 : Int) : Rat) = base := by
    unfold gcd3
    simp only [Rat.num_intCast, Int.gcd_zero_right, Int.natAbs_zero, Int.natCast_zero]
    omega
  unfold redK
  rw [e, Rat.divInt_eq_div, Rat.div_def]
  have hb : ((base : Int) : Rat) ≠ 0 := fun e => by
    have := Rat.intCast_eq_zero_iff.1 e
    omega
  rw [← Rat.mul_assoc, Rat.mul_comm _ ((1 : Int) : Rat), Rat.mul_assoc, Rat.mul_inv_cancel _ hb, Rat.mul_one]
theorem top_fr {base : Int} (h : 1 ≤ base) : RFr 0 0 0 1 0 0 0 base 0 0 1 0 0 0 ((base : Int) : Rat) ((0 : Int) : Rat) ((0 : Int) : Rat) ((1 : Int) : Rat) ((0 : Int) : Rat) ((0 : Int) : Rat) ((0 : Int) : Rat) ((1 : Int) : Rat) ((0 : Int) : Rat) ((0 : Int) : Rat) ((0 : Int) : Rat) ((1 : Int) : Rat) := by
  unfold RFr
  refine ⟨by rw [Int.sub_zero], rfl, rfl, top_redK h, ?_, ?_, ?_⟩
  · rw [Rat.intCast_zero, Rat.zero_mul]
  · rw [Rat.intCast_zero, Rat.zero_mul]
  · decide +kernel
theorem top_up {base : Int} (h : 1 ≤ base) : upV 1 0 0 0 1 0 0 0 ((base : Int) : Rat) ((0 : Int) : Rat) ((0 : Int) : Rat) = false := by
  unfold upV
  refine zeroV_not fun ⟨_, h1, _⟩ => ?_
  have e2 : dq2 1 0 0 0 1 0 0 0 = 2 := by decide +kernel
  rw [e2, Rat.intCast_zero, Rat.mul_zero] at h1
  have h2 : ((base : Int) : Rat) = 0 := by grind
  have := Rat.intCast_eq_zero_iff.1 h2
  omega
theorem top_pix {focal base pz pix : Int} (hf : 1 ≤ focal ∧ focal ≤ 32768) (hb : 1 ≤ base ∧ base ≤ 32768) (hz : 1 ≤ pz ∧ pz ≤ 32768) (h : IntKind.wrap .i64 ((((2 * focal) * base) + (64 * pz)).tdiv (128 * pz)) = pix) :
    0 ≤ pix ∧ pix ≤ 4294967296 ∧ 64 * pz * pix - 32 * pz ≤ focal * base ∧ focal * base < 64 * pz * pix + 32 * pz := by
  have h1 : 0 ≤ focal * base := Int.mul_nonneg (by omega) (by omega)
  have h2 : focal * base ≤ 32768 * 32768 := Int.mul_le_mul hf.2 hb.2 (by omega) (by omega)
  have e : (2 * focal) * base = 2 * (focal * base) := Int.mul_assoc ..
  rw [e, Int.tdiv_eq_ediv_of_nonneg (by omega)] at h
  have hd := Int.mul_ediv_add_emod (2 * (focal * base) + 64 * pz) (128 * pz)
  have hm0 := Int.emod_nonneg (2 * (focal * base) + 64 * pz) (show 128 * pz ≠ 0 by omega)
  have hm1 := Int.emod_lt_of_pos (2 * (focal * base) + 64 * pz) (show 0 < 128 * pz by omega)
  have hq0 : 0 ≤ (2 * (focal * base) + 64 * pz) / (128 * pz) := Int.ediv_nonneg (by omega) (by omega)
  have hq1 : (2 * (focal * base) + 64 * pz) / (128 * pz) ≤ 2 * (focal * base) + 64 * pz := Int.ediv_le_self _ (by omega)
  generalize hq : (2 * (focal * base) + 64 * pz) / (128 * pz) = q at *
  have hw : IntKind.wrap .i64 q = q := wi64 rfl (by omega) (by omega)
  have hpq : pix = q := h.symm.trans hw
  rw [hpq]
  have hx : 128 * pz * q = 2 * (64 * pz * q) := by grind
  refine ⟨hq0, by omega, by omega, by omega⟩
theorem top_d {base pz : Int} {r0 r1 r2 : Rat} (hr : ((pz - 0 : Int) : Rat) = r2) : dot3 ((1 : Int) : Rat) ((0 : Int) : Rat) ((0 : Int) : Rat) ((base : Int) : Rat) ((0 : Int) : Rat) ((0 : Int) : Rat) / dot3 ((0 : Int) : Rat) ((0 : Int) : Rat) ((1 : Int) : Rat) r0 r1 r2 = ((base : Int) : Rat) / ((pz : Int) : Rat) := by
  rw [Int.sub_zero] at hr
  rw [← hr]
  have e1 : dot3 ((1 : Int) : Rat) ((0 : Int) : Rat) ((0 : Int) : Rat) ((base : Int) : Rat) ((0 : Int) : Rat) ((0 : Int) : Rat) = ((base : Int) : Rat) := by unfold dot3; grind
  have e2 : dot3 ((0 : Int) : Rat) ((0 : Int) : Rat) ((1 : Int) : Rat) r0 r1 ((pz : Int) : Rat) = ((pz : Int) : Rat) := by unfold dot3; grind
  rw [e1, e2]
theorem top_cmp {focal base pz pix : Int} {d : Rat} (hd : d = ((base : Int) : Rat) / ((pz : Int) : Rat)) (hz : 1 ≤ pz) (h1 : 64 * pz * pix - 32 * pz ≤ focal * base) (h2 : focal * base < 64 * pz * pix + 32 * pz) :
    ¬ 0 < cmpQ (absQ ((Rat.divInt focal 64) * d - ((pix : Int) : Rat))) (Rat.divInt 1 2) := by
  rw [cmpQ_gt, Rat.not_lt]
  have hzp : (0 : Rat) < ((pz : Int) : Rat) := by
    have : (((0 : Int) : Rat)) < ((pz : Int) : Rat) := Rat.intCast_lt_intCast.2 (by omega)
    rwa [Rat.intCast_zero] at this
  have e : (Rat.divInt focal 64) * d = ((focal * base : Int) : Rat) / ((64 * pz : Int) : Rat) := by
    rw [hd, Rat.divInt_eq_div, Rat.intCast_mul, Rat.intCast_mul]
    grind
  have hy : (0 : Rat) < ((64 * pz : Int) : Rat) := by rw [Rat.intCast_mul]; exact Rat.mul_pos (by decide) hzp
  have h1' : ((64 * pz * pix - 32 * pz : Int) : Rat) ≤ ((focal * base : Int) : Rat) := Rat.intCast_le_intCast.2 h1
  have h2' : ((focal * base : Int) : Rat) ≤ ((64 * pz * pix + 32 * pz : Int) : Rat) := Rat.intCast_le_intCast.2 (by omega)
  have l1 : ((pix : Int) : Rat) - Rat.divInt 1 2 ≤ (Rat.divInt focal 64) * d := by
    rw [e]
    refine le_rof hy ?_
    rw [show (Rat.divInt 1 2) = (1 : Rat) / 2 by decide +kernel]
    simp only [Rat.intCast_mul, Rat.intCast_sub] at h1' ⊢
    have e1 : ((64 : Int) : Rat) = 64 := rfl
    have e2 : ((32 : Int) : Rat) = 32 := rfl
    rw [e1] at *
    rw [e2] at *
    grind
  have l2 : (Rat.divInt focal 64) * d ≤ ((pix : Int) : Rat) + Rat.divInt 1 2 := by
    rw [e]
    refine rle_of hy ?_
    rw [show (Rat.divInt 1 2) = (1 : Rat) / 2 by decide +kernel]
    simp only [Rat.intCast_mul, Rat.intCast_add] at h2' ⊢
    have e1 : ((64 : Int) : Rat) = 64 := rfl
    have e2 : ((32 : Int) : Rat) = 32 := rfl
    rw [e1] at *
    rw [e2] at *
    grind
  unfold absQ
  split <;> grind
theorem top_lo {focal base pz pix : Int} (hp : 1 ≤ pix) (h2 : focal * base < 64 * pz * pix + 32 * pz) : cmpQ (Rat.divInt (focal * base) (32 * ((2 * pix) + 1))) ((pz : Int) : Rat) ≤ 0 := by
  rw [cmpQ_le, Rat.divInt_eq_div]
  have hy : (((0 : Int) : Rat)) < ((32 * ((2 * pix) + 1) : Int) : Rat) := Rat.intCast_lt_intCast.2 (by omega)
  rw [Rat.intCast_zero] at hy
  refine rle_of hy ?_
  rw [← Rat.intCast_mul]
  refine Rat.intCast_le_intCast.2 ?_
  have : pz * (32 * ((2 * pix) + 1)) = 64 * pz * pix + 32 * pz := by grind
  omega
theorem top_hi {focal base pz pix : Int} (hp : 1 ≤ pix) (h1 : 64 * pz * pix - 32 * pz ≤ focal * base) : cmpQ ((pz : Int) : Rat) (Rat.divInt (focal * base) (32 * ((2 * pix) - 1))) ≤ 0 := by
  rw [cmpQ_le, Rat.divInt_eq_div]
  have hy : (((0 : Int) : Rat)) < ((32 * ((2 * pix) - 1) : Int) : Rat) := Rat.intCast_lt_intCast.2 (by omega)
  rw [Rat.intCast_zero] at hy
  refine le_rof hy ?_
  rw [← Rat.intCast_mul]
  refine Rat.intCast_le_intCast.2 ?_
  have : pz * (32 * ((2 * pix) - 1)) = 64 * pz * pix - 32 * pz := by grind
  omega
end Go.Fid
namespace Go.Proofs.YtbecgnplakngdaaGreat
open Go.Fid
set_option maxRecDepth 4000
set_option linter.unusedVariables false
set_option linter.unusedSimpArgs false
theorem cb61 : callB Tryz.prog 61 = true := by kernel_rfl
theorem cb62 : callB Tryz.prog 62 = true := by kernel_rfl
theorem cb66 : callB Tryz.prog 66 = true := by kernel_rfl
theorem cb123 : callB Tryz.prog 123 = true := by kernel_rfl
theorem fo121_0 : fieldB Tryz.prog 121 0 = some 0 := by kernel_rfl
theorem pl121 : placesB Tryz.prog 121 = some [(0, 4), (4, 4)] := by kernel_rfl
theorem sh121 : shapeB Tryz.prog 121 = some (true, 8) := by kernel_rfl
theorem ze121 : zeroB Tryz.prog 121 = some [.bool false, .slice none 0 0, .bool false, .slice none 0 0, .bool false, .slice none 0 0, .bool false, .slice none 0 0] := by kernel_rfl
theorem zo121 : ZOk [.bool false, .slice none 0 0, .bool false, .slice none 0 0, .bool false, .slice none 0 0, .bool false, .slice none 0 0] [.val (.bool false), .sl 152 1 [], .val (.bool false), .sl 152 1 [], .val (.bool false), .sl 152 1 [], .val (.bool false), .sl 152 1 []] := by simp [ZOk, Value.oneCell']
theorem t_cp (base : Int) (focal : Int) : Takes Tryz.prog 62 [(.val (.int .i64 (base))), (.val (.int .i64 (focal)))] (encStereo (RStereo.mk (RStn.mk (RSpot.mk 0 0 0) (RQuat.mk 1 0 0 0) focal (RPix.mk 0 0)) (RStn.mk (RSpot.mk base 0 0) (RQuat.mk 1 0 0 0) focal (RPix.mk 0 0)))) := by
  refine fn_intro Tryz.func62 rfl cb62 rfl ?_
  show PWp _ _ _ _ ⟨[(0, (vi base)), (1, (vi focal))], []⟩
  refine pwp_seq <| kx [(4, (.ref 0 0))] [(0, some (bx (encStereo (RStereo.mk (RStn.mk (RSpot.mk 0 0 0) (RQuat.mk 0 0 0 0) 0 (RPix.mk 0 0)) (RStn.mk (RSpot.mk 0 0 0) (RQuat.mk 0 0 0 0) 0 (RPix.mk 0 0))))))] (zN (oAl 0 ze31 zo31) <| zZ) ?_
  refine pwp_seq <| kx [(5, (.ref 1 0))] [(1, some (bx (encStn (RStn.mk (RSpot.mk 0 0 0) (RQuat.mk 1 0 0 0) focal (RPix.mk 0 0)))))] (zE (oBd pl25 ze25 zo25) <| zM <| zE (oBd pl29 ze29 zo29) <| zN (oAl 1 ze29 zo29) <| zT (oSt sh29) <| zZ) ?_
  refine pwp_seq <| kx [(6, (.ref 2 0))] [(2, some (bx (encStn (RStn.mk (RSpot.mk 0 0 0) (RQuat.mk 1 0 0 0) focal (RPix.mk 0 0)))))] (zR (oLa sh29) <| zN (oAl 2 ze29 zo29) <| zT (oSt sh29) <| zZ) ?_
  refine pwp_seq <| kx [] [(2, some (bx (encStn (RStn.mk (RSpot.mk base 0 0) (RQuat.mk 1 0 0 0) focal (RPix.mk 0 0)))))] (zM <| zE (oFr fo29_0) <| zE (oFr fo23_0) <| zT (oSt sh3) <| zZ) ?_
  refine pwp_seq <| kx [] [(0, some (bx (encStereo (RStereo.mk (RStn.mk (RSpot.mk 0 0 0) (RQuat.mk 1 0 0 0) focal (RPix.mk 0 0)) (RStn.mk (RSpot.mk base 0 0) (RQuat.mk 1 0 0 0) focal (RPix.mk 0 0))))))] (zR (oLa sh29) <| zR (oLa sh29) <| zE (oBd pl31 ze31 zo31) <| zT (oSt sh31) <| zZ) ?_
  refine pwp_ret ⟨_, (res_a (cs := (bx (encStereo (RStereo.mk (RStn.mk (RSpot.mk 0 0 0) (RQuat.mk 1 0 0 0) focal (RPix.mk 0 0)) (RStn.mk (RSpot.mk base 0 0) (RQuat.mk 1 0 0 0) focal (RPix.mk 0 0)))))) (d := (encStereo (RStereo.mk (RStn.mk (RSpot.mk 0 0 0) (RQuat.mk 1 0 0 0) focal (RPix.mk 0 0)) (RStn.mk (RSpot.mk base 0 0) (RQuat.mk 1 0 0 0) focal (RPix.mk 0 0))))) rfl rfl sh31 rfl rfl .nil), ?_⟩
  rfl
theorem t_opt (focal : Int) (hfocall : 1 ≤ focal) (hfocalh : focal ≤ 1048576) (base : Int) (hbasel : 1 ≤ base) (hbaseh : base ≤ 1048576) : Takes Tryz.prog 123 [(.val (.int .i64 (focal))), (.val (.int .i64 (base)))] (.val (.int .i64 (0))) := by
  refine fn_intro Tryz.func123 rfl cb123 rfl ?_
  show PWp _ _ _ _ ⟨[(0, (vi focal)), (1, (vi base))], []⟩
  refine pwp_seq <| kx [] [] (zM <| zZ) ?_
  refine pwp_seq <| pwp_seq <| kx [(18, (vb false))] [] (zM <| zE (oBk false oLt (by exact decide_eq_false (by omega))) <| zM <| zM <| zE (oBk false oGt (by exact decide_eq_false (by omega))) <| zE oPf <| zM <| zM <| zE (oBk false oLt (by exact decide_eq_false (by omega))) <| zE oPf <| zM <| zM <| zE (oBk false oGt (by exact decide_eq_false (by omega))) <| zE oPf <| zZ) ?_
  refine pwp_cond (b := false) (by kernel_rfl) (fun h => by cases h) (fun _ => ?_)
  refine pwp_skip <| pwp_seq <| kx [(4, (vin 0))] [] (zM <| zZ) ?_
  refine pwp_ret ⟨_, (.tmp (d := (.val (.int .i64 (0)))) rfl .nil), ?_⟩
  rfl
theorem t_intv (focal : Int) (hfocall : 1 ≤ focal) (hfocalh : focal ≤ 1048576) (base : Int) (hbasel : 1 ≤ base) (hbaseh : base ≤ 1048576) (d : Int) (hdl : 1 ≤ d) (hdh : d ≤ 1048576) : Takes Tryz.prog 66 [(.val (.int .i64 (focal))), (.val (.int .i64 (base))), (.val (.int .i64 (d)))] (.tup [(encG (RRng.mk (ofQ (Rat.divInt (focal * base) (32 * ((2 * d) + 1)))) (ofQ (Rat.divInt (focal * base) (32 * ((2 * d) - 1)))))), (.val (.int .i64 (0)))]) := by
  have hfb := fb_b (a := focal) (b := base) (by omega) (by omega)
  refine fn_intro Tryz.func66 rfl cb66 rfl ?_
  show PWp _ _ _ _ ⟨[(0, (vi focal)), (1, (vi base)), (2, (vi d))], []⟩
  refine pwp_seq <| kx [(6, (.ref 0 0))] [(0, some (bx (encG (RRng.mk (RRat.mk (RInt.mk false []) (RInt.mk false [])) (RRat.mk (RInt.mk false []) (RInt.mk false []))))))] (zN (oAl 0 ze121 zo121) <| zM <| zZ) ?_
  refine pwp_seq <| pwp_seq <| kx [(8, (vi 0))] [] (zM <| zM <| zE (oCl (t_opt focal (by omega) (by omega) base (by omega) (by omega))) <| zM <| zZ) ?_
  refine pwp_seq <| kx [(17, (vb false))] [] (zM <| zE oNe <| zZ) ?_
  refine pwp_cond (b := false) (by kernel_rfl) (fun h => by cases h) (fun _ => ?_)
  refine pwp_skip <| pwp_seq <| pwp_seq <| kx [(25, (vb false))] [] (zM <| zE (oBk false oLt (by exact decide_eq_false (by omega))) <| zM <| zM <| zE (oBk false oGt (by exact decide_eq_false (by omega))) <| zE oPf <| zZ) ?_
  refine pwp_cond (b := false) (by kernel_rfl) (fun h => by cases h) (fun _ => ?_)
  refine pwp_skip <| pwp_seq <| kx [(9, (.ref 1 0))] [(1, some (bx (encR (ofQ (Rat.divInt (focal * base) (32 * ((2 * d) + 1)))))))] (zM <| zM <| zE (zMl (focal * base)) <| zM <| zE (zMl (2 * d)) <| zE (zAd ((2 * d) + 1)) <| zE (zMl (32 * ((2 * d) + 1))) <| zE (oCl (q_of (focal * base) (by omega) (by omega) (32 * ((2 * d) + 1)) (by omega) (by omega) (by omega))) <| zM <| zE oEx <| zE oEx <| zN (oAl 1 ze42 zo42) <| zT (oSt sh42) <| zM <| zZ) ?_
  refine pwp_seq <| kx [(11, (.ref 2 0))] [(2, some (bx (encR (ofQ (Rat.divInt (focal * base) (32 * ((2 * d) - 1)))))))] (zM <| zM <| zE (zMl (focal * base)) <| zM <| zE (zMl (2 * d)) <| zE (zSb ((2 * d) - 1)) <| zE (zMl (32 * ((2 * d) - 1))) <| zE (oCl (q_of (focal * base) (by omega) (by omega) (32 * ((2 * d) - 1)) (by omega) (by omega) (by omega))) <| zM <| zE oEx <| zE oEx <| zN (oAl 2 ze42 zo42) <| zT (oSt sh42) <| zM <| zZ) ?_
  refine pwp_seq <| kx [(7, (vin 0))] [(0, some (bx (encG (RRng.mk (ofQ (Rat.divInt (focal * base) (32 * ((2 * d) + 1)))) (ofQ (Rat.divInt (focal * base) (32 * ((2 * d) - 1))))))))] (zR (oLa sh42) <| zR (oLa sh42) <| zE (oBd pl121 ze121 zo121) <| zT (oSt sh121) <| zM <| zZ) ?_
  refine pwp_ret ⟨_, (res_a (cs := (bx (encG (RRng.mk (ofQ (Rat.divInt (focal * base) (32 * ((2 * d) + 1)))) (ofQ (Rat.divInt (focal * base) (32 * ((2 * d) - 1)))))))) (d := (encG (RRng.mk (ofQ (Rat.divInt (focal * base) (32 * ((2 * d) + 1)))) (ofQ (Rat.divInt (focal * base) (32 * ((2 * d) - 1))))))) rfl rfl sh121 rfl rfl (.tmp (d := (.val (.int .i64 (0)))) rfl .nil)), ?_⟩
  rfl
set_option maxHeartbeats 4000000 in
theorem t_rect  : Takes Tryz.prog 61 [] (.val (.bool (true))) := by
  let y1 := (ofQ ((dot3 ((1 : Int) : Rat) ((0 : Int) : Rat) ((0 : Int) : Rat) ((100 : Int) : Rat) ((0 : Int) : Rat) ((0 : Int) : Rat)) / (dot3 ((0 : Int) : Rat) ((0 : Int) : Rat) ((1 : Int) : Rat) ((5 : Int) : Rat) ((7 : Int) : Rat) ((500 : Int) : Rat))))
  refine fn_intro Tryz.func61 rfl cb61 rfl ?_
  show PWp _ _ _ _ ⟨[], []⟩
  refine pwp_seq <| kx [] [] (zM <| zZ) ?_
  refine pwp_seq ?_
  have bn1 : QL ((dot3 ((1 : Int) : Rat) ((0 : Int) : Rat) ((0 : Int) : Rat) ((5 : Int) : Rat) ((7 : Int) : Rat) ((500 : Int) : Rat)) / (dot3 ((0 : Int) : Rat) ((0 : Int) : Rat) ((1 : Int) : Rat) ((5 : Int) : Rat) ((7 : Int) : Rat) ((500 : Int) : Rat))) 4804 := (ql_div (k := 4804) (ql_dot3 (n := 400) (k := 2402) (ql_int (z := 1) (n := 400) (Nat.le_trans (lenZ_int (by decide) (by decide)) (by decide)) (by decide)) (ql_int (z := 0) (n := 400) (Nat.le_trans (lenZ_int (by decide) (by decide)) (by decide)) (by decide)) (ql_int (z := 0) (n := 400) (Nat.le_trans (lenZ_int (by decide) (by decide)) (by decide)) (by decide)) (ql_up (ql_int (z := 5) (n := 3) (Nat.le_trans (lenZ_one (by decide)) (by decide)) (by decide)) (by decide)) (ql_up (ql_int (z := 7) (n := 3) (Nat.le_trans (lenZ_one (by decide)) (by decide)) (by decide)) (by decide)) (ql_up (ql_int (z := 500) (n := 3) (Nat.le_trans (lenZ_one (by decide)) (by decide)) (by decide)) (by decide)) (by decide)) (ql_dot3 (n := 400) (k := 2402) (ql_int (z := 0) (n := 400) (Nat.le_trans (lenZ_int (by decide) (by decide)) (by decide)) (by decide)) (ql_int (z := 0) (n := 400) (Nat.le_trans (lenZ_int (by decide) (by decide)) (by decide)) (by decide)) (ql_int (z := 1) (n := 400) (Nat.le_trans (lenZ_int (by decide) (by decide)) (by decide)) (by decide)) (ql_up (ql_int (z := 5) (n := 3) (Nat.le_trans (lenZ_one (by decide)) (by decide)) (by decide)) (by decide)) (ql_up (ql_int (z := 7) (n := 3) (Nat.le_trans (lenZ_one (by decide)) (by decide)) (by decide)) (by decide)) (ql_up (ql_int (z := 500) (n := 3) (Nat.le_trans (lenZ_one (by decide)) (by decide)) (by decide)) (by decide)) (by decide)) (by decide))
  have bn2 : QL ((dot3 ((0 : Int) : Rat) ((1 : Int) : Rat) ((0 : Int) : Rat) ((5 : Int) : Rat) ((7 : Int) : Rat) ((500 : Int) : Rat)) / (dot3 ((0 : Int) : Rat) ((0 : Int) : Rat) ((1 : Int) : Rat) ((5 : Int) : Rat) ((7 : Int) : Rat) ((500 : Int) : Rat))) 4804 := (ql_div (k := 4804) (ql_dot3 (n := 400) (k := 2402) (ql_int (z := 0) (n := 400) (Nat.le_trans (lenZ_int (by decide) (by decide)) (by decide)) (by decide)) (ql_int (z := 1) (n := 400) (Nat.le_trans (lenZ_int (by decide) (by decide)) (by decide)) (by decide)) (ql_int (z := 0) (n := 400) (Nat.le_trans (lenZ_int (by decide) (by decide)) (by decide)) (by decide)) (ql_up (ql_int (z := 5) (n := 3) (Nat.le_trans (lenZ_one (by decide)) (by decide)) (by decide)) (by decide)) (ql_up (ql_int (z := 7) (n := 3) (Nat.le_trans (lenZ_one (by decide)) (by decide)) (by decide)) (by decide)) (ql_up (ql_int (z := 500) (n := 3) (Nat.le_trans (lenZ_one (by decide)) (by decide)) (by decide)) (by decide)) (by decide)) (ql_dot3 (n := 400) (k := 2402) (ql_int (z := 0) (n := 400) (Nat.le_trans (lenZ_int (by decide) (by decide)) (by decide)) (by decide)) (ql_int (z := 0) (n := 400) (Nat.le_trans (lenZ_int (by decide) (by decide)) (by decide)) (by decide)) (ql_int (z := 1) (n := 400) (Nat.le_trans (lenZ_int (by decide) (by decide)) (by decide)) (by decide)) (ql_up (ql_int (z := 5) (n := 3) (Nat.le_trans (lenZ_one (by decide)) (by decide)) (by decide)) (by decide)) (ql_up (ql_int (z := 7) (n := 3) (Nat.le_trans (lenZ_one (by decide)) (by decide)) (by decide)) (by decide)) (ql_up (ql_int (z := 500) (n := 3) (Nat.le_trans (lenZ_one (by decide)) (by decide)) (by decide)) (by decide)) (by decide)) (by decide))
  have bn3 : QL ((dot3 ((1 : Int) : Rat) ((0 : Int) : Rat) ((0 : Int) : Rat) ((100 : Int) : Rat) ((0 : Int) : Rat) ((0 : Int) : Rat)) / (dot3 ((0 : Int) : Rat) ((0 : Int) : Rat) ((1 : Int) : Rat) ((5 : Int) : Rat) ((7 : Int) : Rat) ((500 : Int) : Rat))) 4804 := (ql_div (k := 4804) (ql_dot3 (n := 400) (k := 2402) (ql_int (z := 1) (n := 400) (Nat.le_trans (lenZ_int (by decide) (by decide)) (by decide)) (by decide)) (ql_int (z := 0) (n := 400) (Nat.le_trans (lenZ_int (by decide) (by decide)) (by decide)) (by decide)) (ql_int (z := 0) (n := 400) (Nat.le_trans (lenZ_int (by decide) (by decide)) (by decide)) (by decide)) (ql_up (ql_int (z := 100) (n := 3) (lenZ_int (by decide) (by decide)) (by decide)) (by decide)) (ql_up (ql_int (z := 0) (n := 3) (lenZ_int (by decide) (by decide)) (by decide)) (by decide)) (ql_up (ql_int (z := 0) (n := 3) (lenZ_int (by decide) (by decide)) (by decide)) (by decide)) (by decide)) (ql_dot3 (n := 400) (k := 2402) (ql_int (z := 0) (n := 400) (Nat.le_trans (lenZ_int (by decide) (by decide)) (by decide)) (by decide)) (ql_int (z := 0) (n := 400) (Nat.le_trans (lenZ_int (by decide) (by decide)) (by decide)) (by decide)) (ql_int (z := 1) (n := 400) (Nat.le_trans (lenZ_int (by decide) (by decide)) (by decide)) (by decide)) (ql_up (ql_int (z := 5) (n := 3) (Nat.le_trans (lenZ_one (by decide)) (by decide)) (by decide)) (by decide)) (ql_up (ql_int (z := 7) (n := 3) (Nat.le_trans (lenZ_one (by decide)) (by decide)) (by decide)) (by decide)) (ql_up (ql_int (z := 500) (n := 3) (Nat.le_trans (lenZ_one (by decide)) (by decide)) (by decide)) (by decide)) (by decide)) (by decide))
  refine kx [(2, (.ref 1 0)), (3, (vi 0))] [(1, some (bx (encR y1))), (0, none)] (zE (oCl (t_cp 100 640)) <| zE (oBd pl23 ze23 zo23) <| zE (oCl (q_prj 0 0 0 1 0 0 0 640 0 0 100 0 0 1 0 0 0 640 0 0 5 7 500 (by omega) (by omega) (by omega) ((100 : Int) : Rat) ((0 : Int) : Rat) ((0 : Int) : Rat) ((1 : Int) : Rat) ((0 : Int) : Rat) ((0 : Int) : Rat) ((0 : Int) : Rat) ((1 : Int) : Rat) ((0 : Int) : Rat) ((0 : Int) : Rat) ((0 : Int) : Rat) ((1 : Int) : Rat) (by decide +kernel) (ql_int (z := 100) (n := 3) (lenZ_int (by decide) (by decide)) (by decide)) (ql_int (z := 0) (n := 3) (lenZ_int (by decide) (by decide)) (by decide)) (ql_int (z := 0) (n := 3) (lenZ_int (by decide) (by decide)) (by decide)) (ql_int (z := 1) (n := 400) (Nat.le_trans (lenZ_int (by decide) (by decide)) (by decide)) (by decide)) (ql_int (z := 0) (n := 400) (Nat.le_trans (lenZ_int (by decide) (by decide)) (by decide)) (by decide)) (ql_int (z := 0) (n := 400) (Nat.le_trans (lenZ_int (by decide) (by decide)) (by decide)) (by decide)) (ql_int (z := 0) (n := 400) (Nat.le_trans (lenZ_int (by decide) (by decide)) (by decide)) (by decide)) (ql_int (z := 1) (n := 400) (Nat.le_trans (lenZ_int (by decide) (by decide)) (by decide)) (by decide)) (ql_int (z := 0) (n := 400) (Nat.le_trans (lenZ_int (by decide) (by decide)) (by decide)) (by decide)) (ql_int (z := 0) (n := 400) (Nat.le_trans (lenZ_int (by decide) (by decide)) (by decide)) (by decide)) (ql_int (z := 0) (n := 400) (Nat.le_trans (lenZ_int (by decide) (by decide)) (by decide)) (by decide)) (ql_int (z := 1) (n := 400) (Nat.le_trans (lenZ_int (by decide) (by decide)) (by decide)) (by decide)) ((5 : Int) : Rat) (by decide +kernel) ((7 : Int) : Rat) (by decide +kernel) ((500 : Int) : Rat) (by decide +kernel) (by decide +kernel) (by decide +kernel) (by decide +kernel) (by decide +kernel))) <| zM <| zE oEx <| zE oEx <| zE oEx <| zN (oAl 0 ze56 zo56) <| zN (oAl 1 ze42 zo42) <| zT (oSt sh56) <| zT (oSt sh42) <| zM <| zZ) ?_
  refine pwp_seq ?_
  have bn4 : QL (Rat.divInt (640 * 100) (32 * ((2 * 2) + 1))) 3 := (ql_divInt (n := 3) (lenZ_int (by omega) (by omega)) (lenZ_int (by omega) (by omega)) (by decide))
  have bn5 : QL (Rat.divInt (640 * 100) (32 * ((2 * 2) - 1))) 3 := (ql_divInt (n := 3) (lenZ_int (by omega) (by omega)) (lenZ_int (by omega) (by omega)) (by decide))
  refine kx [(4, (.ref 2 0)), (5, (vi 0))] [(2, some (bx (encG (RRng.mk (ofQ (Rat.divInt (640 * 100) (32 * ((2 * 2) + 1)))) (ofQ (Rat.divInt (640 * 100) (32 * ((2 * 2) - 1))))))))] (zE (oCl (t_intv 640 (by omega) (by omega) 100 (by omega) (by omega) 2 (by omega) (by omega))) <| zM <| zE oEx <| zE oEx <| zN (oAl 2 ze121 zo121) <| zT (oSt sh121) <| zM <| zZ) ?_
  refine pwp_seq ?_
  have bn6 : QL (Rat.divInt 1 5) 3 := (ql_divInt (n := 3) (lenZ_int (by omega) (by omega)) (lenZ_int (by omega) (by omega)) (by decide))
  refine kx [(6, (.ref 3 0))] [(3, some (bx (encR (ofQ (Rat.divInt 1 5)))))] (zE (oCl (qs_of 1 (by omega) (by omega) 5 (by omega) (by omega) (by decide +kernel))) <| zM <| zE oEx <| zE oEx <| zN (oAl 3 ze42 zo42) <| zT (oSt sh42) <| zM <| zZ) ?_
  refine pwp_seq ?_
  have bn7 : QL ((400 : Int) : Rat) 1 := (ql_int (z := 400) (lenZ_one (by decide)) (by decide))
  refine kd [(0, (vb true))] [] mo (wM <| wE oEq <| wM <| wM <| wE oEq <| wE oPt <| wM <| wR (oLa sh42) <| wR (oLa sh42) <| wE (oBk true (oCl (by have h := g_same y1 (ofQ (Rat.divInt 1 5)) ((dot3 ((1 : Int) : Rat) ((0 : Int) : Rat) ((0 : Int) : Rat) ((100 : Int) : Rat) ((0 : Int) : Rat) ((0 : Int) : Rat)) / (dot3 ((0 : Int) : Rat) ((0 : Int) : Rat) ((1 : Int) : Rat) ((5 : Int) : Rat) ((7 : Int) : Rat) ((500 : Int) : Rat))) (Rat.divInt 1 5) (qok_up (qok_of bn3) (by decide)) (qok_up (qok_of bn6) (by decide)); rw [sameR_of] at h; exact h)) (by exact (by decide +kernel))) <| wE oPt <| wM <| wE (oFr fo121_0) <| wR (oLa sh42) <| wE (oCl (g_whole 400 (by decide) (by decide))) <| wE (oBk true (oCl (by have h := g_same (ofQ (Rat.divInt (640 * 100) (32 * ((2 * 2) + 1)))) (ofQ ((400 : Int) : Rat)) (Rat.divInt (640 * 100) (32 * ((2 * 2) + 1))) ((400 : Int) : Rat) (qok_up (qok_of bn4) (by decide)) (qok_up (qok_of bn7) (by decide)); rw [sameR_of] at h; exact h)) (by exact (by decide +kernel))) <| wE oPt <| wM <| wZ) ?_
  refine pwp_ret ⟨_, (.tmp (d := (.val (.bool (true)))) rfl .nil), ?_⟩
  rfl
end Go.Proofs.YtbecgnplakngdaaGreat
namespace Go.Proofs.YtbecgnplakngdaaGreat
open Go.Fid
set_option maxRecDepth 4000
set_option linter.unusedVariables false
set_option linter.unusedSimpArgs false
theorem cb11 : callB Tryz.prog 11 = true := by kernel_rfl
theorem fo121_1 : fieldB Tryz.prog 121 1 = some 4 := by kernel_rfl
theorem w_topN (base : Int) (focal : Int) (px py pz : Int) (hg : true = ((((((decide (base < 1) || decide (32768 < base)) || decide (focal < 1)) || decide (32768 < focal)) || decide (pz < 1)) || decide (32768 < (max (max px py) pz))) || decide ((min px py) < -32768))) : Takes Tryz.prog 11 [(.val (.int .i64 (base))), (.val (.int .i64 (focal))), (encSpot (RSpot.mk px py pz))] (.val (.bool (true))) := by
  refine fn_intro Tryz.func11 rfl cb11 rfl ?_
  show PWp _ _ _ _ ⟨[(0, (vi base)), (1, (vi focal)), (2, (.d (encSpot (RSpot.mk px py pz))))], []⟩
  refine pwp_seq <| kx [(5, (.ref 0 0))] [(0, some (bx (encSpot (RSpot.mk px py pz))))] (zN (oBx 0) <| zM <| zZ) ?_
  refine pwp_seq <| pwp_seq <| kx [(20, (vb false))] [] (zE (oCl t_rect) <| zE oNt <| zZ) ?_
  refine pwp_cond (b := false) (by kernel_rfl) (fun h => by cases h) (fun _ => ?_)
  refine pwp_skip <| pwp_seq <| pwp_seq <| kx [(57, (vb ((((((decide (base < 1) || decide (32768 < base)) || decide (focal < 1)) || decide (32768 < focal)) || decide (pz < 1)) || decide (32768 < (max (max px py) pz))) || decide ((min px py) < -32768))))] [] ?_ ?_
  · refine zM <| zE oLt <| zE (oV (vb (decide (base < 1))) (mv_ok (by kernel_rfl))) <| ?_
    rcases hb1 : (decide (base < 1)) with _ | _
    · replace hb1 := of_decide_eq_false hb1
      refine zM <| zE oGt <| zE oPo <| zE (oV (vb (false || decide (32768 < base))) (mv_ok (by kernel_rfl))) <| ?_
      rcases hb2 : (false || decide (32768 < base)) with _ | _
      · refine zM <| zE oLt <| zE oPo <| zE (oV (vb (false || decide (focal < 1))) (mv_ok (by kernel_rfl))) <| ?_
        rcases hb3 : (false || decide (focal < 1)) with _ | _
        · refine zM <| zE oGt <| zE oPo <| zE (oV (vb (false || decide (32768 < focal))) (mv_ok (by kernel_rfl))) <| ?_
          rcases hb4 : (false || decide (32768 < focal)) with _ | _
          · refine zE (oFr fo23_2) <| zR (oL1 sh3) <| zE oLt <| zE oPo <| zE (oV (vb (false || decide (pz < 1))) (mv_ok (by kernel_rfl))) <| ?_
            rcases hb5 : (false || decide (pz < 1)) with _ | _
            · refine zE (oFr fo23_0) <| zR (oL1 sh3) <| zE (oFr fo23_1) <| zR (oL1 sh3) <| zE (oFr fo23_2) <| zR (oL1 sh3) <| zE (oM3 (max (max px py) pz) (hr := by exact rfl)) <| zE oGt <| zE oPo <| zE (oV (vb (false || decide (32768 < (max (max px py) pz)))) (mv_ok (by kernel_rfl))) <| ?_
              rcases hb6 : (false || decide (32768 < (max (max px py) pz))) with _ | _
              · exact zE (oFr fo23_0) <| zR (oL1 sh3) <| zE (oFr fo23_1) <| zR (oL1 sh3) <| zE (zMn (min px py) (hr := by first | omega | (dsimp only; omega))) <| zE oLt <| zE oPo <| zZ
              · exact zK <| zK <| zK <| zK <| zK <| zK <| zE oPt <| zZ
            · exact zK <| zK <| zK <| zK <| zK <| zK <| zK <| zK <| zE oPt <| zM <| zK <| zK <| zK <| zK <| zK <| zK <| zE oPt <| zZ
          · exact zK <| zK <| zK <| zE oPt <| zM <| zK <| zK <| zK <| zK <| zK <| zK <| zK <| zK <| zE oPt <| zM <| zK <| zK <| zK <| zK <| zK <| zK <| zE oPt <| zZ
        · exact zK <| zK <| zE oPt <| zM <| zK <| zK <| zK <| zE oPt <| zM <| zK <| zK <| zK <| zK <| zK <| zK <| zK <| zK <| zE oPt <| zM <| zK <| zK <| zK <| zK <| zK <| zK <| zE oPt <| zZ
      · exact zK <| zK <| zE oPt <| zM <| zK <| zK <| zE oPt <| zM <| zK <| zK <| zK <| zE oPt <| zM <| zK <| zK <| zK <| zK <| zK <| zK <| zK <| zK <| zE oPt <| zM <| zK <| zK <| zK <| zK <| zK <| zK <| zE oPt <| zZ
    · replace hb1 := of_decide_eq_true hb1
      exact zK <| zK <| zE oPt <| zM <| zK <| zK <| zE oPt <| zM <| zK <| zK <| zE oPt <| zM <| zK <| zK <| zK <| zE oPt <| zM <| zK <| zK <| zK <| zK <| zK <| zK <| zK <| zK <| zE oPt <| zM <| zK <| zK <| zK <| zK <| zK <| zK <| zE oPt <| zZ
  refine pwp_cond rfl (fun h7 => ?_) (fun h7 => ?_)
  · refine pwp_seq <| kx [(6, (vb true))] [] (zM <| zZ) ?_
    refine pwp_ret ⟨_, (.tmp (d := (.val (.bool (true)))) rfl .nil), ?_⟩
    rfl
  · exact absurd (hg.trans h7) (by decide)
theorem w_topO (base : Int) (hbasel : 1 ≤ base) (hbaseh : base ≤ 32768) (focal : Int) (hfocall : 1 ≤ focal) (hfocalh : focal ≤ 32768) (px py pz : Int) (hpx : -32768 ≤ px ∧ px ≤ 32768) (hpy : -32768 ≤ py ∧ py ≤ 32768) (hpz : 1 ≤ pz ∧ pz ≤ 32768) (b0 b1 b2 e00 e01 e02 e10 e11 e12 e20 e21 e22 : Rat) (hF : RFr 0 0 0 1 0 0 0 base 0 0 1 0 0 0 b0 b1 b2 e00 e01 e02 e10 e11 e12 e20 e21 e22) (hqb0 : QL b0 3) (hqb1 : QL b1 3) (hqb2 : QL b2 3) (hqe00 : QL e00 400) (hqe01 : QL e01 400) (hqe02 : QL e02 400) (hqe10 : QL e10 400) (hqe11 : QL e11 400) (hqe12 : QL e12 400) (hqe20 : QL e20 400) (hqe21 : QL e21 400) (hqe22 : QL e22 400) (pix : Int) (r0 : Rat) (hr0 : ((px - 0 : Int) : Rat) = r0) (r1 : Rat) (hr1 : ((py - 0 : Int) : Rat) = r1) (r2 : Rat) (hr2 : ((pz - 0 : Int) : Rat) = r2) (g0 : Rat) (hg0 : (((e00 * (((dot3 e00 e01 e02 r0 r1 r2) / (dot3 e20 e21 e22 r0 r1 r2)) / (dot3 e00 e01 e02 e00 e01 e02))) + (e10 * (((dot3 e10 e11 e12 r0 r1 r2) / (dot3 e20 e21 e22 r0 r1 r2)) / (dot3 e10 e11 e12 e10 e11 e12)))) + (e20 * (((1 : Int) : Rat) / (dot3 e20 e21 e22 e20 e21 e22)))) = g0) (g1 : Rat) (hg1 : (((e01 * (((dot3 e00 e01 e02 r0 r1 r2) / (dot3 e20 e21 e22 r0 r1 r2)) / (dot3 e00 e01 e02 e00 e01 e02))) + (e11 * (((dot3 e10 e11 e12 r0 r1 r2) / (dot3 e20 e21 e22 r0 r1 r2)) / (dot3 e10 e11 e12 e10 e11 e12)))) + (e21 * (((1 : Int) : Rat) / (dot3 e20 e21 e22 e20 e21 e22)))) = g1) (g2 : Rat) (hg2 : (((e02 * (((dot3 e00 e01 e02 r0 r1 r2) / (dot3 e20 e21 e22 r0 r1 r2)) / (dot3 e00 e01 e02 e00 e01 e02))) + (e12 * (((dot3 e10 e11 e12 r0 r1 r2) / (dot3 e20 e21 e22 r0 r1 r2)) / (dot3 e10 e11 e12 e10 e11 e12)))) + (e22 * (((1 : Int) : Rat) / (dot3 e20 e21 e22 e20 e21 e22)))) = g2) (hl : stnC 0 0 0 0 0 focal 1 0 0 0 = 0) (hr : stnC base 0 0 0 0 focal 1 0 0 0 = 0) (hup : upV 1 0 0 0 1 0 0 0 b0 b1 b2 = false) (hd : ¬ (signQ (dot3 e20 e21 e22 r0 r1 r2)) ≤ 0) (hsd_ : ¬ (signQ ((dot3 e00 e01 e02 b0 b1 b2) / (dot3 e20 e21 e22 r0 r1 r2))) ≤ 0) (hpx_ : (((0 : Int) : Rat) + (g0 * ((dot3 e00 e01 e02 b0 b1 b2) / ((dot3 e00 e01 e02 b0 b1 b2) / (dot3 e20 e21 e22 r0 r1 r2))))) = ((px : Int) : Rat)) (hpy_ : (((0 : Int) : Rat) + (g1 * ((dot3 e00 e01 e02 b0 b1 b2) / ((dot3 e00 e01 e02 b0 b1 b2) / (dot3 e20 e21 e22 r0 r1 r2))))) = ((py : Int) : Rat)) (hpz_ : (((0 : Int) : Rat) + (g2 * ((dot3 e00 e01 e02 b0 b1 b2) / ((dot3 e00 e01 e02 b0 b1 b2) / (dot3 e20 e21 e22 r0 r1 r2))))) = ((pz : Int) : Rat)) (hpix : IntKind.wrap .i64 ((((2 * focal) * base) + (64 * pz)).tdiv (128 * pz)) = pix) (hpb : 0 ≤ pix ∧ pix ≤ 4294967296) (hcmp : ¬ 0 < (cmpQ (absQ (((Rat.divInt focal 64) * ((dot3 e00 e01 e02 b0 b1 b2) / (dot3 e20 e21 e22 r0 r1 r2))) - ((pix : Int) : Rat))) (Rat.divInt 1 2))) (ho : true = (decide (pix < 1) || decide (1048576 < pix))) : Takes Tryz.prog 11 [(.val (.int .i64 (base))), (.val (.int .i64 (focal))), (encSpot (RSpot.mk px py pz))] (.val (.bool (true))) := by
  have hfb := fb_b (a := focal) (b := base) (by omega) (by omega)
  have h2fb : 0 ≤ (2 * focal) * base ∧ (2 * focal) * base ≤ 4294967296 := by rw [Int.mul_assoc]; have := fb_b2 (a := focal) (b := base) (by omega) (by omega); omega
  let y1 := (bx (encA43 (A3.mk (ofQ (((0 : Int) : Rat) + (g0 * ((dot3 e00 e01 e02 b0 b1 b2) / ((dot3 e00 e01 e02 b0 b1 b2) / (dot3 e20 e21 e22 r0 r1 r2)))))) (ofQ (((0 : Int) : Rat) + (g1 * ((dot3 e00 e01 e02 b0 b1 b2) / ((dot3 e00 e01 e02 b0 b1 b2) / (dot3 e20 e21 e22 r0 r1 r2)))))) (ofQ (((0 : Int) : Rat) + (g2 * ((dot3 e00 e01 e02 b0 b1 b2) / ((dot3 e00 e01 e02 b0 b1 b2) / (dot3 e20 e21 e22 r0 r1 r2)))))))))
  refine fn_intro Tryz.func11 rfl cb11 rfl ?_
  show PWp _ _ _ _ ⟨[(0, (vi base)), (1, (vi focal)), (2, (.d (encSpot (RSpot.mk px py pz))))], []⟩
  refine pwp_seq <| kx [(5, (.ref 0 0))] [(0, some (bx (encSpot (RSpot.mk px py pz))))] (zN (oBx 0) <| zM <| zZ) ?_
  refine pwp_seq <| pwp_seq <| kx [(20, (vb false))] [] (zE (oCl t_rect) <| zE oNt <| zZ) ?_
  refine pwp_cond (b := false) (by kernel_rfl) (fun h => by cases h) (fun _ => ?_)
  refine pwp_skip <| pwp_seq <| pwp_seq <| kx [(57, (vb false))] [] (zM <| zE (oBk false oLt (by exact decide_eq_false (by omega))) <| zM <| zM <| zE (oBk false oGt (by exact decide_eq_false (by omega))) <| zE oPf <| zM <| zM <| zE (oBk false oLt (by exact decide_eq_false (by omega))) <| zE oPf <| zM <| zM <| zE (oBk false oGt (by exact decide_eq_false (by omega))) <| zE oPf <| zM <| zE (oFr fo23_2) <| zR (oL1 sh3) <| zE (oBk false oLt (by exact decide_eq_false (by first | omega | (dsimp only; omega)))) <| zE oPf <| zM <| zE (oFr fo23_0) <| zR (oL1 sh3) <| zE (oFr fo23_1) <| zR (oL1 sh3) <| zE (oFr fo23_2) <| zR (oL1 sh3) <| zE (oM3 (max (max px py) pz) (hr := by exact rfl)) <| zE (oBk false oGt (by exact decide_eq_false (by first | omega | (dsimp only; omega)))) <| zE oPf <| zM <| zE (oFr fo23_0) <| zR (oL1 sh3) <| zE (oFr fo23_1) <| zR (oL1 sh3) <| zE (zMn (min px py) (hr := by first | omega | (dsimp only; omega))) <| zE (oBk false oLt (by exact decide_eq_false (by first | omega | (dsimp only; omega)))) <| zE oPf <| zZ) ?_
  refine pwp_cond (b := false) (by kernel_rfl) (fun h => by cases h) (fun _ => ?_)
  refine pwp_skip <| pwp_seq <| kx [(7, (.ref 1 0))] [(1, some (bx (encStereo (RStereo.mk (RStn.mk (RSpot.mk 0 0 0) (RQuat.mk 1 0 0 0) focal (RPix.mk 0 0)) (RStn.mk (RSpot.mk base 0 0) (RQuat.mk 1 0 0 0) focal (RPix.mk 0 0))))))] (zM <| zM <| zE (oCl (t_cp base focal)) <| zN (oAl 1 ze31 zo31) <| zT (oSt sh31) <| zZ) ?_
  refine pwp_seq ?_
  have bn1 : QL r0 3 := (ql_eqz (Eq.symm hr0) (ql_int (z := (px - 0)) (n := 3) (lenZ_int (by omega) (by omega)) (by decide)))
  have bn2 : QL r1 3 := (ql_eqz (Eq.symm hr1) (ql_int (z := (py - 0)) (n := 3) (lenZ_int (by omega) (by omega)) (by decide)))
  have bn3 : QL r2 3 := (ql_eqz (Eq.symm hr2) (ql_int (z := (pz - 0)) (n := 3) (lenZ_int (by omega) (by omega)) (by decide)))
  have bn4 : QL ((dot3 e00 e01 e02 r0 r1 r2) / (dot3 e20 e21 e22 r0 r1 r2)) 4804 := (ql_div (k := 4804) (ql_dot3 (n := 400) (k := 2402) hqe00 hqe01 hqe02 (ql_up bn1 (by decide)) (ql_up bn2 (by decide)) (ql_up bn3 (by decide)) (by decide)) (ql_dot3 (n := 400) (k := 2402) hqe20 hqe21 hqe22 (ql_up bn1 (by decide)) (ql_up bn2 (by decide)) (ql_up bn3 (by decide)) (by decide)) (by decide))
  have bn5 : QL ((dot3 e10 e11 e12 r0 r1 r2) / (dot3 e20 e21 e22 r0 r1 r2)) 4804 := (ql_div (k := 4804) (ql_dot3 (n := 400) (k := 2402) hqe10 hqe11 hqe12 (ql_up bn1 (by decide)) (ql_up bn2 (by decide)) (ql_up bn3 (by decide)) (by decide)) (ql_dot3 (n := 400) (k := 2402) hqe20 hqe21 hqe22 (ql_up bn1 (by decide)) (ql_up bn2 (by decide)) (ql_up bn3 (by decide)) (by decide)) (by decide))
  have bn6 : QL ((dot3 e00 e01 e02 b0 b1 b2) / (dot3 e20 e21 e22 r0 r1 r2)) 4804 := (ql_div (k := 4804) (ql_dot3 (n := 400) (k := 2402) hqe00 hqe01 hqe02 (ql_up hqb0 (by decide)) (ql_up hqb1 (by decide)) (ql_up hqb2 (by decide)) (by decide)) (ql_dot3 (n := 400) (k := 2402) hqe20 hqe21 hqe22 (ql_up bn1 (by decide)) (ql_up bn2 (by decide)) (ql_up bn3 (by decide)) (by decide)) (by decide))
  refine kx [(8, (.ref 2 0)), (9, (.ref 3 0)), (10, (vi 0))] [(2, some (bx (encPlace (RPlace.mk (ofQ ((dot3 e00 e01 e02 r0 r1 r2) / (dot3 e20 e21 e22 r0 r1 r2))) (ofQ ((dot3 e10 e11 e12 r0 r1 r2) / (dot3 e20 e21 e22 r0 r1 r2))))))), (3, some (bx (encR (ofQ ((dot3 e00 e01 e02 b0 b1 b2) / (dot3 e20 e21 e22 r0 r1 r2))))))] (zR (oLa sh31) <| zR (oLa sh23) <| zE (oCl (q_prj 0 0 0 1 0 0 0 focal 0 0 base 0 0 1 0 0 0 focal 0 0 px py pz (by omega) (by omega) (by omega) b0 b1 b2 e00 e01 e02 e10 e11 e12 e20 e21 e22 hF hqb0 hqb1 hqb2 hqe00 hqe01 hqe02 hqe10 hqe11 hqe12 hqe20 hqe21 hqe22 r0 hr0 r1 hr1 r2 hr2 hl hr hup hd)) <| zM <| zE oEx <| zE oEx <| zE oEx <| zN (oAl 2 ze56 zo56) <| zN (oAl 3 ze42 zo42) <| zT (oSt sh56) <| zT (oSt sh42) <| zM <| zZ) ?_
  refine pwp_seq <| pwp_seq <| kx [(69, (vb false))] [] (zM <| zE oNe <| zZ) ?_
  refine pwp_cond (b := false) (by kernel_rfl) (fun h => by cases h) (fun _ => ?_)
  refine pwp_skip <| pwp_seq ?_
  have bn7 : QL g0 18019 := (ql_eqz (Eq.symm hg0) (ql_add (k := 18019) (ql_add (k := 15213) (ql_mul (k := 7606) hqe00 (ql_div (k := 7206) bn4 (ql_dot3 (n := 400) (k := 2402) hqe00 hqe01 hqe02 hqe00 hqe01 hqe02 (by decide)) (by decide)) (by decide)) (ql_mul (k := 7606) hqe10 (ql_div (k := 7206) bn5 (ql_dot3 (n := 400) (k := 2402) hqe10 hqe11 hqe12 hqe10 hqe11 hqe12 (by decide)) (by decide)) (by decide)) (by decide)) (ql_mul (k := 2805) hqe20 (ql_div (k := 2405) (ql_int (z := 1) (n := 3) (lenZ_int (by decide) (by decide)) (by decide)) (ql_dot3 (n := 400) (k := 2402) hqe20 hqe21 hqe22 hqe20 hqe21 hqe22 (by decide)) (by decide)) (by decide)) (by decide)))
  have bn8 : QL g1 18019 := (ql_eqz (Eq.symm hg1) (ql_add (k := 18019) (ql_add (k := 15213) (ql_mul (k := 7606) hqe01 (ql_div (k := 7206) bn4 (ql_dot3 (n := 400) (k := 2402) hqe00 hqe01 hqe02 hqe00 hqe01 hqe02 (by decide)) (by decide)) (by decide)) (ql_mul (k := 7606) hqe11 (ql_div (k := 7206) bn5 (ql_dot3 (n := 400) (k := 2402) hqe10 hqe11 hqe12 hqe10 hqe11 hqe12 (by decide)) (by decide)) (by decide)) (by decide)) (ql_mul (k := 2805) hqe21 (ql_div (k := 2405) (ql_int (z := 1) (n := 3) (lenZ_int (by decide) (by decide)) (by decide)) (ql_dot3 (n := 400) (k := 2402) hqe20 hqe21 hqe22 hqe20 hqe21 hqe22 (by decide)) (by decide)) (by decide)) (by decide)))
  have bn9 : QL g2 18019 := (ql_eqz (Eq.symm hg2) (ql_add (k := 18019) (ql_add (k := 15213) (ql_mul (k := 7606) hqe02 (ql_div (k := 7206) bn4 (ql_dot3 (n := 400) (k := 2402) hqe00 hqe01 hqe02 hqe00 hqe01 hqe02 (by decide)) (by decide)) (by decide)) (ql_mul (k := 7606) hqe12 (ql_div (k := 7206) bn5 (ql_dot3 (n := 400) (k := 2402) hqe10 hqe11 hqe12 hqe10 hqe11 hqe12 (by decide)) (by decide)) (by decide)) (by decide)) (ql_mul (k := 2805) hqe22 (ql_div (k := 2405) (ql_int (z := 1) (n := 3) (lenZ_int (by decide) (by decide)) (by decide)) (ql_dot3 (n := 400) (k := 2402) hqe20 hqe21 hqe22 hqe20 hqe21 hqe22 (by decide)) (by decide)) (by decide)) (by decide)))
  have bn10 : QL (((0 : Int) : Rat) + (g0 * ((dot3 e00 e01 e02 b0 b1 b2) / ((dot3 e00 e01 e02 b0 b1 b2) / (dot3 e20 e21 e22 r0 r1 r2))))) 25229 := (ql_add (k := 25229) (ql_int (z := 0) (n := 3) (lenZ_int (by omega) (by omega)) (by decide)) (ql_mul (k := 25225) bn7 (ql_div (k := 7206) (ql_dot3 (n := 400) (k := 2402) hqe00 hqe01 hqe02 (ql_up hqb0 (by decide)) (ql_up hqb1 (by decide)) (ql_up hqb2 (by decide)) (by decide)) bn6 (by decide)) (by decide)) (by decide))
  have bn11 : QL (((0 : Int) : Rat) + (g1 * ((dot3 e00 e01 e02 b0 b1 b2) / ((dot3 e00 e01 e02 b0 b1 b2) / (dot3 e20 e21 e22 r0 r1 r2))))) 25229 := (ql_add (k := 25229) (ql_int (z := 0) (n := 3) (lenZ_int (by omega) (by omega)) (by decide)) (ql_mul (k := 25225) bn8 (ql_div (k := 7206) (ql_dot3 (n := 400) (k := 2402) hqe00 hqe01 hqe02 (ql_up hqb0 (by decide)) (ql_up hqb1 (by decide)) (ql_up hqb2 (by decide)) (by decide)) bn6 (by decide)) (by decide)) (by decide))
  have bn12 : QL (((0 : Int) : Rat) + (g2 * ((dot3 e00 e01 e02 b0 b1 b2) / ((dot3 e00 e01 e02 b0 b1 b2) / (dot3 e20 e21 e22 r0 r1 r2))))) 25229 := (ql_add (k := 25229) (ql_int (z := 0) (n := 3) (lenZ_int (by omega) (by omega)) (by decide)) (ql_mul (k := 25225) bn9 (ql_div (k := 7206) (ql_dot3 (n := 400) (k := 2402) hqe00 hqe01 hqe02 (ql_up hqb0 (by decide)) (ql_up hqb1 (by decide)) (ql_up hqb2 (by decide)) (by decide)) bn6 (by decide)) (by decide)) (by decide))
  refine kx [(10, (vi 0)), (11, (.ref 4 0))] [(4, some y1)] (zR (oLa sh31) <| zR (oLa sh56) <| zR (oLa sh42) <| zE (oCl (q_pt 0 0 0 1 0 0 0 focal 0 0 base 0 0 1 0 0 0 focal 0 0 ((dot3 e00 e01 e02 r0 r1 r2) / (dot3 e20 e21 e22 r0 r1 r2)) ((dot3 e10 e11 e12 r0 r1 r2) / (dot3 e20 e21 e22 r0 r1 r2)) (ql_up bn4 (by decide)) (ql_up bn5 (by decide)) ((dot3 e00 e01 e02 b0 b1 b2) / (dot3 e20 e21 e22 r0 r1 r2)) (ql_up bn6 (by decide)) b0 b1 b2 e00 e01 e02 e10 e11 e12 e20 e21 e22 hF hqb0 hqb1 hqb2 hqe00 hqe01 hqe02 hqe10 hqe11 hqe12 hqe20 hqe21 hqe22 g0 hg0 g1 hg1 g2 hg2 hl hr hup hsd_)) <| zM <| zE oEx <| zE oEx <| zN (oAl 4 ze43 zo43) <| zT (oSt sh43) <| zM <| zZ) ?_
  refine pwp_seq <| pwp_seq ?_
  have bn13 : QL ((px : Int) : Rat) 3 := (ql_int (z := px) (lenZ_int (by omega) (by omega)) (by decide))
  have bn14 : QL ((py : Int) : Rat) 3 := (ql_int (z := py) (lenZ_int (by omega) (by omega)) (by decide))
  have bn15 : QL ((pz : Int) : Rat) 3 := (ql_int (z := pz) (lenZ_int (by omega) (by omega)) (by decide))
  refine kd [(93, (vb false))] [] mo (wM <| wE oNe <| wM <| wE (e_slv (by exact rfl) ar43 (by exact rfl) (by kernel_rfl) (by kernel_rfl)) <| wE (oFr fo23_0) <| wR (oL1 sh3) <| wE (oCl (g_whole px (by omega) (by omega))) <| wE (oFr fo23_1) <| wR (oL1 sh3) <| wE (oCl (g_whole py (by omega) (by omega))) <| wE (oFr fo23_2) <| wR (oL1 sh3) <| wE (oCl (g_whole pz (by omega) (by omega))) <| wE (oBs el52 ze42 zo42) <| wR ⟨y1, e_clv (es := List.map encR [(ofQ (((0 : Int) : Rat) + (g0 * ((dot3 e00 e01 e02 b0 b1 b2) / ((dot3 e00 e01 e02 b0 b1 b2) / (dot3 e20 e21 e22 r0 r1 r2)))))), (ofQ (((0 : Int) : Rat) + (g1 * ((dot3 e00 e01 e02 b0 b1 b2) / ((dot3 e00 e01 e02 b0 b1 b2) / (dot3 e20 e21 e22 r0 r1 r2)))))), (ofQ (((0 : Int) : Rat) + (g2 * ((dot3 e00 e01 e02 b0 b1 b2) / ((dot3 e00 e01 e02 b0 b1 b2) / (dot3 e20 e21 e22 r0 r1 r2))))))]) (g_sameL3 1000000 (((0 : Int) : Rat) + (g0 * ((dot3 e00 e01 e02 b0 b1 b2) / ((dot3 e00 e01 e02 b0 b1 b2) / (dot3 e20 e21 e22 r0 r1 r2))))) (((0 : Int) : Rat) + (g1 * ((dot3 e00 e01 e02 b0 b1 b2) / ((dot3 e00 e01 e02 b0 b1 b2) / (dot3 e20 e21 e22 r0 r1 r2))))) (((0 : Int) : Rat) + (g2 * ((dot3 e00 e01 e02 b0 b1 b2) / ((dot3 e00 e01 e02 b0 b1 b2) / (dot3 e20 e21 e22 r0 r1 r2))))) (ql_up bn10 (by decide)) (ql_up bn11 (by decide)) (ql_up bn12 (by decide)) 42 ((px : Int) : Rat) ((py : Int) : Rat) ((pz : Int) : Rat) (ql_up bn13 (by decide)) (ql_up bn14 (by decide)) (ql_up bn15 (by decide)) hpx_ hpy_ hpz_) (by exact rfl) (by kernel_rfl) (by exact rfl) (.v (.d .nil)) (pubs_cells _ _ (fun _ => rfl)) (by kernel_rfl) (by kernel_rfl) (.val _), by kernel_rfl⟩ <| wE oNt <| wE oPf <| wZ) ?_
  refine pwp_cond (b := false) (by kernel_rfl) (fun h => by cases h) (fun _ => ?_)
  refine pwp_skip <| pwp_seq <| kx [(12, (vi pix))] [] (zM <| zE (zMl (2 * focal)) <| zM <| zE (zMl ((2 * focal) * base)) <| zE (oFr fo23_2) <| zR (oL1 sh3) <| zE (zMl (64 * pz) (hr := by exact (wi64 rfl (by omega) (by omega)))) <| zE (zAd (((2 * focal) * base) + (64 * pz))) <| zE (oFr fo23_2) <| zR (oL1 sh3) <| zE (zMl (128 * pz) (hr := by exact (wi64 rfl (by omega) (by omega)))) <| zE (zQu pix (hr := by exact hpix)) <| zM <| zZ) ?_
  refine pwp_seq ?_
  have bn16 : QL (Rat.divInt focal 64) 3 := (ql_divInt (n := 3) (lenZ_int (by omega) (by omega)) (lenZ_int (by omega) (by omega)) (by decide))
  refine kx [(13, (.ref 5 0))] [(5, some (bx (encR (ofQ (Rat.divInt focal 64)))))] (zM <| zE (oCl (qs_of focal (by omega) (by omega) 64 (by omega) (by omega) (by decide))) <| zM <| zE oEx <| zE oEx <| zN (oAl 5 ze42 zo42) <| zT (oSt sh42) <| zM <| zZ) ?_
  refine pwp_seq <| kx [] [(5, some (bx (encR (ofQ ((Rat.divInt focal 64) * ((dot3 e00 e01 e02 b0 b1 b2) / (dot3 e20 e21 e22 r0 r1 r2)))))))] (zR (oLa sh42) <| zR (oLa sh42) <| zE (oCl (g_mul (ofQ (Rat.divInt focal 64)) (ofQ ((dot3 e00 e01 e02 b0 b1 b2) / (dot3 e20 e21 e22 r0 r1 r2))) (Rat.divInt focal 64) ((dot3 e00 e01 e02 b0 b1 b2) / (dot3 e20 e21 e22 r0 r1 r2)) (qok_up (qok_of bn16) (by decide)) (qok_up (qok_of bn6) (by decide)))) <| zT (oSt sh42) <| zZ) ?_
  refine pwp_seq ?_
  have bn17 : QL (Rat.divInt 1 2) 3 := (ql_divInt (n := 3) (lenZ_int (by omega) (by omega)) (lenZ_int (by omega) (by omega)) (by decide))
  refine kx [(15, (.ref 6 0))] [(6, some (bx (encR (ofQ (Rat.divInt 1 2)))))] (zE (oCl (qs_of 1 (by omega) (by omega) 2 (by omega) (by omega) (by decide))) <| zM <| zE oEx <| zE oEx <| zN (oAl 6 ze42 zo42) <| zT (oSt sh42) <| zM <| zZ) ?_
  refine pwp_seq <| pwp_seq ?_
  have bn18 : QL ((pix : Int) : Rat) 3 := (ql_int (z := pix) (lenZ_int (by omega) (by omega)) (by decide))
  have bn19 : QL (((Rat.divInt focal 64) * ((dot3 e00 e01 e02 b0 b1 b2) / (dot3 e20 e21 e22 r0 r1 r2))) - ((pix : Int) : Rat)) 4811 := (ql_sub (k := 4811) (ql_mul (k := 4807) bn16 bn6 (by decide)) bn18 (by decide))
  refine kd [(125, (vb false))] [] mo (wR (oLa sh42) <| wM <| wE (oCl (g_whole pix (by omega) (by omega))) <| wE (oCl (g_sub (ofQ ((Rat.divInt focal 64) * ((dot3 e00 e01 e02 b0 b1 b2) / (dot3 e20 e21 e22 r0 r1 r2)))) (ofQ ((pix : Int) : Rat)) ((Rat.divInt focal 64) * ((dot3 e00 e01 e02 b0 b1 b2) / (dot3 e20 e21 e22 r0 r1 r2))) ((pix : Int) : Rat) (qok_up (qok_of (ql_mul (k := 4807) bn16 bn6 (by decide))) (by decide)) (qok_up (qok_of bn18) (by decide)))) <| wE (oCl (g_abs (ofQ (((Rat.divInt focal 64) * ((dot3 e00 e01 e02 b0 b1 b2) / (dot3 e20 e21 e22 r0 r1 r2))) - ((pix : Int) : Rat))) (((Rat.divInt focal 64) * ((dot3 e00 e01 e02 b0 b1 b2) / (dot3 e20 e21 e22 r0 r1 r2))) - ((pix : Int) : Rat)) (qok_up (qok_of bn19) (by decide)))) <| wR (oLa sh42) <| wE (oCl (g_compare (ofQ (absQ (((Rat.divInt focal 64) * ((dot3 e00 e01 e02 b0 b1 b2) / (dot3 e20 e21 e22 r0 r1 r2))) - ((pix : Int) : Rat)))) (ofQ (Rat.divInt 1 2)) (absQ (((Rat.divInt focal 64) * ((dot3 e00 e01 e02 b0 b1 b2) / (dot3 e20 e21 e22 r0 r1 r2))) - ((pix : Int) : Rat))) (Rat.divInt 1 2) (qok_up (qok_of (ql_abs bn19)) (by decide)) (qok_up (qok_of bn17) (by decide)))) <| wE (oBk false oGt (by exact decide_eq_false hcmp)) <| wZ) ?_
  refine pwp_cond (b := false) (by kernel_rfl) (fun h => by cases h) (fun _ => ?_)
  refine pwp_skip <| pwp_seq <| pwp_seq <| kx [(131, (vb (decide (pix < 1) || decide (1048576 < pix))))] [] ?_ ?_
  · refine zM <| zE oLt <| zE (oV (vb (decide (pix < 1))) (mv_ok (by kernel_rfl))) <| ?_
    rcases hb1 : (decide (pix < 1)) with _ | _
    · replace hb1 := of_decide_eq_false hb1
      exact zM <| zE oGt <| zE oPo <| zZ
    · replace hb1 := of_decide_eq_true hb1
      exact zK <| zK <| zE oPt <| zZ
  refine pwp_cond rfl (fun h2 => ?_) (fun h2 => ?_)
  · refine pwp_seq <| pwp_sim (wk (l := [(0, (vi base)), (1, (vi focal)), (5, (.ref 0 0)), (12, (vi pix)), (131, (vb (decide (pix < 1) || decide (1048576 < pix))))]) (b := [(0, some (bx (encSpot (RSpot.mk px py pz))))])) ?_
    refine kx [(6, (vb true))] [] (zM <| zZ) ?_
    refine pwp_ret ⟨_, (.tmp (d := (.val (.bool (true)))) rfl .nil), ?_⟩
    rfl
  · exact absurd (ho.trans h2) (by decide)
theorem w_top (base : Int) (hbasel : 1 ≤ base) (hbaseh : base ≤ 32768) (focal : Int) (hfocall : 1 ≤ focal) (hfocalh : focal ≤ 32768) (px py pz : Int) (hpx : -32768 ≤ px ∧ px ≤ 32768) (hpy : -32768 ≤ py ∧ py ≤ 32768) (hpz : 1 ≤ pz ∧ pz ≤ 32768) (b0 b1 b2 e00 e01 e02 e10 e11 e12 e20 e21 e22 : Rat) (hF : RFr 0 0 0 1 0 0 0 base 0 0 1 0 0 0 b0 b1 b2 e00 e01 e02 e10 e11 e12 e20 e21 e22) (hqb0 : QL b0 3) (hqb1 : QL b1 3) (hqb2 : QL b2 3) (hqe00 : QL e00 400) (hqe01 : QL e01 400) (hqe02 : QL e02 400) (hqe10 : QL e10 400) (hqe11 : QL e11 400) (hqe12 : QL e12 400) (hqe20 : QL e20 400) (hqe21 : QL e21 400) (hqe22 : QL e22 400) (pix : Int) (r0 : Rat) (hr0 : ((px - 0 : Int) : Rat) = r0) (r1 : Rat) (hr1 : ((py - 0 : Int) : Rat) = r1) (r2 : Rat) (hr2 : ((pz - 0 : Int) : Rat) = r2) (g0 : Rat) (hg0 : (((e00 * (((dot3 e00 e01 e02 r0 r1 r2) / (dot3 e20 e21 e22 r0 r1 r2)) / (dot3 e00 e01 e02 e00 e01 e02))) + (e10 * (((dot3 e10 e11 e12 r0 r1 r2) / (dot3 e20 e21 e22 r0 r1 r2)) / (dot3 e10 e11 e12 e10 e11 e12)))) + (e20 * (((1 : Int) : Rat) / (dot3 e20 e21 e22 e20 e21 e22)))) = g0) (g1 : Rat) (hg1 : (((e01 * (((dot3 e00 e01 e02 r0 r1 r2) / (dot3 e20 e21 e22 r0 r1 r2)) / (dot3 e00 e01 e02 e00 e01 e02))) + (e11 * (((dot3 e10 e11 e12 r0 r1 r2) / (dot3 e20 e21 e22 r0 r1 r2)) / (dot3 e10 e11 e12 e10 e11 e12)))) + (e21 * (((1 : Int) : Rat) / (dot3 e20 e21 e22 e20 e21 e22)))) = g1) (g2 : Rat) (hg2 : (((e02 * (((dot3 e00 e01 e02 r0 r1 r2) / (dot3 e20 e21 e22 r0 r1 r2)) / (dot3 e00 e01 e02 e00 e01 e02))) + (e12 * (((dot3 e10 e11 e12 r0 r1 r2) / (dot3 e20 e21 e22 r0 r1 r2)) / (dot3 e10 e11 e12 e10 e11 e12)))) + (e22 * (((1 : Int) : Rat) / (dot3 e20 e21 e22 e20 e21 e22)))) = g2) (hl : stnC 0 0 0 0 0 focal 1 0 0 0 = 0) (hr : stnC base 0 0 0 0 focal 1 0 0 0 = 0) (hup : upV 1 0 0 0 1 0 0 0 b0 b1 b2 = false) (hd : ¬ (signQ (dot3 e20 e21 e22 r0 r1 r2)) ≤ 0) (hsd_ : ¬ (signQ ((dot3 e00 e01 e02 b0 b1 b2) / (dot3 e20 e21 e22 r0 r1 r2))) ≤ 0) (hpx_ : (((0 : Int) : Rat) + (g0 * ((dot3 e00 e01 e02 b0 b1 b2) / ((dot3 e00 e01 e02 b0 b1 b2) / (dot3 e20 e21 e22 r0 r1 r2))))) = ((px : Int) : Rat)) (hpy_ : (((0 : Int) : Rat) + (g1 * ((dot3 e00 e01 e02 b0 b1 b2) / ((dot3 e00 e01 e02 b0 b1 b2) / (dot3 e20 e21 e22 r0 r1 r2))))) = ((py : Int) : Rat)) (hpz_ : (((0 : Int) : Rat) + (g2 * ((dot3 e00 e01 e02 b0 b1 b2) / ((dot3 e00 e01 e02 b0 b1 b2) / (dot3 e20 e21 e22 r0 r1 r2))))) = ((pz : Int) : Rat)) (hpix : IntKind.wrap .i64 ((((2 * focal) * base) + (64 * pz)).tdiv (128 * pz)) = pix) (hpb : 0 ≤ pix ∧ pix ≤ 4294967296) (hcmp : ¬ 0 < (cmpQ (absQ (((Rat.divInt focal 64) * ((dot3 e00 e01 e02 b0 b1 b2) / (dot3 e20 e21 e22 r0 r1 r2))) - ((pix : Int) : Rat))) (Rat.divInt 1 2))) (hi : 1 ≤ pix ∧ pix ≤ 1048576) (hlo : (cmpQ (Rat.divInt (focal * base) (32 * ((2 * pix) + 1))) ((pz : Int) : Rat)) ≤ 0) (hhi : (cmpQ ((pz : Int) : Rat) (Rat.divInt (focal * base) (32 * ((2 * pix) - 1)))) ≤ 0) : Takes Tryz.prog 11 [(.val (.int .i64 (base))), (.val (.int .i64 (focal))), (encSpot (RSpot.mk px py pz))] (.val (.bool (true))) := by
  have hfb := fb_b (a := focal) (b := base) (by omega) (by omega)
  have h2fb : 0 ≤ (2 * focal) * base ∧ (2 * focal) * base ≤ 4294967296 := by rw [Int.mul_assoc]; have := fb_b2 (a := focal) (b := base) (by omega) (by omega); omega
  let y1 := (bx (encA43 (A3.mk (ofQ (((0 : Int) : Rat) + (g0 * ((dot3 e00 e01 e02 b0 b1 b2) / ((dot3 e00 e01 e02 b0 b1 b2) / (dot3 e20 e21 e22 r0 r1 r2)))))) (ofQ (((0 : Int) : Rat) + (g1 * ((dot3 e00 e01 e02 b0 b1 b2) / ((dot3 e00 e01 e02 b0 b1 b2) / (dot3 e20 e21 e22 r0 r1 r2)))))) (ofQ (((0 : Int) : Rat) + (g2 * ((dot3 e00 e01 e02 b0 b1 b2) / ((dot3 e00 e01 e02 b0 b1 b2) / (dot3 e20 e21 e22 r0 r1 r2)))))))))
  refine fn_intro Tryz.func11 rfl cb11 rfl ?_
  show PWp _ _ _ _ ⟨[(0, (vi base)), (1, (vi focal)), (2, (.d (encSpot (RSpot.mk px py pz))))], []⟩
  refine pwp_seq <| kx [(5, (.ref 0 0))] [(0, some (bx (encSpot (RSpot.mk px py pz))))] (zN (oBx 0) <| zM <| zZ) ?_
  refine pwp_seq <| pwp_seq <| kx [(20, (vb false))] [] (zE (oCl t_rect) <| zE oNt <| zZ) ?_
  refine pwp_cond (b := false) (by kernel_rfl) (fun h => by cases h) (fun _ => ?_)
  refine pwp_skip <| pwp_seq <| pwp_seq <| kx [(57, (vb false))] [] (zM <| zE (oBk false oLt (by exact decide_eq_false (by omega))) <| zM <| zM <| zE (oBk false oGt (by exact decide_eq_false (by omega))) <| zE oPf <| zM <| zM <| zE (oBk false oLt (by exact decide_eq_false (by omega))) <| zE oPf <| zM <| zM <| zE (oBk false oGt (by exact decide_eq_false (by omega))) <| zE oPf <| zM <| zE (oFr fo23_2) <| zR (oL1 sh3) <| zE (oBk false oLt (by exact decide_eq_false (by first | omega | (dsimp only; omega)))) <| zE oPf <| zM <| zE (oFr fo23_0) <| zR (oL1 sh3) <| zE (oFr fo23_1) <| zR (oL1 sh3) <| zE (oFr fo23_2) <| zR (oL1 sh3) <| zE (oM3 (max (max px py) pz) (hr := by exact rfl)) <| zE (oBk false oGt (by exact decide_eq_false (by first | omega | (dsimp only; omega)))) <| zE oPf <| zM <| zE (oFr fo23_0) <| zR (oL1 sh3) <| zE (oFr fo23_1) <| zR (oL1 sh3) <| zE (zMn (min px py) (hr := by first | omega | (dsimp only; omega))) <| zE (oBk false oLt (by exact decide_eq_false (by first | omega | (dsimp only; omega)))) <| zE oPf <| zZ) ?_
  refine pwp_cond (b := false) (by kernel_rfl) (fun h => by cases h) (fun _ => ?_)
  refine pwp_skip <| pwp_seq <| kx [(7, (.ref 1 0))] [(1, some (bx (encStereo (RStereo.mk (RStn.mk (RSpot.mk 0 0 0) (RQuat.mk 1 0 0 0) focal (RPix.mk 0 0)) (RStn.mk (RSpot.mk base 0 0) (RQuat.mk 1 0 0 0) focal (RPix.mk 0 0))))))] (zM <| zM <| zE (oCl (t_cp base focal)) <| zN (oAl 1 ze31 zo31) <| zT (oSt sh31) <| zZ) ?_
  refine pwp_seq ?_
  have bn1 : QL r0 3 := (ql_eqz (Eq.symm hr0) (ql_int (z := (px - 0)) (n := 3) (lenZ_int (by omega) (by omega)) (by decide)))
  have bn2 : QL r1 3 := (ql_eqz (Eq.symm hr1) (ql_int (z := (py - 0)) (n := 3) (lenZ_int (by omega) (by omega)) (by decide)))
  have bn3 : QL r2 3 := (ql_eqz (Eq.symm hr2) (ql_int (z := (pz - 0)) (n := 3) (lenZ_int (by omega) (by omega)) (by decide)))
  have bn4 : QL ((dot3 e00 e01 e02 r0 r1 r2) / (dot3 e20 e21 e22 r0 r1 r2)) 4804 := (ql_div (k := 4804) (ql_dot3 (n := 400) (k := 2402) hqe00 hqe01 hqe02 (ql_up bn1 (by decide)) (ql_up bn2 (by decide)) (ql_up bn3 (by decide)) (by decide)) (ql_dot3 (n := 400) (k := 2402) hqe20 hqe21 hqe22 (ql_up bn1 (by decide)) (ql_up bn2 (by decide)) (ql_up bn3 (by decide)) (by decide)) (by decide))
  have bn5 : QL ((dot3 e10 e11 e12 r0 r1 r2) / (dot3 e20 e21 e22 r0 r1 r2)) 4804 := (ql_div (k := 4804) (ql_dot3 (n := 400) (k := 2402) hqe10 hqe11 hqe12 (ql_up bn1 (by decide)) (ql_up bn2 (by decide)) (ql_up bn3 (by decide)) (by decide)) (ql_dot3 (n := 400) (k := 2402) hqe20 hqe21 hqe22 (ql_up bn1 (by decide)) (ql_up bn2 (by decide)) (ql_up bn3 (by decide)) (by decide)) (by decide))
  have bn6 : QL ((dot3 e00 e01 e02 b0 b1 b2) / (dot3 e20 e21 e22 r0 r1 r2)) 4804 := (ql_div (k := 4804) (ql_dot3 (n := 400) (k := 2402) hqe00 hqe01 hqe02 (ql_up hqb0 (by decide)) (ql_up hqb1 (by decide)) (ql_up hqb2 (by decide)) (by decide)) (ql_dot3 (n := 400) (k := 2402) hqe20 hqe21 hqe22 (ql_up bn1 (by decide)) (ql_up bn2 (by decide)) (ql_up bn3 (by decide)) (by decide)) (by decide))
  refine kx [(8, (.ref 2 0)), (9, (.ref 3 0)), (10, (vi 0))] [(2, some (bx (encPlace (RPlace.mk (ofQ ((dot3 e00 e01 e02 r0 r1 r2) / (dot3 e20 e21 e22 r0 r1 r2))) (ofQ ((dot3 e10 e11 e12 r0 r1 r2) / (dot3 e20 e21 e22 r0 r1 r2))))))), (3, some (bx (encR (ofQ ((dot3 e00 e01 e02 b0 b1 b2) / (dot3 e20 e21 e22 r0 r1 r2))))))] (zR (oLa sh31) <| zR (oLa sh23) <| zE (oCl (q_prj 0 0 0 1 0 0 0 focal 0 0 base 0 0 1 0 0 0 focal 0 0 px py pz (by omega) (by omega) (by omega) b0 b1 b2 e00 e01 e02 e10 e11 e12 e20 e21 e22 hF hqb0 hqb1 hqb2 hqe00 hqe01 hqe02 hqe10 hqe11 hqe12 hqe20 hqe21 hqe22 r0 hr0 r1 hr1 r2 hr2 hl hr hup hd)) <| zM <| zE oEx <| zE oEx <| zE oEx <| zN (oAl 2 ze56 zo56) <| zN (oAl 3 ze42 zo42) <| zT (oSt sh56) <| zT (oSt sh42) <| zM <| zZ) ?_
  refine pwp_seq <| pwp_seq <| kx [(69, (vb false))] [] (zM <| zE oNe <| zZ) ?_
  refine pwp_cond (b := false) (by kernel_rfl) (fun h => by cases h) (fun _ => ?_)
  refine pwp_skip <| pwp_seq ?_
  have bn7 : QL g0 18019 := (ql_eqz (Eq.symm hg0) (ql_add (k := 18019) (ql_add (k := 15213) (ql_mul (k := 7606) hqe00 (ql_div (k := 7206) bn4 (ql_dot3 (n := 400) (k := 2402) hqe00 hqe01 hqe02 hqe00 hqe01 hqe02 (by decide)) (by decide)) (by decide)) (ql_mul (k := 7606) hqe10 (ql_div (k := 7206) bn5 (ql_dot3 (n := 400) (k := 2402) hqe10 hqe11 hqe12 hqe10 hqe11 hqe12 (by decide)) (by decide)) (by decide)) (by decide)) (ql_mul (k := 2805) hqe20 (ql_div (k := 2405) (ql_int (z := 1) (n := 3) (lenZ_int (by decide) (by decide)) (by decide)) (ql_dot3 (n := 400) (k := 2402) hqe20 hqe21 hqe22 hqe20 hqe21 hqe22 (by decide)) (by decide)) (by decide)) (by decide)))
  have bn8 : QL g1 18019 := (ql_eqz (Eq.symm hg1) (ql_add (k := 18019) (ql_add (k := 15213) (ql_mul (k := 7606) hqe01 (ql_div (k := 7206) bn4 (ql_dot3 (n := 400) (k := 2402) hqe00 hqe01 hqe02 hqe00 hqe01 hqe02 (by decide)) (by decide)) (by decide)) (ql_mul (k := 7606) hqe11 (ql_div (k := 7206) bn5 (ql_dot3 (n := 400) (k := 2402) hqe10 hqe11 hqe12 hqe10 hqe11 hqe12 (by decide)) (by decide)) (by decide)) (by decide)) (ql_mul (k := 2805) hqe21 (ql_div (k := 2405) (ql_int (z := 1) (n := 3) (lenZ_int (by decide) (by decide)) (by decide)) (ql_dot3 (n := 400) (k := 2402) hqe20 hqe21 hqe22 hqe20 hqe21 hqe22 (by decide)) (by decide)) (by decide)) (by decide)))
  have bn9 : QL g2 18019 := (ql_eqz (Eq.symm hg2) (ql_add (k := 18019) (ql_add (k := 15213) (ql_mul (k := 7606) hqe02 (ql_div (k := 7206) bn4 (ql_dot3 (n := 400) (k := 2402) hqe00 hqe01 hqe02 hqe00 hqe01 hqe02 (by decide)) (by decide)) (by decide)) (ql_mul (k := 7606) hqe12 (ql_div (k := 7206) bn5 (ql_dot3 (n := 400) (k := 2402) hqe10 hqe11 hqe12 hqe10 hqe11 hqe12 (by decide)) (by decide)) (by decide)) (by decide)) (ql_mul (k := 2805) hqe22 (ql_div (k := 2405) (ql_int (z := 1) (n := 3) (lenZ_int (by decide) (by decide)) (by decide)) (ql_dot3 (n := 400) (k := 2402) hqe20 hqe21 hqe22 hqe20 hqe21 hqe22 (by decide)) (by decide)) (by decide)) (by decide)))
  have bn10 : QL (((0 : Int) : Rat) + (g0 * ((dot3 e00 e01 e02 b0 b1 b2) / ((dot3 e00 e01 e02 b0 b1 b2) / (dot3 e20 e21 e22 r0 r1 r2))))) 25229 := (ql_add (k := 25229) (ql_int (z := 0) (n := 3) (lenZ_int (by omega) (by omega)) (by decide)) (ql_mul (k := 25225) bn7 (ql_div (k := 7206) (ql_dot3 (n := 400) (k := 2402) hqe00 hqe01 hqe02 (ql_up hqb0 (by decide)) (ql_up hqb1 (by decide)) (ql_up hqb2 (by decide)) (by decide)) bn6 (by decide)) (by decide)) (by decide))
  have bn11 : QL (((0 : Int) : Rat) + (g1 * ((dot3 e00 e01 e02 b0 b1 b2) / ((dot3 e00 e01 e02 b0 b1 b2) / (dot3 e20 e21 e22 r0 r1 r2))))) 25229 := (ql_add (k := 25229) (ql_int (z := 0) (n := 3) (lenZ_int (by omega) (by omega)) (by decide)) (ql_mul (k := 25225) bn8 (ql_div (k := 7206) (ql_dot3 (n := 400) (k := 2402) hqe00 hqe01 hqe02 (ql_up hqb0 (by decide)) (ql_up hqb1 (by decide)) (ql_up hqb2 (by decide)) (by decide)) bn6 (by decide)) (by decide)) (by decide))
  have bn12 : QL (((0 : Int) : Rat) + (g2 * ((dot3 e00 e01 e02 b0 b1 b2) / ((dot3 e00 e01 e02 b0 b1 b2) / (dot3 e20 e21 e22 r0 r1 r2))))) 25229 := (ql_add (k := 25229) (ql_int (z := 0) (n := 3) (lenZ_int (by omega) (by omega)) (by decide)) (ql_mul (k := 25225) bn9 (ql_div (k := 7206) (ql_dot3 (n := 400) (k := 2402) hqe00 hqe01 hqe02 (ql_up hqb0 (by decide)) (ql_up hqb1 (by decide)) (ql_up hqb2 (by decide)) (by decide)) bn6 (by decide)) (by decide)) (by decide))
  refine kx [(10, (vi 0)), (11, (.ref 4 0))] [(4, some y1)] (zR (oLa sh31) <| zR (oLa sh56) <| zR (oLa sh42) <| zE (oCl (q_pt 0 0 0 1 0 0 0 focal 0 0 base 0 0 1 0 0 0 focal 0 0 ((dot3 e00 e01 e02 r0 r1 r2) / (dot3 e20 e21 e22 r0 r1 r2)) ((dot3 e10 e11 e12 r0 r1 r2) / (dot3 e20 e21 e22 r0 r1 r2)) (ql_up bn4 (by decide)) (ql_up bn5 (by decide)) ((dot3 e00 e01 e02 b0 b1 b2) / (dot3 e20 e21 e22 r0 r1 r2)) (ql_up bn6 (by decide)) b0 b1 b2 e00 e01 e02 e10 e11 e12 e20 e21 e22 hF hqb0 hqb1 hqb2 hqe00 hqe01 hqe02 hqe10 hqe11 hqe12 hqe20 hqe21 hqe22 g0 hg0 g1 hg1 g2 hg2 hl hr hup hsd_)) <| zM <| zE oEx <| zE oEx <| zN (oAl 4 ze43 zo43) <| zT (oSt sh43) <| zM <| zZ) ?_
  refine pwp_seq <| pwp_seq ?_
  have bn13 : QL ((px : Int) : Rat) 3 := (ql_int (z := px) (lenZ_int (by omega) (by omega)) (by decide))
  have bn14 : QL ((py : Int) : Rat) 3 := (ql_int (z := py) (lenZ_int (by omega) (by omega)) (by decide))
  have bn15 : QL ((pz : Int) : Rat) 3 := (ql_int (z := pz) (lenZ_int (by omega) (by omega)) (by decide))
  refine kd [(93, (vb false))] [] mo (wM <| wE oNe <| wM <| wE (e_slv (by exact rfl) ar43 (by exact rfl) (by kernel_rfl) (by kernel_rfl)) <| wE (oFr fo23_0) <| wR (oL1 sh3) <| wE (oCl (g_whole px (by omega) (by omega))) <| wE (oFr fo23_1) <| wR (oL1 sh3) <| wE (oCl (g_whole py (by omega) (by omega))) <| wE (oFr fo23_2) <| wR (oL1 sh3) <| wE (oCl (g_whole pz (by omega) (by omega))) <| wE (oBs el52 ze42 zo42) <| wR ⟨y1, e_clv (es := List.map encR [(ofQ (((0 : Int) : Rat) + (g0 * ((dot3 e00 e01 e02 b0 b1 b2) / ((dot3 e00 e01 e02 b0 b1 b2) / (dot3 e20 e21 e22 r0 r1 r2)))))), (ofQ (((0 : Int) : Rat) + (g1 * ((dot3 e00 e01 e02 b0 b1 b2) / ((dot3 e00 e01 e02 b0 b1 b2) / (dot3 e20 e21 e22 r0 r1 r2)))))), (ofQ (((0 : Int) : Rat) + (g2 * ((dot3 e00 e01 e02 b0 b1 b2) / ((dot3 e00 e01 e02 b0 b1 b2) / (dot3 e20 e21 e22 r0 r1 r2))))))]) (g_sameL3 1000000 (((0 : Int) : Rat) + (g0 * ((dot3 e00 e01 e02 b0 b1 b2) / ((dot3 e00 e01 e02 b0 b1 b2) / (dot3 e20 e21 e22 r0 r1 r2))))) (((0 : Int) : Rat) + (g1 * ((dot3 e00 e01 e02 b0 b1 b2) / ((dot3 e00 e01 e02 b0 b1 b2) / (dot3 e20 e21 e22 r0 r1 r2))))) (((0 : Int) : Rat) + (g2 * ((dot3 e00 e01 e02 b0 b1 b2) / ((dot3 e00 e01 e02 b0 b1 b2) / (dot3 e20 e21 e22 r0 r1 r2))))) (ql_up bn10 (by decide)) (ql_up bn11 (by decide)) (ql_up bn12 (by decide)) 42 ((px : Int) : Rat) ((py : Int) : Rat) ((pz : Int) : Rat) (ql_up bn13 (by decide)) (ql_up bn14 (by decide)) (ql_up bn15 (by decide)) hpx_ hpy_ hpz_) (by exact rfl) (by kernel_rfl) (by exact rfl) (.v (.d .nil)) (pubs_cells _ _ (fun _ => rfl)) (by kernel_rfl) (by kernel_rfl) (.val _), by kernel_rfl⟩ <| wE oNt <| wE oPf <| wZ) ?_
  refine pwp_cond (b := false) (by kernel_rfl) (fun h => by cases h) (fun _ => ?_)
  refine pwp_skip <| pwp_seq <| kx [(12, (vi pix))] [] (zM <| zE (zMl (2 * focal)) <| zM <| zE (zMl ((2 * focal) * base)) <| zE (oFr fo23_2) <| zR (oL1 sh3) <| zE (zMl (64 * pz) (hr := by exact (wi64 rfl (by omega) (by omega)))) <| zE (zAd (((2 * focal) * base) + (64 * pz))) <| zE (oFr fo23_2) <| zR (oL1 sh3) <| zE (zMl (128 * pz) (hr := by exact (wi64 rfl (by omega) (by omega)))) <| zE (zQu pix (hr := by exact hpix)) <| zM <| zZ) ?_
  refine pwp_seq ?_
  have bn16 : QL (Rat.divInt focal 64) 3 := (ql_divInt (n := 3) (lenZ_int (by omega) (by omega)) (lenZ_int (by omega) (by omega)) (by decide))
  refine kx [(13, (.ref 5 0))] [(5, some (bx (encR (ofQ (Rat.divInt focal 64)))))] (zM <| zE (oCl (qs_of focal (by omega) (by omega) 64 (by omega) (by omega) (by decide))) <| zM <| zE oEx <| zE oEx <| zN (oAl 5 ze42 zo42) <| zT (oSt sh42) <| zM <| zZ) ?_
  refine pwp_seq <| kx [] [(5, some (bx (encR (ofQ ((Rat.divInt focal 64) * ((dot3 e00 e01 e02 b0 b1 b2) / (dot3 e20 e21 e22 r0 r1 r2)))))))] (zR (oLa sh42) <| zR (oLa sh42) <| zE (oCl (g_mul (ofQ (Rat.divInt focal 64)) (ofQ ((dot3 e00 e01 e02 b0 b1 b2) / (dot3 e20 e21 e22 r0 r1 r2))) (Rat.divInt focal 64) ((dot3 e00 e01 e02 b0 b1 b2) / (dot3 e20 e21 e22 r0 r1 r2)) (qok_up (qok_of bn16) (by decide)) (qok_up (qok_of bn6) (by decide)))) <| zT (oSt sh42) <| zZ) ?_
  refine pwp_seq ?_
  have bn17 : QL (Rat.divInt 1 2) 3 := (ql_divInt (n := 3) (lenZ_int (by omega) (by omega)) (lenZ_int (by omega) (by omega)) (by decide))
  refine kx [(15, (.ref 6 0))] [(6, some (bx (encR (ofQ (Rat.divInt 1 2)))))] (zE (oCl (qs_of 1 (by omega) (by omega) 2 (by omega) (by omega) (by decide))) <| zM <| zE oEx <| zE oEx <| zN (oAl 6 ze42 zo42) <| zT (oSt sh42) <| zM <| zZ) ?_
  refine pwp_seq <| pwp_seq ?_
  have bn18 : QL ((pix : Int) : Rat) 3 := (ql_int (z := pix) (lenZ_int (by omega) (by omega)) (by decide))
  have bn19 : QL (((Rat.divInt focal 64) * ((dot3 e00 e01 e02 b0 b1 b2) / (dot3 e20 e21 e22 r0 r1 r2))) - ((pix : Int) : Rat)) 4811 := (ql_sub (k := 4811) (ql_mul (k := 4807) bn16 bn6 (by decide)) bn18 (by decide))
  refine kd [(125, (vb false))] [] mo (wR (oLa sh42) <| wM <| wE (oCl (g_whole pix (by omega) (by omega))) <| wE (oCl (g_sub (ofQ ((Rat.divInt focal 64) * ((dot3 e00 e01 e02 b0 b1 b2) / (dot3 e20 e21 e22 r0 r1 r2)))) (ofQ ((pix : Int) : Rat)) ((Rat.divInt focal 64) * ((dot3 e00 e01 e02 b0 b1 b2) / (dot3 e20 e21 e22 r0 r1 r2))) ((pix : Int) : Rat) (qok_up (qok_of (ql_mul (k := 4807) bn16 bn6 (by decide))) (by decide)) (qok_up (qok_of bn18) (by decide)))) <| wE (oCl (g_abs (ofQ (((Rat.divInt focal 64) * ((dot3 e00 e01 e02 b0 b1 b2) / (dot3 e20 e21 e22 r0 r1 r2))) - ((pix : Int) : Rat))) (((Rat.divInt focal 64) * ((dot3 e00 e01 e02 b0 b1 b2) / (dot3 e20 e21 e22 r0 r1 r2))) - ((pix : Int) : Rat)) (qok_up (qok_of bn19) (by decide)))) <| wR (oLa sh42) <| wE (oCl (g_compare (ofQ (absQ (((Rat.divInt focal 64) * ((dot3 e00 e01 e02 b0 b1 b2) / (dot3 e20 e21 e22 r0 r1 r2))) - ((pix : Int) : Rat)))) (ofQ (Rat.divInt 1 2)) (absQ (((Rat.divInt focal 64) * ((dot3 e00 e01 e02 b0 b1 b2) / (dot3 e20 e21 e22 r0 r1 r2))) - ((pix : Int) : Rat))) (Rat.divInt 1 2) (qok_up (qok_of (ql_abs bn19)) (by decide)) (qok_up (qok_of bn17) (by decide)))) <| wE (oBk false oGt (by exact decide_eq_false hcmp)) <| wZ) ?_
  refine pwp_cond (b := false) (by kernel_rfl) (fun h => by cases h) (fun _ => ?_)
  refine pwp_skip <| pwp_seq <| pwp_seq <| kx [(131, (vb false))] [] (zM <| zE (oBk false oLt (by exact decide_eq_false (by omega))) <| zM <| zM <| zE (oBk false oGt (by exact decide_eq_false (by omega))) <| zE oPf <| zZ) ?_
  refine pwp_cond (b := false) (by kernel_rfl) (fun h => by cases h) (fun _ => ?_)
  refine pwp_skip <| pwp_seq <| pwp_sim (wk (l := [(0, (vi base)), (1, (vi focal)), (5, (.ref 0 0)), (12, (vi pix)), (131, (vb false))]) (b := [(0, some (bx (encSpot (RSpot.mk px py pz))))])) ?_
  have bn20 : QL (Rat.divInt (focal * base) (32 * ((2 * pix) + 1))) 3 := (ql_divInt (n := 3) (lenZ_int (by omega) (by omega)) (lenZ_int (by omega) (by omega)) (by decide))
  have bn21 : QL (Rat.divInt (focal * base) (32 * ((2 * pix) - 1))) 3 := (ql_divInt (n := 3) (lenZ_int (by omega) (by omega)) (lenZ_int (by omega) (by omega)) (by decide))
  refine kx [(10, (vi 0)), (17, (.ref 7 0))] [(7, some (bx (encG (RRng.mk (ofQ (Rat.divInt (focal * base) (32 * ((2 * pix) + 1)))) (ofQ (Rat.divInt (focal * base) (32 * ((2 * pix) - 1))))))))] (zM <| zM <| zM <| zE (oCl (t_intv focal (by omega) (by omega) base (by omega) (by omega) pix (by omega) (by omega))) <| zM <| zE oEx <| zE oEx <| zN (oAl 7 ze121 zo121) <| zT (oSt sh121) <| zM <| zZ) ?_
  refine pwp_seq <| kx [(18, (.ref 8 0))] [(8, some (bx (encR (ofQ ((pz : Int) : Rat)))))] (zE (oFr fo23_2) <| zR (oL1 sh3) <| zE (oCl (g_whole pz (by omega) (by omega))) <| zN (oAl 8 ze42 zo42) <| zT (oSt sh42) <| zZ) ?_
  refine pwp_seq <| kx [(6, (vb true))] [] (zM <| zE oEq <| zM <| zE (oFr fo121_0) <| zR (oLa sh42) <| zR (oLa sh42) <| zE (oCl (g_compare (ofQ (Rat.divInt (focal * base) (32 * ((2 * pix) + 1)))) (ofQ ((pz : Int) : Rat)) (Rat.divInt (focal * base) (32 * ((2 * pix) + 1))) ((pz : Int) : Rat) (qok_up (qok_of bn20) (by decide)) (qok_up (qok_of bn15) (by decide)))) <| zE (oBk true oLe (by exact decide_eq_true hlo)) <| zE oPt <| zM <| zR (oLa sh42) <| zE (oFr fo121_1) <| zR (oLa sh42) <| zE (oCl (g_compare (ofQ ((pz : Int) : Rat)) (ofQ (Rat.divInt (focal * base) (32 * ((2 * pix) - 1)))) ((pz : Int) : Rat) (Rat.divInt (focal * base) (32 * ((2 * pix) - 1))) (qok_up (qok_of bn15) (by decide)) (qok_up (qok_of bn21) (by decide)))) <| zE (oBk true oLe (by exact decide_eq_true hhi)) <| zE oPt <| zM <| zZ) ?_
  refine pwp_ret ⟨_, (.tmp (d := (.val (.bool (true)))) rfl .nil), ?_⟩
  rfl
end Go.Proofs.YtbecgnplakngdaaGreat
