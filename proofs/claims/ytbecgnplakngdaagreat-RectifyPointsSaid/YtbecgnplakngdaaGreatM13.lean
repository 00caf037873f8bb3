/- Part 13 of a proof: rules, plain facts, and functions walked. -/
import Derived.Test.YtbecgnplakngdaaGreatM12
import Derived.Test.YtbecgnplakngdaaGreatM8
namespace Go.Proofs.YtbecgnplakngdaaGreat
open Go.Fid
set_option maxRecDepth 4000
set_option linter.unusedVariables false
set_option linter.unusedSimpArgs false
theorem cb33 : callB Tryz.prog 33 = true := by kernel_rfl
theorem cb95 : callB Tryz.prog 95 = true := by kernel_rfl
theorem cb108 : callB Tryz.prog 108 = true := by kernel_rfl
theorem fo134_0 : fieldB Tryz.prog 134 0 = some 0 := by kernel_rfl
theorem fo134_1 : fieldB Tryz.prog 134 1 = some 10 := by kernel_rfl
theorem q_cooN (lx ly lz la lb lc ld lf lu lv rx ry rz ra rb rc rd rf ru rv : Int) (b0 b1 b2 e00 e01 e02 e10 e11 e12 e20 e21 e22 : Rat) (hqb0 : QL b0 3) (hqb1 : QL b1 3) (hqb2 : QL b2 3) (hqe00 : QL e00 400) (hqe01 : QL e01 400) (hqe02 : QL e02 400) (hqe10 : QL e10 400) (hqe11 : QL e11 400) (hqe12 : QL e12 400) (hqe20 : QL e20 400) (hqe21 : QL e21 400) (hqe22 : QL e22 400) (w0 w1 w2 : Rat) (hw0 : QL w0 1000000) (hw1 : QL w1 1000000) (hw2 : QL w2 1000000) (hd : signQ (dot3 e20 e21 e22 w0 w1 w2) ≤ 0) : Takes Tryz.prog 95 [(.cptr 1000001 (Dat.cells (encRp (RRp.mk (RStn.mk (RSpot.mk lx ly lz) (RQuat.mk la lb lc ld) lf (RPix.mk lu lv)) (RStn.mk (RSpot.mk rx ry rz) (RQuat.mk ra rb rc rd) rf (RPix.mk ru rv)) (A3.mk (ofQ b0) (ofQ b1) (ofQ b2)) (A3.mk (A3.mk (ofQ e00) (ofQ e01) (ofQ e02)) (A3.mk (ofQ e10) (ofQ e11) (ofQ e12)) (A3.mk (ofQ e20) (ofQ e21) (ofQ e22)))))) 0), (encA43 (A3.mk (ofQ w0) (ofQ w1) (ofQ w2)))] (.tup [(encPlace (RPlace.mk (RRat.mk (RInt.mk false []) (RInt.mk false [])) (RRat.mk (RInt.mk false []) (RInt.mk false [])))), (encR (RRat.mk (RInt.mk false []) (RInt.mk false []))), (.val (.bool (false)))]) := by
  let y1 := (RRat.mk (RInt.mk false []) (RInt.mk false []))
  refine fn_intro Tryz.func95 rfl cb95 rfl ?_
  show PWp _ _ _ _ ⟨[(0, (.d (.cptr 1000001 (Dat.cells (encRp (RRp.mk (RStn.mk (RSpot.mk lx ly lz) (RQuat.mk la lb lc ld) lf (RPix.mk lu lv)) (RStn.mk (RSpot.mk rx ry rz) (RQuat.mk ra rb rc rd) rf (RPix.mk ru rv)) (A3.mk (ofQ b0) (ofQ b1) (ofQ b2)) (A3.mk (A3.mk (ofQ e00) (ofQ e01) (ofQ e02)) (A3.mk (ofQ e10) (ofQ e11) (ofQ e12)) (A3.mk (ofQ e20) (ofQ e21) (ofQ e22)))))) 0))), (1, (.d (encA43 (A3.mk (ofQ w0) (ofQ w1) (ofQ w2)))))], []⟩
  refine pwp_seq <| kx [(3, (.ref 0 0)), (4, (.ref 1 0)), (5, (.ref 2 0))] [(0, some (bx (encA43 (A3.mk (ofQ w0) (ofQ w1) (ofQ w2))))), (1, some (bx (encPlace (RPlace.mk y1 y1)))), (2, some (bx (encR y1)))] (zN (oBx 0) <| zN (oAl 1 ze56 zo56) <| zN (oAl 2 ze42 zo42) <| zM <| zZ) ?_
  refine pwp_seq ?_
  have bn1 : QL (dot3 e00 e01 e02 w0 w1 w2) 6000002 := (ql_dot3 (n := 1000000) (k := 6000002) (ql_up hqe00 (by decide)) (ql_up hqe01 (by decide)) (ql_up hqe02 (by decide)) hw0 hw1 hw2 (by decide))
  have bn2 : QL (dot3 e10 e11 e12 w0 w1 w2) 6000002 := (ql_dot3 (n := 1000000) (k := 6000002) (ql_up hqe10 (by decide)) (ql_up hqe11 (by decide)) (ql_up hqe12 (by decide)) hw0 hw1 hw2 (by decide))
  have bn3 : QL (dot3 e20 e21 e22 w0 w1 w2) 6000002 := (ql_dot3 (n := 1000000) (k := 6000002) (ql_up hqe20 (by decide)) (ql_up hqe21 (by decide)) (ql_up hqe22 (by decide)) hw0 hw1 hw2 (by decide))
  refine kd [(7, (.ref 3 0))] [(3, some (bx (encA43 (A3.mk (ofQ (dot3 e00 e01 e02 w0 w1 w2)) (ofQ (dot3 e10 e11 e12 w0 w1 w2)) (ofQ (dot3 e20 e21 e22 w0 w1 w2))))))] mo (wM <| wE oNd <| wE (oFc fo134_3) <| wE (oCa sh131) <| wR (oLa sh129) <| wE (oCl (q_times e00 e01 e02 e10 e11 e12 e20 e21 e22 (ql_up hqe00 (by decide)) (ql_up hqe01 (by decide)) (ql_up hqe02 (by decide)) (ql_up hqe10 (by decide)) (ql_up hqe11 (by decide)) (ql_up hqe12 (by decide)) (ql_up hqe20 (by decide)) (ql_up hqe21 (by decide)) (ql_up hqe22 (by decide)) w0 w1 w2 (ql_up hw0 (by decide)) (ql_up hw1 (by decide)) (ql_up hw2 (by decide)))) <| wN (oAl 3 ze129 zo129) <| wT (oSt sh129) <| wZ) ?_
  refine pwp_seq <| pwp_seq <| kx [(21, (vb true))] [] (zE (oXr ar129 2) <| zR (oLa sh42) <| zE (oCl (f_sign (ofQ (dot3 e20 e21 e22 w0 w1 w2)) (dot3 e20 e21 e22 w0 w1 w2) (qok_up (qok_of bn3) (by decide)))) <| zE (oBk true oLe (by exact decide_eq_true hd)) <| zZ) ?_
  refine pwp_cond (b := true) (by kernel_rfl) (fun _ => ?_) (fun h => by cases h)
  refine pwp_seq <| kx [(6, (vb false))] [(1, some (bx (encPlace (RPlace.mk y1 y1)))), (2, some (bx (encR y1)))] (zE (oBd pl56 ze56 zo56) <| zE (oBd pl42 ze42 zo42) <| zT (oSt sh56) <| zT (oSt sh42) <| zM <| zZ) ?_
  refine pwp_ret ⟨_, (res_a (cs := (bx (encPlace (RPlace.mk (RRat.mk (RInt.mk false []) (RInt.mk false [])) (RRat.mk (RInt.mk false []) (RInt.mk false [])))))) (d := (encPlace (RPlace.mk (RRat.mk (RInt.mk false []) (RInt.mk false [])) (RRat.mk (RInt.mk false []) (RInt.mk false []))))) rfl rfl sh56 rfl rfl (res_a (cs := (bx (encR (RRat.mk (RInt.mk false []) (RInt.mk false []))))) (d := (encR (RRat.mk (RInt.mk false []) (RInt.mk false [])))) rfl rfl sh42 rfl rfl (.tmp (d := (.val (.bool (false)))) rfl .nil))), ?_⟩
  rfl
theorem q_coo (lx ly lz la lb lc ld lf lu lv rx ry rz ra rb rc rd rf ru rv : Int) (b0 b1 b2 e00 e01 e02 e10 e11 e12 e20 e21 e22 : Rat) (hqb0 : QL b0 3) (hqb1 : QL b1 3) (hqb2 : QL b2 3) (hqe00 : QL e00 400) (hqe01 : QL e01 400) (hqe02 : QL e02 400) (hqe10 : QL e10 400) (hqe11 : QL e11 400) (hqe12 : QL e12 400) (hqe20 : QL e20 400) (hqe21 : QL e21 400) (hqe22 : QL e22 400) (w0 w1 w2 : Rat) (hw0 : QL w0 1000000) (hw1 : QL w1 1000000) (hw2 : QL w2 1000000) (hd : ¬ (signQ (dot3 e20 e21 e22 w0 w1 w2)) ≤ 0) : Takes Tryz.prog 95 [(.cptr 1000001 (Dat.cells (encRp (RRp.mk (RStn.mk (RSpot.mk lx ly lz) (RQuat.mk la lb lc ld) lf (RPix.mk lu lv)) (RStn.mk (RSpot.mk rx ry rz) (RQuat.mk ra rb rc rd) rf (RPix.mk ru rv)) (A3.mk (ofQ b0) (ofQ b1) (ofQ b2)) (A3.mk (A3.mk (ofQ e00) (ofQ e01) (ofQ e02)) (A3.mk (ofQ e10) (ofQ e11) (ofQ e12)) (A3.mk (ofQ e20) (ofQ e21) (ofQ e22)))))) 0), (encA43 (A3.mk (ofQ w0) (ofQ w1) (ofQ w2)))] (.tup [(encPlace (RPlace.mk (ofQ ((dot3 e00 e01 e02 w0 w1 w2) / (dot3 e20 e21 e22 w0 w1 w2))) (ofQ ((dot3 e10 e11 e12 w0 w1 w2) / (dot3 e20 e21 e22 w0 w1 w2))))), (encR (ofQ (dot3 e20 e21 e22 w0 w1 w2))), (.val (.bool (true)))]) := by
  refine fn_intro Tryz.func95 rfl cb95 rfl ?_
  show PWp _ _ _ _ ⟨[(0, (.d (.cptr 1000001 (Dat.cells (encRp (RRp.mk (RStn.mk (RSpot.mk lx ly lz) (RQuat.mk la lb lc ld) lf (RPix.mk lu lv)) (RStn.mk (RSpot.mk rx ry rz) (RQuat.mk ra rb rc rd) rf (RPix.mk ru rv)) (A3.mk (ofQ b0) (ofQ b1) (ofQ b2)) (A3.mk (A3.mk (ofQ e00) (ofQ e01) (ofQ e02)) (A3.mk (ofQ e10) (ofQ e11) (ofQ e12)) (A3.mk (ofQ e20) (ofQ e21) (ofQ e22)))))) 0))), (1, (.d (encA43 (A3.mk (ofQ w0) (ofQ w1) (ofQ w2)))))], []⟩
  refine pwp_seq <| kx [(3, (.ref 0 0)), (4, (.ref 1 0)), (5, (.ref 2 0))] [(0, some (bx (encA43 (A3.mk (ofQ w0) (ofQ w1) (ofQ w2))))), (1, some (bx (encPlace (RPlace.mk (RRat.mk (RInt.mk false []) (RInt.mk false [])) (RRat.mk (RInt.mk false []) (RInt.mk false [])))))), (2, some (bx (encR (RRat.mk (RInt.mk false []) (RInt.mk false [])))))] (zN (oBx 0) <| zN (oAl 1 ze56 zo56) <| zN (oAl 2 ze42 zo42) <| zM <| zZ) ?_
  refine pwp_seq ?_
  have bn1 : QL (dot3 e00 e01 e02 w0 w1 w2) 6000002 := (ql_dot3 (n := 1000000) (k := 6000002) (ql_up hqe00 (by decide)) (ql_up hqe01 (by decide)) (ql_up hqe02 (by decide)) hw0 hw1 hw2 (by decide))
  have bn2 : QL (dot3 e10 e11 e12 w0 w1 w2) 6000002 := (ql_dot3 (n := 1000000) (k := 6000002) (ql_up hqe10 (by decide)) (ql_up hqe11 (by decide)) (ql_up hqe12 (by decide)) hw0 hw1 hw2 (by decide))
  have bn3 : QL (dot3 e20 e21 e22 w0 w1 w2) 6000002 := (ql_dot3 (n := 1000000) (k := 6000002) (ql_up hqe20 (by decide)) (ql_up hqe21 (by decide)) (ql_up hqe22 (by decide)) hw0 hw1 hw2 (by decide))
  refine kd [(7, (.ref 3 0))] [(3, some (bx (encA43 (A3.mk (ofQ (dot3 e00 e01 e02 w0 w1 w2)) (ofQ (dot3 e10 e11 e12 w0 w1 w2)) (ofQ (dot3 e20 e21 e22 w0 w1 w2))))))] mo (wM <| wE oNd <| wE (oFc fo134_3) <| wE (oCa sh131) <| wR (oLa sh129) <| wE (oCl (q_times e00 e01 e02 e10 e11 e12 e20 e21 e22 (ql_up hqe00 (by decide)) (ql_up hqe01 (by decide)) (ql_up hqe02 (by decide)) (ql_up hqe10 (by decide)) (ql_up hqe11 (by decide)) (ql_up hqe12 (by decide)) (ql_up hqe20 (by decide)) (ql_up hqe21 (by decide)) (ql_up hqe22 (by decide)) w0 w1 w2 (ql_up hw0 (by decide)) (ql_up hw1 (by decide)) (ql_up hw2 (by decide)))) <| wN (oAl 3 ze129 zo129) <| wT (oSt sh129) <| wZ) ?_
  refine pwp_seq <| pwp_seq <| kx [(21, (vb false))] [] (zE (oXr ar129 2) <| zR (oLa sh42) <| zE (oCl (f_sign (ofQ (dot3 e20 e21 e22 w0 w1 w2)) (dot3 e20 e21 e22 w0 w1 w2) (qok_up (qok_of bn3) (by decide)))) <| zE (oBk false oLe (by exact decide_eq_false hd)) <| zZ) ?_
  refine pwp_cond (b := false) (by kernel_rfl) (fun h => by cases h) (fun _ => ?_)
  refine pwp_skip <| pwp_seq <| kx [(8, (.ref 4 0))] [(4, some (bx (encR (ofQ ((dot3 e00 e01 e02 w0 w1 w2) / (dot3 e20 e21 e22 w0 w1 w2))))))] (zE (oXr ar129 0) <| zR (oLa sh42) <| zE (oXr ar129 2) <| zR (oLa sh42) <| zE (oCl (by have h := f_divide (ofQ (dot3 e00 e01 e02 w0 w1 w2)) (ofQ (dot3 e20 e21 e22 w0 w1 w2)) (dot3 e00 e01 e02 w0 w1 w2) (dot3 e20 e21 e22 w0 w1 w2) (qok_up (qok_of bn1) (by decide)) (qok_up (qok_of bn3) (by decide)); rw [divR_ne (sgn_ne hd), divC_ne (sgn_ne hd)] at h; exact h)) <| zM <| zE oEx <| zE oEx <| zN (oAl 4 ze42 zo42) <| zT (oSt sh42) <| zM <| zZ) ?_
  refine pwp_seq <| kx [(10, (.ref 5 0))] [(5, some (bx (encR (ofQ ((dot3 e10 e11 e12 w0 w1 w2) / (dot3 e20 e21 e22 w0 w1 w2))))))] (zE (oXr ar129 1) <| zR (oLa sh42) <| zE (oXr ar129 2) <| zR (oLa sh42) <| zE (oCl (by have h := f_divide (ofQ (dot3 e10 e11 e12 w0 w1 w2)) (ofQ (dot3 e20 e21 e22 w0 w1 w2)) (dot3 e10 e11 e12 w0 w1 w2) (dot3 e20 e21 e22 w0 w1 w2) (qok_up (qok_of bn2) (by decide)) (qok_up (qok_of bn3) (by decide)); rw [divR_ne (sgn_ne hd), divC_ne (sgn_ne hd)] at h; exact h)) <| zM <| zE oEx <| zE oEx <| zN (oAl 5 ze42 zo42) <| zT (oSt sh42) <| zM <| zZ) ?_
  refine pwp_seq <| kd [(6, (vb true))] [(1, some (bx (encPlace (RPlace.mk (ofQ ((dot3 e00 e01 e02 w0 w1 w2) / (dot3 e20 e21 e22 w0 w1 w2))) (ofQ ((dot3 e10 e11 e12 w0 w1 w2) / (dot3 e20 e21 e22 w0 w1 w2))))))), (2, some (bx (encR (ofQ (dot3 e20 e21 e22 w0 w1 w2)))))] mo (wR (oLa sh42) <| wR (oLa sh42) <| wE (oBd pl56 ze56 zo56) <| wE (oXr ar129 2) <| wR (oLa sh42) <| wT (oSt sh56) <| wT (oSt sh42) <| wM <| wZ) ?_
  refine pwp_ret ⟨_, (res_a (cs := (bx (encPlace (RPlace.mk (ofQ ((dot3 e00 e01 e02 w0 w1 w2) / (dot3 e20 e21 e22 w0 w1 w2))) (ofQ ((dot3 e10 e11 e12 w0 w1 w2) / (dot3 e20 e21 e22 w0 w1 w2))))))) (d := (encPlace (RPlace.mk (ofQ ((dot3 e00 e01 e02 w0 w1 w2) / (dot3 e20 e21 e22 w0 w1 w2))) (ofQ ((dot3 e10 e11 e12 w0 w1 w2) / (dot3 e20 e21 e22 w0 w1 w2)))))) rfl rfl sh56 rfl rfl (res_a (cs := (bx (encR (ofQ (dot3 e20 e21 e22 w0 w1 w2))))) (d := (encR (ofQ (dot3 e20 e21 e22 w0 w1 w2)))) rfl rfl sh42 rfl rfl (.tmp (d := (.val (.bool (true)))) rfl .nil))), ?_⟩
  rfl
theorem qs_cooN (lx ly lz la lb lc ld lf lu lv rx ry rz ra rb rc rd rf ru rv : Int) (b0 b1 b2 e00 e01 e02 e10 e11 e12 e20 e21 e22 : Rat) (hqb0 : QL b0 3) (hqb1 : QL b1 3) (hqb2 : QL b2 3) (hqe00 : QL e00 400) (hqe01 : QL e01 400) (hqe02 : QL e02 400) (hqe10 : QL e10 400) (hqe11 : QL e11 400) (hqe12 : QL e12 400) (hqe20 : QL e20 400) (hqe21 : QL e21 400) (hqe22 : QL e22 400) (w0 w1 w2 : Rat) (hw0 : QL w0 1000000) (hw1 : QL w1 1000000) (hw2 : QL w2 1000000) (hd : signQ (dot3 e20 e21 e22 w0 w1 w2) ≤ 0) : Takes Tryz.prog 33 [(encLp (RLp.mk (RStereo.mk (RStn.mk (RSpot.mk lx ly lz) (RQuat.mk la lb lc ld) lf (RPix.mk lu lv)) (RStn.mk (RSpot.mk rx ry rz) (RQuat.mk ra rb rc rd) rf (RPix.mk ru rv))) (A3.mk (ofQ b0) (ofQ b1) (ofQ b2)) (A3.mk (A3.mk (ofQ e00) (ofQ e01) (ofQ e02)) (A3.mk (ofQ e10) (ofQ e11) (ofQ e12)) (A3.mk (ofQ e20) (ofQ e21) (ofQ e22))))), (encA43 (A3.mk (ofQ w0) (ofQ w1) (ofQ w2)))] (.tup [(encPlace (RPlace.mk (RRat.mk (RInt.mk false []) (RInt.mk false [])) (RRat.mk (RInt.mk false []) (RInt.mk false [])))), (.val (.int .i64 (20)))]) := by
  let y1 := (encLp (RLp.mk (RStereo.mk (RStn.mk (RSpot.mk lx ly lz) (RQuat.mk la lb lc ld) lf (RPix.mk lu lv)) (RStn.mk (RSpot.mk rx ry rz) (RQuat.mk ra rb rc rd) rf (RPix.mk ru rv))) (A3.mk (ofQ b0) (ofQ b1) (ofQ b2)) (A3.mk (A3.mk (ofQ e00) (ofQ e01) (ofQ e02)) (A3.mk (ofQ e10) (ofQ e11) (ofQ e12)) (A3.mk (ofQ e20) (ofQ e21) (ofQ e22)))))
  refine fn_intro Tryz.func33 rfl cb33 rfl ?_
  show PWp _ _ _ _ ⟨[(0, (.d y1)), (1, (.d (encA43 (A3.mk (ofQ w0) (ofQ w1) (ofQ w2)))))], []⟩
  refine pwp_seq <| kx [(2, (.ref 0 0)), (3, (.ref 1 0)), (4, (.ref 2 0))] [(0, some (bx y1)), (1, some (bx (encA43 (A3.mk (ofQ w0) (ofQ w1) (ofQ w2))))), (2, some (bx (encPlace (RPlace.mk (RRat.mk (RInt.mk false []) (RInt.mk false [])) (RRat.mk (RInt.mk false []) (RInt.mk false []))))))] (zN (oBx 0) <| zN (oBx 1) <| zN (oAl 2 ze56 zo56) <| zM <| zZ) ?_
  refine pwp_seq ?_
  have bn1 : QL (dot3 e20 e21 e22 w0 w1 w2) 6000002 := (ql_dot3 (n := 1000000) (k := 6000002) (ql_up hqe20 (by decide)) (ql_up hqe21 (by decide)) (ql_up hqe22 (by decide)) hw0 hw1 hw2 (by decide))
  refine kx [(6, (.ref 3 0))] [(3, some (bx (encR (ofQ (dot3 e20 e21 e22 w0 w1 w2)))))] (zE (oFr fo47_2) <| zE (oXr ar45 2) <| zR (oLa sh44) <| zR (oLa sh44) <| zE (oCl (qs_dot e20 e21 e22 (ql_up hqe20 (by decide)) (ql_up hqe21 (by decide)) (ql_up hqe22 (by decide)) w0 w1 w2 (ql_up hw0 (by decide)) (ql_up hw1 (by decide)) (ql_up hw2 (by decide)))) <| zN (oAl 3 ze42 zo42) <| zT (oSt sh42) <| zZ) ?_
  refine pwp_seq <| pwp_seq <| kx [(18, (vb true))] [] (zR (oLa sh42) <| zE (oCl (g_sign (ofQ (dot3 e20 e21 e22 w0 w1 w2)) (dot3 e20 e21 e22 w0 w1 w2) (qok_up (qok_of bn1) (by decide)))) <| zE (oBk true oLe (by exact decide_eq_true hd)) <| zZ) ?_
  refine pwp_cond (b := true) (by kernel_rfl) (fun _ => ?_) (fun h => by cases h)
  refine pwp_seq <| kx [(5, (vin 20))] [(2, some (bx (encPlace (RPlace.mk (RRat.mk (RInt.mk false []) (RInt.mk false [])) (RRat.mk (RInt.mk false []) (RInt.mk false []))))))] (zE (oBd pl56 ze56 zo56) <| zT (oSt sh56) <| zM <| zZ) ?_
  refine pwp_ret ⟨_, (res_a (cs := (bx (encPlace (RPlace.mk (RRat.mk (RInt.mk false []) (RInt.mk false [])) (RRat.mk (RInt.mk false []) (RInt.mk false [])))))) (d := (encPlace (RPlace.mk (RRat.mk (RInt.mk false []) (RInt.mk false [])) (RRat.mk (RInt.mk false []) (RInt.mk false []))))) rfl rfl sh56 rfl rfl (.tmp (d := (.val (.int .i64 (((20 : Nat) : Int))))) rfl .nil)), ?_⟩
  rfl
theorem qs_coo (lx ly lz la lb lc ld lf lu lv rx ry rz ra rb rc rd rf ru rv : Int) (b0 b1 b2 e00 e01 e02 e10 e11 e12 e20 e21 e22 : Rat) (hqb0 : QL b0 3) (hqb1 : QL b1 3) (hqb2 : QL b2 3) (hqe00 : QL e00 400) (hqe01 : QL e01 400) (hqe02 : QL e02 400) (hqe10 : QL e10 400) (hqe11 : QL e11 400) (hqe12 : QL e12 400) (hqe20 : QL e20 400) (hqe21 : QL e21 400) (hqe22 : QL e22 400) (w0 w1 w2 : Rat) (hw0 : QL w0 1000000) (hw1 : QL w1 1000000) (hw2 : QL w2 1000000) (hd : ¬ (signQ (dot3 e20 e21 e22 w0 w1 w2)) ≤ 0) : Takes Tryz.prog 33 [(encLp (RLp.mk (RStereo.mk (RStn.mk (RSpot.mk lx ly lz) (RQuat.mk la lb lc ld) lf (RPix.mk lu lv)) (RStn.mk (RSpot.mk rx ry rz) (RQuat.mk ra rb rc rd) rf (RPix.mk ru rv))) (A3.mk (ofQ b0) (ofQ b1) (ofQ b2)) (A3.mk (A3.mk (ofQ e00) (ofQ e01) (ofQ e02)) (A3.mk (ofQ e10) (ofQ e11) (ofQ e12)) (A3.mk (ofQ e20) (ofQ e21) (ofQ e22))))), (encA43 (A3.mk (ofQ w0) (ofQ w1) (ofQ w2)))] (.tup [(encPlace (RPlace.mk (ofQ ((dot3 e00 e01 e02 w0 w1 w2) / (dot3 e20 e21 e22 w0 w1 w2))) (ofQ ((dot3 e10 e11 e12 w0 w1 w2) / (dot3 e20 e21 e22 w0 w1 w2))))), (.val (.int .i64 (0)))]) := by
  let y1 := (encLp (RLp.mk (RStereo.mk (RStn.mk (RSpot.mk lx ly lz) (RQuat.mk la lb lc ld) lf (RPix.mk lu lv)) (RStn.mk (RSpot.mk rx ry rz) (RQuat.mk ra rb rc rd) rf (RPix.mk ru rv))) (A3.mk (ofQ b0) (ofQ b1) (ofQ b2)) (A3.mk (A3.mk (ofQ e00) (ofQ e01) (ofQ e02)) (A3.mk (ofQ e10) (ofQ e11) (ofQ e12)) (A3.mk (ofQ e20) (ofQ e21) (ofQ e22)))))
  refine fn_intro Tryz.func33 rfl cb33 rfl ?_
  show PWp _ _ _ _ ⟨[(0, (.d y1)), (1, (.d (encA43 (A3.mk (ofQ w0) (ofQ w1) (ofQ w2)))))], []⟩
  refine pwp_seq <| kx [(2, (.ref 0 0)), (3, (.ref 1 0)), (4, (.ref 2 0))] [(0, some (bx y1)), (1, some (bx (encA43 (A3.mk (ofQ w0) (ofQ w1) (ofQ w2))))), (2, some (bx (encPlace (RPlace.mk (RRat.mk (RInt.mk false []) (RInt.mk false [])) (RRat.mk (RInt.mk false []) (RInt.mk false []))))))] (zN (oBx 0) <| zN (oBx 1) <| zN (oAl 2 ze56 zo56) <| zM <| zZ) ?_
  refine pwp_seq ?_
  have bn1 : QL (dot3 e20 e21 e22 w0 w1 w2) 6000002 := (ql_dot3 (n := 1000000) (k := 6000002) (ql_up hqe20 (by decide)) (ql_up hqe21 (by decide)) (ql_up hqe22 (by decide)) hw0 hw1 hw2 (by decide))
  refine kx [(6, (.ref 3 0))] [(3, some (bx (encR (ofQ (dot3 e20 e21 e22 w0 w1 w2)))))] (zE (oFr fo47_2) <| zE (oXr ar45 2) <| zR (oLa sh44) <| zR (oLa sh44) <| zE (oCl (qs_dot e20 e21 e22 (ql_up hqe20 (by decide)) (ql_up hqe21 (by decide)) (ql_up hqe22 (by decide)) w0 w1 w2 (ql_up hw0 (by decide)) (ql_up hw1 (by decide)) (ql_up hw2 (by decide)))) <| zN (oAl 3 ze42 zo42) <| zT (oSt sh42) <| zZ) ?_
  refine pwp_seq <| pwp_seq <| kx [(18, (vb false))] [] (zR (oLa sh42) <| zE (oCl (g_sign (ofQ (dot3 e20 e21 e22 w0 w1 w2)) (dot3 e20 e21 e22 w0 w1 w2) (qok_up (qok_of bn1) (by decide)))) <| zE (oBk false oLe (by exact decide_eq_false hd)) <| zZ) ?_
  refine pwp_cond (b := false) (by kernel_rfl) (fun h => by cases h) (fun _ => ?_)
  refine pwp_skip <| pwp_seq ?_
  have bn2 : QL (dot3 e00 e01 e02 w0 w1 w2) 6000002 := (ql_dot3 (n := 1000000) (k := 6000002) (ql_up hqe00 (by decide)) (ql_up hqe01 (by decide)) (ql_up hqe02 (by decide)) hw0 hw1 hw2 (by decide))
  refine kd [(7, (.ref 4 0))] [(4, some (bx (encR (ofQ ((dot3 e00 e01 e02 w0 w1 w2) / (dot3 e20 e21 e22 w0 w1 w2))))))] mo (wE (oFr fo47_2) <| wE (oXr ar45 0) <| wR (oLa sh44) <| wR (oLa sh44) <| wE (oCl (qs_dot e00 e01 e02 (ql_up hqe00 (by decide)) (ql_up hqe01 (by decide)) (ql_up hqe02 (by decide)) w0 w1 w2 (ql_up hw0 (by decide)) (ql_up hw1 (by decide)) (ql_up hw2 (by decide)))) <| wR (oLa sh42) <| wE (oCl (by have h := g_divide (ofQ (dot3 e00 e01 e02 w0 w1 w2)) (ofQ (dot3 e20 e21 e22 w0 w1 w2)) (dot3 e00 e01 e02 w0 w1 w2) (dot3 e20 e21 e22 w0 w1 w2) (qok_up (qok_of bn2) (by decide)) (qok_up (qok_of bn1) (by decide)); rw [divR_ne (sgn_ne hd), divC_ne (sgn_ne hd)] at h; exact h)) <| wM <| wE oEx <| wE oEx <| wN (oAl 4 ze42 zo42) <| wT (oSt sh42) <| wM <| wZ) ?_
  refine pwp_seq ?_
  have bn3 : QL (dot3 e10 e11 e12 w0 w1 w2) 6000002 := (ql_dot3 (n := 1000000) (k := 6000002) (ql_up hqe10 (by decide)) (ql_up hqe11 (by decide)) (ql_up hqe12 (by decide)) hw0 hw1 hw2 (by decide))
  refine kd [(9, (.ref 5 0))] [(5, some (bx (encR (ofQ ((dot3 e10 e11 e12 w0 w1 w2) / (dot3 e20 e21 e22 w0 w1 w2))))))] mo (wE (oFr fo47_2) <| wE (oXr ar45 1) <| wR (oLa sh44) <| wR (oLa sh44) <| wE (oCl (qs_dot e10 e11 e12 (ql_up hqe10 (by decide)) (ql_up hqe11 (by decide)) (ql_up hqe12 (by decide)) w0 w1 w2 (ql_up hw0 (by decide)) (ql_up hw1 (by decide)) (ql_up hw2 (by decide)))) <| wR (oLa sh42) <| wE (oCl (by have h := g_divide (ofQ (dot3 e10 e11 e12 w0 w1 w2)) (ofQ (dot3 e20 e21 e22 w0 w1 w2)) (dot3 e10 e11 e12 w0 w1 w2) (dot3 e20 e21 e22 w0 w1 w2) (qok_up (qok_of bn3) (by decide)) (qok_up (qok_of bn1) (by decide)); rw [divR_ne (sgn_ne hd), divC_ne (sgn_ne hd)] at h; exact h)) <| wM <| wE oEx <| wE oEx <| wN (oAl 5 ze42 zo42) <| wT (oSt sh42) <| wM <| wZ) ?_
  refine pwp_seq <| kx [(5, (vin 0))] [(2, some (bx (encPlace (RPlace.mk (ofQ ((dot3 e00 e01 e02 w0 w1 w2) / (dot3 e20 e21 e22 w0 w1 w2))) (ofQ ((dot3 e10 e11 e12 w0 w1 w2) / (dot3 e20 e21 e22 w0 w1 w2)))))))] (zR (oLa sh42) <| zR (oLa sh42) <| zE (oBd pl56 ze56 zo56) <| zT (oSt sh56) <| zM <| zZ) ?_
  refine pwp_ret ⟨_, (res_a (cs := (bx (encPlace (RPlace.mk (ofQ ((dot3 e00 e01 e02 w0 w1 w2) / (dot3 e20 e21 e22 w0 w1 w2))) (ofQ ((dot3 e10 e11 e12 w0 w1 w2) / (dot3 e20 e21 e22 w0 w1 w2))))))) (d := (encPlace (RPlace.mk (ofQ ((dot3 e00 e01 e02 w0 w1 w2) / (dot3 e20 e21 e22 w0 w1 w2))) (ofQ ((dot3 e10 e11 e12 w0 w1 w2) / (dot3 e20 e21 e22 w0 w1 w2)))))) rfl rfl sh56 rfl rfl (.tmp (d := (.val (.int .i64 (((0 : Nat) : Int))))) rfl .nil)), ?_⟩
  rfl
theorem q_dir (lx ly lz la lb lc ld lf lu lv rx ry rz ra rb rc rd rf ru rv : Int) (b0 b1 b2 e00 e01 e02 e10 e11 e12 e20 e21 e22 : Rat) (hqb0 : QL b0 3) (hqb1 : QL b1 3) (hqb2 : QL b2 3) (hqe00 : QL e00 400) (hqe01 : QL e01 400) (hqe02 : QL e02 400) (hqe10 : QL e10 400) (hqe11 : QL e11 400) (hqe12 : QL e12 400) (hqe20 : QL e20 400) (hqe21 : QL e21 400) (hqe22 : QL e22 400) (x y : Rat) (hx : QL x 1000000) (hy : QL y 1000000) (hz0 : zeroV e00 e01 e02 = false) (hz1 : zeroV e10 e11 e12 = false) (hz2 : zeroV e20 e21 e22 = false) : Takes Tryz.prog 108 [(.cptr 1000001 (Dat.cells (encRp (RRp.mk (RStn.mk (RSpot.mk lx ly lz) (RQuat.mk la lb lc ld) lf (RPix.mk lu lv)) (RStn.mk (RSpot.mk rx ry rz) (RQuat.mk ra rb rc rd) rf (RPix.mk ru rv)) (A3.mk (ofQ b0) (ofQ b1) (ofQ b2)) (A3.mk (A3.mk (ofQ e00) (ofQ e01) (ofQ e02)) (A3.mk (ofQ e10) (ofQ e11) (ofQ e12)) (A3.mk (ofQ e20) (ofQ e21) (ofQ e22)))))) 0), (encPlace (RPlace.mk (ofQ x) (ofQ y)))] (encA43 (A3.mk (ofQ (((e00 * (x / (dot3 e00 e01 e02 e00 e01 e02))) + (e10 * (y / (dot3 e10 e11 e12 e10 e11 e12)))) + (e20 * (((1 : Int) : Rat) / (dot3 e20 e21 e22 e20 e21 e22))))) (ofQ (((e01 * (x / (dot3 e00 e01 e02 e00 e01 e02))) + (e11 * (y / (dot3 e10 e11 e12 e10 e11 e12)))) + (e21 * (((1 : Int) : Rat) / (dot3 e20 e21 e22 e20 e21 e22))))) (ofQ (((e02 * (x / (dot3 e00 e01 e02 e00 e01 e02))) + (e12 * (y / (dot3 e10 e11 e12 e10 e11 e12)))) + (e22 * (((1 : Int) : Rat) / (dot3 e20 e21 e22 e20 e21 e22))))))) := by
  let y5 := (bx (encA43 (A3.mk (RRat.mk (RInt.mk false []) (RInt.mk false [])) (RRat.mk (RInt.mk false []) (RInt.mk false [])) (RRat.mk (RInt.mk false []) (RInt.mk false [])))))
  let y4 := (bx (encA43 (A3.mk (ofQ (e10 * (y / (dot3 e10 e11 e12 e10 e11 e12)))) (ofQ (e11 * (y / (dot3 e10 e11 e12 e10 e11 e12)))) (ofQ (e12 * (y / (dot3 e10 e11 e12 e10 e11 e12)))))))
  let y3 := (bx (encA43 (A3.mk (ofQ (e00 * (x / (dot3 e00 e01 e02 e00 e01 e02)))) (ofQ (e01 * (x / (dot3 e00 e01 e02 e00 e01 e02)))) (ofQ (e02 * (x / (dot3 e00 e01 e02 e00 e01 e02)))))))
  let y2 := (encRp (RRp.mk (RStn.mk (RSpot.mk lx ly lz) (RQuat.mk la lb lc ld) lf (RPix.mk lu lv)) (RStn.mk (RSpot.mk rx ry rz) (RQuat.mk ra rb rc rd) rf (RPix.mk ru rv)) (A3.mk (ofQ b0) (ofQ b1) (ofQ b2)) (A3.mk (A3.mk (ofQ e00) (ofQ e01) (ofQ e02)) (A3.mk (ofQ e10) (ofQ e11) (ofQ e12)) (A3.mk (ofQ e20) (ofQ e21) (ofQ e22)))))
  let y1 := (bx (encA43 (A3.mk (ofQ (((e00 * (x / (dot3 e00 e01 e02 e00 e01 e02))) + (e10 * (y / (dot3 e10 e11 e12 e10 e11 e12)))) + (e20 * (((1 : Int) : Rat) / (dot3 e20 e21 e22 e20 e21 e22))))) (ofQ (((e01 * (x / (dot3 e00 e01 e02 e00 e01 e02))) + (e11 * (y / (dot3 e10 e11 e12 e10 e11 e12)))) + (e21 * (((1 : Int) : Rat) / (dot3 e20 e21 e22 e20 e21 e22))))) (ofQ (((e02 * (x / (dot3 e00 e01 e02 e00 e01 e02))) + (e12 * (y / (dot3 e10 e11 e12 e10 e11 e12)))) + (e22 * (((1 : Int) : Rat) / (dot3 e20 e21 e22 e20 e21 e22))))))))
  refine fn_intro Tryz.func108 rfl cb108 rfl ?_
  show PWp _ _ _ _ ⟨[(0, (.d (.cptr 1000001 (Dat.cells y2) 0))), (1, (.d (encPlace (RPlace.mk (ofQ x) (ofQ y)))))], []⟩
  refine pwp_seq <| kx [(3, (.ref 0 0)), (4, (.ref 1 0))] [(0, some (bx (encPlace (RPlace.mk (ofQ x) (ofQ y))))), (1, some y5)] (zN (oBx 0) <| zN (oAl 1 ze129 zo129) <| zZ) ?_
  refine pwp_seq <| kx [(5, (.ref 2 0))] [(2, some y5)] (zN (oAl 2 ze129 zo129) <| zZ) ?_
  refine pwp_seq <| pwp_seq ?_
  have bn1 : QL ((1 : Int) : Rat) 1 := (ql_int (z := 1) (lenZ_one (by decide)) (by decide))
  refine kd [(16, (.d (encA43 (A3.mk (ofQ x) (ofQ y) (ofQ ((1 : Int) : Rat)))))), (17, (vin 0))] [] mo (wE (oFr fo56_0) <| wR (oLa sh42) <| wE (oFr fo56_1) <| wR (oLa sh42) <| wE (oCl (f_whole 1 (by decide) (by decide))) <| wE (oBf ar129 ze129 zo129) <| wM <| wZ) ?_
  refine pwp_block <| pwp_rounds 20 ?_
  refine pwp_round <| pwp_seq <| kx [(18, (vb true))] [] (zE (oBk true oLt) <| zZ) ?_
  refine pwp_seq <| pwp_cond (b := true) (by kernel_rfl) (fun _ => ?_) (fun h => by cases h)
  refine pwp_skip <| pwp_seq <| pwp_block <| pwp_seq <| kx [(6, (vin 0)), (7, (.ref 3 0))] [(3, some (bx (encR (ofQ x))))] (zM <| zE (oXa ar129 sh42 (fun h => by cases h) 0) <| zN (oAl 3 ze42 zo42) <| zM <| zT (oSt sh42) <| zZ) ?_
  refine pwp_seq ?_
  have bn2 : QL (dot3 e00 e01 e02 e00 e01 e02) 2402 := (ql_dot3 (n := 400) (k := 2402) hqe00 hqe01 hqe02 hqe00 hqe01 hqe02 (by decide))
  refine kd [(8, (.ref 4 0))] [(4, some (bx (encR (ofQ (x / (dot3 e00 e01 e02 e00 e01 e02))))))] mo (wR (oLa sh42) <| wM <| wM <| wE oNd <| wE (oFc fo134_3) <| wE (oXc ar131 0) <| wE (oCa sh129) <| wM <| wM <| wE oNd <| wE (oFc fo134_3) <| wE (oXc ar131 0) <| wE (oCa sh129) <| wE (oCl (q_dot e00 e01 e02 (ql_up hqe00 (by decide)) (ql_up hqe01 (by decide)) (ql_up hqe02 (by decide)) e00 e01 e02 (ql_up hqe00 (by decide)) (ql_up hqe01 (by decide)) (ql_up hqe02 (by decide)))) <| wE (oCl (by have h := f_divide (ofQ x) (ofQ (dot3 e00 e01 e02 e00 e01 e02)) x (dot3 e00 e01 e02 e00 e01 e02) (qok_up (qok_of hx) (by decide)) (qok_up (qok_of bn2) (by decide)); rw [divR_ne (dot3_ne hz0), divC_ne (dot3_ne hz0)] at h; exact h)) <| wM <| wE oEx <| wE oEx <| wN (oAl 4 ze42 zo42) <| wT (oSt sh42) <| wM <| wZ) ?_
  refine pwp_seq ?_
  have bn3 : QL (e00 * (x / (dot3 e00 e01 e02 e00 e01 e02))) 1002802 := (ql_mul (k := 1002802) hqe00 (ql_div (k := 1002402) hx bn2 (by decide)) (by decide))
  have bn4 : QL (e01 * (x / (dot3 e00 e01 e02 e00 e01 e02))) 1002802 := (ql_mul (k := 1002802) hqe01 (ql_div (k := 1002402) hx bn2 (by decide)) (by decide))
  have bn5 : QL (e02 * (x / (dot3 e00 e01 e02 e00 e01 e02))) 1002802 := (ql_mul (k := 1002802) hqe02 (ql_div (k := 1002402) hx bn2 (by decide)) (by decide))
  refine kd [(10, (.ref 5 0))] [(5, some y3)] mo (wM <| wM <| wE oNd <| wE (oFc fo134_3) <| wE (oXc ar131 0) <| wE (oCa sh129) <| wR (oLa sh42) <| wE (oCl (q_scaled e00 e01 e02 (ql_up hqe00 (by decide)) (ql_up hqe01 (by decide)) (ql_up hqe02 (by decide)) (x / (dot3 e00 e01 e02 e00 e01 e02)) (ql_up (ql_div (k := 1002402) hx bn2 (by decide)) (by decide)))) <| wN (oAl 5 ze129 zo129) <| wT (oSt sh129) <| wZ) ?_
  refine pwp_seq <| kx [(48, (vb true))] [] (zM <| zE oEq <| zZ) ?_
  refine pwp_cond (b := true) (by kernel_rfl) (fun _ => ?_) (fun h => by cases h)
  refine kx [] [(2, some y3)] (zR (oLa sh129) <| zT (oSt sh129) <| zZ) ?_
  refine kx [(17, (vin 1))] [] (zE (oAd 1 (hr := by decide)) <| zM <| zZ) ?_
  refine pwp_again (SimImp.refl _) ?_
  refine pwp_seq <| kx [(18, (vb true))] [] (zE (oBk true oLt) <| zZ) ?_
  refine pwp_seq <| pwp_cond (b := true) (by kernel_rfl) (fun _ => ?_) (fun h => by cases h)
  refine pwp_skip <| pwp_seq <| pwp_block <| pwp_seq <| kx [(6, (vin 1)), (7, (.ref 6 0))] [(6, some (bx (encR (ofQ y))))] (zM <| zE (oXa ar129 sh42 (fun h => by cases h) 1) <| zN (oAl 6 ze42 zo42) <| zM <| zT (oSt sh42) <| zZ) ?_
  refine pwp_seq ?_
  have bn6 : QL (dot3 e10 e11 e12 e10 e11 e12) 2402 := (ql_dot3 (n := 400) (k := 2402) hqe10 hqe11 hqe12 hqe10 hqe11 hqe12 (by decide))
  refine kd [(8, (.ref 7 0))] [(7, some (bx (encR (ofQ (y / (dot3 e10 e11 e12 e10 e11 e12))))))] mo (wR (oLa sh42) <| wM <| wM <| wE oNd <| wE (oFc fo134_3) <| wE (oXc ar131 1) <| wE (oCa sh129) <| wM <| wM <| wE oNd <| wE (oFc fo134_3) <| wE (oXc ar131 1) <| wE (oCa sh129) <| wE (oCl (q_dot e10 e11 e12 (ql_up hqe10 (by decide)) (ql_up hqe11 (by decide)) (ql_up hqe12 (by decide)) e10 e11 e12 (ql_up hqe10 (by decide)) (ql_up hqe11 (by decide)) (ql_up hqe12 (by decide)))) <| wE (oCl (by have h := f_divide (ofQ y) (ofQ (dot3 e10 e11 e12 e10 e11 e12)) y (dot3 e10 e11 e12 e10 e11 e12) (qok_up (qok_of hy) (by decide)) (qok_up (qok_of bn6) (by decide)); rw [divR_ne (dot3_ne hz1), divC_ne (dot3_ne hz1)] at h; exact h)) <| wM <| wE oEx <| wE oEx <| wN (oAl 7 ze42 zo42) <| wT (oSt sh42) <| wM <| wZ) ?_
  refine pwp_seq ?_
  have bn7 : QL (e10 * (y / (dot3 e10 e11 e12 e10 e11 e12))) 1002802 := (ql_mul (k := 1002802) hqe10 (ql_div (k := 1002402) hy bn6 (by decide)) (by decide))
  have bn8 : QL (e11 * (y / (dot3 e10 e11 e12 e10 e11 e12))) 1002802 := (ql_mul (k := 1002802) hqe11 (ql_div (k := 1002402) hy bn6 (by decide)) (by decide))
  have bn9 : QL (e12 * (y / (dot3 e10 e11 e12 e10 e11 e12))) 1002802 := (ql_mul (k := 1002802) hqe12 (ql_div (k := 1002402) hy bn6 (by decide)) (by decide))
  refine kd [(10, (.ref 8 0))] [(8, some y4)] mo (wM <| wM <| wE oNd <| wE (oFc fo134_3) <| wE (oXc ar131 1) <| wE (oCa sh129) <| wR (oLa sh42) <| wE (oCl (q_scaled e10 e11 e12 (ql_up hqe10 (by decide)) (ql_up hqe11 (by decide)) (ql_up hqe12 (by decide)) (y / (dot3 e10 e11 e12 e10 e11 e12)) (ql_up (ql_div (k := 1002402) hy bn6 (by decide)) (by decide)))) <| wN (oAl 8 ze129 zo129) <| wT (oSt sh129) <| wZ) ?_
  refine pwp_seq <| pwp_sim (wk (l := [(0, (.d (.cptr 1000001 (Dat.cells y2) 0))), (4, (.ref 1 0)), (5, (.ref 2 0)), (6, (vin 1)), (10, (.ref 8 0)), (16, (.d (encA43 (A3.mk (ofQ x) (ofQ y) (ofQ ((1 : Int) : Rat)))))), (17, (vin 1))]) (b := [(1, some y5), (2, some y3), (8, some y4)])) ?_
  refine kx [(48, (vb false))] [] (zM <| zE oEq <| zZ) ?_
  refine pwp_cond (b := false) (by kernel_rfl) (fun h => by cases h) (fun _ => ?_)
  refine kx [] [(2, some (bx (encA43 (A3.mk (ofQ ((e00 * (x / (dot3 e00 e01 e02 e00 e01 e02))) + (e10 * (y / (dot3 e10 e11 e12 e10 e11 e12))))) (ofQ ((e01 * (x / (dot3 e00 e01 e02 e00 e01 e02))) + (e11 * (y / (dot3 e10 e11 e12 e10 e11 e12))))) (ofQ ((e02 * (x / (dot3 e00 e01 e02 e00 e01 e02))) + (e12 * (y / (dot3 e10 e11 e12 e10 e11 e12)))))))))] (zR (oLa sh129) <| zR (oLa sh129) <| zE (oCl (q_sum (e00 * (x / (dot3 e00 e01 e02 e00 e01 e02))) (e01 * (x / (dot3 e00 e01 e02 e00 e01 e02))) (e02 * (x / (dot3 e00 e01 e02 e00 e01 e02))) (ql_up bn3 (by decide)) (ql_up bn4 (by decide)) (ql_up bn5 (by decide)) (e10 * (y / (dot3 e10 e11 e12 e10 e11 e12))) (e11 * (y / (dot3 e10 e11 e12 e10 e11 e12))) (e12 * (y / (dot3 e10 e11 e12 e10 e11 e12))) (ql_up bn7 (by decide)) (ql_up bn8 (by decide)) (ql_up bn9 (by decide)))) <| zT (oSt sh129) <| zZ) ?_
  refine kx [(17, (vin 2))] [] (zE (oAd 2 (hr := by decide)) <| zM <| zZ) ?_
  refine pwp_again (SimImp.refl _) ?_
  refine pwp_seq <| kx [(18, (vb true))] [] (zE (oBk true oLt) <| zZ) ?_
  refine pwp_seq <| pwp_cond (b := true) (by kernel_rfl) (fun _ => ?_) (fun h => by cases h)
  refine pwp_skip <| pwp_seq <| pwp_block <| pwp_seq <| kx [(6, (vin 2)), (7, (.ref 9 0))] [(9, some (bx (encR (ofQ ((1 : Int) : Rat)))))] (zM <| zE (oXa ar129 sh42 (fun h => by cases h) 2) <| zN (oAl 9 ze42 zo42) <| zM <| zT (oSt sh42) <| zZ) ?_
  refine pwp_seq ?_
  have bn10 : QL (dot3 e20 e21 e22 e20 e21 e22) 2402 := (ql_dot3 (n := 400) (k := 2402) hqe20 hqe21 hqe22 hqe20 hqe21 hqe22 (by decide))
  refine kd [(8, (.ref 10 0))] [(10, some (bx (encR (ofQ (((1 : Int) : Rat) / (dot3 e20 e21 e22 e20 e21 e22))))))] mo (wR (oLa sh42) <| wM <| wM <| wE oNd <| wE (oFc fo134_3) <| wE (oXc ar131 2) <| wE (oCa sh129) <| wM <| wM <| wE oNd <| wE (oFc fo134_3) <| wE (oXc ar131 2) <| wE (oCa sh129) <| wE (oCl (q_dot e20 e21 e22 (ql_up hqe20 (by decide)) (ql_up hqe21 (by decide)) (ql_up hqe22 (by decide)) e20 e21 e22 (ql_up hqe20 (by decide)) (ql_up hqe21 (by decide)) (ql_up hqe22 (by decide)))) <| wE (oCl (by have h := f_divide (ofQ ((1 : Int) : Rat)) (ofQ (dot3 e20 e21 e22 e20 e21 e22)) ((1 : Int) : Rat) (dot3 e20 e21 e22 e20 e21 e22) (qok_up (qok_of bn1) (by decide)) (qok_up (qok_of bn10) (by decide)); rw [divR_ne (dot3_ne hz2), divC_ne (dot3_ne hz2)] at h; exact h)) <| wM <| wE oEx <| wE oEx <| wN (oAl 10 ze42 zo42) <| wT (oSt sh42) <| wM <| wZ) ?_
  refine pwp_seq ?_
  have bn11 : QL (e20 * (((1 : Int) : Rat) / (dot3 e20 e21 e22 e20 e21 e22))) 2803 := (ql_mul (k := 2803) hqe20 (ql_div (k := 2403) bn1 bn10 (by decide)) (by decide))
  have bn12 : QL (e21 * (((1 : Int) : Rat) / (dot3 e20 e21 e22 e20 e21 e22))) 2803 := (ql_mul (k := 2803) hqe21 (ql_div (k := 2403) bn1 bn10 (by decide)) (by decide))
  have bn13 : QL (e22 * (((1 : Int) : Rat) / (dot3 e20 e21 e22 e20 e21 e22))) 2803 := (ql_mul (k := 2803) hqe22 (ql_div (k := 2403) bn1 bn10 (by decide)) (by decide))
  refine kd [(10, (.ref 11 0))] [(11, some (bx (encA43 (A3.mk (ofQ (e20 * (((1 : Int) : Rat) / (dot3 e20 e21 e22 e20 e21 e22)))) (ofQ (e21 * (((1 : Int) : Rat) / (dot3 e20 e21 e22 e20 e21 e22)))) (ofQ (e22 * (((1 : Int) : Rat) / (dot3 e20 e21 e22 e20 e21 e22))))))))] mo (wM <| wM <| wE oNd <| wE (oFc fo134_3) <| wE (oXc ar131 2) <| wE (oCa sh129) <| wR (oLa sh42) <| wE (oCl (q_scaled e20 e21 e22 (ql_up hqe20 (by decide)) (ql_up hqe21 (by decide)) (ql_up hqe22 (by decide)) (((1 : Int) : Rat) / (dot3 e20 e21 e22 e20 e21 e22)) (ql_up (ql_div (k := 2403) bn1 bn10 (by decide)) (by decide)))) <| wN (oAl 11 ze129 zo129) <| wT (oSt sh129) <| wZ) ?_
  refine pwp_seq <| kx [(48, (vb false))] [] (zM <| zE oEq <| zZ) ?_
  refine pwp_cond (b := false) (by kernel_rfl) (fun h => by cases h) (fun _ => ?_)
  have bn14 : QL (((e00 * (x / (dot3 e00 e01 e02 e00 e01 e02))) + (e10 * (y / (dot3 e10 e11 e12 e10 e11 e12)))) + (e20 * (((1 : Int) : Rat) / (dot3 e20 e21 e22 e20 e21 e22)))) 2008409 := (ql_add (k := 2008409) (ql_add (k := 2005605) bn3 bn7 (by decide)) bn11 (by decide))
  have bn15 : QL (((e01 * (x / (dot3 e00 e01 e02 e00 e01 e02))) + (e11 * (y / (dot3 e10 e11 e12 e10 e11 e12)))) + (e21 * (((1 : Int) : Rat) / (dot3 e20 e21 e22 e20 e21 e22)))) 2008409 := (ql_add (k := 2008409) (ql_add (k := 2005605) bn4 bn8 (by decide)) bn12 (by decide))
  have bn16 : QL (((e02 * (x / (dot3 e00 e01 e02 e00 e01 e02))) + (e12 * (y / (dot3 e10 e11 e12 e10 e11 e12)))) + (e22 * (((1 : Int) : Rat) / (dot3 e20 e21 e22 e20 e21 e22)))) 2008409 := (ql_add (k := 2008409) (ql_add (k := 2005605) bn5 bn9 (by decide)) bn13 (by decide))
  refine kx [] [(2, some y1)] (zR (oLa sh129) <| zR (oLa sh129) <| zE (oCl (q_sum ((e00 * (x / (dot3 e00 e01 e02 e00 e01 e02))) + (e10 * (y / (dot3 e10 e11 e12 e10 e11 e12)))) ((e01 * (x / (dot3 e00 e01 e02 e00 e01 e02))) + (e11 * (y / (dot3 e10 e11 e12 e10 e11 e12)))) ((e02 * (x / (dot3 e00 e01 e02 e00 e01 e02))) + (e12 * (y / (dot3 e10 e11 e12 e10 e11 e12)))) (ql_up (ql_add (k := 2005605) bn3 bn7 (by decide)) (by decide)) (ql_up (ql_add (k := 2005605) bn4 bn8 (by decide)) (by decide)) (ql_up (ql_add (k := 2005605) bn5 bn9 (by decide)) (by decide)) (e20 * (((1 : Int) : Rat) / (dot3 e20 e21 e22 e20 e21 e22))) (e21 * (((1 : Int) : Rat) / (dot3 e20 e21 e22 e20 e21 e22))) (e22 * (((1 : Int) : Rat) / (dot3 e20 e21 e22 e20 e21 e22))) (ql_up bn11 (by decide)) (ql_up bn12 (by decide)) (ql_up bn13 (by decide)))) <| zT (oSt sh129) <| zZ) ?_
  refine kx [(17, (vin 3))] [] (zE (oAd 3 (hr := by decide)) <| zM <| zZ) ?_
  refine pwp_again (SimImp.refl _) ?_
  refine pwp_seq <| kx [(18, (vb false))] [] (zE (oBk false oLt) <| zZ) ?_
  refine pwp_seq <| pwp_cond (b := false) (by kernel_rfl) (fun h => by cases h) (fun _ => ?_)
  refine pwp_exit <| pwp_seq <| kx [] [(1, some y1)] (zR (oLa sh129) <| zT (oSt sh129) <| zZ) ?_
  refine pwp_ret ⟨_, (res_a (cs := (bx (encA43 (A3.mk (ofQ (((e00 * (x / (dot3 e00 e01 e02 e00 e01 e02))) + (e10 * (y / (dot3 e10 e11 e12 e10 e11 e12)))) + (e20 * (((1 : Int) : Rat) / (dot3 e20 e21 e22 e20 e21 e22))))) (ofQ (((e01 * (x / (dot3 e00 e01 e02 e00 e01 e02))) + (e11 * (y / (dot3 e10 e11 e12 e10 e11 e12)))) + (e21 * (((1 : Int) : Rat) / (dot3 e20 e21 e22 e20 e21 e22))))) (ofQ (((e02 * (x / (dot3 e00 e01 e02 e00 e01 e02))) + (e12 * (y / (dot3 e10 e11 e12 e10 e11 e12)))) + (e22 * (((1 : Int) : Rat) / (dot3 e20 e21 e22 e20 e21 e22))))))))) (d := (encA43 (A3.mk (ofQ (((e00 * (x / (dot3 e00 e01 e02 e00 e01 e02))) + (e10 * (y / (dot3 e10 e11 e12 e10 e11 e12)))) + (e20 * (((1 : Int) : Rat) / (dot3 e20 e21 e22 e20 e21 e22))))) (ofQ (((e01 * (x / (dot3 e00 e01 e02 e00 e01 e02))) + (e11 * (y / (dot3 e10 e11 e12 e10 e11 e12)))) + (e21 * (((1 : Int) : Rat) / (dot3 e20 e21 e22 e20 e21 e22))))) (ofQ (((e02 * (x / (dot3 e00 e01 e02 e00 e01 e02))) + (e12 * (y / (dot3 e10 e11 e12 e10 e11 e12)))) + (e22 * (((1 : Int) : Rat) / (dot3 e20 e21 e22 e20 e21 e22)))))))) rfl rfl sh129 rfl rfl .nil), ?_⟩
  rfl
end Go.Proofs.YtbecgnplakngdaaGreat
namespace Go.Proofs.YtbecgnplakngdaaGreat
open Go.Fid
set_option maxRecDepth 4000
set_option linter.unusedVariables false
set_option linter.unusedSimpArgs false
theorem cb20 : callB Tryz.prog 20 = true := by kernel_rfl
theorem cb31 : callB Tryz.prog 31 = true := by kernel_rfl
theorem cb35 : callB Tryz.prog 35 = true := by kernel_rfl
theorem cb99 : callB Tryz.prog 99 = true := by kernel_rfl
theorem qs_seen (sx sy sz sa sb sc sd sf su sv : Int) (hsx : -1048576 ≤ sx ∧ sx ≤ 1048576) (hsy : -1048576 ≤ sy ∧ sy ≤ 1048576) (hsz : -1048576 ≤ sz ∧ sz ≤ 1048576) (px py pz : Int) (hpx : -1048576 ≤ px ∧ px ≤ 1048576) (hpy : -1048576 ≤ py ∧ py ≤ 1048576) (hpz : -1048576 ≤ pz ∧ pz ≤ 1048576) : Takes Tryz.prog 20 [(encStn (RStn.mk (RSpot.mk sx sy sz) (RQuat.mk sa sb sc sd) sf (RPix.mk su sv))), (encSpot (RSpot.mk px py pz))] (encA43 (A3.mk (ofQ ((px - sx : Int) : Rat)) (ofQ ((py - sy : Int) : Rat)) (ofQ ((pz - sz : Int) : Rat)))) := by
  refine fn_intro Tryz.func20 rfl cb20 rfl ?_
  show PWp _ _ _ _ ⟨[(0, (.d (encStn (RStn.mk (RSpot.mk sx sy sz) (RQuat.mk sa sb sc sd) sf (RPix.mk su sv))))), (1, (.d (encSpot (RSpot.mk px py pz))))], []⟩
  refine pwp_seq <| kx [(2, (.ref 0 0)), (3, (.ref 1 0)), (4, (.ref 2 0))] [(0, some (bx (encStn (RStn.mk (RSpot.mk sx sy sz) (RQuat.mk sa sb sc sd) sf (RPix.mk su sv))))), (1, some (bx (encSpot (RSpot.mk px py pz)))), (2, some (bx (encA43 (A3.mk (RRat.mk (RInt.mk false []) (RInt.mk false [])) (RRat.mk (RInt.mk false []) (RInt.mk false [])) (RRat.mk (RInt.mk false []) (RInt.mk false []))))))] (zN (oBx 0) <| zN (oBx 1) <| zN (oAl 2 ze44 zo44) <| zZ) ?_
  refine pwp_seq ?_
  have bn1 : QL ((px - sx : Int) : Rat) 3 := (ql_int (z := (px - sx)) (n := 3) (lenZ_int (by omega) (by omega)) (by decide))
  have bn2 : QL ((py - sy : Int) : Rat) 3 := (ql_int (z := (py - sy)) (n := 3) (lenZ_int (by omega) (by omega)) (by decide))
  have bn3 : QL ((pz - sz : Int) : Rat) 3 := (ql_int (z := (pz - sz)) (n := 3) (lenZ_int (by omega) (by omega)) (by decide))
  refine kx [] [(2, some (bx (encA43 (A3.mk (ofQ ((px - sx : Int) : Rat)) (ofQ ((py - sy : Int) : Rat)) (ofQ ((pz - sz : Int) : Rat))))))] (zE (oFr fo23_0) <| zR (oL1 sh3) <| zE (oFr fo29_0) <| zE (oFr fo23_0) <| zR (oL1 sh3) <| zE (zSb (px - sx) (hr := by exact (wAny rfl (by simp only [kLo]; omega) (by simp only [kHi]; omega)))) <| zE (oFr fo23_1) <| zR (oL1 sh3) <| zE (oFr fo29_0) <| zE (oFr fo23_1) <| zR (oL1 sh3) <| zE (zSb (py - sy) (hr := by exact (wAny rfl (by simp only [kLo]; omega) (by simp only [kHi]; omega)))) <| zE (oFr fo23_2) <| zR (oL1 sh3) <| zE (oFr fo29_0) <| zE (oFr fo23_2) <| zR (oL1 sh3) <| zE (zSb (pz - sz) (hr := by exact (wAny rfl (by simp only [kLo]; omega) (by simp only [kHi]; omega)))) <| zE (oCl (qs_whole (px - sx) (by omega) (by omega) (py - sy) (by omega) (by omega) (pz - sz) (by omega) (by omega))) <| zT (oSt sh44) <| zZ) ?_
  refine pwp_ret ⟨_, (res_a (cs := (bx (encA43 (A3.mk (ofQ ((px - sx : Int) : Rat)) (ofQ ((py - sy : Int) : Rat)) (ofQ ((pz - sz : Int) : Rat)))))) (d := (encA43 (A3.mk (ofQ ((px - sx : Int) : Rat)) (ofQ ((py - sy : Int) : Rat)) (ofQ ((pz - sz : Int) : Rat))))) rfl rfl sh44 rfl rfl .nil), ?_⟩
  rfl
theorem q_canT (x y : Rat) (hx : QL x 1000000) (hy : QL y 1000000) : Takes Tryz.prog 99 [(encPlace (RPlace.mk (ofQ x) (ofQ y)))] (.val (.bool (true))) := by
  refine fn_intro Tryz.func99 rfl cb99 rfl ?_
  show PWp _ _ _ _ ⟨[(0, (.d (encPlace (RPlace.mk (ofQ x) (ofQ y)))))], []⟩
  refine pwp_seq <| kx [(1, (.ref 0 0))] [(0, some (bx (encPlace (RPlace.mk (ofQ x) (ofQ y)))))] (zN (oBx 0) <| zM <| zZ) ?_
  refine pwp_seq <| kx [(2, (vb true))] [] (zE (oFr fo56_0) <| zR (oLa sh42) <| zE (oBk true (oCl (f_valid (ofQ x) x (qok_up (qok_of hx) (by decide)))) (by exact (validR_ofQ x))) <| zM <| zE (oFr fo56_1) <| zR (oLa sh42) <| zE (oBk true (oCl (f_valid (ofQ y) y (qok_up (qok_of hy) (by decide)))) (by exact (validR_ofQ y))) <| zE oPt <| zM <| zZ) ?_
  refine pwp_ret ⟨_, (.tmp (d := (.val (.bool (true)))) rfl .nil), ?_⟩
  rfl
theorem qs_none  : Takes Tryz.prog 35 [(encPlace (RPlace.mk (RRat.mk (RInt.mk false []) (RInt.mk false [])) (RRat.mk (RInt.mk false []) (RInt.mk false []))))] (.val (.bool (true))) := by
  refine fn_intro Tryz.func35 rfl cb35 rfl ?_
  show PWp _ _ _ _ ⟨[(0, (.d (encPlace (RPlace.mk (RRat.mk (RInt.mk false []) (RInt.mk false [])) (RRat.mk (RInt.mk false []) (RInt.mk false []))))))], []⟩
  refine pwp_seq <| kx [(1, (.ref 0 0))] [(0, some (bx (encPlace (RPlace.mk (RRat.mk (RInt.mk false []) (RInt.mk false [])) (RRat.mk (RInt.mk false []) (RInt.mk false []))))))] (zN (oBx 0) <| zM <| zZ) ?_
  refine pwp_seq <| kx [(2, (vb true))] [] (zE (oFr fo56_0) <| zR (oLa sh42) <| zE (oCl g_zeroT) <| zM <| zE (oFr fo56_1) <| zR (oLa sh42) <| zE (oCl g_zeroT) <| zE oPt <| zM <| zZ) ?_
  refine pwp_ret ⟨_, (.tmp (d := (.val (.bool (true)))) rfl .nil), ?_⟩
  rfl
theorem qs_samep (x y : Rat) (hx : QL x 1000000) (hy : QL y 1000000) (u v : Rat) (hu : QL u 1000000) (hv : QL v 1000000) (hxu : x = u) (hyv : y = v) : Takes Tryz.prog 31 [(encPlace (RPlace.mk (ofQ x) (ofQ y))), (encPlace (RPlace.mk (ofQ u) (ofQ v)))] (.val (.bool (true))) := by
  refine fn_intro Tryz.func31 rfl cb31 rfl ?_
  show PWp _ _ _ _ ⟨[(0, (.d (encPlace (RPlace.mk (ofQ x) (ofQ y))))), (1, (.d (encPlace (RPlace.mk (ofQ u) (ofQ v)))))], []⟩
  refine pwp_seq <| kx [(2, (.ref 0 0)), (3, (.ref 1 0))] [(0, some (bx (encPlace (RPlace.mk (ofQ x) (ofQ y))))), (1, some (bx (encPlace (RPlace.mk (ofQ u) (ofQ v)))))] (zN (oBx 0) <| zN (oBx 1) <| zM <| zZ) ?_
  refine pwp_seq <| kx [(4, (vb true))] [] (zE (oFr fo56_0) <| zR (oLa sh42) <| zE (oFr fo56_0) <| zR (oLa sh42) <| zE (oBk true (oCl (by have h := g_same (ofQ x) (ofQ u) x u (qok_up (qok_of hx) (by decide)) (qok_up (qok_of hu) (by decide)); rw [sameR_of] at h; exact h)) (by exact decide_eq_true hxu)) <| zM <| zE (oFr fo56_1) <| zR (oLa sh42) <| zE (oFr fo56_1) <| zR (oLa sh42) <| zE (oBk true (oCl (by have h := g_same (ofQ y) (ofQ v) y v (qok_up (qok_of hy) (by decide)) (qok_up (qok_of hv) (by decide)); rw [sameR_of] at h; exact h)) (by exact decide_eq_true hyv)) <| zE oPt <| zM <| zZ) ?_
  refine pwp_ret ⟨_, (.tmp (d := (.val (.bool (true)))) rfl .nil), ?_⟩
  rfl
end Go.Proofs.YtbecgnplakngdaaGreat
namespace Go.Proofs.YtbecgnplakngdaaGreat
open Go.Fid
set_option maxRecDepth 4000
set_option linter.unusedVariables false
set_option linter.unusedSimpArgs false
theorem ar43 : arrB Tryz.prog 43 = some (3, 42, 4) := by kernel_rfl
theorem cb29 : callB Tryz.prog 29 = true := by kernel_rfl
theorem cb37 : callB Tryz.prog 37 = true := by kernel_rfl
theorem sh43 : shapeB Tryz.prog 43 = some (true, 12) := by kernel_rfl
theorem ze43 : zeroB Tryz.prog 43 = some [.bool false, .slice none 0 0, .bool false, .slice none 0 0, .bool false, .slice none 0 0, .bool false, .slice none 0 0, .bool false, .slice none 0 0, .bool false, .slice none 0 0] := by kernel_rfl
theorem zo43 : ZOk [.bool false, .slice none 0 0, .bool false, .slice none 0 0, .bool false, .slice none 0 0, .bool false, .slice none 0 0, .bool false, .slice none 0 0, .bool false, .slice none 0 0] [.val (.bool false), .sl 152 1 [], .val (.bool false), .sl 152 1 [], .val (.bool false), .sl 152 1 [], .val (.bool false), .sl 152 1 [], .val (.bool false), .sl 152 1 [], .val (.bool false), .sl 152 1 []] := by simp [ZOk, Value.oneCell']
theorem q_prjE1 (lx ly lz la lb lc ld lf lu lv rx ry rz ra rb rc rd rf ru rv : Int) (px py pz : Int) (c : Nat) (hc : stn2 (stnC lx ly lz lu lv lf la lb lc ld) (stnC rx ry rz ru rv rf ra rb rc rd) = c) (hc0 : c ≠ 0) : Takes Tryz.prog 29 [(encStereo (RStereo.mk (RStn.mk (RSpot.mk lx ly lz) (RQuat.mk la lb lc ld) lf (RPix.mk lu lv)) (RStn.mk (RSpot.mk rx ry rz) (RQuat.mk ra rb rc rd) rf (RPix.mk ru rv)))), (encSpot (RSpot.mk px py pz))] (.tup [(encPlace (RPlace.mk (RRat.mk (RInt.mk false []) (RInt.mk false [])) (RRat.mk (RInt.mk false []) (RInt.mk false [])))), (encR (RRat.mk (RInt.mk false []) (RInt.mk false []))), (.val (.int .i64 (((c : Nat) : Int))))]) := by
  let y2 := (RRat.mk (RInt.mk false []) (RInt.mk false []))
  let y1 := (encStereo (RStereo.mk (RStn.mk (RSpot.mk lx ly lz) (RQuat.mk la lb lc ld) lf (RPix.mk lu lv)) (RStn.mk (RSpot.mk rx ry rz) (RQuat.mk ra rb rc rd) rf (RPix.mk ru rv))))
  refine fn_intro Tryz.func29 rfl cb29 rfl ?_
  show PWp _ _ _ _ ⟨[(0, (.d y1)), (1, (.d (encSpot (RSpot.mk px py pz))))], []⟩
  refine pwp_seq <| kx [(2, (.ref 0 0)), (3, (.ref 1 0)), (4, (.ref 2 0)), (5, (.ref 3 0))] [(0, some (bx y1)), (1, some (bx (encSpot (RSpot.mk px py pz)))), (2, some (bx (encPlace (RPlace.mk y2 y2)))), (3, some (bx (encR y2)))] (zN (oBx 0) <| zN (oBx 1) <| zN (oAl 2 ze56 zo56) <| zN (oAl 3 ze42 zo42) <| zM <| zZ) ?_
  refine pwp_seq <| kx [(7, (.d (.val (.pointer none)))), (8, (vin c))] [] (zR (oLa sh31) <| zE (oCl (q_recE1 lx ly lz la lb lc ld lf lu lv rx ry rz ra rb rc rd rf ru rv c hc hc0)) <| zM <| zE oEx <| zE oEx <| zM <| zM <| zZ) ?_
  refine pwp_seq <| pwp_seq <| kx [(23, (vb true))] [] (zM <| zE (oBk true oNe (by exact bne_iff_ne.2 (by have hx := hc0; omega))) <| zZ) ?_
  refine pwp_cond (b := true) (by kernel_rfl) (fun _ => ?_) (fun h => by cases h)
  refine pwp_seq <| kx [(6, (vin c))] [(2, some (bx (encPlace (RPlace.mk y2 y2)))), (3, some (bx (encR y2)))] (zE (oBd pl56 ze56 zo56) <| zE (oBd pl42 ze42 zo42) <| zM <| zT (oSt sh56) <| zT (oSt sh42) <| zM <| zZ) ?_
  refine pwp_ret ⟨_, (res_a (cs := (bx (encPlace (RPlace.mk (RRat.mk (RInt.mk false []) (RInt.mk false [])) (RRat.mk (RInt.mk false []) (RInt.mk false [])))))) (d := (encPlace (RPlace.mk (RRat.mk (RInt.mk false []) (RInt.mk false [])) (RRat.mk (RInt.mk false []) (RInt.mk false []))))) rfl rfl sh56 rfl rfl (res_a (cs := (bx (encR (RRat.mk (RInt.mk false []) (RInt.mk false []))))) (d := (encR (RRat.mk (RInt.mk false []) (RInt.mk false [])))) rfl rfl sh42 rfl rfl (.tmp (d := (.val (.int .i64 (((c : Nat) : Int))))) rfl .nil))), ?_⟩
  rfl
theorem q_prjE2 (lx ly lz la lb lc ld lf lu lv rx ry rz ra rb rc rd rf ru rv : Int) (px py pz : Int) (b0 b1 b2 : Rat) (hqb0 : QL b0 3) (hqb1 : QL b1 3) (hqb2 : QL b2 3) (hl : stnC lx ly lz lu lv lf la lb lc ld = 0) (hr : stnC rx ry rz ru rv rf ra rb rc rd = 0) (hb0 : ((rx - lx : Int) : Rat) = b0) (hb1 : ((ry - ly : Int) : Rat) = b1) (hb2 : ((rz - lz : Int) : Rat) = b2) (hup : upV la lb lc ld ra rb rc rd b0 b1 b2 = true) : Takes Tryz.prog 29 [(encStereo (RStereo.mk (RStn.mk (RSpot.mk lx ly lz) (RQuat.mk la lb lc ld) lf (RPix.mk lu lv)) (RStn.mk (RSpot.mk rx ry rz) (RQuat.mk ra rb rc rd) rf (RPix.mk ru rv)))), (encSpot (RSpot.mk px py pz))] (.tup [(encPlace (RPlace.mk (RRat.mk (RInt.mk false []) (RInt.mk false [])) (RRat.mk (RInt.mk false []) (RInt.mk false [])))), (encR (RRat.mk (RInt.mk false []) (RInt.mk false []))), (.val (.int .i64 (13)))]) := by
  let y2 := (RRat.mk (RInt.mk false []) (RInt.mk false []))
  let y1 := (encStereo (RStereo.mk (RStn.mk (RSpot.mk lx ly lz) (RQuat.mk la lb lc ld) lf (RPix.mk lu lv)) (RStn.mk (RSpot.mk rx ry rz) (RQuat.mk ra rb rc rd) rf (RPix.mk ru rv))))
  refine fn_intro Tryz.func29 rfl cb29 rfl ?_
  show PWp _ _ _ _ ⟨[(0, (.d y1)), (1, (.d (encSpot (RSpot.mk px py pz))))], []⟩
  refine pwp_seq <| kx [(2, (.ref 0 0)), (3, (.ref 1 0)), (4, (.ref 2 0)), (5, (.ref 3 0))] [(0, some (bx y1)), (1, some (bx (encSpot (RSpot.mk px py pz)))), (2, some (bx (encPlace (RPlace.mk y2 y2)))), (3, some (bx (encR y2)))] (zN (oBx 0) <| zN (oBx 1) <| zN (oAl 2 ze56 zo56) <| zN (oAl 3 ze42 zo42) <| zM <| zZ) ?_
  refine pwp_seq <| kx [(7, (.d (.val (.pointer none)))), (8, (vi 13))] [] (zR (oLa sh31) <| zE (oCl (q_recE2 lx ly lz la lb lc ld lf lu lv rx ry rz ra rb rc rd rf ru rv b0 b1 b2 hqb0 hqb1 hqb2 hl hr hb0 hb1 hb2 hup)) <| zM <| zE oEx <| zE oEx <| zM <| zM <| zZ) ?_
  refine pwp_seq <| pwp_seq <| kx [(23, (vb true))] [] (zM <| zE oNe <| zZ) ?_
  refine pwp_cond (b := true) (by kernel_rfl) (fun _ => ?_) (fun h => by cases h)
  refine pwp_seq <| kx [(6, (vi 13))] [(2, some (bx (encPlace (RPlace.mk y2 y2)))), (3, some (bx (encR y2)))] (zE (oBd pl56 ze56 zo56) <| zE (oBd pl42 ze42 zo42) <| zM <| zT (oSt sh56) <| zT (oSt sh42) <| zM <| zZ) ?_
  refine pwp_ret ⟨_, (res_a (cs := (bx (encPlace (RPlace.mk (RRat.mk (RInt.mk false []) (RInt.mk false [])) (RRat.mk (RInt.mk false []) (RInt.mk false [])))))) (d := (encPlace (RPlace.mk (RRat.mk (RInt.mk false []) (RInt.mk false [])) (RRat.mk (RInt.mk false []) (RInt.mk false []))))) rfl rfl sh56 rfl rfl (res_a (cs := (bx (encR (RRat.mk (RInt.mk false []) (RInt.mk false []))))) (d := (encR (RRat.mk (RInt.mk false []) (RInt.mk false [])))) rfl rfl sh42 rfl rfl (.tmp (d := (.val (.int .i64 (13)))) rfl .nil))), ?_⟩
  rfl
theorem q_prjR (lx ly lz la lb lc ld lf lu lv rx ry rz ra rb rc rd rf ru rv : Int) (px py pz : Int) (b0 b1 b2 e00 e01 e02 e10 e11 e12 e20 e21 e22 : Rat) (hF : RFr lx ly lz la lb lc ld rx ry rz ra rb rc rd b0 b1 b2 e00 e01 e02 e10 e11 e12 e20 e21 e22) (hqb0 : QL b0 3) (hqb1 : QL b1 3) (hqb2 : QL b2 3) (hqe00 : QL e00 400) (hqe01 : QL e01 400) (hqe02 : QL e02 400) (hqe10 : QL e10 400) (hqe11 : QL e11 400) (hqe12 : QL e12 400) (hqe20 : QL e20 400) (hqe21 : QL e21 400) (hqe22 : QL e22 400) (hl : stnC lx ly lz lu lv lf la lb lc ld = 0) (hr : stnC rx ry rz ru rv rf ra rb rc rd = 0) (hup : upV la lb lc ld ra rb rc rd b0 b1 b2 = false) (hr_ : spotB px py pz = false) : Takes Tryz.prog 29 [(encStereo (RStereo.mk (RStn.mk (RSpot.mk lx ly lz) (RQuat.mk la lb lc ld) lf (RPix.mk lu lv)) (RStn.mk (RSpot.mk rx ry rz) (RQuat.mk ra rb rc rd) rf (RPix.mk ru rv)))), (encSpot (RSpot.mk px py pz))] (.tup [(encPlace (RPlace.mk (RRat.mk (RInt.mk false []) (RInt.mk false [])) (RRat.mk (RInt.mk false []) (RInt.mk false [])))), (encR (RRat.mk (RInt.mk false []) (RInt.mk false []))), (.val (.int .i64 (2)))]) := by
  have hbl := stnC_ok hl
  have hbr := stnC_ok hr
  obtain ⟨hlx, hly, hlz, hlu, hlv, hlf, hlq⟩ := hbl
  obtain ⟨hrx, hry, hrz, hru, hrv, hrf, hrq⟩ := hbr
  obtain ⟨hla, hlb, hlc, hld, -⟩ := rotC_ok hlq
  obtain ⟨hra, hrb, hrc, hrd, -⟩ := rotC_ok hrq
  have hnl := nq_b hla hlb hlc hld
  have hnr := nq_b hra hrb hrc hrd
  have hz0 := fr_z0 hF hup
  have hz1 := fr_z1 hF hup
  have hz2 := fr_z2 hF hup
  let y4 := (bx (encR (RRat.mk (RInt.mk false []) (RInt.mk false []))))
  let y3 := (bx (encPlace (RPlace.mk (RRat.mk (RInt.mk false []) (RInt.mk false [])) (RRat.mk (RInt.mk false []) (RInt.mk false [])))))
  let y2 := (encStereo (RStereo.mk (RStn.mk (RSpot.mk lx ly lz) (RQuat.mk la lb lc ld) lf (RPix.mk lu lv)) (RStn.mk (RSpot.mk rx ry rz) (RQuat.mk ra rb rc rd) rf (RPix.mk ru rv))))
  let y1 := (encRp (RRp.mk (RStn.mk (RSpot.mk lx ly lz) (RQuat.mk la lb lc ld) lf (RPix.mk lu lv)) (RStn.mk (RSpot.mk rx ry rz) (RQuat.mk ra rb rc rd) rf (RPix.mk ru rv)) (A3.mk (ofQ b0) (ofQ b1) (ofQ b2)) (A3.mk (A3.mk (ofQ e00) (ofQ e01) (ofQ e02)) (A3.mk (ofQ e10) (ofQ e11) (ofQ e12)) (A3.mk (ofQ e20) (ofQ e21) (ofQ e22)))))
  refine fn_intro Tryz.func29 rfl cb29 rfl ?_
  show PWp _ _ _ _ ⟨[(0, (.d y2)), (1, (.d (encSpot (RSpot.mk px py pz))))], []⟩
  refine pwp_seq <| kx [(2, (.ref 0 0)), (3, (.ref 1 0)), (4, (.ref 2 0)), (5, (.ref 3 0))] [(0, some (bx y2)), (1, some (bx (encSpot (RSpot.mk px py pz)))), (2, some y3), (3, some y4)] (zN (oBx 0) <| zN (oBx 1) <| zN (oAl 2 ze56 zo56) <| zN (oAl 3 ze42 zo42) <| zM <| zZ) ?_
  refine pwp_seq <| kx [(7, (.d (.cptr 1000001 (Dat.cells y1) 0))), (8, (vi 0))] [] (zR (oLa sh31) <| zE (oCl (q_rec lx ly lz la lb lc ld lf lu lv rx ry rz ra rb rc rd rf ru rv b0 b1 b2 e00 e01 e02 e10 e11 e12 e20 e21 e22 hF hqb0 hqb1 hqb2 hqe00 hqe01 hqe02 hqe10 hqe11 hqe12 hqe20 hqe21 hqe22 hl hr hup)) <| zM <| zE oEx <| zE oEx <| zM <| zM <| zZ) ?_
  refine pwp_seq <| pwp_seq <| kx [(23, (vb false))] [] (zM <| zE oNe <| zZ) ?_
  refine pwp_cond (b := false) (by kernel_rfl) (fun h => by cases h) (fun _ => ?_)
  refine pwp_skip <| pwp_seq <| pwp_seq <| kx [(33, (vl 3 1 enc_i64 [px, py, pz])), (34, (vin 3)), (35, (vin 0))] [] (zE (oFr fo23_0) <| zR (oL1 sh3) <| zE (oFr fo23_1) <| zR (oL1 sh3) <| zE (oFr fo23_2) <| zR (oL1 sh3) <| zE (oBs el74 ze3 zo3) <| zE (oLn el74 3) <| zM <| zZ) ?_
  refine pwp_block <| pwp_rounds 20 ?_
  refine pwp_round <| pwp_seq <| kx [(36, (vb true))] [] (zE (oBk true oLt) <| zZ) ?_
  refine pwp_seq <| pwp_cond (b := true) (by kernel_rfl) (fun _ => ?_) (fun h => by cases h)
  refine pwp_skip <| pwp_seq <| pwp_block <| pwp_seq <| kx [(10, (vi px))] [] (zE (oXs el74 0) <| zE (oC1 sh3) <| zM <| zZ) ?_
  refine pwp_seq <| kx [(44, (vb (decide (px < -1048576) || decide (((1048576 : Nat) : Int) < px))))] [] ?_ ?_
  · refine zM <| zE oLt <| zE (oV (vb (decide (px < -1048576))) (mv_ok (by kernel_rfl))) <| ?_
    rcases hb1 : (decide (px < -1048576)) with _ | _
    · replace hb1 := of_decide_eq_false hb1
      exact zM <| zE oGt <| zE oPo <| zZ
    · replace hb1 := of_decide_eq_true hb1
      exact zK <| zK <| zE oPt <| zZ
  refine pwp_cond rfl (fun h2 => ?_) (fun h2 => ?_)
  · refine pwp_seq <| kx [(6, (vin 2))] [(2, some y3), (3, some y4)] (zE (oBd pl56 ze56 zo56) <| zE (oBd pl42 ze42 zo42) <| zT (oSt sh56) <| zT (oSt sh42) <| zM <| zZ) ?_
    refine pwp_ret ⟨_, (res_a (cs := (bx (encPlace (RPlace.mk (RRat.mk (RInt.mk false []) (RInt.mk false [])) (RRat.mk (RInt.mk false []) (RInt.mk false [])))))) (d := (encPlace (RPlace.mk (RRat.mk (RInt.mk false []) (RInt.mk false [])) (RRat.mk (RInt.mk false []) (RInt.mk false []))))) rfl rfl sh56 rfl rfl (res_a (cs := (bx (encR (RRat.mk (RInt.mk false []) (RInt.mk false []))))) (d := (encR (RRat.mk (RInt.mk false []) (RInt.mk false [])))) rfl rfl sh42 rfl rfl (.tmp (d := (.val (.int .i64 (((2 : Nat) : Int))))) rfl .nil))), ?_⟩
    rfl
  · refine pwp_skip <| kx [(35, (vin 1))] [] (zE (oAd 1 (hr := by decide)) <| zM <| zZ) ?_
    refine pwp_again (SimImp.refl _) ?_
    refine pwp_seq <| kx [(36, (vb true))] [] (zE (oBk true oLt) <| zZ) ?_
    refine pwp_seq <| pwp_cond (b := true) (by kernel_rfl) (fun _ => ?_) (fun h => by cases h)
    refine pwp_skip <| pwp_seq <| pwp_block <| pwp_seq <| kx [(10, (vi py))] [] (zE (oXs el74 1) <| zE (oC1 sh3) <| zM <| zZ) ?_
    refine pwp_seq <| kx [(44, (vb (decide (py < -1048576) || decide (((1048576 : Nat) : Int) < py))))] [] ?_ ?_
    · refine zM <| zE oLt <| zE (oV (vb (decide (py < -1048576))) (mv_ok (by kernel_rfl))) <| ?_
      rcases hb3 : (decide (py < -1048576)) with _ | _
      · replace hb3 := of_decide_eq_false hb3
        exact zM <| zE oGt <| zE oPo <| zZ
      · replace hb3 := of_decide_eq_true hb3
        exact zK <| zK <| zE oPt <| zZ
    refine pwp_cond rfl (fun h4 => ?_) (fun h4 => ?_)
    · refine pwp_seq <| kx [(6, (vin 2))] [(2, some y3), (3, some y4)] (zE (oBd pl56 ze56 zo56) <| zE (oBd pl42 ze42 zo42) <| zT (oSt sh56) <| zT (oSt sh42) <| zM <| zZ) ?_
      refine pwp_ret ⟨_, (res_a (cs := (bx (encPlace (RPlace.mk (RRat.mk (RInt.mk false []) (RInt.mk false [])) (RRat.mk (RInt.mk false []) (RInt.mk false [])))))) (d := (encPlace (RPlace.mk (RRat.mk (RInt.mk false []) (RInt.mk false [])) (RRat.mk (RInt.mk false []) (RInt.mk false []))))) rfl rfl sh56 rfl rfl (res_a (cs := (bx (encR (RRat.mk (RInt.mk false []) (RInt.mk false []))))) (d := (encR (RRat.mk (RInt.mk false []) (RInt.mk false [])))) rfl rfl sh42 rfl rfl (.tmp (d := (.val (.int .i64 (((2 : Nat) : Int))))) rfl .nil))), ?_⟩
      rfl
    · refine pwp_skip <| kx [(35, (vin 2))] [] (zE (oAd 2 (hr := by decide)) <| zM <| zZ) ?_
      refine pwp_again (SimImp.refl _) ?_
      refine pwp_seq <| kx [(36, (vb true))] [] (zE (oBk true oLt) <| zZ) ?_
      refine pwp_seq <| pwp_cond (b := true) (by kernel_rfl) (fun _ => ?_) (fun h => by cases h)
      refine pwp_skip <| pwp_seq <| pwp_block <| pwp_seq <| kx [(10, (vi pz))] [] (zE (oXs el74 2) <| zE (oC1 sh3) <| zM <| zZ) ?_
      refine pwp_seq <| pwp_sim (wk (l := [(3, (.ref 1 0)), (4, (.ref 2 0)), (5, (.ref 3 0)), (7, (.d (.cptr 1000001 (Dat.cells y1) 0))), (10, (vi pz)), (33, (vl 3 1 enc_i64 [px, py, pz])), (34, (vin 3)), (35, (vin 2))]) (b := [(1, some (bx (encSpot (RSpot.mk px py pz)))), (2, some y3), (3, some y4)])) ?_
      refine kx [(44, (vb (decide (pz < -1048576) || decide (((1048576 : Nat) : Int) < pz))))] [] ?_ ?_
      · refine zM <| zE oLt <| zE (oV (vb (decide (pz < -1048576))) (mv_ok (by kernel_rfl))) <| ?_
        rcases hb5 : (decide (pz < -1048576)) with _ | _
        · replace hb5 := of_decide_eq_false hb5
          exact zM <| zE oGt <| zE oPo <| zZ
        · replace hb5 := of_decide_eq_true hb5
          exact zK <| zK <| zE oPt <| zZ
      refine pwp_cond rfl (fun h6 => ?_) (fun h6 => ?_)
      · refine pwp_seq <| kx [(6, (vin 2))] [(2, some y3), (3, some y4)] (zE (oBd pl56 ze56 zo56) <| zE (oBd pl42 ze42 zo42) <| zT (oSt sh56) <| zT (oSt sh42) <| zM <| zZ) ?_
        refine pwp_ret ⟨_, (res_a (cs := (bx (encPlace (RPlace.mk (RRat.mk (RInt.mk false []) (RInt.mk false [])) (RRat.mk (RInt.mk false []) (RInt.mk false [])))))) (d := (encPlace (RPlace.mk (RRat.mk (RInt.mk false []) (RInt.mk false [])) (RRat.mk (RInt.mk false []) (RInt.mk false []))))) rfl rfl sh56 rfl rfl (res_a (cs := (bx (encR (RRat.mk (RInt.mk false []) (RInt.mk false []))))) (d := (encR (RRat.mk (RInt.mk false []) (RInt.mk false [])))) rfl rfl sh42 rfl rfl (.tmp (d := (.val (.int .i64 (((2 : Nat) : Int))))) rfl .nil))), ?_⟩
        rfl
      · exact (spotB_abs hr_ h2 h4 h6).elim
theorem q_prjN (lx ly lz la lb lc ld lf lu lv rx ry rz ra rb rc rd rf ru rv : Int) (px py pz : Int) (hpx : -1048576 ≤ px ∧ px ≤ 1048576) (hpy : -1048576 ≤ py ∧ py ≤ 1048576) (hpz : -1048576 ≤ pz ∧ pz ≤ 1048576) (b0 b1 b2 e00 e01 e02 e10 e11 e12 e20 e21 e22 : Rat) (hF : RFr lx ly lz la lb lc ld rx ry rz ra rb rc rd b0 b1 b2 e00 e01 e02 e10 e11 e12 e20 e21 e22) (hqb0 : QL b0 3) (hqb1 : QL b1 3) (hqb2 : QL b2 3) (hqe00 : QL e00 400) (hqe01 : QL e01 400) (hqe02 : QL e02 400) (hqe10 : QL e10 400) (hqe11 : QL e11 400) (hqe12 : QL e12 400) (hqe20 : QL e20 400) (hqe21 : QL e21 400) (hqe22 : QL e22 400) (r0 : Rat) (hr0 : ((px - lx : Int) : Rat) = r0) (r1 : Rat) (hr1 : ((py - ly : Int) : Rat) = r1) (r2 : Rat) (hr2 : ((pz - lz : Int) : Rat) = r2) (hl : stnC lx ly lz lu lv lf la lb lc ld = 0) (hr : stnC rx ry rz ru rv rf ra rb rc rd = 0) (hup : upV la lb lc ld ra rb rc rd b0 b1 b2 = false) (hd : (signQ (dot3 e20 e21 e22 r0 r1 r2)) ≤ 0) : Takes Tryz.prog 29 [(encStereo (RStereo.mk (RStn.mk (RSpot.mk lx ly lz) (RQuat.mk la lb lc ld) lf (RPix.mk lu lv)) (RStn.mk (RSpot.mk rx ry rz) (RQuat.mk ra rb rc rd) rf (RPix.mk ru rv)))), (encSpot (RSpot.mk px py pz))] (.tup [(encPlace (RPlace.mk (RRat.mk (RInt.mk false []) (RInt.mk false [])) (RRat.mk (RInt.mk false []) (RInt.mk false [])))), (encR (RRat.mk (RInt.mk false []) (RInt.mk false []))), (.val (.int .i64 (20)))]) := by
  have hbl := stnC_ok hl
  have hbr := stnC_ok hr
  obtain ⟨hlx, hly, hlz, hlu, hlv, hlf, hlq⟩ := hbl
  obtain ⟨hrx, hry, hrz, hru, hrv, hrf, hrq⟩ := hbr
  obtain ⟨hla, hlb, hlc, hld, -⟩ := rotC_ok hlq
  obtain ⟨hra, hrb, hrc, hrd, -⟩ := rotC_ok hrq
  have hnl := nq_b hla hlb hlc hld
  have hnr := nq_b hra hrb hrc hrd
  have hz0 := fr_z0 hF hup
  have hz1 := fr_z1 hF hup
  have hz2 := fr_z2 hF hup
  let y4 := (bx (encR (RRat.mk (RInt.mk false []) (RInt.mk false []))))
  let y3 := (bx (encPlace (RPlace.mk (RRat.mk (RInt.mk false []) (RInt.mk false [])) (RRat.mk (RInt.mk false []) (RInt.mk false [])))))
  let y2 := (encStereo (RStereo.mk (RStn.mk (RSpot.mk lx ly lz) (RQuat.mk la lb lc ld) lf (RPix.mk lu lv)) (RStn.mk (RSpot.mk rx ry rz) (RQuat.mk ra rb rc rd) rf (RPix.mk ru rv))))
  let y1 := (encRp (RRp.mk (RStn.mk (RSpot.mk lx ly lz) (RQuat.mk la lb lc ld) lf (RPix.mk lu lv)) (RStn.mk (RSpot.mk rx ry rz) (RQuat.mk ra rb rc rd) rf (RPix.mk ru rv)) (A3.mk (ofQ b0) (ofQ b1) (ofQ b2)) (A3.mk (A3.mk (ofQ e00) (ofQ e01) (ofQ e02)) (A3.mk (ofQ e10) (ofQ e11) (ofQ e12)) (A3.mk (ofQ e20) (ofQ e21) (ofQ e22)))))
  refine fn_intro Tryz.func29 rfl cb29 rfl ?_
  show PWp _ _ _ _ ⟨[(0, (.d y2)), (1, (.d (encSpot (RSpot.mk px py pz))))], []⟩
  refine pwp_seq <| kx [(2, (.ref 0 0)), (3, (.ref 1 0)), (4, (.ref 2 0)), (5, (.ref 3 0))] [(0, some (bx y2)), (1, some (bx (encSpot (RSpot.mk px py pz)))), (2, some y3), (3, some y4)] (zN (oBx 0) <| zN (oBx 1) <| zN (oAl 2 ze56 zo56) <| zN (oAl 3 ze42 zo42) <| zM <| zZ) ?_
  refine pwp_seq <| kx [(7, (.d (.cptr 1000001 (Dat.cells y1) 0))), (8, (vi 0))] [] (zR (oLa sh31) <| zE (oCl (q_rec lx ly lz la lb lc ld lf lu lv rx ry rz ra rb rc rd rf ru rv b0 b1 b2 e00 e01 e02 e10 e11 e12 e20 e21 e22 hF hqb0 hqb1 hqb2 hqe00 hqe01 hqe02 hqe10 hqe11 hqe12 hqe20 hqe21 hqe22 hl hr hup)) <| zM <| zE oEx <| zE oEx <| zM <| zM <| zZ) ?_
  refine pwp_seq <| pwp_seq <| kx [(23, (vb false))] [] (zM <| zE oNe <| zZ) ?_
  refine pwp_cond (b := false) (by kernel_rfl) (fun h => by cases h) (fun _ => ?_)
  refine pwp_skip <| pwp_seq <| pwp_seq <| kx [(33, (vl 3 1 enc_i64 [px, py, pz])), (34, (vin 3)), (35, (vin 0))] [] (zE (oFr fo23_0) <| zR (oL1 sh3) <| zE (oFr fo23_1) <| zR (oL1 sh3) <| zE (oFr fo23_2) <| zR (oL1 sh3) <| zE (oBs el74 ze3 zo3) <| zE (oLn el74 3) <| zM <| zZ) ?_
  refine pwp_block <| pwp_rounds 20 ?_
  refine pwp_round <| pwp_seq <| kx [(36, (vb true))] [] (zE (oBk true oLt) <| zZ) ?_
  refine pwp_seq <| pwp_cond (b := true) (by kernel_rfl) (fun _ => ?_) (fun h => by cases h)
  refine pwp_skip <| pwp_seq <| pwp_block <| pwp_seq <| kx [(10, (vi px))] [] (zE (oXs el74 0) <| zE (oC1 sh3) <| zM <| zZ) ?_
  refine pwp_seq <| kx [(44, (vb false))] [] (zM <| zE (oBk false oLt (by exact decide_eq_false (by omega))) <| zM <| zM <| zE (oBk false oGt (by exact decide_eq_false (by omega))) <| zE oPf <| zZ) ?_
  refine pwp_cond (b := false) (by kernel_rfl) (fun h => by cases h) (fun _ => ?_)
  refine pwp_skip <| kx [(35, (vin 1))] [] (zE (oAd 1 (hr := by decide)) <| zM <| zZ) ?_
  refine pwp_again (SimImp.refl _) ?_
  refine pwp_seq <| kx [(36, (vb true))] [] (zE (oBk true oLt) <| zZ) ?_
  refine pwp_seq <| pwp_cond (b := true) (by kernel_rfl) (fun _ => ?_) (fun h => by cases h)
  refine pwp_skip <| pwp_seq <| pwp_block <| pwp_seq <| kx [(10, (vi py))] [] (zE (oXs el74 1) <| zE (oC1 sh3) <| zM <| zZ) ?_
  refine pwp_seq <| kx [(44, (vb false))] [] (zM <| zE (oBk false oLt (by exact decide_eq_false (by omega))) <| zM <| zM <| zE (oBk false oGt (by exact decide_eq_false (by omega))) <| zE oPf <| zZ) ?_
  refine pwp_cond (b := false) (by kernel_rfl) (fun h => by cases h) (fun _ => ?_)
  refine pwp_skip <| kx [(35, (vin 2))] [] (zE (oAd 2 (hr := by decide)) <| zM <| zZ) ?_
  refine pwp_again (SimImp.refl _) ?_
  refine pwp_seq <| kx [(36, (vb true))] [] (zE (oBk true oLt) <| zZ) ?_
  refine pwp_seq <| pwp_cond (b := true) (by kernel_rfl) (fun _ => ?_) (fun h => by cases h)
  refine pwp_skip <| pwp_seq <| pwp_block <| pwp_seq <| kx [(10, (vi pz))] [] (zE (oXs el74 2) <| zE (oC1 sh3) <| zM <| zZ) ?_
  refine pwp_seq <| pwp_sim (wk (l := [(3, (.ref 1 0)), (4, (.ref 2 0)), (5, (.ref 3 0)), (7, (.d (.cptr 1000001 (Dat.cells y1) 0))), (10, (vi pz)), (33, (vl 3 1 enc_i64 [px, py, pz])), (34, (vin 3)), (35, (vin 2))]) (b := [(1, some (bx (encSpot (RSpot.mk px py pz)))), (2, some y3), (3, some y4)])) ?_
  refine kx [(44, (vb false))] [] (zM <| zE (oBk false oLt (by exact decide_eq_false (by omega))) <| zM <| zM <| zE (oBk false oGt (by exact decide_eq_false (by omega))) <| zE oPf <| zZ) ?_
  refine pwp_cond (b := false) (by kernel_rfl) (fun h => by cases h) (fun _ => ?_)
  refine pwp_skip <| kx [(35, (vin 3))] [] (zE (oAd 3 (hr := by decide)) <| zM <| zZ) ?_
  refine pwp_again (SimImp.refl _) ?_
  refine pwp_seq <| kx [(36, (vb false))] [] (zE (oBk false oLt) <| zZ) ?_
  refine pwp_seq <| pwp_cond (b := false) (by kernel_rfl) (fun h => by cases h) (fun _ => ?_)
  refine pwp_exit <| pwp_seq <| kx [(11, (.ref 4 0))] [(4, some (bx (encSpot (RSpot.mk lx ly lz))))] (zM <| zE oNd <| zE (oFc fo134_0) <| zE (oFc fo29_0) <| zE (oCa sh23) <| zN (oAl 4 ze23 zo23) <| zT (oSt sh23) <| zZ) ?_
  refine pwp_seq ?_
  have bn1 : QL r0 3 := (ql_eqz (Eq.symm hr0) (ql_int (z := (px - lx)) (n := 3) (lenZ_int (by omega) (by omega)) (by decide)))
  have bn2 : QL r1 3 := (ql_eqz (Eq.symm hr1) (ql_int (z := (py - ly)) (n := 3) (lenZ_int (by omega) (by omega)) (by decide)))
  have bn3 : QL r2 3 := (ql_eqz (Eq.symm hr2) (ql_int (z := (pz - lz)) (n := 3) (lenZ_int (by omega) (by omega)) (by decide)))
  refine kx [(12, (.ref 5 0)), (13, (.ref 6 0)), (14, (vb false))] [(5, some y3), (6, some y4)] (zM <| zE (oFr fo23_0) <| zR (oL1 sh3) <| zE (oFr fo23_0) <| zR (oL1 sh3) <| zE (zSb (px - lx) (hr := by exact (wAny rfl (by simp only [kLo]; omega) (by simp only [kHi]; omega)))) <| zE (oFr fo23_1) <| zR (oL1 sh3) <| zE (oFr fo23_1) <| zR (oL1 sh3) <| zE (zSb (py - ly) (hr := by exact (wAny rfl (by simp only [kLo]; omega) (by simp only [kHi]; omega)))) <| zE (oFr fo23_2) <| zR (oL1 sh3) <| zE (oFr fo23_2) <| zR (oL1 sh3) <| zE (zSb (pz - lz) (hr := by exact (wAny rfl (by simp only [kLo]; omega) (by simp only [kHi]; omega)))) <| zE (oCl (by have h := q_whole (px - lx) (by omega) (by omega) (py - ly) (by omega) (by omega) (pz - lz) (by omega) (by omega); rw [hr0, hr1, hr2] at h; exact h)) <| zE (oCl (q_cooN lx ly lz la lb lc ld lf lu lv rx ry rz ra rb rc rd rf ru rv b0 b1 b2 e00 e01 e02 e10 e11 e12 e20 e21 e22 hqb0 hqb1 hqb2 hqe00 hqe01 hqe02 hqe10 hqe11 hqe12 hqe20 hqe21 hqe22 r0 r1 r2 (ql_up bn1 (by decide)) (ql_up bn2 (by decide)) (ql_up bn3 (by decide)) hd)) <| zM <| zE oEx <| zE oEx <| zE oEx <| zN (oAl 5 ze56 zo56) <| zN (oAl 6 ze42 zo42) <| zT (oSt sh56) <| zT (oSt sh42) <| zM <| zZ) ?_
  refine pwp_seq <| pwp_seq <| kx [(76, (vb true))] [] (zM <| zE oNt <| zZ) ?_
  refine pwp_cond (b := true) (by kernel_rfl) (fun _ => ?_) (fun h => by cases h)
  refine pwp_seq <| kx [(6, (vin 20))] [(2, some y3), (3, some y4)] (zE (oBd pl56 ze56 zo56) <| zE (oBd pl42 ze42 zo42) <| zT (oSt sh56) <| zT (oSt sh42) <| zM <| zZ) ?_
  refine pwp_ret ⟨_, (res_a (cs := (bx (encPlace (RPlace.mk (RRat.mk (RInt.mk false []) (RInt.mk false [])) (RRat.mk (RInt.mk false []) (RInt.mk false [])))))) (d := (encPlace (RPlace.mk (RRat.mk (RInt.mk false []) (RInt.mk false [])) (RRat.mk (RInt.mk false []) (RInt.mk false []))))) rfl rfl sh56 rfl rfl (res_a (cs := (bx (encR (RRat.mk (RInt.mk false []) (RInt.mk false []))))) (d := (encR (RRat.mk (RInt.mk false []) (RInt.mk false [])))) rfl rfl sh42 rfl rfl (.tmp (d := (.val (.int .i64 (((20 : Nat) : Int))))) rfl .nil))), ?_⟩
  rfl
theorem q_prj (lx ly lz la lb lc ld lf lu lv rx ry rz ra rb rc rd rf ru rv : Int) (px py pz : Int) (hpx : -1048576 ≤ px ∧ px ≤ 1048576) (hpy : -1048576 ≤ py ∧ py ≤ 1048576) (hpz : -1048576 ≤ pz ∧ pz ≤ 1048576) (b0 b1 b2 e00 e01 e02 e10 e11 e12 e20 e21 e22 : Rat) (hF : RFr lx ly lz la lb lc ld rx ry rz ra rb rc rd b0 b1 b2 e00 e01 e02 e10 e11 e12 e20 e21 e22) (hqb0 : QL b0 3) (hqb1 : QL b1 3) (hqb2 : QL b2 3) (hqe00 : QL e00 400) (hqe01 : QL e01 400) (hqe02 : QL e02 400) (hqe10 : QL e10 400) (hqe11 : QL e11 400) (hqe12 : QL e12 400) (hqe20 : QL e20 400) (hqe21 : QL e21 400) (hqe22 : QL e22 400) (r0 : Rat) (hr0 : ((px - lx : Int) : Rat) = r0) (r1 : Rat) (hr1 : ((py - ly : Int) : Rat) = r1) (r2 : Rat) (hr2 : ((pz - lz : Int) : Rat) = r2) (hl : stnC lx ly lz lu lv lf la lb lc ld = 0) (hr : stnC rx ry rz ru rv rf ra rb rc rd = 0) (hup : upV la lb lc ld ra rb rc rd b0 b1 b2 = false) (hd : ¬ (signQ (dot3 e20 e21 e22 r0 r1 r2)) ≤ 0) : Takes Tryz.prog 29 [(encStereo (RStereo.mk (RStn.mk (RSpot.mk lx ly lz) (RQuat.mk la lb lc ld) lf (RPix.mk lu lv)) (RStn.mk (RSpot.mk rx ry rz) (RQuat.mk ra rb rc rd) rf (RPix.mk ru rv)))), (encSpot (RSpot.mk px py pz))] (.tup [(encPlace (RPlace.mk (ofQ ((dot3 e00 e01 e02 r0 r1 r2) / (dot3 e20 e21 e22 r0 r1 r2))) (ofQ ((dot3 e10 e11 e12 r0 r1 r2) / (dot3 e20 e21 e22 r0 r1 r2))))), (encR (ofQ ((dot3 e00 e01 e02 b0 b1 b2) / (dot3 e20 e21 e22 r0 r1 r2)))), (.val (.int .i64 (0)))]) := by
  have hbl := stnC_ok hl
  have hbr := stnC_ok hr
  obtain ⟨hlx, hly, hlz, hlu, hlv, hlf, hlq⟩ := hbl
  obtain ⟨hrx, hry, hrz, hru, hrv, hrf, hrq⟩ := hbr
  obtain ⟨hla, hlb, hlc, hld, -⟩ := rotC_ok hlq
  obtain ⟨hra, hrb, hrc, hrd, -⟩ := rotC_ok hrq
  have hnl := nq_b hla hlb hlc hld
  have hnr := nq_b hra hrb hrc hrd
  have hz0 := fr_z0 hF hup
  have hz1 := fr_z1 hF hup
  have hz2 := fr_z2 hF hup
  let y3 := (RRat.mk (RInt.mk false []) (RInt.mk false []))
  let y2 := (encStereo (RStereo.mk (RStn.mk (RSpot.mk lx ly lz) (RQuat.mk la lb lc ld) lf (RPix.mk lu lv)) (RStn.mk (RSpot.mk rx ry rz) (RQuat.mk ra rb rc rd) rf (RPix.mk ru rv))))
  let y1 := (encRp (RRp.mk (RStn.mk (RSpot.mk lx ly lz) (RQuat.mk la lb lc ld) lf (RPix.mk lu lv)) (RStn.mk (RSpot.mk rx ry rz) (RQuat.mk ra rb rc rd) rf (RPix.mk ru rv)) (A3.mk (ofQ b0) (ofQ b1) (ofQ b2)) (A3.mk (A3.mk (ofQ e00) (ofQ e01) (ofQ e02)) (A3.mk (ofQ e10) (ofQ e11) (ofQ e12)) (A3.mk (ofQ e20) (ofQ e21) (ofQ e22)))))
  refine fn_intro Tryz.func29 rfl cb29 rfl ?_
  show PWp _ _ _ _ ⟨[(0, (.d y2)), (1, (.d (encSpot (RSpot.mk px py pz))))], []⟩
  refine pwp_seq <| kx [(2, (.ref 0 0)), (3, (.ref 1 0)), (4, (.ref 2 0)), (5, (.ref 3 0))] [(0, some (bx y2)), (1, some (bx (encSpot (RSpot.mk px py pz)))), (2, some (bx (encPlace (RPlace.mk y3 y3)))), (3, some (bx (encR y3)))] (zN (oBx 0) <| zN (oBx 1) <| zN (oAl 2 ze56 zo56) <| zN (oAl 3 ze42 zo42) <| zM <| zZ) ?_
  refine pwp_seq <| kx [(7, (.d (.cptr 1000001 (Dat.cells y1) 0))), (8, (vi 0))] [] (zR (oLa sh31) <| zE (oCl (q_rec lx ly lz la lb lc ld lf lu lv rx ry rz ra rb rc rd rf ru rv b0 b1 b2 e00 e01 e02 e10 e11 e12 e20 e21 e22 hF hqb0 hqb1 hqb2 hqe00 hqe01 hqe02 hqe10 hqe11 hqe12 hqe20 hqe21 hqe22 hl hr hup)) <| zM <| zE oEx <| zE oEx <| zM <| zM <| zZ) ?_
  refine pwp_seq <| pwp_seq <| kx [(23, (vb false))] [] (zM <| zE oNe <| zZ) ?_
  refine pwp_cond (b := false) (by kernel_rfl) (fun h => by cases h) (fun _ => ?_)
  refine pwp_skip <| pwp_seq <| pwp_seq <| kx [(33, (vl 3 1 enc_i64 [px, py, pz])), (34, (vin 3)), (35, (vin 0))] [] (zE (oFr fo23_0) <| zR (oL1 sh3) <| zE (oFr fo23_1) <| zR (oL1 sh3) <| zE (oFr fo23_2) <| zR (oL1 sh3) <| zE (oBs el74 ze3 zo3) <| zE (oLn el74 3) <| zM <| zZ) ?_
  refine pwp_block <| pwp_rounds 20 ?_
  refine pwp_round <| pwp_seq <| kx [(36, (vb true))] [] (zE (oBk true oLt) <| zZ) ?_
  refine pwp_seq <| pwp_cond (b := true) (by kernel_rfl) (fun _ => ?_) (fun h => by cases h)
  refine pwp_skip <| pwp_seq <| pwp_block <| pwp_seq <| kx [(10, (vi px))] [] (zE (oXs el74 0) <| zE (oC1 sh3) <| zM <| zZ) ?_
  refine pwp_seq <| kx [(44, (vb false))] [] (zM <| zE (oBk false oLt (by exact decide_eq_false (by omega))) <| zM <| zM <| zE (oBk false oGt (by exact decide_eq_false (by omega))) <| zE oPf <| zZ) ?_
  refine pwp_cond (b := false) (by kernel_rfl) (fun h => by cases h) (fun _ => ?_)
  refine pwp_skip <| kx [(35, (vin 1))] [] (zE (oAd 1 (hr := by decide)) <| zM <| zZ) ?_
  refine pwp_again (SimImp.refl _) ?_
  refine pwp_seq <| kx [(36, (vb true))] [] (zE (oBk true oLt) <| zZ) ?_
  refine pwp_seq <| pwp_cond (b := true) (by kernel_rfl) (fun _ => ?_) (fun h => by cases h)
  refine pwp_skip <| pwp_seq <| pwp_block <| pwp_seq <| kx [(10, (vi py))] [] (zE (oXs el74 1) <| zE (oC1 sh3) <| zM <| zZ) ?_
  refine pwp_seq <| kx [(44, (vb false))] [] (zM <| zE (oBk false oLt (by exact decide_eq_false (by omega))) <| zM <| zM <| zE (oBk false oGt (by exact decide_eq_false (by omega))) <| zE oPf <| zZ) ?_
  refine pwp_cond (b := false) (by kernel_rfl) (fun h => by cases h) (fun _ => ?_)
  refine pwp_skip <| kx [(35, (vin 2))] [] (zE (oAd 2 (hr := by decide)) <| zM <| zZ) ?_
  refine pwp_again (SimImp.refl _) ?_
  refine pwp_seq <| kx [(36, (vb true))] [] (zE (oBk true oLt) <| zZ) ?_
  refine pwp_seq <| pwp_cond (b := true) (by kernel_rfl) (fun _ => ?_) (fun h => by cases h)
  refine pwp_skip <| pwp_seq <| pwp_block <| pwp_seq <| kx [(10, (vi pz))] [] (zE (oXs el74 2) <| zE (oC1 sh3) <| zM <| zZ) ?_
  refine pwp_seq <| pwp_sim (wk (l := [(3, (.ref 1 0)), (4, (.ref 2 0)), (5, (.ref 3 0)), (7, (.d (.cptr 1000001 (Dat.cells y1) 0))), (10, (vi pz)), (33, (vl 3 1 enc_i64 [px, py, pz])), (34, (vin 3)), (35, (vin 2))]) (b := [(1, some (bx (encSpot (RSpot.mk px py pz)))), (2, some (bx (encPlace (RPlace.mk y3 y3)))), (3, some (bx (encR y3)))])) ?_
  refine kx [(44, (vb false))] [] (zM <| zE (oBk false oLt (by exact decide_eq_false (by omega))) <| zM <| zM <| zE (oBk false oGt (by exact decide_eq_false (by omega))) <| zE oPf <| zZ) ?_
  refine pwp_cond (b := false) (by kernel_rfl) (fun h => by cases h) (fun _ => ?_)
  refine pwp_skip <| kx [(35, (vin 3))] [] (zE (oAd 3 (hr := by decide)) <| zM <| zZ) ?_
  refine pwp_again (SimImp.refl _) ?_
  refine pwp_seq <| kx [(36, (vb false))] [] (zE (oBk false oLt) <| zZ) ?_
  refine pwp_seq <| pwp_cond (b := false) (by kernel_rfl) (fun h => by cases h) (fun _ => ?_)
  refine pwp_exit <| pwp_seq <| kx [(11, (.ref 4 0))] [(4, some (bx (encSpot (RSpot.mk lx ly lz))))] (zM <| zE oNd <| zE (oFc fo134_0) <| zE (oFc fo29_0) <| zE (oCa sh23) <| zN (oAl 4 ze23 zo23) <| zT (oSt sh23) <| zZ) ?_
  refine pwp_seq ?_
  have bn1 : QL r0 3 := (ql_eqz (Eq.symm hr0) (ql_int (z := (px - lx)) (n := 3) (lenZ_int (by omega) (by omega)) (by decide)))
  have bn2 : QL r1 3 := (ql_eqz (Eq.symm hr1) (ql_int (z := (py - ly)) (n := 3) (lenZ_int (by omega) (by omega)) (by decide)))
  have bn3 : QL r2 3 := (ql_eqz (Eq.symm hr2) (ql_int (z := (pz - lz)) (n := 3) (lenZ_int (by omega) (by omega)) (by decide)))
  have bn4 : QL ((dot3 e00 e01 e02 r0 r1 r2) / (dot3 e20 e21 e22 r0 r1 r2)) 4804 := (ql_div (k := 4804) (ql_dot3 (n := 400) (k := 2402) hqe00 hqe01 hqe02 (ql_up bn1 (by decide)) (ql_up bn2 (by decide)) (ql_up bn3 (by decide)) (by decide)) (ql_dot3 (n := 400) (k := 2402) hqe20 hqe21 hqe22 (ql_up bn1 (by decide)) (ql_up bn2 (by decide)) (ql_up bn3 (by decide)) (by decide)) (by decide))
  have bn5 : QL ((dot3 e10 e11 e12 r0 r1 r2) / (dot3 e20 e21 e22 r0 r1 r2)) 4804 := (ql_div (k := 4804) (ql_dot3 (n := 400) (k := 2402) hqe10 hqe11 hqe12 (ql_up bn1 (by decide)) (ql_up bn2 (by decide)) (ql_up bn3 (by decide)) (by decide)) (ql_dot3 (n := 400) (k := 2402) hqe20 hqe21 hqe22 (ql_up bn1 (by decide)) (ql_up bn2 (by decide)) (ql_up bn3 (by decide)) (by decide)) (by decide))
  have bn6 : QL (dot3 e20 e21 e22 r0 r1 r2) 2402 := (ql_dot3 (n := 400) (k := 2402) hqe20 hqe21 hqe22 (ql_up bn1 (by decide)) (ql_up bn2 (by decide)) (ql_up bn3 (by decide)) (by decide))
  refine kx [(12, (.ref 5 0)), (13, (.ref 6 0)), (14, (vb true))] [(5, some (bx (encPlace (RPlace.mk (ofQ ((dot3 e00 e01 e02 r0 r1 r2) / (dot3 e20 e21 e22 r0 r1 r2))) (ofQ ((dot3 e10 e11 e12 r0 r1 r2) / (dot3 e20 e21 e22 r0 r1 r2))))))), (6, some (bx (encR (ofQ (dot3 e20 e21 e22 r0 r1 r2)))))] (zM <| zE (oFr fo23_0) <| zR (oL1 sh3) <| zE (oFr fo23_0) <| zR (oL1 sh3) <| zE (zSb (px - lx) (hr := by exact (wAny rfl (by simp only [kLo]; omega) (by simp only [kHi]; omega)))) <| zE (oFr fo23_1) <| zR (oL1 sh3) <| zE (oFr fo23_1) <| zR (oL1 sh3) <| zE (zSb (py - ly) (hr := by exact (wAny rfl (by simp only [kLo]; omega) (by simp only [kHi]; omega)))) <| zE (oFr fo23_2) <| zR (oL1 sh3) <| zE (oFr fo23_2) <| zR (oL1 sh3) <| zE (zSb (pz - lz) (hr := by exact (wAny rfl (by simp only [kLo]; omega) (by simp only [kHi]; omega)))) <| zE (oCl (by have h := q_whole (px - lx) (by omega) (by omega) (py - ly) (by omega) (by omega) (pz - lz) (by omega) (by omega); rw [hr0, hr1, hr2] at h; exact h)) <| zE (oCl (q_coo lx ly lz la lb lc ld lf lu lv rx ry rz ra rb rc rd rf ru rv b0 b1 b2 e00 e01 e02 e10 e11 e12 e20 e21 e22 hqb0 hqb1 hqb2 hqe00 hqe01 hqe02 hqe10 hqe11 hqe12 hqe20 hqe21 hqe22 r0 r1 r2 (ql_up bn1 (by decide)) (ql_up bn2 (by decide)) (ql_up bn3 (by decide)) hd)) <| zM <| zE oEx <| zE oEx <| zE oEx <| zN (oAl 5 ze56 zo56) <| zN (oAl 6 ze42 zo42) <| zT (oSt sh56) <| zT (oSt sh42) <| zM <| zZ) ?_
  refine pwp_seq <| pwp_seq <| kx [(76, (vb false))] [] (zM <| zE oNt <| zZ) ?_
  refine pwp_cond (b := false) (by kernel_rfl) (fun h => by cases h) (fun _ => ?_)
  refine pwp_skip <| pwp_seq ?_
  have bn7 : QL (dot3 e00 e01 e02 b0 b1 b2) 2402 := (ql_dot3 (n := 400) (k := 2402) hqe00 hqe01 hqe02 (ql_up hqb0 (by decide)) (ql_up hqb1 (by decide)) (ql_up hqb2 (by decide)) (by decide))
  refine kd [(15, (.ref 7 0))] [(7, some (bx (encR (ofQ ((dot3 e00 e01 e02 b0 b1 b2) / (dot3 e20 e21 e22 r0 r1 r2))))))] mo (wM <| wE oNd <| wE (oFc fo134_3) <| wE (oXc ar131 0) <| wE (oCa sh129) <| wM <| wE oNd <| wE (oFc fo134_2) <| wE (oCa sh129) <| wE (oCl (q_dot e00 e01 e02 (ql_up hqe00 (by decide)) (ql_up hqe01 (by decide)) (ql_up hqe02 (by decide)) b0 b1 b2 (ql_up hqb0 (by decide)) (ql_up hqb1 (by decide)) (ql_up hqb2 (by decide)))) <| wR (oLa sh42) <| wE (oCl (by have h := f_divide (ofQ (dot3 e00 e01 e02 b0 b1 b2)) (ofQ (dot3 e20 e21 e22 r0 r1 r2)) (dot3 e00 e01 e02 b0 b1 b2) (dot3 e20 e21 e22 r0 r1 r2) (qok_up (qok_of bn7) (by decide)) (qok_up (qok_of bn6) (by decide)); rw [divR_ne (sgn_ne hd), divC_ne (sgn_ne hd)] at h; exact h)) <| wM <| wE oEx <| wE oEx <| wN (oAl 7 ze42 zo42) <| wT (oSt sh42) <| wM <| wZ) ?_
  refine pwp_seq <| kd [(6, (vin 0))] [(2, some (bx (encPlace (RPlace.mk (ofQ ((dot3 e00 e01 e02 r0 r1 r2) / (dot3 e20 e21 e22 r0 r1 r2))) (ofQ ((dot3 e10 e11 e12 r0 r1 r2) / (dot3 e20 e21 e22 r0 r1 r2))))))), (3, some (bx (encR (ofQ ((dot3 e00 e01 e02 b0 b1 b2) / (dot3 e20 e21 e22 r0 r1 r2))))))] mo (wR (oLa sh56) <| wR (oLa sh42) <| wT (oSt sh56) <| wT (oSt sh42) <| wM <| wZ) ?_
  refine pwp_ret ⟨_, (res_a (cs := (bx (encPlace (RPlace.mk (ofQ ((dot3 e00 e01 e02 r0 r1 r2) / (dot3 e20 e21 e22 r0 r1 r2))) (ofQ ((dot3 e10 e11 e12 r0 r1 r2) / (dot3 e20 e21 e22 r0 r1 r2))))))) (d := (encPlace (RPlace.mk (ofQ ((dot3 e00 e01 e02 r0 r1 r2) / (dot3 e20 e21 e22 r0 r1 r2))) (ofQ ((dot3 e10 e11 e12 r0 r1 r2) / (dot3 e20 e21 e22 r0 r1 r2)))))) rfl rfl sh56 rfl rfl (res_a (cs := (bx (encR (ofQ ((dot3 e00 e01 e02 b0 b1 b2) / (dot3 e20 e21 e22 r0 r1 r2)))))) (d := (encR (ofQ ((dot3 e00 e01 e02 b0 b1 b2) / (dot3 e20 e21 e22 r0 r1 r2))))) rfl rfl sh42 rfl rfl (.tmp (d := (.val (.int .i64 (((0 : Nat) : Int))))) rfl .nil))), ?_⟩
  rfl
theorem q_pt (lx ly lz la lb lc ld lf lu lv rx ry rz ra rb rc rd rf ru rv : Int) (x y : Rat) (hx : QL x 5000) (hy : QL y 5000) (dl : Rat) (hdl : QL dl 10000) (b0 b1 b2 e00 e01 e02 e10 e11 e12 e20 e21 e22 : Rat) (hF : RFr lx ly lz la lb lc ld rx ry rz ra rb rc rd b0 b1 b2 e00 e01 e02 e10 e11 e12 e20 e21 e22) (hqb0 : QL b0 3) (hqb1 : QL b1 3) (hqb2 : QL b2 3) (hqe00 : QL e00 400) (hqe01 : QL e01 400) (hqe02 : QL e02 400) (hqe10 : QL e10 400) (hqe11 : QL e11 400) (hqe12 : QL e12 400) (hqe20 : QL e20 400) (hqe21 : QL e21 400) (hqe22 : QL e22 400) (d0 : Rat) (hd0 : (((e00 * (x / (dot3 e00 e01 e02 e00 e01 e02))) + (e10 * (y / (dot3 e10 e11 e12 e10 e11 e12)))) + (e20 * (((1 : Int) : Rat) / (dot3 e20 e21 e22 e20 e21 e22)))) = d0) (d1 : Rat) (hd1 : (((e01 * (x / (dot3 e00 e01 e02 e00 e01 e02))) + (e11 * (y / (dot3 e10 e11 e12 e10 e11 e12)))) + (e21 * (((1 : Int) : Rat) / (dot3 e20 e21 e22 e20 e21 e22)))) = d1) (d2 : Rat) (hd2 : (((e02 * (x / (dot3 e00 e01 e02 e00 e01 e02))) + (e12 * (y / (dot3 e10 e11 e12 e10 e11 e12)))) + (e22 * (((1 : Int) : Rat) / (dot3 e20 e21 e22 e20 e21 e22)))) = d2) (hl : stnC lx ly lz lu lv lf la lb lc ld = 0) (hr : stnC rx ry rz ru rv rf ra rb rc rd = 0) (hup : upV la lb lc ld ra rb rc rd b0 b1 b2 = false) (hs : ¬ (signQ dl) ≤ 0) : Takes Tryz.prog 37 [(encStereo (RStereo.mk (RStn.mk (RSpot.mk lx ly lz) (RQuat.mk la lb lc ld) lf (RPix.mk lu lv)) (RStn.mk (RSpot.mk rx ry rz) (RQuat.mk ra rb rc rd) rf (RPix.mk ru rv)))), (encPlace (RPlace.mk (ofQ x) (ofQ y))), (encR (ofQ dl))] (.tup [(encA43 (A3.mk (ofQ (((lx : Int) : Rat) + (d0 * ((dot3 e00 e01 e02 b0 b1 b2) / dl)))) (ofQ (((ly : Int) : Rat) + (d1 * ((dot3 e00 e01 e02 b0 b1 b2) / dl)))) (ofQ (((lz : Int) : Rat) + (d2 * ((dot3 e00 e01 e02 b0 b1 b2) / dl)))))), (.val (.int .i64 (0)))]) := by
  have hbl := stnC_ok hl
  have hbr := stnC_ok hr
  obtain ⟨hlx, hly, hlz, hlu, hlv, hlf, hlq⟩ := hbl
  obtain ⟨hrx, hry, hrz, hru, hrv, hrf, hrq⟩ := hbr
  obtain ⟨hla, hlb, hlc, hld, -⟩ := rotC_ok hlq
  obtain ⟨hra, hrb, hrc, hrd, -⟩ := rotC_ok hrq
  have hnl := nq_b hla hlb hlc hld
  have hnr := nq_b hra hrb hrc hrd
  have hz0 := fr_z0 hF hup
  have hz1 := fr_z1 hF hup
  have hz2 := fr_z2 hF hup
  let y1 := (encStereo (RStereo.mk (RStn.mk (RSpot.mk lx ly lz) (RQuat.mk la lb lc ld) lf (RPix.mk lu lv)) (RStn.mk (RSpot.mk rx ry rz) (RQuat.mk ra rb rc rd) rf (RPix.mk ru rv))))
  refine fn_intro Tryz.func37 rfl cb37 rfl ?_
  show PWp _ _ _ _ ⟨[(0, (.d y1)), (1, (.d (encPlace (RPlace.mk (ofQ x) (ofQ y))))), (2, (.d (encR (ofQ dl))))], []⟩
  refine pwp_seq <| kx [(3, (.ref 0 0)), (4, (.ref 1 0)), (5, (.ref 2 0)), (6, (.ref 3 0))] [(0, some (bx y1)), (1, some (bx (encPlace (RPlace.mk (ofQ x) (ofQ y))))), (2, some (bx (encR (ofQ dl)))), (3, some (bx (encA43 (A3.mk (RRat.mk (RInt.mk false []) (RInt.mk false [])) (RRat.mk (RInt.mk false []) (RInt.mk false [])) (RRat.mk (RInt.mk false []) (RInt.mk false []))))))] (zN (oBx 0) <| zN (oBx 1) <| zN (oBx 2) <| zN (oAl 3 ze43 zo43) <| zM <| zZ) ?_
  refine pwp_seq <| kx [(8, (.d (.cptr 1000001 (Dat.cells (encRp (RRp.mk (RStn.mk (RSpot.mk lx ly lz) (RQuat.mk la lb lc ld) lf (RPix.mk lu lv)) (RStn.mk (RSpot.mk rx ry rz) (RQuat.mk ra rb rc rd) rf (RPix.mk ru rv)) (A3.mk (ofQ b0) (ofQ b1) (ofQ b2)) (A3.mk (A3.mk (ofQ e00) (ofQ e01) (ofQ e02)) (A3.mk (ofQ e10) (ofQ e11) (ofQ e12)) (A3.mk (ofQ e20) (ofQ e21) (ofQ e22)))))) 0))), (9, (vi 0))] [] (zR (oLa sh31) <| zE (oCl (q_rec lx ly lz la lb lc ld lf lu lv rx ry rz ra rb rc rd rf ru rv b0 b1 b2 e00 e01 e02 e10 e11 e12 e20 e21 e22 hF hqb0 hqb1 hqb2 hqe00 hqe01 hqe02 hqe10 hqe11 hqe12 hqe20 hqe21 hqe22 hl hr hup)) <| zM <| zE oEx <| zE oEx <| zM <| zM <| zZ) ?_
  refine pwp_seq <| pwp_seq <| kx [(19, (vb false))] [] (zM <| zE oNe <| zZ) ?_
  refine pwp_cond (b := false) (by kernel_rfl) (fun h => by cases h) (fun _ => ?_)
  refine pwp_skip <| pwp_seq <| pwp_seq <| kx [(29, (vb false))] [] (zR (oLa sh56) <| zE (oCl (q_canT x y (ql_up hx (by decide)) (ql_up hy (by decide)))) <| zE oNt <| zM <| zR (oLa sh42) <| zE (oBk true (oCl (f_valid (ofQ dl) dl (qok_up (qok_of hdl) (by decide)))) (by exact (validR_ofQ dl))) <| zE oNt <| zE oPf <| zZ) ?_
  refine pwp_cond (b := false) (by kernel_rfl) (fun h => by cases h) (fun _ => ?_)
  refine pwp_skip <| pwp_seq <| pwp_seq <| kx [(33, (vb false))] [] (zR (oLa sh42) <| zE (oCl (f_sign (ofQ dl) dl (qok_up (qok_of hdl) (by decide)))) <| zE (oBk false oLe (by exact decide_eq_false hs)) <| zZ) ?_
  refine pwp_cond (b := false) (by kernel_rfl) (fun h => by cases h) (fun _ => ?_)
  refine pwp_skip <| pwp_seq ?_
  have bn1 : QL (dot3 e00 e01 e02 b0 b1 b2) 2402 := (ql_dot3 (n := 400) (k := 2402) hqe00 hqe01 hqe02 (ql_up hqb0 (by decide)) (ql_up hqb1 (by decide)) (ql_up hqb2 (by decide)) (by decide))
  refine kd [(10, (.ref 4 0))] [(4, some (bx (encR (ofQ ((dot3 e00 e01 e02 b0 b1 b2) / dl)))))] mo (wM <| wE oNd <| wE (oFc fo134_3) <| wE (oXc ar131 0) <| wE (oCa sh129) <| wM <| wE oNd <| wE (oFc fo134_2) <| wE (oCa sh129) <| wE (oCl (q_dot e00 e01 e02 (ql_up hqe00 (by decide)) (ql_up hqe01 (by decide)) (ql_up hqe02 (by decide)) b0 b1 b2 (ql_up hqb0 (by decide)) (ql_up hqb1 (by decide)) (ql_up hqb2 (by decide)))) <| wR (oLa sh42) <| wE (oCl (by have h := f_divide (ofQ (dot3 e00 e01 e02 b0 b1 b2)) (ofQ dl) (dot3 e00 e01 e02 b0 b1 b2) dl (qok_up (qok_of bn1) (by decide)) (qok_up (qok_of hdl) (by decide)); rw [divR_ne (sgn_ne hs), divC_ne (sgn_ne hs)] at h; exact h)) <| wM <| wE oEx <| wE oEx <| wN (oAl 4 ze42 zo42) <| wT (oSt sh42) <| wM <| wZ) ?_
  refine pwp_seq <| kx [(12, (.ref 5 0))] [(5, some (bx (encSpot (RSpot.mk lx ly lz))))] (zM <| zE oNd <| zE (oFc fo134_0) <| zE (oFc fo29_0) <| zE (oCa sh23) <| zN (oAl 5 ze23 zo23) <| zT (oSt sh23) <| zZ) ?_
  refine pwp_seq ?_
  have bn2 : QL ((lx : Int) : Rat) 3 := (ql_int (z := lx) (n := 3) (lenZ_int (by omega) (by omega)) (by decide))
  have bn3 : QL ((ly : Int) : Rat) 3 := (ql_int (z := ly) (n := 3) (lenZ_int (by omega) (by omega)) (by decide))
  have bn4 : QL ((lz : Int) : Rat) 3 := (ql_int (z := lz) (n := 3) (lenZ_int (by omega) (by omega)) (by decide))
  have bn5 : QL d0 18411 := (ql_eqz (Eq.symm hd0) (ql_add (k := 18411) (ql_add (k := 15605) (ql_mul (k := 7802) hqe00 (ql_div (k := 7402) hx (ql_dot3 (n := 400) (k := 2402) hqe00 hqe01 hqe02 hqe00 hqe01 hqe02 (by decide)) (by decide)) (by decide)) (ql_mul (k := 7802) hqe10 (ql_div (k := 7402) hy (ql_dot3 (n := 400) (k := 2402) hqe10 hqe11 hqe12 hqe10 hqe11 hqe12 (by decide)) (by decide)) (by decide)) (by decide)) (ql_mul (k := 2805) hqe20 (ql_div (k := 2405) (ql_int (z := 1) (n := 3) (lenZ_int (by decide) (by decide)) (by decide)) (ql_dot3 (n := 400) (k := 2402) hqe20 hqe21 hqe22 hqe20 hqe21 hqe22 (by decide)) (by decide)) (by decide)) (by decide)))
  have bn6 : QL d1 18411 := (ql_eqz (Eq.symm hd1) (ql_add (k := 18411) (ql_add (k := 15605) (ql_mul (k := 7802) hqe01 (ql_div (k := 7402) hx (ql_dot3 (n := 400) (k := 2402) hqe00 hqe01 hqe02 hqe00 hqe01 hqe02 (by decide)) (by decide)) (by decide)) (ql_mul (k := 7802) hqe11 (ql_div (k := 7402) hy (ql_dot3 (n := 400) (k := 2402) hqe10 hqe11 hqe12 hqe10 hqe11 hqe12 (by decide)) (by decide)) (by decide)) (by decide)) (ql_mul (k := 2805) hqe21 (ql_div (k := 2405) (ql_int (z := 1) (n := 3) (lenZ_int (by decide) (by decide)) (by decide)) (ql_dot3 (n := 400) (k := 2402) hqe20 hqe21 hqe22 hqe20 hqe21 hqe22 (by decide)) (by decide)) (by decide)) (by decide)))
  have bn7 : QL d2 18411 := (ql_eqz (Eq.symm hd2) (ql_add (k := 18411) (ql_add (k := 15605) (ql_mul (k := 7802) hqe02 (ql_div (k := 7402) hx (ql_dot3 (n := 400) (k := 2402) hqe00 hqe01 hqe02 hqe00 hqe01 hqe02 (by decide)) (by decide)) (by decide)) (ql_mul (k := 7802) hqe12 (ql_div (k := 7402) hy (ql_dot3 (n := 400) (k := 2402) hqe10 hqe11 hqe12 hqe10 hqe11 hqe12 (by decide)) (by decide)) (by decide)) (by decide)) (ql_mul (k := 2805) hqe22 (ql_div (k := 2405) (ql_int (z := 1) (n := 3) (lenZ_int (by decide) (by decide)) (by decide)) (ql_dot3 (n := 400) (k := 2402) hqe20 hqe21 hqe22 hqe20 hqe21 hqe22 (by decide)) (by decide)) (by decide)) (by decide)))
  have bn8 : QL (d0 * ((dot3 e00 e01 e02 b0 b1 b2) / dl)) 30813 := (ql_mul (k := 30813) bn5 (ql_div (k := 12402) bn1 hdl (by decide)) (by decide))
  have bn9 : QL (d1 * ((dot3 e00 e01 e02 b0 b1 b2) / dl)) 30813 := (ql_mul (k := 30813) bn6 (ql_div (k := 12402) bn1 hdl (by decide)) (by decide))
  have bn10 : QL (d2 * ((dot3 e00 e01 e02 b0 b1 b2) / dl)) 30813 := (ql_mul (k := 30813) bn7 (ql_div (k := 12402) bn1 hdl (by decide)) (by decide))
  refine kd [(7, (vin 0))] [(3, some (bx (encA43 (A3.mk (ofQ (((lx : Int) : Rat) + (d0 * ((dot3 e00 e01 e02 b0 b1 b2) / dl)))) (ofQ (((ly : Int) : Rat) + (d1 * ((dot3 e00 e01 e02 b0 b1 b2) / dl)))) (ofQ (((lz : Int) : Rat) + (d2 * ((dot3 e00 e01 e02 b0 b1 b2) / dl))))))))] mo (wE (oFr fo23_0) <| wR (oL1 sh3) <| wE (oFr fo23_1) <| wR (oL1 sh3) <| wE (oFr fo23_2) <| wR (oL1 sh3) <| wE (oCl (q_whole lx (by omega) (by omega) ly (by omega) (by omega) lz (by omega) (by omega))) <| wM <| wR (oLa sh56) <| wE (oCl (by have h := q_dir lx ly lz la lb lc ld lf lu lv rx ry rz ra rb rc rd rf ru rv b0 b1 b2 e00 e01 e02 e10 e11 e12 e20 e21 e22 hqb0 hqb1 hqb2 hqe00 hqe01 hqe02 hqe10 hqe11 hqe12 hqe20 hqe21 hqe22 x y (ql_up hx (by decide)) (ql_up hy (by decide)) hz0 hz1 hz2; rw [hd0, hd1, hd2] at h; exact h)) <| wR (oLa sh42) <| wE (oCl (q_scaled d0 d1 d2 (ql_up bn5 (by decide)) (ql_up bn6 (by decide)) (ql_up bn7 (by decide)) ((dot3 e00 e01 e02 b0 b1 b2) / dl) (ql_up (ql_div (k := 12402) bn1 hdl (by decide)) (by decide)))) <| wE (oCl (q_sum ((lx : Int) : Rat) ((ly : Int) : Rat) ((lz : Int) : Rat) (ql_up bn2 (by decide)) (ql_up bn3 (by decide)) (ql_up bn4 (by decide)) (d0 * ((dot3 e00 e01 e02 b0 b1 b2) / dl)) (d1 * ((dot3 e00 e01 e02 b0 b1 b2) / dl)) (d2 * ((dot3 e00 e01 e02 b0 b1 b2) / dl)) (ql_up bn8 (by decide)) (ql_up bn9 (by decide)) (ql_up bn10 (by decide)))) <| wT (oSt sh43) <| wM <| wZ) ?_
  refine pwp_ret ⟨_, (res_a (cs := (bx (encA43 (A3.mk (ofQ (((lx : Int) : Rat) + (d0 * ((dot3 e00 e01 e02 b0 b1 b2) / dl)))) (ofQ (((ly : Int) : Rat) + (d1 * ((dot3 e00 e01 e02 b0 b1 b2) / dl)))) (ofQ (((lz : Int) : Rat) + (d2 * ((dot3 e00 e01 e02 b0 b1 b2) / dl)))))))) (d := (encA43 (A3.mk (ofQ (((lx : Int) : Rat) + (d0 * ((dot3 e00 e01 e02 b0 b1 b2) / dl)))) (ofQ (((ly : Int) : Rat) + (d1 * ((dot3 e00 e01 e02 b0 b1 b2) / dl)))) (ofQ (((lz : Int) : Rat) + (d2 * ((dot3 e00 e01 e02 b0 b1 b2) / dl))))))) rfl rfl sh43 rfl rfl (.tmp (d := (.val (.int .i64 (((0 : Nat) : Int))))) rfl .nil)), ?_⟩
  rfl
end Go.Proofs.YtbecgnplakngdaaGreat
